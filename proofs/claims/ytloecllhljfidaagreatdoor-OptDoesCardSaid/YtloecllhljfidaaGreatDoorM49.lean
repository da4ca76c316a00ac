/- Parts. -/
import Derived.Test.YtloecllhljfidaaGreatDoorM14
set_option maxHeartbeats 4000000
namespace Go.Proofs.YtloecllhljfidaaGreatDoor.Hx
variable{Q:fq}{h:Hp}{a0 a1 a2:V}
set_option maxRecDepth 100000
noncomputable section
def t20:List (Nat×List Nat):=[(79,[2,3])]
def G4(Q:fq):LP:=JV CS Tryz.f20 t20 39 [2,3] [] Q
def Hj(Q:fq)(fy:LP)(f b:V)(h:Hp):Prop:=cP CS uI [b] h λg a=>bP g (oP (gP b) λi=>oP (fI 0 i) λj=>oP (fO 5 j a) λk=>dN 5 b a λl=>cP CS rP [k,l] a λm n=>(a.next<=n.next/\oP (gP b) λo=>oP (fI 0 o) λp=>fj (gq 5 p m n) λB y=>(n.next<=y.next/\fy [f,b] y))) (oP (gP b) λq=>oP (fI 0 q) λc=>oP (fO 5 c a) λd=>oP (gP b) λr=>oP (fI 0 r) λs=>oP (fO 5 s a) λt=>cP CS yH [t] a λu e=>(a.next<=e.next/\((fO 5 c e=some d)/\cP CS rP [d,u] e λv w=>(e.next<=w.next/\fj (gq 5 f v w) λz x=>(w.next<=x.next/\oP (fO 5 f x) λA=>Q A x)))))
theorem O3{Q}:LN 2 (Hj Q) (G4 Q):=JV.lm 2 _
theorem Tl(H:gS (mi 30 a0) h λb j=>gS (zC 30 [nZ,nZ,nS,nS,nS]) j λc g=>oP (fO 5 b g) λk=>cP CS zo [k] g λl a=>bN l (oP (fO 5 b a) λm=>cP CS pZ [m] a λn o=>fj (gq 5 c n o) λt i=>oP (fO 5 c i) λp=>Q p i) (oP (fO 5 b a) λq=>cP CS pZ [q] a λd r=>oP (fT [nZ,nZ,nS,nS,nS,nS] [(0,5),(5,1)] [(0,d)]) λe=>gS (mi 86 e) r λf s=>G4 Q [c,f] s)):cP CS zg [a0] h Q:=cP.ve t20 Tryz.func20 H
def t40:List (Nat×List Nat):=[(175,[0,3,14,15,16])]
def xU(Q:fq):LP:=JV CS Tryz.f40 t40 87 [0,3,14,15,16] [] Q
def xL(Q:fq)(fy:LP)(i j b c a:V)(h:Hp):Prop:=bO .lss 3 a c (dX 1 b a h λd=>gY CS (gi d [i]) h λe k=>oP (nY e (some j)) λf=>oP (ez .add 3 a nO) λg=>fy [i,f,b,c,g] k) (Q j h)
theorem Ew{Q}:LN 5 (xL Q) (xU Q):=JV.lm 5 _
theorem IC(H:oP (gP a0) λg=>oP (fI 0 g) λi=>oP (fO 5 i h) λb=>cP CS yH [b] h λc j=>oP (gP a0) λd=>oP (fI 5 d) λe=>fj (gq 1 e c j) λm k=>cP CS EL [] k λa l=>oP (fE a) λf=>xU Q [a0,bF,a,f,nZ] l):cP CS uI [a0] h Q:=cP.ve t40 Tryz.func40 H
theorem RL(H:gS (iS 121 1 4 V.nilFunc [(0,(V.func jT [] [])),(1,(V.func kZ [] [])),(2,(V.func jS [] [])),(3,(V.func kY [] []))]) h λa b=>Q a b):cP CS EL [] h Q:=cP.ve [] Tryz.func72 H
def t93:List (Nat×List Nat):=[(87,[0,3,20,21,22]),(22935,[0,3,20,21,22,34,35,36]),(498070,[0,3,20,21,22,34,35,36])]
def wH(Q:fq):LP:=JV CS Tryz.f93 t93 43 [0,3,20,21,22] [] Q
def wK(Q:fq)(fy:LP):LP:=JV CS Tryz.f93 t93 11467 [0,3,20,21,22,34,35,36] [kf [0,3,20,21,22] fy] Q
def jG(Q:fq)(fy:LP)(a:LP):LP:=JV CS Tryz.f93 t93 249035 [0,3,20,21,22,34,35,36] [kf [0,3,20,21,22] fy,kf [0,3,20,21,22,34,35,36] a] Q
def wk(Q:fq)(fy:LP)(j k b c a:V)(h:Hp):Prop:=bO .lss 3 a c (dX 1 b a h λe=>oP (gP j) λf=>oP (fI 0 f) λg=>dJ 3 g 6 e 0 h λd=>oP (fE d) λi=>wK Q fy [j,k,b,c,a,d,i,nZ] h) (Q k h)
theorem Dk{Q}:LN 5 (wk Q) (wH Q):=JV.lm 5 _
def wi(Q:fq)(fy:LP)(j:LP)(i v b c d e f a:V)(h:Hp):Prop:=bO .lss 3 a f (dX 1 e a h λk=>oP (gP i) λw=>oP (fI 0 w) λx=>dF 2 x h λy=>oP (gB 6 y k) λz=>oP (fO 6 z h) λA=>gS (zC 45 [nZ,nZ,nZ,nZ,nS,nZ]) h λl h1=>fj (gq 6 l A h1) λvu h2=>oP (fO 6 l h2) λB=>cP CS rF [B] h2 λg m=>dF 0 l m λC=>oP (ez .lss 3 C (V.I 3)) λD=>oP (nY D (oB (fI 0 l) λE=>oB (fe E m) λF=>ez .gtr 3 F (V.I 14))) λG=>oP (nY G (oB (some g) λH=>oB (fE H) λI=>ez .eql 3 I nZ)) λJ=>bP J (jG Q fy j [i,v,b,c,d,e,f,a] m) (dX 1 g nZ m λK=>cP CS kI [i,K] m λn h4=>oP (CA 0 n) λL=>oP (CA 1 n) λM=>oP (fE g) λN=>oP (ez .sub 3 N nO) λO=>dX 1 g O h4 λP=>cP CS kI [i,P] h4 λo h5=>oP (CA 0 o) λR=>oP (CA 1 o) λS=>dF 0 l h5 λT=>cP CS E8 [T,L,R] h5 λp U=>oP (CA 0 p) λW=>oP (CA 1 p) λX=>oP (jI X (some M)) λY=>oP (jI Y (some S)) λZ=>bP Z (oP (gP i) λaa=>oP (fI 0 aa) λab=>dF 2 ab U λq=>oP (pq .i64 W) λr=>oP (fT [nZ,nZ,nZ,nZ,nS,nZ] [(0,1),(1,1),(2,1),(3,1),(4,1),(5,1)] [(0,(V.I 2)),(3,r)]) λs=>oP (gB 6 q k) λt=>fj (gq 6 t s U) λac h7=>jG Q fy j [i,bT,b,c,d,e,f,a] h7) (jG Q fy j [i,v,b,c,d,e,f,a] U))) (oP (ez .add 3 d nO) λu=>fy [i,v,b,c,u] h)
theorem DT{Q fy}:LN 8 (wi Q fy) (wK Q fy):=JV.lm 8 _
def vE(Q:fq)(fy:LP)(b:LP)(j k c d e f g i:V)(h:Hp):Prop:=oP (ez .add 3 i nO) λa=>b [j,k,c,d,e,f,g,a] h
theorem CE{Q fy a}:RV 8 (vE Q fy a) (jG Q fy a):=JV.rn 8 _
theorem G3(H:oP (gP a0) λb=>oP (fI 0 b) λc=>oP (fO 5 c h) λd=>cP CS rV [d] h λa f=>oP (fE a) λe=>wH Q [a0,bF,a,e,nZ] f):cP CS jT [a0] h Q:=cP.ve t93 Tryz.func93 H
def t94:List (Nat×List Nat):=[(87,[0,3,14,15,16]),(1942,[0,3,14,15,16]),(178583,[0,3,4,6,7,14,15,16,25,26,27]),(30,[3]),(3979670,[0,3,4,6,7,14,15,16,25,26,27])]
def yj(Q:fq):LP:=JV CS Tryz.f94 t94 43 [0,3,14,15,16] [] Q
def mX(Q:fq)(fy:LP):LP:=JV CS Tryz.f94 t94 971 [0,3,14,15,16] [kf [0,3,14,15,16] fy] Q
def yu(Q:fq)(fy:LP):LP:=JV CS Tryz.f94 t94 89291 [0,3,4,6,7,14,15,16,25,26,27] [kf [0,3,14,15,16] fy] Q
def qy(Q:fq):LP:=JV CS Tryz.f94 t94 15 [3] [] Q
def mF(Q:fq)(fy:LP)(a:LP):LP:=JV CS Tryz.f94 t94 1989835 [0,3,4,6,7,14,15,16,25,26,27] [kf [0,3,14,15,16] fy,kf [0,3,4,6,7,14,15,16,25,26,27] a] Q
def yt(Q:fq)(fy:LP)(m f b c a:V)(h:Hp):Prop:=bO .lss 3 a c (oP (gB 6 b a) λg=>oP (fO 6 g h) λi=>gS (zC 45 [nZ,nZ,nZ,nZ,nS,nZ]) h λj n=>fj (gq 6 j i n) λo e=>dF 0 j e λk=>bO .neq 3 k (V.I 21) (mX Q fy [m,f,b,c,a] e) (dF 4 j e λd=>oP (fE d) λl=>yu Q fy [m,f,a,(V.I (-1)),bF,b,c,a,d,l,nZ] e)) (qy Q [f] h)
theorem Gm{Q}:LN 5 (yt Q) (yj Q):=JV.lm 5 _
def yk(Q:fq)(fy:LP)(e f a b c:V)(h:Hp):Prop:=oP (ez .add 3 c nO) λd=>fy [e,f,a,b,d] h
theorem Gy{Q fy}:RV 5 (yk Q fy) (mX Q fy):=JV.rn 5 _
def yy(Q:fq)(fy:LP)(i:LP)(k m l j n b c d e f a:V)(h:Hp):Prop:=bO .lss 3 a f (dX 1 e a h λg=>oP (ez .neq 3 g l) λo=>oP (jI o (oB (some g) λp=>oB (some j) λq=>ez .neq 3 p q)) λr=>bP r (oP (nY n (oB (some j) λs=>ez .geq 3 s nZ)) λt=>mF Q fy i [k,m,l,g,t,b,c,d,e,f,a] h) (mF Q fy i [k,m,l,j,n,b,c,d,e,f,a] h)) (oP (ez .geq 3 j nZ) λu=>oP (jI u (oB (some n) λv=>pK .not v)) λw=>bP w (dN 5 k h λx=>oP (gB 1 x l) λy=>fj (gq 1 y j h) λA z=>qy Q [bT] z) (mX Q fy [k,m,b,c,d] h))
theorem Gx{Q fy}:LN 11 (yy Q fy) (yu Q fy):=JV.lm 11 _
def qx(Q:fq)(a:V)(h:Hp):Prop:=Q a h
theorem ym{Q}:RV 1 (qx Q) (qy Q):=JV.rn 1 _
def xK(Q:fq)(fy:LP)(a:LP)(j k l m n b c d e f g:V)(h:Hp):Prop:=oP (ez .add 3 g nO) λi=>a [j,k,l,m,n,b,c,d,e,f,i] h
theorem Fi{Q fy a}:RV 11 (xK Q fy a) (mF Q fy a):=JV.rn 11 _
theorem JY(H:oP (gP a0) λb=>oP (fI 0 b) λc=>dF 2 c h λa=>oP (fE a) λd=>yj Q [a0,bF,a,d,nZ] h):cP CS kZ [a0] h Q:=cP.ve t94 Tryz.func94 H
def t95:List (Nat×List Nat):=[(87,[0,3,12,13,14]),(1942,[0,3,12,13,14])]
def xd(Q:fq):LP:=JV CS Tryz.f95 t95 43 [0,3,12,13,14] [] Q
def jX(Q:fq)(fy:LP):LP:=JV CS Tryz.f95 t95 971 [0,3,12,13,14] [kf [0,3,12,13,14] fy] Q
def wW(Q:fq)(fy:LP)(d g b c a:V)(h:Hp):Prop:=bO .lss 3 a c (oP (gB 6 b a) λi=>oP (fO 6 i h) λj=>gS (zC 45 [nZ,nZ,nZ,nZ,nS,nZ]) h λk v=>fj (gq 6 k j v) λx f=>dF 0 k f λl=>bO .neq 3 l (V.I 22) (jX Q fy [d,g,b,c,a] f) (dF 1 k f λm=>cP CS kI [d,m] f λe n=>oP (CA 0 e) λo=>oP (CA 1 e) λp=>oP (jI p (oB (some o) λq=>ez .neq 79 q (V.int .u64 0))) λr=>bP r (dN 5 d n λs=>oP (gB 1 s a) λt=>fj (gq 1 t (V.I (-1)) n) λu w=>jX Q fy [d,bT,b,c,a] w) (jX Q fy [d,g,b,c,a] n))) (Q g h)
theorem DI{Q}:LN 5 (wW Q) (xd Q):=JV.lm 5 _
def wZ(Q:fq)(fy:LP)(e f a b c:V)(h:Hp):Prop:=oP (ez .add 3 c nO) λd=>fy [e,f,a,b,d] h
theorem Ee{Q fy}:RV 5 (wZ Q fy) (jX Q fy):=JV.rn 5 _
theorem Hw(H:oP (gP a0) λd=>oP (fI 0 d) λb=>dF 2 b h λa=>oP (fE a) λc=>xd Q [a0,bF,a,c,nZ] h):cP CS jS [a0] h Q:=cP.ve t95 Tryz.func95 H
def t96:List (Nat×List Nat):=[(87,[0,3,13,14,15]),(1942,[0,3,13,14,15]),(260502,[0,4,8,13,14,15])]
def yB(Q:fq):LP:=JV CS Tryz.f96 t96 43 [0,3,13,14,15] [] Q
def kS(Q:fq)(fy:LP):LP:=JV CS Tryz.f96 t96 971 [0,3,13,14,15] [kf [0,3,13,14,15] fy] Q
def mG(Q:fq)(fy:LP):LP:=JV CS Tryz.f96 t96 130251 [0,4,8,13,14,15] [kf [0,3,13,14,15] fy] Q
def yw(Q:fq)(fy:LP)(d j b c a:V)(h:Hp):Prop:=bO .lss 3 a c (oP (gB 6 b a) λk=>oP (fO 6 k h) λl=>gS (zC 43 [nS,nZ,nZ,nS,nS,nZ]) h λe s=>fj (gq 6 e l s) λt i=>dF 1 e i λm=>bO .neq 3 m (V.I 2) (kS Q fy [d,j,b,c,a] i) (dF 2 e i λn=>cP CS kI [d,n] i λf g=>oP (CA 0 f) λo=>oP (CA 1 f) λp=>bN p (kS Q fy [d,j,b,c,a] g) (dY 3 e 1 nZ g λq=>bO .eql 79 o (V.int .u64 0) (dY 3 e 1 nO g λr=>mG Q fy [d,a,r,b,c,a] g) (mG Q fy [d,a,q,b,c,a] g)))) (Q j h)
theorem Gz{Q}:LN 5 (yw Q) (yB Q):=JV.lm 5 _
def yE(Q:fq)(fy:LP)(e f a b c:V)(h:Hp):Prop:=oP (ez .add 3 c nO) λd=>fy [e,f,a,b,d] h
theorem Gc{Q fy}:RV 5 (yE Q fy) (kS Q fy):=JV.rn 5 _
def xG(Q:fq)(fy:LP)(j m G n o p:V)(h:Hp):Prop:=oP (gP j) λq=>oP (fI 0 q) λr=>oP (fI 3 r) λc=>oP (fe c h) λd=>oP (gP j) λs=>oP (fI 0 s) λt=>oP (fI 3 t) λe=>oP (fe e h) λf=>oP (gP j) λu=>oP (fI 0 u) λv=>oP (fI 3 v) λg=>oP (fe g h) λi=>xB (iS 3 1 1 nZ [(0,G)]) h λa w b=>oP (gB 6 d m) λx=>oP (fI 1 x) λy=>((b.get (h.next)=some a/\O.beq a a=true)/\((fe g b=some i)/\((fe e b=some f)/\((fe c b=some d)/\fj (gq 1 y nO b) λH k=>(b.next<=k.next/\oP (gB 6 f m) λz=>oP (fI 2 z) λA=>((k.get (h.next)=some a/\O.beq a a=true)/\fj (gq 1 A nZ k) λD l=>(k.next<=l.next/\oP (gB 6 i m) λB=>oP (fI 3 B) λC=>((l.get (h.next)=some a/\O.beq a a=true)/\fj (gq 1 C w l) λE F=>(l.next<=F.next/\kS Q fy [j,bT,n,o,p] F)))))))))
theorem Fe{Q fy}:RV 6 (xG Q fy) (mG Q fy):=JV.rn 6 _
theorem JI(H:oP (gP a0) λb=>oP (fI 0 b) λc=>dF 3 c h λa=>oP (fE a) λd=>yB Q [a0,bF,a,d,nZ] h):cP CS kY [a0] h Q:=cP.ve t96 Tryz.func96 H
theorem IF(H:oP (gP a0) λk=>oP (fI 0 k) λl=>dF 2 l h λa=>oP (gB 6 a a1) λb=>oP (fO 6 b h) λc=>gS (zC 45 [nZ,nZ,nZ,nZ,nS,nZ]) h λd m=>fj (gq 6 d c m) λn e=>dF 3 d e λf=>oP (pq .u64 f) λg=>dF 0 d e λi=>oP (ez .eql 3 i (V.I 2)) λj=>Q (V.tuple [g,j]) e):cP CS kI [a0,a1] h Q:=cP.ve [] Tryz.func107 H
theorem RA(H:oP (ez .lss 3 a0 (V.I 3)) λd=>oP (nY d (oB (some a0) λa=>ez .gtr 3 a (V.I 14))) λb=>bP b (Q (V.tuple [(V.int .u64 0),bF]) h) (cP CS Jv [a0,a1,a2] h λc e=>Q (V.tuple [c,bT]) e)):cP CS E8 [a0,a1,a2] h Q:=cP.ve [] Tryz.func108 H
def t111:List (Nat×List Nat):=[(16342,[0,1,2,7,8,13,29])]
def xW(Q:fq):LP:=JV CS Tryz.f111 t111 8171 [0,1,2,7,8,13,29] [] Q
def Ht(Q:fq)(v b c d e a f:V)(h:Hp):Prop:=bP f (cP CS Ct [v,d,e] h λg w=>Q g w) (bO .eql 3 a (V.I 8) (oP (pK .neg b) λi=>Q i h) (bO .eql 3 a (V.I 9) (oP (ez .eql 79 b (V.int .u64 0)) λj=>cP CS rG [j] h λk x=>Q k x) (bO .eql 3 a (V.I 10) (oP (ez .eql 79 b c) λl=>cP CS rG [l] h λm y=>Q m y) (bO .eql 3 a (V.I 11) (oP (ez .neq 79 b c) λn=>cP CS rG [n] h λo z=>Q o z) (bO .eql 3 a (V.I 12) (oP (ez .lss 2 d e) λp=>cP CS rG [p] h λq A=>Q q A) (bO .eql 3 a (V.I 13) (oP (ez .leq 2 d e) λr=>cP CS rG [r] h λs B=>Q s B) (bO .eql 3 a (V.I 14) (oP (ez .lss 79 b c) λt=>cP CS rG [t] h λu C=>Q u C) (Q (V.int .u64 0) h))))))))
theorem OX{Q}:RV 7 (Ht Q) (xW Q):=JV.rn 7 _
theorem VM(H:oP (pq .i64 a1) λa=>oP (pq .i64 a2) λb=>bO .eql 3 a0 (V.I 3) (oP (ez .add 79 a1 a2) λd=>Q d h) (bO .eql 3 a0 (V.I 4) (oP (ez .sub 79 a1 a2) λe=>Q e h) (bO .eql 3 a0 (V.I 5) (oP (ez .mul 79 a1 a2) λf=>Q f h) (oP (ez .eql 3 a0 (V.I 6)) λc=>bP c (xW Q [a0,a1,a2,a,b,a0,c] h) (oP (ez .eql 3 a0 (V.I 7)) λg=>xW Q [a0,a1,a2,a,b,a0,g] h))))):cP CS Jv [a0,a1,a2] h Q:=cP.ve t111 Tryz.func111 H
def t115:List (Nat×List Nat):=[(14,[0,1,2])]
def ta(Q:fq):LP:=JV CS Tryz.f115 t115 7 [0,1,2] [] Q
def DZ(Q:fq)(g f a:V)(h:Hp):Prop:=bO .eql 2 a nZ (Q (V.int .u64 0) h) (bO .eql 3 g (V.I 6) (oP (ez .quo 2 f a) λb=>oP (pq .u64 b) λc=>Q c h) (oP (ez .rem 2 f a) λd=>oP (pq .u64 d) λe=>Q e h))
theorem L4{Q}:RV 3 (DZ Q) (ta Q):=JV.rn 3 _
theorem PC(H:oP (ez .eql 2 a1 (V.I (-9223372036854775808))) λc=>oP (jI c (oB (some a2) λa=>ez .eql 2 a (V.I (-1)))) λb=>bP b (ta Q [a0,a1,nO] h) (ta Q [a0,a1,a2] h)):cP CS Ct [a0,a1,a2] h Q:=cP.ve t115 Tryz.func115 H
theorem UM(H:bP a0 (Q (V.int .u64 1) h) (Q (V.int .u64 0) h)):cP CS rG [a0] h Q:=cP.ve [] Tryz.func116 H
end
