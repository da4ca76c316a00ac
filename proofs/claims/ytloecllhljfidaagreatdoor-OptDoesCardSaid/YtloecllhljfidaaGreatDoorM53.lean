/- Parts. -/
import Derived.Test.YtloecllhljfidaaGreatDoorM14
set_option maxHeartbeats 4000000
namespace Go.Proofs.YtloecllhljfidaaGreatDoor.Hx
variable{Q:fq}{h:Hp}{a0:V}
set_option maxRecDepth 100000
noncomputable section
def t21:List (Nat×List Nat):=[(351,[2,3,26,27,28]),(7774,[2,3,26,27,28])]
def A4(Q:fq):LP:=JV CS Tryz.f21 t21 175 [2,3,26,27,28] [] Q
def pb(Q:fq)(fy:LP):LP:=JV CS Tryz.f21 t21 3887 [2,3,26,27,28] [kf [2,3,26,27,28] fy] Q
def AM(Q:fq)(fy:LP)(o b c d a:V)(h:Hp):Prop:=bO .lss 3 a d (dX 1 c a h λe=>bO .geq 3 e nZ (oP (gP b) λr=>oP (fI 6 r) λf=>oP (fe f h) λg=>oP (gP b) λs=>oP (fI 6 s) λk=>oP (fe k h) λl=>oP (gB 1 l e) λm=>oP (fe m h) λn=>xB (iS 3 1 1 nZ [(0,a)]) h λi t j=>((j.get (h.next)=some i/\O.beq i i=true)/\((fe m j=some n)/\((fe k j=some l)/\((fe f j=some g)/\fj (fi 3 1 8 n t j) λu p=>(j.next<=p.next/\oP (gB 1 g e) λv=>((fe f p=some g)/\fj (gq 1 v u p) λH D=>(p.next<=D.next/\pb Q fy [o,b,c,d,a] D)))))))) (pb Q fy [o,b,c,d,a] h)) (cP CS pT [b] h λF q=>oP (gP b) λw=>oP (fI 0 w) λx=>oP (fO 5 x q) λy=>dN 5 b q λz=>cP CS rP [y,z] q λA B=>(q.next<=B.next/\fj (gq 5 o A B) λE C=>(B.next<=C.next/\oP (fO 5 o C) λG=>Q G C)))
theorem JH{Q}:LN 5 (AM Q) (A4 Q):=JV.lm 5 _
def zW(Q:fq)(fy:LP)(e f a b c:V)(h:Hp):Prop:=oP (ez .add 3 c nO) λd=>fy [e,f,a,b,d] h
theorem IJ{Q fy}:RV 5 (zW Q fy) (pb Q fy):=JV.rn 5 _
theorem M1(H:gS (mi 30 a0) h λa G=>gS (zC 30 [nZ,nZ,nS,nS,nS]) G λo D=>oP (fO 5 a D) λI=>cP CS zo [I] D λJ c=>bN J (oP (fO 5 a c) λK=>cP CS pZ [K] c λp L=>fj (gq 5 o p L) λN E=>oP (fO 5 o E) λM=>Q M E) (oP (fO 5 a c) λe=>oP (fO 5 a c) λd=>xB (some (.map [] 0,λl=> .map l)) c λb q f=>((f.get (c.next)=some b/\O.beq b b=true)/\((fO 5 a f=some d)/\((fO 5 a f=some e)/\cP CS pZ [e] f λr g=>(f.next<=g.next/\((g.get (c.next)=some b/\O.beq b b=true)/\((fO 5 a g=some d)/\cP CS yH [d] g λs t=>(g.next<=t.next/\oP (fT [nZ,nZ,nS,nS,nS,nS,nS,V.oH] [(0,5),(5,1),(6,1),(7,1)] [(0,r),(1,s),(3,q)]) λu=>xB (mi 92 u) t λv i n=>((n.get (t.next)=some v/\O.beq v v=true)/\((n.get (c.next)=some b/\O.beq b b=true)/\dG 3 a n λj=>gS (gX 22 1 24 nS j j) n λw x=>oP (gP i) λy=>oP (fI 6 y) λz=>fj (gq 1 z w x) λF k=>oP (fO 5 a k) λA=>cP CS sQ [A] k λm B=>oP (fE m) λC=>A4 Q [o,i,m,C,nZ] B))))))))))):cP CS qh [a0] h Q:=cP.ve t21 Tryz.func21 H
def t44:List (Nat×List Nat):=[(11,[0,2]),(10579,[0,2,38,39,40])]
def ug(Q:fq):LP:=JV CS Tryz.f44 t44 5 [0,2] [] Q
def tu(Q:fq)(fy:LP):LP:=JV CS Tryz.f44 t44 5289 [0,2,38,39,40] [kf [0,2] fy] Q
def tU(Q:fq)(fy:LP)(b c:V)(h:Hp):Prop:=oP (fE c) λf=>bO .gtr 3 f nZ (oP (fE c) λg=>oP (ez .sub 3 g nO) λi=>oP (gB 3 c i) λa=>dN 1 a h λj=>dN 6 b h λk=>dN 0 a h λl=>dX 1 k l h λm=>oP (fE m) λn=>bO .eql 3 j n (dN 2 a h λd=>oP (fE d) λo=>tu Q fy [b,c,d,o,nZ] h) (dN 6 b h λp=>dN 0 a h λq=>dX 1 p q h λr=>dN 1 a h λs=>dX 1 r s h λe=>dN 1 a h λt=>oP (ez .add 3 t nO) λu=>oP (gP a) λv=>oP (fI 1 v) λw=>fj (gq 1 w u h) λF B=>cP CS me [b,e] B λx C=>oP (fT [nZ,nZ,nS] [(0,1),(1,1),(2,1)] [(0,e),(1,nZ),(2,x)]) λy=>gS (iS 129 3 1 (V.agg [nZ,nZ,nS]) [(0,y)]) C λz D=>fj (fi 129 3 40 c z D) λA E=>fy [b,A] E)) (Q (V.tuple []) h)
theorem BS{Q}:LN 2 (tU Q) (ug Q):=JV.lm 2 _
def th(Q:fq)(fy:LP)(e:LP)(f g b c a:V)(h:Hp):Prop:=bO .lss 3 a c (oP (gB 4 b a) λi=>oP (fO 4 i h) λj=>gS (zC 133 [nZ,nZ,nZ,nZ]) h λq t=>fj (gq 4 q j t) λu d=>dN 7 f d λk=>oP (fO 4 q d) λl=>fj (Ci 133 (wN) k l d) λr s=>(d.next<=s.next/\oP (ez .add 3 a nO) λm=>e [f,g,b,c,m] s)) (oP (fE g) λn=>oP (ez .sub 3 n nO) λo=>oP (iY 3 g none (some o) h) λp=>fy [f,p] h)
theorem Bl{Q fy}:LN 5 (th Q fy) (tu Q fy):=JV.lm 5 _
theorem EA(H:cP CS me [a0,nZ] h λb c=>oP (fT [nZ,nZ,nS] [(0,1),(1,1),(2,1)] [(0,nZ),(1,nZ),(2,b)]) λd=>gS (iS 129 3 1 (V.agg [nZ,nZ,nS]) [(0,d)]) c λa e=>ug Q [a0,a] e):cP CS pT [a0] h Q:=cP.ve t44 Tryz.func44 H
def t78:List (Nat×List Nat):=[(87,[0,5,20,21,22]),(1942,[0,5,20,21,22])]
def rQ(Q:fq):LP:=JV CS Tryz.f78 t78 43 [0,5,20,21,22] [] Q
def jj(Q:fq)(fy:LP):LP:=JV CS Tryz.f78 t78 971 [0,5,20,21,22] [kf [0,5,20,21,22] fy] Q
def rE(Q:fq)(fy:LP)(e i b c a:V)(h:Hp):Prop:=bO .lss 3 a c (dX 1 b a h λf=>oP (gP e) λk=>oP (fI 0 k) λl=>dF 2 l h λm=>oP (gB 6 m f) λn=>oP (fO 6 n h) λo=>gS (zC 45 [nZ,nZ,nZ,nZ,nS,nZ]) h λp M=>fj (gq 6 p o M) λS I=>dF 0 p I λq=>cP CS JG [q] I λr s=>bN r (jj Q fy [e,i,b,c,a] s) (oP (fO 6 p s) λt=>cP CS qv [e,t] s λu N=>gS (zC 133 [nZ,nZ,nZ,nZ]) N λj O=>fj (gq 4 j u O) λJ d=>dN 7 e d λv=>oP (fO 4 j d) λw=>oP (MG 133 (wN) nZ true v w d) λg=>oP (CA 0 g) λx=>oP (CA 1 g) λy=>bP y (dN 5 e d λz=>oP (gB 1 z f) λA=>fj (gq 1 A x d) λK P=>jj Q fy [e,i,b,c,a] P) (dN 7 e d λB=>oP (fO 4 j d) λC=>fj (MT 133 (wN) B C f d) λL D=>(d.next<=D.next/\oP (fO 4 j D) λE=>gS (iS 133 4 1 (V.agg [nZ,nZ,nZ,nZ]) [(0,E)]) D λF R=>fj (fi 133 4 32 i F R) λG H=>jj Q fy [e,G,b,c,a] H)))) (Q i h)
theorem Be{Q}:LN 5 (rE Q) (rQ Q):=JV.lm 5 _
def rO(Q:fq)(fy:LP)(e f a b c:V)(h:Hp):Prop:=oP (ez .add 3 c nO) λd=>fy [e,f,a,b,d] h
theorem A3{Q fy}:RV 5 (rO Q fy) (jj Q fy):=JV.rn 5 _
theorem Eg{a1:V}(H:oP (gP a0) λb=>oP (fI 0 b) λc=>dJ 3 c 6 a1 0 h λa=>oP (fE a) λd=>rQ Q [a0,nS,a,d,nZ] h):cP CS me [a0,a1] h Q:=cP.ve t78 Tryz.func78 H
def t103:List (Nat×List Nat):=[(62,[0,3,4,5,6]),(126,[3,4,5]),(254,[4,5])]
def lG(Q:fq):LP:=JV CS Tryz.f103 t103 31 [0,3,4,5,6] [] Q
def lI(Q:fq):LP:=JV CS Tryz.f103 t103 63 [3,4,5] [] Q
def lJ(Q:fq):LP:=JV CS Tryz.f103 t103 127 [4,5] [] Q
def uU(Q:fq)(l g i a j:V)(h:Hp):Prop:=oP (fE j) λb=>bO .gtr 3 b nO (dN 5 l h λc=>dX 1 j nO h λd=>dX 1 c d h λe=>oP (fI 2 a) λf=>fj (gq 1 f e h) λm k=>(h.next<=k.next/\lI Q [g,i,a] k)) (lI Q [g,i,a] h)
theorem CO{Q}:RV 5 (uU Q) (lG Q):=JV.rn 5 _
def uL(Q:fq)(e f a:V)(h:Hp):Prop:=dF 0 e h λb=>bO .eql 3 b (V.I 2) (dF 3 e h λc=>oP (fI 3 a) λd=>fj (gq 1 d c h) λi g=>lJ Q [f,a] g) (lJ Q [f,a] h)
theorem Cl{Q}:RV 3 (uL Q) (lI Q):=JV.rn 3 _
def vw(Q:fq)(b d:V)(h:Hp):Prop:=oP (fO 4 d h) λa=>fj (gq 4 b a h) λf c=>oP (fO 4 b c) λe=>Q e c
theorem Cm{Q}:RV 2 (vw Q) (lJ Q):=JV.rn 2 _
theorem Gu{a1:V}(H:gS (mi 45 a1) h λc q=>gS (zC 133 [nZ,nZ,nZ,nZ]) q λl m=>dF 0 c m λr=>oP (fT [nZ,nZ,nZ,nZ] [(0,1),(1,1),(2,1),(3,1)] [(0,r),(1,(V.I (-1))),(2,(V.I (-1)))]) λs=>gS (zC 133 [nZ,nZ,nZ,nZ]) m λd t=>fj (gq 4 d s t) λu n=>oP (fO 6 c n) λe=>cP CS rF [e] n λa b=>oP (fE a) λf=>bO .gtr 3 f nZ (dN 5 a0 b λg=>dX 1 a nZ b λi=>dX 1 g i b λj=>oP (fI 1 d) λk=>fj (gq 1 k j b) λo p=>(b.next<=p.next/\lG Q [a0,c,l,d,a] p)) (lG Q [a0,c,l,d,a] b)):cP CS qv [a0,a1] h Q:=cP.ve t103 Tryz.func103 H
theorem Vt(H:oP (ez .geq 3 a0 (V.I 2)) λa=>oP (jI a (oB (some a0) λb=>ez .leq 3 b (V.I 16))) λc=>Q c h):cP CS JG [a0] h Q:=cP.ve [] Tryz.func102 H
def t4:List (Nat×List Nat):=[(175,[1,2,3,4,5]),(88367,[1,2,3,4,5,6,7,8]),(7493934,[1,2,3,4,5,6,7,8])]
def xk(Q:fq):LP:=JV CS Tryz.f4 t4 87 [1,2,3,4,5] [] Q
def wY(Q:fq)(fy:LP):LP:=JV CS Tryz.f4 t4 44183 [1,2,3,4,5,6,7,8] [kf [1,2,3,4,5] fy] Q
def lF(Q:fq)(fy:LP)(a:LP):LP:=JV CS Tryz.f4 t4 3746967 [1,2,3,4,5,6,7,8] [kf [1,2,3,4,5] fy,kf [1,2,3,4,5,6,7,8] a] Q
def vZ(Q:fq)(fy:LP)(a b p q c:V)(h:Hp):Prop:=oP (fI 3 a) λd=>oP (fe d h) λe=>oP (fE e) λf=>oP (ez .lss 3 c f) λg=>bP g (oP (fI 3 a) λi=>oP (fe i h) λj=>oP (gB 6 j c) λk=>oP (fO 6 k h) λl=>gS (zC 43 [nS,nZ,nZ,nS,nS,nZ]) h λr x=>fj (gq 6 r l x) λB y=>wY Q fy [a,b,p,q,c,r,nS,nZ] y) (oP (fI 2 a) λm=>fj (gq 1 m p h) λs z=>oP (fI 3 a) λn=>fj (gq 1 n q z) λt u=>oP (fO 5 a u) λo=>fj (gq 5 b o u) λv w=>oP (fO 5 b w) λA=>Q A w)
theorem Dd{Q}:LN 5 (vZ Q) (xk Q):=JV.lm 5 _
def wu(Q:fq)(fy:LP)(c:LP)(f g d i j a k b:V)(h:Hp):Prop:=oP (fI 0 a) λl=>oP (fe l h) λm=>oP (fE m) λn=>oP (ez .lss 3 b n) λo=>bP o (oP (fI 0 a) λp=>oP (fe p h) λq=>oP (gB 1 q b) λr=>oP (fe r h) λs=>oP (gB 6 d s) λt=>oP (fI 0 t) λu=>oP (fe u h) λe=>oP (ez .eql 3 e (V.I 19)) λv=>oP (nY v (oB (some e) λw=>ez .eql 3 w (V.I 20))) λx=>bP x (oP (fI 0 a) λy=>oP (fe y h) λz=>oP (gB 1 z b) λA=>oP (fe A h) λB=>oP (fI 0 a) λC=>oP (fe C h) λD=>oP (gB 1 D b) λE=>oP (fe E h) λF=>oP (fT [nZ,nZ,nZ,nZ,nS,nZ] [(0,1),(1,1),(2,1),(3,1),(4,1),(5,1)] [(0,(V.I 2)),(3,F)]) λG=>oP (gB 6 d B) λH=>fj (gq 6 H G h) λT N=>(h.next<=N.next/\lF Q fy c [f,g,d,i,j,a,k,b] N)) (lF Q fy c [f,g,d,i,j,a,k,b] h)) (oP (fI 0 a) λI=>fj (gq 1 I k h) λO P=>oP (fO 6 a P) λJ=>gS (iS 43 6 1 (V.agg [nS,nZ,nZ,nS,nS,nZ]) [(0,J)]) P λK R=>fj (fi 43 6 96 i K R) λL S=>oP (ez .add 3 j nO) λM=>fy [f,g,d,L,M] S)
theorem DE{Q fy}:LN 8 (wu Q fy) (wY Q fy):=JV.lm 8 _
def vg(Q:fq)(fy:LP)(a:LP)(l m n o p j q k:V)(h:Hp):Prop:=oP (fI 0 j) λb=>oP (fe b h) λc=>oP (gB 1 c k) λd=>oP (fe d h) λe=>gS (iS 3 1 1 nZ [(0,e)]) h λf r=>fj (fi 3 1 8 q f r) λg s=>oP (ez .add 3 k nO) λi=>a [l,m,n,o,p,j,g,i] s
theorem CG{Q fy a}:RV 8 (vg Q fy a) (lF Q fy a):=JV.rn 8 _
theorem GO(H:gS (mi 30 a0) h λe g=>gS (zC 30 [nZ,nZ,nS,nS,nS]) g λi j=>gS (iS 45 6 0 (V.agg [nZ,nZ,nZ,nZ,nS,nZ]) []) j λa f=>oP (fI 2 e) λb=>oP (fe b f) λc=>fj (fi 45 6 64 a c f) λd k=>xk Q [e,i,d,nS,nZ] k):cP CS rY [a0] h Q:=cP.ve t4 Tryz.func4 H
end
