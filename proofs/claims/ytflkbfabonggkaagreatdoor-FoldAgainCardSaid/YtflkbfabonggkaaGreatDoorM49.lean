/- Parts. -/
import Derived.Test.YtflkbfabonggkaaGreatDoorM14
set_option maxHeartbeats 4000000
namespace Go.Proofs.YtflkbfabonggkaaGreatDoor.Hx
set_option maxRecDepth 100000
noncomputable section
def t4:List (Nat×List Nat):=[(79,[2,3])]
def Gz(C:fm)(Q:ft):LP:=JV C Tryz.f4 t4 39 [2,3] [] Q
def GI(C:fm)(Q:ft)(fM:LP)(f b:V)(h:Hp):Prop:=cP C oH [b] h λg a=>bP g (oP (gY b) λi=>oP (fH 0 i) λj=>oP (gv 5 j a) λk=>dN 5 b a λl=>cP C yp [k,l] a λm n=>(a.next<=n.next/\oP (gY b) λo=>oP (fH 0 o) λp=>fi (gI 5 p m n) λB y=>(n.next<=y.next/\fM [f,b] y))) (oP (gY b) λq=>oP (fH 0 q) λc=>oP (gv 5 c a) λd=>oP (gY b) λr=>oP (fH 0 r) λs=>oP (gv 5 s a) λt=>cP C Ay [t] a λu e=>(a.next<=e.next/\((gv 5 c e=some d)/\cP C yp [d,u] e λv w=>(e.next<=w.next/\fi (gI 5 f v w) λz x=>(w.next<=x.next/\oP (gv 5 f x) λA=>Q A x)))))
theorem M4{C Q}(I)(s:S2 I (GI C Q)){k l h}(i:I k l h)(e:l.length=2:=by rfl):Gz C Q l h:=JV.l2 I _ s i e
def Lm(C:fm)(Q:ft)(a0:V)(h:Hp):Prop:=ig (om 30 a0) h λb j=>ig (zC 30 [nZ,nZ,nS,nS,nS]) j λc g=>oP (gv 5 b g) λk=>cP C B3 [k] g λl a=>bN l (oP (gv 5 b a) λm=>cP C yr [m] a λn o=>fi (gI 5 c n o) λt i=>oP (gv 5 c i) λp=>Q p i) (oP (gv 5 b a) λq=>cP C yr [q] a λd r=>oP (fV [nZ,nZ,nS,nS,nS,nS] [(0,5),(5,1)] [(0,d)]) λe=>ig (om 43 e) r λf s=>Gz C Q [c,f] s)
theorem RB{C}(s:C.start=fN){a0 h Q}(k:C.K yH [a0] h=none)(H:Lm C Q a0 h):cP C yH [a0] h Q:=cP.vd t4 s (by unfold P0;exact Tryz.func4) k H
def t14:List (Nat×List Nat):=[(175,[0,3,14,15,16])]
def wE(C:fm)(Q:ft):LP:=JV C Tryz.f14 t14 87 [0,3,14,15,16] [] Q
def wj(C:fm)(Q:ft)(fM:LP)(i j b c a:V)(h:Hp):Prop:=bO .lss 3 a c (dX 1 b a h λd=>hH C (gh d [i]) h λe k=>oP (nP e (some j)) λf=>oP (en .add 3 a nO) λg=>fM [i,f,b,c,g] k) (Q j h)
theorem Em{C Q}(I)(s:S5 I (wj C Q)){k l h}(i:I k l h)(e:l.length=5:=by rfl):wE C Q l h:=JV.l5 I _ s i e
def zq(C:fm)(Q:ft)(a0:V)(h:Hp):Prop:=oP (gY a0) λg=>oP (fH 0 g) λi=>oP (gv 5 i h) λb=>cP C Ay [b] h λc j=>oP (gY a0) λd=>oP (fH 5 d) λe=>fi (gI 1 e c j) λm k=>cP C z9 [] k λa l=>oP (fE a) λf=>wE C Q [a0,bF,a,f,nZ] l
theorem Hw{C}(s:C.start=fN){a0 h Q}(k:C.K oH [a0] h=none)(H:zq C Q a0 h):cP C oH [a0] h Q:=cP.vd t14 s (by unfold P0;exact Tryz.func14) k H
def t47:List (Nat×List Nat):=[]
def JD(C:fm)(Q:ft)(h:Hp):Prop:=ig (jr 95 1 4 V.nilFunc [(0,(V.func jn [] [])),(1,(V.func jS [] [])),(2,(V.func jo [] [])),(3,(V.func jT [] []))]) h λa b=>Q a b
theorem QE{C}(s:C.start=fN){h Q}(k:C.K z9 [] h=none)(H:JD C Q h):cP C z9 [] h Q:=cP.vd t47 s (by unfold P0;exact Tryz.func47) k H
def t74:List (Nat×List Nat):=[(87,[0,3,20,21,22]),(22935,[0,3,20,21,22,34,35,36]),(498070,[0,3,20,21,22,34,35,36])]
def vh(C:fm)(Q:ft):LP:=JV C Tryz.f74 t74 43 [0,3,20,21,22] [] Q
def vL(C:fm)(Q:ft)(fM:LP):LP:=JV C Tryz.f74 t74 11467 [0,3,20,21,22,34,35,36] [kf [0,3,20,21,22] fM] Q
def jM(C:fm)(Q:ft)(fM:LP)(a:LP):LP:=JV C Tryz.f74 t74 249035 [0,3,20,21,22,34,35,36] [kf [0,3,20,21,22] fM,kf [0,3,20,21,22,34,35,36] a] Q
def uL(C:fm)(Q:ft)(fM:LP)(j k b c a:V)(h:Hp):Prop:=bO .lss 3 a c (dX 1 b a h λe=>oP (gY j) λf=>oP (fH 0 f) λg=>dJ 3 g 6 e 0 h λd=>oP (fE d) λi=>vL C Q fM [j,k,b,c,a,d,i,nZ] h) (Q k h)
theorem C0{C Q}(I)(s:S5 I (uL C Q)){k l h}(i:I k l h)(e:l.length=5:=by rfl):vh C Q l h:=JV.l5 I _ s i e
def vt(C:fm)(Q:ft)(fM:LP)(j:LP)(i v b c d e f a:V)(h:Hp):Prop:=bO .lss 3 a f (dX 1 e a h λk=>oP (gY i) λw=>oP (fH 0 w) λx=>dF 2 x h λy=>oP (gz 6 y k) λz=>oP (gv 6 z h) λA=>ig (zC 49 [nZ,nZ,nZ,nZ,nS,nZ]) h λl h1=>fi (gI 6 l A h1) λvu h2=>oP (gv 6 l h2) λB=>cP C uy [B] h2 λg m=>dF 0 l m λD=>oP (en .lss 3 D (V.I 3)) λE=>oP (nP E (oB (fH 0 l) λF=>oB (ez F m) λG=>en .gtr 3 G (V.I 14))) λH=>oP (nP H (oB (some g) λI=>oB (fE I) λJ=>en .eql 3 J nZ)) λK=>bP K (jM C Q fM j [i,v,b,c,d,e,f,a] m) (dX 1 g nZ m λL=>cP C jF [i,L] m λn h4=>oP (zk 0 n) λM=>oP (zk 1 n) λN=>oP (fE g) λO=>oP (en .sub 3 O nO) λP=>dX 1 g P h4 λR=>cP C jF [i,R] h4 λo h5=>oP (zk 0 o) λS=>oP (zk 1 o) λT=>dF 0 l h5 λU=>cP C z8 [U,M,S] h5 λp W=>oP (zk 0 p) λX=>oP (zk 1 p) λY=>oP (jO Y (some N)) λZ=>oP (jO Z (some T)) λaa=>bP aa (oP (gY i) λab=>oP (fH 0 ab) λac=>dF 2 ac W λq=>oP (oO .i64 X) λr=>oP (fV [nZ,nZ,nZ,nZ,nS,nZ] [(0,1),(1,1),(2,1),(3,1),(4,1),(5,1)] [(0,(V.I 2)),(3,r)]) λs=>oP (gz 6 q k) λt=>fi (gI 6 t s W) λae h7=>jM C Q fM j [i,bT,b,c,d,e,f,a] h7) (jM C Q fM j [i,v,b,c,d,e,f,a] W))) (oP (en .add 3 d nO) λu=>fM [i,v,b,c,u] h)
theorem Di{C Q fM}(I)(s:S8 I (vt C Q fM)){k l h}(i:I k l h)(e:l.length=8:=by rfl):vL C Q fM l h:=JV.l8 I _ s i e
def tG(C:fm)(Q:ft)(fM:LP)(b:LP)(j k c d e f g i:V)(h:Hp):Prop:=oP (en .add 3 i nO) λa=>b [j,k,c,d,e,f,g,a] h
theorem CD{C Q fM a}:R8 (tG C Q fM a) (jM C Q fM a):=JV.r8 _
def yY(C:fm)(Q:ft)(a0:V)(h:Hp):Prop:=oP (gY a0) λb=>oP (fH 0 b) λc=>oP (gv 5 c h) λd=>cP C oV [d] h λa f=>oP (fE a) λe=>vh C Q [a0,bF,a,e,nZ] f
theorem GQ{C}(s:C.start=fN){a0 h Q}(k:C.K jn [a0] h=none)(H:yY C Q a0 h):cP C jn [a0] h Q:=cP.vd t74 s (by unfold P0;exact Tryz.func74) k H
def t75:List (Nat×List Nat):=[(87,[0,3,14,15,16]),(1942,[0,3,14,15,16]),(178583,[0,3,4,6,7,14,15,16,25,26,27]),(30,[3]),(3979670,[0,3,4,6,7,14,15,16,25,26,27])]
def yi(C:fm)(Q:ft):LP:=JV C Tryz.f75 t75 43 [0,3,14,15,16] [] Q
def mP(C:fm)(Q:ft)(fM:LP):LP:=JV C Tryz.f75 t75 971 [0,3,14,15,16] [kf [0,3,14,15,16] fM] Q
def xP(C:fm)(Q:ft)(fM:LP):LP:=JV C Tryz.f75 t75 89291 [0,3,4,6,7,14,15,16,25,26,27] [kf [0,3,14,15,16] fM] Q
def pO(C:fm)(Q:ft):LP:=JV C Tryz.f75 t75 15 [3] [] Q
def mz(C:fm)(Q:ft)(fM:LP)(a:LP):LP:=JV C Tryz.f75 t75 1989835 [0,3,4,6,7,14,15,16,25,26,27] [kf [0,3,14,15,16] fM,kf [0,3,4,6,7,14,15,16,25,26,27] a] Q
def yj(C:fm)(Q:ft)(fM:LP)(m f b c a:V)(h:Hp):Prop:=bO .lss 3 a c (oP (gz 6 b a) λg=>oP (gv 6 g h) λi=>ig (zC 49 [nZ,nZ,nZ,nZ,nS,nZ]) h λj n=>fi (gI 6 j i n) λo e=>dF 0 j e λk=>bO .neq 3 k (V.I 21) (mP C Q fM [m,f,b,c,a] e) (dF 4 j e λd=>oP (fE d) λl=>xP C Q fM [m,f,a,(V.I (-1)),bF,b,c,a,d,l,nZ] e)) (pO C Q [f] h)
theorem Fz{C Q}(I)(s:S5 I (yj C Q)){k l h}(i:I k l h)(e:l.length=5:=by rfl):yi C Q l h:=JV.l5 I _ s i e
def xR(C:fm)(Q:ft)(fM:LP)(e f a b c:V)(h:Hp):Prop:=oP (en .add 3 c nO) λd=>fM [e,f,a,b,d] h
theorem FM{C Q fM}:R5 (xR C Q fM) (mP C Q fM):=JV.r5 _
def xJ(C:fm)(Q:ft)(fM:LP)(i:LP)(k m l j n b c d e f a:V)(h:Hp):Prop:=bO .lss 3 a f (dX 1 e a h λg=>oP (en .neq 3 g l) λo=>oP (jO o (oB (some g) λp=>oB (some j) λq=>en .neq 3 p q)) λr=>bP r (oP (nP n (oB (some j) λs=>en .geq 3 s nZ)) λt=>mz C Q fM i [k,m,l,g,t,b,c,d,e,f,a] h) (mz C Q fM i [k,m,l,j,n,b,c,d,e,f,a] h)) (oP (en .geq 3 j nZ) λu=>oP (jO u (oB (some n) λv=>pt .not v)) λw=>bP w (dN 5 k h λx=>oP (gz 1 x l) λy=>fi (gI 1 y j h) λA z=>pO C Q [bT] z) (mP C Q fM [k,m,b,c,d] h))
theorem Ft{C Q fM}(I)(s:S11 I (xJ C Q fM)){k l h}(i:I k l h)(e:l.length=11:=by rfl):xP C Q fM l h:=JV.l11 I _ s i e
def pM(C:fm)(Q:ft)(a:V)(h:Hp):Prop:=Q a h
theorem xL{C Q}:R1 (pM C Q) (pO C Q):=JV.r1 _
def wQ(C:fm)(Q:ft)(fM:LP)(a:LP)(j k l m n b c d e f g:V)(h:Hp):Prop:=oP (en .add 3 g nO) λi=>a [j,k,l,m,n,b,c,d,e,f,i] h
theorem Ej{C Q fM a}:R11 (wQ C Q fM a) (mz C Q fM a):=JV.r11 _
def AH(C:fm)(Q:ft)(a0:V)(h:Hp):Prop:=oP (gY a0) λb=>oP (fH 0 b) λc=>dF 2 c h λa=>oP (fE a) λd=>yi C Q [a0,bF,a,d,nZ] h
theorem IQ{C}(s:C.start=fN){a0 h Q}(k:C.K jS [a0] h=none)(H:AH C Q a0 h):cP C jS [a0] h Q:=cP.vd t75 s (by unfold P0;exact Tryz.func75) k H
def t76:List (Nat×List Nat):=[(87,[0,3,12,13,14]),(1942,[0,3,12,13,14])]
def uS(C:fm)(Q:ft):LP:=JV C Tryz.f76 t76 43 [0,3,12,13,14] [] Q
def jX(C:fm)(Q:ft)(fM:LP):LP:=JV C Tryz.f76 t76 971 [0,3,12,13,14] [kf [0,3,12,13,14] fM] Q
def vH(C:fm)(Q:ft)(fM:LP)(d g b c a:V)(h:Hp):Prop:=bO .lss 3 a c (oP (gz 6 b a) λi=>oP (gv 6 i h) λj=>ig (zC 49 [nZ,nZ,nZ,nZ,nS,nZ]) h λk v=>fi (gI 6 k j v) λx f=>dF 0 k f λl=>bO .neq 3 l (V.I 22) (jX C Q fM [d,g,b,c,a] f) (dF 1 k f λm=>cP C jF [d,m] f λe n=>oP (zk 0 e) λo=>oP (zk 1 e) λp=>oP (jO p (oB (some o) λq=>en .neq 59 q (V.int .u64 0))) λr=>bP r (dN 5 d n λs=>oP (gz 1 s a) λt=>fi (gI 1 t (V.I (-1)) n) λu w=>jX C Q fM [d,bT,b,c,a] w) (jX C Q fM [d,g,b,c,a] n))) (Q g h)
theorem Dc{C Q}(I)(s:S5 I (vH C Q)){k l h}(i:I k l h)(e:l.length=5:=by rfl):uS C Q l h:=JV.l5 I _ s i e
def uI(C:fm)(Q:ft)(fM:LP)(e f a b c:V)(h:Hp):Prop:=oP (en .add 3 c nO) λd=>fM [e,f,a,b,d] h
theorem DS{C Q fM}:R5 (uI C Q fM) (jX C Q fM):=JV.r5 _
def yR(C:fm)(Q:ft)(a0:V)(h:Hp):Prop:=oP (gY a0) λd=>oP (fH 0 d) λb=>dF 2 b h λa=>oP (fE a) λc=>uS C Q [a0,bF,a,c,nZ] h
theorem FQ{C}(s:C.start=fN){a0 h Q}(k:C.K jo [a0] h=none)(H:yR C Q a0 h):cP C jo [a0] h Q:=cP.vd t76 s (by unfold P0;exact Tryz.func76) k H
def t77:List (Nat×List Nat):=[(87,[0,3,13,14,15]),(1942,[0,3,13,14,15]),(260502,[0,4,8,13,14,15])]
def xU(C:fm)(Q:ft):LP:=JV C Tryz.f77 t77 43 [0,3,13,14,15] [] Q
def kV(C:fm)(Q:ft)(fM:LP):LP:=JV C Tryz.f77 t77 971 [0,3,13,14,15] [kf [0,3,13,14,15] fM] Q
def mC(C:fm)(Q:ft)(fM:LP):LP:=JV C Tryz.f77 t77 130251 [0,4,8,13,14,15] [kf [0,3,13,14,15] fM] Q
def xM(C:fm)(Q:ft)(fM:LP)(d j b c a:V)(h:Hp):Prop:=bO .lss 3 a c (oP (gz 6 b a) λk=>oP (gv 6 k h) λl=>ig (zC 47 [nS,nZ,nZ,nS,nS,nZ]) h λe s=>fi (gI 6 e l s) λt i=>dF 1 e i λm=>bO .neq 3 m (V.I 2) (kV C Q fM [d,j,b,c,a] i) (dF 2 e i λn=>cP C jF [d,n] i λf g=>oP (zk 0 f) λo=>oP (zk 1 f) λp=>bN p (kV C Q fM [d,j,b,c,a] g) (dY 3 e 1 nZ g λq=>bO .eql 59 o (V.int .u64 0) (dY 3 e 1 nO g λr=>mC C Q fM [d,a,r,b,c,a] g) (mC C Q fM [d,a,q,b,c,a] g)))) (Q j h)
theorem FJ{C Q}(I)(s:S5 I (xM C Q)){k l h}(i:I k l h)(e:l.length=5:=by rfl):xU C Q l h:=JV.l5 I _ s i e
def xI(C:fm)(Q:ft)(fM:LP)(e f a b c:V)(h:Hp):Prop:=oP (en .add 3 c nO) λd=>fM [e,f,a,b,d] h
theorem FA{C Q fM}:R5 (xI C Q fM) (kV C Q fM):=JV.r5 _
def wm(C:fm)(Q:ft)(fM:LP)(j m H n o p:V)(h:Hp):Prop:=oP (gY j) λq=>oP (fH 0 q) λr=>oP (fH 3 r) λc=>oP (ez c h) λd=>oP (gY j) λs=>oP (fH 0 s) λt=>oP (fH 3 t) λe=>oP (ez e h) λf=>oP (gY j) λu=>oP (fH 0 u) λv=>oP (fH 3 v) λg=>oP (ez g h) λi=>yn (jr 3 1 1 nZ [(0,H)]) h λa w b=>oP (gz 6 d m) λx=>oP (fH 1 x) λy=>((b.get (h.next)=some a/\O.beq a a=true)/\((ez g b=some i)/\((ez e b=some f)/\((ez c b=some d)/\fi (gI 1 y nO b) λI k=>(b.next<=k.next/\oP (gz 6 f m) λz=>oP (fH 2 z) λA=>((k.get (h.next)=some a/\O.beq a a=true)/\fi (gI 1 A nZ k) λE l=>(k.next<=l.next/\oP (gz 6 i m) λB=>oP (fH 3 B) λD=>((l.get (h.next)=some a/\O.beq a a=true)/\fi (gI 1 D w l) λF G=>(l.next<=G.next/\kV C Q fM [j,bT,n,o,p] G)))))))))
theorem Ey{C Q fM}:R6 (wm C Q fM) (mC C Q fM):=JV.r6 _
def AM(C:fm)(Q:ft)(a0:V)(h:Hp):Prop:=oP (gY a0) λb=>oP (fH 0 b) λc=>dF 3 c h λa=>oP (fE a) λd=>xU C Q [a0,bF,a,d,nZ] h
theorem I0{C}(s:C.start=fN){a0 h Q}(k:C.K jT [a0] h=none)(H:AM C Q a0 h):cP C jT [a0] h Q:=cP.vd t77 s (by unfold P0;exact Tryz.func77) k H
def t90:List (Nat×List Nat):=[]
def zz(C:fm)(Q:ft)(a0 a1:V)(h:Hp):Prop:=oP (gY a0) λk=>oP (fH 0 k) λl=>dF 2 l h λa=>oP (gz 6 a a1) λb=>oP (gv 6 b h) λc=>ig (zC 49 [nZ,nZ,nZ,nZ,nS,nZ]) h λd m=>fi (gI 6 d c m) λn e=>dF 3 d e λf=>oP (oO .u64 f) λg=>dF 0 d e λi=>oP (en .eql 3 i (V.I 2)) λj=>Q (V.tuple [g,j]) e
theorem Hu{C}(s:C.start=fN){a0 a1 h Q}(k:C.K jF [a0,a1] h=none)(H:zz C Q a0 a1 h):cP C jF [a0,a1] h Q:=cP.vd t90 s (by unfold P0;exact Tryz.func90) k H
def t22:List (Nat×List Nat):=[]
def Jp(C:fm)(Q:ft)(a0 a1 a2:V)(h:Hp):Prop:=oP (en .lss 3 a0 (V.I 3)) λd=>oP (nP d (oB (some a0) λa=>en .gtr 3 a (V.I 14))) λb=>bP b (Q (V.tuple [(V.int .u64 0),bF]) h) (cP C Ee [a0,a1,a2] h λc e=>Q (V.tuple [c,bT]) e)
theorem QB{C}(s:C.start=fN){a0 a1 a2 h Q}(k:C.K z8 [a0,a1,a2] h=none)(H:Jp C Q a0 a1 a2 h):cP C z8 [a0,a1,a2] h Q:=cP.vd t22 s (by unfold P0;exact Tryz.func22) k H
def t50:List (Nat×List Nat):=[(16342,[0,1,2,7,8,13,29])]
def wT(C:fm)(Q:ft):LP:=JV C Tryz.f50 t50 8171 [0,1,2,7,8,13,29] [] Q
def Ga(C:fm)(Q:ft)(v b c d e a f:V)(h:Hp):Prop:=bP f (cP C yC [v,d,e] h λg w=>Q g w) (bO .eql 3 a (V.I 8) (oP (pt .neg b) λi=>Q i h) (bO .eql 3 a (V.I 9) (oP (en .eql 59 b (V.int .u64 0)) λj=>cP C pg [j] h λk x=>Q k x) (bO .eql 3 a (V.I 10) (oP (en .eql 59 b c) λl=>cP C pg [l] h λm y=>Q m y) (bO .eql 3 a (V.I 11) (oP (en .neq 59 b c) λn=>cP C pg [n] h λo z=>Q o z) (bO .eql 3 a (V.I 12) (oP (en .lss 2 d e) λp=>cP C pg [p] h λq A=>Q q A) (bO .eql 3 a (V.I 13) (oP (en .leq 2 d e) λr=>cP C pg [r] h λs B=>Q s B) (bO .eql 3 a (V.I 14) (oP (en .lss 59 b c) λt=>cP C pg [t] h λu D=>Q u D) (Q (V.int .u64 0) h))))))))
theorem Mx{C Q}:R7 (Ga C Q) (wT C Q):=JV.r7 _
def NA(C:fm)(Q:ft)(a0 a1 a2:V)(h:Hp):Prop:=oP (oO .i64 a1) λa=>oP (oO .i64 a2) λb=>bO .eql 3 a0 (V.I 3) (oP (en .add 59 a1 a2) λd=>Q d h) (bO .eql 3 a0 (V.I 4) (oP (en .sub 59 a1 a2) λe=>Q e h) (bO .eql 3 a0 (V.I 5) (oP (en .mul 59 a1 a2) λf=>Q f h) (oP (en .eql 3 a0 (V.I 6)) λc=>bP c (wT C Q [a0,a1,a2,a,b,a0,c] h) (oP (en .eql 3 a0 (V.I 7)) λg=>wT C Q [a0,a1,a2,a,b,a0,g] h))))
theorem TE{C}(s:C.start=fN){a0 a1 a2 h Q}(k:C.K Ee [a0,a1,a2] h=none)(H:NA C Q a0 a1 a2 h):cP C Ee [a0,a1,a2] h Q:=cP.vd t50 s (by unfold P0;exact Tryz.func50) k H
def t83:List (Nat×List Nat):=[(14,[0,1,2])]
def qT(C:fm)(Q:ft):LP:=JV C Tryz.f83 t83 7 [0,1,2] [] Q
def Dy(C:fm)(Q:ft)(g f a:V)(h:Hp):Prop:=bO .eql 2 a nZ (Q (V.int .u64 0) h) (bO .eql 3 g (V.I 6) (oP (en .quo 2 f a) λb=>oP (oO .u64 b) λc=>Q c h) (oP (en .rem 2 f a) λd=>oP (oO .u64 d) λe=>Q e h))
theorem KM{C Q}:R3 (Dy C Q) (qT C Q):=JV.r3 _
def IA(C:fm)(Q:ft)(a0 a1 a2:V)(h:Hp):Prop:=oP (en .eql 2 a1 (V.I (-9223372036854775808))) λc=>oP (jO c (oB (some a2) λa=>en .eql 2 a (V.I (-1)))) λb=>bP b (qT C Q [a0,a1,nO] h) (qT C Q [a0,a1,a2] h)
theorem Ot{C}(s:C.start=fN){a0 a1 a2 h Q}(k:C.K yC [a0,a1,a2] h=none)(H:IA C Q a0 a1 a2 h):cP C yC [a0,a1,a2] h Q:=cP.vd t83 s (by unfold P0;exact Tryz.func83) k H
def t84:List (Nat×List Nat):=[]
def MR(C:fm)(Q:ft)(a0:V)(h:Hp):Prop:=bP a0 (Q (V.int .u64 1) h) (Q (V.int .u64 0) h)
theorem Uq{C}(s:C.start=fN){a0 h Q}(k:C.K pg [a0] h=none)(H:MR C Q a0 h):cP C pg [a0] h Q:=cP.vd t84 s (by unfold P0;exact Tryz.func84) k H
end
