/- Parts. -/
import Derived.Test.YtbdcpiokodljaaaGreatDoorM14
set_option maxHeartbeats 4000000
namespace Go.Proofs.YtbdcpiokodljaaaGreatDoor.Hx
set_option maxRecDepth 100000
noncomputable section
def t6:List (Nat×List Nat):=[(79,[2,3])]
def Ht(C:fk)(Q:fo):LP:=JV C Tryz.f6 t6 39 [2,3] [] Q
def GL(C:fk)(Q:fo)(fN:LP)(f b:V)(h:Hp):Prop:=cP C pE [b] h λg a=>bP g (oP (hZ b) λi=>oP (fF 0 i) λj=>oP (fX 5 j a) λk=>dN 5 b a λl=>cP C yT [k,l] a λm n=>(a.next<=n.next/\oP (hZ b) λo=>oP (fF 0 o) λp=>fg (gJ 5 p m n) λB y=>(n.next<=y.next/\fN [f,b] y))) (oP (hZ b) λq=>oP (fF 0 q) λc=>oP (fX 5 c a) λd=>oP (hZ b) λr=>oP (fF 0 r) λs=>oP (fX 5 s a) λt=>cP C Br [t] a λu e=>(a.next<=e.next/\((fX 5 c e=some d)/\cP C yT [d,u] e λv w=>(e.next<=w.next/\fg (gJ 5 f v w) λz x=>(w.next<=x.next/\oP (fX 5 f x) λA=>Q A x)))))
theorem Oi{C Q}(I)(s:S2 I (GL C Q)){k l h}(i:I k l h)(e:l.length=2:=by rfl):Ht C Q l h:=JV.l2 I _ s i e
def Md(C:fk)(Q:fo)(a0:V)(h:Hp):Prop:=hH (mn 30 a0) h λb j=>hH (zC 30 [nZ,nZ,nS,nS,nS]) j λc g=>oP (fX 5 b g) λk=>cP C CH [k] g λl a=>bN l (oP (fX 5 b a) λm=>cP C vj [m] a λn o=>fg (gJ 5 c n o) λt i=>oP (fX 5 c i) λp=>Q p i) (oP (fX 5 b a) λq=>cP C vj [q] a λd r=>oP (fW [nZ,nZ,nS,nS,nS,nS] [(0,5),(5,1)] [(0,d)]) λe=>hH (mn 57 e) r λf s=>Ht C Q [c,f] s)
theorem TY{C}(s:C.start=fG){a0 h Q}(k:C.K Cy [a0] h=none)(H:Md C Q a0 h):cP C Cy [a0] h Q:=cP.vd t6 s (by unfold P0;exact Tryz.func6) k H
def t20:List (Nat×List Nat):=[(175,[0,3,14,15,16])]
def xZ(C:fk)(Q:fo):LP:=JV C Tryz.f20 t20 87 [0,3,14,15,16] [] Q
def xH(C:fk)(Q:fo)(fN:LP)(i j b c a:V)(h:Hp):Prop:=bO .lss 3 a c (dX 1 b a h λd=>hV C (gi d [i]) h λe k=>oP (nt e (some j)) λf=>oP (en .add 3 a nO) λg=>fN [i,f,b,c,g] k) (Q j h)
theorem FA{C Q}(I)(s:S5 I (xH C Q)){k l h}(i:I k l h)(e:l.length=5:=by rfl):xZ C Q l h:=JV.l5 I _ s i e
def z9(C:fk)(Q:fo)(a0:V)(h:Hp):Prop:=oP (hZ a0) λg=>oP (fF 0 g) λi=>oP (fX 5 i h) λb=>cP C Br [b] h λc j=>oP (hZ a0) λd=>oP (fF 5 d) λe=>fg (gJ 1 e c j) λm k=>cP C AE [] k λa l=>oP (fD a) λf=>xZ C Q [a0,bF,a,f,nZ] l
theorem IN{C}(s:C.start=fG){a0 h Q}(k:C.K pE [a0] h=none)(H:z9 C Q a0 h):cP C pE [a0] h Q:=cP.vd t20 s (by unfold P0;exact Tryz.func20) k H
def t54:List (Nat×List Nat):=[]
def KV(C:fk)(Q:fo)(h:Hp):Prop:=hH (jK 102 1 4 V.nilFunc [(0,(V.func jD [] [])),(1,(V.func km [] [])),(2,(V.func jG [] [])),(3,(V.func ko [] []))]) h λa b=>Q a b
theorem QI{C}(s:C.start=fG){h Q}(k:C.K AE [] h=none)(H:KV C Q h):cP C AE [] h Q:=cP.vd t54 s (by unfold P0;exact Tryz.func54) k H
def t84:List (Nat×List Nat):=[(87,[0,3,20,21,22]),(22935,[0,3,20,21,22,34,35,36]),(498070,[0,3,20,21,22,34,35,36])]
def wH(C:fk)(Q:fo):LP:=JV C Tryz.f84 t84 43 [0,3,20,21,22] [] Q
def wB(C:fk)(Q:fo)(fN:LP):LP:=JV C Tryz.f84 t84 11467 [0,3,20,21,22,34,35,36] [kf [0,3,20,21,22] fN] Q
def j8(C:fk)(Q:fo)(fN:LP)(a:LP):LP:=JV C Tryz.f84 t84 249035 [0,3,20,21,22,34,35,36] [kf [0,3,20,21,22] fN,kf [0,3,20,21,22,34,35,36] a] Q
def vT(C:fk)(Q:fo)(fN:LP)(j k b c a:V)(h:Hp):Prop:=bO .lss 3 a c (dX 1 b a h λe=>oP (hZ j) λf=>oP (fF 0 f) λg=>dJ 3 g 6 e 0 h λd=>oP (fD d) λi=>wB C Q fN [j,k,b,c,a,d,i,nZ] h) (Q k h)
theorem DU{C Q}(I)(s:S5 I (vT C Q)){k l h}(i:I k l h)(e:l.length=5:=by rfl):wH C Q l h:=JV.l5 I _ s i e
def wL(C:fk)(Q:fo)(fN:LP)(j:LP)(i v b c d e f a:V)(h:Hp):Prop:=bO .lss 3 a f (dX 1 e a h λk=>oP (hZ i) λw=>oP (fF 0 w) λx=>dF 2 x h λy=>oP (gG 6 y k) λz=>oP (fX 6 z h) λA=>hH (zC 45 [nZ,nZ,nZ,nZ,nS,nZ]) h λl h1=>fg (gJ 6 l A h1) λvu h2=>oP (fX 6 l h2) λB=>cP C qb [B] h2 λg m=>dF 0 l m λD=>oP (en .lss 3 D (V.I 3)) λE=>oP (nt E (oB (fF 0 l) λF=>oB (ez F m) λG=>en .gtr 3 G (V.I 14))) λH=>oP (nt H (oB (some g) λI=>oB (fD I) λJ=>en .eql 3 J nZ)) λK=>bP K (j8 C Q fN j [i,v,b,c,d,e,f,a] m) (dX 1 g nZ m λL=>cP C jU [i,L] m λn h4=>oP (EG 0 n) λM=>oP (EG 1 n) λN=>oP (fD g) λO=>oP (en .sub 3 O nO) λP=>dX 1 g P h4 λR=>cP C jU [i,R] h4 λo h5=>oP (EG 0 o) λS=>oP (EG 1 o) λT=>dF 0 l h5 λU=>cP C Au [U,M,S] h5 λp W=>oP (EG 0 p) λX=>oP (EG 1 p) λY=>oP (jX Y (some N)) λZ=>oP (jX Z (some T)) λaa=>bP aa (oP (hZ i) λab=>oP (fF 0 ab) λac=>dF 2 ac W λq=>oP (pN .i64 X) λr=>oP (fW [nZ,nZ,nZ,nZ,nS,nZ] [(0,1),(1,1),(2,1),(3,1),(4,1),(5,1)] [(0,(V.I 2)),(3,r)]) λs=>oP (gG 6 q k) λt=>fg (gJ 6 t s W) λae h7=>j8 C Q fN j [i,bT,b,c,d,e,f,a] h7) (j8 C Q fN j [i,v,b,c,d,e,f,a] W))) (oP (en .add 3 d nO) λu=>fN [i,v,b,c,u] h)
theorem Eh{C Q fN}(I)(s:S8 I (wL C Q fN)){k l h}(i:I k l h)(e:l.length=8:=by rfl):wB C Q fN l h:=JV.l8 I _ s i e
def ug(C:fk)(Q:fo)(fN:LP)(b:LP)(j k c d e f g i:V)(h:Hp):Prop:=oP (en .add 3 i nO) λa=>b [j,k,c,d,e,f,g,a] h
theorem Dk{C Q fN a}:R8 (ug C Q fN a) (j8 C Q fN a):=JV.r8 _
def zB(C:fk)(Q:fo)(a0:V)(h:Hp):Prop:=oP (hZ a0) λb=>oP (fF 0 b) λc=>oP (fX 5 c h) λd=>cP C pU [d] h λa f=>oP (fD a) λe=>wH C Q [a0,bF,a,e,nZ] f
theorem Hr{C}(s:C.start=fG){a0 h Q}(k:C.K jD [a0] h=none)(H:zB C Q a0 h):cP C jD [a0] h Q:=cP.vd t84 s (by unfold P0;exact Tryz.func84) k H
def t85:List (Nat×List Nat):=[(87,[0,3,14,15,16]),(1942,[0,3,14,15,16]),(178583,[0,3,4,6,7,14,15,16,25,26,27]),(30,[3]),(3979670,[0,3,4,6,7,14,15,16,25,26,27])]
def yI(C:fk)(Q:fo):LP:=JV C Tryz.f85 t85 43 [0,3,14,15,16] [] Q
def nR(C:fk)(Q:fo)(fN:LP):LP:=JV C Tryz.f85 t85 971 [0,3,14,15,16] [kf [0,3,14,15,16] fN] Q
def yq(C:fk)(Q:fo)(fN:LP):LP:=JV C Tryz.f85 t85 89291 [0,3,4,6,7,14,15,16,25,26,27] [kf [0,3,14,15,16] fN] Q
def qq(C:fk)(Q:fo):LP:=JV C Tryz.f85 t85 15 [3] [] Q
def ng(C:fk)(Q:fo)(fN:LP)(a:LP):LP:=JV C Tryz.f85 t85 1989835 [0,3,4,6,7,14,15,16,25,26,27] [kf [0,3,14,15,16] fN,kf [0,3,4,6,7,14,15,16,25,26,27] a] Q
def yr(C:fk)(Q:fo)(fN:LP)(m f b c a:V)(h:Hp):Prop:=bO .lss 3 a c (oP (gG 6 b a) λg=>oP (fX 6 g h) λi=>hH (zC 45 [nZ,nZ,nZ,nZ,nS,nZ]) h λj n=>fg (gJ 6 j i n) λo e=>dF 0 j e λk=>bO .neq 3 k (V.I 21) (nR C Q fN [m,f,b,c,a] e) (dF 4 j e λd=>oP (fD d) λl=>yq C Q fN [m,f,a,(V.I (-1)),bF,b,c,a,d,l,nZ] e)) (qq C Q [f] h)
theorem GB{C Q}(I)(s:S5 I (yr C Q)){k l h}(i:I k l h)(e:l.length=5:=by rfl):yI C Q l h:=JV.l5 I _ s i e
def yy(C:fk)(Q:fo)(fN:LP)(e f a b c:V)(h:Hp):Prop:=oP (en .add 3 c nO) λd=>fN [e,f,a,b,d] h
theorem Gx{C Q fN}:R5 (yy C Q fN) (nR C Q fN):=JV.r5 _
def yx(C:fk)(Q:fo)(fN:LP)(i:LP)(k m l j n b c d e f a:V)(h:Hp):Prop:=bO .lss 3 a f (dX 1 e a h λg=>oP (en .neq 3 g l) λo=>oP (jX o (oB (some g) λp=>oB (some j) λq=>en .neq 3 p q)) λr=>bP r (oP (nt n (oB (some j) λs=>en .geq 3 s nZ)) λt=>ng C Q fN i [k,m,l,g,t,b,c,d,e,f,a] h) (ng C Q fN i [k,m,l,j,n,b,c,d,e,f,a] h)) (oP (en .geq 3 j nZ) λu=>oP (jX u (oB (some n) λv=>pA .not v)) λw=>bP w (dN 5 k h λx=>oP (gG 1 x l) λy=>fg (gJ 1 y j h) λA z=>qq C Q [bT] z) (nR C Q fN [k,m,b,c,d] h))
theorem Gz{C Q fN}(I)(s:S11 I (yx C Q fN)){k l h}(i:I k l h)(e:l.length=11:=by rfl):yq C Q fN l h:=JV.l11 I _ s i e
def qu(C:fk)(Q:fo)(a:V)(h:Hp):Prop:=Q a h
theorem yR{C Q}:R1 (qu C Q) (qq C Q):=JV.r1 _
def xW(C:fk)(Q:fo)(fN:LP)(a:LP)(j k l m n b c d e f g:V)(h:Hp):Prop:=oP (en .add 3 g nO) λi=>a [j,k,l,m,n,b,c,d,e,f,i] h
theorem E9{C Q fN a}:R11 (xW C Q fN a) (ng C Q fN a):=JV.r11 _
def By(C:fk)(Q:fo)(a0:V)(h:Hp):Prop:=oP (hZ a0) λb=>oP (fF 0 b) λc=>dF 2 c h λa=>oP (fD a) λd=>yI C Q [a0,bF,a,d,nZ] h
theorem Jz{C}(s:C.start=fG){a0 h Q}(k:C.K km [a0] h=none)(H:By C Q a0 h):cP C km [a0] h Q:=cP.vd t85 s (by unfold P0;exact Tryz.func85) k H
def t86:List (Nat×List Nat):=[(87,[0,3,12,13,14]),(1942,[0,3,12,13,14])]
def wJ(C:fk)(Q:fo):LP:=JV C Tryz.f86 t86 43 [0,3,12,13,14] [] Q
def kE(C:fk)(Q:fo)(fN:LP):LP:=JV C Tryz.f86 t86 971 [0,3,12,13,14] [kf [0,3,12,13,14] fN] Q
def vz(C:fk)(Q:fo)(fN:LP)(d g b c a:V)(h:Hp):Prop:=bO .lss 3 a c (oP (gG 6 b a) λi=>oP (fX 6 i h) λj=>hH (zC 45 [nZ,nZ,nZ,nZ,nS,nZ]) h λk v=>fg (gJ 6 k j v) λx f=>dF 0 k f λl=>bO .neq 3 l (V.I 22) (kE C Q fN [d,g,b,c,a] f) (dF 1 k f λm=>cP C jU [d,m] f λe n=>oP (EG 0 e) λo=>oP (EG 1 e) λp=>oP (jX p (oB (some o) λq=>en .neq 60 q (V.int .u64 0))) λr=>bP r (dN 5 d n λs=>oP (gG 1 s a) λt=>fg (gJ 1 t (V.I (-1)) n) λu w=>kE C Q fN [d,bT,b,c,a] w) (kE C Q fN [d,g,b,c,a] n))) (Q g h)
theorem DH{C Q}(I)(s:S5 I (vz C Q)){k l h}(i:I k l h)(e:l.length=5:=by rfl):wJ C Q l h:=JV.l5 I _ s i e
def wG(C:fk)(Q:fo)(fN:LP)(e f a b c:V)(h:Hp):Prop:=oP (en .add 3 c nO) λd=>fN [e,f,a,b,d] h
theorem Eb{C Q fN}:R5 (wG C Q fN) (kE C Q fN):=JV.r5 _
def zp(C:fk)(Q:fo)(a0:V)(h:Hp):Prop:=oP (hZ a0) λd=>oP (fF 0 d) λb=>dF 2 b h λa=>oP (fD a) λc=>wJ C Q [a0,bF,a,c,nZ] h
theorem G7{C}(s:C.start=fG){a0 h Q}(k:C.K jG [a0] h=none)(H:zp C Q a0 h):cP C jG [a0] h Q:=cP.vd t86 s (by unfold P0;exact Tryz.func86) k H
def t87:List (Nat×List Nat):=[(87,[0,3,13,14,15]),(1942,[0,3,13,14,15]),(260502,[0,4,8,13,14,15])]
def yM(C:fk)(Q:fo):LP:=JV C Tryz.f87 t87 43 [0,3,13,14,15] [] Q
def lP(C:fk)(Q:fo)(fN:LP):LP:=JV C Tryz.f87 t87 971 [0,3,13,14,15] [kf [0,3,13,14,15] fN] Q
def ni(C:fk)(Q:fo)(fN:LP):LP:=JV C Tryz.f87 t87 130251 [0,4,8,13,14,15] [kf [0,3,13,14,15] fN] Q
def yH(C:fk)(Q:fo)(fN:LP)(d j b c a:V)(h:Hp):Prop:=bO .lss 3 a c (oP (gG 6 b a) λk=>oP (fX 6 k h) λl=>hH (zC 43 [nS,nZ,nZ,nS,nS,nZ]) h λe s=>fg (gJ 6 e l s) λt i=>dF 1 e i λm=>bO .neq 3 m (V.I 2) (lP C Q fN [d,j,b,c,a] i) (dF 2 e i λn=>cP C jU [d,n] i λf g=>oP (EG 0 f) λo=>oP (EG 1 f) λp=>bN p (lP C Q fN [d,j,b,c,a] g) (dY 3 e 1 nZ g λq=>bO .eql 60 o (V.int .u64 0) (dY 3 e 1 nO g λr=>ni C Q fN [d,a,r,b,c,a] g) (ni C Q fN [d,a,q,b,c,a] g)))) (Q j h)
theorem Gv{C Q}(I)(s:S5 I (yH C Q)){k l h}(i:I k l h)(e:l.length=5:=by rfl):yM C Q l h:=JV.l5 I _ s i e
def yK(C:fk)(Q:fo)(fN:LP)(e f a b c:V)(h:Hp):Prop:=oP (en .add 3 c nO) λd=>fN [e,f,a,b,d] h
theorem Gy{C Q fN}:R5 (yK C Q fN) (lP C Q fN):=JV.r5 _
def wZ(C:fk)(Q:fo)(fN:LP)(j m H n o p:V)(h:Hp):Prop:=oP (hZ j) λq=>oP (fF 0 q) λr=>oP (fF 3 r) λc=>oP (ez c h) λd=>oP (hZ j) λs=>oP (fF 0 s) λt=>oP (fF 3 t) λe=>oP (ez e h) λf=>oP (hZ j) λu=>oP (fF 0 u) λv=>oP (fF 3 v) λg=>oP (ez g h) λi=>yU (jK 3 1 1 nZ [(0,H)]) h λa w b=>oP (gG 6 d m) λx=>oP (fF 1 x) λy=>((b.get (h.next)=some a/\O.beq a a=true)/\((ez g b=some i)/\((ez e b=some f)/\((ez c b=some d)/\fg (gJ 1 y nO b) λI k=>(b.next<=k.next/\oP (gG 6 f m) λz=>oP (fF 2 z) λA=>((k.get (h.next)=some a/\O.beq a a=true)/\fg (gJ 1 A nZ k) λE l=>(k.next<=l.next/\oP (gG 6 i m) λB=>oP (fF 3 B) λD=>((l.get (h.next)=some a/\O.beq a a=true)/\fg (gJ 1 D w l) λF G=>(l.next<=G.next/\lP C Q fN [j,bT,n,o,p] G)))))))))
theorem EJ{C Q fN}:R6 (wZ C Q fN) (ni C Q fN):=JV.r6 _
def A8(C:fk)(Q:fo)(a0:V)(h:Hp):Prop:=oP (hZ a0) λb=>oP (fF 0 b) λc=>dF 3 c h λa=>oP (fD a) λd=>yM C Q [a0,bF,a,d,nZ] h
theorem JD{C}(s:C.start=fG){a0 h Q}(k:C.K ko [a0] h=none)(H:A8 C Q a0 h):cP C ko [a0] h Q:=cP.vd t87 s (by unfold P0;exact Tryz.func87) k H
def t100:List (Nat×List Nat):=[]
def zZ(C:fk)(Q:fo)(a0 a1:V)(h:Hp):Prop:=oP (hZ a0) λk=>oP (fF 0 k) λl=>dF 2 l h λa=>oP (gG 6 a a1) λb=>oP (fX 6 b h) λc=>hH (zC 45 [nZ,nZ,nZ,nZ,nS,nZ]) h λd m=>fg (gJ 6 d c m) λn e=>dF 3 d e λf=>oP (pN .u64 f) λg=>dF 0 d e λi=>oP (en .eql 3 i (V.I 2)) λj=>Q (V.tuple [g,j]) e
theorem Iw{C}(s:C.start=fG){a0 a1 h Q}(k:C.K jU [a0,a1] h=none)(H:zZ C Q a0 a1 h):cP C jU [a0,a1] h Q:=cP.vd t100 s (by unfold P0;exact Tryz.func100) k H
def t23:List (Nat×List Nat):=[]
def Km(C:fk)(Q:fo)(a0 a1 a2:V)(h:Hp):Prop:=oP (en .lss 3 a0 (V.I 3)) λd=>oP (nt d (oB (some a0) λa=>en .gtr 3 a (V.I 14))) λb=>bP b (Q (V.tuple [(V.int .u64 0),bF]) h) (cP C E8 [a0,a1,a2] h λc e=>Q (V.tuple [c,bT]) e)
theorem Rk{C}(s:C.start=fG){a0 a1 a2 h Q}(k:C.K Au [a0,a1,a2] h=none)(H:Km C Q a0 a1 a2 h):cP C Au [a0,a1,a2] h Q:=cP.vd t23 s (by unfold P0;exact Tryz.func23) k H
def t57:List (Nat×List Nat):=[(16342,[0,1,2,7,8,13,29])]
def xN(C:fk)(Q:fo):LP:=JV C Tryz.f57 t57 8171 [0,1,2,7,8,13,29] [] Q
def Hs(C:fk)(Q:fo)(v b c d e a f:V)(h:Hp):Prop:=bP f (cP C zh [v,d,e] h λg w=>Q g w) (bO .eql 3 a (V.I 8) (oP (pA .neg b) λi=>Q i h) (bO .eql 3 a (V.I 9) (oP (en .eql 60 b (V.int .u64 0)) λj=>cP C p6 [j] h λk x=>Q k x) (bO .eql 3 a (V.I 10) (oP (en .eql 60 b c) λl=>cP C p6 [l] h λm y=>Q m y) (bO .eql 3 a (V.I 11) (oP (en .neq 60 b c) λn=>cP C p6 [n] h λo z=>Q o z) (bO .eql 3 a (V.I 12) (oP (en .lss 2 d e) λp=>cP C p6 [p] h λq A=>Q q A) (bO .eql 3 a (V.I 13) (oP (en .leq 2 d e) λr=>cP C p6 [r] h λs B=>Q s B) (bO .eql 3 a (V.I 14) (oP (en .lss 60 b c) λt=>cP C p6 [t] h λu D=>Q u D) (Q (V.int .u64 0) h))))))))
theorem OV{C Q}:R7 (Hs C Q) (xN C Q):=JV.r7 _
def Oo(C:fk)(Q:fo)(a0 a1 a2:V)(h:Hp):Prop:=oP (pN .i64 a1) λa=>oP (pN .i64 a2) λb=>bO .eql 3 a0 (V.I 3) (oP (en .add 60 a1 a2) λd=>Q d h) (bO .eql 3 a0 (V.I 4) (oP (en .sub 60 a1 a2) λe=>Q e h) (bO .eql 3 a0 (V.I 5) (oP (en .mul 60 a1 a2) λf=>Q f h) (oP (en .eql 3 a0 (V.I 6)) λc=>bP c (xN C Q [a0,a1,a2,a,b,a0,c] h) (oP (en .eql 3 a0 (V.I 7)) λg=>xN C Q [a0,a1,a2,a,b,a0,g] h))))
theorem Vi{C}(s:C.start=fG){a0 a1 a2 h Q}(k:C.K E8 [a0,a1,a2] h=none)(H:Oo C Q a0 a1 a2 h):cP C E8 [a0,a1,a2] h Q:=cP.vd t57 s (by unfold P0;exact Tryz.func57) k H
def t93:List (Nat×List Nat):=[(14,[0,1,2])]
def rP(C:fk)(Q:fo):LP:=JV C Tryz.f93 t93 7 [0,1,2] [] Q
def Ec(C:fk)(Q:fo)(g f a:V)(h:Hp):Prop:=bO .eql 2 a nZ (Q (V.int .u64 0) h) (bO .eql 3 g (V.I 6) (oP (en .quo 2 f a) λb=>oP (pN .u64 b) λc=>Q c h) (oP (en .rem 2 f a) λd=>oP (pN .u64 d) λe=>Q e h))
theorem LU{C Q}:R3 (Ec C Q) (rP C Q):=JV.r3 _
def Ja(C:fk)(Q:fo)(a0 a1 a2:V)(h:Hp):Prop:=oP (en .eql 2 a1 (V.I (-9223372036854775808))) λc=>oP (jX c (oB (some a2) λa=>en .eql 2 a (V.I (-1)))) λb=>bP b (rP C Q [a0,a1,nO] h) (rP C Q [a0,a1,a2] h)
theorem Pb{C}(s:C.start=fG){a0 a1 a2 h Q}(k:C.K zh [a0,a1,a2] h=none)(H:Ja C Q a0 a1 a2 h):cP C zh [a0,a1,a2] h Q:=cP.vd t93 s (by unfold P0;exact Tryz.func93) k H
def t94:List (Nat×List Nat):=[]
def Ny(C:fk)(Q:fo)(a0:V)(h:Hp):Prop:=bP a0 (Q (V.int .u64 1) h) (Q (V.int .u64 0) h)
theorem Uq{C}(s:C.start=fG){a0 h Q}(k:C.K p6 [a0] h=none)(H:Ny C Q a0 h):cP C p6 [a0] h Q:=cP.vd t94 s (by unfold P0;exact Tryz.func94) k H
end
