/- Parts. -/
import Derived.Test.YtpnddokajmjpbaaDoorM14
namespace Go.Proofs.YtpnddokajmjpbaaDoor.Hx
set_option maxRecDepth 100000
noncomputable section
def t33:List (Nat×List Nat):=[(87,[1,2,3,19,20,21]),(175,[1,2,3,38,39,40]),(351,[2,3,67,68,69]),(353887,[2,3,10,67,68,69,74,75,76])]
def yq (C:Cfg)(Q:QP1):LP:=JV C Tryd.f33 t33 43 [1,2,3,19,20,21] [] Q
def yr (C:Cfg)(Q:QP1):LP:=JV C Tryd.f33 t33 87 [1,2,3,38,39,40] [] Q
def yj (C:Cfg)(Q:QP1):LP:=JV C Tryd.f33 t33 175 [2,3,67,68,69] [] Q
def yp (C:Cfg)(Q:QP1)(a:LP):LP:=JV C Tryd.f33 t33 176943 [2,3,10,67,68,69,74,75,76] [kf [2,3,67,68,69] a] Q
def yk (C:Cfg)(Q:QP1)(g:LP)(i x e b c a:V)(h:Hp):Prop:=
 bO .lss 3 a c (
 oP (pIx 6 b a) λj=>
 oP (pLdA 6 j h) λk=>
 alP (zC 42 [nZ,nZ,nZ,nZ,nS,nZ]) h λf B=>
 valP (pSt 6 f k B) λI D=>
 alP (pBS 3 1 0 nZ []) D λl y=>
 dF 4 f y λm=>
 valP (happend 3 1 8 l m y) λn E=>
 oP (pFA 4 f) λo=>
 valP (pSt 1 o n E) λz p=>
 dF 2 e p λq=>
 oP (pLdA 6 f p) λr=>
 alP (pBS 42 6 1 (V.agg [nZ,nZ,nZ,nZ,nS,nZ]) [(0,r)]) p λs F=>
 valP (happend 42 6 64 q s F) λt G=>
 oP (pFA 2 e) λu=>
 valP (pSt 1 u t G) λA H=>
 oP (hbin .add 3 a nO) λv=>
 g [i,x,e,b,c,v] H) (
 dF 3 i h λd=>
 oP (pLen d) λw=>
 yr C Q [i,x,e,d,w,nZ] h)
theorem B2{C Q}(I)(s:S6 I (yk C Q)){k l h}(i:I k l h)(e:l.length=6:=by rfl):yq C Q l h:=JV.l6 I _ s i e
def yf (C:Cfg)(Q:QP1)(w:LP)(Z x2 u n o e:V)(h:Hp):Prop:=
 bO .lss 3 e o (
 oP (pIx 6 n e) λx=>
 oP (pLdA 6 x h) λy=>
 alP (zC 44 [nS,nZ,nZ,nS,nS,nZ]) h λc h1=>
 valP (pSt 6 c y h1) λvu h2=>
 alO (pBS 3 1 0 nZ []) h2 λz A v=>
 oP (pFA 0 c) λp=>
 oP (pLd p v) λq=>
 alO (pBS 3 1 0 nZ []) v λm B r=>
 oP (pFA 3 c) λf=>
 oP (pLd f r) λg=>
 alO (pBS 3 1 0 nZ []) r λa D d=>
 oP (pFA 4 c) λi=>
 oP (pLd i d) λj=>
 ((d.get (r.next)=some a/\O.beq a a=true)/\
 ((pLd f d=some g)/\
 ((d.get (v.next)=some m/\O.beq m m=true)/\
 ((pLd p d=some q)/\
 ((d.get (h2.next)=some z/\O.beq z z=true)/\
 valP (happend 3 1 8 A q d) λE k=>
 (d.next<=k.next/\
 oP (pFA 0 c) λF=>
 ((pLd i k=some j)/\
 ((k.get (r.next)=some a/\O.beq a a=true)/\
 ((pLd f k=some g)/\
 ((k.get (v.next)=some m/\O.beq m m=true)/\
 valP (happend 3 1 8 B g k) λG s=>
 (k.next<=s.next/\
 ((pLd i s=some j)/\
 ((s.get (r.next)=some a/\O.beq a a=true)/\
 valP (happend 3 1 8 D j s) λH I=>
 (s.next<=I.next/\
 valP (pSt 1 F E I) λaa J=>
 (I.next<=J.next/\
 oP (pFA 3 c) λK=>
 valP (pSt 1 K G J) λab l=>
 (J.next<=l.next/\
 oP (pFA 4 c) λL=>
 valP (pSt 1 L H l) λac b=>
 (l.next<=b.next/\
 dF 3 u b λM=>
 oP (pLdA 6 c b) λN=>
 alP (pBS 44 6 1 (V.agg [nS,nZ,nZ,nS,nS,nZ]) [(0,N)]) b λP R=>
 valP (happend 44 6 96 M P R) λS T=>
 oP (pFA 3 u) λU=>
 valP (pSt 1 U S T) λae W=>
 oP (hbin .add 3 e nO) λX=>
 w [Z,x2,u,n,o,X] W)))))))))))))))))) (
 dF 4 Z h λt=>
 oP (pLen t) λY=>
 yj C Q [x2,u,t,Y,nZ] h)
theorem B6{C Q}(I)(s:S6 I (yf C Q)){k l h}(i:I k l h)(e:l.length=6:=by rfl):yr C Q l h:=JV.l6 I _ s i e
def yi (C:Cfg)(Q:QP1)(f:LP)(g m b c a:V)(h:Hp):Prop:=
 bO .lss 3 a c (
 oP (pIx 1 b a) λi=>
 oP (pLdA 1 i h) λj=>
 alP (zC 38 [nS]) h λn r=>
 valP (pSt 1 n j r) λt s=>
 alP (zC 38 [nS]) s λk o=>
 dF 0 n o λd=>
 oP (pLen d) λl=>
 yp C Q f [g,m,k,b,c,a,d,l,nZ] o) (
 oP (pLdA 5 m h) λe=>
 valP (pSt 5 g e h) λp q=>
 oP (pLdA 5 g q) λr2=>
 Q r2 q)
theorem BY{C Q}(I)(s:S5 I (yi C Q)){k l h}(i:I k l h)(e:l.length=5:=by rfl):yj C Q l h:=JV.l5 I _ s i e
def yn (C:Cfg)(Q:QP1)(x:LP)(y:LP)(x2 u b f g i j k c:V)(h:Hp):Prop:=
 bO .lss 3 c k (
 oP (pIx 4 j c) λz=>
 oP (pLdA 4 z h) λA=>
 alP (zC 40 [nZ,nZ,nS,nS]) h λa h1=>
 valP (pSt 4 a A h1) λvu h2=>
 alO (pBS 3 1 0 nZ []) h2 λB D v=>
 oP (pFA 2 a) λl=>
 oP (pLd l v) λm=>
 alO (pBS 3 1 0 nZ []) v λd E e=>
 oP (pFA 3 a) λn=>
 oP (pLd n e) λo=>
 ((e.get (v.next)=some d/\O.beq d d=true)/\
 ((pLd l e=some m)/\
 ((e.get (h2.next)=some B/\O.beq B B=true)/\
 valP (happend 3 1 8 D m e) λF p=>
 (e.next<=p.next/\
 oP (pFA 2 a) λG=>
 ((pLd n p=some o)/\
 ((p.get (v.next)=some d/\O.beq d d=true)/\
 valP (happend 3 1 8 E o p) λH I=>
 (p.next<=I.next/\
 valP (pSt 1 G F I) λab J=>
 (I.next<=J.next/\
 oP (pFA 3 a) λK=>
 valP (pSt 1 K H J) λac w=>
 (J.next<=w.next/\
 dF 0 b w λL=>
 oP (pLdA 4 a w) λM=>
 alP (pBS 40 4 1 (V.agg [nZ,nZ,nS,nS]) [(0,M)]) w λN h9=>
 valP (happend 40 4 64 L N h9) λP R=>
 oP (pFA 0 b) λS=>
 valP (pSt 1 S P R) λae T=>
 oP (hbin .add 3 c nO) λU=>
 y [x2,u,b,f,g,i,j,k,U] T)))))))))) (
 dF 4 u h λW=>
 oP (pLdA 1 b h) λX=>
 alP (pBS 38 1 1 (V.agg [nS]) [(0,X)]) h λq Y=>
 valP (happend 38 1 24 W q Y) λr Z=>
 oP (pFA 4 u) λs=>
 valP (pSt 1 s r Z) λag aa=>
 oP (hbin .add 3 i nO) λt=>
 x [x2,u,f,g,t] aa)
theorem B7{C Q a}(I)(s:S9 I (yn C Q a)){k l h}(i:I k l h)(e:l.length=9:=by rfl):yp C Q a l h:=JV.l9 I _ s i e
def A3 (C:Cfg)(Q:QP1)(a0:V)(h:Hp):Prop:=
 alP (hbox 30 a0) h λb k=>
 alP (zC 30 [nZ,nZ,nS,nS,nS]) k λl c=>
 dF 0 b c λd=>
 dF 1 b c λe=>
 oP (pBuild [nZ,nZ,nS,nS,nS] [(0,1),(1,1),(2,1),(3,1),(4,1)] [(0,d),(1,e)]) λf=>
 alP (zC 30 [nZ,nZ,nS,nS,nS]) c λi m=>
 valP (pSt 5 i f m) λn j=>
 dF 2 b j λa=>
 oP (pLen a) λg=>
 yq C Q [b,l,i,a,g,nZ] j
theorem EY{C}(s:C.start=startF){a0 h Q}(k:C.K si [a0] h=none)(H:A3 C Q a0 h):cP C si [a0] h Q:=cP.vd t33 s (by unfold P0;exact Tryd.func33) k H
def t38:List (Nat×List Nat):=[]
def Bi (C:Cfg)(Q:QP1)(a0 a1:V)(h:Hp):Prop:=
 alP (hbox 30 a0) h λf g=>
 alP (zC 30 [nZ,nZ,nS,nS,nS]) g λc d=>
 oP (pLdA 5 f d) λi=>
 cP C si [i] d λj k=>
 oP (pBuild [nZ,nZ,nS,nS,nS,nS] [(0,5),(5,1)] [(0,j),(1,a1)]) λl=>
 alP (hbox 110 l) k λa m=>
 cP C iX [a] m λn o=>
 cP C gR [a] o λb p=>
 valP (pSt 5 c b p) λq e=>
 oP (pLdA 5 c e) λr4=>
 Q r4 e
theorem EU{C}(s:C.start=startF){a0 a1 h Q}(k:C.K sQ [a0,a1] h=none)(H:Bi C Q a0 a1 h):cP C sQ [a0,a1] h Q:=cP.vd t38 s (by unfold P0;exact Tryd.func38) k H
def t71:List (Nat×List Nat):=[(43,[0,2,38,39,40]),(175,[0,2,5,6,51,52,53]),(3886,[0,2,5,6,51,52,53]),(703,[0,2,5,9,70,71,72]),(2706623,[0,2,5,9,70,71,72,83,84,85]),(2870463,[0,2,5,9,10,11,14,15,70,71,72,97,98,99]),(1407,[0,5,9,182,183]),(15550,[0,2,5,9,70,71,72]),(63687870,[0,2,5,9,10,11,14,15,70,71,72,97,98,99]),(5754047,[0,2,5,9,11,14,15,70,71,72,134,135,136]),(366975,[0,5,9,24,182,183,190,191,192]),(46063406271,[0,2,5,9,11,14,15,20,21,70,71,72,134,135,136,152,153,154]),(127388862,[0,2,5,9,11,14,15,70,71,72,134,135,136])]
def ou (C:Cfg)(Q:QP1):LP:=JV C Tryd.f71 t71 21 [0,2,38,39,40] [] Q
def og (C:Cfg)(Q:QP1):LP:=JV C Tryd.f71 t71 87 [0,2,5,6,51,52,53] [] Q
def i9 (C:Cfg)(Q:QP1)(a:LP):LP:=JV C Tryd.f71 t71 1943 [0,2,5,6,51,52,53] [kf [0,2,5,6,51,52,53] a] Q
def oD (C:Cfg)(Q:QP1):LP:=JV C Tryd.f71 t71 351 [0,2,5,9,70,71,72] [] Q
def oO (C:Cfg)(Q:QP1)(a:LP):LP:=JV C Tryd.f71 t71 1353311 [0,2,5,9,70,71,72,83,84,85] [kf [0,2,5,9,70,71,72] a] Q
def nV (C:Cfg)(Q:QP1)(a:LP):LP:=JV C Tryd.f71 t71 1435231 [0,2,5,9,10,11,14,15,70,71,72,97,98,99] [kf [0,2,5,9,70,71,72] a] Q
def nJ (C:Cfg)(Q:QP1):LP:=JV C Tryd.f71 t71 703 [0,5,9,182,183] [] Q
def jj (C:Cfg)(Q:QP1)(a:LP):LP:=JV C Tryd.f71 t71 7775 [0,2,5,9,70,71,72] [kf [0,2,5,9,70,71,72] a] Q
def jb (C:Cfg)(Q:QP1)(a:LP)(b:LP):LP:=JV C Tryd.f71 t71 31843935 [0,2,5,9,10,11,14,15,70,71,72,97,98,99] [kf [0,2,5,9,70,71,72] a,kf [0,2,5,9,10,11,14,15,70,71,72,97,98,99] b] Q
def oh (C:Cfg)(Q:QP1)(a:LP):LP:=JV C Tryd.f71 t71 2877023 [0,2,5,9,11,14,15,70,71,72,134,135,136] [kf [0,2,5,9,70,71,72] a] Q
def oS (C:Cfg)(Q:QP1)(a:LP):LP:=JV C Tryd.f71 t71 183487 [0,5,9,24,182,183,190,191,192] [kf [0,5,9,182,183] a] Q
def oA (C:Cfg)(Q:QP1)(a:LP)(b:LP):LP:=JV C Tryd.f71 t71 23031703135 [0,2,5,9,11,14,15,20,21,70,71,72,134,135,136,152,153,154] [kf [0,2,5,9,70,71,72] a,kf [0,2,5,9,11,14,15,70,71,72,134,135,136] b] Q
def jk (C:Cfg)(Q:QP1)(a:LP)(b:LP):LP:=JV C Tryd.f71 t71 63694431 [0,2,5,9,11,14,15,70,71,72,134,135,136] [kf [0,2,5,9,70,71,72] a,kf [0,2,5,9,11,14,15,70,71,72,134,135,136] b] Q
def oG (C:Cfg)(Q:QP1)(f:LP)(m b c d a:V)(h:Hp):Prop:=
 bO .lss 3 a d (
 dX 1 c a h λg=>
 oP (pIx 1 b g) λi=>
 valP (pSt 1 i bT h) λp n=>
 oP (hbin .add 3 a nO) λj=>
 f [m,b,c,d,j] n) (
 oP (pLen b) λe=>
 alP (hmakeSlice 3 1 8 nZ e e) h λk o=>
 oP (pLen b) λl=>
 og C Q [m,b,k,nZ,b,l,nZ] o)
theorem uB{C Q}(I)(s:S5 I (oG C Q)){k l h}(i:I k l h)(e:l.length=5:=by rfl):ou C Q l h:=JV.l5 I _ s i e
def nM (C:Cfg)(Q:QP1)(d:LP)(f i g j b c a:V)(h:Hp):Prop:=
 bO .lss 3 a c (
 dX 1 b a h λk=>
 bP k (
 oP (pIx 1 g a) λl=>
 valP (pSt 1 l j h) λr q=>
 oP (hbin .add 3 j nO) λm=>
 i9 C Q d [f,i,g,m,b,c,a] q) (
 i9 C Q d [f,i,g,j,b,c,a] h)) (
 oP (pNil f) λn=>
 oP (pFA 0 n) λo=>
 dF 3 o h λe=>
 oP (pLen e) λp=>
 oD C Q [f,i,g,nS,e,p,nZ] h)
theorem uR{C Q}(I)(s:S7 I (nM C Q)){k l h}(i:I k l h)(e:l.length=7:=by rfl):og C Q l h:=JV.l7 I _ s i e
def jh (C:Cfg)(Q:QP1)(a:LP)(f g i j b c d:V)(h:Hp):Prop:=
 oP (hbin .add 3 d nO) λe=>
 a [f,g,i,j,b,c,e] h
theorem nl{C Q a}:R7 (jh C Q a) (i9 C Q a):=JV.r7 _
def oE (C:Cfg)(Q:QP1)(e:LP)(l m n k c d a:V)(h:Hp):Prop:=
 bO .lss 3 a d (
 oP (pIx 6 c a) λo=>
 oP (pLdA 6 o h) λp=>
 alP (zC 44 [nS,nZ,nZ,nS,nS,nZ]) h λb t=>
 valP (pSt 6 b p t) λu f=>
 dX 1 m a f λq=>
 bN q (
 dF 0 b f λg=>
 oP (pLen g) λr=>
 oO C Q e [l,m,n,k,c,d,a,g,r,nZ] f) (
 dF 4 b f λi=>
 oP (pLen i) λs=>
 nV C Q e [l,m,n,k,a,b,nS,nS,c,d,a,i,s,nZ] f)) (
 oP (pLen k) λj=>
 nJ C Q [l,n,k,j,nZ] h)
theorem uA{C Q}(I)(s:S7 I (oE C Q)){k l h}(i:I k l h)(e:l.length=7:=by rfl):oD C Q l h:=JV.l7 I _ s i e
def oi (C:Cfg)(Q:QP1)(g:LP)(i:LP)(j o p q b c d e f a:V)(h:Hp):Prop:=
 bO .lss 3 a f (
 dX 1 e a h λk=>
 dN 5 j h λl=>
 oP (pIx 1 l k) λm=>
 valP (pSt 1 m (V.int .i64 (-1)) h) λs r=>
 oP (hbin .add 3 a nO) λn=>
 i [j,o,p,q,b,c,d,e,f,n] r) (
 jj C Q g [j,o,p,q,b,c,d] h)
theorem uN{C Q a}(I)(s:S10 I (oi C Q a)){k l h}(i:I k l h)(e:l.length=10:=by rfl):oO C Q a l h:=JV.l10 I _ s i e
def oL (C:Cfg)(Q:QP1)(i:LP)(s:LP)(N P R T j f k l m n o p q b:V)(h:Hp):Prop:=
 bO .lss 3 b q (
 dX 1 p b h λc=>
 dX 1 P c h λa=>
 oP (pGd true a) λb5=>
 oP (gV b5 (some N)) λt=>
 oP (pGd true a) λb6=>
 oP (gV b6 (pNil t)) λu=>
 oP (pGd true a) λb7=>
 oP (gV b7 (pFA 0 u)) λv=>
 oP (pGd true a) λb8=>
 oP (gV b8 (pFA 3 v)) λw=>
 oP (pGd true a) λb9=>
 oP (gV b9 (pLd w h)) λx=>
 oP (pGd true a) λU=>
 oP (gV U (some c)) λy=>
 oP (pGd true a) λW=>
 oP (gV W (pIx 6 x y)) λz=>
 oP (pGd true a) λX=>
 oP (gV X (pFA 3 z)) λA=>
 oP (pGd true a) λY=>
 oP (gV Y (pLd A h)) λB=>
 oP (pGd true a) λZ=>
 oP (gV Z (some j)) λD=>
 oP (pGd true a) λaa=>
 oP (gC aa (some (gO,[B,D]))) λab=>cgP C ab h λE h1=>
 oP (pPick a E bF) λF=>
 bP F (
 alO (pBS 3 1 1 nZ [(0,b)]) h1 λo2 G S=>
 oP (pIx 1 R c) λd=>
 oP (pLd d S) λe=>
 alO (pBS 3 1 1 nZ [(0,e)]) S λr H I=>
 ((I.get (S.next)=some r/\O.beq r r=true)/\
 ((pLd d I=some e)/\
 ((I.get (h1.next)=some o2/\O.beq o2 o2=true)/\
 valP (happend 3 1 8 k G I) λJ K=>
 (I.next<=K.next/\
 ((K.get (S.next)=some r/\O.beq r r=true)/\
 ((pLd d K=some e)/\
 valP (happend 3 1 8 l H K) λL h5=>
 (K.next<=h5.next/\
 jb C Q i s [N,P,R,T,j,f,J,L,m,n,o,p,q,b] h5)))))))) (
 jb C Q i s [N,P,R,T,j,f,k,l,m,n,o,p,q,b] h1)) (
 dF 0 f h λg=>
 oP (pLen g) λM=>
 oh C Q i [N,P,R,T,f,k,l,m,n,o,g,M,nZ] h)
theorem us{C Q a}(I)(s:S14 I (oL C Q a)){k l h}(i:I k l h)(e:l.length=14:=by rfl):nV C Q a l h:=JV.l14 I _ s i e
def om (C:Cfg)(Q:QP1)(i:LP)(k l j b a:V)(h:Hp):Prop:=
 bO .lss 3 a b (
 dI 6 j a 3 h λc=>
 oP (pLen c) λd=>
 oS C Q i [k,l,j,a,b,a,c,d,nZ] h) (
 oP (pNil k) λe=>
 oP (pFA 0 e) λf=>
 oP (pFA 3 f) λg=>
 valP (pSt 1 g j h) λn m=>
 Q (V.tuple []) m)
theorem uT{C Q}(I)(s:S5 I (om C Q)){k l h}(i:I k l h)(e:l.length=5:=by rfl):nJ C Q l h:=JV.l5 I _ s i e
def jf (C:Cfg)(Q:QP1)(b:LP)(f g i j c d e:V)(h:Hp):Prop:=
 oP (hbin .add 3 e nO) λa=>
 b [f,g,i,j,c,d,a] h
theorem mL{C Q a}:R7 (jf C Q a) (jj C Q a):=JV.r7 _
def g0 (C:Cfg)(Q:QP1)(n:LP)(b:LP)(o p q r c d e f g i j k l m:V)(h:Hp):Prop:=
 oP (hbin .add 3 m nO) λa=>
 b [o,p,q,r,c,d,e,f,g,i,j,k,l,a] h
theorem je{C Q a b}:R14 (g0 C Q a b) (jb C Q a b):=JV.r14 _
def nQ (C:Cfg)(Q:QP1)(g:LP)(m:LP)(x y z A d e i j k l b c a:V)(h:Hp):Prop:=
 bO .lss 3 a c (
 dX 1 b a h λn=>
 oP (pNil x) λo=>
 oP (pFA 0 o) λp=>
 dF 2 p h λq=>
 oP (pIx 6 q n) λf=>
 dN 0 f h λr=>
 bO .eql 3 r (V.int .i64 21) (
 oP (pLen e) λs=>
 oA C Q g m [x,y,z,A,d,e,i,f,nS,j,k,l,b,c,a,e,s,nZ] h) (
 jk C Q g m [x,y,z,A,d,e,i,j,k,l,b,c,a] h)) (
 oP (pFA 4 d) λt=>
 valP (pSt 1 t i h) λF B=>
 oP (pLdA 6 d B) λu=>
 alP (pBS 44 6 1 (V.agg [nS,nZ,nZ,nS,nS,nZ]) [(0,u)]) B λv D=>
 valP (happend 44 6 96 A v D) λw E=>
 jj C Q g [x,y,z,w,j,k,l] E)
theorem uP{C Q a}(I)(s:S13 I (nQ C Q a)){k l h}(i:I k l h)(e:l.length=13:=by rfl):oh C Q a l h:=JV.l13 I _ s i e
def nU (C:Cfg)(Q:QP1)(n:LP)(o:LP)(r p q f b c d e a:V)(h:Hp):Prop:=
 bO .lss 3 a e (
 dX 1 d a h λg=>
 dI 6 q f 3 h λi=>
 dX 1 p g h λj=>
 oP (pIx 1 i a) λk=>
 valP (pSt 1 k j h) λt s=>
 (h.next<=s.next/\
 oP (hbin .add 3 a nO) λl=>
 o [r,p,q,f,b,c,d,e,l] s)) (
 oP (hbin .add 3 c nO) λm=>
 n [r,p,q,b,m] h)
theorem uW{C Q a}(I)(s:S9 I (nU C Q a)){k l h}(i:I k l h)(e:l.length=9:=by rfl):oS C Q a l h:=JV.l9 I _ s i e
def oH (C:Cfg)(Q:QP1)(x:LP)(y:LP)(z:LP)(A B D E i j k g l m n o b c d e f a:V)(h:Hp):Prop:=
 bO .lss 3 a f (
 dX 1 e a h λp=>
 dN 4 g h λq=>
 dX 1 q p h λr=>
 alP (pBS 3 1 1 nZ [(0,r)]) h λs F=>
 valP (happend 3 1 8 l s F) λt G=>
 oP (hbin .add 3 a nO) λu=>
 z [A,B,D,E,i,j,k,g,t,m,n,o,b,c,d,e,f,u] G) (
 oP (pNil g) λv=>
 oP (pFA 4 v) λw=>
 valP (pSt 1 w l h) λI H=>
 jk C Q x y [A,B,D,E,i,j,k,m,n,o,b,c,d] H)
theorem uw{C Q a b}(I)(s:S18 I (oH C Q a b)){k l h}(i:I k l h)(e:l.length=18:=by rfl):oA C Q a b l h:=JV.l18 I _ s i e
def ji (C:Cfg)(Q:QP1)(m:LP)(e:LP)(n o p q f g i j k l a b c:V)(h:Hp):Prop:=
 oP (hbin .add 3 c nO) λd=>
 e [n,o,p,q,f,g,i,j,k,l,a,b,d] h
theorem mZ{C Q a b}:R13 (ji C Q a b) (jk C Q a b):=JV.r13 _
def qV (C:Cfg)(Q:QP1)(a0:V)(h:Hp):Prop:=
 oP (pNil a0) λc=>
 oP (pFA 0 c) λd=>
 dG 3 d h λa=>
 alP (hmakeSlice 4 1 1 bF a a) h λe k=>
 oP (pNil a0) λf=>
 oP (pFA 0 f) λg=>
 oP (pLdA 5 g k) λi=>
 cP C kI [i] k λb l=>
 oP (pLen b) λj=>
 ou C Q [a0,e,b,j,nZ] l
theorem wY{C}(s:C.start=startF){a0 h Q}(k:C.K iX [a0] h=none)(H:qV C Q a0 h):cP C iX [a0] h Q:=cP.vd t71 s (by unfold P0;exact Tryd.func71) k H
def t100:List (Nat×List Nat):=[(43,[0,1,5])]
def pY (C:Cfg)(Q:QP1):LP:=JV C Tryd.f100 t100 21 [0,1,5] [] Q
def p8 (C:Cfg)(Q:QP1)(c:LP)(a b z:V)(h:Hp):Prop:=
 dN 5 a h λA=>
 dX 1 A b h λd=>
 oP (hbin .geq 3 d nZ) λe=>
 oP (pAnd e (oB (some a) λf=>oB (pNil f) λg=>oB (pFA 5 g) λi=>oB (pLd i h) λj=>oB (some b) λk=>oB (pIx 1 j k) λl=>oB (pLd l h) λm=>oB (some b) λn=>hbin .neq 3 m n)) λo=>
 oP (pAnd o (oB (some z) λp=>oB (some a) λq=>oB (pNil q) λr=>oB (pFA 5 r) λs=>oB (pLd s h) λt=>oB (pLen t) λu=>hbin .leq 3 p u)) λv=>
 bP v (
 dN 5 a h λw=>
 dX 1 w b h λx=>
 oP (hbin .add 3 z nO) λy=>
 c [a,x,y] h) (
 Q b h)
theorem wk{C Q}(I)(s:S3 I (p8 C Q)){k l h}(i:I k l h)(e:l.length=3:=by rfl):pY C Q l h:=JV.l3 I _ s i e
def sV (C:Cfg)(Q:QP1)(a0 a1:V)(h:Hp):Prop:=
 pY C Q [a0,a1,nZ] h
theorem yR{C}(s:C.start=startF){a0 a1 h Q}(k:C.K fX [a0,a1] h=none)(H:sV C Q a0 a1 h):cP C fX [a0,a1] h Q:=cP.vd t100 s (by unfold P0;exact Tryd.func100) k H
def t72:List (Nat×List Nat):=[(351,[1,2,3,4,5,41,42]),(353887,[1,2,3,4,5,6,7,41,42,53,54,55]),(5631,[1,2,3,4,11,12,96,97,98]),(7956062,[1,2,3,4,5,6,7,41,42,53,54,55]),(1992190,[1,2,3,4,11,12,15,96,97,98]),(11263,[1,2,3,4,12,165,166,167]),(4089342,[1,2,3,4,11,12,15,96,97,98]),(1887230,[1,2,3,4,12,17,165,166,167]),(8283646,[1,2,3,4,11,12,15,96,97,98]),(16672254,[1,2,3,4,11,12,15,96,97,98])]
def mR (C:Cfg)(Q:QP1):LP:=JV C Tryd.f72 t72 175 [1,2,3,4,5,41,42] [] Q
def ng (C:Cfg)(Q:QP1)(a:LP):LP:=JV C Tryd.f72 t72 176943 [1,2,3,4,5,6,7,41,42,53,54,55] [kf [1,2,3,4,5,41,42] a] Q
def hH (C:Cfg)(Q:QP1):LP:=JV C Tryd.f72 t72 2815 [1,2,3,4,11,12,96,97,98] [] Q
def iO (C:Cfg)(Q:QP1)(a:LP)(b:LP):LP:=JV C Tryd.f72 t72 3978031 [1,2,3,4,5,6,7,41,42,53,54,55] [kf [1,2,3,4,5,41,42] a,kf [1,2,3,4,5,6,7,41,42,53,54,55] b] Q
def gP (C:Cfg)(Q:QP1)(a:LP):LP:=JV C Tryd.f72 t72 996095 [1,2,3,4,11,12,15,96,97,98] [kf [1,2,3,4,11,12,96,97,98] a] Q
def hJ (C:Cfg)(Q:QP1):LP:=JV C Tryd.f72 t72 5631 [1,2,3,4,12,165,166,167] [] Q
def gK (C:Cfg)(Q:QP1)(a:LP):LP:=JV C Tryd.f72 t72 2044671 [1,2,3,4,11,12,15,96,97,98] [kf [1,2,3,4,11,12,96,97,98] a] Q
def f5 (C:Cfg)(Q:QP1)(a:LP):LP:=JV C Tryd.f72 t72 943615 [1,2,3,4,12,17,165,166,167] [kf [1,2,3,4,12,165,166,167] a] Q
def gL (C:Cfg)(Q:QP1)(a:LP):LP:=JV C Tryd.f72 t72 4141823 [1,2,3,4,11,12,15,96,97,98] [kf [1,2,3,4,11,12,96,97,98] a] Q
def gM (C:Cfg)(Q:QP1)(a:LP):LP:=JV C Tryd.f72 t72 8336127 [1,2,3,4,11,12,15,96,97,98] [kf [1,2,3,4,11,12,96,97,98] a] Q
def na (C:Cfg)(Q:QP1)(g:LP)(c s i j k d a:V)(h:Hp):Prop:=
 bO .lss 3 a d (
 oP (pLd c h) λm=>
 oP (pNil m) λn=>
 oP (pFA 0 n) λo=>
 dJ 3 o 6 a 0 h λe=>
 oP (pLen e) λp=>
 ng C Q g [c,s,i,j,k,a,nS,d,a,e,p,nZ] h) (
 alP (some (.map [] 0,λl=> .map l)) h λq u=>
 alP (zC 139 [V.nilMap]) u λf v=>
 valP (pSt 1 f q v) λz w=>
 alP (zC 140 [V.nilFunc]) w λb x=>
 valP (pSt 1 b (V.func fH [] [j,c]) x) λt y=>
 oP (pLen k) λr=>
 hH C Q [c,s,i,j,b,(V.func ex [] [f,i,c,b]),k,r,nZ] y)
theorem uo{C Q}(I)(s:S7 I (na C Q)){k l h}(i:I k l h)(e:l.length=7:=by rfl):mR C Q l h:=JV.l7 I _ s i e
def mS (C:Cfg)(Q:QP1)(c:LP)(i:LP)(j m n l k o p d e f g a:V)(h:Hp):Prop:=
 bO .lss 3 a g (
 dX 1 f a h λb=>
 oP (pLd j h) λq=>
 dN 5 q h λr=>
 dX 1 r b h λs=>
 bO .eql 3 s b (
 oP (pLd l h) λt=>
 oP (pLen k) λu=>
 oP (pIx 1 t b) λv=>
 valP (pSt 1 v u h) λR K=>
 oP (pLen k) λw=>
 alP (pBS 3 1 1 nZ [(0,w)]) K λx L=>
 valP (happend 3 1 8 p x L) λy M=>
 alP (pBS 3 1 1 nZ [(0,b)]) M λz N=>
 valP (happend 3 1 8 k z N) λA O=>
 iO C Q c i [j,m,n,l,A,o,y,d,e,f,g,a] O) (
 iO C Q c i [j,m,n,l,k,o,p,d,e,f,g,a] h)) (
 oP (pLd j h) λB=>
 oP (pNil B) λD=>
 oP (pFA 0 D) λE=>
 dF 3 E h λF=>
 oP (pIx 6 F o) λG=>
 oP (pFA 0 G) λH=>
 valP (pSt 1 H p h) λJ P=>
 oP (hbin .add 3 e nO) λI=>
 c [j,m,n,l,k,d,I] P)
theorem un{C Q a}(I)(s:S12 I (mS C Q a)){k l h}(i:I k l h)(e:l.length=12:=by rfl):ng C Q a l h:=JV.l12 I _ s i e
def mM (C:Cfg)(Q:QP1)(k:LP)(i H I l m e f g b:V)(h:Hp):Prop:=
 bO .lss 3 b g (
 dX 1 f b h λn=>
 oP (pLd i h) λo=>
 oP (pNil o) λp=>
 oP (pFA 0 p) λq=>
 dF 2 q h λr=>
 oP (pIx 6 r n) λs=>
 oP (pLdA 6 s h) λt=>
 alP (zC 42 [nZ,nZ,nZ,nZ,nS,nZ]) h λa M=>
 valP (pSt 6 a t M) λN J=>
 dF 0 a J λu=>
 cP C oC [u] J λv j=>
 bO .gtr 3 v nZ (
 oP (pLd l j) λc=>
 oP (pLd i j) λw=>
 dF 1 a j λx=>
 cP C fX [w,x] j λy z=>
 (j.next<=z.next/\
 dX 1 c y z λA=>
 oP (pFA 1 a) λB=>
 ((pLd l z=some c)/\
 valP (pSt 1 B A z) λK L=>
 (z.next<=L.next/\
 gP C Q k [i,H,I,l,m,e,a,f,g,b] L)))) (
 gP C Q k [i,H,I,l,m,e,a,f,g,b] j)) (
 oP (pLd i h) λD=>
 oP (pNil D) λE=>
 oP (pFA 0 E) λF=>
 dF 3 F h λd=>
 oP (pLen d) λG=>
 hJ C Q [i,H,I,l,e,d,G,nZ] h)
theorem uj{C Q}(I)(s:S9 I (mM C Q)){k l h}(i:I k l h)(e:l.length=9:=by rfl):hH C Q l h:=JV.l9 I _ s i e
def iQ (C:Cfg)(Q:QP1)(i:LP)(a:LP)(j k l m n o p b c d e f:V)(h:Hp):Prop:=
 oP (hbin .add 3 f nO) λg=>
 a [j,k,l,m,n,o,p,b,c,d,e,g] h
theorem mm{C Q a b}:R12 (iQ C Q a b) (iO C Q a b):=JV.r12 _
def lP (C:Cfg)(Q:QP1)(d:LP)(t u v s e f a g i j:V)(h:Hp):Prop:=
 dF 0 a h λk=>
 cP C oC [k] h λl c=>
 bO .gtr 3 l nO (
 oP (pLd s c) λb=>
 oP (pLd t c) λm=>
 dF 2 a c λn=>
 cP C fX [m,n] c λo p=>
 (c.next<=p.next/\
 dX 1 b o p λq=>
 oP (pFA 2 a) λr=>
 ((pLd s p=some b)/\
 valP (pSt 1 r q p) λx w=>
 (p.next<=w.next/\
 gK C Q d [t,u,v,s,e,f,a,g,i,j] w)))) (
 gK C Q d [t,u,v,s,e,f,a,g,i,j] c)
theorem th{C Q a}:R10 (lP C Q a) (gP C Q a):=JV.r10 _
def mU (C:Cfg)(Q:QP1)(j:LP)(y k z l e c d b:V)(h:Hp):Prop:=
 bO .lss 3 b d (
 oP (pIx 6 c b) λm=>
 oP (pLdA 6 m h) λn=>
 alP (zC 44 [nS,nZ,nZ,nS,nS,nZ]) h λa G=>
 valP (pSt 6 a n G) λJ f=>
 dF 1 a f λg=>
 bO .eql 3 g (V.int .i64 2) (
 oP (pLd l f) λi=>
 oP (pLd y f) λo=>
 dF 2 a f λp=>
 cP C fX [o,p] f λq r=>
 (f.next<=r.next/\
 dX 1 i q r λs=>
 oP (pFA 2 a) λt=>
 ((pLd l r=some i)/\
 valP (pSt 1 t s r) λA B=>
 (r.next<=B.next/\
 f5 C Q j [y,k,z,l,e,a,c,d,b] B)))) (
 bO .eql 3 g (V.int .i64 3) (
 dF 5 a f λu=>
 calP C (hcall e [u]) f λv H=>
 oP (pFA 5 a) λw=>
 valP (pSt 1 w v H) λD I=>
 f5 C Q j [y,k,z,l,e,a,c,d,b] I) (
 f5 C Q j [y,k,z,l,e,a,c,d,b] f))) (
 oP (pLdA 5 z h) λx=>
 valP (pSt 5 k x h) λE F=>
 oP (pLdA 5 k F) λr2=>
 Q r2 F)
theorem ua{C Q}(I)(s:S8 I (mU C Q)){k l h}(i:I k l h)(e:l.length=8:=by rfl):hJ C Q l h:=JV.l8 I _ s i e
def lI (C:Cfg)(Q:QP1)(c:LP)(p q r s b d a e f g:V)(h:Hp):Prop:=
 dF 0 a h λi=>
 oP (hbin .eql 3 i (V.int .i64 21)) λj=>
 oP (pOr j (oB (pFA 0 a) λk=>oB (pLd k h) λl=>hbin .eql 3 l (V.int .i64 20))) λm=>
 bP m (
 oP (pLd b h) λn=>
 dF 4 a h λo=>
 calP C (hcall n [o]) h λt u=>
 gL C Q c [p,q,r,s,b,d,a,e,f,g] u) (
 gL C Q c [p,q,r,s,b,d,a,e,f,g] h)
theorem tD{C Q a}:R10 (lI C Q a) (gK C Q a):=JV.r10 _
def mI (C:Cfg)(Q:QP1)(k:LP)(o p l q m n a b c:V)(h:Hp):Prop:=
 dF 3 l h λd=>
 oP (pLdA 6 n h) λe=>
 alP (pBS 44 6 1 (V.agg [nS,nZ,nZ,nS,nS,nZ]) [(0,e)]) h λf r=>
 valP (happend 44 6 96 d f r) λg s=>
 oP (pFA 3 l) λi=>
 valP (pSt 1 i g s) λu t=>
 oP (hbin .add 3 c nO) λj=>
 k [o,p,l,q,m,a,b,j] t
theorem tA{C Q a}:R9 (mI C Q a) (f5 C Q a):=JV.r9 _
def ma (C:Cfg)(Q:QP1)(c:LP)(o p q r d b a e f g:V)(h:Hp):Prop:=
 dF 0 a h λi=>
 cP C jW [i] h λj n=>
 bP j (
 dF 5 a n λk=>
 calP C (hcall b [k]) n λl s=>
 oP (pFA 5 a) λm=>
 valP (pSt 1 m l s) λu t=>
 gM C Q c [o,p,q,r,d,b,a,e,f,g] t) (
 gM C Q c [o,p,q,r,d,b,a,e,f,g] n)
theorem tm{C Q a}:R10 (ma C Q a) (gL C Q a):=JV.r10 _
def lO (C:Cfg)(Q:QP1)(g:LP)(p q i r j k l m n o:V)(h:Hp):Prop:=
 dF 2 i h λa=>
 oP (pLdA 6 l h) λb=>
 alP (pBS 42 6 1 (V.agg [nZ,nZ,nZ,nZ,nS,nZ]) [(0,b)]) h λc s=>
 valP (happend 42 6 64 a c s) λd t=>
 oP (pFA 2 i) λe=>
 valP (pSt 1 e d t) λv u=>
 oP (hbin .add 3 o nO) λf=>
 g [p,q,i,r,j,k,m,n,f] u
theorem tx{C Q a}:R10 (lO C Q a) (gM C Q a):=JV.r10 _
def qf (C:Cfg)(Q:QP1)(a0:V)(h:Hp):Prop:=
 alP (hbox 108 a0) h λa F=>
 alP (zC 30 [nZ,nZ,nS,nS,nS]) F λG d=>
 oP (pLd a d) λe=>
 oP (pNil e) λn=>
 oP (pFA 0 n) λo=>
 oP (pFA 0 o) λf=>
 oP (pLd f d) λg=>
 oP (pLd a d) λi=>
 oP (pNil i) λp=>
 oP (pFA 0 p) λq=>
 oP (pFA 1 q) λj=>
 oP (pLd j d) λk=>
 oP (pBuild [nZ,nZ,nS,nS,nS] [(0,1),(1,1),(2,1),(3,1),(4,1)] [(0,g),(1,k)]) λr=>
 alO (zC 30 [nZ,nZ,nS,nS,nS]) d λb B c=>
 ((c.get (d.next)=some b/\O.beq b b=true)/\
 ((pLd j c=some k)/\
 ((pLd a c=some i)/\
 ((pLd f c=some g)/\
 ((pLd a c=some e)/\
 valP (pSt 5 B r c) λJ m=>
 (c.next<=m.next/\
 oP (pLd a m) λs=>
 oP (pNil s) λt=>
 oP (pFA 0 t) λu=>
 dG 2 u m λl=>
 alP (hmakeSlice 3 1 8 nZ l l) m λv H=>
 alP (zC 23 [nS]) H λD I=>
 valP (pSt 1 D v I) λE w=>
 oP (pLd a w) λx=>
 oP (pNil x) λy=>
 oP (pFA 0 y) λz=>
 dG 3 z w λA=>
 mR C Q [a,G,B,D,nS,A,nZ] w))))))
theorem we{C}(s:C.start=startF){a0 h Q}(k:C.K gR [a0] h=none)(H:qf C Q a0 h):cP C gR [a0] h Q:=cP.vd t72 s (by unfold P0;exact Tryd.func72) k H
def t99:List (Nat×List Nat):=[(11,[0,1,2,6,7,8])]
def kY (C:Cfg)(Q:QP1):LP:=JV C Tryd.f99 t99 5 [0,1,2,6,7,8] [] Q
def kH (C:Cfg)(Q:QP1)(d:LP)(m e n o p c:V)(h:Hp):Prop:=
 bO .lss 3 c p (
 dX 1 o c h λf=>
 oP (pLd e h) λa=>
 oP (pLd n h) λg=>
 cP C fX [g,f] h λi b=>
 (h.next<=b.next/\
 dX 1 a i b λj=>
 oP (pIx 1 m c) λk=>
 ((pLd e b=some a)/\
 valP (pSt 1 k j b) λr q=>
 (b.next<=q.next/\
 oP (hbin .add 3 c nO) λl=>
 d [m,e,n,o,p,l] q)))) (
 Q (V.tuple []) h)
theorem sh{C Q}(I)(s:S6 I (kH C Q)){k l h}(i:I k l h)(e:l.length=6:=by rfl):kY C Q l h:=JV.l6 I _ s i e
def oK (C:Cfg)(Q:QP1)(a0 a1 a2:V)(h:Hp):Prop:=
 oP (pLen a0) λa=>
 kY C Q [a0,a1,a2,a0,a,nZ] h
theorem uz{C}(s:C.start=startF){a0 a1 a2 h Q}(k:C.K fH [a0,a1,a2] h=none)(H:oK C Q a0 a1 a2 h):cP C fH [a0,a1,a2] h Q:=cP.vd t99 s (by unfold P0;exact Tryd.func99) k H
def t101:List (Nat×List Nat):=[(2775,[0,2,3,4,7,33,34,35]),(30,[7])]
def lg (C:Cfg)(Q:QP1):LP:=JV C Tryd.f101 t101 1387 [0,2,3,4,7,33,34,35] [] Q
def iH (C:Cfg)(Q:QP1):LP:=JV C Tryd.f101 t101 15 [7] [] Q
def kT (C:Cfg)(Q:QP1)(o:LP)(I p q r J e f a:V)(h:Hp):Prop:=
 bO .lss 3 a f (
 oP (pIx 4 e a) λs=>
 oP (pLdA 4 s h) λt=>
 alP (zC 40 [nZ,nZ,nS,nS]) h λb M=>
 valP (pSt 4 b t M) λS u=>
 oP (pLd r u) λv=>
 dF 2 b u λw=>
 calP C (hcall v [w]) u λN x=>
 oP (pLd r x) λy=>
 dF 3 b x λz=>
 calP C (hcall y [z]) x λP R=>
 oP (hbin .add 3 a nO) λA=>
 o [I,p,q,r,J,e,f,A] R) (
 oP (pFA 4 p) λg=>
 oP (pLd g h) λi=>
 oP (pLd q h) λj=>
 oP (pNil j) λB=>
 oP (pFA 0 B) λD=>
 oP (pFA 4 D) λk=>
 oP (pLd k h) λl=>
 oP (pIx 1 l I) λm=>
 oP (pLdA 1 m h) λn=>
 alO (pBS 38 1 1 (V.agg [nS]) [(0,n)]) h λc E d=>
 ((d.get (h.next)=some c/\O.beq c c=true)/\
 ((pLdA 1 m d=some n)/\
 ((pLd k d=some l)/\
 ((pLd q d=some j)/\
 ((pLd g d=some i)/\
 valP (happend 38 1 24 i E d) λF G=>
 (d.next<=G.next/\
 oP (pFA 4 p) λH=>
 valP (pSt 1 H F G) λK L=>
 (G.next<=L.next/\
 iH C Q [J] L))))))))
theorem sy{C Q}(I)(s:S8 I (kT C Q)){k l h}(i:I k l h)(e:l.length=8:=by rfl):lg C Q l h:=JV.l8 I _ s i e
def iG (C:Cfg)(Q:QP1)(a:V)(h:Hp):Prop:=
 Q a h
theorem lh{C Q}:R1 (iG C Q) (iH C Q):=JV.r1 _
def nW (C:Cfg)(Q:QP1)(a0 a1 a2 a3 a4:V)(h:Hp):Prop:=
 oP (pLd a1 h) λd=>
 oP (pLook 3 none nZ true d a0 h) λa=>
 oP (pExt 0 a) λe=>
 oP (pExt 1 a) λf=>
 bN f (
 dG 4 a2 h λb=>
 oP (pLd a1 h) λg=>
 valP (hput 3 none g a0 b h) λn i=>
 oP (pLd a3 i) λj=>
 oP (pNil j) λk=>
 oP (pFA 0 k) λl=>
 dJ 4 l 1 a0 0 i λc=>
 oP (pLen c) λm=>
 lg C Q [a0,a2,a3,a4,b,c,m,nZ] i) (
 iH C Q [e] h)
theorem uM{C}(s:C.start=startF){a0 a1 a2 a3 a4 h Q}(k:C.K ex [a0,a1,a2,a3,a4] h=none)(H:nW C Q a0 a1 a2 a3 a4 h):cP C ex [a0,a1,a2,a3,a4] h Q:=cP.vd t101 s (by unfold P0;exact Tryd.func101) k H
def t37:List (Nat×List Nat):=[(87,[3,10,11])]
def yl (C:Cfg)(Q:QP1):LP:=JV C Tryd.f37 t37 43 [3,10,11] [] Q
def yh (C:Cfg)(Q:QP1)(c:LP)(d b a:V)(h:Hp):Prop:=
 bO .lss 3 a b (
 oP (pIx 1 d a) λe=>
 valP (pSt 1 e a h) λi g=>
 oP (hbin .add 3 a nO) λf=>
 c [d,b,f] g) (
 Q d h)
theorem B3{C Q}(I)(s:S3 I (yh C Q)){k l h}(i:I k l h)(e:l.length=3:=by rfl):yl C Q l h:=JV.l3 I _ s i e
def A4 (C:Cfg)(Q:QP1)(a0:V)(h:Hp):Prop:=
 alP (hbox 30 a0) h λe b=>
 dG 2 e b λc=>
 alP (hmakeSlice 3 1 8 nZ c c) b λd f=>
 oP (pLen d) λa=>
 yl C Q [d,a,nZ] f
theorem EM{C}(s:C.start=startF){a0 h Q}(k:C.K vK [a0] h=none)(H:A4 C Q a0 h):cP C vK [a0] h Q:=cP.vd t37 s (by unfold P0;exact Tryd.func37) k H
def t98:List (Nat×List Nat):=[]
def mf (C:Cfg)(Q:QP1)(a0 a1:V)(h:Hp):Prop:=
 cP C jU [a0,a1] h λa b=>
 oP (hbin .geq 3 a nZ) λc=>
 Q c b
theorem tJ{C}(s:C.start=startF){a0 a1 h Q}(k:C.K gO [a0,a1] h=none)(H:mf C Q a0 a1 h):cP C gO [a0,a1] h Q:=cP.vd t98 s (by unfold P0;exact Tryd.func98) k H
def t112:List (Nat×List Nat):=[(43,[0,1,7,8])]
def mp (C:Cfg)(Q:QP1):LP:=JV C Tryd.f112 t112 21 [0,1,7,8] [] Q
def lT (C:Cfg)(Q:QP1)(b:LP)(e f g a:V)(h:Hp):Prop:=
 bO .lss 3 a g (
 dX 1 e a h λc=>
 bO .eql 3 f c (
 Q a h) (
 oP (hbin .add 3 a nO) λd=>
 b [e,f,g,d] h)) (
 Q (V.int .i64 (-1)) h)
theorem tI{C Q}(I)(s:S4 I (lT C Q)){k l h}(i:I k l h)(e:l.length=4:=by rfl):mp C Q l h:=JV.l4 I _ s i e
def oX (C:Cfg)(Q:QP1)(a0 a1:V)(h:Hp):Prop:=
 oP (pLen a0) λa=>
 mp C Q [a0,a1,a,nZ] h
theorem vB{C}(s:C.start=startF){a0 a1 h Q}(k:C.K jU [a0,a1] h=none)(H:oX C Q a0 a1 h):cP C jU [a0,a1] h Q:=cP.vd t112 s (by unfold P0;exact Tryd.func112) k H
end
