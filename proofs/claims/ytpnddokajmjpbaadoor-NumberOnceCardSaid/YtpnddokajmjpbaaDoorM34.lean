/- Parts. -/
import Derived.Test.YtpnddokajmjpbaaDoorM14
namespace Go.Proofs.YtpnddokajmjpbaaDoor.Hx
set_option maxRecDepth 100000
noncomputable section
def t33:List (Nat×List Nat):=[(87,[1,2,3,19,20,21]),(175,[1,2,3,38,39,40]),(351,[2,3,67,68,69]),(353887,[2,3,10,67,68,69,74,75,76])]
def ER (C:fu)(Q:fx):LP:=JV C Tryd.f33 t33 43 [1,2,3,19,20,21] [] Q
def ET (C:fu)(Q:fx):LP:=JV C Tryd.f33 t33 87 [1,2,3,38,39,40] [] Q
def E2 (C:fu)(Q:fx):LP:=JV C Tryd.f33 t33 175 [2,3,67,68,69] [] Q
def E0 (C:fu)(Q:fx)(a:LP):LP:=JV C Tryd.f33 t33 176943 [2,3,10,67,68,69,74,75,76] [kf [2,3,67,68,69] a] Q
def EU (C:fu)(Q:fx)(g:LP)(i x e b c a:V)(h:Hp):Prop:=
 bO .lss 3 a c (
 oP (gD 6 b a) λj=>
 oP (gg 6 j h) λk=>
 ij (zC 42 [nZ,nZ,nZ,nZ,nS,nZ]) h λf B=>
 fm (gB 6 f k B) λI D=>
 ij (iZ 3 1 0 nZ []) D λl y=>
 dF 4 f y λm=>
 fm (eR 3 1 8 l m y) λn E=>
 oP (fH 4 f) λo=>
 fm (gB 1 o n E) λz p=>
 dF 2 e p λq=>
 oP (gg 6 f p) λr=>
 ij (iZ 42 6 1 (V.agg [nZ,nZ,nZ,nZ,nS,nZ]) [(0,r)]) p λs F=>
 fm (eR 42 6 64 q s F) λt G=>
 oP (fH 2 e) λu=>
 fm (gB 1 u t G) λA H=>
 oP (er .add 3 a nO) λv=>
 g [i,x,e,b,c,v] H) (
 dF 3 i h λd=>
 oP (fD d) λw=>
 ET C Q [i,x,e,d,w,nZ] h)
theorem K8{C Q}(I)(s:S6 I (EU C Q)){k l h}(i:I k l h)(e:l.length=6:=by rfl):ER C Q l h:=JV.l6 I _ s i e
def E5 (C:fu)(Q:fx)(w:LP)(Z x2 u n o e:V)(h:Hp):Prop:=
 bO .lss 3 e o (
 oP (gD 6 n e) λx=>
 oP (gg 6 x h) λy=>
 ij (zC 44 [nS,nZ,nZ,nS,nS,nZ]) h λc h1=>
 fm (gB 6 c y h1) λvu h2=>
 wS (iZ 3 1 0 nZ []) h2 λz A v=>
 oP (fH 0 c) λp=>
 oP (ev p v) λq=>
 wS (iZ 3 1 0 nZ []) v λm B r=>
 oP (fH 3 c) λf=>
 oP (ev f r) λg=>
 wS (iZ 3 1 0 nZ []) r λa D d=>
 oP (fH 4 c) λi=>
 oP (ev i d) λj=>
 ((d.get (r.next)=some a/\O.beq a a=true)/\
 ((ev f d=some g)/\
 ((d.get (v.next)=some m/\O.beq m m=true)/\
 ((ev p d=some q)/\
 ((d.get (h2.next)=some z/\O.beq z z=true)/\
 fm (eR 3 1 8 A q d) λE k=>
 (d.next<=k.next/\
 oP (fH 0 c) λF=>
 ((ev i k=some j)/\
 ((k.get (r.next)=some a/\O.beq a a=true)/\
 ((ev f k=some g)/\
 ((k.get (v.next)=some m/\O.beq m m=true)/\
 fm (eR 3 1 8 B g k) λG s=>
 (k.next<=s.next/\
 ((ev i s=some j)/\
 ((s.get (r.next)=some a/\O.beq a a=true)/\
 fm (eR 3 1 8 D j s) λH I=>
 (s.next<=I.next/\
 fm (gB 1 F E I) λaa J=>
 (I.next<=J.next/\
 oP (fH 3 c) λK=>
 fm (gB 1 K G J) λab l=>
 (J.next<=l.next/\
 oP (fH 4 c) λL=>
 fm (gB 1 L H l) λac b=>
 (l.next<=b.next/\
 dF 3 u b λM=>
 oP (gg 6 c b) λN=>
 ij (iZ 44 6 1 (V.agg [nS,nZ,nZ,nS,nS,nZ]) [(0,N)]) b λP R=>
 fm (eR 44 6 96 M P R) λS T=>
 oP (fH 3 u) λU=>
 fm (gB 1 U S T) λae W=>
 oP (er .add 3 e nO) λX=>
 w [Z,x2,u,n,o,X] W)))))))))))))))))) (
 dF 4 Z h λt=>
 oP (fD t) λY=>
 E2 C Q [x2,u,t,Y,nZ] h)
theorem Lk{C Q}(I)(s:S6 I (E5 C Q)){k l h}(i:I k l h)(e:l.length=6:=by rfl):ET C Q l h:=JV.l6 I _ s i e
def E7 (C:fu)(Q:fx)(f:LP)(g m b c a:V)(h:Hp):Prop:=
 bO .lss 3 a c (
 oP (gD 1 b a) λi=>
 oP (gg 1 i h) λj=>
 ij (zC 38 [nS]) h λn r=>
 fm (gB 1 n j r) λt s=>
 ij (zC 38 [nS]) s λk o=>
 dF 0 n o λd=>
 oP (fD d) λl=>
 E0 C Q f [g,m,k,b,c,a,d,l,nZ] o) (
 oP (gg 5 m h) λe=>
 fm (gB 5 g e h) λp q=>
 oP (gg 5 g q) λr2=>
 Q r2 q)
theorem Lo{C Q}(I)(s:S5 I (E7 C Q)){k l h}(i:I k l h)(e:l.length=5:=by rfl):E2 C Q l h:=JV.l5 I _ s i e
def E8 (C:fu)(Q:fx)(x:LP)(y:LP)(x2 u b f g i j k c:V)(h:Hp):Prop:=
 bO .lss 3 c k (
 oP (gD 4 j c) λz=>
 oP (gg 4 z h) λA=>
 ij (zC 40 [nZ,nZ,nS,nS]) h λa h1=>
 fm (gB 4 a A h1) λvu h2=>
 wS (iZ 3 1 0 nZ []) h2 λB D v=>
 oP (fH 2 a) λl=>
 oP (ev l v) λm=>
 wS (iZ 3 1 0 nZ []) v λd E e=>
 oP (fH 3 a) λn=>
 oP (ev n e) λo=>
 ((e.get (v.next)=some d/\O.beq d d=true)/\
 ((ev l e=some m)/\
 ((e.get (h2.next)=some B/\O.beq B B=true)/\
 fm (eR 3 1 8 D m e) λF p=>
 (e.next<=p.next/\
 oP (fH 2 a) λG=>
 ((ev n p=some o)/\
 ((p.get (v.next)=some d/\O.beq d d=true)/\
 fm (eR 3 1 8 E o p) λH I=>
 (p.next<=I.next/\
 fm (gB 1 G F I) λab J=>
 (I.next<=J.next/\
 oP (fH 3 a) λK=>
 fm (gB 1 K H J) λac w=>
 (J.next<=w.next/\
 dF 0 b w λL=>
 oP (gg 4 a w) λM=>
 ij (iZ 40 4 1 (V.agg [nZ,nZ,nS,nS]) [(0,M)]) w λN h9=>
 fm (eR 40 4 64 L N h9) λP R=>
 oP (fH 0 b) λS=>
 fm (gB 1 S P R) λae T=>
 oP (er .add 3 c nO) λU=>
 y [x2,u,b,f,g,i,j,k,U] T)))))))))) (
 dF 4 u h λW=>
 oP (gg 1 b h) λX=>
 ij (iZ 38 1 1 (V.agg [nS]) [(0,X)]) h λq Y=>
 fm (eR 38 1 24 W q Y) λr Z=>
 oP (fH 4 u) λs=>
 fm (gB 1 s r Z) λag aa=>
 oP (er .add 3 i nO) λt=>
 x [x2,u,f,g,t] aa)
theorem Lq{C Q a}(I)(s:S9 I (E8 C Q a)){k l h}(i:I k l h)(e:l.length=9:=by rfl):E0 C Q a l h:=JV.l9 I _ s i e
def Kj (C:fu)(Q:fx)(a0:V)(h:Hp):Prop:=
 ij (nP 30 a0) h λb k=>
 ij (zC 30 [nZ,nZ,nS,nS,nS]) k λl c=>
 dF 0 b c λd=>
 dF 1 b c λe=>
 oP (fN [nZ,nZ,nS,nS,nS] [(0,1),(1,1),(2,1),(3,1),(4,1)] [(0,d),(1,e)]) λf=>
 ij (zC 30 [nZ,nZ,nS,nS,nS]) c λi m=>
 fm (gB 5 i f m) λn j=>
 dF 2 b j λa=>
 oP (fD a) λg=>
 ER C Q [b,l,i,a,g,nZ] j
theorem QK{C}(s:C.start=fW){a0 h Q}(k:C.K vM [a0] h=none)(H:Kj C Q a0 h):cP C vM [a0] h Q:=cP.vd t33 s (by unfold P0;exact Tryd.func33) k H
def t38:List (Nat×List Nat):=[]
def JO (C:fu)(Q:fx)(a0 a1:V)(h:Hp):Prop:=
 ij (nP 30 a0) h λf g=>
 ij (zC 30 [nZ,nZ,nS,nS,nS]) g λc d=>
 oP (gg 5 f d) λi=>
 cP C vM [i] d λj k=>
 oP (fN [nZ,nZ,nS,nS,nS,nS] [(0,5),(5,1)] [(0,j),(1,a1)]) λl=>
 ij (nP 110 l) k λa m=>
 cP C ml [a] m λn o=>
 cP C jY [a] o λb p=>
 fm (gB 5 c b p) λq e=>
 oP (gg 5 c e) λr4=>
 Q r4 e
theorem Po{C}(s:C.start=fW){a0 a1 h Q}(k:C.K yp [a0,a1] h=none)(H:JO C Q a0 a1 h):cP C yp [a0,a1] h Q:=cP.vd t38 s (by unfold P0;exact Tryd.func38) k H
def t71:List (Nat×List Nat):=[(43,[0,2,38,39,40]),(175,[0,2,5,6,51,52,53]),(3886,[0,2,5,6,51,52,53]),(703,[0,2,5,9,70,71,72]),(2706623,[0,2,5,9,70,71,72,83,84,85]),(2870463,[0,2,5,9,10,11,14,15,70,71,72,97,98,99]),(1407,[0,5,9,182,183]),(15550,[0,2,5,9,70,71,72]),(63687870,[0,2,5,9,10,11,14,15,70,71,72,97,98,99]),(5754047,[0,2,5,9,11,14,15,70,71,72,134,135,136]),(366975,[0,5,9,24,182,183,190,191,192]),(46063406271,[0,2,5,9,11,14,15,20,21,70,71,72,134,135,136,152,153,154]),(127388862,[0,2,5,9,11,14,15,70,71,72,134,135,136])]
def sW (C:fu)(Q:fx):LP:=JV C Tryd.f71 t71 21 [0,2,38,39,40] [] Q
def tD (C:fu)(Q:fx):LP:=JV C Tryd.f71 t71 87 [0,2,5,6,51,52,53] [] Q
def mJ (C:fu)(Q:fx)(a:LP):LP:=JV C Tryd.f71 t71 1943 [0,2,5,6,51,52,53] [kf [0,2,5,6,51,52,53] a] Q
def tu (C:fu)(Q:fx):LP:=JV C Tryd.f71 t71 351 [0,2,5,9,70,71,72] [] Q
def tn (C:fu)(Q:fx)(a:LP):LP:=JV C Tryd.f71 t71 1353311 [0,2,5,9,70,71,72,83,84,85] [kf [0,2,5,9,70,71,72] a] Q
def ta (C:fu)(Q:fx)(a:LP):LP:=JV C Tryd.f71 t71 1435231 [0,2,5,9,10,11,14,15,70,71,72,97,98,99] [kf [0,2,5,9,70,71,72] a] Q
def te (C:fu)(Q:fx):LP:=JV C Tryd.f71 t71 703 [0,5,9,182,183] [] Q
def mH (C:fu)(Q:fx)(a:LP):LP:=JV C Tryd.f71 t71 7775 [0,2,5,9,70,71,72] [kf [0,2,5,9,70,71,72] a] Q
def mB (C:fu)(Q:fx)(a:LP)(b:LP):LP:=JV C Tryd.f71 t71 31843935 [0,2,5,9,10,11,14,15,70,71,72,97,98,99] [kf [0,2,5,9,70,71,72] a,kf [0,2,5,9,10,11,14,15,70,71,72,97,98,99] b] Q
def sX (C:fu)(Q:fx)(a:LP):LP:=JV C Tryd.f71 t71 2877023 [0,2,5,9,11,14,15,70,71,72,134,135,136] [kf [0,2,5,9,70,71,72] a] Q
def tp (C:fu)(Q:fx)(a:LP):LP:=JV C Tryd.f71 t71 183487 [0,5,9,24,182,183,190,191,192] [kf [0,5,9,182,183] a] Q
def sS (C:fu)(Q:fx)(a:LP)(b:LP):LP:=JV C Tryd.f71 t71 23031703135 [0,2,5,9,11,14,15,20,21,70,71,72,134,135,136,152,153,154] [kf [0,2,5,9,70,71,72] a,kf [0,2,5,9,11,14,15,70,71,72,134,135,136] b] Q
def mC (C:fu)(Q:fx)(a:LP)(b:LP):LP:=JV C Tryd.f71 t71 63694431 [0,2,5,9,11,14,15,70,71,72,134,135,136] [kf [0,2,5,9,70,71,72] a,kf [0,2,5,9,11,14,15,70,71,72,134,135,136] b] Q
def tH (C:fu)(Q:fx)(f:LP)(m b c d a:V)(h:Hp):Prop:=
 bO .lss 3 a d (
 dX 1 c a h λg=>
 oP (gD 1 b g) λi=>
 fm (gB 1 i bT h) λp n=>
 oP (er .add 3 a nO) λj=>
 f [m,b,c,d,j] n) (
 oP (fD b) λe=>
 ij (gR 3 1 8 nZ e e) h λk o=>
 oP (fD b) λl=>
 tD C Q [m,b,k,nZ,b,l,nZ] o)
theorem AP{C Q}(I)(s:S5 I (tH C Q)){k l h}(i:I k l h)(e:l.length=5:=by rfl):sW C Q l h:=JV.l5 I _ s i e
def ti (C:fu)(Q:fx)(d:LP)(f i g j b c a:V)(h:Hp):Prop:=
 bO .lss 3 a c (
 dX 1 b a h λk=>
 bP k (
 oP (gD 1 g a) λl=>
 fm (gB 1 l j h) λr q=>
 oP (er .add 3 j nO) λm=>
 mJ C Q d [f,i,g,m,b,c,a] q) (
 mJ C Q d [f,i,g,j,b,c,a] h)) (
 oP (iq f) λn=>
 oP (fH 0 n) λo=>
 dF 3 o h λe=>
 oP (fD e) λp=>
 tu C Q [f,i,g,nS,e,p,nZ] h)
theorem A0{C Q}(I)(s:S7 I (ti C Q)){k l h}(i:I k l h)(e:l.length=7:=by rfl):tD C Q l h:=JV.l7 I _ s i e
def mL (C:fu)(Q:fx)(a:LP)(f g i j b c d:V)(h:Hp):Prop:=
 oP (er .add 3 d nO) λe=>
 a [f,g,i,j,b,c,e] h
theorem rC{C Q a}:R7 (mL C Q a) (mJ C Q a):=JV.r7 _
def tL (C:fu)(Q:fx)(e:LP)(l m n k c d a:V)(h:Hp):Prop:=
 bO .lss 3 a d (
 oP (gD 6 c a) λo=>
 oP (gg 6 o h) λp=>
 ij (zC 44 [nS,nZ,nZ,nS,nS,nZ]) h λb t=>
 fm (gB 6 b p t) λu f=>
 dX 1 m a f λq=>
 bN q (
 dF 0 b f λg=>
 oP (fD g) λr=>
 tn C Q e [l,m,n,k,c,d,a,g,r,nZ] f) (
 dF 4 b f λi=>
 oP (fD i) λs=>
 ta C Q e [l,m,n,k,a,b,nS,nS,c,d,a,i,s,nZ] f)) (
 oP (fD k) λj=>
 te C Q [l,n,k,j,nZ] h)
theorem AU{C Q}(I)(s:S7 I (tL C Q)){k l h}(i:I k l h)(e:l.length=7:=by rfl):tu C Q l h:=JV.l7 I _ s i e
def tx (C:fu)(Q:fx)(g:LP)(i:LP)(j o p q b c d e f a:V)(h:Hp):Prop:=
 bO .lss 3 a f (
 dX 1 e a h λk=>
 dN 5 j h λl=>
 oP (gD 1 l k) λm=>
 fm (gB 1 m (V.int .i64 (-1)) h) λs r=>
 oP (er .add 3 a nO) λn=>
 i [j,o,p,q,b,c,d,e,f,n] r) (
 mH C Q g [j,o,p,q,b,c,d] h)
theorem A4{C Q a}(I)(s:S10 I (tx C Q a)){k l h}(i:I k l h)(e:l.length=10:=by rfl):tn C Q a l h:=JV.Zl I _ s i e
def tC (C:fu)(Q:fx)(i:LP)(s:LP)(N P R T j f k l m n o p q b:V)(h:Hp):Prop:=
 bO .lss 3 b q (
 dX 1 p b h λc=>
 dX 1 P c h λa=>
 oP (fO true a) λb5=>
 oP (gV b5 (some N)) λt=>
 oP (fO true a) λb6=>
 oP (gV b6 (iq t)) λu=>
 oP (fO true a) λb7=>
 oP (gV b7 (fH 0 u)) λv=>
 oP (fO true a) λb8=>
 oP (gV b8 (fH 3 v)) λw=>
 oP (fO true a) λb9=>
 oP (gV b9 (ev w h)) λx=>
 oP (fO true a) λU=>
 oP (gV U (some c)) λy=>
 oP (fO true a) λW=>
 oP (gV W (gD 6 x y)) λz=>
 oP (fO true a) λX=>
 oP (gV X (fH 3 z)) λA=>
 oP (fO true a) λY=>
 oP (gV Y (ev A h)) λB=>
 oP (fO true a) λZ=>
 oP (gV Z (some j)) λD=>
 oP (fO true a) λaa=>
 oP (gC aa (some (jP,[B,D]))) λab=>wR C ab h λE h1=>
 oP (lJ a E bF) λF=>
 bP F (
 wS (iZ 3 1 1 nZ [(0,b)]) h1 λo2 G S=>
 oP (gD 1 R c) λd=>
 oP (ev d S) λe=>
 wS (iZ 3 1 1 nZ [(0,e)]) S λr H I=>
 ((I.get (S.next)=some r/\O.beq r r=true)/\
 ((ev d I=some e)/\
 ((I.get (h1.next)=some o2/\O.beq o2 o2=true)/\
 fm (eR 3 1 8 k G I) λJ K=>
 (I.next<=K.next/\
 ((K.get (S.next)=some r/\O.beq r r=true)/\
 ((ev d K=some e)/\
 fm (eR 3 1 8 l H K) λL h5=>
 (K.next<=h5.next/\
 mB C Q i s [N,P,R,T,j,f,J,L,m,n,o,p,q,b] h5)))))))) (
 mB C Q i s [N,P,R,T,j,f,k,l,m,n,o,p,q,b] h1)) (
 dF 0 f h λg=>
 oP (fD g) λM=>
 sX C Q i [N,P,R,T,f,k,l,m,n,o,g,M,nZ] h)
theorem Bq{C Q a}(I)(s:S14 I (tC C Q a)){k l h}(i:I k l h)(e:l.length=14:=by rfl):ta C Q a l h:=JV.l14 I _ s i e
def tB (C:fu)(Q:fx)(i:LP)(k l j b a:V)(h:Hp):Prop:=
 bO .lss 3 a b (
 dI 6 j a 3 h λc=>
 oP (fD c) λd=>
 tp C Q i [k,l,j,a,b,a,c,d,nZ] h) (
 oP (iq k) λe=>
 oP (fH 0 e) λf=>
 oP (fH 3 f) λg=>
 fm (gB 1 g j h) λn m=>
 Q (V.tuple []) m)
theorem A2{C Q}(I)(s:S5 I (tB C Q)){k l h}(i:I k l h)(e:l.length=5:=by rfl):te C Q l h:=JV.l5 I _ s i e
def mE (C:fu)(Q:fx)(b:LP)(f g i j c d e:V)(h:Hp):Prop:=
 oP (er .add 3 e nO) λa=>
 b [f,g,i,j,c,d,a] h
theorem rU{C Q a}:R7 (mE C Q a) (mH C Q a):=JV.r7 _
def kj (C:fu)(Q:fx)(n:LP)(b:LP)(o p q r c d e f g i j k l m:V)(h:Hp):Prop:=
 oP (er .add 3 m nO) λa=>
 b [o,p,q,r,c,d,e,f,g,i,j,k,l,a] h
theorem mM{C Q a b}:R14 (kj C Q a b) (mB C Q a b):=JV.r14 _
def tE (C:fu)(Q:fx)(g:LP)(m:LP)(x y z A d e i j k l b c a:V)(h:Hp):Prop:=
 bO .lss 3 a c (
 dX 1 b a h λn=>
 oP (iq x) λo=>
 oP (fH 0 o) λp=>
 dF 2 p h λq=>
 oP (gD 6 q n) λf=>
 dN 0 f h λr=>
 bO .eql 3 r (V.int .i64 21) (
 oP (fD e) λs=>
 sS C Q g m [x,y,z,A,d,e,i,f,nS,j,k,l,b,c,a,e,s,nZ] h) (
 mC C Q g m [x,y,z,A,d,e,i,j,k,l,b,c,a] h)) (
 oP (fH 4 d) λt=>
 fm (gB 1 t i h) λF B=>
 oP (gg 6 d B) λu=>
 ij (iZ 44 6 1 (V.agg [nS,nZ,nZ,nS,nS,nZ]) [(0,u)]) B λv D=>
 fm (eR 44 6 96 A v D) λw E=>
 mH C Q g [x,y,z,w,j,k,l] E)
theorem AS{C Q a}(I)(s:S13 I (tE C Q a)){k l h}(i:I k l h)(e:l.length=13:=by rfl):sX C Q a l h:=JV.l13 I _ s i e
def tm (C:fu)(Q:fx)(n:LP)(o:LP)(r p q f b c d e a:V)(h:Hp):Prop:=
 bO .lss 3 a e (
 dX 1 d a h λg=>
 dI 6 q f 3 h λi=>
 dX 1 p g h λj=>
 oP (gD 1 i a) λk=>
 fm (gB 1 k j h) λt s=>
 (h.next<=s.next/\
 oP (er .add 3 a nO) λl=>
 o [r,p,q,f,b,c,d,e,l] s)) (
 oP (er .add 3 c nO) λm=>
 n [r,p,q,b,m] h)
theorem Br{C Q a}(I)(s:S9 I (tm C Q a)){k l h}(i:I k l h)(e:l.length=9:=by rfl):tp C Q a l h:=JV.l9 I _ s i e
def tk (C:fu)(Q:fx)(x:LP)(y:LP)(z:LP)(A B D E i j k g l m n o b c d e f a:V)(h:Hp):Prop:=
 bO .lss 3 a f (
 dX 1 e a h λp=>
 dN 4 g h λq=>
 dX 1 q p h λr=>
 ij (iZ 3 1 1 nZ [(0,r)]) h λs F=>
 fm (eR 3 1 8 l s F) λt G=>
 oP (er .add 3 a nO) λu=>
 z [A,B,D,E,i,j,k,g,t,m,n,o,b,c,d,e,f,u] G) (
 oP (iq g) λv=>
 oP (fH 4 v) λw=>
 fm (gB 1 w l h) λI H=>
 mC C Q x y [A,B,D,E,i,j,k,m,n,o,b,c,d] H)
theorem Bo{C Q a b}(I)(s:S18 I (tk C Q a b)){k l h}(i:I k l h)(e:l.length=18:=by rfl):sS C Q a b l h:=JV.l18 I _ s i e
def mG (C:fu)(Q:fx)(m:LP)(e:LP)(n o p q f g i j k l a b c:V)(h:Hp):Prop:=
 oP (er .add 3 c nO) λd=>
 e [n,o,p,q,f,g,i,j,k,l,a,b,d] h
theorem rO{C Q a b}:R13 (mG C Q a b) (mC C Q a b):=JV.r13 _
def wQ (C:fu)(Q:fx)(a0:V)(h:Hp):Prop:=
 oP (iq a0) λc=>
 oP (fH 0 c) λd=>
 dG 3 d h λa=>
 ij (gR 4 1 1 bF a a) h λe k=>
 oP (iq a0) λf=>
 oP (fH 0 f) λg=>
 oP (gg 5 g k) λi=>
 cP C pK [i] k λb l=>
 oP (fD b) λj=>
 sW C Q [a0,e,b,j,nZ] l
theorem C7{C}(s:C.start=fW){a0 h Q}(k:C.K ml [a0] h=none)(H:wQ C Q a0 h):cP C ml [a0] h Q:=cP.vd t71 s (by unfold P0;exact Tryd.func71) k H
def t100:List (Nat×List Nat):=[(43,[0,1,5])]
def vg (C:fu)(Q:fx):LP:=JV C Tryd.f100 t100 21 [0,1,5] [] Q
def uW (C:fu)(Q:fx)(c:LP)(a b z:V)(h:Hp):Prop:=
 dN 5 a h λA=>
 dX 1 A b h λd=>
 oP (er .geq 3 d nZ) λe=>
 oP (jK e (oB (some a) λf=>oB (iq f) λg=>oB (fH 5 g) λi=>oB (ev i h) λj=>oB (some b) λk=>oB (gD 1 j k) λl=>oB (ev l h) λm=>oB (some b) λn=>er .neq 3 m n)) λo=>
 oP (jK o (oB (some z) λp=>oB (some a) λq=>oB (iq q) λr=>oB (fH 5 r) λs=>oB (ev s h) λt=>oB (fD t) λu=>er .leq 3 p u)) λv=>
 bP v (
 dN 5 a h λw=>
 dX 1 w b h λx=>
 oP (er .add 3 z nO) λy=>
 c [a,x,y] h) (
 Q b h)
theorem CC{C Q}(I)(s:S3 I (uW C Q)){k l h}(i:I k l h)(e:l.length=3:=by rfl):vg C Q l h:=JV.l3 I _ s i e
def yQ (C:fu)(Q:fx)(a0 a1:V)(h:Hp):Prop:=
 vg C Q [a0,a1,nZ] h
theorem Fe{C}(s:C.start=fW){a0 a1 h Q}(k:C.K iS [a0,a1] h=none)(H:yQ C Q a0 a1 h):cP C iS [a0,a1] h Q:=cP.vd t100 s (by unfold P0;exact Tryd.func100) k H
def t72:List (Nat×List Nat):=[(351,[1,2,3,4,5,41,42]),(353887,[1,2,3,4,5,6,7,41,42,53,54,55]),(5631,[1,2,3,4,11,12,96,97,98]),(7956062,[1,2,3,4,5,6,7,41,42,53,54,55]),(1992190,[1,2,3,4,11,12,15,96,97,98]),(11263,[1,2,3,4,12,165,166,167]),(4089342,[1,2,3,4,11,12,15,96,97,98]),(1887230,[1,2,3,4,12,17,165,166,167]),(8283646,[1,2,3,4,11,12,15,96,97,98]),(16672254,[1,2,3,4,11,12,15,96,97,98])]
def rT (C:fu)(Q:fx):LP:=JV C Tryd.f72 t72 175 [1,2,3,4,5,41,42] [] Q
def rQ (C:fu)(Q:fx)(a:LP):LP:=JV C Tryd.f72 t72 176943 [1,2,3,4,5,6,7,41,42,53,54,55] [kf [1,2,3,4,5,41,42] a] Q
def kF (C:fu)(Q:fx):LP:=JV C Tryd.f72 t72 2815 [1,2,3,4,11,12,96,97,98] [] Q
def lY (C:fu)(Q:fx)(a:LP)(b:LP):LP:=JV C Tryd.f72 t72 3978031 [1,2,3,4,5,6,7,41,42,53,54,55] [kf [1,2,3,4,5,41,42] a,kf [1,2,3,4,5,6,7,41,42,53,54,55] b] Q
def jN (C:fu)(Q:fx)(a:LP):LP:=JV C Tryd.f72 t72 996095 [1,2,3,4,11,12,15,96,97,98] [kf [1,2,3,4,11,12,96,97,98] a] Q
def kr (C:fu)(Q:fx):LP:=JV C Tryd.f72 t72 5631 [1,2,3,4,12,165,166,167] [] Q
def jT (C:fu)(Q:fx)(a:LP):LP:=JV C Tryd.f72 t72 2044671 [1,2,3,4,11,12,15,96,97,98] [kf [1,2,3,4,11,12,96,97,98] a] Q
def jd (C:fu)(Q:fx)(a:LP):LP:=JV C Tryd.f72 t72 943615 [1,2,3,4,12,17,165,166,167] [kf [1,2,3,4,12,165,166,167] a] Q
def jS (C:fu)(Q:fx)(a:LP):LP:=JV C Tryd.f72 t72 4141823 [1,2,3,4,11,12,15,96,97,98] [kf [1,2,3,4,11,12,96,97,98] a] Q
def jU (C:fu)(Q:fx)(a:LP):LP:=JV C Tryd.f72 t72 8336127 [1,2,3,4,11,12,15,96,97,98] [kf [1,2,3,4,11,12,96,97,98] a] Q
def rS (C:fu)(Q:fx)(g:LP)(c s i j k d a:V)(h:Hp):Prop:=
 bO .lss 3 a d (
 oP (ev c h) λm=>
 oP (iq m) λn=>
 oP (fH 0 n) λo=>
 dJ 3 o 6 a 0 h λe=>
 oP (fD e) λp=>
 rQ C Q g [c,s,i,j,k,a,nS,d,a,e,p,nZ] h) (
 ij (some (.map [] 0,λl=> .map l)) h λq u=>
 ij (zC 139 [V.j9]) u λf v=>
 fm (gB 1 f q v) λz w=>
 ij (zC 140 [V.nilFunc]) w λb x=>
 fm (gB 1 b (V.func hY [] [j,c]) x) λt y=>
 oP (fD k) λr=>
 kF C Q [c,s,i,j,b,(V.func fF [] [f,i,c,b]),k,r,nZ] y)
theorem AI{C Q}(I)(s:S7 I (rS C Q)){k l h}(i:I k l h)(e:l.length=7:=by rfl):rT C Q l h:=JV.l7 I _ s i e
def se (C:fu)(Q:fx)(c:LP)(i:LP)(j m n l k o p d e f g a:V)(h:Hp):Prop:=
 bO .lss 3 a g (
 dX 1 f a h λb=>
 oP (ev j h) λq=>
 dN 5 q h λr=>
 dX 1 r b h λs=>
 bO .eql 3 s b (
 oP (ev l h) λt=>
 oP (fD k) λu=>
 oP (gD 1 t b) λv=>
 fm (gB 1 v u h) λR K=>
 oP (fD k) λw=>
 ij (iZ 3 1 1 nZ [(0,w)]) K λx L=>
 fm (eR 3 1 8 p x L) λy M=>
 ij (iZ 3 1 1 nZ [(0,b)]) M λz N=>
 fm (eR 3 1 8 k z N) λA O=>
 lY C Q c i [j,m,n,l,A,o,y,d,e,f,g,a] O) (
 lY C Q c i [j,m,n,l,k,o,p,d,e,f,g,a] h)) (
 oP (ev j h) λB=>
 oP (iq B) λD=>
 oP (fH 0 D) λE=>
 dF 3 E h λF=>
 oP (gD 6 F o) λG=>
 oP (fH 0 G) λH=>
 fm (gB 1 H p h) λJ P=>
 oP (er .add 3 e nO) λI=>
 c [j,m,n,l,k,d,I] P)
theorem Al{C Q a}(I)(s:S12 I (se C Q a)){k l h}(i:I k l h)(e:l.length=12:=by rfl):rQ C Q a l h:=JV.l12 I _ s i e
def rM (C:fu)(Q:fx)(k:LP)(i H I l m e f g b:V)(h:Hp):Prop:=
 bO .lss 3 b g (
 dX 1 f b h λn=>
 oP (ev i h) λo=>
 oP (iq o) λp=>
 oP (fH 0 p) λq=>
 dF 2 q h λr=>
 oP (gD 6 r n) λs=>
 oP (gg 6 s h) λt=>
 ij (zC 42 [nZ,nZ,nZ,nZ,nS,nZ]) h λa M=>
 fm (gB 6 a t M) λN J=>
 dF 0 a J λu=>
 cP C th [u] J λv j=>
 bO .gtr 3 v nZ (
 oP (ev l j) λc=>
 oP (ev i j) λw=>
 dF 1 a j λx=>
 cP C iS [w,x] j λy z=>
 (j.next<=z.next/\
 dX 1 c y z λA=>
 oP (fH 1 a) λB=>
 ((ev l z=some c)/\
 fm (gB 1 B A z) λK L=>
 (z.next<=L.next/\
 jN C Q k [i,H,I,l,m,e,a,f,g,b] L)))) (
 jN C Q k [i,H,I,l,m,e,a,f,g,b] j)) (
 oP (ev i h) λD=>
 oP (iq D) λE=>
 oP (fH 0 E) λF=>
 dF 3 F h λd=>
 oP (fD d) λG=>
 kr C Q [i,H,I,l,e,d,G,nZ] h)
theorem AG{C Q}(I)(s:S9 I (rM C Q)){k l h}(i:I k l h)(e:l.length=9:=by rfl):kF C Q l h:=JV.l9 I _ s i e
def me (C:fu)(Q:fx)(i:LP)(a:LP)(j k l m n o p b c d e f:V)(h:Hp):Prop:=
 oP (er .add 3 f nO) λg=>
 a [j,k,l,m,n,o,p,b,c,d,e,g] h
theorem qx{C Q a b}:Y7 (me C Q a b) (lY C Q a b):=JV.r12 _
def qA (C:fu)(Q:fx)(d:LP)(t u v s e f a g i j:V)(h:Hp):Prop:=
 dF 0 a h λk=>
 cP C th [k] h λl c=>
 bO .gtr 3 l nO (
 oP (ev s c) λb=>
 oP (ev t c) λm=>
 dF 2 a c λn=>
 cP C iS [m,n] c λo p=>
 (c.next<=p.next/\
 dX 1 b o p λq=>
 oP (fH 2 a) λr=>
 ((ev s p=some b)/\
 fm (gB 1 r q p) λx w=>
 (p.next<=w.next/\
 jT C Q d [t,u,v,s,e,f,a,g,i,j] w)))) (
 jT C Q d [t,u,v,s,e,f,a,g,i,j] c)
theorem zd{C Q a}:Cl (qA C Q a) (jN C Q a):=JV.ZU _
def rV (C:fu)(Q:fx)(j:LP)(y k z l e c d b:V)(h:Hp):Prop:=
 bO .lss 3 b d (
 oP (gD 6 c b) λm=>
 oP (gg 6 m h) λn=>
 ij (zC 44 [nS,nZ,nZ,nS,nS,nZ]) h λa G=>
 fm (gB 6 a n G) λJ f=>
 dF 1 a f λg=>
 bO .eql 3 g (V.int .i64 2) (
 oP (ev l f) λi=>
 oP (ev y f) λo=>
 dF 2 a f λp=>
 cP C iS [o,p] f λq r=>
 (f.next<=r.next/\
 dX 1 i q r λs=>
 oP (fH 2 a) λt=>
 ((ev l r=some i)/\
 fm (gB 1 t s r) λA B=>
 (r.next<=B.next/\
 jd C Q j [y,k,z,l,e,a,c,d,b] B)))) (
 bO .eql 3 g (V.int .i64 3) (
 dF 5 a f λu=>
 gU C (fU e [u]) f λv H=>
 oP (fH 5 a) λw=>
 fm (gB 1 w v H) λD I=>
 jd C Q j [y,k,z,l,e,a,c,d,b] I) (
 jd C Q j [y,k,z,l,e,a,c,d,b] f))) (
 oP (gg 5 z h) λx=>
 fm (gB 5 k x h) λE F=>
 oP (gg 5 k F) λr2=>
 Q r2 F)
theorem Ao{C Q}(I)(s:S8 I (rV C Q)){k l h}(i:I k l h)(e:l.length=8:=by rfl):kr C Q l h:=JV.l8 I _ s i e
def qT (C:fu)(Q:fx)(c:LP)(p q r s b d a e f g:V)(h:Hp):Prop:=
 dF 0 a h λi=>
 oP (er .eql 3 i (V.int .i64 21)) λj=>
 oP (pN j (oB (fH 0 a) λk=>oB (ev k h) λl=>er .eql 3 l (V.int .i64 20))) λm=>
 bP m (
 oP (ev b h) λn=>
 dF 4 a h λo=>
 gU C (fU n [o]) h λt u=>
 jS C Q c [p,q,r,s,b,d,a,e,f,g] u) (
 jS C Q c [p,q,r,s,b,d,a,e,f,g] h)
theorem zs{C Q a}:Cl (qT C Q a) (jT C Q a):=JV.ZU _
def ri (C:fu)(Q:fx)(k:LP)(o p l q m n a b c:V)(h:Hp):Prop:=
 dF 3 l h λd=>
 oP (gg 6 n h) λe=>
 ij (iZ 44 6 1 (V.agg [nS,nZ,nZ,nS,nS,nZ]) [(0,e)]) h λf r=>
 fm (eR 44 6 96 d f r) λg s=>
 oP (fH 3 l) λi=>
 fm (gB 1 i g s) λu t=>
 oP (er .add 3 c nO) λj=>
 k [o,p,l,q,m,a,b,j] t
theorem zp{C Q a}:R9 (ri C Q a) (jd C Q a):=JV.r9 _
def qL (C:fu)(Q:fx)(c:LP)(o p q r d b a e f g:V)(h:Hp):Prop:=
 dF 0 a h λi=>
 cP C nN [i] h λj n=>
 bP j (
 dF 5 a n λk=>
 gU C (fU b [k]) n λl s=>
 oP (fH 5 a) λm=>
 fm (gB 1 m l s) λu t=>
 jU C Q c [o,p,q,r,d,b,a,e,f,g] t) (
 jU C Q c [o,p,q,r,d,b,a,e,f,g] n)
theorem zl{C Q a}:Cl (qL C Q a) (jS C Q a):=JV.ZU _
def qh (C:fu)(Q:fx)(g:LP)(p q i r j k l m n o:V)(h:Hp):Prop:=
 dF 2 i h λa=>
 oP (gg 6 l h) λb=>
 ij (iZ 42 6 1 (V.agg [nZ,nZ,nZ,nZ,nS,nZ]) [(0,b)]) h λc s=>
 fm (eR 42 6 64 a c s) λd t=>
 oP (fH 2 i) λe=>
 fm (gB 1 e d t) λv u=>
 oP (er .add 3 o nO) λf=>
 g [p,q,i,r,j,k,m,n,f] u
theorem zE{C Q a}:Cl (qh C Q a) (jU C Q a):=JV.ZU _
def vf (C:fu)(Q:fx)(a0:V)(h:Hp):Prop:=
 ij (nP 108 a0) h λa F=>
 ij (zC 30 [nZ,nZ,nS,nS,nS]) F λG d=>
 oP (ev a d) λe=>
 oP (iq e) λn=>
 oP (fH 0 n) λo=>
 oP (fH 0 o) λf=>
 oP (ev f d) λg=>
 oP (ev a d) λi=>
 oP (iq i) λp=>
 oP (fH 0 p) λq=>
 oP (fH 1 q) λj=>
 oP (ev j d) λk=>
 oP (fN [nZ,nZ,nS,nS,nS] [(0,1),(1,1),(2,1),(3,1),(4,1)] [(0,g),(1,k)]) λr=>
 wS (zC 30 [nZ,nZ,nS,nS,nS]) d λb B c=>
 ((c.get (d.next)=some b/\O.beq b b=true)/\
 ((ev j c=some k)/\
 ((ev a c=some i)/\
 ((ev f c=some g)/\
 ((ev a c=some e)/\
 fm (gB 5 B r c) λJ m=>
 (c.next<=m.next/\
 oP (ev a m) λs=>
 oP (iq s) λt=>
 oP (fH 0 t) λu=>
 dG 2 u m λl=>
 ij (gR 3 1 8 nZ l l) m λv H=>
 ij (zC 23 [nS]) H λD I=>
 fm (gB 1 D v I) λE w=>
 oP (ev a w) λx=>
 oP (iq x) λy=>
 oP (fH 0 y) λz=>
 dG 3 z w λA=>
 rT C Q [a,G,B,D,nS,A,nZ] w))))))
theorem Cw{C}(s:C.start=fW){a0 h Q}(k:C.K jY [a0] h=none)(H:vf C Q a0 h):cP C jY [a0] h Q:=cP.vd t72 s (by unfold P0;exact Tryd.func72) k H
def t99:List (Nat×List Nat):=[(11,[0,1,2,6,7,8])]
def pV (C:fu)(Q:fx):LP:=JV C Tryd.f99 t99 5 [0,1,2,6,7,8] [] Q
def pA (C:fu)(Q:fx)(d:LP)(m e n o p c:V)(h:Hp):Prop:=
 bO .lss 3 c p (
 dX 1 o c h λf=>
 oP (ev e h) λa=>
 oP (ev n h) λg=>
 cP C iS [g,f] h λi b=>
 (h.next<=b.next/\
 dX 1 a i b λj=>
 oP (gD 1 m c) λk=>
 ((ev e b=some a)/\
 fm (gB 1 k j b) λr q=>
 (b.next<=q.next/\
 oP (er .add 3 c nO) λl=>
 d [m,e,n,o,p,l] q)))) (
 Q (V.tuple []) h)
theorem yK{C Q}(I)(s:S6 I (pA C Q)){k l h}(i:I k l h)(e:l.length=6:=by rfl):pV C Q l h:=JV.l6 I _ s i e
def sQ (C:fu)(Q:fx)(a0 a1 a2:V)(h:Hp):Prop:=
 oP (fD a0) λa=>
 pV C Q [a0,a1,a2,a0,a,nZ] h
theorem Bf{C}(s:C.start=fW){a0 a1 a2 h Q}(k:C.K hY [a0,a1,a2] h=none)(H:sQ C Q a0 a1 a2 h):cP C hY [a0,a1,a2] h Q:=cP.vd t99 s (by unfold P0;exact Tryd.func99) k H
def t101:List (Nat×List Nat):=[(2775,[0,2,3,4,7,33,34,35]),(30,[7])]
def pt (C:fu)(Q:fx):LP:=JV C Tryd.f101 t101 1387 [0,2,3,4,7,33,34,35] [] Q
def lO (C:fu)(Q:fx):LP:=JV C Tryd.f101 t101 15 [7] [] Q
def pD (C:fu)(Q:fx)(o:LP)(I p q r J e f a:V)(h:Hp):Prop:=
 bO .lss 3 a f (
 oP (gD 4 e a) λs=>
 oP (gg 4 s h) λt=>
 ij (zC 40 [nZ,nZ,nS,nS]) h λb M=>
 fm (gB 4 b t M) λS u=>
 oP (ev r u) λv=>
 dF 2 b u λw=>
 gU C (fU v [w]) u λN x=>
 oP (ev r x) λy=>
 dF 3 b x λz=>
 gU C (fU y [z]) x λP R=>
 oP (er .add 3 a nO) λA=>
 o [I,p,q,r,J,e,f,A] R) (
 oP (fH 4 p) λg=>
 oP (ev g h) λi=>
 oP (ev q h) λj=>
 oP (iq j) λB=>
 oP (fH 0 B) λD=>
 oP (fH 4 D) λk=>
 oP (ev k h) λl=>
 oP (gD 1 l I) λm=>
 oP (gg 1 m h) λn=>
 wS (iZ 38 1 1 (V.agg [nS]) [(0,n)]) h λc E d=>
 ((d.get (h.next)=some c/\O.beq c c=true)/\
 ((gg 1 m d=some n)/\
 ((ev k d=some l)/\
 ((ev q d=some j)/\
 ((ev g d=some i)/\
 fm (eR 38 1 24 i E d) λF G=>
 (d.next<=G.next/\
 oP (fH 4 p) λH=>
 fm (gB 1 H F G) λK L=>
 (G.next<=L.next/\
 lO C Q [J] L))))))))
theorem yC{C Q}(I)(s:S8 I (pD C Q)){k l h}(i:I k l h)(e:l.length=8:=by rfl):pt C Q l h:=JV.l8 I _ s i e
def lT (C:fu)(Q:fx)(a:V)(h:Hp):Prop:=
 Q a h
theorem pQ{C Q}:R1 (lT C Q) (lO C Q):=JV.r1 _
def tF (C:fu)(Q:fx)(a0 a1 a2 a3 n:V)(h:Hp):Prop:=
 oP (ev a1 h) λd=>
 oP (Iq 3 none nZ true d a0 h) λa=>
 oP (My 0 a) λe=>
 oP (My 1 a) λf=>
 bN f (
 dG 4 a2 h λb=>
 oP (ev a1 h) λg=>
 fm (GD 3 none g a0 b h) λo i=>
 oP (ev a3 i) λj=>
 oP (iq j) λk=>
 oP (fH 0 k) λl=>
 dJ 4 l 1 a0 0 i λc=>
 oP (fD c) λm=>
 pt C Q [a0,a2,a3,n,b,c,m,nZ] i) (
 lO C Q [e] h)
theorem A8{C}(s:C.start=fW){a0 a1 a2 a3 a h Q}(k:C.K fF [a0,a1,a2,a3,a] h=none)(H:tF C Q a0 a1 a2 a3 a h):cP C fF [a0,a1,a2,a3,a] h Q:=cP.vd t101 s (by unfold P0;exact Tryd.func101) k H
def t37:List (Nat×List Nat):=[(87,[3,10,11])]
def EP (C:fu)(Q:fx):LP:=JV C Tryd.f37 t37 43 [3,10,11] [] Q
def EZ (C:fu)(Q:fx)(c:LP)(d b a:V)(h:Hp):Prop:=
 bO .lss 3 a b (
 oP (gD 1 d a) λe=>
 fm (gB 1 e a h) λi g=>
 oP (er .add 3 a nO) λf=>
 c [d,b,f] g) (
 Q d h)
theorem Lf{C Q}(I)(s:S3 I (EZ C Q)){k l h}(i:I k l h)(e:l.length=3:=by rfl):EP C Q l h:=JV.l3 I _ s i e
def Ki (C:fu)(Q:fx)(a0:V)(h:Hp):Prop:=
 ij (nP 30 a0) h λe b=>
 dG 2 e b λc=>
 ij (gR 3 1 8 nZ c c) b λd f=>
 oP (fD d) λa=>
 EP C Q [d,a,nZ] f
theorem QC{C}(s:C.start=fW){a0 h Q}(k:C.K Cj [a0] h=none)(H:Ki C Q a0 h):cP C Cj [a0] h Q:=cP.vd t37 s (by unfold P0;exact Tryd.func37) k H
def t98:List (Nat×List Nat):=[]
def qC (C:fu)(Q:fx)(a0 a1:V)(h:Hp):Prop:=
 cP C nU [a0,a1] h λa b=>
 oP (er .geq 3 a nZ) λc=>
 Q c b
theorem zo{C}(s:C.start=fW){a0 a1 h Q}(k:C.K jP [a0,a1] h=none)(H:qC C Q a0 a1 h):cP C jP [a0,a1] h Q:=cP.vd t98 s (by unfold P0;exact Tryd.func98) k H
def t112:List (Nat×List Nat):=[(43,[0,1,7,8])]
def qX (C:fu)(Q:fx):LP:=JV C Tryd.f112 t112 21 [0,1,7,8] [] Q
def qY (C:fu)(Q:fx)(b:LP)(e f g a:V)(h:Hp):Prop:=
 bO .lss 3 a g (
 dX 1 e a h λc=>
 bO .eql 3 f c (
 Q a h) (
 oP (er .add 3 a nO) λd=>
 b [e,f,g,d] h)) (
 Q (V.int .i64 (-1)) h)
theorem zB{C Q}(I)(s:S4 I (qY C Q)){k l h}(i:I k l h)(e:l.length=4:=by rfl):qX C Q l h:=JV.l4 I _ s i e
def tQ (C:fu)(Q:fx)(a0 a1:V)(h:Hp):Prop:=
 oP (fD a0) λa=>
 qX C Q [a0,a1,a,nZ] h
theorem Bv{C}(s:C.start=fW){a0 a1 h Q}(k:C.K nU [a0,a1] h=none)(H:tQ C Q a0 a1 h):cP C nU [a0,a1] h Q:=cP.vd t112 s (by unfold P0;exact Tryd.func112) k H
end
