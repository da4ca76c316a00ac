/- Parts. -/
import Derived.Test.YtloecllhljfidaaDoorM14
set_option maxHeartbeats 4000000
namespace Go.Proofs.YtloecllhljfidaaDoor.Hx
set_option maxRecDepth 100000
noncomputable section
def t22:List (Nat×List Nat):=[(87,[1,2,3,19,20,21]),(175,[1,2,3,38,39,40]),(351,[2,3,67,68,69]),(353887,[2,3,10,67,68,69,74,75,76])]
def Ff(C:fm)(Q:fq):LP:=JV C Tryd.f22 t22 43 [1,2,3,19,20,21] [] Q
def Fp(C:fm)(Q:fq):LP:=JV C Tryd.f22 t22 87 [1,2,3,38,39,40] [] Q
def Fe(C:fm)(Q:fq):LP:=JV C Tryd.f22 t22 175 [2,3,67,68,69] [] Q
def E8(C:fm)(Q:fq)(a:LP):LP:=JV C Tryd.f22 t22 176943 [2,3,10,67,68,69,74,75,76] [kf [2,3,67,68,69] a] Q
def Fh(C:fm)(Q:fq)(g:LP)(i x e b c a:V)(h:Hp):Prop:=bO .lss 3 a c (oP (hV 6 b a) λj=>oP (fM 6 j h) λk=>gX (zC 40 [nZ,nZ,nZ,nZ,nS,nZ]) h λf B=>fc (gh 6 f k B) λI D=>gX (jd 3 1 0 nZ []) D λl y=>dF 4 f y λm=>fc (eR 3 1 8 l m y) λn E=>oP (fQ 4 f) λo=>fc (gh 1 o n E) λz p=>dF 2 e p λq=>oP (fM 6 f p) λr=>gX (jd 40 6 1 (V.agg [nZ,nZ,nZ,nZ,nS,nZ]) [(0,r)]) p λs F=>fc (eR 40 6 64 q s F) λt G=>oP (fQ 2 e) λu=>fc (gh 1 u t G) λA H=>oP (eJ .add 3 a nO) λv=>g [i,x,e,b,c,v] H) (dF 3 i h λd=>oP (fD d) λw=>Fp C Q [i,x,e,d,w,nZ] h)
theorem Ml{C Q}(I)(s:S6 I (Fh C Q)){k l h}(i:I k l h)(e:l.length=6:=by rfl):Ff C Q l h:=JV.l6 I _ s i e
def Fg(C:fm)(Q:fq)(w:LP)(Z x2 u n o e:V)(h:Hp):Prop:=bO .lss 3 e o (oP (hV 6 n e) λx=>oP (fM 6 x h) λy=>gX (zC 38 [nS,nZ,nZ,nS,nS,nZ]) h λc h1=>fc (gh 6 c y h1) λvu h2=>wP (jd 3 1 0 nZ []) h2 λz A v=>oP (fQ 0 c) λp=>oP (eQ p v) λq=>wP (jd 3 1 0 nZ []) v λm B r=>oP (fQ 3 c) λf=>oP (eQ f r) λg=>wP (jd 3 1 0 nZ []) r λa D d=>oP (fQ 4 c) λi=>oP (eQ i d) λj=>((d.get (r.next)=some a/\O.beq a a=true)/\((eQ f d=some g)/\((d.get (v.next)=some m/\O.beq m m=true)/\((eQ p d=some q)/\((d.get (h2.next)=some z/\O.beq z z=true)/\fc (eR 3 1 8 A q d) λE k=>(d.next<=k.next/\oP (fQ 0 c) λF=>((eQ i k=some j)/\((k.get (r.next)=some a/\O.beq a a=true)/\((eQ f k=some g)/\((k.get (v.next)=some m/\O.beq m m=true)/\fc (eR 3 1 8 B g k) λG s=>(k.next<=s.next/\((eQ i s=some j)/\((s.get (r.next)=some a/\O.beq a a=true)/\fc (eR 3 1 8 D j s) λH I=>(s.next<=I.next/\fc (gh 1 F E I) λaa J=>(I.next<=J.next/\oP (fQ 3 c) λK=>fc (gh 1 K G J) λab l=>(J.next<=l.next/\oP (fQ 4 c) λL=>fc (gh 1 L H l) λac b=>(l.next<=b.next/\dF 3 u b λM=>oP (fM 6 c b) λN=>gX (jd 38 6 1 (V.agg [nS,nZ,nZ,nS,nS,nZ]) [(0,N)]) b λP R=>fc (eR 38 6 96 M P R) λS T=>oP (fQ 3 u) λU=>fc (gh 1 U S T) λae W=>oP (eJ .add 3 e nO) λX=>w [Z,x2,u,n,o,X] W)))))))))))))))))) (dF 4 Z h λt=>oP (fD t) λY=>Fe C Q [x2,u,t,Y,nZ] h)
theorem Mz{C Q}(I)(s:S6 I (Fg C Q)){k l h}(i:I k l h)(e:l.length=6:=by rfl):Fp C Q l h:=JV.l6 I _ s i e
def Fl(C:fm)(Q:fq)(f:LP)(g m b c a:V)(h:Hp):Prop:=bO .lss 3 a c (oP (hV 1 b a) λi=>oP (fM 1 i h) λj=>gX (zC 47 [nS]) h λn r=>fc (gh 1 n j r) λt s=>gX (zC 47 [nS]) s λk o=>dF 0 n o λd=>oP (fD d) λl=>E8 C Q f [g,m,k,b,c,a,d,l,nZ] o) (oP (fM 5 m h) λe=>fc (gh 5 g e h) λp q=>oP (fM 5 g q) λr2=>Q r2 q)
theorem Mu{C Q}(I)(s:S5 I (Fl C Q)){k l h}(i:I k l h)(e:l.length=5:=by rfl):Fe C Q l h:=JV.l5 I _ s i e
def E5(C:fm)(Q:fq)(x:LP)(y:LP)(x2 u b f g i j k c:V)(h:Hp):Prop:=bO .lss 3 c k (oP (hV 4 j c) λz=>oP (fM 4 z h) λA=>gX (zC 44 [nZ,nZ,nS,nS]) h λa h1=>fc (gh 4 a A h1) λvu h2=>wP (jd 3 1 0 nZ []) h2 λB D v=>oP (fQ 2 a) λl=>oP (eQ l v) λm=>wP (jd 3 1 0 nZ []) v λd E e=>oP (fQ 3 a) λn=>oP (eQ n e) λo=>((e.get (v.next)=some d/\O.beq d d=true)/\((eQ l e=some m)/\((e.get (h2.next)=some B/\O.beq B B=true)/\fc (eR 3 1 8 D m e) λF p=>(e.next<=p.next/\oP (fQ 2 a) λG=>((eQ n p=some o)/\((p.get (v.next)=some d/\O.beq d d=true)/\fc (eR 3 1 8 E o p) λH I=>(p.next<=I.next/\fc (gh 1 G F I) λab J=>(I.next<=J.next/\oP (fQ 3 a) λK=>fc (gh 1 K H J) λac w=>(J.next<=w.next/\dF 0 b w λL=>oP (fM 4 a w) λM=>gX (jd 44 4 1 (V.agg [nZ,nZ,nS,nS]) [(0,M)]) w λN h9=>fc (eR 44 4 64 L N h9) λP R=>oP (fQ 0 b) λS=>fc (gh 1 S P R) λae T=>oP (eJ .add 3 c nO) λU=>y [x2,u,b,f,g,i,j,k,U] T)))))))))) (dF 4 u h λW=>oP (fM 1 b h) λX=>gX (jd 47 1 1 (V.agg [nS]) [(0,X)]) h λq Y=>fc (eR 47 1 24 W q Y) λr Z=>oP (fQ 4 u) λs=>fc (gh 1 s r Z) λag aa=>oP (eJ .add 3 i nO) λt=>x [x2,u,f,g,t] aa)
theorem Mg{C Q a}(I)(s:S9 I (E5 C Q a)){k l h}(i:I k l h)(e:l.length=9:=by rfl):E8 C Q a l h:=JV.l9 I _ s i e
def Ko(C:fm)(Q:fq)(a0:V)(h:Hp):Prop:=gX (mm 29 a0) h λb k=>gX (zC 29 [nZ,nZ,nS,nS,nS]) k λl c=>dF 0 b c λd=>dF 1 b c λe=>oP (fJ [nZ,nZ,nS,nS,nS] [(0,1),(1,1),(2,1),(3,1),(4,1)] [(0,d),(1,e)]) λf=>gX (zC 29 [nZ,nZ,nS,nS,nS]) c λi m=>fc (gh 5 i f m) λn j=>dF 2 b j λa=>oP (fD a) λg=>Ff C Q [b,l,i,a,g,nZ] j
theorem RB{C}(s:C.start=fK){a0 h Q}(k:C.K mZ [a0] h=none)(H:Ko C Q a0 h):cP C mZ [a0] h Q:=cP.vd t22 s (by unfold P0;exact Tryd.func22) k H
def t34:List (Nat×List Nat):=[]
def LV(C:fm)(Q:fq)(a0 a1:V)(h:Hp):Prop:=gX (mm 29 a0) h λf g=>gX (zC 29 [nZ,nZ,nS,nS,nS]) g λc d=>oP (fM 5 f d) λi=>cP C mZ [i] d λj k=>oP (fJ [nZ,nZ,nS,nS,nS,nS] [(0,5),(5,1)] [(0,j),(1,a1)]) λl=>gX (mm 89 l) k λa m=>cP C mC [a] m λn o=>cP C j9 [a] o λb p=>fc (gh 5 c b p) λq e=>oP (fM 5 c e) λr4=>Q r4 e
theorem Rv{C}(s:C.start=fK){a0 a1 h Q}(k:C.K nT [a0,a1] h=none)(H:LV C Q a0 a1 h):cP C nT [a0,a1] h Q:=cP.vd t34 s (by unfold P0;exact Tryd.func34) k H
def t50:List (Nat×List Nat):=[(43,[0,2,38,39,40]),(175,[0,2,5,6,51,52,53]),(3886,[0,2,5,6,51,52,53]),(703,[0,2,5,9,70,71,72]),(2706623,[0,2,5,9,70,71,72,83,84,85]),(2870463,[0,2,5,9,10,11,14,15,70,71,72,97,98,99]),(1407,[0,5,9,182,183]),(15550,[0,2,5,9,70,71,72]),(63687870,[0,2,5,9,10,11,14,15,70,71,72,97,98,99]),(5754047,[0,2,5,9,11,14,15,70,71,72,134,135,136]),(366975,[0,5,9,24,182,183,190,191,192]),(46063406271,[0,2,5,9,11,14,15,20,21,70,71,72,134,135,136,152,153,154]),(127388862,[0,2,5,9,11,14,15,70,71,72,134,135,136])]
def td(C:fm)(Q:fq):LP:=JV C Tryd.f50 t50 21 [0,2,38,39,40] [] Q
def tl(C:fm)(Q:fq):LP:=JV C Tryd.f50 t50 87 [0,2,5,6,51,52,53] [] Q
def mV(C:fm)(Q:fq)(a:LP):LP:=JV C Tryd.f50 t50 1943 [0,2,5,6,51,52,53] [kf [0,2,5,6,51,52,53] a] Q
def sO(C:fm)(Q:fq):LP:=JV C Tryd.f50 t50 351 [0,2,5,9,70,71,72] [] Q
def sj(C:fm)(Q:fq)(a:LP):LP:=JV C Tryd.f50 t50 1353311 [0,2,5,9,70,71,72,83,84,85] [kf [0,2,5,9,70,71,72] a] Q
def sk(C:fm)(Q:fq)(a:LP):LP:=JV C Tryd.f50 t50 1435231 [0,2,5,9,10,11,14,15,70,71,72,97,98,99] [kf [0,2,5,9,70,71,72] a] Q
def te(C:fm)(Q:fq):LP:=JV C Tryd.f50 t50 703 [0,5,9,182,183] [] Q
def mW(C:fm)(Q:fq)(a:LP):LP:=JV C Tryd.f50 t50 7775 [0,2,5,9,70,71,72] [kf [0,2,5,9,70,71,72] a] Q
def mO(C:fm)(Q:fq)(a:LP)(b:LP):LP:=JV C Tryd.f50 t50 31843935 [0,2,5,9,10,11,14,15,70,71,72,97,98,99] [kf [0,2,5,9,70,71,72] a,kf [0,2,5,9,10,11,14,15,70,71,72,97,98,99] b] Q
def rU(C:fm)(Q:fq)(a:LP):LP:=JV C Tryd.f50 t50 2877023 [0,2,5,9,11,14,15,70,71,72,134,135,136] [kf [0,2,5,9,70,71,72] a] Q
def sP(C:fm)(Q:fq)(a:LP):LP:=JV C Tryd.f50 t50 183487 [0,5,9,24,182,183,190,191,192] [kf [0,5,9,182,183] a] Q
def sm(C:fm)(Q:fq)(a:LP)(b:LP):LP:=JV C Tryd.f50 t50 23031703135 [0,2,5,9,11,14,15,20,21,70,71,72,134,135,136,152,153,154] [kf [0,2,5,9,70,71,72] a,kf [0,2,5,9,11,14,15,70,71,72,134,135,136] b] Q
def mY(C:fm)(Q:fq)(a:LP)(b:LP):LP:=JV C Tryd.f50 t50 63694431 [0,2,5,9,11,14,15,70,71,72,134,135,136] [kf [0,2,5,9,70,71,72] a,kf [0,2,5,9,11,14,15,70,71,72,134,135,136] b] Q
def su(C:fm)(Q:fq)(f:LP)(m b c d a:V)(h:Hp):Prop:=bO .lss 3 a d (dX 1 c a h λg=>oP (hV 1 b g) λi=>fc (gh 1 i bT h) λp n=>oP (eJ .add 3 a nO) λj=>f [m,b,c,d,j] n) (oP (fD b) λe=>gX (jm 3 1 8 nZ e e) h λk o=>oP (fD b) λl=>tl C Q [m,b,k,nZ,b,l,nZ] o)
theorem Aj{C Q}(I)(s:S5 I (su C Q)){k l h}(i:I k l h)(e:l.length=5:=by rfl):td C Q l h:=JV.l5 I _ s i e
def sx(C:fm)(Q:fq)(d:LP)(f i g j b c a:V)(h:Hp):Prop:=bO .lss 3 a c (dX 1 b a h λk=>bP k (oP (hV 1 g a) λl=>fc (gh 1 l j h) λr q=>oP (eJ .add 3 j nO) λm=>mV C Q d [f,i,g,m,b,c,a] q) (mV C Q d [f,i,g,j,b,c,a] h)) (oP (gU f) λn=>oP (fQ 0 n) λo=>dF 3 o h λe=>oP (fD e) λp=>sO C Q [f,i,g,nS,e,p,nZ] h)
theorem A3{C Q}(I)(s:S7 I (sx C Q)){k l h}(i:I k l h)(e:l.length=7:=by rfl):tl C Q l h:=JV.l7 I _ s i e
def mR(C:fm)(Q:fq)(a:LP)(f g i j b c d:V)(h:Hp):Prop:=oP (eJ .add 3 d nO) λe=>a [f,g,i,j,b,c,e] h
theorem rm{C Q a}:R7 (mR C Q a) (mV C Q a):=JV.r7 _
def sR(C:fm)(Q:fq)(e:LP)(l m n k c d a:V)(h:Hp):Prop:=bO .lss 3 a d (oP (hV 6 c a) λo=>oP (fM 6 o h) λp=>gX (zC 38 [nS,nZ,nZ,nS,nS,nZ]) h λb t=>fc (gh 6 b p t) λu f=>dX 1 m a f λq=>bN q (dF 0 b f λg=>oP (fD g) λr=>sj C Q e [l,m,n,k,c,d,a,g,r,nZ] f) (dF 4 b f λi=>oP (fD i) λs=>sk C Q e [l,m,n,k,a,b,nS,nS,c,d,a,i,s,nZ] f)) (oP (fD k) λj=>te C Q [l,n,k,j,nZ] h)
theorem A0{C Q}(I)(s:S7 I (sR C Q)){k l h}(i:I k l h)(e:l.length=7:=by rfl):sO C Q l h:=JV.l7 I _ s i e
def sZ(C:fm)(Q:fq)(g:LP)(i:LP)(j o p q b c d e f a:V)(h:Hp):Prop:=bO .lss 3 a f (dX 1 e a h λk=>dN 5 j h λl=>oP (hV 1 l k) λm=>fc (gh 1 m (V.I (-1)) h) λs r=>oP (eJ .add 3 a nO) λn=>i [j,o,p,q,b,c,d,e,f,n] r) (mW C Q g [j,o,p,q,b,c,d] h)
theorem A1{C Q a}(I)(s:S10 I (sZ C Q a)){k l h}(i:I k l h)(e:l.length=10:=by rfl):sj C Q a l h:=JV.l10 I _ s i e
def si(C:fm)(Q:fq)(i:LP)(s:LP)(N P R T j f k l m n o p q b:V)(h:Hp):Prop:=bO .lss 3 b q (dX 1 p b h λc=>dX 1 P c h λa=>oP (gq true a) λb5=>oP (gV b5 (some N)) λt=>oP (gq true a) λb6=>oP (gV b6 (gU t)) λu=>oP (gq true a) λb7=>oP (gV b7 (fQ 0 u)) λv=>oP (gq true a) λb8=>oP (gV b8 (fQ 3 v)) λw=>oP (gq true a) λb9=>oP (gV b9 (eQ w h)) λx=>oP (gq true a) λU=>oP (gV U (some c)) λy=>oP (gq true a) λW=>oP (gV W (hV 6 x y)) λz=>oP (gq true a) λX=>oP (gV X (fQ 3 z)) λA=>oP (gq true a) λY=>oP (gV Y (eQ A h)) λB=>oP (gq true a) λZ=>oP (gV Z (some j)) λD=>oP (gq true a) λaa=>oP (gC aa (some (j4,[B,D]))) λab=>vD C ab h λE h1=>oP (nM a E bF) λF=>bP F (wP (jd 3 1 1 nZ [(0,b)]) h1 λo2 G S=>oP (hV 1 R c) λd=>oP (eQ d S) λe=>wP (jd 3 1 1 nZ [(0,e)]) S λr H I=>((I.get (S.next)=some r/\O.beq r r=true)/\((eQ d I=some e)/\((I.get (h1.next)=some o2/\O.beq o2 o2=true)/\fc (eR 3 1 8 k G I) λJ K=>(I.next<=K.next/\((K.get (S.next)=some r/\O.beq r r=true)/\((eQ d K=some e)/\fc (eR 3 1 8 l H K) λL h5=>(K.next<=h5.next/\mO C Q i s [N,P,R,T,j,f,J,L,m,n,o,p,q,b] h5)))))))) (mO C Q i s [N,P,R,T,j,f,k,l,m,n,o,p,q,b] h1)) (dF 0 f h λg=>oP (fD g) λM=>rU C Q i [N,P,R,T,f,k,l,m,n,o,g,M,nZ] h)
theorem AO{C Q a}(I)(s:S14 I (si C Q a)){k l h}(i:I k l h)(e:l.length=14:=by rfl):sk C Q a l h:=JV.l14 I _ s i e
def rT(C:fm)(Q:fq)(i:LP)(k l j b a:V)(h:Hp):Prop:=bO .lss 3 a b (dI 6 j a 3 h λc=>oP (fD c) λd=>sP C Q i [k,l,j,a,b,a,c,d,nZ] h) (oP (gU k) λe=>oP (fQ 0 e) λf=>oP (fQ 3 f) λg=>fc (gh 1 g j h) λn m=>Q (V.tuple []) m)
theorem AZ{C Q}(I)(s:S5 I (rT C Q)){k l h}(i:I k l h)(e:l.length=5:=by rfl):te C Q l h:=JV.l5 I _ s i e
def mQ(C:fm)(Q:fq)(b:LP)(f g i j c d e:V)(h:Hp):Prop:=oP (eJ .add 3 e nO) λa=>b [f,g,i,j,c,d,a] h
theorem qX{C Q a}:R7 (mQ C Q a) (mW C Q a):=JV.r7 _
def kH(C:fm)(Q:fq)(n:LP)(b:LP)(o p q r c d e f g i j k l m:V)(h:Hp):Prop:=oP (eJ .add 3 m nO) λa=>b [o,p,q,r,c,d,e,f,g,i,j,k,l,a] h
theorem mP{C Q a b}:R14 (kH C Q a b) (mO C Q a b):=JV.r14 _
def rZ(C:fm)(Q:fq)(g:LP)(m:LP)(x y z A d e i j k l b c a:V)(h:Hp):Prop:=bO .lss 3 a c (dX 1 b a h λn=>oP (gU x) λo=>oP (fQ 0 o) λp=>dF 2 p h λq=>oP (hV 6 q n) λf=>dN 0 f h λr=>bO .eql 3 r (V.I 21) (oP (fD e) λs=>sm C Q g m [x,y,z,A,d,e,i,f,nS,j,k,l,b,c,a,e,s,nZ] h) (mY C Q g m [x,y,z,A,d,e,i,j,k,l,b,c,a] h)) (oP (fQ 4 d) λt=>fc (gh 1 t i h) λF B=>oP (fM 6 d B) λu=>gX (jd 38 6 1 (V.agg [nS,nZ,nZ,nS,nS,nZ]) [(0,u)]) B λv D=>fc (eR 38 6 96 A v D) λw E=>mW C Q g [x,y,z,w,j,k,l] E)
theorem AA{C Q a}(I)(s:S13 I (rZ C Q a)){k l h}(i:I k l h)(e:l.length=13:=by rfl):rU C Q a l h:=JV.l13 I _ s i e
def sU(C:fm)(Q:fq)(n:LP)(o:LP)(r p q f b c d e a:V)(h:Hp):Prop:=bO .lss 3 a e (dX 1 d a h λg=>dI 6 q f 3 h λi=>dX 1 p g h λj=>oP (hV 1 i a) λk=>fc (gh 1 k j h) λt s=>(h.next<=s.next/\oP (eJ .add 3 a nO) λl=>o [r,p,q,f,b,c,d,e,l] s)) (oP (eJ .add 3 c nO) λm=>n [r,p,q,b,m] h)
theorem AI{C Q a}(I)(s:S9 I (sU C Q a)){k l h}(i:I k l h)(e:l.length=9:=by rfl):sP C Q a l h:=JV.l9 I _ s i e
def rQ(C:fm)(Q:fq)(x:LP)(y:LP)(z:LP)(A B D E i j k g l m n o b c d e f a:V)(h:Hp):Prop:=bO .lss 3 a f (dX 1 e a h λp=>dN 4 g h λq=>dX 1 q p h λr=>gX (jd 3 1 1 nZ [(0,r)]) h λs F=>fc (eR 3 1 8 l s F) λt G=>oP (eJ .add 3 a nO) λu=>z [A,B,D,E,i,j,k,g,t,m,n,o,b,c,d,e,f,u] G) (oP (gU g) λv=>oP (fQ 4 v) λw=>fc (gh 1 w l h) λI H=>mY C Q x y [A,B,D,E,i,j,k,m,n,o,b,c,d] H)
theorem AJ{C Q a b}(I)(s:S18 I (rQ C Q a b)){k l h}(i:I k l h)(e:l.length=18:=by rfl):sm C Q a b l h:=JV.l18 I _ s i e
def mU(C:fm)(Q:fq)(m:LP)(e:LP)(n o p q f g i j k l a b c:V)(h:Hp):Prop:=oP (eJ .add 3 c nO) λd=>e [n,o,p,q,f,g,i,j,k,l,a,b,d] h
theorem qV{C Q a b}:R13 (mU C Q a b) (mY C Q a b):=JV.r13 _
def vV(C:fm)(Q:fq)(a0:V)(h:Hp):Prop:=oP (gU a0) λc=>oP (fQ 0 c) λd=>dG 3 d h λa=>gX (jm 4 1 1 bF a a) h λe k=>oP (gU a0) λf=>oP (fQ 0 f) λg=>oP (fM 5 g k) λi=>cP C nN [i] k λb l=>oP (fD b) λj=>td C Q [a0,e,b,j,nZ] l
theorem DT{C}(s:C.start=fK){a0 h Q}(k:C.K mC [a0] h=none)(H:vV C Q a0 h):cP C mC [a0] h Q:=cP.vd t50 s (by unfold P0;exact Tryd.func50) k H
def t69:List (Nat×List Nat):=[(43,[0,1,5])]
def vn(C:fm)(Q:fq):LP:=JV C Tryd.f69 t69 21 [0,1,5] [] Q
def ve(C:fm)(Q:fq)(c:LP)(a b z:V)(h:Hp):Prop:=dN 5 a h λA=>dX 1 A b h λd=>oP (eJ .geq 3 d nZ) λe=>oP (mn e (oB (some a) λf=>oB (gU f) λg=>oB (fQ 5 g) λi=>oB (eQ i h) λj=>oB (some b) λk=>oB (hV 1 j k) λl=>oB (eQ l h) λm=>oB (some b) λn=>eJ .neq 3 m n)) λo=>oP (mn o (oB (some z) λp=>oB (some a) λq=>oB (gU q) λr=>oB (fQ 5 r) λs=>oB (eQ s h) λt=>oB (fD t) λu=>eJ .leq 3 p u)) λv=>bP v (dN 5 a h λw=>dX 1 w b h λx=>oP (eJ .add 3 z nO) λy=>c [a,x,y] h) (Q b h)
theorem CD{C Q}(I)(s:S3 I (ve C Q)){k l h}(i:I k l h)(e:l.length=3:=by rfl):vn C Q l h:=JV.l3 I _ s i e
def yu(C:fm)(Q:fq)(a0 a1:V)(h:Hp):Prop:=vn C Q [a0,a1,nZ] h
theorem Gx{C}(s:C.start=fK){a0 a1 h Q}(k:C.K iW [a0,a1] h=none)(H:yu C Q a0 a1 h):cP C iW [a0,a1] h Q:=cP.vd t69 s (by unfold P0;exact Tryd.func69) k H
def t51:List (Nat×List Nat):=[(351,[1,2,3,4,5,41,42]),(353887,[1,2,3,4,5,6,7,41,42,53,54,55]),(5631,[1,2,3,4,11,12,96,97,98]),(7956062,[1,2,3,4,5,6,7,41,42,53,54,55]),(1992190,[1,2,3,4,11,12,15,96,97,98]),(11263,[1,2,3,4,12,165,166,167]),(4089342,[1,2,3,4,11,12,15,96,97,98]),(1887230,[1,2,3,4,12,17,165,166,167]),(8283646,[1,2,3,4,11,12,15,96,97,98]),(16672254,[1,2,3,4,11,12,15,96,97,98])]
def qW(C:fm)(Q:fq):LP:=JV C Tryd.f51 t51 175 [1,2,3,4,5,41,42] [] Q
def rn(C:fm)(Q:fq)(a:LP):LP:=JV C Tryd.f51 t51 176943 [1,2,3,4,5,6,7,41,42,53,54,55] [kf [1,2,3,4,5,41,42] a] Q
def kM(C:fm)(Q:fq):LP:=JV C Tryd.f51 t51 2815 [1,2,3,4,11,12,96,97,98] [] Q
def my(C:fm)(Q:fq)(a:LP)(b:LP):LP:=JV C Tryd.f51 t51 3978031 [1,2,3,4,5,6,7,41,42,53,54,55] [kf [1,2,3,4,5,41,42] a,kf [1,2,3,4,5,6,7,41,42,53,54,55] b] Q
def j6(C:fm)(Q:fq)(a:LP):LP:=JV C Tryd.f51 t51 996095 [1,2,3,4,11,12,15,96,97,98] [kf [1,2,3,4,11,12,96,97,98] a] Q
def kR(C:fm)(Q:fq):LP:=JV C Tryd.f51 t51 5631 [1,2,3,4,12,165,166,167] [] Q
def j5(C:fm)(Q:fq)(a:LP):LP:=JV C Tryd.f51 t51 2044671 [1,2,3,4,11,12,15,96,97,98] [kf [1,2,3,4,11,12,96,97,98] a] Q
def ji(C:fm)(Q:fq)(a:LP):LP:=JV C Tryd.f51 t51 943615 [1,2,3,4,12,17,165,166,167] [kf [1,2,3,4,12,165,166,167] a] Q
def j7(C:fm)(Q:fq)(a:LP):LP:=JV C Tryd.f51 t51 4141823 [1,2,3,4,11,12,15,96,97,98] [kf [1,2,3,4,11,12,96,97,98] a] Q
def j8(C:fm)(Q:fq)(a:LP):LP:=JV C Tryd.f51 t51 8336127 [1,2,3,4,11,12,15,96,97,98] [kf [1,2,3,4,11,12,96,97,98] a] Q
def rr(C:fm)(Q:fq)(g:LP)(c s i j k d a:V)(h:Hp):Prop:=bO .lss 3 a d (oP (eQ c h) λm=>oP (gU m) λn=>oP (fQ 0 n) λo=>dJ 3 o 6 a 0 h λe=>oP (fD e) λp=>rn C Q g [c,s,i,j,k,a,nS,d,a,e,p,nZ] h) (gX (some (.map [] 0,λl=> .map l)) h λq u=>gX (zC 109 [V.ku]) u λf v=>fc (gh 1 f q v) λz w=>gX (zC 110 [V.nilFunc]) w λb x=>fc (gh 1 b (V.func hX [] [j,c]) x) λt y=>oP (fD k) λr=>kM C Q [c,s,i,j,b,(V.func fE [] [f,i,c,b]),k,r,nZ] y)
theorem z6{C Q}(I)(s:S7 I (rr C Q)){k l h}(i:I k l h)(e:l.length=7:=by rfl):qW C Q l h:=JV.l7 I _ s i e
def rq(C:fm)(Q:fq)(c:LP)(i:LP)(j m n l k o p d e f g a:V)(h:Hp):Prop:=bO .lss 3 a g (dX 1 f a h λb=>oP (eQ j h) λq=>dN 5 q h λr=>dX 1 r b h λs=>bO .eql 3 s b (oP (eQ l h) λt=>oP (fD k) λu=>oP (hV 1 t b) λv=>fc (gh 1 v u h) λR K=>oP (fD k) λw=>gX (jd 3 1 1 nZ [(0,w)]) K λx L=>fc (eR 3 1 8 p x L) λy M=>gX (jd 3 1 1 nZ [(0,b)]) M λz N=>fc (eR 3 1 8 k z N) λA O=>my C Q c i [j,m,n,l,A,o,y,d,e,f,g,a] O) (my C Q c i [j,m,n,l,k,o,p,d,e,f,g,a] h)) (oP (eQ j h) λB=>oP (gU B) λD=>oP (fQ 0 D) λE=>dF 3 E h λF=>oP (hV 6 F o) λG=>oP (fQ 0 G) λH=>fc (gh 1 H p h) λJ P=>oP (eJ .add 3 e nO) λI=>c [j,m,n,l,k,d,I] P)
theorem z8{C Q a}(I)(s:S12 I (rq C Q a)){k l h}(i:I k l h)(e:l.length=12:=by rfl):rn C Q a l h:=JV.l12 I _ s i e
def qT(C:fm)(Q:fq)(k:LP)(i H I l m e f g b:V)(h:Hp):Prop:=bO .lss 3 b g (dX 1 f b h λn=>oP (eQ i h) λo=>oP (gU o) λp=>oP (fQ 0 p) λq=>dF 2 q h λr=>oP (hV 6 r n) λs=>oP (fM 6 s h) λt=>gX (zC 40 [nZ,nZ,nZ,nZ,nS,nZ]) h λa M=>fc (gh 6 a t M) λN J=>dF 0 a J λu=>cP C sN [u] J λv j=>bO .gtr 3 v nZ (oP (eQ l j) λc=>oP (eQ i j) λw=>dF 1 a j λx=>cP C iW [w,x] j λy z=>(j.next<=z.next/\dX 1 c y z λA=>oP (fQ 1 a) λB=>((eQ l z=some c)/\fc (gh 1 B A z) λK L=>(z.next<=L.next/\j6 C Q k [i,H,I,l,m,e,a,f,g,b] L)))) (j6 C Q k [i,H,I,l,m,e,a,f,g,b] j)) (oP (eQ i h) λD=>oP (gU D) λE=>oP (fQ 0 E) λF=>dF 3 F h λd=>oP (fD d) λG=>kR C Q [i,H,I,l,e,d,G,nZ] h)
theorem zU{C Q}(I)(s:S9 I (qT C Q)){k l h}(i:I k l h)(e:l.length=9:=by rfl):kM C Q l h:=JV.l9 I _ s i e
def mw(C:fm)(Q:fq)(i:LP)(a:LP)(j k l m n o p b c d e f:V)(h:Hp):Prop:=oP (eJ .add 3 f nO) λg=>a [j,k,l,m,n,o,p,b,c,d,e,g] h
theorem qk{C Q a b}:R12 (mw C Q a b) (my C Q a b):=JV.r12 _
def qf(C:fm)(Q:fq)(d:LP)(t u v s e f a g i j:V)(h:Hp):Prop:=dF 0 a h λk=>cP C sN [k] h λl c=>bO .gtr 3 l nO (oP (eQ s c) λb=>oP (eQ t c) λm=>dF 2 a c λn=>cP C iW [m,n] c λo p=>(c.next<=p.next/\dX 1 b o p λq=>oP (fQ 2 a) λr=>((eQ s p=some b)/\fc (gh 1 r q p) λx w=>(p.next<=w.next/\j5 C Q d [t,u,v,s,e,f,a,g,i,j] w)))) (j5 C Q d [t,u,v,s,e,f,a,g,i,j] c)
theorem zi{C Q a}:Az (qf C Q a) (j6 C Q a):=JV.r10 _
def qM(C:fm)(Q:fq)(j:LP)(y k z l e c d b:V)(h:Hp):Prop:=bO .lss 3 b d (oP (hV 6 c b) λm=>oP (fM 6 m h) λn=>gX (zC 38 [nS,nZ,nZ,nS,nS,nZ]) h λa G=>fc (gh 6 a n G) λJ f=>dF 1 a f λg=>bO .eql 3 g (V.I 2) (oP (eQ l f) λi=>oP (eQ y f) λo=>dF 2 a f λp=>cP C iW [o,p] f λq r=>(f.next<=r.next/\dX 1 i q r λs=>oP (fQ 2 a) λt=>((eQ l r=some i)/\fc (gh 1 t s r) λA B=>(r.next<=B.next/\ji C Q j [y,k,z,l,e,a,c,d,b] B)))) (bO .eql 3 g (V.I 3) (dF 5 a f λu=>gN C (fO e [u]) f λv H=>oP (fQ 5 a) λw=>fc (gh 1 w v H) λD I=>ji C Q j [y,k,z,l,e,a,c,d,b] I) (ji C Q j [y,k,z,l,e,a,c,d,b] f))) (oP (fM 5 z h) λx=>fc (gh 5 k x h) λE F=>oP (fM 5 k F) λr2=>Q r2 F)
theorem zX{C Q}(I)(s:S8 I (qM C Q)){k l h}(i:I k l h)(e:l.length=8:=by rfl):kR C Q l h:=JV.l8 I _ s i e
def qz(C:fm)(Q:fq)(c:LP)(p q r s b d a e f g:V)(h:Hp):Prop:=dF 0 a h λi=>oP (eJ .eql 3 i (V.I 21)) λj=>oP (uP j (oB (fQ 0 a) λk=>oB (eQ k h) λl=>eJ .eql 3 l (V.I 20))) λm=>bP m (oP (eQ b h) λn=>dF 4 a h λo=>gN C (fO n [o]) h λt u=>j7 C Q c [p,q,r,s,b,d,a,e,f,g] u) (j7 C Q c [p,q,r,s,b,d,a,e,f,g] h)
theorem zk{C Q a}:Az (qz C Q a) (j5 C Q a):=JV.r10 _
def qq(C:fm)(Q:fq)(k:LP)(o p l q m n a b c:V)(h:Hp):Prop:=dF 3 l h λd=>oP (fM 6 n h) λe=>gX (jd 38 6 1 (V.agg [nS,nZ,nZ,nS,nS,nZ]) [(0,e)]) h λf r=>fc (eR 38 6 96 d f r) λg s=>oP (fQ 3 l) λi=>fc (gh 1 i g s) λu t=>oP (eJ .add 3 c nO) λj=>k [o,p,l,q,m,a,b,j] t
theorem zd{C Q a}:R9 (qq C Q a) (ji C Q a):=JV.r9 _
def qo(C:fm)(Q:fq)(c:LP)(o p q r d b a e f g:V)(h:Hp):Prop:=dF 0 a h λi=>cP C mG [i] h λj n=>bP j (dF 5 a n λk=>gN C (fO b [k]) n λl s=>oP (fQ 5 a) λm=>fc (gh 1 m l s) λu t=>j8 C Q c [o,p,q,r,d,b,a,e,f,g] t) (j8 C Q c [o,p,q,r,d,b,a,e,f,g] n)
theorem zb{C Q a}:Az (qo C Q a) (j7 C Q a):=JV.r10 _
def qD(C:fm)(Q:fq)(g:LP)(p q i r j k l m n o:V)(h:Hp):Prop:=dF 2 i h λa=>oP (fM 6 l h) λb=>gX (jd 40 6 1 (V.agg [nZ,nZ,nZ,nZ,nS,nZ]) [(0,b)]) h λc s=>fc (eR 40 6 64 a c s) λd t=>oP (fQ 2 i) λe=>fc (gh 1 e d t) λv u=>oP (eJ .add 3 o nO) λf=>g [p,q,i,r,j,k,m,n,f] u
theorem zf{C Q a}:Az (qD C Q a) (j8 C Q a):=JV.r10 _
def uV(C:fm)(Q:fq)(a0:V)(h:Hp):Prop:=gX (mm 87 a0) h λa F=>gX (zC 29 [nZ,nZ,nS,nS,nS]) F λG d=>oP (eQ a d) λe=>oP (gU e) λn=>oP (fQ 0 n) λo=>oP (fQ 0 o) λf=>oP (eQ f d) λg=>oP (eQ a d) λi=>oP (gU i) λp=>oP (fQ 0 p) λq=>oP (fQ 1 q) λj=>oP (eQ j d) λk=>oP (fJ [nZ,nZ,nS,nS,nS] [(0,1),(1,1),(2,1),(3,1),(4,1)] [(0,g),(1,k)]) λr=>wP (zC 29 [nZ,nZ,nS,nS,nS]) d λb B c=>((c.get (d.next)=some b/\O.beq b b=true)/\((eQ j c=some k)/\((eQ a c=some i)/\((eQ f c=some g)/\((eQ a c=some e)/\fc (gh 5 B r c) λJ m=>(c.next<=m.next/\oP (eQ a m) λs=>oP (gU s) λt=>oP (fQ 0 t) λu=>dG 2 u m λl=>gX (jm 3 1 8 nZ l l) m λv H=>gX (zC 22 [nS]) H λD I=>fc (gh 1 D v I) λE w=>oP (eQ a w) λx=>oP (gU x) λy=>oP (fQ 0 y) λz=>dG 3 z w λA=>qW C Q [a,G,B,D,nS,A,nZ] w))))))
theorem CB{C}(s:C.start=fK){a0 h Q}(k:C.K j9 [a0] h=none)(H:uV C Q a0 h):cP C j9 [a0] h Q:=cP.vd t51 s (by unfold P0;exact Tryd.func51) k H
def t68:List (Nat×List Nat):=[(11,[0,1,2,6,7,8])]
def pW(C:fm)(Q:fq):LP:=JV C Tryd.f68 t68 5 [0,1,2,6,7,8] [] Q
def pH(C:fm)(Q:fq)(d:LP)(m e n o p c:V)(h:Hp):Prop:=bO .lss 3 c p (dX 1 o c h λf=>oP (eQ e h) λa=>oP (eQ n h) λg=>cP C iW [g,f] h λi b=>(h.next<=b.next/\dX 1 a i b λj=>oP (hV 1 m c) λk=>((eQ e b=some a)/\fc (gh 1 k j b) λr q=>(b.next<=q.next/\oP (eJ .add 3 c nO) λl=>d [m,e,n,o,p,l] q)))) (Q (V.tuple []) h)
theorem yF{C Q}(I)(s:S6 I (pH C Q)){k l h}(i:I k l h)(e:l.length=6:=by rfl):pW C Q l h:=JV.l6 I _ s i e
def ti(C:fm)(Q:fq)(a0 a1 a2:V)(h:Hp):Prop:=oP (fD a0) λa=>pW C Q [a0,a1,a2,a0,a,nZ] h
theorem AD{C}(s:C.start=fK){a0 a1 a2 h Q}(k:C.K hX [a0,a1,a2] h=none)(H:ti C Q a0 a1 a2 h):cP C hX [a0,a1,a2] h Q:=cP.vd t68 s (by unfold P0;exact Tryd.func68) k H
def t70:List (Nat×List Nat):=[(2775,[0,2,3,4,7,33,34,35]),(30,[7])]
def pV(C:fm)(Q:fq):LP:=JV C Tryd.f70 t70 1387 [0,2,3,4,7,33,34,35] [] Q
def ma(C:fm)(Q:fq):LP:=JV C Tryd.f70 t70 15 [7] [] Q
def pw(C:fm)(Q:fq)(o:LP)(I p q r J e f a:V)(h:Hp):Prop:=bO .lss 3 a f (oP (hV 4 e a) λs=>oP (fM 4 s h) λt=>gX (zC 44 [nZ,nZ,nS,nS]) h λb M=>fc (gh 4 b t M) λS u=>oP (eQ r u) λv=>dF 2 b u λw=>gN C (fO v [w]) u λN x=>oP (eQ r x) λy=>dF 3 b x λz=>gN C (fO y [z]) x λP R=>oP (eJ .add 3 a nO) λA=>o [I,p,q,r,J,e,f,A] R) (oP (fQ 4 p) λg=>oP (eQ g h) λi=>oP (eQ q h) λj=>oP (gU j) λB=>oP (fQ 0 B) λD=>oP (fQ 4 D) λk=>oP (eQ k h) λl=>oP (hV 1 l I) λm=>oP (fM 1 m h) λn=>wP (jd 47 1 1 (V.agg [nS]) [(0,n)]) h λc E d=>((d.get (h.next)=some c/\O.beq c c=true)/\((fM 1 m d=some n)/\((eQ k d=some l)/\((eQ q d=some j)/\((eQ g d=some i)/\fc (eR 47 1 24 i E d) λF G=>(d.next<=G.next/\oP (fQ 4 p) λH=>fc (gh 1 H F G) λK L=>(G.next<=L.next/\ma C Q [J] L))))))))
theorem yT{C Q}(I)(s:S8 I (pw C Q)){k l h}(i:I k l h)(e:l.length=8:=by rfl):pV C Q l h:=JV.l8 I _ s i e
def mh(C:fm)(Q:fq)(a:V)(h:Hp):Prop:=Q a h
theorem px{C Q}:R1 (mh C Q) (ma C Q):=JV.r1 _
def sr(C:fm)(Q:fq)(a0 a1 a2 a3 a4:V)(h:Hp):Prop:=oP (eQ a1 h) λd=>oP (I4 3 none nZ true d a0 h) λa=>oP (BS 0 a) λe=>oP (BS 1 a) λf=>bN f (dG 4 a2 h λb=>oP (eQ a1 h) λg=>fc (G2 3 none g a0 b h) λn i=>oP (eQ a3 i) λj=>oP (gU j) λk=>oP (fQ 0 k) λl=>dJ 4 l 1 a0 0 i λc=>oP (fD c) λm=>pV C Q [a0,a2,a3,a4,b,c,m,nZ] i) (ma C Q [e] h)
theorem AW{C}(s:C.start=fK){a0 a1 a2 a3 a4 h Q}(k:C.K fE [a0,a1,a2,a3,a4] h=none)(H:sr C Q a0 a1 a2 a3 a4 h):cP C fE [a0,a1,a2,a3,a4] h Q:=cP.vd t70 s (by unfold P0;exact Tryd.func70) k H
def t35:List (Nat×List Nat):=[(87,[3,10,11])]
def E6(C:fm)(Q:fq):LP:=JV C Tryd.f35 t35 43 [3,10,11] [] Q
def Fy(C:fm)(Q:fq)(c:LP)(d b a:V)(h:Hp):Prop:=bO .lss 3 a b (oP (hV 1 d a) λe=>fc (gh 1 e a h) λi g=>oP (eJ .add 3 a nO) λf=>c [d,b,f] g) (Q d h)
theorem Mi{C Q}(I)(s:S3 I (Fy C Q)){k l h}(i:I k l h)(e:l.length=3:=by rfl):E6 C Q l h:=JV.l3 I _ s i e
def KX(C:fm)(Q:fq)(a0:V)(h:Hp):Prop:=gX (mm 29 a0) h λe b=>dG 2 e b λc=>gX (jm 3 1 8 nZ c c) b λd f=>oP (fD d) λa=>E6 C Q [d,a,nZ] f
theorem St{C}(s:C.start=fK){a0 h Q}(k:C.K rH [a0] h=none)(H:KX C Q a0 h):cP C rH [a0] h Q:=cP.vd t35 s (by unfold P0;exact Tryd.func35) k H
def t67:List (Nat×List Nat):=[]
def qC(C:fm)(Q:fq)(a0 a1:V)(h:Hp):Prop:=cP C nU [a0,a1] h λa b=>oP (eJ .geq 3 a nZ) λc=>Q c b
theorem yZ{C}(s:C.start=fK){a0 a1 h Q}(k:C.K j4 [a0,a1] h=none)(H:qC C Q a0 a1 h):cP C j4 [a0,a1] h Q:=cP.vd t67 s (by unfold P0;exact Tryd.func67) k H
def t79:List (Nat×List Nat):=[(43,[0,1,7,8])]
def qm(C:fm)(Q:fq):LP:=JV C Tryd.f79 t79 21 [0,1,7,8] [] Q
def qj(C:fm)(Q:fq)(b:LP)(e f g a:V)(h:Hp):Prop:=bO .lss 3 a g (dX 1 e a h λc=>bO .eql 3 f c (Q a h) (oP (eJ .add 3 a nO) λd=>b [e,f,g,d] h)) (Q (V.I (-1)) h)
theorem yY{C Q}(I)(s:S4 I (qj C Q)){k l h}(i:I k l h)(e:l.length=4:=by rfl):qm C Q l h:=JV.l4 I _ s i e
def tq(C:fm)(Q:fq)(a0 a1:V)(h:Hp):Prop:=oP (fD a0) λa=>qm C Q [a0,a1,a,nZ] h
theorem Bp{C}(s:C.start=fK){a0 a1 h Q}(k:C.K nU [a0,a1] h=none)(H:tq C Q a0 a1 h):cP C nU [a0,a1] h Q:=cP.vd t79 s (by unfold P0;exact Tryd.func79) k H
end
