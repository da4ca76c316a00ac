/- Parts. -/
import Derived.Test.YtkpicojjjifmgaaGreatDoorM14
namespace Go.Proofs.YtkpicojjjifmgaaGreatDoor.Hx
set_option maxRecDepth 100000
noncomputable section
def t5:List (Nat×List Nat):=[(87,[1,2,3,19,20,21]),(175,[1,2,3,38,39,40]),(351,[2,3,67,68,69]),(353887,[2,3,10,67,68,69,74,75,76])]
def Hj(C:ft)(Q:fy):LP:=JV C Tryz.f5 t5 43 [1,2,3,19,20,21] [] Q
def Ha(C:ft)(Q:fy):LP:=JV C Tryz.f5 t5 87 [1,2,3,38,39,40] [] Q
def G5(C:ft)(Q:fy):LP:=JV C Tryz.f5 t5 175 [2,3,67,68,69] [] Q
def Hy(C:ft)(Q:fy)(a:LP):LP:=JV C Tryz.f5 t5 176943 [2,3,10,67,68,69,74,75,76] [kf [2,3,67,68,69] a] Q
def Hs(C:ft)(Q:fy)(fT:LP)(g w e b c a:V)(h:Hp):Prop:=bO .lss 3 a c (oP (gJ 6 b a) λi=>oP (fY 6 i h) λj=>hX (zC 45 [nZ,nZ,nZ,nZ,nS,nZ]) h λf A=>fk (gM 6 f j A) λH B=>hX (jG 3 1 0 nZ []) B λk x=>dF 4 f x λl=>fk (fg 3 1 8 k l x) λm D=>oP (fI 4 f) λn=>fk (gM 1 n m D) λy o=>dF 2 e o λp=>oP (fY 6 f o) λq=>hX (jG 45 6 1 (V.agg [nZ,nZ,nZ,nZ,nS,nZ]) [(0,q)]) o λr E=>fk (fg 45 6 64 p r E) λs F=>oP (fI 2 e) λt=>fk (gM 1 t s F) λz G=>oP (ev .add 3 a nO) λu=>fT [g,w,e,b,c,u] G) (dF 3 g h λd=>oP (fH d) λv=>Ha C Q [g,w,e,d,v,nZ] h)
theorem NL{C Q}(I)(s:S6 I (Hs C Q)){k l h}(i:I k l h)(e:l.length=6:=by rfl):Hj C Q l h:=JV.l6 I _ s i e
def Hb(C:ft)(Q:fy)(w:LP)(Z x2 u n o e:V)(h:Hp):Prop:=bO .lss 3 e o (oP (gJ 6 n e) λx=>oP (fY 6 x h) λy=>hX (zC 43 [nS,nZ,nZ,nS,nS,nZ]) h λc h1=>fk (gM 6 c y h1) λvu h2=>xE (jG 3 1 0 nZ []) h2 λz A v=>oP (fI 0 c) λp=>oP (eQ p v) λq=>xE (jG 3 1 0 nZ []) v λm B r=>oP (fI 3 c) λf=>oP (eQ f r) λg=>xE (jG 3 1 0 nZ []) r λa D d=>oP (fI 4 c) λi=>oP (eQ i d) λj=>((d.get (r.next)=some a/\O.beq a a=true)/\((eQ f d=some g)/\((d.get (v.next)=some m/\O.beq m m=true)/\((eQ p d=some q)/\((d.get (h2.next)=some z/\O.beq z z=true)/\fk (fg 3 1 8 A q d) λE k=>(d.next<=k.next/\oP (fI 0 c) λF=>((eQ i k=some j)/\((k.get (r.next)=some a/\O.beq a a=true)/\((eQ f k=some g)/\((k.get (v.next)=some m/\O.beq m m=true)/\fk (fg 3 1 8 B g k) λG s=>(k.next<=s.next/\((eQ i s=some j)/\((s.get (r.next)=some a/\O.beq a a=true)/\fk (fg 3 1 8 D j s) λH I=>(s.next<=I.next/\fk (gM 1 F E I) λaa J=>(I.next<=J.next/\oP (fI 3 c) λK=>fk (gM 1 K G J) λab l=>(J.next<=l.next/\oP (fI 4 c) λL=>fk (gM 1 L H l) λac b=>(l.next<=b.next/\dF 3 u b λM=>oP (fY 6 c b) λN=>hX (jG 43 6 1 (V.agg [nS,nZ,nZ,nS,nS,nZ]) [(0,N)]) b λP R=>fk (fg 43 6 96 M P R) λS T=>oP (fI 3 u) λU=>fk (gM 1 U S T) λae W=>oP (ev .add 3 e nO) λX=>w [Z,x2,u,n,o,X] W)))))))))))))))))) (dF 4 Z h λt=>oP (fH t) λY=>G5 C Q [x2,u,t,Y,nZ] h)
theorem Nu{C Q}(I)(s:S6 I (Hb C Q)){k l h}(i:I k l h)(e:l.length=6:=by rfl):Ha C Q l h:=JV.l6 I _ s i e
def Ht(C:ft)(Q:fy)(f:LP)(g m b c a:V)(h:Hp):Prop:=bO .lss 3 a c (oP (gJ 1 b a) λi=>oP (fY 1 i h) λj=>hX (zC 52 [nS]) h λn r=>fk (gM 1 n j r) λu s=>hX (zC 52 [nS]) s λk o=>dF 0 n o λd=>oP (fH d) λl=>Hy C Q f [g,m,k,b,c,a,d,l,nZ] o) (oP (fY 5 m h) λe=>fk (gM 5 g e h) λp q=>oP (fY 5 g q) λt=>Q t q)
theorem NJ{C Q}(I)(s:S5 I (Ht C Q)){k l h}(i:I k l h)(e:l.length=5:=by rfl):G5 C Q l h:=JV.l5 I _ s i e
def Hk(C:ft)(Q:fy)(x:LP)(y:LP)(x2 u b f g i j k c:V)(h:Hp):Prop:=bO .lss 3 c k (oP (gJ 4 j c) λz=>oP (fY 4 z h) λA=>hX (zC 49 [nZ,nZ,nS,nS]) h λa h1=>fk (gM 4 a A h1) λvu h2=>xE (jG 3 1 0 nZ []) h2 λB D v=>oP (fI 2 a) λl=>oP (eQ l v) λm=>xE (jG 3 1 0 nZ []) v λd E e=>oP (fI 3 a) λn=>oP (eQ n e) λo=>((e.get (v.next)=some d/\O.beq d d=true)/\((eQ l e=some m)/\((e.get (h2.next)=some B/\O.beq B B=true)/\fk (fg 3 1 8 D m e) λF p=>(e.next<=p.next/\oP (fI 2 a) λG=>((eQ n p=some o)/\((p.get (v.next)=some d/\O.beq d d=true)/\fk (fg 3 1 8 E o p) λH I=>(p.next<=I.next/\fk (gM 1 G F I) λab J=>(I.next<=J.next/\oP (fI 3 a) λK=>fk (gM 1 K H J) λac w=>(J.next<=w.next/\dF 0 b w λL=>oP (fY 4 a w) λM=>hX (jG 49 4 1 (V.agg [nZ,nZ,nS,nS]) [(0,M)]) w λN h9=>fk (fg 49 4 64 L N h9) λP R=>oP (fI 0 b) λS=>fk (gM 1 S P R) λae T=>oP (ev .add 3 c nO) λU=>y [x2,u,b,f,g,i,j,k,U] T)))))))))) (dF 4 u h λW=>oP (fY 1 b h) λX=>hX (jG 52 1 1 (V.agg [nS]) [(0,X)]) h λq Y=>fk (fg 52 1 24 W q Y) λr Z=>oP (fI 4 u) λs=>fk (gM 1 s r Z) λag aa=>oP (ev .add 3 i nO) λt=>x [x2,u,f,g,t] aa)
theorem Nv{C Q a}(I)(s:S9 I (Hk C Q a)){k l h}(i:I k l h)(e:l.length=9:=by rfl):Hy C Q a l h:=JV.l9 I _ s i e
def M7(C:ft)(Q:fy)(a0:V)(h:Hp):Prop:=hX (lX 30 a0) h λb k=>hX (zC 30 [nZ,nZ,nS,nS,nS]) k λl c=>dF 0 b c λd=>dF 1 b c λe=>oP (fV [nZ,nZ,nS,nS,nS] [(0,1),(1,1),(2,1),(3,1),(4,1)] [(0,d),(1,e)]) λf=>hX (zC 30 [nZ,nZ,nS,nS,nS]) c λi m=>fk (gM 5 i f m) λn j=>dF 2 b j λa=>oP (fH a) λg=>Hj C Q [b,l,i,a,g,nZ] j
theorem Sp{C}(s:C.start=fO){a0 h Q}(k:C.K ye [a0] h=none)(H:M7 C Q a0 h):cP C ye [a0] h Q:=cP.vd t5 s (by unfold P0;exact Tryz.func5) k H
def t24:List (Nat×List Nat):=[]
def LG(C:ft)(Q:fy)(a0 a1:V)(h:Hp):Prop:=hX (lX 30 a0) h λf g=>hX (zC 30 [nZ,nZ,nS,nS,nS]) g λc d=>oP (fY 5 f d) λi=>cP C ye [i] d λj k=>oP (fV [nZ,nZ,nS,nS,nS,nS] [(0,5),(5,1)] [(0,j),(1,a1)]) λl=>hX (lX 103 l) k λa m=>cP C og [a] m λn o=>cP C lD [a] o λb p=>fk (gM 5 c b p) λq e=>oP (fY 5 c e) λr4=>Q r4 e
theorem TB{C}(s:C.start=fO){a0 a1 h Q}(k:C.K Ap [a0,a1] h=none)(H:LG C Q a0 a1 h):cP C Ap [a0,a1] h Q:=cP.vd t24 s (by unfold P0;exact Tryz.func24) k H
def t56:List (Nat×List Nat):=[(43,[0,2,38,39,40]),(175,[0,2,5,6,51,52,53]),(3886,[0,2,5,6,51,52,53]),(703,[0,2,5,9,70,71,72]),(2706623,[0,2,5,9,70,71,72,83,84,85]),(2870463,[0,2,5,9,10,11,14,15,70,71,72,97,98,99]),(1407,[0,5,9,182,183]),(15550,[0,2,5,9,70,71,72]),(63687870,[0,2,5,9,10,11,14,15,70,71,72,97,98,99]),(5754047,[0,2,5,9,11,14,15,70,71,72,134,135,136]),(366975,[0,5,9,24,182,183,190,191,192]),(46063406271,[0,2,5,9,11,14,15,20,21,70,71,72,134,135,136,152,153,154]),(127388862,[0,2,5,9,11,14,15,70,71,72,134,135,136])]
def uL(C:ft)(Q:fy):LP:=JV C Tryz.f56 t56 21 [0,2,38,39,40] [] Q
def uI(C:ft)(Q:fy):LP:=JV C Tryz.f56 t56 87 [0,2,5,6,51,52,53] [] Q
def ou(C:ft)(Q:fy)(a:LP):LP:=JV C Tryz.f56 t56 1943 [0,2,5,6,51,52,53] [kf [0,2,5,6,51,52,53] a] Q
def vm(C:ft)(Q:fy):LP:=JV C Tryz.f56 t56 351 [0,2,5,9,70,71,72] [] Q
def uW(C:ft)(Q:fy)(a:LP):LP:=JV C Tryz.f56 t56 1353311 [0,2,5,9,70,71,72,83,84,85] [kf [0,2,5,9,70,71,72] a] Q
def vL(C:ft)(Q:fy)(a:LP):LP:=JV C Tryz.f56 t56 1435231 [0,2,5,9,10,11,14,15,70,71,72,97,98,99] [kf [0,2,5,9,70,71,72] a] Q
def vF(C:ft)(Q:fy):LP:=JV C Tryz.f56 t56 703 [0,5,9,182,183] [] Q
def oA(C:ft)(Q:fy)(a:LP):LP:=JV C Tryz.f56 t56 7775 [0,2,5,9,70,71,72] [kf [0,2,5,9,70,71,72] a] Q
def om(C:ft)(Q:fy)(a:LP)(b:LP):LP:=JV C Tryz.f56 t56 31843935 [0,2,5,9,10,11,14,15,70,71,72,97,98,99] [kf [0,2,5,9,70,71,72] a,kf [0,2,5,9,10,11,14,15,70,71,72,97,98,99] b] Q
def uM(C:ft)(Q:fy)(a:LP):LP:=JV C Tryz.f56 t56 2877023 [0,2,5,9,11,14,15,70,71,72,134,135,136] [kf [0,2,5,9,70,71,72] a] Q
def uX(C:ft)(Q:fy)(a:LP):LP:=JV C Tryz.f56 t56 183487 [0,5,9,24,182,183,190,191,192] [kf [0,5,9,182,183] a] Q
def vE(C:ft)(Q:fy)(a:LP)(b:LP):LP:=JV C Tryz.f56 t56 23031703135 [0,2,5,9,11,14,15,20,21,70,71,72,134,135,136,152,153,154] [kf [0,2,5,9,70,71,72] a,kf [0,2,5,9,11,14,15,70,71,72,134,135,136] b] Q
def oL(C:ft)(Q:fy)(a:LP)(b:LP):LP:=JV C Tryz.f56 t56 63694431 [0,2,5,9,11,14,15,70,71,72,134,135,136] [kf [0,2,5,9,70,71,72] a,kf [0,2,5,9,11,14,15,70,71,72,134,135,136] b] Q
def vx(C:ft)(Q:fy)(fT:LP)(l b c d a:V)(h:Hp):Prop:=bO .lss 3 a d (dX 1 c a h λf=>oP (gJ 1 b f) λg=>fk (gM 1 g bT h) λo m=>oP (ev .add 3 a nO) λi=>fT [l,b,c,d,i] m) (oP (fH b) λe=>hX (iu 3 1 8 nZ e e) h λj n=>oP (fH b) λk=>uI C Q [l,b,j,nZ,b,k,nZ] n)
theorem Cv{C Q}(I)(s:S5 I (vx C Q)){k l h}(i:I k l h)(e:l.length=5:=by rfl):uL C Q l h:=JV.l5 I _ s i e
def vM(C:ft)(Q:fy)(d:LP)(f i g j b c a:V)(h:Hp):Prop:=bO .lss 3 a c (dX 1 b a h λk=>bP k (oP (gJ 1 g a) λl=>fk (gM 1 l j h) λr q=>oP (ev .add 3 j nO) λm=>ou C Q d [f,i,g,m,b,c,a] q) (ou C Q d [f,i,g,j,b,c,a] h)) (oP (iF f) λn=>oP (fI 0 n) λo=>dF 3 o h λe=>oP (fH e) λp=>vm C Q [f,i,g,nS,e,p,nZ] h)
theorem Cj{C Q}(I)(s:S7 I (vM C Q)){k l h}(i:I k l h)(e:l.length=7:=by rfl):uI C Q l h:=JV.l7 I _ s i e
def oI(C:ft)(Q:fy)(a:LP)(f g i j b c d:V)(h:Hp):Prop:=oP (ev .add 3 d nO) λe=>a [f,g,i,j,b,c,e] h
theorem ud{C Q a}:R7 (oI C Q a) (ou C Q a):=JV.r7 _
def uR(C:ft)(Q:fy)(e:LP)(l m n k c d a:V)(h:Hp):Prop:=bO .lss 3 a d (oP (gJ 6 c a) λo=>oP (fY 6 o h) λp=>hX (zC 43 [nS,nZ,nZ,nS,nS,nZ]) h λb t=>fk (gM 6 b p t) λu f=>dX 1 m a f λq=>bN q (dF 0 b f λg=>oP (fH g) λr=>uW C Q e [l,m,n,k,c,d,a,g,r,nZ] f) (dF 4 b f λi=>oP (fH i) λs=>vL C Q e [l,m,n,k,a,b,nS,nS,c,d,a,i,s,nZ] f)) (oP (fH k) λj=>vF C Q [l,n,k,j,nZ] h)
theorem Cz{C Q}(I)(s:S7 I (uR C Q)){k l h}(i:I k l h)(e:l.length=7:=by rfl):vm C Q l h:=JV.l7 I _ s i e
def vB(C:ft)(Q:fy)(g:LP)(i:LP)(j o p q b c d e f a:V)(h:Hp):Prop:=bO .lss 3 a f (dX 1 e a h λk=>dN 5 j h λl=>oP (gJ 1 l k) λm=>fk (gM 1 m (V.I (-1)) h) λs r=>oP (ev .add 3 a nO) λn=>i [j,o,p,q,b,c,d,e,f,n] r) (oA C Q g [j,o,p,q,b,c,d] h)
theorem CY{C Q a}(I)(s:S10 I (vB C Q a)){k l h}(i:I k l h)(e:l.length=10:=by rfl):uW C Q a l h:=JV.l10 I _ s i e
def vH(C:ft)(Q:fy)(i:LP)(s:LP)(N P R T j f k l m n o p q b:V)(h:Hp):Prop:=bO .lss 3 b q (dX 1 p b h λc=>dX 1 P c h λa=>oP (fD true a) λb5=>oP (gV b5 (some N)) λt=>oP (fD true a) λb6=>oP (gV b6 (iF t)) λu=>oP (fD true a) λb7=>oP (gV b7 (fI 0 u)) λv=>oP (fD true a) λb8=>oP (gV b8 (fI 3 v)) λw=>oP (fD true a) λb9=>oP (gV b9 (eQ w h)) λx=>oP (fD true a) λU=>oP (gV U (some c)) λy=>oP (fD true a) λW=>oP (gV W (gJ 6 x y)) λz=>oP (fD true a) λX=>oP (gV X (fI 3 z)) λA=>oP (fD true a) λY=>oP (gV Y (eQ A h)) λB=>oP (fD true a) λZ=>oP (gV Z (some j)) λD=>oP (fD true a) λaa=>oP (gC aa (some (kX,[B,D]))) λab=>qo C ab h λE h1=>oP (js a E bF) λF=>bP F (xE (jG 3 1 1 nZ [(0,b)]) h1 λo2 G S=>oP (gJ 1 R c) λd=>oP (eQ d S) λe=>xE (jG 3 1 1 nZ [(0,e)]) S λr H I=>((I.get (S.next)=some r/\O.beq r r=true)/\((eQ d I=some e)/\((I.get (h1.next)=some o2/\O.beq o2 o2=true)/\fk (fg 3 1 8 k G I) λJ K=>(I.next<=K.next/\((K.get (S.next)=some r/\O.beq r r=true)/\((eQ d K=some e)/\fk (fg 3 1 8 l H K) λL h5=>(K.next<=h5.next/\om C Q i s [N,P,R,T,j,f,J,L,m,n,o,p,q,b] h5)))))))) (om C Q i s [N,P,R,T,j,f,k,l,m,n,o,p,q,b] h1)) (dF 0 f h λg=>oP (fH g) λM=>uM C Q i [N,P,R,T,f,k,l,m,n,o,g,M,nZ] h)
theorem Cn{C Q a}(I)(s:S14 I (vH C Q a)){k l h}(i:I k l h)(e:l.length=14:=by rfl):vL C Q a l h:=JV.l14 I _ s i e
def vz(C:ft)(Q:fy)(i:LP)(k l j b a:V)(h:Hp):Prop:=bO .lss 3 a b (dI 6 j a 3 h λc=>oP (fH c) λd=>uX C Q i [k,l,j,a,b,a,c,d,nZ] h) (oP (iF k) λe=>oP (fI 0 e) λf=>oP (fI 3 f) λg=>fk (gM 1 g j h) λn m=>Q (V.tuple []) m)
theorem C7{C Q}(I)(s:S5 I (vz C Q)){k l h}(i:I k l h)(e:l.length=5:=by rfl):vF C Q l h:=JV.l5 I _ s i e
def oQ(C:ft)(Q:fy)(b:LP)(f g i j c d e:V)(h:Hp):Prop:=oP (ev .add 3 e nO) λa=>b [f,g,i,j,c,d,a] h
theorem tz{C Q a}:R7 (oQ C Q a) (oA C Q a):=JV.r7 _
def lO(C:ft)(Q:fy)(n:LP)(b:LP)(o p q r c d e f g i j k l m:V)(h:Hp):Prop:=oP (ev .add 3 m nO) λa=>b [o,p,q,r,c,d,e,f,g,i,j,k,l,a] h
theorem oJ{C Q a b}:R14 (lO C Q a b) (om C Q a b):=JV.r14 _
def vg(C:ft)(Q:fy)(g:LP)(m:LP)(x y z A d e i j k l b c a:V)(h:Hp):Prop:=bO .lss 3 a c (dX 1 b a h λn=>oP (iF x) λo=>oP (fI 0 o) λp=>dF 2 p h λq=>oP (gJ 6 q n) λf=>dN 0 f h λr=>bO .eql 3 r (V.I 21) (oP (fH e) λs=>vE C Q g m [x,y,z,A,d,e,i,f,nS,j,k,l,b,c,a,e,s,nZ] h) (oL C Q g m [x,y,z,A,d,e,i,j,k,l,b,c,a] h)) (oP (fI 4 d) λt=>fk (gM 1 t i h) λF B=>oP (fY 6 d B) λu=>hX (jG 43 6 1 (V.agg [nS,nZ,nZ,nS,nS,nZ]) [(0,u)]) B λv D=>fk (fg 43 6 96 A v D) λw E=>oA C Q g [x,y,z,w,j,k,l] E)
theorem Cs{C Q a}(I)(s:S13 I (vg C Q a)){k l h}(i:I k l h)(e:l.length=13:=by rfl):uM C Q a l h:=JV.l13 I _ s i e
def uN(C:ft)(Q:fy)(n:LP)(o:LP)(r p q f b c d e a:V)(h:Hp):Prop:=bO .lss 3 a e (dX 1 d a h λg=>dI 6 q f 3 h λi=>dX 1 p g h λj=>oP (gJ 1 i a) λk=>fk (gM 1 k j h) λt s=>(h.next<=s.next/\oP (ev .add 3 a nO) λl=>o [r,p,q,f,b,c,d,e,l] s)) (oP (ev .add 3 c nO) λm=>n [r,p,q,b,m] h)
theorem Ce{C Q a}(I)(s:S9 I (uN C Q a)){k l h}(i:I k l h)(e:l.length=9:=by rfl):uX C Q a l h:=JV.l9 I _ s i e
def uK(C:ft)(Q:fy)(x:LP)(y:LP)(z:LP)(A B D E i j k g l m n o b c d e f a:V)(h:Hp):Prop:=bO .lss 3 a f (dX 1 e a h λp=>dN 4 g h λq=>dX 1 q p h λr=>hX (jG 3 1 1 nZ [(0,r)]) h λs F=>fk (fg 3 1 8 l s F) λt G=>oP (ev .add 3 a nO) λu=>z [A,B,D,E,i,j,k,g,t,m,n,o,b,c,d,e,f,u] G) (oP (iF g) λv=>oP (fI 4 v) λw=>fk (gM 1 w l h) λI H=>oL C Q x y [A,B,D,E,i,j,k,m,n,o,b,c,d] H)
theorem CA{C Q a b}(I)(s:S18 I (uK C Q a b)){k l h}(i:I k l h)(e:l.length=18:=by rfl):vE C Q a b l h:=JV.l18 I _ s i e
def oC(C:ft)(Q:fy)(m:LP)(e:LP)(n o p q f g i j k l a b c:V)(h:Hp):Prop:=oP (ev .add 3 c nO) λd=>e [n,o,p,q,f,g,i,j,k,l,a,b,d] h
theorem tZ{C Q a b}:R13 (oC C Q a b) (oL C Q a b):=JV.r13 _
def yD(C:ft)(Q:fy)(a0:V)(h:Hp):Prop:=oP (iF a0) λc=>oP (fI 0 c) λd=>dG 3 d h λa=>hX (iu 4 1 1 bF a a) h λe k=>oP (iF a0) λf=>oP (fI 0 f) λg=>oP (fY 5 g k) λi=>cP C qU [i] k λb l=>oP (fH b) λj=>uL C Q [a0,e,b,j,nZ] l
theorem FL{C}(s:C.start=fO){a0 h Q}(k:C.K og [a0] h=none)(H:yD C Q a0 h):cP C og [a0] h Q:=cP.vd t56 s (by unfold P0;exact Tryz.func56) k H
def t85:List (Nat×List Nat):=[(43,[0,1,5])]
def xA(C:ft)(Q:fy):LP:=JV C Tryz.f85 t85 21 [0,1,5] [] Q
def xx(C:ft)(Q:fy)(fT:LP)(a b y:V)(h:Hp):Prop:=dN 5 a h λz=>dX 1 z b h λc=>oP (ev .geq 3 c nZ) λd=>oP (kv d (oB (some a) λe=>oB (iF e) λf=>oB (fI 5 f) λg=>oB (eQ g h) λi=>oB (some b) λj=>oB (gJ 1 i j) λk=>oB (eQ k h) λl=>oB (some b) λm=>ev .neq 3 l m)) λn=>oP (kv n (oB (some y) λo=>oB (some a) λp=>oB (iF p) λq=>oB (fI 5 q) λr=>oB (eQ r h) λs=>oB (fH s) λt=>ev .leq 3 o t)) λu=>bP u (dN 5 a h λv=>dX 1 v b h λw=>oP (ev .add 3 y nO) λx=>fT [a,w,x] h) (Q b h)
theorem ED{C Q}(I)(s:S3 I (xx C Q)){k l h}(i:I k l h)(e:l.length=3:=by rfl):xA C Q l h:=JV.l3 I _ s i e
def zZ(C:ft)(Q:fy)(a0 a1:V)(h:Hp):Prop:=xA C Q [a0,a1,nZ] h
theorem HY{C}(s:C.start=fO){a0 a1 h Q}(k:C.K jE [a0,a1] h=none)(H:zZ C Q a0 a1 h):cP C jE [a0,a1] h Q:=cP.vd t85 s (by unfold P0;exact Tryz.func85) k H
def t57:List (Nat×List Nat):=[(351,[1,2,3,4,5,41,42]),(353887,[1,2,3,4,5,6,7,41,42,53,54,55]),(5631,[1,2,3,4,11,12,96,97,98]),(7956062,[1,2,3,4,5,6,7,41,42,53,54,55]),(1992190,[1,2,3,4,11,12,15,96,97,98]),(11263,[1,2,3,4,12,165,166,167]),(4089342,[1,2,3,4,11,12,15,96,97,98]),(1887230,[1,2,3,4,12,17,165,166,167]),(8283646,[1,2,3,4,11,12,15,96,97,98]),(16672254,[1,2,3,4,11,12,15,96,97,98])]
def tL(C:ft)(Q:fy):LP:=JV C Tryz.f57 t57 175 [1,2,3,4,5,41,42] [] Q
def tU(C:ft)(Q:fy)(fT:LP):LP:=JV C Tryz.f57 t57 176943 [1,2,3,4,5,6,7,41,42,53,54,55] [kf [1,2,3,4,5,41,42] fT] Q
def lM(C:ft)(Q:fy):LP:=JV C Tryz.f57 t57 2815 [1,2,3,4,11,12,96,97,98] [] Q
def nz(C:ft)(Q:fy)(fT:LP)(a:LP):LP:=JV C Tryz.f57 t57 3978031 [1,2,3,4,5,6,7,41,42,53,54,55] [kf [1,2,3,4,5,41,42] fT,kf [1,2,3,4,5,6,7,41,42,53,54,55] a] Q
def lj(C:ft)(Q:fy)(a:LP):LP:=JV C Tryz.f57 t57 996095 [1,2,3,4,11,12,15,96,97,98] [kf [1,2,3,4,11,12,96,97,98] a] Q
def lP(C:ft)(Q:fy):LP:=JV C Tryz.f57 t57 5631 [1,2,3,4,12,165,166,167] [] Q
def kV(C:ft)(Q:fy)(a:LP):LP:=JV C Tryz.f57 t57 2044671 [1,2,3,4,11,12,15,96,97,98] [kf [1,2,3,4,11,12,96,97,98] a] Q
def jP(C:ft)(Q:fy)(a:LP):LP:=JV C Tryz.f57 t57 943615 [1,2,3,4,12,17,165,166,167] [kf [1,2,3,4,12,165,166,167] a] Q
def kY(C:ft)(Q:fy)(a:LP):LP:=JV C Tryz.f57 t57 4141823 [1,2,3,4,11,12,15,96,97,98] [kf [1,2,3,4,11,12,96,97,98] a] Q
def kW(C:ft)(Q:fy)(a:LP):LP:=JV C Tryz.f57 t57 8336127 [1,2,3,4,11,12,15,96,97,98] [kf [1,2,3,4,11,12,96,97,98] a] Q
def uj(C:ft)(Q:fy)(fT:LP)(c r g i j d a:V)(h:Hp):Prop:=bO .lss 3 a d (oP (eQ c h) λk=>oP (iF k) λm=>oP (fI 0 m) λn=>dJ 3 n 6 a 0 h λe=>oP (fH e) λo=>tU C Q fT [c,r,g,i,j,a,nS,d,a,e,o,nZ] h) (hX (some (.map [] 0,λl=> .map l)) h λp t=>hX (zC 123 [V.mB]) t λf u=>fk (gM 1 f p u) λy v=>hX (zC 124 [V.nilFunc]) v λb w=>fk (gM 1 b (V.func iE [] [i,c]) w) λs x=>oP (fH j) λq=>lM C Q [c,r,g,i,b,(V.func fQ [] [f,g,c,b]),j,q,nZ] x)
theorem BX{C Q}(I)(s:S7 I (uj C Q)){k l h}(i:I k l h)(e:l.length=7:=by rfl):tL C Q l h:=JV.l7 I _ s i e
def ui(C:ft)(Q:fy)(fT:LP)(g:LP)(i l m k j n o c d e f a:V)(h:Hp):Prop:=bO .lss 3 a f (dX 1 e a h λb=>oP (eQ i h) λp=>dN 5 p h λq=>dX 1 q b h λr=>bO .eql 3 r b (oP (eQ k h) λs=>oP (fH j) λt=>oP (gJ 1 s b) λu=>fk (gM 1 u t h) λP J=>oP (fH j) λv=>hX (jG 3 1 1 nZ [(0,v)]) J λw K=>fk (fg 3 1 8 o w K) λx L=>hX (jG 3 1 1 nZ [(0,b)]) L λy M=>fk (fg 3 1 8 j y M) λz N=>nz C Q fT g [i,l,m,k,z,n,x,c,d,e,f,a] N) (nz C Q fT g [i,l,m,k,j,n,o,c,d,e,f,a] h)) (oP (eQ i h) λA=>oP (iF A) λB=>oP (fI 0 B) λD=>dF 3 D h λE=>oP (gJ 6 E n) λF=>oP (fI 0 F) λG=>fk (gM 1 G o h) λI O=>oP (ev .add 3 d nO) λH=>fT [i,l,m,k,j,c,H] O)
theorem BN{C Q fT}(I)(s:S12 I (ui C Q fT)){k l h}(i:I k l h)(e:l.length=12:=by rfl):tU C Q fT l h:=JV.l12 I _ s i e
def tD(C:ft)(Q:fy)(k:LP)(i H I l m e f g b:V)(h:Hp):Prop:=bO .lss 3 b g (dX 1 f b h λn=>oP (eQ i h) λo=>oP (iF o) λp=>oP (fI 0 p) λq=>dF 2 q h λr=>oP (gJ 6 r n) λs=>oP (fY 6 s h) λt=>hX (zC 45 [nZ,nZ,nZ,nZ,nS,nZ]) h λa M=>fk (gM 6 a t M) λN J=>dF 0 a J λu=>cP C uV [u] J λv j=>bO .gtr 3 v nZ (oP (eQ l j) λc=>oP (eQ i j) λw=>dF 1 a j λx=>cP C jE [w,x] j λy z=>(j.next<=z.next/\dX 1 c y z λA=>oP (fI 1 a) λB=>((eQ l z=some c)/\fk (gM 1 B A z) λK L=>(z.next<=L.next/\lj C Q k [i,H,I,l,m,e,a,f,g,b] L)))) (lj C Q k [i,H,I,l,m,e,a,f,g,b] j)) (oP (eQ i h) λD=>oP (iF D) λE=>oP (fI 0 E) λF=>dF 3 F h λd=>oP (fH d) λG=>lP C Q [i,H,I,l,e,d,G,nZ] h)
theorem B5{C Q}(I)(s:S9 I (tD C Q)){k l h}(i:I k l h)(e:l.length=9:=by rfl):lM C Q l h:=JV.l9 I _ s i e
def nJ(C:ft)(Q:fy)(fT:LP)(a:LP)(i j k l m n o b c d e f:V)(h:Hp):Prop:=oP (ev .add 3 f nO) λg=>a [i,j,k,l,m,n,o,b,c,d,e,g] h
theorem tn{C Q fT a}:R12 (nJ C Q fT a) (nz C Q fT a):=JV.r12 _
def rG(C:ft)(Q:fy)(d:LP)(t u v s e f a g i j:V)(h:Hp):Prop:=dF 0 a h λk=>cP C uV [k] h λl c=>bO .gtr 3 l nO (oP (eQ s c) λb=>oP (eQ t c) λm=>dF 2 a c λn=>cP C jE [m,n] c λo p=>(c.next<=p.next/\dX 1 b o p λq=>oP (fI 2 a) λr=>((eQ s p=some b)/\fk (gM 1 r q p) λx w=>(p.next<=w.next/\kV C Q d [t,u,v,s,e,f,a,g,i,j] w)))) (kV C Q d [t,u,v,s,e,f,a,g,i,j] c)
theorem Bn{C Q a}:DU (rG C Q a) (lj C Q a):=JV.V6 _
def tP(C:ft)(Q:fy)(j:LP)(y k z l e c d b:V)(h:Hp):Prop:=bO .lss 3 b d (oP (gJ 6 c b) λm=>oP (fY 6 m h) λn=>hX (zC 43 [nS,nZ,nZ,nS,nS,nZ]) h λa G=>fk (gM 6 a n G) λK f=>dF 1 a f λg=>bO .eql 3 g (V.I 2) (oP (eQ l f) λi=>oP (eQ y f) λo=>dF 2 a f λp=>cP C jE [o,p] f λq r=>(f.next<=r.next/\dX 1 i q r λs=>oP (fI 2 a) λt=>((eQ l r=some i)/\fk (gM 1 t s r) λA B=>(r.next<=B.next/\jP C Q j [y,k,z,l,e,a,c,d,b] B)))) (bO .eql 3 g (V.I 3) (dF 5 a f λu=>ic C (gh e [u]) f λv H=>oP (fI 5 a) λw=>fk (gM 1 w v H) λD I=>jP C Q j [y,k,z,l,e,a,c,d,b] I) (jP C Q j [y,k,z,l,e,a,c,d,b] f))) (oP (fY 5 z h) λx=>fk (gM 5 k x h) λE F=>oP (fY 5 k F) λJ=>Q J F)
theorem B7{C Q}(I)(s:S8 I (tP C Q)){k l h}(i:I k l h)(e:l.length=8:=by rfl):lP C Q l h:=JV.l8 I _ s i e
def rz(C:ft)(Q:fy)(c:LP)(p q r s b d a e f g:V)(h:Hp):Prop:=dF 0 a h λi=>oP (ev .eql 3 i (V.I 21)) λj=>oP (nt j (oB (fI 0 a) λk=>oB (eQ k h) λl=>ev .eql 3 l (V.I 20))) λm=>bP m (oP (eQ b h) λn=>dF 4 a h λo=>ic C (gh n [o]) h λt u=>kY C Q c [p,q,r,s,b,d,a,e,f,g] u) (kY C Q c [p,q,r,s,b,d,a,e,f,g] h)
theorem AV{C Q a}:DU (rz C Q a) (kV C Q a):=JV.V6 _
def sB(C:ft)(Q:fy)(k:LP)(o p l q m n a b c:V)(h:Hp):Prop:=dF 3 l h λd=>oP (fY 6 n h) λe=>hX (jG 43 6 1 (V.agg [nS,nZ,nZ,nS,nS,nZ]) [(0,e)]) h λf r=>fk (fg 43 6 96 d f r) λg s=>oP (fI 3 l) λi=>fk (gM 1 i g s) λu t=>oP (ev .add 3 c nO) λj=>k [o,p,l,q,m,a,b,j] t
theorem AP{C Q a}:R9 (sB C Q a) (jP C Q a):=JV.r9 _
def tg(C:ft)(Q:fy)(c:LP)(o p q r d b a e f g:V)(h:Hp):Prop:=dF 0 a h λi=>cP C nT [i] h λj n=>bP j (dF 5 a n λk=>ic C (gh b [k]) n λl s=>oP (fI 5 a) λm=>fk (gM 1 m l s) λu t=>kW C Q c [o,p,q,r,d,b,a,e,f,g] t) (kW C Q c [o,p,q,r,d,b,a,e,f,g] n)
theorem AO{C Q a}:DU (tg C Q a) (kY C Q a):=JV.V6 _
def rL(C:ft)(Q:fy)(g:LP)(p q i r j k l m n o:V)(h:Hp):Prop:=dF 2 i h λa=>oP (fY 6 l h) λb=>hX (jG 45 6 1 (V.agg [nZ,nZ,nZ,nZ,nS,nZ]) [(0,b)]) h λc s=>fk (fg 45 6 64 a c s) λd t=>oP (fI 2 i) λe=>fk (gM 1 e d t) λv u=>oP (ev .add 3 o nO) λf=>g [p,q,i,r,j,k,m,n,f] u
theorem AH{C Q a}:DU (rL C Q a) (kW C Q a):=JV.V6 _
def xC(C:ft)(Q:fy)(a0:V)(h:Hp):Prop:=hX (lX 101 a0) h λa F=>hX (zC 30 [nZ,nZ,nS,nS,nS]) F λG d=>oP (eQ a d) λe=>oP (iF e) λn=>oP (fI 0 n) λo=>oP (fI 0 o) λf=>oP (eQ f d) λg=>oP (eQ a d) λi=>oP (iF i) λp=>oP (fI 0 p) λq=>oP (fI 1 q) λj=>oP (eQ j d) λk=>oP (fV [nZ,nZ,nS,nS,nS] [(0,1),(1,1),(2,1),(3,1),(4,1)] [(0,g),(1,k)]) λr=>xE (zC 30 [nZ,nZ,nS,nS,nS]) d λb B c=>((c.get (d.next)=some b/\O.beq b b=true)/\((eQ j c=some k)/\((eQ a c=some i)/\((eQ f c=some g)/\((eQ a c=some e)/\fk (gM 5 B r c) λJ m=>(c.next<=m.next/\oP (eQ a m) λs=>oP (iF s) λt=>oP (fI 0 t) λu=>dG 2 u m λl=>hX (iu 3 1 8 nZ l l) m λv H=>hX (zC 22 [nS]) H λD I=>fk (gM 1 D v I) λE w=>oP (eQ a w) λx=>oP (iF x) λy=>oP (fI 0 y) λz=>dG 3 z w λA=>tL C Q [a,G,B,D,nS,A,nZ] w))))))
theorem EF{C}(s:C.start=fO){a0 h Q}(k:C.K lD [a0] h=none)(H:xC C Q a0 h):cP C lD [a0] h Q:=cP.vd t57 s (by unfold P0;exact Tryz.func57) k H
def t84:List (Nat×List Nat):=[(11,[0,1,2,6,7,8])]
def qE(C:ft)(Q:fy):LP:=JV C Tryz.f84 t84 5 [0,1,2,6,7,8] [] Q
def qC(C:ft)(Q:fy)(fT:LP)(l d m n o c:V)(h:Hp):Prop:=bO .lss 3 c o (dX 1 n c h λe=>oP (eQ d h) λa=>oP (eQ m h) λf=>cP C jE [f,e] h λg b=>(h.next<=b.next/\dX 1 a g b λi=>oP (gJ 1 l c) λj=>((eQ d b=some a)/\fk (gM 1 j i b) λq p=>(b.next<=p.next/\oP (ev .add 3 c nO) λk=>fT [l,d,m,n,o,k] p)))) (Q (V.tuple []) h)
theorem Ac{C Q}(I)(s:S6 I (qC C Q)){k l h}(i:I k l h)(e:l.length=6:=by rfl):qE C Q l h:=JV.l6 I _ s i e
def uH(C:ft)(Q:fy)(a0 a1 a2:V)(h:Hp):Prop:=oP (fH a0) λa=>qE C Q [a0,a1,a2,a0,a,nZ] h
theorem CQ{C}(s:C.start=fO){a0 a1 a2 h Q}(k:C.K iE [a0,a1,a2] h=none)(H:uH C Q a0 a1 a2 h):cP C iE [a0,a1,a2] h Q:=cP.vd t84 s (by unfold P0;exact Tryz.func84) k H
def t86:List (Nat×List Nat):=[(2775,[0,2,3,4,7,33,34,35]),(30,[7])]
def qN(C:ft)(Q:fy):LP:=JV C Tryz.f86 t86 1387 [0,2,3,4,7,33,34,35] [] Q
def mY(C:ft)(Q:fy):LP:=JV C Tryz.f86 t86 15 [7] [] Q
def qH(C:ft)(Q:fy)(fT:LP)(H o p q I e f a:V)(h:Hp):Prop:=bO .lss 3 a f (oP (gJ 4 e a) λr=>oP (fY 4 r h) λs=>hX (zC 49 [nZ,nZ,nS,nS]) h λb L=>fk (gM 4 b s L) λR t=>oP (eQ q t) λu=>dF 2 b t λv=>ic C (gh u [v]) t λM w=>oP (eQ q w) λx=>dF 3 b w λy=>ic C (gh x [y]) w λN P=>oP (ev .add 3 a nO) λz=>fT [H,o,p,q,I,e,f,z] P) (oP (fI 4 o) λg=>oP (eQ g h) λi=>oP (eQ p h) λj=>oP (iF j) λA=>oP (fI 0 A) λB=>oP (fI 4 B) λk=>oP (eQ k h) λl=>oP (gJ 1 l H) λm=>oP (fY 1 m h) λn=>xE (jG 52 1 1 (V.agg [nS]) [(0,n)]) h λc D d=>((d.get (h.next)=some c/\O.beq c c=true)/\((fY 1 m d=some n)/\((eQ k d=some l)/\((eQ p d=some j)/\((eQ g d=some i)/\fk (fg 52 1 24 i D d) λE F=>(d.next<=F.next/\oP (fI 4 o) λG=>fk (gM 1 G E F) λJ K=>(F.next<=K.next/\mY C Q [I] K))))))))
theorem Ab{C Q}(I)(s:S8 I (qH C Q)){k l h}(i:I k l h)(e:l.length=8:=by rfl):qN C Q l h:=JV.l8 I _ s i e
def nj(C:ft)(Q:fy)(a:V)(h:Hp):Prop:=Q a h
theorem qO{C Q}:R1 (nj C Q) (mY C Q):=JV.r1 _
def vy(C:ft)(Q:fy)(a0 a1 a2 a3 a4:V)(h:Hp):Prop:=oP (eQ a1 h) λd=>oP (Uk 3 none nZ true d a0 h) λa=>oP (HO 0 a) λe=>oP (HO 1 a) λf=>bN f (dG 4 a2 h λb=>oP (eQ a1 h) λg=>fk (NB 3 none g a0 b h) λn i=>oP (eQ a3 i) λj=>oP (iF j) λk=>oP (fI 0 k) λl=>dJ 4 l 1 a0 0 i λc=>oP (fH c) λm=>qN C Q [a0,a2,a3,a4,b,c,m,nZ] i) (mY C Q [e] h)
theorem CX{C}(s:C.start=fO){a0 a1 a2 a3 a4 h Q}(k:C.K fQ [a0,a1,a2,a3,a4] h=none)(H:vy C Q a0 a1 a2 a3 a4 h):cP C fQ [a0,a1,a2,a3,a4] h Q:=cP.vd t86 s (by unfold P0;exact Tryz.func86) k H
def t23:List (Nat×List Nat):=[(87,[3,10,11])]
def Hl(C:ft)(Q:fy):LP:=JV C Tryz.f23 t23 43 [3,10,11] [] Q
def HB(C:ft)(Q:fy)(fT:LP)(c b a:V)(h:Hp):Prop:=bO .lss 3 a b (oP (gJ 1 c a) λd=>fk (gM 1 d a h) λg f=>oP (ev .add 3 a nO) λe=>fT [c,b,e] f) (Q c h)
theorem ND{C Q}(I)(s:S3 I (HB C Q)){k l h}(i:I k l h)(e:l.length=3:=by rfl):Hl C Q l h:=JV.l3 I _ s i e
def MW(C:ft)(Q:fy)(a0:V)(h:Hp):Prop:=hX (lX 30 a0) h λe b=>dG 2 e b λc=>hX (iu 3 1 8 nZ c c) b λd f=>oP (fH d) λa=>Hl C Q [d,a,nZ] f
theorem Ti{C}(s:C.start=fO){a0 h Q}(k:C.K DE [a0] h=none)(H:MW C Q a0 h):cP C DE [a0] h Q:=cP.vd t23 s (by unfold P0;exact Tryz.func23) k H
def t83:List (Nat×List Nat):=[]
def rM(C:ft)(Q:fy)(a0 a1:V)(h:Hp):Prop:=cP C px [a0,a1] h λa b=>oP (ev .geq 3 a nZ) λc=>Q c b
theorem Bj{C}(s:C.start=fO){a0 a1 h Q}(k:C.K kX [a0,a1] h=none)(H:rM C Q a0 a1 h):cP C kX [a0,a1] h Q:=cP.vd t83 s (by unfold P0;exact Tryz.func83) k H
def t92:List (Nat×List Nat):=[(43,[0,1,7,8])]
def tk(C:ft)(Q:fy):LP:=JV C Tryz.f92 t92 21 [0,1,7,8] [] Q
def sV(C:ft)(Q:fy)(fT:LP)(d e f a:V)(h:Hp):Prop:=bO .lss 3 a f (dX 1 d a h λb=>bO .eql 3 e b (Q a h) (oP (ev .add 3 a nO) λc=>fT [d,e,f,c] h)) (Q (V.I (-1)) h)
theorem Bg{C Q}(I)(s:S4 I (sV C Q)){k l h}(i:I k l h)(e:l.length=4:=by rfl):tk C Q l h:=JV.l4 I _ s i e
def wR(C:ft)(Q:fy)(a0 a1:V)(h:Hp):Prop:=oP (fH a0) λa=>tk C Q [a0,a1,a,nZ] h
theorem DZ{C}(s:C.start=fO){a0 a1 h Q}(k:C.K px [a0,a1] h=none)(H:wR C Q a0 a1 h):cP C px [a0,a1] h Q:=cP.vd t92 s (by unfold P0;exact Tryz.func92) k H
end
