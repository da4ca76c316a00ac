/- Parts. -/
import Derived.Test.YtbdcpiokodljaaaGreatDoorM14
set_option maxHeartbeats 4000000
namespace Go.Proofs.YtbdcpiokodljaaaGreatDoor.Hx
set_option maxRecDepth 100000
noncomputable section
def t5:List (Nat×List Nat):=[(87,[1,2,3,19,20,21]),(175,[1,2,3,38,39,40]),(351,[2,3,67,68,69]),(353887,[2,3,10,67,68,69,74,75,76])]
def Jm(C:fk)(Q:fo):LP:=JV C Tryz.f5 t5 43 [1,2,3,19,20,21] [] Q
def IU(C:fk)(Q:fo):LP:=JV C Tryz.f5 t5 87 [1,2,3,38,39,40] [] Q
def I2(C:fk)(Q:fo):LP:=JV C Tryz.f5 t5 175 [2,3,67,68,69] [] Q
def IT(C:fk)(Q:fo)(a:LP):LP:=JV C Tryz.f5 t5 176943 [2,3,10,67,68,69,74,75,76] [kf [2,3,67,68,69] a] Q
def Jh(C:fk)(Q:fo)(fN:LP)(g w e b c a:V)(h:Hp):Prop:=bO .lss 3 a c (oP (gG 6 b a) λi=>oP (fX 6 i h) λj=>hH (zC 45 [nZ,nZ,nZ,nZ,nS,nZ]) h λf A=>fg (gJ 6 f j A) λH B=>hH (jK 3 1 0 nZ []) B λk x=>dF 4 f x λl=>fg (eR 3 1 8 k l x) λm D=>oP (fF 4 f) λn=>fg (gJ 1 n m D) λy o=>dF 2 e o λp=>oP (fX 6 f o) λq=>hH (jK 45 6 1 (V.agg [nZ,nZ,nZ,nZ,nS,nZ]) [(0,q)]) o λr E=>fg (eR 45 6 64 p r E) λs F=>oP (fF 2 e) λt=>fg (gJ 1 t s F) λz G=>oP (en .add 3 a nO) λu=>fN [g,w,e,b,c,u] G) (dF 3 g h λd=>oP (fD d) λv=>IU C Q [g,w,e,d,v,nZ] h)
theorem Pr{C Q}(I)(s:S6 I (Jh C Q)){k l h}(i:I k l h)(e:l.length=6:=by rfl):Jm C Q l h:=JV.l6 I _ s i e
def I3(C:fk)(Q:fo)(w:LP)(Z x2 u n o e:V)(h:Hp):Prop:=bO .lss 3 e o (oP (gG 6 n e) λx=>oP (fX 6 x h) λy=>hH (zC 43 [nS,nZ,nZ,nS,nS,nZ]) h λc h1=>fg (gJ 6 c y h1) λvu h2=>yU (jK 3 1 0 nZ []) h2 λz A v=>oP (fF 0 c) λp=>oP (ez p v) λq=>yU (jK 3 1 0 nZ []) v λm B r=>oP (fF 3 c) λf=>oP (ez f r) λg=>yU (jK 3 1 0 nZ []) r λa D d=>oP (fF 4 c) λi=>oP (ez i d) λj=>((d.get (r.next)=some a/\O.beq a a=true)/\((ez f d=some g)/\((d.get (v.next)=some m/\O.beq m m=true)/\((ez p d=some q)/\((d.get (h2.next)=some z/\O.beq z z=true)/\fg (eR 3 1 8 A q d) λE k=>(d.next<=k.next/\oP (fF 0 c) λF=>((ez i k=some j)/\((k.get (r.next)=some a/\O.beq a a=true)/\((ez f k=some g)/\((k.get (v.next)=some m/\O.beq m m=true)/\fg (eR 3 1 8 B g k) λG s=>(k.next<=s.next/\((ez i s=some j)/\((s.get (r.next)=some a/\O.beq a a=true)/\fg (eR 3 1 8 D j s) λH I=>(s.next<=I.next/\fg (gJ 1 F E I) λaa J=>(I.next<=J.next/\oP (fF 3 c) λK=>fg (gJ 1 K G J) λab l=>(J.next<=l.next/\oP (fF 4 c) λL=>fg (gJ 1 L H l) λac b=>(l.next<=b.next/\dF 3 u b λM=>oP (fX 6 c b) λN=>hH (jK 43 6 1 (V.agg [nS,nZ,nZ,nS,nS,nZ]) [(0,N)]) b λP R=>fg (eR 43 6 96 M P R) λS T=>oP (fF 3 u) λU=>fg (gJ 1 U S T) λae W=>oP (en .add 3 e nO) λX=>w [Z,x2,u,n,o,X] W)))))))))))))))))) (dF 4 Z h λt=>oP (fD t) λY=>I2 C Q [x2,u,t,Y,nZ] h)
theorem O6{C Q}(I)(s:S6 I (I3 C Q)){k l h}(i:I k l h)(e:l.length=6:=by rfl):IU C Q l h:=JV.l6 I _ s i e
def I8(C:fk)(Q:fo)(f:LP)(g m b c a:V)(h:Hp):Prop:=bO .lss 3 a c (oP (gG 1 b a) λi=>oP (fX 1 i h) λj=>hH (zC 52 [nS]) h λn r=>fg (gJ 1 n j r) λu s=>hH (zC 52 [nS]) s λk o=>dF 0 n o λd=>oP (fD d) λl=>IT C Q f [g,m,k,b,c,a,d,l,nZ] o) (oP (fX 5 m h) λe=>fg (gJ 5 g e h) λp q=>oP (fX 5 g q) λt=>Q t q)
theorem Pw{C Q}(I)(s:S5 I (I8 C Q)){k l h}(i:I k l h)(e:l.length=5:=by rfl):I2 C Q l h:=JV.l5 I _ s i e
def Jg(C:fk)(Q:fo)(x:LP)(y:LP)(x2 u b f g i j k c:V)(h:Hp):Prop:=bO .lss 3 c k (oP (gG 4 j c) λz=>oP (fX 4 z h) λA=>hH (zC 49 [nZ,nZ,nS,nS]) h λa h1=>fg (gJ 4 a A h1) λvu h2=>yU (jK 3 1 0 nZ []) h2 λB D v=>oP (fF 2 a) λl=>oP (ez l v) λm=>yU (jK 3 1 0 nZ []) v λd E e=>oP (fF 3 a) λn=>oP (ez n e) λo=>((e.get (v.next)=some d/\O.beq d d=true)/\((ez l e=some m)/\((e.get (h2.next)=some B/\O.beq B B=true)/\fg (eR 3 1 8 D m e) λF p=>(e.next<=p.next/\oP (fF 2 a) λG=>((ez n p=some o)/\((p.get (v.next)=some d/\O.beq d d=true)/\fg (eR 3 1 8 E o p) λH I=>(p.next<=I.next/\fg (gJ 1 G F I) λab J=>(I.next<=J.next/\oP (fF 3 a) λK=>fg (gJ 1 K H J) λac w=>(J.next<=w.next/\dF 0 b w λL=>oP (fX 4 a w) λM=>hH (jK 49 4 1 (V.agg [nZ,nZ,nS,nS]) [(0,M)]) w λN h9=>fg (eR 49 4 64 L N h9) λP R=>oP (fF 0 b) λS=>fg (gJ 1 S P R) λae T=>oP (en .add 3 c nO) λU=>y [x2,u,b,f,g,i,j,k,U] T)))))))))) (dF 4 u h λW=>oP (fX 1 b h) λX=>hH (jK 52 1 1 (V.agg [nS]) [(0,X)]) h λq Y=>fg (eR 52 1 24 W q Y) λr Z=>oP (fF 4 u) λs=>fg (gJ 1 s r Z) λag aa=>oP (en .add 3 i nO) λt=>x [x2,u,f,g,t] aa)
theorem Py{C Q a}(I)(s:S9 I (Jg C Q a)){k l h}(i:I k l h)(e:l.length=9:=by rfl):IT C Q a l h:=JV.l9 I _ s i e
def NX(C:fk)(Q:fo)(a0:V)(h:Hp):Prop:=hH (mn 30 a0) h λb k=>hH (zC 30 [nZ,nZ,nS,nS,nS]) k λl c=>dF 0 b c λd=>dF 1 b c λe=>oP (fW [nZ,nZ,nS,nS,nS] [(0,1),(1,1),(2,1),(3,1),(4,1)] [(0,d),(1,e)]) λf=>hH (zC 30 [nZ,nZ,nS,nS,nS]) c λi m=>fg (gJ 5 i f m) λn j=>dF 2 b j λa=>oP (fD a) λg=>Jm C Q [b,l,i,a,g,nZ] j
theorem Uz{C}(s:C.start=fG){a0 h Q}(k:C.K vj [a0] h=none)(H:NX C Q a0 h):cP C vj [a0] h Q:=cP.vd t5 s (by unfold P0;exact Tryz.func5) k H
def t21:List (Nat×List Nat):=[]
def OT(C:fk)(Q:fo)(a0 a1:V)(h:Hp):Prop:=hH (mn 30 a0) h λf g=>hH (zC 30 [nZ,nZ,nS,nS,nS]) g λc d=>oP (fX 5 f d) λi=>cP C vj [i] d λj k=>oP (fW [nZ,nZ,nS,nS,nS,nS] [(0,5),(5,1)] [(0,j),(1,a1)]) λl=>hH (mn 105 l) k λa m=>cP C oO [a] m λn o=>cP C lO [a] o λb p=>fg (gJ 5 c b p) λr e=>oP (fX 5 c e) λq=>Q q e
theorem Vk{C}(s:C.start=fG){a0 a1 h Q}(k:C.K yT [a0,a1] h=none)(H:OT C Q a0 a1 h):cP C yT [a0,a1] h Q:=cP.vd t21 s (by unfold P0;exact Tryz.func21) k H
def t55:List (Nat×List Nat):=[(43,[0,2,38,39,40]),(175,[0,2,5,6,51,52,53]),(3886,[0,2,5,6,51,52,53]),(703,[0,2,5,9,70,71,72]),(2706623,[0,2,5,9,70,71,72,83,84,85]),(2870463,[0,2,5,9,10,11,14,15,70,71,72,97,98,99]),(1407,[0,5,9,182,183]),(15550,[0,2,5,9,70,71,72]),(63687870,[0,2,5,9,10,11,14,15,70,71,72,97,98,99]),(5754047,[0,2,5,9,11,14,15,70,71,72,134,135,136]),(366975,[0,5,9,24,182,183,190,191,192]),(46063406271,[0,2,5,9,11,14,15,20,21,70,71,72,134,135,136,152,153,154]),(127388862,[0,2,5,9,11,14,15,70,71,72,134,135,136])]
def vB(C:fk)(Q:fo):LP:=JV C Tryz.f55 t55 21 [0,2,38,39,40] [] Q
def vC(C:fk)(Q:fo):LP:=JV C Tryz.f55 t55 87 [0,2,5,6,51,52,53] [] Q
def pe(C:fk)(Q:fo)(a:LP):LP:=JV C Tryz.f55 t55 1943 [0,2,5,6,51,52,53] [kf [0,2,5,6,51,52,53] a] Q
def wh(C:fk)(Q:fo):LP:=JV C Tryz.f55 t55 351 [0,2,5,9,70,71,72] [] Q
def vR(C:fk)(Q:fo)(a:LP):LP:=JV C Tryz.f55 t55 1353311 [0,2,5,9,70,71,72,83,84,85] [kf [0,2,5,9,70,71,72] a] Q
def wz(C:fk)(Q:fo)(a:LP):LP:=JV C Tryz.f55 t55 1435231 [0,2,5,9,10,11,14,15,70,71,72,97,98,99] [kf [0,2,5,9,70,71,72] a] Q
def wK(C:fk)(Q:fo):LP:=JV C Tryz.f55 t55 703 [0,5,9,182,183] [] Q
def pq(C:fk)(Q:fo)(a:LP):LP:=JV C Tryz.f55 t55 7775 [0,2,5,9,70,71,72] [kf [0,2,5,9,70,71,72] a] Q
def pt(C:fk)(Q:fo)(a:LP)(b:LP):LP:=JV C Tryz.f55 t55 31843935 [0,2,5,9,10,11,14,15,70,71,72,97,98,99] [kf [0,2,5,9,70,71,72] a,kf [0,2,5,9,10,11,14,15,70,71,72,97,98,99] b] Q
def wu(C:fk)(Q:fo)(a:LP):LP:=JV C Tryz.f55 t55 2877023 [0,2,5,9,11,14,15,70,71,72,134,135,136] [kf [0,2,5,9,70,71,72] a] Q
def wO(C:fk)(Q:fo)(a:LP):LP:=JV C Tryz.f55 t55 183487 [0,5,9,24,182,183,190,191,192] [kf [0,5,9,182,183] a] Q
def vE(C:fk)(Q:fo)(a:LP)(b:LP):LP:=JV C Tryz.f55 t55 23031703135 [0,2,5,9,11,14,15,20,21,70,71,72,134,135,136,152,153,154] [kf [0,2,5,9,70,71,72] a,kf [0,2,5,9,11,14,15,70,71,72,134,135,136] b] Q
def pj(C:fk)(Q:fo)(a:LP)(b:LP):LP:=JV C Tryz.f55 t55 63694431 [0,2,5,9,11,14,15,70,71,72,134,135,136] [kf [0,2,5,9,70,71,72] a,kf [0,2,5,9,11,14,15,70,71,72,134,135,136] b] Q
def vJ(C:fk)(Q:fo)(fN:LP)(l b c d a:V)(h:Hp):Prop:=bO .lss 3 a d (dX 1 c a h λf=>oP (gG 1 b f) λg=>fg (gJ 1 g bT h) λo m=>oP (en .add 3 a nO) λi=>fN [l,b,c,d,i] m) (oP (fD b) λe=>hH (iB 3 1 8 nZ e e) h λj n=>oP (fD b) λk=>vC C Q [l,b,j,nZ,b,k,nZ] n)
theorem DX{C Q}(I)(s:S5 I (vJ C Q)){k l h}(i:I k l h)(e:l.length=5:=by rfl):vB C Q l h:=JV.l5 I _ s i e
def wo(C:fk)(Q:fo)(d:LP)(f i g j b c a:V)(h:Hp):Prop:=bO .lss 3 a c (dX 1 b a h λk=>bP k (oP (gG 1 g a) λl=>fg (gJ 1 l j h) λr q=>oP (en .add 3 j nO) λm=>pe C Q d [f,i,g,m,b,c,a] q) (pe C Q d [f,i,g,j,b,c,a] h)) (oP (hZ f) λn=>oP (fF 0 n) λo=>dF 3 o h λe=>oP (fD e) λp=>wh C Q [f,i,g,nS,e,p,nZ] h)
theorem DJ{C Q}(I)(s:S7 I (wo C Q)){k l h}(i:I k l h)(e:l.length=7:=by rfl):vC C Q l h:=JV.l7 I _ s i e
def o0(C:fk)(Q:fo)(a:LP)(f g i j b c d:V)(h:Hp):Prop:=oP (en .add 3 d nO) λe=>a [f,g,i,j,b,c,e] h
theorem uB{C Q a}:R7 (o0 C Q a) (pe C Q a):=JV.r7 _
def vS(C:fk)(Q:fo)(e:LP)(l m n k c d a:V)(h:Hp):Prop:=bO .lss 3 a d (oP (gG 6 c a) λo=>oP (fX 6 o h) λp=>hH (zC 43 [nS,nZ,nZ,nS,nS,nZ]) h λb t=>fg (gJ 6 b p t) λu f=>dX 1 m a f λq=>bN q (dF 0 b f λg=>oP (fD g) λr=>vR C Q e [l,m,n,k,c,d,a,g,r,nZ] f) (dF 4 b f λi=>oP (fD i) λs=>wz C Q e [l,m,n,k,a,b,nS,nS,c,d,a,i,s,nZ] f)) (oP (fD k) λj=>wK C Q [l,n,k,j,nZ] h)
theorem Ej{C Q}(I)(s:S7 I (vS C Q)){k l h}(i:I k l h)(e:l.length=7:=by rfl):wh C Q l h:=JV.l7 I _ s i e
def wM(C:fk)(Q:fo)(g:LP)(i:LP)(j o p q b c d e f a:V)(h:Hp):Prop:=bO .lss 3 a f (dX 1 e a h λk=>dN 5 j h λl=>oP (gG 1 l k) λm=>fg (gJ 1 m (V.I (-1)) h) λs r=>oP (en .add 3 a nO) λn=>i [j,o,p,q,b,c,d,e,f,n] r) (pq C Q g [j,o,p,q,b,c,d] h)
theorem EA{C Q a}(I)(s:S10 I (wM C Q a)){k l h}(i:I k l h)(e:l.length=10:=by rfl):vR C Q a l h:=JV.l10 I _ s i e
def vF(C:fk)(Q:fo)(i:LP)(s:LP)(N P R T j f k l m n o p q b:V)(h:Hp):Prop:=bO .lss 3 b q (dX 1 p b h λc=>dX 1 P c h λa=>oP (fu true a) λb5=>oP (gV b5 (some N)) λt=>oP (fu true a) λb6=>oP (gV b6 (hZ t)) λu=>oP (fu true a) λb7=>oP (gV b7 (fF 0 u)) λv=>oP (fu true a) λb8=>oP (gV b8 (fF 3 v)) λw=>oP (fu true a) λb9=>oP (gV b9 (ez w h)) λx=>oP (fu true a) λU=>oP (gV U (some c)) λy=>oP (fu true a) λW=>oP (gV W (gG 6 x y)) λz=>oP (fu true a) λX=>oP (gV X (fF 3 z)) λA=>oP (fu true a) λY=>oP (gV Y (ez A h)) λB=>oP (fu true a) λZ=>oP (gV Z (some j)) λD=>oP (fu true a) λaa=>oP (gC aa (some (lJ,[B,D]))) λab=>qN C ab h λE h1=>oP (jw a E bF) λF=>bP F (yU (jK 3 1 1 nZ [(0,b)]) h1 λo2 G S=>oP (gG 1 R c) λd=>oP (ez d S) λe=>yU (jK 3 1 1 nZ [(0,e)]) S λr H I=>((I.get (S.next)=some r/\O.beq r r=true)/\((ez d I=some e)/\((I.get (h1.next)=some o2/\O.beq o2 o2=true)/\fg (eR 3 1 8 k G I) λJ K=>(I.next<=K.next/\((K.get (S.next)=some r/\O.beq r r=true)/\((ez d K=some e)/\fg (eR 3 1 8 l H K) λL h5=>(K.next<=h5.next/\pt C Q i s [N,P,R,T,j,f,J,L,m,n,o,p,q,b] h5)))))))) (pt C Q i s [N,P,R,T,j,f,k,l,m,n,o,p,q,b] h1)) (dF 0 f h λg=>oP (fD g) λM=>wu C Q i [N,P,R,T,f,k,l,m,n,o,g,M,nZ] h)
theorem En{C Q a}(I)(s:S14 I (vF C Q a)){k l h}(i:I k l h)(e:l.length=14:=by rfl):wz C Q a l h:=JV.l14 I _ s i e
def wm(C:fk)(Q:fo)(i:LP)(k l j b a:V)(h:Hp):Prop:=bO .lss 3 a b (dI 6 j a 3 h λc=>oP (fD c) λd=>wO C Q i [k,l,j,a,b,a,c,d,nZ] h) (oP (hZ k) λe=>oP (fF 0 e) λf=>oP (fF 3 f) λg=>fg (gJ 1 g j h) λn m=>Q (V.tuple []) m)
theorem DE{C Q}(I)(s:S5 I (wm C Q)){k l h}(i:I k l h)(e:l.length=5:=by rfl):wK C Q l h:=JV.l5 I _ s i e
def oZ(C:fk)(Q:fo)(b:LP)(f g i j c d e:V)(h:Hp):Prop:=oP (en .add 3 e nO) λa=>b [f,g,i,j,c,d,a] h
theorem uQ{C Q a}:R7 (oZ C Q a) (pq C Q a):=JV.r7 _
def me(C:fk)(Q:fo)(n:LP)(b:LP)(o p q r c d e f g i j k l m:V)(h:Hp):Prop:=oP (en .add 3 m nO) λa=>b [o,p,q,r,c,d,e,f,g,i,j,k,l,a] h
theorem pg{C Q a b}:R14 (me C Q a b) (pt C Q a b):=JV.r14 _
def wA(C:fk)(Q:fo)(g:LP)(m:LP)(x y z A d e i j k l b c a:V)(h:Hp):Prop:=bO .lss 3 a c (dX 1 b a h λn=>oP (hZ x) λo=>oP (fF 0 o) λp=>dF 2 p h λq=>oP (gG 6 q n) λf=>dN 0 f h λr=>bO .eql 3 r (V.I 21) (oP (fD e) λs=>vE C Q g m [x,y,z,A,d,e,i,f,nS,j,k,l,b,c,a,e,s,nZ] h) (pj C Q g m [x,y,z,A,d,e,i,j,k,l,b,c,a] h)) (oP (fF 4 d) λt=>fg (gJ 1 t i h) λF B=>oP (fX 6 d B) λu=>hH (jK 43 6 1 (V.agg [nS,nZ,nZ,nS,nS,nZ]) [(0,u)]) B λv D=>fg (eR 43 6 96 A v D) λw E=>pq C Q g [x,y,z,w,j,k,l] E)
theorem DL{C Q a}(I)(s:S13 I (wA C Q a)){k l h}(i:I k l h)(e:l.length=13:=by rfl):wu C Q a l h:=JV.l13 I _ s i e
def vH(C:fk)(Q:fo)(n:LP)(o:LP)(r p q f b c d e a:V)(h:Hp):Prop:=bO .lss 3 a e (dX 1 d a h λg=>dI 6 q f 3 h λi=>dX 1 p g h λj=>oP (gG 1 i a) λk=>fg (gJ 1 k j h) λt s=>(h.next<=s.next/\oP (en .add 3 a nO) λl=>o [r,p,q,f,b,c,d,e,l] s)) (oP (en .add 3 c nO) λm=>n [r,p,q,b,m] h)
theorem Ey{C Q a}(I)(s:S9 I (vH C Q a)){k l h}(i:I k l h)(e:l.length=9:=by rfl):wO C Q a l h:=JV.l9 I _ s i e
def wF(C:fk)(Q:fo)(x:LP)(y:LP)(z:LP)(A B D E i j k g l m n o b c d e f a:V)(h:Hp):Prop:=bO .lss 3 a f (dX 1 e a h λp=>dN 4 g h λq=>dX 1 q p h λr=>hH (jK 3 1 1 nZ [(0,r)]) h λs F=>fg (eR 3 1 8 l s F) λt G=>oP (en .add 3 a nO) λu=>z [A,B,D,E,i,j,k,g,t,m,n,o,b,c,d,e,f,u] G) (oP (hZ g) λv=>oP (fF 4 v) λw=>fg (gJ 1 w l h) λI H=>pj C Q x y [A,B,D,E,i,j,k,m,n,o,b,c,d] H)
theorem Er{C Q a b}(I)(s:S18 I (wF C Q a b)){k l h}(i:I k l h)(e:l.length=18:=by rfl):vE C Q a b l h:=JV.l18 I _ s i e
def oY(C:fk)(Q:fo)(m:LP)(e:LP)(n o p q f g i j k l a b c:V)(h:Hp):Prop:=oP (en .add 3 c nO) λd=>e [n,o,p,q,f,g,i,j,k,l,a,b,d] h
theorem uF{C Q a b}:R13 (oY C Q a b) (pj C Q a b):=JV.r13 _
def zJ(C:fk)(Q:fo)(a0:V)(h:Hp):Prop:=oP (hZ a0) λc=>oP (fF 0 c) λd=>dG 3 d h λa=>hH (iB 4 1 1 bF a a) h λe k=>oP (hZ a0) λf=>oP (fF 0 f) λg=>oP (fX 5 g k) λi=>cP C pU [i] k λb l=>oP (fD b) λj=>vB C Q [a0,e,b,j,nZ] l
theorem G3{C}(s:C.start=fG){a0 h Q}(k:C.K oO [a0] h=none)(H:zJ C Q a0 h):cP C oO [a0] h Q:=cP.vd t55 s (by unfold P0;exact Tryz.func55) k H
def t90:List (Nat×List Nat):=[(43,[0,1,5])]
def yF(C:fk)(Q:fo):LP:=JV C Tryz.f90 t90 21 [0,1,5] [] Q
def yE(C:fk)(Q:fo)(fN:LP)(a b y:V)(h:Hp):Prop:=dN 5 a h λz=>dX 1 z b h λc=>oP (en .geq 3 c nZ) λd=>oP (jX d (oB (some a) λe=>oB (hZ e) λf=>oB (fF 5 f) λg=>oB (ez g h) λi=>oB (some b) λj=>oB (gG 1 i j) λk=>oB (ez k h) λl=>oB (some b) λm=>en .neq 3 l m)) λn=>oP (jX n (oB (some y) λo=>oB (some a) λp=>oB (hZ p) λq=>oB (fF 5 q) λr=>oB (ez r h) λs=>oB (fD s) λt=>en .leq 3 o t)) λu=>bP u (dN 5 a h λv=>dX 1 v b h λw=>oP (en .add 3 y nO) λx=>fN [a,w,x] h) (Q b h)
theorem Gt{C Q}(I)(s:S3 I (yE C Q)){k l h}(i:I k l h)(e:l.length=3:=by rfl):yF C Q l h:=JV.l3 I _ s i e
def A3(C:fk)(Q:fo)(a0 a1:V)(h:Hp):Prop:=yF C Q [a0,a1,nZ] h
theorem Ju{C}(s:C.start=fG){a0 a1 h Q}(k:C.K jF [a0,a1] h=none)(H:A3 C Q a0 a1 h):cP C jF [a0,a1] h Q:=cP.vd t90 s (by unfold P0;exact Tryz.func90) k H
def t56:List (Nat×List Nat):=[(351,[1,2,3,4,5,41,42]),(353887,[1,2,3,4,5,6,7,41,42,53,54,55]),(5631,[1,2,3,4,11,12,96,97,98]),(7956062,[1,2,3,4,5,6,7,41,42,53,54,55]),(1992190,[1,2,3,4,11,12,15,96,97,98]),(11263,[1,2,3,4,12,165,166,167]),(4089342,[1,2,3,4,11,12,15,96,97,98]),(1887230,[1,2,3,4,12,17,165,166,167]),(8283646,[1,2,3,4,11,12,15,96,97,98]),(16672254,[1,2,3,4,11,12,15,96,97,98])]
def uG(C:fk)(Q:fo):LP:=JV C Tryz.f56 t56 175 [1,2,3,4,5,41,42] [] Q
def uj(C:fk)(Q:fo)(fN:LP):LP:=JV C Tryz.f56 t56 176943 [1,2,3,4,5,6,7,41,42,53,54,55] [kf [1,2,3,4,5,41,42] fN] Q
def mh(C:fk)(Q:fo):LP:=JV C Tryz.f56 t56 2815 [1,2,3,4,11,12,96,97,98] [] Q
def om(C:fk)(Q:fo)(fN:LP)(a:LP):LP:=JV C Tryz.f56 t56 3978031 [1,2,3,4,5,6,7,41,42,53,54,55] [kf [1,2,3,4,5,41,42] fN,kf [1,2,3,4,5,6,7,41,42,53,54,55] a] Q
def lI(C:fk)(Q:fo)(a:LP):LP:=JV C Tryz.f56 t56 996095 [1,2,3,4,11,12,15,96,97,98] [kf [1,2,3,4,11,12,96,97,98] a] Q
def l0(C:fk)(Q:fo):LP:=JV C Tryz.f56 t56 5631 [1,2,3,4,12,165,166,167] [] Q
def lD(C:fk)(Q:fo)(a:LP):LP:=JV C Tryz.f56 t56 2044671 [1,2,3,4,11,12,15,96,97,98] [kf [1,2,3,4,11,12,96,97,98] a] Q
def jS(C:fk)(Q:fo)(a:LP):LP:=JV C Tryz.f56 t56 943615 [1,2,3,4,12,17,165,166,167] [kf [1,2,3,4,12,165,166,167] a] Q
def lH(C:fk)(Q:fo)(a:LP):LP:=JV C Tryz.f56 t56 4141823 [1,2,3,4,11,12,15,96,97,98] [kf [1,2,3,4,11,12,96,97,98] a] Q
def lG(C:fk)(Q:fo)(a:LP):LP:=JV C Tryz.f56 t56 8336127 [1,2,3,4,11,12,15,96,97,98] [kf [1,2,3,4,11,12,96,97,98] a] Q
def uI(C:fk)(Q:fo)(fN:LP)(c r g i j d a:V)(h:Hp):Prop:=bO .lss 3 a d (oP (ez c h) λk=>oP (hZ k) λm=>oP (fF 0 m) λn=>dJ 3 n 6 a 0 h λe=>oP (fD e) λo=>uj C Q fN [c,r,g,i,j,a,nS,d,a,e,o,nZ] h) (hH (some (.map [] 0,λl=> .map l)) h λp t=>hH (zC 125 [V.mJ]) t λf u=>fg (gJ 1 f p u) λy v=>hH (zC 126 [V.nilFunc]) v λb w=>fg (gJ 1 b (V.func iG [] [i,c]) w) λs x=>oP (fD j) λq=>mh C Q [c,r,g,i,b,(V.func fQ [] [f,g,c,b]),j,q,nZ] x)
theorem CW{C Q}(I)(s:S7 I (uI C Q)){k l h}(i:I k l h)(e:l.length=7:=by rfl):uG C Q l h:=JV.l7 I _ s i e
def uK(C:fk)(Q:fo)(fN:LP)(g:LP)(i l m k j n o c d e f a:V)(h:Hp):Prop:=bO .lss 3 a f (dX 1 e a h λb=>oP (ez i h) λp=>dN 5 p h λq=>dX 1 q b h λr=>bO .eql 3 r b (oP (ez k h) λs=>oP (fD j) λt=>oP (gG 1 s b) λu=>fg (gJ 1 u t h) λP J=>oP (fD j) λv=>hH (jK 3 1 1 nZ [(0,v)]) J λw K=>fg (eR 3 1 8 o w K) λx L=>hH (jK 3 1 1 nZ [(0,b)]) L λy M=>fg (eR 3 1 8 j y M) λz N=>om C Q fN g [i,l,m,k,z,n,x,c,d,e,f,a] N) (om C Q fN g [i,l,m,k,j,n,o,c,d,e,f,a] h)) (oP (ez i h) λA=>oP (hZ A) λB=>oP (fF 0 B) λD=>dF 3 D h λE=>oP (gG 6 E n) λF=>oP (fF 0 F) λG=>fg (gJ 1 G o h) λI O=>oP (en .add 3 d nO) λH=>fN [i,l,m,k,j,c,H] O)
theorem Dg{C Q fN}(I)(s:S12 I (uK C Q fN)){k l h}(i:I k l h)(e:l.length=12:=by rfl):uj C Q fN l h:=JV.l12 I _ s i e
def uU(C:fk)(Q:fo)(k:LP)(i H I l m e f g b:V)(h:Hp):Prop:=bO .lss 3 b g (dX 1 f b h λn=>oP (ez i h) λo=>oP (hZ o) λp=>oP (fF 0 p) λq=>dF 2 q h λr=>oP (gG 6 r n) λs=>oP (fX 6 s h) λt=>hH (zC 45 [nZ,nZ,nZ,nZ,nS,nZ]) h λa M=>fg (gJ 6 a t M) λN J=>dF 0 a J λu=>cP C vU [u] J λv j=>bO .gtr 3 v nZ (oP (ez l j) λc=>oP (ez i j) λw=>dF 1 a j λx=>cP C jF [w,x] j λy z=>(j.next<=z.next/\dX 1 c y z λA=>oP (fF 1 a) λB=>((ez l z=some c)/\fg (gJ 1 B A z) λK L=>(z.next<=L.next/\lI C Q k [i,H,I,l,m,e,a,f,g,b] L)))) (lI C Q k [i,H,I,l,m,e,a,f,g,b] j)) (oP (ez i h) λD=>oP (hZ D) λE=>oP (fF 0 E) λF=>dF 3 F h λd=>oP (fD d) λG=>l0 C Q [i,H,I,l,e,d,G,nZ] h)
theorem C9{C Q}(I)(s:S9 I (uU C Q)){k l h}(i:I k l h)(e:l.length=9:=by rfl):mh C Q l h:=JV.l9 I _ s i e
def oh(C:fk)(Q:fo)(fN:LP)(a:LP)(i j k l m n o b c d e f:V)(h:Hp):Prop:=oP (en .add 3 f nO) λg=>a [i,j,k,l,m,n,o,b,c,d,e,g] h
theorem sN{C Q fN a}:R12 (oh C Q fN a) (om C Q fN a):=JV.r12 _
def su(C:fk)(Q:fo)(d:LP)(t u v s e f a g i j:V)(h:Hp):Prop:=dF 0 a h λk=>cP C vU [k] h λl c=>bO .gtr 3 l nO (oP (ez s c) λb=>oP (ez t c) λm=>dF 2 a c λn=>cP C jF [m,n] c λo p=>(c.next<=p.next/\dX 1 b o p λq=>oP (fF 2 a) λr=>((ez s p=some b)/\fg (gJ 1 r q p) λx w=>(p.next<=w.next/\lD C Q d [t,u,v,s,e,f,a,g,i,j] w)))) (lD C Q d [t,u,v,s,e,f,a,g,i,j] c)
theorem BO{C Q a}:Ga (su C Q a) (lI C Q a):=JV.r10 _
def uw(C:fk)(Q:fo)(j:LP)(y k z l e c d b:V)(h:Hp):Prop:=bO .lss 3 b d (oP (gG 6 c b) λm=>oP (fX 6 m h) λn=>hH (zC 43 [nS,nZ,nZ,nS,nS,nZ]) h λa G=>fg (gJ 6 a n G) λK f=>dF 1 a f λg=>bO .eql 3 g (V.I 2) (oP (ez l f) λi=>oP (ez y f) λo=>dF 2 a f λp=>cP C jF [o,p] f λq r=>(f.next<=r.next/\dX 1 i q r λs=>oP (fF 2 a) λt=>((ez l r=some i)/\fg (gJ 1 t s r) λA B=>(r.next<=B.next/\jS C Q j [y,k,z,l,e,a,c,d,b] B)))) (bO .eql 3 g (V.I 3) (dF 5 a f λu=>hV C (gi e [u]) f λv H=>oP (fF 5 a) λw=>fg (gJ 1 w v H) λD I=>jS C Q j [y,k,z,l,e,a,c,d,b] I) (jS C Q j [y,k,z,l,e,a,c,d,b] f))) (oP (fX 5 z h) λx=>fg (gJ 5 k x h) λE F=>oP (fX 5 k F) λJ=>Q J F)
theorem Dj{C Q}(I)(s:S8 I (uw C Q)){k l h}(i:I k l h)(e:l.length=8:=by rfl):l0 C Q l h:=JV.l8 I _ s i e
def tJ(C:fk)(Q:fo)(c:LP)(p q r s b d a e f g:V)(h:Hp):Prop:=dF 0 a h λi=>oP (en .eql 3 i (V.I 21)) λj=>oP (nt j (oB (fF 0 a) λk=>oB (ez k h) λl=>en .eql 3 l (V.I 20))) λm=>bP m (oP (ez b h) λn=>dF 4 a h λo=>hV C (gi n [o]) h λt u=>lH C Q c [p,q,r,s,b,d,a,e,f,g] u) (lH C Q c [p,q,r,s,b,d,a,e,f,g] h)
theorem BS{C Q a}:Ga (tJ C Q a) (lD C Q a):=JV.r10 _
def tN(C:fk)(Q:fo)(k:LP)(o p l q m n a b c:V)(h:Hp):Prop:=dF 3 l h λd=>oP (fX 6 n h) λe=>hH (jK 43 6 1 (V.agg [nS,nZ,nZ,nS,nS,nZ]) [(0,e)]) h λf r=>fg (eR 43 6 96 d f r) λg s=>oP (fF 3 l) λi=>fg (gJ 1 i g s) λu t=>oP (en .add 3 c nO) λj=>k [o,p,l,q,m,a,b,j] t
theorem BM{C Q a}:R9 (tN C Q a) (jS C Q a):=JV.r9 _
def sS(C:fk)(Q:fo)(c:LP)(o p q r d b a e f g:V)(h:Hp):Prop:=dF 0 a h λi=>cP C oL [i] h λj n=>bP j (dF 5 a n λk=>hV C (gi b [k]) n λl s=>oP (fF 5 a) λm=>fg (gJ 1 m l s) λu t=>lG C Q c [o,p,q,r,d,b,a,e,f,g] t) (lG C Q c [o,p,q,r,d,b,a,e,f,g] n)
theorem BH{C Q a}:Ga (sS C Q a) (lH C Q a):=JV.r10 _
def sZ(C:fk)(Q:fo)(g:LP)(p q i r j k l m n o:V)(h:Hp):Prop:=dF 2 i h λa=>oP (fX 6 l h) λb=>hH (jK 45 6 1 (V.agg [nZ,nZ,nZ,nZ,nS,nZ]) [(0,b)]) h λc s=>fg (eR 45 6 64 a c s) λd t=>oP (fF 2 i) λe=>fg (gJ 1 e d t) λv u=>oP (en .add 3 o nO) λf=>g [p,q,i,r,j,k,m,n,f] u
theorem B3{C Q a}:Ga (sZ C Q a) (lG C Q a):=JV.r10 _
def yz(C:fk)(Q:fo)(a0:V)(h:Hp):Prop:=hH (mn 103 a0) h λa F=>hH (zC 30 [nZ,nZ,nS,nS,nS]) F λG d=>oP (ez a d) λe=>oP (hZ e) λn=>oP (fF 0 n) λo=>oP (fF 0 o) λf=>oP (ez f d) λg=>oP (ez a d) λi=>oP (hZ i) λp=>oP (fF 0 p) λq=>oP (fF 1 q) λj=>oP (ez j d) λk=>oP (fW [nZ,nZ,nS,nS,nS] [(0,1),(1,1),(2,1),(3,1),(4,1)] [(0,g),(1,k)]) λr=>yU (zC 30 [nZ,nZ,nS,nS,nS]) d λb B c=>((c.get (d.next)=some b/\O.beq b b=true)/\((ez j c=some k)/\((ez a c=some i)/\((ez f c=some g)/\((ez a c=some e)/\fg (gJ 5 B r c) λJ m=>(c.next<=m.next/\oP (ez a m) λs=>oP (hZ s) λt=>oP (fF 0 t) λu=>dG 2 u m λl=>hH (iB 3 1 8 nZ l l) m λv H=>hH (zC 22 [nS]) H λD I=>fg (gJ 1 D v I) λE w=>oP (ez a w) λx=>oP (hZ x) λy=>oP (fF 0 y) λz=>dG 3 z w λA=>uG C Q [a,G,B,D,nS,A,nZ] w))))))
theorem Ge{C}(s:C.start=fG){a0 h Q}(k:C.K lO [a0] h=none)(H:yz C Q a0 h):cP C lO [a0] h Q:=cP.vd t56 s (by unfold P0;exact Tryz.func56) k H
def t89:List (Nat×List Nat):=[(11,[0,1,2,6,7,8])]
def rM(C:fk)(Q:fo):LP:=JV C Tryz.f89 t89 5 [0,1,2,6,7,8] [] Q
def rD(C:fk)(Q:fo)(fN:LP)(l d m n o c:V)(h:Hp):Prop:=bO .lss 3 c o (dX 1 n c h λe=>oP (ez d h) λa=>oP (ez m h) λf=>cP C jF [f,e] h λg b=>(h.next<=b.next/\dX 1 a g b λi=>oP (gG 1 l c) λj=>((ez d b=some a)/\fg (gJ 1 j i b) λq p=>(b.next<=p.next/\oP (en .add 3 c nO) λk=>fN [l,d,m,n,o,k] p)))) (Q (V.tuple []) h)
theorem Bx{C Q}(I)(s:S6 I (rD C Q)){k l h}(i:I k l h)(e:l.length=6:=by rfl):rM C Q l h:=JV.l6 I _ s i e
def wq(C:fk)(Q:fo)(a0 a1 a2:V)(h:Hp):Prop:=oP (fD a0) λa=>rM C Q [a0,a1,a2,a0,a,nZ] h
theorem Ep{C}(s:C.start=fG){a0 a1 a2 h Q}(k:C.K iG [a0,a1,a2] h=none)(H:wq C Q a0 a1 a2 h):cP C iG [a0,a1,a2] h Q:=cP.vd t89 s (by unfold P0;exact Tryz.func89) k H
def t91:List (Nat×List Nat):=[(2775,[0,2,3,4,7,33,34,35]),(30,[7])]
def rJ(C:fk)(Q:fo):LP:=JV C Tryz.f91 t91 1387 [0,2,3,4,7,33,34,35] [] Q
def nH(C:fk)(Q:fo):LP:=JV C Tryz.f91 t91 15 [7] [] Q
def rL(C:fk)(Q:fo)(fN:LP)(H o p q I e f a:V)(h:Hp):Prop:=bO .lss 3 a f (oP (gG 4 e a) λr=>oP (fX 4 r h) λs=>hH (zC 49 [nZ,nZ,nS,nS]) h λb L=>fg (gJ 4 b s L) λR t=>oP (ez q t) λu=>dF 2 b t λv=>hV C (gi u [v]) t λM w=>oP (ez q w) λx=>dF 3 b w λy=>hV C (gi x [y]) w λN P=>oP (en .add 3 a nO) λz=>fN [H,o,p,q,I,e,f,z] P) (oP (fF 4 o) λg=>oP (ez g h) λi=>oP (ez p h) λj=>oP (hZ j) λA=>oP (fF 0 A) λB=>oP (fF 4 B) λk=>oP (ez k h) λl=>oP (gG 1 l H) λm=>oP (fX 1 m h) λn=>yU (jK 52 1 1 (V.agg [nS]) [(0,n)]) h λc D d=>((d.get (h.next)=some c/\O.beq c c=true)/\((fX 1 m d=some n)/\((ez k d=some l)/\((ez p d=some j)/\((ez g d=some i)/\fg (eR 52 1 24 i D d) λE F=>(d.next<=F.next/\oP (fF 4 o) λG=>fg (gJ 1 G E F) λJ K=>(F.next<=K.next/\nH C Q [I] K))))))))
theorem Bw{C Q}(I)(s:S8 I (rL C Q)){k l h}(i:I k l h)(e:l.length=8:=by rfl):rJ C Q l h:=JV.l8 I _ s i e
def nK(C:fk)(Q:fo)(a:V)(h:Hp):Prop:=Q a h
theorem rE{C Q}:R1 (nK C Q) (nH C Q):=JV.r1 _
def vO(C:fk)(Q:fo)(a0 a1 a2 a3 n:V)(h:Hp):Prop:=oP (ez a1 h) λd=>oP (VI 3 none nZ true d a0 h) λa=>oP (EG 0 a) λe=>oP (EG 1 a) λf=>bN f (dG 4 a2 h λb=>oP (ez a1 h) λg=>fg (Pk 3 none g a0 b h) λo i=>oP (ez a3 i) λj=>oP (hZ j) λk=>oP (fF 0 k) λl=>dJ 4 l 1 a0 0 i λc=>oP (fD c) λm=>rJ C Q [a0,a2,a3,n,b,c,m,nZ] i) (nH C Q [e] h)
theorem DT{C}(s:C.start=fG){a0 a1 a2 a3 a h Q}(k:C.K fQ [a0,a1,a2,a3,a] h=none)(H:vO C Q a0 a1 a2 a3 a h):cP C fQ [a0,a1,a2,a3,a] h Q:=cP.vd t91 s (by unfold P0;exact Tryz.func91) k H
def t22:List (Nat×List Nat):=[(87,[3,10,11])]
def IX(C:fk)(Q:fo):LP:=JV C Tryz.f22 t22 43 [3,10,11] [] Q
def Jk(C:fk)(Q:fo)(fN:LP)(c b a:V)(h:Hp):Prop:=bO .lss 3 a b (oP (gG 1 c a) λd=>fg (gJ 1 d a h) λg f=>oP (en .add 3 a nO) λe=>fN [c,b,e] f) (Q c h)
theorem O9{C Q}(I)(s:S3 I (Jk C Q)){k l h}(i:I k l h)(e:l.length=3:=by rfl):IX C Q l h:=JV.l3 I _ s i e
def N9(C:fk)(Q:fo)(a0:V)(h:Hp):Prop:=hH (mn 30 a0) h λe b=>dG 2 e b λc=>hH (iB 3 1 8 nZ c c) b λd f=>oP (fD d) λa=>IX C Q [d,a,nZ] f
theorem Ut{C}(s:C.start=fG){a0 h Q}(k:C.K Br [a0] h=none)(H:N9 C Q a0 h):cP C Br [a0] h Q:=cP.vd t22 s (by unfold P0;exact Tryz.func22) k H
def t88:List (Nat×List Nat):=[]
def tD(C:fk)(Q:fo)(a0 a1:V)(h:Hp):Prop:=cP C pZ [a0,a1] h λa b=>oP (en .geq 3 a nZ) λc=>Q c b
theorem B6{C}(s:C.start=fG){a0 a1 h Q}(k:C.K lJ [a0,a1] h=none)(H:tD C Q a0 a1 h):cP C lJ [a0,a1] h Q:=cP.vd t88 s (by unfold P0;exact Tryz.func88) k H
def t101:List (Nat×List Nat):=[(43,[0,1,7,8])]
def tE(C:fk)(Q:fo):LP:=JV C Tryz.f101 t101 21 [0,1,7,8] [] Q
def tV(C:fk)(Q:fo)(fN:LP)(d e f a:V)(h:Hp):Prop:=bO .lss 3 a f (dX 1 d a h λb=>bO .eql 3 e b (Q a h) (oP (en .add 3 a nO) λc=>fN [d,e,f,c] h)) (Q (V.I (-1)) h)
theorem Ci{C Q}(I)(s:S4 I (tV C Q)){k l h}(i:I k l h)(e:l.length=4:=by rfl):tE C Q l h:=JV.l4 I _ s i e
def xJ(C:fk)(Q:fo)(a0 a1:V)(h:Hp):Prop:=oP (fD a0) λa=>tE C Q [a0,a1,a,nZ] h
theorem FJ{C}(s:C.start=fG){a0 a1 h Q}(k:C.K pZ [a0,a1] h=none)(H:xJ C Q a0 a1 h):cP C pZ [a0,a1] h Q:=cP.vd t101 s (by unfold P0;exact Tryz.func101) k H
end
