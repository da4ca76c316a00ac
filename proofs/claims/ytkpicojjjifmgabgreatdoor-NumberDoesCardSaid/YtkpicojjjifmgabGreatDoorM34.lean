/- Parts. -/
import Derived.Test.YtkpicojjjifmgabGreatDoorM14
set_option maxHeartbeats 4000000
namespace Go.Proofs.YtkpicojjjifmgabGreatDoor.Hx
set_option maxRecDepth 100000
noncomputable section
def t7:List (Nat×List Nat):=[(87,[1,2,3,19,20,21]),(175,[1,2,3,38,39,40]),(351,[2,3,67,68,69]),(353887,[2,3,10,67,68,69,74,75,76])]
def IH(C:fu)(Q:fD):LP:=JV C Tryz.f7 t7 43 [1,2,3,19,20,21] [] Q
def IE(C:fu)(Q:fD):LP:=JV C Tryz.f7 t7 87 [1,2,3,38,39,40] [] Q
def IN(C:fu)(Q:fD):LP:=JV C Tryz.f7 t7 175 [2,3,67,68,69] [] Q
def Iz(C:fu)(Q:fD)(a:LP):LP:=JV C Tryz.f7 t7 176943 [2,3,10,67,68,69,74,75,76] [kf [2,3,67,68,69] a] Q
def IU(C:fu)(Q:fD)(fU:LP)(g w e b c a:V)(h:Hp):Prop:=bO .lss 3 a c (oP (gB 6 b a) λi=>oP (fW 6 i h) λj=>hV (zC 34 [nZ,nZ,nZ,nZ,nS,nZ]) h λf A=>fm (gJ 6 f j A) λH B=>hV (jz 3 1 0 nZ []) B λk x=>dF 4 f x λl=>fm (fh 3 1 8 k l x) λm D=>oP (fJ 4 f) λn=>fm (gJ 1 n m D) λy o=>dF 2 e o λp=>oP (fW 6 f o) λq=>hV (jz 34 6 1 (V.agg [nZ,nZ,nZ,nZ,nS,nZ]) [(0,q)]) o λr E=>fm (fh 34 6 64 p r E) λs F=>oP (fJ 2 e) λt=>fm (gJ 1 t s F) λz G=>oP (ez .add 3 a nO) λu=>fU [g,w,e,b,c,u] G) (dF 3 g h λd=>oP (fI d) λv=>IE C Q [g,w,e,d,v,nZ] h)
theorem OO{C Q}(I)(s:S6 I (IU C Q)){k l h}(i:I k l h)(e:l.length=6:=by rfl):IH C Q l h:=JV.l6 I _ s i e
def IL(C:fu)(Q:fD)(w:LP)(Z x2 u n o e:V)(h:Hp):Prop:=bO .lss 3 e o (oP (gB 6 n e) λx=>oP (fW 6 x h) λy=>hV (zC 45 [nS,nZ,nZ,nS,nS,nZ]) h λc h1=>fm (gJ 6 c y h1) λvu h2=>yp (jz 3 1 0 nZ []) h2 λz A v=>oP (fJ 0 c) λp=>oP (fe p v) λq=>yp (jz 3 1 0 nZ []) v λm B r=>oP (fJ 3 c) λf=>oP (fe f r) λg=>yp (jz 3 1 0 nZ []) r λa D d=>oP (fJ 4 c) λi=>oP (fe i d) λj=>((d.get (r.next)=some a/\O.beq a a=true)/\((fe f d=some g)/\((d.get (v.next)=some m/\O.beq m m=true)/\((fe p d=some q)/\((d.get (h2.next)=some z/\O.beq z z=true)/\fm (fh 3 1 8 A q d) λE k=>(d.next<=k.next/\oP (fJ 0 c) λF=>((fe i k=some j)/\((k.get (r.next)=some a/\O.beq a a=true)/\((fe f k=some g)/\((k.get (v.next)=some m/\O.beq m m=true)/\fm (fh 3 1 8 B g k) λG s=>(k.next<=s.next/\((fe i s=some j)/\((s.get (r.next)=some a/\O.beq a a=true)/\fm (fh 3 1 8 D j s) λH I=>(s.next<=I.next/\fm (gJ 1 F E I) λaa J=>(I.next<=J.next/\oP (fJ 3 c) λK=>fm (gJ 1 K G J) λab l=>(J.next<=l.next/\oP (fJ 4 c) λL=>fm (gJ 1 L H l) λac b=>(l.next<=b.next/\dF 3 u b λM=>oP (fW 6 c b) λN=>hV (jz 45 6 1 (V.agg [nS,nZ,nZ,nS,nS,nZ]) [(0,N)]) b λP R=>fm (fh 45 6 96 M P R) λS T=>oP (fJ 3 u) λU=>fm (gJ 1 U S T) λae W=>oP (ez .add 3 e nO) λX=>w [Z,x2,u,n,o,X] W)))))))))))))))))) (dF 4 Z h λt=>oP (fI t) λY=>IN C Q [x2,u,t,Y,nZ] h)
theorem OX{C Q}(I)(s:S6 I (IL C Q)){k l h}(i:I k l h)(e:l.length=6:=by rfl):IE C Q l h:=JV.l6 I _ s i e
def IJ(C:fu)(Q:fD)(f:LP)(g m b c a:V)(h:Hp):Prop:=bO .lss 3 a c (oP (gB 1 b a) λi=>oP (fW 1 i h) λj=>hV (zC 52 [nS]) h λn r=>fm (gJ 1 n j r) λt s=>hV (zC 52 [nS]) s λk o=>dF 0 n o λd=>oP (fI d) λl=>Iz C Q f [g,m,k,b,c,a,d,l,nZ] o) (oP (fW 5 m h) λe=>fm (gJ 5 g e h) λp q=>oP (fW 5 g q) λr2=>Q r2 q)
theorem OR{C Q}(I)(s:S5 I (IJ C Q)){k l h}(i:I k l h)(e:l.length=5:=by rfl):IN C Q l h:=JV.l5 I _ s i e
def ID(C:fu)(Q:fD)(x:LP)(y:LP)(x2 u b f g i j k c:V)(h:Hp):Prop:=bO .lss 3 c k (oP (gB 4 j c) λz=>oP (fW 4 z h) λA=>hV (zC 49 [nZ,nZ,nS,nS]) h λa h1=>fm (gJ 4 a A h1) λvu h2=>yp (jz 3 1 0 nZ []) h2 λB D v=>oP (fJ 2 a) λl=>oP (fe l v) λm=>yp (jz 3 1 0 nZ []) v λd E e=>oP (fJ 3 a) λn=>oP (fe n e) λo=>((e.get (v.next)=some d/\O.beq d d=true)/\((fe l e=some m)/\((e.get (h2.next)=some B/\O.beq B B=true)/\fm (fh 3 1 8 D m e) λF p=>(e.next<=p.next/\oP (fJ 2 a) λG=>((fe n p=some o)/\((p.get (v.next)=some d/\O.beq d d=true)/\fm (fh 3 1 8 E o p) λH I=>(p.next<=I.next/\fm (gJ 1 G F I) λab J=>(I.next<=J.next/\oP (fJ 3 a) λK=>fm (gJ 1 K H J) λac w=>(J.next<=w.next/\dF 0 b w λL=>oP (fW 4 a w) λM=>hV (jz 49 4 1 (V.agg [nZ,nZ,nS,nS]) [(0,M)]) w λN h9=>fm (fh 49 4 64 L N h9) λP R=>oP (fJ 0 b) λS=>fm (gJ 1 S P R) λae T=>oP (ez .add 3 c nO) λU=>y [x2,u,b,f,g,i,j,k,U] T)))))))))) (dF 4 u h λW=>oP (fW 1 b h) λX=>hV (jz 52 1 1 (V.agg [nS]) [(0,X)]) h λq Y=>fm (fh 52 1 24 W q Y) λr Z=>oP (fJ 4 u) λs=>fm (gJ 1 s r Z) λag aa=>oP (ez .add 3 i nO) λt=>x [x2,u,f,g,t] aa)
theorem OS{C Q a}(I)(s:S9 I (ID C Q a)){k l h}(i:I k l h)(e:l.length=9:=by rfl):Iz C Q a l h:=JV.l9 I _ s i e
def Nu(C:fu)(Q:fD)(a0:V)(h:Hp):Prop:=hV (lR 30 a0) h λb k=>hV (zC 30 [nZ,nZ,nS,nS,nS]) k λl c=>dF 0 b c λd=>dF 1 b c λe=>oP (fV [nZ,nZ,nS,nS,nS] [(0,1),(1,1),(2,1),(3,1),(4,1)] [(0,d),(1,e)]) λf=>hV (zC 30 [nZ,nZ,nS,nS,nS]) c λi m=>fm (gJ 5 i f m) λn j=>dF 2 b j λa=>oP (fI a) λg=>IH C Q [b,l,i,a,g,nZ] j
theorem Ub{C}(s:C.start=fQ){a0 h Q}(k:C.K vB [a0] h=none)(H:Nu C Q a0 h):cP C vB [a0] h Q:=cP.vd t7 s (by unfold P0;exact Tryz.func7) k H
def t24:List (Nat×List Nat):=[]
def M6(C:fu)(Q:fD)(a0 a1:V)(h:Hp):Prop:=hV (lR 30 a0) h λf g=>hV (zC 30 [nZ,nZ,nS,nS,nS]) g λc d=>oP (fW 5 f d) λi=>cP C vB [i] d λj k=>oP (fV [nZ,nZ,nS,nS,nS,nS] [(0,5),(5,1)] [(0,j),(1,a1)]) λl=>hV (lR 110 l) k λa m=>cP C oS [a] m λn o=>cP C lM [a] o λb p=>fm (gJ 5 c b p) λr e=>oP (fW 5 c e) λq=>Q q e
theorem T7{C}(s:C.start=fQ){a0 a1 h Q}(k:C.K AW [a0,a1] h=none)(H:M6 C Q a0 a1 h):cP C AW [a0,a1] h Q:=cP.vd t24 s (by unfold P0;exact Tryz.func24) k H
def t58:List (Nat×List Nat):=[(43,[0,2,38,39,40]),(175,[0,2,5,6,51,52,53]),(3886,[0,2,5,6,51,52,53]),(703,[0,2,5,9,70,71,72]),(2706623,[0,2,5,9,70,71,72,83,84,85]),(2870463,[0,2,5,9,10,11,14,15,70,71,72,97,98,99]),(1407,[0,5,9,182,183]),(15550,[0,2,5,9,70,71,72]),(63687870,[0,2,5,9,10,11,14,15,70,71,72,97,98,99]),(5754047,[0,2,5,9,11,14,15,70,71,72,134,135,136]),(366975,[0,5,9,24,182,183,190,191,192]),(46063406271,[0,2,5,9,11,14,15,20,21,70,71,72,134,135,136,152,153,154]),(127388862,[0,2,5,9,11,14,15,70,71,72,134,135,136])]
def wm(C:fu)(Q:fD):LP:=JV C Tryz.f58 t58 21 [0,2,38,39,40] [] Q
def wS(C:fu)(Q:fD):LP:=JV C Tryz.f58 t58 87 [0,2,5,6,51,52,53] [] Q
def py(C:fu)(Q:fD)(a:LP):LP:=JV C Tryz.f58 t58 1943 [0,2,5,6,51,52,53] [kf [0,2,5,6,51,52,53] a] Q
def wD(C:fu)(Q:fD):LP:=JV C Tryz.f58 t58 351 [0,2,5,9,70,71,72] [] Q
def vV(C:fu)(Q:fD)(a:LP):LP:=JV C Tryz.f58 t58 1353311 [0,2,5,9,70,71,72,83,84,85] [kf [0,2,5,9,70,71,72] a] Q
def wj(C:fu)(Q:fD)(a:LP):LP:=JV C Tryz.f58 t58 1435231 [0,2,5,9,10,11,14,15,70,71,72,97,98,99] [kf [0,2,5,9,70,71,72] a] Q
def vF(C:fu)(Q:fD):LP:=JV C Tryz.f58 t58 703 [0,5,9,182,183] [] Q
def pd(C:fu)(Q:fD)(a:LP):LP:=JV C Tryz.f58 t58 7775 [0,2,5,9,70,71,72] [kf [0,2,5,9,70,71,72] a] Q
def po(C:fu)(Q:fD)(a:LP)(b:LP):LP:=JV C Tryz.f58 t58 31843935 [0,2,5,9,10,11,14,15,70,71,72,97,98,99] [kf [0,2,5,9,70,71,72] a,kf [0,2,5,9,10,11,14,15,70,71,72,97,98,99] b] Q
def wO(C:fu)(Q:fD)(a:LP):LP:=JV C Tryz.f58 t58 2877023 [0,2,5,9,11,14,15,70,71,72,134,135,136] [kf [0,2,5,9,70,71,72] a] Q
def vL(C:fu)(Q:fD)(a:LP):LP:=JV C Tryz.f58 t58 183487 [0,5,9,24,182,183,190,191,192] [kf [0,5,9,182,183] a] Q
def vP(C:fu)(Q:fD)(a:LP)(b:LP):LP:=JV C Tryz.f58 t58 23031703135 [0,2,5,9,11,14,15,20,21,70,71,72,134,135,136,152,153,154] [kf [0,2,5,9,70,71,72] a,kf [0,2,5,9,11,14,15,70,71,72,134,135,136] b] Q
def pj(C:fu)(Q:fD)(a:LP)(b:LP):LP:=JV C Tryz.f58 t58 63694431 [0,2,5,9,11,14,15,70,71,72,134,135,136] [kf [0,2,5,9,70,71,72] a,kf [0,2,5,9,11,14,15,70,71,72,134,135,136] b] Q
def wu(C:fu)(Q:fD)(fU:LP)(l b c d a:V)(h:Hp):Prop:=bO .lss 3 a d (dX 1 c a h λf=>oP (gB 1 b f) λg=>fm (gJ 1 g bT h) λo m=>oP (ez .add 3 a nO) λi=>fU [l,b,c,d,i] m) (oP (fI b) λe=>hV (iz 3 1 8 nZ e e) h λj n=>oP (fI b) λk=>wS C Q [l,b,j,nZ,b,k,nZ] n)
theorem DO{C Q}(I)(s:S5 I (wu C Q)){k l h}(i:I k l h)(e:l.length=5:=by rfl):wm C Q l h:=JV.l5 I _ s i e
def vE(C:fu)(Q:fD)(d:LP)(f i g j b c a:V)(h:Hp):Prop:=bO .lss 3 a c (dX 1 b a h λk=>bP k (oP (gB 1 g a) λl=>fm (gJ 1 l j h) λr q=>oP (ez .add 3 j nO) λm=>py C Q d [f,i,g,m,b,c,a] q) (py C Q d [f,i,g,j,b,c,a] h)) (oP (iL f) λn=>oP (fJ 0 n) λo=>dF 3 o h λe=>oP (fI e) λp=>wD C Q [f,i,g,nS,e,p,nZ] h)
theorem Eo{C Q}(I)(s:S7 I (vE C Q)){k l h}(i:I k l h)(e:l.length=7:=by rfl):wS C Q l h:=JV.l7 I _ s i e
def px(C:fu)(Q:fD)(a:LP)(f g i j b c d:V)(h:Hp):Prop:=oP (ez .add 3 d nO) λe=>a [f,g,i,j,b,c,e] h
theorem uH{C Q a}:R7 (px C Q a) (py C Q a):=JV.r7 _
def wG(C:fu)(Q:fD)(e:LP)(l m n k c d a:V)(h:Hp):Prop:=bO .lss 3 a d (oP (gB 6 c a) λo=>oP (fW 6 o h) λp=>hV (zC 45 [nS,nZ,nZ,nS,nS,nZ]) h λb t=>fm (gJ 6 b p t) λu f=>dX 1 m a f λq=>bN q (dF 0 b f λg=>oP (fI g) λr=>vV C Q e [l,m,n,k,c,d,a,g,r,nZ] f) (dF 4 b f λi=>oP (fI i) λs=>wj C Q e [l,m,n,k,a,b,nS,nS,c,d,a,i,s,nZ] f)) (oP (fI k) λj=>vF C Q [l,n,k,j,nZ] h)
theorem DM{C Q}(I)(s:S7 I (wG C Q)){k l h}(i:I k l h)(e:l.length=7:=by rfl):wD C Q l h:=JV.l7 I _ s i e
def wI(C:fu)(Q:fD)(g:LP)(i:LP)(j o p q b c d e f a:V)(h:Hp):Prop:=bO .lss 3 a f (dX 1 e a h λk=>dN 5 j h λl=>oP (gB 1 l k) λm=>fm (gJ 1 m (V.I (-1)) h) λs r=>oP (ez .add 3 a nO) λn=>i [j,o,p,q,b,c,d,e,f,n] r) (pd C Q g [j,o,p,q,b,c,d] h)
theorem D0{C Q a}(I)(s:S10 I (wI C Q a)){k l h}(i:I k l h)(e:l.length=10:=by rfl):vV C Q a l h:=JV.l10 I _ s i e
def vN(C:fu)(Q:fD)(i:LP)(s:LP)(N P R T j f k l m n o p q b:V)(h:Hp):Prop:=bO .lss 3 b q (dX 1 p b h λc=>dX 1 P c h λa=>oP (fF true a) λb5=>oP (gV b5 (some N)) λt=>oP (fF true a) λb6=>oP (gV b6 (iL t)) λu=>oP (fF true a) λb7=>oP (gV b7 (fJ 0 u)) λv=>oP (fF true a) λb8=>oP (gV b8 (fJ 3 v)) λw=>oP (fF true a) λb9=>oP (gV b9 (fe w h)) λx=>oP (fF true a) λU=>oP (gV U (some c)) λy=>oP (fF true a) λW=>oP (gV W (gB 6 x y)) λz=>oP (fF true a) λX=>oP (gV X (fJ 3 z)) λA=>oP (fF true a) λY=>oP (gV Y (fe A h)) λB=>oP (fF true a) λZ=>oP (gV Z (some j)) λD=>oP (fF true a) λaa=>oP (gC aa (some (lF,[B,D]))) λab=>qP C ab h λE h1=>oP (jB a E bF) λF=>bP F (yp (jz 3 1 1 nZ [(0,b)]) h1 λo2 G S=>oP (gB 1 R c) λd=>oP (fe d S) λe=>yp (jz 3 1 1 nZ [(0,e)]) S λr H I=>((I.get (S.next)=some r/\O.beq r r=true)/\((fe d I=some e)/\((I.get (h1.next)=some o2/\O.beq o2 o2=true)/\fm (fh 3 1 8 k G I) λJ K=>(I.next<=K.next/\((K.get (S.next)=some r/\O.beq r r=true)/\((fe d K=some e)/\fm (fh 3 1 8 l H K) λL h5=>(K.next<=h5.next/\po C Q i s [N,P,R,T,j,f,J,L,m,n,o,p,q,b] h5)))))))) (po C Q i s [N,P,R,T,j,f,k,l,m,n,o,p,q,b] h1)) (dF 0 f h λg=>oP (fI g) λM=>wO C Q i [N,P,R,T,f,k,l,m,n,o,g,M,nZ] h)
theorem DZ{C Q a}(I)(s:S14 I (vN C Q a)){k l h}(i:I k l h)(e:l.length=14:=by rfl):wj C Q a l h:=JV.l14 I _ s i e
def wP(C:fu)(Q:fD)(i:LP)(k l j b a:V)(h:Hp):Prop:=bO .lss 3 a b (dI 6 j a 3 h λc=>oP (fI c) λd=>vL C Q i [k,l,j,a,b,a,c,d,nZ] h) (oP (iL k) λe=>oP (fJ 0 e) λf=>oP (fJ 3 f) λg=>fm (gJ 1 g j h) λn m=>Q (V.tuple []) m)
theorem Ej{C Q}(I)(s:S5 I (wP C Q)){k l h}(i:I k l h)(e:l.length=5:=by rfl):vF C Q l h:=JV.l5 I _ s i e
def pw(C:fu)(Q:fD)(b:LP)(f g i j c d e:V)(h:Hp):Prop:=oP (ez .add 3 e nO) λa=>b [f,g,i,j,c,d,a] h
theorem uk{C Q a}:R7 (pw C Q a) (pd C Q a):=JV.r7 _
def ml(C:fu)(Q:fD)(n:LP)(b:LP)(o p q r c d e f g i j k l m:V)(h:Hp):Prop:=oP (ez .add 3 m nO) λa=>b [o,p,q,r,c,d,e,f,g,i,j,k,l,a] h
theorem pb{C Q a b}:R14 (ml C Q a b) (po C Q a b):=JV.r14 _
def wz(C:fu)(Q:fD)(g:LP)(m:LP)(x y z A d e i j k l b c a:V)(h:Hp):Prop:=bO .lss 3 a c (dX 1 b a h λn=>oP (iL x) λo=>oP (fJ 0 o) λp=>dF 2 p h λq=>oP (gB 6 q n) λf=>dN 0 f h λr=>bO .eql 3 r (V.I 21) (oP (fI e) λs=>vP C Q g m [x,y,z,A,d,e,i,f,nS,j,k,l,b,c,a,e,s,nZ] h) (pj C Q g m [x,y,z,A,d,e,i,j,k,l,b,c,a] h)) (oP (fJ 4 d) λt=>fm (gJ 1 t i h) λF B=>oP (fW 6 d B) λu=>hV (jz 45 6 1 (V.agg [nS,nZ,nZ,nS,nS,nZ]) [(0,u)]) B λv D=>fm (fh 45 6 96 A v D) λw E=>pd C Q g [x,y,z,w,j,k,l] E)
theorem DH{C Q a}(I)(s:S13 I (wz C Q a)){k l h}(i:I k l h)(e:l.length=13:=by rfl):wO C Q a l h:=JV.l13 I _ s i e
def vQ(C:fu)(Q:fD)(n:LP)(o:LP)(r p q f b c d e a:V)(h:Hp):Prop:=bO .lss 3 a e (dX 1 d a h λg=>dI 6 q f 3 h λi=>dX 1 p g h λj=>oP (gB 1 i a) λk=>fm (gJ 1 k j h) λt s=>(h.next<=s.next/\oP (ez .add 3 a nO) λl=>o [r,p,q,f,b,c,d,e,l] s)) (oP (ez .add 3 c nO) λm=>n [r,p,q,b,m] h)
theorem Eu{C Q a}(I)(s:S9 I (vQ C Q a)){k l h}(i:I k l h)(e:l.length=9:=by rfl):vL C Q a l h:=JV.l9 I _ s i e
def vJ(C:fu)(Q:fD)(x:LP)(y:LP)(z:LP)(A B D E i j k g l m n o b c d e f a:V)(h:Hp):Prop:=bO .lss 3 a f (dX 1 e a h λp=>dN 4 g h λq=>dX 1 q p h λr=>hV (jz 3 1 1 nZ [(0,r)]) h λs F=>fm (fh 3 1 8 l s F) λt G=>oP (ez .add 3 a nO) λu=>z [A,B,D,E,i,j,k,g,t,m,n,o,b,c,d,e,f,u] G) (oP (iL g) λv=>oP (fJ 4 v) λw=>fm (gJ 1 w l h) λI H=>pj C Q x y [A,B,D,E,i,j,k,m,n,o,b,c,d] H)
theorem Dp{C Q a b}(I)(s:S18 I (vJ C Q a b)){k l h}(i:I k l h)(e:l.length=18:=by rfl):vP C Q a b l h:=JV.l18 I _ s i e
def pe(C:fu)(Q:fD)(m:LP)(e:LP)(n o p q f g i j k l a b c:V)(h:Hp):Prop:=oP (ez .add 3 c nO) λd=>e [n,o,p,q,f,g,i,j,k,l,a,b,d] h
theorem ui{C Q a b}:R13 (pe C Q a b) (pj C Q a b):=JV.r13 _
def zs(C:fu)(Q:fD)(a0:V)(h:Hp):Prop:=oP (iL a0) λc=>oP (fJ 0 c) λd=>dG 3 d h λa=>hV (iz 4 1 1 bF a a) h λe k=>oP (iL a0) λf=>oP (fJ 0 f) λg=>oP (fW 5 g k) λi=>cP C rh [i] k λb l=>oP (fI b) λj=>wm C Q [a0,e,b,j,nZ] l
theorem Hh{C}(s:C.start=fQ){a0 h Q}(k:C.K oS [a0] h=none)(H:zs C Q a0 h):cP C oS [a0] h Q:=cP.vd t58 s (by unfold P0;exact Tryz.func58) k H
def t88:List (Nat×List Nat):=[(43,[0,1,5])]
def yy(C:fu)(Q:fD):LP:=JV C Tryz.f88 t88 21 [0,1,5] [] Q
def yF(C:fu)(Q:fD)(fU:LP)(a b y:V)(h:Hp):Prop:=dN 5 a h λz=>dX 1 z b h λc=>oP (ez .geq 3 c nZ) λd=>oP (kE d (oB (some a) λe=>oB (iL e) λf=>oB (fJ 5 f) λg=>oB (fe g h) λi=>oB (some b) λj=>oB (gB 1 i j) λk=>oB (fe k h) λl=>oB (some b) λm=>ez .neq 3 l m)) λn=>oP (kE n (oB (some y) λo=>oB (some a) λp=>oB (iL p) λq=>oB (fJ 5 q) λr=>oB (fe r h) λs=>oB (fI s) λt=>ez .leq 3 o t)) λu=>bP u (dN 5 a h λv=>dX 1 v b h λw=>oP (ez .add 3 y nO) λx=>fU [a,w,x] h) (Q b h)
theorem FZ{C Q}(I)(s:S3 I (yF C Q)){k l h}(i:I k l h)(e:l.length=3:=by rfl):yy C Q l h:=JV.l3 I _ s i e
def Bm(C:fu)(Q:fD)(a0 a1:V)(h:Hp):Prop:=yy C Q [a0,a1,nZ] h
theorem JK{C}(s:C.start=fQ){a0 a1 h Q}(k:C.K jL [a0,a1] h=none)(H:Bm C Q a0 a1 h):cP C jL [a0,a1] h Q:=cP.vd t88 s (by unfold P0;exact Tryz.func88) k H
def t59:List (Nat×List Nat):=[(351,[1,2,3,4,5,41,42]),(353887,[1,2,3,4,5,6,7,41,42,53,54,55]),(5631,[1,2,3,4,11,12,96,97,98]),(7956062,[1,2,3,4,5,6,7,41,42,53,54,55]),(1992190,[1,2,3,4,11,12,15,96,97,98]),(11263,[1,2,3,4,12,165,166,167]),(4089342,[1,2,3,4,11,12,15,96,97,98]),(1887230,[1,2,3,4,12,17,165,166,167]),(8283646,[1,2,3,4,11,12,15,96,97,98]),(16672254,[1,2,3,4,11,12,15,96,97,98])]
def uj(C:fu)(Q:fD):LP:=JV C Tryz.f59 t59 175 [1,2,3,4,5,41,42] [] Q
def uR(C:fu)(Q:fD)(fU:LP):LP:=JV C Tryz.f59 t59 176943 [1,2,3,4,5,6,7,41,42,53,54,55] [kf [1,2,3,4,5,41,42] fU] Q
def mf(C:fu)(Q:fD):LP:=JV C Tryz.f59 t59 2815 [1,2,3,4,11,12,96,97,98] [] Q
def oC(C:fu)(Q:fD)(fU:LP)(a:LP):LP:=JV C Tryz.f59 t59 3978031 [1,2,3,4,5,6,7,41,42,53,54,55] [kf [1,2,3,4,5,41,42] fU,kf [1,2,3,4,5,6,7,41,42,53,54,55] a] Q
def lK(C:fu)(Q:fD)(a:LP):LP:=JV C Tryz.f59 t59 996095 [1,2,3,4,11,12,15,96,97,98] [kf [1,2,3,4,11,12,96,97,98] a] Q
def mc(C:fu)(Q:fD):LP:=JV C Tryz.f59 t59 5631 [1,2,3,4,12,165,166,167] [] Q
def lI(C:fu)(Q:fD)(a:LP):LP:=JV C Tryz.f59 t59 2044671 [1,2,3,4,11,12,15,96,97,98] [kf [1,2,3,4,11,12,96,97,98] a] Q
def jW(C:fu)(Q:fD)(a:LP):LP:=JV C Tryz.f59 t59 943615 [1,2,3,4,12,17,165,166,167] [kf [1,2,3,4,12,165,166,167] a] Q
def lG(C:fu)(Q:fD)(a:LP):LP:=JV C Tryz.f59 t59 4141823 [1,2,3,4,11,12,15,96,97,98] [kf [1,2,3,4,11,12,96,97,98] a] Q
def lD(C:fu)(Q:fD)(a:LP):LP:=JV C Tryz.f59 t59 8336127 [1,2,3,4,11,12,15,96,97,98] [kf [1,2,3,4,11,12,96,97,98] a] Q
def uE(C:fu)(Q:fD)(fU:LP)(c r g i j d a:V)(h:Hp):Prop:=bO .lss 3 a d (oP (fe c h) λk=>oP (iL k) λm=>oP (fJ 0 m) λn=>dJ 3 n 6 a 0 h λe=>oP (fI e) λo=>uR C Q fU [c,r,g,i,j,a,nS,d,a,e,o,nZ] h) (hV (some (.map [] 0,λl=> .map l)) h λp t=>hV (zC 137 [V.l0]) t λf u=>fm (gJ 1 f p u) λy v=>hV (zC 132 [V.nilFunc]) v λb w=>fm (gJ 1 b (V.func iK [] [i,c]) w) λs x=>oP (fI j) λq=>mf C Q [c,r,g,i,b,(V.func fT [] [f,g,c,b]),j,q,nZ] x)
theorem CG{C Q}(I)(s:S7 I (uE C Q)){k l h}(i:I k l h)(e:l.length=7:=by rfl):uj C Q l h:=JV.l7 I _ s i e
def uD(C:fu)(Q:fD)(fU:LP)(g:LP)(i l m k j n o c d e f a:V)(h:Hp):Prop:=bO .lss 3 a f (dX 1 e a h λb=>oP (fe i h) λp=>dN 5 p h λq=>dX 1 q b h λr=>bO .eql 3 r b (oP (fe k h) λs=>oP (fI j) λt=>oP (gB 1 s b) λu=>fm (gJ 1 u t h) λP J=>oP (fI j) λv=>hV (jz 3 1 1 nZ [(0,v)]) J λw K=>fm (fh 3 1 8 o w K) λx L=>hV (jz 3 1 1 nZ [(0,b)]) L λy M=>fm (fh 3 1 8 j y M) λz N=>oC C Q fU g [i,l,m,k,z,n,x,c,d,e,f,a] N) (oC C Q fU g [i,l,m,k,j,n,o,c,d,e,f,a] h)) (oP (fe i h) λA=>oP (iL A) λB=>oP (fJ 0 B) λD=>dF 3 D h λE=>oP (gB 6 E n) λF=>oP (fJ 0 F) λG=>fm (gJ 1 G o h) λI O=>oP (ez .add 3 d nO) λH=>fU [i,l,m,k,j,c,H] O)
theorem CL{C Q fU}(I)(s:S12 I (uD C Q fU)){k l h}(i:I k l h)(e:l.length=12:=by rfl):uR C Q fU l h:=JV.l12 I _ s i e
def uF(C:fu)(Q:fD)(k:LP)(i H I l m e f g b:V)(h:Hp):Prop:=bO .lss 3 b g (dX 1 f b h λn=>oP (fe i h) λo=>oP (iL o) λp=>oP (fJ 0 p) λq=>dF 2 q h λr=>oP (gB 6 r n) λs=>oP (fW 6 s h) λt=>hV (zC 34 [nZ,nZ,nZ,nZ,nS,nZ]) h λa M=>fm (gJ 6 a t M) λN J=>dF 0 a J λu=>cP C wB [u] J λv j=>bO .gtr 3 v nZ (oP (fe l j) λc=>oP (fe i j) λw=>dF 1 a j λx=>cP C jL [w,x] j λy z=>(j.next<=z.next/\dX 1 c y z λA=>oP (fJ 1 a) λB=>((fe l z=some c)/\fm (gJ 1 B A z) λK L=>(z.next<=L.next/\lK C Q k [i,H,I,l,m,e,a,f,g,b] L)))) (lK C Q k [i,H,I,l,m,e,a,f,g,b] j)) (oP (fe i h) λD=>oP (iL D) λE=>oP (fJ 0 E) λF=>dF 3 F h λd=>oP (fI d) λG=>mc C Q [i,H,I,l,e,d,G,nZ] h)
theorem Dk{C Q}(I)(s:S9 I (uF C Q)){k l h}(i:I k l h)(e:l.length=9:=by rfl):mf C Q l h:=JV.l9 I _ s i e
def oA(C:fu)(Q:fD)(fU:LP)(a:LP)(i j k l m n o b c d e f:V)(h:Hp):Prop:=oP (ez .add 3 f nO) λg=>a [i,j,k,l,m,n,o,b,c,d,e,g] h
theorem tK{C Q fU a}:R12 (oA C Q fU a) (oC C Q fU a):=JV.r12 _
def tx(C:fu)(Q:fD)(d:LP)(t u v s e f a g i j:V)(h:Hp):Prop:=dF 0 a h λk=>cP C wB [k] h λl c=>bO .gtr 3 l nO (oP (fe s c) λb=>oP (fe t c) λm=>dF 2 a c λn=>cP C jL [m,n] c λo p=>(c.next<=p.next/\dX 1 b o p λq=>oP (fJ 2 a) λr=>((fe s p=some b)/\fm (gJ 1 r q p) λx w=>(p.next<=w.next/\lI C Q d [t,u,v,s,e,f,a,g,i,j] w)))) (lI C Q d [t,u,v,s,e,f,a,g,i,j] c)
theorem Bx{C Q a}:FN (tx C Q a) (lK C Q a):=JV.Zx _
def uM(C:fu)(Q:fD)(j:LP)(y k z l e c d b:V)(h:Hp):Prop:=bO .lss 3 b d (oP (gB 6 c b) λm=>oP (fW 6 m h) λn=>hV (zC 45 [nS,nZ,nZ,nS,nS,nZ]) h λa G=>fm (gJ 6 a n G) λJ f=>dF 1 a f λg=>bO .eql 3 g (V.I 2) (oP (fe l f) λi=>oP (fe y f) λo=>dF 2 a f λp=>cP C jL [o,p] f λq r=>(f.next<=r.next/\dX 1 i q r λs=>oP (fJ 2 a) λt=>((fe l r=some i)/\fm (gJ 1 t s r) λA B=>(r.next<=B.next/\jW C Q j [y,k,z,l,e,a,c,d,b] B)))) (bO .eql 3 g (V.I 3) (dF 5 a f λu=>ij C (gv e [u]) f λv H=>oP (fJ 5 a) λw=>fm (gJ 1 w v H) λD I=>jW C Q j [y,k,z,l,e,a,c,d,b] I) (jW C Q j [y,k,z,l,e,a,c,d,b] f))) (oP (fW 5 z h) λx=>fm (gJ 5 k x h) λE F=>oP (fW 5 k F) λr2=>Q r2 F)
theorem Db{C Q}(I)(s:S8 I (uM C Q)){k l h}(i:I k l h)(e:l.length=8:=by rfl):mc C Q l h:=JV.l8 I _ s i e
def su(C:fu)(Q:fD)(c:LP)(p q r s b d a e f g:V)(h:Hp):Prop:=dF 0 a h λi=>oP (ez .eql 3 i (V.I 21)) λj=>oP (og j (oB (fJ 0 a) λk=>oB (fe k h) λl=>ez .eql 3 l (V.I 20))) λm=>bP m (oP (fe b h) λn=>dF 4 a h λo=>ij C (gv n [o]) h λt u=>lG C Q c [p,q,r,s,b,d,a,e,f,g] u) (lG C Q c [p,q,r,s,b,d,a,e,f,g] h)
theorem BI{C Q a}:FN (su C Q a) (lI C Q a):=JV.Zx _
def r0(C:fu)(Q:fD)(k:LP)(o p l q m n a b c:V)(h:Hp):Prop:=dF 3 l h λd=>oP (fW 6 n h) λe=>hV (jz 45 6 1 (V.agg [nS,nZ,nZ,nS,nS,nZ]) [(0,e)]) h λf r=>fm (fh 45 6 96 d f r) λg s=>oP (fJ 3 l) λi=>fm (gJ 1 i g s) λu t=>oP (ez .add 3 c nO) λj=>k [o,p,l,q,m,a,b,j] t
theorem B4{C Q a}:R9 (r0 C Q a) (jW C Q a):=JV.r9 _
def tE(C:fu)(Q:fD)(c:LP)(o p q r d b a e f g:V)(h:Hp):Prop:=dF 0 a h λi=>cP C oJ [i] h λj n=>bP j (dF 5 a n λk=>ij C (gv b [k]) n λl s=>oP (fJ 5 a) λm=>fm (gJ 1 m l s) λu t=>lD C Q c [o,p,q,r,d,b,a,e,f,g] t) (lD C Q c [o,p,q,r,d,b,a,e,f,g] n)
theorem BJ{C Q a}:FN (tE C Q a) (lG C Q a):=JV.Zx _
def td(C:fu)(Q:fD)(g:LP)(p q i r j k l m n o:V)(h:Hp):Prop:=dF 2 i h λa=>oP (fW 6 l h) λb=>hV (jz 34 6 1 (V.agg [nZ,nZ,nZ,nZ,nS,nZ]) [(0,b)]) h λc s=>fm (fh 34 6 64 a c s) λd t=>oP (fJ 2 i) λe=>fm (gJ 1 e d t) λv u=>oP (ez .add 3 o nO) λf=>g [p,q,i,r,j,k,m,n,f] u
theorem BW{C Q a}:FN (td C Q a) (lD C Q a):=JV.Zx _
def yC(C:fu)(Q:fD)(a0:V)(h:Hp):Prop:=hV (lR 108 a0) h λa F=>hV (zC 30 [nZ,nZ,nS,nS,nS]) F λG d=>oP (fe a d) λe=>oP (iL e) λn=>oP (fJ 0 n) λo=>oP (fJ 0 o) λf=>oP (fe f d) λg=>oP (fe a d) λi=>oP (iL i) λp=>oP (fJ 0 p) λq=>oP (fJ 1 q) λj=>oP (fe j d) λk=>oP (fV [nZ,nZ,nS,nS,nS] [(0,1),(1,1),(2,1),(3,1),(4,1)] [(0,g),(1,k)]) λr=>yp (zC 30 [nZ,nZ,nS,nS,nS]) d λb B c=>((c.get (d.next)=some b/\O.beq b b=true)/\((fe j c=some k)/\((fe a c=some i)/\((fe f c=some g)/\((fe a c=some e)/\fm (gJ 5 B r c) λJ m=>(c.next<=m.next/\oP (fe a m) λs=>oP (iL s) λt=>oP (fJ 0 t) λu=>dG 2 u m λl=>hV (iz 3 1 8 nZ l l) m λv H=>hV (zC 22 [nS]) H λD I=>fm (gJ 1 D v I) λE w=>oP (fe a w) λx=>oP (iL x) λy=>oP (fJ 0 y) λz=>dG 3 z w λA=>uj C Q [a,G,B,D,nS,A,nZ] w))))))
theorem Ga{C}(s:C.start=fQ){a0 h Q}(k:C.K lM [a0] h=none)(H:yC C Q a0 h):cP C lM [a0] h Q:=cP.vd t59 s (by unfold P0;exact Tryz.func59) k H
def t87:List (Nat×List Nat):=[(11,[0,1,2,6,7,8])]
def qX(C:fu)(Q:fD):LP:=JV C Tryz.f87 t87 5 [0,1,2,6,7,8] [] Q
def rD(C:fu)(Q:fD)(fU:LP)(l d m n o c:V)(h:Hp):Prop:=bO .lss 3 c o (dX 1 n c h λe=>oP (fe d h) λa=>oP (fe m h) λf=>cP C jL [f,e] h λg b=>(h.next<=b.next/\dX 1 a g b λi=>oP (gB 1 l c) λj=>((fe d b=some a)/\fm (gJ 1 j i b) λq p=>(b.next<=p.next/\oP (ez .add 3 c nO) λk=>fU [l,d,m,n,o,k] p)))) (Q (V.tuple []) h)
theorem Bc{C Q}(I)(s:S6 I (rD C Q)){k l h}(i:I k l h)(e:l.length=6:=by rfl):qX C Q l h:=JV.l6 I _ s i e
def wC(C:fu)(Q:fD)(a0 a1 a2:V)(h:Hp):Prop:=oP (fI a0) λa=>qX C Q [a0,a1,a2,a0,a,nZ] h
theorem DX{C}(s:C.start=fQ){a0 a1 a2 h Q}(k:C.K iK [a0,a1,a2] h=none)(H:wC C Q a0 a1 a2 h):cP C iK [a0,a1,a2] h Q:=cP.vd t87 s (by unfold P0;exact Tryz.func87) k H
def t89:List (Nat×List Nat):=[(2775,[0,2,3,4,7,33,34,35]),(30,[7])]
def rr(C:fu)(Q:fD):LP:=JV C Tryz.f89 t89 1387 [0,2,3,4,7,33,34,35] [] Q
def nR(C:fu)(Q:fD):LP:=JV C Tryz.f89 t89 15 [7] [] Q
def qV(C:fu)(Q:fD)(fU:LP)(H o p q I e f a:V)(h:Hp):Prop:=bO .lss 3 a f (oP (gB 4 e a) λr=>oP (fW 4 r h) λs=>hV (zC 49 [nZ,nZ,nS,nS]) h λb L=>fm (gJ 4 b s L) λR t=>oP (fe q t) λu=>dF 2 b t λv=>ij C (gv u [v]) t λM w=>oP (fe q w) λx=>dF 3 b w λy=>ij C (gv x [y]) w λN P=>oP (ez .add 3 a nO) λz=>fU [H,o,p,q,I,e,f,z] P) (oP (fJ 4 o) λg=>oP (fe g h) λi=>oP (fe p h) λj=>oP (iL j) λA=>oP (fJ 0 A) λB=>oP (fJ 4 B) λk=>oP (fe k h) λl=>oP (gB 1 l H) λm=>oP (fW 1 m h) λn=>yp (jz 52 1 1 (V.agg [nS]) [(0,n)]) h λc D d=>((d.get (h.next)=some c/\O.beq c c=true)/\((fW 1 m d=some n)/\((fe k d=some l)/\((fe p d=some j)/\((fe g d=some i)/\fm (fh 52 1 24 i D d) λE F=>(d.next<=F.next/\oP (fJ 4 o) λG=>fm (gJ 1 G E F) λJ K=>(F.next<=K.next/\nR C Q [I] K))))))))
theorem Br{C Q}(I)(s:S8 I (qV C Q)){k l h}(i:I k l h)(e:l.length=8:=by rfl):rr C Q l h:=JV.l8 I _ s i e
def nT(C:fu)(Q:fD)(a:V)(h:Hp):Prop:=Q a h
theorem qU{C Q}:R1 (nT C Q) (nR C Q):=JV.r1 _
def vK(C:fu)(Q:fD)(a0 a1 a2 a3 n:V)(h:Hp):Prop:=oP (fe a1 h) λd=>oP (LU 3 none nZ true d a0 h) λa=>oP (CN 0 a) λe=>oP (CN 1 a) λf=>bN f (dG 4 a2 h λb=>oP (fe a1 h) λg=>fm (J4 3 none g a0 b h) λo i=>oP (fe a3 i) λj=>oP (iL j) λk=>oP (fJ 0 k) λl=>dJ 4 l 1 a0 0 i λc=>oP (fI c) λm=>rr C Q [a0,a2,a3,n,b,c,m,nZ] i) (nR C Q [e] h)
theorem DE{C}(s:C.start=fQ){a0 a1 a2 a3 a h Q}(k:C.K fT [a0,a1,a2,a3,a] h=none)(H:vK C Q a0 a1 a2 a3 a h):cP C fT [a0,a1,a2,a3,a] h Q:=cP.vd t89 s (by unfold P0;exact Tryz.func89) k H
def t21:List (Nat×List Nat):=[(87,[3,10,11])]
def IX(C:fu)(Q:fD):LP:=JV C Tryz.f21 t21 43 [3,10,11] [] Q
def IV(C:fu)(Q:fD)(fU:LP)(c b a:V)(h:Hp):Prop:=bO .lss 3 a b (oP (gB 1 c a) λd=>fm (gJ 1 d a h) λg f=>oP (ez .add 3 a nO) λe=>fU [c,b,e] f) (Q c h)
theorem OM{C Q}(I)(s:S3 I (IV C Q)){k l h}(i:I k l h)(e:l.length=3:=by rfl):IX C Q l h:=JV.l3 I _ s i e
def ND(C:fu)(Q:fD)(a0:V)(h:Hp):Prop:=hV (lR 30 a0) h λe b=>dG 2 e b λc=>hV (iz 3 1 8 nZ c c) b λd f=>oP (fI d) λa=>IX C Q [d,a,nZ] f
theorem UZ{C}(s:C.start=fQ){a0 h Q}(k:C.K Fh [a0] h=none)(H:ND C Q a0 h):cP C Fh [a0] h Q:=cP.vd t21 s (by unfold P0;exact Tryz.func21) k H
def t86:List (Nat×List Nat):=[]
def sy(C:fu)(Q:fD)(a0 a1:V)(h:Hp):Prop:=cP C p8 [a0,a1] h λa b=>oP (ez .geq 3 a nZ) λc=>Q c b
theorem BK{C}(s:C.start=fQ){a0 a1 h Q}(k:C.K lF [a0,a1] h=none)(H:sy C Q a0 a1 h):cP C lF [a0,a1] h Q:=cP.vd t86 s (by unfold P0;exact Tryz.func86) k H
def t95:List (Nat×List Nat):=[(43,[0,1,7,8])]
def tu(C:fu)(Q:fD):LP:=JV C Tryz.f95 t95 21 [0,1,7,8] [] Q
def tk(C:fu)(Q:fD)(fU:LP)(d e f a:V)(h:Hp):Prop:=bO .lss 3 a f (dX 1 d a h λb=>bO .eql 3 e b (Q a h) (oP (ez .add 3 a nO) λc=>fU [d,e,f,c] h)) (Q (V.I (-1)) h)
theorem BB{C Q}(I)(s:S4 I (tk C Q)){k l h}(i:I k l h)(e:l.length=4:=by rfl):tu C Q l h:=JV.l4 I _ s i e
def xX(C:fu)(Q:fD)(a0 a1:V)(h:Hp):Prop:=oP (fI a0) λa=>tu C Q [a0,a1,a,nZ] h
theorem EH{C}(s:C.start=fQ){a0 a1 h Q}(k:C.K p8 [a0,a1] h=none)(H:xX C Q a0 a1 h):cP C p8 [a0,a1] h Q:=cP.vd t95 s (by unfold P0;exact Tryz.func95) k H
end
