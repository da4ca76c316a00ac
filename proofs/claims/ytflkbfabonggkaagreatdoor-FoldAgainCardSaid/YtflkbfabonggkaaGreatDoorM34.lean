/- Parts. -/
import Derived.Test.YtflkbfabonggkaaGreatDoorM14
set_option maxHeartbeats 4000000
namespace Go.Proofs.YtflkbfabonggkaaGreatDoor.Hx
set_option maxRecDepth 100000
noncomputable section
def t13:List (Nat×List Nat):=[(87,[1,2,3,19,20,21]),(175,[1,2,3,38,39,40]),(351,[2,3,67,68,69]),(353887,[2,3,10,67,68,69,74,75,76])]
def Iz(C:fm)(Q:ft):LP:=JV C Tryz.f13 t13 43 [1,2,3,19,20,21] [] Q
def Il(C:fm)(Q:ft):LP:=JV C Tryz.f13 t13 87 [1,2,3,38,39,40] [] Q
def Ic(C:fm)(Q:ft):LP:=JV C Tryz.f13 t13 175 [2,3,67,68,69] [] Q
def IB(C:fm)(Q:ft)(a:LP):LP:=JV C Tryz.f13 t13 176943 [2,3,10,67,68,69,74,75,76] [kf [2,3,67,68,69] a] Q
def Iu(C:fm)(Q:ft)(fM:LP)(g w e b c a:V)(h:Hp):Prop:=bO .lss 3 a c (oP (gz 6 b a) λi=>oP (gv 6 i h) λj=>ig (zC 49 [nZ,nZ,nZ,nZ,nS,nZ]) h λf A=>fi (gI 6 f j A) λH B=>ig (jr 3 1 0 nZ []) B λk x=>dF 4 f x λl=>fi (eR 3 1 8 k l x) λm D=>oP (fH 4 f) λn=>fi (gI 1 n m D) λy o=>dF 2 e o λp=>oP (gv 6 f o) λq=>ig (jr 49 6 1 (V.agg [nZ,nZ,nZ,nZ,nS,nZ]) [(0,q)]) o λr E=>fi (eR 49 6 64 p r E) λs F=>oP (fH 2 e) λt=>fi (gI 1 t s F) λz G=>oP (en .add 3 a nO) λu=>fM [g,w,e,b,c,u] G) (dF 3 g h λd=>oP (fE d) λv=>Il C Q [g,w,e,d,v,nZ] h)
theorem Om{C Q}(I)(s:S6 I (Iu C Q)){k l h}(i:I k l h)(e:l.length=6:=by rfl):Iz C Q l h:=JV.l6 I _ s i e
def Iw(C:fm)(Q:ft)(w:LP)(Z x2 u n o e:V)(h:Hp):Prop:=bO .lss 3 e o (oP (gz 6 n e) λx=>oP (gv 6 x h) λy=>ig (zC 47 [nS,nZ,nZ,nS,nS,nZ]) h λc h1=>fi (gI 6 c y h1) λvu h2=>yn (jr 3 1 0 nZ []) h2 λz A v=>oP (fH 0 c) λp=>oP (ez p v) λq=>yn (jr 3 1 0 nZ []) v λm B r=>oP (fH 3 c) λf=>oP (ez f r) λg=>yn (jr 3 1 0 nZ []) r λa D d=>oP (fH 4 c) λi=>oP (ez i d) λj=>((d.get (r.next)=some a/\O.beq a a=true)/\((ez f d=some g)/\((d.get (v.next)=some m/\O.beq m m=true)/\((ez p d=some q)/\((d.get (h2.next)=some z/\O.beq z z=true)/\fi (eR 3 1 8 A q d) λE k=>(d.next<=k.next/\oP (fH 0 c) λF=>((ez i k=some j)/\((k.get (r.next)=some a/\O.beq a a=true)/\((ez f k=some g)/\((k.get (v.next)=some m/\O.beq m m=true)/\fi (eR 3 1 8 B g k) λG s=>(k.next<=s.next/\((ez i s=some j)/\((s.get (r.next)=some a/\O.beq a a=true)/\fi (eR 3 1 8 D j s) λH I=>(s.next<=I.next/\fi (gI 1 F E I) λaa J=>(I.next<=J.next/\oP (fH 3 c) λK=>fi (gI 1 K G J) λab l=>(J.next<=l.next/\oP (fH 4 c) λL=>fi (gI 1 L H l) λac b=>(l.next<=b.next/\dF 3 u b λM=>oP (gv 6 c b) λN=>ig (jr 47 6 1 (V.agg [nS,nZ,nZ,nS,nS,nZ]) [(0,N)]) b λP R=>fi (eR 47 6 96 M P R) λS T=>oP (fH 3 u) λU=>fi (gI 1 U S T) λae W=>oP (en .add 3 e nO) λX=>w [Z,x2,u,n,o,X] W)))))))))))))))))) (dF 4 Z h λt=>oP (fE t) λY=>Ic C Q [x2,u,t,Y,nZ] h)
theorem Oj{C Q}(I)(s:S6 I (Iw C Q)){k l h}(i:I k l h)(e:l.length=6:=by rfl):Il C Q l h:=JV.l6 I _ s i e
def Ii(C:fm)(Q:ft)(f:LP)(g m b c a:V)(h:Hp):Prop:=bO .lss 3 a c (oP (gz 1 b a) λi=>oP (gv 1 i h) λj=>ig (zC 56 [nS]) h λn r=>fi (gI 1 n j r) λu s=>ig (zC 56 [nS]) s λk o=>dF 0 n o λd=>oP (fE d) λl=>IB C Q f [g,m,k,b,c,a,d,l,nZ] o) (oP (gv 5 m h) λe=>fi (gI 5 g e h) λp q=>oP (gv 5 g q) λt=>Q t q)
theorem Oz{C Q}(I)(s:S5 I (Ii C Q)){k l h}(i:I k l h)(e:l.length=5:=by rfl):Ic C Q l h:=JV.l5 I _ s i e
def Ih(C:fm)(Q:ft)(x:LP)(y:LP)(x2 u b f g i j k c:V)(h:Hp):Prop:=bO .lss 3 c k (oP (gz 4 j c) λz=>oP (gv 4 z h) λA=>ig (zC 53 [nZ,nZ,nS,nS]) h λa h1=>fi (gI 4 a A h1) λvu h2=>yn (jr 3 1 0 nZ []) h2 λB D v=>oP (fH 2 a) λl=>oP (ez l v) λm=>yn (jr 3 1 0 nZ []) v λd E e=>oP (fH 3 a) λn=>oP (ez n e) λo=>((e.get (v.next)=some d/\O.beq d d=true)/\((ez l e=some m)/\((e.get (h2.next)=some B/\O.beq B B=true)/\fi (eR 3 1 8 D m e) λF p=>(e.next<=p.next/\oP (fH 2 a) λG=>((ez n p=some o)/\((p.get (v.next)=some d/\O.beq d d=true)/\fi (eR 3 1 8 E o p) λH I=>(p.next<=I.next/\fi (gI 1 G F I) λab J=>(I.next<=J.next/\oP (fH 3 a) λK=>fi (gI 1 K H J) λac w=>(J.next<=w.next/\dF 0 b w λL=>oP (gv 4 a w) λM=>ig (jr 53 4 1 (V.agg [nZ,nZ,nS,nS]) [(0,M)]) w λN h9=>fi (eR 53 4 64 L N h9) λP R=>oP (fH 0 b) λS=>fi (gI 1 S P R) λae T=>oP (en .add 3 c nO) λU=>y [x2,u,b,f,g,i,j,k,U] T)))))))))) (dF 4 u h λW=>oP (gv 1 b h) λX=>ig (jr 56 1 1 (V.agg [nS]) [(0,X)]) h λq Y=>fi (eR 56 1 24 W q Y) λr Z=>oP (fH 4 u) λs=>fi (gI 1 s r Z) λag aa=>oP (en .add 3 i nO) λt=>x [x2,u,f,g,t] aa)
theorem OD{C Q a}(I)(s:S9 I (Ih C Q a)){k l h}(i:I k l h)(e:l.length=9:=by rfl):IB C Q a l h:=JV.l9 I _ s i e
def ML(C:fm)(Q:ft)(a0:V)(h:Hp):Prop:=ig (om 30 a0) h λb k=>ig (zC 30 [nZ,nZ,nS,nS,nS]) k λl c=>dF 0 b c λd=>dF 1 b c λe=>oP (fV [nZ,nZ,nS,nS,nS] [(0,1),(1,1),(2,1),(3,1),(4,1)] [(0,d),(1,e)]) λf=>ig (zC 30 [nZ,nZ,nS,nS,nS]) c λi m=>fi (gI 5 i f m) λn j=>dF 2 b j λa=>oP (fE a) λg=>Iz C Q [b,l,i,a,g,nZ] j
theorem TY{C}(s:C.start=fN){a0 h Q}(k:C.K yr [a0] h=none)(H:ML C Q a0 h):cP C yr [a0] h Q:=cP.vd t13 s (by unfold P0;exact Tryz.func13) k H
def t15:List (Nat×List Nat):=[]
def M8(C:fm)(Q:ft)(a0 a1:V)(h:Hp):Prop:=ig (om 30 a0) h λf g=>ig (zC 30 [nZ,nZ,nS,nS,nS]) g λc d=>oP (gv 5 f d) λi=>cP C yr [i] d λj k=>oP (fV [nZ,nZ,nS,nS,nS,nS] [(0,5),(5,1)] [(0,j),(1,a1)]) λl=>ig (om 98 l) k λa m=>cP C ny [a] m λn o=>cP C kT [a] o λb p=>fi (gI 5 c b p) λr e=>oP (gv 5 c e) λq=>Q q e
theorem TT{C}(s:C.start=fN){a0 a1 h Q}(k:C.K yp [a0,a1] h=none)(H:M8 C Q a0 a1 h):cP C yp [a0,a1] h Q:=cP.vd t15 s (by unfold P0;exact Tryz.func15) k H
def t48:List (Nat×List Nat):=[(43,[0,2,38,39,40]),(175,[0,2,5,6,51,52,53]),(3886,[0,2,5,6,51,52,53]),(703,[0,2,5,9,70,71,72]),(2706623,[0,2,5,9,70,71,72,83,84,85]),(2870463,[0,2,5,9,10,11,14,15,70,71,72,97,98,99]),(1407,[0,5,9,182,183]),(15550,[0,2,5,9,70,71,72]),(63687870,[0,2,5,9,10,11,14,15,70,71,72,97,98,99]),(5754047,[0,2,5,9,11,14,15,70,71,72,134,135,136]),(366975,[0,5,9,24,182,183,190,191,192]),(46063406271,[0,2,5,9,11,14,15,20,21,70,71,72,134,135,136,152,153,154]),(127388862,[0,2,5,9,11,14,15,70,71,72,134,135,136])]
def uM(C:fm)(Q:ft):LP:=JV C Tryz.f48 t48 21 [0,2,38,39,40] [] Q
def vJ(C:fm)(Q:ft):LP:=JV C Tryz.f48 t48 87 [0,2,5,6,51,52,53] [] Q
def og(C:fm)(Q:ft)(a:LP):LP:=JV C Tryz.f48 t48 1943 [0,2,5,6,51,52,53] [kf [0,2,5,6,51,52,53] a] Q
def uR(C:fm)(Q:ft):LP:=JV C Tryz.f48 t48 351 [0,2,5,9,70,71,72] [] Q
def uZ(C:fm)(Q:ft)(a:LP):LP:=JV C Tryz.f48 t48 1353311 [0,2,5,9,70,71,72,83,84,85] [kf [0,2,5,9,70,71,72] a] Q
def vN(C:fm)(Q:ft)(a:LP):LP:=JV C Tryz.f48 t48 1435231 [0,2,5,9,10,11,14,15,70,71,72,97,98,99] [kf [0,2,5,9,70,71,72] a] Q
def uG(C:fm)(Q:ft):LP:=JV C Tryz.f48 t48 703 [0,5,9,182,183] [] Q
def nT(C:fm)(Q:ft)(a:LP):LP:=JV C Tryz.f48 t48 7775 [0,2,5,9,70,71,72] [kf [0,2,5,9,70,71,72] a] Q
def ot(C:fm)(Q:ft)(a:LP)(b:LP):LP:=JV C Tryz.f48 t48 31843935 [0,2,5,9,10,11,14,15,70,71,72,97,98,99] [kf [0,2,5,9,70,71,72] a,kf [0,2,5,9,10,11,14,15,70,71,72,97,98,99] b] Q
def uP(C:fm)(Q:ft)(a:LP):LP:=JV C Tryz.f48 t48 2877023 [0,2,5,9,11,14,15,70,71,72,134,135,136] [kf [0,2,5,9,70,71,72] a] Q
def uN(C:fm)(Q:ft)(a:LP):LP:=JV C Tryz.f48 t48 183487 [0,5,9,24,182,183,190,191,192] [kf [0,5,9,182,183] a] Q
def vD(C:fm)(Q:ft)(a:LP)(b:LP):LP:=JV C Tryz.f48 t48 23031703135 [0,2,5,9,11,14,15,20,21,70,71,72,134,135,136,152,153,154] [kf [0,2,5,9,70,71,72] a,kf [0,2,5,9,11,14,15,70,71,72,134,135,136] b] Q
def nU(C:fm)(Q:ft)(a:LP)(b:LP):LP:=JV C Tryz.f48 t48 63694431 [0,2,5,9,11,14,15,70,71,72,134,135,136] [kf [0,2,5,9,70,71,72] a,kf [0,2,5,9,11,14,15,70,71,72,134,135,136] b] Q
def vM(C:fm)(Q:ft)(fM:LP)(l b c d a:V)(h:Hp):Prop:=bO .lss 3 a d (dX 1 c a h λf=>oP (gz 1 b f) λg=>fi (gI 1 g bT h) λo m=>oP (en .add 3 a nO) λi=>fM [l,b,c,d,i] m) (oP (fE b) λe=>ig (il 3 1 8 nZ e e) h λj n=>oP (fE b) λk=>vJ C Q [l,b,j,nZ,b,k,nZ] n)
theorem DI{C Q}(I)(s:S5 I (vM C Q)){k l h}(i:I k l h)(e:l.length=5:=by rfl):uM C Q l h:=JV.l5 I _ s i e
def vF(C:fm)(Q:ft)(d:LP)(f i g j b c a:V)(h:Hp):Prop:=bO .lss 3 a c (dX 1 b a h λk=>bP k (oP (gz 1 g a) λl=>fi (gI 1 l j h) λr q=>oP (en .add 3 j nO) λm=>og C Q d [f,i,g,m,b,c,a] q) (og C Q d [f,i,g,j,b,c,a] h)) (oP (gY f) λn=>oP (fH 0 n) λo=>dF 3 o h λe=>oP (fE e) λp=>uR C Q [f,i,g,nS,e,p,nZ] h)
theorem CT{C Q}(I)(s:S7 I (vF C Q)){k l h}(i:I k l h)(e:l.length=7:=by rfl):vJ C Q l h:=JV.l7 I _ s i e
def nN(C:fm)(Q:ft)(a:LP)(f g i j b c d:V)(h:Hp):Prop:=oP (en .add 3 d nO) λe=>a [f,g,i,j,b,c,e] h
theorem tZ{C Q a}:R7 (nN C Q a) (og C Q a):=JV.r7 _
def vy(C:fm)(Q:ft)(e:LP)(l m n k c d a:V)(h:Hp):Prop:=bO .lss 3 a d (oP (gz 6 c a) λo=>oP (gv 6 o h) λp=>ig (zC 47 [nS,nZ,nZ,nS,nS,nZ]) h λb t=>fi (gI 6 b p t) λu f=>dX 1 m a f λq=>bN q (dF 0 b f λg=>oP (fE g) λr=>uZ C Q e [l,m,n,k,c,d,a,g,r,nZ] f) (dF 4 b f λi=>oP (fE i) λs=>vN C Q e [l,m,n,k,a,b,nS,nS,c,d,a,i,s,nZ] f)) (oP (fE k) λj=>uG C Q [l,n,k,j,nZ] h)
theorem Dz{C Q}(I)(s:S7 I (vy C Q)){k l h}(i:I k l h)(e:l.length=7:=by rfl):uR C Q l h:=JV.l7 I _ s i e
def vg(C:fm)(Q:ft)(g:LP)(i:LP)(j o p q b c d e f a:V)(h:Hp):Prop:=bO .lss 3 a f (dX 1 e a h λk=>dN 5 j h λl=>oP (gz 1 l k) λm=>fi (gI 1 m (V.I (-1)) h) λs r=>oP (en .add 3 a nO) λn=>i [j,o,p,q,b,c,d,e,f,n] r) (nT C Q g [j,o,p,q,b,c,d] h)
theorem DJ{C Q a}(I)(s:S10 I (vg C Q a)){k l h}(i:I k l h)(e:l.length=10:=by rfl):uZ C Q a l h:=JV.l10 I _ s i e
def uW(C:fm)(Q:ft)(i:LP)(s:LP)(N P R T j f k l m n o p q b:V)(h:Hp):Prop:=bO .lss 3 b q (dX 1 p b h λc=>dX 1 P c h λa=>oP (fy true a) λb5=>oP (gV b5 (some N)) λt=>oP (fy true a) λb6=>oP (gV b6 (gY t)) λu=>oP (fy true a) λb7=>oP (gV b7 (fH 0 u)) λv=>oP (fy true a) λb8=>oP (gV b8 (fH 3 v)) λw=>oP (fy true a) λb9=>oP (gV b9 (ez w h)) λx=>oP (fy true a) λU=>oP (gV U (some c)) λy=>oP (fy true a) λW=>oP (gV W (gz 6 x y)) λz=>oP (fy true a) λX=>oP (gV X (fH 3 z)) λA=>oP (fy true a) λY=>oP (gV Y (ez A h)) λB=>oP (fy true a) λZ=>oP (gV Z (some j)) λD=>oP (fy true a) λaa=>oP (gC aa (some (kM,[B,D]))) λab=>uj C ab h λE h1=>oP (jt a E bF) λF=>bP F (yn (jr 3 1 1 nZ [(0,b)]) h1 λo2 G S=>oP (gz 1 R c) λd=>oP (ez d S) λe=>yn (jr 3 1 1 nZ [(0,e)]) S λr H I=>((I.get (S.next)=some r/\O.beq r r=true)/\((ez d I=some e)/\((I.get (h1.next)=some o2/\O.beq o2 o2=true)/\fi (eR 3 1 8 k G I) λJ K=>(I.next<=K.next/\((K.get (S.next)=some r/\O.beq r r=true)/\((ez d K=some e)/\fi (eR 3 1 8 l H K) λL h5=>(K.next<=h5.next/\ot C Q i s [N,P,R,T,j,f,J,L,m,n,o,p,q,b] h5)))))))) (ot C Q i s [N,P,R,T,j,f,k,l,m,n,o,p,q,b] h1)) (dF 0 f h λg=>oP (fE g) λM=>uP C Q i [N,P,R,T,f,k,l,m,n,o,g,M,nZ] h)
theorem C8{C Q a}(I)(s:S14 I (uW C Q a)){k l h}(i:I k l h)(e:l.length=14:=by rfl):vN C Q a l h:=JV.l14 I _ s i e
def vm(C:fm)(Q:ft)(i:LP)(k l j b a:V)(h:Hp):Prop:=bO .lss 3 a b (dI 6 j a 3 h λc=>oP (fE c) λd=>uN C Q i [k,l,j,a,b,a,c,d,nZ] h) (oP (gY k) λe=>oP (fH 0 e) λf=>oP (fH 3 f) λg=>fi (gI 1 g j h) λn m=>Q (V.tuple []) m)
theorem CK{C Q}(I)(s:S5 I (vm C Q)){k l h}(i:I k l h)(e:l.length=5:=by rfl):uG C Q l h:=JV.l5 I _ s i e
def nR(C:fm)(Q:ft)(b:LP)(f g i j c d e:V)(h:Hp):Prop:=oP (en .add 3 e nO) λa=>b [f,g,i,j,c,d,a] h
theorem tN{C Q a}:R7 (nR C Q a) (nT C Q a):=JV.r7 _
def lj(C:fm)(Q:ft)(n:LP)(b:LP)(o p q r c d e f g i j k l m:V)(h:Hp):Prop:=oP (en .add 3 m nO) λa=>b [o,p,q,r,c,d,e,f,g,i,j,k,l,a] h
theorem nY{C Q a b}:R14 (lj C Q a b) (ot C Q a b):=JV.r14 _
def uB(C:fm)(Q:ft)(g:LP)(m:LP)(x y z A d e i j k l b c a:V)(h:Hp):Prop:=bO .lss 3 a c (dX 1 b a h λn=>oP (gY x) λo=>oP (fH 0 o) λp=>dF 2 p h λq=>oP (gz 6 q n) λf=>dN 0 f h λr=>bO .eql 3 r (V.I 21) (oP (fE e) λs=>vD C Q g m [x,y,z,A,d,e,i,f,nS,j,k,l,b,c,a,e,s,nZ] h) (nU C Q g m [x,y,z,A,d,e,i,j,k,l,b,c,a] h)) (oP (fH 4 d) λt=>fi (gI 1 t i h) λF B=>oP (gv 6 d B) λu=>ig (jr 47 6 1 (V.agg [nS,nZ,nZ,nS,nS,nZ]) [(0,u)]) B λv D=>fi (eR 47 6 96 A v D) λw E=>nT C Q g [x,y,z,w,j,k,l] E)
theorem DB{C Q a}(I)(s:S13 I (uB C Q a)){k l h}(i:I k l h)(e:l.length=13:=by rfl):uP C Q a l h:=JV.l13 I _ s i e
def uV(C:fm)(Q:ft)(n:LP)(o:LP)(r p q f b c d e a:V)(h:Hp):Prop:=bO .lss 3 a e (dX 1 d a h λg=>dI 6 q f 3 h λi=>dX 1 p g h λj=>oP (gz 1 i a) λk=>fi (gI 1 k j h) λt s=>(h.next<=s.next/\oP (en .add 3 a nO) λl=>o [r,p,q,f,b,c,d,e,l] s)) (oP (en .add 3 c nO) λm=>n [r,p,q,b,m] h)
theorem DO{C Q a}(I)(s:S9 I (uV C Q a)){k l h}(i:I k l h)(e:l.length=9:=by rfl):uN C Q a l h:=JV.l9 I _ s i e
def vP(C:fm)(Q:ft)(x:LP)(y:LP)(z:LP)(A B D E i j k g l m n o b c d e f a:V)(h:Hp):Prop:=bO .lss 3 a f (dX 1 e a h λp=>dN 4 g h λq=>dX 1 q p h λr=>ig (jr 3 1 1 nZ [(0,r)]) h λs F=>fi (eR 3 1 8 l s F) λt G=>oP (en .add 3 a nO) λu=>z [A,B,D,E,i,j,k,g,t,m,n,o,b,c,d,e,f,u] G) (oP (gY g) λv=>oP (fH 4 v) λw=>fi (gI 1 w l h) λI H=>nU C Q x y [A,B,D,E,i,j,k,m,n,o,b,c,d] H)
theorem Dx{C Q a b}(I)(s:S18 I (vP C Q a b)){k l h}(i:I k l h)(e:l.length=18:=by rfl):vD C Q a b l h:=JV.l18 I _ s i e
def ou(C:fm)(Q:ft)(m:LP)(e:LP)(n o p q f g i j k l a b c:V)(h:Hp):Prop:=oP (en .add 3 c nO) λd=>e [n,o,p,q,f,g,i,j,k,l,a,b,d] h
theorem tM{C Q a b}:R13 (ou C Q a b) (nU C Q a b):=JV.r13 _
def yM(C:fm)(Q:ft)(a0:V)(h:Hp):Prop:=oP (gY a0) λc=>oP (fH 0 c) λd=>dG 3 d h λa=>ig (il 4 1 1 bF a a) h λe k=>oP (gY a0) λf=>oP (fH 0 f) λg=>oP (gv 5 g k) λi=>cP C oV [i] k λb l=>oP (fE b) λj=>uM C Q [a0,e,b,j,nZ] l
theorem FZ{C}(s:C.start=fN){a0 h Q}(k:C.K ny [a0] h=none)(H:yM C Q a0 h):cP C ny [a0] h Q:=cP.vd t48 s (by unfold P0;exact Tryz.func48) k H
def t80:List (Nat×List Nat):=[(43,[0,1,5])]
def xF(C:fm)(Q:ft):LP:=JV C Tryz.f80 t80 21 [0,1,5] [] Q
def xZ(C:fm)(Q:ft)(fM:LP)(a b y:V)(h:Hp):Prop:=dN 5 a h λz=>dX 1 z b h λc=>oP (en .geq 3 c nZ) λd=>oP (jO d (oB (some a) λe=>oB (gY e) λf=>oB (fH 5 f) λg=>oB (ez g h) λi=>oB (some b) λj=>oB (gz 1 i j) λk=>oB (ez k h) λl=>oB (some b) λm=>en .neq 3 l m)) λn=>oP (jO n (oB (some y) λo=>oB (some a) λp=>oB (gY p) λq=>oB (fH 5 q) λr=>oB (ez r h) λs=>oB (fE s) λt=>en .leq 3 o t)) λu=>bP u (dN 5 a h λv=>dX 1 v b h λw=>oP (en .add 3 y nO) λx=>fM [a,w,x] h) (Q b h)
theorem Fs{C Q}(I)(s:S3 I (xZ C Q)){k l h}(i:I k l h)(e:l.length=3:=by rfl):xF C Q l h:=JV.l3 I _ s i e
def AA(C:fm)(Q:ft)(a0 a1:V)(h:Hp):Prop:=xF C Q [a0,a1,nZ] h
theorem I3{C}(s:C.start=fN){a0 a1 h Q}(k:C.K jm [a0,a1] h=none)(H:AA C Q a0 a1 h):cP C jm [a0,a1] h Q:=cP.vd t80 s (by unfold P0;exact Tryz.func80) k H
def t49:List (Nat×List Nat):=[(351,[1,2,3,4,5,41,42]),(353887,[1,2,3,4,5,6,7,41,42,53,54,55]),(5631,[1,2,3,4,11,12,96,97,98]),(7956062,[1,2,3,4,5,6,7,41,42,53,54,55]),(1992190,[1,2,3,4,11,12,15,96,97,98]),(11263,[1,2,3,4,12,165,166,167]),(4089342,[1,2,3,4,11,12,15,96,97,98]),(1887230,[1,2,3,4,12,17,165,166,167]),(8283646,[1,2,3,4,11,12,15,96,97,98]),(16672254,[1,2,3,4,11,12,15,96,97,98])]
def tS(C:fm)(Q:ft):LP:=JV C Tryz.f49 t49 175 [1,2,3,4,5,41,42] [] Q
def uc(C:fm)(Q:ft)(fM:LP):LP:=JV C Tryz.f49 t49 176943 [1,2,3,4,5,6,7,41,42,53,54,55] [kf [1,2,3,4,5,41,42] fM] Q
def lF(C:fm)(Q:ft):LP:=JV C Tryz.f49 t49 2815 [1,2,3,4,11,12,96,97,98] [] Q
def mY(C:fm)(Q:ft)(fM:LP)(a:LP):LP:=JV C Tryz.f49 t49 3978031 [1,2,3,4,5,6,7,41,42,53,54,55] [kf [1,2,3,4,5,41,42] fM,kf [1,2,3,4,5,6,7,41,42,53,54,55] a] Q
def kN(C:fm)(Q:ft)(a:LP):LP:=JV C Tryz.f49 t49 996095 [1,2,3,4,11,12,15,96,97,98] [kf [1,2,3,4,11,12,96,97,98] a] Q
def lC(C:fm)(Q:ft):LP:=JV C Tryz.f49 t49 5631 [1,2,3,4,12,165,166,167] [] Q
def kP(C:fm)(Q:ft)(a:LP):LP:=JV C Tryz.f49 t49 2044671 [1,2,3,4,11,12,15,96,97,98] [kf [1,2,3,4,11,12,96,97,98] a] Q
def jy(C:fm)(Q:ft)(a:LP):LP:=JV C Tryz.f49 t49 943615 [1,2,3,4,12,17,165,166,167] [kf [1,2,3,4,12,165,166,167] a] Q
def kL(C:fm)(Q:ft)(a:LP):LP:=JV C Tryz.f49 t49 4141823 [1,2,3,4,11,12,15,96,97,98] [kf [1,2,3,4,11,12,96,97,98] a] Q
def kJ(C:fm)(Q:ft)(a:LP):LP:=JV C Tryz.f49 t49 8336127 [1,2,3,4,11,12,15,96,97,98] [kf [1,2,3,4,11,12,96,97,98] a] Q
def tI(C:fm)(Q:ft)(fM:LP)(c r g i j d a:V)(h:Hp):Prop:=bO .lss 3 a d (oP (ez c h) λk=>oP (gY k) λm=>oP (fH 0 m) λn=>dJ 3 n 6 a 0 h λe=>oP (fE e) λo=>uc C Q fM [c,r,g,i,j,a,nS,d,a,e,o,nZ] h) (ig (some (.map [] 0,λl=> .map l)) h λp t=>ig (zC 116 [V.mc]) t λf u=>fi (gI 1 f p u) λy v=>ig (zC 117 [V.nilFunc]) v λb w=>fi (gI 1 b (V.func iD [] [i,c]) w) λs x=>oP (fE j) λq=>lF C Q [c,r,g,i,b,(V.func fR [] [f,g,c,b]),j,q,nZ] x)
theorem Cy{C Q}(I)(s:S7 I (tI C Q)){k l h}(i:I k l h)(e:l.length=7:=by rfl):tS C Q l h:=JV.l7 I _ s i e
def tx(C:fm)(Q:ft)(fM:LP)(g:LP)(i l m k j n o c d e f a:V)(h:Hp):Prop:=bO .lss 3 a f (dX 1 e a h λb=>oP (ez i h) λp=>dN 5 p h λq=>dX 1 q b h λr=>bO .eql 3 r b (oP (ez k h) λs=>oP (fE j) λt=>oP (gz 1 s b) λu=>fi (gI 1 u t h) λP J=>oP (fE j) λv=>ig (jr 3 1 1 nZ [(0,v)]) J λw K=>fi (eR 3 1 8 o w K) λx L=>ig (jr 3 1 1 nZ [(0,b)]) L λy M=>fi (eR 3 1 8 j y M) λz N=>mY C Q fM g [i,l,m,k,z,n,x,c,d,e,f,a] N) (mY C Q fM g [i,l,m,k,j,n,o,c,d,e,f,a] h)) (oP (ez i h) λA=>oP (gY A) λB=>oP (fH 0 B) λD=>dF 3 D h λE=>oP (gz 6 E n) λF=>oP (fH 0 F) λG=>fi (gI 1 G o h) λI O=>oP (en .add 3 d nO) λH=>fM [i,l,m,k,j,c,H] O)
theorem Ca{C Q fM}(I)(s:S12 I (tx C Q fM)){k l h}(i:I k l h)(e:l.length=12:=by rfl):uc C Q fM l h:=JV.l12 I _ s i e
def tU(C:fm)(Q:ft)(k:LP)(i H I l m e f g b:V)(h:Hp):Prop:=bO .lss 3 b g (dX 1 f b h λn=>oP (ez i h) λo=>oP (gY o) λp=>oP (fH 0 p) λq=>dF 2 q h λr=>oP (gz 6 r n) λs=>oP (gv 6 s h) λt=>ig (zC 49 [nZ,nZ,nZ,nZ,nS,nZ]) h λa M=>fi (gI 6 a t M) λN J=>dF 0 a J λu=>cP C vz [u] J λv j=>bO .gtr 3 v nZ (oP (ez l j) λc=>oP (ez i j) λw=>dF 1 a j λx=>cP C jm [w,x] j λy z=>(j.next<=z.next/\dX 1 c y z λA=>oP (fH 1 a) λB=>((ez l z=some c)/\fi (gI 1 B A z) λK L=>(z.next<=L.next/\kN C Q k [i,H,I,l,m,e,a,f,g,b] L)))) (kN C Q k [i,H,I,l,m,e,a,f,g,b] j)) (oP (ez i h) λD=>oP (gY D) λE=>oP (fH 0 E) λF=>dF 3 F h λd=>oP (fE d) λG=>lC C Q [i,H,I,l,e,d,G,nZ] h)
theorem Cf{C Q}(I)(s:S9 I (tU C Q)){k l h}(i:I k l h)(e:l.length=9:=by rfl):lF C Q l h:=JV.l9 I _ s i e
def mW(C:fm)(Q:ft)(fM:LP)(a:LP)(i j k l m n o b c d e f:V)(h:Hp):Prop:=oP (en .add 3 f nO) λg=>a [i,j,k,l,m,n,o,b,c,d,e,g] h
theorem rj{C Q fM a}:R12 (mW C Q fM a) (mY C Q fM a):=JV.r12 _
def rZ(C:fm)(Q:ft)(d:LP)(t u v s e f a g i j:V)(h:Hp):Prop:=dF 0 a h λk=>cP C vz [k] h λl c=>bO .gtr 3 l nO (oP (ez s c) λb=>oP (ez t c) λm=>dF 2 a c λn=>cP C jm [m,n] c λo p=>(c.next<=p.next/\dX 1 b o p λq=>oP (fH 2 a) λr=>((ez s p=some b)/\fi (gI 1 r q p) λx w=>(p.next<=w.next/\kP C Q d [t,u,v,s,e,f,a,g,i,j] w)))) (kP C Q d [t,u,v,s,e,f,a,g,i,j] c)
theorem Bw{C Q a}:Fc (rZ C Q a) (kN C Q a):=JV.YE _
def tA(C:fm)(Q:ft)(j:LP)(y k z l e c d b:V)(h:Hp):Prop:=bO .lss 3 b d (oP (gz 6 c b) λm=>oP (gv 6 m h) λn=>ig (zC 47 [nS,nZ,nZ,nS,nS,nZ]) h λa G=>fi (gI 6 a n G) λK f=>dF 1 a f λg=>bO .eql 3 g (V.I 2) (oP (ez l f) λi=>oP (ez y f) λo=>dF 2 a f λp=>cP C jm [o,p] f λq r=>(f.next<=r.next/\dX 1 i q r λs=>oP (fH 2 a) λt=>((ez l r=some i)/\fi (gI 1 t s r) λA B=>(r.next<=B.next/\jy C Q j [y,k,z,l,e,a,c,d,b] B)))) (bO .eql 3 g (V.I 3) (dF 5 a f λu=>hH C (gh e [u]) f λv H=>oP (fH 5 a) λw=>fi (gI 1 w v H) λD I=>jy C Q j [y,k,z,l,e,a,c,d,b] I) (jy C Q j [y,k,z,l,e,a,c,d,b] f))) (oP (gv 5 z h) λx=>fi (gI 5 k x h) λE F=>oP (gv 5 k F) λJ=>Q J F)
theorem CG{C Q}(I)(s:S8 I (tA C Q)){k l h}(i:I k l h)(e:l.length=8:=by rfl):lC C Q l h:=JV.l8 I _ s i e
def tk(C:fm)(Q:ft)(c:LP)(p q r s b d a e f g:V)(h:Hp):Prop:=dF 0 a h λi=>oP (en .eql 3 i (V.I 21)) λj=>oP (nP j (oB (fH 0 a) λk=>oB (ez k h) λl=>en .eql 3 l (V.I 20))) λm=>bP m (oP (ez b h) λn=>dF 4 a h λo=>hH C (gh n [o]) h λt u=>kL C Q c [p,q,r,s,b,d,a,e,f,g] u) (kL C Q c [p,q,r,s,b,d,a,e,f,g] h)
theorem Bx{C Q a}:Fc (tk C Q a) (kP C Q a):=JV.YE _
def rl(C:fm)(Q:ft)(k:LP)(o p l q m n a b c:V)(h:Hp):Prop:=dF 3 l h λd=>oP (gv 6 n h) λe=>ig (jr 47 6 1 (V.agg [nS,nZ,nZ,nS,nS,nZ]) [(0,e)]) h λf r=>fi (eR 47 6 96 d f r) λg s=>oP (fH 3 l) λi=>fi (gI 1 i g s) λu t=>oP (en .add 3 c nO) λj=>k [o,p,l,q,m,a,b,j] t
theorem Bg{C Q a}:R9 (rl C Q a) (jy C Q a):=JV.r9 _
def sh(C:fm)(Q:ft)(c:LP)(o p q r d b a e f g:V)(h:Hp):Prop:=dF 0 a h λi=>cP C pd [i] h λj n=>bP j (dF 5 a n λk=>hH C (gh b [k]) n λl s=>oP (fH 5 a) λm=>fi (gI 1 m l s) λu t=>kJ C Q c [o,p,q,r,d,b,a,e,f,g] t) (kJ C Q c [o,p,q,r,d,b,a,e,f,g] n)
theorem Bi{C Q a}:Fc (sh C Q a) (kL C Q a):=JV.YE _
def rI(C:fm)(Q:ft)(g:LP)(p q i r j k l m n o:V)(h:Hp):Prop:=dF 2 i h λa=>oP (gv 6 l h) λb=>ig (jr 49 6 1 (V.agg [nZ,nZ,nZ,nZ,nS,nZ]) [(0,b)]) h λc s=>fi (eR 49 6 64 a c s) λd t=>oP (fH 2 i) λe=>fi (gI 1 e d t) λv u=>oP (en .add 3 o nO) λf=>g [p,q,i,r,j,k,m,n,f] u
theorem BC{C Q a}:Fc (rI C Q a) (kJ C Q a):=JV.YE _
def xQ(C:fm)(Q:ft)(a0:V)(h:Hp):Prop:=ig (om 96 a0) h λa F=>ig (zC 30 [nZ,nZ,nS,nS,nS]) F λG d=>oP (ez a d) λe=>oP (gY e) λn=>oP (fH 0 n) λo=>oP (fH 0 o) λf=>oP (ez f d) λg=>oP (ez a d) λi=>oP (gY i) λp=>oP (fH 0 p) λq=>oP (fH 1 q) λj=>oP (ez j d) λk=>oP (fV [nZ,nZ,nS,nS,nS] [(0,1),(1,1),(2,1),(3,1),(4,1)] [(0,g),(1,k)]) λr=>yn (zC 30 [nZ,nZ,nS,nS,nS]) d λb B c=>((c.get (d.next)=some b/\O.beq b b=true)/\((ez j c=some k)/\((ez a c=some i)/\((ez f c=some g)/\((ez a c=some e)/\fi (gI 5 B r c) λJ m=>(c.next<=m.next/\oP (ez a m) λs=>oP (gY s) λt=>oP (fH 0 t) λu=>dG 2 u m λl=>ig (il 3 1 8 nZ l l) m λv H=>ig (zC 22 [nS]) H λD I=>fi (gI 1 D v I) λE w=>oP (ez a w) λx=>oP (gY x) λy=>oP (fH 0 y) λz=>dG 3 z w λA=>tS C Q [a,G,B,D,nS,A,nZ] w))))))
theorem FE{C}(s:C.start=fN){a0 h Q}(k:C.K kT [a0] h=none)(H:xQ C Q a0 h):cP C kT [a0] h Q:=cP.vd t49 s (by unfold P0;exact Tryz.func49) k H
def t79:List (Nat×List Nat):=[(11,[0,1,2,6,7,8])]
def qB(C:fm)(Q:ft):LP:=JV C Tryz.f79 t79 5 [0,1,2,6,7,8] [] Q
def qM(C:fm)(Q:ft)(fM:LP)(l d m n o c:V)(h:Hp):Prop:=bO .lss 3 c o (dX 1 n c h λe=>oP (ez d h) λa=>oP (ez m h) λf=>cP C jm [f,e] h λg b=>(h.next<=b.next/\dX 1 a g b λi=>oP (gz 1 l c) λj=>((ez d b=some a)/\fi (gI 1 j i b) λq p=>(b.next<=p.next/\oP (en .add 3 c nO) λk=>fM [l,d,m,n,o,k] p)))) (Q (V.tuple []) h)
theorem Av{C Q}(I)(s:S6 I (qM C Q)){k l h}(i:I k l h)(e:l.length=6:=by rfl):qB C Q l h:=JV.l6 I _ s i e
def vx(C:fm)(Q:ft)(a0 a1 a2:V)(h:Hp):Prop:=oP (fE a0) λa=>qB C Q [a0,a1,a2,a0,a,nZ] h
theorem DE{C}(s:C.start=fN){a0 a1 a2 h Q}(k:C.K iD [a0,a1,a2] h=none)(H:vx C Q a0 a1 a2 h):cP C iD [a0,a1,a2] h Q:=cP.vd t79 s (by unfold P0;exact Tryz.func79) k H
def t81:List (Nat×List Nat):=[(2775,[0,2,3,4,7,33,34,35]),(30,[7])]
def qy(C:fm)(Q:ft):LP:=JV C Tryz.f81 t81 1387 [0,2,3,4,7,33,34,35] [] Q
def mK(C:fm)(Q:ft):LP:=JV C Tryz.f81 t81 15 [7] [] Q
def qx(C:fm)(Q:ft)(fM:LP)(H o p q I e f a:V)(h:Hp):Prop:=bO .lss 3 a f (oP (gz 4 e a) λr=>oP (gv 4 r h) λs=>ig (zC 53 [nZ,nZ,nS,nS]) h λb L=>fi (gI 4 b s L) λR t=>oP (ez q t) λu=>dF 2 b t λv=>hH C (gh u [v]) t λM w=>oP (ez q w) λx=>dF 3 b w λy=>hH C (gh x [y]) w λN P=>oP (en .add 3 a nO) λz=>fM [H,o,p,q,I,e,f,z] P) (oP (fH 4 o) λg=>oP (ez g h) λi=>oP (ez p h) λj=>oP (gY j) λA=>oP (fH 0 A) λB=>oP (fH 4 B) λk=>oP (ez k h) λl=>oP (gz 1 l H) λm=>oP (gv 1 m h) λn=>yn (jr 56 1 1 (V.agg [nS]) [(0,n)]) h λc D d=>((d.get (h.next)=some c/\O.beq c c=true)/\((gv 1 m d=some n)/\((ez k d=some l)/\((ez p d=some j)/\((ez g d=some i)/\fi (eR 56 1 24 i D d) λE F=>(d.next<=F.next/\oP (fH 4 o) λG=>fi (gI 1 G E F) λJ K=>(F.next<=K.next/\mK C Q [I] K))))))))
theorem Am{C Q}(I)(s:S8 I (qx C Q)){k l h}(i:I k l h)(e:l.length=8:=by rfl):qy C Q l h:=JV.l8 I _ s i e
def mI(C:fm)(Q:ft)(a:V)(h:Hp):Prop:=Q a h
theorem qf{C Q}:R1 (mI C Q) (mK C Q):=JV.r1 _
def vf(C:fm)(Q:ft)(a0 a1 a2 a3 n:V)(h:Hp):Prop:=oP (ez a1 h) λd=>oP (U1 3 none nZ true d a0 h) λa=>oP (zk 0 a) λe=>oP (zk 1 a) λf=>bN f (dG 4 a2 h λb=>oP (ez a1 h) λg=>fi (Og 3 none g a0 b h) λo i=>oP (ez a3 i) λj=>oP (gY j) λk=>oP (fH 0 k) λl=>dJ 4 l 1 a0 0 i λc=>oP (fE c) λm=>qy C Q [a0,a2,a3,n,b,c,m,nZ] i) (mK C Q [e] h)
theorem DX{C}(s:C.start=fN){a0 a1 a2 a3 a h Q}(k:C.K fR [a0,a1,a2,a3,a] h=none)(H:vf C Q a0 a1 a2 a3 a h):cP C fR [a0,a1,a2,a3,a] h Q:=cP.vd t81 s (by unfold P0;exact Tryz.func81) k H
def t16:List (Nat×List Nat):=[(87,[3,10,11])]
def Ia(C:fm)(Q:ft):LP:=JV C Tryz.f16 t16 43 [3,10,11] [] Q
def Ix(C:fm)(Q:ft)(fM:LP)(c b a:V)(h:Hp):Prop:=bO .lss 3 a b (oP (gz 1 c a) λd=>fi (gI 1 d a h) λg f=>oP (en .add 3 a nO) λe=>fM [c,b,e] f) (Q c h)
theorem Oq{C Q}(I)(s:S3 I (Ix C Q)){k l h}(i:I k l h)(e:l.length=3:=by rfl):Ia C Q l h:=JV.l3 I _ s i e
def NS(C:fm)(Q:ft)(a0:V)(h:Hp):Prop:=ig (om 30 a0) h λe b=>dG 2 e b λc=>ig (il 3 1 8 nZ c c) b λd f=>oP (fE d) λa=>Ia C Q [d,a,nZ] f
theorem TI{C}(s:C.start=fN){a0 h Q}(k:C.K Ay [a0] h=none)(H:NS C Q a0 h):cP C Ay [a0] h Q:=cP.vd t16 s (by unfold P0;exact Tryz.func16) k H
def t78:List (Nat×List Nat):=[]
def ru(C:fm)(Q:ft)(a0 a1:V)(h:Hp):Prop:=cP C pq [a0,a1] h λa b=>oP (en .geq 3 a nZ) λc=>Q c b
theorem A6{C}(s:C.start=fN){a0 a1 h Q}(k:C.K kM [a0,a1] h=none)(H:ru C Q a0 a1 h):cP C kM [a0,a1] h Q:=cP.vd t78 s (by unfold P0;exact Tryz.func78) k H
def t91:List (Nat×List Nat):=[(43,[0,1,7,8])]
def rV(C:fm)(Q:ft):LP:=JV C Tryz.f91 t91 21 [0,1,7,8] [] Q
def rD(C:fm)(Q:ft)(fM:LP)(d e f a:V)(h:Hp):Prop:=bO .lss 3 a f (dX 1 d a h λb=>bO .eql 3 e b (Q a h) (oP (en .add 3 a nO) λc=>fM [d,e,f,c] h)) (Q (V.I (-1)) h)
theorem Bs{C Q}(I)(s:S4 I (rD C Q)){k l h}(i:I k l h)(e:l.length=4:=by rfl):rV C Q l h:=JV.l4 I _ s i e
def wc(C:fm)(Q:ft)(a0 a1:V)(h:Hp):Prop:=oP (fE a0) λa=>rV C Q [a0,a1,a,nZ] h
theorem Ef{C}(s:C.start=fN){a0 a1 h Q}(k:C.K pq [a0,a1] h=none)(H:wc C Q a0 a1 h):cP C pq [a0,a1] h Q:=cP.vd t91 s (by unfold P0;exact Tryz.func91) k H
end
