/- Parts. -/
import Derived.Test.YtpfjdlicdljhaaaDoorM14
set_option maxHeartbeats 4000000
namespace Go.Proofs.YtpfjdlicdljhaaaDoor.Hx
set_option maxRecDepth 100000
noncomputable section
def t13:List (Nat×List Nat):=[(87,[1,2,3,19,20,21]),(175,[1,2,3,38,39,40]),(351,[2,3,67,68,69]),(353887,[2,3,10,67,68,69,74,75,76])]
def Fz(C:fk)(Q:fo):LP:=JV C Tryd.f13 t13 43 [1,2,3,19,20,21] [] Q
def FB(C:fk)(Q:fo):LP:=JV C Tryd.f13 t13 87 [1,2,3,38,39,40] [] Q
def Fy(C:fk)(Q:fo):LP:=JV C Tryd.f13 t13 175 [2,3,67,68,69] [] Q
def FE(C:fk)(Q:fo)(a:LP):LP:=JV C Tryd.f13 t13 176943 [2,3,10,67,68,69,74,75,76] [kf [2,3,67,68,69] a] Q
def Fk(C:fk)(Q:fo)(g:LP)(i x e b c a:V)(h:Hp):Prop:=bO .lss 3 a c (oP (gI 6 b a) λj=>oP (gy 6 j h) λk=>im (zC 38 [nZ,nZ,nZ,nZ,nS,nZ]) h λf B=>fi (gG 6 f k B) λI D=>im (ji 3 1 0 nZ []) D λl y=>dF 4 f y λm=>fi (eQ 3 1 8 l m y) λn E=>oP (fH 4 f) λo=>fi (gG 1 o n E) λz p=>dF 2 e p λq=>oP (gy 6 f p) λr=>im (ji 38 6 1 (V.agg [nZ,nZ,nZ,nZ,nS,nZ]) [(0,r)]) p λs F=>fi (eQ 38 6 64 q s F) λt G=>oP (fH 2 e) λu=>fi (gG 1 u t G) λA H=>oP (eo .add 3 a nO) λv=>g [i,x,e,b,c,v] H) (dF 3 i h λd=>oP (fy d) λw=>FB C Q [i,x,e,d,w,nZ] h)
theorem LX{C Q}(I)(s:S6 I (Fk C Q)){k l h}(i:I k l h)(e:l.length=6:=by rfl):Fz C Q l h:=JV.l6 I _ s i e
def Ff(C:fk)(Q:fo)(w:LP)(Z x2 u n o e:V)(h:Hp):Prop:=bO .lss 3 e o (oP (gI 6 n e) λx=>oP (gy 6 x h) λy=>im (zC 41 [nS,nZ,nZ,nS,nS,nZ]) h λc h1=>fi (gG 6 c y h1) λvu h2=>xR (ji 3 1 0 nZ []) h2 λz A v=>oP (fH 0 c) λp=>oP (ey p v) λq=>xR (ji 3 1 0 nZ []) v λm B r=>oP (fH 3 c) λf=>oP (ey f r) λg=>xR (ji 3 1 0 nZ []) r λa D d=>oP (fH 4 c) λi=>oP (ey i d) λj=>((d.get (r.next)=some a/\O.beq a a=true)/\((ey f d=some g)/\((d.get (v.next)=some m/\O.beq m m=true)/\((ey p d=some q)/\((d.get (h2.next)=some z/\O.beq z z=true)/\fi (eQ 3 1 8 A q d) λE k=>(d.next<=k.next/\oP (fH 0 c) λF=>((ey i k=some j)/\((k.get (r.next)=some a/\O.beq a a=true)/\((ey f k=some g)/\((k.get (v.next)=some m/\O.beq m m=true)/\fi (eQ 3 1 8 B g k) λG s=>(k.next<=s.next/\((ey i s=some j)/\((s.get (r.next)=some a/\O.beq a a=true)/\fi (eQ 3 1 8 D j s) λH I=>(s.next<=I.next/\fi (gG 1 F E I) λaa J=>(I.next<=J.next/\oP (fH 3 c) λK=>fi (gG 1 K G J) λab l=>(J.next<=l.next/\oP (fH 4 c) λL=>fi (gG 1 L H l) λac b=>(l.next<=b.next/\dF 3 u b λM=>oP (gy 6 c b) λN=>im (ji 41 6 1 (V.agg [nS,nZ,nZ,nS,nS,nZ]) [(0,N)]) b λP R=>fi (eQ 41 6 96 M P R) λS T=>oP (fH 3 u) λU=>fi (gG 1 U S T) λae W=>oP (eo .add 3 e nO) λX=>w [Z,x2,u,n,o,X] W)))))))))))))))))) (dF 4 Z h λt=>oP (fy t) λY=>Fy C Q [x2,u,t,Y,nZ] h)
theorem Mb{C Q}(I)(s:S6 I (Ff C Q)){k l h}(i:I k l h)(e:l.length=6:=by rfl):FB C Q l h:=JV.l6 I _ s i e
def Fg(C:fk)(Q:fo)(f:LP)(g m b c a:V)(h:Hp):Prop:=bO .lss 3 a c (oP (gI 1 b a) λi=>oP (gy 1 i h) λj=>im (zC 50 [nS]) h λn r=>fi (gG 1 n j r) λt s=>im (zC 50 [nS]) s λk o=>dF 0 n o λd=>oP (fy d) λl=>FE C Q f [g,m,k,b,c,a,d,l,nZ] o) (oP (gy 5 m h) λe=>fi (gG 5 g e h) λp q=>oP (gy 5 g q) λr2=>Q r2 q)
theorem LO{C Q}(I)(s:S5 I (Fg C Q)){k l h}(i:I k l h)(e:l.length=5:=by rfl):Fy C Q l h:=JV.l5 I _ s i e
def FD(C:fk)(Q:fo)(x:LP)(y:LP)(x2 u b f g i j k c:V)(h:Hp):Prop:=bO .lss 3 c k (oP (gI 4 j c) λz=>oP (gy 4 z h) λA=>im (zC 47 [nZ,nZ,nS,nS]) h λa h1=>fi (gG 4 a A h1) λvu h2=>xR (ji 3 1 0 nZ []) h2 λB D v=>oP (fH 2 a) λl=>oP (ey l v) λm=>xR (ji 3 1 0 nZ []) v λd E e=>oP (fH 3 a) λn=>oP (ey n e) λo=>((e.get (v.next)=some d/\O.beq d d=true)/\((ey l e=some m)/\((e.get (h2.next)=some B/\O.beq B B=true)/\fi (eQ 3 1 8 D m e) λF p=>(e.next<=p.next/\oP (fH 2 a) λG=>((ey n p=some o)/\((p.get (v.next)=some d/\O.beq d d=true)/\fi (eQ 3 1 8 E o p) λH I=>(p.next<=I.next/\fi (gG 1 G F I) λab J=>(I.next<=J.next/\oP (fH 3 a) λK=>fi (gG 1 K H J) λac w=>(J.next<=w.next/\dF 0 b w λL=>oP (gy 4 a w) λM=>im (ji 47 4 1 (V.agg [nZ,nZ,nS,nS]) [(0,M)]) w λN h9=>fi (eQ 47 4 64 L N h9) λP R=>oP (fH 0 b) λS=>fi (gG 1 S P R) λae T=>oP (eo .add 3 c nO) λU=>y [x2,u,b,f,g,i,j,k,U] T)))))))))) (dF 4 u h λW=>oP (gy 1 b h) λX=>im (ji 50 1 1 (V.agg [nS]) [(0,X)]) h λq Y=>fi (eQ 50 1 24 W q Y) λr Z=>oP (fH 4 u) λs=>fi (gG 1 s r Z) λag aa=>oP (eo .add 3 i nO) λt=>x [x2,u,f,g,t] aa)
theorem LL{C Q a}(I)(s:S9 I (FD C Q a)){k l h}(i:I k l h)(e:l.length=9:=by rfl):FE C Q a l h:=JV.l9 I _ s i e
def Ki(C:fk)(Q:fo)(a0:V)(h:Hp):Prop:=im (pU 29 a0) h λb k=>im (zC 29 [nZ,nZ,nS,nS,nS]) k λl c=>dF 0 b c λd=>dF 1 b c λe=>oP (fR [nZ,nZ,nS,nS,nS] [(0,1),(1,1),(2,1),(3,1),(4,1)] [(0,d),(1,e)]) λf=>im (zC 29 [nZ,nZ,nS,nS,nS]) c λi m=>fi (gG 5 i f m) λn j=>dF 2 b j λa=>oP (fy a) λg=>Fz C Q [b,l,i,a,g,nZ] j
theorem RJ{C}(s:C.start=fV){a0 h Q}(k:C.K vV [a0] h=none)(H:Ki C Q a0 h):cP C vV [a0] h Q:=cP.vd t13 s (by unfold P0;exact Tryd.func13) k H
def t15:List (Nat×List Nat):=[]
def KL(C:fk)(Q:fo)(a0 a1:V)(h:Hp):Prop:=im (pU 29 a0) h λf g=>im (zC 29 [nZ,nZ,nS,nS,nS]) g λc d=>oP (gy 5 f d) λi=>cP C vV [i] d λj k=>oP (fR [nZ,nZ,nS,nS,nS,nS] [(0,5),(5,1)] [(0,j),(1,a1)]) λl=>im (pU 84 l) k λa m=>cP C mn [a] m λn o=>cP C j7 [a] o λb p=>fi (gG 5 c b p) λr e=>oP (gy 5 c e) λq=>Q q e
theorem QK{C}(s:C.start=fV){a0 a1 h Q}(k:C.K wh [a0,a1] h=none)(H:KL C Q a0 a1 h):cP C wh [a0,a1] h Q:=cP.vd t15 s (by unfold P0;exact Tryd.func15) k H
def t41:List (Nat×List Nat):=[(43,[0,2,38,39,40]),(175,[0,2,5,6,51,52,53]),(3886,[0,2,5,6,51,52,53]),(703,[0,2,5,9,70,71,72]),(2706623,[0,2,5,9,70,71,72,83,84,85]),(2870463,[0,2,5,9,10,11,14,15,70,71,72,97,98,99]),(1407,[0,5,9,182,183]),(15550,[0,2,5,9,70,71,72]),(63687870,[0,2,5,9,10,11,14,15,70,71,72,97,98,99]),(5754047,[0,2,5,9,11,14,15,70,71,72,134,135,136]),(366975,[0,5,9,24,182,183,190,191,192]),(46063406271,[0,2,5,9,11,14,15,20,21,70,71,72,134,135,136,152,153,154]),(127388862,[0,2,5,9,11,14,15,70,71,72,134,135,136])]
def td(C:fk)(Q:fo):LP:=JV C Tryd.f41 t41 21 [0,2,38,39,40] [] Q
def sW(C:fk)(Q:fo):LP:=JV C Tryd.f41 t41 87 [0,2,5,6,51,52,53] [] Q
def mG(C:fk)(Q:fo)(a:LP):LP:=JV C Tryd.f41 t41 1943 [0,2,5,6,51,52,53] [kf [0,2,5,6,51,52,53] a] Q
def tx(C:fk)(Q:fo):LP:=JV C Tryd.f41 t41 351 [0,2,5,9,70,71,72] [] Q
def tK(C:fk)(Q:fo)(a:LP):LP:=JV C Tryd.f41 t41 1353311 [0,2,5,9,70,71,72,83,84,85] [kf [0,2,5,9,70,71,72] a] Q
def sY(C:fk)(Q:fo)(a:LP):LP:=JV C Tryd.f41 t41 1435231 [0,2,5,9,10,11,14,15,70,71,72,97,98,99] [kf [0,2,5,9,70,71,72] a] Q
def tw(C:fk)(Q:fo):LP:=JV C Tryd.f41 t41 703 [0,5,9,182,183] [] Q
def mL(C:fk)(Q:fo)(a:LP):LP:=JV C Tryd.f41 t41 7775 [0,2,5,9,70,71,72] [kf [0,2,5,9,70,71,72] a] Q
def mF(C:fk)(Q:fo)(a:LP)(b:LP):LP:=JV C Tryd.f41 t41 31843935 [0,2,5,9,10,11,14,15,70,71,72,97,98,99] [kf [0,2,5,9,70,71,72] a,kf [0,2,5,9,10,11,14,15,70,71,72,97,98,99] b] Q
def ta(C:fk)(Q:fo)(a:LP):LP:=JV C Tryd.f41 t41 2877023 [0,2,5,9,11,14,15,70,71,72,134,135,136] [kf [0,2,5,9,70,71,72] a] Q
def sP(C:fk)(Q:fo)(a:LP):LP:=JV C Tryd.f41 t41 183487 [0,5,9,24,182,183,190,191,192] [kf [0,5,9,182,183] a] Q
def ti(C:fk)(Q:fo)(a:LP)(b:LP):LP:=JV C Tryd.f41 t41 23031703135 [0,2,5,9,11,14,15,20,21,70,71,72,134,135,136,152,153,154] [kf [0,2,5,9,70,71,72] a,kf [0,2,5,9,11,14,15,70,71,72,134,135,136] b] Q
def mM(C:fk)(Q:fo)(a:LP)(b:LP):LP:=JV C Tryd.f41 t41 63694431 [0,2,5,9,11,14,15,70,71,72,134,135,136] [kf [0,2,5,9,70,71,72] a,kf [0,2,5,9,11,14,15,70,71,72,134,135,136] b] Q
def sZ(C:fk)(Q:fo)(f:LP)(m b c d a:V)(h:Hp):Prop:=bO .lss 3 a d (dX 1 c a h λg=>oP (gI 1 b g) λi=>fi (gG 1 i bT h) λp n=>oP (eo .add 3 a nO) λj=>f [m,b,c,d,j] n) (oP (fy b) λe=>im (ie 3 1 8 nZ e e) h λk o=>oP (fy b) λl=>sW C Q [m,b,k,nZ,b,l,nZ] o)
theorem Br{C Q}(I)(s:S5 I (sZ C Q)){k l h}(i:I k l h)(e:l.length=5:=by rfl):td C Q l h:=JV.l5 I _ s i e
def tD(C:fk)(Q:fo)(d:LP)(f i g j b c a:V)(h:Hp):Prop:=bO .lss 3 a c (dX 1 b a h λk=>bP k (oP (gI 1 g a) λl=>fi (gG 1 l j h) λr q=>oP (eo .add 3 j nO) λm=>mG C Q d [f,i,g,m,b,c,a] q) (mG C Q d [f,i,g,j,b,c,a] h)) (oP (ij f) λn=>oP (fH 0 n) λo=>dF 3 o h λe=>oP (fy e) λp=>tx C Q [f,i,g,nS,e,p,nZ] h)
theorem Bm{C Q}(I)(s:S7 I (tD C Q)){k l h}(i:I k l h)(e:l.length=7:=by rfl):sW C Q l h:=JV.l7 I _ s i e
def mI(C:fk)(Q:fo)(a:LP)(f g i j b c d:V)(h:Hp):Prop:=oP (eo .add 3 d nO) λe=>a [f,g,i,j,b,c,e] h
theorem ru{C Q a}:R7 (mI C Q a) (mG C Q a):=JV.r7 _
def tH(C:fk)(Q:fo)(e:LP)(l m n k c d a:V)(h:Hp):Prop:=bO .lss 3 a d (oP (gI 6 c a) λo=>oP (gy 6 o h) λp=>im (zC 41 [nS,nZ,nZ,nS,nS,nZ]) h λb t=>fi (gG 6 b p t) λu f=>dX 1 m a f λq=>bN q (dF 0 b f λg=>oP (fy g) λr=>tK C Q e [l,m,n,k,c,d,a,g,r,nZ] f) (dF 4 b f λi=>oP (fy i) λs=>sY C Q e [l,m,n,k,a,b,nS,nS,c,d,a,i,s,nZ] f)) (oP (fy k) λj=>tw C Q [l,n,k,j,nZ] h)
theorem Bh{C Q}(I)(s:S7 I (tH C Q)){k l h}(i:I k l h)(e:l.length=7:=by rfl):tx C Q l h:=JV.l7 I _ s i e
def sQ(C:fk)(Q:fo)(g:LP)(i:LP)(j o p q b c d e f a:V)(h:Hp):Prop:=bO .lss 3 a f (dX 1 e a h λk=>dN 5 j h λl=>oP (gI 1 l k) λm=>fi (gG 1 m (V.I (-1)) h) λs r=>oP (eo .add 3 a nO) λn=>i [j,o,p,q,b,c,d,e,f,n] r) (mL C Q g [j,o,p,q,b,c,d] h)
theorem A8{C Q a}(I)(s:S10 I (sQ C Q a)){k l h}(i:I k l h)(e:l.length=10:=by rfl):tK C Q a l h:=JV.l10 I _ s i e
def tJ(C:fk)(Q:fo)(i:LP)(s:LP)(N P R T j f k l m n o p q b:V)(h:Hp):Prop:=bO .lss 3 b q (dX 1 p b h λc=>dX 1 P c h λa=>oP (fQ true a) λb5=>oP (gV b5 (some N)) λt=>oP (fQ true a) λb6=>oP (gV b6 (ij t)) λu=>oP (fQ true a) λb7=>oP (gV b7 (fH 0 u)) λv=>oP (fQ true a) λb8=>oP (gV b8 (fH 3 v)) λw=>oP (fQ true a) λb9=>oP (gV b9 (ey w h)) λx=>oP (fQ true a) λU=>oP (gV U (some c)) λy=>oP (fQ true a) λW=>oP (gV W (gI 6 x y)) λz=>oP (fQ true a) λX=>oP (gV X (fH 3 z)) λA=>oP (fQ true a) λY=>oP (gV Y (ey A h)) λB=>oP (fQ true a) λZ=>oP (gV Z (some j)) λD=>oP (fQ true a) λaa=>oP (gC aa (some (jO,[B,D]))) λab=>xd C ab h λE h1=>oP (l0 a E bF) λF=>bP F (xR (ji 3 1 1 nZ [(0,b)]) h1 λo2 G S=>oP (gI 1 R c) λd=>oP (ey d S) λe=>xR (ji 3 1 1 nZ [(0,e)]) S λr H I=>((I.get (S.next)=some r/\O.beq r r=true)/\((ey d I=some e)/\((I.get (h1.next)=some o2/\O.beq o2 o2=true)/\fi (eQ 3 1 8 k G I) λJ K=>(I.next<=K.next/\((K.get (S.next)=some r/\O.beq r r=true)/\((ey d K=some e)/\fi (eQ 3 1 8 l H K) λL h5=>(K.next<=h5.next/\mF C Q i s [N,P,R,T,j,f,J,L,m,n,o,p,q,b] h5)))))))) (mF C Q i s [N,P,R,T,j,f,k,l,m,n,o,p,q,b] h1)) (dF 0 f h λg=>oP (fy g) λM=>ta C Q i [N,P,R,T,f,k,l,m,n,o,g,M,nZ] h)
theorem A1{C Q a}(I)(s:S14 I (tJ C Q a)){k l h}(i:I k l h)(e:l.length=14:=by rfl):sY C Q a l h:=JV.l14 I _ s i e
def tI(C:fk)(Q:fo)(i:LP)(k l j b a:V)(h:Hp):Prop:=bO .lss 3 a b (dI 6 j a 3 h λc=>oP (fy c) λd=>sP C Q i [k,l,j,a,b,a,c,d,nZ] h) (oP (ij k) λe=>oP (fH 0 e) λf=>oP (fH 3 f) λg=>fi (gG 1 g j h) λn m=>Q (V.tuple []) m)
theorem AY{C Q}(I)(s:S5 I (tI C Q)){k l h}(i:I k l h)(e:l.length=5:=by rfl):tw C Q l h:=JV.l5 I _ s i e
def mN(C:fk)(Q:fo)(b:LP)(f g i j c d e:V)(h:Hp):Prop:=oP (eo .add 3 e nO) λa=>b [f,g,i,j,c,d,a] h
theorem rC{C Q a}:R7 (mN C Q a) (mL C Q a):=JV.r7 _
def km(C:fk)(Q:fo)(n:LP)(b:LP)(o p q r c d e f g i j k l m:V)(h:Hp):Prop:=oP (eo .add 3 m nO) λa=>b [o,p,q,r,c,d,e,f,g,i,j,k,l,a] h
theorem mH{C Q a b}:R14 (km C Q a b) (mF C Q a b):=JV.r14 _
def tu(C:fk)(Q:fo)(g:LP)(m:LP)(x y z A d e i j k l b c a:V)(h:Hp):Prop:=bO .lss 3 a c (dX 1 b a h λn=>oP (ij x) λo=>oP (fH 0 o) λp=>dF 2 p h λq=>oP (gI 6 q n) λf=>dN 0 f h λr=>bO .eql 3 r (V.I 21) (oP (fy e) λs=>ti C Q g m [x,y,z,A,d,e,i,f,nS,j,k,l,b,c,a,e,s,nZ] h) (mM C Q g m [x,y,z,A,d,e,i,j,k,l,b,c,a] h)) (oP (fH 4 d) λt=>fi (gG 1 t i h) λF B=>oP (gy 6 d B) λu=>im (ji 41 6 1 (V.agg [nS,nZ,nZ,nS,nS,nZ]) [(0,u)]) B λv D=>fi (eQ 41 6 96 A v D) λw E=>mL C Q g [x,y,z,w,j,k,l] E)
theorem Bc{C Q a}(I)(s:S13 I (tu C Q a)){k l h}(i:I k l h)(e:l.length=13:=by rfl):ta C Q a l h:=JV.l13 I _ s i e
def tL(C:fk)(Q:fo)(n:LP)(o:LP)(r p q f b c d e a:V)(h:Hp):Prop:=bO .lss 3 a e (dX 1 d a h λg=>dI 6 q f 3 h λi=>dX 1 p g h λj=>oP (gI 1 i a) λk=>fi (gG 1 k j h) λt s=>(h.next<=s.next/\oP (eo .add 3 a nO) λl=>o [r,p,q,f,b,c,d,e,l] s)) (oP (eo .add 3 c nO) λm=>n [r,p,q,b,m] h)
theorem Bu{C Q a}(I)(s:S9 I (tL C Q a)){k l h}(i:I k l h)(e:l.length=9:=by rfl):sP C Q a l h:=JV.l9 I _ s i e
def tq(C:fk)(Q:fo)(x:LP)(y:LP)(z:LP)(A B D E i j k g l m n o b c d e f a:V)(h:Hp):Prop:=bO .lss 3 a f (dX 1 e a h λp=>dN 4 g h λq=>dX 1 q p h λr=>im (ji 3 1 1 nZ [(0,r)]) h λs F=>fi (eQ 3 1 8 l s F) λt G=>oP (eo .add 3 a nO) λu=>z [A,B,D,E,i,j,k,g,t,m,n,o,b,c,d,e,f,u] G) (oP (ij g) λv=>oP (fH 4 v) λw=>fi (gG 1 w l h) λI H=>mM C Q x y [A,B,D,E,i,j,k,m,n,o,b,c,d] H)
theorem Bj{C Q a b}(I)(s:S18 I (tq C Q a b)){k l h}(i:I k l h)(e:l.length=18:=by rfl):ti C Q a b l h:=JV.l18 I _ s i e
def mD(C:fk)(Q:fo)(m:LP)(e:LP)(n o p q f g i j k l a b c:V)(h:Hp):Prop:=oP (eo .add 3 c nO) λd=>e [n,o,p,q,f,g,i,j,k,l,a,b,d] h
theorem rQ{C Q a b}:R13 (mD C Q a b) (mM C Q a b):=JV.r13 _
def wF(C:fk)(Q:fo)(a0:V)(h:Hp):Prop:=oP (ij a0) λc=>oP (fH 0 c) λd=>dG 3 d h λa=>im (ie 4 1 1 bF a a) h λe k=>oP (ij a0) λf=>oP (fH 0 f) λg=>oP (gy 5 g k) λi=>cP C nz [i] k λb l=>oP (fy b) λj=>td C Q [a0,e,b,j,nZ] l
theorem Dd{C}(s:C.start=fV){a0 h Q}(k:C.K mn [a0] h=none)(H:wF C Q a0 h):cP C mn [a0] h Q:=cP.vd t41 s (by unfold P0;exact Tryd.func41) k H
def t66:List (Nat×List Nat):=[(43,[0,1,5])]
def vI(C:fk)(Q:fo):LP:=JV C Tryd.f66 t66 21 [0,1,5] [] Q
def vD(C:fk)(Q:fo)(c:LP)(a b z:V)(h:Hp):Prop:=dN 5 a h λA=>dX 1 A b h λd=>oP (eo .geq 3 d nZ) λe=>oP (jz e (oB (some a) λf=>oB (ij f) λg=>oB (fH 5 g) λi=>oB (ey i h) λj=>oB (some b) λk=>oB (gI 1 j k) λl=>oB (ey l h) λm=>oB (some b) λn=>eo .neq 3 m n)) λo=>oP (jz o (oB (some z) λp=>oB (some a) λq=>oB (ij q) λr=>oB (fH 5 r) λs=>oB (ey s h) λt=>oB (fy t) λu=>eo .leq 3 p u)) λv=>bP v (dN 5 a h λw=>dX 1 w b h λx=>oP (eo .add 3 z nO) λy=>c [a,x,y] h) (Q b h)
theorem CT{C Q}(I)(s:S3 I (vD C Q)){k l h}(i:I k l h)(e:l.length=3:=by rfl):vI C Q l h:=JV.l3 I _ s i e
def yX(C:fk)(Q:fo)(a0 a1:V)(h:Hp):Prop:=vI C Q [a0,a1,nZ] h
theorem FN{C}(s:C.start=fV){a0 a1 h Q}(k:C.K iM [a0,a1] h=none)(H:yX C Q a0 a1 h):cP C iM [a0,a1] h Q:=cP.vd t66 s (by unfold P0;exact Tryd.func66) k H
def t42:List (Nat×List Nat):=[(351,[1,2,3,4,5,41,42]),(353887,[1,2,3,4,5,6,7,41,42,53,54,55]),(5631,[1,2,3,4,11,12,96,97,98]),(7956062,[1,2,3,4,5,6,7,41,42,53,54,55]),(1992190,[1,2,3,4,11,12,15,96,97,98]),(11263,[1,2,3,4,12,165,166,167]),(4089342,[1,2,3,4,11,12,15,96,97,98]),(1887230,[1,2,3,4,12,17,165,166,167]),(8283646,[1,2,3,4,11,12,15,96,97,98]),(16672254,[1,2,3,4,11,12,15,96,97,98])]
def rJ(C:fk)(Q:fo):LP:=JV C Tryd.f42 t42 175 [1,2,3,4,5,41,42] [] Q
def rA(C:fk)(Q:fo)(a:LP):LP:=JV C Tryd.f42 t42 176943 [1,2,3,4,5,6,7,41,42,53,54,55] [kf [1,2,3,4,5,41,42] a] Q
def ku(C:fk)(Q:fo):LP:=JV C Tryd.f42 t42 2815 [1,2,3,4,11,12,96,97,98] [] Q
def mb(C:fk)(Q:fo)(a:LP)(b:LP):LP:=JV C Tryd.f42 t42 3978031 [1,2,3,4,5,6,7,41,42,53,54,55] [kf [1,2,3,4,5,41,42] a,kf [1,2,3,4,5,6,7,41,42,53,54,55] b] Q
def jP(C:fk)(Q:fo)(a:LP):LP:=JV C Tryd.f42 t42 996095 [1,2,3,4,11,12,15,96,97,98] [kf [1,2,3,4,11,12,96,97,98] a] Q
def ki(C:fk)(Q:fo):LP:=JV C Tryd.f42 t42 5631 [1,2,3,4,12,165,166,167] [] Q
def jR(C:fk)(Q:fo)(a:LP):LP:=JV C Tryd.f42 t42 2044671 [1,2,3,4,11,12,15,96,97,98] [kf [1,2,3,4,11,12,96,97,98] a] Q
def iX(C:fk)(Q:fo)(a:LP):LP:=JV C Tryd.f42 t42 943615 [1,2,3,4,12,17,165,166,167] [kf [1,2,3,4,12,165,166,167] a] Q
def jS(C:fk)(Q:fo)(a:LP):LP:=JV C Tryd.f42 t42 4141823 [1,2,3,4,11,12,15,96,97,98] [kf [1,2,3,4,11,12,96,97,98] a] Q
def jT(C:fk)(Q:fo)(a:LP):LP:=JV C Tryd.f42 t42 8336127 [1,2,3,4,11,12,15,96,97,98] [kf [1,2,3,4,11,12,96,97,98] a] Q
def rL(C:fk)(Q:fo)(g:LP)(c s i j k d a:V)(h:Hp):Prop:=bO .lss 3 a d (oP (ey c h) λm=>oP (ij m) λn=>oP (fH 0 n) λo=>dJ 3 o 6 a 0 h λe=>oP (fy e) λp=>rA C Q g [c,s,i,j,k,a,nS,d,a,e,p,nZ] h) (im (some (.map [] 0,λl=> .map l)) h λq u=>im (zC 96 [V.kY]) u λf v=>fi (gG 1 f q v) λz w=>im (zC 97 [V.nilFunc]) w λb x=>fi (gG 1 b (V.func hX [] [j,c]) x) λt y=>oP (fy k) λr=>ku C Q [c,s,i,j,b,(V.func fE [] [f,i,c,b]),k,r,nZ] y)
theorem Av{C Q}(I)(s:S7 I (rL C Q)){k l h}(i:I k l h)(e:l.length=7:=by rfl):rJ C Q l h:=JV.l7 I _ s i e
def rB(C:fk)(Q:fo)(c:LP)(i:LP)(j m n l k o p d e f g a:V)(h:Hp):Prop:=bO .lss 3 a g (dX 1 f a h λb=>oP (ey j h) λq=>dN 5 q h λr=>dX 1 r b h λs=>bO .eql 3 s b (oP (ey l h) λt=>oP (fy k) λu=>oP (gI 1 t b) λv=>fi (gG 1 v u h) λR K=>oP (fy k) λw=>im (ji 3 1 1 nZ [(0,w)]) K λx L=>fi (eQ 3 1 8 p x L) λy M=>im (ji 3 1 1 nZ [(0,b)]) M λz N=>fi (eQ 3 1 8 k z N) λA O=>mb C Q c i [j,m,n,l,A,o,y,d,e,f,g,a] O) (mb C Q c i [j,m,n,l,k,o,p,d,e,f,g,a] h)) (oP (ey j h) λB=>oP (ij B) λD=>oP (fH 0 D) λE=>dF 3 E h λF=>oP (gI 6 F o) λG=>oP (fH 0 G) λH=>fi (gG 1 H p h) λJ P=>oP (eo .add 3 e nO) λI=>c [j,m,n,l,k,d,I] P)
theorem Af{C Q a}(I)(s:S12 I (rB C Q a)){k l h}(i:I k l h)(e:l.length=12:=by rfl):rA C Q a l h:=JV.l12 I _ s i e
def rO(C:fk)(Q:fo)(k:LP)(i H I l m e f g b:V)(h:Hp):Prop:=bO .lss 3 b g (dX 1 f b h λn=>oP (ey i h) λo=>oP (ij o) λp=>oP (fH 0 p) λq=>dF 2 q h λr=>oP (gI 6 r n) λs=>oP (gy 6 s h) λt=>im (zC 38 [nZ,nZ,nZ,nZ,nS,nZ]) h λa M=>fi (gG 6 a t M) λN J=>dF 0 a J λu=>cP C te [u] J λv j=>bO .gtr 3 v nZ (oP (ey l j) λc=>oP (ey i j) λw=>dF 1 a j λx=>cP C iM [w,x] j λy z=>(j.next<=z.next/\dX 1 c y z λA=>oP (fH 1 a) λB=>((ey l z=some c)/\fi (gG 1 B A z) λK L=>(z.next<=L.next/\jP C Q k [i,H,I,l,m,e,a,f,g,b] L)))) (jP C Q k [i,H,I,l,m,e,a,f,g,b] j)) (oP (ey i h) λD=>oP (ij D) λE=>oP (fH 0 E) λF=>dF 3 F h λd=>oP (fy d) λG=>ki C Q [i,H,I,l,e,d,G,nZ] h)
theorem Aq{C Q}(I)(s:S9 I (rO C Q)){k l h}(i:I k l h)(e:l.length=9:=by rfl):ku C Q l h:=JV.l9 I _ s i e
def me(C:fk)(Q:fo)(i:LP)(a:LP)(j k l m n o p b c d e f:V)(h:Hp):Prop:=oP (eo .add 3 f nO) λg=>a [j,k,l,m,n,o,p,b,c,d,e,g] h
theorem qL{C Q a b}:ZH (me C Q a b) (mb C Q a b):=JV.r12 _
def qX(C:fk)(Q:fo)(d:LP)(t u v s e f a g i j:V)(h:Hp):Prop:=dF 0 a h λk=>cP C te [k] h λl c=>bO .gtr 3 l nO (oP (ey s c) λb=>oP (ey t c) λm=>dF 2 a c λn=>cP C iM [m,n] c λo p=>(c.next<=p.next/\dX 1 b o p λq=>oP (fH 2 a) λr=>((ey s p=some b)/\fi (gG 1 r q p) λx w=>(p.next<=w.next/\jR C Q d [t,u,v,s,e,f,a,g,i,j] w)))) (jR C Q d [t,u,v,s,e,f,a,g,i,j] c)
theorem zF{C Q a}:CB (qX C Q a) (jP C Q a):=JV.r10 _
def rX(C:fk)(Q:fo)(j:LP)(y k z l e c d b:V)(h:Hp):Prop:=bO .lss 3 b d (oP (gI 6 c b) λm=>oP (gy 6 m h) λn=>im (zC 41 [nS,nZ,nZ,nS,nS,nZ]) h λa G=>fi (gG 6 a n G) λJ f=>dF 1 a f λg=>bO .eql 3 g (V.I 2) (oP (ey l f) λi=>oP (ey y f) λo=>dF 2 a f λp=>cP C iM [o,p] f λq r=>(f.next<=r.next/\dX 1 i q r λs=>oP (fH 2 a) λt=>((ey l r=some i)/\fi (gG 1 t s r) λA B=>(r.next<=B.next/\iX C Q j [y,k,z,l,e,a,c,d,b] B)))) (bO .eql 3 g (V.I 3) (dF 5 a f λu=>gP C (fU e [u]) f λv H=>oP (fH 5 a) λw=>fi (gG 1 w v H) λD I=>iX C Q j [y,k,z,l,e,a,c,d,b] I) (iX C Q j [y,k,z,l,e,a,c,d,b] f))) (oP (gy 5 z h) λx=>fi (gG 5 k x h) λE F=>oP (gy 5 k F) λr2=>Q r2 F)
theorem Ab{C Q}(I)(s:S8 I (rX C Q)){k l h}(i:I k l h)(e:l.length=8:=by rfl):ki C Q l h:=JV.l8 I _ s i e
def qH(C:fk)(Q:fo)(c:LP)(p q r s b d a e f g:V)(h:Hp):Prop:=dF 0 a h λi=>oP (eo .eql 3 i (V.I 21)) λj=>oP (om j (oB (fH 0 a) λk=>oB (ey k h) λl=>eo .eql 3 l (V.I 20))) λm=>bP m (oP (ey b h) λn=>dF 4 a h λo=>gP C (fU n [o]) h λt u=>jS C Q c [p,q,r,s,b,d,a,e,f,g] u) (jS C Q c [p,q,r,s,b,d,a,e,f,g] h)
theorem zj{C Q a}:CB (qH C Q a) (jR C Q a):=JV.r10 _
def qK(C:fk)(Q:fo)(k:LP)(o p l q m n a b c:V)(h:Hp):Prop:=dF 3 l h λd=>oP (gy 6 n h) λe=>im (ji 41 6 1 (V.agg [nS,nZ,nZ,nS,nS,nZ]) [(0,e)]) h λf r=>fi (eQ 41 6 96 d f r) λg s=>oP (fH 3 l) λi=>fi (gG 1 i g s) λu t=>oP (eo .add 3 c nO) λj=>k [o,p,l,q,m,a,b,j] t
theorem zf{C Q a}:R9 (qK C Q a) (iX C Q a):=JV.r9 _
def qb(C:fk)(Q:fo)(c:LP)(o p q r d b a e f g:V)(h:Hp):Prop:=dF 0 a h λi=>cP C nU [i] h λj n=>bP j (dF 5 a n λk=>gP C (fU b [k]) n λl s=>oP (fH 5 a) λm=>fi (gG 1 m l s) λu t=>jT C Q c [o,p,q,r,d,b,a,e,f,g] t) (jT C Q c [o,p,q,r,d,b,a,e,f,g] n)
theorem zs{C Q a}:CB (qb C Q a) (jS C Q a):=JV.r10 _
def qy(C:fk)(Q:fo)(g:LP)(p q i r j k l m n o:V)(h:Hp):Prop:=dF 2 i h λa=>oP (gy 6 l h) λb=>im (ji 38 6 1 (V.agg [nZ,nZ,nZ,nZ,nS,nZ]) [(0,b)]) h λc s=>fi (eQ 38 6 64 a c s) λd t=>oP (fH 2 i) λe=>fi (gG 1 e d t) λv u=>oP (eo .add 3 o nO) λf=>g [p,q,i,r,j,k,m,n,f] u
theorem yZ{C Q a}:CB (qy C Q a) (jT C Q a):=JV.r10 _
def vO(C:fk)(Q:fo)(a0:V)(h:Hp):Prop:=im (pU 82 a0) h λa F=>im (zC 29 [nZ,nZ,nS,nS,nS]) F λG d=>oP (ey a d) λe=>oP (ij e) λn=>oP (fH 0 n) λo=>oP (fH 0 o) λf=>oP (ey f d) λg=>oP (ey a d) λi=>oP (ij i) λp=>oP (fH 0 p) λq=>oP (fH 1 q) λj=>oP (ey j d) λk=>oP (fR [nZ,nZ,nS,nS,nS] [(0,1),(1,1),(2,1),(3,1),(4,1)] [(0,g),(1,k)]) λr=>xR (zC 29 [nZ,nZ,nS,nS,nS]) d λb B c=>((c.get (d.next)=some b/\O.beq b b=true)/\((ey j c=some k)/\((ey a c=some i)/\((ey f c=some g)/\((ey a c=some e)/\fi (gG 5 B r c) λJ m=>(c.next<=m.next/\oP (ey a m) λs=>oP (ij s) λt=>oP (fH 0 t) λu=>dG 2 u m λl=>im (ie 3 1 8 nZ l l) m λv H=>im (zC 22 [nS]) H λD I=>fi (gG 1 D v I) λE w=>oP (ey a w) λx=>oP (ij x) λy=>oP (fH 0 y) λz=>dG 3 z w λA=>rJ C Q [a,G,B,D,nS,A,nZ] w))))))
theorem CZ{C}(s:C.start=fV){a0 h Q}(k:C.K j7 [a0] h=none)(H:vO C Q a0 h):cP C j7 [a0] h Q:=cP.vd t42 s (by unfold P0;exact Tryd.func42) k H
def t65:List (Nat×List Nat):=[(11,[0,1,2,6,7,8])]
def pR(C:fk)(Q:fo):LP:=JV C Tryd.f65 t65 5 [0,1,2,6,7,8] [] Q
def pQ(C:fk)(Q:fo)(d:LP)(m e n o p c:V)(h:Hp):Prop:=bO .lss 3 c p (dX 1 o c h λf=>oP (ey e h) λa=>oP (ey n h) λg=>cP C iM [g,f] h λi b=>(h.next<=b.next/\dX 1 a i b λj=>oP (gI 1 m c) λk=>((ey e b=some a)/\fi (gG 1 k j b) λr q=>(b.next<=q.next/\oP (eo .add 3 c nO) λl=>d [m,e,n,o,p,l] q)))) (Q (V.tuple []) h)
theorem yK{C Q}(I)(s:S6 I (pQ C Q)){k l h}(i:I k l h)(e:l.length=6:=by rfl):pR C Q l h:=JV.l6 I _ s i e
def th(C:fk)(Q:fo)(a0 a1 a2:V)(h:Hp):Prop:=oP (fy a0) λa=>pR C Q [a0,a1,a2,a0,a,nZ] h
theorem A9{C}(s:C.start=fV){a0 a1 a2 h Q}(k:C.K hX [a0,a1,a2] h=none)(H:th C Q a0 a1 a2 h):cP C hX [a0,a1,a2] h Q:=cP.vd t65 s (by unfold P0;exact Tryd.func65) k H
def t67:List (Nat×List Nat):=[(2775,[0,2,3,4,7,33,34,35]),(30,[7])]
def pt(C:fk)(Q:fo):LP:=JV C Tryd.f67 t67 1387 [0,2,3,4,7,33,34,35] [] Q
def lV(C:fk)(Q:fo):LP:=JV C Tryd.f67 t67 15 [7] [] Q
def pA(C:fk)(Q:fo)(o:LP)(I p q r J e f a:V)(h:Hp):Prop:=bO .lss 3 a f (oP (gI 4 e a) λs=>oP (gy 4 s h) λt=>im (zC 47 [nZ,nZ,nS,nS]) h λb M=>fi (gG 4 b t M) λS u=>oP (ey r u) λv=>dF 2 b u λw=>gP C (fU v [w]) u λN x=>oP (ey r x) λy=>dF 3 b x λz=>gP C (fU y [z]) x λP R=>oP (eo .add 3 a nO) λA=>o [I,p,q,r,J,e,f,A] R) (oP (fH 4 p) λg=>oP (ey g h) λi=>oP (ey q h) λj=>oP (ij j) λB=>oP (fH 0 B) λD=>oP (fH 4 D) λk=>oP (ey k h) λl=>oP (gI 1 l I) λm=>oP (gy 1 m h) λn=>xR (ji 50 1 1 (V.agg [nS]) [(0,n)]) h λc E d=>((d.get (h.next)=some c/\O.beq c c=true)/\((gy 1 m d=some n)/\((ey k d=some l)/\((ey q d=some j)/\((ey g d=some i)/\fi (eQ 50 1 24 i E d) λF G=>(d.next<=G.next/\oP (fH 4 p) λH=>fi (gG 1 H F G) λK L=>(G.next<=L.next/\lV C Q [J] L))))))))
theorem yq{C Q}(I)(s:S8 I (pA C Q)){k l h}(i:I k l h)(e:l.length=8:=by rfl):pt C Q l h:=JV.l8 I _ s i e
def lU(C:fk)(Q:fo)(a:V)(h:Hp):Prop:=Q a h
theorem pz{C Q}:R1 (lU C Q) (lV C Q):=JV.r1 _
def tB(C:fk)(Q:fo)(a0 a1 a2 a3 n:V)(h:Hp):Prop:=oP (ey a1 h) λd=>oP (RU 3 none nZ true d a0 h) λa=>oP (FG 0 a) λe=>oP (FG 1 a) λf=>bN f (dG 4 a2 h λb=>oP (ey a1 h) λg=>fi (LY 3 none g a0 b h) λo i=>oP (ey a3 i) λj=>oP (ij j) λk=>oP (fH 0 k) λl=>dJ 4 l 1 a0 0 i λc=>oP (fy c) λm=>pt C Q [a0,a2,a3,n,b,c,m,nZ] i) (lV C Q [e] h)
theorem AN{C}(s:C.start=fV){a0 a1 a2 a3 a h Q}(k:C.K fE [a0,a1,a2,a3,a] h=none)(H:tB C Q a0 a1 a2 a3 a h):cP C fE [a0,a1,a2,a3,a] h Q:=cP.vd t67 s (by unfold P0;exact Tryd.func67) k H
def t16:List (Nat×List Nat):=[(87,[3,10,11])]
def E8(C:fk)(Q:fo):LP:=JV C Tryd.f16 t16 43 [3,10,11] [] Q
def Fx(C:fk)(Q:fo)(c:LP)(d b a:V)(h:Hp):Prop:=bO .lss 3 a b (oP (gI 1 d a) λe=>fi (gG 1 e a h) λi g=>oP (eo .add 3 a nO) λf=>c [d,b,f] g) (Q d h)
theorem L6{C Q}(I)(s:S3 I (Fx C Q)){k l h}(i:I k l h)(e:l.length=3:=by rfl):E8 C Q l h:=JV.l3 I _ s i e
def Kc(C:fk)(Q:fo)(a0:V)(h:Hp):Prop:=im (pU 29 a0) h λe b=>dG 2 e b λc=>im (ie 3 1 8 nZ c c) b λd f=>oP (fy d) λa=>E8 C Q [d,a,nZ] f
theorem RC{C}(s:C.start=fV){a0 h Q}(k:C.K yv [a0] h=none)(H:Kc C Q a0 h):cP C yv [a0] h Q:=cP.vd t16 s (by unfold P0;exact Tryd.func16) k H
def t64:List (Nat×List Nat):=[]
def qY(C:fk)(Q:fo)(a0 a1:V)(h:Hp):Prop:=cP C nT [a0,a1] h λa b=>oP (eo .geq 3 a nZ) λc=>Q c b
theorem zB{C}(s:C.start=fV){a0 a1 h Q}(k:C.K jO [a0,a1] h=none)(H:qY C Q a0 a1 h):cP C jO [a0,a1] h Q:=cP.vd t64 s (by unfold P0;exact Tryd.func64) k H
def t76:List (Nat×List Nat):=[(43,[0,1,7,8])]
def qt(C:fk)(Q:fo):LP:=JV C Tryd.f76 t76 21 [0,1,7,8] [] Q
def qJ(C:fk)(Q:fo)(b:LP)(e f g a:V)(h:Hp):Prop:=bO .lss 3 a g (dX 1 e a h λc=>bO .eql 3 f c (Q a h) (oP (eo .add 3 a nO) λd=>b [e,f,g,d] h)) (Q (V.I (-1)) h)
theorem zu{C Q}(I)(s:S4 I (qJ C Q)){k l h}(i:I k l h)(e:l.length=4:=by rfl):qt C Q l h:=JV.l4 I _ s i e
def uA(C:fk)(Q:fo)(a0 a1:V)(h:Hp):Prop:=oP (fy a0) λa=>qt C Q [a0,a1,a,nZ] h
theorem BK{C}(s:C.start=fV){a0 a1 h Q}(k:C.K nT [a0,a1] h=none)(H:uA C Q a0 a1 h):cP C nT [a0,a1] h Q:=cP.vd t76 s (by unfold P0;exact Tryd.func76) k H
end
