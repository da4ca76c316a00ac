/- Parts. -/
import Derived.Test.YtpfjdlicdljhaaaDoorM14
set_option maxHeartbeats 4000000
namespace Go.Proofs.YtpfjdlicdljhaaaDoor.Hx
set_option maxRecDepth 100000
noncomputable section
def t13:List (Nat×List Nat):=[(87,[1,2,3,19,20,21]),(175,[1,2,3,38,39,40]),(351,[2,3,67,68,69]),(353887,[2,3,10,67,68,69,74,75,76])]
def Bt(C:dc)(Q:dg):LP:=JV C Tryd.f13 t13 43 [1,2,3,19,20,21] [] Q
def BE(C:dc)(Q:dg):LP:=JV C Tryd.f13 t13 87 [1,2,3,38,39,40] [] Q
def BA(C:dc)(Q:dg):LP:=JV C Tryd.f13 t13 175 [2,3,67,68,69] [] Q
def BP(C:dc)(Q:dg)(a:LP):LP:=JV C Tryd.f13 t13 176943 [2,3,10,67,68,69,74,75,76] [kf [2,3,67,68,69] a] Q
def BF(C:dc)(Q:dg)(g:LP)(i x e b c a:V)(h:Hp):Prop:=bO .lss 3 a c (oP (eX 6 b a) λj=>oP (eg 6 j h) λk=>gJ (zC 38 [nZ,nZ,nZ,nZ,nS,nZ]) h λf B=>dz (fk 6 f k B) λI D=>gJ (oX 3 1 0 nZ []) D λl y=>dF 4 f y λm=>dz (c9 3 1 8 l m y) λn E=>oP (dE 4 f) λo=>dz (fk 1 o n E) λz p=>dF 2 e p λq=>oP (eg 6 f p) λr=>gJ (oX 38 6 1 (V.agg [nZ,nZ,nZ,nZ,nS,nZ]) [(0,r)]) p λs F=>dz (c9 38 6 64 q s F) λt G=>oP (dE 2 e) λu=>dz (fk 1 u t G) λA H=>oP (cX .add 3 a nO) λv=>g [i,x,e,b,c,v] H) (dF 3 i h λd=>oP (dD d) λw=>BE C Q [i,x,e,d,w,nZ] h)
theorem Hw{C Q}(I)(s:S6 I (BF C Q)){k l h}(i:I k l h)(e:l.length=6:=by rfl):Bt C Q l h:=JV.l6 I _ s i e
def Bu(C:dc)(Q:dg)(w:LP)(Z x2 u n o e:V)(h:Hp):Prop:=bO .lss 3 e o (oP (eX 6 n e) λx=>oP (eg 6 x h) λy=>gJ (zC 41 [nS,nZ,nZ,nS,nS,nZ]) h λc h1=>dz (fk 6 c y h1) λvu h2=>E0 (oX 3 1 0 nZ []) h2 λz A v=>oP (dE 0 c) λp=>oP (df p v) λq=>E0 (oX 3 1 0 nZ []) v λm B r=>oP (dE 3 c) λf=>oP (df f r) λg=>E0 (oX 3 1 0 nZ []) r λa D d=>oP (dE 4 c) λi=>oP (df i d) λj=>((d.get (r.next)=some a/\O.beq a a=true)/\((df f d=some g)/\((d.get (v.next)=some m/\O.beq m m=true)/\((df p d=some q)/\((d.get (h2.next)=some z/\O.beq z z=true)/\dz (c9 3 1 8 A q d) λE k=>(d.next<=k.next/\oP (dE 0 c) λF=>((df i k=some j)/\((k.get (r.next)=some a/\O.beq a a=true)/\((df f k=some g)/\((k.get (v.next)=some m/\O.beq m m=true)/\dz (c9 3 1 8 B g k) λG s=>(k.next<=s.next/\((df i s=some j)/\((s.get (r.next)=some a/\O.beq a a=true)/\dz (c9 3 1 8 D j s) λH I=>(s.next<=I.next/\dz (fk 1 F E I) λaa J=>(I.next<=J.next/\oP (dE 3 c) λK=>dz (fk 1 K G J) λab l=>(J.next<=l.next/\oP (dE 4 c) λL=>dz (fk 1 L H l) λac b=>(l.next<=b.next/\dF 3 u b λM=>oP (eg 6 c b) λN=>gJ (oX 41 6 1 (V.agg [nS,nZ,nZ,nS,nS,nZ]) [(0,N)]) b λP R=>dz (c9 41 6 96 M P R) λS T=>oP (dE 3 u) λU=>dz (fk 1 U S T) λae W=>oP (cX .add 3 e nO) λX=>w [Z,x2,u,n,o,X] W)))))))))))))))))) (dF 4 Z h λt=>oP (dD t) λY=>BA C Q [x2,u,t,Y,nZ] h)
theorem HO{C Q}(I)(s:S6 I (Bu C Q)){k l h}(i:I k l h)(e:l.length=6:=by rfl):BE C Q l h:=JV.l6 I _ s i e
def BK(C:dc)(Q:dg)(f:LP)(g m b c a:V)(h:Hp):Prop:=bO .lss 3 a c (oP (eX 1 b a) λi=>oP (eg 1 i h) λj=>gJ (zC 50 [nS]) h λn r=>dz (fk 1 n j r) λu s=>gJ (zC 50 [nS]) s λk o=>dF 0 n o λd=>oP (dD d) λl=>BP C Q f [g,m,k,b,c,a,d,l,nZ] o) (oP (eg 5 m h) λe=>dz (fk 5 g e h) λp q=>oP (eg 5 g q) λt=>Q t q)
theorem HL{C Q}(I)(s:S5 I (BK C Q)){k l h}(i:I k l h)(e:l.length=5:=by rfl):BA C Q l h:=JV.l5 I _ s i e
def BD(C:dc)(Q:dg)(x:LP)(y:LP)(x2 u b f g i j k c:V)(h:Hp):Prop:=bO .lss 3 c k (oP (eX 4 j c) λz=>oP (eg 4 z h) λA=>gJ (zC 47 [nZ,nZ,nS,nS]) h λa h1=>dz (fk 4 a A h1) λvu h2=>E0 (oX 3 1 0 nZ []) h2 λB D v=>oP (dE 2 a) λl=>oP (df l v) λm=>E0 (oX 3 1 0 nZ []) v λd E e=>oP (dE 3 a) λn=>oP (df n e) λo=>((e.get (v.next)=some d/\O.beq d d=true)/\((df l e=some m)/\((e.get (h2.next)=some B/\O.beq B B=true)/\dz (c9 3 1 8 D m e) λF p=>(e.next<=p.next/\oP (dE 2 a) λG=>((df n p=some o)/\((p.get (v.next)=some d/\O.beq d d=true)/\dz (c9 3 1 8 E o p) λH I=>(p.next<=I.next/\dz (fk 1 G F I) λab J=>(I.next<=J.next/\oP (dE 3 a) λK=>dz (fk 1 K H J) λac w=>(J.next<=w.next/\dF 0 b w λL=>oP (eg 4 a w) λM=>gJ (oX 47 4 1 (V.agg [nZ,nZ,nS,nS]) [(0,M)]) w λN h9=>dz (c9 47 4 64 L N h9) λP R=>oP (dE 0 b) λS=>dz (fk 1 S P R) λae T=>oP (cX .add 3 c nO) λU=>y [x2,u,b,f,g,i,j,k,U] T)))))))))) (dF 4 u h λW=>oP (eg 1 b h) λX=>gJ (oX 50 1 1 (V.agg [nS]) [(0,X)]) h λq Y=>dz (c9 50 1 24 W q Y) λr Z=>oP (dE 4 u) λs=>dz (fk 1 s r Z) λag aa=>oP (cX .add 3 i nO) λt=>x [x2,u,f,g,t] aa)
theorem Ia{C Q a}(I)(s:S9 I (BD C Q a)){k l h}(i:I k l h)(e:l.length=9:=by rfl):BP C Q a l h:=JV.l9 I _ s i e
def GG(C:dc)(Q:dg)(a0:V)(h:Hp):Prop:=gJ (qd 29 a0) h λb k=>gJ (zC 29 [nZ,nZ,nS,nS,nS]) k λl c=>dF 0 b c λd=>dF 1 b c λe=>oP (nH [nZ,nZ,nS,nS,nS] [(0,1),(1,1),(2,1),(3,1),(4,1)] [(0,d),(1,e)]) λf=>gJ (zC 29 [nZ,nZ,nS,nS,nS]) c λi m=>dz (fk 5 i f m) λn j=>dF 2 b j λa=>oP (dD a) λg=>Bt C Q [b,l,i,a,g,nZ] j
theorem M6{C}(s:C.start=dH){a0 h Q}(k:C.K rZ [a0] h=none)(H:GG C Q a0 h):cP C rZ [a0] h Q:=cP.vd t13 s (by unfold P0;exact Tryd.func13) k H
def t15:List (Nat×List Nat):=[]
def GM(C:dc)(Q:dg)(a0 a1:V)(h:Hp):Prop:=gJ (qd 29 a0) h λf g=>gJ (zC 29 [nZ,nZ,nS,nS,nS]) g λc d=>oP (eg 5 f d) λi=>cP C rZ [i] d λj k=>oP (nH [nZ,nZ,nS,nS,nS,nS] [(0,5),(5,1)] [(0,j),(1,a1)]) λl=>gJ (qd 84 l) k λa m=>cP C jH [a] m λn o=>cP C hH [a] o λb p=>dz (fk 5 c b p) λr e=>oP (eg 5 c e) λq=>Q q e
theorem M0{C}(s:C.start=dH){a0 a1 h Q}(k:C.K rY [a0,a1] h=none)(H:GM C Q a0 a1 h):cP C rY [a0,a1] h Q:=cP.vd t15 s (by unfold P0;exact Tryd.func15) k H
def t41:List (Nat×List Nat):=[(43,[0,2,38,39,40]),(175,[0,2,5,6,51,52,53]),(3886,[0,2,5,6,51,52,53]),(703,[0,2,5,9,70,71,72]),(2706623,[0,2,5,9,70,71,72,83,84,85]),(2870463,[0,2,5,9,10,11,14,15,70,71,72,97,98,99]),(1407,[0,5,9,182,183]),(15550,[0,2,5,9,70,71,72]),(63687870,[0,2,5,9,10,11,14,15,70,71,72,97,98,99]),(5754047,[0,2,5,9,11,14,15,70,71,72,134,135,136]),(366975,[0,5,9,24,182,183,190,191,192]),(46063406271,[0,2,5,9,11,14,15,20,21,70,71,72,134,135,136,152,153,154]),(127388862,[0,2,5,9,11,14,15,70,71,72,134,135,136])]
def pG(C:dc)(Q:dg):LP:=JV C Tryd.f41 t41 21 [0,2,38,39,40] [] Q
def p9(C:dc)(Q:dg):LP:=JV C Tryd.f41 t41 87 [0,2,5,6,51,52,53] [] Q
def jO(C:dc)(Q:dg)(a:LP):LP:=JV C Tryd.f41 t41 1943 [0,2,5,6,51,52,53] [kf [0,2,5,6,51,52,53] a] Q
def pz(C:dc)(Q:dg):LP:=JV C Tryd.f41 t41 351 [0,2,5,9,70,71,72] [] Q
def qc(C:dc)(Q:dg)(a:LP):LP:=JV C Tryd.f41 t41 1353311 [0,2,5,9,70,71,72,83,84,85] [kf [0,2,5,9,70,71,72] a] Q
def pH(C:dc)(Q:dg)(a:LP):LP:=JV C Tryd.f41 t41 1435231 [0,2,5,9,10,11,14,15,70,71,72,97,98,99] [kf [0,2,5,9,70,71,72] a] Q
def pW(C:dc)(Q:dg):LP:=JV C Tryd.f41 t41 703 [0,5,9,182,183] [] Q
def jQ(C:dc)(Q:dg)(a:LP):LP:=JV C Tryd.f41 t41 7775 [0,2,5,9,70,71,72] [kf [0,2,5,9,70,71,72] a] Q
def jP(C:dc)(Q:dg)(a:LP)(b:LP):LP:=JV C Tryd.f41 t41 31843935 [0,2,5,9,10,11,14,15,70,71,72,97,98,99] [kf [0,2,5,9,70,71,72] a,kf [0,2,5,9,10,11,14,15,70,71,72,97,98,99] b] Q
def qa(C:dc)(Q:dg)(a:LP):LP:=JV C Tryd.f41 t41 2877023 [0,2,5,9,11,14,15,70,71,72,134,135,136] [kf [0,2,5,9,70,71,72] a] Q
def pY(C:dc)(Q:dg)(a:LP):LP:=JV C Tryd.f41 t41 183487 [0,5,9,24,182,183,190,191,192] [kf [0,5,9,182,183] a] Q
def qb(C:dc)(Q:dg)(a:LP)(b:LP):LP:=JV C Tryd.f41 t41 23031703135 [0,2,5,9,11,14,15,20,21,70,71,72,134,135,136,152,153,154] [kf [0,2,5,9,70,71,72] a,kf [0,2,5,9,11,14,15,70,71,72,134,135,136] b] Q
def jM(C:dc)(Q:dg)(a:LP)(b:LP):LP:=JV C Tryd.f41 t41 63694431 [0,2,5,9,11,14,15,70,71,72,134,135,136] [kf [0,2,5,9,70,71,72] a,kf [0,2,5,9,11,14,15,70,71,72,134,135,136] b] Q
def pJ(C:dc)(Q:dg)(f:LP)(m b c d a:V)(h:Hp):Prop:=bO .lss 3 a d (dX 1 c a h λg=>oP (eX 1 b g) λi=>dz (fk 1 i bT h) λp n=>oP (cX .add 3 a nO) λj=>f [m,b,c,d,j] n) (oP (dD b) λe=>gJ (fc 3 1 8 nZ e e) h λk o=>oP (dD b) λl=>p9 C Q [m,b,k,nZ,b,l,nZ] o)
theorem xz{C Q}(I)(s:S5 I (pJ C Q)){k l h}(i:I k l h)(e:l.length=5:=by rfl):pG C Q l h:=JV.l5 I _ s i e
def pZ(C:dc)(Q:dg)(d:LP)(f i g j b c a:V)(h:Hp):Prop:=bO .lss 3 a c (dX 1 b a h λk=>bP k (oP (eX 1 g a) λl=>dz (fk 1 l j h) λr q=>oP (cX .add 3 j nO) λm=>jO C Q d [f,i,g,m,b,c,a] q) (jO C Q d [f,i,g,j,b,c,a] h)) (oP (fe f) λn=>oP (dE 0 n) λo=>dF 3 o h λe=>oP (dD e) λp=>pz C Q [f,i,g,nS,e,p,nZ] h)
theorem ye{C Q}(I)(s:S7 I (pZ C Q)){k l h}(i:I k l h)(e:l.length=7:=by rfl):p9 C Q l h:=JV.l7 I _ s i e
def jK(C:dc)(Q:dg)(a:LP)(f g i j b c d:V)(h:Hp):Prop:=oP (cX .add 3 d nO) λe=>a [f,g,i,j,b,c,e] h
theorem oC{C Q a}:R7 (jK C Q a) (jO C Q a):=JV.r7 _
def pL(C:dc)(Q:dg)(e:LP)(l m n k c d a:V)(h:Hp):Prop:=bO .lss 3 a d (oP (eX 6 c a) λo=>oP (eg 6 o h) λp=>gJ (zC 41 [nS,nZ,nZ,nS,nS,nZ]) h λb t=>dz (fk 6 b p t) λu f=>dX 1 m a f λq=>bN q (dF 0 b f λg=>oP (dD g) λr=>qc C Q e [l,m,n,k,c,d,a,g,r,nZ] f) (dF 4 b f λi=>oP (dD i) λs=>pH C Q e [l,m,n,k,a,b,nS,nS,c,d,a,i,s,nZ] f)) (oP (dD k) λj=>pW C Q [l,n,k,j,nZ] h)
theorem xH{C Q}(I)(s:S7 I (pL C Q)){k l h}(i:I k l h)(e:l.length=7:=by rfl):pz C Q l h:=JV.l7 I _ s i e
def pT(C:dc)(Q:dg)(g:LP)(i:LP)(j o p q b c d e f a:V)(h:Hp):Prop:=bO .lss 3 a f (dX 1 e a h λk=>dN 5 j h λl=>oP (eX 1 l k) λm=>dz (fk 1 m (V.I (-1)) h) λs r=>oP (cX .add 3 a nO) λn=>i [j,o,p,q,b,c,d,e,f,n] r) (jQ C Q g [j,o,p,q,b,c,d] h)
theorem xW{C Q a}(I)(s:ZK I (pT C Q a)){k l h}(i:I k l h)(e:l.length=10:=by rfl):qc C Q a l h:=JV.VB I _ s i e
def pX(C:dc)(Q:dg)(i:LP)(s:LP)(N P R T j f k l m n o p q b:V)(h:Hp):Prop:=bO .lss 3 b q (dX 1 p b h λc=>dX 1 P c h λa=>oP (dA true a) λb5=>oP (gV b5 (some N)) λt=>oP (dA true a) λb6=>oP (gV b6 (fe t)) λu=>oP (dA true a) λb7=>oP (gV b7 (dE 0 u)) λv=>oP (dA true a) λb8=>oP (gV b8 (dE 3 v)) λw=>oP (dA true a) λb9=>oP (gV b9 (df w h)) λx=>oP (dA true a) λU=>oP (gV U (some c)) λy=>oP (dA true a) λW=>oP (gV W (eX 6 x y)) λz=>oP (dA true a) λX=>oP (gV X (dE 3 z)) λA=>oP (dA true a) λY=>oP (gV Y (df A h)) λB=>oP (dA true a) λZ=>oP (gV Z (some j)) λD=>oP (dA true a) λaa=>oP (gC aa (some (gZ,[B,D]))) λab=>tv C ab h λE h1=>oP (js a E bF) λF=>bP F (E0 (oX 3 1 1 nZ [(0,b)]) h1 λo2 G S=>oP (eX 1 R c) λd=>oP (df d S) λe=>E0 (oX 3 1 1 nZ [(0,e)]) S λr H I=>((I.get (S.next)=some r/\O.beq r r=true)/\((df d I=some e)/\((I.get (h1.next)=some o2/\O.beq o2 o2=true)/\dz (c9 3 1 8 k G I) λJ K=>(I.next<=K.next/\((K.get (S.next)=some r/\O.beq r r=true)/\((df d K=some e)/\dz (c9 3 1 8 l H K) λL h5=>(K.next<=h5.next/\jP C Q i s [N,P,R,T,j,f,J,L,m,n,o,p,q,b] h5)))))))) (jP C Q i s [N,P,R,T,j,f,k,l,m,n,o,p,q,b] h1)) (dF 0 f h λg=>oP (dD g) λM=>qa C Q i [N,P,R,T,f,k,l,m,n,o,g,M,nZ] h)
theorem xC{C Q a}(I)(s:Zw I (pX C Q a)){k l h}(i:I k l h)(e:l.length=14:=by rfl):pH C Q a l h:=JV.ZB I _ s i e
def pB(C:dc)(Q:dg)(i:LP)(k l j b a:V)(h:Hp):Prop:=bO .lss 3 a b (dI 6 j a 3 h λc=>oP (dD c) λd=>pY C Q i [k,l,j,a,b,a,c,d,nZ] h) (oP (fe k) λe=>oP (dE 0 e) λf=>oP (dE 3 f) λg=>dz (fk 1 g j h) λn m=>Q (V.tuple []) m)
theorem xG{C Q}(I)(s:S5 I (pB C Q)){k l h}(i:I k l h)(e:l.length=5:=by rfl):pW C Q l h:=JV.l5 I _ s i e
def jL(C:dc)(Q:dg)(b:LP)(f g i j c d e:V)(h:Hp):Prop:=oP (cX .add 3 e nO) λa=>b [f,g,i,j,c,d,a] h
theorem nY{C Q a}:R7 (jL C Q a) (jQ C Q a):=JV.r7 _
def ig(C:dc)(Q:dg)(n:LP)(b:LP)(o p q r c d e f g i j k l m:V)(h:Hp):Prop:=oP (cX .add 3 m nO) λa=>b [o,p,q,r,c,d,e,f,g,i,j,k,l,a] h
theorem jS{C Q a b}:Zt (ig C Q a b) (jP C Q a b):=JV.ZU _
def p8(C:dc)(Q:dg)(g:LP)(m:LP)(x y z A d e i j k l b c a:V)(h:Hp):Prop:=bO .lss 3 a c (dX 1 b a h λn=>oP (fe x) λo=>oP (dE 0 o) λp=>dF 2 p h λq=>oP (eX 6 q n) λf=>dN 0 f h λr=>bO .eql 3 r (V.I 21) (oP (dD e) λs=>qb C Q g m [x,y,z,A,d,e,i,f,nS,j,k,l,b,c,a,e,s,nZ] h) (jM C Q g m [x,y,z,A,d,e,i,j,k,l,b,c,a] h)) (oP (dE 4 d) λt=>dz (fk 1 t i h) λF B=>oP (eg 6 d B) λu=>gJ (oX 41 6 1 (V.agg [nS,nZ,nZ,nS,nS,nZ]) [(0,u)]) B λv D=>dz (c9 41 6 96 A v D) λw E=>jQ C Q g [x,y,z,w,j,k,l] E)
theorem xq{C Q a}(I)(s:ZG I (p8 C Q a)){k l h}(i:I k l h)(e:l.length=13:=by rfl):qa C Q a l h:=JV.WJ I _ s i e
def pU(C:dc)(Q:dg)(n:LP)(o:LP)(r p q f b c d e a:V)(h:Hp):Prop:=bO .lss 3 a e (dX 1 d a h λg=>dI 6 q f 3 h λi=>dX 1 p g h λj=>oP (eX 1 i a) λk=>dz (fk 1 k j h) λt s=>(h.next<=s.next/\oP (cX .add 3 a nO) λl=>o [r,p,q,f,b,c,d,e,l] s)) (oP (cX .add 3 c nO) λm=>n [r,p,q,b,m] h)
theorem xx{C Q a}(I)(s:S9 I (pU C Q a)){k l h}(i:I k l h)(e:l.length=9:=by rfl):pY C Q a l h:=JV.l9 I _ s i e
def p7(C:dc)(Q:dg)(x:LP)(y:LP)(z:LP)(A B D E i j k g l m n o b c d e f a:V)(h:Hp):Prop:=bO .lss 3 a f (dX 1 e a h λp=>dN 4 g h λq=>dX 1 q p h λr=>gJ (oX 3 1 1 nZ [(0,r)]) h λs F=>dz (c9 3 1 8 l s F) λt G=>oP (cX .add 3 a nO) λu=>z [A,B,D,E,i,j,k,g,t,m,n,o,b,c,d,e,f,u] G) (oP (fe g) λv=>oP (dE 4 v) λw=>dz (fk 1 w l h) λI H=>jM C Q x y [A,B,D,E,i,j,k,m,n,o,b,c,d] H)
theorem xy{C Q a b}(I)(s:Zp I (p7 C Q a b)){k l h}(i:I k l h)(e:l.length=18:=by rfl):qb C Q a b l h:=JV.Zu I _ s i e
def jN(C:dc)(Q:dg)(m:LP)(e:LP)(n o p q f g i j k l a b c:V)(h:Hp):Prop:=oP (cX .add 3 c nO) λd=>e [n,o,p,q,f,g,i,j,k,l,a,b,d] h
theorem oE{C Q a b}:Zx (jN C Q a b) (jM C Q a b):=JV.ZY _
def tj(C:dc)(Q:dg)(a0:V)(h:Hp):Prop:=oP (fe a0) λc=>oP (dE 0 c) λd=>dG 3 d h λa=>gJ (fc 4 1 1 bF a a) h λe k=>oP (fe a0) λf=>oP (dE 0 f) λg=>oP (eg 5 g k) λi=>cP C ku [i] k λb l=>oP (dD b) λj=>pG C Q [a0,e,b,j,nZ] l
theorem Aj{C}(s:C.start=dH){a0 h Q}(k:C.K jH [a0] h=none)(H:tj C Q a0 h):cP C jH [a0] h Q:=cP.vd t41 s (by unfold P0;exact Tryd.func41) k H
def t66:List (Nat×List Nat):=[(43,[0,1,5])]
def rH(C:dc)(Q:dg):LP:=JV C Tryd.f66 t66 21 [0,1,5] [] Q
def rM(C:dc)(Q:dg)(c:LP)(a b z:V)(h:Hp):Prop:=dN 5 a h λA=>dX 1 A b h λd=>oP (cX .geq 3 d nZ) λe=>oP (il e (oB (some a) λf=>oB (fe f) λg=>oB (dE 5 g) λi=>oB (df i h) λj=>oB (some b) λk=>oB (eX 1 j k) λl=>oB (df l h) λm=>oB (some b) λn=>cX .neq 3 m n)) λo=>oP (il o (oB (some z) λp=>oB (some a) λq=>oB (fe q) λr=>oB (dE 5 r) λs=>oB (df s h) λt=>oB (dD t) λu=>cX .leq 3 p u)) λv=>bP v (dN 5 a h λw=>dX 1 w b h λx=>oP (cX .add 3 z nO) λy=>c [a,x,y] h) (Q b h)
theorem zA{C Q}(I)(s:S3 I (rM C Q)){k l h}(i:I k l h)(e:l.length=3:=by rfl):rH C Q l h:=JV.l3 I _ s i e
def vh(C:dc)(Q:dg)(a0 a1:V)(h:Hp):Prop:=rH C Q [a0,a1,nZ] h
theorem B8{C}(s:C.start=dH){a0 a1 h Q}(k:C.K fI [a0,a1] h=none)(H:vh C Q a0 a1 h):cP C fI [a0,a1] h Q:=cP.vd t66 s (by unfold P0;exact Tryd.func66) k H
def t42:List (Nat×List Nat):=[(351,[1,2,3,4,5,41,42]),(353887,[1,2,3,4,5,6,7,41,42,53,54,55]),(5631,[1,2,3,4,11,12,96,97,98]),(7956062,[1,2,3,4,5,6,7,41,42,53,54,55]),(1992190,[1,2,3,4,11,12,15,96,97,98]),(11263,[1,2,3,4,12,165,166,167]),(4089342,[1,2,3,4,11,12,15,96,97,98]),(1887230,[1,2,3,4,12,17,165,166,167]),(8283646,[1,2,3,4,11,12,15,96,97,98]),(16672254,[1,2,3,4,11,12,15,96,97,98])]
def nQ(C:dc)(Q:dg):LP:=JV C Tryd.f42 t42 175 [1,2,3,4,5,41,42] [] Q
def oG(C:dc)(Q:dg)(a:LP):LP:=JV C Tryd.f42 t42 176943 [1,2,3,4,5,6,7,41,42,53,54,55] [kf [1,2,3,4,5,41,42] a] Q
def ik(C:dc)(Q:dg):LP:=JV C Tryd.f42 t42 2815 [1,2,3,4,11,12,96,97,98] [] Q
def jy(C:dc)(Q:dg)(a:LP)(b:LP):LP:=JV C Tryd.f42 t42 3978031 [1,2,3,4,5,6,7,41,42,53,54,55] [kf [1,2,3,4,5,41,42] a,kf [1,2,3,4,5,6,7,41,42,53,54,55] b] Q
def g8(C:dc)(Q:dg)(a:LP):LP:=JV C Tryd.f42 t42 996095 [1,2,3,4,11,12,15,96,97,98] [kf [1,2,3,4,11,12,96,97,98] a] Q
def iq(C:dc)(Q:dg):LP:=JV C Tryd.f42 t42 5631 [1,2,3,4,12,165,166,167] [] Q
def g0(C:dc)(Q:dg)(a:LP):LP:=JV C Tryd.f42 t42 2044671 [1,2,3,4,11,12,15,96,97,98] [kf [1,2,3,4,11,12,96,97,98] a] Q
def fP(C:dc)(Q:dg)(a:LP):LP:=JV C Tryd.f42 t42 943615 [1,2,3,4,12,17,165,166,167] [kf [1,2,3,4,12,165,166,167] a] Q
def gX(C:dc)(Q:dg)(a:LP):LP:=JV C Tryd.f42 t42 4141823 [1,2,3,4,11,12,15,96,97,98] [kf [1,2,3,4,11,12,96,97,98] a] Q
def g9(C:dc)(Q:dg)(a:LP):LP:=JV C Tryd.f42 t42 8336127 [1,2,3,4,11,12,15,96,97,98] [kf [1,2,3,4,11,12,96,97,98] a] Q
def nU(C:dc)(Q:dg)(g:LP)(c s i j k d a:V)(h:Hp):Prop:=bO .lss 3 a d (oP (df c h) λm=>oP (fe m) λn=>oP (dE 0 n) λo=>dJ 3 o 6 a 0 h λe=>oP (dD e) λp=>oG C Q g [c,s,i,j,k,a,nS,d,a,e,p,nZ] h) (gJ (some (.map [] 0,λl=> .map l)) h λq u=>gJ (zC 96 [V.iL]) u λf v=>dz (fk 1 f q v) λz w=>gJ (zC 97 [V.nilFunc]) w λb x=>dz (fk 1 b (V.func eU [] [j,c]) x) λt y=>oP (dD k) λr=>ik C Q [c,s,i,j,b,(V.func dh [] [f,i,c,b]),k,r,nZ] y)
theorem w9{C Q}(I)(s:S7 I (nU C Q)){k l h}(i:I k l h)(e:l.length=7:=by rfl):nQ C Q l h:=JV.l7 I _ s i e
def og(C:dc)(Q:dg)(c:LP)(i:LP)(j m n l k o p d e f g a:V)(h:Hp):Prop:=bO .lss 3 a g (dX 1 f a h λb=>oP (df j h) λq=>dN 5 q h λr=>dX 1 r b h λs=>bO .eql 3 s b (oP (df l h) λt=>oP (dD k) λu=>oP (eX 1 t b) λv=>dz (fk 1 v u h) λR K=>oP (dD k) λw=>gJ (oX 3 1 1 nZ [(0,w)]) K λx L=>dz (c9 3 1 8 p x L) λy M=>gJ (oX 3 1 1 nZ [(0,b)]) M λz N=>dz (c9 3 1 8 k z N) λA O=>jy C Q c i [j,m,n,l,A,o,y,d,e,f,g,a] O) (jy C Q c i [j,m,n,l,k,o,p,d,e,f,g,a] h)) (oP (df j h) λB=>oP (fe B) λD=>oP (dE 0 D) λE=>dF 3 E h λF=>oP (eX 6 F o) λG=>oP (dE 0 G) λH=>dz (fk 1 H p h) λJ P=>oP (cX .add 3 e nO) λI=>c [j,m,n,l,k,d,I] P)
theorem wT{C Q a}(I)(s:ZI I (og C Q a)){k l h}(i:I k l h)(e:l.length=12:=by rfl):oG C Q a l h:=JV.YW I _ s i e
def oO(C:dc)(Q:dg)(k:LP)(i H I l m e f g b:V)(h:Hp):Prop:=bO .lss 3 b g (dX 1 f b h λn=>oP (df i h) λo=>oP (fe o) λp=>oP (dE 0 p) λq=>dF 2 q h λr=>oP (eX 6 r n) λs=>oP (eg 6 s h) λt=>gJ (zC 38 [nZ,nZ,nZ,nZ,nS,nZ]) h λa M=>dz (fk 6 a t M) λN J=>dF 0 a J λu=>cP C pO [u] J λv j=>bO .gtr 3 v nZ (oP (df l j) λc=>oP (df i j) λw=>dF 1 a j λx=>cP C fI [w,x] j λy z=>(j.next<=z.next/\dX 1 c y z λA=>oP (dE 1 a) λB=>((df l z=some c)/\dz (fk 1 B A z) λK L=>(z.next<=L.next/\g8 C Q k [i,H,I,l,m,e,a,f,g,b] L)))) (g8 C Q k [i,H,I,l,m,e,a,f,g,b] j)) (oP (df i h) λD=>oP (fe D) λE=>oP (dE 0 E) λF=>dF 3 F h λd=>oP (dD d) λG=>iq C Q [i,H,I,l,e,d,G,nZ] h)
theorem xd{C Q}(I)(s:S9 I (oO C Q)){k l h}(i:I k l h)(e:l.length=9:=by rfl):ik C Q l h:=JV.l9 I _ s i e
def ju(C:dc)(Q:dg)(i:LP)(a:LP)(j k l m n o p b c d e f:V)(h:Hp):Prop:=oP (cX .add 3 f nO) λg=>a [j,k,l,m,n,o,p,b,c,d,e,g] h
theorem mP{C Q a b}:Zn (ju C Q a b) (jy C Q a b):=JV.Yx _
def nr(C:dc)(Q:dg)(d:LP)(t u v s e f a g i j:V)(h:Hp):Prop:=dF 0 a h λk=>cP C pO [k] h λl c=>bO .gtr 3 l nO (oP (df s c) λb=>oP (df t c) λm=>dF 2 a c λn=>cP C fI [m,n] c λo p=>(c.next<=p.next/\dX 1 b o p λq=>oP (dE 2 a) λr=>((df s p=some b)/\dz (fk 1 r q p) λx w=>(p.next<=w.next/\g0 C Q d [t,u,v,s,e,f,a,g,i,j] w)))) (g0 C Q d [t,u,v,s,e,f,a,g,i,j] c)
theorem vx{C Q a}:Xw (nr C Q a) (g8 C Q a):=JV.Yf _
def ou(C:dc)(Q:dg)(j:LP)(y k z l e c d b:V)(h:Hp):Prop:=bO .lss 3 b d (oP (eX 6 c b) λm=>oP (eg 6 m h) λn=>gJ (zC 41 [nS,nZ,nZ,nS,nS,nZ]) h λa G=>dz (fk 6 a n G) λK f=>dF 1 a f λg=>bO .eql 3 g (V.I 2) (oP (df l f) λi=>oP (df y f) λo=>dF 2 a f λp=>cP C fI [o,p] f λq r=>(f.next<=r.next/\dX 1 i q r λs=>oP (dE 2 a) λt=>((df l r=some i)/\dz (fk 1 t s r) λA B=>(r.next<=B.next/\fP C Q j [y,k,z,l,e,a,c,d,b] B)))) (bO .eql 3 g (V.I 3) (dF 5 a f λu=>G9 C (wD e [u]) f λv H=>oP (dE 5 a) λw=>dz (fk 1 w v H) λD I=>fP C Q j [y,k,z,l,e,a,c,d,b] I) (fP C Q j [y,k,z,l,e,a,c,d,b] f))) (oP (eg 5 z h) λx=>dz (fk 5 k x h) λE F=>oP (eg 5 k F) λJ=>Q J F)
theorem wP{C Q}(I)(s:S8 I (ou C Q)){k l h}(i:I k l h)(e:l.length=8:=by rfl):iq C Q l h:=JV.l8 I _ s i e
def mH(C:dc)(Q:dg)(c:LP)(p q r s b d a e f g:V)(h:Hp):Prop:=dF 0 a h λi=>oP (cX .eql 3 i (V.I 21)) λj=>oP (kI j (oB (dE 0 a) λk=>oB (df k h) λl=>cX .eql 3 l (V.I 20))) λm=>bP m (oP (df b h) λn=>dF 4 a h λo=>G9 C (wD n [o]) h λt u=>gX C Q c [p,q,r,s,b,d,a,e,f,g] u) (gX C Q c [p,q,r,s,b,d,a,e,f,g] h)
theorem wc{C Q a}:Xw (mH C Q a) (g0 C Q a):=JV.Yf _
def mE(C:dc)(Q:dg)(k:LP)(o p l q m n a b c:V)(h:Hp):Prop:=dF 3 l h λd=>oP (eg 6 n h) λe=>gJ (oX 41 6 1 (V.agg [nS,nZ,nZ,nS,nS,nZ]) [(0,e)]) h λf r=>dz (c9 41 6 96 d f r) λg s=>oP (dE 3 l) λi=>dz (fk 1 i g s) λu t=>oP (cX .add 3 c nO) λj=>k [o,p,l,q,m,a,b,j] t
theorem vL{C Q a}:R9 (mE C Q a) (fP C Q a):=JV.r9 _
def nt(C:dc)(Q:dg)(c:LP)(o p q r d b a e f g:V)(h:Hp):Prop:=dF 0 a h λi=>cP C kD [i] h λj n=>bP j (dF 5 a n λk=>G9 C (wD b [k]) n λl s=>oP (dE 5 a) λm=>dz (fk 1 m l s) λu t=>g9 C Q c [o,p,q,r,d,b,a,e,f,g] t) (g9 C Q c [o,p,q,r,d,b,a,e,f,g] n)
theorem vH{C Q a}:Xw (nt C Q a) (gX C Q a):=JV.Yf _
def nz(C:dc)(Q:dg)(g:LP)(p q i r j k l m n o:V)(h:Hp):Prop:=dF 2 i h λa=>oP (eg 6 l h) λb=>gJ (oX 38 6 1 (V.agg [nZ,nZ,nZ,nZ,nS,nZ]) [(0,b)]) h λc s=>dz (c9 38 6 64 a c s) λd t=>oP (dE 2 i) λe=>dz (fk 1 e d t) λv u=>oP (cX .add 3 o nO) λf=>g [p,q,i,r,j,k,m,n,f] u
theorem vy{C Q a}:Xw (nz C Q a) (g9 C Q a):=JV.Yf _
def rV(C:dc)(Q:dg)(a0:V)(h:Hp):Prop:=gJ (qd 82 a0) h λa F=>gJ (zC 29 [nZ,nZ,nS,nS,nS]) F λG d=>oP (df a d) λe=>oP (fe e) λn=>oP (dE 0 n) λo=>oP (dE 0 o) λf=>oP (df f d) λg=>oP (df a d) λi=>oP (fe i) λp=>oP (dE 0 p) λq=>oP (dE 1 q) λj=>oP (df j d) λk=>oP (nH [nZ,nZ,nS,nS,nS] [(0,1),(1,1),(2,1),(3,1),(4,1)] [(0,g),(1,k)]) λr=>E0 (zC 29 [nZ,nZ,nS,nS,nS]) d λb B c=>((c.get (d.next)=some b/\O.beq b b=true)/\((df j c=some k)/\((df a c=some i)/\((df f c=some g)/\((df a c=some e)/\dz (fk 5 B r c) λJ m=>(c.next<=m.next/\oP (df a m) λs=>oP (fe s) λt=>oP (dE 0 t) λu=>dG 2 u m λl=>gJ (fc 3 1 8 nZ l l) m λv H=>gJ (zC 22 [nS]) H λD I=>dz (fk 1 D v I) λE w=>oP (df a w) λx=>oP (fe x) λy=>oP (dE 0 y) λz=>dG 3 z w λA=>nQ C Q [a,G,B,D,nS,A,nZ] w))))))
theorem zF{C}(s:C.start=dH){a0 h Q}(k:C.K hH [a0] h=none)(H:rV C Q a0 h):cP C hH [a0] h Q:=cP.vd t42 s (by unfold P0;exact Tryd.func42) k H
def t65:List (Nat×List Nat):=[(11,[0,1,2,6,7,8])]
def lI(C:dc)(Q:dg):LP:=JV C Tryd.f65 t65 5 [0,1,2,6,7,8] [] Q
def lR(C:dc)(Q:dg)(d:LP)(m e n o p c:V)(h:Hp):Prop:=bO .lss 3 c p (dX 1 o c h λf=>oP (df e h) λa=>oP (df n h) λg=>cP C fI [g,f] h λi b=>(h.next<=b.next/\dX 1 a i b λj=>oP (eX 1 m c) λk=>((df e b=some a)/\dz (fk 1 k j b) λr q=>(b.next<=q.next/\oP (cX .add 3 c nO) λl=>d [m,e,n,o,p,l] q)))) (Q (V.tuple []) h)
theorem vn{C Q}(I)(s:S6 I (lR C Q)){k l h}(i:I k l h)(e:l.length=6:=by rfl):lI C Q l h:=JV.l6 I _ s i e
def p6(C:dc)(Q:dg)(a0 a1 a2:V)(h:Hp):Prop:=oP (dD a0) λa=>lI C Q [a0,a1,a2,a0,a,nZ] h
theorem yj{C}(s:C.start=dH){a0 a1 a2 h Q}(k:C.K eU [a0,a1,a2] h=none)(H:p6 C Q a0 a1 a2 h):cP C eU [a0,a1,a2] h Q:=cP.vd t65 s (by unfold P0;exact Tryd.func65) k H
def t67:List (Nat×List Nat):=[(2775,[0,2,3,4,7,33,34,35]),(30,[7])]
def lZ(C:dc)(Q:dg):LP:=JV C Tryd.f67 t67 1387 [0,2,3,4,7,33,34,35] [] Q
def jj(C:dc)(Q:dg):LP:=JV C Tryd.f67 t67 15 [7] [] Q
def lG(C:dc)(Q:dg)(o:LP)(I p q r J e f a:V)(h:Hp):Prop:=bO .lss 3 a f (oP (eX 4 e a) λs=>oP (eg 4 s h) λt=>gJ (zC 47 [nZ,nZ,nS,nS]) h λb M=>dz (fk 4 b t M) λS u=>oP (df r u) λv=>dF 2 b u λw=>G9 C (wD v [w]) u λN x=>oP (df r x) λy=>dF 3 b x λz=>G9 C (wD y [z]) x λP R=>oP (cX .add 3 a nO) λA=>o [I,p,q,r,J,e,f,A] R) (oP (dE 4 p) λg=>oP (df g h) λi=>oP (df q h) λj=>oP (fe j) λB=>oP (dE 0 B) λD=>oP (dE 4 D) λk=>oP (df k h) λl=>oP (eX 1 l I) λm=>oP (eg 1 m h) λn=>E0 (oX 50 1 1 (V.agg [nS]) [(0,n)]) h λc E d=>((d.get (h.next)=some c/\O.beq c c=true)/\((eg 1 m d=some n)/\((df k d=some l)/\((df q d=some j)/\((df g d=some i)/\dz (c9 50 1 24 i E d) λF G=>(d.next<=G.next/\oP (dE 4 p) λH=>dz (fk 1 H F G) λK L=>(G.next<=L.next/\jj C Q [J] L))))))))
theorem vf{C Q}(I)(s:S8 I (lG C Q)){k l h}(i:I k l h)(e:l.length=8:=by rfl):lZ C Q l h:=JV.l8 I _ s i e
def jf(C:dc)(Q:dg)(a:V)(h:Hp):Prop:=Q a h
theorem lY{C Q}:R1 (jf C Q) (jj C Q):=JV.r1 _
def pw(C:dc)(Q:dg)(a0 a1 a2 a3 n:V)(h:Hp):Prop:=oP (df a1 h) λd=>oP (N5 3 none nZ true d a0 h) λa=>oP (Cn 0 a) λe=>oP (Cn 1 a) λf=>bN f (dG 4 a2 h λb=>oP (df a1 h) λg=>dz (Hu 3 none g a0 b h) λo i=>oP (df a3 i) λj=>oP (fe j) λk=>oP (dE 0 k) λl=>dJ 4 l 1 a0 0 i λc=>oP (dD c) λm=>lZ C Q [a0,a2,a3,n,b,c,m,nZ] i) (jj C Q [e] h)
theorem yk{C}(s:C.start=dH){a0 a1 a2 a3 a h Q}(k:C.K dh [a0,a1,a2,a3,a] h=none)(H:pw C Q a0 a1 a2 a3 a h):cP C dh [a0,a1,a2,a3,a] h Q:=cP.vd t67 s (by unfold P0;exact Tryd.func67) k H
def t16:List (Nat×List Nat):=[(87,[3,10,11])]
def BI(C:dc)(Q:dg):LP:=JV C Tryd.f16 t16 43 [3,10,11] [] Q
def BJ(C:dc)(Q:dg)(c:LP)(d b a:V)(h:Hp):Prop:=bO .lss 3 a b (oP (eX 1 d a) λe=>dz (fk 1 e a h) λi g=>oP (cX .add 3 a nO) λf=>c [d,b,f] g) (Q d h)
theorem HY{C Q}(I)(s:S3 I (BJ C Q)){k l h}(i:I k l h)(e:l.length=3:=by rfl):BI C Q l h:=JV.l3 I _ s i e
def FX(C:dc)(Q:dg)(a0:V)(h:Hp):Prop:=gJ (qd 29 a0) h λe b=>dG 2 e b λc=>gJ (fc 3 1 8 nZ c c) b λd f=>oP (dD d) λa=>BI C Q [d,a,nZ] f
theorem L1{C}(s:C.start=dH){a0 h Q}(k:C.K vj [a0] h=none)(H:FX C Q a0 h):cP C vj [a0] h Q:=cP.vd t16 s (by unfold P0;exact Tryd.func16) k H
def t64:List (Nat×List Nat):=[]
def ni(C:dc)(Q:dg)(a0 a1:V)(h:Hp):Prop:=cP C kF [a0,a1] h λa b=>oP (cX .geq 3 a nZ) λc=>Q c b
theorem vE{C}(s:C.start=dH){a0 a1 h Q}(k:C.K gZ [a0,a1] h=none)(H:ni C Q a0 a1 h):cP C gZ [a0,a1] h Q:=cP.vd t64 s (by unfold P0;exact Tryd.func64) k H
def t76:List (Nat×List Nat):=[(43,[0,1,7,8])]
def mI(C:dc)(Q:dg):LP:=JV C Tryd.f76 t76 21 [0,1,7,8] [] Q
def mB(C:dc)(Q:dg)(b:LP)(e f g a:V)(h:Hp):Prop:=bO .lss 3 a g (dX 1 e a h λc=>bO .eql 3 f c (Q a h) (oP (cX .add 3 a nO) λd=>b [e,f,g,d] h)) (Q (V.I (-1)) h)
theorem vC{C Q}(I)(s:S4 I (mB C Q)){k l h}(i:I k l h)(e:l.length=4:=by rfl):mI C Q l h:=JV.l4 I _ s i e
def qq(C:dc)(Q:dg)(a0 a1:V)(h:Hp):Prop:=oP (dD a0) λa=>mI C Q [a0,a1,a,nZ] h
theorem yT{C}(s:C.start=dH){a0 a1 h Q}(k:C.K kF [a0,a1] h=none)(H:qq C Q a0 a1 h):cP C kF [a0,a1] h Q:=cP.vd t76 s (by unfold P0;exact Tryd.func76) k H
end
