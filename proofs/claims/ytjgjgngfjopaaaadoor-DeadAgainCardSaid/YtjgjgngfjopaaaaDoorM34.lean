/- Parts. -/
import Derived.Test.YtjgjgngfjopaaaaDoorM14
namespace Go.Proofs.YtjgjgngfjopaaaaDoor.Hx
set_option maxRecDepth 100000
noncomputable section
def t13:List (Nat×List Nat):=[(87,[1,2,3,19,20,21]),(175,[1,2,3,38,39,40]),(351,[2,3,67,68,69]),(353887,[2,3,10,67,68,69,74,75,76])]
def GY(C:fu)(Q:fy):LP:=JV C Tryd.f13 t13 43 [1,2,3,19,20,21] [] Q
def GN(C:fu)(Q:fy):LP:=JV C Tryd.f13 t13 87 [1,2,3,38,39,40] [] Q
def Ha(C:fu)(Q:fy):LP:=JV C Tryd.f13 t13 175 [2,3,67,68,69] [] Q
def GO(C:fu)(Q:fy)(a:LP):LP:=JV C Tryd.f13 t13 176943 [2,3,10,67,68,69,74,75,76] [kf [2,3,67,68,69] a] Q
def GU(C:fu)(Q:fy)(fS:LP)(g w e b c a:V)(h:Hp):Prop:=bO .lss 3 a c (oP (gD 6 b a) λi=>oP (gg 6 i h) λj=>ik (zC 46 [nZ,nZ,nZ,nZ,nS,nZ]) h λf A=>fm (gK 6 f j A) λH B=>ik (jt 3 1 0 nZ []) B λk x=>dF 4 f x λl=>fm (fe 3 1 8 k l x) λm D=>oP (fH 4 f) λn=>fm (gK 1 n m D) λy o=>dF 2 e o λp=>oP (gg 6 f o) λq=>ik (jt 46 6 1 (V.agg [nZ,nZ,nZ,nZ,nS,nZ]) [(0,q)]) o λr E=>fm (fe 46 6 64 p r E) λs F=>oP (fH 2 e) λt=>fm (gK 1 t s F) λz G=>oP (eo .add 3 a nO) λu=>fS [g,w,e,b,c,u] G) (dF 3 g h λd=>oP (fF d) λv=>GN C Q [g,w,e,d,v,nZ] h)
theorem MX{C Q}(I)(s:S6 I (GU C Q)){k l h}(i:I k l h)(e:l.length=6:=by rfl):GY C Q l h:=JV.l6 I _ s i e
def GS(C:fu)(Q:fy)(w:LP)(Z x2 u n o e:V)(h:Hp):Prop:=bO .lss 3 e o (oP (gD 6 n e) λx=>oP (gg 6 x h) λy=>ik (zC 50 [nS,nZ,nZ,nS,nS,nZ]) h λc h1=>fm (gK 6 c y h1) λvu h2=>wU (jt 3 1 0 nZ []) h2 λz A v=>oP (fH 0 c) λp=>oP (ez p v) λq=>wU (jt 3 1 0 nZ []) v λm B r=>oP (fH 3 c) λf=>oP (ez f r) λg=>wU (jt 3 1 0 nZ []) r λa D d=>oP (fH 4 c) λi=>oP (ez i d) λj=>((d.get (r.next)=some a/\O.beq a a=true)/\((ez f d=some g)/\((d.get (v.next)=some m/\O.beq m m=true)/\((ez p d=some q)/\((d.get (h2.next)=some z/\O.beq z z=true)/\fm (fe 3 1 8 A q d) λE k=>(d.next<=k.next/\oP (fH 0 c) λF=>((ez i k=some j)/\((k.get (r.next)=some a/\O.beq a a=true)/\((ez f k=some g)/\((k.get (v.next)=some m/\O.beq m m=true)/\fm (fe 3 1 8 B g k) λG s=>(k.next<=s.next/\((ez i s=some j)/\((s.get (r.next)=some a/\O.beq a a=true)/\fm (fe 3 1 8 D j s) λH I=>(s.next<=I.next/\fm (gK 1 F E I) λaa J=>(I.next<=J.next/\oP (fH 3 c) λK=>fm (gK 1 K G J) λab l=>(J.next<=l.next/\oP (fH 4 c) λL=>fm (gK 1 L H l) λac b=>(l.next<=b.next/\dF 3 u b λM=>oP (gg 6 c b) λN=>ik (jt 50 6 1 (V.agg [nS,nZ,nZ,nS,nS,nZ]) [(0,N)]) b λP R=>fm (fe 50 6 96 M P R) λS T=>oP (fH 3 u) λU=>fm (gK 1 U S T) λae W=>oP (eo .add 3 e nO) λX=>w [Z,x2,u,n,o,X] W)))))))))))))))))) (dF 4 Z h λt=>oP (fF t) λY=>Ha C Q [x2,u,t,Y,nZ] h)
theorem Na{C Q}(I)(s:S6 I (GS C Q)){k l h}(i:I k l h)(e:l.length=6:=by rfl):GN C Q l h:=JV.l6 I _ s i e
def GR(C:fu)(Q:fy)(f:LP)(g m b c a:V)(h:Hp):Prop:=bO .lss 3 a c (oP (gD 1 b a) λi=>oP (gg 1 i h) λj=>ik (zC 60 [nS]) h λn r=>fm (gK 1 n j r) λu s=>ik (zC 60 [nS]) s λk o=>dF 0 n o λd=>oP (fF d) λl=>GO C Q f [g,m,k,b,c,a,d,l,nZ] o) (oP (gg 5 m h) λe=>fm (gK 5 g e h) λp q=>oP (gg 5 g q) λt=>Q t q)
theorem M3{C Q}(I)(s:S5 I (GR C Q)){k l h}(i:I k l h)(e:l.length=5:=by rfl):Ha C Q l h:=JV.l5 I _ s i e
def G6(C:fu)(Q:fy)(x:LP)(y:LP)(x2 u b f g i j k c:V)(h:Hp):Prop:=bO .lss 3 c k (oP (gD 4 j c) λz=>oP (gg 4 z h) λA=>ik (zC 57 [nZ,nZ,nS,nS]) h λa h1=>fm (gK 4 a A h1) λvu h2=>wU (jt 3 1 0 nZ []) h2 λB D v=>oP (fH 2 a) λl=>oP (ez l v) λm=>wU (jt 3 1 0 nZ []) v λd E e=>oP (fH 3 a) λn=>oP (ez n e) λo=>((e.get (v.next)=some d/\O.beq d d=true)/\((ez l e=some m)/\((e.get (h2.next)=some B/\O.beq B B=true)/\fm (fe 3 1 8 D m e) λF p=>(e.next<=p.next/\oP (fH 2 a) λG=>((ez n p=some o)/\((p.get (v.next)=some d/\O.beq d d=true)/\fm (fe 3 1 8 E o p) λH I=>(p.next<=I.next/\fm (gK 1 G F I) λab J=>(I.next<=J.next/\oP (fH 3 a) λK=>fm (gK 1 K H J) λac w=>(J.next<=w.next/\dF 0 b w λL=>oP (gg 4 a w) λM=>ik (jt 57 4 1 (V.agg [nZ,nZ,nS,nS]) [(0,M)]) w λN h9=>fm (fe 57 4 64 L N h9) λP R=>oP (fH 0 b) λS=>fm (gK 1 S P R) λae T=>oP (eo .add 3 c nO) λU=>y [x2,u,b,f,g,i,j,k,U] T)))))))))) (dF 4 u h λW=>oP (gg 1 b h) λX=>ik (jt 60 1 1 (V.agg [nS]) [(0,X)]) h λq Y=>fm (fe 60 1 24 W q Y) λr Z=>oP (fH 4 u) λs=>fm (gK 1 s r Z) λag aa=>oP (eo .add 3 i nO) λt=>x [x2,u,f,g,t] aa)
theorem MZ{C Q a}(I)(s:S9 I (G6 C Q a)){k l h}(i:I k l h)(e:l.length=9:=by rfl):GO C Q a l h:=JV.l9 I _ s i e
def Mq(C:fu)(Q:fy)(a0:V)(h:Hp):Prop:=ik (m0 30 a0) h λb k=>ik (zC 30 [nZ,nZ,nS,nS,nS]) k λl c=>dF 0 b c λd=>dF 1 b c λe=>oP (fV [nZ,nZ,nS,nS,nS] [(0,1),(1,1),(2,1),(3,1),(4,1)] [(0,d),(1,e)]) λf=>ik (zC 30 [nZ,nZ,nS,nS,nS]) c λi m=>fm (gK 5 i f m) λn j=>dF 2 b j λa=>oP (fF a) λg=>GY C Q [b,l,i,a,g,nZ] j
theorem Sj{C}(s:C.start=fR){a0 h Q}(k:C.K zP [a0] h=none)(H:Mq C Q a0 h):cP C zP [a0] h Q:=cP.vd t13 s (by unfold P0;exact Tryd.func13) k H
def t18:List (Nat×List Nat):=[]
def MM(C:fu)(Q:fy)(a0 a1:V)(h:Hp):Prop:=ik (m0 30 a0) h λf g=>ik (zC 30 [nZ,nZ,nS,nS,nS]) g λc d=>oP (gg 5 f d) λi=>cP C zP [i] d λj k=>oP (fV [nZ,nZ,nS,nS,nS,nS] [(0,5),(5,1)] [(0,j),(1,a1)]) λl=>ik (m0 96 l) k λa m=>cP C na [a] m λn o=>cP C kM [a] o λb p=>fm (gK 5 c b p) λq e=>oP (gg 5 c e) λr4=>Q r4 e
theorem Rv{C}(s:C.start=fR){a0 a1 h Q}(k:C.K Ab [a0,a1] h=none)(H:MM C Q a0 a1 h):cP C Ab [a0,a1] h Q:=cP.vd t18 s (by unfold P0;exact Tryd.func18) k H
def t49:List (Nat×List Nat):=[(43,[0,2,38,39,40]),(175,[0,2,5,6,51,52,53]),(3886,[0,2,5,6,51,52,53]),(703,[0,2,5,9,70,71,72]),(2706623,[0,2,5,9,70,71,72,83,84,85]),(2870463,[0,2,5,9,10,11,14,15,70,71,72,97,98,99]),(1407,[0,5,9,182,183]),(15550,[0,2,5,9,70,71,72]),(63687870,[0,2,5,9,10,11,14,15,70,71,72,97,98,99]),(5754047,[0,2,5,9,11,14,15,70,71,72,134,135,136]),(366975,[0,5,9,24,182,183,190,191,192]),(46063406271,[0,2,5,9,11,14,15,20,21,70,71,72,134,135,136,152,153,154]),(127388862,[0,2,5,9,11,14,15,70,71,72,134,135,136])]
def uY(C:fu)(Q:fy):LP:=JV C Tryd.f49 t49 21 [0,2,38,39,40] [] Q
def uw(C:fu)(Q:fy):LP:=JV C Tryd.f49 t49 87 [0,2,5,6,51,52,53] [] Q
def nM(C:fu)(Q:fy)(a:LP):LP:=JV C Tryd.f49 t49 1943 [0,2,5,6,51,52,53] [kf [0,2,5,6,51,52,53] a] Q
def uz(C:fu)(Q:fy):LP:=JV C Tryd.f49 t49 351 [0,2,5,9,70,71,72] [] Q
def uR(C:fu)(Q:fy)(a:LP):LP:=JV C Tryd.f49 t49 1353311 [0,2,5,9,70,71,72,83,84,85] [kf [0,2,5,9,70,71,72] a] Q
def uJ(C:fu)(Q:fy)(a:LP):LP:=JV C Tryd.f49 t49 1435231 [0,2,5,9,10,11,14,15,70,71,72,97,98,99] [kf [0,2,5,9,70,71,72] a] Q
def uj(C:fu)(Q:fy):LP:=JV C Tryd.f49 t49 703 [0,5,9,182,183] [] Q
def nr(C:fu)(Q:fy)(a:LP):LP:=JV C Tryd.f49 t49 7775 [0,2,5,9,70,71,72] [kf [0,2,5,9,70,71,72] a] Q
def ny(C:fu)(Q:fy)(a:LP)(b:LP):LP:=JV C Tryd.f49 t49 31843935 [0,2,5,9,10,11,14,15,70,71,72,97,98,99] [kf [0,2,5,9,70,71,72] a,kf [0,2,5,9,10,11,14,15,70,71,72,97,98,99] b] Q
def ur(C:fu)(Q:fy)(a:LP):LP:=JV C Tryd.f49 t49 2877023 [0,2,5,9,11,14,15,70,71,72,134,135,136] [kf [0,2,5,9,70,71,72] a] Q
def uG(C:fu)(Q:fy)(a:LP):LP:=JV C Tryd.f49 t49 183487 [0,5,9,24,182,183,190,191,192] [kf [0,5,9,182,183] a] Q
def um(C:fu)(Q:fy)(a:LP)(b:LP):LP:=JV C Tryd.f49 t49 23031703135 [0,2,5,9,11,14,15,20,21,70,71,72,134,135,136,152,153,154] [kf [0,2,5,9,70,71,72] a,kf [0,2,5,9,11,14,15,70,71,72,134,135,136] b] Q
def nH(C:fu)(Q:fy)(a:LP)(b:LP):LP:=JV C Tryd.f49 t49 63694431 [0,2,5,9,11,14,15,70,71,72,134,135,136] [kf [0,2,5,9,70,71,72] a,kf [0,2,5,9,11,14,15,70,71,72,134,135,136] b] Q
def uV(C:fu)(Q:fy)(fS:LP)(l b c d a:V)(h:Hp):Prop:=bO .lss 3 a d (dX 1 c a h λf=>oP (gD 1 b f) λg=>fm (gK 1 g bT h) λo m=>oP (eo .add 3 a nO) λi=>fS [l,b,c,d,i] m) (oP (fF b) λe=>ik (ig 3 1 8 nZ e e) h λj n=>oP (fF b) λk=>uw C Q [l,b,j,nZ,b,k,nZ] n)
theorem Cp{C Q}(I)(s:S5 I (uV C Q)){k l h}(i:I k l h)(e:l.length=5:=by rfl):uY C Q l h:=JV.l5 I _ s i e
def uL(C:fu)(Q:fy)(d:LP)(f i g j b c a:V)(h:Hp):Prop:=bO .lss 3 a c (dX 1 b a h λk=>bP k (oP (gD 1 g a) λl=>fm (gK 1 l j h) λr q=>oP (eo .add 3 j nO) λm=>nM C Q d [f,i,g,m,b,c,a] q) (nM C Q d [f,i,g,j,b,c,a] h)) (oP (ij f) λn=>oP (fH 0 n) λo=>dF 3 o h λe=>oP (fF e) λp=>uz C Q [f,i,g,nS,e,p,nZ] h)
theorem Cv{C Q}(I)(s:S7 I (uL C Q)){k l h}(i:I k l h)(e:l.length=7:=by rfl):uw C Q l h:=JV.l7 I _ s i e
def nK(C:fu)(Q:fy)(a:LP)(f g i j b c d:V)(h:Hp):Prop:=oP (eo .add 3 d nO) λe=>a [f,g,i,j,b,c,e] h
theorem tA{C Q a}:R7 (nK C Q a) (nM C Q a):=JV.r7 _
def uO(C:fu)(Q:fy)(e:LP)(l m n k c d a:V)(h:Hp):Prop:=bO .lss 3 a d (oP (gD 6 c a) λo=>oP (gg 6 o h) λp=>ik (zC 50 [nS,nZ,nZ,nS,nS,nZ]) h λb t=>fm (gK 6 b p t) λu f=>dX 1 m a f λq=>bN q (dF 0 b f λg=>oP (fF g) λr=>uR C Q e [l,m,n,k,c,d,a,g,r,nZ] f) (dF 4 b f λi=>oP (fF i) λs=>uJ C Q e [l,m,n,k,a,b,nS,nS,c,d,a,i,s,nZ] f)) (oP (fF k) λj=>uj C Q [l,n,k,j,nZ] h)
theorem Cu{C Q}(I)(s:S7 I (uO C Q)){k l h}(i:I k l h)(e:l.length=7:=by rfl):uz C Q l h:=JV.l7 I _ s i e
def uQ(C:fu)(Q:fy)(g:LP)(i:LP)(j o p q b c d e f a:V)(h:Hp):Prop:=bO .lss 3 a f (dX 1 e a h λk=>dN 5 j h λl=>oP (gD 1 l k) λm=>fm (gK 1 m (V.I (-1)) h) λs r=>oP (eo .add 3 a nO) λn=>i [j,o,p,q,b,c,d,e,f,n] r) (nr C Q g [j,o,p,q,b,c,d] h)
theorem B3{C Q a}(I)(s:S10 I (uQ C Q a)){k l h}(i:I k l h)(e:l.length=10:=by rfl):uR C Q a l h:=JV.l10 I _ s i e
def uf(C:fu)(Q:fy)(i:LP)(s:LP)(N P R T j f k l m n o p q b:V)(h:Hp):Prop:=bO .lss 3 b q (dX 1 p b h λc=>dX 1 P c h λa=>oP (fx true a) λb5=>oP (gV b5 (some N)) λt=>oP (fx true a) λb6=>oP (gV b6 (ij t)) λu=>oP (fx true a) λb7=>oP (gV b7 (fH 0 u)) λv=>oP (fx true a) λb8=>oP (gV b8 (fH 3 v)) λw=>oP (fx true a) λb9=>oP (gV b9 (ez w h)) λx=>oP (fx true a) λU=>oP (gV U (some c)) λy=>oP (fx true a) λW=>oP (gV W (gD 6 x y)) λz=>oP (fx true a) λX=>oP (gV X (fH 3 z)) λA=>oP (fx true a) λY=>oP (gV Y (ez A h)) λB=>oP (fx true a) λZ=>oP (gV Z (some j)) λD=>oP (fx true a) λaa=>oP (gC aa (some (kF,[B,D]))) λab=>qB C ab h λE h1=>oP (iO a E bF) λF=>bP F (wU (jt 3 1 1 nZ [(0,b)]) h1 λo2 G S=>oP (gD 1 R c) λd=>oP (ez d S) λe=>wU (jt 3 1 1 nZ [(0,e)]) S λr H I=>((I.get (S.next)=some r/\O.beq r r=true)/\((ez d I=some e)/\((I.get (h1.next)=some o2/\O.beq o2 o2=true)/\fm (fe 3 1 8 k G I) λJ K=>(I.next<=K.next/\((K.get (S.next)=some r/\O.beq r r=true)/\((ez d K=some e)/\fm (fe 3 1 8 l H K) λL h5=>(K.next<=h5.next/\ny C Q i s [N,P,R,T,j,f,J,L,m,n,o,p,q,b] h5)))))))) (ny C Q i s [N,P,R,T,j,f,k,l,m,n,o,p,q,b] h1)) (dF 0 f h λg=>oP (fF g) λM=>ur C Q i [N,P,R,T,f,k,l,m,n,o,g,M,nZ] h)
theorem B0{C Q a}(I)(s:S14 I (uf C Q a)){k l h}(i:I k l h)(e:l.length=14:=by rfl):uJ C Q a l h:=JV.l14 I _ s i e
def ud(C:fu)(Q:fy)(i:LP)(k l j b a:V)(h:Hp):Prop:=bO .lss 3 a b (dI 6 j a 3 h λc=>oP (fF c) λd=>uG C Q i [k,l,j,a,b,a,c,d,nZ] h) (oP (ij k) λe=>oP (fH 0 e) λf=>oP (fH 3 f) λg=>fm (gK 1 g j h) λn m=>Q (V.tuple []) m)
theorem Cf{C Q}(I)(s:S5 I (ud C Q)){k l h}(i:I k l h)(e:l.length=5:=by rfl):uj C Q l h:=JV.l5 I _ s i e
def nq(C:fu)(Q:fy)(b:LP)(f g i j c d e:V)(h:Hp):Prop:=oP (eo .add 3 e nO) λa=>b [f,g,i,j,c,d,a] h
theorem tD{C Q a}:R7 (nq C Q a) (nr C Q a):=JV.r7 _
def kZ(C:fu)(Q:fy)(n:LP)(b:LP)(o p q r c d e f g i j k l m:V)(h:Hp):Prop:=oP (eo .add 3 m nO) λa=>b [o,p,q,r,c,d,e,f,g,i,j,k,l,a] h
theorem nz{C Q a b}:R14 (kZ C Q a b) (ny C Q a b):=JV.r14 _
def ux(C:fu)(Q:fy)(g:LP)(m:LP)(x y z A d e i j k l b c a:V)(h:Hp):Prop:=bO .lss 3 a c (dX 1 b a h λn=>oP (ij x) λo=>oP (fH 0 o) λp=>dF 2 p h λq=>oP (gD 6 q n) λf=>dN 0 f h λr=>bO .eql 3 r (V.I 21) (oP (fF e) λs=>um C Q g m [x,y,z,A,d,e,i,f,nS,j,k,l,b,c,a,e,s,nZ] h) (nH C Q g m [x,y,z,A,d,e,i,j,k,l,b,c,a] h)) (oP (fH 4 d) λt=>fm (gK 1 t i h) λF B=>oP (gg 6 d B) λu=>ik (jt 50 6 1 (V.agg [nS,nZ,nZ,nS,nS,nZ]) [(0,u)]) B λv D=>fm (fe 50 6 96 A v D) λw E=>nr C Q g [x,y,z,w,j,k,l] E)
theorem B7{C Q a}(I)(s:S13 I (ux C Q a)){k l h}(i:I k l h)(e:l.length=13:=by rfl):ur C Q a l h:=JV.l13 I _ s i e
def ug(C:fu)(Q:fy)(n:LP)(o:LP)(r p q f b c d e a:V)(h:Hp):Prop:=bO .lss 3 a e (dX 1 d a h λg=>dI 6 q f 3 h λi=>dX 1 p g h λj=>oP (gD 1 i a) λk=>fm (gK 1 k j h) λt s=>(h.next<=s.next/\oP (eo .add 3 a nO) λl=>o [r,p,q,f,b,c,d,e,l] s)) (oP (eo .add 3 c nO) λm=>n [r,p,q,b,m] h)
theorem BW{C Q a}(I)(s:S9 I (ug C Q a)){k l h}(i:I k l h)(e:l.length=9:=by rfl):uG C Q a l h:=JV.l9 I _ s i e
def uq(C:fu)(Q:fy)(x:LP)(y:LP)(z:LP)(A B D E i j k g l m n o b c d e f a:V)(h:Hp):Prop:=bO .lss 3 a f (dX 1 e a h λp=>dN 4 g h λq=>dX 1 q p h λr=>ik (jt 3 1 1 nZ [(0,r)]) h λs F=>fm (fe 3 1 8 l s F) λt G=>oP (eo .add 3 a nO) λu=>z [A,B,D,E,i,j,k,g,t,m,n,o,b,c,d,e,f,u] G) (oP (ij g) λv=>oP (fH 4 v) λw=>fm (gK 1 w l h) λI H=>nH C Q x y [A,B,D,E,i,j,k,m,n,o,b,c,d] H)
theorem Cn{C Q a b}(I)(s:S18 I (uq C Q a b)){k l h}(i:I k l h)(e:l.length=18:=by rfl):um C Q a b l h:=JV.l18 I _ s i e
def ni(C:fu)(Q:fy)(m:LP)(e:LP)(n o p q f g i j k l a b c:V)(h:Hp):Prop:=oP (eo .add 3 c nO) λd=>e [n,o,p,q,f,g,i,j,k,l,a,b,d] h
theorem tx{C Q a b}:R13 (ni C Q a b) (nH C Q a b):=JV.r13 _
def xL(C:fu)(Q:fy)(a0:V)(h:Hp):Prop:=oP (ij a0) λc=>oP (fH 0 c) λd=>dG 3 d h λa=>ik (ig 4 1 1 bF a a) h λe k=>oP (ij a0) λf=>oP (fH 0 f) λg=>oP (gg 5 g k) λi=>cP C qe [i] k λb l=>oP (fF b) λj=>uY C Q [a0,e,b,j,nZ] l
theorem Fc{C}(s:C.start=fR){a0 h Q}(k:C.K na [a0] h=none)(H:xL C Q a0 h):cP C na [a0] h Q:=cP.vd t49 s (by unfold P0;exact Tryd.func49) k H
def t75:List (Nat×List Nat):=[(43,[0,1,5])]
def wY(C:fu)(Q:fy):LP:=JV C Tryd.f75 t75 21 [0,1,5] [] Q
def xg(C:fu)(Q:fy)(fS:LP)(a b y:V)(h:Hp):Prop:=dN 5 a h λz=>dX 1 z b h λc=>oP (eo .geq 3 c nZ) λd=>oP (jZ d (oB (some a) λe=>oB (ij e) λf=>oB (fH 5 f) λg=>oB (ez g h) λi=>oB (some b) λj=>oB (gD 1 i j) λk=>oB (ez k h) λl=>oB (some b) λm=>eo .neq 3 l m)) λn=>oP (jZ n (oB (some y) λo=>oB (some a) λp=>oB (ij p) λq=>oB (fH 5 q) λr=>oB (ez r h) λs=>oB (fF s) λt=>eo .leq 3 o t)) λu=>bP u (dN 5 a h λv=>dX 1 v b h λw=>oP (eo .add 3 y nO) λx=>fS [a,w,x] h) (Q b h)
theorem Ep{C Q}(I)(s:S3 I (xg C Q)){k l h}(i:I k l h)(e:l.length=3:=by rfl):wY C Q l h:=JV.l3 I _ s i e
def Ad(C:fu)(Q:fy)(a0 a1:V)(h:Hp):Prop:=wY C Q [a0,a1,nZ] h
theorem HY{C}(s:C.start=fR){a0 a1 h Q}(k:C.K jo [a0,a1] h=none)(H:Ad C Q a0 a1 h):cP C jo [a0,a1] h Q:=cP.vd t75 s (by unfold P0;exact Tryd.func75) k H
def t50:List (Nat×List Nat):=[(351,[1,2,3,4,5,41,42]),(353887,[1,2,3,4,5,6,7,41,42,53,54,55]),(5631,[1,2,3,4,11,12,96,97,98]),(7956062,[1,2,3,4,5,6,7,41,42,53,54,55]),(1992190,[1,2,3,4,11,12,15,96,97,98]),(11263,[1,2,3,4,12,165,166,167]),(4089342,[1,2,3,4,11,12,15,96,97,98]),(1887230,[1,2,3,4,12,17,165,166,167]),(8283646,[1,2,3,4,11,12,15,96,97,98]),(16672254,[1,2,3,4,11,12,15,96,97,98])]
def tk(C:fu)(Q:fy):LP:=JV C Tryd.f50 t50 175 [1,2,3,4,5,41,42] [] Q
def tI(C:fu)(Q:fy)(fS:LP):LP:=JV C Tryd.f50 t50 176943 [1,2,3,4,5,6,7,41,42,53,54,55] [kf [1,2,3,4,5,41,42] fS] Q
def lg(C:fu)(Q:fy):LP:=JV C Tryd.f50 t50 2815 [1,2,3,4,11,12,96,97,98] [] Q
def mN(C:fu)(Q:fy)(fS:LP)(a:LP):LP:=JV C Tryd.f50 t50 3978031 [1,2,3,4,5,6,7,41,42,53,54,55] [kf [1,2,3,4,5,41,42] fS,kf [1,2,3,4,5,6,7,41,42,53,54,55] a] Q
def kH(C:fu)(Q:fy)(a:LP):LP:=JV C Tryd.f50 t50 996095 [1,2,3,4,11,12,15,96,97,98] [kf [1,2,3,4,11,12,96,97,98] a] Q
def kY(C:fu)(Q:fy):LP:=JV C Tryd.f50 t50 5631 [1,2,3,4,12,165,166,167] [] Q
def kK(C:fu)(Q:fy)(a:LP):LP:=JV C Tryd.f50 t50 2044671 [1,2,3,4,11,12,15,96,97,98] [kf [1,2,3,4,11,12,96,97,98] a] Q
def jB(C:fu)(Q:fy)(a:LP):LP:=JV C Tryd.f50 t50 943615 [1,2,3,4,12,17,165,166,167] [kf [1,2,3,4,12,165,166,167] a] Q
def kG(C:fu)(Q:fy)(a:LP):LP:=JV C Tryd.f50 t50 4141823 [1,2,3,4,11,12,15,96,97,98] [kf [1,2,3,4,11,12,96,97,98] a] Q
def kJ(C:fu)(Q:fy)(a:LP):LP:=JV C Tryd.f50 t50 8336127 [1,2,3,4,11,12,15,96,97,98] [kf [1,2,3,4,11,12,96,97,98] a] Q
def tC(C:fu)(Q:fy)(fS:LP)(c r g i j d a:V)(h:Hp):Prop:=bO .lss 3 a d (oP (ez c h) λk=>oP (ij k) λm=>oP (fH 0 m) λn=>dJ 3 n 6 a 0 h λe=>oP (fF e) λo=>tI C Q fS [c,r,g,i,j,a,nS,d,a,e,o,nZ] h) (ik (some (.map [] 0,λl=> .map l)) h λp t=>ik (zC 114 [V.lZ]) t λf u=>fm (gK 1 f p u) λy v=>ik (zC 115 [V.nilFunc]) v λb w=>fm (gK 1 b (V.func iA [] [i,c]) w) λs x=>oP (fF j) λq=>lg C Q [c,r,g,i,b,(V.func fO [] [f,g,c,b]),j,q,nZ] x)
theorem Bp{C Q}(I)(s:S7 I (tC C Q)){k l h}(i:I k l h)(e:l.length=7:=by rfl):tk C Q l h:=JV.l7 I _ s i e
def tK(C:fu)(Q:fy)(fS:LP)(g:LP)(i l m k j n o c d e f a:V)(h:Hp):Prop:=bO .lss 3 a f (dX 1 e a h λb=>oP (ez i h) λp=>dN 5 p h λq=>dX 1 q b h λr=>bO .eql 3 r b (oP (ez k h) λs=>oP (fF j) λt=>oP (gD 1 s b) λu=>fm (gK 1 u t h) λP J=>oP (fF j) λv=>ik (jt 3 1 1 nZ [(0,v)]) J λw K=>fm (fe 3 1 8 o w K) λx L=>ik (jt 3 1 1 nZ [(0,b)]) L λy M=>fm (fe 3 1 8 j y M) λz N=>mN C Q fS g [i,l,m,k,z,n,x,c,d,e,f,a] N) (mN C Q fS g [i,l,m,k,j,n,o,c,d,e,f,a] h)) (oP (ez i h) λA=>oP (ij A) λB=>oP (fH 0 B) λD=>dF 3 D h λE=>oP (gD 6 E n) λF=>oP (fH 0 F) λG=>fm (gK 1 G o h) λI O=>oP (eo .add 3 d nO) λH=>fS [i,l,m,k,j,c,H] O)
theorem BF{C Q fS}(I)(s:S12 I (tK C Q fS)){k l h}(i:I k l h)(e:l.length=12:=by rfl):tI C Q fS l h:=JV.l12 I _ s i e
def tB(C:fu)(Q:fy)(k:LP)(i H I l m e f g b:V)(h:Hp):Prop:=bO .lss 3 b g (dX 1 f b h λn=>oP (ez i h) λo=>oP (ij o) λp=>oP (fH 0 p) λq=>dF 2 q h λr=>oP (gD 6 r n) λs=>oP (gg 6 s h) λt=>ik (zC 46 [nZ,nZ,nZ,nZ,nS,nZ]) h λa M=>fm (gK 6 a t M) λN J=>dF 0 a J λu=>cP C uT [u] J λv j=>bO .gtr 3 v nZ (oP (ez l j) λc=>oP (ez i j) λw=>dF 1 a j λx=>cP C jo [w,x] j λy z=>(j.next<=z.next/\dX 1 c y z λA=>oP (fH 1 a) λB=>((ez l z=some c)/\fm (gK 1 B A z) λK L=>(z.next<=L.next/\kH C Q k [i,H,I,l,m,e,a,f,g,b] L)))) (kH C Q k [i,H,I,l,m,e,a,f,g,b] j)) (oP (ez i h) λD=>oP (ij D) λE=>oP (fH 0 E) λF=>dF 3 F h λd=>oP (fF d) λG=>kY C Q [i,H,I,l,e,d,G,nZ] h)
theorem BG{C Q}(I)(s:S9 I (tB C Q)){k l h}(i:I k l h)(e:l.length=9:=by rfl):lg C Q l h:=JV.l9 I _ s i e
def mM(C:fu)(Q:fy)(fS:LP)(a:LP)(i j k l m n o b c d e f:V)(h:Hp):Prop:=oP (eo .add 3 f nO) λg=>a [i,j,k,l,m,n,o,b,c,d,e,g] h
theorem ry{C Q fS a}:R12 (mM C Q fS a) (mN C Q fS a):=JV.r12 _
def rD(C:fu)(Q:fy)(d:LP)(t u v s e f a g i j:V)(h:Hp):Prop:=dF 0 a h λk=>cP C uT [k] h λl c=>bO .gtr 3 l nO (oP (ez s c) λb=>oP (ez t c) λm=>dF 2 a c λn=>cP C jo [m,n] c λo p=>(c.next<=p.next/\dX 1 b o p λq=>oP (fH 2 a) λr=>((ez s p=some b)/\fm (gK 1 r q p) λx w=>(p.next<=w.next/\kK C Q d [t,u,v,s,e,f,a,g,i,j] w)))) (kK C Q d [t,u,v,s,e,f,a,g,i,j] c)
theorem Aw{C Q a}:DL (rD C Q a) (kH C Q a):=JV.Vs _
def tg(C:fu)(Q:fy)(j:LP)(y k z l e c d b:V)(h:Hp):Prop:=bO .lss 3 b d (oP (gD 6 c b) λm=>oP (gg 6 m h) λn=>ik (zC 50 [nS,nZ,nZ,nS,nS,nZ]) h λa G=>fm (gK 6 a n G) λK f=>dF 1 a f λg=>bO .eql 3 g (V.I 2) (oP (ez l f) λi=>oP (ez y f) λo=>dF 2 a f λp=>cP C jo [o,p] f λq r=>(f.next<=r.next/\dX 1 i q r λs=>oP (fH 2 a) λt=>((ez l r=some i)/\fm (gK 1 t s r) λA B=>(r.next<=B.next/\jB C Q j [y,k,z,l,e,a,c,d,b] B)))) (bO .eql 3 g (V.I 3) (dF 5 a f λu=>ic C (gh e [u]) f λv H=>oP (fH 5 a) λw=>fm (gK 1 w v H) λD I=>jB C Q j [y,k,z,l,e,a,c,d,b] I) (jB C Q j [y,k,z,l,e,a,c,d,b] f))) (oP (gg 5 z h) λx=>fm (gK 5 k x h) λE F=>oP (gg 5 k F) λJ=>Q J F)
theorem Bl{C Q}(I)(s:S8 I (tg C Q)){k l h}(i:I k l h)(e:l.length=8:=by rfl):kY C Q l h:=JV.l8 I _ s i e
def rN(C:fu)(Q:fy)(c:LP)(p q r s b d a e f g:V)(h:Hp):Prop:=dF 0 a h λi=>oP (eo .eql 3 i (V.I 21)) λj=>oP (oD j (oB (fH 0 a) λk=>oB (ez k h) λl=>eo .eql 3 l (V.I 20))) λm=>bP m (oP (ez b h) λn=>dF 4 a h λo=>ic C (gh n [o]) h λt u=>kG C Q c [p,q,r,s,b,d,a,e,f,g] u) (kG C Q c [p,q,r,s,b,d,a,e,f,g] h)
theorem Ax{C Q a}:DL (rN C Q a) (kK C Q a):=JV.Vs _
def rS(C:fu)(Q:fy)(k:LP)(o p l q m n a b c:V)(h:Hp):Prop:=dF 3 l h λd=>oP (gg 6 n h) λe=>ik (jt 50 6 1 (V.agg [nS,nZ,nZ,nS,nS,nZ]) [(0,e)]) h λf r=>fm (fe 50 6 96 d f r) λg s=>oP (fH 3 l) λi=>fm (gK 1 i g s) λu t=>oP (eo .add 3 c nO) λj=>k [o,p,l,q,m,a,b,j] t
theorem Ak{C Q a}:R9 (rS C Q a) (jB C Q a):=JV.r9 _
def rM(C:fu)(Q:fy)(c:LP)(o p q r d b a e f g:V)(h:Hp):Prop:=dF 0 a h λi=>cP C oO [i] h λj n=>bP j (dF 5 a n λk=>ic C (gh b [k]) n λl s=>oP (fH 5 a) λm=>fm (gK 1 m l s) λu t=>kJ C Q c [o,p,q,r,d,b,a,e,f,g] t) (kJ C Q c [o,p,q,r,d,b,a,e,f,g] n)
theorem AT{C Q a}:DL (rM C Q a) (kG C Q a):=JV.Vs _
def rk(C:fu)(Q:fy)(g:LP)(p q i r j k l m n o:V)(h:Hp):Prop:=dF 2 i h λa=>oP (gg 6 l h) λb=>ik (jt 46 6 1 (V.agg [nZ,nZ,nZ,nZ,nS,nZ]) [(0,b)]) h λc s=>fm (fe 46 6 64 a c s) λd t=>oP (fH 2 i) λe=>fm (gK 1 e d t) λv u=>oP (eo .add 3 o nO) λf=>g [p,q,i,r,j,k,m,n,f] u
theorem AO{C Q a}:DL (rk C Q a) (kJ C Q a):=JV.Vs _
def w9(C:fu)(Q:fy)(a0:V)(h:Hp):Prop:=ik (m0 94 a0) h λa F=>ik (zC 30 [nZ,nZ,nS,nS,nS]) F λG d=>oP (ez a d) λe=>oP (ij e) λn=>oP (fH 0 n) λo=>oP (fH 0 o) λf=>oP (ez f d) λg=>oP (ez a d) λi=>oP (ij i) λp=>oP (fH 0 p) λq=>oP (fH 1 q) λj=>oP (ez j d) λk=>oP (fV [nZ,nZ,nS,nS,nS] [(0,1),(1,1),(2,1),(3,1),(4,1)] [(0,g),(1,k)]) λr=>wU (zC 30 [nZ,nZ,nS,nS,nS]) d λb B c=>((c.get (d.next)=some b/\O.beq b b=true)/\((ez j c=some k)/\((ez a c=some i)/\((ez f c=some g)/\((ez a c=some e)/\fm (gK 5 B r c) λJ m=>(c.next<=m.next/\oP (ez a m) λs=>oP (ij s) λt=>oP (fH 0 t) λu=>dG 2 u m λl=>ik (ig 3 1 8 nZ l l) m λv H=>ik (zC 22 [nS]) H λD I=>fm (gK 1 D v I) λE w=>oP (ez a w) λx=>oP (ij x) λy=>oP (fH 0 y) λz=>dG 3 z w λA=>tk C Q [a,G,B,D,nS,A,nZ] w))))))
theorem Eg{C}(s:C.start=fR){a0 h Q}(k:C.K kM [a0] h=none)(H:w9 C Q a0 h):cP C kM [a0] h Q:=cP.vd t50 s (by unfold P0;exact Tryd.func50) k H
def t74:List (Nat×List Nat):=[(11,[0,1,2,6,7,8])]
def qu(C:fu)(Q:fy):LP:=JV C Tryd.f74 t74 5 [0,1,2,6,7,8] [] Q
def qx(C:fu)(Q:fy)(fS:LP)(l d m n o c:V)(h:Hp):Prop:=bO .lss 3 c o (dX 1 n c h λe=>oP (ez d h) λa=>oP (ez m h) λf=>cP C jo [f,e] h λg b=>(h.next<=b.next/\dX 1 a g b λi=>oP (gD 1 l c) λj=>((ez d b=some a)/\fm (gK 1 j i b) λq p=>(b.next<=p.next/\oP (eo .add 3 c nO) λk=>fS [l,d,m,n,o,k] p)))) (Q (V.tuple []) h)
theorem z7{C Q}(I)(s:S6 I (qx C Q)){k l h}(i:I k l h)(e:l.length=6:=by rfl):qu C Q l h:=JV.l6 I _ s i e
def uy(C:fu)(Q:fy)(a0 a1 a2:V)(h:Hp):Prop:=oP (fF a0) λa=>qu C Q [a0,a1,a2,a0,a,nZ] h
theorem BX{C}(s:C.start=fR){a0 a1 a2 h Q}(k:C.K iA [a0,a1,a2] h=none)(H:uy C Q a0 a1 a2 h):cP C iA [a0,a1,a2] h Q:=cP.vd t74 s (by unfold P0;exact Tryd.func74) k H
def t76:List (Nat×List Nat):=[(2775,[0,2,3,4,7,33,34,35]),(30,[7])]
def qy(C:fu)(Q:fy):LP:=JV C Tryd.f76 t76 1387 [0,2,3,4,7,33,34,35] [] Q
def my(C:fu)(Q:fy):LP:=JV C Tryd.f76 t76 15 [7] [] Q
def ql(C:fu)(Q:fy)(fS:LP)(H o p q I e f a:V)(h:Hp):Prop:=bO .lss 3 a f (oP (gD 4 e a) λr=>oP (gg 4 r h) λs=>ik (zC 57 [nZ,nZ,nS,nS]) h λb L=>fm (gK 4 b s L) λR t=>oP (ez q t) λu=>dF 2 b t λv=>ic C (gh u [v]) t λM w=>oP (ez q w) λx=>dF 3 b w λy=>ic C (gh x [y]) w λN P=>oP (eo .add 3 a nO) λz=>fS [H,o,p,q,I,e,f,z] P) (oP (fH 4 o) λg=>oP (ez g h) λi=>oP (ez p h) λj=>oP (ij j) λA=>oP (fH 0 A) λB=>oP (fH 4 B) λk=>oP (ez k h) λl=>oP (gD 1 l H) λm=>oP (gg 1 m h) λn=>wU (jt 60 1 1 (V.agg [nS]) [(0,n)]) h λc D d=>((d.get (h.next)=some c/\O.beq c c=true)/\((gg 1 m d=some n)/\((ez k d=some l)/\((ez p d=some j)/\((ez g d=some i)/\fm (fe 60 1 24 i D d) λE F=>(d.next<=F.next/\oP (fH 4 o) λG=>fm (gK 1 G E F) λJ K=>(F.next<=K.next/\my C Q [I] K))))))))
theorem zH{C Q}(I)(s:S8 I (ql C Q)){k l h}(i:I k l h)(e:l.length=8:=by rfl):qy C Q l h:=JV.l8 I _ s i e
def mG(C:fu)(Q:fy)(a:V)(h:Hp):Prop:=Q a h
theorem qo{C Q}:R1 (mG C Q) (my C Q):=JV.r1 _
def uB(C:fu)(Q:fy)(a0 a1 a2 a3 a4:V)(h:Hp):Prop:=oP (ez a1 h) λd=>oP (Ty 3 none nZ true d a0 h) λa=>oP (Hk 0 a) λe=>oP (Hk 1 a) λf=>bN f (dG 4 a2 h λb=>oP (ez a1 h) λg=>fm (Nf 3 none g a0 b h) λn i=>oP (ez a3 i) λj=>oP (ij j) λk=>oP (fH 0 k) λl=>dJ 4 l 1 a0 0 i λc=>oP (fF c) λm=>qy C Q [a0,a2,a3,a4,b,c,m,nZ] i) (my C Q [e] h)
theorem Cg{C}(s:C.start=fR){a0 a1 a2 a3 a4 h Q}(k:C.K fO [a0,a1,a2,a3,a4] h=none)(H:uB C Q a0 a1 a2 a3 a4 h):cP C fO [a0,a1,a2,a3,a4] h Q:=cP.vd t76 s (by unfold P0;exact Tryd.func76) k H
def t17:List (Nat×List Nat):=[(87,[3,10,11])]
def G2(C:fu)(Q:fy):LP:=JV C Tryd.f17 t17 43 [3,10,11] [] Q
def GM(C:fu)(Q:fy)(fS:LP)(c b a:V)(h:Hp):Prop:=bO .lss 3 a b (oP (gD 1 c a) λd=>fm (gK 1 d a h) λg f=>oP (eo .add 3 a nO) λe=>fS [c,b,e] f) (Q c h)
theorem Nm{C Q}(I)(s:S3 I (GM C Q)){k l h}(i:I k l h)(e:l.length=3:=by rfl):G2 C Q l h:=JV.l3 I _ s i e
def L2(C:fu)(Q:fy)(a0:V)(h:Hp):Prop:=ik (m0 30 a0) h λe b=>dG 2 e b λc=>ik (ig 3 1 8 nZ c c) b λd f=>oP (fF d) λa=>G2 C Q [d,a,nZ] f
theorem SA{C}(s:C.start=fR){a0 h Q}(k:C.K DA [a0] h=none)(H:L2 C Q a0 h):cP C DA [a0] h Q:=cP.vd t17 s (by unfold P0;exact Tryd.func17) k H
def t73:List (Nat×List Nat):=[]
def rr(C:fu)(Q:fy)(a0 a1:V)(h:Hp):Prop:=cP C oJ [a0,a1] h λa b=>oP (eo .geq 3 a nZ) λc=>Q c b
theorem Ar{C}(s:C.start=fR){a0 a1 h Q}(k:C.K kF [a0,a1] h=none)(H:rr C Q a0 a1 h):cP C kF [a0,a1] h Q:=cP.vd t73 s (by unfold P0;exact Tryd.func73) k H
def t82:List (Nat×List Nat):=[(43,[0,1,7,8])]
def sh(C:fu)(Q:fy):LP:=JV C Tryd.f82 t82 21 [0,1,7,8] [] Q
def rl(C:fu)(Q:fy)(fS:LP)(d e f a:V)(h:Hp):Prop:=bO .lss 3 a f (dX 1 d a h λb=>bO .eql 3 e b (Q a h) (oP (eo .add 3 a nO) λc=>fS [d,e,f,c] h)) (Q (V.I (-1)) h)
theorem AG{C Q}(I)(s:S4 I (rl C Q)){k l h}(i:I k l h)(e:l.length=4:=by rfl):sh C Q l h:=JV.l4 I _ s i e
def wj(C:fu)(Q:fy)(a0 a1:V)(h:Hp):Prop:=oP (fF a0) λa=>sh C Q [a0,a1,a,nZ] h
theorem DJ{C}(s:C.start=fR){a0 a1 h Q}(k:C.K oJ [a0,a1] h=none)(H:wj C Q a0 a1 h):cP C oJ [a0,a1] h Q:=cP.vd t82 s (by unfold P0;exact Tryd.func82) k H
end
