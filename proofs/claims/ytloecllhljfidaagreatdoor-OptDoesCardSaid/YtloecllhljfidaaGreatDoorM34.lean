/- Parts. -/
import Derived.Test.YtloecllhljfidaaGreatDoorM14
set_option maxHeartbeats 4000000
namespace Go.Proofs.YtloecllhljfidaaGreatDoor.Hx
variable{Q:fq}{h:Hp}{a0 a1:V}
set_option maxRecDepth 100000
noncomputable section
def t19:List (Nat×List Nat):=[(87,[1,2,3,19,20,21]),(175,[1,2,3,38,39,40]),(351,[2,3,67,68,69]),(353887,[2,3,10,67,68,69,74,75,76])]
def I3(Q:fq):LP:=JV CS Tryz.f19 t19 43 [1,2,3,19,20,21] [] Q
def I0(Q:fq):LP:=JV CS Tryz.f19 t19 87 [1,2,3,38,39,40] [] Q
def Jd(Q:fq):LP:=JV CS Tryz.f19 t19 175 [2,3,67,68,69] [] Q
def IY(Q:fq)(a:LP):LP:=JV CS Tryz.f19 t19 176943 [2,3,10,67,68,69,74,75,76] [kf [2,3,67,68,69] a] Q
def Jn(Q:fq)(fy:LP)(g w e b c a:V)(h:Hp):Prop:=bO .lss 3 a c (oP (gB 6 b a) λi=>oP (fO 6 i h) λj=>gS (zC 45 [nZ,nZ,nZ,nZ,nS,nZ]) h λf A=>fj (gq 6 f j A) λG B=>gS (iS 3 1 0 nZ []) B λk x=>dF 4 f x λl=>fj (fi 3 1 8 k l x) λm C=>oP (fI 4 f) λn=>fj (gq 1 n m C) λy o=>dF 2 e o λp=>oP (fO 6 f o) λq=>gS (iS 45 6 1 (V.agg [nZ,nZ,nZ,nZ,nS,nZ]) [(0,q)]) o λr D=>fj (fi 45 6 64 p r D) λs E=>oP (fI 2 e) λt=>fj (gq 1 t s E) λz F=>oP (ez .add 3 a nO) λu=>fy [g,w,e,b,c,u] F) (dF 3 g h λd=>oP (fE d) λv=>I0 Q [g,w,e,d,v,nZ] h)
theorem PB{Q}:LN 6 (Jn Q) (I3 Q):=JV.lm 6 _
def Jg(Q:fq)(w:LP)(Y Z u n o e:V)(h:Hp):Prop:=bO .lss 3 e o (oP (gB 6 n e) λx=>oP (fO 6 x h) λy=>gS (zC 43 [nS,nZ,nZ,nS,nS,nZ]) h λc h1=>fj (gq 6 c y h1) λvu h2=>xB (iS 3 1 0 nZ []) h2 λz A v=>oP (fI 0 c) λp=>oP (fe p v) λq=>xB (iS 3 1 0 nZ []) v λm B r=>oP (fI 3 c) λf=>oP (fe f r) λg=>xB (iS 3 1 0 nZ []) r λa C d=>oP (fI 4 c) λi=>oP (fe i d) λj=>((d.get (r.next)=some a/\O.beq a a=true)/\((fe f d=some g)/\((d.get (v.next)=some m/\O.beq m m=true)/\((fe p d=some q)/\((d.get (h2.next)=some z/\O.beq z z=true)/\fj (fi 3 1 8 A q d) λD k=>(d.next<=k.next/\oP (fI 0 c) λE=>((fe i k=some j)/\((k.get (r.next)=some a/\O.beq a a=true)/\((fe f k=some g)/\((k.get (v.next)=some m/\O.beq m m=true)/\fj (fi 3 1 8 B g k) λF s=>(k.next<=s.next/\((fe i s=some j)/\((s.get (r.next)=some a/\O.beq a a=true)/\fj (fi 3 1 8 C j s) λG H=>(s.next<=H.next/\fj (gq 1 E D H) λaa I=>(H.next<=I.next/\oP (fI 3 c) λJ=>fj (gq 1 J F I) λab l=>(I.next<=l.next/\oP (fI 4 c) λK=>fj (gq 1 K G l) λac b=>(l.next<=b.next/\dF 3 u b λL=>oP (fO 6 c b) λM=>gS (iS 43 6 1 (V.agg [nS,nZ,nZ,nS,nS,nZ]) [(0,M)]) b λN P=>fj (fi 43 6 96 L N P) λR S=>oP (fI 3 u) λT=>fj (gq 1 T R S) λad U=>oP (ez .add 3 e nO) λW=>w [Y,Z,u,n,o,W] U)))))))))))))))))) (dF 4 Y h λt=>oP (fE t) λX=>Jd Q [Z,u,t,X,nZ] h)
theorem PA{Q}:LN 6 (Jg Q) (I0 Q):=JV.lm 6 _
def Jh(Q:fq)(f:LP)(g m b c a:V)(h:Hp):Prop:=bO .lss 3 a c (oP (gB 1 b a) λi=>oP (fO 1 i h) λj=>gS (zC 52 [nS]) h λn r=>fj (gq 1 n j r) λu s=>gS (zC 52 [nS]) s λk o=>dF 0 n o λd=>oP (fE d) λl=>IY Q f [g,m,k,b,c,a,d,l,nZ] o) (oP (fO 5 m h) λe=>fj (gq 5 g e h) λp q=>oP (fO 5 g q) λt=>Q t q)
theorem PE{Q}:LN 5 (Jh Q) (Jd Q):=JV.lm 5 _
def Jq(Q:fq)(x:LP)(y:LP)(x2 u b f g i j k c:V)(h:Hp):Prop:=bO .lss 3 c k (oP (gB 4 j c) λz=>oP (fO 4 z h) λA=>gS (zC 49 [nZ,nZ,nS,nS]) h λa h1=>fj (gq 4 a A h1) λvu h2=>xB (iS 3 1 0 nZ []) h2 λB C v=>oP (fI 2 a) λl=>oP (fe l v) λm=>xB (iS 3 1 0 nZ []) v λd D e=>oP (fI 3 a) λn=>oP (fe n e) λo=>((e.get (v.next)=some d/\O.beq d d=true)/\((fe l e=some m)/\((e.get (h2.next)=some B/\O.beq B B=true)/\fj (fi 3 1 8 C m e) λE p=>(e.next<=p.next/\oP (fI 2 a) λF=>((fe n p=some o)/\((p.get (v.next)=some d/\O.beq d d=true)/\fj (fi 3 1 8 D o p) λG H=>(p.next<=H.next/\fj (gq 1 F E H) λaa I=>(H.next<=I.next/\oP (fI 3 a) λJ=>fj (gq 1 J G I) λab w=>(I.next<=w.next/\dF 0 b w λK=>oP (fO 4 a w) λL=>gS (iS 49 4 1 (V.agg [nZ,nZ,nS,nS]) [(0,L)]) w λM h9=>fj (fi 49 4 64 K M h9) λN P=>oP (fI 0 b) λR=>fj (gq 1 R N P) λac S=>oP (ez .add 3 c nO) λT=>y [x2,u,b,f,g,i,j,k,T] S)))))))))) (dF 4 u h λU=>oP (fO 1 b h) λW=>gS (iS 52 1 1 (V.agg [nS]) [(0,W)]) h λq X=>fj (fi 52 1 24 U q X) λr Y=>oP (fI 4 u) λs=>fj (gq 1 s r Y) λad Z=>oP (ez .add 3 i nO) λt=>x [x2,u,f,g,t] Z)
theorem Ph{Q a}:LN 9 (Jq Q a) (IY Q a):=JV.lm 9 _
theorem Vi(H:gS (mi 30 a0) h λb k=>gS (zC 30 [nZ,nZ,nS,nS,nS]) k λl c=>dF 0 b c λd=>dF 1 b c λe=>oP (fT [nZ,nZ,nS,nS,nS] [(0,1),(1,1),(2,1),(3,1),(4,1)] [(0,d),(1,e)]) λf=>gS (zC 30 [nZ,nZ,nS,nS,nS]) c λi m=>fj (gq 5 i f m) λn j=>dF 2 b j λa=>oP (fE a) λg=>I3 Q [b,l,i,a,g,nZ] j):cP CS pZ [a0] h Q:=cP.ve t19 Tryz.func19 H
theorem UU(H:gS (mi 30 a0) h λf g=>gS (zC 30 [nZ,nZ,nS,nS,nS]) g λc d=>oP (fO 5 f d) λi=>cP CS pZ [i] d λj k=>oP (fT [nZ,nZ,nS,nS,nS,nS] [(0,5),(5,1)] [(0,j),(1,a1)]) λl=>gS (mi 124 l) k λa m=>cP CS rW [a] m λn o=>cP CS mW [a] o λb p=>fj (gq 5 c b p) λr e=>oP (fO 5 c e) λq=>Q q e):cP CS rP [a0,a1] h Q:=cP.ve [] Tryz.func41 H
def t73:List (Nat×List Nat):=[(43,[0,2,38,39,40]),(175,[0,2,5,6,51,52,53]),(3886,[0,2,5,6,51,52,53]),(703,[0,2,5,9,70,71,72]),(2706623,[0,2,5,9,70,71,72,83,84,85]),(2870463,[0,2,5,9,10,11,14,15,70,71,72,97,98,99]),(1407,[0,5,9,182,183]),(15550,[0,2,5,9,70,71,72]),(63687870,[0,2,5,9,10,11,14,15,70,71,72,97,98,99]),(5754047,[0,2,5,9,11,14,15,70,71,72,134,135,136]),(366975,[0,5,9,24,182,183,190,191,192]),(46063406271,[0,2,5,9,11,14,15,20,21,70,71,72,134,135,136,152,153,154]),(127388862,[0,2,5,9,11,14,15,70,71,72,134,135,136])]
def wL(Q:fq):LP:=JV CS Tryz.f73 t73 21 [0,2,38,39,40] [] Q
def wc(Q:fq):LP:=JV CS Tryz.f73 t73 87 [0,2,5,6,51,52,53] [] Q
def ou(Q:fq)(a:LP):LP:=JV CS Tryz.f73 t73 1943 [0,2,5,6,51,52,53] [kf [0,2,5,6,51,52,53] a] Q
def xi(Q:fq):LP:=JV CS Tryz.f73 t73 351 [0,2,5,9,70,71,72] [] Q
def wE(Q:fq)(a:LP):LP:=JV CS Tryz.f73 t73 1353311 [0,2,5,9,70,71,72,83,84,85] [kf [0,2,5,9,70,71,72] a] Q
def xe(Q:fq)(a:LP):LP:=JV CS Tryz.f73 t73 1435231 [0,2,5,9,10,11,14,15,70,71,72,97,98,99] [kf [0,2,5,9,70,71,72] a] Q
def xy(Q:fq):LP:=JV CS Tryz.f73 t73 703 [0,5,9,182,183] [] Q
def oA(Q:fq)(a:LP):LP:=JV CS Tryz.f73 t73 7775 [0,2,5,9,70,71,72] [kf [0,2,5,9,70,71,72] a] Q
def ot(Q:fq)(a:LP)(b:LP):LP:=JV CS Tryz.f73 t73 31843935 [0,2,5,9,10,11,14,15,70,71,72,97,98,99] [kf [0,2,5,9,70,71,72] a,kf [0,2,5,9,10,11,14,15,70,71,72,97,98,99] b] Q
def xm(Q:fq)(a:LP):LP:=JV CS Tryz.f73 t73 2877023 [0,2,5,9,11,14,15,70,71,72,134,135,136] [kf [0,2,5,9,70,71,72] a] Q
def wO(Q:fq)(a:LP):LP:=JV CS Tryz.f73 t73 183487 [0,5,9,24,182,183,190,191,192] [kf [0,5,9,182,183] a] Q
def wJ(Q:fq)(a:LP)(b:LP):LP:=JV CS Tryz.f73 t73 23031703135 [0,2,5,9,11,14,15,20,21,70,71,72,134,135,136,152,153,154] [kf [0,2,5,9,70,71,72] a,kf [0,2,5,9,11,14,15,70,71,72,134,135,136] b] Q
def og(Q:fq)(a:LP)(b:LP):LP:=JV CS Tryz.f73 t73 63694431 [0,2,5,9,11,14,15,70,71,72,134,135,136] [kf [0,2,5,9,70,71,72] a,kf [0,2,5,9,11,14,15,70,71,72,134,135,136] b] Q
def wI(Q:fq)(fy:LP)(l b c d a:V)(h:Hp):Prop:=bO .lss 3 a d (dX 1 c a h λf=>oP (gB 1 b f) λg=>fj (gq 1 g bT h) λo m=>oP (ez .add 3 a nO) λi=>fy [l,b,c,d,i] m) (oP (fE b) λe=>gS (gX 3 1 8 nZ e e) h λj n=>oP (fE b) λk=>wc Q [l,b,j,nZ,b,k,nZ] n)
theorem DM{Q}:LN 5 (wI Q) (wL Q):=JV.lm 5 _
def wm(Q:fq)(d:LP)(f i g j b c a:V)(h:Hp):Prop:=bO .lss 3 a c (dX 1 b a h λk=>bP k (oP (gB 1 g a) λl=>fj (gq 1 l j h) λr q=>oP (ez .add 3 j nO) λm=>ou Q d [f,i,g,m,b,c,a] q) (ou Q d [f,i,g,j,b,c,a] h)) (oP (gP f) λn=>oP (fI 0 n) λo=>dF 3 o h λe=>oP (fE e) λp=>xi Q [f,i,g,nS,e,p,nZ] h)
theorem DQ{Q}:LN 7 (wm Q) (wc Q):=JV.lm 7 _
def oO(Q:fq)(a:LP)(f g i j b c d:V)(h:Hp):Prop:=oP (ez .add 3 d nO) λe=>a [f,g,i,j,b,c,e] h
theorem uQ{Q a}:RV 7 (oO Q a) (ou Q a):=JV.rn 7 _
def wB(Q:fq)(e:LP)(l m n k c d a:V)(h:Hp):Prop:=bO .lss 3 a d (oP (gB 6 c a) λo=>oP (fO 6 o h) λp=>gS (zC 43 [nS,nZ,nZ,nS,nS,nZ]) h λb t=>fj (gq 6 b p t) λu f=>dX 1 m a f λq=>bN q (dF 0 b f λg=>oP (fE g) λr=>wE Q e [l,m,n,k,c,d,a,g,r,nZ] f) (dF 4 b f λi=>oP (fE i) λs=>xe Q e [l,m,n,k,a,b,nS,nS,c,d,a,i,s,nZ] f)) (oP (fE k) λj=>xy Q [l,n,k,j,nZ] h)
theorem Ec{Q}:LN 7 (wB Q) (xi Q):=JV.lm 7 _
def wS(Q:fq)(g:LP)(i:LP)(j o p q b c d e f a:V)(h:Hp):Prop:=bO .lss 3 a f (dX 1 e a h λk=>dN 5 j h λl=>oP (gB 1 l k) λm=>fj (gq 1 m (V.I (-1)) h) λs r=>oP (ez .add 3 a nO) λn=>i [j,o,p,q,b,c,d,e,f,n] r) (oA Q g [j,o,p,q,b,c,d] h)
theorem DU{Q a}:LN 10 (wS Q a) (wE Q a):=JV.lm 10 _
def wC(Q:fq)(i:LP)(s:LP)(M N P S j f k l m n o p q b:V)(h:Hp):Prop:=bO .lss 3 b q (dX 1 p b h λc=>dX 1 N c h λa=>oP (fH true a) λb5=>oP (gV b5 (some M)) λt=>oP (fH true a) λb6=>oP (gV b6 (gP t)) λu=>oP (fH true a) λb7=>oP (gV b7 (fI 0 u)) λv=>oP (fH true a) λb8=>oP (gV b8 (fI 3 v)) λw=>oP (fH true a) λb9=>oP (gV b9 (fe w h)) λx=>oP (fH true a) λT=>oP (gV T (some c)) λy=>oP (fH true a) λU=>oP (gV U (gB 6 x y)) λz=>oP (fH true a) λW=>oP (gV W (fI 3 z)) λA=>oP (fH true a) λX=>oP (gV X (fe A h)) λB=>oP (fH true a) λY=>oP (gV Y (some j)) λC=>oP (fH true a) λZ=>oP (gC Z (some (ni,[B,C]))) λaa=>vB CS aa h λD h1=>oP (jA a D bF) λE=>bP E (xB (iS 3 1 1 nZ [(0,b)]) h1 λo2 F R=>oP (gB 1 P c) λd=>oP (fe d R) λe=>xB (iS 3 1 1 nZ [(0,e)]) R λr G H=>((H.get (R.next)=some r/\O.beq r r=true)/\((fe d H=some e)/\((H.get (h1.next)=some o2/\O.beq o2 o2=true)/\fj (fi 3 1 8 k F H) λI J=>(H.next<=J.next/\((J.get (R.next)=some r/\O.beq r r=true)/\((fe d J=some e)/\fj (fi 3 1 8 l G J) λK h5=>(J.next<=h5.next/\ot Q i s [M,N,P,S,j,f,I,K,m,n,o,p,q,b] h5)))))))) (ot Q i s [M,N,P,S,j,f,k,l,m,n,o,p,q,b] h1)) (dF 0 f h λg=>oP (fE g) λL=>xm Q i [M,N,P,S,f,k,l,m,n,o,g,L,nZ] h)
theorem D0{Q a}:LN 14 (wC Q a) (xe Q a):=JV.lm 14 _
def wT(Q:fq)(i:LP)(k l j b a:V)(h:Hp):Prop:=bO .lss 3 a b (dI 6 j a 3 h λc=>oP (fE c) λd=>wO Q i [k,l,j,a,b,a,c,d,nZ] h) (oP (gP k) λe=>oP (fI 0 e) λf=>oP (fI 3 f) λg=>fj (gq 1 g j h) λn m=>Q (V.tuple []) m)
theorem Dj{Q}:LN 5 (wT Q) (xy Q):=JV.lm 5 _
def oL(Q:fq)(b:LP)(f g i j c d e:V)(h:Hp):Prop:=oP (ez .add 3 e nO) λa=>b [f,g,i,j,c,d,a] h
theorem uY{Q a}:RV 7 (oL Q a) (oA Q a):=JV.rn 7 _
def lj(Q:fq)(n:LP)(b:LP)(o p q r c d e f g i j k l m:V)(h:Hp):Prop:=oP (ez .add 3 m nO) λa=>b [o,p,q,r,c,d,e,f,g,i,j,k,l,a] h
theorem oG{Q a b}:RV 14 (lj Q a b) (ot Q a b):=JV.rn 14 _
def wz(Q:fq)(g:LP)(m:LP)(x y z A d e i j k l b c a:V)(h:Hp):Prop:=bO .lss 3 a c (dX 1 b a h λn=>oP (gP x) λo=>oP (fI 0 o) λp=>dF 2 p h λq=>oP (gB 6 q n) λf=>dN 0 f h λr=>bO .eql 3 r (V.I 21) (oP (fE e) λs=>wJ Q g m [x,y,z,A,d,e,i,f,nS,j,k,l,b,c,a,e,s,nZ] h) (og Q g m [x,y,z,A,d,e,i,j,k,l,b,c,a] h)) (oP (fI 4 d) λt=>fj (gq 1 t i h) λE B=>oP (fO 6 d B) λu=>gS (iS 43 6 1 (V.agg [nS,nZ,nZ,nS,nS,nZ]) [(0,u)]) B λv C=>fj (fi 43 6 96 A v C) λw D=>oA Q g [x,y,z,w,j,k,l] D)
theorem DY{Q a}:LN 13 (wz Q a) (xm Q a):=JV.lm 13 _
def wX(Q:fq)(n:LP)(o:LP)(r p q f b c d e a:V)(h:Hp):Prop:=bO .lss 3 a e (dX 1 d a h λg=>dI 6 q f 3 h λi=>dX 1 p g h λj=>oP (gB 1 i a) λk=>fj (gq 1 k j h) λt s=>(h.next<=s.next/\oP (ez .add 3 a nO) λl=>o [r,p,q,f,b,c,d,e,l] s)) (oP (ez .add 3 c nO) λm=>n [r,p,q,b,m] h)
theorem Eb{Q a}:LN 9 (wX Q a) (wO Q a):=JV.lm 9 _
def wQ(Q:fq)(x:LP)(y:LP)(z:LP)(A B C D i j k g l m n o b c d e f a:V)(h:Hp):Prop:=bO .lss 3 a f (dX 1 e a h λp=>dN 4 g h λq=>dX 1 q p h λr=>gS (iS 3 1 1 nZ [(0,r)]) h λs E=>fj (fi 3 1 8 l s E) λt F=>oP (ez .add 3 a nO) λu=>z [A,B,C,D,i,j,k,g,t,m,n,o,b,c,d,e,f,u] F) (oP (gP g) λv=>oP (fI 4 v) λw=>fj (gq 1 w l h) λH G=>og Q x y [A,B,C,D,i,j,k,m,n,o,b,c,d] G)
theorem DP{Q a b}:LN 18 (wQ Q a b) (wJ Q a b):=JV.lm 18 _
def oE(Q:fq)(m:LP)(e:LP)(n o p q f g i j k l a b c:V)(h:Hp):Prop:=oP (ez .add 3 c nO) λd=>e [n,o,p,q,f,g,i,j,k,l,a,b,d] h
theorem uW{Q a b}:RV 13 (oE Q a b) (og Q a b):=JV.rn 13 _
theorem GI(H:oP (gP a0) λc=>oP (fI 0 c) λd=>dG 3 d h λa=>gS (gX 4 1 1 bF a a) h λe k=>oP (gP a0) λf=>oP (fI 0 f) λg=>oP (fO 5 g k) λi=>cP CS rV [i] k λb l=>oP (fE b) λj=>wL Q [a0,e,b,j,nZ] l):cP CS rW [a0] h Q:=cP.ve t73 Tryz.func73 H
def t99:List (Nat×List Nat):=[(43,[0,1,5])]
def yC(Q:fq):LP:=JV CS Tryz.f99 t99 21 [0,1,5] [] Q
def yh(Q:fq)(fy:LP)(a b y:V)(h:Hp):Prop:=dN 5 a h λz=>dX 1 z b h λc=>oP (ez .geq 3 c nZ) λd=>oP (jI d (oB (some a) λe=>oB (gP e) λf=>oB (fI 5 f) λg=>oB (fe g h) λi=>oB (some b) λj=>oB (gB 1 i j) λk=>oB (fe k h) λl=>oB (some b) λm=>ez .neq 3 l m)) λn=>oP (jI n (oB (some y) λo=>oB (some a) λp=>oB (gP p) λq=>oB (fI 5 q) λr=>oB (fe r h) λs=>oB (fE s) λt=>ez .leq 3 o t)) λu=>bP u (dN 5 a h λv=>dX 1 v b h λw=>oP (ez .add 3 y nO) λx=>fy [a,w,x] h) (Q b h)
theorem Gi{Q}:LN 3 (yh Q) (yC Q):=JV.lm 3 _
theorem JR(H:yC Q [a0,a1,nZ] h):cP CS jN [a0,a1] h Q:=cP.ve t99 Tryz.func99 H
def t74:List (Nat×List Nat):=[(351,[1,2,3,4,5,41,42]),(353887,[1,2,3,4,5,6,7,41,42,53,54,55]),(5631,[1,2,3,4,11,12,96,97,98]),(7956062,[1,2,3,4,5,6,7,41,42,53,54,55]),(1992190,[1,2,3,4,11,12,15,96,97,98]),(11263,[1,2,3,4,12,165,166,167]),(4089342,[1,2,3,4,11,12,15,96,97,98]),(1887230,[1,2,3,4,12,17,165,166,167]),(8283646,[1,2,3,4,11,12,15,96,97,98]),(16672254,[1,2,3,4,11,12,15,96,97,98])]
def vh(Q:fq):LP:=JV CS Tryz.f74 t74 175 [1,2,3,4,5,41,42] [] Q
def uX(Q:fq)(fy:LP):LP:=JV CS Tryz.f74 t74 176943 [1,2,3,4,5,6,7,41,42,53,54,55] [kf [1,2,3,4,5,41,42] fy] Q
def lD(Q:fq):LP:=JV CS Tryz.f74 t74 2815 [1,2,3,4,11,12,96,97,98] [] Q
def m0(Q:fq)(fy:LP)(a:LP):LP:=JV CS Tryz.f74 t74 3978031 [1,2,3,4,5,6,7,41,42,53,54,55] [kf [1,2,3,4,5,41,42] fy,kf [1,2,3,4,5,6,7,41,42,53,54,55] a] Q
def kQ(Q:fq)(a:LP):LP:=JV CS Tryz.f74 t74 996095 [1,2,3,4,11,12,15,96,97,98] [kf [1,2,3,4,11,12,96,97,98] a] Q
def lB(Q:fq):LP:=JV CS Tryz.f74 t74 5631 [1,2,3,4,12,165,166,167] [] Q
def kK(Q:fq)(a:LP):LP:=JV CS Tryz.f74 t74 2044671 [1,2,3,4,11,12,15,96,97,98] [kf [1,2,3,4,11,12,96,97,98] a] Q
def jt(Q:fq)(a:LP):LP:=JV CS Tryz.f74 t74 943615 [1,2,3,4,12,17,165,166,167] [kf [1,2,3,4,12,165,166,167] a] Q
def kO(Q:fq)(a:LP):LP:=JV CS Tryz.f74 t74 4141823 [1,2,3,4,11,12,15,96,97,98] [kf [1,2,3,4,11,12,96,97,98] a] Q
def kN(Q:fq)(a:LP):LP:=JV CS Tryz.f74 t74 8336127 [1,2,3,4,11,12,15,96,97,98] [kf [1,2,3,4,11,12,96,97,98] a] Q
def vt(Q:fq)(fy:LP)(c r g i j d a:V)(h:Hp):Prop:=bO .lss 3 a d (oP (fe c h) λk=>oP (gP k) λm=>oP (fI 0 m) λn=>dJ 3 n 6 a 0 h λe=>oP (fE e) λo=>uX Q fy [c,r,g,i,j,a,nS,d,a,e,o,nZ] h) (gS (some (.map [] 0,λl=> .map l)) h λp t=>gS (zC 144 [V.oH]) t λf u=>fj (gq 1 f p u) λy v=>gS (zC 145 [V.nilFunc]) v λb w=>fj (gq 1 b (V.func iL [] [i,c]) w) λs x=>oP (fE j) λq=>lD Q [c,r,g,i,b,(V.func fV [] [f,g,c,b]),j,q,nZ] x)
theorem CR{Q}:LN 7 (vt Q) (vh Q):=JV.lm 7 _
def vC(Q:fq)(fy:LP)(g:LP)(i l m k j n o c d e f a:V)(h:Hp):Prop:=bO .lss 3 a f (dX 1 e a h λb=>oP (fe i h) λp=>dN 5 p h λq=>dX 1 q b h λr=>bO .eql 3 r b (oP (fe k h) λs=>oP (fE j) λt=>oP (gB 1 s b) λu=>fj (gq 1 u t h) λO I=>oP (fE j) λv=>gS (iS 3 1 1 nZ [(0,v)]) I λw J=>fj (fi 3 1 8 o w J) λx K=>gS (iS 3 1 1 nZ [(0,b)]) K λy L=>fj (fi 3 1 8 j y L) λz M=>m0 Q fy g [i,l,m,k,z,n,x,c,d,e,f,a] M) (m0 Q fy g [i,l,m,k,j,n,o,c,d,e,f,a] h)) (oP (fe i h) λA=>oP (gP A) λB=>oP (fI 0 B) λC=>dF 3 C h λD=>oP (gB 6 D n) λE=>oP (fI 0 E) λF=>fj (gq 1 F o h) λH N=>oP (ez .add 3 d nO) λG=>fy [i,l,m,k,j,c,G] N)
theorem CQ{Q fy}:LN 12 (vC Q fy) (uX Q fy):=JV.lm 12 _
def uK(Q:fq)(k:LP)(i G H l m e f g b:V)(h:Hp):Prop:=bO .lss 3 b g (dX 1 f b h λn=>oP (fe i h) λo=>oP (gP o) λp=>oP (fI 0 p) λq=>dF 2 q h λr=>oP (gB 6 r n) λs=>oP (fO 6 s h) λt=>gS (zC 45 [nZ,nZ,nZ,nZ,nS,nZ]) h λa L=>fj (gq 6 a t L) λM I=>dF 0 a I λu=>cP CS zl [u] I λv j=>bO .gtr 3 v nZ (oP (fe l j) λc=>oP (fe i j) λw=>dF 1 a j λx=>cP CS jN [w,x] j λy z=>(j.next<=z.next/\dX 1 c y z λA=>oP (fI 1 a) λB=>((fe l z=some c)/\fj (gq 1 B A z) λJ K=>(z.next<=K.next/\kQ Q k [i,G,H,l,m,e,a,f,g,b] K)))) (kQ Q k [i,G,H,l,m,e,a,f,g,b] j)) (oP (fe i h) λC=>oP (gP C) λD=>oP (fI 0 D) λE=>dF 3 E h λd=>oP (fE d) λF=>lB Q [i,G,H,l,e,d,F,nZ] h)
theorem CL{Q}:LN 9 (uK Q) (lD Q):=JV.lm 9 _
def nH(Q:fq)(fy:LP)(a:LP)(i j k l m n o b c d e f:V)(h:Hp):Prop:=oP (ez .add 3 f nO) λg=>a [i,j,k,l,m,n,o,b,c,d,e,g] h
theorem tZ{Q fy a}:RV 12 (nH Q fy a) (m0 Q fy a):=JV.rn 12 _
def tf(Q:fq)(d:LP)(t u v s e f a g i j:V)(h:Hp):Prop:=dF 0 a h λk=>cP CS zl [k] h λl c=>bO .gtr 3 l nO (oP (fe s c) λb=>oP (fe t c) λm=>dF 2 a c λn=>cP CS jN [m,n] c λo p=>(c.next<=p.next/\dX 1 b o p λq=>oP (fI 2 a) λr=>((fe s p=some b)/\fj (gq 1 r q p) λx w=>(p.next<=w.next/\kK Q d [t,u,v,s,e,f,a,g,i,j] w)))) (kK Q d [t,u,v,s,e,f,a,g,i,j] c)
theorem By{Q a}:RV 10 (tf Q a) (kQ Q a):=JV.rn 10 _
def vx(Q:fq)(j:LP)(y k z l e c d b:V)(h:Hp):Prop:=bO .lss 3 b d (oP (gB 6 c b) λm=>oP (fO 6 m h) λn=>gS (zC 43 [nS,nZ,nZ,nS,nS,nZ]) h λa F=>fj (gq 6 a n F) λJ f=>dF 1 a f λg=>bO .eql 3 g (V.I 2) (oP (fe l f) λi=>oP (fe y f) λo=>dF 2 a f λp=>cP CS jN [o,p] f λq r=>(f.next<=r.next/\dX 1 i q r λs=>oP (fI 2 a) λt=>((fe l r=some i)/\fj (gq 1 t s r) λA B=>(r.next<=B.next/\jt Q j [y,k,z,l,e,a,c,d,b] B)))) (bO .eql 3 g (V.I 3) (dF 5 a f λu=>gY CS (gi e [u]) f λv G=>oP (fI 5 a) λw=>fj (gq 1 w v G) λC H=>jt Q j [y,k,z,l,e,a,c,d,b] H) (jt Q j [y,k,z,l,e,a,c,d,b] f))) (oP (fO 5 z h) λx=>fj (gq 5 k x h) λD E=>oP (fO 5 k E) λI=>Q I E)
theorem CW{Q}:LN 8 (vx Q) (lB Q):=JV.lm 8 _
def tg(Q:fq)(c:LP)(p q r s b d a e f g:V)(h:Hp):Prop:=dF 0 a h λi=>oP (ez .eql 3 i (V.I 21)) λj=>oP (nY j (oB (fI 0 a) λk=>oB (fe k h) λl=>ez .eql 3 l (V.I 20))) λm=>bP m (oP (fe b h) λn=>dF 4 a h λo=>gY CS (gi n [o]) h λt u=>kO Q c [p,q,r,s,b,d,a,e,f,g] u) (kO Q c [p,q,r,s,b,d,a,e,f,g] h)
theorem BR{Q a}:RV 10 (tg Q a) (kK Q a):=JV.rn 10 _
def uo(Q:fq)(k:LP)(o p l q m n a b c:V)(h:Hp):Prop:=dF 3 l h λd=>oP (fO 6 n h) λe=>gS (iS 43 6 1 (V.agg [nS,nZ,nZ,nS,nS,nZ]) [(0,e)]) h λf r=>fj (fi 43 6 96 d f r) λg s=>oP (fI 3 l) λi=>fj (gq 1 i g s) λu t=>oP (ez .add 3 c nO) λj=>k [o,p,l,q,m,a,b,j] t
theorem Bt{Q a}:RV 9 (uo Q a) (jt Q a):=JV.rn 9 _
def ue(Q:fq)(c:LP)(o p q r d b a e f g:V)(h:Hp):Prop:=dF 0 a h λi=>cP CS sW [i] h λj n=>bP j (dF 5 a n λk=>gY CS (gi b [k]) n λl s=>oP (fI 5 a) λm=>fj (gq 1 m l s) λu t=>kN Q c [o,p,q,r,d,b,a,e,f,g] t) (kN Q c [o,p,q,r,d,b,a,e,f,g] n)
theorem Bi{Q a}:RV 10 (ue Q a) (kO Q a):=JV.rn 10 _
def tD(Q:fq)(g:LP)(p q i r j k l m n o:V)(h:Hp):Prop:=dF 2 i h λa=>oP (fO 6 l h) λb=>gS (iS 45 6 1 (V.agg [nZ,nZ,nZ,nZ,nS,nZ]) [(0,b)]) h λc s=>fj (fi 45 6 64 a c s) λd t=>oP (fI 2 i) λe=>fj (gq 1 e d t) λv u=>oP (ez .add 3 o nO) λf=>g [p,q,i,r,j,k,m,n,f] u
theorem BL{Q a}:RV 10 (tD Q a) (kN Q a):=JV.rn 10 _
theorem Ge(H:gS (mi 122 a0) h λa E=>gS (zC 30 [nZ,nZ,nS,nS,nS]) E λF d=>oP (fe a d) λe=>oP (gP e) λn=>oP (fI 0 n) λo=>oP (fI 0 o) λf=>oP (fe f d) λg=>oP (fe a d) λi=>oP (gP i) λp=>oP (fI 0 p) λq=>oP (fI 1 q) λj=>oP (fe j d) λk=>oP (fT [nZ,nZ,nS,nS,nS] [(0,1),(1,1),(2,1),(3,1),(4,1)] [(0,g),(1,k)]) λr=>xB (zC 30 [nZ,nZ,nS,nS,nS]) d λb B c=>((c.get (d.next)=some b/\O.beq b b=true)/\((fe j c=some k)/\((fe a c=some i)/\((fe f c=some g)/\((fe a c=some e)/\fj (gq 5 B r c) λJ m=>(c.next<=m.next/\oP (fe a m) λs=>oP (gP s) λt=>oP (fI 0 t) λu=>dG 2 u m λl=>gS (gX 3 1 8 nZ l l) m λv G=>gS (zC 22 [nS]) G λC I=>fj (gq 1 C v I) λD w=>oP (fe a w) λx=>oP (gP x) λy=>oP (fI 0 y) λz=>dG 3 z w λA=>vh Q [a,F,B,C,nS,A,nZ] w))))))):cP CS mW [a0] h Q:=cP.ve t74 Tryz.func74 H
def t98:List (Nat×List Nat):=[(11,[0,1,2,6,7,8])]
def rI(Q:fq):LP:=JV CS Tryz.f98 t98 5 [0,1,2,6,7,8] [] Q
def rC(Q:fq)(fy:LP)(l d m n o c:V)(h:Hp):Prop:=bO .lss 3 c o (dX 1 n c h λe=>oP (fe d h) λa=>oP (fe m h) λf=>cP CS jN [f,e] h λg b=>(h.next<=b.next/\dX 1 a g b λi=>oP (gB 1 l c) λj=>((fe d b=some a)/\fj (gq 1 j i b) λq p=>(b.next<=p.next/\oP (ez .add 3 c nO) λk=>fy [l,d,m,n,o,k] p)))) (Q (V.tuple []) h)
theorem AS{Q}:LN 6 (rC Q) (rI Q):=JV.lm 6 _
theorem De{a2:V}(H:oP (fE a0) λa=>rI Q [a0,a1,a2,a0,a,nZ] h):cP CS iL [a0,a1,a2] h Q:=cP.ve t98 Tryz.func98 H
def t100:List (Nat×List Nat):=[(2775,[0,2,3,4,7,33,34,35]),(30,[7])]
def rS(Q:fq):LP:=JV CS Tryz.f100 t100 1387 [0,2,3,4,7,33,34,35] [] Q
def mN(Q:fq):LP:=JV CS Tryz.f100 t100 15 [7] [] Q
def ry(Q:fq)(fy:LP)(G o p q H e f a:V)(h:Hp):Prop:=bO .lss 3 a f (oP (gB 4 e a) λr=>oP (fO 4 r h) λs=>gS (zC 49 [nZ,nZ,nS,nS]) h λb K=>fj (gq 4 b s K) λP t=>oP (fe q t) λu=>dF 2 b t λv=>gY CS (gi u [v]) t λL w=>oP (fe q w) λx=>dF 3 b w λy=>gY CS (gi x [y]) w λM N=>oP (ez .add 3 a nO) λz=>fy [G,o,p,q,H,e,f,z] N) (oP (fI 4 o) λg=>oP (fe g h) λi=>oP (fe p h) λj=>oP (gP j) λA=>oP (fI 0 A) λB=>oP (fI 4 B) λk=>oP (fe k h) λl=>oP (gB 1 l G) λm=>oP (fO 1 m h) λn=>xB (iS 52 1 1 (V.agg [nS]) [(0,n)]) h λc C d=>((d.get (h.next)=some c/\O.beq c c=true)/\((fO 1 m d=some n)/\((fe k d=some l)/\((fe p d=some j)/\((fe g d=some i)/\fj (fi 52 1 24 i C d) λD E=>(d.next<=E.next/\oP (fI 4 o) λF=>fj (gq 1 F D E) λI J=>(E.next<=J.next/\mN Q [H] J))))))))
theorem A2{Q}:LN 8 (ry Q) (rS Q):=JV.lm 8 _
def mO(Q:fq)(a:V)(h:Hp):Prop:=Q a h
theorem rB{Q}:RV 1 (mO Q) (mN Q):=JV.rn 1 _
theorem Dy{a2 a3 a4:V}(H:oP (fe a1 h) λd=>oP (MG 3 none nZ true d a0 h) λa=>oP (CA 0 a) λe=>oP (CA 1 a) λf=>bN f (dG 4 a2 h λb=>oP (fe a1 h) λg=>fj (MT 3 none g a0 b h) λn i=>oP (fe a3 i) λj=>oP (gP j) λk=>oP (fI 0 k) λl=>dJ 4 l 1 a0 0 i λc=>oP (fE c) λm=>rS Q [a0,a2,a3,a4,b,c,m,nZ] i) (mN Q [e] h)):cP CS fV [a0,a1,a2,a3,a4] h Q:=cP.ve t100 Tryz.func100 H
def t42:List (Nat×List Nat):=[(87,[3,10,11])]
def Jm(Q:fq):LP:=JV CS Tryz.f42 t42 43 [3,10,11] [] Q
def Jc(Q:fq)(fy:LP)(c b a:V)(h:Hp):Prop:=bO .lss 3 a b (oP (gB 1 c a) λd=>fj (gq 1 d a h) λg f=>oP (ez .add 3 a nO) λe=>fy [c,b,e] f) (Q c h)
theorem Px{Q}:LN 3 (Jc Q) (Jm Q):=JV.lm 3 _
theorem VT(H:gS (mi 30 a0) h λe b=>dG 2 e b λc=>gS (gX 3 1 8 nZ c c) b λd f=>oP (fE d) λa=>Jm Q [d,a,nZ] f):cP CS yH [a0] h Q:=cP.ve t42 Tryz.func42 H
theorem BX(H:cP CS xQ [a0,a1] h λa b=>oP (ez .geq 3 a nZ) λc=>Q c b):cP CS ni [a0,a1] h Q:=cP.ve [] Tryz.func97 H
def t109:List (Nat×List Nat):=[(43,[0,1,7,8])]
def tx(Q:fq):LP:=JV CS Tryz.f109 t109 21 [0,1,7,8] [] Q
def tn(Q:fq)(fy:LP)(d e f a:V)(h:Hp):Prop:=bO .lss 3 a f (dX 1 d a h λb=>bO .eql 3 e b (Q a h) (oP (ez .add 3 a nO) λc=>fy [d,e,f,c] h)) (Q (V.I (-1)) h)
theorem BQ{Q}:LN 4 (tn Q) (tx Q):=JV.lm 4 _
theorem Fy(H:oP (fE a0) λa=>tx Q [a0,a1,a,nZ] h):cP CS xQ [a0,a1] h Q:=cP.ve t109 Tryz.func109 H
end
