/- Parts. -/
import Derived.Test.YtloecllhljfidaaGreatDoorM14
set_option maxHeartbeats 4000000
namespace Go.Proofs.YtloecllhljfidaaGreatDoor.Hx
variable{Q:fq}{h:Hp}{a0 a1 a2 a3:V}
set_option maxRecDepth 100000
noncomputable section
def t75:List (Nat×List Nat):=[(126,[1,3,4,5]),(319,[1,3,4,5])]
def AA(Q:fq)(a b c d:V)(h:Hp):Prop:=JV CS Tryz.f75 t75 63 [1,3,4,5] [] Q [a,b,c,d] h
def Hs(Q:fq)(a b c d:V)(h:Hp):Prop:=JV CS Tryz.f75 t75 159 [1,3,4,5] [] Q [a,b,c,d] h
def Bb(Q:fq)(a b c d:V)(h:Hp):Prop:=Hs Q a b c d h
theorem O2{Q a b c d h}(H:Bb Q a b c d h):AA Q a b c d h:=JV.wn 4 (Bb Q) H
def Bd(Q:fq)(fy:UF)(g d e c:V)(h:Hp):Prop:=oP (fE c) λi=>bO .gtr 3 i nZ (oP (fE c) λj=>oP (ez .sub 3 j nO) λk=>oP (gB 2 c k) λa=>dF 3 g h λl=>dN 0 a h λm=>dI 6 l m 3 h λf=>dN 1 a h λn=>oP (fE f) λo=>bO .eql 3 n o (dN 0 a h λp=>gS (iS 3 1 1 nZ [(0,p)]) h λq O=>fj (fi 3 1 8 e q O) λr M=>oP (fE c) λs=>oP (ez .sub 3 s nO) λt=>oP (iY 2 c none (some t) M) λu=>fy g d r u M) (dN 1 a h λv=>dX 1 f v h λb=>dN 1 a h λw=>oP (ez .add 3 w nO) λx=>oP (gP a) λy=>oP (fI 1 y) λz=>fj (gq 1 z x h) λX P=>oP (fE d) λA=>cP CS lR [b,A] P λB C=>oP (jI B (oB (some d) λD=>oB (some b) λE=>oB (gB 1 D E) λF=>oB (fe F C) λG=>pK .not G)) λH=>bP H (oP (gB 1 d b) λI=>fj (gq 1 I bT C) λN R=>oP (fT [nZ,nZ] [(0,1),(1,1)] [(0,b),(1,nZ)]) λJ=>gS (iS 149 2 1 (V.agg [nZ,nZ]) [(0,J)]) R λK S=>fj (fi 149 2 16 c K S) λL T=>fy g d e L T) (fy g d e c C))) (cP CS oR [e] h λU W=>Q e W)
theorem O7{Q}(I)(s:P4 I (Bd Q)){k a b c d h}(i:I k a b c d h):Hs Q a b c d h:=WA.ln 4 [a,b,c,d] I (Bd Q) s i
theorem SB(H:gS (mi 30 a0) h λc k=>dG 3 c k λb=>gS (gX 4 1 1 bF b b) k λa d=>dG 3 c d λe=>bO .gtr 3 e nZ (oP (fT [nZ,nZ] [(0,1),(1,1)] []) λf=>gS (iS 149 2 1 (V.agg [nZ,nZ]) [(0,f)]) d λg l=>fj (fi 149 2 16 nS g l) λi m=>oP (gB 1 a nZ) λj=>fj (gq 1 j bT m) λo n=>AA Q c a nS i n) (AA Q c a nS nS d)):cP CS rV [a0] h Q:=cP.ve t75 Tryz.func75 H
def t76:List (Nat×List Nat):=[(87,[3,13,14,15]),(22935,[3,4,13,14,15,21,22,23]),(498070,[3,4,13,14,15,21,22,23])]
def G6(Q:fq)(d a b c:V)(h:Hp):Prop:=JV CS Tryz.f76 t76 43 [3,13,14,15] [] Q [d,a,b,c] h
def GN(Q:fq)(fy:UF)(g i a b c d e f:V)(h:Hp):Prop:=JV CS Tryz.f76 t76 11467 [3,4,13,14,15,21,22,23] [λρ h=>fy (ρ 3) (ρ 13) (ρ 14) (ρ 15) h] Q [g,i,a,b,c,d,e,f] h
def zu(Q:fq)(fy:UF)(a:WW)(i j b c d e f g:V)(h:Hp):Prop:=JV CS Tryz.f76 t76 249035 [3,4,13,14,15,21,22,23] [λρ h=>fy (ρ 3) (ρ 13) (ρ 14) (ρ 15) h,λρ h=>a (ρ 3) (ρ 4) (ρ 13) (ρ 14) (ρ 15) (ρ 21) (ρ 22) (ρ 23) h] Q [i,j,b,c,d,e,f,g] h
def A8(Q:fq)(fy:UF)(i b c a:V)(h:Hp):Prop:=bO .lss 3 a c (oP (gB 6 b a) λe=>oP (fO 6 e h) λf=>gS (zC 43 [nS,nZ,nZ,nS,nS,nZ]) h λj l=>fj (gq 6 j f l) λm k=>dF 3 j k λd=>oP (fE d) λg=>GN Q fy i a b c a d g nZ k) (Q i h)
theorem NY{Q}(I)(s:P4 I (A8 Q)){k d a b c h}(i:I k d a b c h):G6 Q d a b c h:=WA.ln 4 [d,a,b,c] I (A8 Q) s i
def AD(Q:fq)(fy:UF)(j:WW)(i k b c d e f a:V)(h:Hp):Prop:=bO .lss 3 a f (dX 1 e a h λg=>oP (fE i) λl=>cP CS lR [g,l] h λm n=>bP m (dX 1 i g n λo=>gS (iS 3 1 1 nZ [(0,k)]) n λp t=>fj (fi 3 1 8 o p t) λq u=>oP (gB 1 i g) λr=>fj (gq 1 r q u) λw v=>zu Q fy j i k b c d e f a v) (zu Q fy j i k b c d e f a n)) (oP (ez .add 3 d nO) λs=>fy i b c s h)
theorem OZ{Q fy}(I)(s:P8 I (AD Q fy)){k g j a b c d e f h}(i:I k g j a b c d e f h):GN Q fy g j a b c d e f h:=WA.ln 8 [g,j,a,b,c,d,e,f] I (AD Q fy) s i
def zH(Q:fq)(fy:UF)(a:WW)(j k b c d e f g:V)(h:Hp):Prop:=oP (ez .add 3 g nO) λi=>a j k b c d e f i h
theorem MS{Q fy a i j b c d e f g h}(H:zH Q fy a i j b c d e f g h):zu Q fy a i j b c d e f g h:=JV.wn 8 (zH Q fy a) H
theorem Uo(H:gS (mi 30 a0) h λe f=>dG 3 e f λa=>gS (gX 22 1 24 nS a a) f λc g=>dF 3 e g λb=>oP (fE b) λd=>G6 Q c b d nZ g):cP CS Cf [a0] h Q:=cP.ve t76 Tryz.func76 H
def t43:List (Nat×List Nat):=[(175,[3,4,5,6,30,31]),(351,[3,4,5,6,38,39,40]),(5631,[3,4,5,10,11]),(370175,[3,4,5,10,11,59,60,61]),(362391039,[3,4,5,10,11,13,14,59,60,61,68,69,70]),(8147019262,[3,4,5,10,11,13,14,59,60,61,68,69,70]),(7972350,[3,4,5,10,11,59,60,61])]
def zR(Q:fq)(c d e f a b:V)(h:Hp):Prop:=JV CS Tryz.f43 t43 87 [3,4,5,6,30,31] [] Q [c,d,e,f,a,b] h
def zM(Q:fq)(d e f g a b c:V)(h:Hp):Prop:=JV CS Tryz.f43 t43 175 [3,4,5,6,38,39,40] [] Q [d,e,f,g,a,b,c] h
def zS(Q:fq)(c d e a b:V)(h:Hp):Prop:=JV CS Tryz.f43 t43 2815 [3,4,5,10,11] [] Q [c,d,e,a,b] h
def zL(Q:fq)(a:RQ)(g i j b c d e f:V)(h:Hp):Prop:=JV CS Tryz.f43 t43 185087 [3,4,5,10,11,59,60,61] [λρ h=>a (ρ 3) (ρ 4) (ρ 5) (ρ 10) (ρ 11) h] Q [g,i,j,b,c,d,e,f] h
def zU(Q:fq)(a:RQ)(b:WW)(n o p c d e f g i j k l m:V)(h:Hp):Prop:=JV CS Tryz.f43 t43 181195519 [3,4,5,10,11,13,14,59,60,61,68,69,70] [λρ h=>a (ρ 3) (ρ 4) (ρ 5) (ρ 10) (ρ 11) h,λρ h=>b (ρ 3) (ρ 4) (ρ 5) (ρ 10) (ρ 11) (ρ 59) (ρ 60) (ρ 61) h] Q [n,o,p,c,d,e,f,g,i,j,k,l,m] h
def nR(Q:fq)(a:RQ)(b:WW)(c:Xx)(o p q d e f g i j k l m n:V)(h:Hp):Prop:=JV CS Tryz.f43 t43 4073509631 [3,4,5,10,11,13,14,59,60,61,68,69,70] [λρ h=>a (ρ 3) (ρ 4) (ρ 5) (ρ 10) (ρ 11) h,λρ h=>b (ρ 3) (ρ 4) (ρ 5) (ρ 10) (ρ 11) (ρ 59) (ρ 60) (ρ 61) h,λρ h=>c (ρ 3) (ρ 4) (ρ 5) (ρ 10) (ρ 11) (ρ 13) (ρ 14) (ρ 59) (ρ 60) (ρ 61) (ρ 68) (ρ 69) (ρ 70) h] Q [o,p,q,d,e,f,g,i,j,k,l,m,n] h
def ru(Q:fq)(a:RQ)(b:WW)(i j k c d e f g:V)(h:Hp):Prop:=JV CS Tryz.f43 t43 3986175 [3,4,5,10,11,59,60,61] [λρ h=>a (ρ 3) (ρ 4) (ρ 5) (ρ 10) (ρ 11) h,λρ h=>b (ρ 3) (ρ 4) (ρ 5) (ρ 10) (ρ 11) (ρ 59) (ρ 60) (ρ 61) h] Q [i,j,k,c,d,e,f,g] h
def uE(Q:fq)(fy:QP6)(c j d k b a:V)(h:Hp):Prop:=bO .lss 3 a b (oP (fe d h) λe=>oP (gB 1 e a) λf=>fj (gq 1 f (V.I (-1)) h) λm l=>oP (ez .add 3 a nO) λg=>fy c j d k b g l) (oP (fE c) λi=>zM Q c j d k c i nZ h)
theorem IN{Q}(I)(s:P6 I (uE Q)){k c d e f a b h}(i:I k c d e f a b h):zR Q c d e f a b h:=WA.ln 6 [c,d,e,f,a,b] I (uE Q) s i
def uG(Q:fq)(e:QP7)(f q b g c d a:V)(h:Hp):Prop:=bO .lss 3 a d (dX 1 c a h λi=>oP (fe g h) λj=>oP (gB 1 j i) λk=>fj (gq 1 k a h) λu s=>oP (ez .add 3 a nO) λl=>e f q b g c d l s) (oP (fE f) λm=>bO .eql 3 m nZ (oP (fe b h) λn=>Q n h) (oP (fe b h) λo=>oP (gB 1 o nZ) λp=>fj (gq 1 p nZ h) λr t=>zS Q f q b (V.func jO [] [g,b]) bT t))
theorem Iz{Q}(I)(s:P7 I (uG Q)){k d e f g a b c h}(i:I k d e f g a b c h):zM Q d e f g a b c h:=WA.ln 7 [d,e,f,g,a,b,c] I (uG Q) s i
def uA(Q:fq)(e:RQ)(k m f g i:V)(h:Hp):Prop:=bP i (oP (iY 1 k (some nO) none h) λa=>oP (fE a) λj=>zL Q e k m f g bF a j nZ h) (oP (fe f h) λb=>oP (gB 1 b nZ) λc=>fj (gq 1 c (V.I (-1)) h) λn l=>oP (fe f l) λd=>Q d l)
theorem IS{Q}(I)(s:P5 I (uA Q)){k c d e a b h}(i:I k c d e a b h):zS Q c d e a b h:=WA.ln 5 [c,d,e,a,b] I (uA Q) s i
def uB(Q:fq)(b:RQ)(j:WW)(m k n c d e f a:V)(h:Hp):Prop:=bO .lss 3 a f (dX 1 e a h λg=>dX 1 k g h λi=>oP (fE i) λl=>zU Q b j m k n c d g (V.I (-1)) e f a i l nZ h) (b m k n c d h)
theorem IM{Q a}(I)(s:P8 I (uB Q a)){k g j l b c d e f h}(i:I k g j l b c d e f h):zL Q a g j l b c d e f h:=WA.ln 8 [g,j,l,b,c,d,e,f] I (uB Q a) s i
def uJ(Q:fq)(b:RQ)(c:WW)(o:Xx)(q r n a k d e f g i l m j:V)(h:Hp):Prop:=bO .lss 3 j m (dX 1 l j h λp=>oP (fe n h) λs=>dX 1 s p h λt=>bO .lss 3 t nZ (nR Q b c o q r n a k d e f g i l m j h) (bO .lss 3 e nZ (nR Q b c o q r n a k d p f g i l m j h) (gY CS (gi a [e,p]) h λu z=>nR Q b c o q r n a k d u f g i l m j z))) (oP (fe n h) λv=>dX 1 v d h λw=>bO .neq 3 w e (oP (fe n h) λx=>oP (gB 1 x d) λy=>fj (gq 1 y e h) λB A=>ru Q b c q r n a bT f g i A) (ru Q b c q r n a k f g i h))
theorem IL{Q a b}(I)(s:P13 I (uJ Q a b)){k p q r c d e f g j l m n o h}(i:I k p q r c d e f g j l m n o h):zU Q a b p q r c d e f g j l m n o h:=WA.ln 13 [p,q,r,c,d,e,f,g,j,l,m,n,o] I (uJ Q a b) s i
def lT(Q:fq)(n:RQ)(o:WW)(a:Xx)(p q r b c d e f g i j k l:V)(h:Hp):Prop:=oP (ez .add 3 l nO) λm=>a p q r b c d e f g i j k m h
theorem rH{Q a b c o p q d e f g i j k l m n h}(H:lT Q a b c o p q d e f g i j k l m n h):nR Q a b c o p q d e f g i j k l m n h:=JV.wn 13 (lT Q a b c) H
def nV(Q:fq)(i:RQ)(a:WW)(j k l b c d e f:V)(h:Hp):Prop:=oP (ez .add 3 f nO) λg=>a j k l b c d e g h
theorem zb{Q a b i j k c d e f g h}(H:nV Q a b i j k c d e f g h):ru Q a b i j k c d e f g h:=JV.wn 8 (nV Q a b) H
theorem LU(H:gS (mi 30 a0) h λe m=>oP (fO 5 e m) λq=>oP (fO 5 e m) λf=>cP CS rV [q] m λr n=>(m.next<=n.next/\((fO 5 e n=some f)/\cP CS Cf [f] n λs o=>(n.next<=o.next/\oP (fI 3 e) λg=>oP (fe g o) λi=>oP (fE i) λj=>xB (gX 3 1 8 nZ j j) o λt u p=>oP (fI 3 e) λb=>oP (fe b p) λc=>oP (fE c) λk=>xB (gX 3 1 8 nZ k k) p λd v C=>xB (zC 22 [nS]) C λw x D=>xB (zC 22 [nS]) D λy E a=>((a.get (D.next)=some y/\O.beq y y=true)/\((a.get (C.next)=some w/\O.beq w w=true)/\((a.get (p.next)=some d/\O.beq d d=true)/\((fe b a=some c)/\((a.get (o.next)=some t/\O.beq t t=true)/\((fe g a=some i)/\fj (gq 1 x u a) λG l=>(a.next<=l.next/\((l.get (p.next)=some d/\O.beq d d=true)/\((fe b l=some c)/\fj (gq 1 E v l) λF z=>(l.next<=z.next/\oP (fe x z) λA=>oP (fE A) λB=>zR Q r s x E B nZ z)))))))))))))):cP CS sQ [a0] h Q:=cP.ve t43 Tryz.func43 H
def t77:List (Nat×List Nat):=[(19,[0,1,2,3])]
def yi(Q:fq)(a b c d:V)(h:Hp):Prop:=JV CS Tryz.f77 t77 9 [0,1,2,3] [] Q [a,b,c,d] h
def qH(Q:fq)(fy:UF)(a b c d:V)(h:Hp):Prop:=bO .neq 3 a b (oP (fe c h) λe=>dX 1 e a h λf=>oP (fe c h) λg=>dX 1 g b h λi=>bO .gtr 3 f i (oP (fe d h) λj=>dX 1 j a h λk=>fy k b c d h) (oP (fe d h) λl=>dX 1 l b h λm=>fy a m c d h)) (Q a h)
theorem FZ{Q}(I)(s:P4 I (qH Q)){k a b c d h}(i:I k a b c d h):yi Q a b c d h:=WA.ln 4 [a,b,c,d] I (qH Q) s i
theorem JE(H:yi Q a0 a1 a2 a3 h):cP CS jO [a0,a1,a2,a3] h Q:=cP.ve t77 Tryz.func77 H
def t64:List (Nat×List Nat):=[(43,[1,2,7])]
def zh(Q:fq)(a b c:V)(h:Hp):Prop:=JV CS Tryz.f64 t64 21 [1,2,7] [] Q [a,b,c] h
def sq(Q:fq)(fy:QP3)(d e a:V)(h:Hp):Prop:=bO .lss 3 a d (gY CS (gi e [a]) h λb f=>bN b (Q bF f) (oP (ez .add 3 a nO) λc=>fy d e c f)) (Q bT h)
theorem GX{Q}(I)(s:P3 I (sq Q)){k a b c h}(i:I k a b c h):zh Q a b c h:=WA.ln 3 [a,b,c] I (sq Q) s i
theorem KB(H:zh Q a1 a2 nZ h):cP CS km [a0,a1,a2] h Q:=cP.ve t64 Tryz.func64 H
def t86:List (Nat×List Nat):=[(43,[0,7,8,9]),(56522,[0,7,8,9,31])]
def xI(Q:fq)(a b c d:V)(h:Hp):Prop:=JV CS Tryz.f86 t86 21 [0,7,8,9] [] Q [a,b,c,d] h
def jY(Q:fq)(fy:UF)(b c d e a:V)(h:Hp):Prop:=JV CS Tryz.f86 t86 28261 [0,7,8,9,31] [λρ h=>fy (ρ 0) (ρ 7) (ρ 8) (ρ 9) h] Q [b,c,d,e,a] h
def pV(Q:fq)(fy:UF)(b e f c:V)(h:Hp):Prop:=bO .lss 3 c f (dX 1 e c h λg=>oP (gP b) λl=>oP (fI 0 l) λm=>dG 2 m h λn=>cP CS lR [g,n] h λo d=>bN o (Q bF d) (oP (gP b) λp=>oP (fI 0 p) λq=>dJ 2 q 6 g 0 d λa=>oP (ez .eql 3 a (V.I 19)) λi=>bP i (jY Q fy b e f c i d) (oP (ez .eql 3 a (V.I 20)) λj=>bP j (jY Q fy b e f c j d) (oP (ez .eql 3 a (V.I 22)) λk=>bP k (jY Q fy b e f c k d) (oP (ez .eql 3 a (V.I 23)) λr=>jY Q fy b e f c r d))))) (Q bT h)
theorem EH{Q}(I)(s:P4 I (pV Q)){k a b c d h}(i:I k a b c d h):xI Q a b c d h:=WA.ln 4 [a,b,c,d] I (pV Q) s i
def px(Q:fq)(fy:UF)(c d e f a:V)(h:Hp):Prop:=bP a (Q bF h) (oP (ez .add 3 f nO) λb=>fy c d e b h)
theorem Eh{Q fy b c d e a h}(H:px Q fy b c d e a h):jY Q fy b c d e a h:=JV.wn 5 (px Q fy) H
theorem IP(H:oP (fE a1) λa=>xI Q a0 a1 a nZ h):cP CS ju [a0,a1] h Q:=cP.ve t86 Tryz.func86 H
def t65:List (Nat×List Nat):=[(175,[0,27,28,29])]
def xR(Q:fq)(d a b c:V)(h:Hp):Prop:=JV CS Tryz.f65 t65 87 [0,27,28,29] [] Q [d,a,b,c] h
def p6(Q:fq)(fy:UF)(i d e c:V)(h:Hp):Prop:=bO .lss 3 c e (oP (gB 4 d c) λj=>oP (fO 4 j h) λk=>gS (zC 49 [nZ,nZ,nS,nS]) h λf M=>fj (gq 4 f k M) λN g=>dG 2 f g λl=>oP (ez .gtr 3 l (V.I 40)) λm=>oP (nY m (oB (fI 3 f) λn=>oB (fe n g) λo=>oB (fE o) λp=>ez .gtr 3 p (V.I 60))) λa=>oP (fH false a) λq=>oP (gV q (some i)) λr=>oP (fH false a) λs=>oP (gV s (fI 2 f)) λt=>oP (fH false a) λu=>oP (gV u (fe t g)) λv=>oP (fH false a) λw=>oP (gC w (some (ju,[r,v]))) λx=>vB CS x g λy K=>oP (nY a (pK .not y)) λb=>oP (fH false b) λz=>oP (gV z (some i)) λA=>oP (fH false b) λB=>oP (gV B (fI 3 f)) λC=>oP (fH false b) λD=>oP (gV D (fe C K)) λE=>oP (fH false b) λF=>oP (gC F (some (ju,[A,E]))) λG=>vB CS G K λH L=>oP (nY b (pK .not H)) λI=>bP I (Q bF L) (oP (ez .add 3 c nO) λJ=>fy i d e J L)) (Q bT h)
theorem E3{Q}(I)(s:P4 I (p6 Q)){k d a b c h}(i:I k d a b c h):xR Q d a b c h:=WA.ln 4 [d,a,b,c] I (p6 Q) s i
theorem IA(H:oP (gP a0) λp=>oP (fI 0 p) λd=>dF 4 d h λe=>oP (gB 1 e a1) λf=>oP (fO 1 f h) λg=>gS (zC 52 [nS]) h λc q=>fj (gq 1 c g q) λr a=>dG 0 c a λi=>oP (ez .eql 3 i nZ) λj=>oP (nY j (oB (fI 0 c) λk=>oB (fe k a) λl=>oB (fE l) λm=>ez .gtr 3 m (V.I 30))) λn=>bP n (Q bF a) (dF 0 c a λb=>oP (fE b) λo=>xR Q a0 b o nZ a)):cP CS pe [a0,a1] h Q:=cP.ve t65 Tryz.func65 H
def t66:List (Nat×List Nat):=[(87,[0,36,37]),(351,[0,4,51,52,53]),(190047,[0,4,5,7,51,52,53,59,60,61])]
def xF(Q:fq)(c a b:V)(h:Hp):Prop:=JV CS Tryz.f66 t66 43 [0,36,37] [] Q [c,a,b] h
def xZ(Q:fq)(d e a b c:V)(h:Hp):Prop:=JV CS Tryz.f66 t66 175 [0,4,51,52,53] [] Q [d,e,a,b,c] h
def xD(Q:fq)(a:RQ)(i j k l b c d e f g:V)(h:Hp):Prop:=JV CS Tryz.f66 t66 95023 [0,4,5,7,51,52,53,59,60,61] [λρ h=>a (ρ 0) (ρ 4) (ρ 51) (ρ 52) (ρ 53) h] Q [i,j,k,l,b,c,d,e,f,g] h
def p9(Q:fq)(fy:QP3)(d b a:V)(h:Hp):Prop:=bO .lss 3 a b (dN 5 d h λe=>oP (gB 1 e a) λf=>fj (gq 1 f (V.I (-1)) h) λm l=>oP (ez .add 3 a nO) λg=>fy d b g l) (oP (gP d) λi=>oP (fI 0 i) λj=>dF 3 j h λc=>oP (fE c) λk=>xZ Q d nZ c k nZ h)
theorem FA{Q}(I)(s:P3 I (p9 Q)){k c a b h}(i:I k c a b h):xF Q c a b h:=WA.ln 3 [c,a,b] I (p9 Q) s i
def qc(Q:fq)(j:RQ)(n o b c a:V)(h:Hp):Prop:=bO .lss 3 a c (oP (gB 6 b a) λk=>oP (fO 6 k h) λl=>gS (zC 43 [nS,nZ,nZ,nS,nS,nZ]) h λp r=>fj (gq 6 p l r) λs q=>dF 0 p q λd=>oP (fE d) λm=>xD Q j n o a bT b c a d m nZ q) (oP (gP n) λe=>oP (fI 0 e) λf=>dG 2 f h λg=>oP (ez .eql 3 o g) λi=>Q i h)
theorem Ft{Q}(I)(s:P5 I (qc Q)){k d e a b c h}(i:I k d e a b c h):xZ Q d e a b c h:=WA.ln 5 [d,e,a,b,c] I (qc Q) s i
def pW(Q:fq)(C:RQ)(D:Zf)(d Z E x7 g i j k l b:V)(h:Hp):Prop:=bO .lss 3 b l (dX 1 k b h λa=>oP (gP d) λF=>oP (fI 0 F) λG=>dG 2 G h λH=>cP CS lR [a,H] h λI c=>oP (pK .not I) λJ=>oP (nY J (oB (some d) λK=>oB (gP K) λL=>oB (fI 5 L) λM=>oB (fe M c) λN=>oB (some a) λO=>oB (gB 1 N O) λP=>oB (fe P c) λR=>ez .geq 3 R nZ)) λS=>bP S (Q bF c) (oP (gP d) λT=>oP (fI 0 T) λU=>dJ 2 U 6 a 0 c λe=>oP (ez .eql 3 e (V.I 21)) λW=>oP (nY W (oB (some e) λX=>ez .eql 3 X nO)) λf=>oP (jI f (oB (some x7) λm=>pK .not m)) λn=>oP (nY n (oB (some e) λo=>oB (ez .eql 3 o nO) λp=>oB (some E) λq=>oB (ez .eql 3 q nZ) λr=>oB (ez .neq 4 p r) λs=>oB (some s) λt=>jI t (some f))) λu=>bP u (Q bF c) (dN 5 d c λv=>dN 6 d c λw=>oP (gB 1 v a) λx=>fj (gq 1 x E c) λvu Y=>(c.next<=Y.next/\oP (gB 1 w a) λy=>fj (gq 1 y b Y) λaa h3=>(Y.next<=h3.next/\oP (ez .add 3 Z nO) λz=>oP (ez .add 3 b nO) λA=>D d z E f g i j k l A h3))))) (oP (ez .add 3 j nO) λB=>C d Z g i B h)
theorem EZ{Q a}(I)(s:P10 I (pW Q a)){k j l m n b c d e f g h}(i:I k j l m n b c d e f g h):xD Q a j l m n b c d e f g h:=WA.ln 10 [j,l,m,n,b,c,d,e,f,g] I (pW Q a) s i
theorem IG(H:oP (gP a0) λl=>oP (fI 0 l) λm=>oP (fI 2 m) λc=>oP (fe c h) λd=>oP (fE d) λe=>xB (gX 3 1 8 nZ e e) h λn o j=>oP (gP a0) λp=>oP (fI 0 p) λq=>oP (fI 2 q) λf=>oP (fe f j) λg=>oP (fE g) λi=>xB (gX 3 1 8 nZ i i) j λa r b=>oP (gP a0) λs=>oP (fI 5 s) λt=>((b.get (j.next)=some a/\O.beq a a=true)/\((fe f b=some g)/\((b.get (h.next)=some n/\O.beq n n=true)/\((fe c b=some d)/\fj (gq 1 t o b) λA k=>(b.next<=k.next/\oP (gP a0) λu=>oP (fI 6 u) λv=>((k.get (j.next)=some a/\O.beq a a=true)/\fj (gq 1 v r k) λz w=>(k.next<=w.next/\oP (gP a0) λx=>dG 5 x w λy=>xF Q a0 y nZ w)))))))):cP CS uH [a0] h Q:=cP.ve t66 Tryz.func66 H
section
variable (C:kW)(Q:X->iE->Hp->Prop)(ρ:iE)(h:Hp)
def Uy:=JP Tryz.f67
def zct:=Uy.r
def zco:=Uy.r.r
def zcl:=Uy.r.r.l.r
def zde:=Uy.r.r.r
def zfu:=andThen (Wp C 94 zde Q) Q
def zcL:=Uy.r.r.l.r.l.r
def zc9:=Uy.r.r.r.l.r
def zcm:=Uy.r.r.r.r
def q90:=andThen (Wp C 94 zcm Q) Q
def zcA:=Uy.r.r.r.l.r.l.r
def zeQ(C:kW)(Q:XQ):XQ:=xO 0 Q
def zcF:=Uy.r.r.r.r.r
def zcP:=Uy.r.r.r.l.r.l.r.l.r
def zab:=Uy.r.r.r.l.r.l.r.r.r
def Zy:=Uy.r.r.r.l.r.l.r.r.r.l.r
def Zz:=Uy.r.r.r.l.r.l.r.r.r.r.r
def zaB:=Uy.r.r.r.l.r.l.r.r.r.r.r.l.r
theorem e67:jB C 94 Uy Q ρ h=(oP (some (V.bool false)) λa=>
 Wp C 94 zct Q (fx ρ 4 a) h):=by kernel_rfl
theorem zfF:jB C 94 zct Q ρ h=(oP (some (ρ 0)) λe=>
 oP (gP e) λf=>
 oP (fI 0 f) λg=>
 oP (fI 2 g) λi=>
 oP (fe i h) λa=>
 oP (some (ρ 1)) λb=>
 oP (gB 6 a b) λc=>
 oP (fO 6 c h) λd=>
 gS (some (.cells 45 1 true false [(V.I 0),(V.I 0),(V.I 0),(V.I 0),V.ei,(V.I 0)],λl=> .ptr l 0)) h λj k=>
 fj (gq 6 j d k) λn m=>
 Wp C 94 zco Q (fx (fx (fx (fx (fx (fx (fx (fx (fx ρ 6 e) 7 f) 8 g) 9 i) 10 a) 11 b) 12 c) 13 d) 5 j) m):=by kernel_rfl
theorem zfV:jB C 94 zco Q ρ h=(oP (fI 0 (ρ 5)) λd=>
 oP (fe d h) λs=>
 ((fe d h=some s)/\
 ((fI 0 (ρ 5)=some d)/\
 dcP C EP [s] h λt D=>
 (h.next<=D.next/\
 oP (ez .eql 9 t (V.str [])) λe=>
 oP (some e) λb=>
 oP (fH false b) λW=>
 oP (gV W (some (ρ 0))) λf=>
 oP (fH false b) λb6=>
 oP (gV b6 (fO 6 (ρ 5) D)) λu=>
 ((gT b6 (fO 6 (ρ 5) D=some u))/\
 ((gT W (some (ρ 0)=some f))/\
 ((some e=some b)/\
 ((ez .eql 9 t (V.str [])=some e)/\
 oP (fH false b) λb7=>
 oP (gC b7 (some (rF,[u]))) λx7=>vB C x7 D λE X=>
 (D.next<=X.next/\
 ((gT W (some (ρ 0)=some f))/\
 oP (fH false b) λb8=>
 oP (gC b8 (some (ju,[f,E]))) λx8=>vB C x8 X λv F=>
 (X.next<=F.next/\
 oP (fH false b) λb9=>
 oP (gV b9 (pK .not v)) λg=>
 oP (jA b (V.bool true) g) λi=>
 oP (some i) λc=>
 oP (fH false c) λG=>
 oP (gV G (fI 0 (ρ 5))) λj=>
 oP (fH false c) λH=>
 oP (gV H (fe j F)) λw=>
 ((gT H (fe j F=some w))/\
 ((gT G (fI 0 (ρ 5)=some j))/\
 ((some i=some c)/\
 ((jA b (V.bool true) g=some i)/\
 ((gT b9 (pK .not v=some g))/\
 oP (fH false c) λY=>
 oP (gC Y (some (sW,[w]))) λZ=>vB C Z F λx y=>
 (F.next<=y.next/\
 oP (fH false c) λI=>
 oP (gV I (some x)) λa=>
 oP (fH true a) λJ=>
 oP (gV J (fI 5 (ρ 5))) λk=>
 oP (fH true a) λK=>
 oP (gV K (fe k y)) λz=>
 oP (fH true a) λL=>
 oP (gV L (some (ρ 0))) λl=>
 oP (fH true a) λM=>
 oP (gV M (gP l)) λm=>
 oP (fH true a) λN=>
 oP (gV N (fI 0 m)) λn=>
 oP (fH true a) λO=>
 oP (gV O (fI 4 n)) λo=>
 oP (fH true a) λP=>
 oP (gV P (fe o y)) λp=>
 oP (fH true a) λR=>
 oP (gV R (fE p)) λA=>
 ((gT R (fE p=some A))/\
 ((gT P (fe o y=some p))/\
 ((gT O (fI 4 n=some o))/\
 ((gT N (fI 0 m=some n))/\
 ((gT M (gP l=some m))/\
 ((gT L (some (ρ 0)=some l))/\
 ((gT K (fe k y=some z))/\
 ((gT J (fI 5 (ρ 5)=some k))/\
 ((gT I (some x=some a))/\
 oP (fH true a) λaa=>
 oP (gC aa (some (lR,[z,A]))) λab=>vB C ab y λB h5=>
 (y.next<=h5.next/\
 oP (fH true a) λS=>
 oP (gV S (pK .not B)) λq=>
 oP (fH false c) λT=>
 oP (gV T (jA a q (V.bool false))) λr=>
 oP (jA c (V.bool true) r) λU=>
 ((jA c (V.bool true) r=some U)/\
 ((gT T (jA a q (V.bool false)=some r))/\
 ((gT S (pK .not B=some q))/\
 Wp C 94 zcl (zfu C Q) (fx (fx (fx (fx (fx (fx (fx (fx (fx (fx (fx (fx (fx (fx (fx (fx (fx (fx (fx (fx (fx (fx (fx (fx (fx (fx (fx (fx ρ 14 d) 15 s) 16 t) 17 e) 18 b) 19 f) 20 u) 21 E) 22 v) 23 g) 24 i) 25 c) 26 j) 27 w) 28 x) 29 a) 30 k) 31 z) 32 l) 33 m) 34 n) 35 o) 36 p) 37 A) 38 B) 39 q) 40 r) 41 U) h5)))))))))))))))))))))))))))))):=by kernel_rfl
theorem zeF:jB C 94 zde Q ρ h=(oP (fI 0 (ρ 5)) λa=>
 oP (fe a h) λb=>
 Wp C 94 zc9 (q90 C Q) (fx (fx ρ 42 a) 43 b) h):=by kernel_rfl
theorem zf9:jB C 94 zcl Q ρ h=(oP (some (ρ 41)) λc=>
 bP c (
 oP (some (V.bool false)) λa=>
 Wp C 94 zcL Q (fx ρ 4 a) h) (
 Q .normal ρ h)):=by kernel_rfl
theorem zeH:jB C 94 zcm Q ρ h=(oP (some (V.bool true)) λa=>
 Wp C 94 zcF Q (fx ρ 4 a) h):=by kernel_rfl
theorem zeB:jB C 94 zc9 Q ρ h=(oP (ez .eql 3 (ρ 43) (V.I 20)) λa=>
 oP (some a) λb=>
 Wp C 94 zcA (zeQ C Q) (fx (fx ρ 45 a) 44 b) h):=by kernel_rfl
theorem zf4:jB C 94 zcF Q ρ h=(Q .ret ρ h):=by kernel_rfl
theorem zeU:jB C 94 zcL Q ρ h=(Q .ret ρ h):=by kernel_rfl
theorem zfx:jB C 94 zcA Q ρ h=(oP (some (ρ 44)) λc=>
 bP c (
 oP (fI 4 (ρ 5)) λa=>
 oP (fe a h) λb=>
 oP (fE b) λd=>
 oP (ez .eql 3 d (V.I 1)) λe=>
 oP (some e) λi=>
 Wp C 94 zcP Q (fx (fx (fx (fx (fx ρ 46 a) 47 b) 48 d) 49 e) 4 i) h) (
 oP (ez .eql 3 (ρ 43) (V.I 21)) λf=>
 oP (some f) λg=>
 Wp C 94 zab Q (fx (fx ρ 51 f) 50 g) h)):=by kernel_rfl
theorem zfP:jB C 94 zcP Q ρ h=(Q .ret ρ h):=by kernel_rfl
theorem zdD:jB C 94 zab Q ρ h=(oP (some (ρ 50)) λc=>
 bP c (
 oP (fI 4 (ρ 5)) λa=>
 oP (fe a h) λb=>
 oP (fE b) λd=>
 oP (some (ρ 0)) λe=>
 oP (gP e) λf=>
 oP (fI 0 f) λg=>
 oP (fI 3 g) λi=>
 oP (fe i h) λj=>
 oP (some (ρ 0)) λk=>
 oP (gP k) λl=>
 oP (fI 5 l) λm=>
 oP (fe m h) λn=>
 oP (some (ρ 1)) λo=>
 oP (gB 1 n o) λp=>
 oP (fe p h) λq=>
 oP (gB 6 j q) λr=>
 oP (fI 4 r) λs=>
 oP (fe s h) λt=>
 oP (fE t) λu=>
 oP (ez .eql 3 d u) λv=>
 oP (some v) λy=>
 ((some v=some y)/\
 ((ez .eql 3 d u=some v)/\
 ((fE t=some u)/\
 ((fe s h=some t)/\
 ((fI 4 r=some s)/\
 ((gB 6 j q=some r)/\
 ((fe p h=some q)/\
 ((gB 1 n o=some p)/\
 ((some (ρ 1)=some o)/\
 ((fe m h=some n)/\
 ((fI 5 l=some m)/\
 ((gP k=some l)/\
 ((some (ρ 0)=some k)/\
 ((fe i h=some j)/\
 ((fI 3 g=some i)/\
 ((fI 0 f=some g)/\
 ((gP e=some f)/\
 ((some (ρ 0)=some e)/\
 ((fE b=some d)/\
 ((fe a h=some b)/\
 ((fI 4 (ρ 5)=some a)/\
 Wp C 94 Zy Q (fx (fx (fx (fx (fx (fx (fx (fx (fx (fx (fx (fx (fx (fx (fx (fx (fx (fx (fx (fx (fx ρ 52 a) 53 b) 54 d) 55 e) 56 f) 57 g) 58 i) 59 j) 60 k) 61 l) 62 m) 63 n) 64 o) 65 p) 66 q) 67 r) 68 s) 69 t) 70 u) 71 v) 4 y) h)))))))))))))))))))))) (
 oP (ez .eql 3 (ρ 43) (V.I 1)) λw=>
 oP (some w) λx=>
 Wp C 94 Zz Q (fx (fx ρ 73 w) 72 x) h)):=by kernel_rfl
theorem zd2:jB C 94 Zy Q ρ h=(Q .ret ρ h):=by kernel_rfl
theorem zdt:jB C 94 Zz Q ρ h=(oP (some (ρ 72)) λc=>
 bP c (
 oP (fI 3 (ρ 5)) λd=>
 oP (fe d h) λe=>
 oP (ez .geq 2 e (V.I 0)) λf=>
 oP (some f) λb=>
 oP (fH true b) λH=>
 oP (gV H (fI 3 (ρ 5))) λg=>
 oP (fH true b) λI=>
 oP (gV I (fe g h)) λi=>
 oP (fH true b) λJ=>
 oP (gV J (ez .lss 2 i (V.I 40))) λj=>
 oP (jA b j (V.bool false)) λk=>
 oP (some k) λa=>
 oP (fH true a) λK=>
 oP (gV K (some (ρ 0))) λl=>
 oP (fH true a) λw=>
 oP (gV w (gP l)) λm=>
 oP (fH true a) λx=>
 oP (gV x (fI 0 m)) λn=>
 oP (fH true a) λy=>
 oP (gV y (fI 2 n)) λo=>
 oP (fH true a) λz=>
 oP (gV z (fe o h)) λp=>
 oP (fH true a) λA=>
 oP (gV A (some (ρ 1))) λq=>
 oP (fH true a) λB=>
 oP (gV B (iY 6 p none (some q) h)) λr=>
 oP (fH true a) λD=>
 oP (gV D (some (V.func kH [] [(ρ 5)]))) λs=>
 oP (fH true a) λE=>
 oP (gC E (some (iF,[r,s]))) λF=>vB C F h λt L=>
 oP (fH true a) λG=>
 oP (gV G (pK .not t)) λu=>
 oP (jA a u (V.bool false)) λv=>
 oP (some v) λM=>
 Wp C 94 zaB Q (fx (fx (fx (fx (fx (fx (fx (fx (fx (fx (fx (fx (fx (fx (fx (fx (fx (fx (fx (fx (fx ρ 74 d) 75 e) 76 f) 77 b) 78 g) 79 i) 80 j) 81 k) 82 a) 83 l) 84 m) 85 n) 86 o) 87 p) 88 q) 89 r) 90 s) 91 t) 92 u) 93 v) 4 M) L) (
 Q .normal ρ h)):=by kernel_rfl
theorem zdU:jB C 94 zaB Q ρ h=(Q .ret ρ h):=by kernel_rfl
theorem g67{C:kW}(hs:C.start=zt)(a0 a1:V){h:Hp}{Q:fq}(hk:C.K kh [a0,a1] h=none)(H:jB C 94 Uy (Je [.tmp 4] Q) (Lt [a0,a1]) h):cP C kh [a0,a1] h Q:=
 cP.ZN hs (show P0.funcs[67]? =some Tryz.f67 by unfold P0;exact Tryz.func67) (by kernel_rfl) (by kernel_rfl) (by kernel_rfl) hk (MY rfl) (Wp.code _ H)
def xX(C:kW)(Q:fq)(a0 a1:V)(h:Hp):Prop:=oP (gP a0) λv7=>oP (fI 0 v7) λv8=>dF 2 v8 h λs=>oP (gB 6 s a1) λt=>oP (fO 6 t h) λu=>gS (zC 45 [nZ,nZ,nZ,nZ,nS,nZ]) h λd h1=>fj (gq 6 d u h1) λvu v=>dF 0 d v λw=>cP C EP [w] v λx q=>(v.next<=q.next/\oP (ez .eql 9 x (V.str [])) λe=>oP (fH false e) λb5=>oP (gV b5 (some a0)) λy=>oP (fH false e) λb6=>oP (gV b6 (fO 6 d q)) λz=>oP (fH false e) λb7=>oP (gC b7 (some (rF,[z]))) λy7=>vB C y7 q λA B=>(q.next<=B.next/\oP (fH false e) λb8=>oP (gC b8 (some (ju,[y,A]))) λy8=>vB C y8 B λD r=>(B.next<=r.next/\oP (nY e (pK .not D)) λf=>oP (fH false f) λE=>oP (gV E (fI 0 d)) λF=>oP (fH false f) λG=>oP (gV G (fe F r)) λH=>oP (fH false f) λI=>oP (gC I (some (sW,[H]))) λJ=>vB C J r λK o=>(r.next<=o.next/\oP (fH false f) λL=>oP (gV L (some K)) λa=>oP (fH true a) λM=>oP (gV M (fI 5 d)) λN=>oP (fH true a) λO=>oP (gV O (fe N o)) λP=>oP (fH true a) λR=>oP (gV R (some a0)) λS=>oP (fH true a) λT=>oP (gV T (gP S)) λU=>oP (fH true a) λW=>oP (gV W (fI 0 U)) λX=>oP (fH true a) λY=>oP (gV Y (fI 4 X)) λZ=>oP (fH true a) λaa=>oP (gV aa (fe Z o)) λab=>oP (fH true a) λac=>oP (gV ac (fE ab)) λad=>oP (fH true a) λae=>oP (gC ae (some (lR,[P,ad]))) λag=>vB C ag o λah c=>(o.next<=c.next/\oP (fH true a) λai=>oP (gV ai (pK .not ah)) λaj=>oP (nY f (jA a aj bF)) λak=>bP ak (Q bF c) (dF 0 d c λg=>bO .eql 3 g (V.I 20) (dG 4 d c λal=>oP (ez .eql 3 al nO) λam=>Q am c) (bO .eql 3 g (V.I 21) (dG 4 d c λan=>oP (gP a0) λao=>oP (fI 0 ao) λap=>dF 3 ap c λaq=>dN 5 a0 c λar=>dX 1 ar a1 c λau=>oP (gB 6 aq au) λaw=>dG 4 aw c λax=>oP (ez .eql 3 an ax) λay=>Q ay c) (bO .eql 3 g nO (dF 3 d c λaA=>oP (ez .geq 2 aA nZ) λaB=>oP (jI aB (oB (fI 3 d) λaC=>oB (fe aC c) λaD=>ez .lss 2 aD (V.I 40))) λb=>oP (fH true b) λp=>oP (gV p (some a0)) λaE=>oP (fH true b) λaF=>oP (gV aF (gP aE)) λaG=>oP (fH true b) λaH=>oP (gV aH (fI 0 aG)) λaI=>oP (fH true b) λi=>oP (gV i (fI 2 aI)) λaJ=>oP (fH true b) λj=>oP (gV j (fe aJ c)) λaK=>oP (fH true b) λk=>oP (gV k (some a1)) λaL=>oP (fH true b) λl=>oP (gV l (iY 6 aK none (some aL) c)) λaM=>oP (fH true b) λm=>oP (gV m (some (V.func kH [] [d]))) λaN=>oP (fH true b) λn=>oP (gC n (some (iF,[aM,aN]))) λaO=>vB C aO c λaP h8=>oP (jI b (pK .not aP)) λaQ=>Q aQ h8) (Q bT c)))))))))
theorem La{C:kW}(hs:C.start=zt){a0 a1:V}{h:Hp}{Q:fq}(hk:C.K kh [a0,a1] h=none)(H:xX C Q a0 a1 h):cP C kh [a0,a1] h Q:=by
 unfold xX at H;exact g67 hs _ _ hk ((e67 _ _ _ _).mpr (wF (Wp.of (zfF _ _ _ _) (wF (oM H λv7 _ H=>oM H λv8 _ H=>oM H λv9 _ H=>oM H λap _ H=>wF (oM H λaq _ H=>oM H λar _ H=>alM H λv5 h1 H=>zdM H λvu h2 H=>Wp.of (zfV _ _ _ _) (oM H λau b H=>oM H λaw c H=>⟨c,⟨b,dcM H λax h3 H=>anM H λH=>oM H λay d H=>wF (oM H λb5 _ H=>oM H λaA a H=>oM H λb6 _ H=>oM H λaB e H=>⟨(hK e),⟨(hK a),⟨rfl,⟨d,oM H λb7 _ H=>oM H λy7 _ H=>cgM H λaC h4 H=>anM H λH=>⟨(hK a),oM H λb8 _ H=>oM H λy8 _ H=>cgM H λaD h5 H=>anM H λH=>thn (K5 H) λH=>oM H λb9 Z H=>oM H λaE f H=>oM H λaF g H=>wF (oM H λaG _ H=>oM H λaH i H=>oM H λaI _ H=>oM H λaJ j H=>⟨(hK j),⟨(hK i),⟨rfl,⟨g,⟨(hK f),oM H λaK _ H=>oM H λaL _ H=>cgM H λaM h6 H=>anM H λH=>oM H λaN _ H=>oM H λaO k H=>oM H λaP _ H=>oM H λaQ l H=>oM H λaR _ H=>oM H λaS m H=>oM H λaT _ H=>oM H λaU n H=>oM H λaV _ H=>oM H λaW o H=>oM H λaX _ H=>oM H λaY p H=>oM H λaZ _ H=>oM H λa5 q H=>oM H λa6 _ H=>oM H λa7 r H=>oM H λa8 _ H=>oM H λa9 s H=>⟨(hK s),⟨(hK r),⟨(hK q),⟨(hK p),⟨(hK o),⟨(hK n),⟨(hK m),⟨(hK l),⟨(hK k),oM H λba _ H=>oM H λbb _ H=>cgM H λbc h7 H=>anM H λH=>oM H λbd _ H=>oM H λbe t H=>thn (K5 H) λH=>oM H λbf aa H=>oM H λbg u H=>oM H λbh v H=>⟨v,⟨(hK u),⟨(hK t),Wp.of (zf9 _ _ _ _) (wF (bM H (λH=>wF (Wp.of (zeU _ _ _ _) (H))) (λH=>Wp.of (zeF _ _ _ _) (oM H λbi _ H=>oM H λbj _ H=>Wp.of (zeB _ _ _ _) (oM H λbm _ H=>wF (Wp.of (zfx _ _ _ _) (wF (bM H (λH=>oM H λbo _ H=>oM H λbr _ H=>oM H λbt _ H=>oM H λbu _ H=>wF (Wp.of (zfP _ _ _ _) (H))) (λH=>oM H λbw _ H=>wF (Wp.of (zdD _ _ _ _) (wF (bM H (λH=>oM H λbx w H=>oM H λbz x H=>oM H λbA y H=>wF (oM H λbC z H=>oM H λbD A H=>oM H λbE B H=>oM H λbG D H=>wF (oM H λbH E H=>oM H λbI F H=>oM H λbJ G H=>wF (oM H λbK I H=>oM H λbL J H=>oM H λbQ L H=>oM H λbR M H=>oM H λbS N H=>oM H λbU O H=>oM H λbV P H=>wF (⟨rfl,⟨P,⟨O,⟨N,⟨M,⟨L,⟨J,⟨I,⟨rfl,⟨G,⟨F,⟨E,⟨rfl,⟨D,⟨B,⟨A,⟨z,⟨rfl,⟨y,⟨x,⟨w,Wp.of (zd2 _ _ _ _) (H)⟩⟩⟩⟩⟩⟩⟩⟩⟩⟩⟩⟩⟩⟩⟩⟩⟩⟩⟩⟩⟩))))) (λH=>oM H λbW _ H=>wF (Wp.of (zdt _ _ _ _) (wF (bM H (λH=>oM H λbX _ H=>oM H λbY _ H=>oM H λbZ _ H=>wF (thn (Oy H) λH=>sG1 H λb4 ab ca ac H=>sG1 H λad ae cb ag H=>oM H λah ai H=>oM H λcd aj H=>oM H λce ak H=>wF (oM H λal _ H=>oM H λcf _ H=>oM H λcg _ H=>oM H λci _ H=>oM H λcj _ H=>oM H λcm _ H=>oM H λR _ H=>oM H λcn _ H=>oM H λS _ H=>oM H λco _ H=>oM H λT _ H=>oM H λcp _ H=>oM H λU _ H=>oM H λcq _ H=>oM H λW _ H=>oM H λcr _ H=>oM H λX _ H=>oM H λct _ H=>cgM H λcu h8 H=>thn (Oy H) λH=>oM H λY am H=>oM H λcv an H=>oM H λcw ao H=>wF (Wp.of (zdU _ _ _ _) (H))))) (λH=>Wp.of (zeH _ _ _ _) (wF (Wp.of (zf4 _ _ _ _) (H))))))))))))))))))))⟩⟩⟩⟩⟩⟩⟩⟩⟩⟩⟩⟩⟩⟩⟩⟩⟩)⟩⟩⟩⟩⟩)⟩⟩)))))))
end
def t68:List (Nat×List Nat):=[(87,[0,5,17,18,19])]
def yl(Q:fq)(d e a b c:V)(h:Hp):Prop:=JV CS Tryz.f68 t68 43 [0,5,17,18,19] [] Q [d,e,a,b,c] h
def qz(Q:fq)(fy:RQ)(n c f g d:V)(h:Hp):Prop:=bO .lss 3 d g (dX 1 f d h λo=>oP (gP n) λp=>oP (fI 0 p) λq=>dG 3 q h λs=>cP CS lR [o,s] h λt W=>bN t (Q bF W) (oP (ez .add 3 d nO) λu=>fy n c f g u W)) (dF 1 c h λe=>bO .eql 3 e nO (dG 3 c h λv=>oP (ez .eql 3 v nO) λw=>Q w h) (bO .eql 3 e (V.I 2) (dG 3 c h λx=>oP (ez .eql 3 x (V.I 2)) λb=>oP (fH true b) λY=>oP (gV Y (some n)) λy=>oP (fH true b) λZ=>oP (gV Z (fI 2 c)) λz=>oP (fH true b) λb7=>oP (gV b7 (fe z h)) λA=>oP (fH true b) λb8=>ghP b8 h (oB (iS 3 1 1 nZ [(0,A)]) λr=>some (r.2 h.next,h.new r.1)) λB h2=>oP (fH true b) λb9=>oP (gC b9 (some (ju,[y,B]))) λy9=>vB CS y9 h2 λC h3=>oP (jA b C bF) λD=>Q D h3) (bO .eql 3 e (V.I 3) (dG 3 c h λE=>oP (ez .eql 3 E nZ) λa=>oP (fH true a) λi=>oP (gV i (fI 5 c)) λF=>oP (fH true a) λj=>oP (gV j (fe F h)) λG=>oP (fH true a) λk=>oP (gV k (some n)) λH=>oP (fH true a) λl=>oP (gV l (gP H)) λI=>oP (fH true a) λm=>oP (gV m (fI 0 I)) λJ=>oP (fH true a) λK=>oP (gV K (fI 4 J)) λL=>oP (fH true a) λM=>oP (gV M (fe L h)) λN=>oP (fH true a) λO=>oP (gV O (fE N)) λP=>oP (fH true a) λR=>oP (gC R (some (lR,[G,P]))) λS=>vB CS S h λT X=>(h.next<=X.next/\oP (jA a T bF) λU=>Q U X)) (Q bF h))))
theorem Gv{Q}(I)(s:P5 I (qz Q)){k d e a b c h}(i:I k d e a b c h):yl Q d e a b c h:=WA.ln 5 [d,e,a,b,c] I (qz Q) s i
theorem Kg(H:oP (gP a0) λj=>oP (fI 0 j) λb=>dF 3 b h λc=>oP (gB 6 c a1) λd=>oP (fO 6 d h) λe=>gS (zC 43 [nS,nZ,nZ,nS,nS,nZ]) h λf k=>fj (gq 6 f e k) λl i=>dF 3 f i λa=>oP (fE a) λg=>yl Q a0 f a g nZ i):cP CS p7 [a0,a1] h Q:=cP.ve t68 Tryz.func68 H
def t69:List (Nat×List Nat):=[(171,[0,1,16,17,18]),(14,[0,1]),(175,[0,7,54,55,56])]
def zf(Q:fq)(d e a b c:V)(h:Hp):Prop:=JV CS Tryz.f69 t69 85 [0,1,16,17,18] [] Q [d,e,a,b,c] h
def nU(Q:fq)(a b:V)(h:Hp):Prop:=JV CS Tryz.f69 t69 7 [0,1] [] Q [a,b] h
def ze(Q:fq)(d e a b c:V)(h:Hp):Prop:=JV CS Tryz.f69 t69 87 [0,7,54,55,56] [] Q [d,e,a,b,c] h
def rr(Q:fq)(fy:RQ)(e s b c a:V)(h:Hp):Prop:=bO .lss 3 a c (dX 1 b a h λd=>oP (gP e) λf=>oP (fI 0 f) λg=>dJ 3 g 6 a 4 h λi=>cP CS qe [d,i] h λj t=>oP (pK .not j) λk=>oP (nY k (oB (some a) λl=>oB (ez .eql 3 l nZ) λm=>oB (some m) λn=>jI n (oB (some d) λo=>oB (fE o) λp=>ez .gtr 3 p nZ))) λq=>bP q (Q bF t) (oP (ez .add 3 a nO) λr=>fy e s b c r t)) (nU Q e s h)
theorem G5{Q}(I)(s:P5 I (rr Q)){k d e a b c h}(i:I k d e a b c h):zf Q d e a b c h:=WA.ln 5 [d,e,a,b,c] I (rr Q) s i
def rL(Q:fq)(j l:V)(h:Hp):Prop:=oP (gP j) λb=>oP (fI 0 b) λc=>dF 3 c h λd=>oP (gB 6 d l) λe=>oP (fO 6 e h) λf=>gS (zC 43 [nS,nZ,nZ,nS,nS,nZ]) h λg m=>fj (gq 6 g f m) λn k=>dF 3 g k λa=>oP (fE a) λi=>ze Q j g a i nZ k
theorem GP{Q a b h}(H:rL Q a b h):nU Q a b h:=JV.wn 2 (rL Q) H
def rA(Q:fq)(d:RQ)(u v b c a:V)(h:Hp):Prop:=bO .lss 3 a c (dX 1 b a h λe=>dF 1 v h λf=>oP (ez .eql 3 f (V.I 2)) λg=>oP (jI g (oB (some u) λi=>oB (gP i) λj=>oB (fI 0 j) λk=>oB (fI 3 k) λl=>oB (fe l h) λm=>oB (some e) λn=>oB (gB 6 m n) λo=>oB (fI 4 o) λp=>oB (fe p h) λq=>oB (fE q) λr=>ez .neq 3 r nO)) λs=>bP s (Q bF h) (oP (ez .add 3 a nO) λt=>d u v b c t h)) (Q bT h)
theorem G0{Q}(I)(s:P5 I (rA Q)){k d e a b c h}(i:I k d e a b c h):ze Q d e a b c h:=WA.ln 5 [d,e,a,b,c] I (rA Q) s i
theorem Kl(H:bO .eql 3 a1 nZ (oP (gP a0) λb=>oP (fI 0 b) λc=>oP (fO 5 c h) λd=>cP CS Cf [d] h λa f=>oP (fE a) λe=>zf Q a0 a1 a e nZ f) (nU Q a0 a1 h)):cP CS qT [a0,a1] h Q:=cP.ve t69 Tryz.func69 H
theorem ID(H:oP (gP a0) λa=>oP (fI 0 a) λb=>oP (fO 5 b h) λc=>cP CS rV [c] h λd e=>Q d e):cP CS zO [a0] h Q:=cP.ve [] Tryz.func70 H
def t106:List (Nat×List Nat):=[(19,[0,1,2])]
def sH(Q:fq)(a b c:V)(h:Hp):Prop:=JV CS Tryz.f106 t106 9 [0,1,2] [] Q [a,b,c] h
def mV(Q:fq)(fy:QP3)(d e a:V)(h:Hp):Prop:=bO .geq 3 a nZ (bO .eql 3 e a (Q bT h) (dN 7 d h λb=>dX 1 b a h λc=>fy d e c h)) (Q bF h)
theorem AG{Q}(I)(s:P3 I (mV Q)){k a b c h}(i:I k a b c h):sH Q a b c h:=WA.ln 3 [a,b,c] I (mV Q) s i
theorem DX(H:sH Q a0 a1 a2 h):cP CS pB [a0,a1,a2] h Q:=cP.ve t106 Tryz.func106 H
def t91:List (Nat×List Nat):=[(43,[0,2,3,11,12,13])]
def yx(Q:fq)(d e f a b c:V)(h:Hp):Prop:=JV CS Tryz.f91 t91 21 [0,2,3,11,12,13] [] Q [d,e,f,a,b,c] h
def qA(Q:fq)(fy:QP6)(d g R e f b:V)(h:Hp):Prop:=bO .lss 3 b f (dX 1 e b h λc=>dN 5 d h λi=>dX 1 i c h λj=>oP (ez .eql 3 j g) λk=>oP (jI k (oB (some d) λl=>oB (gP l) λm=>oB (fI 6 m) λn=>oB (fe n h) λo=>oB (some c) λp=>oB (gB 1 o p) λq=>oB (fe q h) λr=>oB (some R) λs=>ez .geq 3 r s)) λa=>oP (fH false a) λt=>oP (gV t (some d)) λu=>oP (fH false a) λv=>oP (gV v (some d)) λw=>oP (fH false a) λx=>oP (gV x (gP w)) λy=>oP (fH false a) λz=>oP (gV z (fI 5 y)) λA=>oP (fH false a) λB=>oP (gV B (fe A h)) λC=>oP (fH false a) λD=>oP (gV D (some c)) λE=>oP (fH false a) λF=>oP (gV F (gB 1 C E)) λG=>oP (fH false a) λH=>oP (gV H (fe G h)) λI=>oP (fH false a) λJ=>oP (gV J (some g)) λK=>oP (fH false a) λL=>oP (gC L (some (pB,[u,I,K]))) λM=>vB CS M h λN S=>oP (nY a (pK .not N)) λO=>bP O (Q bF S) (oP (ez .add 3 b nO) λP=>fy d g R e f P S)) (Q bT h)
theorem Gj{Q}(I)(s:P6 I (qA Q)){k d e f a b c h}(i:I k d e f a b c h):yx Q d e f a b c h:=WA.ln 6 [d,e,f,a,b,c] I (qA Q) s i
theorem Js(H:oP (fE a1) λa=>yx Q a0 a2 a3 a1 a nZ h):cP CS jP [a0,a1,a2,a3] h Q:=cP.ve t91 Tryz.func91 H
def t92:List (Nat×List Nat):=[(43,[0,2,3,19,20,21])]
def sr(Q:fq)(d e f a b c:V)(h:Hp):Prop:=JV CS Tryz.f92 t92 21 [0,2,3,19,20,21] [] Q [d,e,f,a,b,c] h
def mM(Q:fq)(fy:QP6)(f g i d e b:V)(h:Hp):Prop:=bO .lss 3 b e (oP (gB 4 d b) λj=>oP (fO 4 j h) λk=>gS (zC 49 [nZ,nZ,nS,nS]) h λc D=>fj (gq 4 c k D) λG A=>dF 2 c A λl=>cP CS jP [f,l,g,i] A λm B=>oP (pK .not m) λa=>oP (fH false a) λE=>oP (gV E (some f)) λn=>oP (fH false a) λF=>oP (gV F (fI 3 c)) λo=>oP (fH false a) λp=>oP (gV p (fe o B)) λq=>oP (fH false a) λr=>oP (gV r (some g)) λs=>oP (fH false a) λt=>oP (gV t (some i)) λu=>oP (fH false a) λv=>oP (gC v (some (jP,[n,q,s,u]))) λw=>vB CS w B λx C=>oP (nY a (pK .not x)) λy=>bP y (Q bF C) (oP (ez .add 3 b nO) λz=>fy f g i d e z C)) (Q bT h)
theorem AR{Q}(I)(s:P6 I (mM Q)){k d e f a b c h}(i:I k d e f a b c h):sr Q d e f a b c h:=WA.ln 6 [d,e,f,a,b,c] I (mM Q) s i
theorem Dr(H:oP (gP a0) λb=>oP (fI 0 b) λc=>dJ 4 c 1 a1 0 h λa=>oP (fE a) λd=>sr Q a0 a2 a3 a d nZ h):cP CS jW [a0,a1,a2,a3] h Q:=cP.ve t92 Tryz.func92 H
def t71:List (Nat×List Nat):=[(175,[0,1,5,6,24,25,26]),(1356591,[0,1,5,6,24,25,26,43,44,45]),(3886,[0,1,5,6,24,25,26])]
def ye(Q:fq)(d e f g a b c:V)(h:Hp):Prop:=JV CS Tryz.f71 t71 87 [0,1,5,6,24,25,26] [] Q [d,e,f,g,a,b,c] h
def xV(Q:fq)(fy:QP7)(g i j k a b c d e f:V)(h:Hp):Prop:=JV CS Tryz.f71 t71 678295 [0,1,5,6,24,25,26,43,44,45] [λρ h=>fy (ρ 0) (ρ 1) (ρ 5) (ρ 6) (ρ 24) (ρ 25) (ρ 26) h] Q [g,i,j,k,a,b,c,d,e,f] h
def po(Q:fq)(fy:QP7)(d e f g a b c:V)(h:Hp):Prop:=JV CS Tryz.f71 t71 1943 [0,1,5,6,24,25,26] [λρ h=>fy (ρ 0) (ρ 1) (ρ 5) (ρ 6) (ρ 24) (ρ 25) (ρ 26) h] Q [d,e,f,g,a,b,c] h
def qd(Q:fq)(fy:QP7)(d g j s e f b:V)(h:Hp):Prop:=bO .lss 3 b f (dX 1 e b h λt=>oP (gP d) λu=>oP (fI 0 u) λv=>dF 2 v h λw=>oP (gB 6 w t) λx=>oP (fO 6 x h) λy=>gS (zC 45 [nZ,nZ,nZ,nZ,nS,nZ]) h λi h1=>fj (gq 6 i y h1) λvu k=>dF 0 i k λz=>bO .eql 3 z (V.I 21) (dF 4 i k λl=>oP (fE l) λA=>xV Q fy d g j s e f b l A nZ k) (oP (fO 6 i k) λB=>cP CS rF [B] k λC h3=>cP CS jP [d,C,g,b] h3 λD h4=>oP (pK .not D) λc=>oP (fH false c) λb8=>oP (gV b8 (fI 0 i)) λE=>oP (fH false c) λb9=>oP (gV b9 (fe E h4)) λF=>oP (fH false c) λG=>oP (gC G (some (sW,[F]))) λH=>vB CS H h4 λI h5=>oP (fH false c) λJ=>oP (gV J (some I)) λa=>oP (fH true a) λK=>oP (gV K (some d)) λL=>oP (fH true a) λM=>oP (gV M (fI 5 i)) λN=>oP (fH true a) λO=>oP (gV O (fe N h5)) λP=>oP (fH true a) λR=>oP (gV R (some g)) λS=>oP (fH true a) λT=>oP (gV T (some b)) λU=>oP (fH true a) λW=>oP (gC W (some (jW,[L,P,S,U]))) λX=>vB CS X h5 λY h6=>oP (fH true a) λZ=>oP (gV Z (pK .not Y)) λaa=>oP (nY c (jA a aa bF)) λab=>bP ab (Q bF h6) (po Q fy d g j s e f b h6))) (dF 1 j h λm=>bO .eql 3 m (V.I 2) (dF 2 j h λn=>gS (iS 3 1 1 nZ [(0,n)]) h λo h7=>cP CS jP [d,o,g,s] h7 λp h8=>Q p h8) (bO .eql 3 m (V.I 3) (dF 5 j h λq=>cP CS jW [d,q,g,s] h λr h9=>Q r h9) (Q bT h)))
theorem Ey{Q}(I)(s:P7 I (qd Q)){k d e f g a b c h}(i:I k d e f g a b c h):ye Q d e f g a b c h:=WA.ln 7 [d,e,f,g,a,b,c] I (qd Q) s i
def pR(Q:fq)(fy:QP7)(k:Zf)(i y j z c d e f g a:V)(h:Hp):Prop:=bO .lss 3 a g (dX 1 f a h λl=>xB (iS 3 1 1 nZ [(0,l)]) h λm n b=>dY 4 j 1 a b λo=>oP (gP i) λp=>oP (fI 0 p) λq=>dF 3 q b λr=>dY 4 j 1 a b λs=>oP (gB 6 r s) λt=>dG 0 t b λu=>((b.get (h.next)=some m/\O.beq m m=true)/\cP CS jP [i,n,o,u] b λv w=>(b.next<=w.next/\bN v (Q bF w) (oP (ez .add 3 a nO) λx=>k i y j z c d e f g x w)))) (po Q fy i y j z c d e h)
theorem Fg{Q fy}(I)(s:P10 I (pR Q fy)){k g j l m a b c d e f h}(i:I k g j l m a b c d e f h):xV Q fy g j l m a b c d e f h:=WA.ln 10 [g,j,l,m,a,b,c,d,e,f] I (pR Q fy) s i
def lY(Q:fq)(fy:QP7)(e f g i a b c:V)(h:Hp):Prop:=oP (ez .add 3 c nO) λd=>fy e f g i a b d h
theorem xh{Q fy d e f g a b c h}(H:lY Q fy d e f g a b c h):po Q fy d e f g a b c h:=JV.wn 7 (lY Q fy) H
theorem Iy(H:oP (gP a0) λc=>oP (fI 0 c) λd=>dF 3 d h λe=>oP (gB 6 e a1) λf=>oP (fO 6 f h) λg=>gS (zC 43 [nS,nZ,nZ,nS,nS,nZ]) h λb l=>fj (gq 6 b g l) λm i=>dG 0 b i λj=>dF 0 b i λa=>oP (fE a) λk=>ye Q a0 a1 b j a k nZ i):cP CS pg [a0,a1] h Q:=cP.ve t71 Tryz.func71 H
theorem T8(H:gS (mi 30 a0) h λe f=>dG 2 e f λv7=>oP (ez .gtr 3 v7 (V.I 3000)) λv8=>oP (nY v8 (oB (fI 3 e) λp=>oB (fe p f) λq=>oB (fE q) λr=>ez .gtr 3 r (V.I 300))) λs=>oP (nY s (oB (fI 4 e) λt=>oB (fe t f) λu=>oB (fE u) λv=>ez .gtr 3 v (V.I 1000))) λw=>oP (nY w (oB (fI 3 e) λx=>oB (fe x f) λy=>oB (fE y) λz=>ez .eql 3 z nZ)) λA=>bP A (Q bF f) (oP (fO 5 e f) λB=>oP (fT [nZ,nZ,nS,nS,nS,nS,nS,nS] [(0,5),(5,1),(6,1),(7,1)] [(0,B)]) λC=>gS (mi 116 C) f λa h2=>dG 4 e h2 λD=>cP CS km [a,D,(V.func pe [a] [])] h2 λE h3=>oP (pK .not E) λg=>oP (fH false g) λb9=>oP (gV b9 (some a)) λF=>oP (fH false g) λG=>oP (gC G (some (uH,[F]))) λI=>vB CS I h3 λJ h4=>oP (nY g (pK .not J)) λb=>oP (fH false b) λi=>oP (gV i (some a)) λK=>oP (fH false b) λL=>oP (gV L (fI 2 e)) λM=>oP (fH false b) λN=>oP (gV N (fe M h4)) λO=>oP (fH false b) λj=>oP (gV j (fE O)) λP=>oP (fH false b) λk=>oP (gV k (some a)) λR=>oP (fH false b) λl=>oP (gV l (some (V.func kh [R] []))) λS=>oP (fH false b) λm=>oP (gC m (some (km,[K,P,S]))) λT=>vB CS T h4 λU h5=>oP (nY b (pK .not U)) λc=>oP (fH false c) λW=>oP (gV W (some a)) λX=>oP (fH false c) λY=>oP (gV Y (fI 3 e)) λZ=>oP (fH false c) λaa=>oP (gV aa (fe Z h5)) λab=>oP (fH false c) λac=>oP (gV ac (fE ab)) λad=>oP (fH false c) λae=>oP (gV ae (some a)) λag=>oP (fH false c) λah=>oP (gV ah (some (V.func p7 [ag] []))) λai=>oP (fH false c) λaj=>oP (gC aj (some (km,[X,ad,ai]))) λak=>vB CS ak h5 λal h6=>oP (nY c (pK .not al)) λd=>oP (fH false d) λam=>oP (gV am (some a)) λan=>oP (fH false d) λao=>oP (gV ao (fI 3 e)) λap=>oP (fH false d) λaq=>oP (gV aq (fe ap h6)) λar=>oP (fH false d) λau=>oP (gV au (fE ar)) λaw=>oP (fH false d) λax=>oP (gV ax (some a)) λay=>oP (fH false d) λaA=>oP (gV aA (some (V.func qT [ay] []))) λaB=>oP (fH false d) λaC=>oP (gC aC (some (km,[an,aw,aB]))) λaD=>vB CS aD h6 λaE h7=>oP (nY d (pK .not aE)) λaF=>bP aF (Q bF h7) (cP CS zO [a] h7 λaG o=>oP (fE aG) λaH=>dG 3 e o λaI=>bO .neq 3 aH aI (Q bF o) (oP (fO 5 e o) λaJ=>cP CS sQ [aJ] o λaK h9=>oP (gP a) λaL=>oP (fI 7 aL) λaM=>fj (gq 1 aM aK h9) λvu n=>dG 3 e n λaN=>cP CS km [a,aN,(V.func pg [a] [])] n λaO aP=>Q aO aP)))):cP CS zo [a0] h Q:=cP.ve [] Tryz.func39 H
end
