/- Parts. -/
import Derived.Test.YtpnddokajmjpbaaDoorM14
namespace Go.Proofs.YtpnddokajmjpbaaDoor.Hx
set_option maxRecDepth 100000
noncomputable section
def t14:List (Nat×List Nat):=[(351,[1,3,4,5]),(2815,[1,3,4,6,7]),(22527,[1,3,4,8,9,10]),(2922495,[1,3,4,8,9,10,11,12]),(90111,[1,3,4,8,9,15,16]),(942078,[1,3,4,8,9,15,16]),(720895,[1,3,18,19]),(177405951,[1,3,18,19,20,21]),(92653420543,[1,3,18,19,20,21,22,23,24]),(986006618110,[1,3,18,19,20,21,22,23,24])]
def lY (C:Cfg)(Q:QP1):LP:=JV C Tryd.f14 t14 175 [1,3,4,5] [] Q
def mc (C:Cfg)(Q:QP1):LP:=JV C Tryd.f14 t14 1407 [1,3,4,6,7] [] Q
def mA (C:Cfg)(Q:QP1):LP:=JV C Tryd.f14 t14 11263 [1,3,4,8,9,10] [] Q
def lX (C:Cfg)(Q:QP1)(a:LP):LP:=JV C Tryd.f14 t14 1461247 [1,3,4,8,9,10,11,12] [kf [1,3,4,8,9,10] a] Q
def md (C:Cfg)(Q:QP1):LP:=JV C Tryd.f14 t14 45055 [1,3,4,8,9,15,16] [] Q
def gB (C:Cfg)(Q:QP1)(a:LP):LP:=JV C Tryd.f14 t14 471039 [1,3,4,8,9,15,16] [kf [1,3,4,8,9,15,16] a] Q
def iP (C:Cfg)(Q:QP1):LP:=JV C Tryd.f14 t14 360447 [1,3,18,19] [] Q
def ml (C:Cfg)(Q:QP1)(a:LP):LP:=JV C Tryd.f14 t14 88702975 [1,3,18,19,20,21] [kf [1,3,18,19] a] Q
def lH (C:Cfg)(Q:QP1)(a:LP)(b:LP):LP:=JV C Tryd.f14 t14 46326710271 [1,3,18,19,20,21,22,23,24] [kf [1,3,18,19] a,kf [1,3,18,19,20,21] b] Q
def gG (C:Cfg)(Q:QP1)(a:LP)(b:LP)(c:LP):LP:=JV C Tryd.f14 t14 493003309055 [1,3,18,19,20,21,22,23,24] [kf [1,3,18,19] a,kf [1,3,18,19,20,21] b,kf [1,3,18,19,20,21,22,23,24] c] Q
def lQ (C:Cfg)(Q:QP1)(k:LP)(c d i b:V)(h:Hp):Prop:=
 dG 3 c h λl=>
 bO .lss 3 b l (
 dJ 3 c 6 b 3 h λm=>
 oP (pIx 1 i b) λn=>
 valP (pSt 1 n m h) λvu j=>
 dJ 3 c 6 b 4 j λo=>
 dX 1 d b j λp=>
 cP C iM [o,p] j λq a=>
 (j.next<=a.next/\
 bN q (
 Q bF a) (
 dF 3 c a λr=>
 oP (pIx 6 r b) λs=>
 dG 3 s a λt=>
 oP (hbin .eql 3 t (V.int .i64 2)) λu=>
 oP (pAnd u (oB (some d) λv=>oB (pFA 3 c) λw=>oB (pLd w a) λx=>oB (some b) λy=>oB (pIx 6 x y) λz=>oB (pFA 3 z) λA=>oB (pLd A a) λB=>oB (pIx 1 B nZ) λD=>oB (pLd D a) λE=>oB (pIx 1 v E) λF=>oB (pLd F a) λG=>oB (pLen G) λH=>oB (hbin .neq 3 H nO) λI=>oB (some I) λJ=>pOr J (oB (some d) λK=>oB (pFA 3 c) λL=>oB (pLd L a) λM=>oB (some b) λN=>oB (pIx 6 M N) λO=>oB (pFA 3 O) λP=>oB (pLd P a) λR=>oB (pIx 1 R nO) λS=>oB (pLd S a) λT=>oB (pIx 1 K T) λU=>oB (pLd U a) λW=>oB (pLen W) λX=>hbin .neq 3 X nO))) λY=>
 bP Y (
 Q bF a) (
 oP (hbin .add 3 b nO) λZ=>
 k [c,d,i,Z] a)))) (
 dX 1 d nZ h λe=>
 oP (pLen e) λf=>
 bO .gtr 3 f nZ (
 Q bF h) (
 cP C gi [i,nZ,(V.int .i64 (-1))] h λg h3=>
 mc C Q [c,d,i,g,nZ] h3))
theorem tC{C Q}(I)(s:S4 I (lQ C Q)){k l h}(i:I k l h)(e:l.length=4:=by rfl):lY C Q l h:=JV.l4 I _ s i e
def mr (C:Cfg)(Q:QP1)(j:LP)(i m n k l:V)(h:Hp):Prop:=
 oP (pLen k) λc=>
 bO .lss 3 l c (
 dX 1 k l h λd=>
 bN d (
 Q bF h) (
 oP (hbin .add 3 l nO) λe=>
 j [i,m,n,k,e] h)) (
 dG 2 i h λa=>
 alP (hmakeSlice 3 1 8 nZ a a) h λf o=>
 dG 2 i o λb=>
 alP (hmakeSlice 3 1 8 nZ b b) o λg p=>
 mA C Q [i,m,n,f,g,nZ] p)
theorem tB{C Q}(I)(s:S5 I (mr C Q)){k l h}(i:I k l h)(e:l.length=5:=by rfl):mc C Q l h:=JV.l5 I _ s i e
def lV (C:Cfg)(Q:QP1)(c:LP)(d f g i j a:V)(h:Hp):Prop:=
 dG 3 d h λb=>
 bO .lss 3 a b (
 lX C Q c [d,f,g,i,j,a,bT,nZ] h) (
 alP (zC 77 [bF,bF,bF,bF,bF,bF,bF,bF,bF,bF,bF,bF,bF,bF,bF,bF,bF,bF,bF,bF,bF,bF,bF,bF,bF,bF,bF,bF,bF,bF,bF,bF,bF,bF,bF,bF,bF,bF,bF,bF]) h λe k=>
 md C Q [d,f,g,i,j,e,nZ] k)
theorem tG{C Q}(I)(s:S6 I (lV C Q)){k l h}(i:I k l h)(e:l.length=6:=by rfl):mA C Q l h:=JV.l6 I _ s i e
def mD (C:Cfg)(Q:QP1)(aq:LP)(ar:LP)(r x3 x4 x8 x9 a t b:V)(h:Hp):Prop:=
 dF 3 r h λu=>
 oP (pIx 6 u a) λv=>
 dG 0 v h λw=>
 bO .lss 3 b w (
 oP (pFA 2 r) λd=>
 oP (pLd d h) λe=>
 oP (pFA 3 r) λf=>
 oP (pLd f h) λg=>
 oP (pIx 6 g a) λx=>
 oP (pFA 0 x) λi=>
 oP (pLd i h) λj=>
 oP (pIx 1 j b) λk=>
 oP (pLd k h) λl=>
 oP (pIx 6 e l) λm=>
 oP (pLdA 6 m h) λn=>
 alO (zC 42 [nZ,nZ,nZ,nZ,nS,nZ]) h λs c o=>
 ((o.get (h.next)=some s/\O.beq s s=true)/\
 ((pLdA 6 m o=some n)/\
 ((pLd k o=some l)/\
 ((pLd i o=some j)/\
 ((pLd f o=some g)/\
 ((pLd d o=some e)/\
 valP (pSt 6 c n o) λvu h2=>
 (o.next<=h2.next/\
 dJ 3 r 6 a 0 h2 λy=>
 dX 1 y b h2 λz=>
 oP (pIx 1 x8 z) λA=>
 valP (pSt 1 A a h2) λau h3=>
 dJ 3 r 6 a 0 h3 λB=>
 dX 1 B b h3 λD=>
 oP (pIx 1 x9 D) λE=>
 valP (pSt 1 E b h3) λaw p=>
 dF 0 c p λF=>
 oP (hbin .eql 3 F (V.int .i64 21)) λG=>
 oP (pOr G (oB (pFA 0 c) λH=>oB (pLd H p) λI=>hbin .eql 3 I nO)) λq=>
 oP (pAnd q (oB (some t) λJ=>hun .not J)) λK=>
 oP (pOr K (oB (pFA 0 c) λL=>oB (pLd L p) λM=>oB (hbin .eql 3 M (V.int .i64 21)) λN=>oB (some N) λP=>pAnd P (oB (pFA 4 c) λR=>oB (pLd R p) λS=>oB (pLen S) λT=>oB (some x3) λU=>oB (some a) λW=>oB (pIx 1 U W) λX=>oB (pLd X p) λY=>oB (pLen Y) λZ=>oB (hbin .neq 3 T Z) λaa=>oB (some aa) λab=>pOr ab (oB (some a) λac=>hbin .eql 3 ac nZ)))) λae=>
 oP (pOr ae (oB (pFA 0 c) λag=>oB (pLd ag p) λah=>oB (hbin .eql 3 ah nO) λai=>oB (some ai) λaj=>pAnd aj (oB (some a) λal=>hbin .neq 3 al nZ))) λam=>
 bP am (
 Q bF p) (
 oP (pAnd t (some q)) λan=>
 oP (hbin .add 3 b nO) λao=>
 ar [r,x3,x4,x8,x9,a,an,ao] p))))))))) (
 oP (hbin .add 3 a nO) λap=>
 aq [r,x3,x4,x8,x9,ap] h)
theorem sZ{C Q a}(I)(s:S8 I (mD C Q a)){k l h}(i:I k l h)(e:l.length=8:=by rfl):lX C Q a l h:=JV.l8 I _ s i e
def lJ (C:Cfg)(Q:QP1)(d:LP)(c q r s t b a:V)(h:Hp):Prop:=
 dG 2 c h λe=>
 bO .lss 3 a e (
 dJ 2 c 6 a 0 h λf=>
 bO .eql 3 f nO (
 dJ 2 c 6 a 3 h λg=>
 oP (pIxA 40 1 b g) λi=>
 oP (pLd i h) λj=>
 bP j (
 Q bF h) (
 dJ 2 c 6 a 3 h λk=>
 oP (pIxA 40 1 b k) λl=>
 valP (pSt 1 l bT h) λz w=>
 gB C Q d [c,q,r,s,t,b,a] w)) (
 gB C Q d [c,q,r,s,t,b,a] h)) (
 cP C iL [r,nZ] h λm u=>
 oP (pLdA 5 c u) λn=>
 oP (pBuild [nZ,nZ,nS,nS,nS,nS,nS,nS] [(0,5),(5,1),(6,1),(7,1)] [(0,n),(1,s),(2,t),(3,m)]) λo=>
 alP (zC 79 [nZ,nZ,nS,nS,nS,nS,nS,nS]) u λp x=>
 valP (pSt 8 p o x) λv y=>
 iP C Q [c,q,p,nZ] y)
theorem tu{C Q}(I)(s:S7 I (lJ C Q)){k l h}(i:I k l h)(e:l.length=7:=by rfl):md C Q l h:=JV.l7 I _ s i e
def kV (C:Cfg)(Q:QP1)(b:LP)(e f g i j c d:V)(h:Hp):Prop:=
 oP (hbin .add 3 d nO) λa=>
 b [e,f,g,i,j,c,a] h
theorem sm{C Q a}:R7 (kV C Q a) (gB C Q a):=JV.r7 _
def my (C:Cfg)(Q:QP1)(g:LP)(i k j a:V)(h:Hp):Prop:=
 dG 3 i h λb=>
 bO .lss 3 a b (
 dF 3 i h λc=>
 oP (pIx 6 c a) λd=>
 oP (pLdA 6 d h) λe=>
 alP (zC 44 [nS,nZ,nZ,nS,nS,nZ]) h λf l=>
 valP (pSt 6 f e l) λn m=>
 ml C Q g [i,k,j,a,f,nZ] m) (
 Q bT h)
theorem te{C Q}(I)(s:S4 I (my C Q)){k l h}(i:I k l h)(e:l.length=4:=by rfl):iP C Q l h:=JV.l4 I _ s i e
def mj (C:Cfg)(Q:QP1)(s:LP)(R:LP)(S x3 e f d p:V)(h:Hp):Prop:=
 dG 0 d h λt=>
 bO .lss 3 p t (
 oP (pFA 2 S) λg=>
 oP (pLd g h) λi=>
 oP (pFA 0 d) λj=>
 oP (pLd j h) λk=>
 oP (pIx 1 k p) λl=>
 oP (pLd l h) λm=>
 oP (pIx 6 i m) λn=>
 oP (pLdA 6 n h) λo=>
 alO (zC 42 [nZ,nZ,nZ,nZ,nS,nZ]) h λT q r=>
 ((r.get (h.next)=some T/\O.beq T T=true)/\
 ((pLdA 6 n r=some o)/\
 ((pLd l r=some m)/\
 ((pLd j r=some k)/\
 ((pLd g r=some i)/\
 valP (pSt 6 q o r) λvu U=>
 (r.next<=U.next/\
 oP (pLdA 6 q U) λu=>
 cP C fR [u] U λv h3=>
 lH C Q s R [S,x3,e,f,d,p,q,v,nZ] h3))))))) (
 dF 1 d h λw=>
 oP (hbin .eql 3 w (V.int .i64 2)) λb=>
 oP (pGd true b) λb4=>
 oP (gV b4 (pLdA 8 e h)) λx=>
 oP (pGd true b) λb5=>
 oP (gV b5 (pFA 2 d)) λy=>
 oP (pGd true b) λb6=>
 oP (gV b6 (pLd y h)) λz=>
 oP (pGd true b) λb7=>
 oP (gV b7 (some f)) λA=>
 oP (pGd true b) λb8=>
 oP (gC b8 (some (fq,[x,z,A,(V.int .i64 1073741824)]))) λy8=>cgP C y8 h λB P=>
 oP (pAnd b (hun .not B)) λc=>
 oP (pGd false c) λW=>
 oP (gV W (pFA 1 d)) λD=>
 oP (pGd false c) λX=>
 oP (gV X (pLd D P)) λE=>
 oP (pGd false c) λY=>
 oP (gV Y (hbin .eql 3 E (V.int .i64 3))) λF=>
 oP (pGd false c) λZ=>
 oP (gV Z (some F)) λa=>
 oP (pGd true a) λaa=>
 oP (gV aa (pLdA 8 e P)) λG=>
 oP (pGd true a) λab=>
 oP (gV ab (pFA 5 d)) λH=>
 oP (pGd true a) λac=>
 oP (gV ac (pLd H P)) λI=>
 oP (pGd true a) λae=>
 oP (gV ae (some f)) λJ=>
 oP (pGd true a) λag=>
 oP (gC ag (some (fM,[G,I,J,(V.int .i64 1073741824)]))) λah=>cgP C ah P λK h5=>
 oP (pGd true a) λai=>
 oP (gV ai (hun .not K)) λL=>
 oP (pOr c (pPick a L bF)) λM=>
 bP M (
 Q bF h5) (
 oP (hbin .add 3 f nO) λN=>
 s [S,x3,e,N] h5))
theorem tn{C Q a}(I)(s:S6 I (mj C Q a)){k l h}(i:I k l h)(e:l.length=6:=by rfl):ml C Q a l h:=JV.l6 I _ s i e
def lL (C:Cfg)(Q:QP1)(k:LP)(i:LP)(l:LP)(K J b c j f d g e:V)(h:Hp):Prop:=
 oP (pLen g) λm=>
 bO .lss 3 e m (
 dF 0 d h λn=>
 bO .eql 3 n (V.int .i64 21) (
 oP (pLdA 8 b h) λo=>
 dX 1 g e h λp=>
 dX 1 J c h λq=>
 dX 1 q e h λr=>
 cP C fq [o,p,r,(V.int .i64 1073741824)] h λs L=>
 (h.next<=L.next/\
 bN s (
 Q bF L) (
 gG C Q k i l [K,J,b,c,j,f,d,g,e] L))) (
 oP (pLdA 8 b h) λt=>
 dX 1 g e h λu=>
 cP C fq [t,u,c,f] h λv M=>
 (h.next<=M.next/\
 bN v (
 Q bF M) (
 gG C Q k i l [K,J,b,c,j,f,d,g,e] M)))) (
 dF 0 d h λw=>
 oP (hbin .eql 3 w (V.int .i64 22)) λx=>
 oP (pOr x (oB (pFA 0 d) λy=>oB (pLd y h) λz=>hbin .eql 3 z (V.int .i64 23))) λa=>
 oP (pGd true a) λW=>
 oP (gV W (pLdA 8 b h)) λA=>
 oP (pGd true a) λN=>
 oP (gV N (pFA 5 d)) λB=>
 oP (pGd true a) λO=>
 oP (gV O (pLd B h)) λD=>
 oP (pGd true a) λP=>
 oP (gV P (some c)) λE=>
 oP (pGd true a) λR=>
 oP (gV R (some f)) λF=>
 oP (pGd true a) λS=>
 oP (gC S (some (fM,[A,D,E,F]))) λT=>cgP C T h λG U=>
 oP (pAnd a (hun .not G)) λH=>
 bP H (
 Q bF U) (
 oP (hbin .add 3 f nO) λI=>
 i [K,J,b,c,j,I] U))
theorem td{C Q a b}(I)(s:S9 I (lL C Q a b)){k l h}(i:I k l h)(e:l.length=9:=by rfl):lH C Q a b l h:=JV.l9 I _ s i e
def kL (C:Cfg)(Q:QP1)(k:LP)(l:LP)(b:LP)(m n c d e f g i j:V)(h:Hp):Prop:=
 oP (hbin .add 3 j nO) λa=>
 b [m,n,c,d,e,f,g,i,a] h
theorem sr{C Q a b c}:R9 (kL C Q a b c) (gG C Q a b c):=JV.r9 _
def px (C:Cfg)(Q:QP1)(a0:V)(h:Hp):Prop:=
 alP (hbox 30 a0) h λb j=>
 oP (pLdA 5 b j) λc=>
 cP C iB [c] j λd e=>
 bN d (
 Q bF e) (
 oP (pLdA 5 b e) λf=>
 cP C iC [f] e λg k=>
 dG 3 b k λa=>
 alP (hmakeSlice 23 1 24 nS a a) k λi l=>
 lY C Q [b,g,i,nZ] l)
theorem vH{C}(s:C.start=startF){a0 h Q}(k:C.K iE [a0] h=none)(H:px C Q a0 h):cP C iE [a0] h Q:=cP.vd t14 s (by unfold P0;exact Tryd.func14) k H
def t44:List (Nat×List Nat):=[(87,[1,3]),(21655,[1,3,4]),(175,[1,7]),(48279,[1,3,5,6]),(96559,[1,7,9,10]),(1407,[1,11,12,13]),(248190,[1,11,12,13,14,15]),(2869631,[1,11,12,13,14,15,16]),(3131775,[1,11,12,13,14,17])]
def lK (C:Cfg)(Q:QP1):LP:=JV C Tryd.f44 t44 43 [1,3] [] Q
def mB (C:Cfg)(Q:QP1)(a:LP):LP:=JV C Tryd.f44 t44 10827 [1,3,4] [kf [1,3] a] Q
def gN (C:Cfg)(Q:QP1):LP:=JV C Tryd.f44 t44 87 [1,7] [] Q
def mC (C:Cfg)(Q:QP1)(a:LP):LP:=JV C Tryd.f44 t44 24139 [1,3,5,6] [kf [1,3] a] Q
def iS (C:Cfg)(Q:QP1)(a:LP):LP:=JV C Tryd.f44 t44 48279 [1,7,9,10] [kf [1,7] a] Q
def lW (C:Cfg)(Q:QP1):LP:=JV C Tryd.f44 t44 703 [1,11,12,13] [] Q
def fV (C:Cfg)(Q:QP1)(a:LP):LP:=JV C Tryd.f44 t44 124095 [1,11,12,13,14,15] [kf [1,11,12,13] a] Q
def iR (C:Cfg)(Q:QP1)(a:LP):LP:=JV C Tryd.f44 t44 1434815 [1,11,12,13,14,15,16] [kf [1,11,12,13] a] Q
def me (C:Cfg)(Q:QP1)(a:LP):LP:=JV C Tryd.f44 t44 1565887 [1,11,12,13,14,17] [kf [1,11,12,13] a] Q
def mq (C:Cfg)(Q:QP1)(c:LP)(a b:V)(h:Hp):Prop:=
 dG 4 a h λd=>
 bO .lss 3 b d (
 dF 4 a h λe=>
 oP (pIx 1 e b) λf=>
 dG 0 f h λg=>
 oP (hbin .lss 3 g nO) λi=>
 oP (pOr i (oB (pFA 4 a) λj=>oB (pLd j h) λk=>oB (some b) λl=>oB (pIx 1 k l) λm=>oB (pFA 0 m) λn=>oB (pLd n h) λo=>oB (pLen o) λp=>hbin .gtr 3 p (V.int .i64 30))) λq=>
 bP q (
 Q bF h) (
 mB C Q c [a,b,nZ] h)) (
 gN C Q [a,nZ] h)
theorem tq{C Q}(I)(s:S2 I (mq C Q)){k l h}(i:I k l h)(e:l.length=2:=by rfl):lK C Q l h:=JV.l2 I _ s i e
def mi (C:Cfg)(Q:QP1)(j:LP)(k:LP)(a b i:V)(h:Hp):Prop:=
 dF 4 a h λl=>
 oP (pIx 1 l b) λm=>
 dG 0 m h λn=>
 bO .lss 3 i n (
 dJ 4 a 1 b 0 h λo=>
 oP (pIx 4 o i) λp=>
 dG 2 p h λq=>
 oP (hbin .gtr 3 q (V.int .i64 40)) λr=>
 oP (pOr r (oB (pFA 4 a) λs=>oB (pLd s h) λt=>oB (some b) λu=>oB (pIx 1 t u) λv=>oB (pFA 0 v) λw=>oB (pLd w h) λx=>oB (some i) λy=>oB (pIx 4 x y) λz=>oB (pFA 3 z) λA=>oB (pLd A h) λB=>oB (pLen B) λD=>hbin .gtr 3 D (V.int .i64 60))) λc=>
 bP c (
 Q bF h) (
 oP (hbin .add 3 i nO) λE=>
 k [a,b,E] h)) (
 dF 4 a h λd=>
 oP (pIx 1 d b) λe=>
 oP (pLdA 1 e h) λf=>
 cP C gy [f] h λg F=>
 mC C Q j [a,b,g,nZ] F)
theorem tg{C Q a}(I)(s:S3 I (mi C Q a)){k l h}(i:I k l h)(e:l.length=3:=by rfl):mB C Q a l h:=JV.l3 I _ s i e
def mn (C:Cfg)(Q:QP1)(an:LP)(k x7:V)(h:Hp):Prop:=
 dG 2 k h λl=>
 bO .lss 3 x7 l (
 dF 2 k h λm=>
 oP (pIx 6 m x7) λn=>
 oP (pLdA 6 n h) λo=>
 alP (zC 42 [nZ,nZ,nZ,nZ,nS,nZ]) h λf h1=>
 valP (pSt 6 f o h1) λvu i=>
 dF 0 f i λp=>
 oP (hbin .lss 3 p nO) λq=>
 oP (pOr q (oB (pFA 0 f) λr=>oB (pLd r i) λs=>hbin .gtr 3 s (V.int .i64 23))) λt=>
 oP (pOr t (oB (pFA 0 f) λu=>oB (pLd u i) λv=>oB (hbin .eql 3 v (V.int .i64 20)) λw=>oB (some w) λx=>pAnd x (oB (pFA 4 f) λy=>oB (pLd y i) λz=>oB (pLen z) λA=>hbin .neq 3 A nO))) λc=>
 oP (pGd false c) λao=>
 oP (gV ao (pFA 0 f)) λB=>
 oP (pGd false c) λap=>
 oP (gV ap (pLd B i)) λD=>
 oP (pGd false c) λaq=>
 oP (gV aq (hbin .eql 3 D nO)) λE=>
 oP (pGd false c) λar=>
 oP (gV ar (some E)) λd=>
 oP (pGd true d) λau=>
 oP (gV au (pFA 3 f)) λF=>
 oP (pGd true d) λaw=>
 oP (gV aw (pLd F i)) λG=>
 oP (pGd true d) λax=>
 oP (gC ax (some (fh,[G,(V.int .i64 40)]))) λay=>cgP C ay i λH j=>
 oP (pGd true d) λaA=>
 oP (gV aA (hun .not H)) λI=>
 oP (pOr c (pPick d I bF)) λJ=>
 oP (pOr J (oB (pFA 0 f) λK=>oB (pLd K j) λL=>oB (hbin .eql 3 L nO) λM=>oB (some M) λN=>pAnd N (oB (pFA 3 f) λO=>oB (pLd O j) λP=>hbin .gtr 2 P (V.int .i64 1073741824)))) λb=>
 oP (pGd false b) λaB=>
 oP (gV aB (pFA 0 f)) λR=>
 oP (pGd false b) λaC=>
 oP (gV aC (pLd R j)) λS=>
 oP (pGd false b) λaD=>
 oP (gV aD (hbin .eql 3 S (V.int .i64 22))) λT=>
 oP (pGd false b) λaE=>
 oP (gV aE (some T)) λe=>
 oP (pGd false e) λaF=>
 oP (gV aF (pFA 0 f)) λU=>
 oP (pGd false e) λaG=>
 oP (gV aG (pLd U j)) λW=>
 oP (pGd false e) λaH=>
 oP (gV aH (hbin .eql 3 W (V.int .i64 23))) λX=>
 oP (pGd false b) λaI=>
 oP (gV aI (pPick e bT X)) λY=>
 oP (pGd false b) λaJ=>
 oP (gV aJ (some Y)) λa=>
 oP (pGd true a) λaK=>
 oP (gV aK (pFA 5 f)) λZ=>
 oP (pGd true a) λaL=>
 oP (gV aL (pLd Z j)) λaa=>
 oP (pGd true a) λaM=>
 oP (gV aM (pFA 4 k)) λab=>
 oP (pGd true a) λaN=>
 oP (gV aN (pLd ab j)) λac=>
 oP (pGd true a) λaO=>
 oP (gV aO (pLen ac)) λae=>
 oP (pGd true a) λaP=>
 oP (gC aP (some (fh,[aa,ae]))) λaQ=>cgP C aQ j λag h4=>
 oP (pGd true a) λaR=>
 oP (gV aR (hun .not ag)) λah=>
 oP (pOr b (pPick a ah bF)) λai=>
 bP ai (
 Q bF h4) (
 oP (pLdA 6 f h4) λaj=>
 cP C fR [aj] h4 λal h5=>
 iS C Q an [k,x7,al,nZ] h5)) (
 dG 2 k h λg=>
 alP (hmakeSlice 4 1 1 bF g g) h λam h6=>
 lW C Q [k,am,nZ,nZ] h6)
theorem tw{C Q}(I)(s:S2 I (mn C Q)){k l h}(i:I k l h)(e:l.length=2:=by rfl):gN C Q l h:=JV.l2 I _ s i e
def mG (C:Cfg)(Q:QP1)(w:LP)(x:LP)(t M u v:V)(h:Hp):Prop:=
 oP (pLen u) λc=>
 bO .lss 3 v c (
 dX 1 u v h λd=>
 dG 2 t h λe=>
 cP C fh [d,e] h λf b=>
 (h.next<=b.next/\
 oP (hun .not f) λa=>
 oP (pGd false a) λy=>
 oP (gV y (pFA 2 t)) λg=>
 oP (pGd false a) λz=>
 oP (gV z (pLd g b)) λi=>
 oP (pGd false a) λA=>
 oP (gV A (some u)) λj=>
 oP (pGd false a) λB=>
 oP (gV B (some v)) λk=>
 oP (pGd false a) λD=>
 oP (gV D (pIx 1 j k)) λl=>
 oP (pGd false a) λE=>
 oP (gV E (pLd l b)) λm=>
 oP (pGd false a) λF=>
 oP (gV F (pIx 6 i m)) λn=>
 oP (pGd false a) λG=>
 oP (gV G (pFA 0 n)) λo=>
 oP (pGd false a) λH=>
 oP (gV H (pLd o b)) λp=>
 oP (pGd false a) λI=>
 oP (gC I (some (f0,[p]))) λJ=>cgP C J b λq K=>
 (b.next<=K.next/\
 oP (pOr a (hun .not q)) λr=>
 bP r (
 Q bF K) (
 oP (hbin .add 3 v nO) λs=>
 x [t,M,u,s] K)))) (
 oP (hbin .add 3 M nO) λL=>
 w [t,L] h)
theorem ti{C Q a}(I)(s:S4 I (mG C Q a)){k l h}(i:I k l h)(e:l.length=4:=by rfl):mC C Q a l h:=JV.l4 I _ s i e
def mb (C:Cfg)(Q:QP1)(x:LP)(y:LP)(v M w b:V)(h:Hp):Prop:=
 oP (pLen w) λd=>
 bO .lss 3 b d (
 dX 1 w b h λe=>
 dG 2 v h λf=>
 cP C fh [e,f] h λg c=>
 (h.next<=c.next/\
 oP (hun .not g) λa=>
 oP (pGd false a) λz=>
 oP (gV z (pFA 2 v)) λi=>
 oP (pGd false a) λA=>
 oP (gV A (pLd i c)) λj=>
 oP (pGd false a) λB=>
 oP (gV B (some w)) λk=>
 oP (pGd false a) λD=>
 oP (gV D (some b)) λl=>
 oP (pGd false a) λE=>
 oP (gV E (pIx 1 k l)) λm=>
 oP (pGd false a) λF=>
 oP (gV F (pLd m c)) λn=>
 oP (pGd false a) λG=>
 oP (gV G (pIx 6 j n)) λo=>
 oP (pGd false a) λH=>
 oP (gV H (pFA 0 o)) λp=>
 oP (pGd false a) λI=>
 oP (gV I (pLd p c)) λq=>
 oP (pGd false a) λJ=>
 oP (gC J (some (f0,[q]))) λK=>cgP C K c λr L=>
 (c.next<=L.next/\
 oP (pOr a (hun .not r)) λs=>
 bP s (
 Q bF L) (
 oP (hbin .add 3 b nO) λt=>
 y [v,M,w,t] L)))) (
 oP (hbin .add 3 M nO) λu=>
 x [v,u] h)
theorem tk{C Q a}(I)(s:S4 I (mb C Q a)){k l h}(i:I k l h)(e:l.length=4:=by rfl):iS C Q a l h:=JV.l4 I _ s i e
def lU (C:Cfg)(Q:QP1)(e:LP)(g f d a:V)(h:Hp):Prop:=
 dG 3 g h λi=>
 bO .lss 3 a i (
 dF 3 g h λj=>
 oP (pIx 6 j a) λk=>
 oP (pLdA 6 k h) λl=>
 alP (zC 44 [nS,nZ,nZ,nS,nS,nZ]) h λb p=>
 valP (pSt 6 b l p) λq m=>
 dF 1 b m λc=>
 bO .eql 3 c nO (
 fV C Q e [g,f,d,a,b,nO] m) (
 bO .eql 3 c (V.int .i64 2) (
 fV C Q e [g,f,d,a,b,(V.int .i64 2)] m) (
 bO .eql 3 c (V.int .i64 3) (
 fV C Q e [g,f,d,a,b,nZ] m) (
 Q bF m)))) (
 dG 2 g h λn=>
 oP (hbin .eql 3 d n) λo=>
 Q o h)
theorem tF{C Q}(I)(s:S4 I (lU C Q)){k l h}(i:I k l h)(e:l.length=4:=by rfl):lW C Q l h:=JV.l4 I _ s i e
def kS (C:Cfg)(Q:QP1)(T:LP)(P U W X f g:V)(h:Hp):Prop:=
 dG 3 f h λi=>
 oP (hbin .neq 3 i g) λd=>
 oP (pGd false d) λb6=>
 oP (gV b6 (pFA 1 f)) λj=>
 oP (pGd false d) λb7=>
 oP (gV b7 (pLd j h)) λk=>
 oP (pGd false d) λb8=>
 oP (gV b8 (hbin .eql 3 k (V.int .i64 2))) λl=>
 oP (pGd false d) λb9=>
 oP (gV b9 (some l)) λa=>
 oP (pGd true a) λY=>
 oP (gV Y (pFA 2 f)) λm=>
 oP (pGd true a) λZ=>
 oP (gV Z (pLd m h)) λn=>
 oP (pGd true a) λaa=>
 oP (gV aa (pFA 2 P)) λo=>
 oP (pGd true a) λab=>
 oP (gV ab (pLd o h)) λp=>
 oP (pGd true a) λac=>
 oP (gV ac (pLen p)) λq=>
 oP (pGd true a) λae=>
 oP (gC ae (some (fh,[n,q]))) λag=>cgP C ag h λr R=>
 oP (pGd true a) λah=>
 oP (gV ah (hun .not r)) λs=>
 oP (pGd true a) λai=>
 oP (gV ai (some s)) λb=>
 oP (pGd false b) λaj=>
 oP (gV aj (pFA 2 P)) λt=>
 oP (pGd false b) λal=>
 oP (gV al (pLd t R)) λu=>
 oP (pGd false b) λam=>
 oP (gV am (pFA 2 f)) λv=>
 oP (pGd false b) λan=>
 oP (gV an (pLd v R)) λw=>
 oP (pGd false b) λao=>
 oP (gV ao (pIx 6 u w)) λx=>
 oP (pGd false b) λap=>
 oP (gV ap (pFA 0 x)) λy=>
 oP (pGd false b) λaq=>
 oP (gV aq (pLd y R)) λz=>
 oP (pGd false b) λar=>
 oP (gC ar (some (f0,[z]))) λau=>cgP C au R λA S=>
 oP (pGd false b) λaw=>
 oP (gV aw (hun .not A)) λB=>
 oP (pGd true a) λax=>
 oP (gV ax (pPick b bT B)) λD=>
 oP (pOr d (pPick a D bF)) λe=>
 oP (pGd false e) λay=>
 oP (gV ay (pFA 1 f)) λE=>
 oP (pGd false e) λaA=>
 oP (gV aA (pLd E S)) λF=>
 oP (pGd false e) λaB=>
 oP (gV aB (hbin .eql 3 F (V.int .i64 3))) λG=>
 oP (pGd false e) λaC=>
 oP (gV aC (some G)) λc=>
 oP (pGd true c) λaD=>
 oP (gV aD (pFA 5 f)) λH=>
 oP (pGd true c) λaE=>
 oP (gV aE (pLd H S)) λI=>
 oP (pGd true c) λaF=>
 oP (gV aF (pFA 4 P)) λJ=>
 oP (pGd true c) λaG=>
 oP (gV aG (pLd J S)) λK=>
 oP (pGd true c) λaH=>
 oP (gV aH (pLen K)) λL=>
 oP (pGd true c) λaI=>
 oP (gC aI (some (fh,[I,L]))) λaJ=>cgP C aJ S λM h3=>
 oP (pGd true c) λaK=>
 oP (gV aK (hun .not M)) λN=>
 oP (pOr e (pPick c N bF)) λO=>
 bP O (
 Q bF h3) (
 iR C Q T [P,U,W,X,f,g,nZ] h3)
theorem sk{C Q a}:R6 (kS C Q a) (fV C Q a):=JV.r6 _
def mF (C:Cfg)(Q:QP1)(l:LP)(m:LP)(n c d e a f b:V)(h:Hp):Prop:=
 bO .lss 3 b f (
 dY 3 a 1 b h λg=>
 dG 3 n h λi=>
 cP C fh [g,i] h λj o=>
 (h.next<=o.next/\
 bN j (
 Q bF o) (
 oP (hbin .add 3 b nO) λk=>
 m [n,c,d,e,a,f,k] o))) (
 me C Q l [n,c,d,e,a,nZ] h)
theorem tH{C Q a}(I)(s:S7 I (mF C Q a)){k l h}(i:I k l h)(e:l.length=7:=by rfl):iR C Q a l h:=JV.l7 I _ s i e
def l0 (C:Cfg)(Q:QP1)(z:LP)(A:LP)(B c e f a b:V)(h:Hp):Prop:=
 dG 0 a h λg=>
 bO .lss 3 b g (
 dY 0 a 1 b h λi=>
 dG 2 B h λj=>
 cP C fh [i,j] h λk d=>
 (h.next<=d.next/\
 oP (hun .not k) λl=>
 oP (pOr l (oB (some c) λm=>oB (pFA 0 a) λn=>oB (pLd n d) λo=>oB (some b) λp=>oB (pIx 1 o p) λq=>oB (pLd q d) λr=>oB (pIx 1 m r) λs=>pLd s d)) λt=>
 bP t (
 Q bF d) (
 dY 0 a 1 b d λu=>
 oP (pIx 1 c u) λv=>
 valP (pSt 1 v bT d) λE D=>
 oP (hbin .add 3 e nO) λw=>
 oP (hbin .add 3 b nO) λx=>
 A [B,c,w,f,a,x] D))) (
 oP (hbin .add 3 f nO) λy=>
 z [B,c,e,y] h)
theorem tz{C Q a}(I)(s:S6 I (l0 C Q a)){k l h}(i:I k l h)(e:l.length=6:=by rfl):me C Q a l h:=JV.l6 I _ s i e
def pJ (C:Cfg)(Q:QP1)(a0:V)(h:Hp):Prop:=
 alP (hbox 30 a0) h λb a=>
 dG 2 b a λc=>
 oP (hbin .gtr 3 c (V.int .i64 3000)) λd=>
 oP (pOr d (oB (pFA 3 b) λe=>oB (pLd e a) λf=>oB (pLen f) λg=>hbin .gtr 3 g (V.int .i64 300))) λi=>
 oP (pOr i (oB (pFA 3 b) λj=>oB (pLd j a) λk=>oB (pLen k) λl=>hbin .lss 3 l nO)) λm=>
 oP (pOr m (oB (pFA 4 b) λn=>oB (pLd n a) λo=>oB (pLen o) λp=>hbin .gtr 3 p (V.int .i64 1000))) λq=>
 bP q (
 Q bF a) (
 lK C Q [b,nZ] a)
theorem vI{C}(s:C.start=startF){a0 h Q}(k:C.K iB [a0] h=none)(H:pJ C Q a0 h):cP C iB [a0] h Q:=cP.vd t44 s (by unfold P0;exact Tryd.func44) k H
def t45:List (Nat×List Nat):=[(87,[1,3,4]),(5271,[1,3,4,5])]
def lZ (C:Cfg)(Q:QP1):LP:=JV C Tryd.f45 t45 43 [1,3,4] [] Q
def mh (C:Cfg)(Q:QP1)(a:LP):LP:=JV C Tryd.f45 t45 2635 [1,3,4,5] [kf [1,3,4] a] Q
def lR (C:Cfg)(Q:QP1)(a:LP)(c d e:V)(h:Hp):Prop:=
 dG 3 c h λb=>
 bO .lss 3 e b (
 mh C Q a [c,d,e,nZ] h) (
 Q d h)
theorem ta{C Q}(I)(s:S3 I (lR C Q)){k l h}(i:I k l h)(e:l.length=3:=by rfl):lZ C Q l h:=JV.l3 I _ s i e
def mt (C:Cfg)(Q:QP1)(e:LP)(f:LP)(c d a g:V)(h:Hp):Prop:=
 dF 3 c h λi=>
 oP (pIx 6 i a) λj=>
 dG 3 j h λk=>
 bO .lss 3 g k (
 dJ 3 c 6 a 3 h λl=>
 dX 1 l g h λb=>
 dX 1 d b h λm=>
 alP (pBS 3 1 1 nZ [(0,a)]) h λn s=>
 valP (happend 3 1 8 m n s) λo t=>
 oP (pIx 1 d b) λp=>
 valP (pSt 1 p o t) λv u=>
 oP (hbin .add 3 g nO) λq=>
 f [c,d,a,q] u) (
 oP (hbin .add 3 a nO) λr=>
 e [c,d,r] h)
theorem tE{C Q a}(I)(s:S4 I (mt C Q a)){k l h}(i:I k l h)(e:l.length=4:=by rfl):mh C Q a l h:=JV.l4 I _ s i e
def pD (C:Cfg)(Q:QP1)(a0:V)(h:Hp):Prop:=
 alP (hbox 30 a0) h λb c=>
 dG 3 b c λd=>
 alP (hmakeSlice 23 1 24 nS d d) c λa e=>
 lZ C Q [b,a,nZ] e
theorem vM{C}(s:C.start=startF){a0 h Q}(k:C.K iC [a0] h=none)(H:pD C Q a0 h):cP C iC [a0] h Q:=cP.vd t45 s (by unfold P0;exact Tryd.func45) k H
def t46:List (Nat×List Nat):=[(87,[0,1,5])]
def ni (C:Cfg)(Q:QP1):LP:=JV C Tryd.f46 t46 43 [0,1,5] [] Q
def mY (C:Cfg)(Q:QP1)(b:LP)(c i a:V)(h:Hp):Prop:=
 oP (pLen c) λd=>
 bO .lss 3 a d (
 dX 1 c a h λe=>
 dX 1 i a h λf=>
 bO .neq 3 e f (
 Q bF h) (
 oP (hbin .add 3 a nO) λg=>
 b [c,i,g] h)) (
 Q bT h)
theorem ud{C Q}(I)(s:S3 I (mY C Q)){k l h}(i:I k l h)(e:l.length=3:=by rfl):ni C Q l h:=JV.l3 I _ s i e
def qb (C:Cfg)(Q:QP1)(a0 a1:V)(h:Hp):Prop:=
 oP (pLen a0) λa=>
 oP (pLen a1) λb=>
 bO .neq 3 a b (
 Q bF h) (
 ni C Q [a0,a1,nZ] h)
theorem wc{C}(s:C.start=startF){a0 a1 h Q}(k:C.K iM [a0,a1] h=none)(H:qb C Q a0 a1 h):cP C iM [a0,a1] h Q:=cP.vd t46 s (by unfold P0;exact Tryd.func46) k H
def t47:List (Nat×List Nat):=[(319,[0,2,7,8]),(47679,[0,2,7,8,9,10]),(473662,[0,2,7,8,9,10])]
def ko (C:Cfg)(Q:QP1):LP:=JV C Tryd.f47 t47 159 [0,2,7,8] [] Q
def km (C:Cfg)(Q:QP1)(a:LP):LP:=JV C Tryd.f47 t47 23839 [0,2,7,8,9,10] [kf [0,2,7,8] a] Q
def ir (C:Cfg)(Q:QP1)(a:LP)(b:LP):LP:=JV C Tryd.f47 t47 236831 [0,2,7,8,9,10] [kf [0,2,7,8] a,kf [0,2,7,8,9,10] b] Q
def kG (C:Cfg)(Q:QP1)(a:LP)(g i f b:V)(h:Hp):Prop:=
 oP (pLen b) λc=>
 bO .gtr 3 c nZ (
 dX 1 b nZ h λd=>
 oP (hsliceV 1 b (some nO) none h) λe=>
 km C Q a [g,i,f,e,d,nZ] h) (
 Q f h)
theorem rP{C Q}(I)(s:S4 I (kG C Q)){k l h}(i:I k l h)(e:l.length=4:=by rfl):ko C Q l h:=JV.l4 I _ s i e
def kF (C:Cfg)(Q:QP1)(c:LP)(d:LP)(e g f j i a:V)(h:Hp):Prop:=
 dX 1 e i h λk=>
 oP (pLen k) λl=>
 bO .lss 3 a l (
 dX 1 e i h λm=>
 dX 1 m a h λb=>
 oP (hbin .neq 3 b g) λn=>
 oP (pAnd n (oB (some f) λo=>oB (some b) λp=>oB (pIx 1 o p) λq=>oB (pLd q h) λr=>hun .not r)) λs=>
 bP s (
 oP (pIx 1 f b) λt=>
 valP (pSt 1 t bT h) λz w=>
 alP (pBS 3 1 1 nZ [(0,b)]) w λu x=>
 valP (happend 3 1 8 j u x) λv y=>
 ir C Q c d [e,g,f,v,i,a] y) (
 ir C Q c d [e,g,f,j,i,a] h)) (
 c [e,g,f,j] h)
theorem rT{C Q a}(I)(s:S6 I (kF C Q a)){k l h}(i:I k l h)(e:l.length=6:=by rfl):km C Q a l h:=JV.l6 I _ s i e
def io (C:Cfg)(Q:QP1)(d:LP)(a:LP)(e f g i j b:V)(h:Hp):Prop:=
 oP (hbin .add 3 b nO) λc=>
 a [e,f,g,i,j,c] h
theorem j8{C Q a b}:R6 (io C Q a b) (ir C Q a b):=JV.r6 _
def mX (C:Cfg)(Q:QP1)(a0 a1 a2:V)(h:Hp):Prop:=
 oP (pLen a0) λb=>
 alP (hmakeSlice 4 1 1 bF b b) h λa e=>
 bO .eql 3 a1 a2 (
 Q a e) (
 oP (pIx 1 a a1) λc=>
 valP (pSt 1 c bT e) λi f=>
 alP (pBS 3 1 1 nZ [(0,a1)]) f λd g=>
 ko C Q [a0,a2,a,d] g)
theorem uc{C}(s:C.start=startF){a0 a1 a2 h Q}(k:C.K gi [a0,a1,a2] h=none)(H:mX C Q a0 a1 a2 h):cP C gi [a0,a1,a2] h Q:=cP.vd t47 s (by unfold P0;exact Tryd.func47) k H
def t25:List (Nat×List Nat):=[(87,[0,1,5,6]),(23703,[0,1,5,6,7,8])]
def mV (C:Cfg)(Q:QP1):LP:=JV C Tryd.f25 t25 43 [0,1,5,6] [] Q
def nq (C:Cfg)(Q:QP1)(a:LP):LP:=JV C Tryd.f25 t25 11851 [0,1,5,6,7,8] [kf [0,1,5,6] a] Q
def mQ (C:Cfg)(Q:QP1)(d:LP)(b k e c:V)(h:Hp):Prop:=
 oP (pLen b) λf=>
 bO .lss 3 c f (
 cP C gi [b,k,c] h λg l=>
 oP (pLen b) λa=>
 alP (hmakeSlice 4 1 1 bF a a) l λi m=>
 oP (pIx 1 e c) λj=>
 valP (pSt 1 j i m) λo n=>
 nq C Q d [b,k,e,c,g,nZ] n) (
 Q e h)
theorem ul{C Q}(I)(s:S4 I (mQ C Q)){k l h}(i:I k l h)(e:l.length=4:=by rfl):mV C Q l h:=JV.l4 I _ s i e
def mW (C:Cfg)(Q:QP1)(b:LP)(c:LP)(d o e f p a:V)(h:Hp):Prop:=
 oP (pLen d) λg=>
 bO .lss 3 a g (
 dX 1 e f h λi=>
 dX 1 p a h λj=>
 oP (hun .not j) λk=>
 oP (pIx 1 i a) λl=>
 valP (pSt 1 l k h) λr q=>
 (h.next<=q.next/\
 oP (hbin .add 3 a nO) λm=>
 c [d,o,e,f,p,m] q)) (
 oP (hbin .add 3 f nO) λn=>
 b [d,o,e,n] h)
theorem ug{C Q a}(I)(s:S6 I (mW C Q a)){k l h}(i:I k l h)(e:l.length=6:=by rfl):nq C Q a l h:=JV.l6 I _ s i e
def qe (C:Cfg)(Q:QP1)(a0 a1:V)(h:Hp):Prop:=
 oP (pLen a0) λa=>
 alP (hmakeSlice 34 1 24 nS a a) h λb c=>
 mV C Q [a0,a1,b,nZ] c
theorem wh{C}(s:C.start=startF){a0 a1 h Q}(k:C.K iL [a0,a1] h=none)(H:qe C Q a0 a1 h):cP C iL [a0,a1] h Q:=cP.vd t25 s (by unfold P0;exact Tryd.func25) k H
def t48:List (Nat×List Nat):=[]
def jX (C:Cfg)(Q:QP1)(a0 a1 a2 a3:V)(h:Hp):Prop:=
 alP (hbox 79 a0) h λb a=>
 dY 5 b 1 a1 a λc=>
 oP (hbin .eql 3 c a2) λd=>
 oP (pAnd d (oB (pFA 6 b) λe=>oB (pLd e a) λf=>oB (some a1) λg=>oB (pIx 1 f g) λi=>oB (pLd i a) λj=>oB (some a3) λk=>hbin .lss 3 j k)) λl=>
 oP (pOr l (oB (pFA 5 b) λm=>oB (pLd m a) λn=>oB (some a1) λo=>oB (pIx 1 n o) λp=>oB (pLd p a) λq=>oB (some a2) λr=>oB (hbin .neq 3 q r) λs=>oB (some s) λt=>pAnd t (oB (pFA 7 b) λu=>oB (pLd u a) λv=>oB (pFA 5 b) λw=>oB (pLd w a) λx=>oB (some a1) λy=>oB (pIx 1 x y) λz=>oB (pLd z a) λA=>oB (pIx 1 v A) λB=>oB (pLd B a) λD=>oB (some a2) λE=>oB (pIx 1 D E) λF=>pLd F a))) λG=>
 Q G a
theorem rl{C}(s:C.start=startF){a0 a1 a2 a3 h Q}(k:C.K fq [a0,a1,a2,a3] h=none)(H:jX C Q a0 a1 a2 a3 h):cP C fq [a0,a1,a2,a3] h Q:=cP.vd t48 s (by unfold P0;exact Tryd.func48) k H
def t49:List (Nat×List Nat):=[(87,[2,3,4,9,10])]
def jn (C:Cfg)(Q:QP1):LP:=JV C Tryd.f49 t49 43 [2,3,4,9,10] [] Q
def jo (C:Cfg)(Q:QP1)(b:LP)(k l m c a:V)(h:Hp):Prop:=
 oP (pLen c) λd=>
 bO .lss 3 a d (
 oP (pLdA 8 m h) λe=>
 dX 1 c a h λf=>
 cP C fq [e,f,k,l] h λg i=>
 (h.next<=i.next/\
 bN g (
 Q bF i) (
 oP (hbin .add 3 a nO) λj=>
 b [k,l,m,c,j] i))) (
 Q bT h)
theorem pR{C Q}(I)(s:S5 I (jo C Q)){k l h}(i:I k l h)(e:l.length=5:=by rfl):jn C Q l h:=JV.l5 I _ s i e
def jZ (C:Cfg)(Q:QP1)(a0 a1 a2 a3:V)(h:Hp):Prop:=
 alP (hbox 79 a0) h λg a=>
 oP (pFA 0 g) λb=>
 dF 4 b a λc=>
 oP (pIx 1 c a1) λd=>
 oP (pLdA 1 d a) λe=>
 cP C gy [e] a λf i=>
 jn C Q [a2,a3,g,f,nZ] i
theorem ri{C}(s:C.start=startF){a0 a1 a2 a3 h Q}(k:C.K fM [a0,a1,a2,a3] h=none)(H:jZ C Q a0 a1 a2 a3 h):cP C fM [a0,a1,a2,a3] h Q:=cP.vd t49 s (by unfold P0;exact Tryd.func49) k H
def t73:List (Nat×List Nat):=[(87,[1,3,4])]
def kO (C:Cfg)(Q:QP1):LP:=JV C Tryd.f73 t73 43 [1,3,4] [] Q
def kR (C:Cfg)(Q:QP1)(i:LP)(f o g:V)(h:Hp):Prop:=
 dG 0 f h λq=>
 bO .lss 3 g q (
 dJ 0 f 4 g 2 h λj=>
 oP (pFA 0 f) λa=>
 oP (pLd a h) λb=>
 oP (pIx 4 b g) λk=>
 oP (pFA 3 k) λc=>
 oP (pLd c h) λd=>
 valP (happend 3 1 8 o j h) λl e=>
 (h.next<=e.next/\
 ((pLd c e=some d)/\
 ((pLd a e=some b)/\
 valP (happend 3 1 8 l d e) λm p=>
 (e.next<=p.next/\
 oP (hbin .add 3 g nO) λn=>
 i [f,m,n] p))))) (
 Q o h)
theorem sX{C Q}(I)(s:S3 I (kR C Q)){k l h}(i:I k l h)(e:l.length=3:=by rfl):kO C Q l h:=JV.l3 I _ s i e
def oI (C:Cfg)(Q:QP1)(a0:V)(h:Hp):Prop:=
 alP (hbox 38 a0) h λa b=>
 kO C Q [a,nS,nZ] b
theorem uJ{C}(s:C.start=startF){a0 h Q}(k:C.K gy [a0] h=none)(H:oI C Q a0 h):cP C gy [a0] h Q:=cP.vd t73 s (by unfold P0;exact Tryd.func73) k H
def t74:List (Nat×List Nat):=[]
def rA (C:Cfg)(Q:QP1)(a0 a1:V)(h:Hp):Prop:=
 oP (hbin .geq 3 a0 nZ) λb=>
 oP (pAnd b (oB (some a0) λc=>oB (some a1) λd=>hbin .lss 3 c d)) λa=>
 Q a h
theorem xZ{C}(s:C.start=startF){a0 a1 h Q}(k:C.K fh [a0,a1] h=none)(H:rA C Q a0 a1 h):cP C fh [a0,a1] h Q:=cP.vd t74 s (by unfold P0;exact Tryd.func74) k H
def t75:List (Nat×List Nat):=[]
def pe (C:Cfg)(Q:QP1)(a0:V)(h:Hp):Prop:=
 oP (hbin .lss 3 a0 (V.int .i64 19)) λa=>
 oP (pOr a (oB (some a0) λb=>hbin .eql 3 b (V.int .i64 21))) λc=>
 Q c h
theorem vw{C}(s:C.start=startF){a0 h Q}(k:C.K f0 [a0] h=none)(H:pe C Q a0 h):cP C f0 [a0] h Q:=cP.vd t75 s (by unfold P0;exact Tryd.func75) k H
end
