/- Parts. -/
import Derived.Test.YtpnddokajmjpbaaDoorM14
namespace Go.Proofs.YtpnddokajmjpbaaDoor.Hx
set_option maxRecDepth 100000
noncomputable section
def t14:List (Nat×List Nat):=[(351,[1,3,4,5]),(2815,[1,3,4,6,7]),(22527,[1,3,4,8,9,10]),(2922495,[1,3,4,8,9,10,11,12]),(90111,[1,3,4,8,9,15,16]),(942078,[1,3,4,8,9,15,16]),(720895,[1,3,18,19]),(177405951,[1,3,18,19,20,21]),(92653420543,[1,3,18,19,20,21,22,23,24]),(986006618110,[1,3,18,19,20,21,22,23,24])]
def qo (C:fu)(Q:fx):LP:=JV C Tryd.f14 t14 175 [1,3,4,5] [] Q
def rl (C:fu)(Q:fx):LP:=JV C Tryd.f14 t14 1407 [1,3,4,6,7] [] Q
def p9 (C:fu)(Q:fx):LP:=JV C Tryd.f14 t14 11263 [1,3,4,8,9,10] [] Q
def qV (C:fu)(Q:fx)(a:LP):LP:=JV C Tryd.f14 t14 1461247 [1,3,4,8,9,10,11,12] [kf [1,3,4,8,9,10] a] Q
def qu (C:fu)(Q:fx):LP:=JV C Tryd.f14 t14 45055 [1,3,4,8,9,15,16] [] Q
def jE (C:fu)(Q:fx)(a:LP):LP:=JV C Tryd.f14 t14 471039 [1,3,4,8,9,15,16] [kf [1,3,4,8,9,15,16] a] Q
def ma (C:fu)(Q:fx):LP:=JV C Tryd.f14 t14 360447 [1,3,18,19] [] Q
def qd (C:fu)(Q:fx)(a:LP):LP:=JV C Tryd.f14 t14 88702975 [1,3,18,19,20,21] [kf [1,3,18,19] a] Q
def qq (C:fu)(Q:fx)(a:LP)(b:LP):LP:=JV C Tryd.f14 t14 46326710271 [1,3,18,19,20,21,22,23,24] [kf [1,3,18,19] a,kf [1,3,18,19,20,21] b] Q
def jD (C:fu)(Q:fx)(a:LP)(b:LP)(c:LP):LP:=JV C Tryd.f14 t14 493003309055 [1,3,18,19,20,21,22,23,24] [kf [1,3,18,19] a,kf [1,3,18,19,20,21] b,kf [1,3,18,19,20,21,22,23,24] c] Q
def qf (C:fu)(Q:fx)(k:LP)(c d i b:V)(h:Hp):Prop:=
 dG 3 c h λl=>
 bO .lss 3 b l (
 dJ 3 c 6 b 3 h λm=>
 oP (gD 1 i b) λn=>
 fm (gB 1 n m h) λvu j=>
 dJ 3 c 6 b 4 j λo=>
 dX 1 d b j λp=>
 cP C lW [o,p] j λq a=>
 (j.next<=a.next/\
 bN q (
 Q bF a) (
 dF 3 c a λr=>
 oP (gD 6 r b) λs=>
 dG 3 s a λt=>
 oP (er .eql 3 t (V.int .i64 2)) λu=>
 oP (jK u (oB (some d) λv=>oB (fH 3 c) λw=>oB (ev w a) λx=>oB (some b) λy=>oB (gD 6 x y) λz=>oB (fH 3 z) λA=>oB (ev A a) λB=>oB (gD 1 B nZ) λD=>oB (ev D a) λE=>oB (gD 1 v E) λF=>oB (ev F a) λG=>oB (fD G) λH=>oB (er .neq 3 H nO) λI=>oB (some I) λJ=>pN J (oB (some d) λK=>oB (fH 3 c) λL=>oB (ev L a) λM=>oB (some b) λN=>oB (gD 6 M N) λO=>oB (fH 3 O) λP=>oB (ev P a) λR=>oB (gD 1 R nO) λS=>oB (ev S a) λT=>oB (gD 1 K T) λU=>oB (ev U a) λW=>oB (fD W) λX=>er .neq 3 X nO))) λY=>
 bP Y (
 Q bF a) (
 oP (er .add 3 b nO) λZ=>
 k [c,d,i,Z] a)))) (
 dX 1 d nZ h λe=>
 oP (fD e) λf=>
 bO .gtr 3 f nZ (
 Q bF h) (
 cP C jn [i,nZ,(V.int .i64 (-1))] h λg h3=>
 rl C Q [c,d,i,g,nZ] h3))
theorem zH{C Q}(I)(s:S4 I (qf C Q)){k l h}(i:I k l h)(e:l.length=4:=by rfl):qo C Q l h:=JV.l4 I _ s i e
def qP (C:fu)(Q:fx)(j:LP)(i m n k l:V)(h:Hp):Prop:=
 oP (fD k) λc=>
 bO .lss 3 l c (
 dX 1 k l h λd=>
 bN d (
 Q bF h) (
 oP (er .add 3 l nO) λe=>
 j [i,m,n,k,e] h)) (
 dG 2 i h λa=>
 ij (gR 3 1 8 nZ a a) h λf o=>
 dG 2 i o λb=>
 ij (gR 3 1 8 nZ b b) o λg p=>
 p9 C Q [i,m,n,f,g,nZ] p)
theorem zi{C Q}(I)(s:S5 I (qP C Q)){k l h}(i:I k l h)(e:l.length=5:=by rfl):rl C Q l h:=JV.l5 I _ s i e
def qB (C:fu)(Q:fx)(c:LP)(d f g i j a:V)(h:Hp):Prop:=
 dG 3 d h λb=>
 bO .lss 3 a b (
 qV C Q c [d,f,g,i,j,a,bT,nZ] h) (
 ij (zC 77 [bF,bF,bF,bF,bF,bF,bF,bF,bF,bF,bF,bF,bF,bF,bF,bF,bF,bF,bF,bF,bF,bF,bF,bF,bF,bF,bF,bF,bF,bF,bF,bF,bF,bF,bF,bF,bF,bF,bF,bF]) h λe k=>
 qu C Q [d,f,g,i,j,e,nZ] k)
theorem zj{C Q}(I)(s:S6 I (qB C Q)){k l h}(i:I k l h)(e:l.length=6:=by rfl):p9 C Q l h:=JV.l6 I _ s i e
def qU (C:fu)(Q:fx)(ap:LP)(aq:LP)(r x3 x4 x8 x9 a t b:V)(h:Hp):Prop:=
 dF 3 r h λu=>
 oP (gD 6 u a) λv=>
 dG 0 v h λw=>
 bO .lss 3 b w (
 oP (fH 2 r) λd=>
 oP (ev d h) λe=>
 oP (fH 3 r) λf=>
 oP (ev f h) λg=>
 oP (gD 6 g a) λx=>
 oP (fH 0 x) λi=>
 oP (ev i h) λj=>
 oP (gD 1 j b) λk=>
 oP (ev k h) λl=>
 oP (gD 6 e l) λm=>
 oP (gg 6 m h) λn=>
 wS (zC 42 [nZ,nZ,nZ,nZ,nS,nZ]) h λs c o=>
 ((o.get (h.next)=some s/\O.beq s s=true)/\
 ((gg 6 m o=some n)/\
 ((ev k o=some l)/\
 ((ev i o=some j)/\
 ((ev f o=some g)/\
 ((ev d o=some e)/\
 fm (gB 6 c n o) λvu h2=>
 (o.next<=h2.next/\
 dJ 3 r 6 a 0 h2 λy=>
 dX 1 y b h2 λz=>
 oP (gD 1 x8 z) λA=>
 fm (gB 1 A a h2) λar h3=>
 dJ 3 r 6 a 0 h3 λB=>
 dX 1 B b h3 λD=>
 oP (gD 1 x9 D) λE=>
 fm (gB 1 E b h3) λau p=>
 dF 0 c p λF=>
 oP (er .eql 3 F (V.int .i64 21)) λG=>
 oP (pN G (oB (fH 0 c) λH=>oB (ev H p) λI=>er .eql 3 I nO)) λq=>
 oP (jK q (oB (some t) λJ=>sr .not J)) λK=>
 oP (pN K (oB (fH 0 c) λL=>oB (ev L p) λM=>oB (er .eql 3 M (V.int .i64 21)) λN=>oB (some N) λP=>jK P (oB (fH 4 c) λR=>oB (ev R p) λS=>oB (fD S) λT=>oB (some x3) λU=>oB (some a) λW=>oB (gD 1 U W) λX=>oB (ev X p) λY=>oB (fD Y) λZ=>oB (er .neq 3 T Z) λaa=>oB (some aa) λab=>pN ab (oB (some a) λac=>er .eql 3 ac nZ)))) λae=>
 oP (pN ae (oB (fH 0 c) λag=>oB (ev ag p) λah=>oB (er .eql 3 ah nO) λai=>oB (some ai) λaj=>jK aj (oB (some a) λak=>er .neq 3 ak nZ))) λal=>
 bP al (
 Q bF p) (
 oP (jK t (some q)) λam=>
 oP (er .add 3 b nO) λan=>
 aq [r,x3,x4,x8,x9,a,am,an] p))))))))) (
 oP (er .add 3 a nO) λao=>
 ap [r,x3,x4,x8,x9,ao] h)
theorem zA{C Q a}(I)(s:S8 I (qU C Q a)){k l h}(i:I k l h)(e:l.length=8:=by rfl):qV C Q a l h:=JV.l8 I _ s i e
def qH (C:fu)(Q:fx)(d:LP)(c q r s t b a:V)(h:Hp):Prop:=
 dG 2 c h λe=>
 bO .lss 3 a e (
 dJ 2 c 6 a 0 h λf=>
 bO .eql 3 f nO (
 dJ 2 c 6 a 3 h λg=>
 oP (Ys 40 1 b g) λi=>
 oP (ev i h) λj=>
 bP j (
 Q bF h) (
 dJ 2 c 6 a 3 h λk=>
 oP (Ys 40 1 b k) λl=>
 fm (gB 1 l bT h) λz w=>
 jE C Q d [c,q,r,s,t,b,a] w)) (
 jE C Q d [c,q,r,s,t,b,a] h)) (
 cP C jW [r,nZ] h λm u=>
 oP (gg 5 c u) λn=>
 oP (fN [nZ,nZ,nS,nS,nS,nS,nS,nS] [(0,5),(5,1),(6,1),(7,1)] [(0,n),(1,s),(2,t),(3,m)]) λo=>
 ij (zC 79 [nZ,nZ,nS,nS,nS,nS,nS,nS]) u λp x=>
 fm (gB 8 p o x) λv y=>
 ma C Q [c,q,p,nZ] y)
theorem zD{C Q}(I)(s:S7 I (qH C Q)){k l h}(i:I k l h)(e:l.length=7:=by rfl):qu C Q l h:=JV.l7 I _ s i e
def pq (C:fu)(Q:fx)(b:LP)(e f g i j c d:V)(h:Hp):Prop:=
 oP (er .add 3 d nO) λa=>
 b [e,f,g,i,j,c,a] h
theorem yD{C Q a}:R7 (pq C Q a) (jE C Q a):=JV.r7 _
def qI (C:fu)(Q:fx)(g:LP)(i k j a:V)(h:Hp):Prop:=
 dG 3 i h λb=>
 bO .lss 3 a b (
 dF 3 i h λc=>
 oP (gD 6 c a) λd=>
 oP (gg 6 d h) λe=>
 ij (zC 44 [nS,nZ,nZ,nS,nS,nZ]) h λf l=>
 fm (gB 6 f e l) λn m=>
 qd C Q g [i,k,j,a,f,nZ] m) (
 Q bT h)
theorem zz{C Q}(I)(s:S4 I (qI C Q)){k l h}(i:I k l h)(e:l.length=4:=by rfl):ma C Q l h:=JV.l4 I _ s i e
def ql (C:fu)(Q:fx)(s:LP)(R:LP)(S x3 e f d p:V)(h:Hp):Prop:=
 dG 0 d h λt=>
 bO .lss 3 p t (
 oP (fH 2 S) λg=>
 oP (ev g h) λi=>
 oP (fH 0 d) λj=>
 oP (ev j h) λk=>
 oP (gD 1 k p) λl=>
 oP (ev l h) λm=>
 oP (gD 6 i m) λn=>
 oP (gg 6 n h) λo=>
 wS (zC 42 [nZ,nZ,nZ,nZ,nS,nZ]) h λT q r=>
 ((r.get (h.next)=some T/\O.beq T T=true)/\
 ((gg 6 n r=some o)/\
 ((ev l r=some m)/\
 ((ev j r=some k)/\
 ((ev g r=some i)/\
 fm (gB 6 q o r) λvu U=>
 (r.next<=U.next/\
 oP (gg 6 q U) λu=>
 cP C iu [u] U λv h3=>
 qq C Q s R [S,x3,e,f,d,p,q,v,nZ] h3))))))) (
 dF 1 d h λw=>
 oP (er .eql 3 w (V.int .i64 2)) λb=>
 oP (fO true b) λb4=>
 oP (gV b4 (gg 8 e h)) λx=>
 oP (fO true b) λb5=>
 oP (gV b5 (fH 2 d)) λy=>
 oP (fO true b) λb6=>
 oP (gV b6 (ev y h)) λz=>
 oP (fO true b) λb7=>
 oP (gV b7 (some f)) λA=>
 oP (fO true b) λb8=>
 oP (gC b8 (some (gS,[x,z,A,(V.int .i64 1073741824)]))) λy8=>wR C y8 h λB P=>
 oP (jK b (sr .not B)) λc=>
 oP (fO false c) λW=>
 oP (gV W (fH 1 d)) λD=>
 oP (fO false c) λX=>
 oP (gV X (ev D P)) λE=>
 oP (fO false c) λY=>
 oP (gV Y (er .eql 3 E (V.int .i64 3))) λF=>
 oP (fO false c) λZ=>
 oP (gV Z (some F)) λa=>
 oP (fO true a) λaa=>
 oP (gV aa (gg 8 e P)) λG=>
 oP (fO true a) λab=>
 oP (gV ab (fH 5 d)) λH=>
 oP (fO true a) λac=>
 oP (gV ac (ev H P)) λI=>
 oP (fO true a) λae=>
 oP (gV ae (some f)) λJ=>
 oP (fO true a) λag=>
 oP (gC ag (some (iH,[G,I,J,(V.int .i64 1073741824)]))) λah=>wR C ah P λK h5=>
 oP (fO true a) λai=>
 oP (gV ai (sr .not K)) λL=>
 oP (pN c (lJ a L bF)) λM=>
 bP M (
 Q bF h5) (
 oP (er .add 3 f nO) λN=>
 s [S,x3,e,N] h5))
theorem zg{C Q a}(I)(s:S6 I (ql C Q a)){k l h}(i:I k l h)(e:l.length=6:=by rfl):qd C Q a l h:=JV.l6 I _ s i e
def qZ (C:fu)(Q:fx)(k:LP)(i:LP)(l:LP)(K J b c j f d g e:V)(h:Hp):Prop:=
 oP (fD g) λm=>
 bO .lss 3 e m (
 dF 0 d h λn=>
 bO .eql 3 n (V.int .i64 21) (
 oP (gg 8 b h) λo=>
 dX 1 g e h λp=>
 dX 1 J c h λq=>
 dX 1 q e h λr=>
 cP C gS [o,p,r,(V.int .i64 1073741824)] h λs L=>
 (h.next<=L.next/\
 bN s (
 Q bF L) (
 jD C Q k i l [K,J,b,c,j,f,d,g,e] L))) (
 oP (gg 8 b h) λt=>
 dX 1 g e h λu=>
 cP C gS [t,u,c,f] h λv M=>
 (h.next<=M.next/\
 bN v (
 Q bF M) (
 jD C Q k i l [K,J,b,c,j,f,d,g,e] M)))) (
 dF 0 d h λw=>
 oP (er .eql 3 w (V.int .i64 22)) λx=>
 oP (pN x (oB (fH 0 d) λy=>oB (ev y h) λz=>er .eql 3 z (V.int .i64 23))) λa=>
 oP (fO true a) λW=>
 oP (gV W (gg 8 b h)) λA=>
 oP (fO true a) λN=>
 oP (gV N (fH 5 d)) λB=>
 oP (fO true a) λO=>
 oP (gV O (ev B h)) λD=>
 oP (fO true a) λP=>
 oP (gV P (some c)) λE=>
 oP (fO true a) λR=>
 oP (gV R (some f)) λF=>
 oP (fO true a) λS=>
 oP (gC S (some (iH,[A,D,E,F]))) λT=>wR C T h λG U=>
 oP (jK a (sr .not G)) λH=>
 bP H (
 Q bF U) (
 oP (er .add 3 f nO) λI=>
 i [K,J,b,c,j,I] U))
theorem zy{C Q a b}(I)(s:S9 I (qZ C Q a b)){k l h}(i:I k l h)(e:l.length=9:=by rfl):qq C Q a b l h:=JV.l9 I _ s i e
def pR (C:fu)(Q:fx)(k:LP)(l:LP)(b:LP)(m n c d e f g i j:V)(h:Hp):Prop:=
 oP (er .add 3 j nO) λa=>
 b [m,n,c,d,e,f,g,i,a] h
theorem yw{C Q a b c}:R9 (pR C Q a b c) (jD C Q a b c):=JV.r9 _
def uK (C:fu)(Q:fx)(a0:V)(h:Hp):Prop:=
 ij (nP 30 a0) h λb j=>
 oP (gg 5 b j) λc=>
 cP C lB [c] j λd e=>
 bN d (
 Q bF e) (
 oP (gg 5 b e) λf=>
 cP C lC [f] e λg k=>
 dG 3 b k λa=>
 ij (gR 23 1 24 nS a a) k λi l=>
 qo C Q [b,g,i,nZ] l)
theorem BM{C}(s:C.start=fW){a0 h Q}(k:C.K lE [a0] h=none)(H:uK C Q a0 h):cP C lE [a0] h Q:=cP.vd t14 s (by unfold P0;exact Tryd.func14) k H
def t44:List (Nat×List Nat):=[(87,[1,3]),(21655,[1,3,4]),(175,[1,7]),(48279,[1,3,5,6]),(96559,[1,7,9,10]),(1407,[1,11,12,13]),(248190,[1,11,12,13,14,15]),(2869631,[1,11,12,13,14,15,16]),(3131775,[1,11,12,13,14,17])]
def qc (C:fu)(Q:fx):LP:=JV C Tryd.f44 t44 43 [1,3] [] Q
def qR (C:fu)(Q:fx)(a:LP):LP:=JV C Tryd.f44 t44 10827 [1,3,4] [kf [1,3] a] Q
def jO (C:fu)(Q:fx):LP:=JV C Tryd.f44 t44 87 [1,7] [] Q
def qm (C:fu)(Q:fx)(a:LP):LP:=JV C Tryd.f44 t44 24139 [1,3,5,6] [kf [1,3] a] Q
def mc (C:fu)(Q:fx)(a:LP):LP:=JV C Tryd.f44 t44 48279 [1,7,9,10] [kf [1,7] a] Q
def rq (C:fu)(Q:fx):LP:=JV C Tryd.f44 t44 703 [1,11,12,13] [] Q
def iV (C:fu)(Q:fx)(a:LP):LP:=JV C Tryd.f44 t44 124095 [1,11,12,13,14,15] [kf [1,11,12,13] a] Q
def lZ (C:fu)(Q:fx)(a:LP):LP:=JV C Tryd.f44 t44 1434815 [1,11,12,13,14,15,16] [kf [1,11,12,13] a] Q
def qQ (C:fu)(Q:fx)(a:LP):LP:=JV C Tryd.f44 t44 1565887 [1,11,12,13,14,17] [kf [1,11,12,13] a] Q
def rm (C:fu)(Q:fx)(c:LP)(a b:V)(h:Hp):Prop:=
 dG 4 a h λd=>
 bO .lss 3 b d (
 dF 4 a h λe=>
 oP (gD 1 e b) λf=>
 dG 0 f h λg=>
 oP (er .lss 3 g nO) λi=>
 oP (pN i (oB (fH 4 a) λj=>oB (ev j h) λk=>oB (some b) λl=>oB (gD 1 k l) λm=>oB (fH 0 m) λn=>oB (ev n h) λo=>oB (fD o) λp=>er .gtr 3 p (V.int .i64 30))) λq=>
 bP q (
 Q bF h) (
 qR C Q c [a,b,nZ] h)) (
 jO C Q [a,nZ] h)
theorem zu{C Q}(I)(s:S2 I (rm C Q)){k l h}(i:I k l h)(e:l.length=2:=by rfl):qc C Q l h:=JV.l2 I _ s i e
def qw (C:fu)(Q:fx)(j:LP)(k:LP)(a b i:V)(h:Hp):Prop:=
 dF 4 a h λl=>
 oP (gD 1 l b) λm=>
 dG 0 m h λn=>
 bO .lss 3 i n (
 dJ 4 a 1 b 0 h λo=>
 oP (gD 4 o i) λp=>
 dG 2 p h λq=>
 oP (er .gtr 3 q (V.int .i64 40)) λr=>
 oP (pN r (oB (fH 4 a) λs=>oB (ev s h) λt=>oB (some b) λu=>oB (gD 1 t u) λv=>oB (fH 0 v) λw=>oB (ev w h) λx=>oB (some i) λy=>oB (gD 4 x y) λz=>oB (fH 3 z) λA=>oB (ev A h) λB=>oB (fD B) λD=>er .gtr 3 D (V.int .i64 60))) λc=>
 bP c (
 Q bF h) (
 oP (er .add 3 i nO) λE=>
 k [a,b,E] h)) (
 dF 4 a h λd=>
 oP (gD 1 d b) λe=>
 oP (gg 1 e h) λf=>
 cP C jv [f] h λg F=>
 qm C Q j [a,b,g,nZ] F)
theorem zG{C Q a}(I)(s:S3 I (qw C Q a)){k l h}(i:I k l h)(e:l.length=3:=by rfl):qR C Q a l h:=JV.l3 I _ s i e
def qk (C:fu)(Q:fx)(am:LP)(k x7:V)(h:Hp):Prop:=
 dG 2 k h λl=>
 bO .lss 3 x7 l (
 dF 2 k h λm=>
 oP (gD 6 m x7) λn=>
 oP (gg 6 n h) λo=>
 ij (zC 42 [nZ,nZ,nZ,nZ,nS,nZ]) h λf h1=>
 fm (gB 6 f o h1) λvu i=>
 dF 0 f i λp=>
 oP (er .lss 3 p nO) λq=>
 oP (pN q (oB (fH 0 f) λr=>oB (ev r i) λs=>er .gtr 3 s (V.int .i64 23))) λt=>
 oP (pN t (oB (fH 0 f) λu=>oB (ev u i) λv=>oB (er .eql 3 v (V.int .i64 20)) λw=>oB (some w) λx=>jK x (oB (fH 4 f) λy=>oB (ev y i) λz=>oB (fD z) λA=>er .neq 3 A nO))) λc=>
 oP (fO false c) λan=>
 oP (gV an (fH 0 f)) λB=>
 oP (fO false c) λao=>
 oP (gV ao (ev B i)) λD=>
 oP (fO false c) λap=>
 oP (gV ap (er .eql 3 D nO)) λE=>
 oP (fO false c) λaq=>
 oP (gV aq (some E)) λd=>
 oP (fO true d) λar=>
 oP (gV ar (fH 3 f)) λF=>
 oP (fO true d) λau=>
 oP (gV au (ev F i)) λG=>
 oP (fO true d) λaw=>
 oP (gC aw (some (gi,[G,(V.int .i64 40)]))) λax=>wR C ax i λH j=>
 oP (fO true d) λay=>
 oP (gV ay (sr .not H)) λI=>
 oP (pN c (lJ d I bF)) λJ=>
 oP (pN J (oB (fH 0 f) λK=>oB (ev K j) λL=>oB (er .eql 3 L nO) λM=>oB (some M) λN=>jK N (oB (fH 3 f) λO=>oB (ev O j) λP=>er .gtr 2 P (V.int .i64 1073741824)))) λb=>
 oP (fO false b) λaA=>
 oP (gV aA (fH 0 f)) λR=>
 oP (fO false b) λaB=>
 oP (gV aB (ev R j)) λS=>
 oP (fO false b) λaC=>
 oP (gV aC (er .eql 3 S (V.int .i64 22))) λT=>
 oP (fO false b) λaD=>
 oP (gV aD (some T)) λe=>
 oP (fO false e) λaE=>
 oP (gV aE (fH 0 f)) λU=>
 oP (fO false e) λaF=>
 oP (gV aF (ev U j)) λW=>
 oP (fO false e) λaG=>
 oP (gV aG (er .eql 3 W (V.int .i64 23))) λX=>
 oP (fO false b) λaH=>
 oP (gV aH (lJ e bT X)) λY=>
 oP (fO false b) λaI=>
 oP (gV aI (some Y)) λa=>
 oP (fO true a) λaJ=>
 oP (gV aJ (fH 5 f)) λZ=>
 oP (fO true a) λaK=>
 oP (gV aK (ev Z j)) λaa=>
 oP (fO true a) λaL=>
 oP (gV aL (fH 4 k)) λab=>
 oP (fO true a) λaM=>
 oP (gV aM (ev ab j)) λac=>
 oP (fO true a) λaN=>
 oP (gV aN (fD ac)) λae=>
 oP (fO true a) λaO=>
 oP (gC aO (some (gi,[aa,ae]))) λaP=>wR C aP j λag h4=>
 oP (fO true a) λaQ=>
 oP (gV aQ (sr .not ag)) λah=>
 oP (pN b (lJ a ah bF)) λai=>
 bP ai (
 Q bF h4) (
 oP (gg 6 f h4) λaj=>
 cP C iu [aj] h4 λak h5=>
 mc C Q am [k,x7,ak,nZ] h5)) (
 dG 2 k h λg=>
 ij (gR 4 1 1 bF g g) h λal h6=>
 rq C Q [k,al,nZ,nZ] h6)
theorem zJ{C Q}(I)(s:S2 I (qk C Q)){k l h}(i:I k l h)(e:l.length=2:=by rfl):jO C Q l h:=JV.l2 I _ s i e
def qn (C:fu)(Q:fx)(w:LP)(x:LP)(t M u v:V)(h:Hp):Prop:=
 oP (fD u) λc=>
 bO .lss 3 v c (
 dX 1 u v h λd=>
 dG 2 t h λe=>
 cP C gi [d,e] h λf b=>
 (h.next<=b.next/\
 oP (sr .not f) λa=>
 oP (fO false a) λy=>
 oP (gV y (fH 2 t)) λg=>
 oP (fO false a) λz=>
 oP (gV z (ev g b)) λi=>
 oP (fO false a) λA=>
 oP (gV A (some u)) λj=>
 oP (fO false a) λB=>
 oP (gV B (some v)) λk=>
 oP (fO false a) λD=>
 oP (gV D (gD 1 j k)) λl=>
 oP (fO false a) λE=>
 oP (gV E (ev l b)) λm=>
 oP (fO false a) λF=>
 oP (gV F (gD 6 i m)) λn=>
 oP (fO false a) λG=>
 oP (gV G (fH 0 n)) λo=>
 oP (fO false a) λH=>
 oP (gV H (ev o b)) λp=>
 oP (fO false a) λI=>
 oP (gC I (some (iY,[p]))) λJ=>wR C J b λq K=>
 (b.next<=K.next/\
 oP (pN a (sr .not q)) λr=>
 bP r (
 Q bF K) (
 oP (er .add 3 v nO) λs=>
 x [t,M,u,s] K)))) (
 oP (er .add 3 M nO) λL=>
 w [t,L] h)
theorem ze{C Q a}(I)(s:S4 I (qn C Q a)){k l h}(i:I k l h)(e:l.length=4:=by rfl):qm C Q a l h:=JV.l4 I _ s i e
def rj (C:fu)(Q:fx)(x:LP)(y:LP)(v M w b:V)(h:Hp):Prop:=
 oP (fD w) λd=>
 bO .lss 3 b d (
 dX 1 w b h λe=>
 dG 2 v h λf=>
 cP C gi [e,f] h λg c=>
 (h.next<=c.next/\
 oP (sr .not g) λa=>
 oP (fO false a) λz=>
 oP (gV z (fH 2 v)) λi=>
 oP (fO false a) λA=>
 oP (gV A (ev i c)) λj=>
 oP (fO false a) λB=>
 oP (gV B (some w)) λk=>
 oP (fO false a) λD=>
 oP (gV D (some b)) λl=>
 oP (fO false a) λE=>
 oP (gV E (gD 1 k l)) λm=>
 oP (fO false a) λF=>
 oP (gV F (ev m c)) λn=>
 oP (fO false a) λG=>
 oP (gV G (gD 6 j n)) λo=>
 oP (fO false a) λH=>
 oP (gV H (fH 0 o)) λp=>
 oP (fO false a) λI=>
 oP (gV I (ev p c)) λq=>
 oP (fO false a) λJ=>
 oP (gC J (some (iY,[q]))) λK=>wR C K c λr L=>
 (c.next<=L.next/\
 oP (pN a (sr .not r)) λs=>
 bP s (
 Q bF L) (
 oP (er .add 3 b nO) λt=>
 y [v,M,w,t] L)))) (
 oP (er .add 3 M nO) λu=>
 x [v,u] h)
theorem zx{C Q a}(I)(s:S4 I (rj C Q a)){k l h}(i:I k l h)(e:l.length=4:=by rfl):mc C Q a l h:=JV.l4 I _ s i e
def rh (C:fu)(Q:fx)(e:LP)(g f d a:V)(h:Hp):Prop:=
 dG 3 g h λi=>
 bO .lss 3 a i (
 dF 3 g h λj=>
 oP (gD 6 j a) λk=>
 oP (gg 6 k h) λl=>
 ij (zC 44 [nS,nZ,nZ,nS,nS,nZ]) h λb p=>
 fm (gB 6 b l p) λq m=>
 dF 1 b m λc=>
 bO .eql 3 c nO (
 iV C Q e [g,f,d,a,b,nO] m) (
 bO .eql 3 c (V.int .i64 2) (
 iV C Q e [g,f,d,a,b,(V.int .i64 2)] m) (
 bO .eql 3 c (V.int .i64 3) (
 iV C Q e [g,f,d,a,b,nZ] m) (
 Q bF m)))) (
 dG 2 g h λn=>
 oP (er .eql 3 d n) λo=>
 Q o h)
theorem zb{C Q}(I)(s:S4 I (rh C Q)){k l h}(i:I k l h)(e:l.length=4:=by rfl):rq C Q l h:=JV.l4 I _ s i e
def o0 (C:fu)(Q:fx)(T:LP)(P U W X f g:V)(h:Hp):Prop:=
 dG 3 f h λi=>
 oP (er .neq 3 i g) λd=>
 oP (fO false d) λb6=>
 oP (gV b6 (fH 1 f)) λj=>
 oP (fO false d) λb7=>
 oP (gV b7 (ev j h)) λk=>
 oP (fO false d) λb8=>
 oP (gV b8 (er .eql 3 k (V.int .i64 2))) λl=>
 oP (fO false d) λb9=>
 oP (gV b9 (some l)) λa=>
 oP (fO true a) λY=>
 oP (gV Y (fH 2 f)) λm=>
 oP (fO true a) λZ=>
 oP (gV Z (ev m h)) λn=>
 oP (fO true a) λaa=>
 oP (gV aa (fH 2 P)) λo=>
 oP (fO true a) λab=>
 oP (gV ab (ev o h)) λp=>
 oP (fO true a) λac=>
 oP (gV ac (fD p)) λq=>
 oP (fO true a) λae=>
 oP (gC ae (some (gi,[n,q]))) λag=>wR C ag h λr R=>
 oP (fO true a) λah=>
 oP (gV ah (sr .not r)) λs=>
 oP (fO true a) λai=>
 oP (gV ai (some s)) λb=>
 oP (fO false b) λaj=>
 oP (gV aj (fH 2 P)) λt=>
 oP (fO false b) λak=>
 oP (gV ak (ev t R)) λu=>
 oP (fO false b) λal=>
 oP (gV al (fH 2 f)) λv=>
 oP (fO false b) λam=>
 oP (gV am (ev v R)) λw=>
 oP (fO false b) λan=>
 oP (gV an (gD 6 u w)) λx=>
 oP (fO false b) λao=>
 oP (gV ao (fH 0 x)) λy=>
 oP (fO false b) λap=>
 oP (gV ap (ev y R)) λz=>
 oP (fO false b) λaq=>
 oP (gC aq (some (iY,[z]))) λar=>wR C ar R λA S=>
 oP (fO false b) λau=>
 oP (gV au (sr .not A)) λB=>
 oP (fO true a) λaw=>
 oP (gV aw (lJ b bT B)) λD=>
 oP (pN d (lJ a D bF)) λe=>
 oP (fO false e) λax=>
 oP (gV ax (fH 1 f)) λE=>
 oP (fO false e) λay=>
 oP (gV ay (ev E S)) λF=>
 oP (fO false e) λaA=>
 oP (gV aA (er .eql 3 F (V.int .i64 3))) λG=>
 oP (fO false e) λaB=>
 oP (gV aB (some G)) λc=>
 oP (fO true c) λaC=>
 oP (gV aC (fH 5 f)) λH=>
 oP (fO true c) λaD=>
 oP (gV aD (ev H S)) λI=>
 oP (fO true c) λaE=>
 oP (gV aE (fH 4 P)) λJ=>
 oP (fO true c) λaF=>
 oP (gV aF (ev J S)) λK=>
 oP (fO true c) λaG=>
 oP (gV aG (fD K)) λL=>
 oP (fO true c) λaH=>
 oP (gC aH (some (gi,[I,L]))) λaI=>wR C aI S λM h3=>
 oP (fO true c) λaJ=>
 oP (gV aJ (sr .not M)) λN=>
 oP (pN e (lJ c N bF)) λO=>
 bP O (
 Q bF h3) (
 lZ C Q T [P,U,W,X,f,g,nZ] h3)
theorem yE{C Q a}:R6 (o0 C Q a) (iV C Q a):=JV.r6 _
def qa (C:fu)(Q:fx)(l:LP)(m:LP)(n c d e a f b:V)(h:Hp):Prop:=
 bO .lss 3 b f (
 dY 3 a 1 b h λg=>
 dG 3 n h λi=>
 cP C gi [g,i] h λj o=>
 (h.next<=o.next/\
 bN j (
 Q bF o) (
 oP (er .add 3 b nO) λk=>
 m [n,c,d,e,a,f,k] o))) (
 qQ C Q l [n,c,d,e,a,nZ] h)
theorem zq{C Q a}(I)(s:S7 I (qa C Q a)){k l h}(i:I k l h)(e:l.length=7:=by rfl):lZ C Q a l h:=JV.l7 I _ s i e
def qz (C:fu)(Q:fx)(z:LP)(A:LP)(B c e f a b:V)(h:Hp):Prop:=
 dG 0 a h λg=>
 bO .lss 3 b g (
 dY 0 a 1 b h λi=>
 dG 2 B h λj=>
 cP C gi [i,j] h λk d=>
 (h.next<=d.next/\
 oP (sr .not k) λl=>
 oP (pN l (oB (some c) λm=>oB (fH 0 a) λn=>oB (ev n d) λo=>oB (some b) λp=>oB (gD 1 o p) λq=>oB (ev q d) λr=>oB (gD 1 m r) λs=>ev s d)) λt=>
 bP t (
 Q bF d) (
 dY 0 a 1 b d λu=>
 oP (gD 1 c u) λv=>
 fm (gB 1 v bT d) λE D=>
 oP (er .add 3 e nO) λw=>
 oP (er .add 3 b nO) λx=>
 A [B,c,w,f,a,x] D))) (
 oP (er .add 3 f nO) λy=>
 z [B,c,e,y] h)
theorem zm{C Q a}(I)(s:S6 I (qz C Q a)){k l h}(i:I k l h)(e:l.length=6:=by rfl):qQ C Q a l h:=JV.l6 I _ s i e
def uP (C:fu)(Q:fx)(a0:V)(h:Hp):Prop:=
 ij (nP 30 a0) h λb a=>
 dG 2 b a λc=>
 oP (er .gtr 3 c (V.int .i64 3000)) λd=>
 oP (pN d (oB (fH 3 b) λe=>oB (ev e a) λf=>oB (fD f) λg=>er .gtr 3 g (V.int .i64 300))) λi=>
 oP (pN i (oB (fH 3 b) λj=>oB (ev j a) λk=>oB (fD k) λl=>er .lss 3 l nO)) λm=>
 oP (pN m (oB (fH 4 b) λn=>oB (ev n a) λo=>oB (fD o) λp=>er .gtr 3 p (V.int .i64 1000))) λq=>
 bP q (
 Q bF a) (
 qc C Q [b,nZ] a)
theorem Cd{C}(s:C.start=fW){a0 h Q}(k:C.K lB [a0] h=none)(H:uP C Q a0 h):cP C lB [a0] h Q:=cP.vd t44 s (by unfold P0;exact Tryd.func44) k H
def t45:List (Nat×List Nat):=[(87,[1,3,4]),(5271,[1,3,4,5])]
def qi (C:fu)(Q:fx):LP:=JV C Tryd.f45 t45 43 [1,3,4] [] Q
def qN (C:fu)(Q:fx)(a:LP):LP:=JV C Tryd.f45 t45 2635 [1,3,4,5] [kf [1,3,4] a] Q
def qp (C:fu)(Q:fx)(a:LP)(c d e:V)(h:Hp):Prop:=
 dG 3 c h λb=>
 bO .lss 3 e b (
 qN C Q a [c,d,e,nZ] h) (
 Q d h)
theorem yY{C Q}(I)(s:S3 I (qp C Q)){k l h}(i:I k l h)(e:l.length=3:=by rfl):qi C Q l h:=JV.l3 I _ s i e
def qO (C:fu)(Q:fx)(e:LP)(f:LP)(c d a g:V)(h:Hp):Prop:=
 dF 3 c h λi=>
 oP (gD 6 i a) λj=>
 dG 3 j h λk=>
 bO .lss 3 g k (
 dJ 3 c 6 a 3 h λl=>
 dX 1 l g h λb=>
 dX 1 d b h λm=>
 ij (iZ 3 1 1 nZ [(0,a)]) h λn s=>
 fm (eR 3 1 8 m n s) λo t=>
 oP (gD 1 d b) λp=>
 fm (gB 1 p o t) λv u=>
 oP (er .add 3 g nO) λq=>
 f [c,d,a,q] u) (
 oP (er .add 3 a nO) λr=>
 e [c,d,r] h)
theorem zh{C Q a}(I)(s:S4 I (qO C Q a)){k l h}(i:I k l h)(e:l.length=4:=by rfl):qN C Q a l h:=JV.l4 I _ s i e
def uk (C:fu)(Q:fx)(a0:V)(h:Hp):Prop:=
 ij (nP 30 a0) h λb c=>
 dG 3 b c λd=>
 ij (gR 23 1 24 nS d d) c λa e=>
 qi C Q [b,a,nZ] e
theorem BL{C}(s:C.start=fW){a0 h Q}(k:C.K lC [a0] h=none)(H:uk C Q a0 h):cP C lC [a0] h Q:=cP.vd t45 s (by unfold P0;exact Tryd.func45) k H
def t46:List (Nat×List Nat):=[(87,[0,1,5])]
def rJ (C:fu)(Q:fx):LP:=JV C Tryd.f46 t46 43 [0,1,5] [] Q
def rX (C:fu)(Q:fx)(b:LP)(c i a:V)(h:Hp):Prop:=
 oP (fD c) λd=>
 bO .lss 3 a d (
 dX 1 c a h λe=>
 dX 1 i a h λf=>
 bO .neq 3 e f (
 Q bF h) (
 oP (er .add 3 a nO) λg=>
 b [c,i,g] h)) (
 Q bT h)
theorem Ak{C Q}(I)(s:S3 I (rX C Q)){k l h}(i:I k l h)(e:l.length=3:=by rfl):rJ C Q l h:=JV.l3 I _ s i e
def ve (C:fu)(Q:fx)(a0 a1:V)(h:Hp):Prop:=
 oP (fD a0) λa=>
 oP (fD a1) λb=>
 bO .neq 3 a b (
 Q bF h) (
 rJ C Q [a0,a1,nZ] h)
theorem CK{C}(s:C.start=fW){a0 a1 h Q}(k:C.K lW [a0,a1] h=none)(H:ve C Q a0 a1 h):cP C lW [a0,a1] h Q:=cP.vd t46 s (by unfold P0;exact Tryd.func46) k H
def t47:List (Nat×List Nat):=[(319,[0,2,7,8]),(47679,[0,2,7,8,9,10]),(473662,[0,2,7,8,9,10])]
def oQ (C:fu)(Q:fx):LP:=JV C Tryd.f47 t47 159 [0,2,7,8] [] Q
def oW (C:fu)(Q:fx)(a:LP):LP:=JV C Tryd.f47 t47 23839 [0,2,7,8,9,10] [kf [0,2,7,8] a] Q
def kV (C:fu)(Q:fx)(a:LP)(b:LP):LP:=JV C Tryd.f47 t47 236831 [0,2,7,8,9,10] [kf [0,2,7,8] a,kf [0,2,7,8,9,10] b] Q
def oX (C:fu)(Q:fx)(a:LP)(g i f b:V)(h:Hp):Prop:=
 oP (fD b) λc=>
 bO .gtr 3 c nZ (
 dX 1 b nZ h λd=>
 oP (iJ 1 b (some nO) none h) λe=>
 oW C Q a [g,i,f,e,d,nZ] h) (
 Q f h)
theorem xR{C Q}(I)(s:S4 I (oX C Q)){k l h}(i:I k l h)(e:l.length=4:=by rfl):oQ C Q l h:=JV.l4 I _ s i e
def oY (C:fu)(Q:fx)(c:LP)(d:LP)(e g f j i a:V)(h:Hp):Prop:=
 dX 1 e i h λk=>
 oP (fD k) λl=>
 bO .lss 3 a l (
 dX 1 e i h λm=>
 dX 1 m a h λb=>
 oP (er .neq 3 b g) λn=>
 oP (jK n (oB (some f) λo=>oB (some b) λp=>oB (gD 1 o p) λq=>oB (ev q h) λr=>sr .not r)) λs=>
 bP s (
 oP (gD 1 f b) λt=>
 fm (gB 1 t bT h) λz w=>
 ij (iZ 3 1 1 nZ [(0,b)]) w λu x=>
 fm (eR 3 1 8 j u x) λv y=>
 kV C Q c d [e,g,f,v,i,a] y) (
 kV C Q c d [e,g,f,j,i,a] h)) (
 c [e,g,f,j] h)
theorem xP{C Q a}(I)(s:S6 I (oY C Q a)){k l h}(i:I k l h)(e:l.length=6:=by rfl):oW C Q a l h:=JV.l6 I _ s i e
def kX (C:fu)(Q:fx)(d:LP)(a:LP)(e f g i j b:V)(h:Hp):Prop:=
 oP (er .add 3 b nO) λc=>
 a [e,f,g,i,j,c] h
theorem og{C Q a b}:R6 (kX C Q a b) (kV C Q a b):=JV.r6 _
def rP (C:fu)(Q:fx)(a0 a1 a2:V)(h:Hp):Prop:=
 oP (fD a0) λb=>
 ij (gR 4 1 1 bF b b) h λa e=>
 bO .eql 3 a1 a2 (
 Q a e) (
 oP (gD 1 a a1) λc=>
 fm (gB 1 c bT e) λi f=>
 ij (iZ 3 1 1 nZ [(0,a1)]) f λd g=>
 oQ C Q [a0,a2,a,d] g)
theorem Aj{C}(s:C.start=fW){a0 a1 a2 h Q}(k:C.K jn [a0,a1,a2] h=none)(H:rP C Q a0 a1 a2 h):cP C jn [a0,a1,a2] h Q:=cP.vd t47 s (by unfold P0;exact Tryd.func47) k H
def t25:List (Nat×List Nat):=[(87,[0,1,5,6]),(23703,[0,1,5,6,7,8])]
def rD (C:fu)(Q:fx):LP:=JV C Tryd.f25 t25 43 [0,1,5,6] [] Q
def rW (C:fu)(Q:fx)(a:LP):LP:=JV C Tryd.f25 t25 11851 [0,1,5,6,7,8] [kf [0,1,5,6] a] Q
def rY (C:fu)(Q:fx)(d:LP)(b k e c:V)(h:Hp):Prop:=
 oP (fD b) λf=>
 bO .lss 3 c f (
 cP C jn [b,k,c] h λg l=>
 oP (fD b) λa=>
 ij (gR 4 1 1 bF a a) l λi m=>
 oP (gD 1 e c) λj=>
 fm (gB 1 j i m) λo n=>
 rW C Q d [b,k,e,c,g,nZ] n) (
 Q e h)
theorem AA{C Q}(I)(s:S4 I (rY C Q)){k l h}(i:I k l h)(e:l.length=4:=by rfl):rD C Q l h:=JV.l4 I _ s i e
def rR (C:fu)(Q:fx)(b:LP)(c:LP)(d o e f p a:V)(h:Hp):Prop:=
 oP (fD d) λg=>
 bO .lss 3 a g (
 dX 1 e f h λi=>
 dX 1 p a h λj=>
 oP (sr .not j) λk=>
 oP (gD 1 i a) λl=>
 fm (gB 1 l k h) λr q=>
 (h.next<=q.next/\
 oP (er .add 3 a nO) λm=>
 c [d,o,e,f,p,m] q)) (
 oP (er .add 3 f nO) λn=>
 b [d,o,e,n] h)
theorem Am{C Q a}(I)(s:S6 I (rR C Q a)){k l h}(i:I k l h)(e:l.length=6:=by rfl):rW C Q a l h:=JV.l6 I _ s i e
def vy (C:fu)(Q:fx)(a0 a1:V)(h:Hp):Prop:=
 oP (fD a0) λa=>
 ij (gR 34 1 24 nS a a) h λb c=>
 rD C Q [a0,a1,b,nZ] c
theorem Cu{C}(s:C.start=fW){a0 a1 h Q}(k:C.K jW [a0,a1] h=none)(H:vy C Q a0 a1 h):cP C jW [a0,a1] h Q:=cP.vd t25 s (by unfold P0;exact Tryd.func25) k H
def t48:List (Nat×List Nat):=[]
def oh (C:fu)(Q:fx)(a0 a1 a2 a3:V)(h:Hp):Prop:=
 ij (nP 79 a0) h λb a=>
 dY 5 b 1 a1 a λc=>
 oP (er .eql 3 c a2) λd=>
 oP (jK d (oB (fH 6 b) λe=>oB (ev e a) λf=>oB (some a1) λg=>oB (gD 1 f g) λi=>oB (ev i a) λj=>oB (some a3) λk=>er .lss 3 j k)) λl=>
 oP (pN l (oB (fH 5 b) λm=>oB (ev m a) λn=>oB (some a1) λo=>oB (gD 1 n o) λp=>oB (ev p a) λq=>oB (some a2) λr=>oB (er .neq 3 q r) λs=>oB (some s) λt=>jK t (oB (fH 7 b) λu=>oB (ev u a) λv=>oB (fH 5 b) λw=>oB (ev w a) λx=>oB (some a1) λy=>oB (gD 1 x y) λz=>oB (ev z a) λA=>oB (gD 1 v A) λB=>oB (ev B a) λD=>oB (some a2) λE=>oB (gD 1 D E) λF=>ev F a))) λG=>
 Q G a
theorem xg{C}(s:C.start=fW){a0 a1 a2 a3 h Q}(k:C.K gS [a0,a1,a2,a3] h=none)(H:oh C Q a0 a1 a2 a3 h):cP C gS [a0,a1,a2,a3] h Q:=cP.vd t48 s (by unfold P0;exact Tryd.func48) k H
def t49:List (Nat×List Nat):=[(87,[2,3,4,9,10])]
def mP (C:fu)(Q:fx):LP:=JV C Tryd.f49 t49 43 [2,3,4,9,10] [] Q
def mN (C:fu)(Q:fx)(b:LP)(k l m c a:V)(h:Hp):Prop:=
 oP (fD c) λd=>
 bO .lss 3 a d (
 oP (gg 8 m h) λe=>
 dX 1 c a h λf=>
 cP C gS [e,f,k,l] h λg i=>
 (h.next<=i.next/\
 bN g (
 Q bF i) (
 oP (er .add 3 a nO) λj=>
 b [k,l,m,c,j] i))) (
 Q bT h)
theorem uS{C Q}(I)(s:S5 I (mN C Q)){k l h}(i:I k l h)(e:l.length=5:=by rfl):mP C Q l h:=JV.l5 I _ s i e
def oi (C:fu)(Q:fx)(a0 a1 a2 a3:V)(h:Hp):Prop:=
 ij (nP 79 a0) h λg a=>
 oP (fH 0 g) λb=>
 dF 4 b a λc=>
 oP (gD 1 c a1) λd=>
 oP (gg 1 d a) λe=>
 cP C jv [e] a λf i=>
 mP C Q [a2,a3,g,f,nZ] i
theorem wW{C}(s:C.start=fW){a0 a1 a2 a3 h Q}(k:C.K iH [a0,a1,a2,a3] h=none)(H:oi C Q a0 a1 a2 a3 h):cP C iH [a0,a1,a2,a3] h Q:=cP.vd t49 s (by unfold P0;exact Tryd.func49) k H
def t73:List (Nat×List Nat):=[(87,[1,3,4])]
def pE (C:fu)(Q:fx):LP:=JV C Tryd.f73 t73 43 [1,3,4] [] Q
def pS (C:fu)(Q:fx)(i:LP)(f o g:V)(h:Hp):Prop:=
 dG 0 f h λq=>
 bO .lss 3 g q (
 dJ 0 f 4 g 2 h λj=>
 oP (fH 0 f) λa=>
 oP (ev a h) λb=>
 oP (gD 4 b g) λk=>
 oP (fH 3 k) λc=>
 oP (ev c h) λd=>
 fm (eR 3 1 8 o j h) λl e=>
 (h.next<=e.next/\
 ((ev c e=some d)/\
 ((ev a e=some b)/\
 fm (eR 3 1 8 l d e) λm p=>
 (e.next<=p.next/\
 oP (er .add 3 g nO) λn=>
 i [f,m,n] p))))) (
 Q o h)
theorem yX{C Q}(I)(s:S3 I (pS C Q)){k l h}(i:I k l h)(e:l.length=3:=by rfl):pE C Q l h:=JV.l3 I _ s i e
def td (C:fu)(Q:fx)(a0:V)(h:Hp):Prop:=
 ij (nP 38 a0) h λa b=>
 pE C Q [a,nS,nZ] b
theorem AN{C}(s:C.start=fW){a0 h Q}(k:C.K jv [a0] h=none)(H:td C Q a0 h):cP C jv [a0] h Q:=cP.vd t73 s (by unfold P0;exact Tryd.func73) k H
def t74:List (Nat×List Nat):=[]
def xM (C:fu)(Q:fx)(a0 a1:V)(h:Hp):Prop:=
 oP (er .geq 3 a0 nZ) λb=>
 oP (jK b (oB (some a0) λc=>oB (some a1) λd=>er .lss 3 c d)) λa=>
 Q a h
theorem EA{C}(s:C.start=fW){a0 a1 h Q}(k:C.K gi [a0,a1] h=none)(H:xM C Q a0 a1 h):cP C gi [a0,a1] h Q:=cP.vd t74 s (by unfold P0;exact Tryd.func74) k H
def t75:List (Nat×List Nat):=[]
def ux (C:fu)(Q:fx)(a0:V)(h:Hp):Prop:=
 oP (er .lss 3 a0 (V.int .i64 19)) λa=>
 oP (pN a (oB (some a0) λb=>er .eql 3 b (V.int .i64 21))) λc=>
 Q c h
theorem BK{C}(s:C.start=fW){a0 h Q}(k:C.K iY [a0] h=none)(H:ux C Q a0 h):cP C iY [a0] h Q:=cP.vd t75 s (by unfold P0;exact Tryd.func75) k H
end
