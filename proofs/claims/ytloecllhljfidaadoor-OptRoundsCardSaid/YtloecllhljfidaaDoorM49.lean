/- Parts. -/
import Derived.Test.YtloecllhljfidaaDoorM14
set_option maxHeartbeats 4000000
namespace Go.Proofs.YtloecllhljfidaaDoor.Hx
set_option maxRecDepth 100000
noncomputable section
def t23:List (Nat×List Nat):=[(79,[2,3])]
def Dy(C:fm)(Q:fq):LP:=JV C Tryd.f23 t23 39 [2,3] [] Q
def DA(C:fm)(Q:fq)(f:LP)(g b:V)(h:Hp):Prop:=cP C na [b] h λi a=>bP i (oP (gU b) λj=>oP (fQ 0 j) λk=>oP (fM 5 k a) λl=>dN 5 b a λm=>cP C nT [l,m] a λn o=>(a.next<=o.next/\oP (gU b) λp=>oP (fQ 0 p) λq=>fc (gh 5 q n o) λB z=>(o.next<=z.next/\f [g,b] z))) (oP (gU b) λr=>oP (fQ 0 r) λc=>oP (fM 5 c a) λd=>oP (gU b) λs=>oP (fQ 0 s) λt=>oP (fM 5 t a) λu=>cP C rH [u] a λv e=>(a.next<=e.next/\((fM 5 c e=some d)/\cP C nT [d,v] e λw x=>(e.next<=x.next/\fc (gh 5 g w x) λA y=>(x.next<=y.next/\oP (fM 5 g y) λr2=>Q r2 y)))))
theorem K0{C Q}(I)(s:S2 I (DA C Q)){k l h}(i:I k l h)(e:l.length=2:=by rfl):Dy C Q l h:=JV.l2 I _ s i e
def Jn(C:fm)(Q:fq)(a0:V)(h:Hp):Prop:=gX (mm 29 a0) h λb j=>gX (zC 29 [nZ,nZ,nS,nS,nS]) j λc g=>oP (fM 5 b g) λk=>cP C rY [k] g λl a=>bN l (oP (fM 5 b a) λm=>cP C mZ [m] a λn o=>fc (gh 5 c n o) λs i=>oP (fM 5 c i) λr2=>Q r2 i) (oP (fM 5 b a) λp=>cP C mZ [p] a λd q=>oP (fJ [nZ,nZ,nS,nS,nS,nS] [(0,5),(5,1)] [(0,d)]) λe=>gX (mm 65 e) q λf r=>Dy C Q [c,f] r)
theorem PW{C}(s:C.start=fK){a0 h Q}(k:C.K wk [a0] h=none)(H:Jn C Q a0 h):cP C wk [a0] h Q:=cP.vd t23 s (by unfold P0;exact Tryd.func23) k H
def t33:List (Nat×List Nat):=[(175,[0,3,14,15,16])]
def tG(C:fm)(Q:fq):LP:=JV C Tryd.f33 t33 87 [0,3,14,15,16] [] Q
def ud(C:fm)(Q:fq)(d:LP)(j k b c a:V)(h:Hp):Prop:=bO .lss 3 a c (dX 1 b a h λe=>gN C (fO e [j]) h λf l=>oP (uP f (some k)) λg=>oP (eJ .add 3 a nO) λi=>d [j,g,b,c,i] l) (Q k h)
theorem BE{C Q}(I)(s:S5 I (ud C Q)){k l h}(i:I k l h)(e:l.length=5:=by rfl):tG C Q l h:=JV.l5 I _ s i e
def xx(C:fm)(Q:fq)(a0:V)(h:Hp):Prop:=oP (gU a0) λg=>oP (fQ 0 g) λi=>oP (fM 5 i h) λb=>cP C rH [b] h λc j=>oP (gU a0) λd=>oP (fQ 5 d) λe=>fc (gh 1 e c j) λm k=>cP C yd [] k λa l=>oP (fD a) λf=>tG C Q [a0,bF,a,f,nZ] l
theorem E3{C}(s:C.start=fK){a0 h Q}(k:C.K na [a0] h=none)(H:xx C Q a0 h):cP C na [a0] h Q:=cP.vd t33 s (by unfold P0;exact Tryd.func33) k H
def t49:List (Nat×List Nat):=[]
def G7(C:fm)(Q:fq)(h:Hp):Prop:=gX (jd 86 1 4 V.nilFunc [(0,(V.func iX [] [])),(1,(V.func jC [] [])),(2,(V.func iU [] [])),(3,(V.func jA [] []))]) h λa b=>Q a b
theorem OA{C}(s:C.start=fK){h Q}(k:C.K yd [] h=none)(H:G7 C Q h):cP C yd [] h Q:=cP.vd t49 s (by unfold P0;exact Tryd.func49) k H
def t63:List (Nat×List Nat):=[(87,[0,3,20,21,22]),(22935,[0,3,20,21,22,34,35,36]),(498070,[0,3,20,21,22,34,35,36])]
def tg(C:fm)(Q:fq):LP:=JV C Tryd.f63 t63 43 [0,3,20,21,22] [] Q
def sS(C:fm)(Q:fq)(a:LP):LP:=JV C Tryd.f63 t63 11467 [0,3,20,21,22,34,35,36] [kf [0,3,20,21,22] a] Q
def jt(C:fm)(Q:fq)(a:LP)(b:LP):LP:=JV C Tryd.f63 t63 249035 [0,3,20,21,22,34,35,36] [kf [0,3,20,21,22] a,kf [0,3,20,21,22,34,35,36] b] Q
def sq(C:fm)(Q:fq)(e:LP)(k l b c a:V)(h:Hp):Prop:=bO .lss 3 a c (dX 1 b a h λf=>oP (gU k) λg=>oP (fQ 0 g) λi=>dJ 3 i 6 f 0 h λd=>oP (fD d) λj=>sS C Q e [k,l,b,c,a,d,j,nZ] h) (Q l h)
theorem Ap{C Q}(I)(s:S5 I (sq C Q)){k l h}(i:I k l h)(e:l.length=5:=by rfl):tg C Q l h:=JV.l5 I _ s i e
def sH(C:fm)(Q:fq)(b:LP)(k:LP)(j w c d e f g a:V)(h:Hp):Prop:=bO .lss 3 a g (dX 1 f a h λl=>oP (gU j) λx=>oP (fQ 0 x) λy=>dF 2 y h λz=>oP (hV 6 z l) λA=>oP (fM 6 A h) λB=>gX (zC 40 [nZ,nZ,nZ,nZ,nS,nZ]) h λm h1=>fc (gh 6 m B h1) λvu h2=>oP (fM 6 m h2) λD=>cP C mc [D] h2 λi n=>dF 0 m n λE=>oP (eJ .lss 3 E (V.I 3)) λF=>oP (uP F (oB (fQ 0 m) λG=>oB (eQ G n) λH=>eJ .gtr 3 H (V.I 14))) λI=>oP (uP I (oB (some i) λJ=>oB (fD J) λK=>eJ .eql 3 K nZ)) λL=>bP L (jt C Q b k [j,w,c,d,e,f,g,a] n) (dX 1 i nZ n λM=>cP C jn [j,M] n λo h4=>oP (BS 0 o) λN=>oP (BS 1 o) λO=>oP (fD i) λP=>oP (eJ .sub 3 P nO) λR=>dX 1 i R h4 λS=>cP C jn [j,S] h4 λp h5=>oP (BS 0 p) λT=>oP (BS 1 p) λU=>dF 0 m h5 λW=>cP C xU [W,N,T] h5 λq X=>oP (BS 0 q) λY=>oP (BS 1 q) λZ=>oP (mn Z (some O)) λaa=>oP (mn aa (some U)) λab=>bP ab (oP (gU j) λac=>oP (fQ 0 ac) λae=>dF 2 ae X λr=>oP (K9 .i64 Y) λs=>oP (fJ [nZ,nZ,nZ,nZ,nS,nZ] [(0,1),(1,1),(2,1),(3,1),(4,1),(5,1)] [(0,(V.I 2)),(3,s)]) λt=>oP (hV 6 r l) λu=>fc (gh 6 u t X) λag h7=>jt C Q b k [j,bT,c,d,e,f,g,a] h7) (jt C Q b k [j,w,c,d,e,f,g,a] X))) (oP (eJ .add 3 e nO) λv=>b [j,w,c,d,v] h)
theorem AK{C Q a}(I)(s:S8 I (sH C Q a)){k l h}(i:I k l h)(e:l.length=8:=by rfl):sS C Q a l h:=JV.l8 I _ s i e
def qL(C:fm)(Q:fq)(j:LP)(b:LP)(k l c d e f g i:V)(h:Hp):Prop:=oP (eJ .add 3 i nO) λa=>b [k,l,c,d,e,f,g,a] h
theorem z5{C Q a b}:R8 (qL C Q a b) (jt C Q a b):=JV.r8 _
def wz(C:fm)(Q:fq)(a0:V)(h:Hp):Prop:=oP (gU a0) λb=>oP (fQ 0 b) λc=>oP (fM 5 c h) λd=>cP C nN [d] h λa f=>oP (fD a) λe=>tg C Q [a0,bF,a,e,nZ] f
theorem CP{C}(s:C.start=fK){a0 h Q}(k:C.K iX [a0] h=none)(H:wz C Q a0 h):cP C iX [a0] h Q:=cP.vd t63 s (by unfold P0;exact Tryd.func63) k H
def t64:List (Nat×List Nat):=[(87,[0,3,14,15,16]),(1942,[0,3,14,15,16]),(178583,[0,3,4,6,7,14,15,16,25,26,27]),(30,[3]),(3979670,[0,3,4,6,7,14,15,16,25,26,27])]
def uQ(C:fm)(Q:fq):LP:=JV C Tryd.f64 t64 43 [0,3,14,15,16] [] Q
def mj(C:fm)(Q:fq)(a:LP):LP:=JV C Tryd.f64 t64 971 [0,3,14,15,16] [kf [0,3,14,15,16] a] Q
def uM(C:fm)(Q:fq)(a:LP):LP:=JV C Tryd.f64 t64 89291 [0,3,4,6,7,14,15,16,25,26,27] [kf [0,3,14,15,16] a] Q
def oJ(C:fm)(Q:fq):LP:=JV C Tryd.f64 t64 15 [3] [] Q
def lQ(C:fm)(Q:fq)(a:LP)(b:LP):LP:=JV C Tryd.f64 t64 1989835 [0,3,4,6,7,14,15,16,25,26,27] [kf [0,3,14,15,16] a,kf [0,3,4,6,7,14,15,16,25,26,27] b] Q
def vm(C:fm)(Q:fq)(d:LP)(n g b c a:V)(h:Hp):Prop:=bO .lss 3 a c (oP (hV 6 b a) λi=>oP (fM 6 i h) λj=>gX (zC 40 [nZ,nZ,nZ,nZ,nS,nZ]) h λk o=>fc (gh 6 k j o) λp f=>dF 0 k f λl=>bO .neq 3 l (V.I 21) (mj C Q d [n,g,b,c,a] f) (dF 4 k f λe=>oP (fD e) λm=>uM C Q d [n,g,a,(V.I (-1)),bF,b,c,a,e,m,nZ] f)) (oJ C Q [g] h)
theorem Cy{C Q}(I)(s:S5 I (vm C Q)){k l h}(i:I k l h)(e:l.length=5:=by rfl):uQ C Q l h:=JV.l5 I _ s i e
def vz(C:fm)(Q:fq)(a:LP)(f g b c d:V)(h:Hp):Prop:=oP (eJ .add 3 d nO) λe=>a [f,g,b,c,e] h
theorem Ct{C Q a}:R5 (vz C Q a) (mj C Q a):=JV.r5 _
def uT(C:fm)(Q:fq)(b:LP)(j:LP)(l n m k o c d e f g a:V)(h:Hp):Prop:=bO .lss 3 a g (dX 1 f a h λi=>oP (eJ .neq 3 i m) λp=>oP (mn p (oB (some i) λq=>oB (some k) λr=>eJ .neq 3 q r)) λs=>bP s (oP (uP o (oB (some k) λt=>eJ .geq 3 t nZ)) λu=>lQ C Q b j [l,n,m,i,u,c,d,e,f,g,a] h) (lQ C Q b j [l,n,m,k,o,c,d,e,f,g,a] h)) (oP (eJ .geq 3 k nZ) λv=>oP (mn v (oB (some o) λw=>vC .not w)) λx=>bP x (dN 5 l h λy=>oP (hV 1 y m) λz=>fc (gh 1 z k h) λB A=>oJ C Q [bT] A) (mj C Q b [l,n,c,d,e] h))
theorem CA{C Q a}(I)(s:S11 I (uT C Q a)){k l h}(i:I k l h)(e:l.length=11:=by rfl):uM C Q a l h:=JV.l11 I _ s i e
def oO(C:fm)(Q:fq)(a:V)(h:Hp):Prop:=Q a h
theorem uO{C Q}:R1 (oO C Q) (oJ C Q):=JV.r1 _
def uy(C:fm)(Q:fq)(j:LP)(a:LP)(k l m n o b c d e f g:V)(h:Hp):Prop:=oP (eJ .add 3 g nO) λi=>a [k,l,m,n,o,b,c,d,e,f,i] h
theorem Bt{C Q a b}:R11 (uy C Q a b) (lQ C Q a b):=JV.r11 _
def yD(C:fm)(Q:fq)(a0:V)(h:Hp):Prop:=oP (gU a0) λb=>oP (fQ 0 b) λc=>dF 2 c h λa=>oP (fD a) λd=>uQ C Q [a0,bF,a,d,nZ] h
theorem FW{C}(s:C.start=fK){a0 h Q}(k:C.K jC [a0] h=none)(H:yD C Q a0 h):cP C jC [a0] h Q:=cP.vd t64 s (by unfold P0;exact Tryd.func64) k H
def t65:List (Nat×List Nat):=[(87,[0,3,12,13,14]),(1942,[0,3,12,13,14])]
def tf(C:fm)(Q:fq):LP:=JV C Tryd.f65 t65 43 [0,3,12,13,14] [] Q
def jJ(C:fm)(Q:fq)(a:LP):LP:=JV C Tryd.f65 t65 971 [0,3,12,13,14] [kf [0,3,12,13,14] a] Q
def sQ(C:fm)(Q:fq)(d:LP)(e i b c a:V)(h:Hp):Prop:=bO .lss 3 a c (oP (hV 6 b a) λj=>oP (fM 6 j h) λk=>gX (zC 40 [nZ,nZ,nZ,nZ,nS,nZ]) h λl w=>fc (gh 6 l k w) λy g=>dF 0 l g λm=>bO .neq 3 m (V.I 22) (jJ C Q d [e,i,b,c,a] g) (dF 1 l g λn=>cP C jn [e,n] g λf o=>oP (BS 0 f) λp=>oP (BS 1 f) λq=>oP (mn q (oB (some p) λr=>eJ .neq 120 r (V.int .u64 0))) λs=>bP s (dN 5 e o λt=>oP (hV 1 t a) λu=>fc (gh 1 u (V.I (-1)) o) λv x=>jJ C Q d [e,bT,b,c,a] x) (jJ C Q d [e,i,b,c,a] o))) (Q i h)
theorem Ay{C Q}(I)(s:S5 I (sQ C Q)){k l h}(i:I k l h)(e:l.length=5:=by rfl):tf C Q l h:=JV.l5 I _ s i e
def rS(C:fm)(Q:fq)(a:LP)(f g b c d:V)(h:Hp):Prop:=oP (eJ .add 3 d nO) λe=>a [f,g,b,c,e] h
theorem AR{C Q a}:R5 (rS C Q a) (jJ C Q a):=JV.r5 _
def wH(C:fm)(Q:fq)(a0:V)(h:Hp):Prop:=oP (gU a0) λd=>oP (fQ 0 d) λb=>dF 2 b h λa=>oP (fD a) λc=>tf C Q [a0,bF,a,c,nZ] h
theorem C8{C}(s:C.start=fK){a0 h Q}(k:C.K iU [a0] h=none)(H:wH C Q a0 h):cP C iU [a0] h Q:=cP.vd t65 s (by unfold P0;exact Tryd.func65) k H
def t66:List (Nat×List Nat):=[(87,[0,3,13,14,15]),(1942,[0,3,13,14,15]),(260502,[0,4,8,13,14,15])]
def uW(C:fm)(Q:fq):LP:=JV C Tryd.f66 t66 43 [0,3,13,14,15] [] Q
def kh(C:fm)(Q:fq)(a:LP):LP:=JV C Tryd.f66 t66 971 [0,3,13,14,15] [kf [0,3,13,14,15] a] Q
def lP(C:fm)(Q:fq)(a:LP):LP:=JV C Tryd.f66 t66 130251 [0,4,8,13,14,15] [kf [0,3,13,14,15] a] Q
def uR(C:fm)(Q:fq)(d:LP)(e k b c a:V)(h:Hp):Prop:=bO .lss 3 a c (oP (hV 6 b a) λl=>oP (fM 6 l h) λm=>gX (zC 38 [nS,nZ,nZ,nS,nS,nZ]) h λf t=>fc (gh 6 f m t) λu j=>dF 1 f j λn=>bO .neq 3 n (V.I 2) (kh C Q d [e,k,b,c,a] j) (dF 2 f j λo=>cP C jn [e,o] j λg i=>oP (BS 0 g) λp=>oP (BS 1 g) λq=>bN q (kh C Q d [e,k,b,c,a] i) (dY 3 f 1 nZ i λr=>bO .eql 120 p (V.int .u64 0) (dY 3 f 1 nO i λs=>lP C Q d [e,a,s,b,c,a] i) (lP C Q d [e,a,r,b,c,a] i)))) (Q k h)
theorem CG{C Q}(I)(s:S5 I (uR C Q)){k l h}(i:I k l h)(e:l.length=5:=by rfl):uW C Q l h:=JV.l5 I _ s i e
def uN(C:fm)(Q:fq)(a:LP)(f g b c d:V)(h:Hp):Prop:=oP (eJ .add 3 d nO) λe=>a [f,g,b,c,e] h
theorem Cv{C Q a}:R5 (uN C Q a) (kh C Q a):=JV.r5 _
def uw(C:fm)(Q:fq)(m:LP)(j n I o p q:V)(h:Hp):Prop:=oP (gU j) λr=>oP (fQ 0 r) λs=>oP (fQ 3 s) λc=>oP (eQ c h) λd=>oP (gU j) λt=>oP (fQ 0 t) λu=>oP (fQ 3 u) λe=>oP (eQ e h) λf=>oP (gU j) λv=>oP (fQ 0 v) λw=>oP (fQ 3 w) λg=>oP (eQ g h) λi=>wP (jd 3 1 1 nZ [(0,I)]) h λa x b=>oP (hV 6 d n) λy=>oP (fQ 1 y) λz=>((b.get (h.next)=some a/\O.beq a a=true)/\((eQ g b=some i)/\((eQ e b=some f)/\((eQ c b=some d)/\fc (gh 1 z nO b) λJ k=>(b.next<=k.next/\oP (hV 6 f n) λA=>oP (fQ 2 A) λB=>((k.get (h.next)=some a/\O.beq a a=true)/\fc (gh 1 B nZ k) λF l=>(k.next<=l.next/\oP (hV 6 i n) λD=>oP (fQ 3 D) λE=>((l.get (h.next)=some a/\O.beq a a=true)/\fc (gh 1 E x l) λG H=>(l.next<=H.next/\kh C Q m [j,bT,o,p,q] H)))))))))
theorem Bs{C Q a}:R6 (uw C Q a) (lP C Q a):=JV.r6 _
def yG(C:fm)(Q:fq)(a0:V)(h:Hp):Prop:=oP (gU a0) λb=>oP (fQ 0 b) λc=>dF 3 c h λa=>oP (fD a) λd=>uW C Q [a0,bF,a,d,nZ] h
theorem FT{C}(s:C.start=fK){a0 h Q}(k:C.K jA [a0] h=none)(H:yG C Q a0 h):cP C jA [a0] h Q:=cP.vd t66 s (by unfold P0;exact Tryd.func66) k H
def t77:List (Nat×List Nat):=[]
def xy(C:fm)(Q:fq)(a0 a1:V)(h:Hp):Prop:=oP (gU a0) λk=>oP (fQ 0 k) λl=>dF 2 l h λa=>oP (hV 6 a a1) λb=>oP (fM 6 b h) λc=>gX (zC 40 [nZ,nZ,nZ,nZ,nS,nZ]) h λd m=>fc (gh 6 d c m) λn e=>dF 3 d e λf=>oP (K9 .u64 f) λg=>dF 0 d e λi=>oP (eJ .eql 3 i (V.I 2)) λj=>Q (V.tuple [g,j]) e
theorem EM{C}(s:C.start=fK){a0 a1 h Q}(k:C.K jn [a0,a1] h=none)(H:xy C Q a0 a1 h):cP C jn [a0,a1] h Q:=cP.vd t77 s (by unfold P0;exact Tryd.func77) k H
def t78:List (Nat×List Nat):=[]
def Hw(C:fm)(Q:fq)(a0 a1 a2:V)(h:Hp):Prop:=oP (eJ .lss 3 a0 (V.I 3)) λd=>oP (uP d (oB (some a0) λa=>eJ .gtr 3 a (V.I 14))) λb=>bP b (Q (V.tuple [(V.int .u64 0),bF]) h) (cP C BA [a0,a1,a2] h λc e=>Q (V.tuple [c,bT]) e)
theorem Nw{C}(s:C.start=fK){a0 a1 a2 h Q}(k:C.K xU [a0,a1,a2] h=none)(H:Hw C Q a0 a1 a2 h):cP C xU [a0,a1,a2] h Q:=cP.vd t78 s (by unfold P0;exact Tryd.func78) k H
def t81:List (Nat×List Nat):=[(16342,[0,1,2,7,8,13,29])]
def tE(C:fm)(Q:fq):LP:=JV C Tryd.f81 t81 8171 [0,1,2,7,8,13,29] [] Q
def DR(C:fm)(Q:fq)(v b c d e a f:V)(h:Hp):Prop:=bP f (cP C vP [v,d,e] h λg w=>Q g w) (bO .eql 3 a (V.I 8) (oP (vC .neg b) λi=>Q i h) (bO .eql 3 a (V.I 9) (oP (eJ .eql 120 b (V.int .u64 0)) λj=>cP C nY [j] h λk x=>Q k x) (bO .eql 3 a (V.I 10) (oP (eJ .eql 120 b c) λl=>cP C nY [l] h λm y=>Q m y) (bO .eql 3 a (V.I 11) (oP (eJ .neq 120 b c) λn=>cP C nY [n] h λo z=>Q o z) (bO .eql 3 a (V.I 12) (oP (eJ .lss 2 d e) λp=>cP C nY [p] h λq A=>Q q A) (bO .eql 3 a (V.I 13) (oP (eJ .leq 2 d e) λr=>cP C nY [r] h λs B=>Q s B) (bO .eql 3 a (V.I 14) (oP (eJ .lss 120 b c) λt=>cP C nY [t] h λu D=>Q u D) (Q (V.int .u64 0) h))))))))
theorem Kz{C Q}:R7 (DR C Q) (tE C Q):=JV.r7 _
def LK(C:fm)(Q:fq)(a0 a1 a2:V)(h:Hp):Prop:=oP (K9 .i64 a1) λa=>oP (K9 .i64 a2) λb=>bO .eql 3 a0 (V.I 3) (oP (eJ .add 120 a1 a2) λd=>Q d h) (bO .eql 3 a0 (V.I 4) (oP (eJ .sub 120 a1 a2) λe=>Q e h) (bO .eql 3 a0 (V.I 5) (oP (eJ .mul 120 a1 a2) λf=>Q f h) (oP (eJ .eql 3 a0 (V.I 6)) λc=>bP c (tE C Q [a0,a1,a2,a,b,a0,c] h) (oP (eJ .eql 3 a0 (V.I 7)) λg=>tE C Q [a0,a1,a2,a,b,a0,g] h))))
theorem R0{C}(s:C.start=fK){a0 a1 a2 h Q}(k:C.K BA [a0,a1,a2] h=none)(H:LK C Q a0 a1 a2 h):cP C BA [a0,a1,a2] h Q:=cP.vd t81 s (by unfold P0;exact Tryd.func81) k H
def t85:List (Nat×List Nat):=[(14,[0,1,2])]
def qe(C:fm)(Q:fq):LP:=JV C Tryd.f85 t85 7 [0,1,2] [] Q
def AM(C:fm)(Q:fq)(g f a:V)(h:Hp):Prop:=bO .eql 2 a nZ (Q (V.int .u64 0) h) (bO .eql 3 g (V.I 6) (oP (eJ .quo 2 f a) λb=>oP (K9 .u64 b) λc=>Q c h) (oP (eJ .rem 2 f a) λd=>oP (K9 .u64 d) λe=>Q e h))
theorem I0{C Q}:R3 (AM C Q) (qe C Q):=JV.r3 _
def Ft(C:fm)(Q:fq)(a0 a1 a2:V)(h:Hp):Prop:=oP (eJ .eql 2 a1 (V.I (-9223372036854775808))) λc=>oP (mn c (oB (some a2) λa=>eJ .eql 2 a (V.I (-1)))) λb=>bP b (qe C Q [a0,a1,nO] h) (qe C Q [a0,a1,a2] h)
theorem Mv{C}(s:C.start=fK){a0 a1 a2 h Q}(k:C.K vP [a0,a1,a2] h=none)(H:Ft C Q a0 a1 a2 h):cP C vP [a0,a1,a2] h Q:=cP.vd t85 s (by unfold P0;exact Tryd.func85) k H
def t86:List (Nat×List Nat):=[]
def KM(C:fm)(Q:fq)(a0:V)(h:Hp):Prop:=bP a0 (Q (V.int .u64 1) h) (Q (V.int .u64 0) h)
theorem RC{C}(s:C.start=fK){a0 h Q}(k:C.K nY [a0] h=none)(H:KM C Q a0 h):cP C nY [a0] h Q:=cP.vd t86 s (by unfold P0;exact Tryd.func86) k H
end
