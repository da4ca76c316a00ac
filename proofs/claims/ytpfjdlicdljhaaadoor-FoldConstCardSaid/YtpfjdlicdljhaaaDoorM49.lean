/- Parts. -/
import Derived.Test.YtpfjdlicdljhaaaDoorM14
set_option maxHeartbeats 4000000
namespace Go.Proofs.YtpfjdlicdljhaaaDoor.Hx
set_option maxRecDepth 100000
noncomputable section
def t5:List (Nat×List Nat):=[(79,[2,3])]
def Ak(C:dc)(Q:dg):LP:=JV C Tryd.f5 t5 39 [2,3] [] Q
def Ab(C:dc)(Q:dg)(f:LP)(g b:V)(h:Hp):Prop:=cP C jX [b] h λi a=>bP i (oP (fe b) λj=>oP (dE 0 j) λk=>oP (eg 5 k a) λl=>dN 5 b a λm=>cP C rY [l,m] a λn o=>(a.next<=o.next/\oP (fe b) λp=>oP (dE 0 p) λq=>dz (fk 5 q n o) λD z=>(o.next<=z.next/\f [g,b] z))) (oP (fe b) λr=>oP (dE 0 r) λc=>oP (eg 5 c a) λd=>oP (fe b) λs=>oP (dE 0 s) λt=>oP (eg 5 t a) λu=>cP C vj [u] a λv e=>(a.next<=e.next/\((eg 5 c e=some d)/\cP C rY [d,v] e λw x=>(e.next<=x.next/\dz (fk 5 g w x) λA y=>(x.next<=y.next/\oP (eg 5 g y) λB=>Q B y)))))
theorem FN{C Q}(I)(s:S2 I (Ab C Q)){k l h}(i:I k l h)(e:l.length=2:=by rfl):Ak C Q l h:=JV.l2 I _ s i e
def EI(C:dc)(Q:dg)(a0:V)(h:Hp):Prop:=gJ (qd 29 a0) h λb j=>gJ (zC 29 [nZ,nZ,nS,nS,nS]) j λc g=>oP (eg 5 b g) λk=>cP C wz [k] g λl a=>bN l (oP (eg 5 b a) λm=>cP C rZ [m] a λn o=>dz (fk 5 c n o) λt i=>oP (eg 5 c i) λp=>Q p i) (oP (eg 5 b a) λq=>cP C rZ [q] a λd r=>oP (nH [nZ,nZ,nS,nS,nS,nS] [(0,5),(5,1)] [(0,d)]) λe=>gJ (qd 54 e) r λf s=>Ak C Q [c,f] s)
theorem Kq{C}(s:C.start=dH){a0 h Q}(k:C.K wM [a0] h=none)(H:EI C Q a0 h):cP C wM [a0] h Q:=cP.vd t5 s (by unfold P0;exact Tryd.func5) k H
def t14:List (Nat×List Nat):=[(175,[0,3,14,15,16])]
def qC(C:dc)(Q:dg):LP:=JV C Tryd.f14 t14 87 [0,3,14,15,16] [] Q
def qP(C:dc)(Q:dg)(d:LP)(j k b c a:V)(h:Hp):Prop:=bO .lss 3 a c (dX 1 b a h λe=>G9 C (wD e [j]) h λf l=>oP (kI f (some k)) λg=>oP (cX .add 3 a nO) λi=>d [j,g,b,c,i] l) (Q k h)
theorem zh{C Q}(I)(s:S5 I (qP C Q)){k l h}(i:I k l h)(e:l.length=5:=by rfl):qC C Q l h:=JV.l5 I _ s i e
def tE(C:dc)(Q:dg)(a0:V)(h:Hp):Prop:=oP (fe a0) λg=>oP (dE 0 g) λi=>oP (eg 5 i h) λb=>cP C vj [b] h λc j=>oP (fe a0) λd=>oP (dE 5 d) λe=>dz (fk 1 e c j) λm k=>cP C uj [] k λa l=>oP (dD a) λf=>qC C Q [a0,bF,a,f,nZ] l
theorem Bj{C}(s:C.start=dH){a0 h Q}(k:C.K jX [a0] h=none)(H:tE C Q a0 h):cP C jX [a0] h Q:=cP.vd t14 s (by unfold P0;exact Tryd.func14) k H
def t40:List (Nat×List Nat):=[]
def Dv(C:dc)(Q:dg)(h:Hp):Prop:=gJ (oX 81 1 4 V.nilFunc [(0,(V.func fF [] [])),(1,(V.func gm [] [])),(2,(V.func fG [] [])),(3,(V.func gj [] []))]) h λa b=>Q a b
theorem JJ{C}(s:C.start=dH){h Q}(k:C.K uj [] h=none)(H:Dv C Q h):cP C uj [] h Q:=cP.vd t40 s (by unfold P0;exact Tryd.func40) k H
def t60:List (Nat×List Nat):=[(87,[0,3,20,21,22]),(22935,[0,3,20,21,22,34,35,36]),(498070,[0,3,20,21,22,34,35,36])]
def pR(C:dc)(Q:dg):LP:=JV C Tryd.f60 t60 43 [0,3,20,21,22] [] Q
def pP(C:dc)(Q:dg)(a:LP):LP:=JV C Tryd.f60 t60 11467 [0,3,20,21,22,34,35,36] [kf [0,3,20,21,22] a] Q
def gf(C:dc)(Q:dg)(a:LP)(b:LP):LP:=JV C Tryd.f60 t60 249035 [0,3,20,21,22,34,35,36] [kf [0,3,20,21,22] a,kf [0,3,20,21,22,34,35,36] b] Q
def pA(C:dc)(Q:dg)(e:LP)(k l b c a:V)(h:Hp):Prop:=bO .lss 3 a c (dX 1 b a h λf=>oP (fe k) λg=>oP (dE 0 g) λi=>dJ 3 i 6 f 0 h λd=>oP (dD d) λj=>pP C Q e [k,l,b,c,a,d,j,nZ] h) (Q l h)
theorem xE{C Q}(I)(s:S5 I (pA C Q)){k l h}(i:I k l h)(e:l.length=5:=by rfl):pR C Q l h:=JV.l5 I _ s i e
def py(C:dc)(Q:dg)(b:LP)(k:LP)(j w c d e f g a:V)(h:Hp):Prop:=bO .lss 3 a g (dX 1 f a h λl=>oP (fe j) λx=>oP (dE 0 x) λy=>dF 2 y h λz=>oP (eX 6 z l) λA=>oP (eg 6 A h) λB=>gJ (zC 38 [nZ,nZ,nZ,nZ,nS,nZ]) h λm h1=>dz (fk 6 m B h1) λvu h2=>oP (eg 6 m h2) λD=>cP C pe [D] h2 λi n=>dF 0 m n λE=>oP (cX .lss 3 E (V.I 3)) λF=>oP (kI F (oB (dE 0 m) λG=>oB (df G n) λH=>cX .gtr 3 H (V.I 14))) λI=>oP (kI I (oB (some i) λJ=>oB (dD J) λK=>cX .eql 3 K nZ)) λL=>bP L (gf C Q b k [j,w,c,d,e,f,g,a] n) (dX 1 i nZ n λM=>cP C fU [j,M] n λo h4=>oP (Cn 0 o) λN=>oP (Cn 1 o) λO=>oP (dD i) λP=>oP (cX .sub 3 P nO) λR=>dX 1 i R h4 λS=>cP C fU [j,S] h4 λp h5=>oP (Cn 0 p) λT=>oP (Cn 1 p) λU=>dF 0 m h5 λW=>cP C ui [W,N,T] h5 λq X=>oP (Cn 0 q) λY=>oP (Cn 1 q) λZ=>oP (il Z (some O)) λaa=>oP (il aa (some U)) λab=>bP ab (oP (fe j) λac=>oP (dE 0 ac) λae=>dF 2 ae X λr=>oP (xO .i64 Y) λs=>oP (nH [nZ,nZ,nZ,nZ,nS,nZ] [(0,1),(1,1),(2,1),(3,1),(4,1),(5,1)] [(0,(V.I 2)),(3,s)]) λt=>oP (eX 6 r l) λu=>dz (fk 6 u t X) λag h7=>gf C Q b k [j,bT,c,d,e,f,g,a] h7) (gf C Q b k [j,w,c,d,e,f,g,a] X))) (oP (cX .add 3 e nO) λv=>b [j,w,c,d,v] h)
theorem xu{C Q a}(I)(s:S8 I (py C Q a)){k l h}(i:I k l h)(e:l.length=8:=by rfl):pP C Q a l h:=JV.l8 I _ s i e
def nT(C:dc)(Q:dg)(j:LP)(b:LP)(k l c d e f g i:V)(h:Hp):Prop:=oP (cX .add 3 i nO) λa=>b [k,l,c,d,e,f,g,a] h
theorem xm{C Q a b}:R8 (nT C Q a b) (gf C Q a b):=JV.r8 _
def th(C:dc)(Q:dg)(a0:V)(h:Hp):Prop:=oP (fe a0) λb=>oP (dE 0 b) λc=>oP (eg 5 c h) λd=>cP C ku [d] h λa f=>oP (dD a) λe=>pR C Q [a0,bF,a,e,nZ] f
theorem Ae{C}(s:C.start=dH){a0 h Q}(k:C.K fF [a0] h=none)(H:th C Q a0 h):cP C fF [a0] h Q:=cP.vd t60 s (by unfold P0;exact Tryd.func60) k H
def t61:List (Nat×List Nat):=[(87,[0,3,14,15,16]),(1942,[0,3,14,15,16]),(178583,[0,3,4,6,7,14,15,16,25,26,27]),(30,[3]),(3979670,[0,3,4,6,7,14,15,16,25,26,27])]
def rJ(C:dc)(Q:dg):LP:=JV C Tryd.f61 t61 43 [0,3,14,15,16] [] Q
def jm(C:dc)(Q:dg)(a:LP):LP:=JV C Tryd.f61 t61 971 [0,3,14,15,16] [kf [0,3,14,15,16] a] Q
def rL(C:dc)(Q:dg)(a:LP):LP:=JV C Tryd.f61 t61 89291 [0,3,4,6,7,14,15,16,25,26,27] [kf [0,3,14,15,16] a] Q
def kU(C:dc)(Q:dg):LP:=JV C Tryd.f61 t61 15 [3] [] Q
def iT(C:dc)(Q:dg)(a:LP)(b:LP):LP:=JV C Tryd.f61 t61 1989835 [0,3,4,6,7,14,15,16,25,26,27] [kf [0,3,14,15,16] a,kf [0,3,4,6,7,14,15,16,25,26,27] b] Q
def rr(C:dc)(Q:dg)(d:LP)(n g b c a:V)(h:Hp):Prop:=bO .lss 3 a c (oP (eX 6 b a) λi=>oP (eg 6 i h) λj=>gJ (zC 38 [nZ,nZ,nZ,nZ,nS,nZ]) h λk o=>dz (fk 6 k j o) λp f=>dF 0 k f λl=>bO .neq 3 l (V.I 21) (jm C Q d [n,g,b,c,a] f) (dF 4 k f λe=>oP (dD e) λm=>rL C Q d [n,g,a,(V.I (-1)),bF,b,c,a,e,m,nZ] f)) (kU C Q [g] h)
theorem zy{C Q}(I)(s:S5 I (rr C Q)){k l h}(i:I k l h)(e:l.length=5:=by rfl):rJ C Q l h:=JV.l5 I _ s i e
def rK(C:dc)(Q:dg)(a:LP)(f g b c d:V)(h:Hp):Prop:=oP (cX .add 3 d nO) λe=>a [f,g,b,c,e] h
theorem zO{C Q a}:R5 (rK C Q a) (jm C Q a):=JV.r5 _
def rW(C:dc)(Q:dg)(b:LP)(j:LP)(l n m k o c d e f g a:V)(h:Hp):Prop:=bO .lss 3 a g (dX 1 f a h λi=>oP (cX .neq 3 i m) λp=>oP (il p (oB (some i) λq=>oB (some k) λr=>cX .neq 3 q r)) λs=>bP s (oP (kI o (oB (some k) λt=>cX .geq 3 t nZ)) λu=>iT C Q b j [l,n,m,i,u,c,d,e,f,g,a] h) (iT C Q b j [l,n,m,k,o,c,d,e,f,g,a] h)) (oP (cX .geq 3 k nZ) λv=>oP (il v (oB (some o) λw=>lB .not w)) λx=>bP x (dN 5 l h λy=>oP (eX 1 y m) λz=>dz (fk 1 z k h) λB A=>kU C Q [bT] A) (jm C Q b [l,n,c,d,e] h))
theorem zH{C Q a}(I)(s:Zz I (rW C Q a)){k l h}(i:I k l h)(e:l.length=11:=by rfl):rL C Q a l h:=JV.Y7 I _ s i e
def kT(C:dc)(Q:dg)(a:V)(h:Hp):Prop:=Q a h
theorem rz{C Q}:R1 (kT C Q) (kU C Q):=JV.r1 _
def qt(C:dc)(Q:dg)(j:LP)(a:LP)(k l m n o b c d e f g:V)(h:Hp):Prop:=oP (cX .add 3 g nO) λi=>a [k,l,m,n,o,b,c,d,e,f,i] h
theorem zf{C Q a b}:Zm (qt C Q a b) (iT C Q a b):=JV.Yv _
def uy(C:dc)(Q:dg)(a0:V)(h:Hp):Prop:=oP (fe a0) λb=>oP (dE 0 b) λc=>dF 2 c h λa=>oP (dD a) λd=>rJ C Q [a0,bF,a,d,nZ] h
theorem Cc{C}(s:C.start=dH){a0 h Q}(k:C.K gm [a0] h=none)(H:uy C Q a0 h):cP C gm [a0] h Q:=cP.vd t61 s (by unfold P0;exact Tryd.func61) k H
def t62:List (Nat×List Nat):=[(87,[0,3,12,13,14]),(1942,[0,3,12,13,14])]
def pC(C:dc)(Q:dg):LP:=JV C Tryd.f62 t62 43 [0,3,12,13,14] [] Q
def gy(C:dc)(Q:dg)(a:LP):LP:=JV C Tryd.f62 t62 971 [0,3,12,13,14] [kf [0,3,12,13,14] a] Q
def pM(C:dc)(Q:dg)(d:LP)(e i b c a:V)(h:Hp):Prop:=bO .lss 3 a c (oP (eX 6 b a) λj=>oP (eg 6 j h) λk=>gJ (zC 38 [nZ,nZ,nZ,nZ,nS,nZ]) h λl w=>dz (fk 6 l k w) λy g=>dF 0 l g λm=>bO .neq 3 m (V.I 22) (gy C Q d [e,i,b,c,a] g) (dF 1 l g λn=>cP C fU [e,n] g λf o=>oP (Cn 0 f) λp=>oP (Cn 1 f) λq=>oP (il q (oB (some p) λr=>cX .neq 34 r (V.int .u64 0))) λs=>bP s (dN 5 e o λt=>oP (eX 1 t a) λu=>dz (fk 1 u (V.I (-1)) o) λv x=>gy C Q d [e,bT,b,c,a] x) (gy C Q d [e,i,b,c,a] o))) (Q i h)
theorem xU{C Q}(I)(s:S5 I (pM C Q)){k l h}(i:I k l h)(e:l.length=5:=by rfl):pC C Q l h:=JV.l5 I _ s i e
def pS(C:dc)(Q:dg)(a:LP)(f g b c d:V)(h:Hp):Prop:=oP (cX .add 3 d nO) λe=>a [f,g,b,c,e] h
theorem xZ{C Q a}:R5 (pS C Q a) (gy C Q a):=JV.r5 _
def sH(C:dc)(Q:dg)(a0:V)(h:Hp):Prop:=oP (fe a0) λd=>oP (dE 0 d) λb=>dF 2 b h λa=>oP (dD a) λc=>pC C Q [a0,bF,a,c,nZ] h
theorem Aq{C}(s:C.start=dH){a0 h Q}(k:C.K fG [a0] h=none)(H:sH C Q a0 h):cP C fG [a0] h Q:=cP.vd t62 s (by unfold P0;exact Tryd.func62) k H
def t63:List (Nat×List Nat):=[(87,[0,3,13,14,15]),(1942,[0,3,13,14,15]),(260502,[0,4,8,13,14,15])]
def rR(C:dc)(Q:dg):LP:=JV C Tryd.f63 t63 43 [0,3,13,14,15] [] Q
def hX(C:dc)(Q:dg)(a:LP):LP:=JV C Tryd.f63 t63 971 [0,3,13,14,15] [kf [0,3,13,14,15] a] Q
def iW(C:dc)(Q:dg)(a:LP):LP:=JV C Tryd.f63 t63 130251 [0,4,8,13,14,15] [kf [0,3,13,14,15] a] Q
def rC(C:dc)(Q:dg)(d:LP)(e k b c a:V)(h:Hp):Prop:=bO .lss 3 a c (oP (eX 6 b a) λl=>oP (eg 6 l h) λm=>gJ (zC 41 [nS,nZ,nZ,nS,nS,nZ]) h λf t=>dz (fk 6 f m t) λu j=>dF 1 f j λn=>bO .neq 3 n (V.I 2) (hX C Q d [e,k,b,c,a] j) (dF 2 f j λo=>cP C fU [e,o] j λg i=>oP (Cn 0 g) λp=>oP (Cn 1 g) λq=>bN q (hX C Q d [e,k,b,c,a] i) (dY 3 f 1 nZ i λr=>bO .eql 34 p (V.int .u64 0) (dY 3 f 1 nO i λs=>iW C Q d [e,a,s,b,c,a] i) (iW C Q d [e,a,r,b,c,a] i)))) (Q k h)
theorem zJ{C Q}(I)(s:S5 I (rC C Q)){k l h}(i:I k l h)(e:l.length=5:=by rfl):rR C Q l h:=JV.l5 I _ s i e
def rE(C:dc)(Q:dg)(a:LP)(f g b c d:V)(h:Hp):Prop:=oP (cX .add 3 d nO) λe=>a [f,g,b,c,e] h
theorem zK{C Q a}:R5 (rE C Q a) (hX C Q a):=JV.r5 _
def qG(C:dc)(Q:dg)(m:LP)(j n I o p q:V)(h:Hp):Prop:=oP (fe j) λr=>oP (dE 0 r) λs=>oP (dE 3 s) λc=>oP (df c h) λd=>oP (fe j) λt=>oP (dE 0 t) λu=>oP (dE 3 u) λe=>oP (df e h) λf=>oP (fe j) λv=>oP (dE 0 v) λw=>oP (dE 3 w) λg=>oP (df g h) λi=>E0 (oX 3 1 1 nZ [(0,I)]) h λa x b=>oP (eX 6 d n) λy=>oP (dE 1 y) λz=>((b.get (h.next)=some a/\O.beq a a=true)/\((df g b=some i)/\((df e b=some f)/\((df c b=some d)/\dz (fk 1 z nO b) λJ k=>(b.next<=k.next/\oP (eX 6 f n) λA=>oP (dE 2 A) λB=>((k.get (h.next)=some a/\O.beq a a=true)/\dz (fk 1 B nZ k) λF l=>(k.next<=l.next/\oP (eX 6 i n) λD=>oP (dE 3 D) λE=>((l.get (h.next)=some a/\O.beq a a=true)/\dz (fk 1 E x l) λG H=>(l.next<=H.next/\hX C Q m [j,bT,o,p,q] H)))))))))
theorem yC{C Q a}:R6 (qG C Q a) (iW C Q a):=JV.r6 _
def uX(C:dc)(Q:dg)(a0:V)(h:Hp):Prop:=oP (fe a0) λb=>oP (dE 0 b) λc=>dF 3 c h λa=>oP (dD a) λd=>rR C Q [a0,bF,a,d,nZ] h
theorem B5{C}(s:C.start=dH){a0 h Q}(k:C.K gj [a0] h=none)(H:uX C Q a0 h):cP C gj [a0] h Q:=cP.vd t63 s (by unfold P0;exact Tryd.func63) k H
def t75:List (Nat×List Nat):=[]
def tT(C:dc)(Q:dg)(a0 a1:V)(h:Hp):Prop:=oP (fe a0) λk=>oP (dE 0 k) λl=>dF 2 l h λa=>oP (eX 6 a a1) λb=>oP (eg 6 b h) λc=>gJ (zC 38 [nZ,nZ,nZ,nZ,nS,nZ]) h λd m=>dz (fk 6 d c m) λn e=>dF 3 d e λf=>oP (xO .u64 f) λg=>dF 0 d e λi=>oP (cX .eql 3 i (V.I 2)) λj=>Q (V.tuple [g,j]) e
theorem Bs{C}(s:C.start=dH){a0 a1 h Q}(k:C.K fU [a0,a1] h=none)(H:tT C Q a0 a1 h):cP C fU [a0,a1] h Q:=cP.vd t75 s (by unfold P0;exact Tryd.func75) k H
def t22:List (Nat×List Nat):=[]
def Cy(C:dc)(Q:dg)(a0 a1 a2:V)(h:Hp):Prop:=oP (cX .lss 3 a0 (V.I 3)) λd=>oP (kI d (oB (some a0) λa=>cX .gtr 3 a (V.I 14))) λb=>bP b (Q (V.tuple [(V.int .u64 0),bF]) h) (cP C yL [a0,a1,a2] h λc e=>Q (V.tuple [c,bT]) e)
theorem JF{C}(s:C.start=dH){a0 a1 a2 h Q}(k:C.K ui [a0,a1,a2] h=none)(H:Cy C Q a0 a1 a2 h):cP C ui [a0,a1,a2] h Q:=cP.vd t22 s (by unfold P0;exact Tryd.func22) k H
def t43:List (Nat×List Nat):=[(16342,[0,1,2,7,8,13,29])]
def qJ(C:dc)(Q:dg):LP:=JV C Tryd.f43 t43 8171 [0,1,2,7,8,13,29] [] Q
def AB(C:dc)(Q:dg)(v b c d e a f:V)(h:Hp):Prop:=bP f (cP C sq [v,d,e] h λg w=>Q g w) (bO .eql 3 a (V.I 8) (oP (lB .neg b) λi=>Q i h) (bO .eql 3 a (V.I 9) (oP (cX .eql 34 b (V.int .u64 0)) λj=>cP C kG [j] h λk x=>Q k x) (bO .eql 3 a (V.I 10) (oP (cX .eql 34 b c) λl=>cP C kG [l] h λm y=>Q m y) (bO .eql 3 a (V.I 11) (oP (cX .neq 34 b c) λn=>cP C kG [n] h λo z=>Q o z) (bO .eql 3 a (V.I 12) (oP (cX .lss 2 d e) λp=>cP C kG [p] h λq A=>Q q A) (bO .eql 3 a (V.I 13) (oP (cX .leq 2 d e) λr=>cP C kG [r] h λs B=>Q s B) (bO .eql 3 a (V.I 14) (oP (cX .lss 34 b c) λt=>cP C kG [t] h λu D=>Q u D) (Q (V.int .u64 0) h))))))))
theorem FQ{C Q}:R7 (AB C Q) (qJ C Q):=JV.r7 _
def GS(C:dc)(Q:dg)(a0 a1 a2:V)(h:Hp):Prop:=oP (xO .i64 a1) λa=>oP (xO .i64 a2) λb=>bO .eql 3 a0 (V.I 3) (oP (cX .add 34 a1 a2) λd=>Q d h) (bO .eql 3 a0 (V.I 4) (oP (cX .sub 34 a1 a2) λe=>Q e h) (bO .eql 3 a0 (V.I 5) (oP (cX .mul 34 a1 a2) λf=>Q f h) (oP (cX .eql 3 a0 (V.I 6)) λc=>bP c (qJ C Q [a0,a1,a2,a,b,a0,c] h) (oP (cX .eql 3 a0 (V.I 7)) λg=>qJ C Q [a0,a1,a2,a,b,a0,g] h))))
theorem Mf{C}(s:C.start=dH){a0 a1 a2 h Q}(k:C.K yL [a0,a1,a2] h=none)(H:GS C Q a0 a1 a2 h):cP C yL [a0,a1,a2] h Q:=cP.vd t43 s (by unfold P0;exact Tryd.func43) k H
def t69:List (Nat×List Nat):=[(14,[0,1,2])]
def mw(C:dc)(Q:dg):LP:=JV C Tryd.f69 t69 7 [0,1,2] [] Q
def xY(C:dc)(Q:dg)(g f a:V)(h:Hp):Prop:=bO .eql 2 a nZ (Q (V.int .u64 0) h) (bO .eql 3 g (V.I 6) (oP (cX .quo 2 f a) λb=>oP (xO .u64 b) λc=>Q c h) (oP (cX .rem 2 f a) λd=>oP (xO .u64 d) λe=>Q e h))
theorem DL{C Q}:R3 (xY C Q) (mw C Q):=JV.r3 _
def Bz(C:dc)(Q:dg)(a0 a1 a2:V)(h:Hp):Prop:=oP (cX .eql 2 a1 (V.I (-9223372036854775808))) λc=>oP (il c (oB (some a2) λa=>cX .eql 2 a (V.I (-1)))) λb=>bP b (mw C Q [a0,a1,nO] h) (mw C Q [a0,a1,a2] h)
theorem Hz{C}(s:C.start=dH){a0 a1 a2 h Q}(k:C.K sq [a0,a1,a2] h=none)(H:Bz C Q a0 a1 a2 h):cP C sq [a0,a1,a2] h Q:=cP.vd t69 s (by unfold P0;exact Tryd.func69) k H
def t70:List (Nat×List Nat):=[]
def Hc(C:dc)(Q:dg)(a0:V)(h:Hp):Prop:=bP a0 (Q (V.int .u64 1) h) (Q (V.int .u64 0) h)
theorem ML{C}(s:C.start=dH){a0 h Q}(k:C.K kG [a0] h=none)(H:Hc C Q a0 h):cP C kG [a0] h Q:=cP.vd t70 s (by unfold P0;exact Tryd.func70) k H
end
