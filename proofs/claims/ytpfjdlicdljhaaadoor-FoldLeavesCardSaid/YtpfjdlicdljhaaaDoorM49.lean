/- Parts. -/
import Derived.Test.YtpfjdlicdljhaaaDoorM14
set_option maxHeartbeats 4000000
namespace Go.Proofs.YtpfjdlicdljhaaaDoor.Hx
set_option maxRecDepth 100000
noncomputable section
def t5:List (Nat×List Nat):=[(79,[2,3])]
def Dy(C:fk)(Q:fo):LP:=JV C Tryd.f5 t5 39 [2,3] [] Q
def DH(C:fk)(Q:fo)(f:LP)(g b:V)(h:Hp):Prop:=cP C mR [b] h λi a=>bP i (oP (ij b) λj=>oP (fH 0 j) λk=>oP (gy 5 k a) λl=>dN 5 b a λm=>cP C wh [l,m] a λn o=>(a.next<=o.next/\oP (ij b) λp=>oP (fH 0 p) λq=>fi (gG 5 q n o) λB z=>(o.next<=z.next/\f [g,b] z))) (oP (ij b) λr=>oP (fH 0 r) λc=>oP (gy 5 c a) λd=>oP (ij b) λs=>oP (fH 0 s) λt=>oP (gy 5 t a) λu=>cP C yv [u] a λv e=>(a.next<=e.next/\((gy 5 c e=some d)/\cP C wh [d,v] e λw x=>(e.next<=x.next/\fi (gG 5 g w x) λA y=>(x.next<=y.next/\oP (gy 5 g y) λr2=>Q r2 y)))))
theorem Kv{C Q}(I)(s:S2 I (DH C Q)){k l h}(i:I k l h)(e:l.length=2:=by rfl):Dy C Q l h:=JV.l2 I _ s i e
def Jm(C:fk)(Q:fo)(a0:V)(h:Hp):Prop:=im (pU 29 a0) h λb j=>im (zC 29 [nZ,nZ,nS,nS,nS]) j λc g=>oP (gy 5 b g) λk=>cP C zM [k] g λl a=>bN l (oP (gy 5 b a) λm=>cP C vV [m] a λn o=>fi (gG 5 c n o) λs i=>oP (gy 5 c i) λr2=>Q r2 i) (oP (gy 5 b a) λp=>cP C vV [p] a λd q=>oP (fR [nZ,nZ,nS,nS,nS,nS] [(0,5),(5,1)] [(0,d)]) λe=>im (pU 54 e) q λf r=>Dy C Q [c,f] r)
theorem ON{C}(s:C.start=fV){a0 h Q}(k:C.K Aa [a0] h=none)(H:Jm C Q a0 h):cP C Aa [a0] h Q:=cP.vd t5 s (by unfold P0;exact Tryd.func5) k H
def t14:List (Nat×List Nat):=[(175,[0,3,14,15,16])]
def uW(C:fk)(Q:fo):LP:=JV C Tryd.f14 t14 87 [0,3,14,15,16] [] Q
def tQ(C:fk)(Q:fo)(d:LP)(j k b c a:V)(h:Hp):Prop:=bO .lss 3 a c (dX 1 b a h λe=>gP C (fU e [j]) h λf l=>oP (om f (some k)) λg=>oP (eo .add 3 a nO) λi=>d [j,g,b,c,i] l) (Q k h)
theorem BD{C Q}(I)(s:S5 I (tQ C Q)){k l h}(i:I k l h)(e:l.length=5:=by rfl):uW C Q l h:=JV.l5 I _ s i e
def xL(C:fk)(Q:fo)(a0:V)(h:Hp):Prop:=oP (ij a0) λg=>oP (fH 0 g) λi=>oP (gy 5 i h) λb=>cP C yv [b] h λc j=>oP (ij a0) λd=>oP (fH 5 d) λe=>fi (gG 1 e c j) λm k=>cP C xN [] k λa l=>oP (fy a) λf=>uW C Q [a0,bF,a,f,nZ] l
theorem EU{C}(s:C.start=fV){a0 h Q}(k:C.K mR [a0] h=none)(H:xL C Q a0 h):cP C mR [a0] h Q:=cP.vd t14 s (by unfold P0;exact Tryd.func14) k H
def t40:List (Nat×List Nat):=[]
def GI(C:fk)(Q:fo)(h:Hp):Prop:=im (ji 81 1 4 V.nilFunc [(0,(V.func iR [] [])),(1,(V.func jn [] [])),(2,(V.func iP [] [])),(3,(V.func jm [] []))]) h λa b=>Q a b
theorem NG{C}(s:C.start=fV){h Q}(k:C.K xN [] h=none)(H:GI C Q h):cP C xN [] h Q:=cP.vd t40 s (by unfold P0;exact Tryd.func40) k H
def t60:List (Nat×List Nat):=[(87,[0,3,20,21,22]),(22935,[0,3,20,21,22,34,35,36]),(498070,[0,3,20,21,22,34,35,36])]
def tf(C:fk)(Q:fo):LP:=JV C Tryd.f60 t60 43 [0,3,20,21,22] [] Q
def tk(C:fk)(Q:fo)(a:LP):LP:=JV C Tryd.f60 t60 11467 [0,3,20,21,22,34,35,36] [kf [0,3,20,21,22] a] Q
def jj(C:fk)(Q:fo)(a:LP)(b:LP):LP:=JV C Tryd.f60 t60 249035 [0,3,20,21,22,34,35,36] [kf [0,3,20,21,22] a,kf [0,3,20,21,22,34,35,36] b] Q
def tm(C:fk)(Q:fo)(e:LP)(k l b c a:V)(h:Hp):Prop:=bO .lss 3 a c (dX 1 b a h λf=>oP (ij k) λg=>oP (fH 0 g) λi=>dJ 3 i 6 f 0 h λd=>oP (fy d) λj=>tk C Q e [k,l,b,c,a,d,j,nZ] h) (Q l h)
theorem Bi{C Q}(I)(s:S5 I (tm C Q)){k l h}(i:I k l h)(e:l.length=5:=by rfl):tf C Q l h:=JV.l5 I _ s i e
def sS(C:fk)(Q:fo)(b:LP)(k:LP)(j w c d e f g a:V)(h:Hp):Prop:=bO .lss 3 a g (dX 1 f a h λl=>oP (ij j) λx=>oP (fH 0 x) λy=>dF 2 y h λz=>oP (gI 6 z l) λA=>oP (gy 6 A h) λB=>im (zC 38 [nZ,nZ,nZ,nZ,nS,nZ]) h λm h1=>fi (gG 6 m B h1) λvu h2=>oP (gy 6 m h2) λD=>cP C sH [D] h2 λi n=>dF 0 m n λE=>oP (eo .lss 3 E (V.I 3)) λF=>oP (om F (oB (fH 0 m) λG=>oB (ey G n) λH=>eo .gtr 3 H (V.I 14))) λI=>oP (om I (oB (some i) λJ=>oB (fy J) λK=>eo .eql 3 K nZ)) λL=>bP L (jj C Q b k [j,w,c,d,e,f,g,a] n) (dX 1 i nZ n λM=>cP C jd [j,M] n λo h4=>oP (FG 0 o) λN=>oP (FG 1 o) λO=>oP (fy i) λP=>oP (eo .sub 3 P nO) λR=>dX 1 i R h4 λS=>cP C jd [j,S] h4 λp h5=>oP (FG 0 p) λT=>oP (FG 1 p) λU=>dF 0 m h5 λW=>cP C xU [W,N,T] h5 λq X=>oP (FG 0 q) λY=>oP (FG 1 q) λZ=>oP (jz Z (some O)) λaa=>oP (jz aa (some U)) λab=>bP ab (oP (ij j) λac=>oP (fH 0 ac) λae=>dF 2 ae X λr=>oP (DQ .i64 Y) λs=>oP (fR [nZ,nZ,nZ,nZ,nS,nZ] [(0,1),(1,1),(2,1),(3,1),(4,1),(5,1)] [(0,(V.I 2)),(3,s)]) λt=>oP (gI 6 r l) λu=>fi (gG 6 u t X) λag h7=>jj C Q b k [j,bT,c,d,e,f,g,a] h7) (jj C Q b k [j,w,c,d,e,f,g,a] X))) (oP (eo .add 3 e nO) λv=>b [j,w,c,d,v] h)
theorem AV{C Q a}(I)(s:S8 I (sS C Q a)){k l h}(i:I k l h)(e:l.length=8:=by rfl):tk C Q a l h:=JV.l8 I _ s i e
def rD(C:fk)(Q:fo)(j:LP)(b:LP)(k l c d e f g i:V)(h:Hp):Prop:=oP (eo .add 3 i nO) λa=>b [k,l,c,d,e,f,g,a] h
theorem AD{C Q a b}:R8 (rD C Q a b) (jj C Q a b):=JV.r8 _
def wU(C:fk)(Q:fo)(a0:V)(h:Hp):Prop:=oP (ij a0) λb=>oP (fH 0 b) λc=>oP (gy 5 c h) λd=>cP C nz [d] h λa f=>oP (fy a) λe=>tf C Q [a0,bF,a,e,nZ] f
theorem DT{C}(s:C.start=fV){a0 h Q}(k:C.K iR [a0] h=none)(H:wU C Q a0 h):cP C iR [a0] h Q:=cP.vd t60 s (by unfold P0;exact Tryd.func60) k H
def t61:List (Nat×List Nat):=[(87,[0,3,14,15,16]),(1942,[0,3,14,15,16]),(178583,[0,3,4,6,7,14,15,16,25,26,27]),(30,[3]),(3979670,[0,3,4,6,7,14,15,16,25,26,27])]
def vP(C:fk)(Q:fo):LP:=JV C Tryd.f61 t61 43 [0,3,14,15,16] [] Q
def lY(C:fk)(Q:fo)(a:LP):LP:=JV C Tryd.f61 t61 971 [0,3,14,15,16] [kf [0,3,14,15,16] a] Q
def vm(C:fk)(Q:fo)(a:LP):LP:=JV C Tryd.f61 t61 89291 [0,3,4,6,7,14,15,16,25,26,27] [kf [0,3,14,15,16] a] Q
def ou(C:fk)(Q:fo):LP:=JV C Tryd.f61 t61 15 [3] [] Q
def lH(C:fk)(Q:fo)(a:LP)(b:LP):LP:=JV C Tryd.f61 t61 1989835 [0,3,4,6,7,14,15,16,25,26,27] [kf [0,3,14,15,16] a,kf [0,3,4,6,7,14,15,16,25,26,27] b] Q
def vL(C:fk)(Q:fo)(d:LP)(n g b c a:V)(h:Hp):Prop:=bO .lss 3 a c (oP (gI 6 b a) λi=>oP (gy 6 i h) λj=>im (zC 38 [nZ,nZ,nZ,nZ,nS,nZ]) h λk o=>fi (gG 6 k j o) λp f=>dF 0 k f λl=>bO .neq 3 l (V.I 21) (lY C Q d [n,g,b,c,a] f) (dF 4 k f λe=>oP (fy e) λm=>vm C Q d [n,g,a,(V.I (-1)),bF,b,c,a,e,m,nZ] f)) (ou C Q [g] h)
theorem CY{C Q}(I)(s:S5 I (vL C Q)){k l h}(i:I k l h)(e:l.length=5:=by rfl):vP C Q l h:=JV.l5 I _ s i e
def vx(C:fk)(Q:fo)(a:LP)(f g b c d:V)(h:Hp):Prop:=oP (eo .add 3 d nO) λe=>a [f,g,b,c,e] h
theorem C8{C Q a}:R5 (vx C Q a) (lY C Q a):=JV.r5 _
def vH(C:fk)(Q:fo)(b:LP)(j:LP)(l n m k o c d e f g a:V)(h:Hp):Prop:=bO .lss 3 a g (dX 1 f a h λi=>oP (eo .neq 3 i m) λp=>oP (jz p (oB (some i) λq=>oB (some k) λr=>eo .neq 3 q r)) λs=>bP s (oP (om o (oB (some k) λt=>eo .geq 3 t nZ)) λu=>lH C Q b j [l,n,m,i,u,c,d,e,f,g,a] h) (lH C Q b j [l,n,m,k,o,c,d,e,f,g,a] h)) (oP (eo .geq 3 k nZ) λv=>oP (jz v (oB (some o) λw=>oD .not w)) λx=>bP x (dN 5 l h λy=>oP (gI 1 y m) λz=>fi (gG 1 z k h) λB A=>ou C Q [bT] A) (lY C Q b [l,n,c,d,e] h))
theorem CU{C Q a}(I)(s:S11 I (vH C Q a)){k l h}(i:I k l h)(e:l.length=11:=by rfl):vm C Q a l h:=JV.l11 I _ s i e
def ot(C:fk)(Q:fo)(a:V)(h:Hp):Prop:=Q a h
theorem vz{C Q}:R1 (ot C Q) (ou C Q):=JV.r1 _
def uQ(C:fk)(Q:fo)(j:LP)(a:LP)(k l m n o b c d e f g:V)(h:Hp):Prop:=oP (eo .add 3 g nO) λi=>a [k,l,m,n,o,b,c,d,e,f,i] h
theorem BZ{C Q a b}:R11 (uQ C Q a b) (lH C Q a b):=JV.r11 _
def yO(C:fk)(Q:fo)(a0:V)(h:Hp):Prop:=oP (ij a0) λb=>oP (fH 0 b) λc=>dF 2 c h λa=>oP (fy a) λd=>vP C Q [a0,bF,a,d,nZ] h
theorem FQ{C}(s:C.start=fV){a0 h Q}(k:C.K jn [a0] h=none)(H:yO C Q a0 h):cP C jn [a0] h Q:=cP.vd t61 s (by unfold P0;exact Tryd.func61) k H
def t62:List (Nat×List Nat):=[(87,[0,3,12,13,14]),(1942,[0,3,12,13,14])]
def tv(C:fk)(Q:fo):LP:=JV C Tryd.f62 t62 43 [0,3,12,13,14] [] Q
def jr(C:fk)(Q:fo)(a:LP):LP:=JV C Tryd.f62 t62 971 [0,3,12,13,14] [kf [0,3,12,13,14] a] Q
def sU(C:fk)(Q:fo)(d:LP)(e i b c a:V)(h:Hp):Prop:=bO .lss 3 a c (oP (gI 6 b a) λj=>oP (gy 6 j h) λk=>im (zC 38 [nZ,nZ,nZ,nZ,nS,nZ]) h λl w=>fi (gG 6 l k w) λy g=>dF 0 l g λm=>bO .neq 3 m (V.I 22) (jr C Q d [e,i,b,c,a] g) (dF 1 l g λn=>cP C jd [e,n] g λf o=>oP (FG 0 f) λp=>oP (FG 1 f) λq=>oP (jz q (oB (some p) λr=>eo .neq 34 r (V.int .u64 0))) λs=>bP s (dN 5 e o λt=>oP (gI 1 t a) λu=>fi (gG 1 u (V.I (-1)) o) λv x=>jr C Q d [e,bT,b,c,a] x) (jr C Q d [e,i,b,c,a] o))) (Q i h)
theorem A7{C Q}(I)(s:S5 I (sU C Q)){k l h}(i:I k l h)(e:l.length=5:=by rfl):tv C Q l h:=JV.l5 I _ s i e
def tE(C:fk)(Q:fo)(a:LP)(f g b c d:V)(h:Hp):Prop:=oP (eo .add 3 d nO) λe=>a [f,g,b,c,e] h
theorem Bs{C Q a}:R5 (tE C Q a) (jr C Q a):=JV.r5 _
def wS(C:fk)(Q:fo)(a0:V)(h:Hp):Prop:=oP (ij a0) λd=>oP (fH 0 d) λb=>dF 2 b h λa=>oP (fy a) λc=>tv C Q [a0,bF,a,c,nZ] h
theorem Dj{C}(s:C.start=fV){a0 h Q}(k:C.K iP [a0] h=none)(H:wS C Q a0 h):cP C iP [a0] h Q:=cP.vd t62 s (by unfold P0;exact Tryd.func62) k H
def t63:List (Nat×List Nat):=[(87,[0,3,13,14,15]),(1942,[0,3,13,14,15]),(260502,[0,4,8,13,14,15])]
def vG(C:fk)(Q:fo):LP:=JV C Tryd.f63 t63 43 [0,3,13,14,15] [] Q
def jX(C:fk)(Q:fo)(a:LP):LP:=JV C Tryd.f63 t63 971 [0,3,13,14,15] [kf [0,3,13,14,15] a] Q
def lE(C:fk)(Q:fo)(a:LP):LP:=JV C Tryd.f63 t63 130251 [0,4,8,13,14,15] [kf [0,3,13,14,15] a] Q
def vF(C:fk)(Q:fo)(d:LP)(e k b c a:V)(h:Hp):Prop:=bO .lss 3 a c (oP (gI 6 b a) λl=>oP (gy 6 l h) λm=>im (zC 41 [nS,nZ,nZ,nS,nS,nZ]) h λf t=>fi (gG 6 f m t) λu j=>dF 1 f j λn=>bO .neq 3 n (V.I 2) (jX C Q d [e,k,b,c,a] j) (dF 2 f j λo=>cP C jd [e,o] j λg i=>oP (FG 0 g) λp=>oP (FG 1 g) λq=>bN q (jX C Q d [e,k,b,c,a] i) (dY 3 f 1 nZ i λr=>bO .eql 34 p (V.int .u64 0) (dY 3 f 1 nO i λs=>lE C Q d [e,a,s,b,c,a] i) (lE C Q d [e,a,r,b,c,a] i)))) (Q k h)
theorem CP{C Q}(I)(s:S5 I (vF C Q)){k l h}(i:I k l h)(e:l.length=5:=by rfl):vG C Q l h:=JV.l5 I _ s i e
def vy(C:fk)(Q:fo)(a:LP)(f g b c d:V)(h:Hp):Prop:=oP (eo .add 3 d nO) λe=>a [f,g,b,c,e] h
theorem CM{C Q a}:R5 (vy C Q a) (jX C Q a):=JV.r5 _
def uK(C:fk)(Q:fo)(m:LP)(j n I o p q:V)(h:Hp):Prop:=oP (ij j) λr=>oP (fH 0 r) λs=>oP (fH 3 s) λc=>oP (ey c h) λd=>oP (ij j) λt=>oP (fH 0 t) λu=>oP (fH 3 u) λe=>oP (ey e h) λf=>oP (ij j) λv=>oP (fH 0 v) λw=>oP (fH 3 w) λg=>oP (ey g h) λi=>xR (ji 3 1 1 nZ [(0,I)]) h λa x b=>oP (gI 6 d n) λy=>oP (fH 1 y) λz=>((b.get (h.next)=some a/\O.beq a a=true)/\((ey g b=some i)/\((ey e b=some f)/\((ey c b=some d)/\fi (gG 1 z nO b) λJ k=>(b.next<=k.next/\oP (gI 6 f n) λA=>oP (fH 2 A) λB=>((k.get (h.next)=some a/\O.beq a a=true)/\fi (gG 1 B nZ k) λF l=>(k.next<=l.next/\oP (gI 6 i n) λD=>oP (fH 3 D) λE=>((l.get (h.next)=some a/\O.beq a a=true)/\fi (gG 1 E x l) λG H=>(l.next<=H.next/\jX C Q m [j,bT,o,p,q] H)))))))))
theorem Cf{C Q a}:R6 (uK C Q a) (lE C Q a):=JV.r6 _
def yQ(C:fk)(Q:fo)(a0:V)(h:Hp):Prop:=oP (ij a0) λb=>oP (fH 0 b) λc=>dF 3 c h λa=>oP (fy a) λd=>vG C Q [a0,bF,a,d,nZ] h
theorem FY{C}(s:C.start=fV){a0 h Q}(k:C.K jm [a0] h=none)(H:yQ C Q a0 h):cP C jm [a0] h Q:=cP.vd t63 s (by unfold P0;exact Tryd.func63) k H
def t75:List (Nat×List Nat):=[]
def xx(C:fk)(Q:fo)(a0 a1:V)(h:Hp):Prop:=oP (ij a0) λk=>oP (fH 0 k) λl=>dF 2 l h λa=>oP (gI 6 a a1) λb=>oP (gy 6 b h) λc=>im (zC 38 [nZ,nZ,nZ,nZ,nS,nZ]) h λd m=>fi (gG 6 d c m) λn e=>dF 3 d e λf=>oP (DQ .u64 f) λg=>dF 0 d e λi=>oP (eo .eql 3 i (V.I 2)) λj=>Q (V.tuple [g,j]) e
theorem ES{C}(s:C.start=fV){a0 a1 h Q}(k:C.K jd [a0,a1] h=none)(H:xx C Q a0 a1 h):cP C jd [a0,a1] h Q:=cP.vd t75 s (by unfold P0;exact Tryd.func75) k H
def t22:List (Nat×List Nat):=[]
def Hw(C:fk)(Q:fo)(a0 a1 a2:V)(h:Hp):Prop:=oP (eo .lss 3 a0 (V.I 3)) λd=>oP (om d (oB (some a0) λa=>eo .gtr 3 a (V.I 14))) λb=>bP b (Q (V.tuple [(V.int .u64 0),bF]) h) (cP C B9 [a0,a1,a2] h λc e=>Q (V.tuple [c,bT]) e)
theorem Ni{C}(s:C.start=fV){a0 a1 a2 h Q}(k:C.K xU [a0,a1,a2] h=none)(H:Hw C Q a0 a1 a2 h):cP C xU [a0,a1,a2] h Q:=cP.vd t22 s (by unfold P0;exact Tryd.func22) k H
def t43:List (Nat×List Nat):=[(16342,[0,1,2,7,8,13,29])]
def uf(C:fk)(Q:fo):LP:=JV C Tryd.f43 t43 8171 [0,1,2,7,8,13,29] [] Q
def DD(C:fk)(Q:fo)(v b c d e a f:V)(h:Hp):Prop:=bP f (cP C wj [v,d,e] h λg w=>Q g w) (bO .eql 3 a (V.I 8) (oP (oD .neg b) λi=>Q i h) (bO .eql 3 a (V.I 9) (oP (eo .eql 34 b (V.int .u64 0)) λj=>cP C nM [j] h λk x=>Q k x) (bO .eql 3 a (V.I 10) (oP (eo .eql 34 b c) λl=>cP C nM [l] h λm y=>Q m y) (bO .eql 3 a (V.I 11) (oP (eo .neq 34 b c) λn=>cP C nM [n] h λo z=>Q o z) (bO .eql 3 a (V.I 12) (oP (eo .lss 2 d e) λp=>cP C nM [p] h λq A=>Q q A) (bO .eql 3 a (V.I 13) (oP (eo .leq 2 d e) λr=>cP C nM [r] h λs B=>Q s B) (bO .eql 3 a (V.I 14) (oP (eo .lss 34 b c) λt=>cP C nM [t] h λu D=>Q u D) (Q (V.int .u64 0) h))))))))
theorem Ly{C Q}:R7 (DD C Q) (uf C Q):=JV.r7 _
def Ko(C:fk)(Q:fo)(a0 a1 a2:V)(h:Hp):Prop:=oP (DQ .i64 a1) λa=>oP (DQ .i64 a2) λb=>bO .eql 3 a0 (V.I 3) (oP (eo .add 34 a1 a2) λd=>Q d h) (bO .eql 3 a0 (V.I 4) (oP (eo .sub 34 a1 a2) λe=>Q e h) (bO .eql 3 a0 (V.I 5) (oP (eo .mul 34 a1 a2) λf=>Q f h) (oP (eo .eql 3 a0 (V.I 6)) λc=>bP c (uf C Q [a0,a1,a2,a,b,a0,c] h) (oP (eo .eql 3 a0 (V.I 7)) λg=>uf C Q [a0,a1,a2,a,b,a0,g] h))))
theorem QQ{C}(s:C.start=fV){a0 a1 a2 h Q}(k:C.K B9 [a0,a1,a2] h=none)(H:Ko C Q a0 a1 a2 h):cP C B9 [a0,a1,a2] h Q:=cP.vd t43 s (by unfold P0;exact Tryd.func43) k H
def t69:List (Nat×List Nat):=[(14,[0,1,2])]
def p6(C:fk)(Q:fo):LP:=JV C Tryd.f69 t69 7 [0,1,2] [] Q
def Bo(C:fk)(Q:fo)(g f a:V)(h:Hp):Prop:=bO .eql 2 a nZ (Q (V.int .u64 0) h) (bO .eql 3 g (V.I 6) (oP (eo .quo 2 f a) λb=>oP (DQ .u64 b) λc=>Q c h) (oP (eo .rem 2 f a) λd=>oP (DQ .u64 d) λe=>Q e h))
theorem ID{C Q}:R3 (Bo C Q) (p6 C Q):=JV.r3 _
def Fs(C:fk)(Q:fo)(a0 a1 a2:V)(h:Hp):Prop:=oP (eo .eql 2 a1 (V.I (-9223372036854775808))) λc=>oP (jz c (oB (some a2) λa=>eo .eql 2 a (V.I (-1)))) λb=>bP b (p6 C Q [a0,a1,nO] h) (p6 C Q [a0,a1,a2] h)
theorem LW{C}(s:C.start=fV){a0 a1 a2 h Q}(k:C.K wj [a0,a1,a2] h=none)(H:Fs C Q a0 a1 a2 h):cP C wj [a0,a1,a2] h Q:=cP.vd t69 s (by unfold P0;exact Tryd.func69) k H
def t70:List (Nat×List Nat):=[]
def K3(C:fk)(Q:fo)(a0:V)(h:Hp):Prop:=bP a0 (Q (V.int .u64 1) h) (Q (V.int .u64 0) h)
theorem QH{C}(s:C.start=fV){a0 h Q}(k:C.K nM [a0] h=none)(H:K3 C Q a0 h):cP C nM [a0] h Q:=cP.vd t70 s (by unfold P0;exact Tryd.func70) k H
end
