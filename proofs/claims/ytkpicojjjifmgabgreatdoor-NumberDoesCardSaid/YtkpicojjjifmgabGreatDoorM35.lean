/- Parts. -/
import Derived.Test.YtkpicojjjifmgabGreatDoorM14
set_option maxHeartbeats 4000000
namespace Go.Proofs.YtkpicojjjifmgabGreatDoor.Hx
set_option maxRecDepth 100000
noncomputable section
def t40:List (Nat×List Nat):=[(383,[1,2,3,4,5,10,11,12,13,14,15]),(40063,[1,2,3,4,5,10,11,12,13,14,15,16,17,18]),(4004990,[1,2,3,4,5,10,11,12,13,14,15,16,17,18,20]),(183311487,[1,2,3,4,5,10,11,12,13,14,15,16,17,18,19,20,21]),(31870,[1,2,3,4,5,10,11,12,13,14,16,17,18]),(179327,[1,2,3,4,5,10,11,12,13,14,16,17,18,22]),(162943,[1,2,3,4,5,10,11,12,13,14,16,18]),(1866878,[1,2,3,4,5,10,11,12,13,14,16,18]),(140737419443326,[1,2,3,4,5,10,11,12,13,14,16,18,23,24,298])]
def wq(C:fu)(Q:fD):LP:=JV C Tryz.f40 t40 191 [1,2,3,4,5,10,11,12,13,14,15] [] Q
def pJ(C:fu)(Q:fD)(fU:LP):LP:=JV C Tryz.f40 t40 20031 [1,2,3,4,5,10,11,12,13,14,15,16,17,18] [kf [1,2,3,4,5,10,11,12,13,14,15] fU] Q
def jr(C:fu)(Q:fD)(fU:LP)(a:LP):LP:=JV C Tryz.f40 t40 2002495 [1,2,3,4,5,10,11,12,13,14,15,16,17,18,20] [kf [1,2,3,4,5,10,11,12,13,14,15] fU,kf [1,2,3,4,5,10,11,12,13,14,15,16,17,18] a] Q
def wT(C:fu)(Q:fD)(fU:LP)(a:LP):LP:=JV C Tryz.f40 t40 91655743 [1,2,3,4,5,10,11,12,13,14,15,16,17,18,19,20,21] [kf [1,2,3,4,5,10,11,12,13,14,15] fU,kf [1,2,3,4,5,10,11,12,13,14,15,16,17,18] a] Q
def jD(C:fu)(Q:fD)(fU:LP):LP:=JV C Tryz.f40 t40 15935 [1,2,3,4,5,10,11,12,13,14,16,17,18] [kf [1,2,3,4,5,10,11,12,13,14,15] fU] Q
def wh(C:fu)(Q:fD)(fU:LP):LP:=JV C Tryz.f40 t40 89663 [1,2,3,4,5,10,11,12,13,14,16,17,18,22] [kf [1,2,3,4,5,10,11,12,13,14,15] fU] Q
def mC(C:fu)(Q:fD)(fU:LP):LP:=JV C Tryz.f40 t40 81471 [1,2,3,4,5,10,11,12,13,14,16,18] [kf [1,2,3,4,5,10,11,12,13,14,15] fU] Q
def gi(C:fu)(Q:fD)(fU:LP)(a:LP):LP:=JV C Tryz.f40 t40 933439 [1,2,3,4,5,10,11,12,13,14,16,18] [kf [1,2,3,4,5,10,11,12,13,14,15] fU,kf [1,2,3,4,5,10,11,12,13,14,16,18] a] Q
def me(C:fu)(Q:fD)(fU:LP)(a:LP):LP:=JV C Tryz.f40 t40 70368709721663 [1,2,3,4,5,10,11,12,13,14,16,18,23,24,298] [kf [1,2,3,4,5,10,11,12,13,14,15] fU,kf [1,2,3,4,5,10,11,12,13,14,16,18] a] Q
def vI(C:fu)(Q:fD)(fU:LP)(m n o p l c d e f a g:V)(h:Hp):Prop:=dF 3 l h λi=>oP (gB 6 i a) λj=>oP (fW 6 j h) λk=>hV (zC 45 [nS,nZ,nZ,nS,nS,nZ]) h λb q=>fm (gJ 6 b k q) λs r=>pJ C Q fU [m,n,o,p,l,c,d,e,f,a,g,b,nS,nZ] r
theorem Ek{C Q}(I)(s:S11 I (vI C Q)){k l h}(i:I k l h)(e:l.length=11:=by rfl):wq C Q l h:=JV.l11 I _ s i e
def wM(C:fu)(Q:fD)(fU:LP)(l:LP)(q m r s p d e f g i n a j b:V)(h:Hp):Prop:=dG 0 a h λB=>bO .lss 3 b B (oP (fJ 2 p) λt=>oP (fe t h) λu=>oP (fJ 0 a) λv=>oP (fe v h) λw=>oP (gB 1 w b) λx=>oP (fe x h) λy=>oP (gB 6 u y) λz=>oP (fW 6 z h) λA=>yp (zC 34 [nZ,nZ,nZ,nZ,nS,nZ]) h λD c o=>((o.get (h.next)=some D/\O.beq D D=true)/\((fW 6 z o=some A)/\((fe x o=some y)/\((fe v o=some w)/\((fe t o=some u)/\fm (gJ 6 c A o) λK k=>(o.next<=k.next/\dF 0 c k λE=>bO .eql 3 E nO (dF 3 c k λF=>oP (fI m) λG=>bO .lss 3 F G (dF 3 c k λH=>dX 1 m H k λI=>jr C Q fU l [q,m,r,s,p,d,e,f,g,i,n,a,j,b,I] k) (jr C Q fU l [q,m,r,s,p,d,e,f,g,i,n,a,j,b,(V.int .u64 0)] k)) (dF 0 c k λJ=>bO .eql 3 J (V.I 21) (wT C Q fU l [q,m,r,s,p,d,e,f,g,i,n,a,j,b,c,(V.int .u64 0),nZ] k) (jD C Q fU [q,m,r,s,p,d,e,f,g,i,a,j,b] k))))))))) (jD C Q fU [q,m,r,s,p,d,e,f,g,i,a,j,b] h)
theorem Ep{C Q fU}(I)(s:S14 I (wM C Q fU)){k l h}(i:I k l h)(e:l.length=14:=by rfl):pJ C Q fU l h:=JV.l14 I _ s i e
def uN(C:fu)(Q:fD)(fU:LP)(a:LP)(p q r s t b c d e f g i j k l:V)(h:Hp):Prop:=hV (jz 89 1 1 (V.int .u64 0) [(0,l)]) h λm u=>fm (fh 89 1 8 j m u) λn v=>oP (ez .add 3 k nO) λo=>a [p,q,r,s,t,b,c,d,e,f,g,i,n,o] v
theorem C9{C Q fU a}:R15 (uN C Q fU a) (jr C Q fU a):=JV.r15 _
def we(C:fu)(Q:fD)(fU:LP)(l:LP)(o:LP)(p q r s t e b f g i c a j k m n d:V)(h:Hp):Prop:=dG 4 a h λu=>bO .lss 3 d u (dY 4 a 1 d h λv=>bO .eql 3 v c (dY 4 m 1 d h λw=>dX 1 b w h λx=>jr C Q fU l [p,q,r,s,t,e,b,f,g,i,c,a,j,k,x] h) (oP (ez .add 3 d nO) λy=>o [p,q,r,s,t,e,b,f,g,i,c,a,j,k,m,n,y] h)) (jr C Q fU l [p,q,r,s,t,e,b,f,g,i,c,a,j,k,n] h)
theorem Em{C Q fU a}(I)(s:S17 I (we C Q fU a)){k l h}(i:I k l h)(e:l.length=17:=by rfl):wT C Q fU a l h:=JV.l17 I _ s i e
def wQ(C:fu)(Q:fD)(fU:LP)(j k l m n a b c d e f g i:V)(h:Hp):Prop:=wh C Q fU [j,k,l,m,n,a,b,c,d,e,f,g,i,nZ] h
theorem DL{C Q fU}:R13 (wQ C Q fU) (jD C Q fU):=JV.r13 _
def wc(C:fu)(Q:fD)(fU:LP)(o:LP)(q r s t u e b f g i c j d a:V)(h:Hp):Prop:=bO .lss 3 a d (dY 0 c 1 a h λk=>dX 1 j a h λl=>oP (gB 1 b k) λm=>fm (gJ 1 m l h) λw v=>(h.next<=v.next/\oP (ez .add 3 f nO) λn=>oP (ez .add 3 a nO) λp=>o [q,r,s,t,u,e,b,n,g,i,c,j,d,p] v)) (mC C Q fU [q,r,s,t,u,e,b,f,g,i,c,d] h)
theorem El{C Q fU}(I)(s:S14 I (wc C Q fU)){k l h}(i:I k l h)(e:l.length=14:=by rfl):wh C Q fU l h:=JV.l14 I _ s i e
def wk(C:fu)(Q:fD)(fU:LP)(m:LP)(n r p q o b a t j k f l:V)(h:Hp):Prop:=dG 0 f h λB=>bO .lss 3 l B (bO .geq 3 t q (oP (fV [nZ,nZ,nZ,nS,nZ] [(0,1),(1,1),(2,1),(3,1),(4,1)] [(0,nZ),(1,(V.I (-1))),(2,(V.I (-1))),(4,t)]) λD=>fm (gJ 5 b D h) λvu h1=>oP (fW 5 b h1) λZx=>Q Zx h1) (oP (ez .add 3 t nO) λd=>dY 0 f 1 l h λi=>dF 2 o h λE=>oP (gB 6 E i) λF=>oP (fW 6 F h) λG=>hV (zC 34 [nZ,nZ,nZ,nZ,nS,nZ]) h λe h2=>fm (gJ 6 e G h2) λbj c=>dF 0 e c λg=>bO .eql 3 g (V.I 2) (dF 3 e c λH=>oP (ur .u64 H) λI=>oP (gB 1 a i) λJ=>fm (gJ 1 J I c) λbm h4=>gi C Q fU m [n,r,p,q,o,b,a,d,j,k,f,l] h4) (bO .eql 3 g (V.I 15) (dF 1 e c λK=>dX 1 a K c λL=>cP C lH [n,L] c λM h5=>oP (ur .u64 M) λN=>oP (gB 1 a i) λO=>fm (gJ 1 O N h5) λbo h6=>gi C Q fU m [n,r,p,q,o,b,a,d,j,k,f,l] h6) (bO .eql 3 g (V.I 16) (dF 1 e c λP=>dX 1 a P c λR=>cP C j9 [n,R] c λS h7=>oP (ur .u64 S) λT=>oP (gB 1 a i) λU=>fm (gJ 1 U T h7) λbr h8=>gi C Q fU m [n,r,p,q,o,b,a,d,j,k,f,l] h8) (bO .eql 3 g (V.I 17) (dF 1 e c λW=>dX 1 a W c λX=>dF 3 e c λY=>oP (ur .u64 Y) λZ=>oP (ez .add 89 X Z) λaa=>cP C iP [n,aa] c λab h9=>(c.next<=h9.next/\oP (gB 1 a i) λac=>fm (gJ 1 ac ab h9) λbt ae=>(h9.next<=ae.next/\gi C Q fU m [n,r,p,q,o,b,a,d,j,k,f,l] ae))) (bO .eql 3 g (V.I 18) (dF 1 e c λag=>dX 1 a ag c λah=>oP (ez .add 89 ah (V.int .u64 1)) λai=>dF 2 e c λaj=>dX 1 a aj c λak=>oP (ez .add 89 ai ak) λal=>cP C iP [n,al] c λam w=>(c.next<=w.next/\oP (gB 1 a i) λan=>fm (gJ 1 an am w) λbu ao=>(w.next<=ao.next/\gi C Q fU m [n,r,p,q,o,b,a,d,j,k,f,l] ao))) (bO .eql 3 g (V.I 19) (dF 1 e c λap=>dX 1 a ap c λaq=>dF 3 e c λar=>oP (ur .u64 ar) λau=>oP (ez .add 89 aq au) λaw=>dF 2 e c λax=>dX 1 a ax c λay=>cP C js [n,aw,ay] c λbw aA=>(c.next<=aA.next/\gi C Q fU m [n,r,p,q,o,b,a,d,j,k,f,l] aA)) (bO .eql 3 g (V.I 20) (dF 1 e c λaB=>dX 1 a aB c λaC=>oP (ez .add 89 aC (V.int .u64 1)) λaD=>dF 2 e c λaE=>dX 1 a aE c λaF=>oP (ez .add 89 aD aF) λaG=>dY 4 e 1 nZ c λaH=>dX 1 a aH c λaI=>cP C js [n,aG,aI] c λbx aJ=>(c.next<=aJ.next/\gi C Q fU m [n,r,p,q,o,b,a,d,j,k,f,l] aJ)) (bO .eql 3 g (V.I 22) (dF 1 e c λaK=>dX 1 a aK c λaL=>bO .eql 89 aL (V.int .u64 0) (oP (fW 5 o c) λaM=>dF 5 e c λaN=>cP C jm [aM,a,aN,i,d] c λaO bf=>fm (gJ 5 b aO bf) λbz aP=>oP (fW 5 b aP) λx=>Q x aP) (gi C Q fU m [n,r,p,q,o,b,a,d,j,k,f,l] c)) (bO .eql 3 g (V.I 23) (oP (ez .geq 3 p nZ) λaQ=>oP (kE aQ (oB (some j) λaR=>oB (some p) λaS=>ez .eql 3 aR aS)) λaT=>bP aT (oP (fW 5 o c) λaU=>dF 5 e c λaV=>cP C jm [aU,a,aV,i,d] c λaW bg=>fm (gJ 5 b aW bg) λbA aX=>oP (fW 5 b aX) λy=>Q y aX) (oP (ez .add 3 j nO) λaY=>gi C Q fU m [n,r,p,q,o,b,a,d,aY,k,f,l] c)) (oP (ez .eql 3 g (V.I 8)) λu=>bP u (me C Q fU m [n,r,p,q,o,b,a,d,j,k,f,l,i,e,u] c) (oP (ez .eql 3 g (V.I 9)) λaZ=>me C Q fU m [n,r,p,q,o,b,a,d,j,k,f,l,i,e,aZ] c)))))))))))) (bO .geq 3 t q (oP (fV [nZ,nZ,nZ,nS,nZ] [(0,1),(1,1),(2,1),(3,1),(4,1)] [(0,nZ),(1,(V.I (-1))),(2,(V.I (-1))),(4,t)]) λa4=>fm (gJ 5 b a4 h) λbC a5=>oP (fW 5 b a5) λz=>Q z a5) (oP (ez .add 3 t nO) λs=>dF 1 f h λv=>bO .eql 3 v nO (dY 3 f 1 nZ h λa6=>fU [n,r,p,q,o,b,a,s,j,a6,k] h) (bO .eql 3 v (V.I 2) (dF 2 f h λa7=>dX 1 a a7 h λa8=>bO .neq 89 a8 (V.int .u64 0) (dY 3 f 1 nZ h λa9=>fU [n,r,p,q,o,b,a,s,j,a9,k] h) (dY 3 f 1 nO h λba=>fU [n,r,p,q,o,b,a,s,j,ba,k] h)) (oP (fW 5 o h) λbb=>dF 5 f h λbc=>cP C jm [bb,a,bc,(V.I (-1)),s] h λbd bh=>fm (gJ 5 b bd bh) λbi be=>oP (fW 5 b be) λA=>Q A be))))
theorem DN{C Q fU}(I)(s:S12 I (wk C Q fU)){k l h}(i:I k l h)(e:l.length=12:=by rfl):mC C Q fU l h:=JV.l12 I _ s i e
def uK(C:fu)(Q:fD)(fU:LP)(b:LP)(k l m n o c d e f g i j:V)(h:Hp):Prop:=oP (ez .add 3 j nO) λa=>b [k,l,m,n,o,c,d,e,f,g,i,a] h
theorem CQ{C Q fU a}:R12 (uK C Q fU a) (gi C Q fU a):=JV.r12 _
def uI(C:fu)(Q:fD)(fU:LP)(e:LP)(D E F G H f a g i j k l m b n:V)(h:Hp):Prop:=bP n (dF 0 b h λo=>dF 1 b h λp=>dX 1 a p h λq=>cP C kV [o,q,(V.int .u64 0)] h λc A=>(h.next<=A.next/\oP (CN 0 c) λr=>oP (CN 1 c) λI=>oP (gB 1 a m) λs=>fm (gJ 1 s r A) λN J=>(A.next<=J.next/\gi C Q fU e [D,E,F,G,H,f,a,g,i,j,k,l] J))) (dF 0 b h λt=>dF 1 b h λu=>dX 1 a u h λv=>dF 2 b h λw=>dX 1 a w h λx=>cP C kV [t,v,x] h λd B=>(h.next<=B.next/\oP (CN 0 d) λy=>oP (CN 1 d) λK=>oP (gB 1 a m) λz=>fm (gJ 1 z y B) λL M=>(B.next<=M.next/\gi C Q fU e [D,E,F,G,H,f,a,g,i,j,k,l] M)))
theorem Dh{C Q fU a}:R15 (uI C Q fU a) (me C Q fU a):=JV.r15 _
def zq(C:fu)(Q:fD)(a0 a1 a2 a3 f:V)(h:Hp):Prop:=hV (lR 30 a0) h λd g=>hV (zC 82 [nZ,nZ,nZ,nS,nZ]) g λb e=>dG 2 d e λa=>hV (iz 89 1 8 (V.int .u64 0) a a) e λc i=>wq C Q [a1,a2,a3,f,d,b,c,nZ,nZ,nZ,(V.I (-1))] i
theorem G4{C}(s:C.start=fQ){a0 a1 a2 a3 a h Q}(k:C.K jN [a0,a1,a2,a3,a] h=none)(H:zq C Q a0 a1 a2 a3 a h):cP C jN [a0,a1,a2,a3,a] h Q:=cP.vd t40 s (by unfold P0;exact Tryz.func40) k H
def t74:List (Nat×List Nat):=[]
def xu(C:fu)(Q:fD)(a0 a1 a2:V)(h:Hp):Prop:=oP (ur .i64 a1) λb=>oP (ur .i64 a2) λa=>bO .eql 3 a0 (V.I 3) (oP (ez .add 89 a1 a2) λc=>Q (V.tuple [c,bT]) h) (bO .eql 3 a0 (V.I 4) (oP (ez .sub 89 a1 a2) λd=>Q (V.tuple [d,bT]) h) (bO .eql 3 a0 (V.I 5) (oP (ez .mul 89 a1 a2) λe=>Q (V.tuple [e,bT]) h) (bO .eql 3 a0 (V.I 6) (bO .eql 2 a nZ (Q (V.tuple [(V.int .u64 0),bT]) h) (bO .eql 2 a (V.I (-1)) (oP (qf .neg a1) λf=>Q (V.tuple [f,bT]) h) (oP (ez .quo 2 b a) λg=>oP (ur .u64 g) λi=>Q (V.tuple [i,bT]) h))) (bO .eql 3 a0 (V.I 7) (oP (ez .eql 2 a nZ) λj=>oP (og j (oB (some a) λk=>ez .eql 2 k (V.I (-1)))) λl=>bP l (Q (V.tuple [(V.int .u64 0),bT]) h) (oP (ez .rem 2 b a) λm=>oP (ur .u64 m) λn=>Q (V.tuple [n,bT]) h)) (bO .eql 3 a0 (V.I 8) (oP (qf .neg a1) λo=>Q (V.tuple [o,bT]) h) (bO .eql 3 a0 (V.I 9) (oP (ez .eql 89 a1 (V.int .u64 0)) λp=>cP C iG [p] h λq B=>Q (V.tuple [q,bT]) B) (bO .eql 3 a0 (V.I 10) (oP (ez .eql 89 a1 a2) λr=>cP C iG [r] h λs D=>Q (V.tuple [s,bT]) D) (bO .eql 3 a0 (V.I 11) (oP (ez .neq 89 a1 a2) λt=>cP C iG [t] h λu E=>Q (V.tuple [u,bT]) E) (bO .eql 3 a0 (V.I 12) (oP (ez .lss 2 b a) λv=>cP C iG [v] h λw F=>Q (V.tuple [w,bT]) F) (bO .eql 3 a0 (V.I 13) (oP (ez .leq 2 b a) λx=>cP C iG [x] h λy G=>Q (V.tuple [y,bT]) G) (bO .eql 3 a0 (V.I 14) (oP (ez .lss 89 a1 a2) λz=>cP C iG [z] h λA H=>Q (V.tuple [A,bT]) H) (Q (V.tuple [(V.int .u64 0),bF]) h))))))))))))
theorem Fp{C}(s:C.start=fQ){a0 a1 a2 h Q}(k:C.K kV [a0,a1,a2] h=none)(H:xu C Q a0 a1 a2 h):cP C kV [a0,a1,a2] h Q:=cP.vd t74 s (by unfold P0;exact Tryz.func74) k H
def t91:List (Nat×List Nat):=[]
def yA(C:fu)(Q:fD)(a0:V)(h:Hp):Prop:=bP a0 (Q (V.int .u64 1) h) (Q (V.int .u64 0) h)
theorem F0{C}(s:C.start=fQ){a0 h Q}(k:C.K iG [a0] h=none)(H:yA C Q a0 h):cP C iG [a0] h Q:=cP.vd t91 s (by unfold P0;exact Tryz.func91) k H
def t73:List (Nat×List Nat):=[(87,[1,2,5,10,11,12]),(44183,[1,2,5,10,11,12,13,14,15]),(89239,[1,2,5,10,11,12,13,14,16])]
def sN(C:fu)(Q:fD):LP:=JV C Tryz.f73 t73 43 [1,2,5,10,11,12] [] Q
def tf(C:fu)(Q:fD)(fU:LP):LP:=JV C Tryz.f73 t73 22091 [1,2,5,10,11,12,13,14,15] [kf [1,2,5,10,11,12] fU] Q
def sP(C:fu)(Q:fD)(fU:LP):LP:=JV C Tryz.f73 t73 44619 [1,2,5,10,11,12,13,14,16] [kf [1,2,5,10,11,12] fU] Q
def sZ(C:fu)(Q:fD)(fU:LP)(w f g b d c:V)(h:Hp):Prop:=dF 4 g h λi=>oP (gB 1 i f) λj=>dG 0 j h λk=>bO .lss 3 c k (dJ 4 g 1 f 0 h λl=>oP (gB 4 l c) λm=>oP (fW 4 m h) λn=>hV (zC 49 [nZ,nZ,nS,nS]) h λa x=>fm (gJ 4 a n x) λA o=>dF 0 a o λp=>dF 1 a o λq=>oP (fV [nZ,nZ,nS,nS] [(0,1),(1,1),(2,1),(3,1)] [(0,p),(1,q)]) λr=>hV (zC 122 [nZ,nZ,nS,nS]) o λe y=>fm (gJ 4 e r y) λt z=>tf C Q fU [w,f,g,b,d,c,a,e,nZ] z) (oP (fW 5 d h) λs=>fm (gJ 5 b s h) λu v=>oP (fW 5 b v) λZx=>Q Zx v)
theorem BD{C Q}(I)(s:S6 I (sZ C Q)){k l h}(i:I k l h)(e:l.length=6:=by rfl):sN C Q l h:=JV.l6 I _ s i e
def sX(C:fu)(Q:fD)(fU:LP)(r:LP)(s z A f g i a b c:V)(h:Hp):Prop:=dG 2 a h λt=>bO .lss 3 c t (oP (fJ 2 b) λj=>oP (fe j h) λk=>oP (fJ 2 a) λl=>oP (fe l h) λm=>oP (gB 1 m c) λn=>oP (fe n h) λo=>oP (gB 1 s o) λp=>oP (fe p h) λq=>yp (jz 89 1 1 (V.int .u64 0) [(0,q)]) h λd u e=>((e.get (h.next)=some d/\O.beq d d=true)/\((fe p e=some q)/\((fe n e=some o)/\((fe l e=some m)/\((fe j e=some k)/\fm (fh 89 1 8 k u e) λv w=>(e.next<=w.next/\oP (fJ 2 b) λx=>fm (gJ 1 x v w) λD B=>(w.next<=B.next/\oP (ez .add 3 c nO) λy=>r [s,z,A,f,g,i,a,b,y] B)))))))) (sP C Q fU [s,z,A,f,g,i,a,b,nZ] h)
theorem BT{C Q fU}(I)(s:S9 I (sX C Q fU)){k l h}(i:I k l h)(e:l.length=9:=by rfl):tf C Q fU l h:=JV.l9 I _ s i e
def tv(C:fu)(Q:fD)(fU:LP)(r:LP)(s G H g a i c b d:V)(h:Hp):Prop:=dG 3 c h λt=>bO .lss 3 d t (oP (fJ 3 b) λj=>oP (fe j h) λk=>oP (fJ 3 c) λl=>oP (fe l h) λm=>oP (gB 1 m d) λn=>oP (fe n h) λo=>oP (gB 1 s o) λp=>oP (fe p h) λq=>yp (jz 89 1 1 (V.int .u64 0) [(0,q)]) h λe u f=>((f.get (h.next)=some e/\O.beq e e=true)/\((fe p f=some q)/\((fe n f=some o)/\((fe l f=some m)/\((fe j f=some k)/\fm (fh 89 1 8 k u f) λv w=>(f.next<=w.next/\oP (fJ 3 b) λx=>fm (gJ 1 x v w) λN I=>(w.next<=I.next/\oP (ez .add 3 d nO) λy=>r [s,G,H,g,a,i,c,b,y] I)))))))) (dF 3 a h λz=>oP (fW 4 b h) λA=>hV (jz 122 4 1 (V.agg [nZ,nZ,nS,nS]) [(0,A)]) h λB K=>fm (fh 122 4 64 z B K) λD L=>oP (fJ 3 a) λE=>fm (gJ 1 E D L) λJ M=>oP (ez .add 3 i nO) λF=>fU [s,G,H,g,a,F] M)
theorem BQ{C Q fU}(I)(s:S9 I (tv C Q fU)){k l h}(i:I k l h)(e:l.length=9:=by rfl):sP C Q fU l h:=JV.l9 I _ s i e
def xZ(C:fu)(Q:fD)(a0 a1 a2 a3 d:V)(h:Hp):Prop:=hV (lR 30 a0) h λe f=>hV (zC 82 [nZ,nZ,nZ,nS,nZ]) f λb g=>oP (fV [nZ,nZ,nZ,nS,nZ] [(0,1),(1,1),(2,1),(3,1),(4,1)] [(0,nO),(1,a2),(2,a3),(4,d)]) λc=>hV (zC 82 [nZ,nZ,nZ,nS,nZ]) g λa i=>fm (gJ 5 a c i) λk j=>sN C Q [a1,a2,e,b,a,nZ] j
theorem Fb{C}(s:C.start=fQ){a0 a1 a2 a3 a h Q}(k:C.K jm [a0,a1,a2,a3,a] h=none)(H:xZ C Q a0 a1 a2 a3 a h):cP C jm [a0,a1,a2,a3,a] h Q:=cP.vd t73 s (by unfold P0;exact Tryz.func73) k H
section
variable (C:fu)(Q:X->gO->Hp->Prop)(ρ:gO)(h:Hp)
def RK:=K4 Tryz.f11
def zby:=RK.r
def zbX:=RK.r.r
def zcb:=RK.r.r.r
def zbD:=RK.r.r.r.r
def zbS:=RK.r.r.r.r.l.r
def zb5:=RK.r.r.r.r.r
def zeT:=andThen (Wp C 64 zb5 Q) Q
def zbu:=RK.r.r.r.r.l.r.l.r
def zbz:=RK.r.r.r.r.r.r
def zbw:=RK.r.r.r.r.r.r.r
theorem Wh:j4 C 64 RK Q ρ h=(hV (lR 30 (ρ 0)) h λb c=>
 hV (lR 30 (ρ 1)) c λd e=>
 oP (some (V.bool false)) λa=>
 Wp C 64 zby Q (fx (fx (fx ρ 6 b) 7 d) 12 a) e):=by kernel_rfl
theorem zem:j4 C 64 zby Q ρ h=(oP (some (ρ 2)) λa=>
 dcP C iR [a] h λb d=>
 oP (some b) λc=>
 Wp C 64 zbX Q (fx (fx (fx ρ 17 a) 18 b) 13 c) d):=by kernel_rfl
theorem zel:j4 C 64 zbX Q ρ h=(oP (some (ρ 2)) λa=>
 dcP C iR [a] h λb d=>
 oP (some b) λc=>
 Wp C 64 zcb Q (fx (fx (fx ρ 19 a) 20 b) 14 c) d):=by kernel_rfl
theorem zen:j4 C 64 zcb Q ρ h=(oP (fW 5 (ρ 6) h) λa=>
 oP (some (ρ 13)) λb=>
 oP (some (ρ 3)) λc=>
 oP (some (ρ 4)) λd=>
 oP (some (ρ 5)) λe=>
 dcP C jN [a,b,c,d,e] h λf i=>
 hV (some (.cells 82 1 true false [(V.I 0),(V.I 0),(V.I 0),V.ei,(V.I 0)],λl=> .ptr l 0)) i λg j=>
 fm (gJ 5 g f j) λm k=>
 Wp C 64 zbD Q (fx (fx (fx (fx (fx (fx (fx ρ 21 a) 22 b) 23 c) 24 d) 25 e) 26 f) 15 g) k):=by kernel_rfl
theorem zeC:j4 C 64 zbD Q ρ h=(oP (fJ 0 (ρ 15)) λa=>
 oP (fe a h) λb=>
 oP (ez .neq 3 b (V.I 1)) λc=>
 Wp C 64 zbS (zeT C Q) (fx (fx (fx ρ 27 a) 28 b) 29 c) h):=by kernel_rfl
theorem zeZ:j4 C 64 zb5 Q ρ h=(oP (fW 5 (ρ 7) h) λa=>
 oP (some (ρ 14)) λb=>
 oP (some (ρ 3)) λc=>
 oP (some (ρ 4)) λd=>
 oP (some (ρ 5)) λe=>
 dcP C jN [a,b,c,d,e] h λf i=>
 hV (some (.cells 82 1 true false [(V.I 0),(V.I 0),(V.I 0),V.ei,(V.I 0)],λl=> .ptr l 0)) i λg j=>
 fm (gJ 5 g f j) λm k=>
 Wp C 64 zbz Q (fx (fx (fx (fx (fx (fx (fx ρ 30 a) 31 b) 32 c) 33 d) 34 e) 35 f) 16 g) k):=by kernel_rfl
theorem zdU:j4 C 64 zbS Q ρ h=(oP (some (ρ 29)) λc=>
 bP c (
 oP (some (V.bool true)) λa=>
 Wp C 64 zbu Q (fx ρ 12 a) h) (
 Q .normal ρ h)):=by kernel_rfl
theorem zd1:j4 C 64 zbz Q ρ h=(oP (fJ 0 (ρ 16)) λd=>
 oP (fe d h) λe=>
 oP (ez .eql 3 e (V.I 1)) λf=>
 oP (some f) λb=>
 oP (fF true b) λY=>
 oP (gV Y (fJ 4 (ρ 16))) λg=>
 oP (fF true b) λZ=>
 oP (gV Z (fe g h)) λi=>
 oP (fF true b) λb6=>
 oP (gV b6 (fJ 4 (ρ 15))) λj=>
 oP (fF true b) λb7=>
 oP (gV b7 (fe j h)) λk=>
 oP (fF true b) λb8=>
 oP (gV b8 (ez .leq 3 i k)) λl=>
 oP (jB b l (V.bool false)) λm=>
 oP (some m) λc=>
 oP (fF true c) λF=>
 oP (gV F (fJ 3 (ρ 15))) λn=>
 oP (fF true c) λG=>
 oP (gV G (fe n h)) λx=>
 oP (fF true c) λH=>
 oP (gV H (fJ 3 (ρ 16))) λo=>
 oP (fF true c) λI=>
 oP (gV I (fe o h)) λy=>
 ((gT I (fe o h=some y))/\
 ((gT H (fJ 3 (ρ 16)=some o))/\
 ((gT G (fe n h=some x))/\
 ((gT F (fJ 3 (ρ 15)=some n))/\
 ((some m=some c)/\
 ((jB b l (V.bool false)=some m)/\
 ((gT b8 (ez .leq 3 i k=some l))/\
 ((gT b7 (fe j h=some k))/\
 ((gT b6 (fJ 4 (ρ 15)=some j))/\
 ((gT Z (fe g h=some i))/\
 ((gT Y (fJ 4 (ρ 16)=some g))/\
 ((some f=some b)/\
 ((ez .eql 3 e (V.I 1)=some f)/\
 ((fe d h=some e)/\
 ((fJ 0 (ρ 16)=some d)/\
 oP (fF true c) λT=>
 oP (gC T (some (jy,[x,y]))) λU=>qP C U h λz A=>
 (h.next<=A.next/\
 oP (jB c z (V.bool false)) λp=>
 oP (some p) λa=>
 oP (fF true a) λJ=>
 oP (gV J (some (ρ 13))) λq=>
 oP (fF true a) λK=>
 oP (gV K (iL q)) λr=>
 oP (fF true a) λL=>
 oP (gV L (fJ 1 r)) λs=>
 oP (fF true a) λM=>
 oP (gV M (fe s A)) λB=>
 oP (fF true a) λN=>
 oP (gV N (some (ρ 14))) λt=>
 oP (fF true a) λO=>
 oP (gV O (iL t)) λu=>
 oP (fF true a) λP=>
 oP (gV P (fJ 1 u)) λv=>
 oP (fF true a) λR=>
 oP (gV R (fe v A)) λD=>
 ((gT R (fe v A=some D))/\
 ((gT P (fJ 1 u=some v))/\
 ((gT O (iL t=some u))/\
 ((gT N (some (ρ 14)=some t))/\
 ((gT M (fe s A=some B))/\
 ((gT L (fJ 1 r=some s))/\
 ((gT K (iL q=some r))/\
 ((gT J (some (ρ 13)=some q))/\
 ((some p=some a)/\
 ((jB c z (V.bool false)=some p)/\
 oP (fF true a) λW=>
 oP (gC W (some (jX,[B,D]))) λX=>qP C X A λE h2=>
 (A.next<=h2.next/\
 oP (jB a E (V.bool false)) λw=>
 oP (some w) λS=>
 ((some w=some S)/\
 ((jB a E (V.bool false)=some w)/\
 Wp C 64 zbw Q (fx (fx (fx (fx (fx (fx (fx (fx (fx (fx (fx (fx (fx (fx (fx (fx (fx (fx (fx (fx (fx (fx (fx (fx (fx (fx (fx (fx (fx ρ 36 d) 37 e) 38 f) 39 b) 40 g) 41 i) 42 j) 43 k) 44 l) 45 m) 46 c) 47 n) 48 x) 49 o) 50 y) 51 z) 52 p) 53 a) 54 q) 55 r) 56 s) 57 B) 58 t) 59 u) 60 v) 61 D) 62 E) 63 w) 12 S) h2)))))))))))))))))))))))))))))):=by kernel_rfl
theorem zdH:j4 C 64 zbw Q ρ h=(Q .ret ρ h):=by kernel_rfl
theorem zd7:j4 C 64 zbu Q ρ h=(Q .ret ρ h):=by kernel_rfl
theorem g11{C:fu}(hs:C.start=fQ)(a0 a1 a2 a3 a b:V){h:Hp}{Q:fD}(c:C.K kJ [a0,a1,a2,a3,a,b] h=none)(H:j4 C 64 RK (IZ [.tmp 12] Q) (L0 [a0,a1,a2,a3,a,b]) h):cP C kJ [a0,a1,a2,a3,a,b] h Q:=
 cP.Y9 hs (show P0.funcs[11]? =some Tryz.f11 by unfold P0;exact Tryz.func11) (by kernel_rfl) (by kernel_rfl) (by kernel_rfl) c (KS rfl) (Wp.code _ H)
def qT(C:fu)(Q:fD)(a0 a1 a2 a3 a4 a5:V)(h:Hp):Prop:=hV (lR 30 a0) h λv6 h1=>hV (lR 30 a1) h1 λv7 h2=>cP C iR [a2] h2 λi h3=>cP C iR [a2] h3 λj h4=>oP (fW 5 v6 h4) λm=>cP C jN [m,i,a3,a4,a5] h4 λn h5=>hV (zC 82 [nZ,nZ,nZ,nS,nZ]) h5 λf h6=>fm (gJ 5 f n h6) λvu l=>oP (fJ 0 f) λo=>oP (fe o l) λp=>oP (ez .neq 3 p nO) λq=>bP q (Q bT l) (oP (fW 5 v7 l) λr=>cP C jN [r,j,a3,a4,a5] l λs h8=>hV (zC 82 [nZ,nZ,nZ,nS,nZ]) h8 λg h9=>fm (gJ 5 g s h9) λaj b=>oP (fJ 0 g) λt=>oP (fe t b) λu=>oP (ez .eql 3 u nO) λd=>oP (fF true d) λb4=>oP (gV b4 (fJ 4 g)) λv=>oP (fF true d) λb5=>oP (gV b5 (fe v b)) λw=>oP (fF true d) λb6=>oP (gV b6 (fJ 4 f)) λx=>oP (fF true d) λb7=>oP (gV b7 (fe x b)) λy=>oP (kE d (ez .leq 3 w y)) λc=>oP (fF true c) λz=>oP (gV z (fJ 3 f)) λA=>oP (fF true c) λB=>oP (gV B (fe A b)) λD=>oP (fF true c) λE=>oP (gV E (fJ 3 g)) λF=>oP (fF true c) λG=>oP (gV G (fe F b)) λH=>oP (fF true c) λI=>oP (gC I (some (jy,[D,H]))) λJ=>qP C J b λK e=>(b.next<=e.next/\oP (jB c K bF) λa=>oP (fF true a) λL=>oP (gV L (some i)) λM=>oP (fF true a) λN=>oP (gV N (iL M)) λO=>oP (fF true a) λP=>oP (gV P (fJ 1 O)) λR=>oP (fF true a) λS=>oP (gV S (fe R e)) λT=>oP (fF true a) λU=>oP (gV U (some j)) λW=>oP (fF true a) λX=>oP (gV X (iL W)) λY=>oP (fF true a) λZ=>oP (gV Z (fJ 1 Y)) λaa=>oP (fF true a) λab=>oP (gV ab (fe aa e)) λac=>oP (fF true a) λae=>oP (gC ae (some (jX,[T,ac]))) λag=>qP C ag e λah k=>(e.next<=k.next/\oP (jB a ah bF) λai=>Q ai k)))
theorem GG{C:fu}(hs:C.start=fQ){a0 a1 a2 a3 y z:V}{h:Hp}{Q:fD}(D:C.K kJ [a0,a1,a2,a3,y,z] h=none)(H:qT C Q a0 a1 a2 a3 y z h):cP C kJ [a0,a1,a2,a3,y,z] h Q:=by
 unfold qT at H;exact g11 hs _ _ _ _ _ _ D ((Wh _ _ _ _).mpr (alM H λv6 h1 H=>alM H λv7 h2 H=>wL (Wp.of (zem _ _ _ _) (wL (dcM H λE h3 H=>wL (Wp.of (zel _ _ _ _) (wL (dcM H λF h4 H=>wL (Wp.of (zen _ _ _ _) (oM H λG _ H=>wL (wL (wL (wL (dcM H λI h5 H=>alM H λJ h6 H=>zdn H λvu h7 H=>Wp.of (zeC _ _ _ _) (oM H λL _ H=>oM H λM _ H=>oM H λN _ H=>Wp.of (zdU _ _ _ _) (wL (bM H (λH=>wL (Wp.of (zd7 _ _ _ _) (H))) (λH=>Wp.of (zeZ _ _ _ _) (oM H λO _ H=>wL (wL (wL (wL (dcM H λP h8 H=>alM H λR h9 H=>zdn H λA S H=>Wp.of (zd1 _ _ _ _) (oM H λT a H=>oM H λU b H=>oM H λW c H=>wL (oM H λb4 _ H=>oM H λX d H=>oM H λb5 _ H=>oM H λY e H=>oM H λb6 _ H=>oM H λZ f H=>oM H λb7 _ H=>oM H λaa g H=>thn (MX H) λH=>oM H λb8 B H=>oM H λab i H=>oM H λac j H=>wL (oM H λae _ H=>oM H λag k H=>oM H λah _ H=>oM H λai l H=>oM H λaj _ H=>oM H λak m H=>oM H λal _ H=>oM H λam n H=>⟨(iq n),⟨(iq m),⟨(iq l),⟨(iq k),⟨rfl,⟨j,⟨(iq i),⟨(iq g),⟨(iq f),⟨(iq e),⟨(iq d),⟨rfl,⟨c,⟨b,⟨a,oM H λan _ H=>oM H λao _ H=>Z7 H λap aq H=>anM H λH=>oM H λar o H=>wL (oM H λau _ H=>oM H λaw p H=>oM H λax _ H=>oM H λay q H=>oM H λaA _ H=>oM H λaB r H=>oM H λaC _ H=>oM H λaD s H=>oM H λaE _ H=>oM H λaF t H=>oM H λaG _ H=>oM H λaH u H=>oM H λaI _ H=>oM H λaJ v H=>oM H λaK _ H=>oM H λaL w H=>⟨(iq w),⟨(iq v),⟨(iq u),⟨(iq t),⟨(iq s),⟨(iq r),⟨(iq q),⟨(iq p),⟨rfl,⟨o,oM H λaM _ H=>oM H λaN _ H=>Z7 H λaO aP H=>anM H λH=>oM H λaQ x H=>wL (⟨rfl,⟨x,Wp.of (zdH _ _ _ _) (H)⟩⟩)⟩⟩⟩⟩⟩⟩⟩⟩⟩⟩)⟩⟩⟩⟩⟩⟩⟩⟩⟩⟩⟩⟩⟩⟩⟩))))))))))))))))))))))))))
end
