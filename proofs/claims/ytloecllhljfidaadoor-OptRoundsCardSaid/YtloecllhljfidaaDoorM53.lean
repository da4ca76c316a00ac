/- Parts. -/
import Derived.Test.YtloecllhljfidaaDoorM14
set_option maxHeartbeats 4000000
namespace Go.Proofs.YtloecllhljfidaaDoor.Hx
set_option maxRecDepth 100000
noncomputable section
def t24:List (Nat×List Nat):=[(351,[2,3,26,27,28]),(7774,[2,3,26,27,28])]
def yw(C:fm)(Q:fq):LP:=JV C Tryd.f24 t24 175 [2,3,26,27,28] [] Q
def nj(C:fm)(Q:fq)(a:LP):LP:=JV C Tryd.f24 t24 3887 [2,3,26,27,28] [kf [2,3,26,27,28] a] Q
def yB(C:fm)(Q:fq)(k:LP)(p b c d a:V)(h:Hp):Prop:=bO .lss 3 a d (dX 1 c a h λe=>bO .geq 3 e nZ (oP (gU b) λs=>oP (fQ 6 s) λf=>oP (eQ f h) λg=>oP (gU b) λt=>oP (fQ 6 t) λl=>oP (eQ l h) λm=>oP (hV 1 m e) λn=>oP (eQ n h) λo=>wP (jd 3 1 1 nZ [(0,a)]) h λi u j=>((j.get (h.next)=some i/\O.beq i i=true)/\((eQ n j=some o)/\((eQ l j=some m)/\((eQ f j=some g)/\fc (eR 3 1 8 o u j) λv q=>(j.next<=q.next/\oP (hV 1 g e) λw=>((eQ f q=some g)/\fc (gh 1 w v q) λI F=>(q.next<=F.next/\nj C Q k [p,b,c,d,a] F)))))))) (nj C Q k [p,b,c,d,a] h)) (cP C lR [b] h λH r=>oP (gU b) λx=>oP (fQ 0 x) λy=>oP (fM 5 y r) λz=>dN 5 b r λA=>cP C nT [z,A] r λB D=>(r.next<=D.next/\fc (gh 5 p B D) λG E=>(D.next<=E.next/\oP (fM 5 p E) λr2=>Q r2 E)))
theorem Gi{C Q}(I)(s:S5 I (yB C Q)){k l h}(i:I k l h)(e:l.length=5:=by rfl):yw C Q l h:=JV.l5 I _ s i e
def xL(C:fm)(Q:fq)(a:LP)(f g b c d:V)(h:Hp):Prop:=oP (eJ .add 3 d nO) λe=>a [f,g,b,c,e] h
theorem ER{C Q a}:R5 (xL C Q a) (nj C Q a):=JV.r5 _
def BZ(C:fm)(Q:fq)(a0:V)(h:Hp):Prop:=gX (mm 29 a0) h λa H=>gX (zC 29 [nZ,nZ,nS,nS,nS]) H λo E=>oP (fM 5 a E) λI=>cP C rY [I] E λJ c=>bN J (oP (fM 5 a c) λK=>cP C mZ [K] c λp L=>fc (gh 5 o p L) λM F=>oP (fM 5 o F) λr2=>Q r2 F) (oP (fM 5 a c) λe=>oP (fM 5 a c) λd=>wP (some (.map [] 0,λl=> .map l)) c λb q f=>((f.get (c.next)=some b/\O.beq b b=true)/\((fM 5 a f=some d)/\((fM 5 a f=some e)/\cP C mZ [e] f λr g=>(f.next<=g.next/\((g.get (c.next)=some b/\O.beq b b=true)/\((fM 5 a g=some d)/\cP C rH [d] g λs t=>(g.next<=t.next/\oP (fJ [nZ,nZ,nS,nS,nS,nS,nS,V.ku] [(0,5),(5,1),(6,1),(7,1)] [(0,r),(1,s),(3,q)]) λu=>wP (mm 72 u) t λv i n=>((n.get (t.next)=some v/\O.beq v v=true)/\((n.get (c.next)=some b/\O.beq b b=true)/\dG 3 a n λj=>gX (jm 22 1 24 nS j j) n λw x=>oP (gU i) λy=>oP (fQ 6 y) λz=>fc (gh 1 z w x) λG k=>oP (fM 5 a k) λA=>cP C nt [A] k λm B=>oP (fD m) λD=>yw C Q [o,i,m,D,nZ] B))))))))))
theorem JM{C}(s:C.start=fK){a0 h Q}(k:C.K oz [a0] h=none)(H:BZ C Q a0 h):cP C oz [a0] h Q:=cP.vd t24 s (by unfold P0;exact Tryd.func24) k H
def t37:List (Nat×List Nat):=[(11,[0,2]),(10579,[0,2,38,39,40])]
def qx(C:fm)(Q:fq):LP:=JV C Tryd.f37 t37 5 [0,2] [] Q
def qn(C:fm)(Q:fq)(a:LP):LP:=JV C Tryd.f37 t37 5289 [0,2,38,39,40] [kf [0,2] a] Q
def qi(C:fm)(Q:fq)(b:LP)(c d:V)(h:Hp):Prop:=oP (fD d) λg=>bO .gtr 3 g nZ (oP (fD d) λi=>oP (eJ .sub 3 i nO) λj=>oP (hV 3 d j) λa=>dN 1 a h λk=>dN 6 c h λl=>dN 0 a h λm=>dX 1 l m h λn=>oP (fD n) λo=>bO .eql 3 k o (dN 2 a h λe=>oP (fD e) λp=>qn C Q b [c,d,e,p,nZ] h) (dN 6 c h λq=>dN 0 a h λr=>dX 1 q r h λs=>dN 1 a h λt=>dX 1 s t h λf=>dN 1 a h λu=>oP (eJ .add 3 u nO) λv=>oP (gU a) λw=>oP (fQ 1 w) λx=>fc (gh 1 x v h) λH D=>cP C jE [c,f] D λy E=>oP (fJ [nZ,nZ,nS] [(0,1),(1,1),(2,1)] [(0,f),(1,nZ),(2,y)]) λz=>gX (jd 95 3 1 (V.agg [nZ,nZ,nS]) [(0,z)]) E λA F=>fc (eR 95 3 40 d A F) λB G=>b [c,B] G)) (Q (V.tuple []) h)
theorem zo{C Q}(I)(s:S2 I (qi C Q)){k l h}(i:I k l h)(e:l.length=2:=by rfl):qx C Q l h:=JV.l2 I _ s i e
def qv(C:fm)(Q:fq)(e:LP)(f:LP)(g i b c a:V)(h:Hp):Prop:=bO .lss 3 a c (oP (hV 4 b a) λj=>oP (fM 4 j h) λk=>gX (zC 99 [nZ,nZ,nZ,nZ]) h λr u=>fc (gh 4 r k u) λv d=>dN 7 g d λl=>oP (fM 4 r d) λm=>fc (zw 99 (AU) l m d) λs t=>(d.next<=t.next/\oP (eJ .add 3 a nO) λn=>f [g,i,b,c,n] t)) (oP (fD i) λo=>oP (eJ .sub 3 o nO) λp=>oP (jc 3 i none (some p) h) λq=>e [g,q] h)
theorem zl{C Q a}(I)(s:S5 I (qv C Q a)){k l h}(i:I k l h)(e:l.length=5:=by rfl):qn C Q a l h:=JV.l5 I _ s i e
def tB(C:fm)(Q:fq)(a0:V)(h:Hp):Prop:=cP C jE [a0,nZ] h λb c=>oP (fJ [nZ,nZ,nS] [(0,1),(1,1),(2,1)] [(0,nZ),(1,nZ),(2,b)]) λd=>gX (jd 95 3 1 (V.agg [nZ,nZ,nS]) [(0,d)]) c λa e=>qx C Q [a0,a] e
theorem Bh{C}(s:C.start=fK){a0 h Q}(k:C.K lR [a0] h=none)(H:tB C Q a0 h):cP C lR [a0] h Q:=cP.vd t37 s (by unfold P0;exact Tryd.func37) k H
def t55:List (Nat×List Nat):=[(87,[0,5,20,21,22]),(1942,[0,5,20,21,22])]
def pN(C:fm)(Q:fq):LP:=JV C Tryd.f55 t55 43 [0,5,20,21,22] [] Q
def iY(C:fm)(Q:fq)(a:LP):LP:=JV C Tryd.f55 t55 971 [0,5,20,21,22] [kf [0,5,20,21,22] a] Q
def pY(C:fm)(Q:fq)(f:LP)(e j b c a:V)(h:Hp):Prop:=bO .lss 3 a c (dX 1 b a h λg=>oP (gU e) λl=>oP (fQ 0 l) λm=>dF 2 m h λn=>oP (hV 6 n g) λo=>oP (fM 6 o h) λp=>gX (zC 40 [nZ,nZ,nZ,nZ,nS,nZ]) h λq O=>fc (gh 6 q p O) λU K=>dF 0 q K λr=>cP C Bu [r] K λs t=>bN s (iY C Q f [e,j,b,c,a] t) (oP (fM 6 q t) λu=>cP C ml [e,u] t λv P=>gX (zC 99 [nZ,nZ,nZ,nZ]) P λk R=>fc (gh 4 k v R) λL d=>dN 7 e d λw=>oP (fM 4 k d) λx=>oP (I4 99 (AU) nZ true w x d) λi=>oP (BS 0 i) λy=>oP (BS 1 i) λz=>bP z (dN 5 e d λA=>oP (hV 1 A g) λB=>fc (gh 1 B y d) λM S=>iY C Q f [e,j,b,c,a] S) (dN 7 e d λD=>oP (fM 4 k d) λE=>fc (G2 99 (AU) D E g d) λN F=>(d.next<=F.next/\oP (fM 4 k F) λG=>gX (jd 99 4 1 (V.agg [nZ,nZ,nZ,nZ]) [(0,G)]) F λH T=>fc (eR 99 4 32 j H T) λI J=>iY C Q f [e,I,b,c,a] J)))) (Q j h)
theorem yP{C Q}(I)(s:S5 I (pY C Q)){k l h}(i:I k l h)(e:l.length=5:=by rfl):pN C Q l h:=JV.l5 I _ s i e
def pZ(C:fm)(Q:fq)(a:LP)(f g b c d:V)(h:Hp):Prop:=oP (eJ .add 3 d nO) λe=>a [f,g,b,c,e] h
theorem yH{C Q a}:R5 (pZ C Q a) (iY C Q a):=JV.r5 _
def th(C:fm)(Q:fq)(a0 a1:V)(h:Hp):Prop:=oP (gU a0) λb=>oP (fQ 0 b) λc=>dJ 3 c 6 a1 0 h λa=>oP (fD a) λd=>pN C Q [a0,nS,a,d,nZ] h
theorem AG{C}(s:C.start=fK){a0 a1 h Q}(k:C.K jE [a0,a1] h=none)(H:th C Q a0 a1 h):cP C jE [a0,a1] h Q:=cP.vd t55 s (by unfold P0;exact Tryd.func55) k H
def t73:List (Nat×List Nat):=[(62,[0,3,4,5,6]),(126,[3,4,5]),(254,[4,5])]
def kN(C:fm)(Q:fq):LP:=JV C Tryd.f73 t73 31 [0,3,4,5,6] [] Q
def kO(C:fm)(Q:fq):LP:=JV C Tryd.f73 t73 63 [3,4,5] [] Q
def kI(C:fm)(Q:fq):LP:=JV C Tryd.f73 t73 127 [4,5] [] Q
def qR(C:fm)(Q:fq)(l g i a j:V)(h:Hp):Prop:=oP (fD j) λb=>bO .gtr 3 b nO (dN 5 l h λc=>dX 1 j nO h λd=>dX 1 c d h λe=>oP (fQ 2 a) λf=>fc (gh 1 f e h) λm k=>(h.next<=k.next/\kO C Q [g,i,a] k)) (kO C Q [g,i,a] h)
theorem z9{C Q}:R5 (qR C Q) (kN C Q):=JV.r5 _
def qY(C:fm)(Q:fq)(e f a:V)(h:Hp):Prop:=dF 0 e h λb=>bO .eql 3 b (V.I 2) (dF 3 e h λc=>oP (fQ 3 a) λd=>fc (gh 1 d c h) λi g=>kI C Q [f,a] g) (kI C Q [f,a] h)
theorem Aa{C Q}:R3 (qY C Q) (kO C Q):=JV.r3 _
def qS(C:fm)(Q:fq)(b d:V)(h:Hp):Prop:=oP (fM 4 d h) λa=>fc (gh 4 b a h) λe c=>oP (fM 4 b c) λr4=>Q r4 c
theorem zT{C Q}:R2 (qS C Q) (kI C Q):=JV.r2 _
def vB(C:fm)(Q:fq)(a0 a1:V)(h:Hp):Prop:=gX (mm 40 a1) h λc q=>gX (zC 99 [nZ,nZ,nZ,nZ]) q λl m=>dF 0 c m λr=>oP (fJ [nZ,nZ,nZ,nZ] [(0,1),(1,1),(2,1),(3,1)] [(0,r),(1,(V.I (-1))),(2,(V.I (-1)))]) λs=>gX (zC 99 [nZ,nZ,nZ,nZ]) m λd t=>fc (gh 4 d s t) λu n=>oP (fM 6 c n) λe=>cP C mc [e] n λa b=>oP (fD a) λf=>bO .gtr 3 f nZ (dN 5 a0 b λg=>dX 1 a nZ b λi=>dX 1 g i b λj=>oP (fQ 1 d) λk=>fc (gh 1 k j b) λo p=>(b.next<=p.next/\kN C Q [a0,c,l,d,a] p)) (kN C Q [a0,c,l,d,a] b)
theorem CE{C}(s:C.start=fK){a0 a1 h Q}(k:C.K ml [a0,a1] h=none)(H:vB C Q a0 a1 h):cP C ml [a0,a1] h Q:=cP.vd t73 s (by unfold P0;exact Tryd.func73) k H
def t72:List (Nat×List Nat):=[]
def KG(C:fm)(Q:fq)(a0:V)(h:Hp):Prop:=oP (eJ .geq 3 a0 (V.I 2)) λa=>oP (mn a (oB (some a0) λb=>eJ .leq 3 b (V.I 16))) λc=>Q c h
theorem SD{C}(s:C.start=fK){a0 h Q}(k:C.K Bu [a0] h=none)(H:KG C Q a0 h):cP C Bu [a0] h Q:=cP.vd t72 s (by unfold P0;exact Tryd.func72) k H
def t4:List (Nat×List Nat):=[(175,[1,2,3,4,5]),(88367,[1,2,3,4,5,6,7,8]),(7493934,[1,2,3,4,5,6,7,8])]
def sV(C:fm)(Q:fq):LP:=JV C Tryd.f4 t4 87 [1,2,3,4,5] [] Q
def rP(C:fm)(Q:fq)(a:LP):LP:=JV C Tryd.f4 t4 44183 [1,2,3,4,5,6,7,8] [kf [1,2,3,4,5] a] Q
def kL(C:fm)(Q:fq)(a:LP)(b:LP):LP:=JV C Tryd.f4 t4 3746967 [1,2,3,4,5,6,7,8] [kf [1,2,3,4,5] a,kf [1,2,3,4,5,6,7,8] b] Q
def tj(C:fm)(Q:fq)(b:LP)(a c q r d:V)(h:Hp):Prop:=oP (fQ 3 a) λe=>oP (eQ e h) λf=>oP (fD f) λg=>oP (eJ .lss 3 d g) λi=>bP i (oP (fQ 3 a) λj=>oP (eQ j h) λk=>oP (hV 6 k d) λl=>oP (fM 6 l h) λm=>gX (zC 38 [nS,nZ,nZ,nS,nS,nZ]) h λs y=>fc (gh 6 s m y) λB z=>rP C Q b [a,c,q,r,d,s,nS,nZ] z) (oP (fQ 2 a) λn=>fc (gh 1 n q h) λt A=>oP (fQ 3 a) λo=>fc (gh 1 o r A) λu v=>oP (fM 5 a v) λp=>fc (gh 5 c p v) λw x=>oP (fM 5 c x) λr2=>Q r2 x)
theorem AT{C Q}(I)(s:S5 I (tj C Q)){k l h}(i:I k l h)(e:l.length=5:=by rfl):sV C Q l h:=JV.l5 I _ s i e
def sW(C:fm)(Q:fq)(b:LP)(d:LP)(g i e j k a l c:V)(h:Hp):Prop:=oP (fQ 0 a) λm=>oP (eQ m h) λn=>oP (fD n) λo=>oP (eJ .lss 3 c o) λp=>bP p (oP (fQ 0 a) λq=>oP (eQ q h) λr=>oP (hV 1 r c) λs=>oP (eQ s h) λt=>oP (hV 6 e t) λu=>oP (fQ 0 u) λv=>oP (eQ v h) λf=>oP (eJ .eql 3 f (V.I 19)) λw=>oP (uP w (oB (some f) λx=>eJ .eql 3 x (V.I 20))) λy=>bP y (oP (fQ 0 a) λz=>oP (eQ z h) λA=>oP (hV 1 A c) λB=>oP (eQ B h) λD=>oP (fQ 0 a) λE=>oP (eQ E h) λF=>oP (hV 1 F c) λG=>oP (eQ G h) λH=>oP (fJ [nZ,nZ,nZ,nZ,nS,nZ] [(0,1),(1,1),(2,1),(3,1),(4,1),(5,1)] [(0,(V.I 2)),(3,H)]) λI=>oP (hV 6 e D) λJ=>fc (gh 6 J I h) λW P=>(h.next<=P.next/\kL C Q b d [g,i,e,j,k,a,l,c] P)) (kL C Q b d [g,i,e,j,k,a,l,c] h)) (oP (fQ 0 a) λK=>fc (gh 1 K l h) λR S=>oP (fM 6 a S) λL=>gX (jd 38 6 1 (V.agg [nS,nZ,nZ,nS,nS,nZ]) [(0,L)]) S λM T=>fc (eR 38 6 96 j M T) λN U=>oP (eJ .add 3 k nO) λO=>b [g,i,e,N,O] U)
theorem AV{C Q a}(I)(s:S8 I (sW C Q a)){k l h}(i:I k l h)(e:l.length=8:=by rfl):rP C Q a l h:=JV.l8 I _ s i e
def qU(C:fm)(Q:fq)(l:LP)(a:LP)(m n o p q j r k:V)(h:Hp):Prop:=oP (fQ 0 j) λb=>oP (eQ b h) λc=>oP (hV 1 c k) λd=>oP (eQ d h) λe=>gX (jd 3 1 1 nZ [(0,e)]) h λf s=>fc (eR 3 1 8 r f s) λg t=>oP (eJ .add 3 k nO) λi=>a [m,n,o,p,q,j,g,i] t
theorem Ag{C Q a b}:R8 (qU C Q a b) (kL C Q a b):=JV.r8 _
def wL(C:fm)(Q:fq)(a0:V)(h:Hp):Prop:=gX (mm 29 a0) h λe g=>gX (zC 29 [nZ,nZ,nS,nS,nS]) g λi j=>gX (jd 40 6 0 (V.agg [nZ,nZ,nZ,nZ,nS,nZ]) []) j λa f=>oP (fQ 2 e) λb=>oP (eQ b f) λc=>fc (eR 40 6 64 a c f) λd k=>sV C Q [e,i,d,nS,nZ] k
theorem DC{C}(s:C.start=fK){a0 h Q}(k:C.K mJ [a0] h=none)(H:wL C Q a0 h):cP C mJ [a0] h Q:=cP.vd t4 s (by unfold P0;exact Tryd.func4) k H
end
