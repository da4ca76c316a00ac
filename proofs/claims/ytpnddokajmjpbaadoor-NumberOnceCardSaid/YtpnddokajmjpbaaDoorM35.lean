/- Parts. -/
import Derived.Test.YtpnddokajmjpbaaDoorM14
namespace Go.Proofs.YtpnddokajmjpbaaDoor.Hx
set_option maxRecDepth 100000
noncomputable section
def t23:List (Nat×List Nat):=[(351,[2,3,26,27,28]),(7774,[2,3,26,27,28])]
def yJ (C:fu)(Q:fx):LP:=JV C Tryd.f23 t23 175 [2,3,26,27,28] [] Q
def mU (C:fu)(Q:fx)(a:LP):LP:=JV C Tryd.f23 t23 3887 [2,3,26,27,28] [kf [2,3,26,27,28] a] Q
def yU (C:fu)(Q:fx)(k:LP)(p b c d a:V)(h:Hp):Prop:=
 bO .lss 3 a d (
 dX 1 c a h λe=>
 bO .geq 3 e nZ (
 oP (iq b) λs=>
 oP (fH 6 s) λf=>
 oP (ev f h) λg=>
 oP (iq b) λt=>
 oP (fH 6 t) λl=>
 oP (ev l h) λm=>
 oP (gD 1 m e) λn=>
 oP (ev n h) λo=>
 wS (iZ 3 1 1 nZ [(0,a)]) h λi u j=>
 ((j.get (h.next)=some i/\O.beq i i=true)/\
 ((ev n j=some o)/\
 ((ev l j=some m)/\
 ((ev f j=some g)/\
 fm (eR 3 1 8 o u j) λv q=>
 (j.next<=q.next/\
 oP (gD 1 g e) λw=>
 ((ev f q=some g)/\
 fm (gB 1 w v q) λI F=>
 (q.next<=F.next/\
 mU C Q k [p,b,c,d,a] F)))))))) (
 mU C Q k [p,b,c,d,a] h)) (
 cP C lD [b] h λH r=>
 oP (iq b) λx=>
 oP (fH 0 x) λy=>
 oP (gg 5 y r) λz=>
 dN 5 b r λA=>
 cP C yp [z,A] r λB D=>
 (r.next<=D.next/\
 fm (gB 5 p B D) λG E=>
 (D.next<=E.next/\
 oP (gg 5 p E) λr2=>
 Q r2 E)))
theorem Fw{C Q}(I)(s:S5 I (yU C Q)){k l h}(i:I k l h)(e:l.length=5:=by rfl):yJ C Q l h:=JV.l5 I _ s i e
def xD (C:fu)(Q:fx)(a:LP)(f g b c d:V)(h:Hp):Prop:=
 oP (er .add 3 d nO) λe=>
 a [f,g,b,c,e] h
theorem Eu{C Q a}:R5 (xD C Q a) (mU C Q a):=JV.r5 _
def Cm (C:fu)(Q:fx)(a0:V)(h:Hp):Prop:=
 ij (nP 30 a0) h λa H=>
 ij (zC 30 [nZ,nZ,nS,nS,nS]) H λo E=>
 oP (gg 5 a E) λI=>
 cP C Aa [I] E λJ c=>
 bN J (
 oP (gg 5 a c) λK=>
 cP C vM [K] c λp L=>
 fm (gB 5 o p L) λM F=>
 oP (gg 5 o F) λr2=>
 Q r2 F) (
 oP (gg 5 a c) λe=>
 oP (gg 5 a c) λd=>
 wS (some (.map [] 0,λl=> .map l)) c λb q f=>
 ((f.get (c.next)=some b/\O.beq b b=true)/\
 ((gg 5 a f=some d)/\
 ((gg 5 a f=some e)/\
 cP C vM [e] f λr g=>
 (f.next<=g.next/\
 ((g.get (c.next)=some b/\O.beq b b=true)/\
 ((gg 5 a g=some d)/\
 cP C Cj [d] g λs t=>
 (g.next<=t.next/\
 oP (fN [nZ,nZ,nS,nS,nS,nS,nS,V.j9] [(0,5),(5,1),(6,1),(7,1)] [(0,r),(1,s),(3,q)]) λu=>
 wS (nP 97 u) t λv i n=>
 ((n.get (t.next)=some v/\O.beq v v=true)/\
 ((n.get (c.next)=some b/\O.beq b b=true)/\
 dG 3 a n λj=>
 ij (gR 23 1 24 nS j j) n λw x=>
 oP (iq i) λy=>
 oP (fH 6 y) λz=>
 fm (gB 1 z w x) λG k=>
 oP (gg 5 a k) λA=>
 cP C nB [A] k λm B=>
 oP (fD m) λD=>
 yJ C Q [o,i,m,D,nZ] B))))))))))
theorem IQ{C}(s:C.start=fW){a0 h Q}(k:C.K sh [a0] h=none)(H:Cm C Q a0 h):cP C sh [a0] h Q:=cP.vd t23 s (by unfold P0;exact Tryd.func23) k H
def t58:List (Nat×List Nat):=[(11,[0,2]),(10579,[0,2,38,39,40])]
def qe (C:fu)(Q:fx):LP:=JV C Tryd.f58 t58 5 [0,2] [] Q
def qE (C:fu)(Q:fx)(a:LP):LP:=JV C Tryd.f58 t58 5289 [0,2,38,39,40] [kf [0,2] a] Q
def qD (C:fu)(Q:fx)(b:LP)(c d:V)(h:Hp):Prop:=
 oP (fD d) λg=>
 bO .gtr 3 g nZ (
 oP (fD d) λi=>
 oP (er .sub 3 i nO) λj=>
 oP (gD 3 d j) λa=>
 dN 1 a h λk=>
 dN 6 c h λl=>
 dN 0 a h λm=>
 dX 1 l m h λn=>
 oP (fD n) λo=>
 bO .eql 3 k o (
 dN 2 a h λe=>
 oP (fD e) λp=>
 qE C Q b [c,d,e,p,nZ] h) (
 dN 6 c h λq=>
 dN 0 a h λr=>
 dX 1 q r h λs=>
 dN 1 a h λt=>
 dX 1 s t h λf=>
 dN 1 a h λu=>
 oP (er .add 3 u nO) λv=>
 oP (iq a) λw=>
 oP (fH 1 w) λx=>
 fm (gB 1 x v h) λH D=>
 cP C jw [c,f] D λy E=>
 oP (fN [nZ,nZ,nS] [(0,1),(1,1),(2,1)] [(0,f),(1,nZ),(2,y)]) λz=>
 ij (iZ 123 3 1 (V.agg [nZ,nZ,nS]) [(0,z)]) E λA F=>
 fm (eR 123 3 40 d A F) λB G=>
 b [c,B] G)) (
 Q (V.tuple []) h)
theorem zw{C Q}(I)(s:S2 I (qD C Q)){k l h}(i:I k l h)(e:l.length=2:=by rfl):qe C Q l h:=JV.l2 I _ s i e
def qW (C:fu)(Q:fx)(e:LP)(f:LP)(g i b c a:V)(h:Hp):Prop:=
 bO .lss 3 a c (
 oP (gD 4 b a) λj=>
 oP (gg 4 j h) λk=>
 ij (zC 127 [nZ,nZ,nZ,nZ]) h λr u=>
 fm (gB 4 r k u) λv d=>
 dN 7 g d λl=>
 oP (gg 4 r d) λm=>
 fm (zQ 127 (tg) l m d) λs t=>
 (d.next<=t.next/\
 oP (er .add 3 a nO) λn=>
 f [g,i,b,c,n] t)) (
 oP (fD i) λo=>
 oP (er .sub 3 o nO) λp=>
 oP (iJ 3 i none (some p) h) λq=>
 e [g,q] h)
theorem zK{C Q a}(I)(s:S5 I (qW C Q a)){k l h}(i:I k l h)(e:l.length=5:=by rfl):qE C Q a l h:=JV.l5 I _ s i e
def uu (C:fu)(Q:fx)(a0:V)(h:Hp):Prop:=
 cP C jw [a0,nZ] h λb c=>
 oP (fN [nZ,nZ,nS] [(0,1),(1,1),(2,1)] [(0,nZ),(1,nZ),(2,b)]) λd=>
 ij (iZ 123 3 1 (V.agg [nZ,nZ,nS]) [(0,d)]) c λa e=>
 qe C Q [a0,a] e
theorem BV{C}(s:C.start=fW){a0 h Q}(k:C.K lD [a0] h=none)(H:uu C Q a0 h):cP C lD [a0] h Q:=cP.vd t58 s (by unfold P0;exact Tryd.func58) k H
def t85:List (Nat×List Nat):=[(87,[0,5,20,21,22]),(1942,[0,5,20,21,22])]
def pG (C:fu)(Q:fx):LP:=JV C Tryd.f85 t85 43 [0,5,20,21,22] [] Q
def iT (C:fu)(Q:fx)(a:LP):LP:=JV C Tryd.f85 t85 971 [0,5,20,21,22] [kf [0,5,20,21,22] a] Q
def pg (C:fu)(Q:fx)(f:LP)(e j b c a:V)(h:Hp):Prop:=
 bO .lss 3 a c (
 dX 1 b a h λg=>
 oP (iq e) λl=>
 oP (fH 0 l) λm=>
 dF 2 m h λn=>
 oP (gD 6 n g) λo=>
 oP (gg 6 o h) λp=>
 ij (zC 42 [nZ,nZ,nZ,nZ,nS,nZ]) h λq O=>
 fm (gB 6 q p O) λU K=>
 dF 0 q K λr=>
 cP C BP [r] K λs t=>
 bN s (
 iT C Q f [e,j,b,c,a] t) (
 oP (gg 6 q t) λu=>
 cP C lV [e,u] t λv P=>
 ij (zC 127 [nZ,nZ,nZ,nZ]) P λk R=>
 fm (gB 4 k v R) λL d=>
 dN 7 e d λw=>
 oP (gg 4 k d) λx=>
 oP (Iq 127 (tg) nZ true w x d) λi=>
 oP (My 0 i) λy=>
 oP (My 1 i) λz=>
 bP z (
 dN 5 e d λA=>
 oP (gD 1 A g) λB=>
 fm (gB 1 B y d) λM S=>
 iT C Q f [e,j,b,c,a] S) (
 dN 7 e d λD=>
 oP (gg 4 k d) λE=>
 fm (GD 127 (tg) D E g d) λN F=>
 (d.next<=F.next/\
 oP (gg 4 k F) λG=>
 ij (iZ 127 4 1 (V.agg [nZ,nZ,nZ,nZ]) [(0,G)]) F λH T=>
 fm (eR 127 4 32 j H T) λI J=>
 iT C Q f [e,I,b,c,a] J)))) (
 Q j h)
theorem yA{C Q}(I)(s:S5 I (pg C Q)){k l h}(i:I k l h)(e:l.length=5:=by rfl):pG C Q l h:=JV.l5 I _ s i e
def po (C:fu)(Q:fx)(a:LP)(f g b c d:V)(h:Hp):Prop:=
 oP (er .add 3 d nO) λe=>
 a [f,g,b,c,e] h
theorem yR{C Q a}:R5 (po C Q a) (iT C Q a):=JV.r5 _
def tq (C:fu)(Q:fx)(a0 a1:V)(h:Hp):Prop:=
 oP (iq a0) λb=>
 oP (fH 0 b) λc=>
 dJ 3 c 6 a1 0 h λa=>
 oP (fD a) λd=>
 pG C Q [a0,nS,a,d,nZ] h
theorem Bp{C}(s:C.start=fW){a0 a1 h Q}(k:C.K jw [a0,a1] h=none)(H:tq C Q a0 a1 h):cP C jw [a0,a1] h Q:=cP.vd t85 s (by unfold P0;exact Tryd.func85) k H
def t104:List (Nat×List Nat):=[(62,[0,3,4,5,6]),(126,[3,4,5]),(254,[4,5])]
def ki (C:fu)(Q:fx):LP:=JV C Tryd.f104 t104 31 [0,3,4,5,6] [] Q
def ka (C:fu)(Q:fx):LP:=JV C Tryd.f104 t104 63 [3,4,5] [] Q
def km (C:fu)(Q:fx):LP:=JV C Tryd.f104 t104 127 [4,5] [] Q
def rF (C:fu)(Q:fx)(l g i a j:V)(h:Hp):Prop:=
 oP (fD j) λb=>
 bO .gtr 3 b nO (
 dN 5 l h λc=>
 dX 1 j nO h λd=>
 dX 1 c d h λe=>
 oP (fH 2 a) λf=>
 fm (gB 1 f e h) λm k=>
 (h.next<=k.next/\
 ka C Q [g,i,a] k)) (
 ka C Q [g,i,a] h)
theorem Au{C Q}:R5 (rF C Q) (ki C Q):=JV.r5 _
def rL (C:fu)(Q:fx)(e f a:V)(h:Hp):Prop:=
 dF 0 e h λb=>
 bO .eql 3 b (V.int .i64 2) (
 dF 3 e h λc=>
 oP (fH 3 a) λd=>
 fm (gB 1 d c h) λi g=>
 km C Q [f,a] g) (
 km C Q [f,a] h)
theorem AH{C Q}:R3 (rL C Q) (ka C Q):=JV.r3 _
def rN (C:fu)(Q:fx)(b d:V)(h:Hp):Prop:=
 oP (gg 4 d h) λa=>
 fm (gB 4 b a h) λe c=>
 oP (gg 4 b c) λr4=>
 Q r4 c
theorem Ax{C Q}:R2 (rN C Q) (km C Q):=JV.r2 _
def uY (C:fu)(Q:fx)(a0 a1:V)(h:Hp):Prop:=
 ij (nP 42 a1) h λc q=>
 ij (zC 127 [nZ,nZ,nZ,nZ]) q λl m=>
 dF 0 c m λr=>
 oP (fN [nZ,nZ,nZ,nZ] [(0,1),(1,1),(2,1),(3,1)] [(0,r),(1,(V.int .i64 (-1))),(2,(V.int .i64 (-1)))]) λs=>
 ij (zC 127 [nZ,nZ,nZ,nZ]) m λd t=>
 fm (gB 4 d s t) λu n=>
 oP (gg 6 c n) λe=>
 cP C sx [e] n λa b=>
 oP (fD a) λf=>
 bO .gtr 3 f nZ (
 dN 5 a0 b λg=>
 dX 1 a nZ b λi=>
 dX 1 g i b λj=>
 oP (fH 1 d) λk=>
 fm (gB 1 k j b) λo p=>
 (b.next<=p.next/\
 ki C Q [a0,c,l,d,a] p)) (
 ki C Q [a0,c,l,d,a] b)
theorem CH{C}(s:C.start=fW){a0 a1 h Q}(k:C.K lV [a0,a1] h=none)(H:uY C Q a0 a1 h):cP C lV [a0,a1] h Q:=cP.vd t104 s (by unfold P0;exact Tryd.func104) k H
def t103:List (Nat×List Nat):=[]
def Kf (C:fu)(Q:fx)(a0:V)(h:Hp):Prop:=
 oP (er .geq 3 a0 (V.int .i64 2)) λa=>
 oP (jK a (oB (some a0) λb=>er .leq 3 b (V.int .i64 16))) λc=>
 Q c h
theorem Qc{C}(s:C.start=fW){a0 h Q}(k:C.K BP [a0] h=none)(H:Kf C Q a0 h):cP C BP [a0] h Q:=cP.vd t103 s (by unfold P0;exact Tryd.func103) k H
def t24:List (Nat×List Nat):=[(175,[1,2,3,4,5]),(88367,[1,2,3,4,5,6,7,8]),(7493934,[1,2,3,4,5,6,7,8])]
def tA (C:fu)(Q:fx):LP:=JV C Tryd.f24 t24 87 [1,2,3,4,5] [] Q
def tK (C:fu)(Q:fx)(a:LP):LP:=JV C Tryd.f24 t24 44183 [1,2,3,4,5,6,7,8] [kf [1,2,3,4,5] a] Q
def ku (C:fu)(Q:fx)(a:LP)(b:LP):LP:=JV C Tryd.f24 t24 3746967 [1,2,3,4,5,6,7,8] [kf [1,2,3,4,5] a,kf [1,2,3,4,5,6,7,8] b] Q
def sZ (C:fu)(Q:fx)(b:LP)(a c q r d:V)(h:Hp):Prop:=
 oP (fH 3 a) λe=>
 oP (ev e h) λf=>
 oP (fD f) λg=>
 oP (er .lss 3 d g) λi=>
 bP i (
 oP (fH 3 a) λj=>
 oP (ev j h) λk=>
 oP (gD 6 k d) λl=>
 oP (gg 6 l h) λm=>
 ij (zC 44 [nS,nZ,nZ,nS,nS,nZ]) h λs y=>
 fm (gB 6 s m y) λB z=>
 tK C Q b [a,c,q,r,d,s,nS,nZ] z) (
 oP (fH 2 a) λn=>
 fm (gB 1 n q h) λt A=>
 oP (fH 3 a) λo=>
 fm (gB 1 o r A) λu v=>
 oP (gg 5 a v) λp=>
 fm (gB 5 c p v) λw x=>
 oP (gg 5 c x) λr2=>
 Q r2 x)
theorem AX{C Q}(I)(s:S5 I (sZ C Q)){k l h}(i:I k l h)(e:l.length=5:=by rfl):tA C Q l h:=JV.l5 I _ s i e
def tv (C:fu)(Q:fx)(b:LP)(d:LP)(g i e j k a l c:V)(h:Hp):Prop:=
 oP (fH 0 a) λm=>
 oP (ev m h) λn=>
 oP (fD n) λo=>
 oP (er .lss 3 c o) λp=>
 bP p (
 oP (fH 0 a) λq=>
 oP (ev q h) λr=>
 oP (gD 1 r c) λs=>
 oP (ev s h) λt=>
 oP (gD 6 e t) λu=>
 oP (fH 0 u) λv=>
 oP (ev v h) λf=>
 oP (er .eql 3 f (V.int .i64 19)) λw=>
 oP (pN w (oB (some f) λx=>er .eql 3 x (V.int .i64 20))) λy=>
 bP y (
 oP (fH 0 a) λz=>
 oP (ev z h) λA=>
 oP (gD 1 A c) λB=>
 oP (ev B h) λD=>
 oP (fH 0 a) λE=>
 oP (ev E h) λF=>
 oP (gD 1 F c) λG=>
 oP (ev G h) λH=>
 oP (fN [nZ,nZ,nZ,nZ,nS,nZ] [(0,1),(1,1),(2,1),(3,1),(4,1),(5,1)] [(0,(V.int .i64 2)),(3,H)]) λI=>
 oP (gD 6 e D) λJ=>
 fm (gB 6 J I h) λW P=>
 (h.next<=P.next/\
 ku C Q b d [g,i,e,j,k,a,l,c] P)) (
 ku C Q b d [g,i,e,j,k,a,l,c] h)) (
 oP (fH 0 a) λK=>
 fm (gB 1 K l h) λR S=>
 oP (gg 6 a S) λL=>
 ij (iZ 44 6 1 (V.agg [nS,nZ,nZ,nS,nS,nZ]) [(0,L)]) S λM T=>
 fm (eR 44 6 96 j M T) λN U=>
 oP (er .add 3 k nO) λO=>
 b [g,i,e,N,O] U)
theorem Bm{C Q a}(I)(s:S8 I (tv C Q a)){k l h}(i:I k l h)(e:l.length=8:=by rfl):tK C Q a l h:=JV.l8 I _ s i e
def rE (C:fu)(Q:fx)(l:LP)(a:LP)(m n o p q j r k:V)(h:Hp):Prop:=
 oP (fH 0 j) λb=>
 oP (ev b h) λc=>
 oP (gD 1 c k) λd=>
 oP (ev d h) λe=>
 ij (iZ 3 1 1 nZ [(0,e)]) h λf s=>
 fm (eR 3 1 8 r f s) λg t=>
 oP (er .add 3 k nO) λi=>
 a [m,n,o,p,q,j,g,i] t
theorem As{C Q a b}:R8 (rE C Q a b) (ku C Q a b):=JV.r8 _
def wj (C:fu)(Q:fx)(a0:V)(h:Hp):Prop:=
 ij (nP 30 a0) h λe g=>
 ij (zC 30 [nZ,nZ,nS,nS,nS]) g λi j=>
 ij (iZ 42 6 0 (V.agg [nZ,nZ,nZ,nZ,nS,nZ]) []) j λa f=>
 oP (fH 2 e) λb=>
 oP (ev b f) λc=>
 fm (eR 42 6 64 a c f) λd k=>
 tA C Q [e,i,d,nS,nZ] k
theorem Dx{C}(s:C.start=fW){a0 h Q}(k:C.K mi [a0] h=none)(H:wj C Q a0 h):cP C mi [a0] h Q:=cP.vd t24 s (by unfold P0;exact Tryd.func24) k H
def t27:List (Nat×List Nat):=[(351,[5,6,7])]
def qS (C:fu)(Q:fx):LP:=JV C Tryd.f27 t27 175 [5,6,7] [] Q
def qt (C:fu)(Q:fx)(b:LP)(c i a:V)(h:Hp):Prop:=
 oP (fD c) λd=>
 bO .lss 3 a d (
 dX 1 c a h λe=>
 dX 1 i a h λf=>
 bO .neq 3 e f (
 Q bF h) (
 oP (er .add 3 a nO) λg=>
 b [c,i,g] h)) (
 Q bT h)
theorem zI{C Q}(I)(s:S3 I (qt C Q)){k l h}(i:I k l h)(e:l.length=3:=by rfl):qS C Q l h:=JV.l3 I _ s i e
def tT (C:fu)(Q:fx)(a0 a1:V)(h:Hp):Prop:=
 ij (nP 42 a0) h λb u=>
 ij (nP 42 a1) u λc a=>
 dF 0 b a λv=>
 dF 0 c a λd=>
 oP (er .neq 3 v d) λe=>
 oP (pN e (oB (fH 0 b) λf=>oB (ev f a) λg=>oB (er .eql 3 g (V.int .i64 2)) λi=>oB (some i) λj=>jK j (oB (fH 3 b) λk=>oB (ev k a) λl=>oB (fH 3 c) λm=>oB (ev m a) λn=>er .neq 2 l n))) λo=>
 bP o (
 Q bF a) (
 oP (gg 6 b a) λp=>
 cP C iu [p] a λq t=>
 oP (gg 6 c t) λr=>
 cP C iu [r] t λs w=>
 qS C Q [q,s,nZ] w)
theorem BF{C}(s:C.start=fW){a0 a1 h Q}(k:C.K lG [a0,a1] h=none)(H:tT C Q a0 a1 h):cP C lG [a0,a1] h Q:=cP.vd t27 s (by unfold P0;exact Tryd.func27) k H
def t7:List (Nat×List Nat):=[(703,[3,4,5,6]),(91327,[3,4,5,6,7]),(2815,[3,4,8,9]),(29438,[3,4,8,9]),(365311,[3,4,8,9,10])]
def ni (C:fu)(Q:fx):LP:=JV C Tryd.f7 t7 351 [3,4,5,6] [] Q
def na (C:fu)(Q:fx)(a:LP):LP:=JV C Tryd.f7 t7 45663 [3,4,5,6,7] [kf [3,4,5,6] a] Q
def j4 (C:fu)(Q:fx):LP:=JV C Tryd.f7 t7 1407 [3,4,8,9] [] Q
def iP (C:fu)(Q:fx)(a:LP):LP:=JV C Tryd.f7 t7 14719 [3,4,8,9] [kf [3,4,8,9] a] Q
def mZ (C:fu)(Q:fx)(a:LP):LP:=JV C Tryd.f7 t7 182655 [3,4,8,9,10] [kf [3,4,8,9] a] Q
def mX (C:fu)(Q:fx)(c:LP)(a j d b:V)(h:Hp):Prop:=
 dG 3 a h λe=>
 bO .lss 3 b e (
 dJ 3 a 6 b 3 h λf=>
 oP (gD 1 d b) λg=>
 fm (gB 1 g f h) λm k=>
 na C Q c [a,j,d,b,nZ] k) (
 cP C jW [d,nZ] h λi l=>
 j4 C Q [a,j,i,nZ] l)
theorem vS{C Q}(I)(s:S4 I (mX C Q)){k l h}(i:I k l h)(e:l.length=4:=by rfl):ni C Q l h:=JV.l4 I _ s i e
def nH (C:fu)(Q:fx)(c:LP)(d:LP)(b e p a f:V)(h:Hp):Prop:=
 dF 3 b h λg=>
 oP (gD 6 g a) λi=>
 dG 0 i h λj=>
 bO .lss 3 f j (
 dJ 3 b 6 a 0 h λk=>
 dX 1 k f h λl=>
 oP (gD 1 e l) λm=>
 fm (gB 1 m a h) λr q=>
 oP (er .add 3 f nO) λn=>
 d [b,e,p,a,n] q) (
 oP (er .add 3 a nO) λo=>
 c [b,e,p,o] h)
theorem vG{C Q a}(I)(s:S5 I (nH C Q a)){k l h}(i:I k l h)(e:l.length=5:=by rfl):na C Q a l h:=JV.l5 I _ s i e
def nt (C:fu)(Q:fx)(a:LP)(b g i c:V)(h:Hp):Prop:=
 dG 2 b h λd=>
 bO .lss 3 c d (
 dJ 2 b 6 c 0 h λe=>
 cP C lX [e] h λf j=>
 bN f (
 iP C Q a [b,g,i,c] j) (
 mZ C Q a [b,g,i,c,nZ] j)) (
 Q bT h)
theorem vP{C Q}(I)(s:S4 I (nt C Q)){k l h}(i:I k l h)(e:l.length=4:=by rfl):j4 C Q l h:=JV.l4 I _ s i e
def mQ (C:fu)(Q:fx)(a:LP)(c d e f:V)(h:Hp):Prop:=
 oP (er .add 3 f nO) λb=>
 a [c,d,e,b] h
theorem uU{C Q a}:R4 (mQ C Q a) (iP C Q a):=JV.r4 _
def ny (C:fu)(Q:fx)(E:LP)(F:LP)(d D G e b:V)(h:Hp):Prop:=
 dG 2 d h λH=>
 bO .lss 3 b H (
 oP (er .neq 3 e b) λa=>
 oP (fO true a) λT=>
 oP (gV T (fH 2 d)) λI=>
 oP (fO true a) λU=>
 oP (gV U (ev I h)) λJ=>
 oP (fO true a) λW=>
 oP (gV W (some e)) λK=>
 oP (fO true a) λX=>
 oP (gV X (gD 6 J K)) λf=>
 oP (fO true a) λY=>
 oP (gV Y (gg 6 f h)) λg=>
 oP (fO true a) λZ=>
 oP (gV Z (fH 2 d)) λi=>
 oP (fO true a) λL=>
 oP (gV L (ev i h)) λj=>
 oP (fO true a) λM=>
 oP (gV M (some b)) λk=>
 oP (fO true a) λN=>
 oP (gV N (gD 6 j k)) λl=>
 oP (fO true a) λO=>
 oP (gV O (gg 6 l h)) λm=>
 oP (fO true a) λP=>
 oP (gC P (some (lG,[g,m]))) λR=>wR C R h λn c=>
 (h.next<=c.next/\
 oP (lJ a n bF) λo=>
 oP (jK o (oB (some G) λp=>oB (some D) λq=>oB (some e) λr=>oB (gD 1 q r) λs=>oB (ev s c) λt=>oB (gD 1 p t) λu=>oB (ev u c) λv=>oB (some D) λw=>oB (some b) λx=>oB (gD 1 w x) λy=>oB (ev y c) λz=>oB (gD 1 v z) λA=>ev A c)) λB=>
 bP B (
 Q bF c) (
 oP (er .add 3 b nO) λS=>
 F [d,D,G,e,S] c))) (
 iP C Q E [d,D,G,e] h)
theorem vQ{C Q a}(I)(s:S5 I (ny C Q a)){k l h}(i:I k l h)(e:l.length=5:=by rfl):mZ C Q a l h:=JV.l5 I _ s i e
def oV (C:fu)(Q:fx)(a0:V)(h:Hp):Prop:=
 ij (nP 25 a0) h λu r=>
 oP (gg 3 u r) λe=>
 cP C mr [e] r λf v=>
 cP C mi [f] v λg w=>
 cP C sh [g] w λi x=>
 ij (zC 30 [nZ,nZ,nS,nS,nS]) x λb y=>
 fm (gB 5 b i y) λD z=>
 cP C nR [] z λj s=>
 oP (sr .not j) λa=>
 oP (fO false a) λb3=>
 oP (gV b3 (gg 5 b s)) λk=>
 oP (fO false a) λA=>
 oP (gC A (some (lE,[k]))) λB=>wR C B s λl m=>
 oP (pN a (sr .not l)) λn=>
 bP n (
 Q bF m) (
 dG 2 b m λc=>
 ij (gR 3 1 8 nZ c c) m λo t=>
 dG 3 b t λd=>
 ij (gR 23 1 24 nS d d) t λp q=>
 ni C Q [b,o,p,nZ] q)
theorem xW{C}(s:C.start=fW){a0 h Q}(k:C.K lF [a0] h=none)(H:oV C Q a0 h):cP C lF [a0] h Q:=cP.vd t7 s (by unfold P0;exact Tryd.func7) k H
def t26:List (Nat×List Nat):=[]
def vC (C:fu)(Q:fx)(a0:V)(h:Hp):Prop:=
 oP (er .geq 3 a0 (V.int .i64 2)) λa=>
 oP (jK a (oB (some a0) λb=>er .leq 3 b (V.int .i64 16))) λc=>
 Q c h
theorem Cv{C}(s:C.start=fW){a0 h Q}(k:C.K lX [a0] h=none)(H:vC C Q a0 h):cP C lX [a0] h Q:=cP.vd t26 s (by unfold P0;exact Tryd.func26) k H
end
