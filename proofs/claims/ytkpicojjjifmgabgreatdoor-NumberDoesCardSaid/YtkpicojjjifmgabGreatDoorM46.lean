/- Parts. -/
import Derived.Test.YtkpicojjjifmgabGreatDoorM47
set_option maxHeartbeats 4000000
namespace Go.Proofs.YtkpicojjjifmgabGreatDoor.Hx
set_option maxRecDepth 100000
noncomputable section
def t8:List (Nat×List Nat):=[(351,[2,3,26,27,28]),(7774,[2,3,26,27,28])]
def AT(C:fu)(Q:fD):LP:=JV C Tryz.f8 t8 175 [2,3,26,27,28] [] Q
def pB(C:fu)(Q:fD)(fU:LP):LP:=JV C Tryz.f8 t8 3887 [2,3,26,27,28] [kf [2,3,26,27,28] fU] Q
def Bd(C:fu)(Q:fD)(fU:LP)(o b c d a:V)(h:Hp):Prop:=bO .lss 3 a d (dX 1 c a h λe=>bO .geq 3 e nZ (oP (iL b) λr=>oP (fJ 6 r) λf=>oP (fe f h) λg=>oP (iL b) λs=>oP (fJ 6 s) λk=>oP (fe k h) λl=>oP (gB 1 l e) λm=>oP (fe m h) λn=>yp (jz 3 1 1 nZ [(0,a)]) h λi t j=>((j.get (h.next)=some i/\O.beq i i=true)/\((fe m j=some n)/\((fe k j=some l)/\((fe f j=some g)/\fm (fh 3 1 8 n t j) λu p=>(j.next<=p.next/\oP (gB 1 g e) λv=>((fe f p=some g)/\fm (gJ 1 v u p) λH E=>(p.next<=E.next/\pB C Q fU [o,b,c,d,a] E)))))))) (pB C Q fU [o,b,c,d,a] h)) (cP C mY [b] h λG q=>oP (iL b) λw=>oP (fJ 0 w) λx=>oP (fW 5 x q) λy=>dN 5 b q λz=>cP C AW [y,z] q λA B=>(q.next<=B.next/\fm (gJ 5 o A B) λF D=>(B.next<=D.next/\oP (fW 5 o D) λr2=>Q r2 D)))
theorem Jd{C Q}(I)(s:S5 I (Bd C Q)){k l h}(i:I k l h)(e:l.length=5:=by rfl):AT C Q l h:=JV.l5 I _ s i e
def zV(C:fu)(Q:fD)(fU:LP)(e f a b c:V)(h:Hp):Prop:=oP (ez .add 3 c nO) λd=>fU [e,f,a,b,d] h
theorem Im{C Q fU}:R5 (zV C Q fU) (pB C Q fU):=JV.r5 _
def FO(C:fu)(Q:fD)(a0:V)(h:Hp):Prop:=hV (lR 30 a0) h λa H=>hV (zC 30 [nZ,nZ,nS,nS,nS]) H λo E=>oP (fW 5 a E) λI=>cP C Cf [I] E λJ c=>bN J (oP (fW 5 a c) λK=>cP C vB [K] c λp L=>fm (gJ 5 o p L) λM F=>oP (fW 5 o F) λr2=>Q r2 F) (oP (fW 5 a c) λe=>oP (fW 5 a c) λd=>yp (some (.map [] 0,λl=> .map l)) c λb q f=>((f.get (c.next)=some b/\O.beq b b=true)/\((fW 5 a f=some d)/\((fW 5 a f=some e)/\cP C vB [e] f λr g=>(f.next<=g.next/\((g.get (c.next)=some b/\O.beq b b=true)/\((fW 5 a g=some d)/\cP C Fh [d] g λs t=>(g.next<=t.next/\oP (fV [nZ,nZ,nS,nS,nS,nS,nS,V.l0] [(0,5),(5,1),(6,1),(7,1)] [(0,r),(1,s),(3,q)]) λu=>yp (lR 60 u) t λv i n=>((n.get (t.next)=some v/\O.beq v v=true)/\((n.get (c.next)=some b/\O.beq b b=true)/\dG 3 a n λj=>hV (iz 22 1 24 nS j j) n λw x=>oP (iL i) λy=>oP (fJ 6 y) λz=>fm (gJ 1 z w x) λG k=>oP (fW 5 a k) λA=>cP C pT [A] k λm B=>oP (fI m) λD=>AT C Q [o,i,m,D,nZ] B))))))))))
theorem Mk{C}(s:C.start=fQ){a0 h Q}(k:C.K ve [a0] h=none)(H:FO C Q a0 h):cP C ve [a0] h Q:=cP.vd t8 s (by unfold P0;exact Tryz.func8) k H
def t23:List (Nat×List Nat):=[(11,[0,2]),(10579,[0,2,38,39,40])]
def ti(C:fu)(Q:fD):LP:=JV C Tryz.f23 t23 5 [0,2] [] Q
def sW(C:fu)(Q:fD)(fU:LP):LP:=JV C Tryz.f23 t23 5289 [0,2,38,39,40] [kf [0,2] fU] Q
def tQ(C:fu)(Q:fD)(fU:LP)(b c:V)(h:Hp):Prop:=oP (fI c) λf=>bO .gtr 3 f nZ (oP (fI c) λg=>oP (ez .sub 3 g nO) λi=>oP (gB 3 c i) λa=>dN 1 a h λj=>dN 6 b h λk=>dN 0 a h λl=>dX 1 k l h λm=>oP (fI m) λn=>bO .eql 3 j n (dN 2 a h λd=>oP (fI d) λo=>sW C Q fU [b,c,d,o,nZ] h) (dN 6 b h λp=>dN 0 a h λq=>dX 1 p q h λr=>dN 1 a h λs=>dX 1 r s h λe=>dN 1 a h λt=>oP (ez .add 3 t nO) λu=>oP (iL a) λv=>oP (fJ 1 v) λw=>fm (gJ 1 w u h) λG B=>cP C kH [b,e] B λx D=>oP (fV [nZ,nZ,nS] [(0,1),(1,1),(2,1)] [(0,e),(1,nZ),(2,x)]) λy=>hV (jz 103 3 1 (V.agg [nZ,nZ,nS]) [(0,y)]) D λz E=>fm (fh 103 3 40 c z E) λA F=>fU [b,A] F)) (Q (V.tuple []) h)
theorem BX{C Q}(I)(s:S2 I (tQ C Q)){k l h}(i:I k l h)(e:l.length=2:=by rfl):ti C Q l h:=JV.l2 I _ s i e
def se(C:fu)(Q:fD)(fU:LP)(e:LP)(f g b c a:V)(h:Hp):Prop:=bO .lss 3 a c (oP (gB 4 b a) λi=>oP (fW 4 i h) λj=>hV (zC 107 [nZ,nZ,nZ,nZ]) h λq t=>fm (gJ 4 q j t) λu d=>dN 7 f d λk=>oP (fW 4 q d) λl=>fm (Cp 107 (wN) k l d) λr s=>(d.next<=s.next/\oP (ez .add 3 a nO) λm=>e [f,g,b,c,m] s)) (oP (fI g) λn=>oP (ez .sub 3 n nO) λo=>oP (jA 3 g none (some o) h) λp=>fU [f,p] h)
theorem Cb{C Q fU}(I)(s:S5 I (se C Q fU)){k l h}(i:I k l h)(e:l.length=5:=by rfl):sW C Q fU l h:=JV.l5 I _ s i e
def xm(C:fu)(Q:fD)(a0:V)(h:Hp):Prop:=cP C kH [a0,nZ] h λb c=>oP (fV [nZ,nZ,nS] [(0,1),(1,1),(2,1)] [(0,nZ),(1,nZ),(2,b)]) λd=>hV (jz 103 3 1 (V.agg [nZ,nZ,nS]) [(0,d)]) c λa e=>ti C Q [a0,a] e
theorem Ft{C}(s:C.start=fQ){a0 h Q}(k:C.K mY [a0] h=none)(H:xm C Q a0 h):cP C mY [a0] h Q:=cP.vd t23 s (by unfold P0;exact Tryz.func23) k H
def t57:List (Nat×List Nat):=[(87,[0,5,20,21,22]),(1942,[0,5,20,21,22])]
def rH(C:fu)(Q:fD):LP:=JV C Tryz.f57 t57 43 [0,5,20,21,22] [] Q
def jF(C:fu)(Q:fD)(fU:LP):LP:=JV C Tryz.f57 t57 971 [0,5,20,21,22] [kf [0,5,20,21,22] fU] Q
def rE(C:fu)(Q:fD)(fU:LP)(e i b c a:V)(h:Hp):Prop:=bO .lss 3 a c (dX 1 b a h λf=>oP (iL e) λk=>oP (fJ 0 k) λl=>dF 2 l h λm=>oP (gB 6 m f) λn=>oP (fW 6 n h) λo=>hV (zC 34 [nZ,nZ,nZ,nZ,nS,nZ]) h λp N=>fm (gJ 6 p o N) λT J=>dF 0 p J λq=>cP C Fi [q] J λr s=>bN r (jF C Q fU [e,i,b,c,a] s) (oP (fW 6 p s) λt=>cP C nY [e,t] s λu O=>hV (zC 107 [nZ,nZ,nZ,nZ]) O λj P=>fm (gJ 4 j u P) λK d=>dN 7 e d λv=>oP (fW 4 j d) λw=>oP (LU 107 (wN) nZ true v w d) λg=>oP (CN 0 g) λx=>oP (CN 1 g) λy=>bP y (dN 5 e d λz=>oP (gB 1 z f) λA=>fm (gJ 1 A x d) λL R=>jF C Q fU [e,i,b,c,a] R) (dN 7 e d λB=>oP (fW 4 j d) λD=>fm (J4 107 (wN) B D f d) λM E=>(d.next<=E.next/\oP (fW 4 j E) λF=>hV (jz 107 4 1 (V.agg [nZ,nZ,nZ,nZ]) [(0,F)]) E λG S=>fm (fh 107 4 32 i G S) λH I=>jF C Q fU [e,H,b,c,a] I)))) (Q i h)
theorem AS{C Q}(I)(s:S5 I (rE C Q)){k l h}(i:I k l h)(e:l.length=5:=by rfl):rH C Q l h:=JV.l5 I _ s i e
def rB(C:fu)(Q:fD)(fU:LP)(e f a b c:V)(h:Hp):Prop:=oP (ez .add 3 c nO) λd=>fU [e,f,a,b,d] h
theorem Bs{C Q fU}:R5 (rB C Q fU) (jF C Q fU):=JV.r5 _
def vT(C:fu)(Q:fD)(a0 a1:V)(h:Hp):Prop:=oP (iL a0) λb=>oP (fJ 0 b) λc=>dJ 3 c 6 a1 0 h λa=>oP (fI a) λd=>rH C Q [a0,nS,a,d,nZ] h
theorem DC{C}(s:C.start=fQ){a0 a1 h Q}(k:C.K kH [a0,a1] h=none)(H:vT C Q a0 a1 h):cP C kH [a0,a1] h Q:=cP.vd t57 s (by unfold P0;exact Tryz.func57) k H
def t85:List (Nat×List Nat):=[(62,[0,3,4,5,6]),(126,[3,4,5]),(254,[4,5])]
def mb(C:fu)(Q:fD):LP:=JV C Tryz.f85 t85 31 [0,3,4,5,6] [] Q
def mj(C:fu)(Q:fD):LP:=JV C Tryz.f85 t85 63 [3,4,5] [] Q
def mg(C:fu)(Q:fD):LP:=JV C Tryz.f85 t85 127 [4,5] [] Q
def um(C:fu)(Q:fD)(l g i a j:V)(h:Hp):Prop:=oP (fI j) λb=>bO .gtr 3 b nO (dN 5 l h λc=>dX 1 j nO h λd=>dX 1 c d h λe=>oP (fJ 2 a) λf=>fm (gJ 1 f e h) λm k=>(h.next<=k.next/\mj C Q [g,i,a] k)) (mj C Q [g,i,a] h)
theorem Dg{C Q}:R5 (um C Q) (mb C Q):=JV.r5 _
def uU(C:fu)(Q:fD)(e f a:V)(h:Hp):Prop:=dF 0 e h λb=>bO .eql 3 b (V.I 2) (dF 3 e h λc=>oP (fJ 3 a) λd=>fm (gJ 1 d c h) λi g=>mg C Q [f,a] g) (mg C Q [f,a] h)
theorem CK{C Q}:R3 (uU C Q) (mj C Q):=JV.r3 _
def ux(C:fu)(Q:fD)(b d:V)(h:Hp):Prop:=oP (fW 4 d h) λa=>fm (gJ 4 b a h) λf c=>oP (fW 4 b c) λe=>Q e c
theorem CM{C Q}:R2 (ux C Q) (mg C Q):=JV.r2 _
def yK(C:fu)(Q:fD)(a0 a1:V)(h:Hp):Prop:=hV (lR 34 a1) h λc q=>hV (zC 107 [nZ,nZ,nZ,nZ]) q λl m=>dF 0 c m λr=>oP (fV [nZ,nZ,nZ,nZ] [(0,1),(1,1),(2,1),(3,1)] [(0,r),(1,(V.I (-1))),(2,(V.I (-1)))]) λs=>hV (zC 107 [nZ,nZ,nZ,nZ]) m λd t=>fm (gJ 4 d s t) λu n=>oP (fW 6 c n) λe=>cP C p9 [e] n λa b=>oP (fI a) λf=>bO .gtr 3 f nZ (dN 5 a0 b λg=>dX 1 a nZ b λi=>dX 1 g i b λj=>oP (fJ 1 d) λk=>fm (gJ 1 k j b) λo p=>(b.next<=p.next/\mb C Q [a0,c,l,d,a] p)) (mb C Q [a0,c,l,d,a] b)
theorem FW{C}(s:C.start=fQ){a0 a1 h Q}(k:C.K nY [a0,a1] h=none)(H:yK C Q a0 a1 h):cP C nY [a0,a1] h Q:=cP.vd t85 s (by unfold P0;exact Tryz.func85) k H
def t84:List (Nat×List Nat):=[]
def N5(C:fu)(Q:fD)(a0:V)(h:Hp):Prop:=oP (ez .geq 3 a0 (V.I 2)) λa=>oP (kE a (oB (some a0) λb=>ez .leq 3 b (V.I 16))) λc=>Q c h
theorem T9{C}(s:C.start=fQ){a0 h Q}(k:C.K Fi [a0] h=none)(H:N5 C Q a0 h):cP C Fi [a0] h Q:=cP.vd t84 s (by unfold P0;exact Tryz.func84) k H
def t5:List (Nat×List Nat):=[(175,[1,2,3,4,5]),(88367,[1,2,3,4,5,6,7,8]),(7493934,[1,2,3,4,5,6,7,8])]
def wK(C:fu)(Q:fD):LP:=JV C Tryz.f5 t5 87 [1,2,3,4,5] [] Q
def wR(C:fu)(Q:fD)(fU:LP):LP:=JV C Tryz.f5 t5 44183 [1,2,3,4,5,6,7,8] [kf [1,2,3,4,5] fU] Q
def mi(C:fu)(Q:fD)(fU:LP)(a:LP):LP:=JV C Tryz.f5 t5 3746967 [1,2,3,4,5,6,7,8] [kf [1,2,3,4,5] fU,kf [1,2,3,4,5,6,7,8] a] Q
def vY(C:fu)(Q:fD)(fU:LP)(a b p q c:V)(h:Hp):Prop:=oP (fJ 3 a) λd=>oP (fe d h) λe=>oP (fI e) λf=>oP (ez .lss 3 c f) λg=>bP g (oP (fJ 3 a) λi=>oP (fe i h) λj=>oP (gB 6 j c) λk=>oP (fW 6 k h) λl=>hV (zC 45 [nS,nZ,nZ,nS,nS,nZ]) h λr x=>fm (gJ 6 r l x) λA y=>wR C Q fU [a,b,p,q,c,r,nS,nZ] y) (oP (fJ 2 a) λm=>fm (gJ 1 m p h) λs z=>oP (fJ 3 a) λn=>fm (gJ 1 n q z) λt u=>oP (fW 5 a u) λo=>fm (gJ 5 b o u) λv w=>oP (fW 5 b w) λr2=>Q r2 w)
theorem Dv{C Q}(I)(s:S5 I (vY C Q)){k l h}(i:I k l h)(e:l.length=5:=by rfl):wK C Q l h:=JV.l5 I _ s i e
def vX(C:fu)(Q:fD)(fU:LP)(c:LP)(f g d i j a k b:V)(h:Hp):Prop:=oP (fJ 0 a) λl=>oP (fe l h) λm=>oP (fI m) λn=>oP (ez .lss 3 b n) λo=>bP o (oP (fJ 0 a) λp=>oP (fe p h) λq=>oP (gB 1 q b) λr=>oP (fe r h) λs=>oP (gB 6 d s) λt=>oP (fJ 0 t) λu=>oP (fe u h) λe=>oP (ez .eql 3 e (V.I 19)) λv=>oP (og v (oB (some e) λw=>ez .eql 3 w (V.I 20))) λx=>bP x (oP (fJ 0 a) λy=>oP (fe y h) λz=>oP (gB 1 z b) λA=>oP (fe A h) λB=>oP (fJ 0 a) λD=>oP (fe D h) λE=>oP (gB 1 E b) λF=>oP (fe F h) λG=>oP (fV [nZ,nZ,nZ,nZ,nS,nZ] [(0,1),(1,1),(2,1),(3,1),(4,1),(5,1)] [(0,(V.I 2)),(3,G)]) λH=>oP (gB 6 d B) λI=>fm (gJ 6 I H h) λU O=>(h.next<=O.next/\mi C Q fU c [f,g,d,i,j,a,k,b] O)) (mi C Q fU c [f,g,d,i,j,a,k,b] h)) (oP (fJ 0 a) λJ=>fm (gJ 1 J k h) λP R=>oP (fW 6 a R) λK=>hV (jz 45 6 1 (V.agg [nS,nZ,nZ,nS,nS,nZ]) [(0,K)]) R λL S=>fm (fh 45 6 96 i L S) λM T=>oP (ez .add 3 j nO) λN=>fU [f,g,d,M,N] T)
theorem Dr{C Q fU}(I)(s:S8 I (vX C Q fU)){k l h}(i:I k l h)(e:l.length=8:=by rfl):wR C Q fU l h:=JV.l8 I _ s i e
def uQ(C:fu)(Q:fD)(fU:LP)(a:LP)(l m n o p j q k:V)(h:Hp):Prop:=oP (fJ 0 j) λb=>oP (fe b h) λc=>oP (gB 1 c k) λd=>oP (fe d h) λe=>hV (jz 3 1 1 nZ [(0,e)]) h λf r=>fm (fh 3 1 8 q f r) λg s=>oP (ez .add 3 k nO) λi=>a [l,m,n,o,p,j,g,i] s
theorem Df{C Q fU a}:R8 (uQ C Q fU a) (mi C Q fU a):=JV.r8 _
def zF(C:fu)(Q:fD)(a0:V)(h:Hp):Prop:=hV (lR 30 a0) h λe g=>hV (zC 30 [nZ,nZ,nS,nS,nS]) g λi j=>hV (jz 34 6 0 (V.agg [nZ,nZ,nZ,nZ,nS,nZ]) []) j λa f=>oP (fJ 2 e) λb=>oP (fe b f) λc=>fm (fh 34 6 64 a c f) λd k=>wK C Q [e,i,d,nS,nZ] k
theorem GA{C}(s:C.start=fQ){a0 h Q}(k:C.K oI [a0] h=none)(H:zF C Q a0 h):cP C oI [a0] h Q:=cP.vd t5 s (by unfold P0;exact Tryz.func5) k H
end
set_option maxRecDepth 100000
noncomputable section
def t9:List (Nat×List Nat):=[]
def NT(C:fu)(Q:fD)(a0 a1:V)(h:Hp):Prop:=hV (lR 30 a0) h λe Y=>hV (lR 30 a1) Y λf d=>dF 0 e d λZ=>dF 0 f d λv8=>oP (ez .eql 3 Z v8) λv9=>oP (kE v9 (oB (fJ 1 e) λg=>oB (fe g d) λi=>oB (fJ 1 f) λj=>oB (fe j d) λk=>ez .eql 3 i k)) λa=>oP (fF true a) λl=>oP (gV l (fJ 2 e)) λm=>oP (fF true a) λn=>oP (gV n (fe m d)) λo=>oP (fF true a) λp=>oP (gV p (fJ 2 f)) λq=>oP (fF true a) λr=>oP (gV r (fe q d)) λs=>oP (fF true a) λt=>oP (gC t (some (gS,[o,s,(V.func qu [] [])]))) λu=>qP C u d λv w=>oP (jB a v bF) λb=>oP (fF true b) λx=>oP (gV x (fJ 3 e)) λy=>oP (fF true b) λz=>oP (gV z (fe y w)) λA=>oP (fF true b) λB=>oP (gV B (fJ 3 f)) λD=>oP (fF true b) λE=>oP (gV E (fe D w)) λF=>oP (fF true b) λG=>oP (gC G (some (gG,[A,F,(V.func oG [] [])]))) λH=>qP C H w λI J=>oP (jB b I bF) λc=>oP (fF true c) λK=>oP (gV K (fJ 4 e)) λL=>oP (fF true c) λM=>oP (gV M (fe L J)) λN=>oP (fF true c) λO=>oP (gV O (fJ 4 f)) λP=>oP (fF true c) λR=>oP (gV R (fe P J)) λS=>oP (fF true c) λT=>oP (gC T (some (gI,[N,S,(V.func qc [] [])]))) λU=>qP C U J λW h5=>oP (jB c W bF) λX=>Q X h5
theorem TP{C}(s:C.start=fQ){a0 a1 h Q}(k:C.K E2 [a0,a1] h=none)(H:NT C Q a0 a1 h):cP C E2 [a0,a1] h Q:=cP.vd t9 s (by unfold P0;exact Tryz.func9) k H
def t26:List (Nat×List Nat):=[]
def Iy(C:fu)(Q:fD)(a0 a1:V)(h:Hp):Prop:=hV (lR 34 a0) h λb E=>hV (lR 34 a1) E λd c=>dF 0 b c λF=>dF 0 d c λG=>oP (ez .neq 3 F G) λa=>oP (fF false a) λH=>oP (gV H (fW 6 b c)) λk=>oP (fF false a) λD=>oP (gV D (fW 6 d c)) λe=>oP (fF false a) λI=>oP (gC I (some (p9,[k]))) λJ=>qP C J c λl g=>(c.next<=g.next/\((gT D (fW 6 d g=some e))/\oP (fF false a) λK=>oP (gC K (some (p9,[e]))) λL=>qP C L g λm n=>(g.next<=n.next/\oP (fF false a) λo=>oP (gC o (some (hY,[l,m]))) λp=>qP C p n λq i=>(n.next<=i.next/\oP (og a (qf .not q)) λr=>bP r (Q bF i) (dF 0 b i λs=>cP C xi [s] i λt f=>bP t (dF 3 b f λu=>dF 3 d f λv=>oP (ez .eql 2 u v) λw=>Q w f) (dF 0 b f λx=>cP C oJ [x] f λy j=>bP y (dF 5 b j λz=>dF 5 d j λA=>oP (ez .eql 3 z A) λB=>Q B j) (Q bT j)))))))
theorem O0{C}(s:C.start=fQ){a0 a1 h Q}(k:C.K qu [a0,a1] h=none)(H:Iy C Q a0 a1 h):cP C qu [a0,a1] h Q:=cP.vd t26 s (by unfold P0;exact Tryz.func26) k H
def t28:List (Nat×List Nat):=[]
def FL(C:fu)(Q:fD)(a0 a1:V)(h:Hp):Prop:=hV (lR 45 a0) h λc h1=>hV (lR 45 a1) h1 λe g=>dF 1 c g λv6=>dF 1 e g λv8=>oP (ez .neq 3 v6 v8) λf=>oP (fF false f) λb6=>oP (gV b6 (fJ 0 c)) λi=>oP (fF false f) λb7=>oP (gV b7 (fe i g)) λj=>oP (fF false f) λb8=>oP (gV b8 (fJ 0 e)) λk=>oP (fF false f) λb9=>oP (gV b9 (fe k g)) λl=>oP (fF false f) λm=>oP (gC m (some (hY,[j,l]))) λn=>qP C n g λo p=>oP (og f (qf .not o)) λa=>oP (fF false a) λq=>oP (gV q (fJ 3 c)) λr=>oP (fF false a) λs=>oP (gV s (fe r p)) λt=>oP (fF false a) λu=>oP (gV u (fJ 3 e)) λv=>oP (fF false a) λw=>oP (gV w (fe v p)) λx=>oP (fF false a) λy=>oP (gC y (some (hY,[t,x]))) λz=>qP C z p λA B=>oP (og a (qf .not A)) λb=>oP (fF false b) λD=>oP (gV D (fJ 4 c)) λE=>oP (fF false b) λF=>oP (gV F (fe E B)) λG=>oP (fF false b) λH=>oP (gV H (fJ 4 e)) λI=>oP (fF false b) λJ=>oP (gV J (fe I B)) λK=>oP (fF false b) λL=>oP (gC L (some (hY,[G,K]))) λM=>qP C M B λN d=>oP (og b (qf .not N)) λO=>bP O (Q bF d) (dF 1 c d λP=>oP (ez .neq 3 P (V.I 2)) λR=>oP (og R (oB (fJ 2 c) λS=>oB (fe S d) λT=>oB (fJ 2 e) λU=>oB (fe U d) λW=>ez .eql 3 T W)) λX=>oP (kE X (oB (fJ 1 c) λY=>oB (fe Y d) λZ=>oB (ez .neq 3 Z (V.I 3)) λaa=>oB (some aa) λab=>og ab (oB (fJ 5 c) λac=>oB (fe ac d) λae=>oB (fJ 5 e) λag=>oB (fe ag d) λah=>ez .eql 3 ae ah))) λai=>Q ai d)
theorem Ms{C}(s:C.start=fQ){a0 a1 h Q}(k:C.K oG [a0,a1] h=none)(H:FL C Q a0 a1 h):cP C oG [a0,a1] h Q:=cP.vd t28 s (by unfold P0;exact Tryz.func28) k H
def t30:List (Nat×List Nat):=[]
def FP(C:fu)(Q:fD)(a0 a1:V)(h:Hp):Prop:=hV (lR 52 a0) h λb c=>hV (lR 52 a1) c λd a=>dF 0 b a λe=>dF 0 d a λf=>cP C gD [e,f,(V.func mL [] [])] a λg i=>Q g i
theorem Mo{C}(s:C.start=fQ){a0 a1 h Q}(k:C.K qc [a0,a1] h=none)(H:FP C Q a0 a1 h):cP C qc [a0,a1] h Q:=cP.vd t30 s (by unfold P0;exact Tryz.func30) k H
def t65:List (Nat×List Nat):=[]
def CA(C:fu)(Q:fD)(a0 a1:V)(h:Hp):Prop:=hV (lR 49 a0) h λd J=>hV (lR 49 a1) J λe c=>dF 0 d c λK=>dF 0 e c λL=>oP (ez .eql 3 K L) λM=>oP (kE M (oB (fJ 1 d) λf=>oB (fe f c) λg=>oB (fJ 1 e) λi=>oB (fe i c) λj=>ez .eql 3 g j)) λa=>oP (fF true a) λk=>oP (gV k (fJ 2 d)) λl=>oP (fF true a) λm=>oP (gV m (fe l c)) λn=>oP (fF true a) λo=>oP (gV o (fJ 2 e)) λp=>oP (fF true a) λq=>oP (gV q (fe p c)) λr=>oP (fF true a) λs=>oP (gC s (some (hY,[n,r]))) λt=>qP C t c λu v=>oP (jB a u bF) λb=>oP (fF true b) λw=>oP (gV w (fJ 3 d)) λx=>oP (fF true b) λy=>oP (gV y (fe x v)) λz=>oP (fF true b) λA=>oP (gV A (fJ 3 e)) λB=>oP (fF true b) λD=>oP (gV D (fe B v)) λE=>oP (fF true b) λF=>oP (gC F (some (hY,[z,E]))) λG=>qP C G v λH N=>oP (jB b H bF) λI=>Q I N
theorem Kd{C}(s:C.start=fQ){a0 a1 h Q}(k:C.K mL [a0,a1] h=none)(H:CA C Q a0 a1 h):cP C mL [a0,a1] h Q:=cP.vd t65 s (by unfold P0;exact Tryz.func65) k H
def t62:List (Nat×List Nat):=[]
def Hj(C:fu)(Q:fD)(a0:V)(h:Hp):Prop:=oP (ez .eql 3 a0 nO) λe=>oP (og e (oB (some a0) λf=>ez .eql 3 f (V.I 2))) λg=>oP (og g (oB (some a0) λa=>ez .eql 3 a (V.I 17))) λb=>oP (og b (oB (some a0) λc=>ez .eql 3 c (V.I 19))) λd=>Q d h
theorem M5{C}(s:C.start=fQ){a0 h Q}(k:C.K xi [a0] h=none)(H:Hj C Q a0 h):cP C xi [a0] h Q:=cP.vd t62 s (by unfold P0;exact Tryz.func62) k H
def t25:List (Nat×List Nat):=[(87,[1,2,15,16,17])]
def ju(C:fu)(Q:fD):LP:=JV C Tryz.f25 t25 43 [1,2,15,16,17] [] Q
def jt(C:fu)(Q:fD)(fU:LP)(n o b c a:V)(h:Hp):Prop:=bO .lss 3 a c (oP (gB 6 b a) λd=>oP (fW 6 d h) λe=>hV (zC 34 [nZ,nZ,nZ,nZ,nS,nZ]) h λp u=>fm (gJ 6 p e u) λw q=>oP (gB 6 n a) λf=>oP (fW 6 f q) λg=>hV (zC 34 [nZ,nZ,nZ,nZ,nS,nZ]) q λr v=>fm (gJ 6 r g v) λs i=>oP (fW 6 p i) λj=>oP (fW 6 r i) λk=>ij C (gv o [j,k]) i λl t=>bN l (Q bF t) (oP (ez .add 3 a nO) λm=>fU [n,o,b,c,m] t)) (Q bT h)
theorem mU{C Q}(I)(s:S5 I (jt C Q)){k l h}(i:I k l h)(e:l.length=5:=by rfl):ju C Q l h:=JV.l5 I _ s i e
def jJ(C:fu)(Q:fD)(a0 a1 a2:V)(h:Hp):Prop:=oP (fI a0) λa=>oP (fI a1) λb=>bO .neq 3 a b (Q bF h) (oP (fI a0) λc=>ju C Q [a1,a2,a0,c,nZ] h)
theorem nH{C}(s:C.start=fQ){a0 a1 a2 h Q}(k:C.K gS [a0,a1,a2] h=none)(H:jJ C Q a0 a1 a2 h):cP C gS [a0,a1,a2] h Q:=cP.vd t25 s (by unfold P0;exact Tryz.func25) k H
def t27:List (Nat×List Nat):=[(87,[1,2,15,16,17])]
def iU(C:fu)(Q:fD):LP:=JV C Tryz.f27 t27 43 [1,2,15,16,17] [] Q
def iY(C:fu)(Q:fD)(fU:LP)(n o b c a:V)(h:Hp):Prop:=bO .lss 3 a c (oP (gB 6 b a) λd=>oP (fW 6 d h) λe=>hV (zC 45 [nS,nZ,nZ,nS,nS,nZ]) h λp u=>fm (gJ 6 p e u) λw q=>oP (gB 6 n a) λf=>oP (fW 6 f q) λg=>hV (zC 45 [nS,nZ,nZ,nS,nS,nZ]) q λr v=>fm (gJ 6 r g v) λs i=>oP (fW 6 p i) λj=>oP (fW 6 r i) λk=>ij C (gv o [j,k]) i λl t=>bN l (Q bF t) (oP (ez .add 3 a nO) λm=>fU [n,o,b,c,m] t)) (Q bT h)
theorem lg{C Q}(I)(s:S5 I (iY C Q)){k l h}(i:I k l h)(e:l.length=5:=by rfl):iU C Q l h:=JV.l5 I _ s i e
def jh(C:fu)(Q:fD)(a0 a1 a2:V)(h:Hp):Prop:=oP (fI a0) λa=>oP (fI a1) λb=>bO .neq 3 a b (Q bF h) (oP (fI a0) λc=>iU C Q [a1,a2,a0,c,nZ] h)
theorem lV{C}(s:C.start=fQ){a0 a1 a2 h Q}(k:C.K gG [a0,a1,a2] h=none)(H:jh C Q a0 a1 a2 h):cP C gG [a0,a1,a2] h Q:=cP.vd t27 s (by unfold P0;exact Tryz.func27) k H
def t29:List (Nat×List Nat):=[(87,[1,2,15,16,17])]
def iW(C:fu)(Q:fD):LP:=JV C Tryz.f29 t29 43 [1,2,15,16,17] [] Q
def iX(C:fu)(Q:fD)(fU:LP)(n o b c a:V)(h:Hp):Prop:=bO .lss 3 a c (oP (gB 1 b a) λd=>oP (fW 1 d h) λe=>hV (zC 52 [nS]) h λp u=>fm (gJ 1 p e u) λw q=>oP (gB 1 n a) λf=>oP (fW 1 f q) λg=>hV (zC 52 [nS]) q λr v=>fm (gJ 1 r g v) λs i=>oP (fW 1 p i) λj=>oP (fW 1 r i) λk=>ij C (gv o [j,k]) i λl t=>bN l (Q bF t) (oP (ez .add 3 a nO) λm=>fU [n,o,b,c,m] t)) (Q bT h)
theorem kZ{C Q}(I)(s:S5 I (iX C Q)){k l h}(i:I k l h)(e:l.length=5:=by rfl):iW C Q l h:=JV.l5 I _ s i e
def jf(C:fu)(Q:fD)(a0 a1 a2:V)(h:Hp):Prop:=oP (fI a0) λa=>oP (fI a1) λb=>bO .neq 3 a b (Q bF h) (oP (fI a0) λc=>iW C Q [a1,a2,a0,c,nZ] h)
theorem lY{C}(s:C.start=fQ){a0 a1 a2 h Q}(k:C.K gI [a0,a1,a2] h=none)(H:jf C Q a0 a1 a2 h):cP C gI [a0,a1,a2] h Q:=cP.vd t29 s (by unfold P0;exact Tryz.func29) k H
def t64:List (Nat×List Nat):=[(87,[1,2,15,16,17])]
def iV(C:fu)(Q:fD):LP:=JV C Tryz.f64 t64 43 [1,2,15,16,17] [] Q
def iT(C:fu)(Q:fD)(fU:LP)(n o b c a:V)(h:Hp):Prop:=bO .lss 3 a c (oP (gB 4 b a) λd=>oP (fW 4 d h) λe=>hV (zC 49 [nZ,nZ,nS,nS]) h λp u=>fm (gJ 4 p e u) λw q=>oP (gB 4 n a) λf=>oP (fW 4 f q) λg=>hV (zC 49 [nZ,nZ,nS,nS]) q λr v=>fm (gJ 4 r g v) λs i=>oP (fW 4 p i) λj=>oP (fW 4 r i) λk=>ij C (gv o [j,k]) i λl t=>bN l (Q bF t) (oP (ez .add 3 a nO) λm=>fU [n,o,b,c,m] t)) (Q bT h)
theorem kY{C Q}(I)(s:S5 I (iT C Q)){k l h}(i:I k l h)(e:l.length=5:=by rfl):iV C Q l h:=JV.l5 I _ s i e
def je(C:fu)(Q:fD)(a0 a1 a2:V)(h:Hp):Prop:=oP (fI a0) λa=>oP (fI a1) λb=>bO .neq 3 a b (Q bF h) (oP (fI a0) λc=>iV C Q [a1,a2,a0,c,nZ] h)
theorem lW{C}(s:C.start=fQ){a0 a1 a2 h Q}(k:C.K gD [a0,a1,a2] h=none)(H:je C Q a0 a1 a2 h):cP C gD [a0,a1,a2] h Q:=cP.vd t64 s (by unfold P0;exact Tryz.func64) k H
end
set_option maxRecDepth 100000
noncomputable section
def t3:List (Nat×List Nat):=[(30,[1,2,3,4,11]),(175,[1,2,3,4,11,12])]
def jQ(C:fu)(Q:fD):LP:=JV C Tryz.f3 t3 15 [1,2,3,4,11] [] Q
def pM(C:fu)(Q:fD):LP:=JV C Tryz.f3 t3 87 [1,2,3,4,11,12] [] Q
def pO(C:fu)(Q:fD)(b c d e a:V)(h:Hp):Prop:=pM C Q [b,c,d,e,a,nZ] h
theorem yP{C Q}:R5 (pO C Q) (jQ C Q):=JV.r5 _
def pK(C:fu)(Q:fD)(fU:LP)(Z x2 x3 x4 a g:V)(h:Hp):Prop:=dG 2 a h λq=>oP (ez .lss 3 g q) λr=>oP (kE r (some x4)) λs=>bP s (dJ 2 a 6 g 0 h λt=>oP (ez .eql 3 t (V.I 19)) λu=>oP (og u (oB (fJ 2 a) λv=>oB (fe v h) λw=>oB (some g) λx=>oB (gB 6 w x) λy=>oB (fJ 0 y) λz=>oB (fe z h) λA=>ez .eql 3 A (V.I 20))) λB=>bP B (cP C nj [] h λD h1=>Q D h1) (oP (ez .add 3 g nO) λE=>fU [Z,x2,x3,x4,a,E] h)) (oP (fW 5 a h) λF=>cP C vB [F] h λG h2=>hV (zC 30 [nZ,nZ,nS,nS,nS]) h2 λn h3=>fm (gJ 5 n G h3) λvu h4=>oP (fW 5 a h4) λH=>cP C ve [H] h4 λI h5=>hV (zC 30 [nZ,nZ,nS,nS,nS]) h5 λb h6=>fm (gJ 5 b I h6) λaa h7=>cP C nj [] h7 λJ K=>oP (qf .not J) λi=>oP (fF false i) λb3=>oP (gV b3 (fW 5 a K)) λL=>oP (fF false i) λb4=>oP (gV b4 (fW 5 n K)) λM=>oP (fF false i) λb5=>oP (gC b5 (some (E2,[L,M]))) λy5=>qP C y5 K λN h9=>oP (og i (qf .not N)) λl=>oP (fF false l) λo=>oP (gV o (fW 5 b h9)) λO=>oP (fF false l) λm=>oP (gC m (some (m0,[O]))) λP=>qP C P h9 λR c=>oP (og l (qf .not R)) λS=>bP S (Q bF c) (oP (fW 5 a c) λj=>oP (fW 5 b c) λk=>cP C mD [Z] c λT d=>(c.next<=d.next/\((fW 5 b d=some k)/\((fW 5 a d=some j)/\cP C mX [x2] d λU e=>(d.next<=e.next/\((fW 5 b e=some k)/\((fW 5 a e=some j)/\cP C iS [x3,(V.I 9)] e λW f=>(e.next<=f.next/\oP (ez .sub 3 W nO) λX=>((fW 5 b f=some k)/\((fW 5 a f=some j)/\cP C kJ [j,k,T,U,X,(V.I 1500)] f λY p=>(f.next<=p.next/\Q Y p))))))))))))
theorem yR{C Q}(I)(s:S6 I (pK C Q)){k l h}(i:I k l h)(e:l.length=6:=by rfl):pM C Q l h:=JV.l6 I _ s i e
def qI(C:fu)(Q:fD)(a0 a1 a2 a3 b:V)(h:Hp):Prop:=hV (lR 24 a0) h λk i=>oP (fW 3 k i) λc=>cP C oU [c] i λd l=>hV (zC 30 [nZ,nZ,nS,nS,nS]) l λa m=>fm (gJ 5 a d m) λp e=>bN b (oP (fW 5 a e) λf=>cP C oI [f] e λg n=>fm (gJ 5 a g n) λj o=>jQ C Q [a1,a2,a3,b,a] o) (jQ C Q [a1,a2,a3,b,a] e)
theorem Ax{C}(s:C.start=fQ){a0 a1 a2 a3 a h Q}(k:C.K ni [a0,a1,a2,a3,a] h=none)(H:qI C Q a0 a1 a2 a3 a h):cP C ni [a0,a1,a2,a3,a] h Q:=cP.vd t3 s (by unfold P0;exact Tryz.func3) k H
end
