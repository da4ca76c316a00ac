/- Parts. -/
import Derived.Test.YtnehpeeglbgfpaaDoorM14
set_option maxHeartbeats 4000000
namespace Go.Proofs.YtnehpeeglbgfpaaDoor.Hx
set_option maxRecDepth 100000
noncomputable section
def t25:List (Nat×List Nat):=[(87,[0,3,4]),(918,[0,3,4])]
def ou(C:fe)(Q:fu):LP:=JV C Tryd.f25 t25 43 [0,3,4] [] Q
def jr(C:fe)(Q:fu)(a:LP):LP:=JV C Tryd.f25 t25 459 [0,3,4] [kf [0,3,4] a] Q
def oA(C:fe)(Q:fu)(a:LP)(b d c:V)(h:Hp):Prop:=oP (fJ b) λg=>bO .lss 3 c g (dX 1 b c h λe=>bP e (oP (ej .add 3 d nO) λf=>jr C Q a [b,f,c] h) (jr C Q a [b,d,c] h)) (Q d h)
theorem vU{C Q}(I)(s:S3 I (oA C Q)){k l h}(i:I k l h)(e:l.length=3:=by rfl):ou C Q l h:=JV.l3 I _ s i e
def oy(C:fe)(Q:fu)(a:LP)(c d e:V)(h:Hp):Prop:=oP (ej .add 3 e nO) λb=>a [c,d,b] h
theorem wq{C Q a}:R3 (oy C Q a) (jr C Q a):=JV.r3 _
def rE(C:fe)(Q:fu)(a:V)(h:Hp):Prop:=ou C Q [a,nZ,nZ] h
theorem yF{C}(s:C.start=fQ){a h Q}(k:C.K hY [a] h=none)(H:rE C Q a h):cP C hY [a] h Q:=cP.vd t25 s (by unfold P0;exact Tryd.func25) k H
def t8:List (Nat×List Nat):=[(175,[1,4,5,6]),(162095,[1,4,5,6,7,8,9]),(129326,[1,4,5,6,7,8,9]),(535066926,[1,4,5,6,7,8,9]),(719151,[1,4,5,6,7,8,9,11])]
def mh(C:fe)(Q:fu):LP:=JV C Tryd.f8 t8 87 [1,4,5,6] [] Q
def mf(C:fe)(Q:fu)(a:LP):LP:=JV C Tryd.f8 t8 81047 [1,4,5,6,7,8,9] [kf [1,4,5,6] a] Q
def iL(C:fe)(Q:fu)(a:LP):LP:=JV C Tryd.f8 t8 64663 [1,4,5,6,7,8,9] [kf [1,4,5,6] a] Q
def iM(C:fe)(Q:fu)(a:LP)(b:LP):LP:=JV C Tryd.f8 t8 267533463 [1,4,5,6,7,8,9] [kf [1,4,5,6] a,kf [1,4,5,6,7,8,9] b] Q
def mn(C:fe)(Q:fu)(a:LP):LP:=JV C Tryd.f8 t8 359575 [1,4,5,6,7,8,9,11] [kf [1,4,5,6] a] Q
def mj(C:fe)(Q:fu)(c:LP)(d o p b:V)(h:Hp):Prop:=dG 3 d h λe=>bO .lss 3 b e (dX 1 o b h λa=>dF 3 d h λf=>oP (gM 6 f b) λg=>oP (hH 6 g h) λi=>iW (zC 44 [nS,nZ,nZ,nS,nS,nZ]) h λj r=>fj (gU 6 j i r) λt s=>cP C hY [a] s λk q=>oP (BI true p [k]) λl=>dG 0 j q λm=>oP (ej .sub 3 m nO) λn=>mf C Q c [d,o,l,b,a,j,n] q) (Q p h)
theorem tZ{C Q}(I)(s:S4 I (mj C Q)){k l h}(i:I k l h)(e:l.length=4:=by rfl):mh C Q l h:=JV.l4 I _ s i e
def me(C:fe)(Q:fu)(b:LP)(k:LP)(i u w v c e d:V)(h:Hp):Prop:=bO .geq 3 d nZ (oP (fP 2 i) λl=>oP (er l h) λm=>oP (fP 0 e) λn=>oP (er n h) λo=>oP (gM 1 o d) λp=>oP (er p h) λq=>oP (gM 6 m q) λr=>oP (hH 6 r h) λs=>uY (zC 46 [nZ,nZ,nZ,nZ,nS,nZ]) h λx a f=>((f.get (h.next)=some x/\O.beq x x=true)/\((hH 6 r f=some s)/\((er p f=some q)/\((er n f=some o)/\((er l f=some m)/\fj (gU 6 a s f) λvu j=>(f.next<=j.next/\dF 0 a j λy=>oP (ej .eql 3 y (V.I 21)) λz=>oP (qe z (oB (fP 0 a) λA=>oB (er A j) λB=>ej .eql 3 B nO)) λD=>bP D (iL C Q b [i,u,w,v,c,e,d] j) (dY 0 e 1 d j λE=>oP (gM 1 c E) λF=>fj (gU 1 F bT j) λY h3=>cP C hY [c] h3 λG Z=>oP (BI true w [G]) λt=>dY 0 e 1 d Z λH=>oP (gM 1 c H) λI=>fj (gU 1 I bF Z) λaa h5=>oP (hH 6 a h5) λJ=>cP C jz [J] h5 λK h6=>cP C gD [c,K] h6 λac g=>dF 0 a g λL=>oP (ej .eql 3 L (V.I 22)) λM=>oP (qe M (oB (fP 0 a) λN=>oB (er N g) λP=>ej .eql 3 P (V.I 23))) λR=>bP R (dF 4 i g λS=>dF 5 a g λT=>oP (gM 1 S T) λU=>oP (hH 1 U g) λW=>cP C hC [W] g λX h8=>cP C gD [c,X] h8 λab h9=>iM C Q b k [i,u,t,v,c,e,d] h9) (iM C Q b k [i,u,t,v,c,e,d] g))))))))) (iL C Q b [i,u,w,v,c,e,d] h)
theorem tO{C Q a}(I)(s:S7 I (me C Q a)){k l h}(i:I k l h)(e:l.length=7:=by rfl):mf C Q a l h:=JV.l7 I _ s i e
def lX(C:fe)(Q:fu)(a:LP)(b c d e f g i:V)(h:Hp):Prop:=mn C Q a [b,c,d,e,f,g,i,nZ] h
theorem sU{C Q a}:R7 (lX C Q a) (iL C Q a):=JV.r7 _
def lW(C:fe)(Q:fu)(f:LP)(c:LP)(g i j k e l m:V)(h:Hp):Prop:=cP C hY [e] h λa n=>oP (BI true j [a]) λb=>oP (ej .sub 3 m nO) λd=>c [g,i,b,k,e,l,d] n
theorem tE{C Q a b}:R7 (lW C Q a b) (iM C Q a b):=JV.r7 _
def mi(C:fe)(Q:fu)(g:LP)(i:LP)(l m n o j p q a:V)(h:Hp):Prop:=bO .leq 3 a q (dY 0 p 1 a h λb=>oP (gM 1 j b) λc=>fj (gU 1 c bT h) λt r=>oP (ej .add 3 a nO) λd=>i [l,m,n,o,j,p,q,d] r) (cP C hY [j] h λe s=>oP (BI true n [e]) λf=>oP (ej .add 3 o nO) λk=>g [l,m,f,k] s)
theorem tW{C Q a}(I)(s:S8 I (mi C Q a)){k l h}(i:I k l h)(e:l.length=8:=by rfl):mn C Q a l h:=JV.l8 I _ s i e
def nT(C:fe)(Q:fu)(f:V)(h:Hp):Prop:=iW (tQ 29 f) h λd e=>oP (hH 5 d e) λb=>cP C jA [b] e λa g=>oP (Qm 0 a) λi=>oP (Qm 1 a) λc=>mh C Q [d,c,nZ,nZ] g
theorem wh{C}(s:C.start=fQ){a h Q}(k:C.K ju [a] h=none)(H:nT C Q a h):cP C ju [a] h Q:=cP.vd t8 s (by unfold P0;exact Tryd.func8) k H
def t3:List (Nat×List Nat):=[]
def nV(C:fe)(Q:fu)(I:V)(h:Hp):Prop:=iW (tQ 24 I) h λb f=>dF 0 b f λJ=>dG 0 b f λg=>oP (BI false g [(V.I 24)]) λi=>oP (iF 1 J none (some i) f) λj=>oP (fP 0 b) λk=>fj (gU 1 k j f) λU K=>oP (fP 1 b) λl=>fj (gU 1 l nS K) λB D=>oP (hH 3 b D) λm=>cP C lg [m] D λn L=>iW (zC 29 [nZ,nZ,nS,nS,nS]) L λo M=>fj (gU 5 o n M) λE F=>oP (hH 5 o F) λp=>cP C nJ [p] F λc N=>oP (Qm 0 c) λq=>oP (Qm 1 c) λr=>iW (zC 32 [nS,nZ]) N λG O=>fj (gU 2 G q O) λH P=>cP C mb [] P λs d=>oP (kH s (oB (some r) λt=>ej .eql 33 t nZ)) λa=>oP (gB true a) λR=>oP (gV R (hH 5 o d)) λu=>oP (gB true a) λS=>oP (gC S (some (ju,[u]))) λT=>yv C T d λv e=>oP (kH a (oB (ej .gtr 3 v (V.I 12)) λw=>oB (some w) λx=>qe x (oB (fP 1 G) λy=>oB (er y e) λz=>ej .eql 3 z nZ))) λA=>Q A e
theorem vW{C}(s:C.start=fQ){a h Q}(k:C.K kO [a] h=none)(H:nV C Q a h):cP C kO [a] h Q:=cP.vd t3 s (by unfold P0;exact Tryd.func3) k H
end
