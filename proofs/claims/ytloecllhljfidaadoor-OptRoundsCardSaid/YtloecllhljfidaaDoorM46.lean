/- Parts. -/
import Derived.Test.YtloecllhljfidaaDoorM14
set_option maxHeartbeats 4000000
namespace Go.Proofs.YtloecllhljfidaaDoor.Hx
set_option maxRecDepth 100000
noncomputable section
def t10:List (Nat×List Nat):=[]
def Dl(C:fm)(Q:fq)(a0:V)(h:Hp):Prop:=gX (mm 29 a0) h λd e=>gX (zC 29 [nZ,nZ,nS,nS,nS]) e λa b=>oP (fM 5 d b) λf=>cP C mB [f,(V.I 3)] b λg i=>fc (gh 5 a g i) λj c=>oP (fM 5 a c) λr2=>Q r2 c
theorem K7{C}(s:C.start=fK){a0 h Q}(k:C.K tu [a0] h=none)(H:Dl C Q a0 h):cP C tu [a0] h Q:=cP.vd t10 s (by unfold P0;exact Tryd.func10) k H
def t9:List (Nat×List Nat):=[(87,[1,2,4,5]),(5271,[1,2,4,5,16,17,18])]
def Cb(C:fm)(Q:fq):LP:=JV C Tryd.f9 t9 43 [1,2,4,5] [] Q
def Cd(C:fm)(Q:fq)(a:LP):LP:=JV C Tryd.f9 t9 2635 [1,2,4,5,16,17,18] [kf [1,2,4,5] a] Q
def Ca(C:fm)(Q:fq)(b:LP)(g i c j:V)(h:Hp):Prop:=oP (Oy false g [(V.I 10)]) λd=>bO .lss 3 j d (gX (jd 30 1 3 V.nilFunc [(0,(V.func wk [] [])),(1,(V.func oz [] [])),(2,(V.func wG [] []))]) h λa l=>oP (fD a) λe=>Cd C Q b [g,i,c,j,a,e,nZ] l) (oP (fM 5 i h) λf=>fc (gh 5 c f h) λm k=>oP (fM 5 c k) λr4=>Q r4 k)
theorem JC{C Q}(I)(s:S4 I (Ca C Q)){k l h}(i:I k l h)(e:l.length=4:=by rfl):Cb C Q l h:=JV.l4 I _ s i e
def Cp(C:fm)(Q:fq)(e:LP)(f:LP)(m d n o b c a:V)(h:Hp):Prop:=bO .lss 3 a c (dX 1 b a h λg=>oP (fM 5 d h) λi=>gN C (fO g [i]) h λj p=>fc (gh 5 d j p) λr q=>oP (eJ .add 3 a nO) λk=>f [m,d,n,o,b,c,k] q) (oP (eJ .add 3 o nO) λl=>e [m,d,n,l] h)
theorem Jx{C Q a}(I)(s:S7 I (Cp C Q a)){k l h}(i:I k l h)(e:l.length=7:=by rfl):Cd C Q a l h:=JV.l7 I _ s i e
def Hy(C:fm)(Q:fq)(a0 a1:V)(h:Hp):Prop:=gX (mm 29 a0) h λa c=>gX (zC 29 [nZ,nZ,nS,nS,nS]) c λd b=>oP (fM 5 a b) λe=>cP C mZ [e] b λf g=>fc (gh 5 a f g) λj i=>Cb C Q [a1,a,d,nZ] i
theorem OJ{C}(s:C.start=fK){a0 a1 h Q}(k:C.K mB [a0,a1] h=none)(H:Hy C Q a0 a1 h):cP C mB [a0,a1] h Q:=cP.vd t9 s (by unfold P0;exact Tryd.func9) k H
end
set_option maxRecDepth 100000
noncomputable section
def t3:List (Nat×List Nat):=[]
def pQ(C:fm)(Q:fq)(a0 a1:V)(h:Hp):Prop:=gX (mm 24 a0) h λv2 h1=>oP (fM 3 v2 h1) λv6=>cP C mI [v6] h1 λv7 h2=>cP C mJ [v7] h2 λv8 h3=>gX (zC 29 [nZ,nZ,nS,nS,nS]) h3 λf h4=>fc (gh 5 f v8 h4) λvu h5=>cP C ig [a1,(V.I 1000)] h5 λk h6=>cP C nP [] h6 λa l=>(h6.next<=l.next/\oP (gq true a) λb2=>oP (gV b2 (fM 5 f l)) λt=>oP (gq true a) λb3=>oP (gV b3 (some k)) λu=>oP (gq true a) λb4=>oP (gV b4 (eJ .add 3 (V.I 10) u)) λv=>oP (gq true a) λb6=>oP (gV b6 (fM 5 f l)) λm=>oP (gq true a) λb5=>oP (gC b5 (some (mB,[t,v]))) λy5=>vD C y5 l λw s=>(l.next<=s.next/\((gT b6 (fM 5 f s=some m))/\oP (gq true a) λb7=>oP (gC b7 (some (mB,[m,(V.I 10)]))) λy7=>vD C y7 s λx y=>(s.next<=y.next/\oP (gq true a) λb8=>oP (gC b8 (some (vK,[w,x]))) λy8=>vD C y8 y λz d=>(y.next<=d.next/\oP (nM a z bF) λb=>oP (gq true b) λA=>oP (gV A (fM 5 f d)) λB=>oP (gq true b) λD=>oP (gV D (some k)) λE=>oP (gq true b) λF=>oP (gV F (vC .neg E)) λG=>oP (gq true b) λn=>oP (gV n (fM 5 f d)) λo=>oP (gq true b) λH=>oP (gC H (some (mB,[B,G]))) λI=>vD C I d λJ g=>(d.next<=g.next/\((gT n (fM 5 f g=some o))/\oP (gq true b) λK=>oP (gC K (some (vK,[J,o]))) λL=>vD C L g λM e=>(g.next<=e.next/\oP (nM b M bF) λc=>oP (gq true c) λN=>oP (gV N (fM 5 f e)) λO=>oP (gq true c) λp=>oP (gV p (fM 5 f e)) λq=>oP (gq true c) λP=>oP (gC P (some (tu,[O]))) λR=>vD C R e λS i=>(e.next<=i.next/\((gT p (fM 5 f i=some q))/\oP (gq true c) λT=>oP (gC T (some (mB,[q,(V.I 3)]))) λU=>vD C U i λW j=>(i.next<=j.next/\oP (gq true c) λX=>oP (gC X (some (vK,[S,W]))) λY=>vD C Y j λZ r=>(j.next<=r.next/\oP (nM c Z bF) λaa=>Q aa r))))))))))))
theorem yE{C}(s:C.start=fK){a0 a1 h Q}(k:C.K mf [a0,a1] h=none)(H:pQ C Q a0 a1 h):cP C mf [a0,a1] h Q:=cP.vd t3 s (by unfold P0;exact Tryd.func3) k H
end
set_option maxRecDepth 100000
noncomputable section
def t25:List (Nat×List Nat):=[(175,[1,2,3,25,26,27]),(111406,[1,2,3,4,5,25,26,27,33,34]),(351,[1,2,3,54,55,56]),(3886,[1,2,3,25,26,27]),(504622,[1,2,3,4,25,26,27,45]),(7774,[1,2,3,54,55,56]),(319,[1,2,3]),(2815,[1,2,9,121,122,123]),(62206,[1,2,9,121,122,123])]
def Dr(C:fm)(Q:fq):LP:=JV C Tryd.f25 t25 87 [1,2,3,25,26,27] [] Q
def ru(C:fm)(Q:fq)(a:LP):LP:=JV C Tryd.f25 t25 55703 [1,2,3,4,5,25,26,27,33,34] [kf [1,2,3,25,26,27] a] Q
def C9(C:fm)(Q:fq):LP:=JV C Tryd.f25 t25 175 [1,2,3,54,55,56] [] Q
def ou(C:fm)(Q:fq)(a:LP):LP:=JV C Tryd.f25 t25 1943 [1,2,3,25,26,27] [kf [1,2,3,25,26,27] a] Q
def rE(C:fm)(Q:fq)(a:LP):LP:=JV C Tryd.f25 t25 252311 [1,2,3,4,25,26,27,45] [kf [1,2,3,25,26,27] a] Q
def od(C:fm)(Q:fq)(a:LP):LP:=JV C Tryd.f25 t25 3887 [1,2,3,54,55,56] [kf [1,2,3,54,55,56] a] Q
def Dk(C:fm)(Q:fq):LP:=JV C Tryd.f25 t25 159 [1,2,3] [] Q
def DJ(C:fm)(Q:fq):LP:=JV C Tryd.f25 t25 1407 [1,2,9,121,122,123] [] Q
def wR(C:fm)(Q:fq)(a:LP):LP:=JV C Tryd.f25 t25 31103 [1,2,9,121,122,123] [kf [1,2,9,121,122,123] a] Q
def DM(C:fm)(Q:fq)(e:LP)(i k l c d a:V)(h:Hp):Prop:=bO .lss 3 a d (oP (hV 6 c a) λm=>oP (fM 6 m h) λn=>gX (zC 40 [nZ,nZ,nZ,nZ,nS,nZ]) h λj r=>fc (gh 6 j n r) λs o=>dF 0 j o λb=>oP (eJ .eql 3 b (V.I 22)) λf=>bP f (ru C Q e [i,k,l,a,j,c,d,a,b,f] o) (oP (eJ .eql 3 b (V.I 23)) λp=>ru C Q e [i,k,l,a,j,c,d,a,b,p] o)) (dF 3 i h λg=>oP (fD g) λq=>C9 C Q [i,k,l,g,q,nZ] h)
theorem Lk{C Q}(I)(s:S6 I (DM C Q)){k l h}(i:I k l h)(e:l.length=6:=by rfl):Dr C Q l h:=JV.l6 I _ s i e
def B1(C:fm)(Q:fq)(a:LP)(i j e k p b c d f l:V)(h:Hp):Prop:=bP l (dF 5 p h λm=>cP C lN [e,m] h λq r=>gX (jd 3 1 1 nZ [(0,k)]) r λn s=>cP C iH [e,n] s λt u=>ou C Q a [i,j,e,b,c,d] u) (oP (eJ .eql 3 f (V.I 19)) λg=>bP g (rE C Q a [i,j,e,k,b,c,d,g] h) (oP (eJ .eql 3 f (V.I 20)) λo=>rE C Q a [i,j,e,k,b,c,d,o] h))
theorem JD{C Q a}:Az (B1 C Q a) (ru C Q a):=JV.r10 _
def DY(C:fm)(Q:fq)(d:LP)(i j e b c a:V)(h:Hp):Prop:=bO .lss 3 a c (oP (hV 6 b a) λl=>oP (fM 6 l h) λm=>gX (zC 38 [nS,nZ,nZ,nS,nS,nZ]) h λk q=>fc (gh 6 k m q) λw f=>dF 1 k f λg=>bO .eql 3 g (V.I 2) (dF 2 k f λn=>gX (jd 3 1 1 nZ [(0,n)]) f λo r=>cP C iH [e,o] r λs t=>od C Q d [i,j,e,b,c,a] t) (bO .eql 3 g (V.I 3) (dF 5 k f λp=>cP C lN [e,p] f λu v=>od C Q d [i,j,e,b,c,a] v) (od C Q d [i,j,e,b,c,a] f))) (Dk C Q [i,j,e] h)
theorem KJ{C Q}(I)(s:S6 I (DY C Q)){k l h}(i:I k l h)(e:l.length=6:=by rfl):C9 C Q l h:=JV.l6 I _ s i e
def B3(C:fm)(Q:fq)(a:LP)(f g i b c d:V)(h:Hp):Prop:=oP (eJ .add 3 d nO) λe=>a [f,g,i,b,c,e] h
theorem JI{C Q a}:R6 (B3 C Q a) (ou C Q a):=JV.r6 _
def B8(C:fm)(Q:fq)(a:LP)(i j e k b c d f:V)(h:Hp):Prop:=bP f (gX (jd 3 1 1 nZ [(0,k)]) h λg l=>cP C iH [e,g] l λm n=>ou C Q a [i,j,e,b,c,d] n) (ou C Q a [i,j,e,b,c,d] h)
theorem JJ{C Q a}:R8 (B8 C Q a) (rE C Q a):=JV.r8 _
def Cj(C:fm)(Q:fq)(a:LP)(f g i b c d:V)(h:Hp):Prop:=oP (eJ .add 3 d nO) λe=>a [f,g,i,b,c,e] h
theorem JK{C Q a}:R6 (Cj C Q a) (od C Q a):=JV.r6 _
def DX(C:fm)(Q:fq)(s:LP)(q B a:V)(h:Hp):Prop:=oP (gU a) λt=>dG 6 t h λu=>bO .gtr 3 u nZ (dN 6 a h λv=>oP (gU a) λw=>dG 6 w h λx=>oP (eJ .sub 3 x nO) λy=>dX 1 v y h λz=>dN 6 a h λA=>oP (gU a) λc=>dG 6 c h λd=>oP (eJ .sub 3 d nO) λe=>oP (jc 1 A none (some e) h) λf=>oP (gU a) λg=>oP (fQ 6 g) λi=>fc (gh 1 i f h) λH r=>(h.next<=r.next/\dF 2 q r λj=>oP (hV 6 j z) λk=>oP (fM 6 k r) λl=>cP C mc [l] r λm F=>cP C iH [a,m] F λD G=>s [q,B,a] G)) (oP (fM 5 q h) λn=>cP C rH [n] h λo E=>dN 5 a E λb=>oP (fD b) λp=>DJ C Q [q,B,o,b,p,nZ] E)
theorem Lj{C Q}(I)(s:S3 I (DX C Q)){k l h}(i:I k l h)(e:l.length=3:=by rfl):Dk C Q l h:=JV.l3 I _ s i e
def Dd(C:fm)(Q:fq)(d:LP)(l j k b c a:V)(h:Hp):Prop:=bO .lss 3 a c (dX 1 b a h λe=>bN e (oP (hV 1 k a) λf=>fc (gh 1 f (V.I (-1)) h) λq o=>wR C Q d [l,j,k,b,c,a] o) (wR C Q d [l,j,k,b,c,a] h)) (oP (fM 5 l h) λg=>cP C nT [g,k] h λi p=>fc (gh 5 j i p) λm n=>oP (fM 5 j n) λr2=>Q r2 n)
theorem KN{C Q}(I)(s:S6 I (Dd C Q)){k l h}(i:I k l h)(e:l.length=6:=by rfl):DJ C Q l h:=JV.l6 I _ s i e
def wU(C:fm)(Q:fq)(e:LP)(f g i a b c:V)(h:Hp):Prop:=oP (eJ .add 3 c nO) λd=>e [f,g,i,a,b,d] h
theorem Cm{C Q a}:R6 (wU C Q a) (wR C Q a):=JV.r6 _
def I8(C:fm)(Q:fq)(a0:V)(h:Hp):Prop:=gX (mm 29 a0) h λa x=>gX (zC 29 [nZ,nZ,nS,nS,nS]) x λj u=>oP (fM 5 a u) λk=>cP C rY [k] u λl b=>bN l (oP (fM 5 a b) λm=>cP C mZ [m] b λn y=>fc (gh 5 j n y) λz v=>oP (fM 5 j v) λr2=>Q r2 v) (oP (fM 5 a b) λd=>oP (fQ 2 a) λe=>oP (eQ e b) λf=>oP (fD f) λg=>wP (jm 4 1 1 bF g g) b λo p w=>oP (fJ [nZ,nZ,nS,nS,nS,nS,nS] [(0,5),(5,1),(6,1)] [(0,d),(1,p)]) λq=>wP (mm 76 q) w λr s c=>((c.get (w.next)=some r/\O.beq r r=true)/\((c.get (b.next)=some o/\O.beq o o=true)/\((eQ e c=some f)/\((fM 5 a c=some d)/\dF 2 a c λi=>oP (fD i) λt=>Dr C Q [a,j,s,i,t,nZ] c)))))
theorem PG{C}(s:C.start=fK){a0 h Q}(k:C.K wG [a0] h=none)(H:I8 C Q a0 h):cP C wG [a0] h Q:=cP.vd t25 s (by unfold P0;exact Tryd.func25) k H
def t38:List (Nat×List Nat):=[(11,[0,14,15,16])]
def tW(C:fm)(Q:fq):LP:=JV C Tryd.f38 t38 5 [0,14,15,16] [] Q
def tF(C:fm)(Q:fq)(d:LP)(e b c a:V)(h:Hp):Prop:=bO .lss 3 a c (oP (hV 4 b a) λf=>oP (fM 4 f h) λg=>gX (zC 44 [nZ,nZ,nS,nS]) h λi o=>fc (gh 4 i g o) λs m=>dF 2 i m λj=>cP C iH [e,j] m λp n=>dF 3 i n λk=>cP C iH [e,k] n λq r=>oP (eJ .add 3 a nO) λl=>d [e,b,c,l] r) (Q (V.tuple []) h)
theorem Bv{C Q}(I)(s:S4 I (tF C Q)){k l h}(i:I k l h)(e:l.length=4:=by rfl):tW C Q l h:=JV.l4 I _ s i e
def xJ(C:fm)(Q:fq)(a0 a1:V)(h:Hp):Prop:=oP (gU a0) λc=>oP (fQ 0 c) λd=>dJ 4 d 1 a1 0 h λa=>oP (fD a) λb=>tW C Q [a0,a,b,nZ] h
theorem EU{C}(s:C.start=fK){a0 a1 h Q}(k:C.K lN [a0,a1] h=none)(H:xJ C Q a0 a1 h):cP C lN [a0,a1] h Q:=cP.vd t38 s (by unfold P0;exact Tryd.func38) k H
def t39:List (Nat×List Nat):=[(11,[0,6,7,8]),(242,[0,6,7,8])]
def uU(C:fm)(Q:fq):LP:=JV C Tryd.f39 t39 5 [0,6,7,8] [] Q
def oI(C:fm)(Q:fq)(a:LP):LP:=JV C Tryd.f39 t39 121 [0,6,7,8] [kf [0,6,7,8] a] Q
def uL(C:fm)(Q:fq)(c:LP)(b e f d:V)(h:Hp):Prop:=bO .lss 3 d f (dX 1 e d h λa=>dN 5 b h λg=>dX 1 g a h λi=>bN i (dN 5 b h λj=>oP (hV 1 j a) λk=>fc (gh 1 k bT h) λv q=>dN 6 b q λl=>gX (jd 3 1 1 nZ [(0,a)]) q λm s=>fc (eR 3 1 8 l m s) λn t=>oP (gU b) λo=>oP (fQ 6 o) λp=>fc (gh 1 p n t) λr u=>oI C Q c [b,e,f,d] u) (oI C Q c [b,e,f,d] h)) (Q (V.tuple []) h)
theorem CI{C Q}(I)(s:S4 I (uL C Q)){k l h}(i:I k l h)(e:l.length=4:=by rfl):uU C Q l h:=JV.l4 I _ s i e
def oK(C:fm)(Q:fq)(a:LP)(c d e f:V)(h:Hp):Prop:=oP (eJ .add 3 f nO) λb=>a [c,d,e,b] h
theorem vg{C Q a}:R4 (oK C Q a) (oI C Q a):=JV.r4 _
def yX(C:fm)(Q:fq)(a0 a1:V)(h:Hp):Prop:=oP (fD a1) λa=>uU C Q [a0,a1,a,nZ] h
theorem FU{C}(s:C.start=fK){a0 a1 h Q}(k:C.K iH [a0,a1] h=none)(H:yX C Q a0 a1 h):cP C iH [a0,a1] h Q:=cP.vd t39 s (by unfold P0;exact Tryd.func39) k H
end
