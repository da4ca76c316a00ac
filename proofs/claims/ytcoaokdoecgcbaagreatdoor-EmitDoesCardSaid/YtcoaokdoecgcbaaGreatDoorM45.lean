/- Parts. -/
import Derived.Test.YtcoaokdoecgcbaaGreatDoorM14
set_option maxHeartbeats 4000000
namespace Go.Proofs.YtcoaokdoecgcbaaGreatDoor.Hx
variable{Q:fj}{h:Hp}{a:V}
set_option maxRecDepth 100000
noncomputable section
def t16:List (Nat×List Nat):=[(175,[0,4,5]),(88367,[0,4,5,6,7,8])]
def te(Q:fj):LP:=JV CS Tryz.f16 t16 87 [0,4,5] [] Q
def se(Q:fj)(fu:LP):LP:=JV CS Tryz.f16 t16 44183 [0,4,5,6,7,8] [kf [0,4,5] fu] Q
def sP(Q:fj)(fu:LP)(c x4 d:V)(h:Hp):Prop:=oP (fE c) λn=>bO .lss 3 d n (oP (gM 1 c d) λe=>oP (ez e h) λf=>oP (jN .i64 f) λo=>oP (ef .add 3 d nO) λp=>oP (gM 1 c p) λg=>oP (ez g h) λi=>oP (ef .quo 5 i (V.int .u8 16)) λq=>oP (jN .i64 q) λr=>oP (ef .add 3 d nO) λs=>oP (gM 1 c s) λj=>oP (ez j h) λk=>oP (ef .rem 5 k (V.int .u8 16)) λt=>oP (jN .i64 t) λu=>oP (ef .add 3 d (V.I 2)) λv=>oP (gM 1 c v) λl=>oP (ez l h) λm=>oP (jN .i64 m) λw=>oP (fq [nZ,nZ,nZ,nZ,nZ] gc [(0,o),(1,r),(2,u),(3,w)]) λx=>uj (zC 102 [nZ,nZ,nZ,nZ,nZ]) h λa z b=>((b.get (h.next)=some a/\O.beq a a=true)/\((ez l b=some m)/\((ez j b=some k)/\((ez g b=some i)/\((ez e b=some f)/\eJ (gj 5 z x b) λC A=>(b.next<=A.next/\se Q fu [c,x4,d,z,(V.int .u64 0),(V.I 7)] A))))))) (cP CS mR [x4] h λy B=>bN y (Q (V.tuple [nS,(V.I 5)]) B) (Q (V.tuple [x4,nZ]) B))
theorem Bf{Q}:LN 3 (sP Q) (te Q):=JV.lm 3 _
def sk(Q:fj)(fu:LP)(c:LP)(d x4 e a z f:V)(h:Hp):Prop:=bO .geq 3 f nZ (oP (ef .mul 63 (V.int .u64 256) z) λg=>oP (ef .add 3 e (V.I 3)) λi=>oP (ef .add 3 i f) λj=>dX 1 d j h λk=>oP (jN .u64 k) λl=>oP (ef .add 63 g l) λm=>oP (ef .sub 3 f nO) λn=>c [d,x4,e,a,m,n] h) (oP (jN .i64 z) λo=>oP (fJ 4 a) λp=>eJ (gj 1 p o h) λC b=>dF 0 a b λq=>oP (ef .lss 3 q nO) λr=>oP (mi r (oB (fJ 0 a) λs=>oB (ez s b) λt=>ef .gtr 3 t (V.I 27))) λu=>bP u (Q (V.tuple [nS,(V.I 30)]) b) (oP (fZ 5 a b) λv=>gU (iO 102 5 1 (V.agg [nZ,nZ,nZ,nZ,nZ]) [(0,v)]) b λw A=>eJ (fg 102 5 40 x4 w A) λx B=>oP (ef .add 3 e (V.I 11)) λy=>fu [d,x,y] B))
theorem Bl{Q fu}:LN 6 (sk Q fu) (se Q fu):=JV.lm 6 _
theorem Ep(H:oP (fE a) λb=>oP (ef .rem 3 b (V.I 11)) λc=>bO .neq 3 c nZ (Q (V.tuple [nS,(V.I 7)]) h) (te Q [a,nS,nZ] h)):cP CS mg [a] h Q:=cP.ve t16 Tryz.func16 H
def t42:List (Nat×List Nat):=[(87,[0,3])]
def pW(Q:fj):LP:=JV CS Tryz.f42 t42 43 [0,3] [] Q
def pZ(Q:fj)(fu:LP)(a b:V)(h:Hp):Prop:=oP (fE a) λj=>bO .lss 3 b j (oP (gM 5 a b) λc=>oP (fZ 5 c h) λd=>oP (fE a) λe=>cP CS kY [d,e] h λf i=>bN f (Q bF i) (oP (ef .add 3 b nO) λg=>fu [a,g] i)) (Q bT h)
theorem yR{Q}:LN 2 (pZ Q) (pW Q):=JV.lm 2 _
theorem BO(H:oP (fE a) λb=>bO .gtr 3 b (V.I 32768) (Q bF h) (pW Q [a,nZ] h)):cP CS mR [a] h Q:=cP.ve t42 Tryz.func42 H
def t49:List (Nat×List Nat):=[(351,[1,2,5,6,7,8]),(3454,[1,2,66,67]),(15742,[1,2,66,78]),(64894,[2,90])]
def qD(Q:fj):LP:=JV CS Tryz.f49 t49 175 [1,2,5,6,7,8] [] Q
def jQ(Q:fj):LP:=JV CS Tryz.f49 t49 1727 [1,2,66,67] [] Q
def jO(Q:fj):LP:=JV CS Tryz.f49 t49 7871 [1,2,66,78] [] Q
def iS(Q:fj):LP:=JV CS Tryz.f49 t49 32447 [2,90] [] Q
def qH(Q:fj)(fu:LP)(f c g E e b:V)(h:Hp):Prop:=bO .lss 3 b (V.I 3) (oP (ef .lss 3 b g) λi=>oP (iM i (oB (some b) λj=>oB (qy 3 1 e j) λk=>oB (ez k h) λl=>oB (ef .lss 3 l nZ) λm=>oB (some m) λn=>mi n (oB (some b) λo=>oB (qy 3 1 e o) λp=>oB (ez p h) λq=>ef .gtr 3 q (V.I 15)))) λr=>oP (mi r (oB (some b) λs=>oB (some g) λt=>oB (ef .geq 3 s t) λu=>oB (some u) λv=>iM v (oB (some b) λw=>oB (qy 3 1 e w) λx=>oB (ez x h) λy=>ef .neq 3 y nZ))) λz=>bP z (Q bF h) (oP (ef .add 3 b nO) λA=>fu [f,c,g,E,e,A] h)) (bN E (dF 4 c h λB=>oP (ef .eql 2 B nZ) λC=>Q C h) (dF 0 c h λa=>oP (ef .eql 3 a (V.I 3)) λd=>bP d (jQ Q [f,c,a,d] h) (oP (ef .eql 3 a (V.I 4)) λD=>jQ Q [f,c,a,D] h)))
theorem zI{Q}:LN 6 (qH Q) (qD Q):=JV.lm 6 _
def p9(Q:fj)(l c a d:V)(h:Hp):Prop:=bP d (dF 4 c h λe=>oP (ef .geq 2 e nZ) λf=>oP (iM f (oB (fJ 4 c) λg=>oB (ez g h) λi=>ef .lss 2 i (V.I 400))) λj=>Q j h) (oP (ef .eql 3 a (V.I 23)) λb=>bP b (jO Q [l,c,a,b] h) (oP (ef .eql 3 a (V.I 24)) λk=>jO Q [l,c,a,k] h))
theorem zr{Q}:RV 4 (p9 Q) (jQ Q):=JV.rn 4 _
def p8(Q:fj)(n b a e:V)(h:Hp):Prop:=bP e (dF 4 b h λf=>oP (ef .geq 2 f nZ) λg=>oP (iM g (oB (fJ 4 b) λi=>oB (ez i h) λj=>oB (some n) λk=>ef .leq 2 j k)) λl=>Q l h) (oP (ef .eql 3 a (V.I 25)) λc=>bP c (iS Q [b,c] h) (oP (ef .eql 3 a (V.I 26)) λd=>bP d (iS Q [b,d] h) (oP (ef .eql 3 a (V.I 27)) λm=>iS Q [b,m] h)))
theorem zf{Q}:RV 4 (p8 Q) (jO Q):=JV.rn 4 _
def p5(Q:fj)(g b:V)(h:Hp):Prop:=bP b (dF 4 g h λc=>oP (ef .geq 2 c nZ) λd=>oP (iM d (oB (fJ 4 g) λe=>oB (ez e h) λf=>ef .leq 2 f (V.I 1048576))) λa=>Q a h) (Q bT h)
theorem zx{Q}:RV 2 (p5 Q) (iS Q):=JV.rn 2 _
theorem BW{r s:V}(H:gU (kZ 102 r) h λa b=>dF 0 a b λe=>oP (ef .lss 3 e nO) λf=>oP (mi f (oB (fJ 0 a) λg=>oB (ez g b) λi=>ef .gtr 3 i (V.I 27))) λj=>bP j (Q bF b) (dF 0 a b λk=>cP CS qk [k] b λc d=>oP (qV 0 c) λl=>oP (qV 1 c) λm=>dF 1 a d λn=>dF 2 a d λo=>dF 3 a d λp=>oP (zes 1 [nZ,nZ,nZ] [(0,n),(1,o),(2,p)]) λq=>gU (zC 152 [nZ,nZ,nZ]) d λt u=>eJ (gj 3 t q u) λw v=>qD Q [s,a,l,m,t,nZ] v)):cP CS kY [r,s] h Q:=cP.ve t49 Tryz.func49 H
def t78:List (Nat×List Nat):=[(106,[4,5]),(490,[4,11]),(2026,[4,17]),(8170,[20])]
def iq(Q:fj):LP:=JV CS Tryz.f78 t78 53 [4,5] [] Q
def ir(Q:fj):LP:=JV CS Tryz.f78 t78 245 [4,11] [] Q
def ko(Q:fj):LP:=JV CS Tryz.f78 t78 1013 [4,17] [] Q
def jB(Q:fj):LP:=JV CS Tryz.f78 t78 4085 [20] [] Q
def tT(Q:fj)(x4 f:V)(h:Hp):Prop:=bP f (Q (V.tuple [nO,bT]) h) (oP (ef .eql 3 x4 (V.I 2)) λa=>bP a (ir Q [x4,a] h) (oP (ef .eql 3 x4 (V.I 10)) λb=>bP b (ir Q [x4,b] h) (oP (ef .eql 3 x4 (V.I 11)) λc=>bP c (ir Q [x4,c] h) (oP (ef .eql 3 x4 (V.I 17)) λd=>bP d (ir Q [x4,d] h) (oP (ef .eql 3 x4 (V.I 18)) λe=>ir Q [x4,e] h)))))
theorem B4{Q}:RV 2 (tT Q) (iq Q):=JV.rn 2 _
def tG(Q:fj)(x4 b:V)(h:Hp):Prop:=bP b (Q (V.tuple [(V.I 2),bF]) h) (oP (ef .eql 3 x4 (V.I 19)) λa=>bP a (ko Q [x4,a] h) (oP (ef .eql 3 x4 (V.I 21)) λc=>ko Q [x4,c] h))
theorem B2{Q}:RV 2 (tG Q) (ir Q):=JV.rn 2 _
def sO(Q:fj)(x4 c:V)(h:Hp):Prop:=bP c (Q (V.tuple [(V.I 2),bT]) h) (oP (ef .eql 3 x4 (V.I 23)) λa=>bP a (jB Q [a] h) (oP (ef .eql 3 x4 (V.I 26)) λb=>bP b (jB Q [b] h) (oP (ef .eql 3 x4 (V.I 27)) λd=>jB Q [d] h)))
theorem Bu{Q}:RV 2 (sO Q) (ko Q):=JV.rn 2 _
def sZ(Q:fj)(a:V)(h:Hp):Prop:=bP a (Q (V.tuple [nZ,bT]) h) (Q (V.tuple [(V.I 3),bF]) h)
theorem Bm{Q}:RV 1 (sZ Q) (jB Q):=JV.rn 1 _
theorem Fu(H:oP (ef .eql 3 a nO) λc=>bP c (iq Q [a,c] h) (oP (ef .eql 3 a (V.I 3)) λd=>bP d (iq Q [a,d] h) (oP (ef .eql 3 a (V.I 4)) λe=>bP e (iq Q [a,e] h) (oP (ef .eql 3 a (V.I 24)) λf=>bP f (iq Q [a,f] h) (oP (ef .eql 3 a (V.I 25)) λb=>iq Q [a,b] h))))):cP CS qk [a] h Q:=cP.ve t78 Tryz.func78 H
def t12:List (Nat×List Nat):=[(175,[1,3,5]),(351,[1,6]),(94815,[1,6,7,8]),(703,[1,11]),(24277599,[1,6,7,8,9,10])]
def oK(Q:fj):LP:=JV CS Tryz.f12 t12 87 [1,3,5] [] Q
def oO(Q:fj):LP:=JV CS Tryz.f12 t12 175 [1,6] [] Q
def oL(Q:fj)(a:LP):LP:=JV CS Tryz.f12 t12 47407 [1,6,7,8] [kf [1,6] a] Q
def oX(Q:fj):LP:=JV CS Tryz.f12 t12 351 [1,11] [] Q
def oW(Q:fj)(a:LP)(b:LP):LP:=JV CS Tryz.f12 t12 12138799 [1,6,7,8,9,10] [kf [1,6] a,kf [1,6,7,8] b] Q
def oV(Q:fj)(fu:LP)(c a b:V)(h:Hp):Prop:=oP (fE a) λd=>bO .lss 3 b d (dI 5 a b 0 h λe=>oP (ef .eql 3 e (V.I 25)) λf=>oP (mi f (oB (some a) λg=>oB (some b) λi=>oB (gM 5 g i) λj=>oB (fJ 0 j) λk=>oB (ez k h) λl=>ef .eql 3 l (V.I 26))) λm=>oP (mi m (oB (some a) λn=>oB (some b) λo=>oB (gM 5 n o) λp=>oB (fJ 0 p) λq=>oB (ez q h) λr=>ef .eql 3 r (V.I 27))) λs=>oP (iM s (oB (some a) λt=>oB (some b) λu=>oB (gM 5 t u) λv=>oB (fJ 4 v) λw=>oB (ez w h) λx=>oB (fJ 3 c) λy=>oB (ez y h) λz=>oB (fE z) λA=>ef .geq 2 x A)) λB=>bP B (Q bF h) (oP (ef .add 3 b nO) λC=>fu [c,a,C] h)) (oO Q [c,nZ] h)
theorem xQ{Q}:LN 3 (oV Q) (oK Q):=JV.lm 3 _
def oS(Q:fj)(c:LP)(b d:V)(h:Hp):Prop:=dG 3 b h λe=>bO .lss 3 d e (dJ 3 b 3 d 0 h λa=>oP (fE a) λf=>oP (ef .lss 3 f nO) λg=>oP (mi g (oB (some a) λi=>oB (fE i) λj=>ef .gtr 3 j (V.I 30))) λk=>bP k (Q bF h) (oL Q c [b,d,a,nZ] h)) (oX Q [b,nZ] h)
theorem xP{Q}:LN 2 (oS Q) (oO Q):=JV.lm 2 _
def oR(Q:fj)(e:LP)(o:LP)(B C c d:V)(h:Hp):Prop:=oP (fE c) λp=>bO .lss 3 d p (oP (gM 4 c d) λq=>dG 2 q h λr=>oP (ef .gtr 3 r (V.I 40)) λs=>oP (mi s (oB (some c) λt=>oB (some d) λu=>oB (gM 4 t u) λv=>oB (fJ 3 v) λw=>oB (ez w h) λx=>oB (fE x) λy=>ef .gtr 3 y (V.I 60))) λf=>bP f (Q bF h) (uj (iO 46 2 0 (V.agg [nZ,nZ]) []) h λz g i=>dI 4 c d 2 i λj=>oP (gM 4 c d) λk=>oP (fJ 3 k) λa=>oP (ez a i) λb=>((i.get (h.next)=some z/\O.beq z z=true)/\eJ (fg 46 2 16 g j i) λl n=>(i.next<=n.next/\((ez a n=some b)/\eJ (fg 46 2 16 l b n) λm D=>(n.next<=D.next/\oW Q e o [B,C,c,d,m,nZ] D)))))) (oP (ef .add 3 C nO) λA=>e [B,A] h)
theorem xM{Q a}:LN 4 (oR Q a) (oL Q a):=JV.lm 4 _
def oJ(Q:fj)(i:LP)(j a:V)(h:Hp):Prop:=dG 4 j h λb=>bO .lss 3 a b (dF 4 j h λc=>oP (gM 2 c a) λd=>oP (fZ 2 d h) λe=>cP CS nQ [e,bT] h λf k=>bN f (Q bF k) (oP (ef .add 3 a nO) λg=>i [j,g] k)) (Q bT h)
theorem xO{Q}:LN 2 (oJ Q) (oX Q):=JV.lm 2 _
def oQ(Q:fj)(q:LP)(g:LP)(i:LP)(l m n o j a:V)(h:Hp):Prop:=oP (fE j) λb=>bO .lss 3 a b (oP (gM 2 j a) λc=>oP (fZ 2 c h) λd=>cP CS nQ [d,bF] h λe p=>bN e (Q bF p) (oP (ef .add 3 a nO) λf=>i [l,m,n,o,j,f] p)) (oP (ef .add 3 o nO) λk=>g [l,m,n,k] h)
theorem xJ{Q a b}:LN 6 (oQ Q a b) (oW Q a b):=JV.lm 6 _
theorem zQ{e:V}(H:gU (kZ 29 e) h λf g=>dF 2 f g λb=>cP CS mg [b] g λa i=>oP (qV 0 a) λc=>oP (qV 1 a) λd=>bO .neq 40 d nZ (Q bF i) (oK Q [f,c,nZ] i)):cP CS jY [e] h Q:=cP.ve t12 Tryz.func12 H
theorem Hm{t d:V}(H:gU (kZ 46 t) h λb a=>dF 0 b a λc=>bO .eql 3 c nO (dF 1 b a λe=>oP (ef .geq 2 e nZ) λf=>oP (iM f (oB (fJ 1 b) λg=>oB (ez g a) λi=>ef .lss 2 i (V.I 16))) λj=>Q j a) (bO .eql 3 c (V.I 2) (dF 1 b a λk=>oP (ef .geq 2 k nZ) λl=>oP (iM l (oB (fJ 1 b) λm=>oB (ez m a) λn=>ef .lss 2 n (V.I 400))) λo=>Q o a) (bO .eql 3 c (V.I 3) (oP (wI .not d) λp=>Q p a) (bO .eql 3 c (V.I 4) (oP (iM d (oB (fJ 1 b) λq=>oB (ez q a) λr=>ef .eql 2 r nZ)) λs=>Q s a) (Q bF a))))):cP CS nQ [t,d] h Q:=cP.ve [] Tryz.func36 H
end
