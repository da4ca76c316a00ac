/- Parts. -/
import Derived.Test.YtcoaokdoecgcbaaGreatDoorM14
set_option maxHeartbeats 4000000
namespace Go.Proofs.YtcoaokdoecgcbaaGreatDoor.Hx
variable{Q:fo}{h:Hp}{a:V}
set_option maxRecDepth 100000
noncomputable section
def t16:List (Nat×List Nat):=[(175,[0,4,5]),(88367,[0,4,5,6,7,8])]
def sh(Q:fo):LP:=JV CS Tryz.f16 t16 87 [0,4,5] [] Q
def sV(Q:fo)(fE:LP):LP:=JV CS Tryz.f16 t16 44183 [0,4,5,6,7,8] [kf [0,4,5] fE] Q
def sr(Q:fo)(fE:LP)(c x4 d:V)(h:Hp):Prop:=oP (fM c) λn=>bO .lss 3 d n (oP (gQ 1 c d) λe=>oP (eD e h) λf=>oP (lG .i64 f) λo=>oP (eh .add 3 d nO) λp=>oP (gQ 1 c p) λg=>oP (eD g h) λi=>oP (eh .quo 5 i (V.int .u8 16)) λq=>oP (lG .i64 q) λr=>oP (eh .add 3 d nO) λs=>oP (gQ 1 c s) λj=>oP (eD j h) λk=>oP (eh .rem 5 k (V.int .u8 16)) λt=>oP (lG .i64 t) λu=>oP (eh .add 3 d (V.I 2)) λv=>oP (gQ 1 c v) λl=>oP (eD l h) λm=>oP (lG .i64 m) λw=>oP (fq [nZ,nZ,nZ,nZ,nZ] [(0,1),(1,1),(2,1),(3,1),(4,1)] [(0,o),(1,r),(2,u),(3,w)]) λx=>vV (zC 102 [nZ,nZ,nZ,nZ,nZ]) h λa z b=>((b.get (h.next)=some a/\O.beq a a=true)/\((eD l b=some m)/\((eD j b=some k)/\((eD g b=some i)/\((eD e b=some f)/\eJ (gw 5 z x b) λC A=>(b.next<=A.next/\sV Q fE [c,x4,d,z,(V.int .u64 0),(V.I 7)] A))))))) (cP CS nq [x4] h λy B=>bN y (Q (V.tuple [nS,(V.I 5)]) B) (Q (V.tuple [x4,nZ]) B))
theorem Bb{Q}:LN 3 (sr Q) (sh Q):=JV.lm 3 _
def sO(Q:fo)(fE:LP)(gL:LP)(c x4 d a y e:V)(h:Hp):Prop:=bO .geq 3 e nZ (oP (eh .mul 63 (V.int .u64 256) y) λf=>oP (eh .add 3 d (V.I 3)) λg=>oP (eh .add 3 g e) λi=>dX 1 c i h λj=>oP (lG .u64 j) λk=>oP (eh .add 63 f k) λl=>oP (eh .sub 3 e nO) λm=>gL [c,x4,d,a,l,m] h) (oP (lG .i64 y) λn=>oP (fV 4 a) λo=>eJ (gw 1 o n h) λB b=>dF 0 a b λp=>oP (eh .lss 3 p nO) λq=>oP (nr q (oB (fV 0 a) λr=>oB (eD r b) λs=>eh .gtr 3 s (V.I 27))) λt=>bP t (Q (V.tuple [nS,(V.I 30)]) b) (oP (gi 5 a b) λu=>hV (iW 102 5 1 (V.agg [nZ,nZ,nZ,nZ,nZ]) [(0,u)]) b λv z=>eJ (fg 102 5 40 x4 v z) λw A=>oP (eh .add 3 d (V.I 11)) λx=>fE [c,w,x] A))
theorem A1{Q fE}:LN 6 (sO Q fE) (sV Q fE):=JV.lm 6 _
theorem Ec(H:oP (fM a) λb=>oP (eh .rem 3 b (V.I 11)) λc=>bO .neq 3 c nZ (Q (V.tuple [nS,(V.I 7)]) h) (sh Q [a,nS,nZ] h)):cP CS lY [a] h Q:=cP.ve t16 Tryz.func16 H
def t42:List (Nat×List Nat):=[(87,[0,3])]
def p8(Q:fo):LP:=JV CS Tryz.f42 t42 43 [0,3] [] Q
def p7(Q:fo)(fE:LP)(a b:V)(h:Hp):Prop:=oP (fM a) λj=>bO .lss 3 b j (oP (gQ 5 a b) λc=>oP (gi 5 c h) λd=>oP (fM a) λe=>cP CS ly [d,e] h λf i=>bN f (Q bF i) (oP (eh .add 3 b nO) λg=>fE [a,g] i)) (Q bT h)
theorem yM{Q}:LN 2 (p7 Q) (p8 Q):=JV.lm 2 _
theorem Bj(H:oP (fM a) λb=>bO .gtr 3 b (V.I 32768) (Q bF h) (p8 Q [a,nZ] h)):cP CS nq [a] h Q:=cP.ve t42 Tryz.func42 H
def t49:List (Nat×List Nat):=[(351,[1,2,5,6,7,8]),(3454,[1,2,66,67]),(15742,[1,2,66,78]),(64894,[2,90])]
def qI(Q:fo):LP:=JV CS Tryz.f49 t49 175 [1,2,5,6,7,8] [] Q
def jR(Q:fo):LP:=JV CS Tryz.f49 t49 1727 [1,2,66,67] [] Q
def jN(Q:fo):LP:=JV CS Tryz.f49 t49 7871 [1,2,66,78] [] Q
def iS(Q:fo):LP:=JV CS Tryz.f49 t49 32447 [2,90] [] Q
def qJ(Q:fo)(fE:LP)(f c g E e b:V)(h:Hp):Prop:=bO .lss 3 b (V.I 3) (oP (eh .lss 3 b g) λi=>oP (jm i (oB (some b) λj=>oB (rH 3 1 e j) λk=>oB (eD k h) λl=>oB (eh .lss 3 l nZ) λm=>oB (some m) λn=>nr n (oB (some b) λo=>oB (rH 3 1 e o) λp=>oB (eD p h) λq=>eh .gtr 3 q (V.I 15)))) λr=>oP (nr r (oB (some b) λs=>oB (some g) λt=>oB (eh .geq 3 s t) λu=>oB (some u) λv=>jm v (oB (some b) λw=>oB (rH 3 1 e w) λx=>oB (eD x h) λy=>eh .neq 3 y nZ))) λz=>bP z (Q bF h) (oP (eh .add 3 b nO) λA=>fE [f,c,g,E,e,A] h)) (bN E (dF 4 c h λB=>oP (eh .eql 2 B nZ) λC=>Q C h) (dF 0 c h λa=>oP (eh .eql 3 a (V.I 3)) λd=>bP d (jR Q [f,c,a,d] h) (oP (eh .eql 3 a (V.I 4)) λD=>jR Q [f,c,a,D] h)))
theorem zq{Q}:LN 6 (qJ Q) (qI Q):=JV.lm 6 _
def qb(Q:fo)(l c a d:V)(h:Hp):Prop:=bP d (dF 4 c h λe=>oP (eh .geq 2 e nZ) λf=>oP (jm f (oB (fV 4 c) λg=>oB (eD g h) λi=>eh .lss 2 i (V.I 400))) λj=>Q j h) (oP (eh .eql 3 a (V.I 23)) λb=>bP b (jN Q [l,c,a,b] h) (oP (eh .eql 3 a (V.I 24)) λk=>jN Q [l,c,a,k] h))
theorem yK{Q}:RV 4 (qb Q) (jR Q):=JV.rn 4 _
def qe(Q:fo)(n b a e:V)(h:Hp):Prop:=bP e (dF 4 b h λf=>oP (eh .geq 2 f nZ) λg=>oP (jm g (oB (fV 4 b) λi=>oB (eD i h) λj=>oB (some n) λk=>eh .leq 2 j k)) λl=>Q l h) (oP (eh .eql 3 a (V.I 25)) λc=>bP c (iS Q [b,c] h) (oP (eh .eql 3 a (V.I 26)) λd=>bP d (iS Q [b,d] h) (oP (eh .eql 3 a (V.I 27)) λm=>iS Q [b,m] h)))
theorem yU{Q}:RV 4 (qe Q) (jN Q):=JV.rn 4 _
def p6(Q:fo)(g b:V)(h:Hp):Prop:=bP b (dF 4 g h λc=>oP (eh .geq 2 c nZ) λd=>oP (jm d (oB (fV 4 g) λe=>oB (eD e h) λf=>eh .leq 2 f (V.I 1048576))) λa=>Q a h) (Q bT h)
theorem y5{Q}:RV 2 (p6 Q) (iS Q):=JV.rn 2 _
theorem BI{r s:V}(H:hV (mO 102 r) h λa b=>dF 0 a b λe=>oP (eh .lss 3 e nO) λf=>oP (nr f (oB (fV 0 a) λg=>oB (eD g b) λi=>eh .gtr 3 i (V.I 27))) λj=>bP j (Q bF b) (dF 0 a b λk=>cP CS ql [k] b λc d=>oP (rQ 0 c) λl=>oP (rQ 1 c) λm=>dF 1 a d λn=>dF 2 a d λo=>dF 3 a d λp=>oP (zdz 1 [nZ,nZ,nZ] [(0,n),(1,o),(2,p)]) λq=>hV (zC 152 [nZ,nZ,nZ]) d λt u=>eJ (gw 3 t q u) λw v=>qI Q [s,a,l,m,t,nZ] v)):cP CS ly [r,s] h Q:=cP.ve t49 Tryz.func49 H
def t78:List (Nat×List Nat):=[(106,[4,5]),(490,[4,11]),(2026,[4,17]),(8170,[20])]
def ir(Q:fo):LP:=JV CS Tryz.f78 t78 53 [4,5] [] Q
def iu(Q:fo):LP:=JV CS Tryz.f78 t78 245 [4,11] [] Q
def ku(Q:fo):LP:=JV CS Tryz.f78 t78 1013 [4,17] [] Q
def jC(Q:fo):LP:=JV CS Tryz.f78 t78 4085 [20] [] Q
def tH(Q:fo)(x4 f:V)(h:Hp):Prop:=bP f (Q (V.tuple [nO,bT]) h) (oP (eh .eql 3 x4 (V.I 2)) λa=>bP a (iu Q [x4,a] h) (oP (eh .eql 3 x4 (V.I 10)) λb=>bP b (iu Q [x4,b] h) (oP (eh .eql 3 x4 (V.I 11)) λc=>bP c (iu Q [x4,c] h) (oP (eh .eql 3 x4 (V.I 17)) λd=>bP d (iu Q [x4,d] h) (oP (eh .eql 3 x4 (V.I 18)) λe=>iu Q [x4,e] h)))))
theorem By{Q}:RV 2 (tH Q) (ir Q):=JV.rn 2 _
def tE(Q:fo)(x4 b:V)(h:Hp):Prop:=bP b (Q (V.tuple [(V.I 2),bF]) h) (oP (eh .eql 3 x4 (V.I 19)) λa=>bP a (ku Q [x4,a] h) (oP (eh .eql 3 x4 (V.I 21)) λc=>ku Q [x4,c] h))
theorem Bu{Q}:RV 2 (tE Q) (iu Q):=JV.rn 2 _
def sQ(Q:fo)(x4 c:V)(h:Hp):Prop:=bP c (Q (V.tuple [(V.I 2),bT]) h) (oP (eh .eql 3 x4 (V.I 23)) λa=>bP a (jC Q [a] h) (oP (eh .eql 3 x4 (V.I 26)) λb=>bP b (jC Q [b] h) (oP (eh .eql 3 x4 (V.I 27)) λd=>jC Q [d] h)))
theorem AD{Q}:RV 2 (sQ Q) (ku Q):=JV.rn 2 _
def sD(Q:fo)(a:V)(h:Hp):Prop:=bP a (Q (V.tuple [nZ,bT]) h) (Q (V.tuple [(V.I 3),bF]) h)
theorem Ax{Q}:RV 1 (sD Q) (jC Q):=JV.rn 1 _
theorem ET(H:oP (eh .eql 3 a nO) λc=>bP c (ir Q [a,c] h) (oP (eh .eql 3 a (V.I 3)) λd=>bP d (ir Q [a,d] h) (oP (eh .eql 3 a (V.I 4)) λe=>bP e (ir Q [a,e] h) (oP (eh .eql 3 a (V.I 24)) λf=>bP f (ir Q [a,f] h) (oP (eh .eql 3 a (V.I 25)) λb=>ir Q [a,b] h))))):cP CS ql [a] h Q:=cP.ve t78 Tryz.func78 H
def t12:List (Nat×List Nat):=[(175,[1,3,5]),(351,[1,6]),(94815,[1,6,7,8]),(703,[1,11]),(24277599,[1,6,7,8,9,10])]
def oX(Q:fo):LP:=JV CS Tryz.f12 t12 87 [1,3,5] [] Q
def oW(Q:fo):LP:=JV CS Tryz.f12 t12 175 [1,6] [] Q
def oT(Q:fo)(gL:LP):LP:=JV CS Tryz.f12 t12 47407 [1,6,7,8] [kf [1,6] gL] Q
def oR(Q:fo):LP:=JV CS Tryz.f12 t12 351 [1,11] [] Q
def oV(Q:fo)(gL:LP)(a:LP):LP:=JV CS Tryz.f12 t12 12138799 [1,6,7,8,9,10] [kf [1,6] gL,kf [1,6,7,8] a] Q
def oY(Q:fo)(fE:LP)(c a b:V)(h:Hp):Prop:=oP (fM a) λd=>bO .lss 3 b d (dI 5 a b 0 h λe=>oP (eh .eql 3 e (V.I 25)) λf=>oP (nr f (oB (some a) λg=>oB (some b) λi=>oB (gQ 5 g i) λj=>oB (fV 0 j) λk=>oB (eD k h) λl=>eh .eql 3 l (V.I 26))) λm=>oP (nr m (oB (some a) λn=>oB (some b) λo=>oB (gQ 5 n o) λp=>oB (fV 0 p) λq=>oB (eD q h) λr=>eh .eql 3 r (V.I 27))) λs=>oP (jm s (oB (some a) λt=>oB (some b) λu=>oB (gQ 5 t u) λv=>oB (fV 4 v) λw=>oB (eD w h) λx=>oB (fV 3 c) λy=>oB (eD y h) λz=>oB (fM z) λA=>eh .geq 2 x A)) λB=>bP B (Q bF h) (oP (eh .add 3 b nO) λC=>fE [c,a,C] h)) (oW Q [c,nZ] h)
theorem wY{Q}:LN 3 (oY Q) (oX Q):=JV.lm 3 _
def oU(Q:fo)(gL:LP)(b c:V)(h:Hp):Prop:=dG 3 b h λd=>bO .lss 3 c d (dJ 3 b 3 c 0 h λa=>oP (fM a) λe=>oP (eh .lss 3 e nO) λf=>oP (nr f (oB (some a) λg=>oB (fM g) λi=>eh .gtr 3 i (V.I 30))) λj=>bP j (Q bF h) (oT Q gL [b,c,a,nZ] h)) (oR Q [b,nZ] h)
theorem xh{Q}:LN 2 (oU Q) (oW Q):=JV.lm 2 _
def oS(Q:fo)(gL:LP)(n:LP)(A B c d:V)(h:Hp):Prop:=oP (fM c) λo=>bO .lss 3 d o (oP (gQ 4 c d) λp=>dG 2 p h λq=>oP (eh .gtr 3 q (V.I 40)) λr=>oP (nr r (oB (some c) λs=>oB (some d) λt=>oB (gQ 4 s t) λu=>oB (fV 3 u) λv=>oB (eD v h) λw=>oB (fM w) λx=>eh .gtr 3 x (V.I 60))) λe=>bP e (Q bF h) (vV (iW 46 2 0 (V.agg [nZ,nZ]) []) h λy f g=>dI 4 c d 2 g λi=>oP (gQ 4 c d) λj=>oP (fV 3 j) λa=>oP (eD a g) λb=>((g.get (h.next)=some y/\O.beq y y=true)/\eJ (fg 46 2 16 f i g) λk m=>(g.next<=m.next/\((eD a m=some b)/\eJ (fg 46 2 16 k b m) λl C=>(m.next<=C.next/\oV Q gL n [A,B,c,d,l,nZ] C)))))) (oP (eh .add 3 B nO) λz=>gL [A,z] h)
theorem xd{Q gL}:LN 4 (oS Q gL) (oT Q gL):=JV.lm 4 _
def oO(Q:fo)(i:LP)(j a:V)(h:Hp):Prop:=dG 4 j h λb=>bO .lss 3 a b (dF 4 j h λc=>oP (gQ 2 c a) λd=>oP (gi 2 d h) λe=>cP CS nT [e,bT] h λf k=>bN f (Q bF k) (oP (eh .add 3 a nO) λg=>i [j,g] k)) (Q bT h)
theorem xg{Q}:LN 2 (oO Q) (oR Q):=JV.lm 2 _
def oZ(Q:fo)(gL:LP)(g:LP)(i:LP)(l m n o j a:V)(h:Hp):Prop:=oP (fM j) λb=>bO .lss 3 a b (oP (gQ 2 j a) λc=>oP (gi 2 c h) λd=>cP CS nT [d,bF] h λe p=>bN e (Q bF p) (oP (eh .add 3 a nO) λf=>i [l,m,n,o,j,f] p)) (oP (eh .add 3 o nO) λk=>g [l,m,n,k] h)
theorem wZ{Q gL a}:LN 6 (oZ Q gL a) (oV Q gL a):=JV.lm 6 _
theorem zl{e:V}(H:hV (mO 29 e) h λf g=>dF 2 f g λb=>cP CS lY [b] g λa i=>oP (rQ 0 a) λc=>oP (rQ 1 a) λd=>bO .neq 40 d nZ (Q bF i) (oX Q [f,c,nZ] i)):cP CS mq [e] h Q:=cP.ve t12 Tryz.func12 H
theorem Hz{t d:V}(H:hV (mO 46 t) h λb a=>dF 0 b a λc=>bO .eql 3 c nO (dF 1 b a λe=>oP (eh .geq 2 e nZ) λf=>oP (jm f (oB (fV 1 b) λg=>oB (eD g a) λi=>eh .lss 2 i (V.I 16))) λj=>Q j a) (bO .eql 3 c (V.I 2) (dF 1 b a λk=>oP (eh .geq 2 k nZ) λl=>oP (jm l (oB (fV 1 b) λm=>oB (eD m a) λn=>eh .lss 2 n (V.I 400))) λo=>Q o a) (bO .eql 3 c (V.I 3) (oP (za .not d) λp=>Q p a) (bO .eql 3 c (V.I 4) (oP (jm d (oB (fV 1 b) λq=>oB (eD q a) λr=>eh .eql 2 r nZ)) λs=>Q s a) (Q bF a))))):cP CS nT [t,d] h Q:=cP.ve [] Tryz.func36 H
end
