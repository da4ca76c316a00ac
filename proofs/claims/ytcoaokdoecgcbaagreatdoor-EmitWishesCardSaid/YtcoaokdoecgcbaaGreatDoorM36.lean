/- Parts. -/
import Derived.Test.YtcoaokdoecgcbaaGreatDoorM14
set_option maxHeartbeats 4000000
namespace Go.Proofs.YtcoaokdoecgcbaaGreatDoor.Hx
set_option maxRecDepth 100000
noncomputable section
def Hu(Q:fo)(a:V)(h:Hp):Prop:=oP (eh .lss 3 a nO) λe=>oP (nr e (oB (some a) λf=>eh .gtr 3 f (V.I 27))) λg=>bP g (Q (V.str []) h) (cP CS NU [(V.str [83,101,116,32,77,111,118,32,71,101,116,32,75,101,101,112,32,65,100,100,32,83,117,98,32,77,117,108,32,68,105,118,32,82,101,109,32,78,101,103,32,78,111,116,32,69,113,32,78,101,32,76,116,32,76,101,32,66,101,108,111,119,32,84,121,112,101,79,102,32,76,101,110,79,102,32,87,111,114,100,32,87,111,114,100,65,116,32,80,117,116,32,80,117,116,65,116,32,74,117,109,112,32,74,122,32,71,117,97,114,100,32,80,111,108,108,32,76,101,97,118,101]),(V.str [32])] h λi d=>oP (eh .sub 3 a nO) λb=>dX 1 i b d λc=>Q c d)
theorem PO{a h Q}(k:CS.K sX [a] h=none)(H:Hu Q a h):cP CS sX [a] h Q:=cP.vd [] rfl (by unfold P0;exact Tryz.func74) k H
def t114:List (Nat×List Nat):=[(106,[1,2,7,8]),(490,[1,2,7,12]),(2026,[1,2,7,21]),(8170,[1,31])]
def mB(Q:fo):LP:=JV CS Tryz.f114 t114 53 [1,2,7,8] [] Q
def pk(Q:fo):LP:=JV CS Tryz.f114 t114 245 [1,2,7,12] [] Q
def oe(Q:fo):LP:=JV CS Tryz.f114 t114 1013 [1,2,7,21] [] Q
def lU(Q:fo):LP:=JV CS Tryz.f114 t114 4085 [1,31] [] Q
def zU(Q:fo)(d e b f:V)(h:Hp):Prop:=bP f (Q bT h) (oP (eh .eql 3 b (V.I 3)) λa=>bP a (pk Q [d,e,b,a] h) (oP (eh .eql 3 b (V.I 4)) λc=>pk Q [d,e,b,c] h))
theorem Jp{Q}:RV 4 (zU Q) (mB Q):=JV.rn 4 _
def zY(Q:fo)(b j c d:V)(h:Hp):Prop:=bP d (oP (eh .geq 2 b nZ) λe=>oP (jm e (oB (some b) λf=>eh .lss 2 f (V.I 400))) λg=>Q g h) (oP (eh .eql 3 c (V.I 23)) λa=>bP a (oe Q [b,j,c,a] h) (oP (eh .eql 3 c (V.I 24)) λi=>oe Q [b,j,c,i] h))
theorem IY{Q}:RV 4 (zY Q) (pk Q):=JV.rn 4 _
def yW(Q:fo)(a l d e:V)(h:Hp):Prop:=bP e (oP (eh .geq 2 a nZ) λf=>oP (jm f (oB (some a) λg=>oB (some l) λi=>eh .leq 2 g i)) λj=>Q j h) (oP (eh .eql 3 d (V.I 25)) λb=>bP b (lU Q [a,b] h) (oP (eh .eql 3 d (V.I 26)) λc=>bP c (lU Q [a,c] h) (oP (eh .eql 3 d (V.I 27)) λk=>lU Q [a,k] h)))
theorem HG{Q}:RV 4 (yW Q) (oe Q):=JV.rn 4 _
def yx(Q:fo)(a b:V)(h:Hp):Prop:=bP b (oP (eh .geq 2 a nZ) λc=>oP (jm c (oB (some a) λd=>eh .leq 2 d (V.I 1048576))) λe=>Q e h) (oP (eh .eql 2 a nZ) λf=>Q f h)
theorem GM{Q}:RV 2 (yx Q) (lU Q):=JV.rn 2 _
theorem M6{a c d:V}{h:Hp}{Q:fo}(H:oP (eh .eql 3 a nO) λf=>bP f (mB Q [c,d,a,f] h) (oP (eh .eql 3 a (V.I 19)) λb=>bP b (mB Q [c,d,a,b] h) (oP (eh .eql 3 a (V.I 21)) λe=>mB Q [c,d,a,e] h))):cP CS xE [a,c,d] h Q:=cP.ve t114 Tryz.func114 H
def t115:List (Nat×List Nat):=[(106,[3,4]),(490,[3,10]),(2026,[18])]
def kT(Q:fo):LP:=JV CS Tryz.f115 t115 53 [3,4] [] Q
def jr(Q:fo):LP:=JV CS Tryz.f115 t115 245 [3,10] [] Q
def gN(Q:fo):LP:=JV CS Tryz.f115 t115 1013 [18] [] Q
def BY(Q:fo)(a x4:V)(h:Hp):Prop:=bP x4 (Q nO h) (oP (eh .eql 3 a (V.I 2)) λb=>bP b (jr Q [a,b] h) (oP (eh .eql 3 a (V.I 10)) λc=>bP c (jr Q [a,c] h) (oP (eh .eql 3 a (V.I 11)) λd=>bP d (jr Q [a,d] h) (oP (eh .eql 3 a (V.I 17)) λe=>bP e (jr Q [a,e] h) (oP (eh .eql 3 a (V.I 18)) λf=>bP f (jr Q [a,f] h) (oP (eh .eql 3 a (V.I 19)) λg=>bP g (jr Q [a,g] h) (oP (eh .eql 3 a (V.I 21)) λi=>jr Q [a,i] h)))))))
theorem Ll{Q}:RV 2 (BY Q) (kT Q):=JV.rn 2 _
def BN(Q:fo)(a n:V)(h:Hp):Prop:=bP n (Q (V.I 2) h) (oP (eh .eql 3 a (V.I 5)) λb=>bP b (gN Q [b] h) (oP (eh .eql 3 a (V.I 6)) λc=>bP c (gN Q [c] h) (oP (eh .eql 3 a (V.I 7)) λd=>bP d (gN Q [d] h) (oP (eh .eql 3 a (V.I 8)) λe=>bP e (gN Q [e] h) (oP (eh .eql 3 a (V.I 9)) λf=>bP f (gN Q [f] h) (oP (eh .eql 3 a (V.I 12)) λg=>bP g (gN Q [g] h) (oP (eh .eql 3 a (V.I 13)) λi=>bP i (gN Q [i] h) (oP (eh .eql 3 a (V.I 14)) λj=>bP j (gN Q [j] h) (oP (eh .eql 3 a (V.I 15)) λk=>bP k (gN Q [k] h) (oP (eh .eql 3 a (V.I 16)) λl=>bP l (gN Q [l] h) (oP (eh .eql 3 a (V.I 20)) λm=>bP m (gN Q [m] h) (oP (eh .eql 3 a (V.I 22)) λo=>gN Q [o] h))))))))))))
theorem Ln{Q}:RV 2 (BN Q) (jr Q):=JV.rn 2 _
def Bn(Q:fo)(a:V)(h:Hp):Prop:=bP a (Q (V.I 3) h) (Q nZ h)
theorem KF{Q}:RV 1 (Bn Q) (gN Q):=JV.rn 1 _
theorem Ph{a:V}{h:Hp}{Q:fo}(H:oP (eh .eql 3 a nO) λb=>bP b (kT Q [a,b] h) (oP (eh .eql 3 a (V.I 3)) λc=>bP c (kT Q [a,c] h) (oP (eh .eql 3 a (V.I 4)) λd=>bP d (kT Q [a,d] h) (oP (eh .eql 3 a (V.I 24)) λe=>bP e (kT Q [a,e] h) (oP (eh .eql 3 a (V.I 25)) λf=>kT Q [a,f] h))))):cP CS Av [a] h Q:=cP.ve t115 Tryz.func115 H
def t102:List (Nat×List Nat):=[(87,[2,26,27,28])]
def Be(Q:fo):LP:=JV CS Tryz.f102 t102 43 [2,26,27,28] [] Q
def A4(Q:fo)(fE:LP)(t d e b:V)(h:Hp):Prop:=bO .lss 3 b e (dX 1 d b h λc=>oP (eh .lss 3 c nZ) λf=>oP (nr f (oB (some c) λg=>eh .geq 3 g (V.I 16))) λa=>oP (iE false a) λv=>oP (gV v (some b)) λi=>oP (iE false a) λw=>oP (gV w (fV 0 t)) λj=>oP (iE false a) λx=>oP (gV x (eD j h)) λk=>oP (iE false a) λl=>oP (gC l (some (Av,[k]))) λm=>Gn CS m h λn u=>oP (nr a (oB (eh .geq 3 i n) λo=>oB (some o) λp=>jm p (oB (some c) λq=>eh .neq 3 q nZ))) λr=>bP r (Q bF u) (oP (eh .add 3 b nO) λs=>fE [t,d,e,s] u)) (Q bT h)
theorem JS{Q}:LN 4 (A4 Q) (Be Q):=JV.lm 4 _
theorem NT{t u:V}{h:Hp}{Q:fo}(H:hV (mO 102 t) h λb v=>dF 0 b v λw=>cP CS sX [w] v λx e=>oP (eh .eql 9 x (V.str [])) λa=>oP (iE false a) λy=>oP (gV y (fV 0 b)) λf=>oP (iE false a) λz=>oP (gV z (eD f e)) λg=>oP (iE false a) λA=>oP (gV A (fV 4 b)) λi=>oP (iE false a) λB=>oP (gV B (eD i e)) λj=>oP (iE false a) λC=>oP (gV C (some u)) λk=>oP (iE false a) λl=>oP (gC l (some (xE,[g,j,k]))) λm=>Gn CS m e λn c=>oP (nr a (za .not n)) λo=>bP o (Q bF c) (dF 1 b c λp=>dF 2 b c λq=>dF 3 b c λr=>hV (iW 3 1 3 nZ [(0,p),(1,q),(2,r)]) c λd D=>oP (fM d) λs=>Be Q [b,d,s,nZ] D)):cP CS zu [t,u] h Q:=cP.ve t102 Tryz.func102 H
def t72:List (Nat×List Nat):=[(87,[0,8,9,10])]
def A3(Q:fo):LP:=JV CS Tryz.f72 t72 43 [0,8,9,10] [] Q
def Ba(Q:fo)(fE:LP)(i j k a:V)(h:Hp):Prop:=bO .lss 3 a k (oP (gQ 5 j a) λb=>oP (gi 5 b h) λc=>hV (zC 102 [nZ,nZ,nZ,nZ,nZ]) h λl o=>eJ (gw 5 l c o) λp m=>oP (gi 5 l m) λd=>oP (fM i) λe=>cP CS zu [d,e] m λf n=>bN f (Q bF n) (oP (eh .add 3 a nO) λg=>fE [i,j,k,g] n)) (Q bT h)
theorem Km{Q}:LN 4 (Ba Q) (A3 Q):=JV.lm 4 _
theorem N3{a:V}{h:Hp}{Q:fo}(H:oP (fM a) λb=>bO .gtr 3 b (V.I 32768) (Q bF h) (oP (fM a) λc=>A3 Q [a,a,c,nZ] h)):cP CS zm [a] h Q:=cP.ve t72 Tryz.func72 H
def t30:List (Nat×List Nat):=[(175,[4,11,12,13]),(95023,[4,6,7,11,12,13])]
def zI(Q:fo):LP:=JV CS Tryz.f30 t30 87 [4,11,12,13] [] Q
def zS(Q:fo)(fE:LP):LP:=JV CS Tryz.f30 t30 47511 [4,6,7,11,12,13] [kf [4,11,12,13] fE] Q
def zz(Q:fo)(fE:LP)(x4 b c gI:V)(h:Hp):Prop:=bO .lss 3 gI c (oP (gQ 5 b gI) λe=>oP (gi 5 e h) λf=>hV (zC 102 [nZ,nZ,nZ,nZ,nZ]) h λa s=>eJ (gw 5 a f s) λv d=>dF 0 a d λg=>oP (lG .u8 g) λi=>dF 1 a d λj=>oP (eh .mul 3 (V.I 16) j) λk=>dF 2 a d λl=>oP (eh .add 3 k l) λm=>oP (lG .u8 m) λn=>dF 3 a d λo=>oP (lG .u8 o) λp=>hV (iW 5 1 3 (V.int .u8 0) [(0,i),(1,n),(2,p)]) d λq t=>eJ (fg 5 1 1 x4 q t) λr u=>zS Q fE [r,a,nZ,b,c,gI] u) (Q (V.tuple [x4,nZ]) h)
theorem I4{Q}:LN 4 (zz Q) (zI Q):=JV.lm 4 _
def zX(Q:fo)(fE:LP)(gL:LP)(x4 n c a b gI:V)(h:Hp):Prop:=bO .lss 3 c (V.I 8) (dF 4 n h λd=>oP (lG .u64 d) λe=>oP (eh .mul 3 (V.I 8) c) λf=>oP (eh .shr 63 e f) λg=>oP (lG .u8 g) λi=>hV (iW 5 1 1 (V.int .u8 0) [(0,i)]) h λj o=>eJ (fg 5 1 1 x4 j o) λk p=>oP (eh .add 3 c nO) λl=>gL [k,n,l,a,b,gI] p) (oP (eh .add 3 gI nO) λm=>fE [x4,a,b,m] h)
theorem IW{Q fE}:LN 6 (zX Q fE) (zS Q fE):=JV.lm 6 _
theorem MM{a:V}{h:Hp}{Q:fo}(H:cP CS zm [a] h λd c=>bN d (Q (V.tuple [nS,nO]) c) (oP (fM a) λb=>zI Q [nS,a,b,nZ] c)):cP CS xO [a] h Q:=cP.ve t30 Tryz.func30 H
end
