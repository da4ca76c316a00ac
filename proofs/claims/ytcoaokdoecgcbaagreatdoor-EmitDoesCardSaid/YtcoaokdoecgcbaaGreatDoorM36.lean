/- Parts. -/
import Derived.Test.YtcoaokdoecgcbaaGreatDoorM14
set_option maxHeartbeats 4000000
namespace Go.Proofs.YtcoaokdoecgcbaaGreatDoor.Hx
variable{Q:fj}{h:Hp}{a:V}
set_option maxRecDepth 100000
noncomputable section
def Ip(Q:fj)(a:V)(h:Hp):Prop:=oP (ef .lss 3 a nO) λe=>oP (mi e (oB (some a) λf=>ef .gtr 3 f (V.I 27))) λg=>bP g (Q (V.str []) h) (cP CS OV [(V.str [83,101,116,32,77,111,118,32,71,101,116,32,75,101,101,112,32,65,100,100,32,83,117,98,32,77,117,108,32,68,105,118,32,82,101,109,32,78,101,103,32,78,111,116,32,69,113,32,78,101,32,76,116,32,76,101,32,66,101,108,111,119,32,84,121,112,101,79,102,32,76,101,110,79,102,32,87,111,114,100,32,87,111,114,100,65,116,32,80,117,116,32,80,117,116,65,116,32,74,117,109,112,32,74,122,32,71,117,97,114,100,32,80,111,108,108,32,76,101,97,118,101]),(V.str [32])] h λi d=>oP (ef .sub 3 a nO) λb=>dX 1 i b d λc=>Q c d)
theorem QJ{a h Q}(k:CS.K nh [a] h=none)(H:Ip Q a h):cP CS nh [a] h Q:=cP.vd [] rfl (by unfold P0;exact Tryz.func74) k H
def t114:List (Nat×List Nat):=[(106,[1,2,7,8]),(490,[1,2,7,12]),(2026,[1,2,7,21]),(8170,[1,31])]
def mr(Q:fj):LP:=JV CS Tryz.f114 t114 53 [1,2,7,8] [] Q
def pg(Q:fj):LP:=JV CS Tryz.f114 t114 245 [1,2,7,12] [] Q
def ot(Q:fj):LP:=JV CS Tryz.f114 t114 1013 [1,2,7,21] [] Q
def lS(Q:fj):LP:=JV CS Tryz.f114 t114 4085 [1,31] [] Q
def Af(Q:fj)(d e b f:V)(h:Hp):Prop:=bP f (Q bT h) (oP (ef .eql 3 b (V.I 3)) λa=>bP a (pg Q [d,e,b,a] h) (oP (ef .eql 3 b (V.I 4)) λc=>pg Q [d,e,b,c] h))
theorem Kh{Q}:RV 4 (Af Q) (mr Q):=JV.rn 4 _
def Ar(Q:fj)(b j c d:V)(h:Hp):Prop:=bP d (oP (ef .geq 2 b nZ) λe=>oP (iM e (oB (some b) λf=>ef .lss 2 f (V.I 400))) λg=>Q g h) (oP (ef .eql 3 c (V.I 23)) λa=>bP a (ot Q [b,j,c,a] h) (oP (ef .eql 3 c (V.I 24)) λi=>ot Q [b,j,c,i] h))
theorem Kw{Q}:RV 4 (Ar Q) (pg Q):=JV.rn 4 _
def yO(Q:fj)(a l d e:V)(h:Hp):Prop:=bP e (oP (ef .geq 2 a nZ) λf=>oP (iM f (oB (some a) λg=>oB (some l) λi=>ef .leq 2 g i)) λj=>Q j h) (oP (ef .eql 3 d (V.I 25)) λb=>bP b (lS Q [a,b] h) (oP (ef .eql 3 d (V.I 26)) λc=>bP c (lS Q [a,c] h) (oP (ef .eql 3 d (V.I 27)) λk=>lS Q [a,k] h)))
theorem IX{Q}:RV 4 (yO Q) (ot Q):=JV.rn 4 _
def yW(Q:fj)(a b:V)(h:Hp):Prop:=bP b (oP (ef .geq 2 a nZ) λc=>oP (iM c (oB (some a) λd=>ef .leq 2 d (V.I 1048576))) λe=>Q e h) (oP (ef .eql 2 a nZ) λf=>Q f h)
theorem Ia{Q}:RV 2 (yW Q) (lS Q):=JV.rn 2 _
theorem Ob{c d:V}(H:oP (ef .eql 3 a nO) λf=>bP f (mr Q [c,d,a,f] h) (oP (ef .eql 3 a (V.I 19)) λb=>bP b (mr Q [c,d,a,b] h) (oP (ef .eql 3 a (V.I 21)) λe=>mr Q [c,d,a,e] h))):cP CS yr [a,c,d] h Q:=cP.ve t114 Tryz.func114 H
def t115:List (Nat×List Nat):=[(106,[3,4]),(490,[3,10]),(2026,[18])]
def kI(Q:fj):LP:=JV CS Tryz.f115 t115 53 [3,4] [] Q
def jq(Q:fj):LP:=JV CS Tryz.f115 t115 245 [3,10] [] Q
def gO(Q:fj):LP:=JV CS Tryz.f115 t115 1013 [18] [] Q
def CB(Q:fj)(a x4:V)(h:Hp):Prop:=bP x4 (Q nO h) (oP (ef .eql 3 a (V.I 2)) λb=>bP b (jq Q [a,b] h) (oP (ef .eql 3 a (V.I 10)) λc=>bP c (jq Q [a,c] h) (oP (ef .eql 3 a (V.I 11)) λd=>bP d (jq Q [a,d] h) (oP (ef .eql 3 a (V.I 17)) λe=>bP e (jq Q [a,e] h) (oP (ef .eql 3 a (V.I 18)) λf=>bP f (jq Q [a,f] h) (oP (ef .eql 3 a (V.I 19)) λg=>bP g (jq Q [a,g] h) (oP (ef .eql 3 a (V.I 21)) λi=>jq Q [a,i] h)))))))
theorem Mz{Q}:RV 2 (CB Q) (kI Q):=JV.rn 2 _
def Cz(Q:fj)(a n:V)(h:Hp):Prop:=bP n (Q (V.I 2) h) (oP (ef .eql 3 a (V.I 5)) λb=>bP b (gO Q [b] h) (oP (ef .eql 3 a (V.I 6)) λc=>bP c (gO Q [c] h) (oP (ef .eql 3 a (V.I 7)) λd=>bP d (gO Q [d] h) (oP (ef .eql 3 a (V.I 8)) λe=>bP e (gO Q [e] h) (oP (ef .eql 3 a (V.I 9)) λf=>bP f (gO Q [f] h) (oP (ef .eql 3 a (V.I 12)) λg=>bP g (gO Q [g] h) (oP (ef .eql 3 a (V.I 13)) λi=>bP i (gO Q [i] h) (oP (ef .eql 3 a (V.I 14)) λj=>bP j (gO Q [j] h) (oP (ef .eql 3 a (V.I 15)) λk=>bP k (gO Q [k] h) (oP (ef .eql 3 a (V.I 16)) λl=>bP l (gO Q [l] h) (oP (ef .eql 3 a (V.I 20)) λm=>bP m (gO Q [m] h) (oP (ef .eql 3 a (V.I 22)) λo=>gO Q [o] h))))))))))))
theorem MD{Q}:RV 2 (Cz Q) (jq Q):=JV.rn 2 _
def BM(Q:fj)(a:V)(h:Hp):Prop:=bP a (Q (V.I 3) h) (Q nZ h)
theorem Lw{Q}:RV 1 (BM Q) (gO Q):=JV.rn 1 _
theorem Q8(H:oP (ef .eql 3 a nO) λb=>bP b (kI Q [a,b] h) (oP (ef .eql 3 a (V.I 3)) λc=>bP c (kI Q [a,c] h) (oP (ef .eql 3 a (V.I 4)) λd=>bP d (kI Q [a,d] h) (oP (ef .eql 3 a (V.I 24)) λe=>bP e (kI Q [a,e] h) (oP (ef .eql 3 a (V.I 25)) λf=>kI Q [a,f] h))))):cP CS By [a] h Q:=cP.ve t115 Tryz.func115 H
def t102:List (Nat×List Nat):=[(87,[2,26,27,28])]
def Bh(Q:fj):LP:=JV CS Tryz.f102 t102 43 [2,26,27,28] [] Q
def A0(Q:fj)(fu:LP)(t d e b:V)(h:Hp):Prop:=bO .lss 3 b e (dX 1 d b h λc=>oP (ef .lss 3 c nZ) λf=>oP (mi f (oB (some c) λg=>ef .geq 3 g (V.I 16))) λa=>oP (gD false a) λv=>oP (gV v (some b)) λi=>oP (gD false a) λw=>oP (gV w (fJ 0 t)) λj=>oP (gD false a) λx=>oP (gV x (ez j h)) λk=>oP (gD false a) λl=>oP (gC l (some (By,[k]))) λm=>zL CS m h λn u=>oP (mi a (oB (ef .geq 3 i n) λo=>oB (some o) λp=>iM p (oB (some c) λq=>ef .neq 3 q nZ))) λr=>bP r (Q bF u) (oP (ef .add 3 b nO) λs=>fu [t,d,e,s] u)) (Q bT h)
theorem KO{Q}:LN 4 (A0 Q) (Bh Q):=JV.lm 4 _
theorem OR{t u:V}(H:gU (kZ 102 t) h λb v=>dF 0 b v λw=>cP CS nh [w] v λx e=>oP (ef .eql 9 x (V.str [])) λa=>oP (gD false a) λy=>oP (gV y (fJ 0 b)) λf=>oP (gD false a) λz=>oP (gV z (ez f e)) λg=>oP (gD false a) λA=>oP (gV A (fJ 4 b)) λi=>oP (gD false a) λB=>oP (gV B (ez i e)) λj=>oP (gD false a) λC=>oP (gV C (some u)) λk=>oP (gD false a) λl=>oP (gC l (some (yr,[g,j,k]))) λm=>zL CS m e λn c=>oP (mi a (wI .not n)) λo=>bP o (Q bF c) (dF 1 b c λp=>dF 2 b c λq=>dF 3 b c λr=>gU (iO 3 1 3 nZ [(0,p),(1,q),(2,r)]) c λd D=>oP (fE d) λs=>Bh Q [b,d,s,nZ] D)):cP CS zO [t,u] h Q:=cP.ve t102 Tryz.func102 H
def t72:List (Nat×List Nat):=[(87,[0,8,9,10])]
def A4(Q:fj):LP:=JV CS Tryz.f72 t72 43 [0,8,9,10] [] Q
def BF(Q:fj)(fu:LP)(i j k a:V)(h:Hp):Prop:=bO .lss 3 a k (oP (gM 5 j a) λb=>oP (fZ 5 b h) λc=>gU (zC 102 [nZ,nZ,nZ,nZ,nZ]) h λl o=>eJ (gj 5 l c o) λp m=>oP (fZ 5 l m) λd=>oP (fE i) λe=>cP CS zO [d,e] m λf n=>bN f (Q bF n) (oP (ef .add 3 a nO) λg=>fu [i,j,k,g] n)) (Q bT h)
theorem Lt{Q}:LN 4 (BF Q) (A4 Q):=JV.lm 4 _
theorem OP(H:oP (fE a) λb=>bO .gtr 3 b (V.I 32768) (Q bF h) (oP (fE a) λc=>A4 Q [a,a,c,nZ] h)):cP CS vw [a] h Q:=cP.ve t72 Tryz.func72 H
def t30:List (Nat×List Nat):=[(175,[4,11,12,13]),(95023,[4,6,7,11,12,13])]
def Ap(Q:fj):LP:=JV CS Tryz.f30 t30 87 [4,11,12,13] [] Q
def zW(Q:fj)(fu:LP):LP:=JV CS Tryz.f30 t30 47511 [4,6,7,11,12,13] [kf [4,11,12,13] fu] Q
def An(Q:fj)(fu:LP)(x4 b c gL:V)(h:Hp):Prop:=bO .lss 3 gL c (oP (gM 5 b gL) λe=>oP (fZ 5 e h) λf=>gU (zC 102 [nZ,nZ,nZ,nZ,nZ]) h λa s=>eJ (gj 5 a f s) λv d=>dF 0 a d λg=>oP (jN .u8 g) λi=>dF 1 a d λj=>oP (ef .mul 3 (V.I 16) j) λk=>dF 2 a d λl=>oP (ef .add 3 k l) λm=>oP (jN .u8 m) λn=>dF 3 a d λo=>oP (jN .u8 o) λp=>gU (iO 5 1 3 (V.int .u8 0) [(0,i),(1,n),(2,p)]) d λq t=>eJ (fg 5 1 1 x4 q t) λr u=>zW Q fu [r,a,nZ,b,c,gL] u) (Q (V.tuple [x4,nZ]) h)
theorem JO{Q}:LN 4 (An Q) (Ap Q):=JV.lm 4 _
def Ad(Q:fj)(fu:LP)(c:LP)(x4 o d a b gL:V)(h:Hp):Prop:=bO .lss 3 d (V.I 8) (dF 4 o h λe=>oP (jN .u64 e) λf=>oP (ef .mul 3 (V.I 8) d) λg=>oP (ef .shr 63 f g) λi=>oP (jN .u8 i) λj=>gU (iO 5 1 1 (V.int .u8 0) [(0,j)]) h λk p=>eJ (fg 5 1 1 x4 k p) λl q=>oP (ef .add 3 d nO) λm=>c [l,o,m,a,b,gL] q) (oP (ef .add 3 gL nO) λn=>fu [x4,a,b,n] h)
theorem Kv{Q fu}:LN 6 (Ad Q fu) (zW Q fu):=JV.lm 6 _
theorem Nt(H:cP CS vw [a] h λd c=>bN d (Q (V.tuple [nS,nO]) c) (oP (fE a) λb=>Ap Q [nS,a,b,nZ] c)):cP CS yq [a] h Q:=cP.ve t30 Tryz.func30 H
def t34:List (Nat×List Nat):=[(79,[0,4]),(89231,[0,4,5,6,7])]
def Ah(Q:fj):LP:=JV CS Tryz.f34 t34 39 [0,4] [] Q
def Ak(Q:fj)(fu:LP):LP:=JV CS Tryz.f34 t34 44615 [0,4,5,6,7] [kf [0,4] fu] Q
def Az(Q:fj)(fu:LP)(c x4:V)(h:Hp):Prop:=oP (fE c) λm=>bO .gtr 3 m nZ (oP (gM 1 c nZ) λd=>oP (ez d h) λe=>oP (jN .i64 e) λn=>oP (gM 1 c nO) λf=>oP (ez f h) λg=>oP (ef .quo 5 g (V.int .u8 16)) λo=>oP (jN .i64 o) λp=>oP (gM 1 c nO) λi=>oP (ez i h) λj=>oP (ef .rem 5 j (V.int .u8 16)) λq=>oP (jN .i64 q) λr=>oP (gM 1 c (V.I 2)) λk=>oP (ez k h) λl=>oP (jN .i64 l) λs=>oP (fq [nZ,nZ,nZ,nZ,nZ] gc [(0,n),(1,p),(2,r),(3,s)]) λt=>uj (zC 102 [nZ,nZ,nZ,nZ,nZ]) h λa u b=>((b.get (h.next)=some a/\O.beq a a=true)/\((ez k b=some l)/\((ez i b=some j)/\((ez f b=some g)/\((ez d b=some e)/\eJ (gj 5 u t b) λB v=>(b.next<=v.next/\dF 0 u v λw=>cP CS nh [w] v λx z=>bO .eql 9 x (V.str []) (Q (V.tuple [nS,(V.I 30)]) z) (Ak Q fu [c,x4,u,(V.int .u64 0),nZ] z)))))))) (cP CS vw [x4] h λy A=>bN y (Q (V.tuple [nS,(V.I 5)]) A) (Q (V.tuple [x4,nZ]) A))
theorem Ki{Q}:LN 2 (Az Q) (Ah Q):=JV.lm 2 _
def Av(Q:fj)(fu:LP)(b:LP)(c x4 d s a:V)(h:Hp):Prop:=bO .lss 3 a (V.I 8) (oP (ef .add 3 (V.I 3) a) λe=>dX 1 c e h λf=>oP (jN .u64 f) λg=>oP (ef .mul 3 (V.I 8) a) λi=>oP (ef .shl 63 g i) λj=>oP (ef .or 63 s j) λk=>oP (ef .add 3 a nO) λl=>b [c,x4,d,k,l] h) (oP (jN .i64 s) λm=>oP (fJ 4 d) λn=>eJ (gj 1 n m h) λw t=>oP (fZ 5 d t) λo=>gU (iO 102 5 1 (V.agg [nZ,nZ,nZ,nZ,nZ]) [(0,o)]) t λp v=>eJ (fg 102 5 40 x4 p v) λq u=>oP (jw 1 c (some (V.I 11)) none u) λr=>fu [r,q] u)
theorem Kd{Q fu}:LN 5 (Av Q fu) (Ak Q fu):=JV.lm 5 _
theorem NB(H:oP (fE a) λc=>oP (ef .rem 3 c (V.I 11)) λb=>bO .neq 3 b nZ (Q (V.tuple [nS,(V.I 7)]) h) (Ah Q [a,nS] h)):cP CS yB [a] h Q:=cP.ve t34 Tryz.func34 H
def t11:List (Nat×List Nat):=[(175,[1,25,26,27]),(351,[54,55,56]),(190047,[54,55,56,71,72,73])]
def GA(Q:fj):LP:=JV CS Tryz.f11 t11 87 [1,25,26,27] [] Q
def GC(Q:fj):LP:=JV CS Tryz.f11 t11 175 [54,55,56] [] Q
def GH(Q:fj)(a:LP):LP:=JV CS Tryz.f11 t11 95023 [54,55,56,71,72,73] [kf [54,55,56] a] Q
def Gy(Q:fj)(fu:LP)(g c d a:V)(h:Hp):Prop:=bO .lss 3 a d (oP (gM 5 c a) λi=>oP (fZ 5 i h) λj=>gU (zC 102 [nZ,nZ,nZ,nZ,nZ]) h λe A=>eJ (gj 5 e j A) λB b=>dF 0 e b λk=>oP (ef .eql 3 k (V.I 25)) λl=>oP (mi l (oB (fJ 0 e) λm=>oB (ez m b) λn=>ef .eql 3 n (V.I 26))) λo=>oP (mi o (oB (fJ 0 e) λp=>oB (ez p b) λq=>ef .eql 3 q (V.I 27))) λr=>oP (iM r (oB (fJ 4 e) λs=>oB (ez s b) λt=>oB (fJ 3 g) λu=>oB (ez u b) λv=>oB (fE v) λw=>ef .geq 2 t w)) λx=>bP x (Q bF b) (oP (ef .add 3 a nO) λy=>fu [g,c,d,y] b)) (dF 3 g h λf=>oP (fE f) λz=>GC Q [f,z,nZ] h)
theorem Pd{Q}:LN 4 (Gy Q) (GA Q):=JV.lm 4 _
def GB(Q:fj)(g:LP)(b c a:V)(h:Hp):Prop:=bO .lss 3 a c (oP (gM 3 b a) λi=>oP (fZ 3 i h) λj=>gU (zC 51 [nS,nZ,nZ]) h λf r=>eJ (gj 3 f j r) λs d=>dG 0 f d λk=>oP (ef .eql 3 k nZ) λl=>oP (mi l (oB (fJ 0 f) λm=>oB (ez m d) λn=>oB (fE n) λo=>ef .gtr 3 o (V.I 30))) λp=>bP p (Q bF d) (dF 0 f d λe=>oP (fE e) λq=>GH Q g [b,c,a,e,q,nZ] d)) (Q bT h)
theorem OQ{Q}:LN 3 (GB Q) (GC Q):=JV.lm 3 _
def GO(Q:fj)(m:LP)(n:LP)(e f g i j d:V)(h:Hp):Prop:=bO .lss 3 d j (oP (gM 4 i d) λo=>oP (fZ 4 o h) λp=>gU (zC 48 [nZ,nZ,nS,nS]) h λa N=>eJ (gj 4 a p N) λO l=>dG 2 a l λq=>oP (ef .gtr 3 q (V.I 40)) λr=>oP (mi r (oB (fJ 3 a) λs=>oB (ez s l) λt=>oB (fE t) λu=>ef .gtr 3 u (V.I 60))) λb=>oP (gD false b) λv=>oP (gV v (fJ 2 a)) λw=>oP (gD false b) λx=>oP (gV x (ez w l)) λy=>oP (gD false b) λz=>oP (gC z (some (BC,[y,bF]))) λA=>zL CS A l λB L=>oP (mi b (wI .not B)) λc=>oP (gD false c) λC=>oP (gV C (fJ 3 a)) λD=>oP (gD false c) λE=>oP (gV E (ez D L)) λF=>oP (gD false c) λG=>oP (gC G (some (BC,[F,bF]))) λH=>zL CS H L λI M=>oP (mi c (wI .not I)) λJ=>bP J (Q bF M) (oP (ef .add 3 d nO) λK=>n [e,f,g,i,j,K] M)) (oP (ef .add 3 g nO) λk=>m [e,f,k] h)
theorem OO{Q a}:LN 6 (GO Q a) (GH Q a):=JV.lm 6 _
theorem Tz{m:V}(H:gU (kZ 29 m) h λd n=>dF 2 d n λe=>cP CS yB [e] n λb o=>oP (qV 0 b) λc=>oP (qV 1 b) λf=>oP (ef .neq 40 f nZ) λa=>oP (gD false a) λq=>oP (gV q (fJ 4 d)) λg=>oP (gD false a) λr=>oP (gV r (ez g o)) λi=>oP (gD false a) λs=>oP (gC s (some (BC,[i,bT]))) λt=>zL CS t o λj p=>oP (mi a (wI .not j)) λk=>bP k (Q bF p) (oP (fE c) λl=>GA Q [d,c,l,nZ] p)):cP CS FX [m] h Q:=cP.ve t11 Tryz.func11 H
def t35:List (Nat×List Nat):=[(43,[1,7,8,9])]
def KC(Q:fj):LP:=JV CS Tryz.f35 t35 21 [1,7,8,9] [] Q
def Ky(Q:fj)(fu:LP)(g i j a:V)(h:Hp):Prop:=bO .lss 3 a j (oP (gM 2 i a) λb=>oP (fZ 2 b h) λc=>gU (zC 46 [nZ,nZ]) h λk n=>eJ (gj 2 k c n) λo l=>oP (fZ 2 k l) λd=>cP CS FT [d,g] l λe m=>bN e (Q bF m) (oP (ef .add 3 a nO) λf=>fu [g,i,j,f] m)) (Q bT h)
theorem Ry{Q}:LN 4 (Ky Q) (KC Q):=JV.lm 4 _
theorem XM{b:V}(H:oP (fE a) λc=>KC Q [b,a,c,nZ] h):cP CS BC [a,b] h Q:=cP.ve t35 Tryz.func35 H
theorem Uy{w c:V}(H:gU (kZ 46 w) h λb a=>dF 0 b a λd=>bO .eql 3 d nO (dF 1 b a λe=>oP (ef .geq 2 e nZ) λf=>oP (iM f (oB (fJ 1 b) λg=>oB (ez g a) λi=>ef .lss 2 i (V.I 16))) λj=>Q j a) (bO .eql 3 d (V.I 2) (dF 1 b a λk=>oP (ef .geq 2 k nZ) λl=>oP (iM l (oB (fJ 1 b) λm=>oB (ez m a) λn=>ef .lss 2 n (V.I 400))) λo=>Q o a) (bO .eql 3 d (V.I 3) (oP (wI .not c) λp=>Q p a) (dF 0 b a λq=>oP (ef .eql 3 q (V.I 4)) λr=>oP (iM r (some c)) λs=>oP (iM s (oB (fJ 1 b) λt=>oB (ez t a) λu=>ef .eql 2 u nZ)) λv=>Q v a)))):cP CS FT [w,c] h Q:=cP.ve [] Tryz.func75 H
end
