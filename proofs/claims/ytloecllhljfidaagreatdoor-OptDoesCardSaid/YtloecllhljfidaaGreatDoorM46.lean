/- Parts. -/
import Derived.Test.YtloecllhljfidaaGreatDoorM14
set_option maxHeartbeats 4000000
namespace Go.Proofs.YtloecllhljfidaaGreatDoor.Hx
variable{Q:fq}{h:Hp}{a0 a1:V}
set_option maxRecDepth 100000
noncomputable section
theorem OS(H:gS (mi 30 a0) h λd e=>gS (zC 30 [nZ,nZ,nS,nS,nS]) e λa b=>oP (fO 5 d b) λf=>cP CS Aj [f,(V.I 3)] b λg i=>fj (gq 5 a g i) λk c=>oP (fO 5 a c) λj=>Q j c):cP CS Ax [a0] h Q:=cP.ve [] Tryz.func8 H
def t6:List (Nat×List Nat):=[(87,[1,2,4,5]),(5271,[1,2,4,5,16,17,18])]
def FD(Q:fq):LP:=JV CS Tryz.f6 t6 43 [1,2,4,5] [] Q
def FV(Q:fq)(fy:LP):LP:=JV CS Tryz.f6 t6 2635 [1,2,4,5,16,17,18] [kf [1,2,4,5] fy] Q
def FG(Q:fq)(fy:LP)(f g b i:V)(h:Hp):Prop:=oP (TS false f [(V.I 10)]) λc=>bO .lss 3 i c (gS (iS 31 1 3 V.nilFunc [(0,(V.func zg [] [])),(1,(V.func qh [] [])),(2,(V.func yW [] []))]) h λa k=>oP (fE a) λd=>FV Q fy [f,g,b,i,a,d,nZ] k) (oP (fO 5 g h) λe=>fj (gq 5 b e h) λm j=>oP (fO 5 b j) λl=>Q l j)
theorem MU{Q}:LN 4 (FG Q) (FD Q):=JV.lm 4 _
def FX(Q:fq)(fy:LP)(e:LP)(l d m n b c a:V)(h:Hp):Prop:=bO .lss 3 a c (dX 1 b a h λf=>oP (fO 5 d h) λg=>gY CS (gi f [g]) h λi o=>fj (gq 5 d i o) λq p=>oP (ez .add 3 a nO) λj=>e [l,d,m,n,b,c,j] p) (oP (ez .add 3 n nO) λk=>fy [l,d,m,k] h)
theorem MZ{Q fy}:LN 7 (FX Q fy) (FV Q fy):=JV.lm 7 _
theorem Q8(H:gS (mi 30 a0) h λa c=>gS (zC 30 [nZ,nZ,nS,nS,nS]) c λd b=>oP (fO 5 a b) λe=>cP CS pZ [e] b λf g=>fj (gq 5 a f g) λj i=>FD Q [a1,a,d,nZ] i):cP CS Aj [a0,a1] h Q:=cP.ve t6 Tryz.func6 H
end
set_option maxRecDepth 100000
noncomputable section
theorem CN{a2 a3 a4:V}(H:gS (mi 24 a0) h λv5 h1=>oP (fO 3 v5 h1) λE=>cP CS rD [E] h1 λF h2=>cP CS rY [F] h2 λG h3=>gS (zC 30 [nZ,nZ,nS,nS,nS]) h3 λa h4=>fj (gq 5 a G h4) λvu v=>oP (fO 5 a v) λo=>xB (zC 30 [nZ,nZ,nS,nS,nS]) v λm d C=>((C.get (v.next)=some m/\O.beq m m=true)/\((fO 5 a C=some o)/\cP CS iD [a1,(V.I 6)] C λI w=>(C.next<=w.next/\((w.get (v.next)=some m/\O.beq m m=true)/\((fO 5 a w=some o)/\cP CS Aj [o,I] w λJ D=>(w.next<=D.next/\((D.get (v.next)=some m/\O.beq m m=true)/\fj (gq 5 d J D) λaw K=>(D.next<=K.next/\oP (fO 5 a K) λL=>cP CS Ax [L] K λM N=>gS (zC 30 [nZ,nZ,nS,nS,nS]) N λe P=>fj (gq 5 e M P) λax R=>cP CS pU [] R λS x=>oP (pK .not S) λp=>oP (fH false p) λb3=>oP (gV b3 (fO 5 d x)) λT=>oP (fH false p) λb4=>oP (gC b4 (some (mD,[T]))) λy4=>vB CS y4 x λU y=>oP (nY p (pK .not U)) λq=>oP (fH false q) λb8=>oP (gV b8 (fO 5 e y)) λW=>oP (fH false q) λb9=>oP (gC b9 (some (mD,[W]))) λy9=>vB CS y9 y λX z=>oP (nY q (pK .not X)) λY=>bP Y (Q bF z) (cP CS iD [a4,(V.I 9)] z λZ n=>oP (ez .sub 3 Z nO) λA=>oP (fO 5 a n) λr=>oP (fO 5 d n) λs=>cP CS mf [a2] n λaa f=>(n.next<=f.next/\((fO 5 d f=some s)/\((fO 5 a f=some r)/\cP CS mB [a3] f λab g=>(f.next<=g.next/\((fO 5 d g=some s)/\((fO 5 a g=some r)/\cP CS jm [r,s,aa,ab,A,(V.I 1500)] g λb i=>(g.next<=i.next/\oP (fH true b) λj=>oP (gV j (fO 5 a i)) λt=>oP (fH true b) λc=>oP (gV c (fO 5 e i)) λu=>oP (fH true b) λac=>oP (gV ac (some a2)) λad=>oP (fH true b) λae=>oP (gV ae (some a3)) λag=>oP (fH true b) λah=>oP (gV ah (some A)) λai=>oP (fH true b) λaj=>oP (gC aj (some (mf,[ad]))) λak=>vB CS ak i λal k=>(i.next<=k.next/\((gT c (fO 5 e k=some u))/\((gT j (fO 5 a k=some t))/\oP (fH true b) λam=>oP (gC am (some (mB,[ag]))) λan=>vB CS an k λao l=>(k.next<=l.next/\((gT c (fO 5 e l=some u))/\((gT j (fO 5 a l=some t))/\oP (fH true b) λap=>oP (gC ap (some (jm,[t,u,al,ao,ai,(V.I 1500)]))) λaq=>vB CS aq l λar B=>(l.next<=B.next/\oP (jA b ar bF) λau=>Q au B)))))))))))))))))))))))):cP CS vz [a0,a1,a2,a3,a4] h Q:=cP.ve [] Tryz.func3 H
end
set_option maxRecDepth 100000
noncomputable section
def t22:List (Nat×List Nat):=[(175,[1,2,3,25,26,27]),(111406,[1,2,3,4,5,25,26,27,33,34]),(351,[1,2,3,54,55,56]),(3886,[1,2,3,25,26,27]),(504622,[1,2,3,4,25,26,27,45]),(7774,[1,2,3,54,55,56]),(319,[1,2,3]),(2815,[1,2,9,121,122,123]),(62206,[1,2,9,121,122,123])]
def GS(Q:fq):LP:=JV CS Tryz.f22 t22 87 [1,2,3,25,26,27] [] Q
def vJ(Q:fq)(fy:LP):LP:=JV CS Tryz.f22 t22 55703 [1,2,3,4,5,25,26,27,33,34] [kf [1,2,3,25,26,27] fy] Q
def Hk(Q:fq):LP:=JV CS Tryz.f22 t22 175 [1,2,3,54,55,56] [] Q
def qp(Q:fq)(fy:LP):LP:=JV CS Tryz.f22 t22 1943 [1,2,3,25,26,27] [kf [1,2,3,25,26,27] fy] Q
def vM(Q:fq)(fy:LP):LP:=JV CS Tryz.f22 t22 252311 [1,2,3,4,25,26,27,45] [kf [1,2,3,25,26,27] fy] Q
def qo(Q:fq)(a:LP):LP:=JV CS Tryz.f22 t22 3887 [1,2,3,54,55,56] [kf [1,2,3,54,55,56] a] Q
def GJ(Q:fq):LP:=JV CS Tryz.f22 t22 159 [1,2,3] [] Q
def GQ(Q:fq):LP:=JV CS Tryz.f22 t22 1407 [1,2,9,121,122,123] [] Q
def zJ(Q:fq)(a:LP):LP:=JV CS Tryz.f22 t22 31103 [1,2,9,121,122,123] [kf [1,2,9,121,122,123] a] Q
def HC(Q:fq)(fy:LP)(g j k c d a:V)(h:Hp):Prop:=bO .lss 3 a d (oP (gB 6 c a) λl=>oP (fO 6 l h) λm=>gS (zC 45 [nZ,nZ,nZ,nZ,nS,nZ]) h λi q=>fj (gq 6 i m q) λr n=>dF 0 i n λb=>oP (ez .eql 3 b (V.I 22)) λe=>bP e (vJ Q fy [g,j,k,a,i,c,d,a,b,e] n) (oP (ez .eql 3 b (V.I 23)) λo=>vJ Q fy [g,j,k,a,i,c,d,a,b,o] n)) (dF 3 g h λf=>oP (fE f) λp=>Hk Q [g,j,k,f,p,nZ] h)
theorem ON{Q}:LN 6 (HC Q) (GS Q):=JV.lm 6 _
def FN(Q:fq)(fy:LP)(g i d j o a b c e k:V)(h:Hp):Prop:=bP k (dF 5 o h λl=>cP CS oZ [d,l] h λp q=>gS (iS 3 1 1 nZ [(0,j)]) q λm r=>cP CS jl [d,m] r λs t=>qp Q fy [g,i,d,a,b,c] t) (oP (ez .eql 3 e (V.I 19)) λf=>bP f (vM Q fy [g,i,d,j,a,b,c,f] h) (oP (ez .eql 3 e (V.I 20)) λn=>vM Q fy [g,i,d,j,a,b,c,n] h))
theorem MX{Q fy}:RV 10 (FN Q fy) (vJ Q fy):=JV.rn 10 _
def Hn(Q:fq)(d:LP)(i j e b c a:V)(h:Hp):Prop:=bO .lss 3 a c (oP (gB 6 b a) λl=>oP (fO 6 l h) λm=>gS (zC 43 [nS,nZ,nZ,nS,nS,nZ]) h λk q=>fj (gq 6 k m q) λw f=>dF 1 k f λg=>bO .eql 3 g (V.I 2) (dF 2 k f λn=>gS (iS 3 1 1 nZ [(0,n)]) f λo r=>cP CS jl [e,o] r λs t=>qo Q d [i,j,e,b,c,a] t) (bO .eql 3 g (V.I 3) (dF 5 k f λp=>cP CS oZ [e,p] f λu v=>qo Q d [i,j,e,b,c,a] v) (qo Q d [i,j,e,b,c,a] f))) (GJ Q [i,j,e] h)
theorem Oj{Q}:LN 6 (Hn Q) (Hk Q):=JV.lm 6 _
def FQ(Q:fq)(fy:LP)(e f g a b c:V)(h:Hp):Prop:=oP (ez .add 3 c nO) λd=>fy [e,f,g,a,b,d] h
theorem M0{Q fy}:RV 6 (FQ Q fy) (qp Q fy):=JV.rn 6 _
def FH(Q:fq)(fy:LP)(g i d j a b c e:V)(h:Hp):Prop:=bP e (gS (iS 3 1 1 nZ [(0,j)]) h λf k=>cP CS jl [d,f] k λl m=>qp Q fy [g,i,d,a,b,c] m) (qp Q fy [g,i,d,a,b,c] h)
theorem MQ{Q fy}:RV 8 (FH Q fy) (vM Q fy):=JV.rn 8 _
def FE(Q:fq)(a:LP)(f g i b c d:V)(h:Hp):Prop:=oP (ez .add 3 d nO) λe=>a [f,g,i,b,c,e] h
theorem M3{Q a}:RV 6 (FE Q a) (qo Q a):=JV.rn 6 _
def Hr(Q:fq)(s:LP)(q B a:V)(h:Hp):Prop:=oP (gP a) λt=>dG 6 t h λu=>bO .gtr 3 u nZ (dN 6 a h λv=>oP (gP a) λw=>dG 6 w h λx=>oP (ez .sub 3 x nO) λy=>dX 1 v y h λz=>dN 6 a h λA=>oP (gP a) λc=>dG 6 c h λd=>oP (ez .sub 3 d nO) λe=>oP (iY 1 A none (some e) h) λf=>oP (gP a) λg=>oP (fI 6 g) λi=>fj (gq 1 i f h) λG r=>(h.next<=r.next/\dF 2 q r λj=>oP (gB 6 j z) λk=>oP (fO 6 k r) λl=>cP CS rF [l] r λm E=>cP CS jl [a,m] E λC F=>s [q,B,a] F)) (oP (fO 5 q h) λn=>cP CS yH [n] h λo D=>dN 5 a D λb=>oP (fE b) λp=>GQ Q [q,B,o,b,p,nZ] D)
theorem N6{Q}:LN 3 (Hr Q) (GJ Q):=JV.lm 3 _
def GD(Q:fq)(d:LP)(l j k b c a:V)(h:Hp):Prop:=bO .lss 3 a c (dX 1 b a h λe=>bN e (oP (gB 1 k a) λf=>fj (gq 1 f (V.I (-1)) h) λr o=>zJ Q d [l,j,k,b,c,a] o) (zJ Q d [l,j,k,b,c,a] h)) (oP (fO 5 l h) λg=>cP CS rP [g,k] h λi p=>fj (gq 5 j i p) λm n=>oP (fO 5 j n) λq=>Q q n)
theorem NL{Q}:LN 6 (GD Q) (GQ Q):=JV.lm 6 _
def zA(Q:fq)(e:LP)(f g i a b c:V)(h:Hp):Prop:=oP (ez .add 3 c nO) λd=>e [f,g,i,a,b,d] h
theorem FU{Q a}:RV 6 (zA Q a) (zJ Q a):=JV.rn 6 _
theorem TK(H:gS (mi 30 a0) h λa x=>gS (zC 30 [nZ,nZ,nS,nS,nS]) x λj u=>oP (fO 5 a u) λk=>cP CS zo [k] u λl b=>bN l (oP (fO 5 a b) λm=>cP CS pZ [m] b λn y=>fj (gq 5 j n y) λA v=>oP (fO 5 j v) λz=>Q z v) (oP (fO 5 a b) λd=>oP (fI 2 a) λe=>oP (fe e b) λf=>oP (fE f) λg=>xB (gX 4 1 1 bF g g) b λo p w=>oP (fT [nZ,nZ,nS,nS,nS,nS,nS] [(0,5),(5,1),(6,1)] [(0,d),(1,p)]) λq=>xB (mi 95 q) w λr s c=>((c.get (w.next)=some r/\O.beq r r=true)/\((c.get (b.next)=some o/\O.beq o o=true)/\((fe e c=some f)/\((fO 5 a c=some d)/\dF 2 a c λi=>oP (fE i) λt=>GS Q [a,j,s,i,t,nZ] c)))))):cP CS yW [a0] h Q:=cP.ve t22 Tryz.func22 H
def t45:List (Nat×List Nat):=[(11,[0,14,15,16])]
def xH(Q:fq):LP:=JV CS Tryz.f45 t45 5 [0,14,15,16] [] Q
def xP(Q:fq)(fy:LP)(d b c a:V)(h:Hp):Prop:=bO .lss 3 a c (oP (gB 4 b a) λe=>oP (fO 4 e h) λf=>gS (zC 49 [nZ,nZ,nS,nS]) h λg n=>fj (gq 4 g f n) λr l=>dF 2 g l λi=>cP CS jl [d,i] l λo m=>dF 3 g m λj=>cP CS jl [d,j] m λp q=>oP (ez .add 3 a nO) λk=>fy [d,b,c,k] q) (Q (V.tuple []) h)
theorem E0{Q}:LN 4 (xP Q) (xH Q):=JV.lm 4 _
theorem IQ(H:oP (gP a0) λc=>oP (fI 0 c) λd=>dJ 4 d 1 a1 0 h λa=>oP (fE a) λb=>xH Q [a0,a,b,nZ] h):cP CS oZ [a0,a1] h Q:=cP.ve t45 Tryz.func45 H
def t46:List (Nat×List Nat):=[(11,[0,6,7,8]),(242,[0,6,7,8])]
def yn(Q:fq):LP:=JV CS Tryz.f46 t46 5 [0,6,7,8] [] Q
def qE(Q:fq)(fy:LP):LP:=JV CS Tryz.f46 t46 121 [0,6,7,8] [kf [0,6,7,8] fy] Q
def yp(Q:fq)(fy:LP)(b d e c:V)(h:Hp):Prop:=bO .lss 3 c e (dX 1 d c h λa=>dN 5 b h λf=>dX 1 f a h λg=>bN g (dN 5 b h λi=>oP (gB 1 i a) λj=>fj (gq 1 j bT h) λu p=>dN 6 b p λk=>gS (iS 3 1 1 nZ [(0,a)]) p λl r=>fj (fi 3 1 8 k l r) λm s=>oP (gP b) λn=>oP (fI 6 n) λo=>fj (gq 1 o m s) λq t=>qE Q fy [b,d,e,c] t) (qE Q fy [b,d,e,c] h)) (Q (V.tuple []) h)
theorem F0{Q}:LN 4 (yp Q) (yn Q):=JV.lm 4 _
def qu(Q:fq)(fy:LP)(b c d e:V)(h:Hp):Prop:=oP (ez .add 3 e nO) λa=>fy [b,c,d,a] h
theorem yz{Q fy}:RV 4 (qu Q fy) (qE Q fy):=JV.rn 4 _
theorem J6(H:oP (fE a1) λa=>yn Q [a0,a1,a,nZ] h):cP CS jl [a0,a1] h Q:=cP.ve t46 Tryz.func46 H
end
