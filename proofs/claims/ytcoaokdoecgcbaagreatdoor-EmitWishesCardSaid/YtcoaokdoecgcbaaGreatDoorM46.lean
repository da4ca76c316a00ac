/- Parts. -/
import Derived.Test.YtcoaokdoecgcbaaGreatDoorM34
set_option maxHeartbeats 4000000
namespace Go.Proofs.YtcoaokdoecgcbaaGreatDoor.Hx
variable{Q:fo}{h:Hp}{a:V}
set_option maxRecDepth 100000
noncomputable section
theorem JK(H:oP (fM a) λb=>Q b h):cP CS Bc [a] h Q:=cP.ve [] Tryz.func154 H
theorem IT{e f:V}(H:dX 1 a e h λb=>dX 1 a f h λc=>oP (eh .lss 3 b c) λd=>Q d h):cP CS z8 [a,e,f] h Q:=cP.ve [] Tryz.func155 H
theorem Js{b c:V}(H:dX 1 a c h λd=>dX 1 a b h λe=>oP (gQ 1 a b) λf=>eJ (gw 1 f d h) λl g=>(h.next<=g.next/\oP (gQ 1 a c) λi=>eJ (gw 1 i e g) λj k=>(g.next<=k.next/\Q (V.tuple []) k))):cP CS Aa [a,b,c] h Q:=cP.ve [] Tryz.func156 H
theorem Kd(H:oP (fR a) λk=>oP (eD k h) λl=>oP (fM l) λm=>oP (eh .sub 3 m nO) λj=>oP (fR a) λb=>oP (eD b h) λc=>dX 1 c j h λd=>oP (fR a) λe=>oP (eD e h) λf=>oP (jE 1 f none (some j) h) λg=>oP (fR a) λi=>eJ (gw 1 i g h) λo n=>Q (V.iface 3 d) n):cP CS Bf [a] h Q:=cP.ve [] Tryz.func157 H
section
variable (C:mw)(Q:X->iK->Hp->Prop)(ρ:iK)(h:Hp)
def zfD:=MJ Tryz.f158
theorem zgC:Uz C 13 zfD Q ρ h=(oP (some (ρ 0)) λb=>
 oP (some (ρ 0)) λe=>
 oP (fR e) λf=>
 oP (eD f h) λj=>
 oP (some (ρ 1)) λg=>
 oP (K8 3 (V.I 0) g) λk=>
 vV (iW 3 1 1 (V.I 0) [(0,k)]) h λl c i=>
 ((i.get (h.next)=some l/\O.beq l l=true)/\
 ((K8 3 (V.I 0) g=some k)/\
 ((some (ρ 1)=some g)/\
 ((eD f i=some j)/\
 ((fR e=some f)/\
 ((some (ρ 0)=some e)/\
 ((some (ρ 0)=some b)/\
 eJ (fg 3 1 8 j c i) λd m=>
 (i.next<=m.next/\
 oP (fR b) λa=>
 ((fR b=some a)/\
 ((some (ρ 0)=some b)/\
 eJ (gw 1 a d m) λo n=>
 (m.next<=n.next/\
 Q .normal (nE (nE (nE (nE (nE (nE (nE (nE (nE ρ 4 b) 5 e) 6 f) 7 j) 8 g) 9 k) 10 c) 11 d) 12 a) n)))))))))))):=by kernel_rfl
theorem zg4{C:mw}(hs:C.start=Cg)(a b:V){h:Hp}{Q:fo}(c:C.K mz [a,b] h=none)(H:Uz C 13 zfD (NP [] Q) (Nd [a,b]) h):cP C mz [a,b] h Q:=
 cP.zd1 hs (show P0.funcs[158]? =some Tryz.f158 by unfold P0;exact Tryz.func158) (by kernel_rfl) (by kernel_rfl) (by kernel_rfl) c (ND rfl) (Wp.code _ H)
noncomputable def zW(C:mw) (Q:fo) (g l:V) (h:Hp):Prop:=oP (fR g) λi=>oP (eD i h) λj=>oP (K8 3 (V.I 0) l) λm=>vV (iW 3 1 1 (V.I 0) [(0,m)]) h λb c a=>((a.get (h.next)=some b/\O.beq b b=true)/\((eD i a=some j)/\eJ (fg 3 1 8 j c a) λd e=>(a.next<=e.next/\oP (fR g) λf=>eJ (gw 1 f d e) λn k=>(e.next<=k.next/\Q (V.tuple []) k))))
theorem Jj{C:mw}(hs:C.start=Cg){b c:V}{h:Hp}{Q:fo}(f:C.K mz [b,c] h=none)(H:zW C Q b c h):cP C mz [b,c] h Q:=by
 unfold zW at H;exact zg4 hs _ _ f ((zgC _ _ _ _).mpr (oSm (oSm (oM H λl d H=>oM H λm g H=>oSm (oM H λn e H=>zgp H λo i p H=>anM H λH=>⟨e,⟨rfl,anM H λH=>⟨d,⟨rfl,⟨rfl,zcU H λj q H=>anM H λH=>oM H λk a H=>⟨a,⟨rfl,zcU H λr s H=>anM H λH=>H⟩⟩⟩⟩⟩⟩⟩)))))
end
def t96:List (Nat×List Nat):=[(175,[1,5,6,19,20,21]),(3886,[1,5,6,19,20,21]),(351,[1,5,6,52,53,54]),(7774,[1,5,6,52,53,54]),(1407,[1,5,75,76,77]),(31102,[1,5,75,76,77])]
def Ho(Q:fo):LP:=JV CS Tryz.f96 t96 87 [1,5,6,19,20,21] [] Q
def uP(Q:fo)(fE:LP):LP:=JV CS Tryz.f96 t96 1943 [1,5,6,19,20,21] [kf [1,5,6,19,20,21] fE] Q
def Ic(Q:fo):LP:=JV CS Tryz.f96 t96 175 [1,5,6,52,53,54] [] Q
def uO(Q:fo)(gL:LP):LP:=JV CS Tryz.f96 t96 3887 [1,5,6,52,53,54] [kf [1,5,6,52,53,54] gL] Q
def HJ(Q:fo):LP:=JV CS Tryz.f96 t96 703 [1,5,75,76,77] [] Q
def uM(Q:fo)(a:LP):LP:=JV CS Tryz.f96 t96 15551 [1,5,75,76,77] [kf [1,5,75,76,77] a] Q
def Ij(Q:fo)(fE:LP)(l g i c d a:V)(h:Hp):Prop:=bO .lss 3 a d (oP (gQ 2 c a) λm=>oP (gi 2 m h) λn=>hV (zC 177 [nZ,nZ]) h λe C=>eJ (gw 2 e n C) λF b=>dF 0 e b λo=>dF 1 e b λp=>bO .neq 3 o p (dN 0 g b λq=>dF 1 e b λr=>dF 0 e b λs=>eJ (zk 3 none q r s b) λA f=>(b.next<=f.next/\dN 1 g f λj=>dF 0 e f λk=>oP (rG 3 none nZ false j k f) λt=>oP (eh .add 3 t nO) λu=>eJ (zk 3 none j k u f) λB v=>(f.next<=v.next/\dF 1 e v λw=>hV (iW 3 1 1 nZ [(0,w)]) v λx D=>eJ (fg 3 1 8 i x D) λy E=>uP Q fE [l,g,y,c,d,a] E))) (uP Q fE [l,g,i,c,d,a] b)) (oP (fM i) λz=>Ic Q [l,g,i,i,z,nZ] h)
theorem O1{Q}:LN 6 (Ij Q) (Ho Q):=JV.lm 6 _
def FY(Q:fo)(fE:LP)(e f g a b c:V)(h:Hp):Prop:=oP (eh .add 3 c nO) λd=>fE [e,f,g,a,b,d] h
theorem NS{Q fE}:RV 6 (FY Q fE) (uP Q fE):=JV.rn 6 _
def GY(Q:fo)(gL:LP)(g d f b c a:V)(h:Hp):Prop:=bO .lss 3 a c (dX 1 b a h λe=>dN 1 d h λi=>oP (rG 3 none nZ false i e h) λj=>bO .eql 3 j nZ (oP (fR d) λk=>oP (fV 2 k) λl=>cP CS jS [(V.iface 198 l),(V.iface 3 e)] h λn o=>uO Q gL [g,d,f,b,c,a] o) (uO Q gL [g,d,f,b,c,a] h)) (cP CS sP [d] h λp q=>oP (fM f) λm=>HJ Q [g,d,f,m,nZ] q)
theorem Qi{Q}:LN 6 (GY Q) (Ic Q):=JV.lm 6 _
def FL(Q:fo)(gL:LP)(e f g a b c:V)(h:Hp):Prop:=oP (eh .add 3 c nO) λd=>gL [e,f,g,a,b,d] h
theorem N5{Q gL}:RV 6 (FL Q gL) (uO Q gL):=JV.rn 6 _
def Hn(Q:fo)(f:LP)(m b c d a:V)(h:Hp):Prop:=bO .lss 3 a d (dX 1 c a h λe=>dN 0 b h λn=>oP (rG 3 none nZ true n e h) λg=>oP (rQ 0 g) λt=>oP (rQ 1 g) λo=>bP o (dN 3 b h λp=>oP (fq [nZ,nZ] [(0,1),(1,1)] [(0,e),(1,m)]) λq=>hV (iW 177 2 1 (V.agg [nZ,nZ]) [(0,q)]) h λr u=>eJ (fg 177 2 16 p r u) λi v=>oP (fR b) λj=>oP (fV 3 j) λk=>eJ (gw 1 k i v) λy w=>cP CS sj [b,e,m] w λs x=>uM Q f [m,b,c,d,a] x) (uM Q f [m,b,c,d,a] h)) (dN 3 b h λl=>Q l h)
theorem Qc{Q}:LN 5 (Hn Q) (HJ Q):=JV.lm 5 _
def FN(Q:fo)(b:LP)(f g c d e:V)(h:Hp):Prop:=oP (eh .add 3 e nO) λa=>b [f,g,c,d,a] h
theorem NW{Q a}:RV 5 (FN Q a) (uM Q a):=JV.rn 5 _
theorem U7{g:V}(H:hV (some (.map [] 0,λl=> .map l)) h λb i=>hV (some (.map [] 0,λl=> .map l)) i λc j=>oP (fq [V.nJ,V.nJ,nS,nS] [(0,1),(1,1),(2,1),(3,1)] [(0,b),(1,c)]) λd=>hV (mO 197 d) j λe k=>oP (fM a) λf=>Ho Q [g,e,nS,a,f,nZ] k):cP CS GW [a,g] h Q:=cP.ve t96 Tryz.func96 H
def t112:List (Nat×List Nat):=[(5,[0])]
def vS(Q:fo):LP:=JV CS Tryz.f112 t112 2 [0] [] Q
def vD(Q:fo)(fE:LP)(b:V)(h:Hp):Prop:=oP (fR b) λL=>dG 2 L h λi=>bO .gtr 3 i nZ (oP (fR b) λj=>oP (fV 2 j) λk=>cP CS oy [(V.iface 198 k)] h λl g=>oP (K8 3 nZ l) λc=>dN 0 b g λm=>oP (rG 3 none nZ false m c g) λa=>dN 3 b g λn=>oP (fq [nZ,nZ] [(0,1),(1,1)] [(0,a),(1,c)]) λo=>hV (iW 177 2 1 (V.agg [nZ,nZ]) [(0,o)]) g λp M=>eJ (fg 177 2 16 n p M) λq N=>oP (fR b) λr=>oP (fV 3 r) λs=>eJ (gw 1 s q N) λS I=>dN 0 b I λt=>eJ (BW 3 none t c I) λJ u=>dN 1 b u λe=>oP (rG 3 none nZ false e a u) λv=>oP (eh .sub 3 v nO) λw=>eJ (zk 3 none e a w u) λK d=>dN 0 b d λx=>oP (rG 3 none nZ true x a d) λf=>oP (rQ 0 f) λO=>oP (rQ 1 f) λy=>oP (jm y (oB (some b) λz=>oB (fR z) λA=>oB (fV 1 A) λB=>oB (eD B d) λC=>oB (some a) λD=>oB (rG 3 none nZ false C D d) λE=>eh .eql 3 E nZ)) λF=>bP F (oP (fR b) λG=>oP (fV 2 G) λH=>cP CS jS [(V.iface 198 H),(V.iface 3 a)] d λP R=>fE [b] R) (fE [b] d)) (Q (V.tuple []) h)
theorem DL{Q}:LN 1 (vD Q) (vS Q):=JV.lm 1 _
theorem HM(H:vS Q [a] h):cP CS sP [a] h Q:=cP.ve t112 Tryz.func112 H
def t113:List (Nat×List Nat):=[(11,[0,1,2,6])]
def vg(Q:fo):LP:=JV CS Tryz.f113 t113 5 [0,1,2,6] [] Q
def vy(Q:fo)(fE:LP)(a t u c:V)(h:Hp):Prop:=dN 0 a h λe=>oP (rG 3 none nZ false e c h) λb=>dN 0 a h λf=>eJ (BW 3 none f c h) λD d=>bO .eql 3 b t (dN 3 a d λg=>oP (fq [nZ,nZ] [(0,1),(1,1)] [(0,u),(1,c)]) λi=>hV (iW 177 2 1 (V.agg [nZ,nZ]) [(0,i)]) d λj x=>eJ (fg 177 2 16 g j x) λk y=>oP (fR a) λl=>oP (fV 3 l) λm=>eJ (gw 1 m k y) λv z=>Q (V.tuple []) z) (dN 3 a d λn=>oP (fq [nZ,nZ] [(0,1),(1,1)] [(0,b),(1,c)]) λo=>hV (iW 177 2 1 (V.agg [nZ,nZ]) [(0,o)]) d λp A=>eJ (fg 177 2 16 n p A) λq B=>oP (fR a) λr=>oP (fV 3 r) λs=>eJ (gw 1 s q B) λw C=>fE [a,t,u,b] C)
theorem DP{Q}:LN 4 (vy Q) (vg Q):=JV.lm 4 _
theorem GB{b c:V}(H:vg Q [b,a,c,a] h):cP CS sj [b,a,c] h Q:=cP.ve t113 Tryz.func113 H
end
set_option maxRecDepth 100000
noncomputable section
def t7:List (Nat×List Nat):=[(175,[2,4,8,9])]
def sd(Q:fo):LP:=JV CS Tryz.f7 t7 87 [2,4,8,9] [] Q
def se(Q:fo)(fE:LP)(p x4 a e:V)(h:Hp):Prop:=dG 2 p h λf=>bO .lss 3 e f (dF 0 a h λg=>oP (eh .add 3 (V.I 16) e) λi=>hV (iW 3 1 1 nZ [(0,i)]) h λj r=>eJ (fg 3 1 8 g j r) λk s=>oP (fV 0 a) λl=>eJ (gw 1 l k s) λv t=>oP (eh .add 3 e nO) λm=>fE [p,x4,a,m] t) (oP (gi 2 a h) λn=>oP (fV 1 a) λb=>oP (eD b h) λc=>oP (eh .lss 3 c (V.I 400)) λo=>eJ (gw 2 x4 n h) λq d=>(h.next<=d.next/\((eD b d=some c)/\oP (gi 2 x4 d) λu=>Q (V.tuple [u,o]) d)))
theorem A8{Q}:LN 4 (se Q) (sd Q):=JV.lm 4 _
theorem vE{m n:V}(H:hV (mO 34 m) h λc u=>hV (zC 37 [nS,nZ]) u λd b=>bN n (oP (gi 5 c b) λe=>cP CS yc [e] b λa v=>oP (rQ 0 a) λf=>oP (rQ 1 a) λg=>hV (zC 37 [nS,nZ]) v λo w=>eJ (gw 2 o f w) λA p=>oP (gi 2 o p) λi=>oP (eh .eql 40 g nZ) λj=>eJ (gw 2 d i p) λq r=>oP (gi 2 d r) λx=>Q (V.tuple [x,j]) r) (dG 2 c b λk=>oP (fq [nS,nZ] [(0,1),(1,1)] [(1,k)]) λl=>hV (zC 37 [nS,nZ]) b λs y=>eJ (gw 2 s l y) λt z=>sd Q [c,d,s,nZ] z)):cP CS jx [m,n] h Q:=cP.ve t7 Tryz.func7 H
def t3:List (Nat×List Nat):=[(254,[4,8,14]),(510,[14])]
end
set_option maxRecDepth 100000
noncomputable section
def t5:List (Nat×List Nat):=[(2559,[1,3,11,14,16,18]),(45055,[1,3,11,14,16,18,19,20]),(83439615,[1,3,11,14,16,18,19,20,21,23])]
def pB(Q:fo):LP:=JV CS Tryz.f5 t5 1279 [1,3,11,14,16,18] [] Q
def lH(Q:fo):LP:=JV CS Tryz.f5 t5 22527 [1,3,11,14,16,18,19,20] [] Q
def lJ(Q:fo)(gL:LP):LP:=JV CS Tryz.f5 t5 41719807 [1,3,11,14,16,18,19,20,21,23] [kf [1,3,11,14,16,18,19,20] gL] Q
def pG(Q:fo)(fE:LP)(j k b iQ c a:V)(h:Hp):Prop:=oP (fM a) λe=>dG 4 iQ h λf=>bO .lss 3 e f (hV (iW 63 1 1 (V.int .u64 0) [(0,(V.int .u64 0))]) h λg l=>eJ (fg 63 1 8 a g l) λi m=>fE [j,k,b,iQ,c,i] m) (cP CS iR [k,(V.I 6)] h λd n=>lH Q [j,d,b,iQ,c,a,nZ,d] n)
theorem xU{Q}:LN 6 (pG Q) (pB Q):=JV.lm 6 _
def pC(Q:fo)(gL:LP)(n B a iQ o c p d:V)(h:Hp):Prop:=oP (eh .add 3 B (V.I 2)) λq=>bO .lss 3 d q (cP CS mj [n] h λr g=>oP (gi 5 a g) λe=>vV (zC 66 [nZ,nZ,nZ,nS,nZ]) g λb i l=>((l.get (g.next)=some b/\O.beq b b=true)/\((gi 5 a l=some e)/\cP CS mj [n] l λs j=>(l.next<=j.next/\((j.get (g.next)=some b/\O.beq b b=true)/\((gi 5 a j=some e)/\cP CS su [e,s,c,d,(V.I 1200)] j λt m=>(j.next<=m.next/\((m.get (g.next)=some b/\O.beq b b=true)/\eJ (gw 5 i t m) λD f=>(m.next<=f.next/\dF 0 i f λu=>bO .neq 3 u nO (Q bT f) (oP (gi 5 iQ f) λv=>dF 0 iQ f λw=>dF 1 iQ f λx=>oP (fq [nZ,nZ,nS,nS] [(0,1),(1,1),(2,1),(3,1)] [(0,w),(1,x),(2,c)]) λy=>cP CS qz [v,y] f λk C=>oP (rQ 0 k) λz=>oP (rQ 1 k) λA=>bN A (Q bF C) (lJ Q gL [n,B,a,iQ,o,c,p,d,r,z] C))))))))))) (Q bT h)
theorem xQ{Q}:LN 8 (pC Q) (lH Q):=JV.lm 8 _
def pR(Q:fo)(gL:LP)(E:LP)(G H d iQ c e f b g a:V)(h:Hp):Prop:=dN 419 a h λi=>oP (eh .eql 3 i nZ) λj=>oP (jm j (oB (some a) λk=>oB (fR k) λl=>oB (fV 417 l) λm=>oB (eD m h) λn=>eh .lss 3 n (V.I 60000))) λo=>bP o (cP CS nz [a,c,g,b] h λI J=>E [G,H,d,iQ,c,e,f,b,g,a] J) (dN 419 a h λp=>oP (eh .neq 3 p nO) λq=>oP (nr q (oB (some a) λr=>oB (fR r) λs=>oB (fV 417 s) λt=>oB (eD t h) λu=>oB (some f) λv=>eh .lss 3 u v)) λw=>oP (nr w (oB (some a) λx=>oB (fR x) λy=>oB (fV 418 y) λz=>oB (eD z h) λA=>oB (some b) λB=>eh .gtr 3 A B)) λC=>bP C (Q bF h) (dN 417 a h λD=>oP (eh .add 3 b nO) λF=>gL [G,H,d,iQ,c,e,D,F] h))
theorem xM{Q gL}:LN 10 (pR Q gL) (lJ Q gL):=JV.lm 10 _
theorem Am{F G I J K:V}(H:hV (mO 24 F) h λP L=>oP (gi 3 P L) λj=>cP CS nY [j] L λk R=>hV (zC 34 [nZ,nZ,nS,nS,nS]) R λa S=>eJ (gw 5 a k S) λY M=>oP (gi 5 a M) λl=>cP CS jx [l,K] M λd T=>oP (rQ 0 d) λm=>oP (rQ 1 d) λn=>hV (zC 37 [nS,nZ]) T λe U=>eJ (gw 2 e m U) λN o=>oP (gi 5 a o) λp=>oP (gi 2 e o) λq=>cP CS BU [p,q] o λf W=>oP (rQ 0 f) λr=>oP (rQ 1 f) λs=>hV (zC 29 [nZ,nZ,nS,nS,nS]) W λb X=>eJ (gw 5 b r X) λO t=>cP CS qj [] t λu c=>oP (za .not u) λv=>oP (nr v (oB (some n) λw=>za .not w)) λx=>oP (nr x (oB (some s) λy=>eh .neq 40 y nZ)) λz=>bP z (Q bF c) (dF 2 b c λA=>cP CS lY [A] c λg i=>oP (rQ 0 g) λB=>oP (rQ 1 g) λC=>bO .neq 40 C nZ (Q bF i) (cP CS qu [I] i λD E=>pB Q [G,J,a,b,B,D] E))):cP CS rE [F,G,I,J,K] h Q:=cP.ve t5 Tryz.func5 H
end
