/- Parts. -/
import Derived.Test.YtcoaokdoecgcbaaGreatDoorM34
set_option maxHeartbeats 4000000
namespace Go.Proofs.YtcoaokdoecgcbaaGreatDoor.Hx
variable{Q:fj}{h:Hp}{a:V}
set_option maxRecDepth 100000
noncomputable section
theorem K6(H:oP (fE a) λb=>Q b h):cP CS Bd [a] h Q:=cP.ve [] Tryz.func154 H
theorem Kt{e f:V}(H:dX 1 a e h λb=>dX 1 a f h λc=>oP (ef .lss 3 b c) λd=>Q d h):cP CS Ae [a,e,f] h Q:=cP.ve [] Tryz.func155 H
theorem J6{b c:V}(H:dX 1 a c h λd=>dX 1 a b h λe=>oP (gM 1 a b) λf=>eJ (gj 1 f d h) λl g=>(h.next<=g.next/\oP (gM 1 a c) λi=>eJ (gj 1 i e g) λj k=>(g.next<=k.next/\Q (V.tuple []) k))):cP CS As [a,b,c] h Q:=cP.ve [] Tryz.func156 H
theorem LB(H:oP (fR a) λk=>oP (ez k h) λl=>oP (fE l) λm=>oP (ef .sub 3 m nO) λj=>oP (fR a) λb=>oP (ez b h) λc=>dX 1 c j h λd=>oP (fR a) λe=>oP (ez e h) λf=>oP (jw 1 f none (some j) h) λg=>oP (fR a) λi=>eJ (gj 1 i g h) λo n=>Q (V.iface 3 d) n):cP CS A1 [a] h Q:=cP.ve [] Tryz.func157 H
section
variable (C:mh)(Q:X->iG->Hp->Prop)(ρ:iG)(h:Hp)
def zg9:=NC Tryz.f158
theorem zhY:Wi C 13 zg9 Q ρ h=(oP (some (ρ 0)) λb=>
 oP (some (ρ 0)) λe=>
 oP (fR e) λf=>
 oP (ez f h) λj=>
 oP (some (ρ 1)) λg=>
 oP (LZ 3 (V.I 0) g) λk=>
 uj (iO 3 1 1 (V.I 0) [(0,k)]) h λl c i=>
 ((i.get (h.next)=some l/\O.beq l l=true)/\
 ((LZ 3 (V.I 0) g=some k)/\
 ((some (ρ 1)=some g)/\
 ((ez f i=some j)/\
 ((fR e=some f)/\
 ((some (ρ 0)=some e)/\
 ((some (ρ 0)=some b)/\
 eJ (fg 3 1 8 j c i) λd m=>
 (i.next<=m.next/\
 oP (fR b) λa=>
 ((fR b=some a)/\
 ((some (ρ 0)=some b)/\
 eJ (gj 1 a d m) λo n=>
 (m.next<=n.next/\
 Q .normal (nG (nG (nG (nG (nG (nG (nG (nG (nG ρ 4 b) 5 e) 6 f) 7 j) 8 g) 9 k) 10 c) 11 d) 12 a) n)))))))))))):=by kernel_rfl
theorem zhU{C:mh}(hs:C.start=Df)(a b:V){h:Hp}{Q:fj}(c:C.K mw [a,b] h=none)(H:Wi C 13 zg9 (Oj [] Q) (ON [a,b]) h):cP C mw [a,b] h Q:=
 cP.zfh hs (show P0.funcs[158]? =some Tryz.f158 by unfold P0;exact Tryz.func158) (by kernel_rfl) (by kernel_rfl) (by kernel_rfl) c (Oz rfl) (Wp.code _ H)
noncomputable def AB(C:mh) (Q:fj) (g l:V) (h:Hp):Prop:=oP (fR g) λi=>oP (ez i h) λj=>oP (LZ 3 (V.I 0) l) λm=>uj (iO 3 1 1 (V.I 0) [(0,m)]) h λb c a=>((a.get (h.next)=some b/\O.beq b b=true)/\((ez i a=some j)/\eJ (fg 3 1 8 j c a) λd e=>(a.next<=e.next/\oP (fR g) λf=>eJ (gj 1 f d e) λn k=>(e.next<=k.next/\Q (V.tuple []) k))))
theorem JP{C:mh}(hs:C.start=Df){b c:V}{h:Hp}{Q:fj}(f:C.K mw [b,c] h=none)(H:AB C Q b c h):cP C mw [b,c] h Q:=by
 unfold AB at H;exact zhU hs _ _ f ((zhY _ _ _ _).mpr (oSm (oSm (oM H λl d H=>oM H λm g H=>oSm (oM H λn e H=>zg8 H λo i p H=>anM H λH=>⟨e,⟨rfl,anM H λH=>⟨d,⟨rfl,⟨rfl,zdm H λj q H=>anM H λH=>oM H λk a H=>⟨a,⟨rfl,zdm H λr s H=>anM H λH=>H⟩⟩⟩⟩⟩⟩⟩)))))
end
def t96:List (Nat×List Nat):=[(175,[1,5,6,19,20,21]),(3886,[1,5,6,19,20,21]),(351,[1,5,6,52,53,54]),(7774,[1,5,6,52,53,54]),(1407,[1,5,75,76,77]),(31102,[1,5,75,76,77])]
def IK(Q:fj):LP:=JV CS Tryz.f96 t96 87 [1,5,6,19,20,21] [] Q
def vm(Q:fj)(fu:LP):LP:=JV CS Tryz.f96 t96 1943 [1,5,6,19,20,21] [kf [1,5,6,19,20,21] fu] Q
def IN(Q:fj):LP:=JV CS Tryz.f96 t96 175 [1,5,6,52,53,54] [] Q
def vn(Q:fj)(a:LP):LP:=JV CS Tryz.f96 t96 3887 [1,5,6,52,53,54] [kf [1,5,6,52,53,54] a] Q
def Je(Q:fj):LP:=JV CS Tryz.f96 t96 703 [1,5,75,76,77] [] Q
def vy(Q:fj)(a:LP):LP:=JV CS Tryz.f96 t96 15551 [1,5,75,76,77] [kf [1,5,75,76,77] a] Q
def Iq(Q:fj)(fu:LP)(l g i c d a:V)(h:Hp):Prop:=bO .lss 3 a d (oP (gM 2 c a) λm=>oP (fZ 2 m h) λn=>gU (zC 177 [nZ,nZ]) h λe C=>eJ (gj 2 e n C) λF b=>dF 0 e b λo=>dF 1 e b λp=>bO .neq 3 o p (dN 0 g b λq=>dF 1 e b λr=>dF 0 e b λs=>eJ (xN 3 none q r s b) λA f=>(b.next<=f.next/\dN 1 g f λj=>dF 0 e f λk=>oP (rH 3 none nZ false j k f) λt=>oP (ef .add 3 t nO) λu=>eJ (xN 3 none j k u f) λB v=>(f.next<=v.next/\dF 1 e v λw=>gU (iO 3 1 1 nZ [(0,w)]) v λx D=>eJ (fg 3 1 8 i x D) λy E=>vm Q fu [l,g,y,c,d,a] E))) (vm Q fu [l,g,i,c,d,a] b)) (oP (fE i) λz=>IN Q [l,g,i,i,z,nZ] h)
theorem Rl{Q}:LN 6 (Iq Q) (IK Q):=JV.lm 6 _
def GG(Q:fj)(fu:LP)(e f g a b c:V)(h:Hp):Prop:=oP (ef .add 3 c nO) λd=>fu [e,f,g,a,b,d] h
theorem O1{Q fu}:RV 6 (GG Q fu) (vm Q fu):=JV.rn 6 _
def HF(Q:fj)(e:LP)(i d g b c a:V)(h:Hp):Prop:=bO .lss 3 a c (dX 1 b a h λf=>dN 1 d h λj=>oP (rH 3 none nZ false j f h) λk=>bO .eql 3 k nZ (oP (fR d) λl=>oP (fJ 2 l) λm=>cP CS jT [(V.iface 198 m),(V.iface 3 f)] h λo p=>vn Q e [i,d,g,b,c,a] p) (vn Q e [i,d,g,b,c,a] h)) (cP CS rM [d] h λq r=>oP (fE g) λn=>Je Q [i,d,g,n,nZ] r)
theorem QY{Q}:LN 6 (HF Q) (IN Q):=JV.lm 6 _
def GQ(Q:fj)(a:LP)(f g i b c d:V)(h:Hp):Prop:=oP (ef .add 3 d nO) λe=>a [f,g,i,b,c,e] h
theorem O7{Q a}:RV 6 (GQ Q a) (vn Q a):=JV.rn 6 _
def HI(Q:fj)(f:LP)(m b c d a:V)(h:Hp):Prop:=bO .lss 3 a d (dX 1 c a h λe=>dN 0 b h λn=>oP (rH 3 none nZ true n e h) λg=>oP (qV 0 g) λt=>oP (qV 1 g) λo=>bP o (dN 3 b h λp=>oP (fq [nZ,nZ] dZ [(0,e),(1,m)]) λq=>gU (iO 177 2 1 (V.agg [nZ,nZ]) [(0,q)]) h λr u=>eJ (fg 177 2 16 p r u) λi v=>oP (fR b) λj=>oP (fJ 3 j) λk=>eJ (gj 1 k i v) λy w=>cP CS th [b,e,m] w λs x=>vy Q f [m,b,c,d,a] x) (vy Q f [m,b,c,d,a] h)) (dN 3 b h λl=>Q l h)
theorem QR{Q}:LN 5 (HI Q) (Je Q):=JV.lm 5 _
def GK(Q:fj)(b:LP)(f g c d e:V)(h:Hp):Prop:=oP (ef .add 3 e nO) λa=>b [f,g,c,d,a] h
theorem Pe{Q a}:RV 5 (GK Q a) (vy Q a):=JV.rn 5 _
theorem Vb{g:V}(H:gU (some (.map [] 0,λl=> .map l)) h λb i=>gU (some (.map [] 0,λl=> .map l)) i λc j=>oP (fq [V.nA,V.nA,nS,nS] fd [(0,b),(1,c)]) λd=>gU (kZ 197 d) j λe k=>oP (fE a) λf=>IK Q [g,e,nS,a,f,nZ] k):cP CS Ic [a,g] h Q:=cP.ve t96 Tryz.func96 H
def t112:List (Nat×List Nat):=[(5,[0])]
def wB(Q:fj):LP:=JV CS Tryz.f112 t112 2 [0] [] Q
def vU(Q:fj)(fu:LP)(b:V)(h:Hp):Prop:=oP (fR b) λL=>dG 2 L h λi=>bO .gtr 3 i nZ (oP (fR b) λj=>oP (fJ 2 j) λk=>cP CS nU [(V.iface 198 k)] h λl g=>oP (LZ 3 nZ l) λc=>dN 0 b g λm=>oP (rH 3 none nZ false m c g) λa=>dN 3 b g λn=>oP (fq [nZ,nZ] dZ [(0,a),(1,c)]) λo=>gU (iO 177 2 1 (V.agg [nZ,nZ]) [(0,o)]) g λp M=>eJ (fg 177 2 16 n p M) λq N=>oP (fR b) λr=>oP (fJ 3 r) λs=>eJ (gj 1 s q N) λS I=>dN 0 b I λt=>eJ (Cg 3 none t c I) λJ u=>dN 1 b u λe=>oP (rH 3 none nZ false e a u) λv=>oP (ef .sub 3 v nO) λw=>eJ (xN 3 none e a w u) λK d=>dN 0 b d λx=>oP (rH 3 none nZ true x a d) λf=>oP (qV 0 f) λO=>oP (qV 1 f) λy=>oP (iM y (oB (some b) λz=>oB (fR z) λA=>oB (fJ 1 A) λB=>oB (ez B d) λC=>oB (some a) λD=>oB (rH 3 none nZ false C D d) λE=>ef .eql 3 E nZ)) λF=>bP F (oP (fR b) λG=>oP (fJ 2 G) λH=>cP CS jT [(V.iface 198 H),(V.iface 3 a)] d λP R=>fu [b] R) (fu [b] d)) (Q (V.tuple []) h)
theorem Ez{Q}:LN 1 (vU Q) (wB Q):=JV.lm 1 _
theorem HP(H:wB Q [a] h):cP CS rM [a] h Q:=cP.ve t112 Tryz.func112 H
def t113:List (Nat×List Nat):=[(11,[0,1,2,6])]
def wq(Q:fj):LP:=JV CS Tryz.f113 t113 5 [0,1,2,6] [] Q
def vS(Q:fj)(fu:LP)(a t u c:V)(h:Hp):Prop:=dN 0 a h λe=>oP (rH 3 none nZ false e c h) λb=>dN 0 a h λf=>eJ (Cg 3 none f c h) λD d=>bO .eql 3 b t (dN 3 a d λg=>oP (fq [nZ,nZ] dZ [(0,u),(1,c)]) λi=>gU (iO 177 2 1 (V.agg [nZ,nZ]) [(0,i)]) d λj x=>eJ (fg 177 2 16 g j x) λk y=>oP (fR a) λl=>oP (fJ 3 l) λm=>eJ (gj 1 m k y) λv z=>Q (V.tuple []) z) (dN 3 a d λn=>oP (fq [nZ,nZ] dZ [(0,b),(1,c)]) λo=>gU (iO 177 2 1 (V.agg [nZ,nZ]) [(0,o)]) d λp A=>eJ (fg 177 2 16 n p A) λq B=>oP (fR a) λr=>oP (fJ 3 r) λs=>eJ (gj 1 s q B) λw C=>fu [a,t,u,b] C)
theorem EX{Q}:LN 4 (vS Q) (wq Q):=JV.lm 4 _
theorem HW{b c:V}(H:wq Q [b,a,c,a] h):cP CS th [b,a,c] h Q:=cP.ve t113 Tryz.func113 H
end
set_option maxRecDepth 100000
noncomputable section
def t7:List (Nat×List Nat):=[(175,[2,4,8,9])]
def su(Q:fj):LP:=JV CS Tryz.f7 t7 87 [2,4,8,9] [] Q
def sy(Q:fj)(fu:LP)(p x4 a e:V)(h:Hp):Prop:=dG 2 p h λf=>bO .lss 3 e f (dF 0 a h λg=>oP (ef .add 3 (V.I 16) e) λi=>gU (iO 3 1 1 nZ [(0,i)]) h λj r=>eJ (fg 3 1 8 g j r) λk s=>oP (fJ 0 a) λl=>eJ (gj 1 l k s) λv t=>oP (ef .add 3 e nO) λm=>fu [p,x4,a,m] t) (oP (fZ 2 a h) λn=>oP (fJ 1 a) λb=>oP (ez b h) λc=>oP (ef .lss 3 c (V.I 400)) λo=>eJ (gj 2 x4 n h) λq d=>(h.next<=d.next/\((ez b d=some c)/\oP (fZ 2 x4 d) λu=>Q (V.tuple [u,o]) d)))
theorem A7{Q}:LN 4 (sy Q) (su Q):=JV.lm 4 _
theorem vL{m n:V}(H:gU (kZ 34 m) h λc u=>gU (zC 37 [nS,nZ]) u λd b=>bN n (oP (fZ 5 c b) λe=>cP CS yD [e] b λa v=>oP (qV 0 a) λf=>oP (qV 1 a) λg=>gU (zC 37 [nS,nZ]) v λo w=>eJ (gj 2 o f w) λA p=>oP (fZ 2 o p) λi=>oP (ef .eql 40 g nZ) λj=>eJ (gj 2 d i p) λq r=>oP (fZ 2 d r) λx=>Q (V.tuple [x,j]) r) (dG 2 c b λk=>oP (fq [nS,nZ] dZ [(1,k)]) λl=>gU (zC 37 [nS,nZ]) b λs y=>eJ (gj 2 s l y) λt z=>su Q [c,d,s,nZ] z)):cP CS ju [m,n] h Q:=cP.ve t7 Tryz.func7 H
def t3:List (Nat×List Nat):=[(254,[4,8,14]),(510,[14])]
end
set_option maxRecDepth 100000
noncomputable section
def t5:List (Nat×List Nat):=[(2559,[1,3,11,14,16,18]),(45055,[1,3,11,14,16,18,19,20]),(83439615,[1,3,11,14,16,18,19,20,21,23])]
end
