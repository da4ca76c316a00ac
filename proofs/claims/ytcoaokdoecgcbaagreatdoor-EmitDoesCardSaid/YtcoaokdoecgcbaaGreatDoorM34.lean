/- Parts. -/
import Derived.Test.YtcoaokdoecgcbaaGreatDoorM14
set_option maxHeartbeats 4000000
namespace Go.Proofs.YtcoaokdoecgcbaaGreatDoor.Hx
variable{Q:fj}{h:Hp}{a b c:V}
set_option maxRecDepth 100000
noncomputable section
theorem GW(H:gP CS (kh "Push" a [c] h) h λj d=>gP CS (kh "Len" a [] d) d λe f=>oP (ef .sub 3 e nO) λb=>cP CS ux [a,b] f λg i=>Q (V.tuple []) i):cP CS jT [a,c] h Q:=cP.ve [] Tryz.func83 H
theorem I2(H:gP CS (kh "Len" a [] h) h λf c=>oP (ef .sub 3 f nO) λd=>gP CS (kh "Swap" a [nZ,d] c) c λk g=>cP CS qM [a,nZ,d] g λi e=>gP CS (kh "Pop" a [] e) e λb j=>Q b j):cP CS nU [a] h Q:=cP.ve [] Tryz.func84 H
def t107:List (Nat×List Nat):=[(5,[0,1])]
def xg(Q:fj):LP:=JV CS Tryz.f107 t107 2 [0,1] [] Q
def xz(Q:fj)(fu:LP)(d b:V)(h:Hp):Prop:=
 oP (ef .sub 3 b nO) λl=>
 oP (ef .quo 3 l (V.I 2)) λc=>
 oP (ef .eql 3 c b) λa=>
 oP (gD false a) λm=>
 oP (gV m (some d)) λe=>
 oP (gD false a) λn=>
 oP (gV n (some b)) λf=>
 oP (gD false a) λo=>
 oP (gV o (some c)) λg=>
 oP (gD false a) λp=>
 oP (gC p (oB (kh "Less" e [f,g] h) Ba)) λq=>zL CS q h λi j=>
 oP (mi a (wI .not i)) λk=>
 bP k (
 Q (V.tuple []) j) (
 gP CS (kh "Swap" d [c,b] j) j λr s=>
 fu [d,c] s)
theorem Fi{Q}:LN 2 (xz Q) (xg Q):=JV.lm 2 _
theorem Kl(H:xg Q [a,b] h):cP CS ux [a,b] h Q:=cP.ve t107 Tryz.func107 H
def t108:List (Nat×List Nat):=[(39,[0,1,2,7]),(30,[1,7]),(3974,[0,1,2,7,9])]
def uX(Q:fj):LP:=JV CS Tryz.f108 t108 19 [0,1,2,7] [] Q
def lL(Q:fj):LP:=JV CS Tryz.f108 t108 15 [1,7] [] Q
def jm(Q:fj)(fu:LP):LP:=JV CS Tryz.f108 t108 1987 [0,1,2,7,9] [kf [0,1,2,7] fu] Q
def uV(Q:fj)(fu:LP)(i j f g:V)(h:Hp):Prop:=
 oP (ef .mul 3 (V.I 2) g) λk=>
 oP (ef .add 3 k nO) λa=>
 oP (ef .geq 3 a f) λl=>
 oP (mi l (oB (some a) λm=>ef .lss 3 m nZ)) λn=>
 bP n (
 lL Q [j,g] h) (
 oP (ef .add 3 a nO) λc=>
 oP (ef .lss 3 c f) λb=>
 oP (gD true b) λd=>
 oP (gV d (some i)) λo=>
 oP (gD true b) λe=>
 oP (gV e (some c)) λp=>
 oP (gD true b) λu=>
 oP (gV u (some a)) λq=>
 oP (gD true b) λv=>
 oP (gC v (oB (kh "Less" o [p,q] h) Ba)) λw=>zL CS w h λr t=>
 oP (yP b r bF) λs=>
 bP s (
 jm Q fu [i,j,f,g,c] t) (
 jm Q fu [i,j,f,g,a] t))
theorem DA{Q}:LN 4 (uV Q) (uX Q):=JV.lm 4 _
def uG(Q:fj)(b c:V)(h:Hp):Prop:=oP (ef .gtr 3 c b) λa=>Q a h
theorem DQ{Q}:RV 2 (uG Q) (lL Q):=JV.rn 2 _
def uU(Q:fj)(fu:LP)(a f g b c:V)(h:Hp):Prop:=
 gP CS (kh "Less" a [c,b] h) h λd e=>
 bN d (
 lL Q [f,b] e) (
 gP CS (kh "Swap" a [b,c] e) e λi j=>
 fu [a,f,g,c] j)
theorem DP{Q fu}:RV 5 (uU Q fu) (jm Q fu):=JV.rn 5 _
theorem G0(H:uX Q [b,a,c,a] h):cP CS qM [b,a,c] h Q:=cP.ve t108 Tryz.func108 H
theorem Na(H:oP (fE a) λb=>Q b h):cP CS DZ [a] h Q:=cP.ve [] Tryz.func149 H
theorem LR{e f:V}(H:dX 1 a e h λb=>dX 1 a f h λc=>oP (ef .lss 3 b c) λd=>Q d h):cP CS Cp [a,e,f] h Q:=cP.ve [] Tryz.func150 H
theorem ML(H:dX 1 a c h λd=>dX 1 a b h λe=>oP (gM 1 a b) λf=>eJ (gj 1 f d h) λl g=>(h.next<=g.next/\oP (gM 1 a c) λi=>eJ (gj 1 i e g) λj k=>(g.next<=k.next/\Q (V.tuple []) k))):cP CS Cr [a,b,c] h Q:=cP.ve [] Tryz.func151 H
theorem Nm(H:oP (fR a) λk=>oP (ez k h) λl=>oP (fE l) λm=>oP (ef .sub 3 m nO) λj=>oP (fR a) λb=>oP (ez b h) λc=>dX 1 c j h λd=>oP (fR a) λe=>oP (ez e h) λf=>oP (jw 1 f none (some j) h) λg=>oP (fR a) λi=>eJ (gj 1 i g h) λo n=>Q (V.iface 3 d) n):cP CS EN [a] h Q:=cP.ve [] Tryz.func152 H
section
variable (C:mh)(Q:X->iG->Hp->Prop)(ρ:iG)(h:Hp)
def zgx:=NC Tryz.f153
theorem zhG:Wi C 13 zgx Q ρ h=(oP (some (ρ 0)) λb=>
 oP (some (ρ 0)) λe=>
 oP (fR e) λf=>
 oP (ez f h) λj=>
 oP (some (ρ 1)) λg=>
 oP (LZ 3 (V.I 0) g) λk=>
 uj (iO 3 1 1 (V.I 0) [(0,k)]) h λl c i=>
 ((i.get (h.next)=some l/\O.beq l l=true)/\
 ((LZ 3 (V.I 0) g=some k)/\
 ((some (ρ 1)=some g)/\
 ((ez f i=some j)/\
 ((fR e=some f)/\
 ((some (ρ 0)=some e)/\
 ((some (ρ 0)=some b)/\
 eJ (fg 3 1 8 j c i) λd m=>
 (i.next<=m.next/\
 oP (fR b) λa=>
 ((fR b=some a)/\
 ((some (ρ 0)=some b)/\
 eJ (gj 1 a d m) λo n=>
 (m.next<=n.next/\
 Q .normal (nG (nG (nG (nG (nG (nG (nG (nG (nG ρ 4 b) 5 e) 6 f) 7 j) 8 g) 9 k) 10 c) 11 d) 12 a) n)))))))))))):=by kernel_rfl
theorem zhL{C:mh}(hs:C.start=Df)(a b:V){h:Hp}{Q:fj}(c:C.K og [a,b] h=none)(H:Wi C 13 zgx (Oj [] Q) (ON [a,b]) h):cP C og [a,b] h Q:=
 cP.zfh hs (show P0.funcs[153]? =some Tryz.f153 by unfold P0;exact Tryz.func153) (by kernel_rfl) (by kernel_rfl) (by kernel_rfl) c (Oz rfl) (Wp.code _ H)
noncomputable def CH(C:mh) (Q:fj) (g l:V) (h:Hp):Prop:=oP (fR g) λi=>oP (ez i h) λj=>oP (LZ 3 (V.I 0) l) λm=>uj (iO 3 1 1 (V.I 0) [(0,m)]) h λb c a=>((a.get (h.next)=some b/\O.beq b b=true)/\((ez i a=some j)/\eJ (fg 3 1 8 j c a) λd e=>(a.next<=e.next/\oP (fR g) λf=>eJ (gj 1 f d e) λn k=>(e.next<=k.next/\Q (V.tuple []) k))))
theorem MA{C:mh}(hs:C.start=Df){b c:V}{h:Hp}{Q:fj}(f:C.K og [b,c] h=none)(H:CH C Q b c h):cP C og [b,c] h Q:=by
 unfold CH at H;exact zhL hs _ _ f ((zhG _ _ _ _).mpr (oSm (oSm (oM H λl d H=>oM H λm g H=>oSm (oM H λn e H=>zg8 H λo i p H=>anM H λH=>⟨e,⟨rfl,anM H λH=>⟨d,⟨rfl,⟨rfl,zdm H λj q H=>anM H λH=>oM H λk a H=>⟨a,⟨rfl,zdm H λr s H=>anM H λH=>H⟩⟩⟩⟩⟩⟩⟩)))))
end
def t55:List (Nat×List Nat):=[(87,[0,3,4]),(918,[0,3,4]),(175,[0,3,5]),(1838,[0,3,5])]
def Ed(Q:fj):LP:=JV CS Tryz.f55 t55 43 [0,3,4] [] Q
def wJ(Q:fj)(fu:LP):LP:=JV CS Tryz.f55 t55 459 [0,3,4] [kf [0,3,4] fu] Q
def yt(Q:fj):LP:=JV CS Tryz.f55 t55 87 [0,3,5] [] Q
def xu(Q:fj)(a:LP):LP:=JV CS Tryz.f55 t55 919 [0,3,5] [kf [0,3,5] a] Q
def EY(Q:fj)(fu:LP)(a b x4:V)(h:Hp):Prop:=bO .lss 3 x4 (V.I 12) (oP (rH 3 none bF false a x4 h) λc=>bN c (cP CS jT [(V.iface 164 b),(V.iface 3 x4)] h λd e=>wJ Q fu [a,b,x4] e) (wJ Q fu [a,b,x4] h)) (yt Q [a,b,(V.I 16)] h)
theorem Ny{Q}:LN 3 (EY Q) (Ed Q):=JV.lm 3 _
def xD(Q:fj)(fu:LP)(b c x4:V)(h:Hp):Prop:=oP (ef .add 3 x4 nO) λa=>fu [b,c,a] h
theorem Cf{Q fu}:RV 3 (xD Q fu) (wJ Q fu):=JV.rn 3 _
def ED(Q:fj)(a:LP)(d b c:V)(h:Hp):Prop:=oP (ez b h) λe=>oP (fE e) λf=>bO .eql 3 f nZ (oP (rH 3 none bF false d c h) λg=>bN g (cP CS jT [(V.iface 164 b),(V.iface 3 c)] h λk l=>xu Q a [d,b,c] l) (xu Q a [d,b,c] h)) (cP CS nU [(V.iface 164 b)] h λi m=>oP (LZ 3 nZ i) λj=>Q j m)
theorem NG{Q}:LN 3 (ED Q) (yt Q):=JV.lm 3 _
def wP(Q:fj)(a:LP)(c d e:V)(h:Hp):Prop:=oP (ef .add 3 e nO) λb=>a [c,d,b] h
theorem Cm{Q a}:RV 3 (wP Q a) (xu Q a):=JV.rn 3 _
theorem RH(H:gU (iO 3 1 0 nZ []) h λc d=>gU (zC 162 [nS]) d λb e=>eJ (gj 1 b c e) λg f=>Ed Q [a,b,nZ] f):cP CS CO [a] h Q:=cP.ve t55 Tryz.func55 H
def t25:List (Nat×List Nat):=[(703,[1,2,4,5,6,33,34,35]),(380095,[1,2,4,5,6,8,9,33,34,35,42,43,44]),(2878983359,[1,2,4,5,6,8,9,11,12,13,33,34,35,42,43,44,63]),(261737662,[1,2,4,5,6,8,9,11,12,13,33,34,35,42,43,44]),(1469697215,[1,2,4,5,6,8,9,12,13,33,34,35,42,43,44,70,71,72]),(32608210110,[1,2,4,5,6,8,9,12,13,33,34,35,42,43,44,70,71,72]),(2140785854,[1,2,4,5,6,8,9,12,33,34,35,42,43,44])]
def Ac(Q:fj):LP:=JV CS Tryz.f25 t25 351 [1,2,4,5,6,33,34,35] [] Q
def Aj(Q:fj)(fu:LP):LP:=JV CS Tryz.f25 t25 190047 [1,2,4,5,6,8,9,33,34,35,42,43,44] [kf [1,2,4,5,6,33,34,35] fu] Q
def Ab(Q:fj)(fu:LP)(a:LP):LP:=JV CS Tryz.f25 t25 1439491679 [1,2,4,5,6,8,9,11,12,13,33,34,35,42,43,44,63] [kf [1,2,4,5,6,33,34,35] fu,kf [1,2,4,5,6,8,9,33,34,35,42,43,44] a] Q
def nM(Q:fj)(fu:LP)(a:LP):LP:=JV CS Tryz.f25 t25 130868831 [1,2,4,5,6,8,9,11,12,13,33,34,35,42,43,44] [kf [1,2,4,5,6,33,34,35] fu,kf [1,2,4,5,6,8,9,33,34,35,42,43,44] a] Q
def zX(Q:fj)(fu:LP)(a:LP):LP:=JV CS Tryz.f25 t25 734848607 [1,2,4,5,6,8,9,12,13,33,34,35,42,43,44,70,71,72] [kf [1,2,4,5,6,33,34,35] fu,kf [1,2,4,5,6,8,9,33,34,35,42,43,44] a] Q
def nR(Q:fj)(fu:LP)(a:LP)(b:LP):LP:=JV CS Tryz.f25 t25 16304105055 [1,2,4,5,6,8,9,12,13,33,34,35,42,43,44,70,71,72] [kf [1,2,4,5,6,33,34,35] fu,kf [1,2,4,5,6,8,9,33,34,35,42,43,44] a,kf [1,2,4,5,6,8,9,12,13,33,34,35,42,43,44,70,71,72] b] Q
def od(Q:fj)(fu:LP)(a:LP):LP:=JV CS Tryz.f25 t25 1070392927 [1,2,4,5,6,8,9,12,33,34,35,42,43,44] [kf [1,2,4,5,6,33,34,35] fu,kf [1,2,4,5,6,8,9,33,34,35,42,43,44] a] Q
def zZ(Q:fj)(fu:LP)(s b x4 m t c d a:V)(h:Hp):Prop:=bO .lss 3 a d (dX 1 c a h λe=>gU (some (.map [] 0,λl=> .map l)) h λn u=>cP CS nV [x4,e] u λf v=>oP (fE f) λo=>Aj Q fu [s,b,x4,m,t,e,n,c,d,a,f,o,nZ] v) (dF 1 m h λg=>bO .gtr 3 g (V.I 399) (oP (fq [nS,nZ] dZ []) λi=>eJ (gj 2 b i h) λw p=>oP (fZ 2 b p) λr2=>Q (V.tuple [r2,(V.I 2)]) p) (oP (fZ 2 m h) λj=>eJ (gj 2 b j h) λq r=>oP (fZ 2 b r) λk=>Q (V.tuple [k,nZ]) r))
theorem Ka{Q}:LN 8 (zZ Q) (Ac Q):=JV.lm 8 _
def AD(Q:fj)(fu:LP)(i:LP)(n o x4 p q r s b c d e f a:V)(h:Hp):Prop:=bO .lss 3 a f (dX 1 e a h λj=>dJ 3 n 6 r 0 h λt=>dX 1 t a h λg=>gU (some (.map [] 0,λl=> .map l)) h λk x=>cP CS iW [x4,g] x λu w=>bP u (eJ (ND s w) λv y=>Ab Q fu i [n,o,x4,p,q,r,s,j,g,k,b,c,d,e,f,a,v] y) (nM Q fu i [n,o,x4,p,q,r,s,j,g,k,b,c,d,e,f,a] w)) (oP (ef .add 3 d nO) λm=>fu [n,o,x4,p,q,b,c,m] h)
theorem Ke{Q fu}:LN 13 (AD Q fu) (Aj Q fu):=JV.lm 13 _
def zn(Q:fj)(fu:LP)(b:LP)(l m x4 n o p q a c gL d e f g i j:V)(h:Hp):Prop:=oP (fE a) λk=>zX Q fu b [l,m,x4,n,o,p,q,c,gL,d,e,f,g,i,j,a,k,nZ] h
theorem IZ{Q fu a}:RV 16 (zn Q fu a) (nM Q fu a):=JV.rn 16 _
def Au(Q:fj)(fu:LP)(c:LP)(o:LP)(x y x4 k n z p a gL d e f g i j l m b:V)(h:Hp):Prop:=bO .lss 3 b m (dX 1 l b h λB=>oP (iM B (oB (some b) λC=>oB (some a) λD=>ef .neq 3 C D)) λE=>oP (iM E (oB (some n) λF=>oB (some b) λG=>oB (gM 1 F G) λH=>ez H h)) λI=>bP I (dY 0 k 1 b h λJ=>eJ (xN 3 none gL J bT h) λT R=>nR Q fu c o [x,y,x4,k,n,z,p,a,gL,d,e,f,g,i,j,l,m,b] R) (nR Q fu c o [x,y,x4,k,n,z,p,a,gL,d,e,f,g,i,j,l,m,b] h)) (oP (fJ 0 k) λq=>oP (ez q h) λr=>cP CS CO [gL] h λs A=>(h.next<=A.next/\oP (gM 1 r a) λt=>((ez q A=some r)/\eJ (gj 1 t s A) λM K=>(A.next<=K.next/\oP (gM 1 n a) λu=>eJ (gj 1 u bT K) λN O=>(K.next<=O.next/\cP CS iW [x4,a] O λv L=>bP v (dY 0 k 1 a L λw=>eJ (xN 3 none p w bT L) λP S=>od Q fu c [x,y,x4,k,n,z,p,a,d,e,f,g,i,j] S) (od Q fu c [x,y,x4,k,n,z,p,a,d,e,f,g,i,j] L))))))
theorem J5{Q fu a}:LN 18 (Au Q fu a) (zX Q fu a):=JV.lm 18 _
def yS(Q:fj)(fu:LP)(n:LP)(a:LP)(o p x4 q r s t b gL c d e f g i j k l:V)(h:Hp):Prop:=oP (ef .add 3 l nO) λm=>a [o,p,x4,q,r,s,t,b,gL,c,d,e,f,g,i,j,k,m] h
theorem Ig{Q fu a b}:RV 18 (yS Q fu a b) (nR Q fu a b):=JV.rn 18 _
def zo(Q:fj)(fu:LP)(j:LP)(s t x4 i u v w k l m n o p q:V)(h:Hp):Prop:=dF 1 i h λa=>dY 0 i 1 k h λb=>oP (ef .sub 3 b (V.I 16)) λc=>oP (ef .add 3 c nO) λd=>oP (T4 true a [d]) λe=>oP (fJ 1 i) λf=>eJ (gj 1 f e h) λx r=>(h.next<=r.next/\oP (ef .add 3 q nO) λg=>j [s,t,x4,i,u,v,w,l,m,n,o,p,g] r)
theorem IT{Q fu a}:RV 14 (zo Q fu a) (od Q fu a):=JV.rn 14 _
theorem Oc{s:V}(H:gU (kZ 34 s) h λa A=>gU (zC 37 [nS,nZ]) A λe t=>oP (fZ 5 a t) λf=>cP CS zz [f] t λg i=>bN g (oP (fq [nS,nZ] dZ []) λj=>eJ (gj 2 e j i) λD u=>oP (fZ 2 e u) λr2=>Q (V.tuple [r2,nO]) u) (oP (fZ 5 a i) λk=>cP CS AJ [k] i λl v=>dG 2 a v λb=>gU (jy 3 1 8 nZ b b) v λm B=>oP (fq [nS,nZ] dZ [(0,m)]) λn=>gU (zC 37 [nS,nZ]) B λw C=>eJ (gj 2 w n C) λx y=>dG 2 a y λc=>gU (jy 4 1 1 bF c c) y λo z=>oP (fZ 5 a z) λp=>cP CS sL [p] z λd q=>oP (fE d) λr=>Ac Q [a,e,l,w,o,d,r,nZ] q)):cP CS yD [s] h Q:=cP.ve t25 Tryz.func25 H
end
