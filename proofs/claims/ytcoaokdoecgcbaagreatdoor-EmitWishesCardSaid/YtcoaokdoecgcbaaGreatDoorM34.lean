/- Parts. -/
import Derived.Test.YtcoaokdoecgcbaaGreatDoorM14
set_option maxHeartbeats 4000000
namespace Go.Proofs.YtcoaokdoecgcbaaGreatDoor.Hx
variable{Q:fo}{h:Hp}{a b c:V}
set_option maxRecDepth 100000
noncomputable section
theorem Gu(H:gO CS (jZ "Push" a [c] h) h λj d=>gO CS (jZ "Len" a [] d) d λe f=>oP (eh .sub 3 e nO) λb=>cP CS uf [a,b] f λg i=>Q (V.tuple []) i):cP CS jS [a,c] h Q:=cP.ve [] Tryz.func83 H
theorem Hc(H:gO CS (jZ "Len" a [] h) h λf c=>oP (eh .sub 3 f nO) λd=>gO CS (jZ "Swap" a [nZ,d] c) c λk g=>cP CS qW [a,nZ,d] g λi e=>gO CS (jZ "Pop" a [] e) e λb j=>Q b j):cP CS oy [a] h Q:=cP.ve [] Tryz.func84 H
def t107:List (Nat×List Nat):=[(5,[0,1])]
def wP(Q:fo):LP:=JV CS Tryz.f107 t107 2 [0,1] [] Q
def wQ(Q:fo)(fE:LP)(d b:V)(h:Hp):Prop:=
 oP (eh .sub 3 b nO) λl=>
 oP (eh .quo 3 l (V.I 2)) λc=>
 oP (eh .eql 3 c b) λa=>
 oP (iE false a) λm=>
 oP (gV m (some d)) λe=>
 oP (iE false a) λn=>
 oP (gV n (some b)) λf=>
 oP (iE false a) λo=>
 oP (gV o (some c)) λg=>
 oP (iE false a) λp=>
 oP (gC p (oB (jZ "Less" e [f,g] h) AN)) λq=>Gn CS q h λi j=>
 oP (nr a (za .not i)) λk=>
 bP k (
 Q (V.tuple []) j) (
 gO CS (jZ "Swap" d [c,b] j) j λr s=>
 fE [d,c] s)
theorem FD{Q}:LN 2 (wQ Q) (wP Q):=JV.lm 2 _
theorem Jq(H:wP Q [a,b] h):cP CS uf [a,b] h Q:=cP.ve t107 Tryz.func107 H
def t108:List (Nat×List Nat):=[(39,[0,1,2,7]),(30,[1,7]),(3974,[0,1,2,7,9])]
def uy(Q:fo):LP:=JV CS Tryz.f108 t108 19 [0,1,2,7] [] Q
def lM(Q:fo):LP:=JV CS Tryz.f108 t108 15 [1,7] [] Q
def jn(Q:fo)(fE:LP):LP:=JV CS Tryz.f108 t108 1987 [0,1,2,7,9] [kf [0,1,2,7] fE] Q
def uI(Q:fo)(fE:LP)(i j f g:V)(h:Hp):Prop:=
 oP (eh .mul 3 (V.I 2) g) λk=>
 oP (eh .add 3 k nO) λa=>
 oP (eh .geq 3 a f) λl=>
 oP (nr l (oB (some a) λm=>eh .lss 3 m nZ)) λn=>
 bP n (
 lM Q [j,g] h) (
 oP (eh .add 3 a nO) λc=>
 oP (eh .lss 3 c f) λb=>
 oP (iE true b) λd=>
 oP (gV d (some i)) λo=>
 oP (iE true b) λe=>
 oP (gV e (some c)) λp=>
 oP (iE true b) λu=>
 oP (gV u (some a)) λq=>
 oP (iE true b) λv=>
 oP (gC v (oB (jZ "Less" o [p,q] h) AN)) λw=>Gn CS w h λr t=>
 oP (Jx b r bF) λs=>
 bP s (
 jn Q fE [i,j,f,g,c] t) (
 jn Q fE [i,j,f,g,a] t))
theorem Ce{Q}:LN 4 (uI Q) (uy Q):=JV.lm 4 _
def uH(Q:fo)(b c:V)(h:Hp):Prop:=oP (eh .gtr 3 c b) λa=>Q a h
theorem Cp{Q}:RV 2 (uH Q) (lM Q):=JV.rn 2 _
def uF(Q:fo)(fE:LP)(a f g b c:V)(h:Hp):Prop:=
 gO CS (jZ "Less" a [c,b] h) h λd e=>
 bN d (
 lM Q [f,b] e) (
 gO CS (jZ "Swap" a [b,c] e) e λi j=>
 fE [a,f,g,c] j)
theorem CV{Q fE}:RV 5 (uF Q fE) (jn Q fE):=JV.rn 5 _
theorem Gt(H:uy Q [b,a,c,a] h):cP CS qW [b,a,c] h Q:=cP.ve t108 Tryz.func108 H
theorem M4(H:oP (fM a) λb=>Q b h):cP CS DB [a] h Q:=cP.ve [] Tryz.func149 H
theorem KY{e f:V}(H:dX 1 a e h λb=>dX 1 a f h λc=>oP (eh .lss 3 b c) λd=>Q d h):cP CS BM [a,e,f] h Q:=cP.ve [] Tryz.func150 H
theorem L5(H:dX 1 a c h λd=>dX 1 a b h λe=>oP (gQ 1 a b) λf=>eJ (gw 1 f d h) λl g=>(h.next<=g.next/\oP (gQ 1 a c) λi=>eJ (gw 1 i e g) λj k=>(g.next<=k.next/\Q (V.tuple []) k))):cP CS B4 [a,b,c] h Q:=cP.ve [] Tryz.func151 H
theorem MN(H:oP (fR a) λk=>oP (eD k h) λl=>oP (fM l) λm=>oP (eh .sub 3 m nO) λj=>oP (fR a) λb=>oP (eD b h) λc=>dX 1 c j h λd=>oP (fR a) λe=>oP (eD e h) λf=>oP (jE 1 f none (some j) h) λg=>oP (fR a) λi=>eJ (gw 1 i g h) λo n=>Q (V.iface 3 d) n):cP CS DW [a] h Q:=cP.ve [] Tryz.func152 H
section
variable (C:mw)(Q:X->iK->Hp->Prop)(ρ:iK)(h:Hp)
def zfX:=MJ Tryz.f153
theorem zg2:Uz C 13 zfX Q ρ h=(oP (some (ρ 0)) λb=>
 oP (some (ρ 0)) λe=>
 oP (fR e) λf=>
 oP (eD f h) λj=>
 oP (some (ρ 1)) λg=>
 oP (K8 3 (V.I 0) g) λk=>
 vV (iW 3 1 1 (V.I 0) [(0,k)]) h λl c i=>
 ((i.get (h.next)=some l/\O.beq l l=true)/\
 ((K8 3 (V.I 0) g=some k)/\
 ((some (ρ 1)=some g)/\
 ((eD f i=some j)/\
 ((fR e=some f)/\
 ((some (ρ 0)=some e)/\
 ((some (ρ 0)=some b)/\
 eJ (fg 3 1 8 j c i) λd m=>
 (i.next<=m.next/\
 oP (fR b) λa=>
 ((fR b=some a)/\
 ((some (ρ 0)=some b)/\
 eJ (gw 1 a d m) λo n=>
 (m.next<=n.next/\
 Q .normal (nE (nE (nE (nE (nE (nE (nE (nE (nE ρ 4 b) 5 e) 6 f) 7 j) 8 g) 9 k) 10 c) 11 d) 12 a) n)))))))))))):=by kernel_rfl
theorem zgH{C:mw}(hs:C.start=Cg)(a b:V){h:Hp}{Q:fo}(c:C.K oh [a,b] h=none)(H:Uz C 13 zfX (NP [] Q) (Nd [a,b]) h):cP C oh [a,b] h Q:=
 cP.zd1 hs (show P0.funcs[153]? =some Tryz.f153 by unfold P0;exact Tryz.func153) (by kernel_rfl) (by kernel_rfl) (by kernel_rfl) c (ND rfl) (Wp.code _ H)
noncomputable def BT(C:mw) (Q:fo) (g l:V) (h:Hp):Prop:=oP (fR g) λi=>oP (eD i h) λj=>oP (K8 3 (V.I 0) l) λm=>vV (iW 3 1 1 (V.I 0) [(0,m)]) h λb c a=>((a.get (h.next)=some b/\O.beq b b=true)/\((eD i a=some j)/\eJ (fg 3 1 8 j c a) λd e=>(a.next<=e.next/\oP (fR g) λf=>eJ (gw 1 f d e) λn k=>(e.next<=k.next/\Q (V.tuple []) k))))
theorem Lh{C:mw}(hs:C.start=Cg){b c:V}{h:Hp}{Q:fo}(f:C.K oh [b,c] h=none)(H:BT C Q b c h):cP C oh [b,c] h Q:=by
 unfold BT at H;exact zgH hs _ _ f ((zg2 _ _ _ _).mpr (oSm (oSm (oM H λl d H=>oM H λm g H=>oSm (oM H λn e H=>zgp H λo i p H=>anM H λH=>⟨e,⟨rfl,anM H λH=>⟨d,⟨rfl,⟨rfl,zcU H λj q H=>anM H λH=>oM H λk a H=>⟨a,⟨rfl,zcU H λr s H=>anM H λH=>H⟩⟩⟩⟩⟩⟩⟩)))))
end
def t55:List (Nat×List Nat):=[(87,[0,3,4]),(918,[0,3,4]),(175,[0,3,5]),(1838,[0,3,5])]
def Ep(Q:fo):LP:=JV CS Tryz.f55 t55 43 [0,3,4] [] Q
def wH(Q:fo)(fE:LP):LP:=JV CS Tryz.f55 t55 459 [0,3,4] [kf [0,3,4] fE] Q
def xP(Q:fo):LP:=JV CS Tryz.f55 t55 87 [0,3,5] [] Q
def wM(Q:fo)(gL:LP):LP:=JV CS Tryz.f55 t55 919 [0,3,5] [kf [0,3,5] gL] Q
def Dg(Q:fo)(fE:LP)(a b x4:V)(h:Hp):Prop:=bO .lss 3 x4 (V.I 12) (oP (rG 3 none bF false a x4 h) λc=>bN c (cP CS jS [(V.iface 164 b),(V.iface 3 x4)] h λd e=>wH Q fE [a,b,x4] e) (wH Q fE [a,b,x4] h)) (xP Q [a,b,(V.I 16)] h)
theorem ME{Q}:LN 3 (Dg Q) (Ep Q):=JV.lm 3 _
def wE(Q:fo)(fE:LP)(b c x4:V)(h:Hp):Prop:=oP (eh .add 3 x4 nO) λa=>fE [b,c,a] h
theorem BK{Q fE}:RV 3 (wE Q fE) (wH Q fE):=JV.rn 3 _
def Dd(Q:fo)(gL:LP)(c a b:V)(h:Hp):Prop:=oP (eD a h) λd=>oP (fM d) λe=>bO .eql 3 e nZ (oP (rG 3 none bF false c b h) λf=>bN f (cP CS jS [(V.iface 164 a),(V.iface 3 b)] h λj k=>wM Q gL [c,a,b] k) (wM Q gL [c,a,b] h)) (cP CS oy [(V.iface 164 a)] h λg l=>oP (K8 3 nZ g) λi=>Q i l)
theorem MS{Q}:LN 3 (Dd Q) (xP Q):=JV.lm 3 _
def wW(Q:fo)(gL:LP)(b c d:V)(h:Hp):Prop:=oP (eh .add 3 d nO) λa=>gL [b,c,a] h
theorem B2{Q gL}:RV 3 (wW Q gL) (wM Q gL):=JV.rn 3 _
theorem Qo(H:hV (iW 3 1 0 nZ []) h λc d=>hV (zC 162 [nS]) d λb e=>eJ (gw 1 b c e) λg f=>Ep Q [a,b,nZ] f):cP CS CE [a] h Q:=cP.ve t55 Tryz.func55 H
def t25:List (Nat×List Nat):=[(703,[1,2,4,5,6,33,34,35]),(380095,[1,2,4,5,6,8,9,33,34,35,42,43,44]),(2878983359,[1,2,4,5,6,8,9,11,12,13,33,34,35,42,43,44,63]),(261737662,[1,2,4,5,6,8,9,11,12,13,33,34,35,42,43,44]),(1469697215,[1,2,4,5,6,8,9,12,13,33,34,35,42,43,44,70,71,72]),(32608210110,[1,2,4,5,6,8,9,12,13,33,34,35,42,43,44,70,71,72]),(2140785854,[1,2,4,5,6,8,9,12,33,34,35,42,43,44])]
def z0(Q:fo):LP:=JV CS Tryz.f25 t25 351 [1,2,4,5,6,33,34,35] [] Q
def zO(Q:fo)(fE:LP):LP:=JV CS Tryz.f25 t25 190047 [1,2,4,5,6,8,9,33,34,35,42,43,44] [kf [1,2,4,5,6,33,34,35] fE] Q
def zD(Q:fo)(fE:LP)(gL:LP):LP:=JV CS Tryz.f25 t25 1439491679 [1,2,4,5,6,8,9,11,12,13,33,34,35,42,43,44,63] [kf [1,2,4,5,6,33,34,35] fE,kf [1,2,4,5,6,8,9,33,34,35,42,43,44] gL] Q
def ot(Q:fo)(fE:LP)(gL:LP):LP:=JV CS Tryz.f25 t25 130868831 [1,2,4,5,6,8,9,11,12,13,33,34,35,42,43,44] [kf [1,2,4,5,6,33,34,35] fE,kf [1,2,4,5,6,8,9,33,34,35,42,43,44] gL] Q
def zN(Q:fo)(fE:LP)(gL:LP):LP:=JV CS Tryz.f25 t25 734848607 [1,2,4,5,6,8,9,12,13,33,34,35,42,43,44,70,71,72] [kf [1,2,4,5,6,33,34,35] fE,kf [1,2,4,5,6,8,9,33,34,35,42,43,44] gL] Q
def ou(Q:fo)(fE:LP)(gL:LP)(a:LP):LP:=JV CS Tryz.f25 t25 16304105055 [1,2,4,5,6,8,9,12,13,33,34,35,42,43,44,70,71,72] [kf [1,2,4,5,6,33,34,35] fE,kf [1,2,4,5,6,8,9,33,34,35,42,43,44] gL,kf [1,2,4,5,6,8,9,12,13,33,34,35,42,43,44,70,71,72] a] Q
def nQ(Q:fo)(fE:LP)(gL:LP):LP:=JV CS Tryz.f25 t25 1070392927 [1,2,4,5,6,8,9,12,33,34,35,42,43,44] [kf [1,2,4,5,6,33,34,35] fE,kf [1,2,4,5,6,8,9,33,34,35,42,43,44] gL] Q
def zZ(Q:fo)(fE:LP)(s b x4 m t c d a:V)(h:Hp):Prop:=bO .lss 3 a d (dX 1 c a h λe=>hV (some (.map [] 0,λl=> .map l)) h λn u=>cP CS og [x4,e] u λf v=>oP (fM f) λo=>zO Q fE [s,b,x4,m,t,e,n,c,d,a,f,o,nZ] v) (dF 1 m h λg=>bO .gtr 3 g (V.I 399) (oP (fq [nS,nZ] [(0,1),(1,1)] []) λi=>eJ (gw 2 b i h) λw p=>oP (gi 2 b p) λr2=>Q (V.tuple [r2,(V.I 2)]) p) (oP (gi 2 m h) λj=>eJ (gw 2 b j h) λq r=>oP (gi 2 b r) λk=>Q (V.tuple [k,nZ]) r))
theorem Jr{Q}:LN 8 (zZ Q) (z0 Q):=JV.lm 8 _
def zB(Q:fo)(fE:LP)(gL:LP)(m n x4 o p q r b c d e f a:V)(h:Hp):Prop:=bO .lss 3 a f (dX 1 e a h λi=>dJ 3 m 6 q 0 h λs=>dX 1 s a h λg=>hV (some (.map [] 0,λl=> .map l)) h λj w=>cP CS iZ [x4,g] w λt v=>bP t (eJ (MQ r v) λu x=>zD Q fE gL [m,n,x4,o,p,q,r,i,g,j,b,c,d,e,f,a,u] x) (ot Q fE gL [m,n,x4,o,p,q,r,i,g,j,b,c,d,e,f,a] v)) (oP (eh .add 3 d nO) λk=>fE [m,n,x4,o,p,b,c,k] h)
theorem Jg{Q fE}:LN 13 (zB Q fE) (zO Q fE):=JV.lm 13 _
def yL(Q:fo)(fE:LP)(gL:LP)(k l x4 m n o p a b gI c d e f g i:V)(h:Hp):Prop:=oP (fM a) λj=>zN Q fE gL [k,l,x4,m,n,o,p,b,gI,c,d,e,f,g,i,a,j,nZ] h
theorem HS{Q fE gL}:RV 16 (yL Q fE gL) (ot Q fE gL):=JV.rn 16 _
def zH(Q:fo)(fE:LP)(gL:LP)(n:LP)(w x x4 j m y o a gI c d e f g i k l b:V)(h:Hp):Prop:=bO .lss 3 b l (dX 1 k b h λA=>oP (jm A (oB (some b) λB=>oB (some a) λC=>eh .neq 3 B C)) λD=>oP (jm D (oB (some m) λE=>oB (some b) λF=>oB (gQ 1 E F) λG=>eD G h)) λH=>bP H (dY 0 j 1 b h λI=>eJ (zk 3 none gI I bT h) λS P=>ou Q fE gL n [w,x,x4,j,m,y,o,a,gI,c,d,e,f,g,i,k,l,b] P) (ou Q fE gL n [w,x,x4,j,m,y,o,a,gI,c,d,e,f,g,i,k,l,b] h)) (oP (fV 0 j) λp=>oP (eD p h) λq=>cP CS CE [gI] h λr z=>(h.next<=z.next/\oP (gQ 1 q a) λs=>((eD p z=some q)/\eJ (gw 1 s r z) λL J=>(z.next<=J.next/\oP (gQ 1 m a) λt=>eJ (gw 1 t bT J) λM N=>(J.next<=N.next/\cP CS iZ [x4,a] N λu K=>bP u (dY 0 j 1 a K λv=>eJ (zk 3 none o v bT K) λO R=>nQ Q fE gL [w,x,x4,j,m,y,o,a,c,d,e,f,g,i] R) (nQ Q fE gL [w,x,x4,j,m,y,o,a,c,d,e,f,g,i] K))))))
theorem Jo{Q fE gL}:LN 18 (zH Q fE gL) (zN Q fE gL):=JV.lm 18 _
def yH(Q:fo)(fE:LP)(gL:LP)(a:LP)(n o x4 p q r s b gI c d e f g i j k l:V)(h:Hp):Prop:=oP (eh .add 3 l nO) λm=>a [n,o,x4,p,q,r,s,b,gI,c,d,e,f,g,i,j,k,m] h
theorem HU{Q fE gL a}:RV 18 (yH Q fE gL a) (ou Q fE gL a):=JV.rn 18 _
def yD(Q:fo)(fE:LP)(gL:LP)(r s x4 i t u v j k l m n o p:V)(h:Hp):Prop:=dF 1 i h λa=>dY 0 i 1 j h λb=>oP (eh .sub 3 b (V.I 16)) λc=>oP (eh .add 3 c nO) λd=>oP (Sk true a [d]) λe=>oP (fV 1 i) λf=>eJ (gw 1 f e h) λw q=>(h.next<=q.next/\oP (eh .add 3 p nO) λg=>gL [r,s,x4,i,t,u,v,k,l,m,n,o,g] q)
theorem Hv{Q fE gL}:RV 14 (yD Q fE gL) (nQ Q fE gL):=JV.rn 14 _
theorem Mn{s:V}(H:hV (mO 34 s) h λa A=>hV (zC 37 [nS,nZ]) A λe t=>oP (gi 5 a t) λf=>cP CS yY [f] t λg i=>bN g (oP (fq [nS,nZ] [(0,1),(1,1)] []) λj=>eJ (gw 2 e j i) λD u=>oP (gi 2 e u) λr2=>Q (V.tuple [r2,nO]) u) (oP (gi 5 a i) λk=>cP CS Ae [k] i λl v=>dG 2 a v λb=>hV (jA 3 1 8 nZ b b) v λm B=>oP (fq [nS,nZ] [(0,1),(1,1)] [(0,m)]) λn=>hV (zC 37 [nS,nZ]) B λw C=>eJ (gw 2 w n C) λx y=>dG 2 a y λc=>hV (jA 4 1 1 bF c c) y λo z=>oP (gi 5 a z) λp=>cP CS sJ [p] z λd q=>oP (fM d) λr=>z0 Q [a,e,l,w,o,d,r,nZ] q)):cP CS yc [s] h Q:=cP.ve t25 Tryz.func25 H
end
