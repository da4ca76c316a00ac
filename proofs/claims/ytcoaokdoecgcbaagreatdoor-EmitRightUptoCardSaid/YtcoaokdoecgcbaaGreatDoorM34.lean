/- Parts. -/
import Derived.Test.YtcoaokdoecgcbaaGreatDoorM14
set_option maxHeartbeats 4000000
namespace Go.Proofs.YtcoaokdoecgcbaaGreatDoor.Hx
set_option maxRecDepth 100000
noncomputable section
def t83:List (Nat×List Nat):=[]
def vX(C:fj)(Q:fo)(a d:V)(h:Hp):Prop:=
 gO C (jG "Push" a [d] h) h λj c=>
 gO C (jG "Len" a [] c) c λe f=>
 oP (ef .sub 3 e nO) λb=>
 cP C om [a,b] f λg i=>
 Q (V.tuple []) i
theorem EN{C}(s:C.start=fy){a b h Q}(k:C.K iT [a,b] h=none)(H:vX C Q a b h):cP C iT [a,b] h Q:=cP.vd t83 s (by unfold P0;exact Tryz.func83) k H
def t84:List (Nat×List Nat):=[]
def wO(C:fj)(Q:fo)(a:V)(h:Hp):Prop:=
 gO C (jG "Len" a [] h) h λf c=>
 oP (ef .sub 3 f nO) λd=>
 gO C (jG "Swap" a [nZ,d] c) c λk g=>
 cP C mE [a,nZ,d] g λi e=>
 gO C (jG "Pop" a [] e) e λb j=>
 Q b j
theorem GH{C}(s:C.start=fy){a h Q}(k:C.K lg [a] h=none)(H:wO C Q a h):cP C lg [a] h Q:=cP.vd t84 s (by unfold P0;exact Tryz.func84) k H
def t107:List (Nat×List Nat):=[(5,[0,1])]
def vy(C:fj)(Q:fo):LP:=JV C Tryz.f107 t107 2 [0,1] [] Q
def uF(C:fj)(Q:fo)(d:LP)(e b:V)(h:Hp):Prop:=
 oP (ef .sub 3 b nO) λm=>
 oP (ef .quo 3 m (V.I 2)) λc=>
 oP (ef .eql 3 c b) λa=>
 oP (gW false a) λn=>
 oP (gV n (some e)) λf=>
 oP (gW false a) λo=>
 oP (gV o (some b)) λg=>
 oP (gW false a) λp=>
 oP (gV p (some c)) λi=>
 oP (gW false a) λq=>
 oP (gC q (oB (jG "Less" f [g,i] h) zS)) λr=>AS C r h λj k=>
 oP (mm a (qH .not j)) λl=>
 bP l (
 Q (V.tuple []) k) (
 gO C (jG "Swap" e [c,b] k) k λs t=>
 d [e,c] t)
theorem CX{C Q}(I)(s:S2 I (uF C Q)){k l h}(i:I k l h)(e:l.length=2:=by rfl):vy C Q l h:=JV.l2 I _ s i e
def yC(C:fj)(Q:fo)(a b:V)(h:Hp):Prop:=vy C Q [a,b] h
theorem Hm{C}(s:C.start=fy){a b h Q}(k:C.K om [a,b] h=none)(H:yC C Q a b h):cP C om [a,b] h Q:=cP.vd t107 s (by unfold P0;exact Tryz.func107) k H
def t108:List (Nat×List Nat):=[(39,[0,1,2,7]),(30,[1,7]),(3974,[0,1,2,7,9])]
def rR(C:fj)(Q:fo):LP:=JV C Tryz.f108 t108 19 [0,1,2,7] [] Q
def kM(C:fj)(Q:fo):LP:=JV C Tryz.f108 t108 15 [1,7] [] Q
def iR(C:fj)(Q:fo)(a:LP):LP:=JV C Tryz.f108 t108 1987 [0,1,2,7,9] [kf [0,1,2,7] a] Q
def rV(C:fj)(Q:fo)(d:LP)(j k g i:V)(h:Hp):Prop:=
 oP (ef .mul 3 (V.I 2) i) λl=>
 oP (ef .add 3 l nO) λa=>
 oP (ef .geq 3 a g) λm=>
 oP (mm m (oB (some a) λn=>ef .lss 3 n nZ)) λo=>
 bP o (
 kM C Q [k,i] h) (
 oP (ef .add 3 a nO) λc=>
 oP (ef .lss 3 c g) λb=>
 oP (gW true b) λe=>
 oP (gV e (some j)) λp=>
 oP (gW true b) λf=>
 oP (gV f (some c)) λq=>
 oP (gW true b) λv=>
 oP (gV v (some a)) λr=>
 oP (gW true b) λw=>
 oP (gC w (oB (jG "Less" p [q,r] h) zS)) λx=>AS C x h λs u=>
 oP (tA b s bF) λt=>
 bP t (
 iR C Q d [j,k,g,i,c] u) (
 iR C Q d [j,k,g,i,a] u))
theorem Bu{C Q}(I)(s:S4 I (rV C Q)){k l h}(i:I k l h)(e:l.length=4:=by rfl):rR C Q l h:=JV.l4 I _ s i e
def sk(C:fj)(Q:fo)(b c:V)(h:Hp):Prop:=oP (ef .gtr 3 c b) λa=>Q a h
theorem Bp{C Q}:R2 (sk C Q) (kM C Q):=JV.r2 _
def se(C:fj)(Q:fo)(a:LP)(b g i c d:V)(h:Hp):Prop:=
 gO C (jG "Less" b [d,c] h) h λe f=>
 bN e (
 kM C Q [g,c] f) (
 gO C (jG "Swap" b [c,d] f) f λj k=>
 a [b,g,i,d] k)
theorem Br{C Q a}:R5 (se C Q a) (iR C Q a):=JV.r5 _
def wb(C:fj)(Q:fo)(b a c:V)(h:Hp):Prop:=rR C Q [b,a,c,a] h
theorem EL{C}(s:C.start=fy){a b c h Q}(k:C.K mE [a,b,c] h=none)(H:wb C Q a b c h):cP C mE [a,b,c] h Q:=cP.vd t108 s (by unfold P0;exact Tryz.func108) k H
def t149:List (Nat×List Nat):=[]
def Lh(C:fj)(Q:fo)(a:V)(h:Hp):Prop:=oP (fD a) λb=>Q b h
theorem K0{C}(s:C.start=fy){a h Q}(k:C.K wz [a] h=none)(H:Lh C Q a h):cP C wz [a] h Q:=cP.vd t149 s (by unfold P0;exact Tryz.func149) k H
def t150:List (Nat×List Nat):=[]
def JT(C:fj)(Q:fo)(d e f:V)(h:Hp):Prop:=dX 1 d e h λa=>dX 1 d f h λb=>oP (ef .lss 3 a b) λc=>Q c h
theorem JN{C}(s:C.start=fy){a b c h Q}(k:C.K ve [a,b,c] h=none)(H:JT C Q a b c h):cP C ve [a,b,c] h Q:=cP.vd t150 s (by unfold P0;exact Tryz.func150) k H
def t151:List (Nat×List Nat):=[]
def Ka(C:fj)(Q:fo)(a g i:V)(h:Hp):Prop:=dX 1 a i h λb=>dX 1 a g h λc=>oP (gP 1 a g) λd=>fg (gL 1 d b h) λl e=>(h.next<=e.next/\oP (gP 1 a i) λf=>fg (gL 1 f c e) λj k=>(e.next<=k.next/\Q (V.tuple []) k))
theorem Ki{C}(s:C.start=fy){a b c h Q}(k:C.K vm [a,b,c] h=none)(H:Ka C Q a b c h):cP C vm [a,b,c] h Q:=cP.vd t151 s (by unfold P0;exact Tryz.func151) k H
def t152:List (Nat×List Nat):=[]
def Lw(C:fj)(Q:fo)(a:V)(h:Hp):Prop:=oP (gq a) λk=>oP (eC k h) λl=>oP (fD l) λm=>oP (ef .sub 3 m nO) λj=>oP (gq a) λb=>oP (eC b h) λc=>dX 1 c j h λd=>oP (gq a) λe=>oP (eC e h) λf=>oP (iL 1 f none (some j) h) λg=>oP (gq a) λi=>fg (gL 1 i g h) λo n=>Q (V.iface 3 d) n
theorem Ls{C}(s:C.start=fy){a h Q}(k:C.K wD [a] h=none)(H:Lw C Q a h):cP C wD [a] h Q:=cP.vd t152 s (by unfold P0;exact Tryz.func152) k H
section
variable (C:fj)(Q:X->gg->Hp->Prop)(ρ:gg)(h:Hp)
def zeU:=ES Tryz.f153
theorem zgD:gJ C 13 zeU Q ρ h=(oP (some (ρ 0)) λb=>
 oP (some (ρ 0)) λe=>
 oP (gq e) λf=>
 oP (eC f h) λj=>
 oP (some (ρ 1)) λg=>
 oP (Ek 3 (V.I 0) g) λk=>
 vj (iK 3 1 1 (V.I 0) [(0,k)]) h λl c i=>
 ((i.get (h.next)=some l/\O.beq l l=true)/\
 ((Ek 3 (V.I 0) g=some k)/\
 ((some (ρ 1)=some g)/\
 ((eC f i=some j)/\
 ((gq e=some f)/\
 ((some (ρ 0)=some e)/\
 ((some (ρ 0)=some b)/\
 fg (eQ 3 1 8 j c i) λd m=>
 (i.next<=m.next/\
 oP (gq b) λa=>
 ((gq b=some a)/\
 ((some (ρ 0)=some b)/\
 fg (gL 1 a d m) λo n=>
 (m.next<=n.next/\
 Q .normal (fc (fc (fc (fc (fc (fc (fc (fc (fc ρ 4 b) 5 e) 6 f) 7 j) 8 g) 9 k) 10 c) 11 d) 12 a) n)))))))))))):=by kernel_rfl
theorem zgy{C:fj}(hs:C.start=fy)(a b:V){h:Hp}{Q:fo}(c:C.K nf [a,b] h=none)(H:gJ C 13 zeU (zK [] Q) (Il [a,b]) h):cP C nf [a,b] h Q:=
 cP.Sh hs (show P0.funcs[153]? =some Tryz.f153 by unfold P0;exact Tryz.func153) (by kernel_rfl) (by kernel_rfl) (by kernel_rfl) c (Iv rfl) (Wp.code _ H)
noncomputable def AV(C:fj) (Q:fo) (g l:V) (h:Hp):Prop:=oP (gq g) λi=>oP (eC i h) λj=>oP (Ek 3 (V.I 0) l) λm=>vj (iK 3 1 1 (V.I 0) [(0,m)]) h λb c a=>((a.get (h.next)=some b/\O.beq b b=true)/\((eC i a=some j)/\fg (eQ 3 1 8 j c a) λd e=>(a.next<=e.next/\oP (gq g) λf=>fg (gL 1 f d e) λn k=>(e.next<=k.next/\Q (V.tuple []) k))))
theorem Jv{C:fj}(hs:C.start=fy){b c:V}{h:Hp}{Q:fo}(f:C.K nf [b,c] h=none)(H:AV C Q b c h):cP C nf [b,c] h Q:=by
 unfold AV at H;exact zgy hs _ _ f ((zgD _ _ _ _).mpr (km (km (oM H λl d H=>oM H λm g H=>km (oM H λn e H=>zbY H λo i p H=>Mn H λH=>⟨e,⟨rfl,Mn H λH=>⟨d,⟨rfl,⟨rfl,Nq H λj q H=>Mn H λH=>oM H λk a H=>⟨a,⟨rfl,Nq H λr s H=>Mn H λH=>H⟩⟩⟩⟩⟩⟩⟩)))))
end
def t55:List (Nat×List Nat):=[(87,[0,3,4]),(918,[0,3,4]),(175,[0,3,5]),(1838,[0,3,5])]
def Cm(C:fj)(Q:fo):LP:=JV C Tryz.f55 t55 43 [0,3,4] [] Q
def vn(C:fj)(Q:fo)(a:LP):LP:=JV C Tryz.f55 t55 459 [0,3,4] [kf [0,3,4] a] Q
def wC(C:fj)(Q:fo):LP:=JV C Tryz.f55 t55 87 [0,3,5] [] Q
def uw(C:fj)(Q:fo)(a:LP):LP:=JV C Tryz.f55 t55 919 [0,3,5] [kf [0,3,5] a] Q
def BV(C:fj)(Q:fo)(a:LP)(c d b:V)(h:Hp):Prop:=bO .lss 3 b (V.I 12) (oP (p5 3 none bF false c b h) λe=>bN e (cP C iT [(V.iface 164 d),(V.iface 3 b)] h λf g=>vn C Q a [c,d,b] g) (vn C Q a [c,d,b] h)) (wC C Q [c,d,(V.I 16)] h)
theorem LB{C Q}(I)(s:S3 I (BV C Q)){k l h}(i:I k l h)(e:l.length=3:=by rfl):Cm C Q l h:=JV.l3 I _ s i e
def uU(C:fj)(Q:fo)(a:LP)(c d e:V)(h:Hp):Prop:=oP (ef .add 3 e nO) λb=>a [c,d,b] h
theorem AT{C Q a}:R3 (uU C Q a) (vn C Q a):=JV.r3 _
def CG(C:fj)(Q:fo)(a:LP)(d b c:V)(h:Hp):Prop:=oP (eC b h) λe=>oP (fD e) λf=>bO .eql 3 f nZ (oP (p5 3 none bF false d c h) λg=>bN g (cP C iT [(V.iface 164 b),(V.iface 3 c)] h λk l=>uw C Q a [d,b,c] l) (uw C Q a [d,b,c] h)) (cP C lg [(V.iface 164 b)] h λi m=>oP (Ek 3 nZ i) λj=>Q j m)
theorem KO{C Q}(I)(s:S3 I (CG C Q)){k l h}(i:I k l h)(e:l.length=3:=by rfl):wC C Q l h:=JV.l3 I _ s i e
def uS(C:fj)(Q:fo)(a:LP)(c d e:V)(h:Hp):Prop:=oP (ef .add 3 e nO) λb=>a [c,d,b] h
theorem A3{C Q a}:R3 (uS C Q a) (uw C Q a):=JV.r3 _
def Ix(C:fj)(Q:fo)(b:V)(h:Hp):Prop:=hZ (iK 3 1 0 nZ []) h λc d=>hZ (zC 162 [nS]) d λa e=>fg (gL 1 a c e) λg f=>Cm C Q [b,a,nZ] f
theorem OW{C}(s:C.start=fy){a h Q}(k:C.K wJ [a] h=none)(H:Ix C Q a h):cP C wJ [a] h Q:=cP.vd t55 s (by unfold P0;exact Tryz.func55) k H
def t25:List (Nat×List Nat):=[(703,[1,2,4,5,6,33,34,35]),(380095,[1,2,4,5,6,8,9,33,34,35,42,43,44]),(2878983359,[1,2,4,5,6,8,9,11,12,13,33,34,35,42,43,44,63]),(261737662,[1,2,4,5,6,8,9,11,12,13,33,34,35,42,43,44]),(1469697215,[1,2,4,5,6,8,9,12,13,33,34,35,42,43,44,70,71,72]),(32608210110,[1,2,4,5,6,8,9,12,13,33,34,35,42,43,44,70,71,72]),(2140785854,[1,2,4,5,6,8,9,12,33,34,35,42,43,44])]
def yO(C:fj)(Q:fo):LP:=JV C Tryz.f25 t25 351 [1,2,4,5,6,33,34,35] [] Q
def yy(C:fj)(Q:fo)(a:LP):LP:=JV C Tryz.f25 t25 190047 [1,2,4,5,6,8,9,33,34,35,42,43,44] [kf [1,2,4,5,6,33,34,35] a] Q
def zh(C:fj)(Q:fo)(a:LP)(b:LP):LP:=JV C Tryz.f25 t25 1439491679 [1,2,4,5,6,8,9,11,12,13,33,34,35,42,43,44,63] [kf [1,2,4,5,6,33,34,35] a,kf [1,2,4,5,6,8,9,33,34,35,42,43,44] b] Q
def mN(C:fj)(Q:fo)(a:LP)(b:LP):LP:=JV C Tryz.f25 t25 130868831 [1,2,4,5,6,8,9,11,12,13,33,34,35,42,43,44] [kf [1,2,4,5,6,33,34,35] a,kf [1,2,4,5,6,8,9,33,34,35,42,43,44] b] Q
def yP(C:fj)(Q:fo)(a:LP)(b:LP):LP:=JV C Tryz.f25 t25 734848607 [1,2,4,5,6,8,9,12,13,33,34,35,42,43,44,70,71,72] [kf [1,2,4,5,6,33,34,35] a,kf [1,2,4,5,6,8,9,33,34,35,42,43,44] b] Q
def mR(C:fj)(Q:fo)(a:LP)(b:LP)(c:LP):LP:=JV C Tryz.f25 t25 16304105055 [1,2,4,5,6,8,9,12,13,33,34,35,42,43,44,70,71,72] [kf [1,2,4,5,6,33,34,35] a,kf [1,2,4,5,6,8,9,33,34,35,42,43,44] b,kf [1,2,4,5,6,8,9,12,13,33,34,35,42,43,44,70,71,72] c] Q
def nt(C:fj)(Q:fo)(a:LP)(b:LP):LP:=JV C Tryz.f25 t25 1070392927 [1,2,4,5,6,8,9,12,33,34,35,42,43,44] [kf [1,2,4,5,6,33,34,35] a,kf [1,2,4,5,6,8,9,33,34,35,42,43,44] b] Q
def yz(C:fj)(Q:fo)(m:LP)(u b q n v c d a:V)(h:Hp):Prop:=bO .lss 3 a d (dX 1 c a h λe=>hZ (some (.map [] 0,λl=> .map l)) h λo w=>cP C kU [q,e] w λf x=>oP (fD f) λp=>yy C Q m [u,b,q,n,v,e,o,c,d,a,f,p,nZ] x) (dF 1 n h λg=>bO .gtr 3 g (V.I 399) (oP (fm [nS,nZ] [(0,1),(1,1)] []) λi=>fg (gL 2 b i h) λy r=>oP (gy 2 b r) λr2=>Q (V.tuple [r2,(V.I 2)]) r) (oP (gy 2 n h) λj=>fg (gL 2 b j h) λs t=>oP (gy 2 b t) λk=>Q (V.tuple [k,nZ]) t))
theorem Hv{C Q}(I)(s:S8 I (yz C Q)){k l h}(i:I k l h)(e:l.length=8:=by rfl):yO C Q l h:=JV.l8 I _ s i e
def yN(C:fj)(Q:fo)(b:LP)(j:LP)(o q p r s t u c d e f g a:V)(h:Hp):Prop:=bO .lss 3 a g (dX 1 f a h λk=>dJ 3 o 6 t 0 h λv=>dX 1 v a h λi=>hZ (some (.map [] 0,λl=> .map l)) h λm z=>cP C iq [p,i] z λw y=>bP w (fg (Fl u y) λx A=>zh C Q b j [o,q,p,r,s,t,u,k,i,m,c,d,e,f,g,a,x] A) (mN C Q b j [o,q,p,r,s,t,u,k,i,m,c,d,e,f,g,a] y)) (oP (ef .add 3 e nO) λn=>b [o,q,p,r,s,c,d,n] h)
theorem HQ{C Q a}(I)(s:S13 I (yN C Q a)){k l h}(i:I k l h)(e:l.length=13:=by rfl):yy C Q a l h:=JV.l13 I _ s i e
def qu(C:fj)(Q:fo)(b:LP)(c:LP)(n o p q r s t a d e f g i j k l:V)(h:Hp):Prop:=oP (fD a) λm=>yP C Q b c [n,o,p,q,r,s,t,d,e,f,g,i,j,k,l,a,m,nZ] h
theorem FK{C:fj}{Q:fo}{a:LP}{b:LP}{m n o p q r s c d e f g i j k l:V}{h:Hp}(H:qu C Q a b m n o p q r s c d e f g i j k l h):mN C Q a b [m,n,o,p,q,r,s,c,d,e,f,g,i,j,k,l] h:=JV.mk 16 (qu C Q a b) (λ_ _=>by kernel_rfl) rfl H
def yM(C:fj)(Q:fo)(c:LP)(d:LP)(q:LP)(A B r m p D s a e f g i j k l n o b:V)(h:Hp):Prop:=bO .lss 3 b o (dX 1 n b h λF=>oP (iM F (oB (some b) λG=>oB (some a) λH=>ef .neq 3 G H)) λI=>oP (iM I (oB (some p) λJ=>oB (some b) λK=>oB (gP 1 J K) λL=>eC L h)) λM=>bP M (dY 0 m 1 b h λN=>fg (xh 3 none e N bT h) λY W=>mR C Q c d q [A,B,r,m,p,D,s,a,e,f,g,i,j,k,l,n,o,b] W) (mR C Q c d q [A,B,r,m,p,D,s,a,e,f,g,i,j,k,l,n,o,b] h)) (oP (fK 0 m) λt=>oP (eC t h) λu=>cP C wJ [e] h λv E=>(h.next<=E.next/\oP (gP 1 u a) λw=>((eC t E=some u)/\fg (gL 1 w v E) λR O=>(E.next<=O.next/\oP (gP 1 p a) λx=>fg (gL 1 x bT O) λS T=>(O.next<=T.next/\cP C iq [r,a] T λy P=>bP y (dY 0 m 1 a P λz=>fg (xh 3 none s z bT P) λU X=>nt C Q c d [A,B,r,m,p,D,s,a,f,g,i,j,k,l] X) (nt C Q c d [A,B,r,m,p,D,s,a,f,g,i,j,k,l] P))))))
theorem HI{C Q a b}(I)(s:S18 I (yM C Q a b)){k l h}(i:I k l h)(e:l.length=18:=by rfl):yP C Q a b l h:=JV.l18 I _ s i e
def xM(C:fj)(Q:fo)(o:LP)(p:LP)(a:LP)(q r s t u v w b c d e f g i j k l m:V)(h:Hp):Prop:=oP (ef .add 3 m nO) λn=>a [q,r,s,t,u,v,w,b,c,d,e,f,g,i,j,k,l,n] h
theorem Gv{C Q a b c}:R18 (xM C Q a b c) (mR C Q a b c):=JV.r18 _
def wQ(C:fj)(Q:fo)(s:LP)(j:LP)(t u v i w x y k l m n o p q:V)(h:Hp):Prop:=dF 1 i h λa=>dY 0 i 1 k h λb=>oP (ef .sub 3 b (V.I 16)) λc=>oP (ef .add 3 c nO) λd=>oP (Rz true a [d]) λe=>oP (fK 1 i) λf=>fg (gL 1 f e h) λz r=>(h.next<=r.next/\oP (ef .add 3 q nO) λg=>j [t,u,v,i,w,x,y,l,m,n,o,p,g] r)
theorem FV{C Q a b}:R14 (wQ C Q a b) (nt C Q a b):=JV.OD _
def Cs(C:fj)(Q:fo)(z:V)(h:Hp):Prop:=hZ (nj 34 z) h λa A=>hZ (zC 37 [nS,nZ]) A λe s=>oP (gy 5 a s) λf=>cP C tL [f] s λg i=>bN g (oP (fm [nS,nZ] [(0,1),(1,1)] []) λj=>fg (gL 2 e j i) λE t=>oP (gy 2 e t) λr2=>Q (V.tuple [r2,nO]) t) (oP (gy 5 a i) λk=>cP C uD [k] i λl u=>dG 2 a u λb=>hZ (jo 3 1 8 nZ b b) u λm B=>oP (fm [nS,nZ] [(0,1),(1,1)] [(0,m)]) λn=>hZ (zC 37 [nS,nZ]) B λv D=>fg (gL 2 v n D) λw x=>dG 2 a x λc=>hZ (jo 4 1 1 bF c c) x λo y=>oP (gy 5 a y) λp=>cP C pb [p] y λd q=>oP (fD d) λr=>yO C Q [a,e,l,v,o,d,r,nZ] q)
theorem KP{C}(s:C.start=fy){a h Q}(k:C.K qO [a] h=none)(H:Cs C Q a h):cP C qO [a] h Q:=cP.vd t25 s (by unfold P0;exact Tryz.func25) k H
end
