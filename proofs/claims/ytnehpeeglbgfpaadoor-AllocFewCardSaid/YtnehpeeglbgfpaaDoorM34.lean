/- Parts. -/
import Derived.Test.YtnehpeeglbgfpaaDoorM14
set_option maxHeartbeats 4000000
namespace Go.Proofs.YtnehpeeglbgfpaaDoor.Hx
set_option maxRecDepth 100000
noncomputable section
def t43:List (Nat×List Nat):=[]
def rP(C:fe)(Q:fu)(a d:V)(h:Hp):Prop:=
 gg C (iY "Push" a [d] h) h λj c=>
 gg C (iY "Len" a [] c) c λe f=>
 oP (ej .sub 3 e nO) λb=>
 cP C lI [a,b] f λg i=>
 Q (V.tuple []) i
theorem zs{C}(s:C.start=fQ){a b h Q}(k:C.K jy [a,b] h=none)(H:rP C Q a b h):cP C jy [a,b] h Q:=cP.vd t43 s (by unfold P0;exact Tryd.func43) k H
def t44:List (Nat×List Nat):=[]
def tF(C:fe)(Q:fu)(a:V)(h:Hp):Prop:=
 gg C (iY "Len" a [] h) h λf c=>
 oP (ej .sub 3 f nO) λd=>
 gg C (iY "Swap" a [nZ,d] c) c λk g=>
 cP C kE [a,nZ,d] g λi e=>
 gg C (iY "Pop" a [] e) e λb j=>
 Q b j
theorem zJ{C}(s:C.start=fQ){a h Q}(k:C.K kY [a] h=none)(H:tF C Q a h):cP C kY [a] h Q:=cP.vd t44 s (by unfold P0;exact Tryd.func44) k H
def t59:List (Nat×List Nat):=[(5,[0,1])]
def qJ(C:fe)(Q:fu):LP:=JV C Tryd.f59 t59 2 [0,1] [] Q
def rn(C:fe)(Q:fu)(d:LP)(e b:V)(h:Hp):Prop:=
 oP (ej .sub 3 b nO) λm=>
 oP (ej .quo 3 m (V.I 2)) λc=>
 oP (ej .eql 3 c b) λa=>
 oP (gB false a) λn=>
 oP (gV n (some e)) λf=>
 oP (gB false a) λo=>
 oP (gV o (some b)) λg=>
 oP (gB false a) λp=>
 oP (gV p (some c)) λi=>
 oP (gB false a) λq=>
 oP (gC q (oB (iY "Less" f [g,i] h) xj)) λr=>yv C r h λj k=>
 oP (qe a (xF .not j)) λl=>
 bP l (
 Q (V.tuple []) k) (
 gg C (iY "Swap" e [c,b] k) k λs t=>
 d [e,c] t)
theorem ym{C Q}(I)(s:S2 I (rn C Q)){k l h}(i:I k l h)(e:l.length=2:=by rfl):qJ C Q l h:=JV.l2 I _ s i e
def uk(C:fe)(Q:fu)(a b:V)(h:Hp):Prop:=qJ C Q [a,b] h
theorem Bv{C}(s:C.start=fQ){a b h Q}(k:C.K lI [a,b] h=none)(H:uk C Q a b h):cP C lI [a,b] h Q:=cP.vd t59 s (by unfold P0;exact Tryd.func59) k H
def t60:List (Nat×List Nat):=[(39,[0,1,2,7]),(30,[1,7]),(3974,[0,1,2,7,9])]
def pD(C:fe)(Q:fu):LP:=JV C Tryd.f60 t60 19 [0,1,2,7] [] Q
def jF(C:fe)(Q:fu):LP:=JV C Tryd.f60 t60 15 [1,7] [] Q
def jG(C:fe)(Q:fu)(a:LP):LP:=JV C Tryd.f60 t60 1987 [0,1,2,7,9] [kf [0,1,2,7] a] Q
def pN(C:fe)(Q:fu)(d:LP)(j k g i:V)(h:Hp):Prop:=
 oP (ej .mul 3 (V.I 2) i) λl=>
 oP (ej .add 3 l nO) λa=>
 oP (ej .geq 3 a g) λm=>
 oP (qe m (oB (some a) λn=>ej .lss 3 n nZ)) λo=>
 bP o (
 jF C Q [k,i] h) (
 oP (ej .add 3 a nO) λc=>
 oP (ej .lss 3 c g) λb=>
 oP (gB true b) λe=>
 oP (gV e (some j)) λp=>
 oP (gB true b) λf=>
 oP (gV f (some c)) λq=>
 oP (gB true b) λv=>
 oP (gV v (some a)) λr=>
 oP (gB true b) λw=>
 oP (gC w (oB (iY "Less" p [q,r] h) xj)) λx=>yv C x h λs u=>
 oP (rJ b s bF) λt=>
 bP t (
 jG C Q d [j,k,g,i,c] u) (
 jG C Q d [j,k,g,i,a] u))
theorem wW{C Q}(I)(s:S4 I (pN C Q)){k l h}(i:I k l h)(e:l.length=4:=by rfl):pD C Q l h:=JV.l4 I _ s i e
def pb(C:fe)(Q:fu)(b c:V)(h:Hp):Prop:=oP (ej .gtr 3 c b) λa=>Q a h
theorem wV{C Q}:R2 (pb C Q) (jF C Q):=JV.r2 _
def pE(C:fe)(Q:fu)(a:LP)(b g i c d:V)(h:Hp):Prop:=
 gg C (iY "Less" b [d,c] h) h λe f=>
 bN e (
 jF C Q [g,c] f) (
 gg C (iY "Swap" b [c,d] f) f λj k=>
 a [b,g,i,d] k)
theorem xd{C Q a}:R5 (pE C Q a) (jG C Q a):=JV.r5 _
def rM(C:fe)(Q:fu)(b a c:V)(h:Hp):Prop:=pD C Q [b,a,c,a] h
theorem zu{C}(s:C.start=fQ){a b c h Q}(k:C.K kE [a,b,c] h=none)(H:rM C Q a b c h):cP C kE [a,b,c] h Q:=cP.vd t60 s (by unfold P0;exact Tryd.func60) k H
def t96:List (Nat×List Nat):=[]
def xI(C:fe)(Q:fu)(a:V)(h:Hp):Prop:=oP (fJ a) λb=>Q b h
theorem Eg{C}(s:C.start=fQ){a h Q}(k:C.K sD [a] h=none)(H:xI C Q a h):cP C sD [a] h Q:=cP.vd t96 s (by unfold P0;exact Tryd.func96) k H
def t97:List (Nat×List Nat):=[]
def wF(C:fe)(Q:fu)(d e f:V)(h:Hp):Prop:=dX 1 d e h λa=>dX 1 d f h λb=>oP (ej .lss 3 a b) λc=>Q c h
theorem De{C}(s:C.start=fQ){a b c h Q}(k:C.K mE [a,b,c] h=none)(H:wF C Q a b c h):cP C mE [a,b,c] h Q:=cP.vd t97 s (by unfold P0;exact Tryd.func97) k H
def t98:List (Nat×List Nat):=[]
def wP(C:fe)(Q:fu)(a g i:V)(h:Hp):Prop:=dX 1 a i h λb=>dX 1 a g h λc=>oP (gM 1 a g) λd=>fj (gU 1 d b h) λl e=>(h.next<=e.next/\oP (gM 1 a i) λf=>fj (gU 1 f c e) λj k=>(e.next<=k.next/\Q (V.tuple []) k))
theorem Dc{C}(s:C.start=fQ){a b c h Q}(k:C.K qZ [a,b,c] h=none)(H:wP C Q a b c h):cP C qZ [a,b,c] h Q:=cP.vd t98 s (by unfold P0;exact Tryd.func98) k H
def t99:List (Nat×List Nat):=[]
def xZ(C:fe)(Q:fu)(a:V)(h:Hp):Prop:=oP (hJ a) λk=>oP (er k h) λl=>oP (fJ l) λm=>oP (ej .sub 3 m nO) λj=>oP (hJ a) λb=>oP (er b h) λc=>dX 1 c j h λd=>oP (hJ a) λe=>oP (er e h) λf=>oP (iF 1 f none (some j) h) λg=>oP (hJ a) λi=>fj (gU 1 i g h) λo n=>Q (V.iface 3 d) n
theorem El{C}(s:C.start=fQ){a h Q}(k:C.K sk [a] h=none)(H:xZ C Q a h):cP C sk [a] h Q:=cP.vd t99 s (by unfold P0;exact Tryd.func99) k H
section
variable (C:fe)(Q:X->fK->Hp->Prop)(ρ:fK)(h:Hp)
def VM:=G4 Tryd.f100
theorem Xk:qb C 13 VM Q ρ h=(oP (some (ρ 0)) λb=>
 oP (some (ρ 0)) λe=>
 oP (hJ e) λf=>
 oP (er f h) λj=>
 oP (some (ρ 1)) λg=>
 oP (HS 3 (V.I 0) g) λk=>
 uY (jm 3 1 1 (V.I 0) [(0,k)]) h λl c i=>
 ((i.get (h.next)=some l/\O.beq l l=true)/\
 ((HS 3 (V.I 0) g=some k)/\
 ((some (ρ 1)=some g)/\
 ((er f i=some j)/\
 ((hJ e=some f)/\
 ((some (ρ 0)=some e)/\
 ((some (ρ 0)=some b)/\
 fj (fh 3 1 8 j c i) λd m=>
 (i.next<=m.next/\
 oP (hJ b) λa=>
 ((hJ b=some a)/\
 ((some (ρ 0)=some b)/\
 fj (gU 1 a d m) λo n=>
 (m.next<=n.next/\
 Q .normal (fS (fS (fS (fS (fS (fS (fS (fS (fS ρ 4 b) 5 e) 6 f) 7 j) 8 g) 9 k) 10 c) 11 d) 12 a) n)))))))))))):=by kernel_rfl
theorem Xf{C:fe}(c:C.start=fQ)(a b:V){h:Hp}{Q:fu}(d:C.K kQ [a,b] h=none)(H:qb C 13 VM (ET [] Q) (GL [a,b]) h):cP C kQ [a,b] h Q:=
 cP.SX c (show P0.funcs[100]? =some Tryd.f100 by unfold P0;exact Tryd.func100) (by kernel_rfl) (by kernel_rfl) (by kernel_rfl) d (EY rfl) (Wp.code _ H)
noncomputable def rG(C:fe) (Q:fu) (g l:V) (h:Hp):Prop:=oP (hJ g) λi=>oP (er i h) λj=>oP (HS 3 (V.I 0) l) λm=>uY (jm 3 1 1 (V.I 0) [(0,m)]) h λb c a=>((a.get (h.next)=some b/\O.beq b b=true)/\((er i a=some j)/\fj (fh 3 1 8 j c a) λd e=>(a.next<=e.next/\oP (hJ g) λf=>fj (gU 1 f d e) λn k=>(e.next<=k.next/\Q (V.tuple []) k))))
theorem CM{C:fe}(f:C.start=fQ){b c:V}{h:Hp}{Q:fu}(g:C.K kQ [b,c] h=none)(H:rG C Q b c h):cP C kQ [b,c] h Q:=by
 unfold rG at H;exact Xf f _ _ g ((Xk _ _ _ _).mpr (Fc (Fc (oM H λm d H=>oM H λn i H=>Fc (oM H λo e H=>Xg H λp j q H=>So H λH=>⟨e,⟨rfl,So H λH=>⟨d,⟨rfl,⟨rfl,Tk H λk r H=>So H λH=>oM H λl a H=>⟨a,⟨rfl,Tk H λs t H=>So H λH=>H⟩⟩⟩⟩⟩⟩⟩)))))
end
def t22:List (Nat×List Nat):=[(87,[0,3,4]),(918,[0,3,4]),(175,[0,3,5]),(1838,[0,3,5])]
def xP(C:fe)(Q:fu):LP:=JV C Tryd.f22 t22 43 [0,3,4] [] Q
def qv(C:fe)(Q:fu)(a:LP):LP:=JV C Tryd.f22 t22 459 [0,3,4] [kf [0,3,4] a] Q
def sB(C:fe)(Q:fu):LP:=JV C Tryd.f22 t22 87 [0,3,5] [] Q
def ry(C:fe)(Q:fu)(a:LP):LP:=JV C Tryd.f22 t22 919 [0,3,5] [kf [0,3,5] a] Q
def yg(C:fe)(Q:fu)(a:LP)(c d b:V)(h:Hp):Prop:=bO .lss 3 b (V.I 12) (oP (He 3 none bF false c b h) λe=>bN e (cP C jy [(V.iface 90 d),(V.iface 3 b)] h λf g=>qv C Q a [c,d,b] g) (qv C Q a [c,d,b] h)) (sB C Q [c,d,(V.I 16)] h)
theorem DQ{C Q}(I)(s:S3 I (yg C Q)){k l h}(i:I k l h)(e:l.length=3:=by rfl):xP C Q l h:=JV.l3 I _ s i e
def qI(C:fe)(Q:fu)(a:LP)(c d e:V)(h:Hp):Prop:=oP (ej .add 3 e nO) λb=>a [c,d,b] h
theorem wG{C Q a}:R3 (qI C Q a) (qv C Q a):=JV.r3 _
def xX(C:fe)(Q:fu)(a:LP)(d b c:V)(h:Hp):Prop:=oP (er b h) λe=>oP (fJ e) λf=>bO .eql 3 f nZ (oP (He 3 none bF false d c h) λg=>bN g (cP C jy [(V.iface 90 b),(V.iface 3 c)] h λk l=>ry C Q a [d,b,c] l) (ry C Q a [d,b,c] h)) (cP C kY [(V.iface 90 b)] h λi m=>oP (HS 3 nZ i) λj=>Q j m)
theorem DZ{C Q}(I)(s:S3 I (xX C Q)){k l h}(i:I k l h)(e:l.length=3:=by rfl):sB C Q l h:=JV.l3 I _ s i e
def qz(C:fe)(Q:fu)(a:LP)(c d e:V)(h:Hp):Prop:=oP (ej .add 3 e nO) λb=>a [c,d,b] h
theorem wC{C Q a}:R3 (qz C Q a) (ry C Q a):=JV.r3 _
def BG(C:fe)(Q:fu)(b:V)(h:Hp):Prop:=iW (jm 3 1 0 nZ []) h λc d=>iW (zC 88 [nS]) d λa e=>fj (gU 1 a c e) λg f=>xP C Q [b,a,nZ] f
theorem Hy{C}(s:C.start=fQ){a h Q}(k:C.K sH [a] h=none)(H:BG C Q a h):cP C sH [a] h Q:=cP.vd t22 s (by unfold P0;exact Tryd.func22) k H
def t6:List (Nat×List Nat):=[(703,[1,2,4,5,6,33,34,35]),(380095,[1,2,4,5,6,8,9,33,34,35,42,43,44]),(2878983359,[1,2,4,5,6,8,9,11,12,13,33,34,35,42,43,44,63]),(261737662,[1,2,4,5,6,8,9,11,12,13,33,34,35,42,43,44]),(1469697215,[1,2,4,5,6,8,9,12,13,33,34,35,42,43,44,70,71,72]),(32608210110,[1,2,4,5,6,8,9,12,13,33,34,35,42,43,44,70,71,72]),(2140785854,[1,2,4,5,6,8,9,12,33,34,35,42,43,44])]
def uy(C:fe)(Q:fu):LP:=JV C Tryd.f6 t6 351 [1,2,4,5,6,33,34,35] [] Q
def ur(C:fe)(Q:fu)(a:LP):LP:=JV C Tryd.f6 t6 190047 [1,2,4,5,6,8,9,33,34,35,42,43,44] [kf [1,2,4,5,6,33,34,35] a] Q
def uI(C:fe)(Q:fu)(a:LP)(b:LP):LP:=JV C Tryd.f6 t6 1439491679 [1,2,4,5,6,8,9,11,12,13,33,34,35,42,43,44,63] [kf [1,2,4,5,6,33,34,35] a,kf [1,2,4,5,6,8,9,33,34,35,42,43,44] b] Q
def kW(C:fe)(Q:fu)(a:LP)(b:LP):LP:=JV C Tryd.f6 t6 130868831 [1,2,4,5,6,8,9,11,12,13,33,34,35,42,43,44] [kf [1,2,4,5,6,33,34,35] a,kf [1,2,4,5,6,8,9,33,34,35,42,43,44] b] Q
def uq(C:fe)(Q:fu)(a:LP)(b:LP):LP:=JV C Tryd.f6 t6 734848607 [1,2,4,5,6,8,9,12,13,33,34,35,42,43,44,70,71,72] [kf [1,2,4,5,6,33,34,35] a,kf [1,2,4,5,6,8,9,33,34,35,42,43,44] b] Q
def kU(C:fe)(Q:fu)(a:LP)(b:LP)(c:LP):LP:=JV C Tryd.f6 t6 16304105055 [1,2,4,5,6,8,9,12,13,33,34,35,42,43,44,70,71,72] [kf [1,2,4,5,6,33,34,35] a,kf [1,2,4,5,6,8,9,33,34,35,42,43,44] b,kf [1,2,4,5,6,8,9,12,13,33,34,35,42,43,44,70,71,72] c] Q
def kS(C:fe)(Q:fu)(a:LP)(b:LP):LP:=JV C Tryd.f6 t6 1070392927 [1,2,4,5,6,8,9,12,33,34,35,42,43,44] [kf [1,2,4,5,6,33,34,35] a,kf [1,2,4,5,6,8,9,33,34,35,42,43,44] b] Q
def uo(C:fe)(Q:fu)(m:LP)(u b q n v c d a:V)(h:Hp):Prop:=bO .lss 3 a d (dX 1 c a h λe=>iW (some (.map [] 0,λl=> .map l)) h λo w=>cP C kT [q,e] w λf x=>oP (fJ f) λp=>ur C Q m [u,b,q,n,v,e,o,c,d,a,f,p,nZ] x) (dF 1 n h λg=>bO .gtr 3 g (V.I 399) (oP (fH [nS,nZ] [(0,1),(1,1)] []) λi=>fj (gU 2 b i h) λy r=>oP (hH 2 b r) λr2=>Q (V.tuple [r2,(V.I 2)]) r) (oP (hH 2 n h) λj=>fj (gU 2 b j h) λs t=>oP (hH 2 b t) λk=>Q (V.tuple [k,nZ]) t))
theorem Bg{C Q}(I)(s:S8 I (uo C Q)){k l h}(i:I k l h)(e:l.length=8:=by rfl):uy C Q l h:=JV.l8 I _ s i e
def uj(C:fe)(Q:fu)(b:LP)(j:LP)(o q p r s t u c d e f g a:V)(h:Hp):Prop:=bO .lss 3 a g (dX 1 f a h λk=>dJ 3 o 6 t 0 h λv=>dX 1 v a h λi=>iW (some (.map [] 0,λl=> .map l)) h λm z=>cP C iu [p,i] z λw y=>bP w (fj (zG u y) λx A=>uI C Q b j [o,q,p,r,s,t,u,k,i,m,c,d,e,f,g,a,x] A) (kW C Q b j [o,q,p,r,s,t,u,k,i,m,c,d,e,f,g,a] y)) (oP (ej .add 3 e nO) λn=>b [o,q,p,r,s,c,d,n] h)
theorem Bf{C Q a}(I)(s:XF I (uj C Q a)){k l h}(i:I k l h)(e:l.length=13:=by rfl):ur C Q a l h:=JV.Uz I _ s i e
def mQ(C:fe)(Q:fu)(b:LP)(c:LP)(n o p q r s t a d e f g i j k l:V)(h:Hp):Prop:=oP (fJ a) λm=>uq C Q b c [n,o,p,q,r,s,t,d,e,f,g,i,j,k,l,a,m,nZ] h
theorem Al{C:fe}{Q:fu}{a:LP}{b:LP}{m n o p q r s c d e f g i j k l:V}{h:Hp}(H:mQ C Q a b m n o p q r s c d e f g i j k l h):kW C Q a b [m,n,o,p,q,r,s,c,d,e,f,g,i,j,k,l] h:=JV.mk 16 (mQ C Q a b) (λ_ _=>by kernel_rfl) rfl H
def ux(C:fe)(Q:fu)(c:LP)(d:LP)(q:LP)(A B r m p D s a e f g i j k l n o b:V)(h:Hp):Prop:=bO .lss 3 b o (dX 1 n b h λF=>oP (kH F (oB (some b) λG=>oB (some a) λH=>ej .neq 3 G H)) λI=>oP (kH I (oB (some p) λJ=>oB (some b) λK=>oB (gM 1 J K) λL=>er L h)) λM=>bP M (dY 0 m 1 b h λN=>fj (zt 3 none e N bT h) λY W=>kU C Q c d q [A,B,r,m,p,D,s,a,e,f,g,i,j,k,l,n,o,b] W) (kU C Q c d q [A,B,r,m,p,D,s,a,e,f,g,i,j,k,l,n,o,b] h)) (oP (fP 0 m) λt=>oP (er t h) λu=>cP C sH [e] h λv E=>(h.next<=E.next/\oP (gM 1 u a) λw=>((er t E=some u)/\fj (gU 1 w v E) λR O=>(E.next<=O.next/\oP (gM 1 p a) λx=>fj (gU 1 x bT O) λS T=>(O.next<=T.next/\cP C iu [r,a] T λy P=>bP y (dY 0 m 1 a P λz=>fj (zt 3 none s z bT P) λU X=>kS C Q c d [A,B,r,m,p,D,s,a,f,g,i,j,k,l] X) (kS C Q c d [A,B,r,m,p,D,s,a,f,g,i,j,k,l] P))))))
theorem Ba{C Q a b}(I)(s:XH I (ux C Q a b)){k l h}(i:I k l h)(e:l.length=18:=by rfl):uq C Q a b l h:=JV.XN I _ s i e
def tM(C:fe)(Q:fu)(o:LP)(p:LP)(a:LP)(q r s t u v w b c d e f g i j k l m:V)(h:Hp):Prop:=oP (ej .add 3 m nO) λn=>a [q,r,s,t,u,v,w,b,c,d,e,f,g,i,j,k,l,n] h
theorem Ah{C Q a b c}:Wn (tM C Q a b c) (kU C Q a b c):=JV.Xp _
def tH(C:fe)(Q:fu)(s:LP)(j:LP)(t u v i w x y k l m n o p q:V)(h:Hp):Prop:=dF 1 i h λa=>dY 0 i 1 k h λb=>oP (ej .sub 3 b (V.I 16)) λc=>oP (ej .add 3 c nO) λd=>oP (BI true a [d]) λe=>oP (fP 1 i) λf=>fj (gU 1 f e h) λz r=>(h.next<=r.next/\oP (ej .add 3 q nO) λg=>j [t,u,v,i,w,x,y,l,m,n,o,p,g] r)
theorem Ao{C Q a b}:WE (tH C Q a b) (kS C Q a b):=JV.XW _
def yh(C:fe)(Q:fu)(z:V)(h:Hp):Prop:=iW (tQ 29 z) h λa A=>iW (zC 32 [nS,nZ]) A λe s=>oP (hH 5 a s) λf=>cP C wE [f] s λg i=>bN g (oP (fH [nS,nZ] [(0,1),(1,1)] []) λj=>fj (gU 2 e j i) λE t=>oP (hH 2 e t) λr2=>Q (V.tuple [r2,nO]) t) (oP (hH 5 a i) λk=>cP C uS [k] i λl u=>dG 2 a u λb=>iW (gS 3 1 8 nZ b b) u λm B=>oP (fH [nS,nZ] [(0,1),(1,1)] [(0,m)]) λn=>iW (zC 32 [nS,nZ]) B λv D=>fj (gU 2 v n D) λw x=>dG 2 a x λc=>iW (gS 4 1 1 bF c c) x λo y=>oP (hH 5 a y) λp=>cP C lV [p] y λd q=>oP (fJ d) λr=>uy C Q [a,e,l,v,o,d,r,nZ] q)
theorem Ee{C}(s:C.start=fQ){a h Q}(k:C.K nJ [a] h=none)(H:yh C Q a h):cP C nJ [a] h Q:=cP.vd t6 s (by unfold P0;exact Tryd.func6) k H
end
