/- Parts. -/
import Derived.Test.YtpnddokajmjpbaaDoorM14
namespace Go.Proofs.YtpnddokajmjpbaaDoor.Hx
set_option maxRecDepth 100000
noncomputable section
def t82:List (Nat×List Nat):=[(126,[1,3,4,5]),(319,[1,3,4,5])]
def yM (C:fu)(Q:fx)(a b c d:V)(h:Hp):Prop:=∀ρ:fZ,ρ 1=a->ρ 3=b->ρ 4=c->ρ 5=d->WA C Tryd.f82 t82 63 [] Q ρ h
def Dh (C:fu)(Q:fx)(a b c d:V)(h:Hp):Prop:=∀ρ:fZ,ρ 1=a->ρ 3=b->ρ 4=c->ρ 5=d->WA C Tryd.f82 t82 159 [] Q ρ h
def DH (C:fu)(Q:fx)(a b c d:V)(h:Hp):Prop:=
 Dh C Q a b c d h
theorem KB {C:fu}{Q:fx}{a b c d:V}{h:Hp}(H:DH C Q a b c d h):yM C Q a b c d h:=by
 rintro ρ rfl rfl rfl rfl;exact WA.of (by kernel_rfl) H
def Dr (C:fu)(Q:fx)(c:Ix)(i e f d:V)(h:Hp):Prop:=
 oP (fD d) λj=>
 bO .gtr 3 j nZ (
 oP (fD d) λk=>
 oP (er .sub 3 k nO) λl=>
 oP (gD 2 d l) λa=>
 dF 3 i h λm=>
 dN 0 a h λn=>
 dI 6 m n 3 h λg=>
 dN 1 a h λo=>
 oP (fD g) λp=>
 bO .eql 3 o p (
 dN 0 a h λq=>
 ij (iZ 3 1 1 nZ [(0,q)]) h λr R=>
 fm (eR 3 1 8 f r R) λs O=>
 oP (fD d) λt=>
 oP (er .sub 3 t nO) λu=>
 oP (iJ 2 d none (some u) O) λv=>
 c i e s v O) (
 dN 1 a h λw=>
 dX 1 g w h λb=>
 dN 1 a h λx=>
 oP (er .add 3 x nO) λy=>
 oP (iq a) λz=>
 oP (fH 1 z) λA=>
 fm (gB 1 A y h) λZ S=>
 oP (fD e) λB=>
 cP C jJ [b,B] S λD E=>
 oP (jK D (oB (some e) λF=>oB (some b) λG=>oB (gD 1 F G) λH=>oB (ev H E) λI=>sr .not I)) λJ=>
 bP J (
 oP (gD 1 e b) λK=>
 fm (gB 1 K bT E) λP T=>
 oP (fN [nZ,nZ] [(0,1),(1,1)] [(0,b),(1,nZ)]) λL=>
 ij (iZ 144 2 1 (V.agg [nZ,nZ]) [(0,L)]) T λM U=>
 fm (eR 144 2 16 d M U) λN W=>
 c i e f N W) (
 c i e f d E))) (
 cP C ko [f] h λX Y=>
 Q f Y)
theorem KP{C Q}(I)(s:P4 I (Dr C Q)){k a b c d h}(i:I k a b c d h):Dh C Q a b c d h:=WA.l4 I _ s i
def IN (C:fu)(Q:fx)(a0:V)(h:Hp):Prop:=
 ij (nP 30 a0) h λc k=>
 dG 3 c k λb=>
 ij (gR 4 1 1 bF b b) k λa d=>
 dG 3 c d λe=>
 bO .gtr 3 e nZ (
 oP (fN [nZ,nZ] [(0,1),(1,1)] []) λf=>
 ij (iZ 144 2 1 (V.agg [nZ,nZ]) [(0,f)]) d λg l=>
 fm (eR 144 2 16 nS g l) λi m=>
 oP (gD 1 a nZ) λj=>
 fm (gB 1 j bT m) λo n=>
 yM C Q c a nS i n) (
 yM C Q c a nS nS d)
theorem NY{C}(s:C.start=fW){a0 h Q}(k:C.K pK [a0] h=none)(H:IN C Q a0 h):cP C pK [a0] h Q:=cP.vd t82 s (by unfold P0;exact Tryd.func82) k H
def t83:List (Nat×List Nat):=[(87,[3,13,14,15]),(22935,[3,4,13,14,15,21,22,23]),(498070,[3,4,13,14,15,21,22,23])]
def Dv (C:fu)(Q:fx)(d a b c:V)(h:Hp):Prop:=∀ρ:fZ,ρ 3=d->ρ 13=a->ρ 14=b->ρ 15=c->WA C Tryd.f83 t83 43 [] Q ρ h
def Dk (C:fu)(Q:fx)(a:Ix)(i j b c d e f g:V)(h:Hp):Prop:=∀ρ:fZ,ρ 3=i->ρ 4=j->ρ 13=b->ρ 14=c->ρ 15=d->ρ 21=e->ρ 22=f->ρ 23=g->WA C Tryd.f83 t83 11467 [λρ h=>a (ρ 3) (ρ 13) (ρ 14) (ρ 15) h] Q ρ h
def wY (C:fu)(Q:fx)(a:Ix)(b:IV)(j k c d e f g i:V)(h:Hp):Prop:=∀ρ:fZ,ρ 3=j->ρ 4=k->ρ 13=c->ρ 14=d->ρ 15=e->ρ 21=f->ρ 22=g->ρ 23=i->WA C Tryd.f83 t83 249035 [λρ h=>a (ρ 3) (ρ 13) (ρ 14) (ρ 15) h,λρ h=>b (ρ 3) (ρ 4) (ρ 13) (ρ 14) (ρ 15) (ρ 21) (ρ 22) (ρ 23) h] Q ρ h
def DG (C:fu)(Q:fx)(e:Ix)(j b c a:V)(h:Hp):Prop:=
 bO .lss 3 a c (
 oP (gD 6 b a) λf=>
 oP (gg 6 f h) λg=>
 ij (zC 44 [nS,nZ,nZ,nS,nS,nZ]) h λk m=>
 fm (gB 6 k g m) λn l=>
 dF 3 k l λd=>
 oP (fD d) λi=>
 Dk C Q e j a b c a d i nZ l) (
 Q j h)
theorem Kx{C Q}(I)(s:P4 I (DG C Q)){k d a b c h}(i:I k d a b c h):Dv C Q d a b c h:=WA.l4 I _ s i
def Db (C:fu)(Q:fx)(b:Ix)(k:IV)(j l c d e f g a:V)(h:Hp):Prop:=
 bO .lss 3 a g (
 dX 1 f a h λi=>
 oP (fD j) λm=>
 cP C jJ [i,m] h λn o=>
 bP n (
 dX 1 j i o λp=>
 ij (iZ 3 1 1 nZ [(0,l)]) o λq u=>
 fm (eR 3 1 8 p q u) λr v=>
 oP (gD 1 j i) λs=>
 fm (gB 1 s r v) λx w=>
 wY C Q b k j l c d e f g a w) (
 wY C Q b k j l c d e f g a o)) (
 oP (er .add 3 e nO) λt=>
 b j c d t h)
theorem Ke{C Q a}(I)(s:P8 I (Db C Q a)){k j l b c d e f g h}(i:I k j l b c d e f g h):Dk C Q a j l b c d e f g h:=WA.l8 I _ s i
def Cp (C:fu)(Q:fx)(j:Ix)(a:IV)(k l b c d e f g:V)(h:Hp):Prop:=
 oP (er .add 3 g nO) λi=>
 a k l b c d e f i h
theorem IU {C:fu}{Q:fx}{a:Ix}{b:IV}{j k c d e f g i:V}{h:Hp}(H:Cp C Q a b j k c d e f g i h):wY C Q a b j k c d e f g i h:=by
 rintro ρ rfl rfl rfl rfl rfl rfl rfl rfl;exact WA.of (by kernel_rfl) H
def Iz (C:fu)(Q:fx)(a0:V)(h:Hp):Prop:=
 ij (nP 30 a0) h λe f=>
 dG 3 e f λa=>
 ij (gR 23 1 24 nS a a) f λc g=>
 dF 3 e g λb=>
 oP (fD b) λd=>
 Dv C Q c b d nZ g
theorem Oy{C}(s:C.start=fW){a0 h Q}(k:C.K wF [a0] h=none)(H:Iz C Q a0 h):cP C wF [a0] h Q:=cP.vd t83 s (by unfold P0;exact Tryd.func83) k H
def t57:List (Nat×List Nat):=[(175,[3,4,5,6,30,31]),(351,[3,4,5,6,38,39,40]),(5631,[3,4,5,10,11]),(370175,[3,4,5,10,11,59,60,61]),(362391039,[3,4,5,10,11,13,14,59,60,61,68,69,70]),(8147019262,[3,4,5,10,11,13,14,59,60,61,68,69,70]),(7972350,[3,4,5,10,11,59,60,61])]
def xF (C:fu)(Q:fx)(c d e f a b:V)(h:Hp):Prop:=∀ρ:fZ,ρ 3=c->ρ 4=d->ρ 5=e->ρ 6=f->ρ 30=a->ρ 31=b->WA C Tryd.f57 t57 87 [] Q ρ h
def xL (C:fu)(Q:fx)(d e f g a b c:V)(h:Hp):Prop:=∀ρ:fZ,ρ 3=d->ρ 4=e->ρ 5=f->ρ 6=g->ρ 38=a->ρ 39=b->ρ 40=c->WA C Tryd.f57 t57 175 [] Q ρ h
def xr (C:fu)(Q:fx)(c d e a b:V)(h:Hp):Prop:=∀ρ:fZ,ρ 3=c->ρ 4=d->ρ 5=e->ρ 10=a->ρ 11=b->WA C Tryd.f57 t57 2815 [] Q ρ h
def xC (C:fu)(Q:fx)(a:GR)(g i j b c d e f:V)(h:Hp):Prop:=∀ρ:fZ,ρ 3=g->ρ 4=i->ρ 5=j->ρ 10=b->ρ 11=c->ρ 59=d->ρ 60=e->ρ 61=f->WA C Tryd.f57 t57 185087 [λρ h=>a (ρ 3) (ρ 4) (ρ 5) (ρ 10) (ρ 11) h] Q ρ h
def xK (C:fu)(Q:fx)(a:GR)(b:IV)(n o p c d e f g i j k l m:V)(h:Hp):Prop:=∀ρ:fZ,ρ 3=n->ρ 4=o->ρ 5=p->ρ 10=c->ρ 11=d->ρ 13=e->ρ 14=f->ρ 59=g->ρ 60=i->ρ 61=j->ρ 68=k->ρ 69=l->ρ 70=m->WA C Tryd.f57 t57 181195519 [λρ h=>a (ρ 3) (ρ 4) (ρ 5) (ρ 10) (ρ 11) h,λρ h=>b (ρ 3) (ρ 4) (ρ 5) (ρ 10) (ρ 11) (ρ 59) (ρ 60) (ρ 61) h] Q ρ h
def mw (C:fu)(Q:fx)(a:GR)(b:IV)(c:Fv)(o p q d e f g i j k l m n:V)(h:Hp):Prop:=∀ρ:fZ,ρ 3=o->ρ 4=p->ρ 5=q->ρ 10=d->ρ 11=e->ρ 13=f->ρ 14=g->ρ 59=i->ρ 60=j->ρ 61=k->ρ 68=l->ρ 69=m->ρ 70=n->WA C Tryd.f57 t57 4073509631 [λρ h=>a (ρ 3) (ρ 4) (ρ 5) (ρ 10) (ρ 11) h,λρ h=>b (ρ 3) (ρ 4) (ρ 5) (ρ 10) (ρ 11) (ρ 59) (ρ 60) (ρ 61) h,λρ h=>c (ρ 3) (ρ 4) (ρ 5) (ρ 10) (ρ 11) (ρ 13) (ρ 14) (ρ 59) (ρ 60) (ρ 61) (ρ 68) (ρ 69) (ρ 70) h] Q ρ h
def pI (C:fu)(Q:fx)(a:GR)(b:IV)(i j k c d e f g:V)(h:Hp):Prop:=∀ρ:fZ,ρ 3=i->ρ 4=j->ρ 5=k->ρ 10=c->ρ 11=d->ρ 59=e->ρ 60=f->ρ 61=g->WA C Tryd.f57 t57 3986175 [λρ h=>a (ρ 3) (ρ 4) (ρ 5) (ρ 10) (ρ 11) h,λρ h=>b (ρ 3) (ρ 4) (ρ 5) (ρ 10) (ρ 11) (ρ 59) (ρ 60) (ρ 61) h] Q ρ h
def xA (C:fu)(Q:fx)(d:Mq)(c k e l b a:V)(h:Hp):Prop:=
 bO .lss 3 a b (
 oP (ev e h) λf=>
 oP (gD 1 f a) λg=>
 fm (gB 1 g (V.int .i64 (-1)) h) λn m=>
 oP (er .add 3 a nO) λi=>
 d c k e l b i m) (
 oP (fD c) λj=>
 xL C Q c k e l c j nZ h)
theorem Ew{C Q}(I)(s:P6 I (xA C Q)){k c d e f a b h}(i:I k c d e f a b h):xF C Q c d e f a b h:=WA.l6 I _ s i
def xx (C:fu)(Q:fx)(e:NB)(f q b g c d a:V)(h:Hp):Prop:=
 bO .lss 3 a d (
 dX 1 c a h λi=>
 oP (ev g h) λj=>
 oP (gD 1 j i) λk=>
 fm (gB 1 k a h) λu s=>
 oP (er .add 3 a nO) λl=>
 e f q b g c d l s) (
 oP (fD f) λm=>
 bO .eql 3 m nZ (
 oP (ev b h) λn=>
 Q n h) (
 oP (ev b h) λo=>
 oP (gD 1 o nZ) λp=>
 fm (gB 1 p nZ h) λr t=>
 xr C Q f q b (V.func iU [] [g,b]) bT t))
theorem EE{C Q}(I)(s:P7 I (xx C Q)){k d e f g a b c h}(i:I k d e f g a b c h):xL C Q d e f g a b c h:=WA.l7 I _ s i
def xN (C:fu)(Q:fx)(e:GR)(k m f g i:V)(h:Hp):Prop:=
 bP i (
 oP (iJ 1 k (some nO) none h) λa=>
 oP (fD a) λj=>
 xC C Q e k m f g bF a j nZ h) (
 oP (ev f h) λb=>
 oP (gD 1 b nZ) λc=>
 fm (gB 1 c (V.int .i64 (-1)) h) λn l=>
 oP (ev f l) λd=>
 Q d l)
theorem Ex{C Q}(I)(s:P5 I (xN C Q)){k c d e a b h}(i:I k c d e a b h):xr C Q c d e a b h:=WA.l5 I _ s i
def xj (C:fu)(Q:fx)(b:GR)(j:IV)(m k n c d e f a:V)(h:Hp):Prop:=
 bO .lss 3 a f (
 dX 1 e a h λg=>
 dX 1 k g h λi=>
 oP (fD i) λl=>
 xK C Q b j m k n c d g (V.int .i64 (-1)) e f a i l nZ h) (
 b m k n c d h)
theorem ED{C Q a}(I)(s:P8 I (xj C Q a)){k g j l b c d e f h}(i:I k g j l b c d e f h):xC C Q a g j l b c d e f h:=WA.l8 I _ s i
def xB (C:fu)(Q:fx)(b:GR)(c:IV)(o:Fv)(q r n a k d e f g i l m j:V)(h:Hp):Prop:=
 bO .lss 3 j m (
 dX 1 l j h λp=>
 oP (ev n h) λs=>
 dX 1 s p h λt=>
 bO .lss 3 t nZ (
 mw C Q b c o q r n a k d e f g i l m j h) (
 bO .lss 3 e nZ (
 mw C Q b c o q r n a k d p f g i l m j h) (
 gU C (fU a [e,p]) h λu z=>
 mw C Q b c o q r n a k d u f g i l m j z))) (
 oP (ev n h) λv=>
 dX 1 v d h λw=>
 bO .neq 3 w e (
 oP (ev n h) λx=>
 oP (gD 1 x d) λy=>
 fm (gB 1 y e h) λB A=>
 pI C Q b c q r n a bT f g i A) (
 pI C Q b c q r n a k f g i h))
theorem EC{C Q a b}(I)(s:P13 I (xB C Q a b)){k p q r c d e f g j l m n o h}(i:I k p q r c d e f g j l m n o h):xK C Q a b p q r c d e f g j l m n o h:=WA.l13 I _ s i
def mm (C:fu)(Q:fx)(n:GR)(o:IV)(a:Fv)(p q r b c d e f g i j k l:V)(h:Hp):Prop:=
 oP (er .add 3 l nO) λm=>
 a p q r b c d e f g i j k m h
theorem pw {C:fu}{Q:fx}{a:GR}{b:IV}{c:Fv}{o p q d e f g i j k l m n:V}{h:Hp}(H:mm C Q a b c o p q d e f g i j k l m n h):mw C Q a b c o p q d e f g i j k l m n h:=by
 rintro ρ rfl rfl rfl rfl rfl rfl rfl rfl rfl rfl rfl rfl rfl;exact WA.of (by kernel_rfl) H
def pM (C:fu)(Q:fx)(i:GR)(a:IV)(j k l b c d e f:V)(h:Hp):Prop:=
 oP (er .add 3 f nO) λg=>
 a j k l b c d e g h
theorem wL {C:fu}{Q:fx}{a:GR}{b:IV}{i j k c d e f g:V}{h:Hp}(H:pM C Q a b i j k c d e f g h):pI C Q a b i j k c d e f g h:=by
 rintro ρ rfl rfl rfl rfl rfl rfl rfl rfl;exact WA.of (by kernel_rfl) H
def AK (C:fu)(Q:fx)(a0:V)(h:Hp):Prop:=
 ij (nP 30 a0) h λe m=>
 oP (gg 5 e m) λq=>
 oP (gg 5 e m) λf=>
 cP C pK [q] m λr n=>
 (m.next<=n.next/\
 ((gg 5 e n=some f)/\
 cP C wF [f] n λs o=>
 (n.next<=o.next/\
 oP (fH 3 e) λg=>
 oP (ev g o) λi=>
 oP (fD i) λj=>
 wS (gR 3 1 8 nZ j j) o λt u p=>
 oP (fH 3 e) λb=>
 oP (ev b p) λc=>
 oP (fD c) λk=>
 wS (gR 3 1 8 nZ k k) p λd v D=>
 wS (zC 23 [nS]) D λw x E=>
 wS (zC 23 [nS]) E λy F a=>
 ((a.get (E.next)=some y/\O.beq y y=true)/\
 ((a.get (D.next)=some w/\O.beq w w=true)/\
 ((a.get (p.next)=some d/\O.beq d d=true)/\
 ((ev b a=some c)/\
 ((a.get (o.next)=some t/\O.beq t t=true)/\
 ((ev g a=some i)/\
 fm (gB 1 x u a) λH l=>
 (a.next<=l.next/\
 ((l.get (p.next)=some d/\O.beq d d=true)/\
 ((ev b l=some c)/\
 fm (gB 1 F v l) λG z=>
 (l.next<=z.next/\
 oP (ev x z) λA=>
 oP (fD A) λB=>
 xF C Q r s x F B nZ z)))))))))))))
theorem Ia{C}(s:C.start=fW){a0 h Q}(k:C.K nB [a0] h=none)(H:AK C Q a0 h):cP C nB [a0] h Q:=cP.vd t57 s (by unfold P0;exact Tryd.func57) k H
def t84:List (Nat×List Nat):=[(19,[0,1,2,3])]
def vw (C:fu)(Q:fx)(a b c d:V)(h:Hp):Prop:=∀ρ:fZ,ρ 0=a->ρ 1=b->ρ 2=c->ρ 3=d->WA C Tryd.f84 t84 9 [] Q ρ h
def vB (C:fu)(Q:fx)(a:Ix)(b c d e:V)(h:Hp):Prop:=
 bO .neq 3 b c (
 oP (ev d h) λf=>
 dX 1 f b h λg=>
 oP (ev d h) λi=>
 dX 1 i c h λj=>
 bO .gtr 3 g j (
 oP (ev e h) λk=>
 dX 1 k b h λl=>
 a l c d e h) (
 oP (ev e h) λm=>
 dX 1 m c h λn=>
 a b n d e h)) (
 Q b h)
theorem CI{C Q}(I)(s:P4 I (vB C Q)){k a b c d h}(i:I k a b c d h):vw C Q a b c d h:=WA.l4 I _ s i
def yn (C:fu)(Q:fx)(a0 a1 a2 a3:V)(h:Hp):Prop:=
 vw C Q a0 a1 a2 a3 h
theorem Ft{C}(s:C.start=fW){a0 a1 a2 a3 h Q}(k:C.K iU [a0,a1,a2,a3] h=none)(H:yn C Q a0 a1 a2 a3 h):cP C iU [a0,a1,a2,a3] h Q:=cP.vd t84 s (by unfold P0;exact Tryd.func84) k H
def t61:List (Nat×List Nat):=[(43,[1,2,7])]
def wD (C:fu)(Q:fx)(a b c:V)(h:Hp):Prop:=∀ρ:fZ,ρ 1=a->ρ 2=b->ρ 7=c->WA C Tryd.f61 t61 21 [] Q ρ h
def wz (C:fu)(Q:fx)(a:QB)(e f b:V)(h:Hp):Prop:=
 bO .lss 3 b e (
 gU C (fU f [b]) h λc g=>
 bN c (
 Q bF g) (
 oP (er .add 3 b nO) λd=>
 a e f d g)) (
 Q bT h)
theorem CX{C Q}(I)(s:P3 I (wz C Q)){k a b c h}(i:I k a b c h):wD C Q a b c h:=WA.l3 I _ s i
def zN (C:fu)(Q:fx)(a0 a1 a2:V)(h:Hp):Prop:=
 wD C Q a1 a2 nZ h
theorem GY{C}(s:C.start=fW){a0 a1 a2 h Q}(k:C.K jh [a0,a1,a2] h=none)(H:zN C Q a0 a1 a2 h):cP C jh [a0,a1,a2] h Q:=cP.vd t61 s (by unfold P0;exact Tryd.func61) k H
def t89:List (Nat×List Nat):=[(43,[0,7,8,9]),(56522,[0,7,8,9,31])]
def tV (C:fu)(Q:fx)(a b c d:V)(h:Hp):Prop:=∀ρ:fZ,ρ 0=a->ρ 7=b->ρ 8=c->ρ 9=d->WA C Tryd.f89 t89 21 [] Q ρ h
def jx (C:fu)(Q:fx)(a:Ix)(c d e f b:V)(h:Hp):Prop:=∀ρ:fZ,ρ 0=c->ρ 7=d->ρ 8=e->ρ 9=f->ρ 31=b->WA C Tryd.f89 t89 28261 [λρ h=>a (ρ 0) (ρ 7) (ρ 8) (ρ 9) h] Q ρ h
def uR (C:fu)(Q:fx)(a:Ix)(c f g d:V)(h:Hp):Prop:=
 bO .lss 3 d g (
 dX 1 f d h λi=>
 oP (iq c) λm=>
 oP (fH 0 m) λn=>
 dG 2 n h λo=>
 cP C jJ [i,o] h λp e=>
 bN p (
 Q bF e) (
 oP (iq c) λq=>
 oP (fH 0 q) λr=>
 dJ 2 r 6 i 0 e λb=>
 oP (er .eql 3 b (V.int .i64 19)) λj=>
 bP j (
 jx C Q a c f g d j e) (
 oP (er .eql 3 b (V.int .i64 20)) λk=>
 bP k (
 jx C Q a c f g d k e) (
 oP (er .eql 3 b (V.int .i64 22)) λl=>
 bP l (
 jx C Q a c f g d l e) (
 oP (er .eql 3 b (V.int .i64 23)) λs=>
 jx C Q a c f g d s e))))) (
 Q bT h)
theorem Cf{C Q}(I)(s:P4 I (uR C Q)){k a b c d h}(i:I k a b c d h):tV C Q a b c d h:=WA.l4 I _ s i
def sV (C:fu)(Q:fx)(a:Ix)(d e f g b:V)(h:Hp):Prop:=
 bP b (
 Q bF h) (
 oP (er .add 3 g nO) λc=>
 a d e f c h)
theorem Bl {C:fu}{Q:fx}{a:Ix}{c d e f b:V}{h:Hp}(H:sV C Q a c d e f b h):jx C Q a c d e f b h:=by
 rintro ρ rfl rfl rfl rfl rfl;exact WA.of (by kernel_rfl) H
def xz (C:fu)(Q:fx)(a0 a1:V)(h:Hp):Prop:=
 oP (fD a1) λa=>
 tV C Q a0 a1 a nZ h
theorem EG{C}(s:C.start=fW){a0 a1 h Q}(k:C.K iI [a0,a1] h=none)(H:xz C Q a0 a1 h):cP C iI [a0,a1] h Q:=cP.vd t89 s (by unfold P0;exact Tryd.func89) k H
def t62:List (Nat×List Nat):=[(175,[0,27,28,29])]
def uM (C:fu)(Q:fx)(d a b c:V)(h:Hp):Prop:=∀ρ:fZ,ρ 0=d->ρ 27=a->ρ 28=b->ρ 29=c->WA C Tryd.f62 t62 87 [] Q ρ h
def ue (C:fu)(Q:fx)(i:Ix)(j d e c:V)(h:Hp):Prop:=
 bO .lss 3 c e (
 oP (gD 4 d c) λk=>
 oP (gg 4 k h) λl=>
 ij (zC 40 [nZ,nZ,nS,nS]) h λf O=>
 fm (gB 4 f l O) λP g=>
 dG 2 f g λm=>
 oP (er .gtr 3 m (V.int .i64 40)) λn=>
 oP (pN n (oB (fH 3 f) λo=>oB (ev o g) λp=>oB (fD p) λq=>er .gtr 3 q (V.int .i64 60))) λa=>
 oP (fO false a) λr=>
 oP (gV r (some j)) λs=>
 oP (fO false a) λt=>
 oP (gV t (fH 2 f)) λu=>
 oP (fO false a) λv=>
 oP (gV v (ev u g)) λw=>
 oP (fO false a) λx=>
 oP (gC x (some (iI,[s,w]))) λy=>wR C y g λz M=>
 oP (pN a (sr .not z)) λb=>
 oP (fO false b) λA=>
 oP (gV A (some j)) λB=>
 oP (fO false b) λD=>
 oP (gV D (fH 3 f)) λE=>
 oP (fO false b) λF=>
 oP (gV F (ev E M)) λG=>
 oP (fO false b) λH=>
 oP (gC H (some (iI,[B,G]))) λI=>wR C I M λJ N=>
 oP (pN b (sr .not J)) λK=>
 bP K (
 Q bF N) (
 oP (er .add 3 c nO) λL=>
 i j d e L N)) (
 Q bT h)
theorem Cb{C Q}(I)(s:P4 I (ue C Q)){k d a b c h}(i:I k d a b c h):uM C Q d a b c h:=WA.l4 I _ s i
def xI (C:fu)(Q:fx)(a0 a1:V)(h:Hp):Prop:=
 oP (iq a0) λp=>
 oP (fH 0 p) λd=>
 dF 4 d h λe=>
 oP (gD 1 e a1) λf=>
 oP (gg 1 f h) λg=>
 ij (zC 38 [nS]) h λc q=>
 fm (gB 1 c g q) λr a=>
 dG 0 c a λi=>
 oP (er .eql 3 i nZ) λj=>
 oP (pN j (oB (fH 0 c) λk=>oB (ev k a) λl=>oB (fD l) λm=>er .gtr 3 m (V.int .i64 30))) λn=>
 bP n (
 Q bF a) (
 dF 0 c a λb=>
 oP (fD b) λo=>
 uM C Q a0 b o nZ a)
theorem EJ{C}(s:C.start=fW){a0 a1 h Q}(k:C.K kY [a0,a1] h=none)(H:xI C Q a0 a1 h):cP C kY [a0,a1] h Q:=cP.vd t62 s (by unfold P0;exact Tryd.func62) k H
def t63:List (Nat×List Nat):=[(87,[0,36,37]),(351,[0,4,51,52,53]),(190047,[0,4,5,7,51,52,53,59,60,61])]
def tY (C:fu)(Q:fx)(c a b:V)(h:Hp):Prop:=∀ρ:fZ,ρ 0=c->ρ 36=a->ρ 37=b->WA C Tryd.f63 t63 43 [] Q ρ h
def uo (C:fu)(Q:fx)(d e a b c:V)(h:Hp):Prop:=∀ρ:fZ,ρ 0=d->ρ 4=e->ρ 51=a->ρ 52=b->ρ 53=c->WA C Tryd.f63 t63 175 [] Q ρ h
def uG (C:fu)(Q:fx)(a:GR)(i j k l b c d e f g:V)(h:Hp):Prop:=∀ρ:fZ,ρ 0=i->ρ 4=j->ρ 5=k->ρ 7=l->ρ 51=b->ρ 52=c->ρ 53=d->ρ 59=e->ρ 60=f->ρ 61=g->WA C Tryd.f63 t63 95023 [λρ h=>a (ρ 0) (ρ 4) (ρ 51) (ρ 52) (ρ 53) h] Q ρ h
def uI (C:fu)(Q:fx)(e:QB)(d b a:V)(h:Hp):Prop:=
 bO .lss 3 a b (
 dN 5 d h λf=>
 oP (gD 1 f a) λg=>
 fm (gB 1 g (V.int .i64 (-1)) h) λn m=>
 oP (er .add 3 a nO) λi=>
 e d b i m) (
 oP (iq d) λj=>
 oP (fH 0 j) λk=>
 dF 3 k h λc=>
 oP (fD c) λl=>
 uo C Q d nZ c l nZ h)
theorem B6{C Q}(I)(s:P3 I (uI C Q)){k c a b h}(i:I k c a b h):tY C Q c a b h:=WA.l3 I _ s i
def uF (C:fu)(Q:fx)(j:GR)(n o b c a:V)(h:Hp):Prop:=
 bO .lss 3 a c (
 oP (gD 6 b a) λk=>
 oP (gg 6 k h) λl=>
 ij (zC 44 [nS,nZ,nZ,nS,nS,nZ]) h λp r=>
 fm (gB 6 p l r) λs q=>
 dF 0 p q λd=>
 oP (fD d) λm=>
 uG C Q j n o a bT b c a d m nZ q) (
 oP (iq n) λe=>
 oP (fH 0 e) λf=>
 dG 2 f h λg=>
 oP (er .eql 3 o g) λi=>
 Q i h)
theorem BU{C Q}(I)(s:P5 I (uF C Q)){k d e a b c h}(i:I k d e a b c h):uo C Q d e a b c h:=WA.l5 I _ s i
def uA (C:fu)(Q:fx)(D:GR)(E:HY)(d x4 F x7 g i j k l b:V)(h:Hp):Prop:=
 bO .lss 3 b l (
 dX 1 k b h λa=>
 oP (iq d) λG=>
 oP (fH 0 G) λH=>
 dG 2 H h λI=>
 cP C jJ [a,I] h λJ c=>
 oP (sr .not J) λK=>
 oP (pN K (oB (some d) λL=>oB (iq L) λM=>oB (fH 5 M) λN=>oB (ev N c) λO=>oB (some a) λP=>oB (gD 1 O P) λR=>oB (ev R c) λS=>er .geq 3 S nZ)) λT=>
 bP T (
 Q bF c) (
 oP (iq d) λU=>
 oP (fH 0 U) λW=>
 dJ 2 W 6 a 0 c λe=>
 oP (er .eql 3 e (V.int .i64 21)) λX=>
 oP (pN X (oB (some e) λY=>er .eql 3 Y nO)) λf=>
 oP (jK f (oB (some x7) λm=>sr .not m)) λn=>
 oP (pN n (oB (some e) λo=>oB (er .eql 3 o nO) λp=>oB (some F) λq=>oB (er .eql 3 q nZ) λr=>oB (er .neq 4 p r) λs=>oB (some s) λt=>jK t (some f))) λu=>
 bP u (
 Q bF c) (
 dN 5 d c λv=>
 dN 6 d c λw=>
 oP (gD 1 v a) λx=>
 fm (gB 1 x F c) λvu Z=>
 (c.next<=Z.next/\
 oP (gD 1 w a) λy=>
 fm (gB 1 y b Z) λaa h3=>
 (Z.next<=h3.next/\
 oP (er .add 3 x4 nO) λz=>
 oP (er .add 3 b nO) λA=>
 E d z F f g i j k l A h3))))) (
 oP (er .add 3 j nO) λB=>
 D d x4 g i B h)
theorem BD{C Q a}(I)(s:P10 I (uA C Q a)){k j l m n b c d e f g h}(i:I k j l m n b c d e f g h):uG C Q a j l m n b c d e f g h:=WA.Zl I _ s i
def xy (C:fu)(Q:fx)(a0:V)(h:Hp):Prop:=
 oP (iq a0) λl=>
 oP (fH 0 l) λm=>
 oP (fH 2 m) λc=>
 oP (ev c h) λd=>
 oP (fD d) λe=>
 wS (gR 3 1 8 nZ e e) h λn o j=>
 oP (iq a0) λp=>
 oP (fH 0 p) λq=>
 oP (fH 2 q) λf=>
 oP (ev f j) λg=>
 oP (fD g) λi=>
 wS (gR 3 1 8 nZ i i) j λa r b=>
 oP (iq a0) λs=>
 oP (fH 5 s) λt=>
 ((b.get (j.next)=some a/\O.beq a a=true)/\
 ((ev f b=some g)/\
 ((b.get (h.next)=some n/\O.beq n n=true)/\
 ((ev c b=some d)/\
 fm (gB 1 t o b) λA k=>
 (b.next<=k.next/\
 oP (iq a0) λu=>
 oP (fH 6 u) λv=>
 ((k.get (j.next)=some a/\O.beq a a=true)/\
 fm (gB 1 v r k) λz w=>
 (k.next<=w.next/\
 oP (iq a0) λx=>
 dG 5 x w λy=>
 tY C Q a0 y nZ w)))))))
theorem EF{C}(s:C.start=fW){a0 h Q}(k:C.K mW [a0] h=none)(H:xy C Q a0 h):cP C mW [a0] h Q:=cP.vd t63 s (by unfold P0;exact Tryd.func63) k H
section
variable (C:fu)(Q:X->fZ->Hp->Prop)(ρ:fZ)(h:Hp)
def Pf:=Mu Tryd.f64
def XF:=Pf.r
def Yg:=Pf.r.r
def Yq:=Pf.r.r.l.r
def X5:=Pf.r.r.r
def zaJ:=andThen (Wp C 94 X5 Q) Q
def XM:=Pf.r.r.l.r.l.r
def X2:=Pf.r.r.r.l.r
def Yj:=Pf.r.r.r.r
def q94:=andThen (Wp C 94 Yj Q) Q
def Yo:=Pf.r.r.r.l.r.l.r
def zaK (C:fu)(Q:XQ):XQ:=yv 0 Q
def Yk:=Pf.r.r.r.r.r
def X3:=Pf.r.r.r.l.r.l.r.l.r
def TS:=Pf.r.r.r.l.r.l.r.r.r
def TP:=Pf.r.r.r.l.r.l.r.r.r.l.r
def Ud:=Pf.r.r.r.l.r.l.r.r.r.r.r
def UO:=Pf.r.r.r.l.r.l.r.r.r.r.r.l.r
theorem e64:vz C 94 Pf Q ρ h=(oP (some (V.bool false)) λa=>
 Wp C 94 XF Q (gv ρ 4 a) h):=by kernel_rfl
theorem zaC:vz C 94 XF Q ρ h=(oP (some (ρ 0)) λe=>
 oP (iq e) λf=>
 oP (fH 0 f) λg=>
 oP (fH 2 g) λi=>
 oP (ev i h) λa=>
 oP (some (ρ 1)) λb=>
 oP (gD 6 a b) λc=>
 oP (gg 6 c h) λd=>
 ij (some (.cells 42 1 true false [(V.int .i64 0),(V.int .i64 0),(V.int .i64 0),(V.int .i64 0),V.ec,(V.int .i64 0)],λl=> .ptr l 0)) h λj k=>
 fm (gB 6 j d k) λn m=>
 Wp C 94 Yg Q (gv (gv (gv (gv (gv (gv (gv (gv (gv ρ 6 e) 7 f) 8 g) 9 i) 10 a) 11 b) 12 c) 13 d) 5 j) m):=by kernel_rfl
theorem Z2:vz C 94 Yg Q ρ h=(oP (fH 0 (ρ 5)) λd=>
 oP (ev d h) λs=>
 ((ev d h=some s)/\
 ((fH 0 (ρ 5)=some d)/\
 dcP C Ci [s] h λt D=>
 (h.next<=D.next/\
 oP (er .eql 9 t (V.str [])) λe=>
 oP (some e) λb=>
 oP (fO false b) λW=>
 oP (gV W (some (ρ 0))) λf=>
 oP (fO false b) λb6=>
 oP (gV b6 (gg 6 (ρ 5) D)) λu=>
 ((gT b6 (gg 6 (ρ 5) D=some u))/\
 ((gT W (some (ρ 0)=some f))/\
 ((some e=some b)/\
 ((er .eql 9 t (V.str [])=some e)/\
 oP (fO false b) λb7=>
 oP (gC b7 (some (sx,[u]))) λx7=>wR C x7 D λE X=>
 (D.next<=X.next/\
 ((gT W (some (ρ 0)=some f))/\
 oP (fO false b) λb8=>
 oP (gC b8 (some (iI,[f,E]))) λx8=>wR C x8 X λv F=>
 (X.next<=F.next/\
 oP (fO false b) λb9=>
 oP (gV b9 (sr .not v)) λg=>
 oP (lJ b (V.bool true) g) λi=>
 oP (some i) λc=>
 oP (fO false c) λG=>
 oP (gV G (fH 0 (ρ 5))) λj=>
 oP (fO false c) λH=>
 oP (gV H (ev j F)) λw=>
 ((gT H (ev j F=some w))/\
 ((gT G (fH 0 (ρ 5)=some j))/\
 ((some i=some c)/\
 ((lJ b (V.bool true) g=some i)/\
 ((gT b9 (sr .not v=some g))/\
 oP (fO false c) λY=>
 oP (gC Y (some (nN,[w]))) λZ=>wR C Z F λx y=>
 (F.next<=y.next/\
 oP (fO false c) λI=>
 oP (gV I (some x)) λa=>
 oP (fO true a) λJ=>
 oP (gV J (fH 5 (ρ 5))) λk=>
 oP (fO true a) λK=>
 oP (gV K (ev k y)) λz=>
 oP (fO true a) λL=>
 oP (gV L (some (ρ 0))) λl=>
 oP (fO true a) λM=>
 oP (gV M (iq l)) λm=>
 oP (fO true a) λN=>
 oP (gV N (fH 0 m)) λn=>
 oP (fO true a) λO=>
 oP (gV O (fH 4 n)) λo=>
 oP (fO true a) λP=>
 oP (gV P (ev o y)) λp=>
 oP (fO true a) λR=>
 oP (gV R (fD p)) λA=>
 ((gT R (fD p=some A))/\
 ((gT P (ev o y=some p))/\
 ((gT O (fH 4 n=some o))/\
 ((gT N (fH 0 m=some n))/\
 ((gT M (iq l=some m))/\
 ((gT L (some (ρ 0)=some l))/\
 ((gT K (ev k y=some z))/\
 ((gT J (fH 5 (ρ 5)=some k))/\
 ((gT I (some x=some a))/\
 oP (fO true a) λaa=>
 oP (gC aa (some (jJ,[z,A]))) λab=>wR C ab y λB h5=>
 (y.next<=h5.next/\
 oP (fO true a) λS=>
 oP (gV S (sr .not B)) λq=>
 oP (fO false c) λT=>
 oP (gV T (lJ a q (V.bool false))) λr=>
 oP (lJ c (V.bool true) r) λU=>
 ((lJ c (V.bool true) r=some U)/\
 ((gT T (lJ a q (V.bool false)=some r))/\
 ((gT S (sr .not B=some q))/\
 Wp C 94 Yq (zaJ C Q) (gv (gv (gv (gv (gv (gv (gv (gv (gv (gv (gv (gv (gv (gv (gv (gv (gv (gv (gv (gv (gv (gv (gv (gv (gv (gv (gv (gv ρ 14 d) 15 s) 16 t) 17 e) 18 b) 19 f) 20 u) 21 E) 22 v) 23 g) 24 i) 25 c) 26 j) 27 w) 28 x) 29 a) 30 k) 31 z) 32 l) 33 m) 34 n) 35 o) 36 p) 37 A) 38 B) 39 q) 40 r) 41 U) h5)))))))))))))))))))))))))))))):=by kernel_rfl
theorem Z6:vz C 94 X5 Q ρ h=(oP (fH 0 (ρ 5)) λa=>
 oP (ev a h) λb=>
 Wp C 94 X2 (q94 C Q) (gv (gv ρ 42 a) 43 b) h):=by kernel_rfl
theorem zap:vz C 94 Yq Q ρ h=(oP (some (ρ 41)) λc=>
 bP c (
 oP (some (V.bool false)) λa=>
 Wp C 94 XM Q (gv ρ 4 a) h) (
 Q .normal ρ h)):=by kernel_rfl
theorem zas:vz C 94 Yj Q ρ h=(oP (some (V.bool true)) λa=>
 Wp C 94 Yk Q (gv ρ 4 a) h):=by kernel_rfl
theorem Z3:vz C 94 X2 Q ρ h=(oP (er .eql 3 (ρ 43) (V.int .i64 20)) λa=>
 oP (some a) λb=>
 Wp C 94 Yo (zaK C Q) (gv (gv ρ 45 a) 44 b) h):=by kernel_rfl
theorem zaV:vz C 94 Yk Q ρ h=(Q .ret ρ h):=by kernel_rfl
theorem Z0:vz C 94 XM Q ρ h=(Q .ret ρ h):=by kernel_rfl
theorem zaL:vz C 94 Yo Q ρ h=(oP (some (ρ 44)) λc=>
 bP c (
 oP (fH 4 (ρ 5)) λa=>
 oP (ev a h) λb=>
 oP (fD b) λd=>
 oP (er .eql 3 d (V.int .i64 1)) λe=>
 oP (some e) λi=>
 Wp C 94 X3 Q (gv (gv (gv (gv (gv ρ 46 a) 47 b) 48 d) 49 e) 4 i) h) (
 oP (er .eql 3 (ρ 43) (V.int .i64 21)) λf=>
 oP (some f) λg=>
 Wp C 94 TS Q (gv (gv ρ 51 f) 50 g) h)):=by kernel_rfl
theorem zaS:vz C 94 X3 Q ρ h=(Q .ret ρ h):=by kernel_rfl
theorem Y0:vz C 94 TS Q ρ h=(oP (some (ρ 50)) λc=>
 bP c (
 oP (fH 4 (ρ 5)) λa=>
 oP (ev a h) λb=>
 oP (fD b) λd=>
 oP (some (ρ 0)) λe=>
 oP (iq e) λf=>
 oP (fH 0 f) λg=>
 oP (fH 3 g) λi=>
 oP (ev i h) λj=>
 oP (some (ρ 0)) λk=>
 oP (iq k) λl=>
 oP (fH 5 l) λm=>
 oP (ev m h) λn=>
 oP (some (ρ 1)) λo=>
 oP (gD 1 n o) λp=>
 oP (ev p h) λq=>
 oP (gD 6 j q) λr=>
 oP (fH 4 r) λs=>
 oP (ev s h) λt=>
 oP (fD t) λu=>
 oP (er .eql 3 d u) λv=>
 oP (some v) λy=>
 ((some v=some y)/\
 ((er .eql 3 d u=some v)/\
 ((fD t=some u)/\
 ((ev s h=some t)/\
 ((fH 4 r=some s)/\
 ((gD 6 j q=some r)/\
 ((ev p h=some q)/\
 ((gD 1 n o=some p)/\
 ((some (ρ 1)=some o)/\
 ((ev m h=some n)/\
 ((fH 5 l=some m)/\
 ((iq k=some l)/\
 ((some (ρ 0)=some k)/\
 ((ev i h=some j)/\
 ((fH 3 g=some i)/\
 ((fH 0 f=some g)/\
 ((iq e=some f)/\
 ((some (ρ 0)=some e)/\
 ((fD b=some d)/\
 ((ev a h=some b)/\
 ((fH 4 (ρ 5)=some a)/\
 Wp C 94 TP Q (gv (gv (gv (gv (gv (gv (gv (gv (gv (gv (gv (gv (gv (gv (gv (gv (gv (gv (gv (gv (gv ρ 52 a) 53 b) 54 d) 55 e) 56 f) 57 g) 58 i) 59 j) 60 k) 61 l) 62 m) 63 n) 64 o) 65 p) 66 q) 67 r) 68 s) 69 t) 70 u) 71 v) 4 y) h)))))))))))))))))))))) (
 oP (er .eql 3 (ρ 43) (V.int .i64 1)) λw=>
 oP (some w) λx=>
 Wp C 94 Ud Q (gv (gv ρ 73 w) 72 x) h)):=by kernel_rfl
theorem YX:vz C 94 TP Q ρ h=(Q .ret ρ h):=by kernel_rfl
theorem Zq:vz C 94 Ud Q ρ h=(oP (some (ρ 72)) λc=>
 bP c (
 oP (fH 3 (ρ 5)) λd=>
 oP (ev d h) λe=>
 oP (er .geq 2 e (V.int .i64 0)) λf=>
 oP (some f) λb=>
 oP (fO true b) λH=>
 oP (gV H (fH 3 (ρ 5))) λg=>
 oP (fO true b) λI=>
 oP (gV I (ev g h)) λi=>
 oP (fO true b) λJ=>
 oP (gV J (er .lss 2 i (V.int .i64 40))) λj=>
 oP (lJ b j (V.bool false)) λk=>
 oP (some k) λa=>
 oP (fO true a) λK=>
 oP (gV K (some (ρ 0))) λl=>
 oP (fO true a) λw=>
 oP (gV w (iq l)) λm=>
 oP (fO true a) λx=>
 oP (gV x (fH 0 m)) λn=>
 oP (fO true a) λy=>
 oP (gV y (fH 2 n)) λo=>
 oP (fO true a) λz=>
 oP (gV z (ev o h)) λp=>
 oP (fO true a) λA=>
 oP (gV A (some (ρ 1))) λq=>
 oP (fO true a) λB=>
 oP (gV B (iJ 6 p none (some q) h)) λr=>
 oP (fO true a) λD=>
 oP (gV D (some (V.func je [] [(ρ 5)]))) λs=>
 oP (fO true a) λE=>
 oP (gC E (some (gP,[r,s]))) λF=>wR C F h λt L=>
 oP (fO true a) λG=>
 oP (gV G (sr .not t)) λu=>
 oP (lJ a u (V.bool false)) λv=>
 oP (some v) λM=>
 Wp C 94 UO Q (gv (gv (gv (gv (gv (gv (gv (gv (gv (gv (gv (gv (gv (gv (gv (gv (gv (gv (gv (gv (gv ρ 74 d) 75 e) 76 f) 77 b) 78 g) 79 i) 80 j) 81 k) 82 a) 83 l) 84 m) 85 n) 86 o) 87 p) 88 q) 89 r) 90 s) 91 t) 92 u) 93 v) 4 M) L) (
 Q .normal ρ h)):=by kernel_rfl
theorem Zw:vz C 94 UO Q ρ h=(Q .ret ρ h):=by kernel_rfl
theorem g64 {C:fu}(hs:C.start=fW)(a0 a1:V){h:Hp}{Q:fx}(a:C.K jG [a0,a1] h=none)(H:vz C 94 Pf (Ky [.tmp 4] Q) (Md [a0,a1]) h):cP C jG [a0,a1] h Q:=
 cP.zaU hs (show P0.funcs[64]? =some Tryd.f64 by unfold P0;exact Tryd.func64) (by kernel_rfl) (by kernel_rfl) (by kernel_rfl) a (G9 rfl) (Wp.code _ H)
def uQ (C:fu)(Q:fx)(a0 a1:V)(h:Hp):Prop:=
 oP (iq a0) λv7=>
 oP (fH 0 v7) λv8=>
 dF 2 v8 h λs=>
 oP (gD 6 s a1) λt=>
 oP (gg 6 t h) λu=>
 ij (zC 42 [nZ,nZ,nZ,nZ,nS,nZ]) h λd h1=>
 fm (gB 6 d u h1) λvu v=>
 dF 0 d v λw=>
 cP C Ci [w] v λx q=>
 (v.next<=q.next/\
 oP (er .eql 9 x (V.str [])) λe=>
 oP (fO false e) λb5=>
 oP (gV b5 (some a0)) λy=>
 oP (fO false e) λb6=>
 oP (gV b6 (gg 6 d q)) λz=>
 oP (fO false e) λb7=>
 oP (gC b7 (some (sx,[z]))) λy7=>wR C y7 q λA B=>
 (q.next<=B.next/\
 oP (fO false e) λb8=>
 oP (gC b8 (some (iI,[y,A]))) λy8=>wR C y8 B λD r=>
 (B.next<=r.next/\
 oP (pN e (sr .not D)) λf=>
 oP (fO false f) λE=>
 oP (gV E (fH 0 d)) λF=>
 oP (fO false f) λG=>
 oP (gV G (ev F r)) λH=>
 oP (fO false f) λI=>
 oP (gC I (some (nN,[H]))) λJ=>wR C J r λK o=>
 (r.next<=o.next/\
 oP (fO false f) λL=>
 oP (gV L (some K)) λa=>
 oP (fO true a) λM=>
 oP (gV M (fH 5 d)) λN=>
 oP (fO true a) λO=>
 oP (gV O (ev N o)) λP=>
 oP (fO true a) λR=>
 oP (gV R (some a0)) λS=>
 oP (fO true a) λT=>
 oP (gV T (iq S)) λU=>
 oP (fO true a) λW=>
 oP (gV W (fH 0 U)) λX=>
 oP (fO true a) λY=>
 oP (gV Y (fH 4 X)) λZ=>
 oP (fO true a) λaa=>
 oP (gV aa (ev Z o)) λab=>
 oP (fO true a) λac=>
 oP (gV ac (fD ab)) λae=>
 oP (fO true a) λag=>
 oP (gC ag (some (jJ,[P,ae]))) λah=>wR C ah o λai c=>
 (o.next<=c.next/\
 oP (fO true a) λaj=>
 oP (gV aj (sr .not ai)) λak=>
 oP (pN f (lJ a ak bF)) λal=>
 bP al (
 Q bF c) (
 dF 0 d c λg=>
 bO .eql 3 g (V.int .i64 20) (
 dG 4 d c λam=>
 oP (er .eql 3 am nO) λan=>
 Q an c) (
 bO .eql 3 g (V.int .i64 21) (
 dG 4 d c λao=>
 oP (iq a0) λap=>
 oP (fH 0 ap) λaq=>
 dF 3 aq c λar=>
 dN 5 a0 c λau=>
 dX 1 au a1 c λaw=>
 oP (gD 6 ar aw) λax=>
 dG 4 ax c λay=>
 oP (er .eql 3 ao ay) λaA=>
 Q aA c) (
 bO .eql 3 g nO (
 dF 3 d c λaB=>
 oP (er .geq 2 aB nZ) λaC=>
 oP (jK aC (oB (fH 3 d) λaD=>oB (ev aD c) λaE=>er .lss 2 aE (V.int .i64 40))) λb=>
 oP (fO true b) λp=>
 oP (gV p (some a0)) λaF=>
 oP (fO true b) λaG=>
 oP (gV aG (iq aF)) λaH=>
 oP (fO true b) λaI=>
 oP (gV aI (fH 0 aH)) λaJ=>
 oP (fO true b) λi=>
 oP (gV i (fH 2 aJ)) λaK=>
 oP (fO true b) λj=>
 oP (gV j (ev aK c)) λaL=>
 oP (fO true b) λk=>
 oP (gV k (some a1)) λaM=>
 oP (fO true b) λl=>
 oP (gV l (iJ 6 aL none (some aM) c)) λaN=>
 oP (fO true b) λm=>
 oP (gV m (some (V.func je [] [d]))) λaO=>
 oP (fO true b) λn=>
 oP (gC n (some (gP,[aN,aO]))) λaP=>wR C aP c λaQ h8=>
 oP (jK b (sr .not aQ)) λaR=>
 Q aR h8) (
 Q bT c)))))))))
theorem Gu {C:fu}(hs:C.start=fW){a0 a1:V}{h:Hp}{Q:fx}(hk:C.K jG [a0,a1] h=none)(H:uQ C Q a0 a1 h):cP C jG [a0,a1] h Q:=by
 unfold uQ at H;exact g64 hs _ _ hk ((e64 _ _ _ _).mpr (K4 (Wp.of (zaC _ _ _ _) (K4 (oM H λv7 _ H=>oM H λv8 _ H=>oM H λv9 _ H=>oM H λaq _ H=>K4 (oM H λar _ H=>oM H λau _ H=>alM H λv5 h1 H=>zba H λvu h2 H=>Wp.of (Z2 _ _ _ _) (oM H λaw b H=>oM H λax c H=>⟨c,⟨b,dcM H λay h3 H=>anM H λH=>oM H λaA d H=>K4 (oM H λb5 _ H=>oM H λaB a H=>oM H λb6 _ H=>oM H λaC e H=>⟨(wB e),⟨(wB a),⟨rfl,⟨d,oM H λb7 _ H=>oM H λy7 _ H=>cgM H λaD h4 H=>anM H λH=>⟨(wB a),oM H λb8 _ H=>oM H λy8 _ H=>cgM H λaE h5 H=>anM H λH=>thn (QQ H) λH=>oM H λb9 Z H=>oM H λaF f H=>oM H λaG g H=>K4 (oM H λaH _ H=>oM H λaI i H=>oM H λaJ _ H=>oM H λaK j H=>⟨(wB j),⟨(wB i),⟨rfl,⟨g,⟨(wB f),oM H λaL _ H=>oM H λaM _ H=>cgM H λaN h6 H=>anM H λH=>oM H λaO _ H=>oM H λaP k H=>oM H λaQ _ H=>oM H λaR l H=>oM H λaS _ H=>oM H λaT m H=>oM H λaU _ H=>oM H λaV n H=>oM H λaW _ H=>oM H λaX o H=>oM H λaY _ H=>oM H λaZ p H=>oM H λa4 _ H=>oM H λa5 q H=>oM H λa6 _ H=>oM H λa7 r H=>oM H λa8 _ H=>oM H λa9 s H=>⟨(wB s),⟨(wB r),⟨(wB q),⟨(wB p),⟨(wB o),⟨(wB n),⟨(wB m),⟨(wB l),⟨(wB k),oM H λba _ H=>oM H λbb _ H=>cgM H λbc h7 H=>anM H λH=>oM H λbd _ H=>oM H λbe t H=>thn (QQ H) λH=>oM H λbf aa H=>oM H λbg u H=>oM H λbh v H=>⟨v,⟨(wB u),⟨(wB t),Wp.of (zap _ _ _ _) (K4 (bM H (λH=>K4 (Wp.of (Z0 _ _ _ _) (H))) (λH=>Wp.of (Z6 _ _ _ _) (oM H λbi _ H=>oM H λbj _ H=>Wp.of (Z3 _ _ _ _) (oM H λbm _ H=>K4 (Wp.of (zaL _ _ _ _) (K4 (bM H (λH=>oM H λbn _ H=>oM H λbo _ H=>oM H λbp _ H=>oM H λbq _ H=>K4 (Wp.of (zaS _ _ _ _) (H))) (λH=>oM H λbr _ H=>K4 (Wp.of (Y0 _ _ _ _) (K4 (bM H (λH=>oM H λbt w H=>oM H λbu x H=>oM H λbv y H=>K4 (oM H λbw z H=>oM H λbx A H=>oM H λbz B H=>oM H λbA D H=>K4 (oM H λbC E H=>oM H λbD F H=>oM H λbE G H=>K4 (oM H λbG I H=>oM H λbH J H=>oM H λbI L H=>oM H λbJ M H=>oM H λbK N H=>oM H λbL O H=>oM H λbQ P H=>K4 (⟨rfl,⟨P,⟨O,⟨N,⟨M,⟨L,⟨J,⟨I,⟨rfl,⟨G,⟨F,⟨E,⟨rfl,⟨D,⟨B,⟨A,⟨z,⟨rfl,⟨y,⟨x,⟨w,Wp.of (YX _ _ _ _) (H)⟩⟩⟩⟩⟩⟩⟩⟩⟩⟩⟩⟩⟩⟩⟩⟩⟩⟩⟩⟩⟩))))) (λH=>oM H λbR _ H=>K4 (Wp.of (Zq _ _ _ _) (K4 (bM H (λH=>oM H λbS _ H=>oM H λbU _ H=>oM H λbV _ H=>K4 (thn (On H) λH=>sG1 H λb4 ab bW ac H=>sG1 H λae ag bX ah H=>oM H λai aj H=>oM H λbY ak H=>oM H λbZ al H=>K4 (oM H λam _ H=>oM H λca _ H=>oM H λcb _ H=>oM H λcd _ H=>oM H λce _ H=>oM H λcf _ H=>oM H λR _ H=>oM H λcg _ H=>oM H λS _ H=>oM H λci _ H=>oM H λT _ H=>oM H λcj _ H=>oM H λU _ H=>oM H λcm _ H=>oM H λW _ H=>oM H λcn _ H=>oM H λX _ H=>oM H λco _ H=>cgM H λcp h8 H=>thn (On H) λH=>oM H λY an H=>oM H λcq ao H=>oM H λcr ap H=>K4 (Wp.of (Zw _ _ _ _) (H))))) (λH=>Wp.of (zas _ _ _ _) (K4 (Wp.of (zaV _ _ _ _) (H))))))))))))))))))))⟩⟩⟩⟩⟩⟩⟩⟩⟩⟩⟩⟩⟩⟩⟩⟩⟩)⟩⟩⟩⟩⟩)⟩⟩)))))))
end
def t65:List (Nat×List Nat):=[(87,[0,5,17,18,19])]
def vx (C:fu)(Q:fx)(d e a b c:V)(h:Hp):Prop:=∀ρ:fZ,ρ 0=d->ρ 5=e->ρ 17=a->ρ 18=b->ρ 19=c->WA C Tryd.f65 t65 43 [] Q ρ h
def uV (C:fu)(Q:fx)(o:GR)(n c f g d:V)(h:Hp):Prop:=
 bO .lss 3 d g (
 dX 1 f d h λp=>
 oP (iq n) λq=>
 oP (fH 0 q) λs=>
 dG 3 s h λt=>
 cP C jJ [p,t] h λu Y=>
 bN u (
 Q bF Y) (
 oP (er .add 3 d nO) λv=>
 o n c f g v Y)) (
 dF 1 c h λe=>
 bO .eql 3 e nO (
 dG 3 c h λw=>
 oP (er .eql 3 w nO) λx=>
 Q x h) (
 bO .eql 3 e (V.int .i64 2) (
 dG 3 c h λy=>
 oP (er .eql 3 y (V.int .i64 2)) λb=>
 oP (fO true b) λb5=>
 oP (gV b5 (some n)) λz=>
 oP (fO true b) λb6=>
 oP (gV b6 (fH 2 c)) λA=>
 oP (fO true b) λb7=>
 oP (gV b7 (ev A h)) λB=>
 oP (fO true b) λb8=>
 ghP b8 h (oB (iZ 3 1 1 nZ [(0,B)]) λr=>some (r.2 h.next,h.new r.1)) λD h2=>
 oP (fO true b) λb9=>
 oP (gC b9 (some (iI,[z,D]))) λy9=>wR C y9 h2 λE h3=>
 oP (lJ b E bF) λF=>
 Q F h3) (
 bO .eql 3 e (V.int .i64 3) (
 dG 3 c h λG=>
 oP (er .eql 3 G nZ) λa=>
 oP (fO true a) λi=>
 oP (gV i (fH 5 c)) λH=>
 oP (fO true a) λj=>
 oP (gV j (ev H h)) λI=>
 oP (fO true a) λk=>
 oP (gV k (some n)) λJ=>
 oP (fO true a) λl=>
 oP (gV l (iq J)) λK=>
 oP (fO true a) λm=>
 oP (gV m (fH 0 K)) λL=>
 oP (fO true a) λM=>
 oP (gV M (fH 4 L)) λN=>
 oP (fO true a) λO=>
 oP (gV O (ev N h)) λP=>
 oP (fO true a) λR=>
 oP (gV R (fD P)) λS=>
 oP (fO true a) λT=>
 oP (gC T (some (jJ,[I,S]))) λU=>wR C U h λW Z=>
 (h.next<=Z.next/\
 oP (lJ a W bF) λX=>
 Q X Z)) (
 Q bF h))))
theorem CG{C Q}(I)(s:P5 I (uV C Q)){k d e a b c h}(i:I k d e a b c h):vx C Q d e a b c h:=WA.l5 I _ s i
def yF (C:fu)(Q:fx)(a0 a1:V)(h:Hp):Prop:=
 oP (iq a0) λj=>
 oP (fH 0 j) λb=>
 dF 3 b h λc=>
 oP (gD 6 c a1) λd=>
 oP (gg 6 d h) λe=>
 ij (zC 44 [nS,nZ,nZ,nS,nS,nZ]) h λf k=>
 fm (gB 6 f e k) λl i=>
 dF 3 f i λa=>
 oP (fD a) λg=>
 vx C Q a0 f a g nZ i
theorem Fc{C}(s:C.start=fW){a0 a1 h Q}(k:C.K lU [a0,a1] h=none)(H:yF C Q a0 a1 h):cP C lU [a0,a1] h Q:=cP.vd t65 s (by unfold P0;exact Tryd.func65) k H
def t66:List (Nat×List Nat):=[(171,[0,1,16,17,18]),(14,[0,1]),(175,[0,7,54,55,56])]
def wh (C:fu)(Q:fx)(d e a b c:V)(h:Hp):Prop:=∀ρ:fZ,ρ 0=d->ρ 1=e->ρ 16=a->ρ 17=b->ρ 18=c->WA C Tryd.f66 t66 85 [] Q ρ h
def my (C:fu)(Q:fx)(a b:V)(h:Hp):Prop:=∀ρ:fZ,ρ 0=a->ρ 1=b->WA C Tryd.f66 t66 7 [] Q ρ h
def wG (C:fu)(Q:fx)(d e a b c:V)(h:Hp):Prop:=∀ρ:fZ,ρ 0=d->ρ 7=e->ρ 54=a->ρ 55=b->ρ 56=c->WA C Tryd.f66 t66 87 [] Q ρ h
def wO (C:fu)(Q:fx)(e:GR)(f t b c a:V)(h:Hp):Prop:=
 bO .lss 3 a c (
 dX 1 b a h λd=>
 oP (iq f) λg=>
 oP (fH 0 g) λi=>
 dJ 3 i 6 a 4 h λj=>
 cP C lH [d,j] h λk u=>
 oP (sr .not k) λl=>
 oP (pN l (oB (some a) λm=>oB (er .eql 3 m nZ) λn=>oB (some n) λo=>jK o (oB (some d) λp=>oB (fD p) λq=>er .gtr 3 q nZ))) λr=>
 bP r (
 Q bF u) (
 oP (er .add 3 a nO) λs=>
 e f t b c s u)) (
 my C Q f t h)
theorem DE{C Q}(I)(s:P5 I (wO C Q)){k d e a b c h}(i:I k d e a b c h):wh C Q d e a b c h:=WA.l5 I _ s i
def wC (C:fu)(Q:fx)(j l:V)(h:Hp):Prop:=
 oP (iq j) λb=>
 oP (fH 0 b) λc=>
 dF 3 c h λd=>
 oP (gD 6 d l) λe=>
 oP (gg 6 e h) λf=>
 ij (zC 44 [nS,nZ,nZ,nS,nS,nZ]) h λg m=>
 fm (gB 6 g f m) λn k=>
 dF 3 g k λa=>
 oP (fD a) λi=>
 wG C Q j g a i nZ k
theorem DJ {C:fu}{Q:fx}{a b:V}{h:Hp}(H:wC C Q a b h):my C Q a b h:=by
 rintro ρ rfl rfl;exact WA.of (by kernel_rfl) H
def wK (C:fu)(Q:fx)(d:GR)(u v b c a:V)(h:Hp):Prop:=
 bO .lss 3 a c (
 dX 1 b a h λe=>
 dF 1 v h λf=>
 oP (er .eql 3 f (V.int .i64 2)) λg=>
 oP (jK g (oB (some u) λi=>oB (iq i) λj=>oB (fH 0 j) λk=>oB (fH 3 k) λl=>oB (ev l h) λm=>oB (some e) λn=>oB (gD 6 m n) λo=>oB (fH 4 o) λp=>oB (ev p h) λq=>oB (fD q) λr=>er .neq 3 r nO)) λs=>
 bP s (
 Q bF h) (
 oP (er .add 3 a nO) λt=>
 d u v b c t h)) (
 Q bT h)
theorem Dc{C Q}(I)(s:P5 I (wK C Q)){k d e a b c h}(i:I k d e a b c h):wG C Q d e a b c h:=WA.l5 I _ s i
def z8 (C:fu)(Q:fx)(a0 a1:V)(h:Hp):Prop:=
 bO .eql 3 a1 nZ (
 oP (iq a0) λb=>
 oP (fH 0 b) λc=>
 oP (gg 5 c h) λd=>
 cP C wF [d] h λa f=>
 oP (fD a) λe=>
 wh C Q a0 a1 a e nZ f) (
 my C Q a0 a1 h)
theorem GA{C}(s:C.start=fW){a0 a1 h Q}(k:C.K mn [a0,a1] h=none)(H:z8 C Q a0 a1 h):cP C mn [a0,a1] h Q:=cP.vd t66 s (by unfold P0;exact Tryd.func66) k H
def t67:List (Nat×List Nat):=[]
def xk (C:fu)(Q:fx)(a0:V)(h:Hp):Prop:=
 oP (iq a0) λa=>
 oP (fH 0 a) λb=>
 oP (gg 5 b h) λc=>
 cP C pK [c] h λd e=>
 Q d e
theorem EH{C}(s:C.start=fW){a0 h Q}(k:C.K rr [a0] h=none)(H:xk C Q a0 h):cP C rr [a0] h Q:=cP.vd t67 s (by unfold P0;exact Tryd.func67) k H
def t111:List (Nat×List Nat):=[(19,[0,1,2])]
def pO (C:fu)(Q:fx)(a b c:V)(h:Hp):Prop:=∀ρ:fZ,ρ 0=a->ρ 1=b->ρ 2=c->WA C Tryd.f111 t111 9 [] Q ρ h
def pJ (C:fu)(Q:fx)(a:QB)(e f b:V)(h:Hp):Prop:=
 bO .geq 3 b nZ (
 bO .eql 3 f b (
 Q bT h) (
 dN 7 e h λc=>
 dX 1 c b h λd=>
 a e f d h)) (
 Q bF h)
theorem yl{C Q}(I)(s:P3 I (pJ C Q)){k a b c h}(i:I k a b c h):pO C Q a b c h:=WA.l3 I _ s i
def tJ (C:fu)(Q:fx)(a0 a1 a2:V)(h:Hp):Prop:=
 pO C Q a0 a1 a2 h
theorem Bh{C}(s:C.start=fW){a0 a1 a2 h Q}(k:C.K kS [a0,a1,a2] h=none)(H:tJ C Q a0 a1 a2 h):cP C kS [a0,a1,a2] h Q:=cP.vd t111 s (by unfold P0;exact Tryd.func111) k H
def t96:List (Nat×List Nat):=[(43,[0,2,3,11,12,13])]
def vn (C:fu)(Q:fx)(d e f a b c:V)(h:Hp):Prop:=∀ρ:fZ,ρ 0=d->ρ 2=e->ρ 3=f->ρ 11=a->ρ 12=b->ρ 13=c->WA C Tryd.f96 t96 21 [] Q ρ h
def uZ (C:fu)(Q:fx)(g:Mq)(d i T e f b:V)(h:Hp):Prop:=
 bO .lss 3 b f (
 dX 1 e b h λc=>
 dN 5 d h λj=>
 dX 1 j c h λk=>
 oP (er .eql 3 k i) λl=>
 oP (jK l (oB (some d) λm=>oB (iq m) λn=>oB (fH 6 n) λo=>oB (ev o h) λp=>oB (some c) λq=>oB (gD 1 p q) λr=>oB (ev r h) λs=>oB (some T) λt=>er .geq 3 s t)) λa=>
 oP (fO false a) λu=>
 oP (gV u (some d)) λv=>
 oP (fO false a) λw=>
 oP (gV w (some d)) λx=>
 oP (fO false a) λy=>
 oP (gV y (iq x)) λz=>
 oP (fO false a) λA=>
 oP (gV A (fH 5 z)) λB=>
 oP (fO false a) λD=>
 oP (gV D (ev B h)) λE=>
 oP (fO false a) λF=>
 oP (gV F (some c)) λG=>
 oP (fO false a) λH=>
 oP (gV H (gD 1 E G)) λI=>
 oP (fO false a) λJ=>
 oP (gV J (ev I h)) λK=>
 oP (fO false a) λL=>
 oP (gV L (some i)) λM=>
 oP (fO false a) λN=>
 oP (gC N (some (kS,[v,K,M]))) λO=>wR C O h λP U=>
 oP (pN a (sr .not P)) λR=>
 bP R (
 Q bF U) (
 oP (er .add 3 b nO) λS=>
 g d i T e f S U)) (
 Q bT h)
theorem CJ{C Q}(I)(s:P6 I (uZ C Q)){k d e f a b c h}(i:I k d e f a b c h):vn C Q d e f a b c h:=WA.l6 I _ s i
def yO (C:fu)(Q:fx)(a0 a1 a2 a3:V)(h:Hp):Prop:=
 oP (fD a1) λa=>
 vn C Q a0 a2 a3 a1 a nZ h
theorem FW{C}(s:C.start=fW){a0 a1 a2 a3 h Q}(k:C.K iQ [a0,a1,a2,a3] h=none)(H:yO C Q a0 a1 a2 a3 h):cP C iQ [a0,a1,a2,a3] h Q:=cP.vd t96 s (by unfold P0;exact Tryd.func96) k H
def t97:List (Nat×List Nat):=[(43,[0,2,3,19,20,21])]
def pH (C:fu)(Q:fx)(d e f a b c:V)(h:Hp):Prop:=∀ρ:fZ,ρ 0=d->ρ 2=e->ρ 3=f->ρ 19=a->ρ 20=b->ρ 21=c->WA C Tryd.f97 t97 21 [] Q ρ h
def pb (C:fu)(Q:fx)(f:Mq)(g i j d e b:V)(h:Hp):Prop:=
 bO .lss 3 b e (
 oP (gD 4 d b) λk=>
 oP (gg 4 k h) λl=>
 ij (zC 40 [nZ,nZ,nS,nS]) h λc F=>
 fm (gB 4 c l F) λI B=>
 dF 2 c B λm=>
 cP C iQ [g,m,i,j] B λn D=>
 oP (sr .not n) λa=>
 oP (fO false a) λG=>
 oP (gV G (some g)) λo=>
 oP (fO false a) λH=>
 oP (gV H (fH 3 c)) λp=>
 oP (fO false a) λq=>
 oP (gV q (ev p D)) λr=>
 oP (fO false a) λs=>
 oP (gV s (some i)) λt=>
 oP (fO false a) λu=>
 oP (gV u (some j)) λv=>
 oP (fO false a) λw=>
 oP (gC w (some (iQ,[o,r,t,v]))) λx=>wR C x D λy E=>
 oP (pN a (sr .not y)) λz=>
 bP z (
 Q bF E) (
 oP (er .add 3 b nO) λA=>
 f g i j d e A E)) (
 Q bT h)
theorem yS{C Q}(I)(s:P6 I (pb C Q)){k d e f a b c h}(i:I k d e f a b c h):pH C Q d e f a b c h:=WA.l6 I _ s i
def sR (C:fu)(Q:fx)(a0 a1 a2 a3:V)(h:Hp):Prop:=
 oP (iq a0) λb=>
 oP (fH 0 b) λc=>
 dJ 4 c 1 a1 0 h λa=>
 oP (fD a) λd=>
 pH C Q a0 a2 a3 a d nZ h
theorem A5{C}(s:C.start=fW){a0 a1 a2 a3 h Q}(k:C.K iL [a0,a1,a2,a3] h=none)(H:sR C Q a0 a1 a2 a3 h):cP C iL [a0,a1,a2,a3] h Q:=cP.vd t97 s (by unfold P0;exact Tryd.func97) k H
def t68:List (Nat×List Nat):=[(175,[0,1,5,6,24,25,26]),(1356591,[0,1,5,6,24,25,26,43,44,45]),(3886,[0,1,5,6,24,25,26])]
def uL (C:fu)(Q:fx)(d e f g a b c:V)(h:Hp):Prop:=∀ρ:fZ,ρ 0=d->ρ 1=e->ρ 5=f->ρ 6=g->ρ 24=a->ρ 25=b->ρ 26=c->WA C Tryd.f68 t68 87 [] Q ρ h
def ui (C:fu)(Q:fx)(a:NB)(i j k l b c d e f g:V)(h:Hp):Prop:=∀ρ:fZ,ρ 0=i->ρ 1=j->ρ 5=k->ρ 6=l->ρ 24=b->ρ 25=c->ρ 26=d->ρ 43=e->ρ 44=f->ρ 45=g->WA C Tryd.f68 t68 678295 [λρ h=>a (ρ 0) (ρ 1) (ρ 5) (ρ 6) (ρ 24) (ρ 25) (ρ 26) h] Q ρ h
def m0 (C:fu)(Q:fx)(a:NB)(e f g i b c d:V)(h:Hp):Prop:=∀ρ:fZ,ρ 0=e->ρ 1=f->ρ 5=g->ρ 6=i->ρ 24=b->ρ 25=c->ρ 26=d->WA C Tryd.f68 t68 1943 [λρ h=>a (ρ 0) (ρ 1) (ρ 5) (ρ 6) (ρ 24) (ρ 25) (ρ 26) h] Q ρ h
def um (C:fu)(Q:fx)(j:NB)(d g k t e f b:V)(h:Hp):Prop:=
 bO .lss 3 b f (
 dX 1 e b h λu=>
 oP (iq d) λv=>
 oP (fH 0 v) λw=>
 dF 2 w h λx=>
 oP (gD 6 x u) λy=>
 oP (gg 6 y h) λz=>
 ij (zC 42 [nZ,nZ,nZ,nZ,nS,nZ]) h λi h1=>
 fm (gB 6 i z h1) λvu l=>
 dF 0 i l λA=>
 bO .eql 3 A (V.int .i64 21) (
 dF 4 i l λm=>
 oP (fD m) λB=>
 ui C Q j d g k t e f b m B nZ l) (
 oP (gg 6 i l) λD=>
 cP C sx [D] l λE h3=>
 cP C iQ [d,E,g,b] h3 λF h4=>
 oP (sr .not F) λc=>
 oP (fO false c) λb8=>
 oP (gV b8 (fH 0 i)) λG=>
 oP (fO false c) λb9=>
 oP (gV b9 (ev G h4)) λH=>
 oP (fO false c) λI=>
 oP (gC I (some (nN,[H]))) λJ=>wR C J h4 λK h5=>
 oP (fO false c) λL=>
 oP (gV L (some K)) λa=>
 oP (fO true a) λM=>
 oP (gV M (some d)) λN=>
 oP (fO true a) λO=>
 oP (gV O (fH 5 i)) λP=>
 oP (fO true a) λR=>
 oP (gV R (ev P h5)) λS=>
 oP (fO true a) λT=>
 oP (gV T (some g)) λU=>
 oP (fO true a) λW=>
 oP (gV W (some b)) λX=>
 oP (fO true a) λY=>
 oP (gC Y (some (iL,[N,S,U,X]))) λZ=>wR C Z h5 λaa h6=>
 oP (fO true a) λab=>
 oP (gV ab (sr .not aa)) λac=>
 oP (pN c (lJ a ac bF)) λae=>
 bP ae (
 Q bF h6) (
 m0 C Q j d g k t e f b h6))) (
 dF 1 k h λn=>
 bO .eql 3 n (V.int .i64 2) (
 dF 2 k h λo=>
 ij (iZ 3 1 1 nZ [(0,o)]) h λp h7=>
 cP C iQ [d,p,g,t] h7 λq h8=>
 Q q h8) (
 bO .eql 3 n (V.int .i64 3) (
 dF 5 k h λr=>
 cP C iL [d,r,g,t] h λs h9=>
 Q s h9) (
 Q bT h)))
theorem B3{C Q}(I)(s:P7 I (um C Q)){k d e f g a b c h}(i:I k d e f g a b c h):uL C Q d e f g a b c h:=WA.l7 I _ s i
def ua (C:fu)(Q:fx)(k:NB)(l:HY)(i z j A c d e f g a:V)(h:Hp):Prop:=
 bO .lss 3 a g (
 dX 1 f a h λm=>
 wS (iZ 3 1 1 nZ [(0,m)]) h λn o b=>
 dY 4 j 1 a b λp=>
 oP (iq i) λq=>
 oP (fH 0 q) λr=>
 dF 3 r b λs=>
 dY 4 j 1 a b λt=>
 oP (gD 6 s t) λu=>
 dG 0 u b λv=>
 ((b.get (h.next)=some n/\O.beq n n=true)/\
 cP C iQ [i,o,p,v] b λw x=>
 (b.next<=x.next/\
 bN w (
 Q bF x) (
 oP (er .add 3 a nO) λy=>
 l i z j A c d e f g y x)))) (
 m0 C Q k i z j A c d e h)
theorem BA{C Q a}(I)(s:P10 I (ua C Q a)){k j l m n b c d e f g h}(i:I k j l m n b c d e f g h):ui C Q a j l m n b c d e f g h:=WA.Zl I _ s i
def nj (C:fu)(Q:fx)(a:NB)(f g i j b c d:V)(h:Hp):Prop:=
 oP (er .add 3 d nO) λe=>
 a f g i j b c e h
theorem tG {C:fu}{Q:fx}{a:NB}{e f g i b c d:V}{h:Hp}(H:nj C Q a e f g i b c d h):m0 C Q a e f g i b c d h:=by
 rintro ρ rfl rfl rfl rfl rfl rfl rfl;exact WA.of (by kernel_rfl) H
def xm (C:fu)(Q:fx)(a0 a1:V)(h:Hp):Prop:=
 oP (iq a0) λc=>
 oP (fH 0 c) λd=>
 dF 3 d h λe=>
 oP (gD 6 e a1) λf=>
 oP (gg 6 f h) λg=>
 ij (zC 44 [nS,nZ,nZ,nS,nS,nZ]) h λb l=>
 fm (gB 6 b g l) λm i=>
 dG 0 b i λj=>
 dF 0 b i λa=>
 oP (fD a) λk=>
 uL C Q a0 a1 b j a k nZ i
theorem Et{C}(s:C.start=fW){a0 a1 h Q}(k:C.K lh [a0,a1] h=none)(H:xm C Q a0 a1 h):cP C lh [a0,a1] h Q:=cP.vd t68 s (by unfold P0;exact Tryd.func68) k H
def t31:List (Nat×List Nat):=[]
def Il (C:fu)(Q:fx)(a0:V)(h:Hp):Prop:=
 ij (nP 30 a0) h λe f=>
 dG 2 e f λv7=>
 oP (er .gtr 3 v7 (V.int .i64 3000)) λv8=>
 oP (pN v8 (oB (fH 3 e) λp=>oB (ev p f) λq=>oB (fD q) λr=>er .gtr 3 r (V.int .i64 300))) λs=>
 oP (pN s (oB (fH 4 e) λt=>oB (ev t f) λu=>oB (fD u) λv=>er .gtr 3 v (V.int .i64 1000))) λw=>
 oP (pN w (oB (fH 3 e) λx=>oB (ev x f) λy=>oB (fD y) λz=>er .eql 3 z nZ)) λA=>
 bP A (
 Q bF f) (
 oP (gg 5 e f) λB=>
 oP (fN [nZ,nZ,nS,nS,nS,nS,nS,nS] [(0,5),(5,1),(6,1),(7,1)] [(0,B)]) λD=>
 ij (nP 104 D) f λa h2=>
 dG 4 e h2 λE=>
 cP C jh [a,E,(V.func kY [a] [])] h2 λF h3=>
 oP (sr .not F) λg=>
 oP (fO false g) λb9=>
 oP (gV b9 (some a)) λG=>
 oP (fO false g) λH=>
 oP (gC H (some (mW,[G]))) λI=>wR C I h3 λJ h4=>
 oP (pN g (sr .not J)) λb=>
 oP (fO false b) λi=>
 oP (gV i (some a)) λK=>
 oP (fO false b) λL=>
 oP (gV L (fH 2 e)) λM=>
 oP (fO false b) λN=>
 oP (gV N (ev M h4)) λO=>
 oP (fO false b) λj=>
 oP (gV j (fD O)) λP=>
 oP (fO false b) λk=>
 oP (gV k (some a)) λR=>
 oP (fO false b) λl=>
 oP (gV l (some (V.func jG [R] []))) λS=>
 oP (fO false b) λm=>
 oP (gC m (some (jh,[K,P,S]))) λT=>wR C T h4 λU h5=>
 oP (pN b (sr .not U)) λc=>
 oP (fO false c) λW=>
 oP (gV W (some a)) λX=>
 oP (fO false c) λY=>
 oP (gV Y (fH 3 e)) λZ=>
 oP (fO false c) λaa=>
 oP (gV aa (ev Z h5)) λab=>
 oP (fO false c) λac=>
 oP (gV ac (fD ab)) λae=>
 oP (fO false c) λag=>
 oP (gV ag (some a)) λah=>
 oP (fO false c) λai=>
 oP (gV ai (some (V.func lU [ah] []))) λaj=>
 oP (fO false c) λak=>
 oP (gC ak (some (jh,[X,ae,aj]))) λal=>wR C al h5 λam h6=>
 oP (pN c (sr .not am)) λd=>
 oP (fO false d) λan=>
 oP (gV an (some a)) λao=>
 oP (fO false d) λap=>
 oP (gV ap (fH 3 e)) λaq=>
 oP (fO false d) λar=>
 oP (gV ar (ev aq h6)) λau=>
 oP (fO false d) λaw=>
 oP (gV aw (fD au)) λax=>
 oP (fO false d) λay=>
 oP (gV ay (some a)) λaA=>
 oP (fO false d) λaB=>
 oP (gV aB (some (V.func mn [aA] []))) λaC=>
 oP (fO false d) λaD=>
 oP (gC aD (some (jh,[ao,ax,aC]))) λaE=>wR C aE h6 λaF h7=>
 oP (pN d (sr .not aF)) λaG=>
 bP aG (
 Q bF h7) (
 cP C rr [a] h7 λaH o=>
 oP (fD aH) λaI=>
 dG 3 e o λaJ=>
 bO .neq 3 aI aJ (
 Q bF o) (
 oP (gg 5 e o) λaK=>
 cP C nB [aK] o λaL h9=>
 oP (iq a) λaM=>
 oP (fH 7 aM) λaN=>
 fm (gB 1 aN aL h9) λvu n=>
 dG 3 e n λaO=>
 cP C jh [a,aO,(V.func lh [a] [])] n λaP aQ=>
 Q aP aQ)))
theorem N5{C}(s:C.start=fW){a0 h Q}(k:C.K Aa [a0] h=none)(H:Il C Q a0 h):cP C Aa [a0] h Q:=cP.vd t31 s (by unfold P0;exact Tryd.func31) k H
end
