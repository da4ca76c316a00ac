/- Parts. -/
import Derived.Test.YtpnddokajmjpbaaDoorM14
namespace Go.Proofs.YtpnddokajmjpbaaDoor.Hx
set_option maxRecDepth 100000
noncomputable section
def t82:List (Nat×List Nat):=[(126,[1,3,4,5]),(319,[1,3,4,5])]
def sO (C:Cfg)(Q:QP1)(a b c d:V)(h:Hp):Prop:=∀ρ:Rho,ρ 1=a->ρ 3=b->ρ 4=c->ρ 5=d->WA C Tryd.f82 t82 63 [] Q ρ h
def wF (C:Cfg)(Q:QP1)(a b c d:V)(h:Hp):Prop:=∀ρ:Rho,ρ 1=a->ρ 3=b->ρ 4=c->ρ 5=d->WA C Tryd.f82 t82 159 [] Q ρ h
def xi (C:Cfg)(Q:QP1)(a b c d:V)(h:Hp):Prop:=
 wF C Q a b c d h
theorem AW {C:Cfg}{Q:QP1}{a b c d:V}{h:Hp}(H:xi C Q a b c d h):sO C Q a b c d h:=by
 rintro ρ rfl rfl rfl rfl;exact WA.of (by kernel_rfl) H
def wJ (C:Cfg)(Q:QP1)(c:QP4)(i e f d:V)(h:Hp):Prop:=
 oP (pLen d) λj=>
 bO .gtr 3 j nZ (
 oP (pLen d) λk=>
 oP (hbin .sub 3 k nO) λl=>
 oP (pIx 2 d l) λa=>
 dF 3 i h λm=>
 dN 0 a h λn=>
 dI 6 m n 3 h λg=>
 dN 1 a h λo=>
 oP (pLen g) λp=>
 bO .eql 3 o p (
 dN 0 a h λq=>
 alP (pBS 3 1 1 nZ [(0,q)]) h λr R=>
 valP (happend 3 1 8 f r R) λs O=>
 oP (pLen d) λt=>
 oP (hbin .sub 3 t nO) λu=>
 oP (hsliceV 2 d none (some u) O) λv=>
 c i e s v O) (
 dN 1 a h λw=>
 dX 1 g w h λb=>
 dN 1 a h λx=>
 oP (hbin .add 3 x nO) λy=>
 oP (pNil a) λz=>
 oP (pFA 1 z) λA=>
 valP (pSt 1 A y h) λZ S=>
 oP (pLen e) λB=>
 cP C gJ [b,B] S λD E=>
 oP (pAnd D (oB (some e) λF=>oB (some b) λG=>oB (pIx 1 F G) λH=>oB (pLd H E) λI=>hun .not I)) λJ=>
 bP J (
 oP (pIx 1 e b) λK=>
 valP (pSt 1 K bT E) λP T=>
 oP (pBuild [nZ,nZ] [(0,1),(1,1)] [(0,b),(1,nZ)]) λL=>
 alP (pBS 144 2 1 (V.agg [nZ,nZ]) [(0,L)]) T λM U=>
 valP (happend 144 2 16 d M U) λN W=>
 c i e f N W) (
 c i e f d E))) (
 cP C gY [f] h λX Y=>
 Q f Y)
theorem A7{C Q}(I)(s:P4 I (wJ C Q)){k a b c d h}(i:I k a b c d h):wF C Q a b c d h:=WA.l4 I _ s i
def Ax (C:Cfg)(Q:QP1)(a0:V)(h:Hp):Prop:=
 alP (hbox 30 a0) h λc k=>
 dG 3 c k λb=>
 alP (hmakeSlice 4 1 1 bF b b) k λa d=>
 dG 3 c d λe=>
 bO .gtr 3 e nZ (
 oP (pBuild [nZ,nZ] [(0,1),(1,1)] []) λf=>
 alP (pBS 144 2 1 (V.agg [nZ,nZ]) [(0,f)]) d λg l=>
 valP (happend 144 2 16 nS g l) λi m=>
 oP (pIx 1 a nZ) λj=>
 valP (pSt 1 j bT m) λo n=>
 sO C Q c a nS i n) (
 sO C Q c a nS nS d)
theorem DG{C}(s:C.start=startF){a0 h Q}(k:C.K kI [a0] h=none)(H:Ax C Q a0 h):cP C kI [a0] h Q:=cP.vd t82 s (by unfold P0;exact Tryd.func82) k H
def t83:List (Nat×List Nat):=[(87,[3,13,14,15]),(22935,[3,4,13,14,15,21,22,23]),(498070,[3,4,13,14,15,21,22,23])]
def wC (C:Cfg)(Q:QP1)(d a b c:V)(h:Hp):Prop:=∀ρ:Rho,ρ 3=d->ρ 13=a->ρ 14=b->ρ 15=c->WA C Tryd.f83 t83 43 [] Q ρ h
def wB (C:Cfg)(Q:QP1)(a:QP4)(i j b c d e f g:V)(h:Hp):Prop:=∀ρ:Rho,ρ 3=i->ρ 4=j->ρ 13=b->ρ 14=c->ρ 15=d->ρ 21=e->ρ 22=f->ρ 23=g->WA C Tryd.f83 t83 11467 [λρ h=>a (ρ 3) (ρ 13) (ρ 14) (ρ 15) h] Q ρ h
def rm (C:Cfg)(Q:QP1)(a:QP4)(b:QP8)(j k c d e f g i:V)(h:Hp):Prop:=∀ρ:Rho,ρ 3=j->ρ 4=k->ρ 13=c->ρ 14=d->ρ 15=e->ρ 21=f->ρ 22=g->ρ 23=i->WA C Tryd.f83 t83 249035 [λρ h=>a (ρ 3) (ρ 13) (ρ 14) (ρ 15) h,λρ h=>b (ρ 3) (ρ 4) (ρ 13) (ρ 14) (ρ 15) (ρ 21) (ρ 22) (ρ 23) h] Q ρ h
def xk (C:Cfg)(Q:QP1)(e:QP4)(j b c a:V)(h:Hp):Prop:=
 bO .lss 3 a c (
 oP (pIx 6 b a) λf=>
 oP (pLdA 6 f h) λg=>
 alP (zC 44 [nS,nZ,nZ,nS,nS,nZ]) h λk m=>
 valP (pSt 6 k g m) λn l=>
 dF 3 k l λd=>
 oP (pLen d) λi=>
 wB C Q e j a b c a d i nZ l) (
 Q j h)
theorem BB{C Q}(I)(s:P4 I (xk C Q)){k d a b c h}(i:I k d a b c h):wC C Q d a b c h:=WA.l4 I _ s i
def wq (C:Cfg)(Q:QP1)(b:QP4)(k:QP8)(j l c d e f g a:V)(h:Hp):Prop:=
 bO .lss 3 a g (
 dX 1 f a h λi=>
 oP (pLen j) λm=>
 cP C gJ [i,m] h λn o=>
 bP n (
 dX 1 j i o λp=>
 alP (pBS 3 1 1 nZ [(0,l)]) o λq u=>
 valP (happend 3 1 8 p q u) λr v=>
 oP (pIx 1 j i) λs=>
 valP (pSt 1 s r v) λx w=>
 rm C Q b k j l c d e f g a w) (
 rm C Q b k j l c d e f g a o)) (
 oP (hbin .add 3 e nO) λt=>
 b j c d t h)
theorem BM{C Q a}(I)(s:P8 I (wq C Q a)){k j l b c d e f g h}(i:I k j l b c d e f g h):wB C Q a j l b c d e f g h:=WA.l8 I _ s i
def vW (C:Cfg)(Q:QP1)(j:QP4)(a:QP8)(k l b c d e f g:V)(h:Hp):Prop:=
 oP (hbin .add 3 g nO) λi=>
 a k l b c d e f i h
theorem AG {C:Cfg}{Q:QP1}{a:QP4}{b:QP8}{j k c d e f g i:V}{h:Hp}(H:vW C Q a b j k c d e f g i h):rm C Q a b j k c d e f g i h:=by
 rintro ρ rfl rfl rfl rfl rfl rfl rfl rfl;exact WA.of (by kernel_rfl) H
def Af (C:Cfg)(Q:QP1)(a0:V)(h:Hp):Prop:=
 alP (hbox 30 a0) h λe f=>
 dG 3 e f λa=>
 alP (hmakeSlice 23 1 24 nS a a) f λc g=>
 dF 3 e g λb=>
 oP (pLen b) λd=>
 wC C Q c b d nZ g
theorem DY{C}(s:C.start=startF){a0 h Q}(k:C.K qO [a0] h=none)(H:Af C Q a0 h):cP C qO [a0] h Q:=cP.vd t83 s (by unfold P0;exact Tryd.func83) k H
def t57:List (Nat×List Nat):=[(175,[3,4,5,6,30,31]),(351,[3,4,5,6,38,39,40]),(5631,[3,4,5,10,11]),(370175,[3,4,5,10,11,59,60,61]),(362391039,[3,4,5,10,11,13,14,59,60,61,68,69,70]),(8147019262,[3,4,5,10,11,13,14,59,60,61,68,69,70]),(7972350,[3,4,5,10,11,59,60,61])]
def ru (C:Cfg)(Q:QP1)(c d e f a b:V)(h:Hp):Prop:=∀ρ:Rho,ρ 3=c->ρ 4=d->ρ 5=e->ρ 6=f->ρ 30=a->ρ 31=b->WA C Tryd.f57 t57 87 [] Q ρ h
def rK (C:Cfg)(Q:QP1)(d e f g a b c:V)(h:Hp):Prop:=∀ρ:Rho,ρ 3=d->ρ 4=e->ρ 5=f->ρ 6=g->ρ 38=a->ρ 39=b->ρ 40=c->WA C Tryd.f57 t57 175 [] Q ρ h
def rH (C:Cfg)(Q:QP1)(c d e a b:V)(h:Hp):Prop:=∀ρ:Rho,ρ 3=c->ρ 4=d->ρ 5=e->ρ 10=a->ρ 11=b->WA C Tryd.f57 t57 2815 [] Q ρ h
def rI (C:Cfg)(Q:QP1)(a:QP5)(g i j b c d e f:V)(h:Hp):Prop:=∀ρ:Rho,ρ 3=g->ρ 4=i->ρ 5=j->ρ 10=b->ρ 11=c->ρ 59=d->ρ 60=e->ρ 61=f->WA C Tryd.f57 t57 185087 [λρ h=>a (ρ 3) (ρ 4) (ρ 5) (ρ 10) (ρ 11) h] Q ρ h
def rD (C:Cfg)(Q:QP1)(a:QP5)(b:QP8)(n o p c d e f g i j k l m:V)(h:Hp):Prop:=∀ρ:Rho,ρ 3=n->ρ 4=o->ρ 5=p->ρ 10=c->ρ 11=d->ρ 13=e->ρ 14=f->ρ 59=g->ρ 60=i->ρ 61=j->ρ 68=k->ρ 69=l->ρ 70=m->WA C Tryd.f57 t57 181195519 [λρ h=>a (ρ 3) (ρ 4) (ρ 5) (ρ 10) (ρ 11) h,λρ h=>b (ρ 3) (ρ 4) (ρ 5) (ρ 10) (ρ 11) (ρ 59) (ρ 60) (ρ 61) h] Q ρ h
def i7 (C:Cfg)(Q:QP1)(a:QP5)(b:QP8)(c:QP13)(o p q d e f g i j k l m n:V)(h:Hp):Prop:=∀ρ:Rho,ρ 3=o->ρ 4=p->ρ 5=q->ρ 10=d->ρ 11=e->ρ 13=f->ρ 14=g->ρ 59=i->ρ 60=j->ρ 61=k->ρ 68=l->ρ 69=m->ρ 70=n->WA C Tryd.f57 t57 4073509631 [λρ h=>a (ρ 3) (ρ 4) (ρ 5) (ρ 10) (ρ 11) h,λρ h=>b (ρ 3) (ρ 4) (ρ 5) (ρ 10) (ρ 11) (ρ 59) (ρ 60) (ρ 61) h,λρ h=>c (ρ 3) (ρ 4) (ρ 5) (ρ 10) (ρ 11) (ρ 13) (ρ 14) (ρ 59) (ρ 60) (ρ 61) (ρ 68) (ρ 69) (ρ 70) h] Q ρ h
def kW (C:Cfg)(Q:QP1)(a:QP5)(b:QP8)(i j k c d e f g:V)(h:Hp):Prop:=∀ρ:Rho,ρ 3=i->ρ 4=j->ρ 5=k->ρ 10=c->ρ 11=d->ρ 59=e->ρ 60=f->ρ 61=g->WA C Tryd.f57 t57 3986175 [λρ h=>a (ρ 3) (ρ 4) (ρ 5) (ρ 10) (ρ 11) h,λρ h=>b (ρ 3) (ρ 4) (ρ 5) (ρ 10) (ρ 11) (ρ 59) (ρ 60) (ρ 61) h] Q ρ h
def rG (C:Cfg)(Q:QP1)(d:QP6)(c k e l b a:V)(h:Hp):Prop:=
 bO .lss 3 a b (
 oP (pLd e h) λf=>
 oP (pIx 1 f a) λg=>
 valP (pSt 1 g (V.int .i64 (-1)) h) λn m=>
 oP (hbin .add 3 a nO) λi=>
 d c k e l b i m) (
 oP (pLen c) λj=>
 rK C Q c k e l c j nZ h)
theorem xV{C Q}(I)(s:P6 I (rG C Q)){k c d e f a b h}(i:I k c d e f a b h):ru C Q c d e f a b h:=WA.l6 I _ s i
def rz (C:Cfg)(Q:QP1)(e:QP7)(f q b g c d a:V)(h:Hp):Prop:=
 bO .lss 3 a d (
 dX 1 c a h λi=>
 oP (pLd g h) λj=>
 oP (pIx 1 j i) λk=>
 valP (pSt 1 k a h) λu s=>
 oP (hbin .add 3 a nO) λl=>
 e f q b g c d l s) (
 oP (pLen f) λm=>
 bO .eql 3 m nZ (
 oP (pLd b h) λn=>
 Q n h) (
 oP (pLd b h) λo=>
 oP (pIx 1 o nZ) λp=>
 valP (pSt 1 p nZ h) λr t=>
 rH C Q f q b (V.func fY [] [g,b]) bT t))
theorem xS{C Q}(I)(s:P7 I (rz C Q)){k d e f g a b c h}(i:I k d e f g a b c h):rK C Q d e f g a b c h:=WA.l7 I _ s i
def rL (C:Cfg)(Q:QP1)(e:QP5)(k m f g i:V)(h:Hp):Prop:=
 bP i (
 oP (hsliceV 1 k (some nO) none h) λa=>
 oP (pLen a) λj=>
 rI C Q e k m f g bF a j nZ h) (
 oP (pLd f h) λb=>
 oP (pIx 1 b nZ) λc=>
 valP (pSt 1 c (V.int .i64 (-1)) h) λn l=>
 oP (pLd f l) λd=>
 Q d l)
theorem xQ{C Q}(I)(s:P5 I (rL C Q)){k c d e a b h}(i:I k c d e a b h):rH C Q c d e a b h:=WA.l5 I _ s i
def rC (C:Cfg)(Q:QP1)(b:QP5)(j:QP8)(m k n c d e f a:V)(h:Hp):Prop:=
 bO .lss 3 a f (
 dX 1 e a h λg=>
 dX 1 k g h λi=>
 oP (pLen i) λl=>
 rD C Q b j m k n c d g (V.int .i64 (-1)) e f a i l nZ h) (
 b m k n c d h)
theorem xR{C Q a}(I)(s:P8 I (rC C Q a)){k g j l b c d e f h}(i:I k g j l b c d e f h):rI C Q a g j l b c d e f h:=WA.l8 I _ s i
def rJ (C:Cfg)(Q:QP1)(b:QP5)(c:QP8)(o:QP13)(q r n a k d e f g i l m j:V)(h:Hp):Prop:=
 bO .lss 3 j m (
 dX 1 l j h λp=>
 oP (pLd n h) λs=>
 dX 1 s p h λt=>
 bO .lss 3 t nZ (
 i7 C Q b c o q r n a k d e f g i l m j h) (
 bO .lss 3 e nZ (
 i7 C Q b c o q r n a k d p f g i l m j h) (
 calP C (hcall a [e,p]) h λu z=>
 i7 C Q b c o q r n a k d u f g i l m j z))) (
 oP (pLd n h) λv=>
 dX 1 v d h λw=>
 bO .neq 3 w e (
 oP (pLd n h) λx=>
 oP (pIx 1 x d) λy=>
 valP (pSt 1 y e h) λB A=>
 kW C Q b c q r n a bT f g i A) (
 kW C Q b c q r n a k f g i h))
theorem xW{C Q a b}(I)(s:P13 I (rJ C Q a b)){k p q r c d e f g j l m n o h}(i:I k p q r c d e f g j l m n o h):rD C Q a b p q r c d e f g j l m n o h:=WA.l13 I _ s i
def iU (C:Cfg)(Q:QP1)(n:QP5)(o:QP8)(a:QP13)(p q r b c d e f g i j k l:V)(h:Hp):Prop:=
 oP (hbin .add 3 l nO) λm=>
 a p q r b c d e f g i j k m h
theorem kZ {C:Cfg}{Q:QP1}{a:QP5}{b:QP8}{c:QP13}{o p q d e f g i j k l m n:V}{h:Hp}(H:iU C Q a b c o p q d e f g i j k l m n h):i7 C Q a b c o p q d e f g i j k l m n h:=by
 rintro ρ rfl rfl rfl rfl rfl rfl rfl rfl rfl rfl rfl rfl rfl;exact WA.of (by kernel_rfl) H
def lj (C:Cfg)(Q:QP1)(i:QP5)(a:QP8)(j k l b c d e f:V)(h:Hp):Prop:=
 oP (hbin .add 3 f nO) λg=>
 a j k l b c d e g h
theorem qY {C:Cfg}{Q:QP1}{a:QP5}{b:QP8}{i j k c d e f g:V}{h:Hp}(H:lj C Q a b i j k c d e f g h):kW C Q a b i j k c d e f g h:=by
 rintro ρ rfl rfl rfl rfl rfl rfl rfl rfl;exact WA.of (by kernel_rfl) H
def uH (C:Cfg)(Q:QP1)(a0:V)(h:Hp):Prop:=
 alP (hbox 30 a0) h λe m=>
 oP (pLdA 5 e m) λq=>
 oP (pLdA 5 e m) λf=>
 cP C kI [q] m λr n=>
 (m.next<=n.next/\
 ((pLdA 5 e n=some f)/\
 cP C qO [f] n λs o=>
 (n.next<=o.next/\
 oP (pFA 3 e) λg=>
 oP (pLd g o) λi=>
 oP (pLen i) λj=>
 alO (hmakeSlice 3 1 8 nZ j j) o λt u p=>
 oP (pFA 3 e) λb=>
 oP (pLd b p) λc=>
 oP (pLen c) λk=>
 alO (hmakeSlice 3 1 8 nZ k k) p λd v D=>
 alO (zC 23 [nS]) D λw x E=>
 alO (zC 23 [nS]) E λy F a=>
 ((a.get (E.next)=some y/\O.beq y y=true)/\
 ((a.get (D.next)=some w/\O.beq w w=true)/\
 ((a.get (p.next)=some d/\O.beq d d=true)/\
 ((pLd b a=some c)/\
 ((a.get (o.next)=some t/\O.beq t t=true)/\
 ((pLd g a=some i)/\
 valP (pSt 1 x u a) λH l=>
 (a.next<=l.next/\
 ((l.get (p.next)=some d/\O.beq d d=true)/\
 ((pLd b l=some c)/\
 valP (pSt 1 F v l) λG z=>
 (l.next<=z.next/\
 oP (pLd x z) λA=>
 oP (pLen A) λB=>
 ru C Q r s x F B nZ z)))))))))))))
theorem zN{C}(s:C.start=startF){a0 h Q}(k:C.K lC [a0] h=none)(H:uH C Q a0 h):cP C lC [a0] h Q:=cP.vd t57 s (by unfold P0;exact Tryd.func57) k H
def t84:List (Nat×List Nat):=[(19,[0,1,2,3])]
def qa (C:Cfg)(Q:QP1)(a b c d:V)(h:Hp):Prop:=∀ρ:Rho,ρ 0=a->ρ 1=b->ρ 2=c->ρ 3=d->WA C Tryd.f84 t84 9 [] Q ρ h
def pZ (C:Cfg)(Q:QP1)(a:QP4)(b c d e:V)(h:Hp):Prop:=
 bO .neq 3 b c (
 oP (pLd d h) λf=>
 dX 1 f b h λg=>
 oP (pLd d h) λi=>
 dX 1 i c h λj=>
 bO .gtr 3 g j (
 oP (pLd e h) λk=>
 dX 1 k b h λl=>
 a l c d e h) (
 oP (pLd e h) λm=>
 dX 1 m c h λn=>
 a b n d e h)) (
 Q b h)
theorem wj{C Q}(I)(s:P4 I (pZ C Q)){k a b c d h}(i:I k a b c d h):qa C Q a b c d h:=WA.l4 I _ s i
def sH (C:Cfg)(Q:QP1)(a0 a1 a2 a3:V)(h:Hp):Prop:=
 qa C Q a0 a1 a2 a3 h
theorem yI{C}(s:C.start=startF){a0 a1 a2 a3 h Q}(k:C.K fY [a0,a1,a2,a3] h=none)(H:sH C Q a0 a1 a2 a3 h):cP C fY [a0,a1,a2,a3] h Q:=cP.vd t84 s (by unfold P0;exact Tryd.func84) k H
def t61:List (Nat×List Nat):=[(43,[1,2,7])]
def qF (C:Cfg)(Q:QP1)(a b c:V)(h:Hp):Prop:=∀ρ:Rho,ρ 1=a->ρ 2=b->ρ 7=c->WA C Tryd.f61 t61 21 [] Q ρ h
def qI (C:Cfg)(Q:QP1)(a:QP3)(e f b:V)(h:Hp):Prop:=
 bO .lss 3 b e (
 calP C (hcall f [b]) h λc g=>
 bN c (
 Q bF g) (
 oP (hbin .add 3 b nO) λd=>
 a e f d g)) (
 Q bT h)
theorem wI{C Q}(I)(s:P3 I (qI C Q)){k a b c h}(i:I k a b c h):qF C Q a b c h:=WA.l3 I _ s i
def tZ (C:Cfg)(Q:QP1)(a0 a1 a2:V)(h:Hp):Prop:=
 qF C Q a1 a2 nZ h
theorem zp{C}(s:C.start=startF){a0 a1 a2 h Q}(k:C.K ge [a0,a1,a2] h=none)(H:tZ C Q a0 a1 a2 h):cP C ge [a0,a1,a2] h Q:=cP.vd t61 s (by unfold P0;exact Tryd.func61) k H
def t89:List (Nat×List Nat):=[(43,[0,7,8,9]),(56522,[0,7,8,9,31])]
def pi (C:Cfg)(Q:QP1)(a b c d:V)(h:Hp):Prop:=∀ρ:Rho,ρ 0=a->ρ 7=b->ρ 8=c->ρ 9=d->WA C Tryd.f89 t89 21 [] Q ρ h
def gw (C:Cfg)(Q:QP1)(a:QP4)(c d e f b:V)(h:Hp):Prop:=∀ρ:Rho,ρ 0=c->ρ 7=d->ρ 8=e->ρ 9=f->ρ 31=b->WA C Tryd.f89 t89 28261 [λρ h=>a (ρ 0) (ρ 7) (ρ 8) (ρ 9) h] Q ρ h
def pP (C:Cfg)(Q:QP1)(a:QP4)(c f g d:V)(h:Hp):Prop:=
 bO .lss 3 d g (
 dX 1 f d h λi=>
 oP (pNil c) λm=>
 oP (pFA 0 m) λn=>
 dG 2 n h λo=>
 cP C gJ [i,o] h λp e=>
 bN p (
 Q bF e) (
 oP (pNil c) λq=>
 oP (pFA 0 q) λr=>
 dJ 2 r 6 i 0 e λb=>
 oP (hbin .eql 3 b (V.int .i64 19)) λj=>
 bP j (
 gw C Q a c f g d j e) (
 oP (hbin .eql 3 b (V.int .i64 20)) λk=>
 bP k (
 gw C Q a c f g d k e) (
 oP (hbin .eql 3 b (V.int .i64 22)) λl=>
 bP l (
 gw C Q a c f g d l e) (
 oP (hbin .eql 3 b (V.int .i64 23)) λs=>
 gw C Q a c f g d s e))))) (
 Q bT h)
theorem vC{C Q}(I)(s:P4 I (pP C Q)){k a b c d h}(i:I k a b c d h):pi C Q a b c d h:=WA.l4 I _ s i
def nN (C:Cfg)(Q:QP1)(a:QP4)(d e f g b:V)(h:Hp):Prop:=
 bP b (
 Q bF h) (
 oP (hbin .add 3 g nO) λc=>
 a d e f c h)
theorem uF {C:Cfg}{Q:QP1}{a:QP4}{c d e f b:V}{h:Hp}(H:nN C Q a c d e f b h):gw C Q a c d e f b h:=by
 rintro ρ rfl rfl rfl rfl rfl;exact WA.of (by kernel_rfl) H
def rM (C:Cfg)(Q:QP1)(a0 a1:V)(h:Hp):Prop:=
 oP (pLen a1) λa=>
 pi C Q a0 a1 a nZ h
theorem xP{C}(s:C.start=startF){a0 a1 h Q}(k:C.K fQ [a0,a1] h=none)(H:rM C Q a0 a1 h):cP C fQ [a0,a1] h Q:=cP.vd t89 s (by unfold P0;exact Tryd.func89) k H
def t62:List (Nat×List Nat):=[(175,[0,27,28,29])]
def pM (C:Cfg)(Q:QP1)(d a b c:V)(h:Hp):Prop:=∀ρ:Rho,ρ 0=d->ρ 27=a->ρ 28=b->ρ 29=c->WA C Tryd.f62 t62 87 [] Q ρ h
def pH (C:Cfg)(Q:QP1)(i:QP4)(j d e c:V)(h:Hp):Prop:=
 bO .lss 3 c e (
 oP (pIx 4 d c) λk=>
 oP (pLdA 4 k h) λl=>
 alP (zC 40 [nZ,nZ,nS,nS]) h λf O=>
 valP (pSt 4 f l O) λP g=>
 dG 2 f g λm=>
 oP (hbin .gtr 3 m (V.int .i64 40)) λn=>
 oP (pOr n (oB (pFA 3 f) λo=>oB (pLd o g) λp=>oB (pLen p) λq=>hbin .gtr 3 q (V.int .i64 60))) λa=>
 oP (pGd false a) λr=>
 oP (gV r (some j)) λs=>
 oP (pGd false a) λt=>
 oP (gV t (pFA 2 f)) λu=>
 oP (pGd false a) λv=>
 oP (gV v (pLd u g)) λw=>
 oP (pGd false a) λx=>
 oP (gC x (some (fQ,[s,w]))) λy=>cgP C y g λz M=>
 oP (pOr a (hun .not z)) λb=>
 oP (pGd false b) λA=>
 oP (gV A (some j)) λB=>
 oP (pGd false b) λD=>
 oP (gV D (pFA 3 f)) λE=>
 oP (pGd false b) λF=>
 oP (gV F (pLd E M)) λG=>
 oP (pGd false b) λH=>
 oP (gC H (some (fQ,[B,G]))) λI=>cgP C I M λJ N=>
 oP (pOr b (hun .not J)) λK=>
 bP K (
 Q bF N) (
 oP (hbin .add 3 c nO) λL=>
 i j d e L N)) (
 Q bT h)
theorem vm{C Q}(I)(s:P4 I (pH C Q)){k d a b c h}(i:I k d a b c h):pM C Q d a b c h:=WA.l4 I _ s i
def rE (C:Cfg)(Q:QP1)(a0 a1:V)(h:Hp):Prop:=
 oP (pNil a0) λp=>
 oP (pFA 0 p) λd=>
 dF 4 d h λe=>
 oP (pIx 1 e a1) λf=>
 oP (pLdA 1 f h) λg=>
 alP (zC 38 [nS]) h λc q=>
 valP (pSt 1 c g q) λr a=>
 dG 0 c a λi=>
 oP (hbin .eql 3 i nZ) λj=>
 oP (pOr j (oB (pFA 0 c) λk=>oB (pLd k a) λl=>oB (pLen l) λm=>hbin .gtr 3 m (V.int .i64 30))) λn=>
 bP n (
 Q bF a) (
 dF 0 c a λb=>
 oP (pLen b) λo=>
 pM C Q a0 b o nZ a)
theorem xU{C}(s:C.start=startF){a0 a1 h Q}(k:C.K iz [a0,a1] h=none)(H:rE C Q a0 a1 h):cP C iz [a0,a1] h Q:=cP.vd t62 s (by unfold P0;exact Tryd.func62) k H
def t63:List (Nat×List Nat):=[(87,[0,36,37]),(351,[0,4,51,52,53]),(190047,[0,4,5,7,51,52,53,59,60,61])]
def oZ (C:Cfg)(Q:QP1)(c a b:V)(h:Hp):Prop:=∀ρ:Rho,ρ 0=c->ρ 36=a->ρ 37=b->WA C Tryd.f63 t63 43 [] Q ρ h
def oU (C:Cfg)(Q:QP1)(d e a b c:V)(h:Hp):Prop:=∀ρ:Rho,ρ 0=d->ρ 4=e->ρ 51=a->ρ 52=b->ρ 53=c->WA C Tryd.f63 t63 175 [] Q ρ h
def pt (C:Cfg)(Q:QP1)(a:QP5)(i j k l b c d e f g:V)(h:Hp):Prop:=∀ρ:Rho,ρ 0=i->ρ 4=j->ρ 5=k->ρ 7=l->ρ 51=b->ρ 52=c->ρ 53=d->ρ 59=e->ρ 60=f->ρ 61=g->WA C Tryd.f63 t63 95023 [λρ h=>a (ρ 0) (ρ 4) (ρ 51) (ρ 52) (ρ 53) h] Q ρ h
def pw (C:Cfg)(Q:QP1)(e:QP3)(d b a:V)(h:Hp):Prop:=
 bO .lss 3 a b (
 dN 5 d h λf=>
 oP (pIx 1 f a) λg=>
 valP (pSt 1 g (V.int .i64 (-1)) h) λn m=>
 oP (hbin .add 3 a nO) λi=>
 e d b i m) (
 oP (pNil d) λj=>
 oP (pFA 0 j) λk=>
 dF 3 k h λc=>
 oP (pLen c) λl=>
 oU C Q d nZ c l nZ h)
theorem vf{C Q}(I)(s:P3 I (pw C Q)){k c a b h}(i:I k c a b h):oZ C Q c a b h:=WA.l3 I _ s i
def pb (C:Cfg)(Q:QP1)(j:QP5)(n o b c a:V)(h:Hp):Prop:=
 bO .lss 3 a c (
 oP (pIx 6 b a) λk=>
 oP (pLdA 6 k h) λl=>
 alP (zC 44 [nS,nZ,nZ,nS,nS,nZ]) h λp r=>
 valP (pSt 6 p l r) λs q=>
 dF 0 p q λd=>
 oP (pLen d) λm=>
 pt C Q j n o a bT b c a d m nZ q) (
 oP (pNil n) λe=>
 oP (pFA 0 e) λf=>
 dG 2 f h λg=>
 oP (hbin .eql 3 o g) λi=>
 Q i h)
theorem vU{C Q}(I)(s:P5 I (pb C Q)){k d e a b c h}(i:I k d e a b c h):oU C Q d e a b c h:=WA.l5 I _ s i
def pC (C:Cfg)(Q:QP1)(D:QP5)(E:QP10)(d x4 F x7 g i j k l b:V)(h:Hp):Prop:=
 bO .lss 3 b l (
 dX 1 k b h λa=>
 oP (pNil d) λG=>
 oP (pFA 0 G) λH=>
 dG 2 H h λI=>
 cP C gJ [a,I] h λJ c=>
 oP (hun .not J) λK=>
 oP (pOr K (oB (some d) λL=>oB (pNil L) λM=>oB (pFA 5 M) λN=>oB (pLd N c) λO=>oB (some a) λP=>oB (pIx 1 O P) λR=>oB (pLd R c) λS=>hbin .geq 3 S nZ)) λT=>
 bP T (
 Q bF c) (
 oP (pNil d) λU=>
 oP (pFA 0 U) λW=>
 dJ 2 W 6 a 0 c λe=>
 oP (hbin .eql 3 e (V.int .i64 21)) λX=>
 oP (pOr X (oB (some e) λY=>hbin .eql 3 Y nO)) λf=>
 oP (pAnd f (oB (some x7) λm=>hun .not m)) λn=>
 oP (pOr n (oB (some e) λo=>oB (hbin .eql 3 o nO) λp=>oB (some F) λq=>oB (hbin .eql 3 q nZ) λr=>oB (hbin .neq 4 p r) λs=>oB (some s) λt=>pAnd t (some f))) λu=>
 bP u (
 Q bF c) (
 dN 5 d c λv=>
 dN 6 d c λw=>
 oP (pIx 1 v a) λx=>
 valP (pSt 1 x F c) λvu Z=>
 (c.next<=Z.next/\
 oP (pIx 1 w a) λy=>
 valP (pSt 1 y b Z) λaa h3=>
 (Z.next<=h3.next/\
 oP (hbin .add 3 x4 nO) λz=>
 oP (hbin .add 3 b nO) λA=>
 E d z F f g i j k l A h3))))) (
 oP (hbin .add 3 j nO) λB=>
 D d x4 g i B h)
theorem vL{C Q a}(I)(s:P10 I (pC C Q a)){k j l m n b c d e f g h}(i:I k j l m n b c d e f g h):pt C Q a j l m n b c d e f g h:=WA.l10 I _ s i
def rB (C:Cfg)(Q:QP1)(a0:V)(h:Hp):Prop:=
 oP (pNil a0) λl=>
 oP (pFA 0 l) λm=>
 oP (pFA 2 m) λc=>
 oP (pLd c h) λd=>
 oP (pLen d) λe=>
 alO (hmakeSlice 3 1 8 nZ e e) h λn o j=>
 oP (pNil a0) λp=>
 oP (pFA 0 p) λq=>
 oP (pFA 2 q) λf=>
 oP (pLd f j) λg=>
 oP (pLen g) λi=>
 alO (hmakeSlice 3 1 8 nZ i i) j λa r b=>
 oP (pNil a0) λs=>
 oP (pFA 5 s) λt=>
 ((b.get (j.next)=some a/\O.beq a a=true)/\
 ((pLd f b=some g)/\
 ((b.get (h.next)=some n/\O.beq n n=true)/\
 ((pLd c b=some d)/\
 valP (pSt 1 t o b) λA k=>
 (b.next<=k.next/\
 oP (pNil a0) λu=>
 oP (pFA 6 u) λv=>
 ((k.get (j.next)=some a/\O.beq a a=true)/\
 valP (pSt 1 v r k) λz w=>
 (k.next<=w.next/\
 oP (pNil a0) λx=>
 dG 5 x w λy=>
 oZ C Q a0 y nZ w)))))))
theorem xX{C}(s:C.start=startF){a0 h Q}(k:C.K jv [a0] h=none)(H:rB C Q a0 h):cP C jv [a0] h Q:=cP.vd t63 s (by unfold P0;exact Tryd.func63) k H
section
variable (C:Cfg)(Q:X->Rho->Hp->Prop)(ρ:Rho)(h:Hp)
def k64:=bodyOf Tryd.f64
def k64R0:=k64.r
def k64R1:=k64.r.r
def k64R2:=k64.r.r.l.r
def k64R3:=k64.r.r.r
def Ku:=andThen (Wp C 94 k64R3 Q) Q
def k64R4:=k64.r.r.l.r.l.r
def k64R5:=k64.r.r.r.l.r
def k64R6:=k64.r.r.r.r
def q94:=andThen (Wp C 94 k64R6 Q) Q
def k64R7:=k64.r.r.r.l.r.l.r
def Ke (C:Cfg)(Q:XQ):XQ:=blockQ 0 Q
def k64R8:=k64.r.r.r.r.r
def k64R9:=k64.r.r.r.l.r.l.r.l.r
def k64R10:=k64.r.r.r.l.r.l.r.r.r
def k64R11:=k64.r.r.r.l.r.l.r.r.r.l.r
def k64R12:=k64.r.r.r.l.r.l.r.r.r.r.r
def k64R13:=k64.r.r.r.l.r.l.r.r.r.r.r.l.r
theorem e64:codeR C 94 k64 Q ρ h=(oP (some (V.bool false)) λa=>
 Wp C 94 k64R0 Q (rset ρ 4 a) h):=by kernel_rfl
theorem e64R0:codeR C 94 k64R0 Q ρ h=(oP (some (ρ 0)) λe=>
 oP (pNil e) λf=>
 oP (pFA 0 f) λg=>
 oP (pFA 2 g) λi=>
 oP (pLd i h) λa=>
 oP (some (ρ 1)) λb=>
 oP (pIx 6 a b) λc=>
 oP (pLdA 6 c h) λd=>
 alP (some (.cells 42 1 true false [(V.int .i64 0),(V.int .i64 0),(V.int .i64 0),(V.int .i64 0),V.nilSlice,(V.int .i64 0)],λl=> .ptr l 0)) h λj k=>
 valP (pSt 6 j d k) λn m=>
 Wp C 94 k64R1 Q (rset (rset (rset (rset (rset (rset (rset (rset (rset ρ 6 e) 7 f) 8 g) 9 i) 10 a) 11 b) 12 c) 13 d) 5 j) m):=by kernel_rfl
theorem e64R1:codeR C 94 k64R1 Q ρ h=(oP (pFA 0 (ρ 5)) λd=>
 oP (pLd d h) λs=>
 ((pLd d h=some s)/\
 ((pFA 0 (ρ 5)=some d)/\
 dcP C vF [s] h λt D=>
 (h.next<=D.next/\
 oP (hbin .eql 9 t (V.str [])) λe=>
 oP (some e) λb=>
 oP (pGd false b) λW=>
 oP (gV W (some (ρ 0))) λf=>
 oP (pGd false b) λb6=>
 oP (gV b6 (pLdA 6 (ρ 5) D)) λu=>
 ((gT b6 (pLdA 6 (ρ 5) D=some u))/\
 ((gT W (some (ρ 0)=some f))/\
 ((some e=some b)/\
 ((hbin .eql 9 t (V.str [])=some e)/\
 oP (pGd false b) λb7=>
 oP (gC b7 (some (nz,[u]))) λx7=>cgP C x7 D λE X=>
 (D.next<=X.next/\
 ((gT W (some (ρ 0)=some f))/\
 oP (pGd false b) λb8=>
 oP (gC b8 (some (fQ,[f,E]))) λx8=>cgP C x8 X λv F=>
 (X.next<=F.next/\
 oP (pGd false b) λb9=>
 oP (gV b9 (hun .not v)) λg=>
 oP (pPick b (V.bool true) g) λi=>
 oP (some i) λc=>
 oP (pGd false c) λG=>
 oP (gV G (pFA 0 (ρ 5))) λj=>
 oP (pGd false c) λH=>
 oP (gV H (pLd j F)) λw=>
 ((gT H (pLd j F=some w))/\
 ((gT G (pFA 0 (ρ 5)=some j))/\
 ((some i=some c)/\
 ((pPick b (V.bool true) g=some i)/\
 ((gT b9 (hun .not v=some g))/\
 oP (pGd false c) λY=>
 oP (gC Y (some (jW,[w]))) λZ=>cgP C Z F λx y=>
 (F.next<=y.next/\
 oP (pGd false c) λI=>
 oP (gV I (some x)) λa=>
 oP (pGd true a) λJ=>
 oP (gV J (pFA 5 (ρ 5))) λk=>
 oP (pGd true a) λK=>
 oP (gV K (pLd k y)) λz=>
 oP (pGd true a) λL=>
 oP (gV L (some (ρ 0))) λl=>
 oP (pGd true a) λM=>
 oP (gV M (pNil l)) λm=>
 oP (pGd true a) λN=>
 oP (gV N (pFA 0 m)) λn=>
 oP (pGd true a) λO=>
 oP (gV O (pFA 4 n)) λo=>
 oP (pGd true a) λP=>
 oP (gV P (pLd o y)) λp=>
 oP (pGd true a) λR=>
 oP (gV R (pLen p)) λA=>
 ((gT R (pLen p=some A))/\
 ((gT P (pLd o y=some p))/\
 ((gT O (pFA 4 n=some o))/\
 ((gT N (pFA 0 m=some n))/\
 ((gT M (pNil l=some m))/\
 ((gT L (some (ρ 0)=some l))/\
 ((gT K (pLd k y=some z))/\
 ((gT J (pFA 5 (ρ 5)=some k))/\
 ((gT I (some x=some a))/\
 oP (pGd true a) λaa=>
 oP (gC aa (some (gJ,[z,A]))) λab=>cgP C ab y λB h5=>
 (y.next<=h5.next/\
 oP (pGd true a) λS=>
 oP (gV S (hun .not B)) λq=>
 oP (pGd false c) λT=>
 oP (gV T (pPick a q (V.bool false))) λr=>
 oP (pPick c (V.bool true) r) λU=>
 ((pPick c (V.bool true) r=some U)/\
 ((gT T (pPick a q (V.bool false)=some r))/\
 ((gT S (hun .not B=some q))/\
 Wp C 94 k64R2 (Ku C Q) (rset (rset (rset (rset (rset (rset (rset (rset (rset (rset (rset (rset (rset (rset (rset (rset (rset (rset (rset (rset (rset (rset (rset (rset (rset (rset (rset (rset ρ 14 d) 15 s) 16 t) 17 e) 18 b) 19 f) 20 u) 21 E) 22 v) 23 g) 24 i) 25 c) 26 j) 27 w) 28 x) 29 a) 30 k) 31 z) 32 l) 33 m) 34 n) 35 o) 36 p) 37 A) 38 B) 39 q) 40 r) 41 U) h5)))))))))))))))))))))))))))))):=by kernel_rfl
theorem e64R3:codeR C 94 k64R3 Q ρ h=(oP (pFA 0 (ρ 5)) λa=>
 oP (pLd a h) λb=>
 Wp C 94 k64R5 (q94 C Q) (rset (rset ρ 42 a) 43 b) h):=by kernel_rfl
theorem e64R2:codeR C 94 k64R2 Q ρ h=(oP (some (ρ 41)) λc=>
 bP c (
 oP (some (V.bool false)) λa=>
 Wp C 94 k64R4 Q (rset ρ 4 a) h) (
 Q .normal ρ h)):=by kernel_rfl
theorem e64R6:codeR C 94 k64R6 Q ρ h=(oP (some (V.bool true)) λa=>
 Wp C 94 k64R8 Q (rset ρ 4 a) h):=by kernel_rfl
theorem e64R5:codeR C 94 k64R5 Q ρ h=(oP (hbin .eql 3 (ρ 43) (V.int .i64 20)) λa=>
 oP (some a) λb=>
 Wp C 94 k64R7 (Ke C Q) (rset (rset ρ 45 a) 44 b) h):=by kernel_rfl
theorem e64R8:codeR C 94 k64R8 Q ρ h=(Q .ret ρ h):=by kernel_rfl
theorem e64R4:codeR C 94 k64R4 Q ρ h=(Q .ret ρ h):=by kernel_rfl
theorem e64R7:codeR C 94 k64R7 Q ρ h=(oP (some (ρ 44)) λc=>
 bP c (
 oP (pFA 4 (ρ 5)) λa=>
 oP (pLd a h) λb=>
 oP (pLen b) λd=>
 oP (hbin .eql 3 d (V.int .i64 1)) λe=>
 oP (some e) λi=>
 Wp C 94 k64R9 Q (rset (rset (rset (rset (rset ρ 46 a) 47 b) 48 d) 49 e) 4 i) h) (
 oP (hbin .eql 3 (ρ 43) (V.int .i64 21)) λf=>
 oP (some f) λg=>
 Wp C 94 k64R10 Q (rset (rset ρ 51 f) 50 g) h)):=by kernel_rfl
theorem e64R9:codeR C 94 k64R9 Q ρ h=(Q .ret ρ h):=by kernel_rfl
theorem e64R10:codeR C 94 k64R10 Q ρ h=(oP (some (ρ 50)) λc=>
 bP c (
 oP (pFA 4 (ρ 5)) λa=>
 oP (pLd a h) λb=>
 oP (pLen b) λd=>
 oP (some (ρ 0)) λe=>
 oP (pNil e) λf=>
 oP (pFA 0 f) λg=>
 oP (pFA 3 g) λi=>
 oP (pLd i h) λj=>
 oP (some (ρ 0)) λk=>
 oP (pNil k) λl=>
 oP (pFA 5 l) λm=>
 oP (pLd m h) λn=>
 oP (some (ρ 1)) λo=>
 oP (pIx 1 n o) λp=>
 oP (pLd p h) λq=>
 oP (pIx 6 j q) λr=>
 oP (pFA 4 r) λs=>
 oP (pLd s h) λt=>
 oP (pLen t) λu=>
 oP (hbin .eql 3 d u) λv=>
 oP (some v) λy=>
 ((some v=some y)/\
 ((hbin .eql 3 d u=some v)/\
 ((pLen t=some u)/\
 ((pLd s h=some t)/\
 ((pFA 4 r=some s)/\
 ((pIx 6 j q=some r)/\
 ((pLd p h=some q)/\
 ((pIx 1 n o=some p)/\
 ((some (ρ 1)=some o)/\
 ((pLd m h=some n)/\
 ((pFA 5 l=some m)/\
 ((pNil k=some l)/\
 ((some (ρ 0)=some k)/\
 ((pLd i h=some j)/\
 ((pFA 3 g=some i)/\
 ((pFA 0 f=some g)/\
 ((pNil e=some f)/\
 ((some (ρ 0)=some e)/\
 ((pLen b=some d)/\
 ((pLd a h=some b)/\
 ((pFA 4 (ρ 5)=some a)/\
 Wp C 94 k64R11 Q (rset (rset (rset (rset (rset (rset (rset (rset (rset (rset (rset (rset (rset (rset (rset (rset (rset (rset (rset (rset (rset ρ 52 a) 53 b) 54 d) 55 e) 56 f) 57 g) 58 i) 59 j) 60 k) 61 l) 62 m) 63 n) 64 o) 65 p) 66 q) 67 r) 68 s) 69 t) 70 u) 71 v) 4 y) h)))))))))))))))))))))) (
 oP (hbin .eql 3 (ρ 43) (V.int .i64 1)) λw=>
 oP (some w) λx=>
 Wp C 94 k64R12 Q (rset (rset ρ 73 w) 72 x) h)):=by kernel_rfl
theorem e64R11:codeR C 94 k64R11 Q ρ h=(Q .ret ρ h):=by kernel_rfl
theorem e64R12:codeR C 94 k64R12 Q ρ h=(oP (some (ρ 72)) λc=>
 bP c (
 oP (pFA 3 (ρ 5)) λd=>
 oP (pLd d h) λe=>
 oP (hbin .geq 2 e (V.int .i64 0)) λf=>
 oP (some f) λb=>
 oP (pGd true b) λH=>
 oP (gV H (pFA 3 (ρ 5))) λg=>
 oP (pGd true b) λI=>
 oP (gV I (pLd g h)) λi=>
 oP (pGd true b) λJ=>
 oP (gV J (hbin .lss 2 i (V.int .i64 40))) λj=>
 oP (pPick b j (V.bool false)) λk=>
 oP (some k) λa=>
 oP (pGd true a) λK=>
 oP (gV K (some (ρ 0))) λl=>
 oP (pGd true a) λw=>
 oP (gV w (pNil l)) λm=>
 oP (pGd true a) λx=>
 oP (gV x (pFA 0 m)) λn=>
 oP (pGd true a) λy=>
 oP (gV y (pFA 2 n)) λo=>
 oP (pGd true a) λz=>
 oP (gV z (pLd o h)) λp=>
 oP (pGd true a) λA=>
 oP (gV A (some (ρ 1))) λq=>
 oP (pGd true a) λB=>
 oP (gV B (hsliceV 6 p none (some q) h)) λr=>
 oP (pGd true a) λD=>
 oP (gV D (some (V.func gc [] [(ρ 5)]))) λs=>
 oP (pGd true a) λE=>
 oP (gC E (some (fo,[r,s]))) λF=>cgP C F h λt L=>
 oP (pGd true a) λG=>
 oP (gV G (hun .not t)) λu=>
 oP (pPick a u (V.bool false)) λv=>
 oP (some v) λM=>
 Wp C 94 k64R13 Q (rset (rset (rset (rset (rset (rset (rset (rset (rset (rset (rset (rset (rset (rset (rset (rset (rset (rset (rset (rset (rset ρ 74 d) 75 e) 76 f) 77 b) 78 g) 79 i) 80 j) 81 k) 82 a) 83 l) 84 m) 85 n) 86 o) 87 p) 88 q) 89 r) 90 s) 91 t) 92 u) 93 v) 4 M) L) (
 Q .normal ρ h)):=by kernel_rfl
theorem e64R13:codeR C 94 k64R13 Q ρ h=(Q .ret ρ h):=by kernel_rfl
theorem g64 {C:Cfg}(hs:C.start=startF)(a0 a1:V){h:Hp}{Q:QP1}(a:C.K gD [a0,a1] h=none)(H:codeR C 94 k64 (bodyQ [.tmp 4] Q) (argsR [a0,a1]) h):cP C gD [a0,a1] h Q:=
 cP.funcN hs (show P0.funcs[64]? =some Tryd.f64 by unfold P0;exact Tryd.func64) (by kernel_rfl) (by kernel_rfl) (by kernel_rfl) a (wAZ rfl) (Wp.code _ H)
def pK (C:Cfg)(Q:QP1)(a0 a1:V)(h:Hp):Prop:=
 oP (pNil a0) λv7=>
 oP (pFA 0 v7) λv8=>
 dF 2 v8 h λs=>
 oP (pIx 6 s a1) λt=>
 oP (pLdA 6 t h) λu=>
 alP (zC 42 [nZ,nZ,nZ,nZ,nS,nZ]) h λd h1=>
 valP (pSt 6 d u h1) λvu v=>
 dF 0 d v λw=>
 cP C vF [w] v λx q=>
 (v.next<=q.next/\
 oP (hbin .eql 9 x (V.str [])) λe=>
 oP (pGd false e) λb5=>
 oP (gV b5 (some a0)) λy=>
 oP (pGd false e) λb6=>
 oP (gV b6 (pLdA 6 d q)) λz=>
 oP (pGd false e) λb7=>
 oP (gC b7 (some (nz,[z]))) λy7=>cgP C y7 q λA B=>
 (q.next<=B.next/\
 oP (pGd false e) λb8=>
 oP (gC b8 (some (fQ,[y,A]))) λy8=>cgP C y8 B λD r=>
 (B.next<=r.next/\
 oP (pOr e (hun .not D)) λf=>
 oP (pGd false f) λE=>
 oP (gV E (pFA 0 d)) λF=>
 oP (pGd false f) λG=>
 oP (gV G (pLd F r)) λH=>
 oP (pGd false f) λI=>
 oP (gC I (some (jW,[H]))) λJ=>cgP C J r λK o=>
 (r.next<=o.next/\
 oP (pGd false f) λL=>
 oP (gV L (some K)) λa=>
 oP (pGd true a) λM=>
 oP (gV M (pFA 5 d)) λN=>
 oP (pGd true a) λO=>
 oP (gV O (pLd N o)) λP=>
 oP (pGd true a) λR=>
 oP (gV R (some a0)) λS=>
 oP (pGd true a) λT=>
 oP (gV T (pNil S)) λU=>
 oP (pGd true a) λW=>
 oP (gV W (pFA 0 U)) λX=>
 oP (pGd true a) λY=>
 oP (gV Y (pFA 4 X)) λZ=>
 oP (pGd true a) λaa=>
 oP (gV aa (pLd Z o)) λab=>
 oP (pGd true a) λac=>
 oP (gV ac (pLen ab)) λae=>
 oP (pGd true a) λag=>
 oP (gC ag (some (gJ,[P,ae]))) λah=>cgP C ah o λai c=>
 (o.next<=c.next/\
 oP (pGd true a) λaj=>
 oP (gV aj (hun .not ai)) λal=>
 oP (pOr f (pPick a al bF)) λam=>
 bP am (
 Q bF c) (
 dF 0 d c λg=>
 bO .eql 3 g (V.int .i64 20) (
 dG 4 d c λan=>
 oP (hbin .eql 3 an nO) λao=>
 Q ao c) (
 bO .eql 3 g (V.int .i64 21) (
 dG 4 d c λap=>
 oP (pNil a0) λaq=>
 oP (pFA 0 aq) λar=>
 dF 3 ar c λau=>
 dN 5 a0 c λaw=>
 dX 1 aw a1 c λax=>
 oP (pIx 6 au ax) λay=>
 dG 4 ay c λaA=>
 oP (hbin .eql 3 ap aA) λaB=>
 Q aB c) (
 bO .eql 3 g nO (
 dF 3 d c λaC=>
 oP (hbin .geq 2 aC nZ) λaD=>
 oP (pAnd aD (oB (pFA 3 d) λaE=>oB (pLd aE c) λaF=>hbin .lss 2 aF (V.int .i64 40))) λb=>
 oP (pGd true b) λp=>
 oP (gV p (some a0)) λaG=>
 oP (pGd true b) λaH=>
 oP (gV aH (pNil aG)) λaI=>
 oP (pGd true b) λaJ=>
 oP (gV aJ (pFA 0 aI)) λaK=>
 oP (pGd true b) λi=>
 oP (gV i (pFA 2 aK)) λaL=>
 oP (pGd true b) λj=>
 oP (gV j (pLd aL c)) λaM=>
 oP (pGd true b) λk=>
 oP (gV k (some a1)) λaN=>
 oP (pGd true b) λl=>
 oP (gV l (hsliceV 6 aM none (some aN) c)) λaO=>
 oP (pGd true b) λm=>
 oP (gV m (some (V.func gc [] [d]))) λaP=>
 oP (pGd true b) λn=>
 oP (gC n (some (fo,[aO,aP]))) λaQ=>cgP C aQ c λaR h8=>
 oP (pAnd b (hun .not aR)) λaS=>
 Q aS h8) (
 Q bT c)))))))))
theorem yZ {C:Cfg}(hs:C.start=startF){a0 a1:V}{h:Hp}{Q:QP1}(hk:C.K gD [a0,a1] h=none)(H:pK C Q a0 a1 h):cP C gD [a0,a1] h Q:=by
 unfold pK at H;exact g64 hs _ _ hk ((e64 _ _ _ _).mpr (oSm (Wp.of (e64R0 _ _ _ _) (oSm (oM H λv7 _ H=>oM H λv8 _ H=>oM H λv9 _ H=>oM H λar _ H=>oSm (oM H λau _ H=>oM H λaw _ H=>alM H λv5 h1 H=>valM H λvu h2 H=>Wp.of (e64R1 _ _ _ _) (oM H λax b H=>oM H λay c H=>⟨c,⟨b,dcM H λaA h3 H=>anM H λH=>oM H λaB d H=>oSm (oM H λb5 _ H=>oM H λaC a H=>oM H λb6 _ H=>oM H λaD e H=>⟨(qE e),⟨(qE a),⟨rfl,⟨d,oM H λb7 _ H=>oM H λy7 _ H=>cgM H λaE h4 H=>anM H λH=>⟨(qE a),oM H λb8 _ H=>oM H λy8 _ H=>cgM H λaF h5 H=>anM H λH=>thn (FD H) λH=>oM H λb9 Z H=>oM H λaG f H=>oM H λaH g H=>oSm (oM H λaI _ H=>oM H λaJ i H=>oM H λaK _ H=>oM H λaL j H=>⟨(qE j),⟨(qE i),⟨rfl,⟨g,⟨(qE f),oM H λaM _ H=>oM H λaN _ H=>cgM H λaO h6 H=>anM H λH=>oM H λaP _ H=>oM H λaQ k H=>oM H λaR _ H=>oM H λaS l H=>oM H λaT _ H=>oM H λaU m H=>oM H λaV _ H=>oM H λaW n H=>oM H λaX _ H=>oM H λaY o H=>oM H λaZ _ H=>oM H λa5 p H=>oM H λa6 _ H=>oM H λa7 q H=>oM H λa8 _ H=>oM H λa9 r H=>oM H λba _ H=>oM H λbb s H=>⟨(qE s),⟨(qE r),⟨(qE q),⟨(qE p),⟨(qE o),⟨(qE n),⟨(qE m),⟨(qE l),⟨(qE k),oM H λbc _ H=>oM H λbd _ H=>cgM H λbe h7 H=>anM H λH=>oM H λbf _ H=>oM H λbg t H=>thn (FD H) λH=>oM H λbh aa H=>oM H λbi u H=>oM H λbj v H=>⟨v,⟨(qE u),⟨(qE t),Wp.of (e64R2 _ _ _ _) (oSm (bM H (λH=>oSm (Wp.of (e64R4 _ _ _ _) (H))) (λH=>Wp.of (e64R3 _ _ _ _) (oM H λbm _ H=>oM H λbn _ H=>Wp.of (e64R5 _ _ _ _) (oM H λbo _ H=>oSm (Wp.of (e64R7 _ _ _ _) (oSm (bM H (λH=>oM H λbp _ H=>oM H λbq _ H=>oM H λbr _ H=>oM H λbt _ H=>oSm (Wp.of (e64R9 _ _ _ _) (H))) (λH=>oM H λbu _ H=>oSm (Wp.of (e64R10 _ _ _ _) (oSm (bM H (λH=>oM H λbv w H=>oM H λbw x H=>oM H λbx y H=>oSm (oM H λbz z H=>oM H λbA A H=>oM H λbC B H=>oM H λbD D H=>oSm (oM H λbE E H=>oM H λbG F H=>oM H λbH G H=>oSm (oM H λbI I H=>oM H λbJ J H=>oM H λbK L H=>oM H λbL M H=>oM H λbQ N H=>oM H λbR O H=>oM H λbS P H=>oSm (⟨rfl,⟨P,⟨O,⟨N,⟨M,⟨L,⟨J,⟨I,⟨rfl,⟨G,⟨F,⟨E,⟨rfl,⟨D,⟨B,⟨A,⟨z,⟨rfl,⟨y,⟨x,⟨w,Wp.of (e64R11 _ _ _ _) (H)⟩⟩⟩⟩⟩⟩⟩⟩⟩⟩⟩⟩⟩⟩⟩⟩⟩⟩⟩⟩⟩))))) (λH=>oM H λbU _ H=>oSm (Wp.of (e64R12 _ _ _ _) (oSm (bM H (λH=>oM H λbV _ H=>oM H λbW _ H=>oM H λbX _ H=>oSm (thn (Dz H) λH=>sG1 H λb4 ab bY ac H=>sG1 H λae ag bZ ah H=>oM H λai aj H=>oM H λca al H=>oM H λcb am H=>oSm (oM H λan _ H=>oM H λcd _ H=>oM H λce _ H=>oM H λcf _ H=>oM H λcg _ H=>oM H λci _ H=>oM H λR _ H=>oM H λcj _ H=>oM H λS _ H=>oM H λcl _ H=>oM H λT _ H=>oM H λcm _ H=>oM H λU _ H=>oM H λcn _ H=>oM H λW _ H=>oM H λco _ H=>oM H λX _ H=>oM H λcp _ H=>cgM H λcq h8 H=>thn (Dz H) λH=>oM H λY ao H=>oM H λcr ap H=>oM H λct aq H=>oSm (Wp.of (e64R13 _ _ _ _) (H))))) (λH=>Wp.of (e64R6 _ _ _ _) (oSm (Wp.of (e64R8 _ _ _ _) (H))))))))))))))))))))⟩⟩⟩⟩⟩⟩⟩⟩⟩⟩⟩⟩⟩⟩⟩⟩⟩)⟩⟩⟩⟩⟩)⟩⟩)))))))
end
def t65:List (Nat×List Nat):=[(87,[0,5,17,18,19])]
def p7 (C:Cfg)(Q:QP1)(d e a b c:V)(h:Hp):Prop:=∀ρ:Rho,ρ 0=d->ρ 5=e->ρ 17=a->ρ 18=b->ρ 19=c->WA C Tryd.f65 t65 43 [] Q ρ h
def p9 (C:Cfg)(Q:QP1)(o:QP5)(n c f g d:V)(h:Hp):Prop:=
 bO .lss 3 d g (
 dX 1 f d h λp=>
 oP (pNil n) λq=>
 oP (pFA 0 q) λs=>
 dG 3 s h λt=>
 cP C gJ [p,t] h λu Y=>
 bN u (
 Q bF Y) (
 oP (hbin .add 3 d nO) λv=>
 o n c f g v Y)) (
 dF 1 c h λe=>
 bO .eql 3 e nO (
 dG 3 c h λw=>
 oP (hbin .eql 3 w nO) λx=>
 Q x h) (
 bO .eql 3 e (V.int .i64 2) (
 dG 3 c h λy=>
 oP (hbin .eql 3 y (V.int .i64 2)) λb=>
 oP (pGd true b) λb5=>
 oP (gV b5 (some n)) λz=>
 oP (pGd true b) λb6=>
 oP (gV b6 (pFA 2 c)) λA=>
 oP (pGd true b) λb7=>
 oP (gV b7 (pLd A h)) λB=>
 oP (pGd true b) λb8=>
 ghP b8 h (oB (pBS 3 1 1 nZ [(0,B)]) λr=>some (r.2 h.next,h.new r.1)) λD h2=>
 oP (pGd true b) λb9=>
 oP (gC b9 (some (fQ,[z,D]))) λy9=>cgP C y9 h2 λE h3=>
 oP (pPick b E bF) λF=>
 Q F h3) (
 bO .eql 3 e (V.int .i64 3) (
 dG 3 c h λG=>
 oP (hbin .eql 3 G nZ) λa=>
 oP (pGd true a) λi=>
 oP (gV i (pFA 5 c)) λH=>
 oP (pGd true a) λj=>
 oP (gV j (pLd H h)) λI=>
 oP (pGd true a) λk=>
 oP (gV k (some n)) λJ=>
 oP (pGd true a) λl=>
 oP (gV l (pNil J)) λK=>
 oP (pGd true a) λm=>
 oP (gV m (pFA 0 K)) λL=>
 oP (pGd true a) λM=>
 oP (gV M (pFA 4 L)) λN=>
 oP (pGd true a) λO=>
 oP (gV O (pLd N h)) λP=>
 oP (pGd true a) λR=>
 oP (gV R (pLen P)) λS=>
 oP (pGd true a) λT=>
 oP (gC T (some (gJ,[I,S]))) λU=>cgP C U h λW Z=>
 (h.next<=Z.next/\
 oP (pPick a W bF) λX=>
 Q X Z)) (
 Q bF h))))
theorem wm{C Q}(I)(s:P5 I (p9 C Q)){k d e a b c h}(i:I k d e a b c h):p7 C Q d e a b c h:=WA.l5 I _ s i
def sq (C:Cfg)(Q:QP1)(a0 a1:V)(h:Hp):Prop:=
 oP (pNil a0) λj=>
 oP (pFA 0 j) λb=>
 dF 3 b h λc=>
 oP (pIx 6 c a1) λd=>
 oP (pLdA 6 d h) λe=>
 alP (zC 44 [nS,nZ,nZ,nS,nS,nZ]) h λf k=>
 valP (pSt 6 f e k) λl i=>
 dF 3 f i λa=>
 oP (pLen a) λg=>
 p7 C Q a0 f a g nZ i
theorem yK{C}(s:C.start=startF){a0 a1 h Q}(k:C.K iF [a0,a1] h=none)(H:sq C Q a0 a1 h):cP C iF [a0,a1] h Q:=cP.vd t65 s (by unfold P0;exact Tryd.func65) k H
def t66:List (Nat×List Nat):=[(171,[0,1,16,17,18]),(14,[0,1]),(175,[0,7,54,55,56])]
def qK (C:Cfg)(Q:QP1)(d e a b c:V)(h:Hp):Prop:=∀ρ:Rho,ρ 0=d->ρ 1=e->ρ 16=a->ρ 17=b->ρ 18=c->WA C Tryd.f66 t66 85 [] Q ρ h
def i0 (C:Cfg)(Q:QP1)(a b:V)(h:Hp):Prop:=∀ρ:Rho,ρ 0=a->ρ 1=b->WA C Tryd.f66 t66 7 [] Q ρ h
def qx (C:Cfg)(Q:QP1)(d e a b c:V)(h:Hp):Prop:=∀ρ:Rho,ρ 0=d->ρ 7=e->ρ 54=a->ρ 55=b->ρ 56=c->WA C Tryd.f66 t66 87 [] Q ρ h
def qw (C:Cfg)(Q:QP1)(e:QP5)(f t b c a:V)(h:Hp):Prop:=
 bO .lss 3 a c (
 dX 1 b a h λd=>
 oP (pNil f) λg=>
 oP (pFA 0 g) λi=>
 dJ 3 i 6 a 4 h λj=>
 cP C iD [d,j] h λk u=>
 oP (hun .not k) λl=>
 oP (pOr l (oB (some a) λm=>oB (hbin .eql 3 m nZ) λn=>oB (some n) λo=>pAnd o (oB (some d) λp=>oB (pLen p) λq=>hbin .gtr 3 q nZ))) λr=>
 bP r (
 Q bF u) (
 oP (hbin .add 3 a nO) λs=>
 e f t b c s u)) (
 i0 C Q f t h)
theorem wM{C Q}(I)(s:P5 I (qw C Q)){k d e a b c h}(i:I k d e a b c h):qK C Q d e a b c h:=WA.l5 I _ s i
def qT (C:Cfg)(Q:QP1)(j l:V)(h:Hp):Prop:=
 oP (pNil j) λb=>
 oP (pFA 0 b) λc=>
 dF 3 c h λd=>
 oP (pIx 6 d l) λe=>
 oP (pLdA 6 e h) λf=>
 alP (zC 44 [nS,nZ,nZ,nS,nS,nZ]) h λg m=>
 valP (pSt 6 g f m) λn k=>
 dF 3 g k λa=>
 oP (pLen a) λi=>
 qx C Q j g a i nZ k
theorem wA {C:Cfg}{Q:QP1}{a b:V}{h:Hp}(H:qT C Q a b h):i0 C Q a b h:=by
 rintro ρ rfl rfl;exact WA.of (by kernel_rfl) H
def qL (C:Cfg)(Q:QP1)(d:QP5)(u v b c a:V)(h:Hp):Prop:=
 bO .lss 3 a c (
 dX 1 b a h λe=>
 dF 1 v h λf=>
 oP (hbin .eql 3 f (V.int .i64 2)) λg=>
 oP (pAnd g (oB (some u) λi=>oB (pNil i) λj=>oB (pFA 0 j) λk=>oB (pFA 3 k) λl=>oB (pLd l h) λm=>oB (some e) λn=>oB (pIx 6 m n) λo=>oB (pFA 4 o) λp=>oB (pLd p h) λq=>oB (pLen q) λr=>hbin .neq 3 r nO)) λs=>
 bP s (
 Q bF h) (
 oP (hbin .add 3 a nO) λt=>
 d u v b c t h)) (
 Q bT h)
theorem wO{C Q}(I)(s:P5 I (qL C Q)){k d e a b c h}(i:I k d e a b c h):qx C Q d e a b c h:=WA.l5 I _ s i
def tQ (C:Cfg)(Q:QP1)(a0 a1:V)(h:Hp):Prop:=
 bO .eql 3 a1 nZ (
 oP (pNil a0) λb=>
 oP (pFA 0 b) λc=>
 oP (pLdA 5 c h) λd=>
 cP C qO [d] h λa f=>
 oP (pLen a) λe=>
 qK C Q a0 a1 a e nZ f) (
 i0 C Q a0 a1 h)
theorem zA{C}(s:C.start=startF){a0 a1 h Q}(k:C.K iW [a0,a1] h=none)(H:tQ C Q a0 a1 h):cP C iW [a0,a1] h Q:=cP.vd t66 s (by unfold P0;exact Tryd.func66) k H
def t67:List (Nat×List Nat):=[]
def rq (C:Cfg)(Q:QP1)(a0:V)(h:Hp):Prop:=
 oP (pNil a0) λa=>
 oP (pFA 0 a) λb=>
 oP (pLdA 5 b h) λc=>
 cP C kI [c] h λd e=>
 Q d e
theorem xY{C}(s:C.start=startF){a0 h Q}(k:C.K mK [a0] h=none)(H:rq C Q a0 h):cP C mK [a0] h Q:=cP.vd t67 s (by unfold P0;exact Tryd.func67) k H
def t111:List (Nat×List Nat):=[(19,[0,1,2])]
def kM (C:Cfg)(Q:QP1)(a b c:V)(h:Hp):Prop:=∀ρ:Rho,ρ 0=a->ρ 1=b->ρ 2=c->WA C Tryd.f111 t111 9 [] Q ρ h
def li (C:Cfg)(Q:QP1)(a:QP3)(e f b:V)(h:Hp):Prop:=
 bO .geq 3 b nZ (
 bO .eql 3 f b (
 Q bT h) (
 dN 7 e h λc=>
 dX 1 c b h λd=>
 a e f d h)) (
 Q bF h)
theorem sR{C Q}(I)(s:P3 I (li C Q)){k a b c h}(i:I k a b c h):kM C Q a b c h:=WA.l3 I _ s i
def oQ (C:Cfg)(Q:QP1)(a0 a1 a2:V)(h:Hp):Prop:=
 kM C Q a0 a1 a2 h
theorem uK{C}(s:C.start=startF){a0 a1 a2 h Q}(k:C.K ij [a0,a1,a2] h=none)(H:oQ C Q a0 a1 a2 h):cP C ij [a0,a1,a2] h Q:=cP.vd t111 s (by unfold P0;exact Tryd.func111) k H
def t96:List (Nat×List Nat):=[(43,[0,2,3,11,12,13])]
def pV (C:Cfg)(Q:QP1)(d e f a b c:V)(h:Hp):Prop:=∀ρ:Rho,ρ 0=d->ρ 2=e->ρ 3=f->ρ 11=a->ρ 12=b->ρ 13=c->WA C Tryd.f96 t96 21 [] Q ρ h
def qc (C:Cfg)(Q:QP1)(g:QP6)(d i T e f b:V)(h:Hp):Prop:=
 bO .lss 3 b f (
 dX 1 e b h λc=>
 dN 5 d h λj=>
 dX 1 j c h λk=>
 oP (hbin .eql 3 k i) λl=>
 oP (pAnd l (oB (some d) λm=>oB (pNil m) λn=>oB (pFA 6 n) λo=>oB (pLd o h) λp=>oB (some c) λq=>oB (pIx 1 p q) λr=>oB (pLd r h) λs=>oB (some T) λt=>hbin .geq 3 s t)) λa=>
 oP (pGd false a) λu=>
 oP (gV u (some d)) λv=>
 oP (pGd false a) λw=>
 oP (gV w (some d)) λx=>
 oP (pGd false a) λy=>
 oP (gV y (pNil x)) λz=>
 oP (pGd false a) λA=>
 oP (gV A (pFA 5 z)) λB=>
 oP (pGd false a) λD=>
 oP (gV D (pLd B h)) λE=>
 oP (pGd false a) λF=>
 oP (gV F (some c)) λG=>
 oP (pGd false a) λH=>
 oP (gV H (pIx 1 E G)) λI=>
 oP (pGd false a) λJ=>
 oP (gV J (pLd I h)) λK=>
 oP (pGd false a) λL=>
 oP (gV L (some i)) λM=>
 oP (pGd false a) λN=>
 oP (gC N (some (ij,[v,K,M]))) λO=>cgP C O h λP U=>
 oP (pOr a (hun .not P)) λR=>
 bP R (
 Q bF U) (
 oP (hbin .add 3 b nO) λS=>
 g d i T e f S U)) (
 Q bT h)
theorem v6{C Q}(I)(s:P6 I (qc C Q)){k d e f a b c h}(i:I k d e f a b c h):pV C Q d e f a b c h:=WA.l6 I _ s i
def sW (C:Cfg)(Q:QP1)(a0 a1 a2 a3:V)(h:Hp):Prop:=
 oP (pLen a1) λa=>
 pV C Q a0 a2 a3 a1 a nZ h
theorem yN{C}(s:C.start=startF){a0 a1 a2 a3 h Q}(k:C.K fW [a0,a1,a2,a3] h=none)(H:sW C Q a0 a1 a2 a3 h):cP C fW [a0,a1,a2,a3] h Q:=cP.vd t96 s (by unfold P0;exact Tryd.func96) k H
def t97:List (Nat×List Nat):=[(43,[0,2,3,19,20,21])]
def kU (C:Cfg)(Q:QP1)(d e f a b c:V)(h:Hp):Prop:=∀ρ:Rho,ρ 0=d->ρ 2=e->ρ 3=f->ρ 19=a->ρ 20=b->ρ 21=c->WA C Tryd.f97 t97 21 [] Q ρ h
def kQ (C:Cfg)(Q:QP1)(f:QP6)(g i j d e b:V)(h:Hp):Prop:=
 bO .lss 3 b e (
 oP (pIx 4 d b) λk=>
 oP (pLdA 4 k h) λl=>
 alP (zC 40 [nZ,nZ,nS,nS]) h λc F=>
 valP (pSt 4 c l F) λI B=>
 dF 2 c B λm=>
 cP C fW [g,m,i,j] B λn D=>
 oP (hun .not n) λa=>
 oP (pGd false a) λG=>
 oP (gV G (some g)) λo=>
 oP (pGd false a) λH=>
 oP (gV H (pFA 3 c)) λp=>
 oP (pGd false a) λq=>
 oP (gV q (pLd p D)) λr=>
 oP (pGd false a) λs=>
 oP (gV s (some i)) λt=>
 oP (pGd false a) λu=>
 oP (gV u (some j)) λv=>
 oP (pGd false a) λw=>
 oP (gC w (some (fW,[o,r,t,v]))) λx=>cgP C x D λy E=>
 oP (pOr a (hun .not y)) λz=>
 bP z (
 Q bF E) (
 oP (hbin .add 3 b nO) λA=>
 f g i j d e A E)) (
 Q bT h)
theorem se{C Q}(I)(s:P6 I (kQ C Q)){k d e f a b c h}(i:I k d e f a b c h):kU C Q d e f a b c h:=WA.l6 I _ s i
def nK (C:Cfg)(Q:QP1)(a0 a1 a2 a3:V)(h:Hp):Prop:=
 oP (pNil a0) λb=>
 oP (pFA 0 b) λc=>
 dJ 4 c 1 a1 0 h λa=>
 oP (pLen a) λd=>
 kU C Q a0 a2 a3 a d nZ h
theorem uE{C}(s:C.start=startF){a0 a1 a2 a3 h Q}(k:C.K fT [a0,a1,a2,a3] h=none)(H:nK C Q a0 a1 a2 a3 h):cP C fT [a0,a1,a2,a3] h Q:=cP.vd t97 s (by unfold P0;exact Tryd.func97) k H
def t68:List (Nat×List Nat):=[(175,[0,1,5,6,24,25,26]),(1356591,[0,1,5,6,24,25,26,43,44,45]),(3886,[0,1,5,6,24,25,26])]
def pN (C:Cfg)(Q:QP1)(d e f g a b c:V)(h:Hp):Prop:=∀ρ:Rho,ρ 0=d->ρ 1=e->ρ 5=f->ρ 6=g->ρ 24=a->ρ 25=b->ρ 26=c->WA C Tryd.f68 t68 87 [] Q ρ h
def pu (C:Cfg)(Q:QP1)(a:QP7)(i j k l b c d e f g:V)(h:Hp):Prop:=∀ρ:Rho,ρ 0=i->ρ 1=j->ρ 5=k->ρ 6=l->ρ 24=b->ρ 25=c->ρ 26=d->ρ 43=e->ρ 44=f->ρ 45=g->WA C Tryd.f68 t68 678295 [λρ h=>a (ρ 0) (ρ 1) (ρ 5) (ρ 6) (ρ 24) (ρ 25) (ρ 26) h] Q ρ h
def jw (C:Cfg)(Q:QP1)(a:QP7)(e f g i b c d:V)(h:Hp):Prop:=∀ρ:Rho,ρ 0=e->ρ 1=f->ρ 5=g->ρ 6=i->ρ 24=b->ρ 25=c->ρ 26=d->WA C Tryd.f68 t68 1943 [λρ h=>a (ρ 0) (ρ 1) (ρ 5) (ρ 6) (ρ 24) (ρ 25) (ρ 26) h] Q ρ h
def oT (C:Cfg)(Q:QP1)(j:QP7)(d g k t e f b:V)(h:Hp):Prop:=
 bO .lss 3 b f (
 dX 1 e b h λu=>
 oP (pNil d) λv=>
 oP (pFA 0 v) λw=>
 dF 2 w h λx=>
 oP (pIx 6 x u) λy=>
 oP (pLdA 6 y h) λz=>
 alP (zC 42 [nZ,nZ,nZ,nZ,nS,nZ]) h λi h1=>
 valP (pSt 6 i z h1) λvu l=>
 dF 0 i l λA=>
 bO .eql 3 A (V.int .i64 21) (
 dF 4 i l λm=>
 oP (pLen m) λB=>
 pu C Q j d g k t e f b m B nZ l) (
 oP (pLdA 6 i l) λD=>
 cP C nz [D] l λE h3=>
 cP C fW [d,E,g,b] h3 λF h4=>
 oP (hun .not F) λc=>
 oP (pGd false c) λb8=>
 oP (gV b8 (pFA 0 i)) λG=>
 oP (pGd false c) λb9=>
 oP (gV b9 (pLd G h4)) λH=>
 oP (pGd false c) λI=>
 oP (gC I (some (jW,[H]))) λJ=>cgP C J h4 λK h5=>
 oP (pGd false c) λL=>
 oP (gV L (some K)) λa=>
 oP (pGd true a) λM=>
 oP (gV M (some d)) λN=>
 oP (pGd true a) λO=>
 oP (gV O (pFA 5 i)) λP=>
 oP (pGd true a) λR=>
 oP (gV R (pLd P h5)) λS=>
 oP (pGd true a) λT=>
 oP (gV T (some g)) λU=>
 oP (pGd true a) λW=>
 oP (gV W (some b)) λX=>
 oP (pGd true a) λY=>
 oP (gC Y (some (fT,[N,S,U,X]))) λZ=>cgP C Z h5 λaa h6=>
 oP (pGd true a) λab=>
 oP (gV ab (hun .not aa)) λac=>
 oP (pOr c (pPick a ac bF)) λae=>
 bP ae (
 Q bF h6) (
 jw C Q j d g k t e f b h6))) (
 dF 1 k h λn=>
 bO .eql 3 n (V.int .i64 2) (
 dF 2 k h λo=>
 alP (pBS 3 1 1 nZ [(0,o)]) h λp h7=>
 cP C fW [d,p,g,t] h7 λq h8=>
 Q q h8) (
 bO .eql 3 n (V.int .i64 3) (
 dF 5 k h λr=>
 cP C fT [d,r,g,t] h λs h9=>
 Q s h9) (
 Q bT h)))
theorem vn{C Q}(I)(s:P7 I (oT C Q)){k d e f g a b c h}(i:I k d e f g a b c h):pN C Q d e f g a b c h:=WA.l7 I _ s i
def o0 (C:Cfg)(Q:QP1)(k:QP7)(l:QP10)(i z j A c d e f g a:V)(h:Hp):Prop:=
 bO .lss 3 a g (
 dX 1 f a h λm=>
 alO (pBS 3 1 1 nZ [(0,m)]) h λn o b=>
 dY 4 j 1 a b λp=>
 oP (pNil i) λq=>
 oP (pFA 0 q) λr=>
 dF 3 r b λs=>
 dY 4 j 1 a b λt=>
 oP (pIx 6 s t) λu=>
 dG 0 u b λv=>
 ((b.get (h.next)=some n/\O.beq n n=true)/\
 cP C fW [i,o,p,v] b λw x=>
 (b.next<=x.next/\
 bN w (
 Q bF x) (
 oP (hbin .add 3 a nO) λy=>
 l i z j A c d e f g y x)))) (
 jw C Q k i z j A c d e h)
theorem vx{C Q a}(I)(s:P10 I (o0 C Q a)){k j l m n b c d e f g h}(i:I k j l m n b c d e f g h):pu C Q a j l m n b c d e f g h:=WA.l10 I _ s i
def jA (C:Cfg)(Q:QP1)(a:QP7)(f g i j b c d:V)(h:Hp):Prop:=
 oP (hbin .add 3 d nO) λe=>
 a f g i j b c e h
theorem ot {C:Cfg}{Q:QP1}{a:QP7}{e f g i b c d:V}{h:Hp}(H:jA C Q a e f g i b c d h):jw C Q a e f g i b c d h:=by
 rintro ρ rfl rfl rfl rfl rfl rfl rfl;exact WA.of (by kernel_rfl) H
def rx (C:Cfg)(Q:QP1)(a0 a1:V)(h:Hp):Prop:=
 oP (pNil a0) λc=>
 oP (pFA 0 c) λd=>
 dF 3 d h λe=>
 oP (pIx 6 e a1) λf=>
 oP (pLdA 6 f h) λg=>
 alP (zC 44 [nS,nZ,nZ,nS,nS,nZ]) h λb l=>
 valP (pSt 6 b g l) λm i=>
 dG 0 b i λj=>
 dF 0 b i λa=>
 oP (pLen a) λk=>
 pN C Q a0 a1 b j a k nZ i
theorem ye{C}(s:C.start=startF){a0 a1 h Q}(k:C.K iu [a0,a1] h=none)(H:rx C Q a0 a1 h):cP C iu [a0,a1] h Q:=cP.vd t68 s (by unfold P0;exact Tryd.func68) k H
def t31:List (Nat×List Nat):=[]
def An (C:Cfg)(Q:QP1)(a0:V)(h:Hp):Prop:=
 alP (hbox 30 a0) h λe f=>
 dG 2 e f λv7=>
 oP (hbin .gtr 3 v7 (V.int .i64 3000)) λv8=>
 oP (pOr v8 (oB (pFA 3 e) λp=>oB (pLd p f) λq=>oB (pLen q) λr=>hbin .gtr 3 r (V.int .i64 300))) λs=>
 oP (pOr s (oB (pFA 4 e) λt=>oB (pLd t f) λu=>oB (pLen u) λv=>hbin .gtr 3 v (V.int .i64 1000))) λw=>
 oP (pOr w (oB (pFA 3 e) λx=>oB (pLd x f) λy=>oB (pLen y) λz=>hbin .eql 3 z nZ)) λA=>
 bP A (
 Q bF f) (
 oP (pLdA 5 e f) λB=>
 oP (pBuild [nZ,nZ,nS,nS,nS,nS,nS,nS] [(0,5),(5,1),(6,1),(7,1)] [(0,B)]) λD=>
 alP (hbox 104 D) f λa h2=>
 dG 4 e h2 λE=>
 cP C ge [a,E,(V.func iz [a] [])] h2 λF h3=>
 oP (hun .not F) λg=>
 oP (pGd false g) λb9=>
 oP (gV b9 (some a)) λG=>
 oP (pGd false g) λH=>
 oP (gC H (some (jv,[G]))) λI=>cgP C I h3 λJ h4=>
 oP (pOr g (hun .not J)) λb=>
 oP (pGd false b) λi=>
 oP (gV i (some a)) λK=>
 oP (pGd false b) λL=>
 oP (gV L (pFA 2 e)) λM=>
 oP (pGd false b) λN=>
 oP (gV N (pLd M h4)) λO=>
 oP (pGd false b) λj=>
 oP (gV j (pLen O)) λP=>
 oP (pGd false b) λk=>
 oP (gV k (some a)) λR=>
 oP (pGd false b) λl=>
 oP (gV l (some (V.func gD [R] []))) λS=>
 oP (pGd false b) λm=>
 oP (gC m (some (ge,[K,P,S]))) λT=>cgP C T h4 λU h5=>
 oP (pOr b (hun .not U)) λc=>
 oP (pGd false c) λW=>
 oP (gV W (some a)) λX=>
 oP (pGd false c) λY=>
 oP (gV Y (pFA 3 e)) λZ=>
 oP (pGd false c) λaa=>
 oP (gV aa (pLd Z h5)) λab=>
 oP (pGd false c) λac=>
 oP (gV ac (pLen ab)) λae=>
 oP (pGd false c) λag=>
 oP (gV ag (some a)) λah=>
 oP (pGd false c) λai=>
 oP (gV ai (some (V.func iF [ah] []))) λaj=>
 oP (pGd false c) λal=>
 oP (gC al (some (ge,[X,ae,aj]))) λam=>cgP C am h5 λan h6=>
 oP (pOr c (hun .not an)) λd=>
 oP (pGd false d) λao=>
 oP (gV ao (some a)) λap=>
 oP (pGd false d) λaq=>
 oP (gV aq (pFA 3 e)) λar=>
 oP (pGd false d) λau=>
 oP (gV au (pLd ar h6)) λaw=>
 oP (pGd false d) λax=>
 oP (gV ax (pLen aw)) λay=>
 oP (pGd false d) λaA=>
 oP (gV aA (some a)) λaB=>
 oP (pGd false d) λaC=>
 oP (gV aC (some (V.func iW [aB] []))) λaD=>
 oP (pGd false d) λaE=>
 oP (gC aE (some (ge,[ap,ay,aD]))) λaF=>cgP C aF h6 λaG h7=>
 oP (pOr d (hun .not aG)) λaH=>
 bP aH (
 Q bF h7) (
 cP C mK [a] h7 λaI o=>
 oP (pLen aI) λaJ=>
 dG 3 e o λaK=>
 bO .neq 3 aJ aK (
 Q bF o) (
 oP (pLdA 5 e o) λaL=>
 cP C lC [aL] o λaM h9=>
 oP (pNil a) λaN=>
 oP (pFA 7 aN) λaO=>
 valP (pSt 1 aO aM h9) λvu n=>
 dG 3 e n λaP=>
 cP C ge [a,aP,(V.func iu [a] [])] n λaQ aR=>
 Q aQ aR)))
theorem DI{C}(s:C.start=startF){a0 h Q}(k:C.K tN [a0] h=none)(H:An C Q a0 h):cP C tN [a0] h Q:=cP.vd t31 s (by unfold P0;exact Tryd.func31) k H
end
