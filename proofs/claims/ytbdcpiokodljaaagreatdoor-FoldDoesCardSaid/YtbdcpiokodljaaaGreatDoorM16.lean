/- Parts. -/
import Derived.Test.YtbdcpiokodljaaaGreatDoorM14
set_option maxHeartbeats 4000000
namespace Go.Proofs.YtbdcpiokodljaaaGreatDoor.Hx
set_option maxRecDepth 100000
noncomputable section
def t80:List (Nat×List Nat):=[(126,[1,3,4,5]),(319,[1,3,4,5])]
def Bn(C:fk)(Q:fo)(a b c d:V)(h:Hp):Prop:=∀ρ:gL,ρ 1=a->ρ 3=b->ρ 4=c->ρ 5=d->WA C Tryz.f80 t80 63 [] Q ρ h
def G0(C:fk)(Q:fo)(a b c d:V)(h:Hp):Prop:=∀ρ:gL,ρ 1=a->ρ 3=b->ρ 4=c->ρ 5=d->WA C Tryz.f80 t80 159 [] Q ρ h
def GQ(C:fk)(Q:fo)(a b c d:V)(h:Hp):Prop:=G0 C Q a b c d h
theorem Nf{C:fk}{Q:fo}{a b c d:V}{h:Hp}(H:GQ C Q a b c d h):Bn C Q a b c d h:=by
 rintro ρ rfl rfl rfl rfl;exact WA.of (by kernel_rfl) H
def Hw(C:fk)(Q:fo)(fN:ML)(g d e c:V)(h:Hp):Prop:=oP (fD c) λi=>bO .gtr 3 i nZ (oP (fD c) λj=>oP (en .sub 3 j nO) λk=>oP (gG 2 c k) λa=>dF 3 g h λl=>dN 0 a h λm=>dI 6 l m 3 h λf=>dN 1 a h λn=>oP (fD f) λo=>bO .eql 3 n o (dN 0 a h λp=>hH (jK 3 1 1 nZ [(0,p)]) h λq P=>fg (eR 3 1 8 e q P) λr N=>oP (fD c) λs=>oP (en .sub 3 s nO) λt=>oP (jz 2 c none (some t) N) λu=>fN g d r u N) (dN 1 a h λv=>dX 1 f v h λb=>dN 1 a h λw=>oP (en .add 3 w nO) λx=>oP (hZ a) λy=>oP (fF 1 y) λz=>fg (gJ 1 z x h) λY R=>oP (fD d) λA=>cP C lj [b,A] R λB D=>oP (jX B (oB (some d) λE=>oB (some b) λF=>oB (gG 1 E F) λG=>oB (ez G D) λH=>pA .not H)) λI=>bP I (oP (gG 1 d b) λJ=>fg (gJ 1 J bT D) λO S=>oP (fW [nZ,nZ] [(0,1),(1,1)] [(0,b),(1,nZ)]) λK=>hH (jK 135 2 1 (V.agg [nZ,nZ]) [(0,K)]) S λL T=>fg (eR 135 2 16 c L T) λM U=>fN g d e M U) (fN g d e c D))) (cP C mc [e] h λW X=>Q e X)
theorem N6{C Q}(I)(s:P4 I (Hw C Q)){k a b c d h}(i:I k a b c d h):G0 C Q a b c d h:=WA.l4 I _ s i
def Me(C:fk)(Q:fo)(a0:V)(h:Hp):Prop:=hH (mn 30 a0) h λc k=>dG 3 c k λb=>hH (iB 4 1 1 bF b b) k λa d=>dG 3 c d λe=>bO .gtr 3 e nZ (oP (fW [nZ,nZ] [(0,1),(1,1)] []) λf=>hH (jK 135 2 1 (V.agg [nZ,nZ]) [(0,f)]) d λg l=>fg (eR 135 2 16 nS g l) λi m=>oP (gG 1 a nZ) λj=>fg (gJ 1 j bT m) λo n=>Bn C Q c a nS i n) (Bn C Q c a nS nS d)
theorem TO{C}(s:C.start=fG){a0 h Q}(k:C.K pU [a0] h=none)(H:Me C Q a0 h):cP C pU [a0] h Q:=cP.vd t80 s (by unfold P0;exact Tryz.func80) k H
def t79:List (Nat×List Nat):=[(87,[3,13,14,15]),(22935,[3,4,13,14,15,21,22,23]),(498070,[3,4,13,14,15,21,22,23])]
def Hv(C:fk)(Q:fo)(d a b c:V)(h:Hp):Prop:=∀ρ:gL,ρ 3=d->ρ 13=a->ρ 14=b->ρ 15=c->WA C Tryz.f79 t79 43 [] Q ρ h
def G6(C:fk)(Q:fo)(fN:ML)(g i a b c d e f:V)(h:Hp):Prop:=∀ρ:gL,ρ 3=g->ρ 4=i->ρ 13=a->ρ 14=b->ρ 15=c->ρ 21=d->ρ 22=e->ρ 23=f->WA C Tryz.f79 t79 11467 [λρ h=>fN (ρ 3) (ρ 13) (ρ 14) (ρ 15) h] Q ρ h
def zN(C:fk)(Q:fo)(fN:ML)(a:MJ)(i j b c d e f g:V)(h:Hp):Prop:=∀ρ:gL,ρ 3=i->ρ 4=j->ρ 13=b->ρ 14=c->ρ 15=d->ρ 21=e->ρ 22=f->ρ 23=g->WA C Tryz.f79 t79 249035 [λρ h=>fN (ρ 3) (ρ 13) (ρ 14) (ρ 15) h,λρ h=>a (ρ 3) (ρ 4) (ρ 13) (ρ 14) (ρ 15) (ρ 21) (ρ 22) (ρ 23) h] Q ρ h
def HC(C:fk)(Q:fo)(fN:ML)(i b c a:V)(h:Hp):Prop:=bO .lss 3 a c (oP (gG 6 b a) λe=>oP (fX 6 e h) λf=>hH (zC 43 [nS,nZ,nZ,nS,nS,nZ]) h λj l=>fg (gJ 6 j f l) λm k=>dF 3 j k λd=>oP (fD d) λg=>G6 C Q fN i a b c a d g nZ k) (Q i h)
theorem OP{C Q}(I)(s:P4 I (HC C Q)){k d a b c h}(i:I k d a b c h):Hv C Q d a b c h:=WA.l4 I _ s i
def Hm(C:fk)(Q:fo)(fN:ML)(j:MJ)(i k b c d e f a:V)(h:Hp):Prop:=bO .lss 3 a f (dX 1 e a h λg=>oP (fD i) λl=>cP C lj [g,l] h λm n=>bP m (dX 1 i g n λo=>hH (jK 3 1 1 nZ [(0,k)]) n λp t=>fg (eR 3 1 8 o p t) λq u=>oP (gG 1 i g) λr=>fg (gJ 1 r q u) λw v=>zN C Q fN j i k b c d e f a v) (zN C Q fN j i k b c d e f a n)) (oP (en .add 3 d nO) λs=>fN i b c s h)
theorem NN{C Q fN}(I)(s:P8 I (Hm C Q fN)){k g j a b c d e f h}(i:I k g j a b c d e f h):G6 C Q fN g j a b c d e f h:=WA.l8 I _ s i
def FQ(C:fk)(Q:fo)(fN:ML)(a:MJ)(j k b c d e f g:V)(h:Hp):Prop:=oP (en .add 3 g nO) λi=>a j k b c d e f i h
theorem MF{C:fk}{Q:fo}{fN:ML}{a:MJ}{i j b c d e f g:V}{h:Hp}(H:FQ C Q fN a i j b c d e f g h):zN C Q fN a i j b c d e f g h:=by
 rintro ρ rfl rfl rfl rfl rfl rfl rfl rfl;exact WA.of (by kernel_rfl) H
def Mk(C:fk)(Q:fo)(a0:V)(h:Hp):Prop:=hH (mn 30 a0) h λe f=>dG 3 e f λa=>hH (iB 22 1 24 nS a a) f λc g=>dF 3 e g λb=>oP (fD b) λd=>Hv C Q c b d nZ g
theorem TI{C}(s:C.start=fG){a0 h Q}(k:C.K zH [a0] h=none)(H:Mk C Q a0 h):cP C zH [a0] h Q:=cP.vd t79 s (by unfold P0;exact Tryz.func79) k H
def t52:List (Nat×List Nat):=[(175,[3,4,5,6,30,31]),(351,[3,4,5,6,38,39,40]),(5631,[3,4,5,10,11]),(370175,[3,4,5,10,11,59,60,61]),(362391039,[3,4,5,10,11,13,14,59,60,61,68,69,70]),(8147019262,[3,4,5,10,11,13,14,59,60,61,68,69,70]),(7972350,[3,4,5,10,11,59,60,61])]
def Aj(C:fk)(Q:fo)(c d e f a b:V)(h:Hp):Prop:=∀ρ:gL,ρ 3=c->ρ 4=d->ρ 5=e->ρ 6=f->ρ 30=a->ρ 31=b->WA C Tryz.f52 t52 87 [] Q ρ h
def z6(C:fk)(Q:fo)(d e f g a b c:V)(h:Hp):Prop:=∀ρ:gL,ρ 3=d->ρ 4=e->ρ 5=f->ρ 6=g->ρ 38=a->ρ 39=b->ρ 40=c->WA C Tryz.f52 t52 175 [] Q ρ h
def zV(C:fk)(Q:fo)(c d e a b:V)(h:Hp):Prop:=∀ρ:gL,ρ 3=c->ρ 4=d->ρ 5=e->ρ 10=a->ρ 11=b->WA C Tryz.f52 t52 2815 [] Q ρ h
def Al(C:fk)(Q:fo)(a:Kf)(g i j b c d e f:V)(h:Hp):Prop:=∀ρ:gL,ρ 3=g->ρ 4=i->ρ 5=j->ρ 10=b->ρ 11=c->ρ 59=d->ρ 60=e->ρ 61=f->WA C Tryz.f52 t52 185087 [λρ h=>a (ρ 3) (ρ 4) (ρ 5) (ρ 10) (ρ 11) h] Q ρ h
def Ah(C:fk)(Q:fo)(a:Kf)(b:MJ)(n o p c d e f g i j k l m:V)(h:Hp):Prop:=∀ρ:gL,ρ 3=n->ρ 4=o->ρ 5=p->ρ 10=c->ρ 11=d->ρ 13=e->ρ 14=f->ρ 59=g->ρ 60=i->ρ 61=j->ρ 68=k->ρ 69=l->ρ 70=m->WA C Tryz.f52 t52 181195519 [λρ h=>a (ρ 3) (ρ 4) (ρ 5) (ρ 10) (ρ 11) h,λρ h=>b (ρ 3) (ρ 4) (ρ 5) (ρ 10) (ρ 11) (ρ 59) (ρ 60) (ρ 61) h] Q ρ h
def oH(C:fk)(Q:fo)(a:Kf)(b:MJ)(c:JQ)(o p q d e f g i j k l m n:V)(h:Hp):Prop:=∀ρ:gL,ρ 3=o->ρ 4=p->ρ 5=q->ρ 10=d->ρ 11=e->ρ 13=f->ρ 14=g->ρ 59=i->ρ 60=j->ρ 61=k->ρ 68=l->ρ 69=m->ρ 70=n->WA C Tryz.f52 t52 4073509631 [λρ h=>a (ρ 3) (ρ 4) (ρ 5) (ρ 10) (ρ 11) h,λρ h=>b (ρ 3) (ρ 4) (ρ 5) (ρ 10) (ρ 11) (ρ 59) (ρ 60) (ρ 61) h,λρ h=>c (ρ 3) (ρ 4) (ρ 5) (ρ 10) (ρ 11) (ρ 13) (ρ 14) (ρ 59) (ρ 60) (ρ 61) (ρ 68) (ρ 69) (ρ 70) h] Q ρ h
def rK(C:fk)(Q:fo)(a:Kf)(b:MJ)(i j k c d e f g:V)(h:Hp):Prop:=∀ρ:gL,ρ 3=i->ρ 4=j->ρ 5=k->ρ 10=c->ρ 11=d->ρ 59=e->ρ 60=f->ρ 61=g->WA C Tryz.f52 t52 3986175 [λρ h=>a (ρ 3) (ρ 4) (ρ 5) (ρ 10) (ρ 11) h,λρ h=>b (ρ 3) (ρ 4) (ρ 5) (ρ 10) (ρ 11) (ρ 59) (ρ 60) (ρ 61) h] Q ρ h
def Aa(C:fk)(Q:fo)(fN:QR)(c j d k b a:V)(h:Hp):Prop:=bO .lss 3 a b (oP (ez d h) λe=>oP (gG 1 e a) λf=>fg (gJ 1 f (V.I (-1)) h) λm l=>oP (en .add 3 a nO) λg=>fN c j d k b g l) (oP (fD c) λi=>z6 C Q c j d k c i nZ h)
theorem IF{C Q}(I)(s:P6 I (Aa C Q)){k c d e f a b h}(i:I k c d e f a b h):Aj C Q c d e f a b h:=WA.l6 I _ s i
def Ao(C:fk)(Q:fo)(e:RV)(f q b g c d a:V)(h:Hp):Prop:=bO .lss 3 a d (dX 1 c a h λi=>oP (ez g h) λj=>oP (gG 1 j i) λk=>fg (gJ 1 k a h) λu s=>oP (en .add 3 a nO) λl=>e f q b g c d l s) (oP (fD f) λm=>bO .eql 3 m nZ (oP (ez b h) λn=>Q n h) (oP (ez b h) λo=>oP (gG 1 o nZ) λp=>fg (gJ 1 p nZ h) λr t=>zV C Q f q b (V.func jE [] [g,b]) bT t))
theorem IK{C Q}(I)(s:P7 I (Ao C Q)){k d e f g a b c h}(i:I k d e f g a b c h):z6 C Q d e f g a b c h:=WA.l7 I _ s i
def zY(C:fk)(Q:fo)(e:Kf)(k m f g i:V)(h:Hp):Prop:=bP i (oP (jz 1 k (some nO) none h) λa=>oP (fD a) λj=>Al C Q e k m f g bF a j nZ h) (oP (ez f h) λb=>oP (gG 1 b nZ) λc=>fg (gJ 1 c (V.I (-1)) h) λn l=>oP (ez f l) λd=>Q d l)
theorem ID{C Q}(I)(s:P5 I (zY C Q)){k c d e a b h}(i:I k c d e a b h):zV C Q c d e a b h:=WA.l5 I _ s i
def Ak(C:fk)(Q:fo)(b:Kf)(j:MJ)(m k n c d e f a:V)(h:Hp):Prop:=bO .lss 3 a f (dX 1 e a h λg=>dX 1 k g h λi=>oP (fD i) λl=>Ah C Q b j m k n c d g (V.I (-1)) e f a i l nZ h) (b m k n c d h)
theorem IM{C Q a}(I)(s:P8 I (Ak C Q a)){k g j l b c d e f h}(i:I k g j l b c d e f h):Al C Q a g j l b c d e f h:=WA.l8 I _ s i
def Af(C:fk)(Q:fo)(b:Kf)(c:MJ)(o:JQ)(q r n a k d e f g i l m j:V)(h:Hp):Prop:=bO .lss 3 j m (dX 1 l j h λp=>oP (ez n h) λs=>dX 1 s p h λt=>bO .lss 3 t nZ (oH C Q b c o q r n a k d e f g i l m j h) (bO .lss 3 e nZ (oH C Q b c o q r n a k d p f g i l m j h) (hV C (gi a [e,p]) h λu z=>oH C Q b c o q r n a k d u f g i l m j z))) (oP (ez n h) λv=>dX 1 v d h λw=>bO .neq 3 w e (oP (ez n h) λx=>oP (gG 1 x d) λy=>fg (gJ 1 y e h) λB A=>rK C Q b c q r n a bT f g i A) (rK C Q b c q r n a k f g i h))
theorem IC{C Q a b}(I)(s:P13 I (Af C Q a b)){k p q r c d e f g j l m n o h}(i:I k p q r c d e f g j l m n o h):Ah C Q a b p q r c d e f g j l m n o h:=WA.l13 I _ s i
def oI(C:fk)(Q:fo)(n:Kf)(o:MJ)(a:JQ)(p q r b c d e f g i j k l:V)(h:Hp):Prop:=oP (en .add 3 l nO) λm=>a p q r b c d e f g i j k m h
theorem qU{C:fk}{Q:fo}{a:Kf}{b:MJ}{c:JQ}{o p q d e f g i j k l m n:V}{h:Hp}(H:oI C Q a b c o p q d e f g i j k l m n h):oH C Q a b c o p q d e f g i j k l m n h:=by
 rintro ρ rfl rfl rfl rfl rfl rfl rfl rfl rfl rfl rfl rfl rfl;exact WA.of (by kernel_rfl) H
def rh(C:fk)(Q:fo)(i:Kf)(a:MJ)(j k l b c d e f:V)(h:Hp):Prop:=oP (en .add 3 f nO) λg=>a j k l b c d e g h
theorem zz{C:fk}{Q:fo}{a:Kf}{b:MJ}{i j k c d e f g:V}{h:Hp}(H:rh C Q a b i j k c d e f g h):rK C Q a b i j k c d e f g h:=by
 rintro ρ rfl rfl rfl rfl rfl rfl rfl rfl;exact WA.of (by kernel_rfl) H
def Ea(C:fk)(Q:fo)(a0:V)(h:Hp):Prop:=hH (mn 30 a0) h λe m=>oP (fX 5 e m) λq=>oP (fX 5 e m) λf=>cP C pU [q] m λr n=>(m.next<=n.next/\((fX 5 e n=some f)/\cP C zH [f] n λs o=>(n.next<=o.next/\oP (fF 3 e) λg=>oP (ez g o) λi=>oP (fD i) λj=>yU (iB 3 1 8 nZ j j) o λt u p=>oP (fF 3 e) λb=>oP (ez b p) λc=>oP (fD c) λk=>yU (iB 3 1 8 nZ k k) p λd v D=>yU (zC 22 [nS]) D λw x E=>yU (zC 22 [nS]) E λy F a=>((a.get (E.next)=some y/\O.beq y y=true)/\((a.get (D.next)=some w/\O.beq w w=true)/\((a.get (p.next)=some d/\O.beq d d=true)/\((ez b a=some c)/\((a.get (o.next)=some t/\O.beq t t=true)/\((ez g a=some i)/\fg (gJ 1 x u a) λH l=>(a.next<=l.next/\((l.get (p.next)=some d/\O.beq d d=true)/\((ez b l=some c)/\fg (gJ 1 F v l) λG z=>(l.next<=z.next/\oP (ez x z) λA=>oP (fD A) λB=>Aj C Q r s x F B nZ z)))))))))))))
theorem La{C}(s:C.start=fG){a0 h Q}(k:C.K rR [a0] h=none)(H:Ea C Q a0 h):cP C rR [a0] h Q:=cP.vd t52 s (by unfold P0;exact Tryz.func52) k H
def t81:List (Nat×List Nat):=[(19,[0,1,2,3])]
def yD(C:fk)(Q:fo)(a b c d:V)(h:Hp):Prop:=∀ρ:gL,ρ 0=a->ρ 1=b->ρ 2=c->ρ 3=d->WA C Tryz.f81 t81 9 [] Q ρ h
def yO(C:fk)(Q:fo)(fN:ML)(a b c d:V)(h:Hp):Prop:=bO .neq 3 a b (oP (ez c h) λe=>dX 1 e a h λf=>oP (ez c h) λg=>dX 1 g b h λi=>bO .gtr 3 f i (oP (ez d h) λj=>dX 1 j a h λk=>fN k b c d h) (oP (ez d h) λl=>dX 1 l b h λm=>fN a m c d h)) (Q a h)
theorem Gl{C Q}(I)(s:P4 I (yO C Q)){k a b c d h}(i:I k a b c d h):yD C Q a b c d h:=WA.l4 I _ s i
def Bd(C:fk)(Q:fo)(a0 a1 a2 a3:V)(h:Hp):Prop:=yD C Q a0 a1 a2 a3 h
theorem Js{C}(s:C.start=fG){a0 a1 a2 a3 h Q}(k:C.K jE [a0,a1,a2,a3] h=none)(H:Bd C Q a0 a1 a2 a3 h):cP C jE [a0,a1,a2,a3] h Q:=cP.vd t81 s (by unfold P0;exact Tryz.func81) k H
def t45:List (Nat×List Nat):=[(43,[1,2,7])]
def zD(C:fk)(Q:fo)(a b c:V)(h:Hp):Prop:=∀ρ:gL,ρ 1=a->ρ 2=b->ρ 7=c->WA C Tryz.f45 t45 21 [] Q ρ h
def zG(C:fk)(Q:fo)(fN:SJ)(d e a:V)(h:Hp):Prop:=bO .lss 3 a d (hV C (gi e [a]) h λb f=>bN b (Q bF f) (oP (en .add 3 a nO) λc=>fN d e c f)) (Q bT h)
theorem GV{C Q}(I)(s:P3 I (zG C Q)){k a b c h}(i:I k a b c h):zD C Q a b c h:=WA.l3 I _ s i
def CJ(C:fk)(Q:fo)(a0 a1 a2:V)(h:Hp):Prop:=zD C Q a1 a2 nZ h
theorem Ko{C}(s:C.start=fG){a0 a1 a2 h Q}(k:C.K j4 [a0,a1,a2] h=none)(H:CJ C Q a0 a1 a2 h):cP C j4 [a0,a1,a2] h Q:=cP.vd t45 s (by unfold P0;exact Tryz.func45) k H
def t74:List (Nat×List Nat):=[(43,[0,7,8,9]),(56522,[0,7,8,9,31])]
def yk(C:fk)(Q:fo)(a b c d:V)(h:Hp):Prop:=∀ρ:gL,ρ 0=a->ρ 7=b->ρ 8=c->ρ 9=d->WA C Tryz.f74 t74 21 [] Q ρ h
def kG(C:fk)(Q:fo)(fN:ML)(b c d e a:V)(h:Hp):Prop:=∀ρ:gL,ρ 0=b->ρ 7=c->ρ 8=d->ρ 9=e->ρ 31=a->WA C Tryz.f74 t74 28261 [λρ h=>fN (ρ 0) (ρ 7) (ρ 8) (ρ 9) h] Q ρ h
def xx(C:fk)(Q:fo)(fN:ML)(b e f c:V)(h:Hp):Prop:=bO .lss 3 c f (dX 1 e c h λg=>oP (hZ b) λl=>oP (fF 0 l) λm=>dG 2 m h λn=>cP C lj [g,n] h λo d=>bN o (Q bF d) (oP (hZ b) λp=>oP (fF 0 p) λq=>dJ 2 q 6 g 0 d λa=>oP (en .eql 3 a (V.I 19)) λi=>bP i (kG C Q fN b e f c i d) (oP (en .eql 3 a (V.I 20)) λj=>bP j (kG C Q fN b e f c j d) (oP (en .eql 3 a (V.I 22)) λk=>bP k (kG C Q fN b e f c k d) (oP (en .eql 3 a (V.I 23)) λr=>kG C Q fN b e f c r d))))) (Q bT h)
theorem Fu{C Q}(I)(s:P4 I (xx C Q)){k a b c d h}(i:I k a b c d h):yk C Q a b c d h:=WA.l4 I _ s i
def wP(C:fk)(Q:fo)(fN:ML)(c d e f a:V)(h:Hp):Prop:=bP a (Q bF h) (oP (en .add 3 f nO) λb=>fN c d e b h)
theorem D1{C:fk}{Q:fo}{fN:ML}{b c d e a:V}{h:Hp}(H:wP C Q fN b c d e a h):kG C Q fN b c d e a h:=by
 rintro ρ rfl rfl rfl rfl rfl;exact WA.of (by kernel_rfl) H
def z8(C:fk)(Q:fo)(a0 a1:V)(h:Hp):Prop:=oP (fD a1) λa=>yk C Q a0 a1 a nZ h
theorem IP{C}(s:C.start=fG){a0 a1 h Q}(k:C.K jr [a0,a1] h=none)(H:z8 C Q a0 a1 h):cP C jr [a0,a1] h Q:=cP.vd t74 s (by unfold P0;exact Tryz.func74) k H
def t46:List (Nat×List Nat):=[(175,[0,27,28,29])]
def xj(C:fk)(Q:fo)(d a b c:V)(h:Hp):Prop:=∀ρ:gL,ρ 0=d->ρ 27=a->ρ 28=b->ρ 29=c->WA C Tryz.f46 t46 87 [] Q ρ h
def w9(C:fk)(Q:fo)(fN:ML)(i d e c:V)(h:Hp):Prop:=bO .lss 3 c e (oP (gG 4 d c) λj=>oP (fX 4 j h) λk=>hH (zC 49 [nZ,nZ,nS,nS]) h λf N=>fg (gJ 4 f k N) λO g=>dG 2 f g λl=>oP (en .gtr 3 l (V.I 40)) λm=>oP (nt m (oB (fF 3 f) λn=>oB (ez n g) λo=>oB (fD o) λp=>en .gtr 3 p (V.I 60))) λa=>oP (fu false a) λq=>oP (gV q (some i)) λr=>oP (fu false a) λs=>oP (gV s (fF 2 f)) λt=>oP (fu false a) λu=>oP (gV u (ez t g)) λv=>oP (fu false a) λw=>oP (gC w (some (jr,[r,v]))) λx=>qN C x g λy L=>oP (nt a (pA .not y)) λb=>oP (fu false b) λz=>oP (gV z (some i)) λA=>oP (fu false b) λB=>oP (gV B (fF 3 f)) λD=>oP (fu false b) λE=>oP (gV E (ez D L)) λF=>oP (fu false b) λG=>oP (gC G (some (jr,[A,F]))) λH=>qN C H L λI M=>oP (nt b (pA .not I)) λJ=>bP J (Q bF M) (oP (en .add 3 c nO) λK=>fN i d e K M)) (Q bT h)
theorem Fs{C Q}(I)(s:P4 I (w9 C Q)){k d a b c h}(i:I k d a b c h):xj C Q d a b c h:=WA.l4 I _ s i
def Ap(C:fk)(Q:fo)(a0 a1:V)(h:Hp):Prop:=oP (hZ a0) λp=>oP (fF 0 p) λd=>dF 4 d h λe=>oP (gG 1 e a1) λf=>oP (fX 1 f h) λg=>hH (zC 52 [nS]) h λc q=>fg (gJ 1 c g q) λr a=>dG 0 c a λi=>oP (en .eql 3 i nZ) λj=>oP (nt j (oB (fF 0 c) λk=>oB (ez k a) λl=>oB (fD l) λm=>en .gtr 3 m (V.I 30))) λn=>bP n (Q bF a) (dF 0 c a λb=>oP (fD b) λo=>xj C Q a0 b o nZ a)
theorem Iz{C}(s:C.start=fG){a0 a1 h Q}(k:C.K mR [a0,a1] h=none)(H:Ap C Q a0 a1 h):cP C mR [a0,a1] h Q:=cP.vd t46 s (by unfold P0;exact Tryz.func46) k H
def t47:List (Nat×List Nat):=[(87,[0,36,37]),(351,[0,4,51,52,53]),(190047,[0,4,5,7,51,52,53,59,60,61])]
def xS(C:fk)(Q:fo)(c a b:V)(h:Hp):Prop:=∀ρ:gL,ρ 0=c->ρ 36=a->ρ 37=b->WA C Tryz.f47 t47 43 [] Q ρ h
def yn(C:fk)(Q:fo)(d e a b c:V)(h:Hp):Prop:=∀ρ:gL,ρ 0=d->ρ 4=e->ρ 51=a->ρ 52=b->ρ 53=c->WA C Tryz.f47 t47 175 [] Q ρ h
def xd(C:fk)(Q:fo)(a:Kf)(i j k l b c d e f g:V)(h:Hp):Prop:=∀ρ:gL,ρ 0=i->ρ 4=j->ρ 5=k->ρ 7=l->ρ 51=b->ρ 52=c->ρ 53=d->ρ 59=e->ρ 60=f->ρ 61=g->WA C Tryz.f47 t47 95023 [λρ h=>a (ρ 0) (ρ 4) (ρ 51) (ρ 52) (ρ 53) h] Q ρ h
def yj(C:fk)(Q:fo)(fN:SJ)(d b a:V)(h:Hp):Prop:=bO .lss 3 a b (dN 5 d h λe=>oP (gG 1 e a) λf=>fg (gJ 1 f (V.I (-1)) h) λm l=>oP (en .add 3 a nO) λg=>fN d b g l) (oP (hZ d) λi=>oP (fF 0 i) λj=>dF 3 j h λc=>oP (fD c) λk=>yn C Q d nZ c k nZ h)
theorem Fa{C Q}(I)(s:P3 I (yj C Q)){k c a b h}(i:I k c a b h):xS C Q c a b h:=WA.l3 I _ s i
def ym(C:fk)(Q:fo)(j:Kf)(n o b c a:V)(h:Hp):Prop:=bO .lss 3 a c (oP (gG 6 b a) λk=>oP (fX 6 k h) λl=>hH (zC 43 [nS,nZ,nZ,nS,nS,nZ]) h λp r=>fg (gJ 6 p l r) λs q=>dF 0 p q λd=>oP (fD d) λm=>xd C Q j n o a bT b c a d m nZ q) (oP (hZ n) λe=>oP (fF 0 e) λf=>dG 2 f h λg=>oP (en .eql 3 o g) λi=>Q i h)
theorem Fi{C Q}(I)(s:P5 I (ym C Q)){k d e a b c h}(i:I k d e a b c h):yn C Q d e a b c h:=WA.l5 I _ s i
def xA(C:fk)(Q:fo)(D:Kf)(E:L1)(d x4 F x7 g i j k l b:V)(h:Hp):Prop:=bO .lss 3 b l (dX 1 k b h λa=>oP (hZ d) λG=>oP (fF 0 G) λH=>dG 2 H h λI=>cP C lj [a,I] h λJ c=>oP (pA .not J) λK=>oP (nt K (oB (some d) λL=>oB (hZ L) λM=>oB (fF 5 M) λN=>oB (ez N c) λO=>oB (some a) λP=>oB (gG 1 O P) λR=>oB (ez R c) λS=>en .geq 3 S nZ)) λT=>bP T (Q bF c) (oP (hZ d) λU=>oP (fF 0 U) λW=>dJ 2 W 6 a 0 c λe=>oP (en .eql 3 e (V.I 21)) λX=>oP (nt X (oB (some e) λY=>en .eql 3 Y nO)) λf=>oP (jX f (oB (some x7) λm=>pA .not m)) λn=>oP (nt n (oB (some e) λo=>oB (en .eql 3 o nO) λp=>oB (some F) λq=>oB (en .eql 3 q nZ) λr=>oB (en .neq 4 p r) λs=>oB (some s) λt=>jX t (some f))) λu=>bP u (Q bF c) (dN 5 d c λv=>dN 6 d c λw=>oP (gG 1 v a) λx=>fg (gJ 1 x F c) λvu Z=>(c.next<=Z.next/\oP (gG 1 w a) λy=>fg (gJ 1 y b Z) λaa h3=>(Z.next<=h3.next/\oP (en .add 3 x4 nO) λz=>oP (en .add 3 b nO) λA=>E d z F f g i j k l A h3))))) (oP (en .add 3 j nO) λB=>D d x4 g i B h)
theorem FB{C Q a}(I)(s:P10 I (xA C Q a)){k j l m n b c d e f g h}(i:I k j l m n b c d e f g h):xd C Q a j l m n b c d e f g h:=WA.l10 I _ s i
def zW(C:fk)(Q:fo)(a0:V)(h:Hp):Prop:=oP (hZ a0) λl=>oP (fF 0 l) λm=>oP (fF 2 m) λc=>oP (ez c h) λd=>oP (fD d) λe=>yU (iB 3 1 8 nZ e e) h λn o j=>oP (hZ a0) λp=>oP (fF 0 p) λq=>oP (fF 2 q) λf=>oP (ez f j) λg=>oP (fD g) λi=>yU (iB 3 1 8 nZ i i) j λa r b=>oP (hZ a0) λs=>oP (fF 5 s) λt=>((b.get (j.next)=some a/\O.beq a a=true)/\((ez f b=some g)/\((b.get (h.next)=some n/\O.beq n n=true)/\((ez c b=some d)/\fg (gJ 1 t o b) λA k=>(b.next<=k.next/\oP (hZ a0) λu=>oP (fF 6 u) λv=>((k.get (j.next)=some a/\O.beq a a=true)/\fg (gJ 1 v r k) λz w=>(k.next<=w.next/\oP (hZ a0) λx=>dG 5 x w λy=>xS C Q a0 y nZ w)))))))
theorem II{C}(s:C.start=fG){a0 h Q}(k:C.K pC [a0] h=none)(H:zW C Q a0 h):cP C pC [a0] h Q:=cP.vd t47 s (by unfold P0;exact Tryz.func47) k H
section
variable (C:fk)(Q:X->gL->Hp->Prop)(ρ:gL)(h:Hp)
def Ry:=LS Tryz.f48
def zcc:=Ry.r
def zcJ:=Ry.r.r
def zcL:=Ry.r.r.l.r
def zcE:=Ry.r.r.r
def zeA:=andThen (Wp C 94 zcE Q) Q
def zb9:=Ry.r.r.l.r.l.r
def zcP:=Ry.r.r.r.l.r
def zcR:=Ry.r.r.r.r
def q78:=andThen (Wp C 94 zcR Q) Q
def zcv:=Ry.r.r.r.l.r.l.r
def zfy(C:fk)(Q:XQ):XQ:=w7 0 Q
def zcF:=Ry.r.r.r.r.r
def zcC:=Ry.r.r.r.l.r.l.r.l.r
def Zr:=Ry.r.r.r.l.r.l.r.r.r
def ZN:=Ry.r.r.r.l.r.l.r.r.r.l.r
def YJ:=Ry.r.r.r.l.r.l.r.r.r.r.r
def ZT:=Ry.r.r.r.l.r.l.r.r.r.r.r.l.r
theorem e48:j5 C 94 Ry Q ρ h=(oP (some (V.bool false)) λa=>
 Wp C 94 zcc Q (fq ρ 4 a) h):=by kernel_rfl
theorem zfG:j5 C 94 zcc Q ρ h=(oP (some (ρ 0)) λe=>
 oP (hZ e) λf=>
 oP (fF 0 f) λg=>
 oP (fF 2 g) λi=>
 oP (ez i h) λa=>
 oP (some (ρ 1)) λb=>
 oP (gG 6 a b) λc=>
 oP (fX 6 c h) λd=>
 hH (some (.cells 45 1 true false [(V.I 0),(V.I 0),(V.I 0),(V.I 0),V.ee,(V.I 0)],λl=> .ptr l 0)) h λj k=>
 fg (gJ 6 j d k) λn m=>
 Wp C 94 zcJ Q (fq (fq (fq (fq (fq (fq (fq (fq (fq ρ 6 e) 7 f) 8 g) 9 i) 10 a) 11 b) 12 c) 13 d) 5 j) m):=by kernel_rfl
theorem zfu:j5 C 94 zcJ Q ρ h=(oP (fF 0 (ρ 5)) λd=>
 oP (ez d h) λs=>
 ((ez d h=some s)/\
 ((fF 0 (ρ 5)=some d)/\
 dcP C ER [s] h λt D=>
 (h.next<=D.next/\
 oP (en .eql 9 t (V.str [])) λe=>
 oP (some e) λb=>
 oP (fu false b) λW=>
 oP (gV W (some (ρ 0))) λf=>
 oP (fu false b) λb6=>
 oP (gV b6 (fX 6 (ρ 5) D)) λu=>
 ((gT b6 (fX 6 (ρ 5) D=some u))/\
 ((gT W (some (ρ 0)=some f))/\
 ((some e=some b)/\
 ((en .eql 9 t (V.str [])=some e)/\
 oP (fu false b) λb7=>
 oP (gC b7 (some (qb,[u]))) λx7=>qN C x7 D λE X=>
 (D.next<=X.next/\
 ((gT W (some (ρ 0)=some f))/\
 oP (fu false b) λb8=>
 oP (gC b8 (some (jr,[f,E]))) λx8=>qN C x8 X λv F=>
 (X.next<=F.next/\
 oP (fu false b) λb9=>
 oP (gV b9 (pA .not v)) λg=>
 oP (jw b (V.bool true) g) λi=>
 oP (some i) λc=>
 oP (fu false c) λG=>
 oP (gV G (fF 0 (ρ 5))) λj=>
 oP (fu false c) λH=>
 oP (gV H (ez j F)) λw=>
 ((gT H (ez j F=some w))/\
 ((gT G (fF 0 (ρ 5)=some j))/\
 ((some i=some c)/\
 ((jw b (V.bool true) g=some i)/\
 ((gT b9 (pA .not v=some g))/\
 oP (fu false c) λY=>
 oP (gC Y (some (oL,[w]))) λZ=>qN C Z F λx y=>
 (F.next<=y.next/\
 oP (fu false c) λI=>
 oP (gV I (some x)) λa=>
 oP (fu true a) λJ=>
 oP (gV J (fF 5 (ρ 5))) λk=>
 oP (fu true a) λK=>
 oP (gV K (ez k y)) λz=>
 oP (fu true a) λL=>
 oP (gV L (some (ρ 0))) λl=>
 oP (fu true a) λM=>
 oP (gV M (hZ l)) λm=>
 oP (fu true a) λN=>
 oP (gV N (fF 0 m)) λn=>
 oP (fu true a) λO=>
 oP (gV O (fF 4 n)) λo=>
 oP (fu true a) λP=>
 oP (gV P (ez o y)) λp=>
 oP (fu true a) λR=>
 oP (gV R (fD p)) λA=>
 ((gT R (fD p=some A))/\
 ((gT P (ez o y=some p))/\
 ((gT O (fF 4 n=some o))/\
 ((gT N (fF 0 m=some n))/\
 ((gT M (hZ l=some m))/\
 ((gT L (some (ρ 0)=some l))/\
 ((gT K (ez k y=some z))/\
 ((gT J (fF 5 (ρ 5)=some k))/\
 ((gT I (some x=some a))/\
 oP (fu true a) λaa=>
 oP (gC aa (some (lj,[z,A]))) λab=>qN C ab y λB h5=>
 (y.next<=h5.next/\
 oP (fu true a) λS=>
 oP (gV S (pA .not B)) λq=>
 oP (fu false c) λT=>
 oP (gV T (jw a q (V.bool false))) λr=>
 oP (jw c (V.bool true) r) λU=>
 ((jw c (V.bool true) r=some U)/\
 ((gT T (jw a q (V.bool false)=some r))/\
 ((gT S (pA .not B=some q))/\
 Wp C 94 zcL (zeA C Q) (fq (fq (fq (fq (fq (fq (fq (fq (fq (fq (fq (fq (fq (fq (fq (fq (fq (fq (fq (fq (fq (fq (fq (fq (fq (fq (fq (fq ρ 14 d) 15 s) 16 t) 17 e) 18 b) 19 f) 20 u) 21 E) 22 v) 23 g) 24 i) 25 c) 26 j) 27 w) 28 x) 29 a) 30 k) 31 z) 32 l) 33 m) 34 n) 35 o) 36 p) 37 A) 38 B) 39 q) 40 r) 41 U) h5)))))))))))))))))))))))))))))):=by kernel_rfl
theorem zex:j5 C 94 zcE Q ρ h=(oP (fF 0 (ρ 5)) λa=>
 oP (ez a h) λb=>
 Wp C 94 zcP (q78 C Q) (fq (fq ρ 42 a) 43 b) h):=by kernel_rfl
theorem zfg:j5 C 94 zcL Q ρ h=(oP (some (ρ 41)) λc=>
 bP c (
 oP (some (V.bool false)) λa=>
 Wp C 94 zb9 Q (fq ρ 4 a) h) (
 Q .normal ρ h)):=by kernel_rfl
theorem ze0:j5 C 94 zcR Q ρ h=(oP (some (V.bool true)) λa=>
 Wp C 94 zcF Q (fq ρ 4 a) h):=by kernel_rfl
theorem zeu:j5 C 94 zcP Q ρ h=(oP (en .eql 3 (ρ 43) (V.I 20)) λa=>
 oP (some a) λb=>
 Wp C 94 zcv (zfy C Q) (fq (fq ρ 45 a) 44 b) h):=by kernel_rfl
theorem zeQ:j5 C 94 zcF Q ρ h=(Q .ret ρ h):=by kernel_rfl
theorem ze2:j5 C 94 zb9 Q ρ h=(Q .ret ρ h):=by kernel_rfl
theorem zei:j5 C 94 zcv Q ρ h=(oP (some (ρ 44)) λc=>
 bP c (
 oP (fF 4 (ρ 5)) λa=>
 oP (ez a h) λb=>
 oP (fD b) λd=>
 oP (en .eql 3 d (V.I 1)) λe=>
 oP (some e) λi=>
 Wp C 94 zcC Q (fq (fq (fq (fq (fq ρ 46 a) 47 b) 48 d) 49 e) 4 i) h) (
 oP (en .eql 3 (ρ 43) (V.I 21)) λf=>
 oP (some f) λg=>
 Wp C 94 Zr Q (fq (fq ρ 51 f) 50 g) h)):=by kernel_rfl
theorem zfK:j5 C 94 zcC Q ρ h=(Q .ret ρ h):=by kernel_rfl
theorem zdg:j5 C 94 Zr Q ρ h=(oP (some (ρ 50)) λc=>
 bP c (
 oP (fF 4 (ρ 5)) λa=>
 oP (ez a h) λb=>
 oP (fD b) λd=>
 oP (some (ρ 0)) λe=>
 oP (hZ e) λf=>
 oP (fF 0 f) λg=>
 oP (fF 3 g) λi=>
 oP (ez i h) λj=>
 oP (some (ρ 0)) λk=>
 oP (hZ k) λl=>
 oP (fF 5 l) λm=>
 oP (ez m h) λn=>
 oP (some (ρ 1)) λo=>
 oP (gG 1 n o) λp=>
 oP (ez p h) λq=>
 oP (gG 6 j q) λr=>
 oP (fF 4 r) λs=>
 oP (ez s h) λt=>
 oP (fD t) λu=>
 oP (en .eql 3 d u) λv=>
 oP (some v) λy=>
 ((some v=some y)/\
 ((en .eql 3 d u=some v)/\
 ((fD t=some u)/\
 ((ez s h=some t)/\
 ((fF 4 r=some s)/\
 ((gG 6 j q=some r)/\
 ((ez p h=some q)/\
 ((gG 1 n o=some p)/\
 ((some (ρ 1)=some o)/\
 ((ez m h=some n)/\
 ((fF 5 l=some m)/\
 ((hZ k=some l)/\
 ((some (ρ 0)=some k)/\
 ((ez i h=some j)/\
 ((fF 3 g=some i)/\
 ((fF 0 f=some g)/\
 ((hZ e=some f)/\
 ((some (ρ 0)=some e)/\
 ((fD b=some d)/\
 ((ez a h=some b)/\
 ((fF 4 (ρ 5)=some a)/\
 Wp C 94 ZN Q (fq (fq (fq (fq (fq (fq (fq (fq (fq (fq (fq (fq (fq (fq (fq (fq (fq (fq (fq (fq (fq ρ 52 a) 53 b) 54 d) 55 e) 56 f) 57 g) 58 i) 59 j) 60 k) 61 l) 62 m) 63 n) 64 o) 65 p) 66 q) 67 r) 68 s) 69 t) 70 u) 71 v) 4 y) h)))))))))))))))))))))) (
 oP (en .eql 3 (ρ 43) (V.I 1)) λw=>
 oP (some w) λx=>
 Wp C 94 YJ Q (fq (fq ρ 73 w) 72 x) h)):=by kernel_rfl
theorem zdm:j5 C 94 ZN Q ρ h=(Q .ret ρ h):=by kernel_rfl
theorem zdy:j5 C 94 YJ Q ρ h=(oP (some (ρ 72)) λc=>
 bP c (
 oP (fF 3 (ρ 5)) λd=>
 oP (ez d h) λe=>
 oP (en .geq 2 e (V.I 0)) λf=>
 oP (some f) λb=>
 oP (fu true b) λH=>
 oP (gV H (fF 3 (ρ 5))) λg=>
 oP (fu true b) λI=>
 oP (gV I (ez g h)) λi=>
 oP (fu true b) λJ=>
 oP (gV J (en .lss 2 i (V.I 40))) λj=>
 oP (jw b j (V.bool false)) λk=>
 oP (some k) λa=>
 oP (fu true a) λK=>
 oP (gV K (some (ρ 0))) λl=>
 oP (fu true a) λw=>
 oP (gV w (hZ l)) λm=>
 oP (fu true a) λx=>
 oP (gV x (fF 0 m)) λn=>
 oP (fu true a) λy=>
 oP (gV y (fF 2 n)) λo=>
 oP (fu true a) λz=>
 oP (gV z (ez o h)) λp=>
 oP (fu true a) λA=>
 oP (gV A (some (ρ 1))) λq=>
 oP (fu true a) λB=>
 oP (gV B (jz 6 p none (some q) h)) λr=>
 oP (fu true a) λD=>
 oP (gV D (some (V.func jY [] [(ρ 5)]))) λs=>
 oP (fu true a) λE=>
 oP (gC E (some (hX,[r,s]))) λF=>qN C F h λt L=>
 oP (fu true a) λG=>
 oP (gV G (pA .not t)) λu=>
 oP (jw a u (V.bool false)) λv=>
 oP (some v) λM=>
 Wp C 94 ZT Q (fq (fq (fq (fq (fq (fq (fq (fq (fq (fq (fq (fq (fq (fq (fq (fq (fq (fq (fq (fq (fq ρ 74 d) 75 e) 76 f) 77 b) 78 g) 79 i) 80 j) 81 k) 82 a) 83 l) 84 m) 85 n) 86 o) 87 p) 88 q) 89 r) 90 s) 91 t) 92 u) 93 v) 4 M) L) (
 Q .normal ρ h)):=by kernel_rfl
theorem zdz:j5 C 94 ZT Q ρ h=(Q .ret ρ h):=by kernel_rfl
theorem g48{C:fk}(hs:C.start=fG)(a0 a1:V){h:Hp}{Q:fo}(hk:C.K kO [a0,a1] h=none)(H:j5 C 94 Ry (Jb [.tmp 4] Q) (Mq [a0,a1]) h):cP C kO [a0,a1] h Q:=
 cP.Z2 hs (show P0.funcs[48]? =some Tryz.f48 by unfold P0;exact Tryz.func48) (by kernel_rfl) (by kernel_rfl) (by kernel_rfl) hk (K7 rfl) (Wp.code _ H)
def xO(C:fk)(Q:fo)(a0 a1:V)(h:Hp):Prop:=oP (hZ a0) λv7=>oP (fF 0 v7) λv8=>dF 2 v8 h λs=>oP (gG 6 s a1) λt=>oP (fX 6 t h) λu=>hH (zC 45 [nZ,nZ,nZ,nZ,nS,nZ]) h λd h1=>fg (gJ 6 d u h1) λvu v=>dF 0 d v λw=>cP C ER [w] v λx q=>(v.next<=q.next/\oP (en .eql 9 x (V.str [])) λe=>oP (fu false e) λb5=>oP (gV b5 (some a0)) λy=>oP (fu false e) λb6=>oP (gV b6 (fX 6 d q)) λz=>oP (fu false e) λb7=>oP (gC b7 (some (qb,[z]))) λy7=>qN C y7 q λA B=>(q.next<=B.next/\oP (fu false e) λb8=>oP (gC b8 (some (jr,[y,A]))) λy8=>qN C y8 B λD r=>(B.next<=r.next/\oP (nt e (pA .not D)) λf=>oP (fu false f) λE=>oP (gV E (fF 0 d)) λF=>oP (fu false f) λG=>oP (gV G (ez F r)) λH=>oP (fu false f) λI=>oP (gC I (some (oL,[H]))) λJ=>qN C J r λK o=>(r.next<=o.next/\oP (fu false f) λL=>oP (gV L (some K)) λa=>oP (fu true a) λM=>oP (gV M (fF 5 d)) λN=>oP (fu true a) λO=>oP (gV O (ez N o)) λP=>oP (fu true a) λR=>oP (gV R (some a0)) λS=>oP (fu true a) λT=>oP (gV T (hZ S)) λU=>oP (fu true a) λW=>oP (gV W (fF 0 U)) λX=>oP (fu true a) λY=>oP (gV Y (fF 4 X)) λZ=>oP (fu true a) λaa=>oP (gV aa (ez Z o)) λab=>oP (fu true a) λac=>oP (gV ac (fD ab)) λae=>oP (fu true a) λag=>oP (gC ag (some (lj,[P,ae]))) λah=>qN C ah o λai c=>(o.next<=c.next/\oP (fu true a) λaj=>oP (gV aj (pA .not ai)) λak=>oP (nt f (jw a ak bF)) λal=>bP al (Q bF c) (dF 0 d c λg=>bO .eql 3 g (V.I 20) (dG 4 d c λam=>oP (en .eql 3 am nO) λan=>Q an c) (bO .eql 3 g (V.I 21) (dG 4 d c λao=>oP (hZ a0) λap=>oP (fF 0 ap) λaq=>dF 3 aq c λar=>dN 5 a0 c λau=>dX 1 au a1 c λaw=>oP (gG 6 ar aw) λax=>dG 4 ax c λay=>oP (en .eql 3 ao ay) λaA=>Q aA c) (bO .eql 3 g nO (dF 3 d c λaB=>oP (en .geq 2 aB nZ) λaC=>oP (jX aC (oB (fF 3 d) λaD=>oB (ez aD c) λaE=>en .lss 2 aE (V.I 40))) λb=>oP (fu true b) λp=>oP (gV p (some a0)) λaF=>oP (fu true b) λaG=>oP (gV aG (hZ aF)) λaH=>oP (fu true b) λaI=>oP (gV aI (fF 0 aH)) λaJ=>oP (fu true b) λi=>oP (gV i (fF 2 aJ)) λaK=>oP (fu true b) λj=>oP (gV j (ez aK c)) λaL=>oP (fu true b) λk=>oP (gV k (some a1)) λaM=>oP (fu true b) λl=>oP (gV l (jz 6 aL none (some aM) c)) λaN=>oP (fu true b) λm=>oP (gV m (some (V.func jY [] [d]))) λaO=>oP (fu true b) λn=>oP (gC n (some (hX,[aN,aO]))) λaP=>qN C aP c λaQ h8=>oP (jX b (pA .not aQ)) λaR=>Q aR h8) (Q bT c)))))))))
theorem J4{C:fk}(hs:C.start=fG){a0 a1:V}{h:Hp}{Q:fo}(hk:C.K kO [a0,a1] h=none)(H:xO C Q a0 a1 h):cP C kO [a0,a1] h Q:=by
 unfold xO at H;exact g48 hs _ _ hk ((e48 _ _ _ _).mpr (vP (Wp.of (zfG _ _ _ _) (vP (oM H λv7 _ H=>oM H λv8 _ H=>oM H λv9 _ H=>oM H λaq _ H=>vP (oM H λar _ H=>oM H λau _ H=>alM H λv5 h1 H=>zcV H λvu h2 H=>Wp.of (zfu _ _ _ _) (oM H λaw b H=>oM H λax c H=>⟨c,⟨b,dcM H λay h3 H=>anM H λH=>oM H λaA d H=>vP (oM H λb5 _ H=>oM H λaB a H=>oM H λb6 _ H=>oM H λaC e H=>⟨(ig e),⟨(ig a),⟨rfl,⟨d,oM H λb7 _ H=>oM H λy7 _ H=>cgM H λaD h4 H=>anM H λH=>⟨(ig a),oM H λb8 _ H=>oM H λy8 _ H=>cgM H λaE h5 H=>anM H λH=>thn (KW H) λH=>oM H λb9 Z H=>oM H λaF f H=>oM H λaG g H=>vP (oM H λaH _ H=>oM H λaI i H=>oM H λaJ _ H=>oM H λaK j H=>⟨(ig j),⟨(ig i),⟨rfl,⟨g,⟨(ig f),oM H λaL _ H=>oM H λaM _ H=>cgM H λaN h6 H=>anM H λH=>oM H λaO _ H=>oM H λaP k H=>oM H λaQ _ H=>oM H λaR l H=>oM H λaS _ H=>oM H λaT m H=>oM H λaU _ H=>oM H λaV n H=>oM H λaW _ H=>oM H λaX o H=>oM H λaY _ H=>oM H λaZ p H=>oM H λa4 _ H=>oM H λa5 q H=>oM H λa6 _ H=>oM H λa7 r H=>oM H λa8 _ H=>oM H λa9 s H=>⟨(ig s),⟨(ig r),⟨(ig q),⟨(ig p),⟨(ig o),⟨(ig n),⟨(ig m),⟨(ig l),⟨(ig k),oM H λba _ H=>oM H λbb _ H=>cgM H λbc h7 H=>anM H λH=>oM H λbd _ H=>oM H λbe t H=>thn (KW H) λH=>oM H λbf aa H=>oM H λbg u H=>oM H λbh v H=>⟨v,⟨(ig u),⟨(ig t),Wp.of (zfg _ _ _ _) (vP (bM H (λH=>vP (Wp.of (ze2 _ _ _ _) (H))) (λH=>Wp.of (zex _ _ _ _) (oM H λbi _ H=>oM H λbj _ H=>Wp.of (zeu _ _ _ _) (oM H λbm _ H=>vP (Wp.of (zei _ _ _ _) (vP (bM H (λH=>oM H λbo _ H=>oM H λbr _ H=>oM H λbt _ H=>oM H λbu _ H=>vP (Wp.of (zfK _ _ _ _) (H))) (λH=>oM H λbw _ H=>vP (Wp.of (zdg _ _ _ _) (vP (bM H (λH=>oM H λbx w H=>oM H λbz x H=>oM H λbA y H=>vP (oM H λbC z H=>oM H λbD A H=>oM H λbE B H=>oM H λbG D H=>vP (oM H λbH E H=>oM H λbI F H=>oM H λbJ G H=>vP (oM H λbK I H=>oM H λbL J H=>oM H λbQ L H=>oM H λbR M H=>oM H λbS N H=>oM H λbU O H=>oM H λbV P H=>vP (⟨rfl,⟨P,⟨O,⟨N,⟨M,⟨L,⟨J,⟨I,⟨rfl,⟨G,⟨F,⟨E,⟨rfl,⟨D,⟨B,⟨A,⟨z,⟨rfl,⟨y,⟨x,⟨w,Wp.of (zdm _ _ _ _) (H)⟩⟩⟩⟩⟩⟩⟩⟩⟩⟩⟩⟩⟩⟩⟩⟩⟩⟩⟩⟩⟩))))) (λH=>oM H λbW _ H=>vP (Wp.of (zdy _ _ _ _) (vP (bM H (λH=>oM H λbX _ H=>oM H λbY _ H=>oM H λbZ _ H=>vP (thn (N3 H) λH=>sG1 H λb4 ab ca ac H=>sG1 H λae ag cb ah H=>oM H λai aj H=>oM H λcd ak H=>oM H λce al H=>vP (oM H λam _ H=>oM H λcf _ H=>oM H λcg _ H=>oM H λci _ H=>oM H λcj _ H=>oM H λcl _ H=>oM H λR _ H=>oM H λcm _ H=>oM H λS _ H=>oM H λcn _ H=>oM H λT _ H=>oM H λco _ H=>oM H λU _ H=>oM H λcp _ H=>oM H λW _ H=>oM H λcq _ H=>oM H λX _ H=>oM H λcr _ H=>cgM H λct h8 H=>thn (N3 H) λH=>oM H λY an H=>oM H λcu ao H=>oM H λcv ap H=>vP (Wp.of (zdz _ _ _ _) (H))))) (λH=>Wp.of (ze0 _ _ _ _) (vP (Wp.of (zeQ _ _ _ _) (H))))))))))))))))))))⟩⟩⟩⟩⟩⟩⟩⟩⟩⟩⟩⟩⟩⟩⟩⟩⟩)⟩⟩⟩⟩⟩)⟩⟩)))))))
end
def t49:List (Nat×List Nat):=[(87,[0,5,17,18,19])]
def yL(C:fk)(Q:fo)(d e a b c:V)(h:Hp):Prop:=∀ρ:gL,ρ 0=d->ρ 5=e->ρ 17=a->ρ 18=b->ρ 19=c->WA C Tryz.f49 t49 43 [] Q ρ h
def yQ(C:fk)(Q:fo)(fN:Kf)(n c f g d:V)(h:Hp):Prop:=bO .lss 3 d g (dX 1 f d h λo=>oP (hZ n) λp=>oP (fF 0 p) λq=>dG 3 q h λs=>cP C lj [o,s] h λt X=>bN t (Q bF X) (oP (en .add 3 d nO) λu=>fN n c f g u X)) (dF 1 c h λe=>bO .eql 3 e nO (dG 3 c h λv=>oP (en .eql 3 v nO) λw=>Q w h) (bO .eql 3 e (V.I 2) (dG 3 c h λx=>oP (en .eql 3 x (V.I 2)) λb=>oP (fu true b) λZ=>oP (gV Z (some n)) λy=>oP (fu true b) λb6=>oP (gV b6 (fF 2 c)) λz=>oP (fu true b) λb7=>oP (gV b7 (ez z h)) λA=>oP (fu true b) λb8=>ghP b8 h (oB (jK 3 1 1 nZ [(0,A)]) λr=>some (r.2 h.next,h.new r.1)) λB h2=>oP (fu true b) λb9=>oP (gC b9 (some (jr,[y,B]))) λy9=>qN C y9 h2 λD h3=>oP (jw b D bF) λE=>Q E h3) (bO .eql 3 e (V.I 3) (dG 3 c h λF=>oP (en .eql 3 F nZ) λa=>oP (fu true a) λi=>oP (gV i (fF 5 c)) λG=>oP (fu true a) λj=>oP (gV j (ez G h)) λH=>oP (fu true a) λk=>oP (gV k (some n)) λI=>oP (fu true a) λl=>oP (gV l (hZ I)) λJ=>oP (fu true a) λm=>oP (gV m (fF 0 J)) λK=>oP (fu true a) λL=>oP (gV L (fF 4 K)) λM=>oP (fu true a) λN=>oP (gV N (ez M h)) λO=>oP (fu true a) λP=>oP (gV P (fD O)) λR=>oP (fu true a) λS=>oP (gC S (some (lj,[H,R]))) λT=>qN C T h λU Y=>(h.next<=Y.next/\oP (jw a U bF) λW=>Q W Y)) (Q bF h))))
theorem Gp{C Q}(I)(s:P5 I (yQ C Q)){k d e a b c h}(i:I k d e a b c h):yL C Q d e a b c h:=WA.l5 I _ s i
def Bf(C:fk)(Q:fo)(a0 a1:V)(h:Hp):Prop:=oP (hZ a0) λj=>oP (fF 0 j) λb=>dF 3 b h λc=>oP (gG 6 c a1) λd=>oP (fX 6 d h) λe=>hH (zC 43 [nS,nZ,nZ,nS,nS,nZ]) h λf k=>fg (gJ 6 f e k) λl i=>dF 3 f i λa=>oP (fD a) λg=>yL C Q a0 f a g nZ i
theorem JL{C}(s:C.start=fG){a0 a1 h Q}(k:C.K nw [a0,a1] h=none)(H:Bf C Q a0 a1 h):cP C nw [a0,a1] h Q:=cP.vd t49 s (by unfold P0;exact Tryz.func49) k H
def t50:List (Nat×List Nat):=[(171,[0,1,16,17,18]),(14,[0,1]),(175,[0,7,54,55,56])]
def zs(C:fk)(Q:fo)(d e a b c:V)(h:Hp):Prop:=∀ρ:gL,ρ 0=d->ρ 1=e->ρ 16=a->ρ 17=b->ρ 18=c->WA C Tryz.f50 t50 85 [] Q ρ h
def oQ(C:fk)(Q:fo)(a b:V)(h:Hp):Prop:=∀ρ:gL,ρ 0=a->ρ 1=b->WA C Tryz.f50 t50 7 [] Q ρ h
def zk(C:fk)(Q:fo)(d e a b c:V)(h:Hp):Prop:=∀ρ:gL,ρ 0=d->ρ 7=e->ρ 54=a->ρ 55=b->ρ 56=c->WA C Tryz.f50 t50 87 [] Q ρ h
def zm(C:fk)(Q:fo)(fN:Kf)(e s b c a:V)(h:Hp):Prop:=bO .lss 3 a c (dX 1 b a h λd=>oP (hZ e) λf=>oP (fF 0 f) λg=>dJ 3 g 6 a 4 h λi=>cP C gX [d,i] h λj t=>oP (pA .not j) λk=>oP (nt k (oB (some a) λl=>oB (en .eql 3 l nZ) λm=>oB (some m) λn=>jX n (oB (some d) λo=>oB (fD o) λp=>en .gtr 3 p nZ))) λq=>bP q (Q bF t) (oP (en .add 3 a nO) λr=>fN e s b c r t)) (oQ C Q e s h)
theorem Hu{C Q}(I)(s:P5 I (zm C Q)){k d e a b c h}(i:I k d e a b c h):zs C Q d e a b c h:=WA.l5 I _ s i
def zu(C:fk)(Q:fo)(j l:V)(h:Hp):Prop:=oP (hZ j) λb=>oP (fF 0 b) λc=>dF 3 c h λd=>oP (gG 6 d l) λe=>oP (fX 6 e h) λf=>hH (zC 43 [nS,nZ,nZ,nS,nS,nZ]) h λg m=>fg (gJ 6 g f m) λn k=>dF 3 g k λa=>oP (fD a) λi=>zk C Q j g a i nZ k
theorem GK{C:fk}{Q:fo}{a b:V}{h:Hp}(H:zu C Q a b h):oQ C Q a b h:=by
 rintro ρ rfl rfl;exact WA.of (by kernel_rfl) H
def zA(C:fk)(Q:fo)(d:Kf)(u v b c a:V)(h:Hp):Prop:=bO .lss 3 a c (dX 1 b a h λe=>dF 1 v h λf=>oP (en .eql 3 f (V.I 2)) λg=>oP (jX g (oB (some u) λi=>oB (hZ i) λj=>oB (fF 0 j) λk=>oB (fF 3 k) λl=>oB (ez l h) λm=>oB (some e) λn=>oB (gG 6 m n) λo=>oB (fF 4 o) λp=>oB (ez p h) λq=>oB (fD q) λr=>en .neq 3 r nO)) λs=>bP s (Q bF h) (oP (en .add 3 a nO) λt=>d u v b c t h)) (Q bT h)
theorem GI{C Q}(I)(s:P5 I (zA C Q)){k d e a b c h}(i:I k d e a b c h):zk C Q d e a b c h:=WA.l5 I _ s i
def CG(C:fk)(Q:fo)(a0 a1:V)(h:Hp):Prop:=bO .eql 3 a1 nZ (oP (hZ a0) λb=>oP (fF 0 b) λc=>oP (fX 5 c h) λd=>cP C zH [d] h λa f=>oP (fD a) λe=>zs C Q a0 a1 a e nZ f) (oQ C Q a0 a1 h)
theorem KR{C}(s:C.start=fG){a0 a1 h Q}(k:C.K oR [a0,a1] h=none)(H:CG C Q a0 a1 h):cP C oR [a0,a1] h Q:=cP.vd t50 s (by unfold P0;exact Tryz.func50) k H
def t51:List (Nat×List Nat):=[]
def Ad(C:fk)(Q:fo)(a0:V)(h:Hp):Prop:=oP (hZ a0) λa=>oP (fF 0 a) λb=>oP (fX 5 b h) λc=>cP C pU [c] h λd e=>Q d e
theorem IL{C}(s:C.start=fG){a0 h Q}(k:C.K uc [a0] h=none)(H:Ad C Q a0 h):cP C uc [a0] h Q:=cP.vd t51 s (by unfold P0;exact Tryz.func51) k H
def t99:List (Nat×List Nat):=[(19,[0,1,2])]
def rB(C:fk)(Q:fo)(a b c:V)(h:Hp):Prop:=∀ρ:gL,ρ 0=a->ρ 1=b->ρ 2=c->WA C Tryz.f99 t99 9 [] Q ρ h
def qX(C:fk)(Q:fo)(fN:SJ)(d e a:V)(h:Hp):Prop:=bO .geq 3 a nZ (bO .eql 3 e a (Q bT h) (dN 7 d h λb=>dX 1 b a h λc=>fN d e c h)) (Q bF h)
theorem Bu{C Q}(I)(s:P3 I (qX C Q)){k a b c h}(i:I k a b c h):rB C Q a b c h:=WA.l3 I _ s i
def wi(C:fk)(Q:fo)(a0 a1 a2:V)(h:Hp):Prop:=rB C Q a0 a1 a2 h
theorem Ed{C}(s:C.start=fG){a0 a1 a2 h Q}(k:C.K mD [a0,a1,a2] h=none)(H:wi C Q a0 a1 a2 h):cP C mD [a0,a1,a2] h Q:=cP.vd t99 s (by unfold P0;exact Tryz.func99) k H
def t82:List (Nat×List Nat):=[(43,[0,2,3,11,12,13])]
def yw(C:fk)(Q:fo)(d e f a b c:V)(h:Hp):Prop:=∀ρ:gL,ρ 0=d->ρ 2=e->ρ 3=f->ρ 11=a->ρ 12=b->ρ 13=c->WA C Tryz.f82 t82 21 [] Q ρ h
def yB(C:fk)(Q:fo)(fN:QR)(d g S e f b:V)(h:Hp):Prop:=bO .lss 3 b f (dX 1 e b h λc=>dN 5 d h λi=>dX 1 i c h λj=>oP (en .eql 3 j g) λk=>oP (jX k (oB (some d) λl=>oB (hZ l) λm=>oB (fF 6 m) λn=>oB (ez n h) λo=>oB (some c) λp=>oB (gG 1 o p) λq=>oB (ez q h) λr=>oB (some S) λs=>en .geq 3 r s)) λa=>oP (fu false a) λt=>oP (gV t (some d)) λu=>oP (fu false a) λv=>oP (gV v (some d)) λw=>oP (fu false a) λx=>oP (gV x (hZ w)) λy=>oP (fu false a) λz=>oP (gV z (fF 5 y)) λA=>oP (fu false a) λB=>oP (gV B (ez A h)) λD=>oP (fu false a) λE=>oP (gV E (some c)) λF=>oP (fu false a) λG=>oP (gV G (gG 1 D F)) λH=>oP (fu false a) λI=>oP (gV I (ez H h)) λJ=>oP (fu false a) λK=>oP (gV K (some g)) λL=>oP (fu false a) λM=>oP (gC M (some (mD,[u,J,L]))) λN=>qN C N h λO T=>oP (nt a (pA .not O)) λP=>bP P (Q bF T) (oP (en .add 3 b nO) λR=>fN d g S e f R T)) (Q bT h)
theorem Gj{C Q}(I)(s:P6 I (yB C Q)){k d e f a b c h}(i:I k d e f a b c h):yw C Q d e f a b c h:=WA.l6 I _ s i
def AZ(C:fk)(Q:fo)(a0 a1 a2 a3:V)(h:Hp):Prop:=oP (fD a1) λa=>yw C Q a0 a2 a3 a1 a nZ h
theorem Jx{C}(s:C.start=fG){a0 a1 a2 a3 h Q}(k:C.K jC [a0,a1,a2,a3] h=none)(H:AZ C Q a0 a1 a2 a3 h):cP C jC [a0,a1,a2,a3] h Q:=cP.vd t82 s (by unfold P0;exact Tryz.func82) k H
def t83:List (Nat×List Nat):=[(43,[0,2,3,19,20,21])]
def qT(C:fk)(Q:fo)(d e f a b c:V)(h:Hp):Prop:=∀ρ:gL,ρ 0=d->ρ 2=e->ρ 3=f->ρ 19=a->ρ 20=b->ρ 21=c->WA C Tryz.f83 t83 21 [] Q ρ h
def qS(C:fk)(Q:fo)(fN:QR)(f g i d e b:V)(h:Hp):Prop:=bO .lss 3 b e (oP (gG 4 d b) λj=>oP (fX 4 j h) λk=>hH (zC 49 [nZ,nZ,nS,nS]) h λc E=>fg (gJ 4 c k E) λH A=>dF 2 c A λl=>cP C jC [f,l,g,i] A λm B=>oP (pA .not m) λa=>oP (fu false a) λF=>oP (gV F (some f)) λn=>oP (fu false a) λG=>oP (gV G (fF 3 c)) λo=>oP (fu false a) λp=>oP (gV p (ez o B)) λq=>oP (fu false a) λr=>oP (gV r (some g)) λs=>oP (fu false a) λt=>oP (gV t (some i)) λu=>oP (fu false a) λv=>oP (gC v (some (jC,[n,q,s,u]))) λw=>qN C w B λx D=>oP (nt a (pA .not x)) λy=>bP y (Q bF D) (oP (en .add 3 b nO) λz=>fN f g i d e z D)) (Q bT h)
theorem Bv{C Q}(I)(s:P6 I (qS C Q)){k d e f a b c h}(i:I k d e f a b c h):qT C Q d e f a b c h:=WA.l6 I _ s i
def vN(C:fk)(Q:fo)(a0 a1 a2 a3:V)(h:Hp):Prop:=oP (hZ a0) λb=>oP (fF 0 b) λc=>dJ 4 c 1 a1 0 h λa=>oP (fD a) λd=>qT C Q a0 a2 a3 a d nZ h
theorem DS{C}(s:C.start=fG){a0 a1 a2 a3 h Q}(k:C.K jx [a0,a1,a2,a3] h=none)(H:vN C Q a0 a1 a2 a3 h):cP C jx [a0,a1,a2,a3] h Q:=cP.vd t83 s (by unfold P0;exact Tryz.func83) k H
def t53:List (Nat×List Nat):=[(175,[0,1,5,6,24,25,26]),(1356591,[0,1,5,6,24,25,26,43,44,45]),(3886,[0,1,5,6,24,25,26])]
def yi(C:fk)(Q:fo)(d e f g a b c:V)(h:Hp):Prop:=∀ρ:gL,ρ 0=d->ρ 1=e->ρ 5=f->ρ 6=g->ρ 24=a->ρ 25=b->ρ 26=c->WA C Tryz.f53 t53 87 [] Q ρ h
def xC(C:fk)(Q:fo)(fN:RV)(g i j k a b c d e f:V)(h:Hp):Prop:=∀ρ:gL,ρ 0=g->ρ 1=i->ρ 5=j->ρ 6=k->ρ 24=a->ρ 25=b->ρ 26=c->ρ 43=d->ρ 44=e->ρ 45=f->WA C Tryz.f53 t53 678295 [λρ h=>fN (ρ 0) (ρ 1) (ρ 5) (ρ 6) (ρ 24) (ρ 25) (ρ 26) h] Q ρ h
def pJ(C:fk)(Q:fo)(fN:RV)(d e f g a b c:V)(h:Hp):Prop:=∀ρ:gL,ρ 0=d->ρ 1=e->ρ 5=f->ρ 6=g->ρ 24=a->ρ 25=b->ρ 26=c->WA C Tryz.f53 t53 1943 [λρ h=>fN (ρ 0) (ρ 1) (ρ 5) (ρ 6) (ρ 24) (ρ 25) (ρ 26) h] Q ρ h
def xU(C:fk)(Q:fo)(fN:RV)(d g j s e f b:V)(h:Hp):Prop:=bO .lss 3 b f (dX 1 e b h λt=>oP (hZ d) λu=>oP (fF 0 u) λv=>dF 2 v h λw=>oP (gG 6 w t) λx=>oP (fX 6 x h) λy=>hH (zC 45 [nZ,nZ,nZ,nZ,nS,nZ]) h λi h1=>fg (gJ 6 i y h1) λvu k=>dF 0 i k λz=>bO .eql 3 z (V.I 21) (dF 4 i k λl=>oP (fD l) λA=>xC C Q fN d g j s e f b l A nZ k) (oP (fX 6 i k) λB=>cP C qb [B] k λD h3=>cP C jC [d,D,g,b] h3 λE h4=>oP (pA .not E) λc=>oP (fu false c) λb8=>oP (gV b8 (fF 0 i)) λF=>oP (fu false c) λb9=>oP (gV b9 (ez F h4)) λG=>oP (fu false c) λH=>oP (gC H (some (oL,[G]))) λI=>qN C I h4 λJ h5=>oP (fu false c) λK=>oP (gV K (some J)) λa=>oP (fu true a) λL=>oP (gV L (some d)) λM=>oP (fu true a) λN=>oP (gV N (fF 5 i)) λO=>oP (fu true a) λP=>oP (gV P (ez O h5)) λR=>oP (fu true a) λS=>oP (gV S (some g)) λT=>oP (fu true a) λU=>oP (gV U (some b)) λW=>oP (fu true a) λX=>oP (gC X (some (jx,[M,R,T,W]))) λY=>qN C Y h5 λZ h6=>oP (fu true a) λaa=>oP (gV aa (pA .not Z)) λab=>oP (nt c (jw a ab bF)) λac=>bP ac (Q bF h6) (pJ C Q fN d g j s e f b h6))) (dF 1 j h λm=>bO .eql 3 m (V.I 2) (dF 2 j h λn=>hH (jK 3 1 1 nZ [(0,n)]) h λo h7=>cP C jC [d,o,g,s] h7 λp h8=>Q p h8) (bO .eql 3 m (V.I 3) (dF 5 j h λq=>cP C jx [d,q,g,s] h λr h9=>Q r h9) (Q bT h)))
theorem FO{C Q}(I)(s:P7 I (xU C Q)){k d e f g a b c h}(i:I k d e f g a b c h):yi C Q d e f g a b c h:=WA.l7 I _ s i
def xP(C:fk)(Q:fo)(fN:RV)(k:L1)(i y j z c d e f g a:V)(h:Hp):Prop:=bO .lss 3 a g (dX 1 f a h λl=>yU (jK 3 1 1 nZ [(0,l)]) h λm n b=>dY 4 j 1 a b λo=>oP (hZ i) λp=>oP (fF 0 p) λq=>dF 3 q b λr=>dY 4 j 1 a b λs=>oP (gG 6 r s) λt=>dG 0 t b λu=>((b.get (h.next)=some m/\O.beq m m=true)/\cP C jC [i,n,o,u] b λv w=>(b.next<=w.next/\bN v (Q bF w) (oP (en .add 3 a nO) λx=>k i y j z c d e f g x w)))) (pJ C Q fN i y j z c d e h)
theorem Fx{C Q fN}(I)(s:P10 I (xP C Q fN)){k g j l m a b c d e f h}(i:I k g j l m a b c d e f h):xC C Q fN g j l m a b c d e f h:=WA.l10 I _ s i
def pO(C:fk)(Q:fo)(fN:RV)(e f g i a b c:V)(h:Hp):Prop:=oP (en .add 3 c nO) λd=>fN e f g i a b d h
theorem vG{C:fk}{Q:fo}{fN:RV}{d e f g a b c:V}{h:Hp}(H:pO C Q fN d e f g a b c h):pJ C Q fN d e f g a b c h:=by
 rintro ρ rfl rfl rfl rfl rfl rfl rfl;exact WA.of (by kernel_rfl) H
def z7(C:fk)(Q:fo)(a0 a1:V)(h:Hp):Prop:=oP (hZ a0) λc=>oP (fF 0 c) λd=>dF 3 d h λe=>oP (gG 6 e a1) λf=>oP (fX 6 f h) λg=>hH (zC 43 [nS,nZ,nZ,nS,nS,nZ]) h λb l=>fg (gJ 6 b g l) λm i=>dG 0 b i λj=>dF 0 b i λa=>oP (fD a) λk=>yi C Q a0 a1 b j a k nZ i
theorem IJ{C}(s:C.start=fG){a0 a1 h Q}(k:C.K mS [a0,a1] h=none)(H:z7 C Q a0 a1 h):cP C mS [a0,a1] h Q:=cP.vd t53 s (by unfold P0;exact Tryz.func53) k H
def t19:List (Nat×List Nat):=[]
def Mc(C:fk)(Q:fo)(a0:V)(h:Hp):Prop:=hH (mn 30 a0) h λe f=>dG 2 e f λv7=>oP (en .gtr 3 v7 (V.I 3000)) λv8=>oP (nt v8 (oB (fF 3 e) λp=>oB (ez p f) λq=>oB (fD q) λr=>en .gtr 3 r (V.I 300))) λs=>oP (nt s (oB (fF 4 e) λt=>oB (ez t f) λu=>oB (fD u) λv=>en .gtr 3 v (V.I 1000))) λw=>oP (nt w (oB (fF 3 e) λx=>oB (ez x f) λy=>oB (fD y) λz=>en .eql 3 z nZ)) λA=>bP A (Q bF f) (oP (fX 5 e f) λB=>oP (fW [nZ,nZ,nS,nS,nS,nS,nS,nS] [(0,5),(5,1),(6,1),(7,1)] [(0,B)]) λD=>hH (mn 96 D) f λa h2=>dG 4 e h2 λE=>cP C j4 [a,E,(V.func mR [a] [])] h2 λF h3=>oP (pA .not F) λg=>oP (fu false g) λb9=>oP (gV b9 (some a)) λG=>oP (fu false g) λH=>oP (gC H (some (pC,[G]))) λI=>qN C I h3 λJ h4=>oP (nt g (pA .not J)) λb=>oP (fu false b) λi=>oP (gV i (some a)) λK=>oP (fu false b) λL=>oP (gV L (fF 2 e)) λM=>oP (fu false b) λN=>oP (gV N (ez M h4)) λO=>oP (fu false b) λj=>oP (gV j (fD O)) λP=>oP (fu false b) λk=>oP (gV k (some a)) λR=>oP (fu false b) λl=>oP (gV l (some (V.func kO [R] []))) λS=>oP (fu false b) λm=>oP (gC m (some (j4,[K,P,S]))) λT=>qN C T h4 λU h5=>oP (nt b (pA .not U)) λc=>oP (fu false c) λW=>oP (gV W (some a)) λX=>oP (fu false c) λY=>oP (gV Y (fF 3 e)) λZ=>oP (fu false c) λaa=>oP (gV aa (ez Z h5)) λab=>oP (fu false c) λac=>oP (gV ac (fD ab)) λae=>oP (fu false c) λag=>oP (gV ag (some a)) λah=>oP (fu false c) λai=>oP (gV ai (some (V.func nw [ah] []))) λaj=>oP (fu false c) λak=>oP (gC ak (some (j4,[X,ae,aj]))) λal=>qN C al h5 λam h6=>oP (nt c (pA .not am)) λd=>oP (fu false d) λan=>oP (gV an (some a)) λao=>oP (fu false d) λap=>oP (gV ap (fF 3 e)) λaq=>oP (fu false d) λar=>oP (gV ar (ez aq h6)) λau=>oP (fu false d) λaw=>oP (gV aw (fD au)) λax=>oP (fu false d) λay=>oP (gV ay (some a)) λaA=>oP (fu false d) λaB=>oP (gV aB (some (V.func oR [aA] []))) λaC=>oP (fu false d) λaD=>oP (gC aD (some (j4,[ao,ax,aC]))) λaE=>qN C aE h6 λaF h7=>oP (nt d (pA .not aF)) λaG=>bP aG (Q bF h7) (cP C uc [a] h7 λaH o=>oP (fD aH) λaI=>dG 3 e o λaJ=>bO .neq 3 aI aJ (Q bF o) (oP (fX 5 e o) λaK=>cP C rR [aK] o λaL h9=>oP (hZ a) λaM=>oP (fF 7 aM) λaN=>fg (gJ 1 aN aL h9) λvu n=>dG 3 e n λaO=>cP C j4 [a,aO,(V.func mS [a] [])] n λaP aQ=>Q aP aQ)))
theorem Tn{C}(s:C.start=fG){a0 h Q}(k:C.K CH [a0] h=none)(H:Mc C Q a0 h):cP C CH [a0] h Q:=cP.vd t19 s (by unfold P0;exact Tryz.func19) k H
end
