/- Parts. -/
import Derived.Test.YtkpicojjjifmgaaGreatDoorM14
namespace Go.Proofs.YtkpicojjjifmgaaGreatDoor.Hx
set_option maxRecDepth 100000
noncomputable section
def t79:List (Nat×List Nat):=[(126,[1,3,4,5]),(319,[1,3,4,5])]
def AD(C:ft)(Q:fy)(a b c d:V)(h:Hp):Prop:=∀ρ:gK,ρ 1=a->ρ 3=b->ρ 4=c->ρ 5=d->WA C Tryz.f79 t79 63 [] Q ρ h
def EU(C:ft)(Q:fy)(a b c d:V)(h:Hp):Prop:=∀ρ:gK,ρ 1=a->ρ 3=b->ρ 4=c->ρ 5=d->WA C Tryz.f79 t79 159 [] Q ρ h
def FG(C:ft)(Q:fy)(a b c d:V)(h:Hp):Prop:=EU C Q a b c d h
theorem Mv{C:ft}{Q:fy}{a b c d:V}{h:Hp}(H:FG C Q a b c d h):AD C Q a b c d h:=by
 rintro ρ rfl rfl rfl rfl;exact WA.of (by kernel_rfl) H
def E8(C:ft)(Q:fy)(fT:KS)(g d e c:V)(h:Hp):Prop:=oP (fH c) λi=>bO .gtr 3 i nZ (oP (fH c) λj=>oP (ev .sub 3 j nO) λk=>oP (gJ 2 c k) λa=>dF 3 g h λl=>dN 0 a h λm=>dI 6 l m 3 h λf=>dN 1 a h λn=>oP (fH f) λo=>bO .eql 3 n o (dN 0 a h λp=>hX (jG 3 1 1 nZ [(0,p)]) h λq P=>fk (fg 3 1 8 e q P) λr N=>oP (fH c) λs=>oP (ev .sub 3 s nO) λt=>oP (jy 2 c none (some t) N) λu=>fT g d r u N) (dN 1 a h λv=>dX 1 f v h λb=>dN 1 a h λw=>oP (ev .add 3 w nO) λx=>oP (iF a) λy=>oP (fI 1 y) λz=>fk (gM 1 z x h) λY R=>oP (fH d) λA=>cP C kR [b,A] R λB D=>oP (kv B (oB (some d) λE=>oB (some b) λF=>oB (gJ 1 E F) λG=>oB (eQ G D) λH=>pI .not H)) λI=>bP I (oP (gJ 1 d b) λJ=>fk (gM 1 J bT D) λO S=>oP (fV [nZ,nZ] [(0,1),(1,1)] [(0,b),(1,nZ)]) λK=>hX (jG 132 2 1 (V.agg [nZ,nZ]) [(0,K)]) S λL T=>fk (fg 132 2 16 c L T) λM U=>fT g d e M U) (fT g d e c D))) (cP C lK [e] h λW X=>Q e X)
theorem Mj{C Q}(I)(s:P4 I (E8 C Q)){k a b c d h}(i:I k a b c d h):EU C Q a b c d h:=WA.l4 I _ s i
def Kt(C:ft)(Q:fy)(a0:V)(h:Hp):Prop:=hX (lX 30 a0) h λc k=>dG 3 c k λb=>hX (iu 4 1 1 bF b b) k λa d=>dG 3 c d λe=>bO .gtr 3 e nZ (oP (fV [nZ,nZ] [(0,1),(1,1)] []) λf=>hX (jG 132 2 1 (V.agg [nZ,nZ]) [(0,f)]) d λg l=>fk (fg 132 2 16 nS g l) λi m=>oP (gJ 1 a nZ) λj=>fk (gM 1 j bT m) λo n=>AD C Q c a nS i n) (AD C Q c a nS nS d)
theorem RO{C}(s:C.start=fO){a0 h Q}(k:C.K qU [a0] h=none)(H:Kt C Q a0 h):cP C qU [a0] h Q:=cP.vd t79 s (by unfold P0;exact Tryz.func79) k H
def t78:List (Nat×List Nat):=[(87,[3,13,14,15]),(22935,[3,4,13,14,15,21,22,23]),(498070,[3,4,13,14,15,21,22,23])]
def E5(C:ft)(Q:fy)(d a b c:V)(h:Hp):Prop:=∀ρ:gK,ρ 3=d->ρ 13=a->ρ 14=b->ρ 15=c->WA C Tryz.f78 t78 43 [] Q ρ h
def FN(C:ft)(Q:fy)(fT:KS)(g i a b c d e f:V)(h:Hp):Prop:=∀ρ:gK,ρ 3=g->ρ 4=i->ρ 13=a->ρ 14=b->ρ 15=c->ρ 21=d->ρ 22=e->ρ 23=f->WA C Tryz.f78 t78 11467 [λρ h=>fT (ρ 3) (ρ 13) (ρ 14) (ρ 15) h] Q ρ h
def yS(C:ft)(Q:fy)(fT:KS)(a:K9)(i j b c d e f g:V)(h:Hp):Prop:=∀ρ:gK,ρ 3=i->ρ 4=j->ρ 13=b->ρ 14=c->ρ 15=d->ρ 21=e->ρ 22=f->ρ 23=g->WA C Tryz.f78 t78 249035 [λρ h=>fT (ρ 3) (ρ 13) (ρ 14) (ρ 15) h,λρ h=>a (ρ 3) (ρ 4) (ρ 13) (ρ 14) (ρ 15) (ρ 21) (ρ 22) (ρ 23) h] Q ρ h
def E2(C:ft)(Q:fy)(fT:KS)(i b c a:V)(h:Hp):Prop:=bO .lss 3 a c (oP (gJ 6 b a) λe=>oP (fY 6 e h) λf=>hX (zC 43 [nS,nZ,nZ,nS,nS,nZ]) h λj l=>fk (gM 6 j f l) λm k=>dF 3 j k λd=>oP (fH d) λg=>FN C Q fT i a b c a d g nZ k) (Q i h)
theorem Mg{C Q}(I)(s:P4 I (E2 C Q)){k d a b c h}(i:I k d a b c h):E5 C Q d a b c h:=WA.l4 I _ s i
def E7(C:ft)(Q:fy)(fT:KS)(j:K9)(i k b c d e f a:V)(h:Hp):Prop:=bO .lss 3 a f (dX 1 e a h λg=>oP (fH i) λl=>cP C kR [g,l] h λm n=>bP m (dX 1 i g n λo=>hX (jG 3 1 1 nZ [(0,k)]) n λp t=>fk (fg 3 1 8 o p t) λq u=>oP (gJ 1 i g) λr=>fk (gM 1 r q u) λw v=>yS C Q fT j i k b c d e f a v) (yS C Q fT j i k b c d e f a n)) (oP (ev .add 3 d nO) λs=>fT i b c s h)
theorem Mh{C Q fT}(I)(s:P8 I (E7 C Q fT)){k g j a b c d e f h}(i:I k g j a b c d e f h):FN C Q fT g j a b c d e f h:=WA.l8 I _ s i
def Ei(C:ft)(Q:fy)(fT:KS)(a:K9)(j k b c d e f g:V)(h:Hp):Prop:=oP (ev .add 3 g nO) λi=>a j k b c d e f i h
theorem K0{C:ft}{Q:fy}{fT:KS}{a:K9}{i j b c d e f g:V}{h:Hp}(H:Ei C Q fT a i j b c d e f g h):yS C Q fT a i j b c d e f g h:=by
 rintro ρ rfl rfl rfl rfl rfl rfl rfl rfl;exact WA.of (by kernel_rfl) H
def KG(C:ft)(Q:fy)(a0:V)(h:Hp):Prop:=hX (lX 30 a0) h λe f=>dG 3 e f λa=>hX (iu 22 1 24 nS a a) f λc g=>dF 3 e g λb=>oP (fH b) λd=>E5 C Q c b d nZ g
theorem RR{C}(s:C.start=fO){a0 h Q}(k:C.K yG [a0] h=none)(H:KG C Q a0 h):cP C yG [a0] h Q:=cP.vd t78 s (by unfold P0;exact Tryz.func78) k H
def t53:List (Nat×List Nat):=[(175,[3,4,5,6,30,31]),(351,[3,4,5,6,38,39,40]),(5631,[3,4,5,10,11]),(370175,[3,4,5,10,11,59,60,61]),(362391039,[3,4,5,10,11,13,14,59,60,61,68,69,70]),(8147019262,[3,4,5,10,11,13,14,59,60,61,68,69,70]),(7972350,[3,4,5,10,11,59,60,61])]
def zu(C:ft)(Q:fy)(c d e f a b:V)(h:Hp):Prop:=∀ρ:gK,ρ 3=c->ρ 4=d->ρ 5=e->ρ 6=f->ρ 30=a->ρ 31=b->WA C Tryz.f53 t53 87 [] Q ρ h
def zi(C:ft)(Q:fy)(d e f g a b c:V)(h:Hp):Prop:=∀ρ:gK,ρ 3=d->ρ 4=e->ρ 5=f->ρ 6=g->ρ 38=a->ρ 39=b->ρ 40=c->WA C Tryz.f53 t53 175 [] Q ρ h
def ze(C:ft)(Q:fy)(c d e a b:V)(h:Hp):Prop:=∀ρ:gK,ρ 3=c->ρ 4=d->ρ 5=e->ρ 10=a->ρ 11=b->WA C Tryz.f53 t53 2815 [] Q ρ h
def zj(C:ft)(Q:fy)(a:JG)(g i j b c d e f:V)(h:Hp):Prop:=∀ρ:gK,ρ 3=g->ρ 4=i->ρ 5=j->ρ 10=b->ρ 11=c->ρ 59=d->ρ 60=e->ρ 61=f->WA C Tryz.f53 t53 185087 [λρ h=>a (ρ 3) (ρ 4) (ρ 5) (ρ 10) (ρ 11) h] Q ρ h
def zv(C:ft)(Q:fy)(a:JG)(b:K9)(n o p c d e f g i j k l m:V)(h:Hp):Prop:=∀ρ:gK,ρ 3=n->ρ 4=o->ρ 5=p->ρ 10=c->ρ 11=d->ρ 13=e->ρ 14=f->ρ 59=g->ρ 60=i->ρ 61=j->ρ 68=k->ρ 69=l->ρ 70=m->WA C Tryz.f53 t53 181195519 [λρ h=>a (ρ 3) (ρ 4) (ρ 5) (ρ 10) (ρ 11) h,λρ h=>b (ρ 3) (ρ 4) (ρ 5) (ρ 10) (ρ 11) (ρ 59) (ρ 60) (ρ 61) h] Q ρ h
def nM(C:ft)(Q:fy)(a:JG)(b:K9)(c:HW)(o p q d e f g i j k l m n:V)(h:Hp):Prop:=∀ρ:gK,ρ 3=o->ρ 4=p->ρ 5=q->ρ 10=d->ρ 11=e->ρ 13=f->ρ 14=g->ρ 59=i->ρ 60=j->ρ 61=k->ρ 68=l->ρ 69=m->ρ 70=n->WA C Tryz.f53 t53 4073509631 [λρ h=>a (ρ 3) (ρ 4) (ρ 5) (ρ 10) (ρ 11) h,λρ h=>b (ρ 3) (ρ 4) (ρ 5) (ρ 10) (ρ 11) (ρ 59) (ρ 60) (ρ 61) h,λρ h=>c (ρ 3) (ρ 4) (ρ 5) (ρ 10) (ρ 11) (ρ 13) (ρ 14) (ρ 59) (ρ 60) (ρ 61) (ρ 68) (ρ 69) (ρ 70) h] Q ρ h
def qu(C:ft)(Q:fy)(a:JG)(b:K9)(i j k c d e f g:V)(h:Hp):Prop:=∀ρ:gK,ρ 3=i->ρ 4=j->ρ 5=k->ρ 10=c->ρ 11=d->ρ 59=e->ρ 60=f->ρ 61=g->WA C Tryz.f53 t53 3986175 [λρ h=>a (ρ 3) (ρ 4) (ρ 5) (ρ 10) (ρ 11) h,λρ h=>b (ρ 3) (ρ 4) (ρ 5) (ρ 10) (ρ 11) (ρ 59) (ρ 60) (ρ 61) h] Q ρ h
def zl(C:ft)(Q:fy)(fT:PS)(c j d k b a:V)(h:Hp):Prop:=bO .lss 3 a b (oP (eQ d h) λe=>oP (gJ 1 e a) λf=>fk (gM 1 f (V.I (-1)) h) λm l=>oP (ev .add 3 a nO) λg=>fT c j d k b g l) (oP (fH c) λi=>zi C Q c j d k c i nZ h)
theorem G1{C Q}(I)(s:P6 I (zl C Q)){k c d e f a b h}(i:I k c d e f a b h):zu C Q c d e f a b h:=WA.l6 I _ s i
def zx(C:ft)(Q:fy)(e:PZ)(f q b g c d a:V)(h:Hp):Prop:=bO .lss 3 a d (dX 1 c a h λi=>oP (eQ g h) λj=>oP (gJ 1 j i) λk=>fk (gM 1 k a h) λu s=>oP (ev .add 3 a nO) λl=>e f q b g c d l s) (oP (fH f) λm=>bO .eql 3 m nZ (oP (eQ b h) λn=>Q n h) (oP (eQ b h) λo=>oP (gJ 1 o nZ) λp=>fk (gM 1 p nZ h) λr t=>ze C Q f q b (V.func jC [] [g,b]) bT t))
theorem G3{C Q}(I)(s:P7 I (zx C Q)){k d e f g a b c h}(i:I k d e f g a b c h):zi C Q d e f g a b c h:=WA.l7 I _ s i
def zg(C:ft)(Q:fy)(e:JG)(k m f g i:V)(h:Hp):Prop:=bP i (oP (jy 1 k (some nO) none h) λa=>oP (fH a) λj=>zj C Q e k m f g bF a j nZ h) (oP (eQ f h) λb=>oP (gJ 1 b nZ) λc=>fk (gM 1 c (V.I (-1)) h) λn l=>oP (eQ f l) λd=>Q d l)
theorem GV{C Q}(I)(s:P5 I (zg C Q)){k c d e a b h}(i:I k c d e a b h):ze C Q c d e a b h:=WA.l5 I _ s i
def zw(C:ft)(Q:fy)(b:JG)(j:K9)(m k n c d e f a:V)(h:Hp):Prop:=bO .lss 3 a f (dX 1 e a h λg=>dX 1 k g h λi=>oP (fH i) λl=>zv C Q b j m k n c d g (V.I (-1)) e f a i l nZ h) (b m k n c d h)
theorem G4{C Q a}(I)(s:P8 I (zw C Q a)){k g j l b c d e f h}(i:I k g j l b c d e f h):zj C Q a g j l b c d e f h:=WA.l8 I _ s i
def zs(C:ft)(Q:fy)(b:JG)(c:K9)(o:HW)(q r n a k d e f g i l m j:V)(h:Hp):Prop:=bO .lss 3 j m (dX 1 l j h λp=>oP (eQ n h) λs=>dX 1 s p h λt=>bO .lss 3 t nZ (nM C Q b c o q r n a k d e f g i l m j h) (bO .lss 3 e nZ (nM C Q b c o q r n a k d p f g i l m j h) (ic C (gh a [e,p]) h λu z=>nM C Q b c o q r n a k d u f g i l m j z))) (oP (eQ n h) λv=>dX 1 v d h λw=>bO .neq 3 w e (oP (eQ n h) λx=>oP (gJ 1 x d) λy=>fk (gM 1 y e h) λB A=>qu C Q b c q r n a bT f g i A) (qu C Q b c q r n a k f g i h))
theorem GU{C Q a b}(I)(s:P13 I (zs C Q a b)){k p q r c d e f g j l m n o h}(i:I k p q r c d e f g j l m n o h):zv C Q a b p q r c d e f g j l m n o h:=WA.l13 I _ s i
def nU(C:ft)(Q:fy)(n:JG)(o:K9)(a:HW)(p q r b c d e f g i j k l:V)(h:Hp):Prop:=oP (ev .add 3 l nO) λm=>a p q r b c d e f g i j k m h
theorem qT{C:ft}{Q:fy}{a:JG}{b:K9}{c:HW}{o p q d e f g i j k l m n:V}{h:Hp}(H:nU C Q a b c o p q d e f g i j k l m n h):nM C Q a b c o p q d e f g i j k l m n h:=by
 rintro ρ rfl rfl rfl rfl rfl rfl rfl rfl rfl rfl rfl rfl rfl;exact WA.of (by kernel_rfl) H
def qD(C:ft)(Q:fy)(i:JG)(a:K9)(j k l b c d e f:V)(h:Hp):Prop:=oP (ev .add 3 f nO) λg=>a j k l b c d e g h
theorem yM{C:ft}{Q:fy}{a:JG}{b:K9}{i j k c d e f g:V}{h:Hp}(H:qD C Q a b i j k c d e f g h):qu C Q a b i j k c d e f g h:=by
 rintro ρ rfl rfl rfl rfl rfl rfl rfl rfl;exact WA.of (by kernel_rfl) H
def CL(C:ft)(Q:fy)(a0:V)(h:Hp):Prop:=hX (lX 30 a0) h λe m=>oP (fY 5 e m) λq=>oP (fY 5 e m) λf=>cP C qU [q] m λr n=>(m.next<=n.next/\((fY 5 e n=some f)/\cP C yG [f] n λs o=>(n.next<=o.next/\oP (fI 3 e) λg=>oP (eQ g o) λi=>oP (fH i) λj=>xE (iu 3 1 8 nZ j j) o λt u p=>oP (fI 3 e) λb=>oP (eQ b p) λc=>oP (fH c) λk=>xE (iu 3 1 8 nZ k k) p λd v D=>xE (zC 22 [nS]) D λw x E=>xE (zC 22 [nS]) E λy F a=>((a.get (E.next)=some y/\O.beq y y=true)/\((a.get (D.next)=some w/\O.beq w w=true)/\((a.get (p.next)=some d/\O.beq d d=true)/\((eQ b a=some c)/\((a.get (o.next)=some t/\O.beq t t=true)/\((eQ g a=some i)/\fk (gM 1 x u a) λH l=>(a.next<=l.next/\((l.get (p.next)=some d/\O.beq d d=true)/\((eQ b l=some c)/\fk (gM 1 F v l) λG z=>(l.next<=z.next/\oP (eQ x z) λA=>oP (fH A) λB=>zu C Q r s x F B nZ z)))))))))))))
theorem Ka{C}(s:C.start=fO){a0 h Q}(k:C.K rl [a0] h=none)(H:CL C Q a0 h):cP C rl [a0] h Q:=cP.vd t53 s (by unfold P0;exact Tryz.func53) k H
def t80:List (Nat×List Nat):=[(19,[0,1,2,3])]
def xG(C:ft)(Q:fy)(a b c d:V)(h:Hp):Prop:=∀ρ:gK,ρ 0=a->ρ 1=b->ρ 2=c->ρ 3=d->WA C Tryz.f80 t80 9 [] Q ρ h
def xy(C:ft)(Q:fy)(fT:KS)(a b c d:V)(h:Hp):Prop:=bO .neq 3 a b (oP (eQ c h) λe=>dX 1 e a h λf=>oP (eQ c h) λg=>dX 1 g b h λi=>bO .gtr 3 f i (oP (eQ d h) λj=>dX 1 j a h λk=>fT k b c d h) (oP (eQ d h) λl=>dX 1 l b h λm=>fT a m c d h)) (Q a h)
theorem EI{C Q}(I)(s:P4 I (xy C Q)){k a b c d h}(i:I k a b c d h):xG C Q a b c d h:=WA.l4 I _ s i
def AA(C:ft)(Q:fy)(a0 a1 a2 a3:V)(h:Hp):Prop:=xG C Q a0 a1 a2 a3 h
theorem Ib{C}(s:C.start=fO){a0 a1 a2 a3 h Q}(k:C.K jC [a0,a1,a2,a3] h=none)(H:AA C Q a0 a1 a2 a3 h):cP C jC [a0,a1,a2,a3] h Q:=cP.vd t80 s (by unfold P0;exact Tryz.func80) k H
def t46:List (Nat×List Nat):=[(43,[1,2,7])]
def yH(C:ft)(Q:fy)(a b c:V)(h:Hp):Prop:=∀ρ:gK,ρ 1=a->ρ 2=b->ρ 7=c->WA C Tryz.f46 t46 21 [] Q ρ h
def yL(C:ft)(Q:fy)(fT:RU)(d e a:V)(h:Hp):Prop:=bO .lss 3 a d (ic C (gh e [a]) h λb f=>bN b (Q bF f) (oP (ev .add 3 a nO) λc=>fT d e c f)) (Q bT h)
theorem FX{C Q}(I)(s:P3 I (yL C Q)){k a b c h}(i:I k a b c h):yH C Q a b c h:=WA.l3 I _ s i
def Br(C:ft)(Q:fy)(a0 a1 a2:V)(h:Hp):Prop:=yH C Q a1 a2 nZ h
theorem IS{C}(s:C.start=fO){a0 a1 a2 h Q}(k:C.K jW [a0,a1,a2] h=none)(H:Br C Q a0 a1 a2 h):cP C jW [a0,a1,a2] h Q:=cP.vd t46 s (by unfold P0;exact Tryz.func46) k H
def t73:List (Nat×List Nat):=[(43,[0,7,8,9]),(56522,[0,7,8,9,31])]
def we(C:ft)(Q:fy)(a b c d:V)(h:Hp):Prop:=∀ρ:gK,ρ 0=a->ρ 7=b->ρ 8=c->ρ 9=d->WA C Tryz.f73 t73 21 [] Q ρ h
def kh(C:ft)(Q:fy)(fT:KS)(b c d e a:V)(h:Hp):Prop:=∀ρ:gK,ρ 0=b->ρ 7=c->ρ 8=d->ρ 9=e->ρ 31=a->WA C Tryz.f73 t73 28261 [λρ h=>fT (ρ 0) (ρ 7) (ρ 8) (ρ 9) h] Q ρ h
def wM(C:ft)(Q:fy)(fT:KS)(b e f c:V)(h:Hp):Prop:=bO .lss 3 c f (dX 1 e c h λg=>oP (iF b) λl=>oP (fI 0 l) λm=>dG 2 m h λn=>cP C kR [g,n] h λo d=>bN o (Q bF d) (oP (iF b) λp=>oP (fI 0 p) λq=>dJ 2 q 6 g 0 d λa=>oP (ev .eql 3 a (V.I 19)) λi=>bP i (kh C Q fT b e f c i d) (oP (ev .eql 3 a (V.I 20)) λj=>bP j (kh C Q fT b e f c j d) (oP (ev .eql 3 a (V.I 22)) λk=>bP k (kh C Q fT b e f c k d) (oP (ev .eql 3 a (V.I 23)) λr=>kh C Q fT b e f c r d))))) (Q bT h)
theorem Eb{C Q}(I)(s:P4 I (wM C Q)){k a b c d h}(i:I k a b c d h):we C Q a b c d h:=WA.l4 I _ s i
def uY(C:ft)(Q:fy)(fT:KS)(c d e f a:V)(h:Hp):Prop:=bP a (Q bF h) (oP (ev .add 3 f nO) λb=>fT c d e b h)
theorem CO{C:ft}{Q:fy}{fT:KS}{b c d e a:V}{h:Hp}(H:uY C Q fT b c d e a h):kh C Q fT b c d e a h:=by
 rintro ρ rfl rfl rfl rfl rfl;exact WA.of (by kernel_rfl) H
def zt(C:ft)(Q:fy)(a0 a1:V)(h:Hp):Prop:=oP (fH a1) λa=>we C Q a0 a1 a nZ h
theorem GY{C}(s:C.start=fO){a0 a1 h Q}(k:C.K jq [a0,a1] h=none)(H:zt C Q a0 a1 h):cP C jq [a0,a1] h Q:=cP.vd t73 s (by unfold P0;exact Tryz.func73) k H
def t47:List (Nat×List Nat):=[(175,[0,27,28,29])]
def wu(C:ft)(Q:fy)(d a b c:V)(h:Hp):Prop:=∀ρ:gK,ρ 0=d->ρ 27=a->ρ 28=b->ρ 29=c->WA C Tryz.f47 t47 87 [] Q ρ h
def wJ(C:ft)(Q:fy)(fT:KS)(i d e c:V)(h:Hp):Prop:=bO .lss 3 c e (oP (gJ 4 d c) λj=>oP (fY 4 j h) λk=>hX (zC 49 [nZ,nZ,nS,nS]) h λf N=>fk (gM 4 f k N) λO g=>dG 2 f g λl=>oP (ev .gtr 3 l (V.I 40)) λm=>oP (nt m (oB (fI 3 f) λn=>oB (eQ n g) λo=>oB (fH o) λp=>ev .gtr 3 p (V.I 60))) λa=>oP (fD false a) λq=>oP (gV q (some i)) λr=>oP (fD false a) λs=>oP (gV s (fI 2 f)) λt=>oP (fD false a) λu=>oP (gV u (eQ t g)) λv=>oP (fD false a) λw=>oP (gC w (some (jq,[r,v]))) λx=>qo C x g λy L=>oP (nt a (pI .not y)) λb=>oP (fD false b) λz=>oP (gV z (some i)) λA=>oP (fD false b) λB=>oP (gV B (fI 3 f)) λD=>oP (fD false b) λE=>oP (gV E (eQ D L)) λF=>oP (fD false b) λG=>oP (gC G (some (jq,[A,F]))) λH=>qo C H L λI M=>oP (nt b (pI .not I)) λJ=>bP J (Q bF M) (oP (ev .add 3 c nO) λK=>fT i d e K M)) (Q bT h)
theorem Di{C Q}(I)(s:P4 I (wJ C Q)){k d a b c h}(i:I k d a b c h):wu C Q d a b c h:=WA.l4 I _ s i
def zq(C:ft)(Q:fy)(a0 a1:V)(h:Hp):Prop:=oP (iF a0) λp=>oP (fI 0 p) λd=>dF 4 d h λe=>oP (gJ 1 e a1) λf=>oP (fY 1 f h) λg=>hX (zC 52 [nS]) h λc q=>fk (gM 1 c g q) λr a=>dG 0 c a λi=>oP (ev .eql 3 i nZ) λj=>oP (nt j (oB (fI 0 c) λk=>oB (eQ k a) λl=>oB (fH l) λm=>ev .gtr 3 m (V.I 30))) λn=>bP n (Q bF a) (dF 0 c a λb=>oP (fH b) λo=>wu C Q a0 b o nZ a)
theorem GX{C}(s:C.start=fO){a0 a1 h Q}(k:C.K mF [a0,a1] h=none)(H:zq C Q a0 a1 h):cP C mF [a0,a1] h Q:=cP.vd t47 s (by unfold P0;exact Tryz.func47) k H
def t48:List (Nat×List Nat):=[(87,[0,36,37]),(351,[0,4,51,52,53]),(190047,[0,4,5,7,51,52,53,59,60,61])]
def wo(C:ft)(Q:fy)(c a b:V)(h:Hp):Prop:=∀ρ:gK,ρ 0=c->ρ 36=a->ρ 37=b->WA C Tryz.f48 t48 43 [] Q ρ h
def vT(C:ft)(Q:fy)(d e a b c:V)(h:Hp):Prop:=∀ρ:gK,ρ 0=d->ρ 4=e->ρ 51=a->ρ 52=b->ρ 53=c->WA C Tryz.f48 t48 175 [] Q ρ h
def wN(C:ft)(Q:fy)(a:JG)(i j k l b c d e f g:V)(h:Hp):Prop:=∀ρ:gK,ρ 0=i->ρ 4=j->ρ 5=k->ρ 7=l->ρ 51=b->ρ 52=c->ρ 53=d->ρ 59=e->ρ 60=f->ρ 61=g->WA C Tryz.f48 t48 95023 [λρ h=>a (ρ 0) (ρ 4) (ρ 51) (ρ 52) (ρ 53) h] Q ρ h
def w9(C:ft)(Q:fy)(fT:RU)(d b a:V)(h:Hp):Prop:=bO .lss 3 a b (dN 5 d h λe=>oP (gJ 1 e a) λf=>fk (gM 1 f (V.I (-1)) h) λm l=>oP (ev .add 3 a nO) λg=>fT d b g l) (oP (iF d) λi=>oP (fI 0 i) λj=>dF 3 j h λc=>oP (fH c) λk=>vT C Q d nZ c k nZ h)
theorem D2{C Q}(I)(s:P3 I (w9 C Q)){k c a b h}(i:I k c a b h):wo C Q c a b h:=WA.l3 I _ s i
def wh(C:ft)(Q:fy)(j:JG)(n o b c a:V)(h:Hp):Prop:=bO .lss 3 a c (oP (gJ 6 b a) λk=>oP (fY 6 k h) λl=>hX (zC 43 [nS,nZ,nZ,nS,nS,nZ]) h λp r=>fk (gM 6 p l r) λs q=>dF 0 p q λd=>oP (fH d) λm=>wN C Q j n o a bT b c a d m nZ q) (oP (iF n) λe=>oP (fI 0 e) λf=>dG 2 f h λg=>oP (ev .eql 3 o g) λi=>Q i h)
theorem Dg{C Q}(I)(s:P5 I (wh C Q)){k d e a b c h}(i:I k d e a b c h):vT C Q d e a b c h:=WA.l5 I _ s i
def vY(C:ft)(Q:fy)(D:JG)(E:Kk)(d x4 F x7 g i j k l b:V)(h:Hp):Prop:=bO .lss 3 b l (dX 1 k b h λa=>oP (iF d) λG=>oP (fI 0 G) λH=>dG 2 H h λI=>cP C kR [a,I] h λJ c=>oP (pI .not J) λK=>oP (nt K (oB (some d) λL=>oB (iF L) λM=>oB (fI 5 M) λN=>oB (eQ N c) λO=>oB (some a) λP=>oB (gJ 1 O P) λR=>oB (eQ R c) λS=>ev .geq 3 S nZ)) λT=>bP T (Q bF c) (oP (iF d) λU=>oP (fI 0 U) λW=>dJ 2 W 6 a 0 c λe=>oP (ev .eql 3 e (V.I 21)) λX=>oP (nt X (oB (some e) λY=>ev .eql 3 Y nO)) λf=>oP (kv f (oB (some x7) λm=>pI .not m)) λn=>oP (nt n (oB (some e) λo=>oB (ev .eql 3 o nO) λp=>oB (some F) λq=>oB (ev .eql 3 q nZ) λr=>oB (ev .neq 4 p r) λs=>oB (some s) λt=>kv t (some f))) λu=>bP u (Q bF c) (dN 5 d c λv=>dN 6 d c λw=>oP (gJ 1 v a) λx=>fk (gM 1 x F c) λvu Z=>(c.next<=Z.next/\oP (gJ 1 w a) λy=>fk (gM 1 y b Z) λaa h3=>(Z.next<=h3.next/\oP (ev .add 3 x4 nO) λz=>oP (ev .add 3 b nO) λA=>E d z F f g i j k l A h3))))) (oP (ev .add 3 j nO) λB=>D d x4 g i B h)
theorem DY{C Q a}(I)(s:P10 I (vY C Q a)){k j l m n b c d e f g h}(i:I k j l m n b c d e f g h):wN C Q a j l m n b c d e f g h:=WA.l10 I _ s i
def zy(C:ft)(Q:fy)(a0:V)(h:Hp):Prop:=oP (iF a0) λl=>oP (fI 0 l) λm=>oP (fI 2 m) λc=>oP (eQ c h) λd=>oP (fH d) λe=>xE (iu 3 1 8 nZ e e) h λn o j=>oP (iF a0) λp=>oP (fI 0 p) λq=>oP (fI 2 q) λf=>oP (eQ f j) λg=>oP (fH g) λi=>xE (iu 3 1 8 nZ i i) j λa r b=>oP (iF a0) λs=>oP (fI 5 s) λt=>((b.get (j.next)=some a/\O.beq a a=true)/\((eQ f b=some g)/\((b.get (h.next)=some n/\O.beq n n=true)/\((eQ c b=some d)/\fk (gM 1 t o b) λA k=>(b.next<=k.next/\oP (iF a0) λu=>oP (fI 6 u) λv=>((k.get (j.next)=some a/\O.beq a a=true)/\fk (gM 1 v r k) λz w=>(k.next<=w.next/\oP (iF a0) λx=>dG 5 x w λy=>wo C Q a0 y nZ w)))))))
theorem GR{C}(s:C.start=fO){a0 h Q}(k:C.K oU [a0] h=none)(H:zy C Q a0 h):cP C oU [a0] h Q:=cP.vd t48 s (by unfold P0;exact Tryz.func48) k H
section
variable (C:ft)(Q:X->gK->Hp->Prop)(ρ:gK)(h:Hp)
def Oc:=JL Tryz.f49
def zaw:=Oc.r
def zaJ:=Oc.r.r
def zax:=Oc.r.r.l.r
def zaS:=Oc.r.r.r
def zcr:=andThen (Wp C 94 zaS Q) Q
def zaq:=Oc.r.r.l.r.l.r
def zaK:=Oc.r.r.r.l.r
def zal:=Oc.r.r.r.r
def q77:=andThen (Wp C 94 zal Q) Q
def zaA:=Oc.r.r.r.l.r.l.r
def zdE(C:ft)(Q:XQ):XQ:=wH 0 Q
def zam:=Oc.r.r.r.r.r
def zaC:=Oc.r.r.r.l.r.l.r.l.r
def XB:=Oc.r.r.r.l.r.l.r.r.r
def Xq:=Oc.r.r.r.l.r.l.r.r.r.l.r
def WW:=Oc.r.r.r.l.r.l.r.r.r.r.r
def W2:=Oc.r.r.r.l.r.l.r.r.r.r.r.l.r
theorem e49:jU C 94 Oc Q ρ h=(oP (some (V.bool false)) λa=>
 Wp C 94 zaw Q (fu ρ 4 a) h):=by kernel_rfl
theorem zc9:jU C 94 zaw Q ρ h=(oP (some (ρ 0)) λe=>
 oP (iF e) λf=>
 oP (fI 0 f) λg=>
 oP (fI 2 g) λi=>
 oP (eQ i h) λa=>
 oP (some (ρ 1)) λb=>
 oP (gJ 6 a b) λc=>
 oP (fY 6 c h) λd=>
 hX (some (.cells 45 1 true false [(V.I 0),(V.I 0),(V.I 0),(V.I 0),V.ef,(V.I 0)],λl=> .ptr l 0)) h λj k=>
 fk (gM 6 j d k) λn m=>
 Wp C 94 zaJ Q (fu (fu (fu (fu (fu (fu (fu (fu (fu ρ 6 e) 7 f) 8 g) 9 i) 10 a) 11 b) 12 c) 13 d) 5 j) m):=by kernel_rfl
theorem zcL:jU C 94 zaJ Q ρ h=(oP (fI 0 (ρ 5)) λd=>
 oP (eQ d h) λs=>
 ((eQ d h=some s)/\
 ((fI 0 (ρ 5)=some d)/\
 dcP C Ea [s] h λt D=>
 (h.next<=D.next/\
 oP (ev .eql 9 t (V.str [])) λe=>
 oP (some e) λb=>
 oP (fD false b) λW=>
 oP (gV W (some (ρ 0))) λf=>
 oP (fD false b) λb6=>
 oP (gV b6 (fY 6 (ρ 5) D)) λu=>
 ((gT b6 (fY 6 (ρ 5) D=some u))/\
 ((gT W (some (ρ 0)=some f))/\
 ((some e=some b)/\
 ((ev .eql 9 t (V.str [])=some e)/\
 oP (fD false b) λb7=>
 oP (gC b7 (some (pA,[u]))) λx7=>qo C x7 D λE X=>
 (D.next<=X.next/\
 ((gT W (some (ρ 0)=some f))/\
 oP (fD false b) λb8=>
 oP (gC b8 (some (jq,[f,E]))) λx8=>qo C x8 X λv F=>
 (X.next<=F.next/\
 oP (fD false b) λb9=>
 oP (gV b9 (pI .not v)) λg=>
 oP (js b (V.bool true) g) λi=>
 oP (some i) λc=>
 oP (fD false c) λG=>
 oP (gV G (fI 0 (ρ 5))) λj=>
 oP (fD false c) λH=>
 oP (gV H (eQ j F)) λw=>
 ((gT H (eQ j F=some w))/\
 ((gT G (fI 0 (ρ 5)=some j))/\
 ((some i=some c)/\
 ((js b (V.bool true) g=some i)/\
 ((gT b9 (pI .not v=some g))/\
 oP (fD false c) λY=>
 oP (gC Y (some (nT,[w]))) λZ=>qo C Z F λx y=>
 (F.next<=y.next/\
 oP (fD false c) λI=>
 oP (gV I (some x)) λa=>
 oP (fD true a) λJ=>
 oP (gV J (fI 5 (ρ 5))) λk=>
 oP (fD true a) λK=>
 oP (gV K (eQ k y)) λz=>
 oP (fD true a) λL=>
 oP (gV L (some (ρ 0))) λl=>
 oP (fD true a) λM=>
 oP (gV M (iF l)) λm=>
 oP (fD true a) λN=>
 oP (gV N (fI 0 m)) λn=>
 oP (fD true a) λO=>
 oP (gV O (fI 4 n)) λo=>
 oP (fD true a) λP=>
 oP (gV P (eQ o y)) λp=>
 oP (fD true a) λR=>
 oP (gV R (fH p)) λA=>
 ((gT R (fH p=some A))/\
 ((gT P (eQ o y=some p))/\
 ((gT O (fI 4 n=some o))/\
 ((gT N (fI 0 m=some n))/\
 ((gT M (iF l=some m))/\
 ((gT L (some (ρ 0)=some l))/\
 ((gT K (eQ k y=some z))/\
 ((gT J (fI 5 (ρ 5)=some k))/\
 ((gT I (some x=some a))/\
 oP (fD true a) λaa=>
 oP (gC aa (some (kR,[z,A]))) λab=>qo C ab y λB h5=>
 (y.next<=h5.next/\
 oP (fD true a) λS=>
 oP (gV S (pI .not B)) λq=>
 oP (fD false c) λT=>
 oP (gV T (js a q (V.bool false))) λr=>
 oP (js c (V.bool true) r) λU=>
 ((js c (V.bool true) r=some U)/\
 ((gT T (js a q (V.bool false)=some r))/\
 ((gT S (pI .not B=some q))/\
 Wp C 94 zax (zcr C Q) (fu (fu (fu (fu (fu (fu (fu (fu (fu (fu (fu (fu (fu (fu (fu (fu (fu (fu (fu (fu (fu (fu (fu (fu (fu (fu (fu (fu ρ 14 d) 15 s) 16 t) 17 e) 18 b) 19 f) 20 u) 21 E) 22 v) 23 g) 24 i) 25 c) 26 j) 27 w) 28 x) 29 a) 30 k) 31 z) 32 l) 33 m) 34 n) 35 o) 36 p) 37 A) 38 B) 39 q) 40 r) 41 U) h5)))))))))))))))))))))))))))))):=by kernel_rfl
theorem zcH:jU C 94 zaS Q ρ h=(oP (fI 0 (ρ 5)) λa=>
 oP (eQ a h) λb=>
 Wp C 94 zaK (q77 C Q) (fu (fu ρ 42 a) 43 b) h):=by kernel_rfl
theorem zcC:jU C 94 zax Q ρ h=(oP (some (ρ 41)) λc=>
 bP c (
 oP (some (V.bool false)) λa=>
 Wp C 94 zaq Q (fu ρ 4 a) h) (
 Q .normal ρ h)):=by kernel_rfl
theorem zci:jU C 94 zal Q ρ h=(oP (some (V.bool true)) λa=>
 Wp C 94 zam Q (fu ρ 4 a) h):=by kernel_rfl
theorem zct:jU C 94 zaK Q ρ h=(oP (ev .eql 3 (ρ 43) (V.I 20)) λa=>
 oP (some a) λb=>
 Wp C 94 zaA (zdE C Q) (fu (fu ρ 45 a) 44 b) h):=by kernel_rfl
theorem zcS:jU C 94 zam Q ρ h=(Q .ret ρ h):=by kernel_rfl
theorem zcW:jU C 94 zaq Q ρ h=(Q .ret ρ h):=by kernel_rfl
theorem zdM:jU C 94 zaA Q ρ h=(oP (some (ρ 44)) λc=>
 bP c (
 oP (fI 4 (ρ 5)) λa=>
 oP (eQ a h) λb=>
 oP (fH b) λd=>
 oP (ev .eql 3 d (V.I 1)) λe=>
 oP (some e) λi=>
 Wp C 94 zaC Q (fu (fu (fu (fu (fu ρ 46 a) 47 b) 48 d) 49 e) 4 i) h) (
 oP (ev .eql 3 (ρ 43) (V.I 21)) λf=>
 oP (some f) λg=>
 Wp C 94 XB Q (fu (fu ρ 51 f) 50 g) h)):=by kernel_rfl
theorem zdI:jU C 94 zaC Q ρ h=(Q .ret ρ h):=by kernel_rfl
theorem zb4:jU C 94 XB Q ρ h=(oP (some (ρ 50)) λc=>
 bP c (
 oP (fI 4 (ρ 5)) λa=>
 oP (eQ a h) λb=>
 oP (fH b) λd=>
 oP (some (ρ 0)) λe=>
 oP (iF e) λf=>
 oP (fI 0 f) λg=>
 oP (fI 3 g) λi=>
 oP (eQ i h) λj=>
 oP (some (ρ 0)) λk=>
 oP (iF k) λl=>
 oP (fI 5 l) λm=>
 oP (eQ m h) λn=>
 oP (some (ρ 1)) λo=>
 oP (gJ 1 n o) λp=>
 oP (eQ p h) λq=>
 oP (gJ 6 j q) λr=>
 oP (fI 4 r) λs=>
 oP (eQ s h) λt=>
 oP (fH t) λu=>
 oP (ev .eql 3 d u) λv=>
 oP (some v) λy=>
 ((some v=some y)/\
 ((ev .eql 3 d u=some v)/\
 ((fH t=some u)/\
 ((eQ s h=some t)/\
 ((fI 4 r=some s)/\
 ((gJ 6 j q=some r)/\
 ((eQ p h=some q)/\
 ((gJ 1 n o=some p)/\
 ((some (ρ 1)=some o)/\
 ((eQ m h=some n)/\
 ((fI 5 l=some m)/\
 ((iF k=some l)/\
 ((some (ρ 0)=some k)/\
 ((eQ i h=some j)/\
 ((fI 3 g=some i)/\
 ((fI 0 f=some g)/\
 ((iF e=some f)/\
 ((some (ρ 0)=some e)/\
 ((fH b=some d)/\
 ((eQ a h=some b)/\
 ((fI 4 (ρ 5)=some a)/\
 Wp C 94 Xq Q (fu (fu (fu (fu (fu (fu (fu (fu (fu (fu (fu (fu (fu (fu (fu (fu (fu (fu (fu (fu (fu ρ 52 a) 53 b) 54 d) 55 e) 56 f) 57 g) 58 i) 59 j) 60 k) 61 l) 62 m) 63 n) 64 o) 65 p) 66 q) 67 r) 68 s) 69 t) 70 u) 71 v) 4 y) h)))))))))))))))))))))) (
 oP (ev .eql 3 (ρ 43) (V.I 1)) λw=>
 oP (some w) λx=>
 Wp C 94 WW Q (fu (fu ρ 73 w) 72 x) h)):=by kernel_rfl
theorem zbX:jU C 94 Xq Q ρ h=(Q .ret ρ h):=by kernel_rfl
theorem zbT:jU C 94 WW Q ρ h=(oP (some (ρ 72)) λc=>
 bP c (
 oP (fI 3 (ρ 5)) λd=>
 oP (eQ d h) λe=>
 oP (ev .geq 2 e (V.I 0)) λf=>
 oP (some f) λb=>
 oP (fD true b) λH=>
 oP (gV H (fI 3 (ρ 5))) λg=>
 oP (fD true b) λI=>
 oP (gV I (eQ g h)) λi=>
 oP (fD true b) λJ=>
 oP (gV J (ev .lss 2 i (V.I 40))) λj=>
 oP (js b j (V.bool false)) λk=>
 oP (some k) λa=>
 oP (fD true a) λK=>
 oP (gV K (some (ρ 0))) λl=>
 oP (fD true a) λw=>
 oP (gV w (iF l)) λm=>
 oP (fD true a) λx=>
 oP (gV x (fI 0 m)) λn=>
 oP (fD true a) λy=>
 oP (gV y (fI 2 n)) λo=>
 oP (fD true a) λz=>
 oP (gV z (eQ o h)) λp=>
 oP (fD true a) λA=>
 oP (gV A (some (ρ 1))) λq=>
 oP (fD true a) λB=>
 oP (gV B (jy 6 p none (some q) h)) λr=>
 oP (fD true a) λD=>
 oP (gV D (some (V.func jT [] [(ρ 5)]))) λs=>
 oP (fD true a) λE=>
 oP (gC E (some (ie,[r,s]))) λF=>qo C F h λt L=>
 oP (fD true a) λG=>
 oP (gV G (pI .not t)) λu=>
 oP (js a u (V.bool false)) λv=>
 oP (some v) λM=>
 Wp C 94 W2 Q (fu (fu (fu (fu (fu (fu (fu (fu (fu (fu (fu (fu (fu (fu (fu (fu (fu (fu (fu (fu (fu ρ 74 d) 75 e) 76 f) 77 b) 78 g) 79 i) 80 j) 81 k) 82 a) 83 l) 84 m) 85 n) 86 o) 87 p) 88 q) 89 r) 90 s) 91 t) 92 u) 93 v) 4 M) L) (
 Q .normal ρ h)):=by kernel_rfl
theorem zbI:jU C 94 W2 Q ρ h=(Q .ret ρ h):=by kernel_rfl
theorem g49{C:ft}(hs:C.start=fO)(a0 a1:V){h:Hp}{Q:fy}(a:C.K kM [a0,a1] h=none)(H:jU C 94 Oc (Hc [.tmp 4] Q) (Kv [a0,a1]) h):cP C kM [a0,a1] h Q:=
 cP.Wf hs (show P0.funcs[49]? =some Tryz.f49 by unfold P0;exact Tryz.func49) (by kernel_rfl) (by kernel_rfl) (by kernel_rfl) a (JE rfl) (Wp.code _ H)
def wj(C:ft)(Q:fy)(a0 a1:V)(h:Hp):Prop:=oP (iF a0) λv7=>oP (fI 0 v7) λv8=>dF 2 v8 h λs=>oP (gJ 6 s a1) λt=>oP (fY 6 t h) λu=>hX (zC 45 [nZ,nZ,nZ,nZ,nS,nZ]) h λd h1=>fk (gM 6 d u h1) λvu v=>dF 0 d v λw=>cP C Ea [w] v λx q=>(v.next<=q.next/\oP (ev .eql 9 x (V.str [])) λe=>oP (fD false e) λb5=>oP (gV b5 (some a0)) λy=>oP (fD false e) λb6=>oP (gV b6 (fY 6 d q)) λz=>oP (fD false e) λb7=>oP (gC b7 (some (pA,[z]))) λy7=>qo C y7 q λA B=>(q.next<=B.next/\oP (fD false e) λb8=>oP (gC b8 (some (jq,[y,A]))) λy8=>qo C y8 B λD r=>(B.next<=r.next/\oP (nt e (pI .not D)) λf=>oP (fD false f) λE=>oP (gV E (fI 0 d)) λF=>oP (fD false f) λG=>oP (gV G (eQ F r)) λH=>oP (fD false f) λI=>oP (gC I (some (nT,[H]))) λJ=>qo C J r λK o=>(r.next<=o.next/\oP (fD false f) λL=>oP (gV L (some K)) λa=>oP (fD true a) λM=>oP (gV M (fI 5 d)) λN=>oP (fD true a) λO=>oP (gV O (eQ N o)) λP=>oP (fD true a) λR=>oP (gV R (some a0)) λS=>oP (fD true a) λT=>oP (gV T (iF S)) λU=>oP (fD true a) λW=>oP (gV W (fI 0 U)) λX=>oP (fD true a) λY=>oP (gV Y (fI 4 X)) λZ=>oP (fD true a) λaa=>oP (gV aa (eQ Z o)) λab=>oP (fD true a) λac=>oP (gV ac (fH ab)) λae=>oP (fD true a) λag=>oP (gC ag (some (kR,[P,ae]))) λah=>qo C ah o λai c=>(o.next<=c.next/\oP (fD true a) λaj=>oP (gV aj (pI .not ai)) λak=>oP (nt f (js a ak bF)) λal=>bP al (Q bF c) (dF 0 d c λg=>bO .eql 3 g (V.I 20) (dG 4 d c λam=>oP (ev .eql 3 am nO) λan=>Q an c) (bO .eql 3 g (V.I 21) (dG 4 d c λao=>oP (iF a0) λap=>oP (fI 0 ap) λaq=>dF 3 aq c λar=>dN 5 a0 c λau=>dX 1 au a1 c λaw=>oP (gJ 6 ar aw) λax=>dG 4 ax c λay=>oP (ev .eql 3 ao ay) λaA=>Q aA c) (bO .eql 3 g nO (dF 3 d c λaB=>oP (ev .geq 2 aB nZ) λaC=>oP (kv aC (oB (fI 3 d) λaD=>oB (eQ aD c) λaE=>ev .lss 2 aE (V.I 40))) λb=>oP (fD true b) λp=>oP (gV p (some a0)) λaF=>oP (fD true b) λaG=>oP (gV aG (iF aF)) λaH=>oP (fD true b) λaI=>oP (gV aI (fI 0 aH)) λaJ=>oP (fD true b) λi=>oP (gV i (fI 2 aJ)) λaK=>oP (fD true b) λj=>oP (gV j (eQ aK c)) λaL=>oP (fD true b) λk=>oP (gV k (some a1)) λaM=>oP (fD true b) λl=>oP (gV l (jy 6 aL none (some aM) c)) λaN=>oP (fD true b) λm=>oP (gV m (some (V.func jT [] [d]))) λaO=>oP (fD true b) λn=>oP (gC n (some (ie,[aN,aO]))) λaP=>qo C aP c λaQ h8=>oP (kv b (pI .not aQ)) λaR=>Q aR h8) (Q bT c)))))))))
theorem JA{C:ft}(hs:C.start=fO){a0 a1:V}{h:Hp}{Q:fy}(hk:C.K kM [a0,a1] h=none)(H:wj C Q a0 a1 h):cP C kM [a0,a1] h Q:=by
 unfold wj at H;exact g49 hs _ _ hk ((e49 _ _ _ _).mpr (u0 (Wp.of (zc9 _ _ _ _) (u0 (oM H λv7 _ H=>oM H λv8 _ H=>oM H λv9 _ H=>oM H λaq _ H=>u0 (oM H λar _ H=>oM H λau _ H=>alM H λv5 h1 H=>zba H λvu h2 H=>Wp.of (zcL _ _ _ _) (oM H λaw b H=>oM H λax c H=>⟨c,⟨b,dcM H λay h3 H=>Zs H λH=>oM H λaA d H=>u0 (oM H λb5 _ H=>oM H λaB a H=>oM H λb6 _ H=>oM H λaC e H=>⟨(ik e),⟨(ik a),⟨rfl,⟨d,oM H λb7 _ H=>oM H λy7 _ H=>ZM H λaD h4 H=>Zs H λH=>⟨(ik a),oM H λb8 _ H=>oM H λy8 _ H=>ZM H λaE h5 H=>Zs H λH=>thn (Ji H) λH=>oM H λb9 Z H=>oM H λaF f H=>oM H λaG g H=>u0 (oM H λaH _ H=>oM H λaI i H=>oM H λaJ _ H=>oM H λaK j H=>⟨(ik j),⟨(ik i),⟨rfl,⟨g,⟨(ik f),oM H λaL _ H=>oM H λaM _ H=>ZM H λaN h6 H=>Zs H λH=>oM H λaO _ H=>oM H λaP k H=>oM H λaQ _ H=>oM H λaR l H=>oM H λaS _ H=>oM H λaT m H=>oM H λaU _ H=>oM H λaV n H=>oM H λaW _ H=>oM H λaX o H=>oM H λaY _ H=>oM H λaZ p H=>oM H λa5 _ H=>oM H λa6 q H=>oM H λa7 _ H=>oM H λa8 r H=>oM H λa9 _ H=>oM H λba s H=>⟨(ik s),⟨(ik r),⟨(ik q),⟨(ik p),⟨(ik o),⟨(ik n),⟨(ik m),⟨(ik l),⟨(ik k),oM H λbb _ H=>oM H λbc _ H=>ZM H λbd h7 H=>Zs H λH=>oM H λbe _ H=>oM H λbf t H=>thn (Ji H) λH=>oM H λbg aa H=>oM H λbh u H=>oM H λbi v H=>⟨v,⟨(ik u),⟨(ik t),Wp.of (zcC _ _ _ _) (u0 (bM H (λH=>u0 (Wp.of (zcW _ _ _ _) (H))) (λH=>Wp.of (zcH _ _ _ _) (oM H λbj _ H=>oM H λbm _ H=>Wp.of (zct _ _ _ _) (oM H λbo _ H=>u0 (Wp.of (zdM _ _ _ _) (u0 (bM H (λH=>oM H λbr _ H=>oM H λbt _ H=>oM H λbu _ H=>oM H λbw _ H=>u0 (Wp.of (zdI _ _ _ _) (H))) (λH=>oM H λbx _ H=>u0 (Wp.of (zb4 _ _ _ _) (u0 (bM H (λH=>oM H λbz w H=>oM H λbA x H=>oM H λbC y H=>u0 (oM H λbD z H=>oM H λbE A H=>oM H λbG B H=>oM H λbH D H=>u0 (oM H λbI E H=>oM H λbJ F H=>oM H λbK G H=>u0 (oM H λbL I H=>oM H λbQ J H=>oM H λbR L H=>oM H λbS M H=>oM H λbU N H=>oM H λbV O H=>oM H λbW P H=>u0 (⟨rfl,⟨P,⟨O,⟨N,⟨M,⟨L,⟨J,⟨I,⟨rfl,⟨G,⟨F,⟨E,⟨rfl,⟨D,⟨B,⟨A,⟨z,⟨rfl,⟨y,⟨x,⟨w,Wp.of (zbX _ _ _ _) (H)⟩⟩⟩⟩⟩⟩⟩⟩⟩⟩⟩⟩⟩⟩⟩⟩⟩⟩⟩⟩⟩))))) (λH=>oM H λbX _ H=>u0 (Wp.of (zbT _ _ _ _) (u0 (bM H (λH=>oM H λbY _ H=>oM H λbZ _ H=>oM H λca _ H=>u0 (thn (Me H) λH=>sG1 H λb4 ab cb ac H=>sG1 H λae ag cd ah H=>oM H λai aj H=>oM H λce ak H=>oM H λcf al H=>u0 (oM H λam _ H=>oM H λcg _ H=>oM H λci _ H=>oM H λcj _ H=>oM H λcl _ H=>oM H λcm _ H=>oM H λR _ H=>oM H λcn _ H=>oM H λS _ H=>oM H λco _ H=>oM H λT _ H=>oM H λcp _ H=>oM H λU _ H=>oM H λcq _ H=>oM H λW _ H=>oM H λcr _ H=>oM H λX _ H=>oM H λct _ H=>ZM H λcu h8 H=>thn (Me H) λH=>oM H λY an H=>oM H λcv ao H=>oM H λcw ap H=>u0 (Wp.of (zbI _ _ _ _) (H))))) (λH=>Wp.of (zci _ _ _ _) (u0 (Wp.of (zcS _ _ _ _) (H))))))))))))))))))))⟩⟩⟩⟩⟩⟩⟩⟩⟩⟩⟩⟩⟩⟩⟩⟩⟩)⟩⟩⟩⟩⟩)⟩⟩)))))))
end
def t50:List (Nat×List Nat):=[(87,[0,5,17,18,19])]
def xB(C:ft)(Q:fy)(d e a b c:V)(h:Hp):Prop:=∀ρ:gK,ρ 0=d->ρ 5=e->ρ 17=a->ρ 18=b->ρ 19=c->WA C Tryz.f50 t50 43 [] Q ρ h
def xz(C:ft)(Q:fy)(fT:JG)(n c f g d:V)(h:Hp):Prop:=bO .lss 3 d g (dX 1 f d h λo=>oP (iF n) λp=>oP (fI 0 p) λq=>dG 3 q h λs=>cP C kR [o,s] h λt X=>bN t (Q bF X) (oP (ev .add 3 d nO) λu=>fT n c f g u X)) (dF 1 c h λe=>bO .eql 3 e nO (dG 3 c h λv=>oP (ev .eql 3 v nO) λw=>Q w h) (bO .eql 3 e (V.I 2) (dG 3 c h λx=>oP (ev .eql 3 x (V.I 2)) λb=>oP (fD true b) λZ=>oP (gV Z (some n)) λy=>oP (fD true b) λb6=>oP (gV b6 (fI 2 c)) λz=>oP (fD true b) λb7=>oP (gV b7 (eQ z h)) λA=>oP (fD true b) λb8=>ghP b8 h (oB (jG 3 1 1 nZ [(0,A)]) λr=>some (r.2 h.next,h.new r.1)) λB h2=>oP (fD true b) λb9=>oP (gC b9 (some (jq,[y,B]))) λy9=>qo C y9 h2 λD h3=>oP (js b D bF) λE=>Q E h3) (bO .eql 3 e (V.I 3) (dG 3 c h λF=>oP (ev .eql 3 F nZ) λa=>oP (fD true a) λi=>oP (gV i (fI 5 c)) λG=>oP (fD true a) λj=>oP (gV j (eQ G h)) λH=>oP (fD true a) λk=>oP (gV k (some n)) λI=>oP (fD true a) λl=>oP (gV l (iF I)) λJ=>oP (fD true a) λm=>oP (gV m (fI 0 J)) λK=>oP (fD true a) λL=>oP (gV L (fI 4 K)) λM=>oP (fD true a) λN=>oP (gV N (eQ M h)) λO=>oP (fD true a) λP=>oP (gV P (fH O)) λR=>oP (fD true a) λS=>oP (gC S (some (kR,[H,R]))) λT=>qo C T h λU Y=>(h.next<=Y.next/\oP (js a U bF) λW=>Q W Y)) (Q bF h))))
theorem EE{C Q}(I)(s:P5 I (xz C Q)){k d e a b c h}(i:I k d e a b c h):xB C Q d e a b c h:=WA.l5 I _ s i
def z8(C:ft)(Q:fy)(a0 a1:V)(h:Hp):Prop:=oP (iF a0) λj=>oP (fI 0 j) λb=>dF 3 b h λc=>oP (gJ 6 c a1) λd=>oP (fY 6 d h) λe=>hX (zC 43 [nS,nZ,nZ,nS,nS,nZ]) h λf k=>fk (gM 6 f e k) λl i=>dF 3 f i λa=>oP (fH a) λg=>xB C Q a0 f a g nZ i
theorem HP{C}(s:C.start=fO){a0 a1 h Q}(k:C.K mV [a0,a1] h=none)(H:z8 C Q a0 a1 h):cP C mV [a0,a1] h Q:=cP.vd t50 s (by unfold P0;exact Tryz.func50) k H
def t51:List (Nat×List Nat):=[(171,[0,1,16,17,18]),(14,[0,1]),(175,[0,7,54,55,56])]
def yI(C:ft)(Q:fy)(d e a b c:V)(h:Hp):Prop:=∀ρ:gK,ρ 0=d->ρ 1=e->ρ 16=a->ρ 17=b->ρ 18=c->WA C Tryz.f51 t51 85 [] Q ρ h
def nV(C:ft)(Q:fy)(a b:V)(h:Hp):Prop:=∀ρ:gK,ρ 0=a->ρ 1=b->WA C Tryz.f51 t51 7 [] Q ρ h
def yA(C:ft)(Q:fy)(d e a b c:V)(h:Hp):Prop:=∀ρ:gK,ρ 0=d->ρ 7=e->ρ 54=a->ρ 55=b->ρ 56=c->WA C Tryz.f51 t51 87 [] Q ρ h
def yF(C:ft)(Q:fy)(fT:JG)(e s b c a:V)(h:Hp):Prop:=bO .lss 3 a c (dX 1 b a h λd=>oP (iF e) λf=>oP (fI 0 f) λg=>dJ 3 g 6 a 4 h λi=>cP C g0 [d,i] h λj t=>oP (pI .not j) λk=>oP (nt k (oB (some a) λl=>oB (ev .eql 3 l nZ) λm=>oB (some m) λn=>kv n (oB (some d) λo=>oB (fH o) λp=>ev .gtr 3 p nZ))) λq=>bP q (Q bF t) (oP (ev .add 3 a nO) λr=>fT e s b c r t)) (nV C Q e s h)
theorem E0{C Q}(I)(s:P5 I (yF C Q)){k d e a b c h}(i:I k d e a b c h):yI C Q d e a b c h:=WA.l5 I _ s i
def yN(C:ft)(Q:fy)(j l:V)(h:Hp):Prop:=oP (iF j) λb=>oP (fI 0 b) λc=>dF 3 c h λd=>oP (gJ 6 d l) λe=>oP (fY 6 e h) λf=>hX (zC 43 [nS,nZ,nZ,nS,nS,nZ]) h λg m=>fk (gM 6 g f m) λn k=>dF 3 g k λa=>oP (fH a) λi=>yA C Q j g a i nZ k
theorem Fz{C:ft}{Q:fy}{a b:V}{h:Hp}(H:yN C Q a b h):nV C Q a b h:=by
 rintro ρ rfl rfl;exact WA.of (by kernel_rfl) H
def yK(C:ft)(Q:fy)(d:JG)(u v b c a:V)(h:Hp):Prop:=bO .lss 3 a c (dX 1 b a h λe=>dF 1 v h λf=>oP (ev .eql 3 f (V.I 2)) λg=>oP (kv g (oB (some u) λi=>oB (iF i) λj=>oB (fI 0 j) λk=>oB (fI 3 k) λl=>oB (eQ l h) λm=>oB (some e) λn=>oB (gJ 6 m n) λo=>oB (fI 4 o) λp=>oB (eQ p h) λq=>oB (fH q) λr=>ev .neq 3 r nO)) λs=>bP s (Q bF h) (oP (ev .add 3 a nO) λt=>d u v b c t h)) (Q bT h)
theorem FJ{C Q}(I)(s:P5 I (yK C Q)){k d e a b c h}(i:I k d e a b c h):yA C Q d e a b c h:=WA.l5 I _ s i
def BF(C:ft)(Q:fy)(a0 a1:V)(h:Hp):Prop:=bO .eql 3 a1 nZ (oP (iF a0) λb=>oP (fI 0 b) λc=>oP (fY 5 c h) λd=>cP C yG [d] h λa f=>oP (fH a) λe=>yI C Q a0 a1 a e nZ f) (nV C Q a0 a1 h)
theorem IY{C}(s:C.start=fO){a0 a1 h Q}(k:C.K nN [a0,a1] h=none)(H:BF C Q a0 a1 h):cP C nN [a0,a1] h Q:=cP.vd t51 s (by unfold P0;exact Tryz.func51) k H
def t52:List (Nat×List Nat):=[]
def y6(C:ft)(Q:fy)(a0:V)(h:Hp):Prop:=oP (iF a0) λa=>oP (fI 0 a) λb=>oP (fY 5 b h) λc=>cP C qU [c] h λd e=>Q d e
theorem G0{C}(s:C.start=fO){a0 h Q}(k:C.K tq [a0] h=none)(H:y6 C Q a0 h):cP C tq [a0] h Q:=cP.vd t52 s (by unfold P0;exact Tryz.func52) k H
def t91:List (Nat×List Nat):=[(19,[0,1,2])]
def qJ(C:ft)(Q:fy)(a b c:V)(h:Hp):Prop:=∀ρ:gK,ρ 0=a->ρ 1=b->ρ 2=c->WA C Tryz.f91 t91 9 [] Q ρ h
def qL(C:ft)(Q:fy)(fT:RU)(d e a:V)(h:Hp):Prop:=bO .geq 3 a nZ (bO .eql 3 e a (Q bT h) (dN 7 d h λb=>dX 1 b a h λc=>fT d e c h)) (Q bF h)
theorem Ah{C Q}(I)(s:P3 I (qL C Q)){k a b c h}(i:I k a b c h):qJ C Q a b c h:=WA.l3 I _ s i
def vt(C:ft)(Q:fy)(a0 a1 a2:V)(h:Hp):Prop:=qJ C Q a0 a1 a2 h
theorem Cp{C}(s:C.start=fO){a0 a1 a2 h Q}(k:C.K mh [a0,a1,a2] h=none)(H:vt C Q a0 a1 a2 h):cP C mh [a0,a1,a2] h Q:=cP.vd t91 s (by unfold P0;exact Tryz.func91) k H
def t81:List (Nat×List Nat):=[(43,[0,2,3,11,12,13])]
def xK(C:ft)(Q:fy)(d e f a b c:V)(h:Hp):Prop:=∀ρ:gK,ρ 0=d->ρ 2=e->ρ 3=f->ρ 11=a->ρ 12=b->ρ 13=c->WA C Tryz.f81 t81 21 [] Q ρ h
def xL(C:ft)(Q:fy)(fT:PS)(d g S e f b:V)(h:Hp):Prop:=bO .lss 3 b f (dX 1 e b h λc=>dN 5 d h λi=>dX 1 i c h λj=>oP (ev .eql 3 j g) λk=>oP (kv k (oB (some d) λl=>oB (iF l) λm=>oB (fI 6 m) λn=>oB (eQ n h) λo=>oB (some c) λp=>oB (gJ 1 o p) λq=>oB (eQ q h) λr=>oB (some S) λs=>ev .geq 3 r s)) λa=>oP (fD false a) λt=>oP (gV t (some d)) λu=>oP (fD false a) λv=>oP (gV v (some d)) λw=>oP (fD false a) λx=>oP (gV x (iF w)) λy=>oP (fD false a) λz=>oP (gV z (fI 5 y)) λA=>oP (fD false a) λB=>oP (gV B (eQ A h)) λD=>oP (fD false a) λE=>oP (gV E (some c)) λF=>oP (fD false a) λG=>oP (gV G (gJ 1 D F)) λH=>oP (fD false a) λI=>oP (gV I (eQ H h)) λJ=>oP (fD false a) λK=>oP (gV K (some g)) λL=>oP (fD false a) λM=>oP (gC M (some (mh,[u,J,L]))) λN=>qo C N h λO T=>oP (nt a (pI .not O)) λP=>bP P (Q bF T) (oP (ev .add 3 b nO) λR=>fT d g S e f R T)) (Q bT h)
theorem EL{C Q}(I)(s:P6 I (xL C Q)){k d e f a b c h}(i:I k d e f a b c h):xK C Q d e f a b c h:=WA.l6 I _ s i
def Ae(C:ft)(Q:fy)(a0 a1 a2 a3:V)(h:Hp):Prop:=oP (fH a1) λa=>xK C Q a0 a2 a3 a1 a nZ h
theorem Il{C}(s:C.start=fO){a0 a1 a2 a3 h Q}(k:C.K jI [a0,a1,a2,a3] h=none)(H:Ae C Q a0 a1 a2 a3 h):cP C jI [a0,a1,a2,a3] h Q:=cP.vd t81 s (by unfold P0;exact Tryz.func81) k H
def t82:List (Nat×List Nat):=[(43,[0,2,3,19,20,21])]
def qF(C:ft)(Q:fy)(d e f a b c:V)(h:Hp):Prop:=∀ρ:gK,ρ 0=d->ρ 2=e->ρ 3=f->ρ 19=a->ρ 20=b->ρ 21=c->WA C Tryz.f82 t82 21 [] Q ρ h
def qW(C:ft)(Q:fy)(fT:PS)(f g i d e b:V)(h:Hp):Prop:=bO .lss 3 b e (oP (gJ 4 d b) λj=>oP (fY 4 j h) λk=>hX (zC 49 [nZ,nZ,nS,nS]) h λc E=>fk (gM 4 c k E) λH A=>dF 2 c A λl=>cP C jI [f,l,g,i] A λm B=>oP (pI .not m) λa=>oP (fD false a) λF=>oP (gV F (some f)) λn=>oP (fD false a) λG=>oP (gV G (fI 3 c)) λo=>oP (fD false a) λp=>oP (gV p (eQ o B)) λq=>oP (fD false a) λr=>oP (gV r (some g)) λs=>oP (fD false a) λt=>oP (gV t (some i)) λu=>oP (fD false a) λv=>oP (gC v (some (jI,[n,q,s,u]))) λw=>qo C w B λx D=>oP (nt a (pI .not x)) λy=>bP y (Q bF D) (oP (ev .add 3 b nO) λz=>fT f g i d e z D)) (Q bT h)
theorem zY{C Q}(I)(s:P6 I (qW C Q)){k d e f a b c h}(i:I k d e f a b c h):qF C Q d e f a b c h:=WA.l6 I _ s i
def uJ(C:ft)(Q:fy)(a0 a1 a2 a3:V)(h:Hp):Prop:=oP (iF a0) λb=>oP (fI 0 b) λc=>dJ 4 c 1 a1 0 h λa=>oP (fH a) λd=>qF C Q a0 a2 a3 a d nZ h
theorem CV{C}(s:C.start=fO){a0 a1 a2 a3 h Q}(k:C.K jB [a0,a1,a2,a3] h=none)(H:uJ C Q a0 a1 a2 a3 h):cP C jB [a0,a1,a2,a3] h Q:=cP.vd t82 s (by unfold P0;exact Tryz.func82) k H
def t54:List (Nat×List Nat):=[(175,[0,1,5,6,24,25,26]),(1356591,[0,1,5,6,24,25,26,43,44,45]),(3886,[0,1,5,6,24,25,26])]
def wP(C:ft)(Q:fy)(d e f g a b c:V)(h:Hp):Prop:=∀ρ:gK,ρ 0=d->ρ 1=e->ρ 5=f->ρ 6=g->ρ 24=a->ρ 25=b->ρ 26=c->WA C Tryz.f54 t54 87 [] Q ρ h
def vZ(C:ft)(Q:fy)(fT:PZ)(g i j k a b c d e f:V)(h:Hp):Prop:=∀ρ:gK,ρ 0=g->ρ 1=i->ρ 5=j->ρ 6=k->ρ 24=a->ρ 25=b->ρ 26=c->ρ 43=d->ρ 44=e->ρ 45=f->WA C Tryz.f54 t54 678295 [λρ h=>fT (ρ 0) (ρ 1) (ρ 5) (ρ 6) (ρ 24) (ρ 25) (ρ 26) h] Q ρ h
def oZ(C:ft)(Q:fy)(fT:PZ)(d e f g a b c:V)(h:Hp):Prop:=∀ρ:gK,ρ 0=d->ρ 1=e->ρ 5=f->ρ 6=g->ρ 24=a->ρ 25=b->ρ 26=c->WA C Tryz.f54 t54 1943 [λρ h=>fT (ρ 0) (ρ 1) (ρ 5) (ρ 6) (ρ 24) (ρ 25) (ρ 26) h] Q ρ h
def vV(C:ft)(Q:fy)(fT:PZ)(d g j s e f b:V)(h:Hp):Prop:=bO .lss 3 b f (dX 1 e b h λt=>oP (iF d) λu=>oP (fI 0 u) λv=>dF 2 v h λw=>oP (gJ 6 w t) λx=>oP (fY 6 x h) λy=>hX (zC 45 [nZ,nZ,nZ,nZ,nS,nZ]) h λi h1=>fk (gM 6 i y h1) λvu k=>dF 0 i k λz=>bO .eql 3 z (V.I 21) (dF 4 i k λl=>oP (fH l) λA=>vZ C Q fT d g j s e f b l A nZ k) (oP (fY 6 i k) λB=>cP C pA [B] k λD h3=>cP C jI [d,D,g,b] h3 λE h4=>oP (pI .not E) λc=>oP (fD false c) λb8=>oP (gV b8 (fI 0 i)) λF=>oP (fD false c) λb9=>oP (gV b9 (eQ F h4)) λG=>oP (fD false c) λH=>oP (gC H (some (nT,[G]))) λI=>qo C I h4 λJ h5=>oP (fD false c) λK=>oP (gV K (some J)) λa=>oP (fD true a) λL=>oP (gV L (some d)) λM=>oP (fD true a) λN=>oP (gV N (fI 5 i)) λO=>oP (fD true a) λP=>oP (gV P (eQ O h5)) λR=>oP (fD true a) λS=>oP (gV S (some g)) λT=>oP (fD true a) λU=>oP (gV U (some b)) λW=>oP (fD true a) λX=>oP (gC X (some (jB,[M,R,T,W]))) λY=>qo C Y h5 λZ h6=>oP (fD true a) λaa=>oP (gV aa (pI .not Z)) λab=>oP (nt c (js a ab bF)) λac=>bP ac (Q bF h6) (oZ C Q fT d g j s e f b h6))) (dF 1 j h λm=>bO .eql 3 m (V.I 2) (dF 2 j h λn=>hX (jG 3 1 1 nZ [(0,n)]) h λo h7=>cP C jI [d,o,g,s] h7 λp h8=>Q p h8) (bO .eql 3 m (V.I 3) (dF 5 j h λq=>cP C jB [d,q,g,s] h λr h9=>Q r h9) (Q bT h)))
theorem Dd{C Q}(I)(s:P7 I (vV C Q)){k d e f g a b c h}(i:I k d e f g a b c h):wP C Q d e f g a b c h:=WA.l7 I _ s i
def wY(C:ft)(Q:fy)(fT:PZ)(k:Kk)(i y j z c d e f g a:V)(h:Hp):Prop:=bO .lss 3 a g (dX 1 f a h λl=>xE (jG 3 1 1 nZ [(0,l)]) h λm n b=>dY 4 j 1 a b λo=>oP (iF i) λp=>oP (fI 0 p) λq=>dF 3 q b λr=>dY 4 j 1 a b λs=>oP (gJ 6 r s) λt=>dG 0 t b λu=>((b.get (h.next)=some m/\O.beq m m=true)/\cP C jI [i,n,o,u] b λv w=>(b.next<=w.next/\bN v (Q bF w) (oP (ev .add 3 a nO) λx=>k i y j z c d e f g x w)))) (oZ C Q fT i y j z c d e h)
theorem DH{C Q fT}(I)(s:P10 I (wY C Q fT)){k g j l m a b c d e f h}(i:I k g j l m a b c d e f h):vZ C Q fT g j l m a b c d e f h:=WA.l10 I _ s i
def o0(C:ft)(Q:fy)(fT:PZ)(e f g i a b c:V)(h:Hp):Prop:=oP (ev .add 3 c nO) λd=>fT e f g i a b d h
theorem vC{C:ft}{Q:fy}{fT:PZ}{d e f g a b c:V}{h:Hp}(H:o0 C Q fT d e f g a b c h):oZ C Q fT d e f g a b c h:=by
 rintro ρ rfl rfl rfl rfl rfl rfl rfl;exact WA.of (by kernel_rfl) H
def za(C:ft)(Q:fy)(a0 a1:V)(h:Hp):Prop:=oP (iF a0) λc=>oP (fI 0 c) λd=>dF 3 d h λe=>oP (gJ 6 e a1) λf=>oP (fY 6 f h) λg=>hX (zC 43 [nS,nZ,nZ,nS,nS,nZ]) h λb l=>fk (gM 6 b g l) λm i=>dG 0 b i λj=>dF 0 b i λa=>oP (fH a) λk=>wP C Q a0 a1 b j a k nZ i
theorem GS{C}(s:C.start=fO){a0 a1 h Q}(k:C.K mE [a0,a1] h=none)(H:za C Q a0 a1 h):cP C mE [a0,a1] h Q:=cP.vd t54 s (by unfold P0;exact Tryz.func54) k H
def t19:List (Nat×List Nat):=[]
def KC(C:ft)(Q:fy)(a0:V)(h:Hp):Prop:=hX (lX 30 a0) h λe f=>dG 2 e f λv7=>oP (ev .gtr 3 v7 (V.I 3000)) λv8=>oP (nt v8 (oB (fI 3 e) λp=>oB (eQ p f) λq=>oB (fH q) λr=>ev .gtr 3 r (V.I 300))) λs=>oP (nt s (oB (fI 4 e) λt=>oB (eQ t f) λu=>oB (fH u) λv=>ev .gtr 3 v (V.I 1000))) λw=>oP (nt w (oB (fI 3 e) λx=>oB (eQ x f) λy=>oB (fH y) λz=>ev .eql 3 z nZ)) λA=>bP A (Q bF f) (oP (fY 5 e f) λB=>oP (fV [nZ,nZ,nS,nS,nS,nS,nS,nS] [(0,5),(5,1),(6,1),(7,1)] [(0,B)]) λD=>hX (lX 97 D) f λa h2=>dG 4 e h2 λE=>cP C jW [a,E,(V.func mF [a] [])] h2 λF h3=>oP (pI .not F) λg=>oP (fD false g) λb9=>oP (gV b9 (some a)) λG=>oP (fD false g) λH=>oP (gC H (some (oU,[G]))) λI=>qo C I h3 λJ h4=>oP (nt g (pI .not J)) λb=>oP (fD false b) λi=>oP (gV i (some a)) λK=>oP (fD false b) λL=>oP (gV L (fI 2 e)) λM=>oP (fD false b) λN=>oP (gV N (eQ M h4)) λO=>oP (fD false b) λj=>oP (gV j (fH O)) λP=>oP (fD false b) λk=>oP (gV k (some a)) λR=>oP (fD false b) λl=>oP (gV l (some (V.func kM [R] []))) λS=>oP (fD false b) λm=>oP (gC m (some (jW,[K,P,S]))) λT=>qo C T h4 λU h5=>oP (nt b (pI .not U)) λc=>oP (fD false c) λW=>oP (gV W (some a)) λX=>oP (fD false c) λY=>oP (gV Y (fI 3 e)) λZ=>oP (fD false c) λaa=>oP (gV aa (eQ Z h5)) λab=>oP (fD false c) λac=>oP (gV ac (fH ab)) λae=>oP (fD false c) λag=>oP (gV ag (some a)) λah=>oP (fD false c) λai=>oP (gV ai (some (V.func mV [ah] []))) λaj=>oP (fD false c) λak=>oP (gC ak (some (jW,[X,ae,aj]))) λal=>qo C al h5 λam h6=>oP (nt c (pI .not am)) λd=>oP (fD false d) λan=>oP (gV an (some a)) λao=>oP (fD false d) λap=>oP (gV ap (fI 3 e)) λaq=>oP (fD false d) λar=>oP (gV ar (eQ aq h6)) λau=>oP (fD false d) λaw=>oP (gV aw (fH au)) λax=>oP (fD false d) λay=>oP (gV ay (some a)) λaA=>oP (fD false d) λaB=>oP (gV aB (some (V.func nN [aA] []))) λaC=>oP (fD false d) λaD=>oP (gC aD (some (jW,[ao,ax,aC]))) λaE=>qo C aE h6 λaF h7=>oP (nt d (pI .not aF)) λaG=>bP aG (Q bF h7) (cP C tq [a] h7 λaH o=>oP (fH aH) λaI=>dG 3 e o λaJ=>bO .neq 3 aI aJ (Q bF o) (oP (fY 5 e o) λaK=>cP C rl [aK] o λaL h9=>oP (iF a) λaM=>oP (fI 7 aM) λaN=>fk (gM 1 aN aL h9) λvu n=>dG 3 e n λaO=>cP C jW [a,aO,(V.func mE [a] [])] n λaP aQ=>Q aP aQ)))
theorem Q9{C}(s:C.start=fO){a0 h Q}(k:C.K BB [a0] h=none)(H:KC C Q a0 h):cP C BB [a0] h Q:=cP.vd t19 s (by unfold P0;exact Tryz.func19) k H
end
