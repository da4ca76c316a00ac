/- Parts. -/
import Derived.Test.YtjgjgngfjopaaaaDoorM14
namespace Go.Proofs.YtjgjgngfjopaaaaDoor.Hx
set_option maxRecDepth 100000
noncomputable section
def t69:List (Nat×List Nat):=[(126,[1,3,4,5]),(319,[1,3,4,5])]
def zV(C:fu)(Q:fy)(a b c d:V)(h:Hp):Prop:=∀ρ:gB,ρ 1=a->ρ 3=b->ρ 4=c->ρ 5=d->WA C Tryd.f69 t69 63 [] Q ρ h
def Fh(C:fu)(Q:fy)(a b c d:V)(h:Hp):Prop:=∀ρ:gB,ρ 1=a->ρ 3=b->ρ 4=c->ρ 5=d->WA C Tryd.f69 t69 159 [] Q ρ h
def FA(C:fu)(Q:fy)(a b c d:V)(h:Hp):Prop:=Fh C Q a b c d h
theorem Lk{C:fu}{Q:fy}{a b c d:V}{h:Hp}(H:FA C Q a b c d h):zV C Q a b c d h:=by
 rintro ρ rfl rfl rfl rfl;exact WA.of (by kernel_rfl) H
def Fk(C:fu)(Q:fy)(fS:Ku)(g d e c:V)(h:Hp):Prop:=oP (fF c) λi=>bO .gtr 3 i nZ (oP (fF c) λj=>oP (eo .sub 3 j nO) λk=>oP (gD 2 c k) λa=>dF 3 g h λl=>dN 0 a h λm=>dI 6 l m 3 h λf=>dN 1 a h λn=>oP (fF f) λo=>bO .eql 3 n o (dN 0 a h λp=>ik (jt 3 1 1 nZ [(0,p)]) h λq P=>fm (fe 3 1 8 e q P) λr N=>oP (fF c) λs=>oP (eo .sub 3 s nO) λt=>oP (jh 2 c none (some t) N) λu=>fS g d r u N) (dN 1 a h λv=>dX 1 f v h λb=>dN 1 a h λw=>oP (eo .add 3 w nO) λx=>oP (ij a) λy=>oP (fH 1 y) λz=>fm (gK 1 z x h) λY R=>oP (fF d) λA=>cP C km [b,A] R λB D=>oP (jZ B (oB (some d) λE=>oB (some b) λF=>oB (gD 1 E F) λG=>oB (ez G D) λH=>qz .not H)) λI=>bP I (oP (gD 1 d b) λJ=>fm (gK 1 J bT D) λO S=>oP (fV [nZ,nZ] [(0,1),(1,1)] [(0,b),(1,nZ)]) λK=>ik (jt 123 2 1 (V.agg [nZ,nZ]) [(0,K)]) S λL T=>fm (fe 123 2 16 c L T) λM U=>fS g d e M U) (fS g d e c D))) (cP C kV [e] h λW X=>Q e X)
theorem L8{C Q}(I)(s:P4 I (Fk C Q)){k a b c d h}(i:I k a b c d h):Fh C Q a b c d h:=WA.l4 I _ s i
def Kx(C:fu)(Q:fy)(a0:V)(h:Hp):Prop:=ik (m0 30 a0) h λc k=>dG 3 c k λb=>ik (ig 4 1 1 bF b b) k λa d=>dG 3 c d λe=>bO .gtr 3 e nZ (oP (fV [nZ,nZ] [(0,1),(1,1)] []) λf=>ik (jt 123 2 1 (V.agg [nZ,nZ]) [(0,f)]) d λg l=>fm (fe 123 2 16 nS g l) λi m=>oP (gD 1 a nZ) λj=>fm (gK 1 j bT m) λo n=>zV C Q c a nS i n) (zV C Q c a nS nS d)
theorem QD{C}(s:C.start=fR){a0 h Q}(k:C.K qe [a0] h=none)(H:Kx C Q a0 h):cP C qe [a0] h Q:=cP.vd t69 s (by unfold P0;exact Tryd.func69) k H
def t67:List (Nat×List Nat):=[(87,[3,13,14,15]),(22935,[3,4,13,14,15,21,22,23]),(498070,[3,4,13,14,15,21,22,23])]
def ER(C:fu)(Q:fy)(d a b c:V)(h:Hp):Prop:=∀ρ:gB,ρ 3=d->ρ 13=a->ρ 14=b->ρ 15=c->WA C Tryd.f67 t67 43 [] Q ρ h
def FB(C:fu)(Q:fy)(fS:Ku)(g i a b c d e f:V)(h:Hp):Prop:=∀ρ:gB,ρ 3=g->ρ 4=i->ρ 13=a->ρ 14=b->ρ 15=c->ρ 21=d->ρ 22=e->ρ 23=f->WA C Tryd.f67 t67 11467 [λρ h=>fS (ρ 3) (ρ 13) (ρ 14) (ρ 15) h] Q ρ h
def yx(C:fu)(Q:fy)(fS:Ku)(a:KP)(i j b c d e f g:V)(h:Hp):Prop:=∀ρ:gB,ρ 3=i->ρ 4=j->ρ 13=b->ρ 14=c->ρ 15=d->ρ 21=e->ρ 22=f->ρ 23=g->WA C Tryd.f67 t67 249035 [λρ h=>fS (ρ 3) (ρ 13) (ρ 14) (ρ 15) h,λρ h=>a (ρ 3) (ρ 4) (ρ 13) (ρ 14) (ρ 15) (ρ 21) (ρ 22) (ρ 23) h] Q ρ h
def FD(C:fu)(Q:fy)(fS:Ku)(i b c a:V)(h:Hp):Prop:=bO .lss 3 a c (oP (gD 6 b a) λe=>oP (gg 6 e h) λf=>ik (zC 50 [nS,nZ,nZ,nS,nS,nZ]) h λj l=>fm (gK 6 j f l) λm k=>dF 3 j k λd=>oP (fF d) λg=>FB C Q fS i a b c a d g nZ k) (Q i h)
theorem LB{C Q}(I)(s:P4 I (FD C Q)){k d a b c h}(i:I k d a b c h):ER C Q d a b c h:=WA.l4 I _ s i
def EL(C:fu)(Q:fy)(fS:Ku)(j:KP)(i k b c d e f a:V)(h:Hp):Prop:=bO .lss 3 a f (dX 1 e a h λg=>oP (fF i) λl=>cP C km [g,l] h λm n=>bP m (dX 1 i g n λo=>ik (jt 3 1 1 nZ [(0,k)]) n λp t=>fm (fe 3 1 8 o p t) λq u=>oP (gD 1 i g) λr=>fm (gK 1 r q u) λw v=>yx C Q fS j i k b c d e f a v) (yx C Q fS j i k b c d e f a n)) (oP (eo .add 3 d nO) λs=>fS i b c s h)
theorem LD{C Q fS}(I)(s:P8 I (EL C Q fS)){k g j a b c d e f h}(i:I k g j a b c d e f h):FB C Q fS g j a b c d e f h:=WA.l8 I _ s i
def DW(C:fu)(Q:fy)(fS:Ku)(a:KP)(j k b c d e f g:V)(h:Hp):Prop:=oP (eo .add 3 g nO) λi=>a j k b c d e f i h
theorem KG{C:fu}{Q:fy}{fS:Ku}{a:KP}{i j b c d e f g:V}{h:Hp}(H:DW C Q fS a i j b c d e f g h):yx C Q fS a i j b c d e f g h:=by
 rintro ρ rfl rfl rfl rfl rfl rfl rfl rfl;exact WA.of (by kernel_rfl) H
def Kg(C:fu)(Q:fy)(a0:V)(h:Hp):Prop:=ik (m0 30 a0) h λe f=>dG 3 e f λa=>ik (ig 22 1 24 nS a a) f λc g=>dF 3 e g λb=>oP (fF b) λd=>ER C Q c b d nZ g
theorem QJ{C}(s:C.start=fR){a0 h Q}(k:C.K xZ [a0] h=none)(H:Kg C Q a0 h):cP C xZ [a0] h Q:=cP.vd t67 s (by unfold P0;exact Tryd.func67) k H
def t46:List (Nat×List Nat):=[(175,[3,4,5,6,30,31]),(351,[3,4,5,6,38,39,40]),(5631,[3,4,5,10,11]),(370175,[3,4,5,10,11,59,60,61]),(362391039,[3,4,5,10,11,13,14,59,60,61,68,69,70]),(8147019262,[3,4,5,10,11,13,14,59,60,61,68,69,70]),(7972350,[3,4,5,10,11,59,60,61])]
def yP(C:fu)(Q:fy)(c d e f a b:V)(h:Hp):Prop:=∀ρ:gB,ρ 3=c->ρ 4=d->ρ 5=e->ρ 6=f->ρ 30=a->ρ 31=b->WA C Tryd.f46 t46 87 [] Q ρ h
def yE(C:fu)(Q:fy)(d e f g a b c:V)(h:Hp):Prop:=∀ρ:gB,ρ 3=d->ρ 4=e->ρ 5=f->ρ 6=g->ρ 38=a->ρ 39=b->ρ 40=c->WA C Tryd.f46 t46 175 [] Q ρ h
def yS(C:fu)(Q:fy)(c d e a b:V)(h:Hp):Prop:=∀ρ:gB,ρ 3=c->ρ 4=d->ρ 5=e->ρ 10=a->ρ 11=b->WA C Tryd.f46 t46 2815 [] Q ρ h
def yZ(C:fu)(Q:fy)(a:Jg)(g i j b c d e f:V)(h:Hp):Prop:=∀ρ:gB,ρ 3=g->ρ 4=i->ρ 5=j->ρ 10=b->ρ 11=c->ρ 59=d->ρ 60=e->ρ 61=f->WA C Tryd.f46 t46 185087 [λρ h=>a (ρ 3) (ρ 4) (ρ 5) (ρ 10) (ρ 11) h] Q ρ h
def yG(C:fu)(Q:fy)(a:Jg)(b:KP)(n o p c d e f g i j k l m:V)(h:Hp):Prop:=∀ρ:gB,ρ 3=n->ρ 4=o->ρ 5=p->ρ 10=c->ρ 11=d->ρ 13=e->ρ 14=f->ρ 59=g->ρ 60=i->ρ 61=j->ρ 68=k->ρ 69=l->ρ 70=m->WA C Tryd.f46 t46 181195519 [λρ h=>a (ρ 3) (ρ 4) (ρ 5) (ρ 10) (ρ 11) h,λρ h=>b (ρ 3) (ρ 4) (ρ 5) (ρ 10) (ρ 11) (ρ 59) (ρ 60) (ρ 61) h] Q ρ h
def mU(C:fu)(Q:fy)(a:Jg)(b:KP)(c:Hn)(o p q d e f g i j k l m n:V)(h:Hp):Prop:=∀ρ:gB,ρ 3=o->ρ 4=p->ρ 5=q->ρ 10=d->ρ 11=e->ρ 13=f->ρ 14=g->ρ 59=i->ρ 60=j->ρ 61=k->ρ 68=l->ρ 69=m->ρ 70=n->WA C Tryd.f46 t46 4073509631 [λρ h=>a (ρ 3) (ρ 4) (ρ 5) (ρ 10) (ρ 11) h,λρ h=>b (ρ 3) (ρ 4) (ρ 5) (ρ 10) (ρ 11) (ρ 59) (ρ 60) (ρ 61) h,λρ h=>c (ρ 3) (ρ 4) (ρ 5) (ρ 10) (ρ 11) (ρ 13) (ρ 14) (ρ 59) (ρ 60) (ρ 61) (ρ 68) (ρ 69) (ρ 70) h] Q ρ h
def pT(C:fu)(Q:fy)(a:Jg)(b:KP)(i j k c d e f g:V)(h:Hp):Prop:=∀ρ:gB,ρ 3=i->ρ 4=j->ρ 5=k->ρ 10=c->ρ 11=d->ρ 59=e->ρ 60=f->ρ 61=g->WA C Tryd.f46 t46 3986175 [λρ h=>a (ρ 3) (ρ 4) (ρ 5) (ρ 10) (ρ 11) h,λρ h=>b (ρ 3) (ρ 4) (ρ 5) (ρ 10) (ρ 11) (ρ 59) (ρ 60) (ρ 61) h] Q ρ h
def yT(C:fu)(Q:fy)(fS:Pd)(c j d k b a:V)(h:Hp):Prop:=bO .lss 3 a b (oP (ez d h) λe=>oP (gD 1 e a) λf=>fm (gK 1 f (V.I (-1)) h) λm l=>oP (eo .add 3 a nO) λg=>fS c j d k b g l) (oP (fF c) λi=>yE C Q c j d k c i nZ h)
theorem GL{C Q}(I)(s:P6 I (yT C Q)){k c d e f a b h}(i:I k c d e f a b h):yP C Q c d e f a b h:=WA.l6 I _ s i
def yM(C:fu)(Q:fy)(e:Pk)(f q b g c d a:V)(h:Hp):Prop:=bO .lss 3 a d (dX 1 c a h λi=>oP (ez g h) λj=>oP (gD 1 j i) λk=>fm (gK 1 k a h) λu s=>oP (eo .add 3 a nO) λl=>e f q b g c d l s) (oP (fF f) λm=>bO .eql 3 m nZ (oP (ez b h) λn=>Q n h) (oP (ez b h) λo=>oP (gD 1 o nZ) λp=>fm (gK 1 p nZ h) λr t=>yS C Q f q b (V.func jw [] [g,b]) bT t))
theorem GG{C Q}(I)(s:P7 I (yM C Q)){k d e f g a b c h}(i:I k d e f g a b c h):yE C Q d e f g a b c h:=WA.l7 I _ s i
def yU(C:fu)(Q:fy)(e:Jg)(k m f g i:V)(h:Hp):Prop:=bP i (oP (jh 1 k (some nO) none h) λa=>oP (fF a) λj=>yZ C Q e k m f g bF a j nZ h) (oP (ez f h) λb=>oP (gD 1 b nZ) λc=>fm (gK 1 c (V.I (-1)) h) λn l=>oP (ez f l) λd=>Q d l)
theorem Gu{C Q}(I)(s:P5 I (yU C Q)){k c d e a b h}(i:I k c d e a b h):yS C Q c d e a b h:=WA.l5 I _ s i
def yV(C:fu)(Q:fy)(b:Jg)(j:KP)(m k n c d e f a:V)(h:Hp):Prop:=bO .lss 3 a f (dX 1 e a h λg=>dX 1 k g h λi=>oP (fF i) λl=>yG C Q b j m k n c d g (V.I (-1)) e f a i l nZ h) (b m k n c d h)
theorem Gv{C Q a}(I)(s:P8 I (yV C Q a)){k g j l b c d e f h}(i:I k g j l b c d e f h):yZ C Q a g j l b c d e f h:=WA.l8 I _ s i
def yR(C:fu)(Q:fy)(b:Jg)(c:KP)(o:Hn)(q r n a k d e f g i l m j:V)(h:Hp):Prop:=bO .lss 3 j m (dX 1 l j h λp=>oP (ez n h) λs=>dX 1 s p h λt=>bO .lss 3 t nZ (mU C Q b c o q r n a k d e f g i l m j h) (bO .lss 3 e nZ (mU C Q b c o q r n a k d p f g i l m j h) (ic C (gh a [e,p]) h λu z=>mU C Q b c o q r n a k d u f g i l m j z))) (oP (ez n h) λv=>dX 1 v d h λw=>bO .neq 3 w e (oP (ez n h) λx=>oP (gD 1 x d) λy=>fm (gK 1 y e h) λB A=>pT C Q b c q r n a bT f g i A) (pT C Q b c q r n a k f g i h))
theorem GK{C Q a b}(I)(s:P13 I (yR C Q a b)){k p q r c d e f g j l m n o h}(i:I k p q r c d e f g j l m n o h):yG C Q a b p q r c d e f g j l m n o h:=WA.l13 I _ s i
def mQ(C:fu)(Q:fy)(n:Jg)(o:KP)(a:Hn)(p q r b c d e f g i j k l:V)(h:Hp):Prop:=oP (eo .add 3 l nO) λm=>a p q r b c d e f g i j k m h
theorem pS{C:fu}{Q:fy}{a:Jg}{b:KP}{c:Hn}{o p q d e f g i j k l m n:V}{h:Hp}(H:mQ C Q a b c o p q d e f g i j k l m n h):mU C Q a b c o p q d e f g i j k l m n h:=by
 rintro ρ rfl rfl rfl rfl rfl rfl rfl rfl rfl rfl rfl rfl rfl;exact WA.of (by kernel_rfl) H
def qw(C:fu)(Q:fy)(i:Jg)(a:KP)(j k l b c d e f:V)(h:Hp):Prop:=oP (eo .add 3 f nO) λg=>a j k l b c d e g h
theorem yl{C:fu}{Q:fy}{a:Jg}{b:KP}{i j k c d e f g:V}{h:Hp}(H:qw C Q a b i j k c d e f g h):pT C Q a b i j k c d e f g h:=by
 rintro ρ rfl rfl rfl rfl rfl rfl rfl rfl;exact WA.of (by kernel_rfl) H
def Cw(C:fu)(Q:fy)(a0:V)(h:Hp):Prop:=ik (m0 30 a0) h λe m=>oP (gg 5 e m) λq=>oP (gg 5 e m) λf=>cP C qe [q] m λr n=>(m.next<=n.next/\((gg 5 e n=some f)/\cP C xZ [f] n λs o=>(n.next<=o.next/\oP (fH 3 e) λg=>oP (ez g o) λi=>oP (fF i) λj=>wU (ig 3 1 8 nZ j j) o λt u p=>oP (fH 3 e) λb=>oP (ez b p) λc=>oP (fF c) λk=>wU (ig 3 1 8 nZ k k) p λd v D=>wU (zC 22 [nS]) D λw x E=>wU (zC 22 [nS]) E λy F a=>((a.get (E.next)=some y/\O.beq y y=true)/\((a.get (D.next)=some w/\O.beq w w=true)/\((a.get (p.next)=some d/\O.beq d d=true)/\((ez b a=some c)/\((a.get (o.next)=some t/\O.beq t t=true)/\((ez g a=some i)/\fm (gK 1 x u a) λH l=>(a.next<=l.next/\((l.get (p.next)=some d/\O.beq d d=true)/\((ez b l=some c)/\fm (gK 1 F v l) λG z=>(l.next<=z.next/\oP (ez x z) λA=>oP (fF A) λB=>yP C Q r s x F B nZ z)))))))))))))
theorem Jj{C}(s:C.start=fR){a0 h Q}(k:C.K qD [a0] h=none)(H:Cw C Q a0 h):cP C qD [a0] h Q:=cP.vd t46 s (by unfold P0;exact Tryd.func46) k H
def t70:List (Nat×List Nat):=[(19,[0,1,2,3])]
def xk(C:fu)(Q:fy)(a b c d:V)(h:Hp):Prop:=∀ρ:gB,ρ 0=a->ρ 1=b->ρ 2=c->ρ 3=d->WA C Tryd.f70 t70 9 [] Q ρ h
def wR(C:fu)(Q:fy)(fS:Ku)(a b c d:V)(h:Hp):Prop:=bO .neq 3 a b (oP (ez c h) λe=>dX 1 e a h λf=>oP (ez c h) λg=>dX 1 g b h λi=>bO .gtr 3 f i (oP (ez d h) λj=>dX 1 j a h λk=>fS k b c d h) (oP (ez d h) λl=>dX 1 l b h λm=>fS a m c d h)) (Q a h)
theorem Eh{C Q}(I)(s:P4 I (wR C Q)){k a b c d h}(i:I k a b c d h):xk C Q a b c d h:=WA.l4 I _ s i
def zR(C:fu)(Q:fy)(a0 a1 a2 a3:V)(h:Hp):Prop:=xk C Q a0 a1 a2 a3 h
theorem Hj{C}(s:C.start=fR){a0 a1 a2 a3 h Q}(k:C.K jw [a0,a1,a2,a3] h=none)(H:zR C Q a0 a1 a2 a3 h):cP C jw [a0,a1,a2,a3] h Q:=cP.vd t70 s (by unfold P0;exact Tryd.func70) k H
def t39:List (Nat×List Nat):=[(43,[1,2,7])]
def xO(C:fu)(Q:fy)(a b c:V)(h:Hp):Prop:=∀ρ:gB,ρ 1=a->ρ 2=b->ρ 7=c->WA C Tryd.f39 t39 21 [] Q ρ h
def xM(C:fu)(Q:fy)(fS:Rj)(d e a:V)(h:Hp):Prop:=bO .lss 3 a d (ic C (gh e [a]) h λb f=>bN b (Q bF f) (oP (eo .add 3 a nO) λc=>fS d e c f)) (Q bT h)
theorem FG{C Q}(I)(s:P3 I (xM C Q)){k a b c h}(i:I k a b c h):xO C Q a b c h:=WA.l3 I _ s i
def A6(C:fu)(Q:fy)(a0 a1 a2:V)(h:Hp):Prop:=xO C Q a1 a2 nZ h
theorem I8{C}(s:C.start=fR){a0 a1 a2 h Q}(k:C.K jF [a0,a1,a2] h=none)(H:A6 C Q a0 a1 a2 h):cP C jF [a0,a1,a2] h Q:=cP.vd t39 s (by unfold P0;exact Tryd.func39) k H
def t61:List (Nat×List Nat):=[(43,[0,7,8,9]),(56522,[0,7,8,9,31])]
def vC(C:fu)(Q:fy)(a b c d:V)(h:Hp):Prop:=∀ρ:gB,ρ 0=a->ρ 7=b->ρ 8=c->ρ 9=d->WA C Tryd.f61 t61 21 [] Q ρ h
def jS(C:fu)(Q:fy)(fS:Ku)(b c d e a:V)(h:Hp):Prop:=∀ρ:gB,ρ 0=b->ρ 7=c->ρ 8=d->ρ 9=e->ρ 31=a->WA C Tryd.f61 t61 28261 [λρ h=>fS (ρ 0) (ρ 7) (ρ 8) (ρ 9) h] Q ρ h
def we(C:fu)(Q:fy)(fS:Ku)(b e f c:V)(h:Hp):Prop:=bO .lss 3 c f (dX 1 e c h λg=>oP (ij b) λl=>oP (fH 0 l) λm=>dG 2 m h λn=>cP C km [g,n] h λo d=>bN o (Q bF d) (oP (ij b) λp=>oP (fH 0 p) λq=>dJ 2 q 6 g 0 d λa=>oP (eo .eql 3 a (V.I 19)) λi=>bP i (jS C Q fS b e f c i d) (oP (eo .eql 3 a (V.I 20)) λj=>bP j (jS C Q fS b e f c j d) (oP (eo .eql 3 a (V.I 22)) λk=>bP k (jS C Q fS b e f c k d) (oP (eo .eql 3 a (V.I 23)) λr=>jS C Q fS b e f c r d))))) (Q bT h)
theorem Dh{C Q}(I)(s:P4 I (we C Q)){k a b c d h}(i:I k a b c d h):vC C Q a b c d h:=WA.l4 I _ s i
def uP(C:fu)(Q:fy)(fS:Ku)(c d e f a:V)(h:Hp):Prop:=bP a (Q bF h) (oP (eo .add 3 f nO) λb=>fS c d e b h)
theorem Co{C:fu}{Q:fy}{fS:Ku}{b c d e a:V}{h:Hp}(H:uP C Q fS b c d e a h):jS C Q fS b c d e a h:=by
 rintro ρ rfl rfl rfl rfl rfl;exact WA.of (by kernel_rfl) H
def yH(C:fu)(Q:fy)(a0 a1:V)(h:Hp):Prop:=oP (fF a1) λa=>vC C Q a0 a1 a nZ h
theorem Gy{C}(s:C.start=fR){a0 a1 h Q}(k:C.K jb [a0,a1] h=none)(H:yH C Q a0 a1 h):cP C jb [a0,a1] h Q:=cP.vd t61 s (by unfold P0;exact Tryd.func61) k H
def t40:List (Nat×List Nat):=[(175,[0,27,28,29])]
def wc(C:fu)(Q:fy)(d a b c:V)(h:Hp):Prop:=∀ρ:gB,ρ 0=d->ρ 27=a->ρ 28=b->ρ 29=c->WA C Tryd.f40 t40 87 [] Q ρ h
def wi(C:fu)(Q:fy)(fS:Ku)(i d e c:V)(h:Hp):Prop:=bO .lss 3 c e (oP (gD 4 d c) λj=>oP (gg 4 j h) λk=>ik (zC 57 [nZ,nZ,nS,nS]) h λf N=>fm (gK 4 f k N) λO g=>dG 2 f g λl=>oP (eo .gtr 3 l (V.I 40)) λm=>oP (oD m (oB (fH 3 f) λn=>oB (ez n g) λo=>oB (fF o) λp=>eo .gtr 3 p (V.I 60))) λa=>oP (fx false a) λq=>oP (gV q (some i)) λr=>oP (fx false a) λs=>oP (gV s (fH 2 f)) λt=>oP (fx false a) λu=>oP (gV u (ez t g)) λv=>oP (fx false a) λw=>oP (gC w (some (jb,[r,v]))) λx=>qB C x g λy L=>oP (oD a (qz .not y)) λb=>oP (fx false b) λz=>oP (gV z (some i)) λA=>oP (fx false b) λB=>oP (gV B (fH 3 f)) λD=>oP (fx false b) λE=>oP (gV E (ez D L)) λF=>oP (fx false b) λG=>oP (gC G (some (jb,[A,F]))) λH=>qB C H L λI M=>oP (oD b (qz .not I)) λJ=>bP J (Q bF M) (oP (eo .add 3 c nO) λK=>fS i d e K M)) (Q bT h)
theorem DI{C Q}(I)(s:P4 I (wi C Q)){k d a b c h}(i:I k d a b c h):wc C Q d a b c h:=WA.l4 I _ s i
def yF(C:fu)(Q:fy)(a0 a1:V)(h:Hp):Prop:=oP (ij a0) λp=>oP (fH 0 p) λd=>dF 4 d h λe=>oP (gD 1 e a1) λf=>oP (gg 1 f h) λg=>ik (zC 60 [nS]) h λc q=>fm (gK 1 c g q) λr a=>dG 0 c a λi=>oP (eo .eql 3 i nZ) λj=>oP (oD j (oB (fH 0 c) λk=>oB (ez k a) λl=>oB (fF l) λm=>eo .gtr 3 m (V.I 30))) λn=>bP n (Q bF a) (dF 0 c a λb=>oP (fF b) λo=>wc C Q a0 b o nZ a)
theorem GD{C}(s:C.start=fR){a0 a1 h Q}(k:C.K me [a0,a1] h=none)(H:yF C Q a0 a1 h):cP C me [a0,a1] h Q:=cP.vd t40 s (by unfold P0;exact Tryd.func40) k H
def t41:List (Nat×List Nat):=[(87,[0,36,37]),(351,[0,4,51,52,53]),(190047,[0,4,5,7,51,52,53,59,60,61])]
def wD(C:fu)(Q:fy)(c a b:V)(h:Hp):Prop:=∀ρ:gB,ρ 0=c->ρ 36=a->ρ 37=b->WA C Tryd.f41 t41 43 [] Q ρ h
def wH(C:fu)(Q:fy)(d e a b c:V)(h:Hp):Prop:=∀ρ:gB,ρ 0=d->ρ 4=e->ρ 51=a->ρ 52=b->ρ 53=c->WA C Tryd.f41 t41 175 [] Q ρ h
def vR(C:fu)(Q:fy)(a:Jg)(i j k l b c d e f g:V)(h:Hp):Prop:=∀ρ:gB,ρ 0=i->ρ 4=j->ρ 5=k->ρ 7=l->ρ 51=b->ρ 52=c->ρ 53=d->ρ 59=e->ρ 60=f->ρ 61=g->WA C Tryd.f41 t41 95023 [λρ h=>a (ρ 0) (ρ 4) (ρ 51) (ρ 52) (ρ 53) h] Q ρ h
def vE(C:fu)(Q:fy)(fS:Rj)(d b a:V)(h:Hp):Prop:=bO .lss 3 a b (dN 5 d h λe=>oP (gD 1 e a) λf=>fm (gK 1 f (V.I (-1)) h) λm l=>oP (eo .add 3 a nO) λg=>fS d b g l) (oP (ij d) λi=>oP (fH 0 i) λj=>dF 3 j h λc=>oP (fF c) λk=>wH C Q d nZ c k nZ h)
theorem DP{C Q}(I)(s:P3 I (vE C Q)){k c a b h}(i:I k c a b h):wD C Q c a b h:=WA.l3 I _ s i
def vL(C:fu)(Q:fy)(j:Jg)(n o b c a:V)(h:Hp):Prop:=bO .lss 3 a c (oP (gD 6 b a) λk=>oP (gg 6 k h) λl=>ik (zC 50 [nS,nZ,nZ,nS,nS,nZ]) h λp r=>fm (gK 6 p l r) λs q=>dF 0 p q λd=>oP (fF d) λm=>vR C Q j n o a bT b c a d m nZ q) (oP (ij n) λe=>oP (fH 0 e) λf=>dG 2 f h λg=>oP (eo .eql 3 o g) λi=>Q i h)
theorem De{C Q}(I)(s:P5 I (vL C Q)){k d e a b c h}(i:I k d e a b c h):wH C Q d e a b c h:=WA.l5 I _ s i
def vZ(C:fu)(Q:fy)(D:Jg)(E:JX)(d x4 F x7 g i j k l b:V)(h:Hp):Prop:=bO .lss 3 b l (dX 1 k b h λa=>oP (ij d) λG=>oP (fH 0 G) λH=>dG 2 H h λI=>cP C km [a,I] h λJ c=>oP (qz .not J) λK=>oP (oD K (oB (some d) λL=>oB (ij L) λM=>oB (fH 5 M) λN=>oB (ez N c) λO=>oB (some a) λP=>oB (gD 1 O P) λR=>oB (ez R c) λS=>eo .geq 3 S nZ)) λT=>bP T (Q bF c) (oP (ij d) λU=>oP (fH 0 U) λW=>dJ 2 W 6 a 0 c λe=>oP (eo .eql 3 e (V.I 21)) λX=>oP (oD X (oB (some e) λY=>eo .eql 3 Y nO)) λf=>oP (jZ f (oB (some x7) λm=>qz .not m)) λn=>oP (oD n (oB (some e) λo=>oB (eo .eql 3 o nO) λp=>oB (some F) λq=>oB (eo .eql 3 q nZ) λr=>oB (eo .neq 4 p r) λs=>oB (some s) λt=>jZ t (some f))) λu=>bP u (Q bF c) (dN 5 d c λv=>dN 6 d c λw=>oP (gD 1 v a) λx=>fm (gK 1 x F c) λvu Z=>(c.next<=Z.next/\oP (gD 1 w a) λy=>fm (gK 1 y b Z) λaa h3=>(Z.next<=h3.next/\oP (eo .add 3 x4 nO) λz=>oP (eo .add 3 b nO) λA=>E d z F f g i j k l A h3))))) (oP (eo .add 3 j nO) λB=>D d x4 g i B h)
theorem CN{C Q a}(I)(s:P10 I (vZ C Q a)){k j l m n b c d e f g h}(i:I k j l m n b c d e f g h):vR C Q a j l m n b c d e f g h:=WA.l10 I _ s i
def yW(C:fu)(Q:fy)(a0:V)(h:Hp):Prop:=oP (ij a0) λl=>oP (fH 0 l) λm=>oP (fH 2 m) λc=>oP (ez c h) λd=>oP (fF d) λe=>wU (ig 3 1 8 nZ e e) h λn o j=>oP (ij a0) λp=>oP (fH 0 p) λq=>oP (fH 2 q) λf=>oP (ez f j) λg=>oP (fF g) λi=>wU (ig 3 1 8 nZ i i) j λa r b=>oP (ij a0) λs=>oP (fH 5 s) λt=>((b.get (j.next)=some a/\O.beq a a=true)/\((ez f b=some g)/\((b.get (h.next)=some n/\O.beq n n=true)/\((ez c b=some d)/\fm (gK 1 t o b) λA k=>(b.next<=k.next/\oP (ij a0) λu=>oP (fH 6 u) λv=>((k.get (j.next)=some a/\O.beq a a=true)/\fm (gK 1 v r k) λz w=>(k.next<=w.next/\oP (ij a0) λx=>dG 5 x w λy=>wD C Q a0 y nZ w)))))))
theorem GB{C}(s:C.start=fR){a0 h Q}(k:C.K nU [a0] h=none)(H:yW C Q a0 h):cP C nU [a0] h Q:=cP.vd t41 s (by unfold P0;exact Tryd.func41) k H
section
variable (C:fu)(Q:X->gB->Hp->Prop)(ρ:gB)(h:Hp)
def Re:=HT Tryd.f42
def zau:=Re.r
def zad:=Re.r.r
def Z4:=Re.r.r.l.r
def zas:=Re.r.r.r
def zdn:=andThen (Wp C 94 zas Q) Q
def ZU:=Re.r.r.l.r.l.r
def ZW:=Re.r.r.r.l.r
def zah:=Re.r.r.r.r
def q66:=andThen (Wp C 94 zah Q) Q
def zap:=Re.r.r.r.l.r.l.r
def zcH(C:fu)(Q:XQ):XQ:=vX 0 Q
def zaz:=Re.r.r.r.r.r
def Z9:=Re.r.r.r.l.r.l.r.l.r
def Xx:=Re.r.r.r.l.r.l.r.r.r
def XM:=Re.r.r.r.l.r.l.r.r.r.l.r
def VH:=Re.r.r.r.l.r.l.r.r.r.r.r
def XO:=Re.r.r.r.l.r.l.r.r.r.r.r.l.r
theorem e42:jc C 94 Re Q ρ h=(oP (some (V.bool false)) λa=>
 Wp C 94 zau Q (fh ρ 4 a) h):=by kernel_rfl
theorem zcg:jc C 94 zau Q ρ h=(oP (some (ρ 0)) λe=>
 oP (ij e) λf=>
 oP (fH 0 f) λg=>
 oP (fH 2 g) λi=>
 oP (ez i h) λa=>
 oP (some (ρ 1)) λb=>
 oP (gD 6 a b) λc=>
 oP (gg 6 c h) λd=>
 ik (some (.cells 46 1 true false [(V.I 0),(V.I 0),(V.I 0),(V.I 0),V.ee,(V.I 0)],λl=> .ptr l 0)) h λj k=>
 fm (gK 6 j d k) λn m=>
 Wp C 94 zad Q (fh (fh (fh (fh (fh (fh (fh (fh (fh ρ 6 e) 7 f) 8 g) 9 i) 10 a) 11 b) 12 c) 13 d) 5 j) m):=by kernel_rfl
theorem zbQ:jc C 94 zad Q ρ h=(oP (fH 0 (ρ 5)) λd=>
 oP (ez d h) λs=>
 ((ez d h=some s)/\
 ((fH 0 (ρ 5)=some d)/\
 XS C Dg [s] h λt D=>
 (h.next<=D.next/\
 oP (eo .eql 9 t (V.str [])) λe=>
 oP (some e) λb=>
 oP (fx false b) λW=>
 oP (gV W (some (ρ 0))) λf=>
 oP (fx false b) λb6=>
 oP (gV b6 (gg 6 (ρ 5) D)) λu=>
 ((gT b6 (gg 6 (ρ 5) D=some u))/\
 ((gT W (some (ρ 0)=some f))/\
 ((some e=some b)/\
 ((eo .eql 9 t (V.str [])=some e)/\
 oP (fx false b) λb7=>
 oP (gC b7 (some (tV,[u]))) λx7=>qB C x7 D λE X=>
 (D.next<=X.next/\
 ((gT W (some (ρ 0)=some f))/\
 oP (fx false b) λb8=>
 oP (gC b8 (some (jb,[f,E]))) λx8=>qB C x8 X λv F=>
 (X.next<=F.next/\
 oP (fx false b) λb9=>
 oP (gV b9 (qz .not v)) λg=>
 oP (iO b (V.bool true) g) λi=>
 oP (some i) λc=>
 oP (fx false c) λG=>
 oP (gV G (fH 0 (ρ 5))) λj=>
 oP (fx false c) λH=>
 oP (gV H (ez j F)) λw=>
 ((gT H (ez j F=some w))/\
 ((gT G (fH 0 (ρ 5)=some j))/\
 ((some i=some c)/\
 ((iO b (V.bool true) g=some i)/\
 ((gT b9 (qz .not v=some g))/\
 oP (fx false c) λY=>
 oP (gC Y (some (oO,[w]))) λZ=>qB C Z F λx y=>
 (F.next<=y.next/\
 oP (fx false c) λI=>
 oP (gV I (some x)) λa=>
 oP (fx true a) λJ=>
 oP (gV J (fH 5 (ρ 5))) λk=>
 oP (fx true a) λK=>
 oP (gV K (ez k y)) λz=>
 oP (fx true a) λL=>
 oP (gV L (some (ρ 0))) λl=>
 oP (fx true a) λM=>
 oP (gV M (ij l)) λm=>
 oP (fx true a) λN=>
 oP (gV N (fH 0 m)) λn=>
 oP (fx true a) λO=>
 oP (gV O (fH 4 n)) λo=>
 oP (fx true a) λP=>
 oP (gV P (ez o y)) λp=>
 oP (fx true a) λR=>
 oP (gV R (fF p)) λA=>
 ((gT R (fF p=some A))/\
 ((gT P (ez o y=some p))/\
 ((gT O (fH 4 n=some o))/\
 ((gT N (fH 0 m=some n))/\
 ((gT M (ij l=some m))/\
 ((gT L (some (ρ 0)=some l))/\
 ((gT K (ez k y=some z))/\
 ((gT J (fH 5 (ρ 5)=some k))/\
 ((gT I (some x=some a))/\
 oP (fx true a) λaa=>
 oP (gC aa (some (km,[z,A]))) λab=>qB C ab y λB h5=>
 (y.next<=h5.next/\
 oP (fx true a) λS=>
 oP (gV S (qz .not B)) λq=>
 oP (fx false c) λT=>
 oP (gV T (iO a q (V.bool false))) λr=>
 oP (iO c (V.bool true) r) λU=>
 ((iO c (V.bool true) r=some U)/\
 ((gT T (iO a q (V.bool false)=some r))/\
 ((gT S (qz .not B=some q))/\
 Wp C 94 Z4 (zdn C Q) (fh (fh (fh (fh (fh (fh (fh (fh (fh (fh (fh (fh (fh (fh (fh (fh (fh (fh (fh (fh (fh (fh (fh (fh (fh (fh (fh (fh ρ 14 d) 15 s) 16 t) 17 e) 18 b) 19 f) 20 u) 21 E) 22 v) 23 g) 24 i) 25 c) 26 j) 27 w) 28 x) 29 a) 30 k) 31 z) 32 l) 33 m) 34 n) 35 o) 36 p) 37 A) 38 B) 39 q) 40 r) 41 U) h5)))))))))))))))))))))))))))))):=by kernel_rfl
theorem zcC:jc C 94 zas Q ρ h=(oP (fH 0 (ρ 5)) λa=>
 oP (ez a h) λb=>
 Wp C 94 ZW (q66 C Q) (fh (fh ρ 42 a) 43 b) h):=by kernel_rfl
theorem zcW:jc C 94 Z4 Q ρ h=(oP (some (ρ 41)) λc=>
 bP c (
 oP (some (V.bool false)) λa=>
 Wp C 94 ZU Q (fh ρ 4 a) h) (
 Q .normal ρ h)):=by kernel_rfl
theorem zdc:jc C 94 zah Q ρ h=(oP (some (V.bool true)) λa=>
 Wp C 94 zaz Q (fh ρ 4 a) h):=by kernel_rfl
theorem zcV:jc C 94 ZW Q ρ h=(oP (eo .eql 3 (ρ 43) (V.I 20)) λa=>
 oP (some a) λb=>
 Wp C 94 zap (zcH C Q) (fh (fh ρ 45 a) 44 b) h):=by kernel_rfl
theorem zcu:jc C 94 zaz Q ρ h=(Q .ret ρ h):=by kernel_rfl
theorem zc0:jc C 94 ZU Q ρ h=(Q .ret ρ h):=by kernel_rfl
theorem zbZ:jc C 94 zap Q ρ h=(oP (some (ρ 44)) λc=>
 bP c (
 oP (fH 4 (ρ 5)) λa=>
 oP (ez a h) λb=>
 oP (fF b) λd=>
 oP (eo .eql 3 d (V.I 1)) λe=>
 oP (some e) λi=>
 Wp C 94 Z9 Q (fh (fh (fh (fh (fh ρ 46 a) 47 b) 48 d) 49 e) 4 i) h) (
 oP (eo .eql 3 (ρ 43) (V.I 21)) λf=>
 oP (some f) λg=>
 Wp C 94 Xx Q (fh (fh ρ 51 f) 50 g) h)):=by kernel_rfl
theorem zb5:jc C 94 Z9 Q ρ h=(Q .ret ρ h):=by kernel_rfl
theorem zaS:jc C 94 Xx Q ρ h=(oP (some (ρ 50)) λc=>
 bP c (
 oP (fH 4 (ρ 5)) λa=>
 oP (ez a h) λb=>
 oP (fF b) λd=>
 oP (some (ρ 0)) λe=>
 oP (ij e) λf=>
 oP (fH 0 f) λg=>
 oP (fH 3 g) λi=>
 oP (ez i h) λj=>
 oP (some (ρ 0)) λk=>
 oP (ij k) λl=>
 oP (fH 5 l) λm=>
 oP (ez m h) λn=>
 oP (some (ρ 1)) λo=>
 oP (gD 1 n o) λp=>
 oP (ez p h) λq=>
 oP (gD 6 j q) λr=>
 oP (fH 4 r) λs=>
 oP (ez s h) λt=>
 oP (fF t) λu=>
 oP (eo .eql 3 d u) λv=>
 oP (some v) λy=>
 ((some v=some y)/\
 ((eo .eql 3 d u=some v)/\
 ((fF t=some u)/\
 ((ez s h=some t)/\
 ((fH 4 r=some s)/\
 ((gD 6 j q=some r)/\
 ((ez p h=some q)/\
 ((gD 1 n o=some p)/\
 ((some (ρ 1)=some o)/\
 ((ez m h=some n)/\
 ((fH 5 l=some m)/\
 ((ij k=some l)/\
 ((some (ρ 0)=some k)/\
 ((ez i h=some j)/\
 ((fH 3 g=some i)/\
 ((fH 0 f=some g)/\
 ((ij e=some f)/\
 ((some (ρ 0)=some e)/\
 ((fF b=some d)/\
 ((ez a h=some b)/\
 ((fH 4 (ρ 5)=some a)/\
 Wp C 94 XM Q (fh (fh (fh (fh (fh (fh (fh (fh (fh (fh (fh (fh (fh (fh (fh (fh (fh (fh (fh (fh (fh ρ 52 a) 53 b) 54 d) 55 e) 56 f) 57 g) 58 i) 59 j) 60 k) 61 l) 62 m) 63 n) 64 o) 65 p) 66 q) 67 r) 68 s) 69 t) 70 u) 71 v) 4 y) h)))))))))))))))))))))) (
 oP (eo .eql 3 (ρ 43) (V.I 1)) λw=>
 oP (some w) λx=>
 Wp C 94 VH Q (fh (fh ρ 73 w) 72 x) h)):=by kernel_rfl
theorem zaI:jc C 94 XM Q ρ h=(Q .ret ρ h):=by kernel_rfl
theorem zbA:jc C 94 VH Q ρ h=(oP (some (ρ 72)) λc=>
 bP c (
 oP (fH 3 (ρ 5)) λd=>
 oP (ez d h) λe=>
 oP (eo .geq 2 e (V.I 0)) λf=>
 oP (some f) λb=>
 oP (fx true b) λH=>
 oP (gV H (fH 3 (ρ 5))) λg=>
 oP (fx true b) λI=>
 oP (gV I (ez g h)) λi=>
 oP (fx true b) λJ=>
 oP (gV J (eo .lss 2 i (V.I 40))) λj=>
 oP (iO b j (V.bool false)) λk=>
 oP (some k) λa=>
 oP (fx true a) λK=>
 oP (gV K (some (ρ 0))) λl=>
 oP (fx true a) λw=>
 oP (gV w (ij l)) λm=>
 oP (fx true a) λx=>
 oP (gV x (fH 0 m)) λn=>
 oP (fx true a) λy=>
 oP (gV y (fH 2 n)) λo=>
 oP (fx true a) λz=>
 oP (gV z (ez o h)) λp=>
 oP (fx true a) λA=>
 oP (gV A (some (ρ 1))) λq=>
 oP (fx true a) λB=>
 oP (gV B (jh 6 p none (some q) h)) λr=>
 oP (fx true a) λD=>
 oP (gV D (some (V.func jE [] [(ρ 5)]))) λs=>
 oP (fx true a) λE=>
 oP (gC E (some (hV,[r,s]))) λF=>qB C F h λt L=>
 oP (fx true a) λG=>
 oP (gV G (qz .not t)) λu=>
 oP (iO a u (V.bool false)) λv=>
 oP (some v) λM=>
 Wp C 94 XO Q (fh (fh (fh (fh (fh (fh (fh (fh (fh (fh (fh (fh (fh (fh (fh (fh (fh (fh (fh (fh (fh ρ 74 d) 75 e) 76 f) 77 b) 78 g) 79 i) 80 j) 81 k) 82 a) 83 l) 84 m) 85 n) 86 o) 87 p) 88 q) 89 r) 90 s) 91 t) 92 u) 93 v) 4 M) L) (
 Q .normal ρ h)):=by kernel_rfl
theorem zbc:jc C 94 XO Q ρ h=(Q .ret ρ h):=by kernel_rfl
theorem g42{C:fu}(hs:C.start=fR)(a0 a1:V){h:Hp}{Q:fy}(a:C.K j9 [a0,a1] h=none)(H:jc C 94 Re (EJ [.tmp 4] Q) (IV [a0,a1]) h):cP C j9 [a0,a1] h Q:=
 cP.T6 hs (show P0.funcs[42]? =some Tryd.f42 by unfold P0;exact Tryd.func42) (by kernel_rfl) (by kernel_rfl) (by kernel_rfl) a (Iu rfl) (Wp.code _ H)
def vT(C:fu)(Q:fy)(a0 a1:V)(h:Hp):Prop:=oP (ij a0) λv7=>oP (fH 0 v7) λv8=>dF 2 v8 h λs=>oP (gD 6 s a1) λt=>oP (gg 6 t h) λu=>ik (zC 46 [nZ,nZ,nZ,nZ,nS,nZ]) h λd h1=>fm (gK 6 d u h1) λvu v=>dF 0 d v λw=>cP C Dg [w] v λx q=>(v.next<=q.next/\oP (eo .eql 9 x (V.str [])) λe=>oP (fx false e) λb5=>oP (gV b5 (some a0)) λy=>oP (fx false e) λb6=>oP (gV b6 (gg 6 d q)) λz=>oP (fx false e) λb7=>oP (gC b7 (some (tV,[z]))) λy7=>qB C y7 q λA B=>(q.next<=B.next/\oP (fx false e) λb8=>oP (gC b8 (some (jb,[y,A]))) λy8=>qB C y8 B λD r=>(B.next<=r.next/\oP (oD e (qz .not D)) λf=>oP (fx false f) λE=>oP (gV E (fH 0 d)) λF=>oP (fx false f) λG=>oP (gV G (ez F r)) λH=>oP (fx false f) λI=>oP (gC I (some (oO,[H]))) λJ=>qB C J r λK o=>(r.next<=o.next/\oP (fx false f) λL=>oP (gV L (some K)) λa=>oP (fx true a) λM=>oP (gV M (fH 5 d)) λN=>oP (fx true a) λO=>oP (gV O (ez N o)) λP=>oP (fx true a) λR=>oP (gV R (some a0)) λS=>oP (fx true a) λT=>oP (gV T (ij S)) λU=>oP (fx true a) λW=>oP (gV W (fH 0 U)) λX=>oP (fx true a) λY=>oP (gV Y (fH 4 X)) λZ=>oP (fx true a) λaa=>oP (gV aa (ez Z o)) λab=>oP (fx true a) λac=>oP (gV ac (fF ab)) λae=>oP (fx true a) λag=>oP (gC ag (some (km,[P,ae]))) λah=>qB C ah o λai c=>(o.next<=c.next/\oP (fx true a) λaj=>oP (gV aj (qz .not ai)) λak=>oP (oD f (iO a ak bF)) λal=>bP al (Q bF c) (dF 0 d c λg=>bO .eql 3 g (V.I 20) (dG 4 d c λam=>oP (eo .eql 3 am nO) λan=>Q an c) (bO .eql 3 g (V.I 21) (dG 4 d c λao=>oP (ij a0) λap=>oP (fH 0 ap) λaq=>dF 3 aq c λar=>dN 5 a0 c λau=>dX 1 au a1 c λaw=>oP (gD 6 ar aw) λax=>dG 4 ax c λay=>oP (eo .eql 3 ao ay) λaA=>Q aA c) (bO .eql 3 g nO (dF 3 d c λaB=>oP (eo .geq 2 aB nZ) λaC=>oP (jZ aC (oB (fH 3 d) λaD=>oB (ez aD c) λaE=>eo .lss 2 aE (V.I 40))) λb=>oP (fx true b) λp=>oP (gV p (some a0)) λaF=>oP (fx true b) λaG=>oP (gV aG (ij aF)) λaH=>oP (fx true b) λaI=>oP (gV aI (fH 0 aH)) λaJ=>oP (fx true b) λi=>oP (gV i (fH 2 aJ)) λaK=>oP (fx true b) λj=>oP (gV j (ez aK c)) λaL=>oP (fx true b) λk=>oP (gV k (some a1)) λaM=>oP (fx true b) λl=>oP (gV l (jh 6 aL none (some aM) c)) λaN=>oP (fx true b) λm=>oP (gV m (some (V.func jE [] [d]))) λaO=>oP (fx true b) λn=>oP (gC n (some (hV,[aN,aO]))) λaP=>qB C aP c λaQ h8=>oP (jZ b (qz .not aQ)) λaR=>Q aR h8) (Q bT c)))))))))
theorem IZ{C:fu}(hs:C.start=fR){a0 a1:V}{h:Hp}{Q:fy}(hk:C.K j9 [a0,a1] h=none)(H:vT C Q a0 a1 h):cP C j9 [a0,a1] h Q:=by
 unfold vT at H;exact g42 hs _ _ hk ((e42 _ _ _ _).mpr (rE (Wp.of (zcg _ _ _ _) (rE (oM H λv7 _ H=>oM H λv8 _ H=>oM H λv9 _ H=>oM H λaq _ H=>rE (oM H λar _ H=>oM H λau _ H=>alM H λv5 h1 H=>Wc H λvu h2 H=>Wp.of (zbQ _ _ _ _) (oM H λaw b H=>oM H λax c H=>⟨c,⟨b,YS H λay h3 H=>Nh H λH=>oM H λaA d H=>rE (oM H λb5 _ H=>oM H λaB a H=>oM H λb6 _ H=>oM H λaC e H=>⟨(gz e),⟨(gz a),⟨rfl,⟨d,oM H λb7 _ H=>oM H λy7 _ H=>Tf H λaD h4 H=>Nh H λH=>⟨(gz a),oM H λb8 _ H=>oM H λy8 _ H=>Tf H λaE h5 H=>Nh H λH=>X3 (IQ H) λH=>oM H λb9 Z H=>oM H λaF f H=>oM H λaG g H=>rE (oM H λaH _ H=>oM H λaI i H=>oM H λaJ _ H=>oM H λaK j H=>⟨(gz j),⟨(gz i),⟨rfl,⟨g,⟨(gz f),oM H λaL _ H=>oM H λaM _ H=>Tf H λaN h6 H=>Nh H λH=>oM H λaO _ H=>oM H λaP k H=>oM H λaQ _ H=>oM H λaR l H=>oM H λaS _ H=>oM H λaT m H=>oM H λaU _ H=>oM H λaV n H=>oM H λaW _ H=>oM H λaX o H=>oM H λaY _ H=>oM H λaZ p H=>oM H λa5 _ H=>oM H λa6 q H=>oM H λa7 _ H=>oM H λa8 r H=>oM H λa9 _ H=>oM H λba s H=>⟨(gz s),⟨(gz r),⟨(gz q),⟨(gz p),⟨(gz o),⟨(gz n),⟨(gz m),⟨(gz l),⟨(gz k),oM H λbb _ H=>oM H λbc _ H=>Tf H λbd h7 H=>Nh H λH=>oM H λbe _ H=>oM H λbf t H=>X3 (IQ H) λH=>oM H λbg aa H=>oM H λbh u H=>oM H λbi v H=>⟨v,⟨(gz u),⟨(gz t),Wp.of (zcW _ _ _ _) (rE (bM H (λH=>rE (Wp.of (zc0 _ _ _ _) (H))) (λH=>Wp.of (zcC _ _ _ _) (oM H λbj _ H=>oM H λbm _ H=>Wp.of (zcV _ _ _ _) (oM H λbo _ H=>rE (Wp.of (zbZ _ _ _ _) (rE (bM H (λH=>oM H λbq _ H=>oM H λbr _ H=>oM H λbt _ H=>oM H λbu _ H=>rE (Wp.of (zb5 _ _ _ _) (H))) (λH=>oM H λbw _ H=>rE (Wp.of (zaS _ _ _ _) (rE (bM H (λH=>oM H λbx w H=>oM H λbz x H=>oM H λbA y H=>rE (oM H λbC z H=>oM H λbD A H=>oM H λbE B H=>oM H λbG D H=>rE (oM H λbH E H=>oM H λbI F H=>oM H λbJ G H=>rE (oM H λbK I H=>oM H λbL J H=>oM H λbQ L H=>oM H λbR M H=>oM H λbS N H=>oM H λbU O H=>oM H λbV P H=>rE (⟨rfl,⟨P,⟨O,⟨N,⟨M,⟨L,⟨J,⟨I,⟨rfl,⟨G,⟨F,⟨E,⟨rfl,⟨D,⟨B,⟨A,⟨z,⟨rfl,⟨y,⟨x,⟨w,Wp.of (zaI _ _ _ _) (H)⟩⟩⟩⟩⟩⟩⟩⟩⟩⟩⟩⟩⟩⟩⟩⟩⟩⟩⟩⟩⟩))))) (λH=>oM H λbW _ H=>rE (Wp.of (zbA _ _ _ _) (rE (bM H (λH=>oM H λbX _ H=>oM H λbY _ H=>oM H λbZ _ H=>rE (X3 (FE H) λH=>sG1 H λb4 ab ca ac H=>sG1 H λae ag cb ah H=>oM H λai aj H=>oM H λcd ak H=>oM H λce al H=>rE (oM H λam _ H=>oM H λcf _ H=>oM H λcg _ H=>oM H λci _ H=>oM H λcj _ H=>oM H λcl _ H=>oM H λR _ H=>oM H λcm _ H=>oM H λS _ H=>oM H λcn _ H=>oM H λT _ H=>oM H λco _ H=>oM H λU _ H=>oM H λcp _ H=>oM H λW _ H=>oM H λcq _ H=>oM H λX _ H=>oM H λcr _ H=>Tf H λct h8 H=>X3 (FE H) λH=>oM H λY an H=>oM H λcu ao H=>oM H λcv ap H=>rE (Wp.of (zbc _ _ _ _) (H))))) (λH=>Wp.of (zdc _ _ _ _) (rE (Wp.of (zcu _ _ _ _) (H))))))))))))))))))))⟩⟩⟩⟩⟩⟩⟩⟩⟩⟩⟩⟩⟩⟩⟩⟩⟩)⟩⟩⟩⟩⟩)⟩⟩)))))))
end
def t43:List (Nat×List Nat):=[(87,[0,5,17,18,19])]
def wL(C:fu)(Q:fy)(d e a b c:V)(h:Hp):Prop:=∀ρ:gB,ρ 0=d->ρ 5=e->ρ 17=a->ρ 18=b->ρ 19=c->WA C Tryd.f43 t43 43 [] Q ρ h
def wO(C:fu)(Q:fy)(fS:Jg)(n c f g d:V)(h:Hp):Prop:=bO .lss 3 d g (dX 1 f d h λo=>oP (ij n) λp=>oP (fH 0 p) λq=>dG 3 q h λs=>cP C km [o,s] h λt X=>bN t (Q bF X) (oP (eo .add 3 d nO) λu=>fS n c f g u X)) (dF 1 c h λe=>bO .eql 3 e nO (dG 3 c h λv=>oP (eo .eql 3 v nO) λw=>Q w h) (bO .eql 3 e (V.I 2) (dG 3 c h λx=>oP (eo .eql 3 x (V.I 2)) λb=>oP (fx true b) λZ=>oP (gV Z (some n)) λy=>oP (fx true b) λb6=>oP (gV b6 (fH 2 c)) λz=>oP (fx true b) λb7=>oP (gV b7 (ez z h)) λA=>oP (fx true b) λb8=>ghP b8 h (oB (jt 3 1 1 nZ [(0,A)]) λr=>some (r.2 h.next,h.new r.1)) λB h2=>oP (fx true b) λb9=>oP (gC b9 (some (jb,[y,B]))) λy9=>qB C y9 h2 λD h3=>oP (iO b D bF) λE=>Q E h3) (bO .eql 3 e (V.I 3) (dG 3 c h λF=>oP (eo .eql 3 F nZ) λa=>oP (fx true a) λi=>oP (gV i (fH 5 c)) λG=>oP (fx true a) λj=>oP (gV j (ez G h)) λH=>oP (fx true a) λk=>oP (gV k (some n)) λI=>oP (fx true a) λl=>oP (gV l (ij I)) λJ=>oP (fx true a) λm=>oP (gV m (fH 0 J)) λK=>oP (fx true a) λL=>oP (gV L (fH 4 K)) λM=>oP (fx true a) λN=>oP (gV N (ez M h)) λO=>oP (fx true a) λP=>oP (gV P (fF O)) λR=>oP (fx true a) λS=>oP (gC S (some (km,[H,R]))) λT=>qB C T h λU Y=>(h.next<=Y.next/\oP (iO a U bF) λW=>Q W Y)) (Q bF h))))
theorem Es{C Q}(I)(s:P5 I (wO C Q)){k d e a b c h}(i:I k d e a b c h):wL C Q d e a b c h:=WA.l5 I _ s i
def zM(C:fu)(Q:fy)(a0 a1:V)(h:Hp):Prop:=oP (ij a0) λj=>oP (fH 0 j) λb=>dF 3 b h λc=>oP (gD 6 c a1) λd=>oP (gg 6 d h) λe=>ik (zC 50 [nS,nZ,nZ,nS,nS,nZ]) h λf k=>fm (gK 6 f e k) λl i=>dF 3 f i λa=>oP (fF a) λg=>wL C Q a0 f a g nZ i
theorem HV{C}(s:C.start=fR){a0 a1 h Q}(k:C.K mB [a0,a1] h=none)(H:zM C Q a0 a1 h):cP C mB [a0,a1] h Q:=cP.vd t43 s (by unfold P0;exact Tryd.func43) k H
def t44:List (Nat×List Nat):=[(171,[0,1,16,17,18]),(14,[0,1]),(175,[0,7,54,55,56])]
def yi(C:fu)(Q:fy)(d e a b c:V)(h:Hp):Prop:=∀ρ:gB,ρ 0=d->ρ 1=e->ρ 16=a->ρ 17=b->ρ 18=c->WA C Tryd.f44 t44 85 [] Q ρ h
def mZ(C:fu)(Q:fy)(a b:V)(h:Hp):Prop:=∀ρ:gB,ρ 0=a->ρ 1=b->WA C Tryd.f44 t44 7 [] Q ρ h
def yf(C:fu)(Q:fy)(d e a b c:V)(h:Hp):Prop:=∀ρ:gB,ρ 0=d->ρ 7=e->ρ 54=a->ρ 55=b->ρ 56=c->WA C Tryd.f44 t44 87 [] Q ρ h
def xN(C:fu)(Q:fy)(fS:Jg)(e s b c a:V)(h:Hp):Prop:=bO .lss 3 a c (dX 1 b a h λd=>oP (ij e) λf=>oP (fH 0 f) λg=>dJ 3 g 6 a 4 h λi=>cP C mh [d,i] h λj t=>oP (qz .not j) λk=>oP (oD k (oB (some a) λl=>oB (eo .eql 3 l nZ) λm=>oB (some m) λn=>jZ n (oB (some d) λo=>oB (fF o) λp=>eo .gtr 3 p nZ))) λq=>bP q (Q bF t) (oP (eo .add 3 a nO) λr=>fS e s b c r t)) (mZ C Q e s h)
theorem Ez{C Q}(I)(s:P5 I (xN C Q)){k d e a b c h}(i:I k d e a b c h):yi C Q d e a b c h:=WA.l5 I _ s i
def yn(C:fu)(Q:fy)(j l:V)(h:Hp):Prop:=oP (ij j) λb=>oP (fH 0 b) λc=>dF 3 c h λd=>oP (gD 6 d l) λe=>oP (gg 6 e h) λf=>ik (zC 50 [nS,nZ,nZ,nS,nS,nZ]) h λg m=>fm (gK 6 g f m) λn k=>dF 3 g k λa=>oP (fF a) λi=>yf C Q j g a i nZ k
theorem Fy{C:fu}{Q:fy}{a b:V}{h:Hp}(H:yn C Q a b h):mZ C Q a b h:=by
 rintro ρ rfl rfl;exact WA.of (by kernel_rfl) H
def yd(C:fu)(Q:fy)(d:Jg)(u v b c a:V)(h:Hp):Prop:=bO .lss 3 a c (dX 1 b a h λe=>dF 1 v h λf=>oP (eo .eql 3 f (V.I 2)) λg=>oP (jZ g (oB (some u) λi=>oB (ij i) λj=>oB (fH 0 j) λk=>oB (fH 3 k) λl=>oB (ez l h) λm=>oB (some e) λn=>oB (gD 6 m n) λo=>oB (fH 4 o) λp=>oB (ez p h) λq=>oB (fF q) λr=>eo .neq 3 r nO)) λs=>bP s (Q bF h) (oP (eo .add 3 a nO) λt=>d u v b c t h)) (Q bT h)
theorem ES{C Q}(I)(s:P5 I (yd C Q)){k d e a b c h}(i:I k d e a b c h):yf C Q d e a b c h:=WA.l5 I _ s i
def Bb(C:fu)(Q:fy)(a0 a1:V)(h:Hp):Prop:=bO .eql 3 a1 nZ (oP (ij a0) λb=>oP (fH 0 b) λc=>oP (gg 5 c h) λd=>cP C xZ [d] h λa f=>oP (fF a) λe=>yi C Q a0 a1 a e nZ f) (mZ C Q a0 a1 h)
theorem IG{C}(s:C.start=fR){a0 a1 h Q}(k:C.K mY [a0,a1] h=none)(H:Bb C Q a0 a1 h):cP C mY [a0,a1] h Q:=cP.vd t44 s (by unfold P0;exact Tryd.func44) k H
def t45:List (Nat×List Nat):=[]
def yL(C:fu)(Q:fy)(a0:V)(h:Hp):Prop:=oP (ij a0) λa=>oP (fH 0 a) λb=>oP (gg 5 b h) λc=>cP C qe [c] h λd e=>Q d e
theorem GJ{C}(s:C.start=fR){a0 h Q}(k:C.K sH [a0] h=none)(H:yL C Q a0 h):cP C sH [a0] h Q:=cP.vd t45 s (by unfold P0;exact Tryd.func45) k H
def t81:List (Nat×List Nat):=[(19,[0,1,2])]
def qn(C:fu)(Q:fy)(a b c:V)(h:Hp):Prop:=∀ρ:gB,ρ 0=a->ρ 1=b->ρ 2=c->WA C Tryd.f81 t81 9 [] Q ρ h
def pV(C:fu)(Q:fy)(fS:Rj)(d e a:V)(h:Hp):Prop:=bO .geq 3 a nZ (bO .eql 3 e a (Q bT h) (dN 7 d h λb=>dX 1 b a h λc=>fS d e c h)) (Q bF h)
theorem zQ{C Q}(I)(s:P3 I (pV C Q)){k a b c h}(i:I k a b c h):qn C Q a b c h:=WA.l3 I _ s i
def uN(C:fu)(Q:fy)(a0 a1 a2:V)(h:Hp):Prop:=qn C Q a0 a1 a2 h
theorem Cm{C}(s:C.start=fR){a0 a1 a2 h Q}(k:C.K lI [a0,a1,a2] h=none)(H:uN C Q a0 a1 a2 h):cP C lI [a0,a1,a2] h Q:=cP.vd t81 s (by unfold P0;exact Tryd.func81) k H
def t71:List (Nat×List Nat):=[(43,[0,2,3,11,12,13])]
def wZ(C:fu)(Q:fy)(d e f a b c:V)(h:Hp):Prop:=∀ρ:gB,ρ 0=d->ρ 2=e->ρ 3=f->ρ 11=a->ρ 12=b->ρ 13=c->WA C Tryd.f71 t71 21 [] Q ρ h
def wQ(C:fu)(Q:fy)(fS:Pd)(d g S e f b:V)(h:Hp):Prop:=bO .lss 3 b f (dX 1 e b h λc=>dN 5 d h λi=>dX 1 i c h λj=>oP (eo .eql 3 j g) λk=>oP (jZ k (oB (some d) λl=>oB (ij l) λm=>oB (fH 6 m) λn=>oB (ez n h) λo=>oB (some c) λp=>oB (gD 1 o p) λq=>oB (ez q h) λr=>oB (some S) λs=>eo .geq 3 r s)) λa=>oP (fx false a) λt=>oP (gV t (some d)) λu=>oP (fx false a) λv=>oP (gV v (some d)) λw=>oP (fx false a) λx=>oP (gV x (ij w)) λy=>oP (fx false a) λz=>oP (gV z (fH 5 y)) λA=>oP (fx false a) λB=>oP (gV B (ez A h)) λD=>oP (fx false a) λE=>oP (gV E (some c)) λF=>oP (fx false a) λG=>oP (gV G (gD 1 D F)) λH=>oP (fx false a) λI=>oP (gV I (ez H h)) λJ=>oP (fx false a) λK=>oP (gV K (some g)) λL=>oP (fx false a) λM=>oP (gC M (some (lI,[u,J,L]))) λN=>qB C N h λO T=>oP (oD a (qz .not O)) λP=>bP P (Q bF T) (oP (eo .add 3 b nO) λR=>fS d g S e f R T)) (Q bT h)
theorem Ed{C Q}(I)(s:P6 I (wQ C Q)){k d e f a b c h}(i:I k d e f a b c h):wZ C Q d e f a b c h:=WA.l6 I _ s i
def zX(C:fu)(Q:fy)(a0 a1 a2 a3:V)(h:Hp):Prop:=oP (fF a1) λa=>wZ C Q a0 a2 a3 a1 a nZ h
theorem Hh{C}(s:C.start=fR){a0 a1 a2 a3 h Q}(k:C.K jn [a0,a1,a2,a3] h=none)(H:zX C Q a0 a1 a2 a3 h):cP C jn [a0,a1,a2,a3] h Q:=cP.vd t71 s (by unfold P0;exact Tryd.func71) k H
def t72:List (Nat×List Nat):=[(43,[0,2,3,19,20,21])]
def qj(C:fu)(Q:fy)(d e f a b c:V)(h:Hp):Prop:=∀ρ:gB,ρ 0=d->ρ 2=e->ρ 3=f->ρ 19=a->ρ 20=b->ρ 21=c->WA C Tryd.f72 t72 21 [] Q ρ h
def qt(C:fu)(Q:fy)(fS:Pd)(f g i d e b:V)(h:Hp):Prop:=bO .lss 3 b e (oP (gD 4 d b) λj=>oP (gg 4 j h) λk=>ik (zC 57 [nZ,nZ,nS,nS]) h λc E=>fm (gK 4 c k E) λH A=>dF 2 c A λl=>cP C jn [f,l,g,i] A λm B=>oP (qz .not m) λa=>oP (fx false a) λF=>oP (gV F (some f)) λn=>oP (fx false a) λG=>oP (gV G (fH 3 c)) λo=>oP (fx false a) λp=>oP (gV p (ez o B)) λq=>oP (fx false a) λr=>oP (gV r (some g)) λs=>oP (fx false a) λt=>oP (gV t (some i)) λu=>oP (fx false a) λv=>oP (gC v (some (jn,[n,q,s,u]))) λw=>qB C w B λx D=>oP (oD a (qz .not x)) λy=>bP y (Q bF D) (oP (eo .add 3 b nO) λz=>fS f g i d e z D)) (Q bT h)
theorem Ac{C Q}(I)(s:P6 I (qt C Q)){k d e f a b c h}(i:I k d e f a b c h):qj C Q d e f a b c h:=WA.l6 I _ s i
def ue(C:fu)(Q:fy)(a0 a1 a2 a3:V)(h:Hp):Prop:=oP (ij a0) λb=>oP (fH 0 b) λc=>dJ 4 c 1 a1 0 h λa=>oP (fF a) λd=>qj C Q a0 a2 a3 a d nZ h
theorem Ci{C}(s:C.start=fR){a0 a1 a2 a3 h Q}(k:C.K jl [a0,a1,a2,a3] h=none)(H:ue C Q a0 a1 a2 a3 h):cP C jl [a0,a1,a2,a3] h Q:=cP.vd t72 s (by unfold P0;exact Tryd.func72) k H
def t47:List (Nat×List Nat):=[(175,[0,1,5,6,24,25,26]),(1356591,[0,1,5,6,24,25,26,43,44,45]),(3886,[0,1,5,6,24,25,26])]
def vy(C:fu)(Q:fy)(d e f g a b c:V)(h:Hp):Prop:=∀ρ:gB,ρ 0=d->ρ 1=e->ρ 5=f->ρ 6=g->ρ 24=a->ρ 25=b->ρ 26=c->WA C Tryd.f47 t47 87 [] Q ρ h
def wk(C:fu)(Q:fy)(fS:Pk)(g i j k a b c d e f:V)(h:Hp):Prop:=∀ρ:gB,ρ 0=g->ρ 1=i->ρ 5=j->ρ 6=k->ρ 24=a->ρ 25=b->ρ 26=c->ρ 43=d->ρ 44=e->ρ 45=f->WA C Tryd.f47 t47 678295 [λρ h=>fS (ρ 0) (ρ 1) (ρ 5) (ρ 6) (ρ 24) (ρ 25) (ρ 26) h] Q ρ h
def ot(C:fu)(Q:fy)(fS:Pk)(d e f g a b c:V)(h:Hp):Prop:=∀ρ:gB,ρ 0=d->ρ 1=e->ρ 5=f->ρ 6=g->ρ 24=a->ρ 25=b->ρ 26=c->WA C Tryd.f47 t47 1943 [λρ h=>fS (ρ 0) (ρ 1) (ρ 5) (ρ 6) (ρ 24) (ρ 25) (ρ 26) h] Q ρ h
def wu(C:fu)(Q:fy)(fS:Pk)(d g j s e f b:V)(h:Hp):Prop:=bO .lss 3 b f (dX 1 e b h λt=>oP (ij d) λu=>oP (fH 0 u) λv=>dF 2 v h λw=>oP (gD 6 w t) λx=>oP (gg 6 x h) λy=>ik (zC 46 [nZ,nZ,nZ,nZ,nS,nZ]) h λi h1=>fm (gK 6 i y h1) λvu k=>dF 0 i k λz=>bO .eql 3 z (V.I 21) (dF 4 i k λl=>oP (fF l) λA=>wk C Q fS d g j s e f b l A nZ k) (oP (gg 6 i k) λB=>cP C tV [B] k λD h3=>cP C jn [d,D,g,b] h3 λE h4=>oP (qz .not E) λc=>oP (fx false c) λb8=>oP (gV b8 (fH 0 i)) λF=>oP (fx false c) λb9=>oP (gV b9 (ez F h4)) λG=>oP (fx false c) λH=>oP (gC H (some (oO,[G]))) λI=>qB C I h4 λJ h5=>oP (fx false c) λK=>oP (gV K (some J)) λa=>oP (fx true a) λL=>oP (gV L (some d)) λM=>oP (fx true a) λN=>oP (gV N (fH 5 i)) λO=>oP (fx true a) λP=>oP (gV P (ez O h5)) λR=>oP (fx true a) λS=>oP (gV S (some g)) λT=>oP (fx true a) λU=>oP (gV U (some b)) λW=>oP (fx true a) λX=>oP (gC X (some (jl,[M,R,T,W]))) λY=>qB C Y h5 λZ h6=>oP (fx true a) λaa=>oP (gV aa (qz .not Z)) λab=>oP (oD c (iO a ab bF)) λac=>bP ac (Q bF h6) (ot C Q fS d g j s e f b h6))) (dF 1 j h λm=>bO .eql 3 m (V.I 2) (dF 2 j h λn=>ik (jt 3 1 1 nZ [(0,n)]) h λo h7=>cP C jn [d,o,g,s] h7 λp h8=>Q p h8) (bO .eql 3 m (V.I 3) (dF 5 j h λq=>cP C jl [d,q,g,s] h λr h9=>Q r h9) (Q bT h)))
theorem Dp{C Q}(I)(s:P7 I (wu C Q)){k d e f g a b c h}(i:I k d e f g a b c h):vy C Q d e f g a b c h:=WA.l7 I _ s i
def vS(C:fu)(Q:fy)(fS:Pk)(k:JX)(i y j z c d e f g a:V)(h:Hp):Prop:=bO .lss 3 a g (dX 1 f a h λl=>wU (jt 3 1 1 nZ [(0,l)]) h λm n b=>dY 4 j 1 a b λo=>oP (ij i) λp=>oP (fH 0 p) λq=>dF 3 q b λr=>dY 4 j 1 a b λs=>oP (gD 6 r s) λt=>dG 0 t b λu=>((b.get (h.next)=some m/\O.beq m m=true)/\cP C jn [i,n,o,u] b λv w=>(b.next<=w.next/\bN v (Q bF w) (oP (eo .add 3 a nO) λx=>k i y j z c d e f g x w)))) (ot C Q fS i y j z c d e h)
theorem DR{C Q fS}(I)(s:P10 I (vS C Q fS)){k g j l m a b c d e f h}(i:I k g j l m a b c d e f h):wk C Q fS g j l m a b c d e f h:=WA.l10 I _ s i
def om(C:fu)(Q:fy)(fS:Pk)(e f g i a b c:V)(h:Hp):Prop:=oP (eo .add 3 c nO) λd=>fS e f g i a b d h
theorem uo{C:fu}{Q:fy}{fS:Pk}{d e f g a b c:V}{h:Hp}(H:om C Q fS d e f g a b c h):ot C Q fS d e f g a b c h:=by
 rintro ρ rfl rfl rfl rfl rfl rfl rfl;exact WA.of (by kernel_rfl) H
def yO(C:fu)(Q:fy)(a0 a1:V)(h:Hp):Prop:=oP (ij a0) λc=>oP (fH 0 c) λd=>dF 3 d h λe=>oP (gD 6 e a1) λf=>oP (gg 6 f h) λg=>ik (zC 50 [nS,nZ,nZ,nS,nS,nZ]) h λb l=>fm (gK 6 b g l) λm i=>dG 0 b i λj=>dF 0 b i λa=>oP (fF a) λk=>vy C Q a0 a1 b j a k nZ i
theorem GH{C}(s:C.start=fR){a0 a1 h Q}(k:C.K mc [a0,a1] h=none)(H:yO C Q a0 a1 h):cP C mc [a0,a1] h Q:=cP.vd t47 s (by unfold P0;exact Tryd.func47) k H
def t12:List (Nat×List Nat):=[]
def Kf(C:fu)(Q:fy)(a0:V)(h:Hp):Prop:=ik (m0 30 a0) h λe f=>dG 2 e f λv7=>oP (eo .gtr 3 v7 (V.I 3000)) λv8=>oP (oD v8 (oB (fH 3 e) λp=>oB (ez p f) λq=>oB (fF q) λr=>eo .gtr 3 r (V.I 300))) λs=>oP (oD s (oB (fH 4 e) λt=>oB (ez t f) λu=>oB (fF u) λv=>eo .gtr 3 v (V.I 1000))) λw=>oP (oD w (oB (fH 3 e) λx=>oB (ez x f) λy=>oB (fF y) λz=>eo .eql 3 z nZ)) λA=>bP A (Q bF f) (oP (gg 5 e f) λB=>oP (fV [nZ,nZ,nS,nS,nS,nS,nS,nS] [(0,5),(5,1),(6,1),(7,1)] [(0,B)]) λD=>ik (m0 90 D) f λa h2=>dG 4 e h2 λE=>cP C jF [a,E,(V.func me [a] [])] h2 λF h3=>oP (qz .not F) λg=>oP (fx false g) λb9=>oP (gV b9 (some a)) λG=>oP (fx false g) λH=>oP (gC H (some (nU,[G]))) λI=>qB C I h3 λJ h4=>oP (oD g (qz .not J)) λb=>oP (fx false b) λi=>oP (gV i (some a)) λK=>oP (fx false b) λL=>oP (gV L (fH 2 e)) λM=>oP (fx false b) λN=>oP (gV N (ez M h4)) λO=>oP (fx false b) λj=>oP (gV j (fF O)) λP=>oP (fx false b) λk=>oP (gV k (some a)) λR=>oP (fx false b) λl=>oP (gV l (some (V.func j9 [R] []))) λS=>oP (fx false b) λm=>oP (gC m (some (jF,[K,P,S]))) λT=>qB C T h4 λU h5=>oP (oD b (qz .not U)) λc=>oP (fx false c) λW=>oP (gV W (some a)) λX=>oP (fx false c) λY=>oP (gV Y (fH 3 e)) λZ=>oP (fx false c) λaa=>oP (gV aa (ez Z h5)) λab=>oP (fx false c) λac=>oP (gV ac (fF ab)) λae=>oP (fx false c) λag=>oP (gV ag (some a)) λah=>oP (fx false c) λai=>oP (gV ai (some (V.func mB [ah] []))) λaj=>oP (fx false c) λak=>oP (gC ak (some (jF,[X,ae,aj]))) λal=>qB C al h5 λam h6=>oP (oD c (qz .not am)) λd=>oP (fx false d) λan=>oP (gV an (some a)) λao=>oP (fx false d) λap=>oP (gV ap (fH 3 e)) λaq=>oP (fx false d) λar=>oP (gV ar (ez aq h6)) λau=>oP (fx false d) λaw=>oP (gV aw (fF au)) λax=>oP (fx false d) λay=>oP (gV ay (some a)) λaA=>oP (fx false d) λaB=>oP (gV aB (some (V.func mY [aA] []))) λaC=>oP (fx false d) λaD=>oP (gC aD (some (jF,[ao,ax,aC]))) λaE=>qB C aE h6 λaF h7=>oP (oD d (qz .not aF)) λaG=>bP aG (Q bF h7) (cP C sH [a] h7 λaH o=>oP (fF aH) λaI=>dG 3 e o λaJ=>bO .neq 3 aI aJ (Q bF o) (oP (gg 5 e o) λaK=>cP C qD [aK] o λaL h9=>oP (ij a) λaM=>oP (fH 7 aM) λaN=>fm (gK 1 aN aL h9) λvu n=>dG 3 e n λaO=>cP C jF [a,aO,(V.func mc [a] [])] n λaP aQ=>Q aP aQ)))
theorem Pp{C}(s:C.start=fR){a0 h Q}(k:C.K A4 [a0] h=none)(H:Kf C Q a0 h):cP C A4 [a0] h Q:=cP.vd t12 s (by unfold P0;exact Tryd.func12) k H
end
