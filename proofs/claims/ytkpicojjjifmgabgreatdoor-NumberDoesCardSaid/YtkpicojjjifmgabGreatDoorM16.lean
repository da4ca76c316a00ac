/- Parts. -/
import Derived.Test.YtkpicojjjifmgabGreatDoorM14
set_option maxHeartbeats 4000000
namespace Go.Proofs.YtkpicojjjifmgabGreatDoor.Hx
set_option maxRecDepth 100000
noncomputable section
def t54:List (Nat×List Nat):=[(126,[1,3,4,5]),(319,[1,3,4,5])]
def Bh(C:fu)(Q:fD)(a b c d:V)(h:Hp):Prop:=∀ρ:gO,ρ 1=a->ρ 3=b->ρ 4=c->ρ 5=d->WA C Tryz.f54 t54 63 [] Q ρ h
def Gt(C:fu)(Q:fD)(a b c d:V)(h:Hp):Prop:=∀ρ:gO,ρ 1=a->ρ 3=b->ρ 4=c->ρ 5=d->WA C Tryz.f54 t54 159 [] Q ρ h
def Hb(C:fu)(Q:fD)(a b c d:V)(h:Hp):Prop:=Gt C Q a b c d h
theorem OA{C:fu}{Q:fD}{a b c d:V}{h:Hp}(H:Hb C Q a b c d h):Bh C Q a b c d h:=by
 rintro ρ rfl rfl rfl rfl;exact WA.of (by kernel_rfl) H
def GQ(C:fu)(Q:fD)(fU:Ml)(g d e c:V)(h:Hp):Prop:=oP (fI c) λi=>bO .gtr 3 i nZ (oP (fI c) λj=>oP (ez .sub 3 j nO) λk=>oP (gB 2 c k) λa=>dF 3 g h λl=>dN 0 a h λm=>dI 6 l m 3 h λf=>dN 1 a h λn=>oP (fI f) λo=>bO .eql 3 n o (dN 0 a h λp=>hV (jz 3 1 1 nZ [(0,p)]) h λq P=>fm (fh 3 1 8 e q P) λr N=>oP (fI c) λs=>oP (ez .sub 3 s nO) λt=>oP (jA 2 c none (some t) N) λu=>fU g d r u N) (dN 1 a h λv=>dX 1 f v h λb=>dN 1 a h λw=>oP (ez .add 3 w nO) λx=>oP (iL a) λy=>oP (fJ 1 y) λz=>fm (gJ 1 z x h) λY R=>oP (fI d) λA=>cP C lj [b,A] R λB D=>oP (kE B (oB (some d) λE=>oB (some b) λF=>oB (gB 1 E F) λG=>oB (fe G D) λH=>qf .not H)) λI=>bP I (oP (gB 1 d b) λJ=>fm (gJ 1 J bT D) λO S=>oP (fV [nZ,nZ] [(0,1),(1,1)] [(0,b),(1,nZ)]) λK=>hV (jz 130 2 1 (V.agg [nZ,nZ]) [(0,K)]) S λL T=>fm (fh 130 2 16 c L T) λM U=>fU g d e M U) (fU g d e c D))) (cP C ma [e] h λW X=>Q e X)
theorem Nr{C Q}(I)(s:P4 I (GQ C Q)){k a b c d h}(i:I k a b c d h):Gt C Q a b c d h:=WA.l4 I _ s i
def LS(C:fu)(Q:fD)(a0:V)(h:Hp):Prop:=hV (lR 30 a0) h λc k=>dG 3 c k λb=>hV (iz 4 1 1 bF b b) k λa d=>dG 3 c d λe=>bO .gtr 3 e nZ (oP (fV [nZ,nZ] [(0,1),(1,1)] []) λf=>hV (jz 130 2 1 (V.agg [nZ,nZ]) [(0,f)]) d λg l=>fm (fh 130 2 16 nS g l) λi m=>oP (gB 1 a nZ) λj=>fm (gJ 1 j bT m) λo n=>Bh C Q c a nS i n) (Bh C Q c a nS nS d)
theorem RY{C}(s:C.start=fQ){a0 h Q}(k:C.K rh [a0] h=none)(H:LS C Q a0 h):cP C rh [a0] h Q:=cP.vd t54 s (by unfold P0;exact Tryz.func54) k H
def t55:List (Nat×List Nat):=[(87,[3,13,14,15]),(22935,[3,4,13,14,15,21,22,23]),(498070,[3,4,13,14,15,21,22,23])]
def Gx(C:fu)(Q:fD)(d a b c:V)(h:Hp):Prop:=∀ρ:gO,ρ 3=d->ρ 13=a->ρ 14=b->ρ 15=c->WA C Tryz.f55 t55 43 [] Q ρ h
def Gu(C:fu)(Q:fD)(fU:Ml)(g i a b c d e f:V)(h:Hp):Prop:=∀ρ:gO,ρ 3=g->ρ 4=i->ρ 13=a->ρ 14=b->ρ 15=c->ρ 21=d->ρ 22=e->ρ 23=f->WA C Tryz.f55 t55 11467 [λρ h=>fU (ρ 3) (ρ 13) (ρ 14) (ρ 15) h] Q ρ h
def zU(C:fu)(Q:fD)(fU:Ml)(a:Mm)(i j b c d e f g:V)(h:Hp):Prop:=∀ρ:gO,ρ 3=i->ρ 4=j->ρ 13=b->ρ 14=c->ρ 15=d->ρ 21=e->ρ 22=f->ρ 23=g->WA C Tryz.f55 t55 249035 [λρ h=>fU (ρ 3) (ρ 13) (ρ 14) (ρ 15) h,λρ h=>a (ρ 3) (ρ 4) (ρ 13) (ρ 14) (ρ 15) (ρ 21) (ρ 22) (ρ 23) h] Q ρ h
def GN(C:fu)(Q:fD)(fU:Ml)(i b c a:V)(h:Hp):Prop:=bO .lss 3 a c (oP (gB 6 b a) λe=>oP (fW 6 e h) λf=>hV (zC 45 [nS,nZ,nZ,nS,nS,nZ]) h λj l=>fm (gJ 6 j f l) λm k=>dF 3 j k λd=>oP (fI d) λg=>Gu C Q fU i a b c a d g nZ k) (Q i h)
theorem Np{C Q}(I)(s:P4 I (GN C Q)){k d a b c h}(i:I k d a b c h):Gx C Q d a b c h:=WA.l4 I _ s i
def Gv(C:fu)(Q:fD)(fU:Ml)(j:Mm)(i k b c d e f a:V)(h:Hp):Prop:=bO .lss 3 a f (dX 1 e a h λg=>oP (fI i) λl=>cP C lj [g,l] h λm n=>bP m (dX 1 i g n λo=>hV (jz 3 1 1 nZ [(0,k)]) n λp t=>fm (fh 3 1 8 o p t) λq u=>oP (gB 1 i g) λr=>fm (gJ 1 r q u) λw v=>zU C Q fU j i k b c d e f a v) (zU C Q fU j i k b c d e f a n)) (oP (ez .add 3 d nO) λs=>fU i b c s h)
theorem Om{C Q fU}(I)(s:P8 I (Gv C Q fU)){k g j a b c d e f h}(i:I k g j a b c d e f h):Gu C Q fU g j a b c d e f h:=WA.l8 I _ s i
def FJ(C:fu)(Q:fD)(fU:Ml)(a:Mm)(j k b c d e f g:V)(h:Hp):Prop:=oP (ez .add 3 g nO) λi=>a j k b c d e f i h
theorem Mr{C:fu}{Q:fD}{fU:Ml}{a:Mm}{i j b c d e f g:V}{h:Hp}(H:FJ C Q fU a i j b c d e f g h):zU C Q fU a i j b c d e f g h:=by
 rintro ρ rfl rfl rfl rfl rfl rfl rfl rfl;exact WA.of (by kernel_rfl) H
def LM(C:fu)(Q:fD)(a0:V)(h:Hp):Prop:=hV (lR 30 a0) h λe f=>dG 3 e f λa=>hV (iz 22 1 24 nS a a) f λc g=>dF 3 e g λb=>oP (fI b) λd=>Gx C Q c b d nZ g
theorem SJ{C}(s:C.start=fQ){a0 h Q}(k:C.K zz [a0] h=none)(H:LM C Q a0 h):cP C zz [a0] h Q:=cP.vd t55 s (by unfold P0;exact Tryz.func55) k H
def t22:List (Nat×List Nat):=[(175,[3,4,5,6,30,31]),(351,[3,4,5,6,38,39,40]),(5631,[3,4,5,10,11]),(370175,[3,4,5,10,11,59,60,61]),(362391039,[3,4,5,10,11,13,14,59,60,61,68,69,70]),(8147019262,[3,4,5,10,11,13,14,59,60,61,68,69,70]),(7972350,[3,4,5,10,11,59,60,61])]
def z7(C:fu)(Q:fD)(c d e f a b:V)(h:Hp):Prop:=∀ρ:gO,ρ 3=c->ρ 4=d->ρ 5=e->ρ 6=f->ρ 30=a->ρ 31=b->WA C Tryz.f22 t22 87 [] Q ρ h
def Ai(C:fu)(Q:fD)(d e f g a b c:V)(h:Hp):Prop:=∀ρ:gO,ρ 3=d->ρ 4=e->ρ 5=f->ρ 6=g->ρ 38=a->ρ 39=b->ρ 40=c->WA C Tryz.f22 t22 175 [] Q ρ h
def Am(C:fu)(Q:fD)(c d e a b:V)(h:Hp):Prop:=∀ρ:gO,ρ 3=c->ρ 4=d->ρ 5=e->ρ 10=a->ρ 11=b->WA C Tryz.f22 t22 2815 [] Q ρ h
def z8(C:fu)(Q:fD)(a:KH)(g i j b c d e f:V)(h:Hp):Prop:=∀ρ:gO,ρ 3=g->ρ 4=i->ρ 5=j->ρ 10=b->ρ 11=c->ρ 59=d->ρ 60=e->ρ 61=f->WA C Tryz.f22 t22 185087 [λρ h=>a (ρ 3) (ρ 4) (ρ 5) (ρ 10) (ρ 11) h] Q ρ h
def Ak(C:fu)(Q:fD)(a:KH)(b:Mm)(n o p c d e f g i j k l m:V)(h:Hp):Prop:=∀ρ:gO,ρ 3=n->ρ 4=o->ρ 5=p->ρ 10=c->ρ 11=d->ρ 13=e->ρ 14=f->ρ 59=g->ρ 60=i->ρ 61=j->ρ 68=k->ρ 69=l->ρ 70=m->WA C Tryz.f22 t22 181195519 [λρ h=>a (ρ 3) (ρ 4) (ρ 5) (ρ 10) (ρ 11) h,λρ h=>b (ρ 3) (ρ 4) (ρ 5) (ρ 10) (ρ 11) (ρ 59) (ρ 60) (ρ 61) h] Q ρ h
def oX(C:fu)(Q:fD)(a:KH)(b:Mm)(c:Jc)(o p q d e f g i j k l m n:V)(h:Hp):Prop:=∀ρ:gO,ρ 3=o->ρ 4=p->ρ 5=q->ρ 10=d->ρ 11=e->ρ 13=f->ρ 14=g->ρ 59=i->ρ 60=j->ρ 61=k->ρ 68=l->ρ 69=m->ρ 70=n->WA C Tryz.f22 t22 4073509631 [λρ h=>a (ρ 3) (ρ 4) (ρ 5) (ρ 10) (ρ 11) h,λρ h=>b (ρ 3) (ρ 4) (ρ 5) (ρ 10) (ρ 11) (ρ 59) (ρ 60) (ρ 61) h,λρ h=>c (ρ 3) (ρ 4) (ρ 5) (ρ 10) (ρ 11) (ρ 13) (ρ 14) (ρ 59) (ρ 60) (ρ 61) (ρ 68) (ρ 69) (ρ 70) h] Q ρ h
def rR(C:fu)(Q:fD)(a:KH)(b:Mm)(i j k c d e f g:V)(h:Hp):Prop:=∀ρ:gO,ρ 3=i->ρ 4=j->ρ 5=k->ρ 10=c->ρ 11=d->ρ 59=e->ρ 60=f->ρ 61=g->WA C Tryz.f22 t22 3986175 [λρ h=>a (ρ 3) (ρ 4) (ρ 5) (ρ 10) (ρ 11) h,λρ h=>b (ρ 3) (ρ 4) (ρ 5) (ρ 10) (ρ 11) (ρ 59) (ρ 60) (ρ 61) h] Q ρ h
def Aj(C:fu)(Q:fD)(fU:Q1)(c j d k b a:V)(h:Hp):Prop:=bO .lss 3 a b (oP (fe d h) λe=>oP (gB 1 e a) λf=>fm (gJ 1 f (V.I (-1)) h) λm l=>oP (ez .add 3 a nO) λg=>fU c j d k b g l) (oP (fI c) λi=>Ai C Q c j d k c i nZ h)
theorem Ie{C Q}(I)(s:P6 I (Aj C Q)){k c d e f a b h}(i:I k c d e f a b h):z7 C Q c d e f a b h:=WA.l6 I _ s i
def An(C:fu)(Q:fD)(e:Rm)(f q b g c d a:V)(h:Hp):Prop:=bO .lss 3 a d (dX 1 c a h λi=>oP (fe g h) λj=>oP (gB 1 j i) λk=>fm (gJ 1 k a h) λu s=>oP (ez .add 3 a nO) λl=>e f q b g c d l s) (oP (fI f) λm=>bO .eql 3 m nZ (oP (fe b h) λn=>Q n h) (oP (fe b h) λo=>oP (gB 1 o nZ) λp=>fm (gJ 1 p nZ h) λr t=>Am C Q f q b (V.func jG [] [g,b]) bT t))
theorem Il{C Q}(I)(s:P7 I (An C Q)){k d e f g a b c h}(i:I k d e f g a b c h):Ai C Q d e f g a b c h:=WA.l7 I _ s i
def Ab(C:fu)(Q:fD)(e:KH)(k m f g i:V)(h:Hp):Prop:=bP i (oP (jA 1 k (some nO) none h) λa=>oP (fI a) λj=>z8 C Q e k m f g bF a j nZ h) (oP (fe f h) λb=>oP (gB 1 b nZ) λc=>fm (gJ 1 c (V.I (-1)) h) λn l=>oP (fe f l) λd=>Q d l)
theorem Iu{C Q}(I)(s:P5 I (Ab C Q)){k c d e a b h}(i:I k c d e a b h):Am C Q c d e a b h:=WA.l5 I _ s i
def zW(C:fu)(Q:fD)(b:KH)(j:Mm)(m k n c d e f a:V)(h:Hp):Prop:=bO .lss 3 a f (dX 1 e a h λg=>dX 1 k g h λi=>oP (fI i) λl=>Ak C Q b j m k n c d g (V.I (-1)) e f a i l nZ h) (b m k n c d h)
theorem Ic{C Q a}(I)(s:P8 I (zW C Q a)){k g j l b c d e f h}(i:I k g j l b c d e f h):z8 C Q a g j l b c d e f h:=WA.l8 I _ s i
def Ah(C:fu)(Q:fD)(b:KH)(c:Mm)(o:Jc)(q r n a k d e f g i l m j:V)(h:Hp):Prop:=bO .lss 3 j m (dX 1 l j h λp=>oP (fe n h) λs=>dX 1 s p h λt=>bO .lss 3 t nZ (oX C Q b c o q r n a k d e f g i l m j h) (bO .lss 3 e nZ (oX C Q b c o q r n a k d p f g i l m j h) (ij C (gv a [e,p]) h λu z=>oX C Q b c o q r n a k d u f g i l m j z))) (oP (fe n h) λv=>dX 1 v d h λw=>bO .neq 3 w e (oP (fe n h) λx=>oP (gB 1 x d) λy=>fm (gJ 1 y e h) λB A=>rR C Q b c q r n a bT f g i A) (rR C Q b c q r n a k f g i h))
theorem Ib{C Q a b}(I)(s:P13 I (Ah C Q a b)){k p q r c d e f g j l m n o h}(i:I k p q r c d e f g j l m n o h):Ak C Q a b p q r c d e f g j l m n o h:=WA.l13 I _ s i
def oK(C:fu)(Q:fD)(n:KH)(o:Mm)(a:Jc)(p q r b c d e f g i j k l:V)(h:Hp):Prop:=oP (ez .add 3 l nO) λm=>a p q r b c d e f g i j k m h
theorem rl{C:fu}{Q:fD}{a:KH}{b:Mm}{c:Jc}{o p q d e f g i j k l m n:V}{h:Hp}(H:oK C Q a b c o p q d e f g i j k l m n h):oX C Q a b c o p q d e f g i j k l m n h:=by
 rintro ρ rfl rfl rfl rfl rfl rfl rfl rfl rfl rfl rfl rfl rfl;exact WA.of (by kernel_rfl) H
def qW(C:fu)(Q:fD)(i:KH)(a:Mm)(j k l b c d e f:V)(h:Hp):Prop:=oP (ez .add 3 f nO) λg=>a j k l b c d e g h
theorem zG{C:fu}{Q:fD}{a:KH}{b:Mm}{i j k c d e f g:V}{h:Hp}(H:qW C Q a b i j k c d e f g h):rR C Q a b i j k c d e f g h:=by
 rintro ρ rfl rfl rfl rfl rfl rfl rfl rfl;exact WA.of (by kernel_rfl) H
def DP(C:fu)(Q:fD)(a0:V)(h:Hp):Prop:=hV (lR 30 a0) h λe m=>oP (fW 5 e m) λq=>oP (fW 5 e m) λf=>cP C rh [q] m λr n=>(m.next<=n.next/\((fW 5 e n=some f)/\cP C zz [f] n λs o=>(n.next<=o.next/\oP (fJ 3 e) λg=>oP (fe g o) λi=>oP (fI i) λj=>yp (iz 3 1 8 nZ j j) o λt u p=>oP (fJ 3 e) λb=>oP (fe b p) λc=>oP (fI c) λk=>yp (iz 3 1 8 nZ k k) p λd v D=>yp (zC 22 [nS]) D λw x E=>yp (zC 22 [nS]) E λy F a=>((a.get (E.next)=some y/\O.beq y y=true)/\((a.get (D.next)=some w/\O.beq w w=true)/\((a.get (p.next)=some d/\O.beq d d=true)/\((fe b a=some c)/\((a.get (o.next)=some t/\O.beq t t=true)/\((fe g a=some i)/\fm (gJ 1 x u a) λH l=>(a.next<=l.next/\((l.get (p.next)=some d/\O.beq d d=true)/\((fe b l=some c)/\fm (gJ 1 F v l) λG z=>(l.next<=z.next/\oP (fe x z) λA=>oP (fI A) λB=>z7 C Q r s x F B nZ z)))))))))))))
theorem Li{C}(s:C.start=fQ){a0 h Q}(k:C.K pT [a0] h=none)(H:DP C Q a0 h):cP C pT [a0] h Q:=cP.vd t22 s (by unfold P0;exact Tryz.func22) k H
def t56:List (Nat×List Nat):=[(19,[0,1,2,3])]
def yG(C:fu)(Q:fD)(a b c d:V)(h:Hp):Prop:=∀ρ:gO,ρ 0=a->ρ 1=b->ρ 2=c->ρ 3=d->WA C Tryz.f56 t56 9 [] Q ρ h
def yH(C:fu)(Q:fD)(fU:Ml)(a b c d:V)(h:Hp):Prop:=bO .neq 3 a b (oP (fe c h) λe=>dX 1 e a h λf=>oP (fe c h) λg=>dX 1 g b h λi=>bO .gtr 3 f i (oP (fe d h) λj=>dX 1 j a h λk=>fU k b c d h) (oP (fe d h) λl=>dX 1 l b h λm=>fU a m c d h)) (Q a h)
theorem FY{C Q}(I)(s:P4 I (yH C Q)){k a b c d h}(i:I k a b c d h):yG C Q a b c d h:=WA.l4 I _ s i
def Bv(C:fu)(Q:fD)(a0 a1 a2 a3:V)(h:Hp):Prop:=yG C Q a0 a1 a2 a3 h
theorem Ja{C}(s:C.start=fQ){a0 a1 a2 a3 h Q}(k:C.K jG [a0,a1,a2,a3] h=none)(H:Bv C Q a0 a1 a2 a3 h):cP C jG [a0,a1,a2,a3] h Q:=cP.vd t56 s (by unfold P0;exact Tryz.func56) k H
def t46:List (Nat×List Nat):=[(43,[1,2,7])]
def zt(C:fu)(Q:fD)(a b c:V)(h:Hp):Prop:=∀ρ:gO,ρ 1=a->ρ 2=b->ρ 7=c->WA C Tryz.f46 t46 21 [] Q ρ h
def zy(C:fu)(Q:fD)(fU:Tu)(d e a:V)(h:Hp):Prop:=bO .lss 3 a d (ij C (gv e [a]) h λb f=>bN b (Q bF f) (oP (ez .add 3 a nO) λc=>fU d e c f)) (Q bT h)
theorem GX{C Q}(I)(s:P3 I (zy C Q)){k a b c h}(i:I k a b c h):zt C Q a b c h:=WA.l3 I _ s i
def Cn(C:fu)(Q:fD)(a0 a1 a2:V)(h:Hp):Prop:=zt C Q a1 a2 nZ h
theorem KJ{C}(s:C.start=fQ){a0 a1 a2 h Q}(k:C.K j5 [a0,a1,a2] h=none)(H:Cn C Q a0 a1 a2 h):cP C j5 [a0,a1,a2] h Q:=cP.vd t46 s (by unfold P0;exact Tryz.func46) k H
def t76:List (Nat×List Nat):=[(43,[0,7,8,9]),(56522,[0,7,8,9,31])]
def xB(C:fu)(Q:fD)(a b c d:V)(h:Hp):Prop:=∀ρ:gO,ρ 0=a->ρ 7=b->ρ 8=c->ρ 9=d->WA C Tryz.f76 t76 21 [] Q ρ h
def kG(C:fu)(Q:fD)(fU:Ml)(b c d e a:V)(h:Hp):Prop:=∀ρ:gO,ρ 0=b->ρ 7=c->ρ 8=d->ρ 9=e->ρ 31=a->WA C Tryz.f76 t76 28261 [λρ h=>fU (ρ 0) (ρ 7) (ρ 8) (ρ 9) h] Q ρ h
def yd(C:fu)(Q:fD)(fU:Ml)(b e f c:V)(h:Hp):Prop:=bO .lss 3 c f (dX 1 e c h λg=>oP (iL b) λl=>oP (fJ 0 l) λm=>dG 2 m h λn=>cP C lj [g,n] h λo d=>bN o (Q bF d) (oP (iL b) λp=>oP (fJ 0 p) λq=>dJ 2 q 6 g 0 d λa=>oP (ez .eql 3 a (V.I 19)) λi=>bP i (kG C Q fU b e f c i d) (oP (ez .eql 3 a (V.I 20)) λj=>bP j (kG C Q fU b e f c j d) (oP (ez .eql 3 a (V.I 22)) λk=>bP k (kG C Q fU b e f c k d) (oP (ez .eql 3 a (V.I 23)) λr=>kG C Q fU b e f c r d))))) (Q bT h)
theorem ET{C Q}(I)(s:P4 I (yd C Q)){k a b c d h}(i:I k a b c d h):xB C Q a b c d h:=WA.l4 I _ s i
def vZ(C:fu)(Q:fD)(fU:Ml)(c d e f a:V)(h:Hp):Prop:=bP a (Q bF h) (oP (ez .add 3 f nO) λb=>fU c d e b h)
theorem Du{C:fu}{Q:fD}{fU:Ml}{b c d e a:V}{h:Hp}(H:vZ C Q fU b c d e a h):kG C Q fU b c d e a h:=by
 rintro ρ rfl rfl rfl rfl rfl;exact WA.of (by kernel_rfl) H
def Aa(C:fu)(Q:fD)(a0 a1:V)(h:Hp):Prop:=oP (fI a1) λa=>xB C Q a0 a1 a nZ h
theorem Iq{C}(s:C.start=fQ){a0 a1 h Q}(k:C.K jx [a0,a1] h=none)(H:Aa C Q a0 a1 h):cP C jx [a0,a1] h Q:=cP.vd t76 s (by unfold P0;exact Tryz.func76) k H
def t47:List (Nat×List Nat):=[(175,[0,27,28,29])]
def xk(C:fu)(Q:fD)(d a b c:V)(h:Hp):Prop:=∀ρ:gO,ρ 0=d->ρ 27=a->ρ 28=b->ρ 29=c->WA C Tryz.f47 t47 87 [] Q ρ h
def xI(C:fu)(Q:fD)(fU:Ml)(i d e c:V)(h:Hp):Prop:=bO .lss 3 c e (oP (gB 4 d c) λj=>oP (fW 4 j h) λk=>hV (zC 49 [nZ,nZ,nS,nS]) h λf N=>fm (gJ 4 f k N) λO g=>dG 2 f g λl=>oP (ez .gtr 3 l (V.I 40)) λm=>oP (og m (oB (fJ 3 f) λn=>oB (fe n g) λo=>oB (fI o) λp=>ez .gtr 3 p (V.I 60))) λa=>oP (fF false a) λq=>oP (gV q (some i)) λr=>oP (fF false a) λs=>oP (gV s (fJ 2 f)) λt=>oP (fF false a) λu=>oP (gV u (fe t g)) λv=>oP (fF false a) λw=>oP (gC w (some (jx,[r,v]))) λx=>qP C x g λy L=>oP (og a (qf .not y)) λb=>oP (fF false b) λz=>oP (gV z (some i)) λA=>oP (fF false b) λB=>oP (gV B (fJ 3 f)) λD=>oP (fF false b) λE=>oP (gV E (fe D L)) λF=>oP (fF false b) λG=>oP (gC G (some (jx,[A,F]))) λH=>qP C H L λI M=>oP (og b (qf .not I)) λJ=>bP J (Q bF M) (oP (ez .add 3 c nO) λK=>fU i d e K M)) (Q bT h)
theorem Fk{C Q}(I)(s:P4 I (xI C Q)){k d a b c h}(i:I k d a b c h):xk C Q d a b c h:=WA.l4 I _ s i
def Ad(C:fu)(Q:fD)(a0 a1:V)(h:Hp):Prop:=oP (iL a0) λp=>oP (fJ 0 p) λd=>dF 4 d h λe=>oP (gB 1 e a1) λf=>oP (fW 1 f h) λg=>hV (zC 52 [nS]) h λc q=>fm (gJ 1 c g q) λr a=>dG 0 c a λi=>oP (ez .eql 3 i nZ) λj=>oP (og j (oB (fJ 0 c) λk=>oB (fe k a) λl=>oB (fI l) λm=>ez .gtr 3 m (V.I 30))) λn=>bP n (Q bF a) (dF 0 c a λb=>oP (fI b) λo=>xk C Q a0 b o nZ a)
theorem Ig{C}(s:C.start=fQ){a0 a1 h Q}(k:C.K mW [a0,a1] h=none)(H:Ad C Q a0 a1 h):cP C mW [a0,a1] h Q:=cP.vd t47 s (by unfold P0;exact Tryz.func47) k H
def t48:List (Nat×List Nat):=[(87,[0,36,37]),(351,[0,4,51,52,53]),(190047,[0,4,5,7,51,52,53,59,60,61])]
def xo(C:fu)(Q:fD)(c a b:V)(h:Hp):Prop:=∀ρ:gO,ρ 0=c->ρ 36=a->ρ 37=b->WA C Tryz.f48 t48 43 [] Q ρ h
def yi(C:fu)(Q:fD)(d e a b c:V)(h:Hp):Prop:=∀ρ:gO,ρ 0=d->ρ 4=e->ρ 51=a->ρ 52=b->ρ 53=c->WA C Tryz.f48 t48 175 [] Q ρ h
def xR(C:fu)(Q:fD)(a:KH)(i j k l b c d e f g:V)(h:Hp):Prop:=∀ρ:gO,ρ 0=i->ρ 4=j->ρ 5=k->ρ 7=l->ρ 51=b->ρ 52=c->ρ 53=d->ρ 59=e->ρ 60=f->ρ 61=g->WA C Tryz.f48 t48 95023 [λρ h=>a (ρ 0) (ρ 4) (ρ 51) (ρ 52) (ρ 53) h] Q ρ h
def xj(C:fu)(Q:fD)(fU:Tu)(d b a:V)(h:Hp):Prop:=bO .lss 3 a b (dN 5 d h λe=>oP (gB 1 e a) λf=>fm (gJ 1 f (V.I (-1)) h) λm l=>oP (ez .add 3 a nO) λg=>fU d b g l) (oP (iL d) λi=>oP (fJ 0 i) λj=>dF 3 j h λc=>oP (fI c) λk=>yi C Q d nZ c k nZ h)
theorem EI{C Q}(I)(s:P3 I (xj C Q)){k c a b h}(i:I k c a b h):xo C Q c a b h:=WA.l3 I _ s i
def xY(C:fu)(Q:fD)(j:KH)(n o b c a:V)(h:Hp):Prop:=bO .lss 3 a c (oP (gB 6 b a) λk=>oP (fW 6 k h) λl=>hV (zC 45 [nS,nZ,nZ,nS,nS,nZ]) h λp r=>fm (gJ 6 p l r) λs q=>dF 0 p q λd=>oP (fI d) λm=>xR C Q j n o a bT b c a d m nZ q) (oP (iL n) λe=>oP (fJ 0 e) λf=>dG 2 f h λg=>oP (ez .eql 3 o g) λi=>Q i h)
theorem ED{C Q}(I)(s:P5 I (xY C Q)){k d e a b c h}(i:I k d e a b c h):yi C Q d e a b c h:=WA.l5 I _ s i
def xO(C:fu)(Q:fD)(D:KH)(E:K7)(d x4 F x7 g i j k l b:V)(h:Hp):Prop:=bO .lss 3 b l (dX 1 k b h λa=>oP (iL d) λG=>oP (fJ 0 G) λH=>dG 2 H h λI=>cP C lj [a,I] h λJ c=>oP (qf .not J) λK=>oP (og K (oB (some d) λL=>oB (iL L) λM=>oB (fJ 5 M) λN=>oB (fe N c) λO=>oB (some a) λP=>oB (gB 1 O P) λR=>oB (fe R c) λS=>ez .geq 3 S nZ)) λT=>bP T (Q bF c) (oP (iL d) λU=>oP (fJ 0 U) λW=>dJ 2 W 6 a 0 c λe=>oP (ez .eql 3 e (V.I 21)) λX=>oP (og X (oB (some e) λY=>ez .eql 3 Y nO)) λf=>oP (kE f (oB (some x7) λm=>qf .not m)) λn=>oP (og n (oB (some e) λo=>oB (ez .eql 3 o nO) λp=>oB (some F) λq=>oB (ez .eql 3 q nZ) λr=>oB (ez .neq 4 p r) λs=>oB (some s) λt=>kE t (some f))) λu=>bP u (Q bF c) (dN 5 d c λv=>dN 6 d c λw=>oP (gB 1 v a) λx=>fm (gJ 1 x F c) λvu Z=>(c.next<=Z.next/\oP (gB 1 w a) λy=>fm (gJ 1 y b Z) λaa h3=>(Z.next<=h3.next/\oP (ez .add 3 x4 nO) λz=>oP (ez .add 3 b nO) λA=>E d z F f g i j k l A h3))))) (oP (ez .add 3 j nO) λB=>D d x4 g i B h)
theorem E0{C Q a}(I)(s:P10 I (xO C Q a)){k j l m n b c d e f g h}(i:I k j l m n b c d e f g h):xR C Q a j l m n b c d e f g h:=WA.l10 I _ s i
def Ag(C:fu)(Q:fD)(a0:V)(h:Hp):Prop:=oP (iL a0) λl=>oP (fJ 0 l) λm=>oP (fJ 2 m) λc=>oP (fe c h) λd=>oP (fI d) λe=>yp (iz 3 1 8 nZ e e) h λn o j=>oP (iL a0) λp=>oP (fJ 0 p) λq=>oP (fJ 2 q) λf=>oP (fe f j) λg=>oP (fI g) λi=>yp (iz 3 1 8 nZ i i) j λa r b=>oP (iL a0) λs=>oP (fJ 5 s) λt=>((b.get (j.next)=some a/\O.beq a a=true)/\((fe f b=some g)/\((b.get (h.next)=some n/\O.beq n n=true)/\((fe c b=some d)/\fm (gJ 1 t o b) λA k=>(b.next<=k.next/\oP (iL a0) λu=>oP (fJ 6 u) λv=>((k.get (j.next)=some a/\O.beq a a=true)/\fm (gJ 1 v r k) λz w=>(k.next<=w.next/\oP (iL a0) λx=>dG 5 x w λy=>xo C Q a0 y nZ w)))))))
theorem Ij{C}(s:C.start=fQ){a0 h Q}(k:C.K pH [a0] h=none)(H:Ag C Q a0 h):cP C pH [a0] h Q:=cP.vd t48 s (by unfold P0;exact Tryz.func48) k H
section
variable (C:fu)(Q:X->gO->Hp->Prop)(ρ:gO)(h:Hp)
def PO:=K4 Tryz.f49
def zb2:=PO.r
def zbQ:=PO.r.r
def zb3:=PO.r.r.l.r
def zbC:=PO.r.r.r
def zdF:=andThen (Wp C 94 zbC Q) Q
def zbK:=PO.r.r.l.r.l.r
def zbO:=PO.r.r.r.l.r
def zbJ:=PO.r.r.r.r
def q80:=andThen (Wp C 94 zbJ Q) Q
def zb6:=PO.r.r.r.l.r.l.r
def zeN(C:fu)(Q:XQ):XQ:=xU 0 Q
def zcd:=PO.r.r.r.r.r
def zca:=PO.r.r.r.l.r.l.r.l.r
def Yw:=PO.r.r.r.l.r.l.r.r.r
def Zf:=PO.r.r.r.l.r.l.r.r.r.l.r
def Y8:=PO.r.r.r.l.r.l.r.r.r.r.r
def Yt:=PO.r.r.r.l.r.l.r.r.r.r.r.l.r
theorem e49:j4 C 94 PO Q ρ h=(oP (some (V.bool false)) λa=>
 Wp C 94 zb2 Q (fx ρ 4 a) h):=by kernel_rfl
theorem zez:j4 C 94 zb2 Q ρ h=(oP (some (ρ 0)) λe=>
 oP (iL e) λf=>
 oP (fJ 0 f) λg=>
 oP (fJ 2 g) λi=>
 oP (fe i h) λa=>
 oP (some (ρ 1)) λb=>
 oP (gB 6 a b) λc=>
 oP (fW 6 c h) λd=>
 hV (some (.cells 34 1 true false [(V.I 0),(V.I 0),(V.I 0),(V.I 0),V.ei,(V.I 0)],λl=> .ptr l 0)) h λj k=>
 fm (gJ 6 j d k) λn m=>
 Wp C 94 zbQ Q (fx (fx (fx (fx (fx (fx (fx (fx (fx ρ 6 e) 7 f) 8 g) 9 i) 10 a) 11 b) 12 c) 13 d) 5 j) m):=by kernel_rfl
theorem zeB:j4 C 94 zbQ Q ρ h=(oP (fJ 0 (ρ 5)) λd=>
 oP (fe d h) λs=>
 ((fe d h=some s)/\
 ((fJ 0 (ρ 5)=some d)/\
 dcP C EW [s] h λt D=>
 (h.next<=D.next/\
 oP (ez .eql 9 t (V.str [])) λe=>
 oP (some e) λb=>
 oP (fF false b) λW=>
 oP (gV W (some (ρ 0))) λf=>
 oP (fF false b) λb6=>
 oP (gV b6 (fW 6 (ρ 5) D)) λu=>
 ((gT b6 (fW 6 (ρ 5) D=some u))/\
 ((gT W (some (ρ 0)=some f))/\
 ((some e=some b)/\
 ((ez .eql 9 t (V.str [])=some e)/\
 oP (fF false b) λb7=>
 oP (gC b7 (some (p9,[u]))) λx7=>qP C x7 D λE X=>
 (D.next<=X.next/\
 ((gT W (some (ρ 0)=some f))/\
 oP (fF false b) λb8=>
 oP (gC b8 (some (jx,[f,E]))) λx8=>qP C x8 X λv F=>
 (X.next<=F.next/\
 oP (fF false b) λb9=>
 oP (gV b9 (qf .not v)) λg=>
 oP (jB b (V.bool true) g) λi=>
 oP (some i) λc=>
 oP (fF false c) λG=>
 oP (gV G (fJ 0 (ρ 5))) λj=>
 oP (fF false c) λH=>
 oP (gV H (fe j F)) λw=>
 ((gT H (fe j F=some w))/\
 ((gT G (fJ 0 (ρ 5)=some j))/\
 ((some i=some c)/\
 ((jB b (V.bool true) g=some i)/\
 ((gT b9 (qf .not v=some g))/\
 oP (fF false c) λY=>
 oP (gC Y (some (oJ,[w]))) λZ=>qP C Z F λx y=>
 (F.next<=y.next/\
 oP (fF false c) λI=>
 oP (gV I (some x)) λa=>
 oP (fF true a) λJ=>
 oP (gV J (fJ 5 (ρ 5))) λk=>
 oP (fF true a) λK=>
 oP (gV K (fe k y)) λz=>
 oP (fF true a) λL=>
 oP (gV L (some (ρ 0))) λl=>
 oP (fF true a) λM=>
 oP (gV M (iL l)) λm=>
 oP (fF true a) λN=>
 oP (gV N (fJ 0 m)) λn=>
 oP (fF true a) λO=>
 oP (gV O (fJ 4 n)) λo=>
 oP (fF true a) λP=>
 oP (gV P (fe o y)) λp=>
 oP (fF true a) λR=>
 oP (gV R (fI p)) λA=>
 ((gT R (fI p=some A))/\
 ((gT P (fe o y=some p))/\
 ((gT O (fJ 4 n=some o))/\
 ((gT N (fJ 0 m=some n))/\
 ((gT M (iL l=some m))/\
 ((gT L (some (ρ 0)=some l))/\
 ((gT K (fe k y=some z))/\
 ((gT J (fJ 5 (ρ 5)=some k))/\
 ((gT I (some x=some a))/\
 oP (fF true a) λaa=>
 oP (gC aa (some (lj,[z,A]))) λab=>qP C ab y λB h5=>
 (y.next<=h5.next/\
 oP (fF true a) λS=>
 oP (gV S (qf .not B)) λq=>
 oP (fF false c) λT=>
 oP (gV T (jB a q (V.bool false))) λr=>
 oP (jB c (V.bool true) r) λU=>
 ((jB c (V.bool true) r=some U)/\
 ((gT T (jB a q (V.bool false)=some r))/\
 ((gT S (qf .not B=some q))/\
 Wp C 94 zb3 (zdF C Q) (fx (fx (fx (fx (fx (fx (fx (fx (fx (fx (fx (fx (fx (fx (fx (fx (fx (fx (fx (fx (fx (fx (fx (fx (fx (fx (fx (fx ρ 14 d) 15 s) 16 t) 17 e) 18 b) 19 f) 20 u) 21 E) 22 v) 23 g) 24 i) 25 c) 26 j) 27 w) 28 x) 29 a) 30 k) 31 z) 32 l) 33 m) 34 n) 35 o) 36 p) 37 A) 38 B) 39 q) 40 r) 41 U) h5)))))))))))))))))))))))))))))):=by kernel_rfl
theorem zeV:j4 C 94 zbC Q ρ h=(oP (fJ 0 (ρ 5)) λa=>
 oP (fe a h) λb=>
 Wp C 94 zbO (q80 C Q) (fx (fx ρ 42 a) 43 b) h):=by kernel_rfl
theorem zea:j4 C 94 zb3 Q ρ h=(oP (some (ρ 41)) λc=>
 bP c (
 oP (some (V.bool false)) λa=>
 Wp C 94 zbK Q (fx ρ 4 a) h) (
 Q .normal ρ h)):=by kernel_rfl
theorem zeb:j4 C 94 zbJ Q ρ h=(oP (some (V.bool true)) λa=>
 Wp C 94 zcd Q (fx ρ 4 a) h):=by kernel_rfl
theorem ze0:j4 C 94 zbO Q ρ h=(oP (ez .eql 3 (ρ 43) (V.I 20)) λa=>
 oP (some a) λb=>
 Wp C 94 zb6 (zeN C Q) (fx (fx ρ 45 a) 44 b) h):=by kernel_rfl
theorem zeo:j4 C 94 zcd Q ρ h=(Q .ret ρ h):=by kernel_rfl
theorem zd0:j4 C 94 zbK Q ρ h=(Q .ret ρ h):=by kernel_rfl
theorem zd8:j4 C 94 zb6 Q ρ h=(oP (some (ρ 44)) λc=>
 bP c (
 oP (fJ 4 (ρ 5)) λa=>
 oP (fe a h) λb=>
 oP (fI b) λd=>
 oP (ez .eql 3 d (V.I 1)) λe=>
 oP (some e) λi=>
 Wp C 94 zca Q (fx (fx (fx (fx (fx ρ 46 a) 47 b) 48 d) 49 e) 4 i) h) (
 oP (ez .eql 3 (ρ 43) (V.I 21)) λf=>
 oP (some f) λg=>
 Wp C 94 Yw Q (fx (fx ρ 51 f) 50 g) h)):=by kernel_rfl
theorem zex:j4 C 94 zca Q ρ h=(Q .ret ρ h):=by kernel_rfl
theorem zcp:j4 C 94 Yw Q ρ h=(oP (some (ρ 50)) λc=>
 bP c (
 oP (fJ 4 (ρ 5)) λa=>
 oP (fe a h) λb=>
 oP (fI b) λd=>
 oP (some (ρ 0)) λe=>
 oP (iL e) λf=>
 oP (fJ 0 f) λg=>
 oP (fJ 3 g) λi=>
 oP (fe i h) λj=>
 oP (some (ρ 0)) λk=>
 oP (iL k) λl=>
 oP (fJ 5 l) λm=>
 oP (fe m h) λn=>
 oP (some (ρ 1)) λo=>
 oP (gB 1 n o) λp=>
 oP (fe p h) λq=>
 oP (gB 6 j q) λr=>
 oP (fJ 4 r) λs=>
 oP (fe s h) λt=>
 oP (fI t) λu=>
 oP (ez .eql 3 d u) λv=>
 oP (some v) λy=>
 ((some v=some y)/\
 ((ez .eql 3 d u=some v)/\
 ((fI t=some u)/\
 ((fe s h=some t)/\
 ((fJ 4 r=some s)/\
 ((gB 6 j q=some r)/\
 ((fe p h=some q)/\
 ((gB 1 n o=some p)/\
 ((some (ρ 1)=some o)/\
 ((fe m h=some n)/\
 ((fJ 5 l=some m)/\
 ((iL k=some l)/\
 ((some (ρ 0)=some k)/\
 ((fe i h=some j)/\
 ((fJ 3 g=some i)/\
 ((fJ 0 f=some g)/\
 ((iL e=some f)/\
 ((some (ρ 0)=some e)/\
 ((fI b=some d)/\
 ((fe a h=some b)/\
 ((fJ 4 (ρ 5)=some a)/\
 Wp C 94 Zf Q (fx (fx (fx (fx (fx (fx (fx (fx (fx (fx (fx (fx (fx (fx (fx (fx (fx (fx (fx (fx (fx ρ 52 a) 53 b) 54 d) 55 e) 56 f) 57 g) 58 i) 59 j) 60 k) 61 l) 62 m) 63 n) 64 o) 65 p) 66 q) 67 r) 68 s) 69 t) 70 u) 71 v) 4 y) h)))))))))))))))))))))) (
 oP (ez .eql 3 (ρ 43) (V.I 1)) λw=>
 oP (some w) λx=>
 Wp C 94 Y8 Q (fx (fx ρ 73 w) 72 x) h)):=by kernel_rfl
theorem zcq:j4 C 94 Zf Q ρ h=(Q .ret ρ h):=by kernel_rfl
theorem zcX:j4 C 94 Y8 Q ρ h=(oP (some (ρ 72)) λc=>
 bP c (
 oP (fJ 3 (ρ 5)) λd=>
 oP (fe d h) λe=>
 oP (ez .geq 2 e (V.I 0)) λf=>
 oP (some f) λb=>
 oP (fF true b) λH=>
 oP (gV H (fJ 3 (ρ 5))) λg=>
 oP (fF true b) λI=>
 oP (gV I (fe g h)) λi=>
 oP (fF true b) λJ=>
 oP (gV J (ez .lss 2 i (V.I 40))) λj=>
 oP (jB b j (V.bool false)) λk=>
 oP (some k) λa=>
 oP (fF true a) λK=>
 oP (gV K (some (ρ 0))) λl=>
 oP (fF true a) λw=>
 oP (gV w (iL l)) λm=>
 oP (fF true a) λx=>
 oP (gV x (fJ 0 m)) λn=>
 oP (fF true a) λy=>
 oP (gV y (fJ 2 n)) λo=>
 oP (fF true a) λz=>
 oP (gV z (fe o h)) λp=>
 oP (fF true a) λA=>
 oP (gV A (some (ρ 1))) λq=>
 oP (fF true a) λB=>
 oP (gV B (jA 6 p none (some q) h)) λr=>
 oP (fF true a) λD=>
 oP (gV D (some (V.func jY [] [(ρ 5)]))) λs=>
 oP (fF true a) λE=>
 oP (gC E (some (ig,[r,s]))) λF=>qP C F h λt L=>
 oP (fF true a) λG=>
 oP (gV G (qf .not t)) λu=>
 oP (jB a u (V.bool false)) λv=>
 oP (some v) λM=>
 Wp C 94 Yt Q (fx (fx (fx (fx (fx (fx (fx (fx (fx (fx (fx (fx (fx (fx (fx (fx (fx (fx (fx (fx (fx ρ 74 d) 75 e) 76 f) 77 b) 78 g) 79 i) 80 j) 81 k) 82 a) 83 l) 84 m) 85 n) 86 o) 87 p) 88 q) 89 r) 90 s) 91 t) 92 u) 93 v) 4 M) L) (
 Q .normal ρ h)):=by kernel_rfl
theorem zcO:j4 C 94 Yt Q ρ h=(Q .ret ρ h):=by kernel_rfl
theorem g49{C:fu}(hs:C.start=fQ)(a0 a1:V){h:Hp}{Q:fD}(a:C.K kQ [a0,a1] h=none)(H:j4 C 94 PO (IZ [.tmp 4] Q) (L0 [a0,a1]) h):cP C kQ [a0,a1] h Q:=
 cP.Y9 hs (show P0.funcs[49]? =some Tryz.f49 by unfold P0;exact Tryz.func49) (by kernel_rfl) (by kernel_rfl) (by kernel_rfl) a (KS rfl) (Wp.code _ H)
def xH(C:fu)(Q:fD)(a0 a1:V)(h:Hp):Prop:=oP (iL a0) λv7=>oP (fJ 0 v7) λv8=>dF 2 v8 h λs=>oP (gB 6 s a1) λt=>oP (fW 6 t h) λu=>hV (zC 34 [nZ,nZ,nZ,nZ,nS,nZ]) h λd h1=>fm (gJ 6 d u h1) λvu v=>dF 0 d v λw=>cP C EW [w] v λx q=>(v.next<=q.next/\oP (ez .eql 9 x (V.str [])) λe=>oP (fF false e) λb5=>oP (gV b5 (some a0)) λy=>oP (fF false e) λb6=>oP (gV b6 (fW 6 d q)) λz=>oP (fF false e) λb7=>oP (gC b7 (some (p9,[z]))) λy7=>qP C y7 q λA B=>(q.next<=B.next/\oP (fF false e) λb8=>oP (gC b8 (some (jx,[y,A]))) λy8=>qP C y8 B λD r=>(B.next<=r.next/\oP (og e (qf .not D)) λf=>oP (fF false f) λE=>oP (gV E (fJ 0 d)) λF=>oP (fF false f) λG=>oP (gV G (fe F r)) λH=>oP (fF false f) λI=>oP (gC I (some (oJ,[H]))) λJ=>qP C J r λK o=>(r.next<=o.next/\oP (fF false f) λL=>oP (gV L (some K)) λa=>oP (fF true a) λM=>oP (gV M (fJ 5 d)) λN=>oP (fF true a) λO=>oP (gV O (fe N o)) λP=>oP (fF true a) λR=>oP (gV R (some a0)) λS=>oP (fF true a) λT=>oP (gV T (iL S)) λU=>oP (fF true a) λW=>oP (gV W (fJ 0 U)) λX=>oP (fF true a) λY=>oP (gV Y (fJ 4 X)) λZ=>oP (fF true a) λaa=>oP (gV aa (fe Z o)) λab=>oP (fF true a) λac=>oP (gV ac (fI ab)) λae=>oP (fF true a) λag=>oP (gC ag (some (lj,[P,ae]))) λah=>qP C ah o λai c=>(o.next<=c.next/\oP (fF true a) λaj=>oP (gV aj (qf .not ai)) λak=>oP (og f (jB a ak bF)) λal=>bP al (Q bF c) (dF 0 d c λg=>bO .eql 3 g (V.I 20) (dG 4 d c λam=>oP (ez .eql 3 am nO) λan=>Q an c) (bO .eql 3 g (V.I 21) (dG 4 d c λao=>oP (iL a0) λap=>oP (fJ 0 ap) λaq=>dF 3 aq c λar=>dN 5 a0 c λau=>dX 1 au a1 c λaw=>oP (gB 6 ar aw) λax=>dG 4 ax c λay=>oP (ez .eql 3 ao ay) λaA=>Q aA c) (bO .eql 3 g nO (dF 3 d c λaB=>oP (ez .geq 2 aB nZ) λaC=>oP (kE aC (oB (fJ 3 d) λaD=>oB (fe aD c) λaE=>ez .lss 2 aE (V.I 40))) λb=>oP (fF true b) λp=>oP (gV p (some a0)) λaF=>oP (fF true b) λaG=>oP (gV aG (iL aF)) λaH=>oP (fF true b) λaI=>oP (gV aI (fJ 0 aH)) λaJ=>oP (fF true b) λi=>oP (gV i (fJ 2 aJ)) λaK=>oP (fF true b) λj=>oP (gV j (fe aK c)) λaL=>oP (fF true b) λk=>oP (gV k (some a1)) λaM=>oP (fF true b) λl=>oP (gV l (jA 6 aL none (some aM) c)) λaN=>oP (fF true b) λm=>oP (gV m (some (V.func jY [] [d]))) λaO=>oP (fF true b) λn=>oP (gC n (some (ig,[aN,aO]))) λaP=>qP C aP c λaQ h8=>oP (kE b (qf .not aQ)) λaR=>Q aR h8) (Q bT c)))))))))
theorem J6{C:fu}(hs:C.start=fQ){a0 a1:V}{h:Hp}{Q:fD}(hk:C.K kQ [a0,a1] h=none)(H:xH C Q a0 a1 h):cP C kQ [a0,a1] h Q:=by
 unfold xH at H;exact g49 hs _ _ hk ((e49 _ _ _ _).mpr (wL (Wp.of (zez _ _ _ _) (wL (oM H λv7 _ H=>oM H λv8 _ H=>oM H λv9 _ H=>oM H λaq _ H=>wL (oM H λar _ H=>oM H λau _ H=>alM H λv5 h1 H=>zdn H λvu h2 H=>Wp.of (zeB _ _ _ _) (oM H λaw b H=>oM H λax c H=>⟨c,⟨b,dcM H λay h3 H=>anM H λH=>oM H λaA d H=>wL (oM H λb5 _ H=>oM H λaB a H=>oM H λb6 _ H=>oM H λaC e H=>⟨(iq e),⟨(iq a),⟨rfl,⟨d,oM H λb7 _ H=>oM H λy7 _ H=>Z7 H λaD h4 H=>anM H λH=>⟨(iq a),oM H λb8 _ H=>oM H λy8 _ H=>Z7 H λaE h5 H=>anM H λH=>thn (Kr H) λH=>oM H λb9 Z H=>oM H λaF f H=>oM H λaG g H=>wL (oM H λaH _ H=>oM H λaI i H=>oM H λaJ _ H=>oM H λaK j H=>⟨(iq j),⟨(iq i),⟨rfl,⟨g,⟨(iq f),oM H λaL _ H=>oM H λaM _ H=>Z7 H λaN h6 H=>anM H λH=>oM H λaO _ H=>oM H λaP k H=>oM H λaQ _ H=>oM H λaR l H=>oM H λaS _ H=>oM H λaT m H=>oM H λaU _ H=>oM H λaV n H=>oM H λaW _ H=>oM H λaX o H=>oM H λaY _ H=>oM H λaZ p H=>oM H λa4 _ H=>oM H λa5 q H=>oM H λa6 _ H=>oM H λa7 r H=>oM H λa8 _ H=>oM H λa9 s H=>⟨(iq s),⟨(iq r),⟨(iq q),⟨(iq p),⟨(iq o),⟨(iq n),⟨(iq m),⟨(iq l),⟨(iq k),oM H λba _ H=>oM H λbb _ H=>Z7 H λbc h7 H=>anM H λH=>oM H λbd _ H=>oM H λbe t H=>thn (Kr H) λH=>oM H λbf aa H=>oM H λbg u H=>oM H λbh v H=>⟨v,⟨(iq u),⟨(iq t),Wp.of (zea _ _ _ _) (wL (bM H (λH=>wL (Wp.of (zd0 _ _ _ _) (H))) (λH=>Wp.of (zeV _ _ _ _) (oM H λbi _ H=>oM H λbj _ H=>Wp.of (ze0 _ _ _ _) (oM H λbm _ H=>wL (Wp.of (zd8 _ _ _ _) (wL (bM H (λH=>oM H λbo _ H=>oM H λbr _ H=>oM H λbt _ H=>oM H λbu _ H=>wL (Wp.of (zex _ _ _ _) (H))) (λH=>oM H λbw _ H=>wL (Wp.of (zcp _ _ _ _) (wL (bM H (λH=>oM H λbx w H=>oM H λbz x H=>oM H λbA y H=>wL (oM H λbC z H=>oM H λbD A H=>oM H λbE B H=>oM H λbG D H=>wL (oM H λbH E H=>oM H λbI F H=>oM H λbJ G H=>wL (oM H λbK I H=>oM H λbL J H=>oM H λbQ L H=>oM H λbR M H=>oM H λbS N H=>oM H λbU O H=>oM H λbV P H=>wL (⟨rfl,⟨P,⟨O,⟨N,⟨M,⟨L,⟨J,⟨I,⟨rfl,⟨G,⟨F,⟨E,⟨rfl,⟨D,⟨B,⟨A,⟨z,⟨rfl,⟨y,⟨x,⟨w,Wp.of (zcq _ _ _ _) (H)⟩⟩⟩⟩⟩⟩⟩⟩⟩⟩⟩⟩⟩⟩⟩⟩⟩⟩⟩⟩⟩))))) (λH=>oM H λbW _ H=>wL (Wp.of (zcX _ _ _ _) (wL (bM H (λH=>oM H λbX _ H=>oM H λbY _ H=>oM H λbZ _ H=>wL (thn (MX H) λH=>sG1 H λb4 ab ca ac H=>sG1 H λae ag cb ah H=>oM H λai aj H=>oM H λcd ak H=>oM H λce al H=>wL (oM H λam _ H=>oM H λcf _ H=>oM H λcg _ H=>oM H λci _ H=>oM H λcj _ H=>oM H λcm _ H=>oM H λR _ H=>oM H λcn _ H=>oM H λS _ H=>oM H λco _ H=>oM H λT _ H=>oM H λcp _ H=>oM H λU _ H=>oM H λcq _ H=>oM H λW _ H=>oM H λcr _ H=>oM H λX _ H=>oM H λct _ H=>Z7 H λcu h8 H=>thn (MX H) λH=>oM H λY an H=>oM H λcv ao H=>oM H λcw ap H=>wL (Wp.of (zcO _ _ _ _) (H))))) (λH=>Wp.of (zeb _ _ _ _) (wL (Wp.of (zeo _ _ _ _) (H))))))))))))))))))))⟩⟩⟩⟩⟩⟩⟩⟩⟩⟩⟩⟩⟩⟩⟩⟩⟩)⟩⟩⟩⟩⟩)⟩⟩)))))))
end
def t50:List (Nat×List Nat):=[(87,[0,5,17,18,19])]
def yE(C:fu)(Q:fD)(d e a b c:V)(h:Hp):Prop:=∀ρ:gO,ρ 0=d->ρ 5=e->ρ 17=a->ρ 18=b->ρ 19=c->WA C Tryz.f50 t50 43 [] Q ρ h
def yw(C:fu)(Q:fD)(fU:KH)(n c f g d:V)(h:Hp):Prop:=bO .lss 3 d g (dX 1 f d h λo=>oP (iL n) λp=>oP (fJ 0 p) λq=>dG 3 q h λs=>cP C lj [o,s] h λt X=>bN t (Q bF X) (oP (ez .add 3 d nO) λu=>fU n c f g u X)) (dF 1 c h λe=>bO .eql 3 e nO (dG 3 c h λv=>oP (ez .eql 3 v nO) λw=>Q w h) (bO .eql 3 e (V.I 2) (dG 3 c h λx=>oP (ez .eql 3 x (V.I 2)) λb=>oP (fF true b) λZ=>oP (gV Z (some n)) λy=>oP (fF true b) λb6=>oP (gV b6 (fJ 2 c)) λz=>oP (fF true b) λb7=>oP (gV b7 (fe z h)) λA=>oP (fF true b) λb8=>ghP b8 h (oB (jz 3 1 1 nZ [(0,A)]) λr=>some (r.2 h.next,h.new r.1)) λB h2=>oP (fF true b) λb9=>oP (gC b9 (some (jx,[y,B]))) λy9=>qP C y9 h2 λD h3=>oP (jB b D bF) λE=>Q E h3) (bO .eql 3 e (V.I 3) (dG 3 c h λF=>oP (ez .eql 3 F nZ) λa=>oP (fF true a) λi=>oP (gV i (fJ 5 c)) λG=>oP (fF true a) λj=>oP (gV j (fe G h)) λH=>oP (fF true a) λk=>oP (gV k (some n)) λI=>oP (fF true a) λl=>oP (gV l (iL I)) λJ=>oP (fF true a) λm=>oP (gV m (fJ 0 J)) λK=>oP (fF true a) λL=>oP (gV L (fJ 4 K)) λM=>oP (fF true a) λN=>oP (gV N (fe M h)) λO=>oP (fF true a) λP=>oP (gV P (fI O)) λR=>oP (fF true a) λS=>oP (gC S (some (lj,[H,R]))) λT=>qP C T h λU Y=>(h.next<=Y.next/\oP (jB a U bF) λW=>Q W Y)) (Q bF h))))
theorem Gf{C Q}(I)(s:P5 I (yw C Q)){k d e a b c h}(i:I k d e a b c h):yE C Q d e a b c h:=WA.l5 I _ s i
def A4(C:fu)(Q:fD)(a0 a1:V)(h:Hp):Prop:=oP (iL a0) λj=>oP (fJ 0 j) λb=>dF 3 b h λc=>oP (gB 6 c a1) λd=>oP (fW 6 d h) λe=>hV (zC 45 [nS,nZ,nZ,nS,nS,nZ]) h λf k=>fm (gJ 6 f e k) λl i=>dF 3 f i λa=>oP (fI a) λg=>yE C Q a0 f a g nZ i
theorem Jy{C}(s:C.start=fQ){a0 a1 h Q}(k:C.K ny [a0,a1] h=none)(H:A4 C Q a0 a1 h):cP C ny [a0,a1] h Q:=cP.vd t50 s (by unfold P0;exact Tryz.func50) k H
def t51:List (Nat×List Nat):=[(171,[0,1,16,17,18]),(14,[0,1]),(175,[0,7,54,55,56])]
def zw(C:fu)(Q:fD)(d e a b c:V)(h:Hp):Prop:=∀ρ:gO,ρ 0=d->ρ 1=e->ρ 16=a->ρ 17=b->ρ 18=c->WA C Tryz.f51 t51 85 [] Q ρ h
def oL(C:fu)(Q:fD)(a b:V)(h:Hp):Prop:=∀ρ:gO,ρ 0=a->ρ 1=b->WA C Tryz.f51 t51 7 [] Q ρ h
def zv(C:fu)(Q:fD)(d e a b c:V)(h:Hp):Prop:=∀ρ:gO,ρ 0=d->ρ 7=e->ρ 54=a->ρ 55=b->ρ 56=c->WA C Tryz.f51 t51 87 [] Q ρ h
def zD(C:fu)(Q:fD)(fU:KH)(e s b c a:V)(h:Hp):Prop:=bO .lss 3 a c (dX 1 b a h λd=>oP (iL e) λf=>oP (fJ 0 f) λg=>dJ 3 g 6 a 4 h λi=>cP C hY [d,i] h λj t=>oP (qf .not j) λk=>oP (og k (oB (some a) λl=>oB (ez .eql 3 l nZ) λm=>oB (some m) λn=>kE n (oB (some d) λo=>oB (fI o) λp=>ez .gtr 3 p nZ))) λq=>bP q (Q bF t) (oP (ez .add 3 a nO) λr=>fU e s b c r t)) (oL C Q e s h)
theorem G5{C Q}(I)(s:P5 I (zD C Q)){k d e a b c h}(i:I k d e a b c h):zw C Q d e a b c h:=WA.l5 I _ s i
def zp(C:fu)(Q:fD)(j l:V)(h:Hp):Prop:=oP (iL j) λb=>oP (fJ 0 b) λc=>dF 3 c h λd=>oP (gB 6 d l) λe=>oP (fW 6 e h) λf=>hV (zC 45 [nS,nZ,nZ,nS,nS,nZ]) h λg m=>fm (gJ 6 g f m) λn k=>dF 3 g k λa=>oP (fI a) λi=>zv C Q j g a i nZ k
theorem GB{C:fu}{Q:fD}{a b:V}{h:Hp}(H:zp C Q a b h):oL C Q a b h:=by
 rintro ρ rfl rfl;exact WA.of (by kernel_rfl) H
def zB(C:fu)(Q:fD)(d:KH)(u v b c a:V)(h:Hp):Prop:=bO .lss 3 a c (dX 1 b a h λe=>dF 1 v h λf=>oP (ez .eql 3 f (V.I 2)) λg=>oP (kE g (oB (some u) λi=>oB (iL i) λj=>oB (fJ 0 j) λk=>oB (fJ 3 k) λl=>oB (fe l h) λm=>oB (some e) λn=>oB (gB 6 m n) λo=>oB (fJ 4 o) λp=>oB (fe p h) λq=>oB (fI q) λr=>ez .neq 3 r nO)) λs=>bP s (Q bF h) (oP (ez .add 3 a nO) λt=>d u v b c t h)) (Q bT h)
theorem GY{C Q}(I)(s:P5 I (zB C Q)){k d e a b c h}(i:I k d e a b c h):zv C Q d e a b c h:=WA.l5 I _ s i
def Cj(C:fu)(Q:fD)(a0 a1:V)(h:Hp):Prop:=bO .eql 3 a1 nZ (oP (iL a0) λb=>oP (fJ 0 b) λc=>oP (fW 5 c h) λd=>cP C zz [d] h λa f=>oP (fI a) λe=>zw C Q a0 a1 a e nZ f) (oL C Q a0 a1 h)
theorem JZ{C}(s:C.start=fQ){a0 a1 h Q}(k:C.K oW [a0,a1] h=none)(H:Cj C Q a0 a1 h):cP C oW [a0,a1] h Q:=cP.vd t51 s (by unfold P0;exact Tryz.func51) k H
def t52:List (Nat×List Nat):=[]
def Af(C:fu)(Q:fD)(a0:V)(h:Hp):Prop:=oP (iL a0) λa=>oP (fJ 0 a) λb=>oP (fW 5 b h) λc=>cP C rh [c] h λd e=>Q d e
theorem Ii{C}(s:C.start=fQ){a0 h Q}(k:C.K tZ [a0] h=none)(H:Af C Q a0 h):cP C tZ [a0] h Q:=cP.vd t52 s (by unfold P0;exact Tryz.func52) k H
def t94:List (Nat×List Nat):=[(19,[0,1,2])]
def rK(C:fu)(Q:fD)(a b c:V)(h:Hp):Prop:=∀ρ:gO,ρ 0=a->ρ 1=b->ρ 2=c->WA C Tryz.f94 t94 9 [] Q ρ h
def rM(C:fu)(Q:fD)(fU:Tu)(d e a:V)(h:Hp):Prop:=bO .geq 3 a nZ (bO .eql 3 e a (Q bT h) (dN 7 d h λb=>dX 1 b a h λc=>fU d e c h)) (Q bF h)
theorem Bb{C Q}(I)(s:P3 I (rM C Q)){k a b c h}(i:I k a b c h):rK C Q a b c h:=WA.l3 I _ s i
def vM(C:fu)(Q:fD)(a0 a1 a2:V)(h:Hp):Prop:=rK C Q a0 a1 a2 h
theorem DB{C}(s:C.start=fQ){a0 a1 a2 h Q}(k:C.K mK [a0,a1,a2] h=none)(H:vM C Q a0 a1 a2 h):cP C mK [a0,a1,a2] h Q:=cP.vd t94 s (by unfold P0;exact Tryz.func94) k H
def t81:List (Nat×List Nat):=[(43,[0,2,3,11,12,13])]
def yM(C:fu)(Q:fD)(d e f a b c:V)(h:Hp):Prop:=∀ρ:gO,ρ 0=d->ρ 2=e->ρ 3=f->ρ 11=a->ρ 12=b->ρ 13=c->WA C Tryz.f81 t81 21 [] Q ρ h
def yD(C:fu)(Q:fD)(fU:Q1)(d g S e f b:V)(h:Hp):Prop:=bO .lss 3 b f (dX 1 e b h λc=>dN 5 d h λi=>dX 1 i c h λj=>oP (ez .eql 3 j g) λk=>oP (kE k (oB (some d) λl=>oB (iL l) λm=>oB (fJ 6 m) λn=>oB (fe n h) λo=>oB (some c) λp=>oB (gB 1 o p) λq=>oB (fe q h) λr=>oB (some S) λs=>ez .geq 3 r s)) λa=>oP (fF false a) λt=>oP (gV t (some d)) λu=>oP (fF false a) λv=>oP (gV v (some d)) λw=>oP (fF false a) λx=>oP (gV x (iL w)) λy=>oP (fF false a) λz=>oP (gV z (fJ 5 y)) λA=>oP (fF false a) λB=>oP (gV B (fe A h)) λD=>oP (fF false a) λE=>oP (gV E (some c)) λF=>oP (fF false a) λG=>oP (gV G (gB 1 D F)) λH=>oP (fF false a) λI=>oP (gV I (fe H h)) λJ=>oP (fF false a) λK=>oP (gV K (some g)) λL=>oP (fF false a) λM=>oP (gC M (some (mK,[u,J,L]))) λN=>qP C N h λO T=>oP (og a (qf .not O)) λP=>bP P (Q bF T) (oP (ez .add 3 b nO) λR=>fU d g S e f R T)) (Q bT h)
theorem Ge{C Q}(I)(s:P6 I (yD C Q)){k d e f a b c h}(i:I k d e f a b c h):yM C Q d e f a b c h:=WA.l6 I _ s i
def Bl(C:fu)(Q:fD)(a0 a1 a2 a3:V)(h:Hp):Prop:=oP (fI a1) λa=>yM C Q a0 a2 a3 a1 a nZ h
theorem Jz{C}(s:C.start=fQ){a0 a1 a2 a3 h Q}(k:C.K jK [a0,a1,a2,a3] h=none)(H:Bl C Q a0 a1 a2 a3 h):cP C jK [a0,a1,a2,a3] h Q:=cP.vd t81 s (by unfold P0;exact Tryz.func81) k H
def t82:List (Nat×List Nat):=[(43,[0,2,3,19,20,21])]
def qY(C:fu)(Q:fD)(d e f a b c:V)(h:Hp):Prop:=∀ρ:gO,ρ 0=d->ρ 2=e->ρ 3=f->ρ 19=a->ρ 20=b->ρ 21=c->WA C Tryz.f82 t82 21 [] Q ρ h
def qS(C:fu)(Q:fD)(fU:Q1)(f g i d e b:V)(h:Hp):Prop:=bO .lss 3 b e (oP (gB 4 d b) λj=>oP (fW 4 j h) λk=>hV (zC 49 [nZ,nZ,nS,nS]) h λc E=>fm (gJ 4 c k E) λH A=>dF 2 c A λl=>cP C jK [f,l,g,i] A λm B=>oP (qf .not m) λa=>oP (fF false a) λF=>oP (gV F (some f)) λn=>oP (fF false a) λG=>oP (gV G (fJ 3 c)) λo=>oP (fF false a) λp=>oP (gV p (fe o B)) λq=>oP (fF false a) λr=>oP (gV r (some g)) λs=>oP (fF false a) λt=>oP (gV t (some i)) λu=>oP (fF false a) λv=>oP (gC v (some (jK,[n,q,s,u]))) λw=>qP C w B λx D=>oP (og a (qf .not x)) λy=>bP y (Q bF D) (oP (ez .add 3 b nO) λz=>fU f g i d e z D)) (Q bT h)
theorem Bt{C Q}(I)(s:P6 I (qS C Q)){k d e f a b c h}(i:I k d e f a b c h):qY C Q d e f a b c h:=WA.l6 I _ s i
def wi(C:fu)(Q:fD)(a0 a1 a2 a3:V)(h:Hp):Prop:=oP (iL a0) λb=>oP (fJ 0 b) λc=>dJ 4 c 1 a1 0 h λa=>oP (fI a) λd=>qY C Q a0 a2 a3 a d nZ h
theorem Er{C}(s:C.start=fQ){a0 a1 a2 a3 h Q}(k:C.K jE [a0,a1,a2,a3] h=none)(H:wi C Q a0 a1 a2 a3 h):cP C jE [a0,a1,a2,a3] h Q:=cP.vd t82 s (by unfold P0;exact Tryz.func82) k H
def t53:List (Nat×List Nat):=[(175,[0,1,5,6,24,25,26]),(1356591,[0,1,5,6,24,25,26,43,44,45]),(3886,[0,1,5,6,24,25,26])]
def xD(C:fu)(Q:fD)(d e f g a b c:V)(h:Hp):Prop:=∀ρ:gO,ρ 0=d->ρ 1=e->ρ 5=f->ρ 6=g->ρ 24=a->ρ 25=b->ρ 26=c->WA C Tryz.f53 t53 87 [] Q ρ h
def xP(C:fu)(Q:fD)(fU:Rm)(g i j k a b c d e f:V)(h:Hp):Prop:=∀ρ:gO,ρ 0=g->ρ 1=i->ρ 5=j->ρ 6=k->ρ 24=a->ρ 25=b->ρ 26=c->ρ 43=d->ρ 44=e->ρ 45=f->WA C Tryz.f53 t53 678295 [λρ h=>fU (ρ 0) (ρ 1) (ρ 5) (ρ 6) (ρ 24) (ρ 25) (ρ 26) h] Q ρ h
def pI(C:fu)(Q:fD)(fU:Rm)(d e f g a b c:V)(h:Hp):Prop:=∀ρ:gO,ρ 0=d->ρ 1=e->ρ 5=f->ρ 6=g->ρ 24=a->ρ 25=b->ρ 26=c->WA C Tryz.f53 t53 1943 [λρ h=>fU (ρ 0) (ρ 1) (ρ 5) (ρ 6) (ρ 24) (ρ 25) (ρ 26) h] Q ρ h
def wZ(C:fu)(Q:fD)(fU:Rm)(d g j s e f b:V)(h:Hp):Prop:=bO .lss 3 b f (dX 1 e b h λt=>oP (iL d) λu=>oP (fJ 0 u) λv=>dF 2 v h λw=>oP (gB 6 w t) λx=>oP (fW 6 x h) λy=>hV (zC 34 [nZ,nZ,nZ,nZ,nS,nZ]) h λi h1=>fm (gJ 6 i y h1) λvu k=>dF 0 i k λz=>bO .eql 3 z (V.I 21) (dF 4 i k λl=>oP (fI l) λA=>xP C Q fU d g j s e f b l A nZ k) (oP (fW 6 i k) λB=>cP C p9 [B] k λD h3=>cP C jK [d,D,g,b] h3 λE h4=>oP (qf .not E) λc=>oP (fF false c) λb8=>oP (gV b8 (fJ 0 i)) λF=>oP (fF false c) λb9=>oP (gV b9 (fe F h4)) λG=>oP (fF false c) λH=>oP (gC H (some (oJ,[G]))) λI=>qP C I h4 λJ h5=>oP (fF false c) λK=>oP (gV K (some J)) λa=>oP (fF true a) λL=>oP (gV L (some d)) λM=>oP (fF true a) λN=>oP (gV N (fJ 5 i)) λO=>oP (fF true a) λP=>oP (gV P (fe O h5)) λR=>oP (fF true a) λS=>oP (gV S (some g)) λT=>oP (fF true a) λU=>oP (gV U (some b)) λW=>oP (fF true a) λX=>oP (gC X (some (jE,[M,R,T,W]))) λY=>qP C Y h5 λZ h6=>oP (fF true a) λaa=>oP (gV aa (qf .not Z)) λab=>oP (og c (jB a ab bF)) λac=>bP ac (Q bF h6) (pI C Q fU d g j s e f b h6))) (dF 1 j h λm=>bO .eql 3 m (V.I 2) (dF 2 j h λn=>hV (jz 3 1 1 nZ [(0,n)]) h λo h7=>cP C jK [d,o,g,s] h7 λp h8=>Q p h8) (bO .eql 3 m (V.I 3) (dF 5 j h λq=>cP C jE [d,q,g,s] h λr h9=>Q r h9) (Q bT h)))
theorem Ez{C Q}(I)(s:P7 I (wZ C Q)){k d e f g a b c h}(i:I k d e f g a b c h):xD C Q d e f g a b c h:=WA.l7 I _ s i
def xW(C:fu)(Q:fD)(fU:Rm)(k:K7)(i y j z c d e f g a:V)(h:Hp):Prop:=bO .lss 3 a g (dX 1 f a h λl=>yp (jz 3 1 1 nZ [(0,l)]) h λm n b=>dY 4 j 1 a b λo=>oP (iL i) λp=>oP (fJ 0 p) λq=>dF 3 q b λr=>dY 4 j 1 a b λs=>oP (gB 6 r s) λt=>dG 0 t b λu=>((b.get (h.next)=some m/\O.beq m m=true)/\cP C jK [i,n,o,u] b λv w=>(b.next<=w.next/\bN v (Q bF w) (oP (ez .add 3 a nO) λx=>k i y j z c d e f g x w)))) (pI C Q fU i y j z c d e h)
theorem Fq{C Q fU}(I)(s:P10 I (xW C Q fU)){k g j l m a b c d e f h}(i:I k g j l m a b c d e f h):xP C Q fU g j l m a b c d e f h:=WA.l10 I _ s i
def pN(C:fu)(Q:fD)(fU:Rm)(e f g i a b c:V)(h:Hp):Prop:=oP (ez .add 3 c nO) λd=>fU e f g i a b d h
theorem wH{C:fu}{Q:fD}{fU:Rm}{d e f g a b c:V}{h:Hp}(H:pN C Q fU d e f g a b c h):pI C Q fU d e f g a b c h:=by
 rintro ρ rfl rfl rfl rfl rfl rfl rfl;exact WA.of (by kernel_rfl) H
def zY(C:fu)(Q:fD)(a0 a1:V)(h:Hp):Prop:=oP (iL a0) λc=>oP (fJ 0 c) λd=>dF 3 d h λe=>oP (gB 6 e a1) λf=>oP (fW 6 f h) λg=>hV (zC 45 [nS,nZ,nZ,nS,nS,nZ]) h λb l=>fm (gJ 6 b g l) λm i=>dG 0 b i λj=>dF 0 b i λa=>oP (fI a) λk=>xD C Q a0 a1 b j a k nZ i
theorem Ih{C}(s:C.start=fQ){a0 a1 h Q}(k:C.K mV [a0,a1] h=none)(H:zY C Q a0 a1 h):cP C mV [a0,a1] h Q:=cP.vd t53 s (by unfold P0;exact Tryz.func53) k H
def t20:List (Nat×List Nat):=[]
def Mc(C:fu)(Q:fD)(a0:V)(h:Hp):Prop:=hV (lR 30 a0) h λe f=>dG 2 e f λv7=>oP (ez .gtr 3 v7 (V.I 3000)) λv8=>oP (og v8 (oB (fJ 3 e) λp=>oB (fe p f) λq=>oB (fI q) λr=>ez .gtr 3 r (V.I 300))) λs=>oP (og s (oB (fJ 4 e) λt=>oB (fe t f) λu=>oB (fI u) λv=>ez .gtr 3 v (V.I 1000))) λw=>oP (og w (oB (fJ 3 e) λx=>oB (fe x f) λy=>oB (fI y) λz=>ez .eql 3 z nZ)) λA=>bP A (Q bF f) (oP (fW 5 e f) λB=>oP (fV [nZ,nZ,nS,nS,nS,nS,nS,nS] [(0,5),(5,1),(6,1),(7,1)] [(0,B)]) λD=>hV (lR 96 D) f λa h2=>dG 4 e h2 λE=>cP C j5 [a,E,(V.func mW [a] [])] h2 λF h3=>oP (qf .not F) λg=>oP (fF false g) λb9=>oP (gV b9 (some a)) λG=>oP (fF false g) λH=>oP (gC H (some (pH,[G]))) λI=>qP C I h3 λJ h4=>oP (og g (qf .not J)) λb=>oP (fF false b) λi=>oP (gV i (some a)) λK=>oP (fF false b) λL=>oP (gV L (fJ 2 e)) λM=>oP (fF false b) λN=>oP (gV N (fe M h4)) λO=>oP (fF false b) λj=>oP (gV j (fI O)) λP=>oP (fF false b) λk=>oP (gV k (some a)) λR=>oP (fF false b) λl=>oP (gV l (some (V.func kQ [R] []))) λS=>oP (fF false b) λm=>oP (gC m (some (j5,[K,P,S]))) λT=>qP C T h4 λU h5=>oP (og b (qf .not U)) λc=>oP (fF false c) λW=>oP (gV W (some a)) λX=>oP (fF false c) λY=>oP (gV Y (fJ 3 e)) λZ=>oP (fF false c) λaa=>oP (gV aa (fe Z h5)) λab=>oP (fF false c) λac=>oP (gV ac (fI ab)) λae=>oP (fF false c) λag=>oP (gV ag (some a)) λah=>oP (fF false c) λai=>oP (gV ai (some (V.func ny [ah] []))) λaj=>oP (fF false c) λak=>oP (gC ak (some (j5,[X,ae,aj]))) λal=>qP C al h5 λam h6=>oP (og c (qf .not am)) λd=>oP (fF false d) λan=>oP (gV an (some a)) λao=>oP (fF false d) λap=>oP (gV ap (fJ 3 e)) λaq=>oP (fF false d) λar=>oP (gV ar (fe aq h6)) λau=>oP (fF false d) λaw=>oP (gV aw (fI au)) λax=>oP (fF false d) λay=>oP (gV ay (some a)) λaA=>oP (fF false d) λaB=>oP (gV aB (some (V.func oW [aA] []))) λaC=>oP (fF false d) λaD=>oP (gC aD (some (j5,[ao,ax,aC]))) λaE=>qP C aE h6 λaF h7=>oP (og d (qf .not aF)) λaG=>bP aG (Q bF h7) (cP C tZ [a] h7 λaH o=>oP (fI aH) λaI=>dG 3 e o λaJ=>bO .neq 3 aI aJ (Q bF o) (oP (fW 5 e o) λaK=>cP C pT [aK] o λaL h9=>oP (iL a) λaM=>oP (fJ 7 aM) λaN=>fm (gJ 1 aN aL h9) λvu n=>dG 3 e n λaO=>cP C j5 [a,aO,(V.func mV [a] [])] n λaP aQ=>Q aP aQ)))
theorem SQ{C}(s:C.start=fQ){a0 h Q}(k:C.K Cf [a0] h=none)(H:Mc C Q a0 h):cP C Cf [a0] h Q:=cP.vd t20 s (by unfold P0;exact Tryz.func20) k H
end
