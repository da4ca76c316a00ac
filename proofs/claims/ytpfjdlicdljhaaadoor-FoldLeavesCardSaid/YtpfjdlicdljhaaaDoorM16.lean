/- Parts. -/
import Derived.Test.YtpfjdlicdljhaaaDoorM14
set_option maxHeartbeats 4000000
namespace Go.Proofs.YtpfjdlicdljhaaaDoor.Hx
set_option maxRecDepth 100000
noncomputable section
def t56:List (Nat×List Nat):=[(126,[1,3,4,5]),(319,[1,3,4,5])]
def yV(C:fk)(Q:fo)(a b c d:V)(h:Hp):Prop:=∀ρ:gf,ρ 1=a->ρ 3=b->ρ 4=c->ρ 5=d->WA C Tryd.f56 t56 63 [] Q ρ h
def DB(C:fk)(Q:fo)(a b c d:V)(h:Hp):Prop:=∀ρ:gf,ρ 1=a->ρ 3=b->ρ 4=c->ρ 5=d->WA C Tryd.f56 t56 159 [] Q ρ h
def Dr(C:fk)(Q:fo)(a b c d:V)(h:Hp):Prop:=DB C Q a b c d h
theorem KJ{C:fk}{Q:fo}{a b c d:V}{h:Hp}(H:Dr C Q a b c d h):yV C Q a b c d h:=by
 rintro ρ rfl rfl rfl rfl;exact WA.of (by kernel_rfl) H
def Dl(C:fk)(Q:fo)(c:JA)(i e f d:V)(h:Hp):Prop:=oP (fy d) λj=>bO .gtr 3 j nZ (oP (fy d) λk=>oP (eo .sub 3 k nO) λl=>oP (gI 2 d l) λa=>dF 3 i h λm=>dN 0 a h λn=>dI 6 m n 3 h λg=>dN 1 a h λo=>oP (fy g) λp=>bO .eql 3 o p (dN 0 a h λq=>im (ji 3 1 1 nZ [(0,q)]) h λr R=>fi (eQ 3 1 8 f r R) λs O=>oP (fy d) λt=>oP (eo .sub 3 t nO) λu=>oP (iK 2 d none (some u) O) λv=>c i e s v O) (dN 1 a h λw=>dX 1 g w h λb=>dN 1 a h λx=>oP (eo .add 3 x nO) λy=>oP (ij a) λz=>oP (fH 1 z) λA=>fi (gG 1 A y h) λZ S=>oP (fy e) λB=>cP C jN [b,B] S λD E=>oP (jz D (oB (some e) λF=>oB (some b) λG=>oB (gI 1 F G) λH=>oB (ey H E) λI=>oD .not I)) λJ=>bP J (oP (gI 1 e b) λK=>fi (gG 1 K bT E) λP T=>oP (fR [nZ,nZ] [(0,1),(1,1)] [(0,b),(1,nZ)]) λL=>im (ji 105 2 1 (V.agg [nZ,nZ]) [(0,L)]) T λM U=>fi (eQ 105 2 16 d M U) λN W=>c i e f N W) (c i e f d E))) (cP C kj [f] h λX Y=>Q f Y)
theorem Kh{C Q}(I)(s:P4 I (Dl C Q)){k a b c d h}(i:I k a b c d h):DB C Q a b c d h:=WA.l4 I _ s i
def IY(C:fk)(Q:fo)(a0:V)(h:Hp):Prop:=im (pU 29 a0) h λc k=>dG 3 c k λb=>im (ie 4 1 1 bF b b) k λa d=>dG 3 c d λe=>bO .gtr 3 e nZ (oP (fR [nZ,nZ] [(0,1),(1,1)] []) λf=>im (ji 105 2 1 (V.agg [nZ,nZ]) [(0,f)]) d λg l=>fi (eQ 105 2 16 nS g l) λi m=>oP (gI 1 a nZ) λj=>fi (gG 1 j bT m) λo n=>yV C Q c a nS i n) (yV C Q c a nS nS d)
theorem PI{C}(s:C.start=fV){a0 h Q}(k:C.K nz [a0] h=none)(H:IY C Q a0 h):cP C nz [a0] h Q:=cP.vd t56 s (by unfold P0;exact Tryd.func56) k H
def t54:List (Nat×List Nat):=[(87,[3,13,14,15]),(22935,[3,4,13,14,15,21,22,23]),(498070,[3,4,13,14,15,21,22,23])]
def DR(C:fk)(Q:fo)(d a b c:V)(h:Hp):Prop:=∀ρ:gf,ρ 3=d->ρ 13=a->ρ 14=b->ρ 15=c->WA C Tryd.f54 t54 43 [] Q ρ h
def D1(C:fk)(Q:fo)(a:JA)(i j b c d e f g:V)(h:Hp):Prop:=∀ρ:gf,ρ 3=i->ρ 4=j->ρ 13=b->ρ 14=c->ρ 15=d->ρ 21=e->ρ 22=f->ρ 23=g->WA C Tryd.f54 t54 11467 [λρ h=>a (ρ 3) (ρ 13) (ρ 14) (ρ 15) h] Q ρ h
def w7(C:fk)(Q:fo)(a:JA)(b:Ju)(j k c d e f g i:V)(h:Hp):Prop:=∀ρ:gf,ρ 3=j->ρ 4=k->ρ 13=c->ρ 14=d->ρ 15=e->ρ 21=f->ρ 22=g->ρ 23=i->WA C Tryd.f54 t54 249035 [λρ h=>a (ρ 3) (ρ 13) (ρ 14) (ρ 15) h,λρ h=>b (ρ 3) (ρ 4) (ρ 13) (ρ 14) (ρ 15) (ρ 21) (ρ 22) (ρ 23) h] Q ρ h
def DC(C:fk)(Q:fo)(e:JA)(j b c a:V)(h:Hp):Prop:=bO .lss 3 a c (oP (gI 6 b a) λf=>oP (gy 6 f h) λg=>im (zC 41 [nS,nZ,nZ,nS,nS,nZ]) h λk m=>fi (gG 6 k g m) λn l=>dF 3 k l λd=>oP (fy d) λi=>D1 C Q e j a b c a d i nZ l) (Q j h)
theorem Kl{C Q}(I)(s:P4 I (DC C Q)){k d a b c h}(i:I k d a b c h):DR C Q d a b c h:=WA.l4 I _ s i
def Dg(C:fk)(Q:fo)(b:JA)(k:Ju)(j l c d e f g a:V)(h:Hp):Prop:=bO .lss 3 a g (dX 1 f a h λi=>oP (fy j) λm=>cP C jN [i,m] h λn o=>bP n (dX 1 j i o λp=>im (ji 3 1 1 nZ [(0,l)]) o λq u=>fi (eQ 3 1 8 p q u) λr v=>oP (gI 1 j i) λs=>fi (gG 1 s r v) λx w=>w7 C Q b k j l c d e f g a w) (w7 C Q b k j l c d e f g a o)) (oP (eo .add 3 e nO) λt=>b j c d t h)
theorem KH{C Q a}(I)(s:P8 I (Dg C Q a)){k j l b c d e f g h}(i:I k j l b c d e f g h):D1 C Q a j l b c d e f g h:=WA.l8 I _ s i
def Cu(C:fk)(Q:fo)(j:JA)(a:Ju)(k l b c d e f g:V)(h:Hp):Prop:=oP (eo .add 3 g nO) λi=>a k l b c d e f i h
theorem Jt{C:fk}{Q:fo}{a:JA}{b:Ju}{j k c d e f g i:V}{h:Hp}(H:Cu C Q a b j k c d e f g i h):w7 C Q a b j k c d e f g i h:=by
 rintro ρ rfl rfl rfl rfl rfl rfl rfl rfl;exact WA.of (by kernel_rfl) H
def Jq(C:fk)(Q:fo)(a0:V)(h:Hp):Prop:=im (pU 29 a0) h λe f=>dG 3 e f λa=>im (ie 22 1 24 nS a a) f λc g=>dF 3 e g λb=>oP (fy b) λd=>DR C Q c b d nZ g
theorem OM{C}(s:C.start=fV){a0 h Q}(k:C.K wE [a0] h=none)(H:Jq C Q a0 h):cP C wE [a0] h Q:=cP.vd t54 s (by unfold P0;exact Tryd.func54) k H
def t38:List (Nat×List Nat):=[(175,[3,4,5,6,30,31]),(351,[3,4,5,6,38,39,40]),(5631,[3,4,5,10,11]),(370175,[3,4,5,10,11,59,60,61]),(362391039,[3,4,5,10,11,13,14,59,60,61,68,69,70]),(8147019262,[3,4,5,10,11,13,14,59,60,61,68,69,70]),(7972350,[3,4,5,10,11,59,60,61])]
def xh(C:fk)(Q:fo)(c d e f a b:V)(h:Hp):Prop:=∀ρ:gf,ρ 3=c->ρ 4=d->ρ 5=e->ρ 6=f->ρ 30=a->ρ 31=b->WA C Tryd.f38 t38 87 [] Q ρ h
def xm(C:fk)(Q:fo)(d e f g a b c:V)(h:Hp):Prop:=∀ρ:gf,ρ 3=d->ρ 4=e->ρ 5=f->ρ 6=g->ρ 38=a->ρ 39=b->ρ 40=c->WA C Tryd.f38 t38 175 [] Q ρ h
def xB(C:fk)(Q:fo)(c d e a b:V)(h:Hp):Prop:=∀ρ:gf,ρ 3=c->ρ 4=d->ρ 5=e->ρ 10=a->ρ 11=b->WA C Tryd.f38 t38 2815 [] Q ρ h
def xK(C:fk)(Q:fo)(a:HB)(g i j b c d e f:V)(h:Hp):Prop:=∀ρ:gf,ρ 3=g->ρ 4=i->ρ 5=j->ρ 10=b->ρ 11=c->ρ 59=d->ρ 60=e->ρ 61=f->WA C Tryd.f38 t38 185087 [λρ h=>a (ρ 3) (ρ 4) (ρ 5) (ρ 10) (ρ 11) h] Q ρ h
def xA(C:fk)(Q:fo)(a:HB)(b:Ju)(n o p c d e f g i j k l m:V)(h:Hp):Prop:=∀ρ:gf,ρ 3=n->ρ 4=o->ρ 5=p->ρ 10=c->ρ 11=d->ρ 13=e->ρ 14=f->ρ 59=g->ρ 60=i->ρ 61=j->ρ 68=k->ρ 69=l->ρ 70=m->WA C Tryd.f38 t38 181195519 [λρ h=>a (ρ 3) (ρ 4) (ρ 5) (ρ 10) (ρ 11) h,λρ h=>b (ρ 3) (ρ 4) (ρ 5) (ρ 10) (ρ 11) (ρ 59) (ρ 60) (ρ 61) h] Q ρ h
def mB(C:fk)(Q:fo)(a:HB)(b:Ju)(c:FO)(o p q d e f g i j k l m n:V)(h:Hp):Prop:=∀ρ:gf,ρ 3=o->ρ 4=p->ρ 5=q->ρ 10=d->ρ 11=e->ρ 13=f->ρ 14=g->ρ 59=i->ρ 60=j->ρ 61=k->ρ 68=l->ρ 69=m->ρ 70=n->WA C Tryd.f38 t38 4073509631 [λρ h=>a (ρ 3) (ρ 4) (ρ 5) (ρ 10) (ρ 11) h,λρ h=>b (ρ 3) (ρ 4) (ρ 5) (ρ 10) (ρ 11) (ρ 59) (ρ 60) (ρ 61) h,λρ h=>c (ρ 3) (ρ 4) (ρ 5) (ρ 10) (ρ 11) (ρ 13) (ρ 14) (ρ 59) (ρ 60) (ρ 61) (ρ 68) (ρ 69) (ρ 70) h] Q ρ h
def px(C:fk)(Q:fo)(a:HB)(b:Ju)(i j k c d e f g:V)(h:Hp):Prop:=∀ρ:gf,ρ 3=i->ρ 4=j->ρ 5=k->ρ 10=c->ρ 11=d->ρ 59=e->ρ 60=f->ρ 61=g->WA C Tryd.f38 t38 3986175 [λρ h=>a (ρ 3) (ρ 4) (ρ 5) (ρ 10) (ρ 11) h,λρ h=>b (ρ 3) (ρ 4) (ρ 5) (ρ 10) (ρ 11) (ρ 59) (ρ 60) (ρ 61) h] Q ρ h
def xH(C:fk)(Q:fo)(d:NO)(c k e l b a:V)(h:Hp):Prop:=bO .lss 3 a b (oP (ey e h) λf=>oP (gI 1 f a) λg=>fi (gG 1 g (V.I (-1)) h) λn m=>oP (eo .add 3 a nO) λi=>d c k e l b i m) (oP (fy c) λj=>xm C Q c k e l c j nZ h)
theorem EL{C Q}(I)(s:P6 I (xH C Q)){k c d e f a b h}(i:I k c d e f a b h):xh C Q c d e f a b h:=WA.l6 I _ s i
def xz(C:fk)(Q:fo)(e:Og)(f q b g c d a:V)(h:Hp):Prop:=bO .lss 3 a d (dX 1 c a h λi=>oP (ey g h) λj=>oP (gI 1 j i) λk=>fi (gG 1 k a h) λu s=>oP (eo .add 3 a nO) λl=>e f q b g c d l s) (oP (fy f) λm=>bO .eql 3 m nZ (oP (ey b h) λn=>Q n h) (oP (ey b h) λo=>oP (gI 1 o nZ) λp=>fi (gG 1 p nZ h) λr t=>xB C Q f q b (V.func iS [] [g,b]) bT t))
theorem EZ{C Q}(I)(s:P7 I (xz C Q)){k d e f g a b c h}(i:I k d e f g a b c h):xm C Q d e f g a b c h:=WA.l7 I _ s i
def xi(C:fk)(Q:fo)(e:HB)(k m f g i:V)(h:Hp):Prop:=bP i (oP (iK 1 k (some nO) none h) λa=>oP (fy a) λj=>xK C Q e k m f g bF a j nZ h) (oP (ey f h) λb=>oP (gI 1 b nZ) λc=>fi (gG 1 c (V.I (-1)) h) λn l=>oP (ey f l) λd=>Q d l)
theorem EW{C Q}(I)(s:P5 I (xi C Q)){k c d e a b h}(i:I k c d e a b h):xB C Q c d e a b h:=WA.l5 I _ s i
def xr(C:fk)(Q:fo)(b:HB)(j:Ju)(m k n c d e f a:V)(h:Hp):Prop:=bO .lss 3 a f (dX 1 e a h λg=>dX 1 k g h λi=>oP (fy i) λl=>xA C Q b j m k n c d g (V.I (-1)) e f a i l nZ h) (b m k n c d h)
theorem E4{C Q a}(I)(s:P8 I (xr C Q a)){k g j l b c d e f h}(i:I k g j l b c d e f h):xK C Q a g j l b c d e f h:=WA.l8 I _ s i
def xk(C:fk)(Q:fo)(b:HB)(c:Ju)(o:FO)(q r n a k d e f g i l m j:V)(h:Hp):Prop:=bO .lss 3 j m (dX 1 l j h λp=>oP (ey n h) λs=>dX 1 s p h λt=>bO .lss 3 t nZ (mB C Q b c o q r n a k d e f g i l m j h) (bO .lss 3 e nZ (mB C Q b c o q r n a k d p f g i l m j h) (gP C (fU a [e,p]) h λu z=>mB C Q b c o q r n a k d u f g i l m j z))) (oP (ey n h) λv=>dX 1 v d h λw=>bO .neq 3 w e (oP (ey n h) λx=>oP (gI 1 x d) λy=>fi (gG 1 y e h) λB A=>px C Q b c q r n a bT f g i A) (px C Q b c q r n a k f g i h))
theorem EM{C Q a b}(I)(s:P13 I (xk C Q a b)){k p q r c d e f g j l m n o h}(i:I k p q r c d e f g j l m n o h):xA C Q a b p q r c d e f g j l m n o h:=WA.l13 I _ s i
def mq(C:fk)(Q:fo)(n:HB)(o:Ju)(a:FO)(p q r b c d e f g i j k l:V)(h:Hp):Prop:=oP (eo .add 3 l nO) λm=>a p q r b c d e f g i j k m h
theorem py{C:fk}{Q:fo}{a:HB}{b:Ju}{c:FO}{o p q d e f g i j k l m n:V}{h:Hp}(H:mq C Q a b c o p q d e f g i j k l m n h):mB C Q a b c o p q d e f g i j k l m n h:=by
 rintro ρ rfl rfl rfl rfl rfl rfl rfl rfl rfl rfl rfl rfl rfl;exact WA.of (by kernel_rfl) H
def pw(C:fk)(Q:fo)(i:HB)(a:Ju)(j k l b c d e f:V)(h:Hp):Prop:=oP (eo .add 3 f nO) λg=>a j k l b c d e g h
theorem wT{C:fk}{Q:fo}{a:HB}{b:Ju}{i j k c d e f g:V}{h:Hp}(H:pw C Q a b i j k c d e f g h):px C Q a b i j k c d e f g h:=by
 rintro ρ rfl rfl rfl rfl rfl rfl rfl rfl;exact WA.of (by kernel_rfl) H
def Bb(C:fk)(Q:fo)(a0:V)(h:Hp):Prop:=im (pU 29 a0) h λe m=>oP (gy 5 e m) λq=>oP (gy 5 e m) λf=>cP C nz [q] m λr n=>(m.next<=n.next/\((gy 5 e n=some f)/\cP C wE [f] n λs o=>(n.next<=o.next/\oP (fH 3 e) λg=>oP (ey g o) λi=>oP (fy i) λj=>xR (ie 3 1 8 nZ j j) o λt u p=>oP (fH 3 e) λb=>oP (ey b p) λc=>oP (fy c) λk=>xR (ie 3 1 8 nZ k k) p λd v D=>xR (zC 22 [nS]) D λw x E=>xR (zC 22 [nS]) E λy F a=>((a.get (E.next)=some y/\O.beq y y=true)/\((a.get (D.next)=some w/\O.beq w w=true)/\((a.get (p.next)=some d/\O.beq d d=true)/\((ey b a=some c)/\((a.get (o.next)=some t/\O.beq t t=true)/\((ey g a=some i)/\fi (gG 1 x u a) λH l=>(a.next<=l.next/\((l.get (p.next)=some d/\O.beq d d=true)/\((ey b l=some c)/\fi (gG 1 F v l) λG z=>(l.next<=z.next/\oP (ey x z) λA=>oP (fy A) λB=>xh C Q r s x F B nZ z)))))))))))))
theorem IM{C}(s:C.start=fV){a0 h Q}(k:C.K p9 [a0] h=none)(H:Bb C Q a0 h):cP C p9 [a0] h Q:=cP.vd t38 s (by unfold P0;exact Tryd.func38) k H
def t57:List (Nat×List Nat):=[(19,[0,1,2,3])]
def vR(C:fk)(Q:fo)(a b c d:V)(h:Hp):Prop:=∀ρ:gf,ρ 0=a->ρ 1=b->ρ 2=c->ρ 3=d->WA C Tryd.f57 t57 9 [] Q ρ h
def vE(C:fk)(Q:fo)(a:JA)(b c d e:V)(h:Hp):Prop:=bO .neq 3 b c (oP (ey d h) λf=>dX 1 f b h λg=>oP (ey d h) λi=>dX 1 i c h λj=>bO .gtr 3 g j (oP (ey e h) λk=>dX 1 k b h λl=>a l c d e h) (oP (ey e h) λm=>dX 1 m c h λn=>a b n d e h)) (Q b h)
theorem CW{C Q}(I)(s:P4 I (vE C Q)){k a b c d h}(i:I k a b c d h):vR C Q a b c d h:=WA.l4 I _ s i
def yo(C:fk)(Q:fo)(a0 a1 a2 a3:V)(h:Hp):Prop:=vR C Q a0 a1 a2 a3 h
theorem Gx{C}(s:C.start=fV){a0 a1 a2 a3 h Q}(k:C.K iS [a0,a1,a2,a3] h=none)(H:yo C Q a0 a1 a2 a3 h):cP C iS [a0,a1,a2,a3] h Q:=cP.vd t57 s (by unfold P0;exact Tryd.func57) k H
def t31:List (Nat×List Nat):=[(43,[1,2,7])]
def wD(C:fk)(Q:fo)(a b c:V)(h:Hp):Prop:=∀ρ:gf,ρ 1=a->ρ 2=b->ρ 7=c->WA C Tryd.f31 t31 21 [] Q ρ h
def wI(C:fk)(Q:fo)(a:RK)(e f b:V)(h:Hp):Prop:=bO .lss 3 b e (gP C (fU f [b]) h λc g=>bN c (Q bF g) (oP (eo .add 3 b nO) λd=>a e f d g)) (Q bT h)
theorem Dv{C Q}(I)(s:P3 I (wI C Q)){k a b c h}(i:I k a b c h):wD C Q a b c h:=WA.l3 I _ s i
def zP(C:fk)(Q:fo)(a0 a1 a2:V)(h:Hp):Prop:=wD C Q a1 a2 nZ h
theorem Hb{C}(s:C.start=fV){a0 a1 a2 h Q}(k:C.K je [a0,a1,a2] h=none)(H:zP C Q a0 a1 a2 h):cP C je [a0,a1,a2] h Q:=cP.vd t31 s (by unfold P0;exact Tryd.func31) k H
def t47:List (Nat×List Nat):=[(43,[0,7,8,9]),(56522,[0,7,8,9,31])]
def uS(C:fk)(Q:fo)(a b c d:V)(h:Hp):Prop:=∀ρ:gf,ρ 0=a->ρ 7=b->ρ 8=c->ρ 9=d->WA C Tryd.f47 t47 21 [] Q ρ h
def jt(C:fk)(Q:fo)(a:JA)(c d e f b:V)(h:Hp):Prop:=∀ρ:gf,ρ 0=c->ρ 7=d->ρ 8=e->ρ 9=f->ρ 31=b->WA C Tryd.f47 t47 28261 [λρ h=>a (ρ 0) (ρ 7) (ρ 8) (ρ 9) h] Q ρ h
def ug(C:fk)(Q:fo)(a:JA)(c f g d:V)(h:Hp):Prop:=bO .lss 3 d g (dX 1 f d h λi=>oP (ij c) λm=>oP (fH 0 m) λn=>dG 2 n h λo=>cP C jN [i,o] h λp e=>bN p (Q bF e) (oP (ij c) λq=>oP (fH 0 q) λr=>dJ 2 r 6 i 0 e λb=>oP (eo .eql 3 b (V.I 19)) λj=>bP j (jt C Q a c f g d j e) (oP (eo .eql 3 b (V.I 20)) λk=>bP k (jt C Q a c f g d k e) (oP (eo .eql 3 b (V.I 22)) λl=>bP l (jt C Q a c f g d l e) (oP (eo .eql 3 b (V.I 23)) λs=>jt C Q a c f g d s e))))) (Q bT h)
theorem BF{C Q}(I)(s:P4 I (ug C Q)){k a b c d h}(i:I k a b c d h):uS C Q a b c d h:=WA.l4 I _ s i
def tF(C:fk)(Q:fo)(a:JA)(d e f g b:V)(h:Hp):Prop:=bP b (Q bF h) (oP (eo .add 3 g nO) λc=>a d e f c h)
theorem AO{C:fk}{Q:fo}{a:JA}{c d e f b:V}{h:Hp}(H:tF C Q a c d e f b h):jt C Q a c d e f b h:=by
 rintro ρ rfl rfl rfl rfl rfl;exact WA.of (by kernel_rfl) H
def xu(C:fk)(Q:fo)(a0 a1:V)(h:Hp):Prop:=oP (fy a1) λa=>uS C Q a0 a1 a nZ h
theorem E5{C}(s:C.start=fV){a0 a1 h Q}(k:C.K iF [a0,a1] h=none)(H:xu C Q a0 a1 h):cP C iF [a0,a1] h Q:=cP.vd t47 s (by unfold P0;exact Tryd.func47) k H
def t32:List (Nat×List Nat):=[(175,[0,27,28,29])]
def uI(C:fk)(Q:fo)(d a b c:V)(h:Hp):Prop:=∀ρ:gf,ρ 0=d->ρ 27=a->ρ 28=b->ρ 29=c->WA C Tryd.f32 t32 87 [] Q ρ h
def ui(C:fk)(Q:fo)(i:JA)(j d e c:V)(h:Hp):Prop:=bO .lss 3 c e (oP (gI 4 d c) λk=>oP (gy 4 k h) λl=>im (zC 47 [nZ,nZ,nS,nS]) h λf O=>fi (gG 4 f l O) λP g=>dG 2 f g λm=>oP (eo .gtr 3 m (V.I 40)) λn=>oP (om n (oB (fH 3 f) λo=>oB (ey o g) λp=>oB (fy p) λq=>eo .gtr 3 q (V.I 60))) λa=>oP (fQ false a) λr=>oP (gV r (some j)) λs=>oP (fQ false a) λt=>oP (gV t (fH 2 f)) λu=>oP (fQ false a) λv=>oP (gV v (ey u g)) λw=>oP (fQ false a) λx=>oP (gC x (some (iF,[s,w]))) λy=>xd C y g λz M=>oP (om a (oD .not z)) λb=>oP (fQ false b) λA=>oP (gV A (some j)) λB=>oP (fQ false b) λD=>oP (gV D (fH 3 f)) λE=>oP (fQ false b) λF=>oP (gV F (ey E M)) λG=>oP (fQ false b) λH=>oP (gC H (some (iF,[B,G]))) λI=>xd C I M λJ N=>oP (om b (oD .not J)) λK=>bP K (Q bF N) (oP (eo .add 3 c nO) λL=>i j d e L N)) (Q bT h)
theorem Bz{C Q}(I)(s:P4 I (ui C Q)){k d a b c h}(i:I k d a b c h):uI C Q d a b c h:=WA.l4 I _ s i
def xj(C:fk)(Q:fo)(a0 a1:V)(h:Hp):Prop:=oP (ij a0) λp=>oP (fH 0 p) λd=>dF 4 d h λe=>oP (gI 1 e a1) λf=>oP (gy 1 f h) λg=>im (zC 50 [nS]) h λc q=>fi (gG 1 c g q) λr a=>dG 0 c a λi=>oP (eo .eql 3 i nZ) λj=>oP (om j (oB (fH 0 c) λk=>oB (ey k a) λl=>oB (fy l) λm=>eo .gtr 3 m (V.I 30))) λn=>bP n (Q bF a) (dF 0 c a λb=>oP (fy b) λo=>uI C Q a0 b o nZ a)
theorem EY{C}(s:C.start=fV){a0 a1 h Q}(k:C.K lh [a0,a1] h=none)(H:xj C Q a0 a1 h):cP C lh [a0,a1] h Q:=cP.vd t32 s (by unfold P0;exact Tryd.func32) k H
def t33:List (Nat×List Nat):=[(87,[0,36,37]),(351,[0,4,51,52,53]),(190047,[0,4,5,7,51,52,53,59,60,61])]
def uO(C:fk)(Q:fo)(c a b:V)(h:Hp):Prop:=∀ρ:gf,ρ 0=c->ρ 36=a->ρ 37=b->WA C Tryd.f33 t33 43 [] Q ρ h
def uk(C:fk)(Q:fo)(d e a b c:V)(h:Hp):Prop:=∀ρ:gf,ρ 0=d->ρ 4=e->ρ 51=a->ρ 52=b->ρ 53=c->WA C Tryd.f33 t33 175 [] Q ρ h
def ua(C:fk)(Q:fo)(a:HB)(i j k l b c d e f g:V)(h:Hp):Prop:=∀ρ:gf,ρ 0=i->ρ 4=j->ρ 5=k->ρ 7=l->ρ 51=b->ρ 52=c->ρ 53=d->ρ 59=e->ρ 60=f->ρ 61=g->WA C Tryd.f33 t33 95023 [λρ h=>a (ρ 0) (ρ 4) (ρ 51) (ρ 52) (ρ 53) h] Q ρ h
def uT(C:fk)(Q:fo)(e:RK)(d b a:V)(h:Hp):Prop:=bO .lss 3 a b (dN 5 d h λf=>oP (gI 1 f a) λg=>fi (gG 1 g (V.I (-1)) h) λn m=>oP (eo .add 3 a nO) λi=>e d b i m) (oP (ij d) λj=>oP (fH 0 j) λk=>dF 3 k h λc=>oP (fy c) λl=>uk C Q d nZ c l nZ h)
theorem BA{C Q}(I)(s:P3 I (uT C Q)){k c a b h}(i:I k c a b h):uO C Q c a b h:=WA.l3 I _ s i
def uy(C:fk)(Q:fo)(j:HB)(n o b c a:V)(h:Hp):Prop:=bO .lss 3 a c (oP (gI 6 b a) λk=>oP (gy 6 k h) λl=>im (zC 41 [nS,nZ,nZ,nS,nS,nZ]) h λp r=>fi (gG 6 p l r) λs q=>dF 0 p q λd=>oP (fy d) λm=>ua C Q j n o a bT b c a d m nZ q) (oP (ij n) λe=>oP (fH 0 e) λf=>dG 2 f h λg=>oP (eo .eql 3 o g) λi=>Q i h)
theorem Cr{C Q}(I)(s:P5 I (uy C Q)){k d e a b c h}(i:I k d e a b c h):uk C Q d e a b c h:=WA.l5 I _ s i
def tO(C:fk)(Q:fo)(D:HB)(E:IG)(d x4 F x7 g i j k l b:V)(h:Hp):Prop:=bO .lss 3 b l (dX 1 k b h λa=>oP (ij d) λG=>oP (fH 0 G) λH=>dG 2 H h λI=>cP C jN [a,I] h λJ c=>oP (oD .not J) λK=>oP (om K (oB (some d) λL=>oB (ij L) λM=>oB (fH 5 M) λN=>oB (ey N c) λO=>oB (some a) λP=>oB (gI 1 O P) λR=>oB (ey R c) λS=>eo .geq 3 S nZ)) λT=>bP T (Q bF c) (oP (ij d) λU=>oP (fH 0 U) λW=>dJ 2 W 6 a 0 c λe=>oP (eo .eql 3 e (V.I 21)) λX=>oP (om X (oB (some e) λY=>eo .eql 3 Y nO)) λf=>oP (jz f (oB (some x7) λm=>oD .not m)) λn=>oP (om n (oB (some e) λo=>oB (eo .eql 3 o nO) λp=>oB (some F) λq=>oB (eo .eql 3 q nZ) λr=>oB (eo .neq 4 p r) λs=>oB (some s) λt=>jz t (some f))) λu=>bP u (Q bF c) (dN 5 d c λv=>dN 6 d c λw=>oP (gI 1 v a) λx=>fi (gG 1 x F c) λvu Z=>(c.next<=Z.next/\oP (gI 1 w a) λy=>fi (gG 1 y b Z) λaa h3=>(Z.next<=h3.next/\oP (eo .add 3 x4 nO) λz=>oP (eo .add 3 b nO) λA=>E d z F f g i j k l A h3))))) (oP (eo .add 3 j nO) λB=>D d x4 g i B h)
theorem Ca{C Q a}(I)(s:P10 I (tO C Q a)){k j l m n b c d e f g h}(i:I k j l m n b c d e f g h):ua C Q a j l m n b c d e f g h:=WA.l10 I _ s i
def xg(C:fk)(Q:fo)(a0:V)(h:Hp):Prop:=oP (ij a0) λl=>oP (fH 0 l) λm=>oP (fH 2 m) λc=>oP (ey c h) λd=>oP (fy d) λe=>xR (ie 3 1 8 nZ e e) h λn o j=>oP (ij a0) λp=>oP (fH 0 p) λq=>oP (fH 2 q) λf=>oP (ey f j) λg=>oP (fy g) λi=>xR (ie 3 1 8 nZ i i) j λa r b=>oP (ij a0) λs=>oP (fH 5 s) λt=>((b.get (j.next)=some a/\O.beq a a=true)/\((ey f b=some g)/\((b.get (h.next)=some n/\O.beq n n=true)/\((ey c b=some d)/\fi (gG 1 t o b) λA k=>(b.next<=k.next/\oP (ij a0) λu=>oP (fH 6 u) λv=>((k.get (j.next)=some a/\O.beq a a=true)/\fi (gG 1 v r k) λz w=>(k.next<=w.next/\oP (ij a0) λx=>dG 5 x w λy=>uO C Q a0 y nZ w)))))))
theorem EV{C}(s:C.start=fV){a0 h Q}(k:C.K mV [a0] h=none)(H:xg C Q a0 h):cP C mV [a0] h Q:=cP.vd t33 s (by unfold P0;exact Tryd.func33) k H
section
variable (C:fk)(Q:X->gf->Hp->Prop)(ρ:gf)(h:Hp)
def Qf:=Nk Tryd.f34
def Zc:=Qf.r
def Zv:=Qf.r.r
def ZA:=Qf.r.r.l.r
def Y8:=Qf.r.r.r
def zbd:=andThen (Wp C 94 Y8 Q) Q
def Y5:=Qf.r.r.l.r.l.r
def Ze:=Qf.r.r.r.l.r
def Y1:=Qf.r.r.r.r
def q53:=andThen (Wp C 94 Y1 Q) Q
def Zl:=Qf.r.r.r.l.r.l.r
def za2(C:fk)(Q:XQ):XQ:=yp 0 Q
def Zu:=Qf.r.r.r.r.r
def Zn:=Qf.r.r.r.l.r.l.r.l.r
def Vj:=Qf.r.r.r.l.r.l.r.r.r
def UZ:=Qf.r.r.r.l.r.l.r.r.r.l.r
def U5:=Qf.r.r.r.l.r.l.r.r.r.r.r
def VZ:=Qf.r.r.r.l.r.l.r.r.r.r.r.l.r
theorem e34:vJ C 94 Qf Q ρ h=(oP (some (V.bool false)) λa=>
 Wp C 94 Zc Q (gq ρ 4 a) h):=by kernel_rfl
theorem zaX:vJ C 94 Zc Q ρ h=(oP (some (ρ 0)) λe=>
 oP (ij e) λf=>
 oP (fH 0 f) λg=>
 oP (fH 2 g) λi=>
 oP (ey i h) λa=>
 oP (some (ρ 1)) λb=>
 oP (gI 6 a b) λc=>
 oP (gy 6 c h) λd=>
 im (some (.cells 38 1 true false [(V.I 0),(V.I 0),(V.I 0),(V.I 0),V.ee,(V.I 0)],λl=> .ptr l 0)) h λj k=>
 fi (gG 6 j d k) λn m=>
 Wp C 94 Zv Q (gq (gq (gq (gq (gq (gq (gq (gq (gq ρ 6 e) 7 f) 8 g) 9 i) 10 a) 11 b) 12 c) 13 d) 5 j) m):=by kernel_rfl
theorem zb6:vJ C 94 Zv Q ρ h=(oP (fH 0 (ρ 5)) λd=>
 oP (ey d h) λs=>
 ((ey d h=some s)/\
 ((fH 0 (ρ 5)=some d)/\
 dcP C B2 [s] h λt D=>
 (h.next<=D.next/\
 oP (eo .eql 9 t (V.str [])) λe=>
 oP (some e) λb=>
 oP (fQ false b) λW=>
 oP (gV W (some (ρ 0))) λf=>
 oP (fQ false b) λb6=>
 oP (gV b6 (gy 6 (ρ 5) D)) λu=>
 ((gT b6 (gy 6 (ρ 5) D=some u))/\
 ((gT W (some (ρ 0)=some f))/\
 ((some e=some b)/\
 ((eo .eql 9 t (V.str [])=some e)/\
 oP (fQ false b) λb7=>
 oP (gC b7 (some (sH,[u]))) λx7=>xd C x7 D λE X=>
 (D.next<=X.next/\
 ((gT W (some (ρ 0)=some f))/\
 oP (fQ false b) λb8=>
 oP (gC b8 (some (iF,[f,E]))) λx8=>xd C x8 X λv F=>
 (X.next<=F.next/\
 oP (fQ false b) λb9=>
 oP (gV b9 (oD .not v)) λg=>
 oP (l0 b (V.bool true) g) λi=>
 oP (some i) λc=>
 oP (fQ false c) λG=>
 oP (gV G (fH 0 (ρ 5))) λj=>
 oP (fQ false c) λH=>
 oP (gV H (ey j F)) λw=>
 ((gT H (ey j F=some w))/\
 ((gT G (fH 0 (ρ 5)=some j))/\
 ((some i=some c)/\
 ((l0 b (V.bool true) g=some i)/\
 ((gT b9 (oD .not v=some g))/\
 oP (fQ false c) λY=>
 oP (gC Y (some (nU,[w]))) λZ=>xd C Z F λx y=>
 (F.next<=y.next/\
 oP (fQ false c) λI=>
 oP (gV I (some x)) λa=>
 oP (fQ true a) λJ=>
 oP (gV J (fH 5 (ρ 5))) λk=>
 oP (fQ true a) λK=>
 oP (gV K (ey k y)) λz=>
 oP (fQ true a) λL=>
 oP (gV L (some (ρ 0))) λl=>
 oP (fQ true a) λM=>
 oP (gV M (ij l)) λm=>
 oP (fQ true a) λN=>
 oP (gV N (fH 0 m)) λn=>
 oP (fQ true a) λO=>
 oP (gV O (fH 4 n)) λo=>
 oP (fQ true a) λP=>
 oP (gV P (ey o y)) λp=>
 oP (fQ true a) λR=>
 oP (gV R (fy p)) λA=>
 ((gT R (fy p=some A))/\
 ((gT P (ey o y=some p))/\
 ((gT O (fH 4 n=some o))/\
 ((gT N (fH 0 m=some n))/\
 ((gT M (ij l=some m))/\
 ((gT L (some (ρ 0)=some l))/\
 ((gT K (ey k y=some z))/\
 ((gT J (fH 5 (ρ 5)=some k))/\
 ((gT I (some x=some a))/\
 oP (fQ true a) λaa=>
 oP (gC aa (some (jN,[z,A]))) λab=>xd C ab y λB h5=>
 (y.next<=h5.next/\
 oP (fQ true a) λS=>
 oP (gV S (oD .not B)) λq=>
 oP (fQ false c) λT=>
 oP (gV T (l0 a q (V.bool false))) λr=>
 oP (l0 c (V.bool true) r) λU=>
 ((l0 c (V.bool true) r=some U)/\
 ((gT T (l0 a q (V.bool false)=some r))/\
 ((gT S (oD .not B=some q))/\
 Wp C 94 ZA (zbd C Q) (gq (gq (gq (gq (gq (gq (gq (gq (gq (gq (gq (gq (gq (gq (gq (gq (gq (gq (gq (gq (gq (gq (gq (gq (gq (gq (gq (gq ρ 14 d) 15 s) 16 t) 17 e) 18 b) 19 f) 20 u) 21 E) 22 v) 23 g) 24 i) 25 c) 26 j) 27 w) 28 x) 29 a) 30 k) 31 z) 32 l) 33 m) 34 n) 35 o) 36 p) 37 A) 38 B) 39 q) 40 r) 41 U) h5)))))))))))))))))))))))))))))):=by kernel_rfl
theorem zaY:vJ C 94 Y8 Q ρ h=(oP (fH 0 (ρ 5)) λa=>
 oP (ey a h) λb=>
 Wp C 94 Ze (q53 C Q) (gq (gq ρ 42 a) 43 b) h):=by kernel_rfl
theorem zbT:vJ C 94 ZA Q ρ h=(oP (some (ρ 41)) λc=>
 bP c (
 oP (some (V.bool false)) λa=>
 Wp C 94 Y5 Q (gq ρ 4 a) h) (
 Q .normal ρ h)):=by kernel_rfl
theorem zbG:vJ C 94 Y1 Q ρ h=(oP (some (V.bool true)) λa=>
 Wp C 94 Zu Q (gq ρ 4 a) h):=by kernel_rfl
theorem za1:vJ C 94 Ze Q ρ h=(oP (eo .eql 3 (ρ 43) (V.I 20)) λa=>
 oP (some a) λb=>
 Wp C 94 Zl (za2 C Q) (gq (gq ρ 45 a) 44 b) h):=by kernel_rfl
theorem zbK:vJ C 94 Zu Q ρ h=(Q .ret ρ h):=by kernel_rfl
theorem zbv:vJ C 94 Y5 Q ρ h=(Q .ret ρ h):=by kernel_rfl
theorem zb3:vJ C 94 Zl Q ρ h=(oP (some (ρ 44)) λc=>
 bP c (
 oP (fH 4 (ρ 5)) λa=>
 oP (ey a h) λb=>
 oP (fy b) λd=>
 oP (eo .eql 3 d (V.I 1)) λe=>
 oP (some e) λi=>
 Wp C 94 Zn Q (gq (gq (gq (gq (gq ρ 46 a) 47 b) 48 d) 49 e) 4 i) h) (
 oP (eo .eql 3 (ρ 43) (V.I 21)) λf=>
 oP (some f) λg=>
 Wp C 94 Vj Q (gq (gq ρ 51 f) 50 g) h)):=by kernel_rfl
theorem zbx:vJ C 94 Zn Q ρ h=(Q .ret ρ h):=by kernel_rfl
theorem zaF:vJ C 94 Vj Q ρ h=(oP (some (ρ 50)) λc=>
 bP c (
 oP (fH 4 (ρ 5)) λa=>
 oP (ey a h) λb=>
 oP (fy b) λd=>
 oP (some (ρ 0)) λe=>
 oP (ij e) λf=>
 oP (fH 0 f) λg=>
 oP (fH 3 g) λi=>
 oP (ey i h) λj=>
 oP (some (ρ 0)) λk=>
 oP (ij k) λl=>
 oP (fH 5 l) λm=>
 oP (ey m h) λn=>
 oP (some (ρ 1)) λo=>
 oP (gI 1 n o) λp=>
 oP (ey p h) λq=>
 oP (gI 6 j q) λr=>
 oP (fH 4 r) λs=>
 oP (ey s h) λt=>
 oP (fy t) λu=>
 oP (eo .eql 3 d u) λv=>
 oP (some v) λy=>
 ((some v=some y)/\
 ((eo .eql 3 d u=some v)/\
 ((fy t=some u)/\
 ((ey s h=some t)/\
 ((fH 4 r=some s)/\
 ((gI 6 j q=some r)/\
 ((ey p h=some q)/\
 ((gI 1 n o=some p)/\
 ((some (ρ 1)=some o)/\
 ((ey m h=some n)/\
 ((fH 5 l=some m)/\
 ((ij k=some l)/\
 ((some (ρ 0)=some k)/\
 ((ey i h=some j)/\
 ((fH 3 g=some i)/\
 ((fH 0 f=some g)/\
 ((ij e=some f)/\
 ((some (ρ 0)=some e)/\
 ((fy b=some d)/\
 ((ey a h=some b)/\
 ((fH 4 (ρ 5)=some a)/\
 Wp C 94 UZ Q (gq (gq (gq (gq (gq (gq (gq (gq (gq (gq (gq (gq (gq (gq (gq (gq (gq (gq (gq (gq (gq ρ 52 a) 53 b) 54 d) 55 e) 56 f) 57 g) 58 i) 59 j) 60 k) 61 l) 62 m) 63 n) 64 o) 65 p) 66 q) 67 r) 68 s) 69 t) 70 u) 71 v) 4 y) h)))))))))))))))))))))) (
 oP (eo .eql 3 (ρ 43) (V.I 1)) λw=>
 oP (some w) λx=>
 Wp C 94 U5 Q (gq (gq ρ 73 w) 72 x) h)):=by kernel_rfl
theorem zao:vJ C 94 UZ Q ρ h=(Q .ret ρ h):=by kernel_rfl
theorem zaj:vJ C 94 U5 Q ρ h=(oP (some (ρ 72)) λc=>
 bP c (
 oP (fH 3 (ρ 5)) λd=>
 oP (ey d h) λe=>
 oP (eo .geq 2 e (V.I 0)) λf=>
 oP (some f) λb=>
 oP (fQ true b) λH=>
 oP (gV H (fH 3 (ρ 5))) λg=>
 oP (fQ true b) λI=>
 oP (gV I (ey g h)) λi=>
 oP (fQ true b) λJ=>
 oP (gV J (eo .lss 2 i (V.I 40))) λj=>
 oP (l0 b j (V.bool false)) λk=>
 oP (some k) λa=>
 oP (fQ true a) λK=>
 oP (gV K (some (ρ 0))) λl=>
 oP (fQ true a) λw=>
 oP (gV w (ij l)) λm=>
 oP (fQ true a) λx=>
 oP (gV x (fH 0 m)) λn=>
 oP (fQ true a) λy=>
 oP (gV y (fH 2 n)) λo=>
 oP (fQ true a) λz=>
 oP (gV z (ey o h)) λp=>
 oP (fQ true a) λA=>
 oP (gV A (some (ρ 1))) λq=>
 oP (fQ true a) λB=>
 oP (gV B (iK 6 p none (some q) h)) λr=>
 oP (fQ true a) λD=>
 oP (gV D (some (V.func jc [] [(ρ 5)]))) λs=>
 oP (fQ true a) λE=>
 oP (gC E (some (gM,[r,s]))) λF=>xd C F h λt L=>
 oP (fQ true a) λG=>
 oP (gV G (oD .not t)) λu=>
 oP (l0 a u (V.bool false)) λv=>
 oP (some v) λM=>
 Wp C 94 VZ Q (gq (gq (gq (gq (gq (gq (gq (gq (gq (gq (gq (gq (gq (gq (gq (gq (gq (gq (gq (gq (gq ρ 74 d) 75 e) 76 f) 77 b) 78 g) 79 i) 80 j) 81 k) 82 a) 83 l) 84 m) 85 n) 86 o) 87 p) 88 q) 89 r) 90 s) 91 t) 92 u) 93 v) 4 M) L) (
 Q .normal ρ h)):=by kernel_rfl
theorem Z2:vJ C 94 VZ Q ρ h=(Q .ret ρ h):=by kernel_rfl
theorem g34{C:fk}(hs:C.start=fV)(a0 a1:V){h:Hp}{Q:fo}(hk:C.K jH [a0,a1] h=none)(H:vJ C 94 Qf (KM [.tmp 4] Q) (Mm [a0,a1]) h):cP C jH [a0,a1] h Q:=
 cP.zbU hs (show P0.funcs[34]? =some Tryd.f34 by unfold P0;exact Tryd.func34) (by kernel_rfl) (by kernel_rfl) (by kernel_rfl) hk (Jd rfl) (Wp.code _ H)
def uH(C:fk)(Q:fo)(a0 a1:V)(h:Hp):Prop:=oP (ij a0) λv7=>oP (fH 0 v7) λv8=>dF 2 v8 h λs=>oP (gI 6 s a1) λt=>oP (gy 6 t h) λu=>im (zC 38 [nZ,nZ,nZ,nZ,nS,nZ]) h λd h1=>fi (gG 6 d u h1) λvu v=>dF 0 d v λw=>cP C B2 [w] v λx q=>(v.next<=q.next/\oP (eo .eql 9 x (V.str [])) λe=>oP (fQ false e) λb5=>oP (gV b5 (some a0)) λy=>oP (fQ false e) λb6=>oP (gV b6 (gy 6 d q)) λz=>oP (fQ false e) λb7=>oP (gC b7 (some (sH,[z]))) λy7=>xd C y7 q λA B=>(q.next<=B.next/\oP (fQ false e) λb8=>oP (gC b8 (some (iF,[y,A]))) λy8=>xd C y8 B λD r=>(B.next<=r.next/\oP (om e (oD .not D)) λf=>oP (fQ false f) λE=>oP (gV E (fH 0 d)) λF=>oP (fQ false f) λG=>oP (gV G (ey F r)) λH=>oP (fQ false f) λI=>oP (gC I (some (nU,[H]))) λJ=>xd C J r λK o=>(r.next<=o.next/\oP (fQ false f) λL=>oP (gV L (some K)) λa=>oP (fQ true a) λM=>oP (gV M (fH 5 d)) λN=>oP (fQ true a) λO=>oP (gV O (ey N o)) λP=>oP (fQ true a) λR=>oP (gV R (some a0)) λS=>oP (fQ true a) λT=>oP (gV T (ij S)) λU=>oP (fQ true a) λW=>oP (gV W (fH 0 U)) λX=>oP (fQ true a) λY=>oP (gV Y (fH 4 X)) λZ=>oP (fQ true a) λaa=>oP (gV aa (ey Z o)) λab=>oP (fQ true a) λac=>oP (gV ac (fy ab)) λae=>oP (fQ true a) λag=>oP (gC ag (some (jN,[P,ae]))) λah=>xd C ah o λai c=>(o.next<=c.next/\oP (fQ true a) λaj=>oP (gV aj (oD .not ai)) λak=>oP (om f (l0 a ak bF)) λal=>bP al (Q bF c) (dF 0 d c λg=>bO .eql 3 g (V.I 20) (dG 4 d c λam=>oP (eo .eql 3 am nO) λan=>Q an c) (bO .eql 3 g (V.I 21) (dG 4 d c λao=>oP (ij a0) λap=>oP (fH 0 ap) λaq=>dF 3 aq c λar=>dN 5 a0 c λau=>dX 1 au a1 c λaw=>oP (gI 6 ar aw) λax=>dG 4 ax c λay=>oP (eo .eql 3 ao ay) λaA=>Q aA c) (bO .eql 3 g nO (dF 3 d c λaB=>oP (eo .geq 2 aB nZ) λaC=>oP (jz aC (oB (fH 3 d) λaD=>oB (ey aD c) λaE=>eo .lss 2 aE (V.I 40))) λb=>oP (fQ true b) λp=>oP (gV p (some a0)) λaF=>oP (fQ true b) λaG=>oP (gV aG (ij aF)) λaH=>oP (fQ true b) λaI=>oP (gV aI (fH 0 aH)) λaJ=>oP (fQ true b) λi=>oP (gV i (fH 2 aJ)) λaK=>oP (fQ true b) λj=>oP (gV j (ey aK c)) λaL=>oP (fQ true b) λk=>oP (gV k (some a1)) λaM=>oP (fQ true b) λl=>oP (gV l (iK 6 aL none (some aM) c)) λaN=>oP (fQ true b) λm=>oP (gV m (some (V.func jc [] [d]))) λaO=>oP (fQ true b) λn=>oP (gC n (some (gM,[aN,aO]))) λaP=>xd C aP c λaQ h8=>oP (jz b (oD .not aQ)) λaR=>Q aR h8) (Q bT c)))))))))
theorem GR{C:fk}(hs:C.start=fV){a0 a1:V}{h:Hp}{Q:fo}(hk:C.K jH [a0,a1] h=none)(H:uH C Q a0 a1 h):cP C jH [a0,a1] h Q:=by
 unfold uH at H;exact g34 hs _ _ hk ((e34 _ _ _ _).mpr (LI (Wp.of (zaX _ _ _ _) (LI (oM H λv7 _ H=>oM H λv8 _ H=>oM H λv9 _ H=>oM H λaq _ H=>LI (oM H λar _ H=>oM H λau _ H=>alM H λv5 h1 H=>zcy H λvu h2 H=>Wp.of (zb6 _ _ _ _) (oM H λaw b H=>oM H λax c H=>⟨c,⟨b,dcM H λay h3 H=>anM H λH=>oM H λaA d H=>LI (oM H λb5 _ H=>oM H λaB a H=>oM H λb6 _ H=>oM H λaC e H=>⟨(wP e),⟨(wP a),⟨rfl,⟨d,oM H λb7 _ H=>oM H λy7 _ H=>cgM H λaD h4 H=>anM H λH=>⟨(wP a),oM H λb8 _ H=>oM H λy8 _ H=>cgM H λaE h5 H=>anM H λH=>thn (Tq H) λH=>oM H λb9 Z H=>oM H λaF f H=>oM H λaG g H=>LI (oM H λaH _ H=>oM H λaI i H=>oM H λaJ _ H=>oM H λaK j H=>⟨(wP j),⟨(wP i),⟨rfl,⟨g,⟨(wP f),oM H λaL _ H=>oM H λaM _ H=>cgM H λaN h6 H=>anM H λH=>oM H λaO _ H=>oM H λaP k H=>oM H λaQ _ H=>oM H λaR l H=>oM H λaS _ H=>oM H λaT m H=>oM H λaU _ H=>oM H λaV n H=>oM H λaW _ H=>oM H λaX o H=>oM H λaY _ H=>oM H λaZ p H=>oM H λa4 _ H=>oM H λa5 q H=>oM H λa6 _ H=>oM H λa7 r H=>oM H λa8 _ H=>oM H λa9 s H=>⟨(wP s),⟨(wP r),⟨(wP q),⟨(wP p),⟨(wP o),⟨(wP n),⟨(wP m),⟨(wP l),⟨(wP k),oM H λba _ H=>oM H λbb _ H=>cgM H λbc h7 H=>anM H λH=>oM H λbd _ H=>oM H λbe t H=>thn (Tq H) λH=>oM H λbf aa H=>oM H λbg u H=>oM H λbh v H=>⟨v,⟨(wP u),⟨(wP t),Wp.of (zbT _ _ _ _) (LI (bM H (λH=>LI (Wp.of (zbv _ _ _ _) (H))) (λH=>Wp.of (zaY _ _ _ _) (oM H λbi _ H=>oM H λbj _ H=>Wp.of (za1 _ _ _ _) (oM H λbm _ H=>LI (Wp.of (zb3 _ _ _ _) (LI (bM H (λH=>oM H λbn _ H=>oM H λbo _ H=>oM H λbp _ H=>oM H λbr _ H=>LI (Wp.of (zbx _ _ _ _) (H))) (λH=>oM H λbt _ H=>LI (Wp.of (zaF _ _ _ _) (LI (bM H (λH=>oM H λbu w H=>oM H λbv x H=>oM H λbw y H=>LI (oM H λbx z H=>oM H λbz A H=>oM H λbA B H=>oM H λbC D H=>LI (oM H λbD E H=>oM H λbE F H=>oM H λbG G H=>LI (oM H λbH I H=>oM H λbI J H=>oM H λbJ L H=>oM H λbK M H=>oM H λbL N H=>oM H λbQ O H=>oM H λbR P H=>LI (⟨rfl,⟨P,⟨O,⟨N,⟨M,⟨L,⟨J,⟨I,⟨rfl,⟨G,⟨F,⟨E,⟨rfl,⟨D,⟨B,⟨A,⟨z,⟨rfl,⟨y,⟨x,⟨w,Wp.of (zao _ _ _ _) (H)⟩⟩⟩⟩⟩⟩⟩⟩⟩⟩⟩⟩⟩⟩⟩⟩⟩⟩⟩⟩⟩))))) (λH=>oM H λbS _ H=>LI (Wp.of (zaj _ _ _ _) (LI (bM H (λH=>oM H λbU _ H=>oM H λbV _ H=>oM H λbW _ H=>LI (thn (Pr H) λH=>sG1 H λb4 ab bX ac H=>sG1 H λae ag bY ah H=>oM H λai aj H=>oM H λbZ ak H=>oM H λca al H=>LI (oM H λam _ H=>oM H λcb _ H=>oM H λcd _ H=>oM H λce _ H=>oM H λcf _ H=>oM H λcg _ H=>oM H λR _ H=>oM H λci _ H=>oM H λS _ H=>oM H λcj _ H=>oM H λT _ H=>oM H λcl _ H=>oM H λU _ H=>oM H λcm _ H=>oM H λW _ H=>oM H λcn _ H=>oM H λX _ H=>oM H λco _ H=>cgM H λcp h8 H=>thn (Pr H) λH=>oM H λY an H=>oM H λcq ao H=>oM H λcr ap H=>LI (Wp.of (Z2 _ _ _ _) (H))))) (λH=>Wp.of (zbG _ _ _ _) (LI (Wp.of (zbK _ _ _ _) (H))))))))))))))))))))⟩⟩⟩⟩⟩⟩⟩⟩⟩⟩⟩⟩⟩⟩⟩⟩⟩)⟩⟩⟩⟩⟩)⟩⟩)))))))
end
def t35:List (Nat×List Nat):=[(87,[0,5,17,18,19])]
def vC(C:fk)(Q:fo)(d e a b c:V)(h:Hp):Prop:=∀ρ:gf,ρ 0=d->ρ 5=e->ρ 17=a->ρ 18=b->ρ 19=c->WA C Tryd.f35 t35 43 [] Q ρ h
def vh(C:fk)(Q:fo)(o:HB)(n c f g d:V)(h:Hp):Prop:=bO .lss 3 d g (dX 1 f d h λp=>oP (ij n) λq=>oP (fH 0 q) λs=>dG 3 s h λt=>cP C jN [p,t] h λu Y=>bN u (Q bF Y) (oP (eo .add 3 d nO) λv=>o n c f g v Y)) (dF 1 c h λe=>bO .eql 3 e nO (dG 3 c h λw=>oP (eo .eql 3 w nO) λx=>Q x h) (bO .eql 3 e (V.I 2) (dG 3 c h λy=>oP (eo .eql 3 y (V.I 2)) λb=>oP (fQ true b) λb5=>oP (gV b5 (some n)) λz=>oP (fQ true b) λb6=>oP (gV b6 (fH 2 c)) λA=>oP (fQ true b) λb7=>oP (gV b7 (ey A h)) λB=>oP (fQ true b) λb8=>ghP b8 h (oB (ji 3 1 1 nZ [(0,B)]) λr=>some (r.2 h.next,h.new r.1)) λD h2=>oP (fQ true b) λb9=>oP (gC b9 (some (iF,[z,D]))) λy9=>xd C y9 h2 λE h3=>oP (l0 b E bF) λF=>Q F h3) (bO .eql 3 e (V.I 3) (dG 3 c h λG=>oP (eo .eql 3 G nZ) λa=>oP (fQ true a) λi=>oP (gV i (fH 5 c)) λH=>oP (fQ true a) λj=>oP (gV j (ey H h)) λI=>oP (fQ true a) λk=>oP (gV k (some n)) λJ=>oP (fQ true a) λl=>oP (gV l (ij J)) λK=>oP (fQ true a) λm=>oP (gV m (fH 0 K)) λL=>oP (fQ true a) λM=>oP (gV M (fH 4 L)) λN=>oP (fQ true a) λO=>oP (gV O (ey N h)) λP=>oP (fQ true a) λR=>oP (gV R (fy P)) λS=>oP (fQ true a) λT=>oP (gC T (some (jN,[I,S]))) λU=>xd C U h λW Z=>(h.next<=Z.next/\oP (l0 a W bF) λX=>Q X Z)) (Q bF h))))
theorem CR{C Q}(I)(s:P5 I (vh C Q)){k d e a b c h}(i:I k d e a b c h):vC C Q d e a b c h:=WA.l5 I _ s i
def yJ(C:fk)(Q:fo)(a0 a1:V)(h:Hp):Prop:=oP (ij a0) λj=>oP (fH 0 j) λb=>dF 3 b h λc=>oP (gI 6 c a1) λd=>oP (gy 6 d h) λe=>im (zC 41 [nS,nZ,nZ,nS,nS,nZ]) h λf k=>fi (gG 6 f e k) λl i=>dF 3 f i λa=>oP (fy a) λg=>vC C Q a0 f a g nZ i
theorem Gp{C}(s:C.start=fV){a0 a1 h Q}(k:C.K lR [a0,a1] h=none)(H:yJ C Q a0 a1 h):cP C lR [a0,a1] h Q:=cP.vd t35 s (by unfold P0;exact Tryd.func35) k H
def t36:List (Nat×List Nat):=[(171,[0,1,16,17,18]),(14,[0,1]),(175,[0,7,54,55,56])]
def wz(C:fk)(Q:fo)(d e a b c:V)(h:Hp):Prop:=∀ρ:gf,ρ 0=d->ρ 1=e->ρ 16=a->ρ 17=b->ρ 18=c->WA C Tryd.f36 t36 85 [] Q ρ h
def mr(C:fk)(Q:fo)(a b:V)(h:Hp):Prop:=∀ρ:gf,ρ 0=a->ρ 1=b->WA C Tryd.f36 t36 7 [] Q ρ h
def wN(C:fk)(Q:fo)(d e a b c:V)(h:Hp):Prop:=∀ρ:gf,ρ 0=d->ρ 7=e->ρ 54=a->ρ 55=b->ρ 56=c->WA C Tryd.f36 t36 87 [] Q ρ h
def wM(C:fk)(Q:fo)(e:HB)(f t b c a:V)(h:Hp):Prop:=bO .lss 3 a c (dX 1 b a h λd=>oP (ij f) λg=>oP (fH 0 g) λi=>dJ 3 i 6 a 4 h λj=>cP C lJ [d,j] h λk u=>oP (oD .not k) λl=>oP (om l (oB (some a) λm=>oB (eo .eql 3 m nZ) λn=>oB (some n) λo=>jz o (oB (some d) λp=>oB (fy p) λq=>eo .gtr 3 q nZ))) λr=>bP r (Q bF u) (oP (eo .add 3 a nO) λs=>e f t b c s u)) (mr C Q f t h)
theorem DG{C Q}(I)(s:P5 I (wM C Q)){k d e a b c h}(i:I k d e a b c h):wz C Q d e a b c h:=WA.l5 I _ s i
def wK(C:fk)(Q:fo)(j l:V)(h:Hp):Prop:=oP (ij j) λb=>oP (fH 0 b) λc=>dF 3 c h λd=>oP (gI 6 d l) λe=>oP (gy 6 e h) λf=>im (zC 41 [nS,nZ,nZ,nS,nS,nZ]) h λg m=>fi (gG 6 g f m) λn k=>dF 3 g k λa=>oP (fy a) λi=>wN C Q j g a i nZ k
theorem DI{C:fk}{Q:fo}{a b:V}{h:Hp}(H:wK C Q a b h):mr C Q a b h:=by
 rintro ρ rfl rfl;exact WA.of (by kernel_rfl) H
def wJ(C:fk)(Q:fo)(d:HB)(u v b c a:V)(h:Hp):Prop:=bO .lss 3 a c (dX 1 b a h λe=>dF 1 v h λf=>oP (eo .eql 3 f (V.I 2)) λg=>oP (jz g (oB (some u) λi=>oB (ij i) λj=>oB (fH 0 j) λk=>oB (fH 3 k) λl=>oB (ey l h) λm=>oB (some e) λn=>oB (gI 6 m n) λo=>oB (fH 4 o) λp=>oB (ey p h) λq=>oB (fy q) λr=>eo .neq 3 r nO)) λs=>bP s (Q bF h) (oP (eo .add 3 a nO) λt=>d u v b c t h)) (Q bT h)
theorem Dk{C Q}(I)(s:P5 I (wJ C Q)){k d e a b c h}(i:I k d e a b c h):wN C Q d e a b c h:=WA.l5 I _ s i
def zY(C:fk)(Q:fo)(a0 a1:V)(h:Hp):Prop:=bO .eql 3 a1 nZ (oP (ij a0) λb=>oP (fH 0 b) λc=>oP (gy 5 c h) λd=>cP C wE [d] h λa f=>oP (fy a) λe=>wz C Q a0 a1 a e nZ f) (mr C Q a0 a1 h)
theorem Hc{C}(s:C.start=fV){a0 a1 h Q}(k:C.K my [a0,a1] h=none)(H:zY C Q a0 a1 h):cP C my [a0,a1] h Q:=cP.vd t36 s (by unfold P0;exact Tryd.func36) k H
def t37:List (Nat×List Nat):=[]
def xo(C:fk)(Q:fo)(a0:V)(h:Hp):Prop:=oP (ij a0) λa=>oP (fH 0 a) λb=>oP (gy 5 b h) λc=>cP C nz [c] h λd e=>Q d e
theorem ER{C}(s:C.start=fV){a0 h Q}(k:C.K rq [a0] h=none)(H:xo C Q a0 h):cP C rq [a0] h Q:=cP.vd t37 s (by unfold P0;exact Tryd.func37) k H
def t74:List (Nat×List Nat):=[(19,[0,1,2])]
def pO(C:fk)(Q:fo)(a b c:V)(h:Hp):Prop:=∀ρ:gf,ρ 0=a->ρ 1=b->ρ 2=c->WA C Tryd.f74 t74 9 [] Q ρ h
def oY(C:fk)(Q:fo)(a:RK)(e f b:V)(h:Hp):Prop:=bO .geq 3 b nZ (bO .eql 3 f b (Q bT h) (dN 7 e h λc=>dX 1 c b h λd=>a e f d h)) (Q bF h)
theorem yn{C Q}(I)(s:P3 I (oY C Q)){k a b c h}(i:I k a b c h):pO C Q a b c h:=WA.l3 I _ s i
def tz(C:fk)(Q:fo)(a0 a1 a2:V)(h:Hp):Prop:=pO C Q a0 a1 a2 h
theorem AU{C}(s:C.start=fV){a0 a1 a2 h Q}(k:C.K kP [a0,a1,a2] h=none)(H:tz C Q a0 a1 a2 h):cP C kP [a0,a1,a2] h Q:=cP.vd t74 s (by unfold P0;exact Tryd.func74) k H
def t58:List (Nat×List Nat):=[(43,[0,2,3,11,12,13])]
def vM(C:fk)(Q:fo)(d e f a b c:V)(h:Hp):Prop:=∀ρ:gf,ρ 0=d->ρ 2=e->ρ 3=f->ρ 11=a->ρ 12=b->ρ 13=c->WA C Tryd.f58 t58 21 [] Q ρ h
def vn(C:fk)(Q:fo)(g:NO)(d i T e f b:V)(h:Hp):Prop:=bO .lss 3 b f (dX 1 e b h λc=>dN 5 d h λj=>dX 1 j c h λk=>oP (eo .eql 3 k i) λl=>oP (jz l (oB (some d) λm=>oB (ij m) λn=>oB (fH 6 n) λo=>oB (ey o h) λp=>oB (some c) λq=>oB (gI 1 p q) λr=>oB (ey r h) λs=>oB (some T) λt=>eo .geq 3 s t)) λa=>oP (fQ false a) λu=>oP (gV u (some d)) λv=>oP (fQ false a) λw=>oP (gV w (some d)) λx=>oP (fQ false a) λy=>oP (gV y (ij x)) λz=>oP (fQ false a) λA=>oP (gV A (fH 5 z)) λB=>oP (fQ false a) λD=>oP (gV D (ey B h)) λE=>oP (fQ false a) λF=>oP (gV F (some c)) λG=>oP (fQ false a) λH=>oP (gV H (gI 1 E G)) λI=>oP (fQ false a) λJ=>oP (gV J (ey I h)) λK=>oP (fQ false a) λL=>oP (gV L (some i)) λM=>oP (fQ false a) λN=>oP (gC N (some (kP,[v,K,M]))) λO=>xd C O h λP U=>oP (om a (oD .not P)) λR=>bP R (Q bF U) (oP (eo .add 3 b nO) λS=>g d i T e f S U)) (Q bT h)
theorem CI{C Q}(I)(s:P6 I (vn C Q)){k d e f a b c h}(i:I k d e f a b c h):vM C Q d e f a b c h:=WA.l6 I _ s i
def yU(C:fk)(Q:fo)(a0 a1 a2 a3:V)(h:Hp):Prop:=oP (fy a1) λa=>vM C Q a0 a2 a3 a1 a nZ h
theorem FU{C}(s:C.start=fV){a0 a1 a2 a3 h Q}(k:C.K iQ [a0,a1,a2,a3] h=none)(H:yU C Q a0 a1 a2 a3 h):cP C iQ [a0,a1,a2,a3] h Q:=cP.vd t58 s (by unfold P0;exact Tryd.func58) k H
def t59:List (Nat×List Nat):=[(43,[0,2,3,19,20,21])]
def pJ(C:fk)(Q:fo)(d e f a b c:V)(h:Hp):Prop:=∀ρ:gf,ρ 0=d->ρ 2=e->ρ 3=f->ρ 19=a->ρ 20=b->ρ 21=c->WA C Tryd.f59 t59 21 [] Q ρ h
def pd(C:fk)(Q:fo)(f:NO)(g i j d e b:V)(h:Hp):Prop:=bO .lss 3 b e (oP (gI 4 d b) λk=>oP (gy 4 k h) λl=>im (zC 47 [nZ,nZ,nS,nS]) h λc F=>fi (gG 4 c l F) λI B=>dF 2 c B λm=>cP C iQ [g,m,i,j] B λn D=>oP (oD .not n) λa=>oP (fQ false a) λG=>oP (gV G (some g)) λo=>oP (fQ false a) λH=>oP (gV H (fH 3 c)) λp=>oP (fQ false a) λq=>oP (gV q (ey p D)) λr=>oP (fQ false a) λs=>oP (gV s (some i)) λt=>oP (fQ false a) λu=>oP (gV u (some j)) λv=>oP (fQ false a) λw=>oP (gC w (some (iQ,[o,r,t,v]))) λx=>xd C x D λy E=>oP (om a (oD .not y)) λz=>bP z (Q bF E) (oP (eo .add 3 b nO) λA=>f g i j d e A E)) (Q bT h)
theorem yY{C Q}(I)(s:P6 I (pd C Q)){k d e f a b c h}(i:I k d e f a b c h):pJ C Q d e f a b c h:=WA.l6 I _ s i
def tA(C:fk)(Q:fo)(a0 a1 a2 a3:V)(h:Hp):Prop:=oP (ij a0) λb=>oP (fH 0 b) λc=>dJ 4 c 1 a1 0 h λa=>oP (fy a) λd=>pJ C Q a0 a2 a3 a d nZ h
theorem Ba{C}(s:C.start=fV){a0 a1 a2 a3 h Q}(k:C.K iJ [a0,a1,a2,a3] h=none)(H:tA C Q a0 a1 a2 a3 h):cP C iJ [a0,a1,a2,a3] h Q:=cP.vd t59 s (by unfold P0;exact Tryd.func59) k H
def t39:List (Nat×List Nat):=[(175,[0,1,5,6,24,25,26]),(1356591,[0,1,5,6,24,25,26,43,44,45]),(3886,[0,1,5,6,24,25,26])]
def uw(C:fk)(Q:fo)(d e f g a b c:V)(h:Hp):Prop:=∀ρ:gf,ρ 0=d->ρ 1=e->ρ 5=f->ρ 6=g->ρ 24=a->ρ 25=b->ρ 26=c->WA C Tryd.f39 t39 87 [] Q ρ h
def uY(C:fk)(Q:fo)(a:Og)(i j k l b c d e f g:V)(h:Hp):Prop:=∀ρ:gf,ρ 0=i->ρ 1=j->ρ 5=k->ρ 6=l->ρ 24=b->ρ 25=c->ρ 26=d->ρ 43=e->ρ 44=f->ρ 45=g->WA C Tryd.f39 t39 678295 [λρ h=>a (ρ 0) (ρ 1) (ρ 5) (ρ 6) (ρ 24) (ρ 25) (ρ 26) h] Q ρ h
def ni(C:fk)(Q:fo)(a:Og)(e f g i b c d:V)(h:Hp):Prop:=∀ρ:gf,ρ 0=e->ρ 1=f->ρ 5=g->ρ 6=i->ρ 24=b->ρ 25=c->ρ 26=d->WA C Tryd.f39 t39 1943 [λρ h=>a (ρ 0) (ρ 1) (ρ 5) (ρ 6) (ρ 24) (ρ 25) (ρ 26) h] Q ρ h
def uX(C:fk)(Q:fo)(j:Og)(d g k t e f b:V)(h:Hp):Prop:=bO .lss 3 b f (dX 1 e b h λu=>oP (ij d) λv=>oP (fH 0 v) λw=>dF 2 w h λx=>oP (gI 6 x u) λy=>oP (gy 6 y h) λz=>im (zC 38 [nZ,nZ,nZ,nZ,nS,nZ]) h λi h1=>fi (gG 6 i z h1) λvu l=>dF 0 i l λA=>bO .eql 3 A (V.I 21) (dF 4 i l λm=>oP (fy m) λB=>uY C Q j d g k t e f b m B nZ l) (oP (gy 6 i l) λD=>cP C sH [D] l λE h3=>cP C iQ [d,E,g,b] h3 λF h4=>oP (oD .not F) λc=>oP (fQ false c) λb8=>oP (gV b8 (fH 0 i)) λG=>oP (fQ false c) λb9=>oP (gV b9 (ey G h4)) λH=>oP (fQ false c) λI=>oP (gC I (some (nU,[H]))) λJ=>xd C J h4 λK h5=>oP (fQ false c) λL=>oP (gV L (some K)) λa=>oP (fQ true a) λM=>oP (gV M (some d)) λN=>oP (fQ true a) λO=>oP (gV O (fH 5 i)) λP=>oP (fQ true a) λR=>oP (gV R (ey P h5)) λS=>oP (fQ true a) λT=>oP (gV T (some g)) λU=>oP (fQ true a) λW=>oP (gV W (some b)) λX=>oP (fQ true a) λY=>oP (gC Y (some (iJ,[N,S,U,X]))) λZ=>xd C Z h5 λaa h6=>oP (fQ true a) λab=>oP (gV ab (oD .not aa)) λac=>oP (om c (l0 a ac bF)) λae=>bP ae (Q bF h6) (ni C Q j d g k t e f b h6))) (dF 1 k h λn=>bO .eql 3 n (V.I 2) (dF 2 k h λo=>im (ji 3 1 1 nZ [(0,o)]) h λp h7=>cP C iQ [d,p,g,t] h7 λq h8=>Q q h8) (bO .eql 3 n (V.I 3) (dF 5 k h λr=>cP C iJ [d,r,g,t] h λs h9=>Q s h9) (Q bT h)))
theorem Cb{C Q}(I)(s:P7 I (uX C Q)){k d e f g a b c h}(i:I k d e f g a b c h):uw C Q d e f g a b c h:=WA.l7 I _ s i
def uR(C:fk)(Q:fo)(k:Og)(l:IG)(i z j A c d e f g a:V)(h:Hp):Prop:=bO .lss 3 a g (dX 1 f a h λm=>xR (ji 3 1 1 nZ [(0,m)]) h λn o b=>dY 4 j 1 a b λp=>oP (ij i) λq=>oP (fH 0 q) λr=>dF 3 r b λs=>dY 4 j 1 a b λt=>oP (gI 6 s t) λu=>dG 0 u b λv=>((b.get (h.next)=some n/\O.beq n n=true)/\cP C iQ [i,o,p,v] b λw x=>(b.next<=x.next/\bN w (Q bF x) (oP (eo .add 3 a nO) λy=>l i z j A c d e f g y x)))) (ni C Q k i z j A c d e h)
theorem BV{C Q a}(I)(s:P10 I (uR C Q a)){k j l m n b c d e f g h}(i:I k j l m n b c d e f g h):uY C Q a j l m n b c d e f g h:=WA.l10 I _ s i
def m0(C:fk)(Q:fo)(a:Og)(f g i j b c d:V)(h:Hp):Prop:=oP (eo .add 3 d nO) λe=>a f g i j b c e h
theorem sR{C:fk}{Q:fo}{a:Og}{e f g i b c d:V}{h:Hp}(H:m0 C Q a e f g i b c d h):ni C Q a e f g i b c d h:=by
 rintro ρ rfl rfl rfl rfl rfl rfl rfl;exact WA.of (by kernel_rfl) H
def xC(C:fk)(Q:fo)(a0 a1:V)(h:Hp):Prop:=oP (ij a0) λc=>oP (fH 0 c) λd=>dF 3 d h λe=>oP (gI 6 e a1) λf=>oP (gy 6 f h) λg=>im (zC 41 [nS,nZ,nZ,nS,nS,nZ]) h λb l=>fi (gG 6 b g l) λm i=>dG 0 b i λj=>dF 0 b i λa=>oP (fy a) λk=>uw C Q a0 a1 b j a k nZ i
theorem E0{C}(s:C.start=fV){a0 a1 h Q}(k:C.K lg [a0,a1] h=none)(H:xC C Q a0 a1 h):cP C lg [a0,a1] h Q:=cP.vd t39 s (by unfold P0;exact Tryd.func39) k H
def t12:List (Nat×List Nat):=[]
def Jf(C:fk)(Q:fo)(a0:V)(h:Hp):Prop:=im (pU 29 a0) h λe f=>dG 2 e f λv7=>oP (eo .gtr 3 v7 (V.I 3000)) λv8=>oP (om v8 (oB (fH 3 e) λp=>oB (ey p f) λq=>oB (fy q) λr=>eo .gtr 3 r (V.I 300))) λs=>oP (om s (oB (fH 4 e) λt=>oB (ey t f) λu=>oB (fy u) λv=>eo .gtr 3 v (V.I 1000))) λw=>oP (om w (oB (fH 3 e) λx=>oB (ey x f) λy=>oB (fy y) λz=>eo .eql 3 z nZ)) λA=>bP A (Q bF f) (oP (gy 5 e f) λB=>oP (fR [nZ,nZ,nS,nS,nS,nS,nS,nS] [(0,5),(5,1),(6,1),(7,1)] [(0,B)]) λD=>im (pU 75 D) f λa h2=>dG 4 e h2 λE=>cP C je [a,E,(V.func lh [a] [])] h2 λF h3=>oP (oD .not F) λg=>oP (fQ false g) λb9=>oP (gV b9 (some a)) λG=>oP (fQ false g) λH=>oP (gC H (some (mV,[G]))) λI=>xd C I h3 λJ h4=>oP (om g (oD .not J)) λb=>oP (fQ false b) λi=>oP (gV i (some a)) λK=>oP (fQ false b) λL=>oP (gV L (fH 2 e)) λM=>oP (fQ false b) λN=>oP (gV N (ey M h4)) λO=>oP (fQ false b) λj=>oP (gV j (fy O)) λP=>oP (fQ false b) λk=>oP (gV k (some a)) λR=>oP (fQ false b) λl=>oP (gV l (some (V.func jH [R] []))) λS=>oP (fQ false b) λm=>oP (gC m (some (je,[K,P,S]))) λT=>xd C T h4 λU h5=>oP (om b (oD .not U)) λc=>oP (fQ false c) λW=>oP (gV W (some a)) λX=>oP (fQ false c) λY=>oP (gV Y (fH 3 e)) λZ=>oP (fQ false c) λaa=>oP (gV aa (ey Z h5)) λab=>oP (fQ false c) λac=>oP (gV ac (fy ab)) λae=>oP (fQ false c) λag=>oP (gV ag (some a)) λah=>oP (fQ false c) λai=>oP (gV ai (some (V.func lR [ah] []))) λaj=>oP (fQ false c) λak=>oP (gC ak (some (je,[X,ae,aj]))) λal=>xd C al h5 λam h6=>oP (om c (oD .not am)) λd=>oP (fQ false d) λan=>oP (gV an (some a)) λao=>oP (fQ false d) λap=>oP (gV ap (fH 3 e)) λaq=>oP (fQ false d) λar=>oP (gV ar (ey aq h6)) λau=>oP (fQ false d) λaw=>oP (gV aw (fy au)) λax=>oP (fQ false d) λay=>oP (gV ay (some a)) λaA=>oP (fQ false d) λaB=>oP (gV aB (some (V.func my [aA] []))) λaC=>oP (fQ false d) λaD=>oP (gC aD (some (je,[ao,ax,aC]))) λaE=>xd C aE h6 λaF h7=>oP (om d (oD .not aF)) λaG=>bP aG (Q bF h7) (cP C rq [a] h7 λaH o=>oP (fy aH) λaI=>dG 3 e o λaJ=>bO .neq 3 aI aJ (Q bF o) (oP (gy 5 e o) λaK=>cP C p9 [aK] o λaL h9=>oP (ij a) λaM=>oP (fH 7 aM) λaN=>fi (gG 1 aN aL h9) λvu n=>dG 3 e n λaO=>cP C je [a,aO,(V.func lg [a] [])] n λaP aQ=>Q aP aQ)))
theorem Pb{C}(s:C.start=fV){a0 h Q}(k:C.K zM [a0] h=none)(H:Jf C Q a0 h):cP C zM [a0] h Q:=cP.vd t12 s (by unfold P0;exact Tryd.func12) k H
end
