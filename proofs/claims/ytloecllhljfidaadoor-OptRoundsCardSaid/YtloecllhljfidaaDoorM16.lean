/- Parts. -/
import Derived.Test.YtloecllhljfidaaDoorM14
set_option maxHeartbeats 4000000
namespace Go.Proofs.YtloecllhljfidaaDoor.Hx
set_option maxRecDepth 100000
noncomputable section
def t52:List (Nat×List Nat):=[(126,[1,3,4,5]),(319,[1,3,4,5])]
def yv(C:fm)(Q:fq)(a b c d:V)(h:Hp):Prop:=∀ρ:gg,ρ 1=a->ρ 3=b->ρ 4=c->ρ 5=d->WA C Tryd.f52 t52 63 [] Q ρ h
def Dj(C:fm)(Q:fq)(a b c d:V)(h:Hp):Prop:=∀ρ:gg,ρ 1=a->ρ 3=b->ρ 4=c->ρ 5=d->WA C Tryd.f52 t52 159 [] Q ρ h
def De(C:fm)(Q:fq)(a b c d:V)(h:Hp):Prop:=Dj C Q a b c d h
theorem LH{C:fm}{Q:fq}{a b c d:V}{h:Hp}(H:De C Q a b c d h):yv C Q a b c d h:=by
 rintro ρ rfl rfl rfl rfl;exact WA.of (by kernel_rfl) H
def D2(C:fm)(Q:fq)(c:Jv)(i e f d:V)(h:Hp):Prop:=oP (fD d) λj=>bO .gtr 3 j nZ (oP (fD d) λk=>oP (eJ .sub 3 k nO) λl=>oP (hV 2 d l) λa=>dF 3 i h λm=>dN 0 a h λn=>dI 6 m n 3 h λg=>dN 1 a h λo=>oP (fD g) λp=>bO .eql 3 o p (dN 0 a h λq=>gX (jd 3 1 1 nZ [(0,q)]) h λr R=>fc (eR 3 1 8 f r R) λs O=>oP (fD d) λt=>oP (eJ .sub 3 t nO) λu=>oP (jc 2 d none (some u) O) λv=>c i e s v O) (dN 1 a h λw=>dX 1 g w h λb=>dN 1 a h λx=>oP (eJ .add 3 x nO) λy=>oP (gU a) λz=>oP (fQ 1 z) λA=>fc (gh 1 A y h) λZ S=>oP (fD e) λB=>cP C jX [b,B] S λD E=>oP (mn D (oB (some e) λF=>oB (some b) λG=>oB (hV 1 F G) λH=>oB (eQ H E) λI=>vC .not I)) λJ=>bP J (oP (hV 1 e b) λK=>fc (gh 1 K bT E) λP T=>oP (fJ [nZ,nZ] [(0,1),(1,1)] [(0,b),(1,nZ)]) λL=>gX (jd 114 2 1 (V.agg [nZ,nZ]) [(0,L)]) T λM U=>fc (eR 114 2 16 d M U) λN W=>c i e f N W) (c i e f d E))) (cP C kP [f] h λX Y=>Q f Y)
theorem Kh{C Q}(I)(s:P4 I (D2 C Q)){k a b c d h}(i:I k a b c d h):Dj C Q a b c d h:=WA.l4 I _ s i
def I9(C:fm)(Q:fq)(a0:V)(h:Hp):Prop:=gX (mm 29 a0) h λc k=>dG 3 c k λb=>gX (jm 4 1 1 bF b b) k λa d=>dG 3 c d λe=>bO .gtr 3 e nZ (oP (fJ [nZ,nZ] [(0,1),(1,1)] []) λf=>gX (jd 114 2 1 (V.agg [nZ,nZ]) [(0,f)]) d λg l=>fc (eR 114 2 16 nS g l) λi m=>oP (hV 1 a nZ) λj=>fc (gh 1 j bT m) λo n=>yv C Q c a nS i n) (yv C Q c a nS nS d)
theorem QW{C}(s:C.start=fK){a0 h Q}(k:C.K nN [a0] h=none)(H:I9 C Q a0 h):cP C nN [a0] h Q:=cP.vd t52 s (by unfold P0;exact Tryd.func52) k H
def t53:List (Nat×List Nat):=[(87,[3,13,14,15]),(22935,[3,4,13,14,15,21,22,23]),(498070,[3,4,13,14,15,21,22,23])]
def Dv(C:fm)(Q:fq)(d a b c:V)(h:Hp):Prop:=∀ρ:gg,ρ 3=d->ρ 13=a->ρ 14=b->ρ 15=c->WA C Tryd.f53 t53 43 [] Q ρ h
def C0(C:fm)(Q:fq)(a:Jv)(i j b c d e f g:V)(h:Hp):Prop:=∀ρ:gg,ρ 3=i->ρ 4=j->ρ 13=b->ρ 14=c->ρ 15=d->ρ 21=e->ρ 22=f->ρ 23=g->WA C Tryd.f53 t53 11467 [λρ h=>a (ρ 3) (ρ 13) (ρ 14) (ρ 15) h] Q ρ h
def wY(C:fm)(Q:fq)(a:Jv)(b:JL)(j k c d e f g i:V)(h:Hp):Prop:=∀ρ:gg,ρ 3=j->ρ 4=k->ρ 13=c->ρ 14=d->ρ 15=e->ρ 21=f->ρ 22=g->ρ 23=i->WA C Tryd.f53 t53 249035 [λρ h=>a (ρ 3) (ρ 13) (ρ 14) (ρ 15) h,λρ h=>b (ρ 3) (ρ 4) (ρ 13) (ρ 14) (ρ 15) (ρ 21) (ρ 22) (ρ 23) h] Q ρ h
def Dx(C:fm)(Q:fq)(e:Jv)(j b c a:V)(h:Hp):Prop:=bO .lss 3 a c (oP (hV 6 b a) λf=>oP (fM 6 f h) λg=>gX (zC 38 [nS,nZ,nZ,nS,nS,nZ]) h λk m=>fc (gh 6 k g m) λn l=>dF 3 k l λd=>oP (fD d) λi=>C0 C Q e j a b c a d i nZ l) (Q j h)
theorem K1{C Q}(I)(s:P4 I (Dx C Q)){k d a b c h}(i:I k d a b c h):Dv C Q d a b c h:=WA.l4 I _ s i
def Dh(C:fm)(Q:fq)(b:Jv)(k:JL)(j l c d e f g a:V)(h:Hp):Prop:=bO .lss 3 a g (dX 1 f a h λi=>oP (fD j) λm=>cP C jX [i,m] h λn o=>bP n (dX 1 j i o λp=>gX (jd 3 1 1 nZ [(0,l)]) o λq u=>fc (eR 3 1 8 p q u) λr v=>oP (hV 1 j i) λs=>fc (gh 1 s r v) λx w=>wY C Q b k j l c d e f g a w) (wY C Q b k j l c d e f g a o)) (oP (eJ .add 3 e nO) λt=>b j c d t h)
theorem KH{C Q a}(I)(s:P8 I (Dh C Q a)){k j l b c d e f g h}(i:I k j l b c d e f g h):C0 C Q a j l b c d e f g h:=WA.l8 I _ s i
def BY(C:fm)(Q:fq)(j:Jv)(a:JL)(k l b c d e f g:V)(h:Hp):Prop:=oP (eJ .add 3 g nO) λi=>a k l b c d e f i h
theorem Jy{C:fm}{Q:fq}{a:Jv}{b:JL}{j k c d e f g i:V}{h:Hp}(H:BY C Q a b j k c d e f g i h):wY C Q a b j k c d e f g i h:=by
 rintro ρ rfl rfl rfl rfl rfl rfl rfl rfl;exact WA.of (by kernel_rfl) H
def Jo(C:fm)(Q:fq)(a0:V)(h:Hp):Prop:=gX (mm 29 a0) h λe f=>dG 3 e f λa=>gX (jm 22 1 24 nS a a) f λc g=>dF 3 e g λb=>oP (fD b) λd=>Dv C Q c b d nZ g
theorem PM{C}(s:C.start=fK){a0 h Q}(k:C.K wN [a0] h=none)(H:Jo C Q a0 h):cP C wN [a0] h Q:=cP.vd t53 s (by unfold P0;exact Tryd.func53) k H
def t36:List (Nat×List Nat):=[(175,[3,4,5,6,30,31]),(351,[3,4,5,6,38,39,40]),(5631,[3,4,5,10,11]),(370175,[3,4,5,10,11,59,60,61]),(362391039,[3,4,5,10,11,13,14,59,60,61,68,69,70]),(8147019262,[3,4,5,10,11,13,14,59,60,61,68,69,70]),(7972350,[3,4,5,10,11,59,60,61])]
def xn(C:fm)(Q:fq)(c d e f a b:V)(h:Hp):Prop:=∀ρ:gg,ρ 3=c->ρ 4=d->ρ 5=e->ρ 6=f->ρ 30=a->ρ 31=b->WA C Tryd.f36 t36 87 [] Q ρ h
def xi(C:fm)(Q:fq)(d e f g a b c:V)(h:Hp):Prop:=∀ρ:gg,ρ 3=d->ρ 4=e->ρ 5=f->ρ 6=g->ρ 38=a->ρ 39=b->ρ 40=c->WA C Tryd.f36 t36 175 [] Q ρ h
def xo(C:fm)(Q:fq)(c d e a b:V)(h:Hp):Prop:=∀ρ:gg,ρ 3=c->ρ 4=d->ρ 5=e->ρ 10=a->ρ 11=b->WA C Tryd.f36 t36 2815 [] Q ρ h
def xE(C:fm)(Q:fq)(a:Hf)(g i j b c d e f:V)(h:Hp):Prop:=∀ρ:gg,ρ 3=g->ρ 4=i->ρ 5=j->ρ 10=b->ρ 11=c->ρ 59=d->ρ 60=e->ρ 61=f->WA C Tryd.f36 t36 185087 [λρ h=>a (ρ 3) (ρ 4) (ρ 5) (ρ 10) (ρ 11) h] Q ρ h
def xz(C:fm)(Q:fq)(a:Hf)(b:JL)(n o p c d e f g i j k l m:V)(h:Hp):Prop:=∀ρ:gg,ρ 3=n->ρ 4=o->ρ 5=p->ρ 10=c->ρ 11=d->ρ 13=e->ρ 14=f->ρ 59=g->ρ 60=i->ρ 61=j->ρ 68=k->ρ 69=l->ρ 70=m->WA C Tryd.f36 t36 181195519 [λρ h=>a (ρ 3) (ρ 4) (ρ 5) (ρ 10) (ρ 11) h,λρ h=>b (ρ 3) (ρ 4) (ρ 5) (ρ 10) (ρ 11) (ρ 59) (ρ 60) (ρ 61) h] Q ρ h
def mE(C:fm)(Q:fq)(a:Hf)(b:JL)(c:FV)(o p q d e f g i j k l m n:V)(h:Hp):Prop:=∀ρ:gg,ρ 3=o->ρ 4=p->ρ 5=q->ρ 10=d->ρ 11=e->ρ 13=f->ρ 14=g->ρ 59=i->ρ 60=j->ρ 61=k->ρ 68=l->ρ 69=m->ρ 70=n->WA C Tryd.f36 t36 4073509631 [λρ h=>a (ρ 3) (ρ 4) (ρ 5) (ρ 10) (ρ 11) h,λρ h=>b (ρ 3) (ρ 4) (ρ 5) (ρ 10) (ρ 11) (ρ 59) (ρ 60) (ρ 61) h,λρ h=>c (ρ 3) (ρ 4) (ρ 5) (ρ 10) (ρ 11) (ρ 13) (ρ 14) (ρ 59) (ρ 60) (ρ 61) (ρ 68) (ρ 69) (ρ 70) h] Q ρ h
def pP(C:fm)(Q:fq)(a:Hf)(b:JL)(i j k c d e f g:V)(h:Hp):Prop:=∀ρ:gg,ρ 3=i->ρ 4=j->ρ 5=k->ρ 10=c->ρ 11=d->ρ 59=e->ρ 60=f->ρ 61=g->WA C Tryd.f36 t36 3986175 [λρ h=>a (ρ 3) (ρ 4) (ρ 5) (ρ 10) (ρ 11) h,λρ h=>b (ρ 3) (ρ 4) (ρ 5) (ρ 10) (ρ 11) (ρ 59) (ρ 60) (ρ 61) h] Q ρ h
def xj(C:fm)(Q:fq)(d:OS)(c k e l b a:V)(h:Hp):Prop:=bO .lss 3 a b (oP (eQ e h) λf=>oP (hV 1 f a) λg=>fc (gh 1 g (V.I (-1)) h) λn m=>oP (eJ .add 3 a nO) λi=>d c k e l b i m) (oP (fD c) λj=>xi C Q c k e l c j nZ h)
theorem EP{C Q}(I)(s:P6 I (xj C Q)){k c d e f a b h}(i:I k c d e f a b h):xn C Q c d e f a b h:=WA.l6 I _ s i
def xI(C:fm)(Q:fq)(e:Pe)(f q b g c d a:V)(h:Hp):Prop:=bO .lss 3 a d (dX 1 c a h λi=>oP (eQ g h) λj=>oP (hV 1 j i) λk=>fc (gh 1 k a h) λu s=>oP (eJ .add 3 a nO) λl=>e f q b g c d l s) (oP (fD f) λm=>bO .eql 3 m nZ (oP (eQ b h) λn=>Q n h) (oP (eQ b h) λo=>oP (hV 1 o nZ) λp=>fc (gh 1 p nZ h) λr t=>xo C Q f q b (V.func ja [] [g,b]) bT t))
theorem EV{C Q}(I)(s:P7 I (xI C Q)){k d e f g a b c h}(i:I k d e f g a b c h):xi C Q d e f g a b c h:=WA.l7 I _ s i
def xu(C:fm)(Q:fq)(e:Hf)(k m f g i:V)(h:Hp):Prop:=bP i (oP (jc 1 k (some nO) none h) λa=>oP (fD a) λj=>xE C Q e k m f g bF a j nZ h) (oP (eQ f h) λb=>oP (hV 1 b nZ) λc=>fc (gh 1 c (V.I (-1)) h) λn l=>oP (eQ f l) λd=>Q d l)
theorem EO{C Q}(I)(s:P5 I (xu C Q)){k c d e a b h}(i:I k c d e a b h):xo C Q c d e a b h:=WA.l5 I _ s i
def xl(C:fm)(Q:fq)(b:Hf)(j:JL)(m k n c d e f a:V)(h:Hp):Prop:=bO .lss 3 a f (dX 1 e a h λg=>dX 1 k g h λi=>oP (fD i) λl=>xz C Q b j m k n c d g (V.I (-1)) e f a i l nZ h) (b m k n c d h)
theorem EN{C Q a}(I)(s:P8 I (xl C Q a)){k g j l b c d e f h}(i:I k g j l b c d e f h):xE C Q a g j l b c d e f h:=WA.l8 I _ s i
def xC(C:fm)(Q:fq)(b:Hf)(c:JL)(o:FV)(q r n a k d e f g i l m j:V)(h:Hp):Prop:=bO .lss 3 j m (dX 1 l j h λp=>oP (eQ n h) λs=>dX 1 s p h λt=>bO .lss 3 t nZ (mE C Q b c o q r n a k d e f g i l m j h) (bO .lss 3 e nZ (mE C Q b c o q r n a k d p f g i l m j h) (gN C (fO a [e,p]) h λu z=>mE C Q b c o q r n a k d u f g i l m j z))) (oP (eQ n h) λv=>dX 1 v d h λw=>bO .neq 3 w e (oP (eQ n h) λx=>oP (hV 1 x d) λy=>fc (gh 1 y e h) λB A=>pP C Q b c q r n a bT f g i A) (pP C Q b c q r n a k f g i h))
theorem EY{C Q a b}(I)(s:P13 I (xC C Q a b)){k p q r c d e f g j l m n o h}(i:I k p q r c d e f g j l m n o h):xz C Q a b p q r c d e f g j l m n o h:=WA.l13 I _ s i
def mH(C:fm)(Q:fq)(n:Hf)(o:JL)(a:FV)(p q r b c d e f g i j k l:V)(h:Hp):Prop:=oP (eJ .add 3 l nO) λm=>a p q r b c d e f g i j k m h
theorem p7{C:fm}{Q:fq}{a:Hf}{b:JL}{c:FV}{o p q d e f g i j k l m n:V}{h:Hp}(H:mH C Q a b c o p q d e f g i j k l m n h):mE C Q a b c o p q d e f g i j k l m n h:=by
 rintro ρ rfl rfl rfl rfl rfl rfl rfl rfl rfl rfl rfl rfl rfl;exact WA.of (by kernel_rfl) H
def pM(C:fm)(Q:fq)(i:Hf)(a:JL)(j k l b c d e f:V)(h:Hp):Prop:=oP (eJ .add 3 f nO) λg=>a j k l b c d e g h
theorem vZ{C:fm}{Q:fq}{a:Hf}{b:JL}{i j k c d e f g:V}{h:Hp}(H:pM C Q a b i j k c d e f g h):pP C Q a b i j k c d e f g h:=by
 rintro ρ rfl rfl rfl rfl rfl rfl rfl rfl;exact WA.of (by kernel_rfl) H
def AQ(C:fm)(Q:fq)(a0:V)(h:Hp):Prop:=gX (mm 29 a0) h λe m=>oP (fM 5 e m) λq=>oP (fM 5 e m) λf=>cP C nN [q] m λr n=>(m.next<=n.next/\((fM 5 e n=some f)/\cP C wN [f] n λs o=>(n.next<=o.next/\oP (fQ 3 e) λg=>oP (eQ g o) λi=>oP (fD i) λj=>wP (jm 3 1 8 nZ j j) o λt u p=>oP (fQ 3 e) λb=>oP (eQ b p) λc=>oP (fD c) λk=>wP (jm 3 1 8 nZ k k) p λd v D=>wP (zC 22 [nS]) D λw x E=>wP (zC 22 [nS]) E λy F a=>((a.get (E.next)=some y/\O.beq y y=true)/\((a.get (D.next)=some w/\O.beq w w=true)/\((a.get (p.next)=some d/\O.beq d d=true)/\((eQ b a=some c)/\((a.get (o.next)=some t/\O.beq t t=true)/\((eQ g a=some i)/\fc (gh 1 x u a) λH l=>(a.next<=l.next/\((l.get (p.next)=some d/\O.beq d d=true)/\((eQ b l=some c)/\fc (gh 1 F v l) λG z=>(l.next<=z.next/\oP (eQ x z) λA=>oP (fD A) λB=>xn C Q r s x F B nZ z)))))))))))))
theorem IJ{C}(s:C.start=fK){a0 h Q}(k:C.K nt [a0] h=none)(H:AQ C Q a0 h):cP C nt [a0] h Q:=cP.vd t36 s (by unfold P0;exact Tryd.func36) k H
def t54:List (Nat×List Nat):=[(19,[0,1,2,3])]
def vA(C:fm)(Q:fq)(a b c d:V)(h:Hp):Prop:=∀ρ:gg,ρ 0=a->ρ 1=b->ρ 2=c->ρ 3=d->WA C Tryd.f54 t54 9 [] Q ρ h
def uJ(C:fm)(Q:fq)(a:Jv)(b c d e:V)(h:Hp):Prop:=bO .neq 3 b c (oP (eQ d h) λf=>dX 1 f b h λg=>oP (eQ d h) λi=>dX 1 i c h λj=>bO .gtr 3 g j (oP (eQ e h) λk=>dX 1 k b h λl=>a l c d e h) (oP (eQ e h) λm=>dX 1 m c h λn=>a b n d e h)) (Q b h)
theorem Cs{C Q}(I)(s:P4 I (uJ C Q)){k a b c d h}(i:I k a b c d h):vA C Q a b c d h:=WA.l4 I _ s i
def yJ(C:fm)(Q:fq)(a0 a1 a2 a3:V)(h:Hp):Prop:=vA C Q a0 a1 a2 a3 h
theorem GD{C}(s:C.start=fK){a0 a1 a2 a3 h Q}(k:C.K ja [a0,a1,a2,a3] h=none)(H:yJ C Q a0 a1 a2 a3 h):cP C ja [a0,a1,a2,a3] h Q:=cP.vd t54 s (by unfold P0;exact Tryd.func54) k H
def t41:List (Nat×List Nat):=[(43,[1,2,7])]
def we(C:fm)(Q:fq)(a b c:V)(h:Hp):Prop:=∀ρ:gg,ρ 1=a->ρ 2=b->ρ 7=c->WA C Tryd.f41 t41 21 [] Q ρ h
def wm(C:fm)(Q:fq)(a:RQ)(e f b:V)(h:Hp):Prop:=bO .lss 3 b e (gN C (fO f [b]) h λc g=>bN c (Q bF g) (oP (eJ .add 3 b nO) λd=>a e f d g)) (Q bT h)
theorem Df{C Q}(I)(s:P3 I (wm C Q)){k a b c h}(i:I k a b c h):we C Q a b c h:=WA.l3 I _ s i
def zK(C:fm)(Q:fq)(a0 a1 a2:V)(h:Hp):Prop:=we C Q a1 a2 nZ h
theorem HQ{C}(s:C.start=fK){a0 a1 a2 h Q}(k:C.K jq [a0,a1,a2] h=none)(H:zK C Q a0 a1 a2 h):cP C jq [a0,a1,a2] h Q:=cP.vd t41 s (by unfold P0;exact Tryd.func41) k H
def t56:List (Nat×List Nat):=[(43,[0,7,8,9]),(56522,[0,7,8,9,31])]
def tC(C:fm)(Q:fq)(a b c d:V)(h:Hp):Prop:=∀ρ:gg,ρ 0=a->ρ 7=b->ρ 8=c->ρ 9=d->WA C Tryd.f56 t56 21 [] Q ρ h
def jI(C:fm)(Q:fq)(a:Jv)(c d e f b:V)(h:Hp):Prop:=∀ρ:gg,ρ 0=c->ρ 7=d->ρ 8=e->ρ 9=f->ρ 31=b->WA C Tryd.f56 t56 28261 [λρ h=>a (ρ 0) (ρ 7) (ρ 8) (ρ 9) h] Q ρ h
def uA(C:fm)(Q:fq)(a:Jv)(c f g d:V)(h:Hp):Prop:=bO .lss 3 d g (dX 1 f d h λi=>oP (gU c) λm=>oP (fQ 0 m) λn=>dG 2 n h λo=>cP C jX [i,o] h λp e=>bN p (Q bF e) (oP (gU c) λq=>oP (fQ 0 q) λr=>dJ 2 r 6 i 0 e λb=>oP (eJ .eql 3 b (V.I 19)) λj=>bP j (jI C Q a c f g d j e) (oP (eJ .eql 3 b (V.I 20)) λk=>bP k (jI C Q a c f g d k e) (oP (eJ .eql 3 b (V.I 22)) λl=>bP l (jI C Q a c f g d l e) (oP (eJ .eql 3 b (V.I 23)) λs=>jI C Q a c f g d s e))))) (Q bT h)
theorem Bb{C Q}(I)(s:P4 I (uA C Q)){k a b c d h}(i:I k a b c d h):tC C Q a b c d h:=WA.l4 I _ s i
def se(C:fm)(Q:fq)(a:Jv)(d e f g b:V)(h:Hp):Prop:=bP b (Q bF h) (oP (eJ .add 3 g nO) λc=>a d e f c h)
theorem A2{C:fm}{Q:fq}{a:Jv}{c d e f b:V}{h:Hp}(H:se C Q a c d e f b h):jI C Q a c d e f b h:=by
 rintro ρ rfl rfl rfl rfl rfl;exact WA.of (by kernel_rfl) H
def xA(C:fm)(Q:fq)(a0 a1:V)(h:Hp):Prop:=oP (fD a1) λa=>tC C Q a0 a1 a nZ h
theorem EL{C}(s:C.start=fK){a0 a1 h Q}(k:C.K iM [a0,a1] h=none)(H:xA C Q a0 a1 h):cP C iM [a0,a1] h Q:=cP.vd t56 s (by unfold P0;exact Tryd.func56) k H
def t42:List (Nat×List Nat):=[(175,[0,27,28,29])]
def uo(C:fm)(Q:fq)(d a b c:V)(h:Hp):Prop:=∀ρ:gg,ρ 0=d->ρ 27=a->ρ 28=b->ρ 29=c->WA C Tryd.f42 t42 87 [] Q ρ h
def ur(C:fm)(Q:fq)(i:Jv)(j d e c:V)(h:Hp):Prop:=bO .lss 3 c e (oP (hV 4 d c) λk=>oP (fM 4 k h) λl=>gX (zC 44 [nZ,nZ,nS,nS]) h λf O=>fc (gh 4 f l O) λP g=>dG 2 f g λm=>oP (eJ .gtr 3 m (V.I 40)) λn=>oP (uP n (oB (fQ 3 f) λo=>oB (eQ o g) λp=>oB (fD p) λq=>eJ .gtr 3 q (V.I 60))) λa=>oP (gq false a) λr=>oP (gV r (some j)) λs=>oP (gq false a) λt=>oP (gV t (fQ 2 f)) λu=>oP (gq false a) λv=>oP (gV v (eQ u g)) λw=>oP (gq false a) λx=>oP (gC x (some (iM,[s,w]))) λy=>vD C y g λz M=>oP (uP a (vC .not z)) λb=>oP (gq false b) λA=>oP (gV A (some j)) λB=>oP (gq false b) λD=>oP (gV D (fQ 3 f)) λE=>oP (gq false b) λF=>oP (gV F (eQ E M)) λG=>oP (gq false b) λH=>oP (gC H (some (iM,[B,G]))) λI=>vD C I M λJ N=>oP (uP b (vC .not J)) λK=>bP K (Q bF N) (oP (eJ .add 3 c nO) λL=>i j d e L N)) (Q bT h)
theorem Ba{C Q}(I)(s:P4 I (ur C Q)){k d a b c h}(i:I k d a b c h):uo C Q d a b c h:=WA.l4 I _ s i
def xK(C:fm)(Q:fq)(a0 a1:V)(h:Hp):Prop:=oP (gU a0) λp=>oP (fQ 0 p) λd=>dF 4 d h λe=>oP (hV 1 e a1) λf=>oP (fM 1 f h) λg=>gX (zC 47 [nS]) h λc q=>fc (gh 1 c g q) λr a=>dG 0 c a λi=>oP (eJ .eql 3 i nZ) λj=>oP (uP j (oB (fQ 0 c) λk=>oB (eQ k a) λl=>oB (fD l) λm=>eJ .gtr 3 m (V.I 30))) λn=>bP n (Q bF a) (dF 0 c a λb=>oP (fD b) λo=>uo C Q a0 b o nZ a)
theorem E2{C}(s:C.start=fK){a0 a1 h Q}(k:C.K lJ [a0,a1] h=none)(H:xK C Q a0 a1 h):cP C lJ [a0,a1] h Q:=cP.vd t42 s (by unfold P0;exact Tryd.func42) k H
def t43:List (Nat×List Nat):=[(87,[0,36,37]),(351,[0,4,51,52,53]),(190047,[0,4,5,7,51,52,53,59,60,61])]
def ug(C:fm)(Q:fq)(c a b:V)(h:Hp):Prop:=∀ρ:gg,ρ 0=c->ρ 36=a->ρ 37=b->WA C Tryd.f43 t43 43 [] Q ρ h
def uz(C:fm)(Q:fq)(d e a b c:V)(h:Hp):Prop:=∀ρ:gg,ρ 0=d->ρ 4=e->ρ 51=a->ρ 52=b->ρ 53=c->WA C Tryd.f43 t43 175 [] Q ρ h
def uu(C:fm)(Q:fq)(a:Hf)(i j k l b c d e f g:V)(h:Hp):Prop:=∀ρ:gg,ρ 0=i->ρ 4=j->ρ 5=k->ρ 7=l->ρ 51=b->ρ 52=c->ρ 53=d->ρ 59=e->ρ 60=f->ρ 61=g->WA C Tryd.f43 t43 95023 [λρ h=>a (ρ 0) (ρ 4) (ρ 51) (ρ 52) (ρ 53) h] Q ρ h
def tH(C:fm)(Q:fq)(e:RQ)(d b a:V)(h:Hp):Prop:=bO .lss 3 a b (dN 5 d h λf=>oP (hV 1 f a) λg=>fc (gh 1 g (V.I (-1)) h) λn m=>oP (eJ .add 3 a nO) λi=>e d b i m) (oP (gU d) λj=>oP (fQ 0 j) λk=>dF 3 k h λc=>oP (fD c) λl=>uz C Q d nZ c l nZ h)
theorem BC{C Q}(I)(s:P3 I (tH C Q)){k c a b h}(i:I k c a b h):ug C Q c a b h:=WA.l3 I _ s i
def tM(C:fm)(Q:fq)(j:Hf)(n o b c a:V)(h:Hp):Prop:=bO .lss 3 a c (oP (hV 6 b a) λk=>oP (fM 6 k h) λl=>gX (zC 38 [nS,nZ,nZ,nS,nS,nZ]) h λp r=>fc (gh 6 p l r) λs q=>dF 0 p q λd=>oP (fD d) λm=>uu C Q j n o a bT b c a d m nZ q) (oP (gU n) λe=>oP (fQ 0 e) λf=>dG 2 f h λg=>oP (eJ .eql 3 o g) λi=>Q i h)
theorem Bl{C Q}(I)(s:P5 I (tM C Q)){k d e a b c h}(i:I k d e a b c h):uz C Q d e a b c h:=WA.l5 I _ s i
def uk(C:fm)(Q:fq)(D:Hf)(E:Ij)(d x4 F x7 g i j k l b:V)(h:Hp):Prop:=bO .lss 3 b l (dX 1 k b h λa=>oP (gU d) λG=>oP (fQ 0 G) λH=>dG 2 H h λI=>cP C jX [a,I] h λJ c=>oP (vC .not J) λK=>oP (uP K (oB (some d) λL=>oB (gU L) λM=>oB (fQ 5 M) λN=>oB (eQ N c) λO=>oB (some a) λP=>oB (hV 1 O P) λR=>oB (eQ R c) λS=>eJ .geq 3 S nZ)) λT=>bP T (Q bF c) (oP (gU d) λU=>oP (fQ 0 U) λW=>dJ 2 W 6 a 0 c λe=>oP (eJ .eql 3 e (V.I 21)) λX=>oP (uP X (oB (some e) λY=>eJ .eql 3 Y nO)) λf=>oP (mn f (oB (some x7) λm=>vC .not m)) λn=>oP (uP n (oB (some e) λo=>oB (eJ .eql 3 o nO) λp=>oB (some F) λq=>oB (eJ .eql 3 q nZ) λr=>oB (eJ .neq 4 p r) λs=>oB (some s) λt=>mn t (some f))) λu=>bP u (Q bF c) (dN 5 d c λv=>dN 6 d c λw=>oP (hV 1 v a) λx=>fc (gh 1 x F c) λvu Z=>(c.next<=Z.next/\oP (hV 1 w a) λy=>fc (gh 1 y b Z) λaa h3=>(Z.next<=h3.next/\oP (eJ .add 3 x4 nO) λz=>oP (eJ .add 3 b nO) λA=>E d z F f g i j k l A h3))))) (oP (eJ .add 3 j nO) λB=>D d x4 g i B h)
theorem BD{C Q a}(I)(s:P10 I (uk C Q a)){k j l m n b c d e f g h}(i:I k j l m n b c d e f g h):uu C Q a j l m n b c d e f g h:=WA.l10 I _ s i
def xe(C:fm)(Q:fq)(a0:V)(h:Hp):Prop:=oP (gU a0) λl=>oP (fQ 0 l) λm=>oP (fQ 2 m) λc=>oP (eQ c h) λd=>oP (fD d) λe=>wP (jm 3 1 8 nZ e e) h λn o j=>oP (gU a0) λp=>oP (fQ 0 p) λq=>oP (fQ 2 q) λf=>oP (eQ f j) λg=>oP (fD g) λi=>wP (jm 3 1 8 nZ i i) j λa r b=>oP (gU a0) λs=>oP (fQ 5 s) λt=>((b.get (j.next)=some a/\O.beq a a=true)/\((eQ f b=some g)/\((b.get (h.next)=some n/\O.beq n n=true)/\((eQ c b=some d)/\fc (gh 1 t o b) λA k=>(b.next<=k.next/\oP (gU a0) λu=>oP (fQ 6 u) λv=>((k.get (j.next)=some a/\O.beq a a=true)/\fc (gh 1 v r k) λz w=>(k.next<=w.next/\oP (gU a0) λx=>dG 5 x w λy=>ug C Q a0 y nZ w)))))))
theorem ES{C}(s:C.start=fK){a0 h Q}(k:C.K ni [a0] h=none)(H:xe C Q a0 h):cP C ni [a0] h Q:=cP.vd t43 s (by unfold P0;exact Tryd.func43) k H
section
variable (C:fm)(Q:X->gg->Hp->Prop)(ρ:gg)(h:Hp)
def OE:=NK Tryd.f44
def Z8:=OE.r
def Z1:=OE.r.r
def zas:=OE.r.r.l.r
def Z3:=OE.r.r.r
def zcE:=andThen (Wp C 94 Z3 Q) Q
def zap:=OE.r.r.l.r.l.r
def Z7:=OE.r.r.r.l.r
def zaj:=OE.r.r.r.r
def q60:=andThen (Wp C 94 zaj Q) Q
def ZY:=OE.r.r.r.l.r.l.r
def zcf(C:fm)(Q:XQ):XQ:=yt 0 Q
def zag:=OE.r.r.r.r.r
def zah:=OE.r.r.r.l.r.l.r.l.r
def XW:=OE.r.r.r.l.r.l.r.r.r
def V5:=OE.r.r.r.l.r.l.r.r.r.l.r
def Xp:=OE.r.r.r.l.r.l.r.r.r.r.r
def WV:=OE.r.r.r.l.r.l.r.r.r.r.r.l.r
theorem e44:uK C 94 OE Q ρ h=(oP (some (V.bool false)) λa=>
 Wp C 94 Z8 Q (gw ρ 4 a) h):=by kernel_rfl
theorem zcg:uK C 94 Z8 Q ρ h=(oP (some (ρ 0)) λe=>
 oP (gU e) λf=>
 oP (fQ 0 f) λg=>
 oP (fQ 2 g) λi=>
 oP (eQ i h) λa=>
 oP (some (ρ 1)) λb=>
 oP (hV 6 a b) λc=>
 oP (fM 6 c h) λd=>
 gX (some (.cells 40 1 true false [(V.I 0),(V.I 0),(V.I 0),(V.I 0),V.ee,(V.I 0)],λl=> .ptr l 0)) h λj k=>
 fc (gh 6 j d k) λn m=>
 Wp C 94 Z1 Q (gw (gw (gw (gw (gw (gw (gw (gw (gw ρ 6 e) 7 f) 8 g) 9 i) 10 a) 11 b) 12 c) 13 d) 5 j) m):=by kernel_rfl
theorem zcA:uK C 94 Z1 Q ρ h=(oP (fQ 0 (ρ 5)) λd=>
 oP (eQ d h) λs=>
 ((eQ d h=some s)/\
 ((fQ 0 (ρ 5)=some d)/\
 dcP C BG [s] h λt D=>
 (h.next<=D.next/\
 oP (eJ .eql 9 t (V.str [])) λe=>
 oP (some e) λb=>
 oP (gq false b) λW=>
 oP (gV W (some (ρ 0))) λf=>
 oP (gq false b) λb6=>
 oP (gV b6 (fM 6 (ρ 5) D)) λu=>
 ((gT b6 (fM 6 (ρ 5) D=some u))/\
 ((gT W (some (ρ 0)=some f))/\
 ((some e=some b)/\
 ((eJ .eql 9 t (V.str [])=some e)/\
 oP (gq false b) λb7=>
 oP (gC b7 (some (mc,[u]))) λx7=>vD C x7 D λE X=>
 (D.next<=X.next/\
 ((gT W (some (ρ 0)=some f))/\
 oP (gq false b) λb8=>
 oP (gC b8 (some (iM,[f,E]))) λx8=>vD C x8 X λv F=>
 (X.next<=F.next/\
 oP (gq false b) λb9=>
 oP (gV b9 (vC .not v)) λg=>
 oP (nM b (V.bool true) g) λi=>
 oP (some i) λc=>
 oP (gq false c) λG=>
 oP (gV G (fQ 0 (ρ 5))) λj=>
 oP (gq false c) λH=>
 oP (gV H (eQ j F)) λw=>
 ((gT H (eQ j F=some w))/\
 ((gT G (fQ 0 (ρ 5)=some j))/\
 ((some i=some c)/\
 ((nM b (V.bool true) g=some i)/\
 ((gT b9 (vC .not v=some g))/\
 oP (gq false c) λY=>
 oP (gC Y (some (mG,[w]))) λZ=>vD C Z F λx y=>
 (F.next<=y.next/\
 oP (gq false c) λI=>
 oP (gV I (some x)) λa=>
 oP (gq true a) λJ=>
 oP (gV J (fQ 5 (ρ 5))) λk=>
 oP (gq true a) λK=>
 oP (gV K (eQ k y)) λz=>
 oP (gq true a) λL=>
 oP (gV L (some (ρ 0))) λl=>
 oP (gq true a) λM=>
 oP (gV M (gU l)) λm=>
 oP (gq true a) λN=>
 oP (gV N (fQ 0 m)) λn=>
 oP (gq true a) λO=>
 oP (gV O (fQ 4 n)) λo=>
 oP (gq true a) λP=>
 oP (gV P (eQ o y)) λp=>
 oP (gq true a) λR=>
 oP (gV R (fD p)) λA=>
 ((gT R (fD p=some A))/\
 ((gT P (eQ o y=some p))/\
 ((gT O (fQ 4 n=some o))/\
 ((gT N (fQ 0 m=some n))/\
 ((gT M (gU l=some m))/\
 ((gT L (some (ρ 0)=some l))/\
 ((gT K (eQ k y=some z))/\
 ((gT J (fQ 5 (ρ 5)=some k))/\
 ((gT I (some x=some a))/\
 oP (gq true a) λaa=>
 oP (gC aa (some (jX,[z,A]))) λab=>vD C ab y λB h5=>
 (y.next<=h5.next/\
 oP (gq true a) λS=>
 oP (gV S (vC .not B)) λq=>
 oP (gq false c) λT=>
 oP (gV T (nM a q (V.bool false))) λr=>
 oP (nM c (V.bool true) r) λU=>
 ((nM c (V.bool true) r=some U)/\
 ((gT T (nM a q (V.bool false)=some r))/\
 ((gT S (vC .not B=some q))/\
 Wp C 94 zas (zcE C Q) (gw (gw (gw (gw (gw (gw (gw (gw (gw (gw (gw (gw (gw (gw (gw (gw (gw (gw (gw (gw (gw (gw (gw (gw (gw (gw (gw (gw ρ 14 d) 15 s) 16 t) 17 e) 18 b) 19 f) 20 u) 21 E) 22 v) 23 g) 24 i) 25 c) 26 j) 27 w) 28 x) 29 a) 30 k) 31 z) 32 l) 33 m) 34 n) 35 o) 36 p) 37 A) 38 B) 39 q) 40 r) 41 U) h5)))))))))))))))))))))))))))))):=by kernel_rfl
theorem zcu:uK C 94 Z3 Q ρ h=(oP (fQ 0 (ρ 5)) λa=>
 oP (eQ a h) λb=>
 Wp C 94 Z7 (q60 C Q) (gw (gw ρ 42 a) 43 b) h):=by kernel_rfl
theorem zbI:uK C 94 zas Q ρ h=(oP (some (ρ 41)) λc=>
 bP c (
 oP (some (V.bool false)) λa=>
 Wp C 94 zap Q (gw ρ 4 a) h) (
 Q .normal ρ h)):=by kernel_rfl
theorem zcp:uK C 94 zaj Q ρ h=(oP (some (V.bool true)) λa=>
 Wp C 94 zag Q (gw ρ 4 a) h):=by kernel_rfl
theorem zcL:uK C 94 Z7 Q ρ h=(oP (eJ .eql 3 (ρ 43) (V.I 20)) λa=>
 oP (some a) λb=>
 Wp C 94 ZY (zcf C Q) (gw (gw ρ 45 a) 44 b) h):=by kernel_rfl
theorem zci:uK C 94 zag Q ρ h=(Q .ret ρ h):=by kernel_rfl
theorem zbV:uK C 94 zap Q ρ h=(Q .ret ρ h):=by kernel_rfl
theorem zbU:uK C 94 ZY Q ρ h=(oP (some (ρ 44)) λc=>
 bP c (
 oP (fQ 4 (ρ 5)) λa=>
 oP (eQ a h) λb=>
 oP (fD b) λd=>
 oP (eJ .eql 3 d (V.I 1)) λe=>
 oP (some e) λi=>
 Wp C 94 zah Q (gw (gw (gw (gw (gw ρ 46 a) 47 b) 48 d) 49 e) 4 i) h) (
 oP (eJ .eql 3 (ρ 43) (V.I 21)) λf=>
 oP (some f) λg=>
 Wp C 94 XW Q (gw (gw ρ 51 f) 50 g) h)):=by kernel_rfl
theorem zbM:uK C 94 zah Q ρ h=(Q .ret ρ h):=by kernel_rfl
theorem zbl:uK C 94 XW Q ρ h=(oP (some (ρ 50)) λc=>
 bP c (
 oP (fQ 4 (ρ 5)) λa=>
 oP (eQ a h) λb=>
 oP (fD b) λd=>
 oP (some (ρ 0)) λe=>
 oP (gU e) λf=>
 oP (fQ 0 f) λg=>
 oP (fQ 3 g) λi=>
 oP (eQ i h) λj=>
 oP (some (ρ 0)) λk=>
 oP (gU k) λl=>
 oP (fQ 5 l) λm=>
 oP (eQ m h) λn=>
 oP (some (ρ 1)) λo=>
 oP (hV 1 n o) λp=>
 oP (eQ p h) λq=>
 oP (hV 6 j q) λr=>
 oP (fQ 4 r) λs=>
 oP (eQ s h) λt=>
 oP (fD t) λu=>
 oP (eJ .eql 3 d u) λv=>
 oP (some v) λy=>
 ((some v=some y)/\
 ((eJ .eql 3 d u=some v)/\
 ((fD t=some u)/\
 ((eQ s h=some t)/\
 ((fQ 4 r=some s)/\
 ((hV 6 j q=some r)/\
 ((eQ p h=some q)/\
 ((hV 1 n o=some p)/\
 ((some (ρ 1)=some o)/\
 ((eQ m h=some n)/\
 ((fQ 5 l=some m)/\
 ((gU k=some l)/\
 ((some (ρ 0)=some k)/\
 ((eQ i h=some j)/\
 ((fQ 3 g=some i)/\
 ((fQ 0 f=some g)/\
 ((gU e=some f)/\
 ((some (ρ 0)=some e)/\
 ((fD b=some d)/\
 ((eQ a h=some b)/\
 ((fQ 4 (ρ 5)=some a)/\
 Wp C 94 V5 Q (gw (gw (gw (gw (gw (gw (gw (gw (gw (gw (gw (gw (gw (gw (gw (gw (gw (gw (gw (gw (gw ρ 52 a) 53 b) 54 d) 55 e) 56 f) 57 g) 58 i) 59 j) 60 k) 61 l) 62 m) 63 n) 64 o) 65 p) 66 q) 67 r) 68 s) 69 t) 70 u) 71 v) 4 y) h)))))))))))))))))))))) (
 oP (eJ .eql 3 (ρ 43) (V.I 1)) λw=>
 oP (some w) λx=>
 Wp C 94 Xp Q (gw (gw ρ 73 w) 72 x) h)):=by kernel_rfl
theorem zaX:uK C 94 V5 Q ρ h=(Q .ret ρ h):=by kernel_rfl
theorem zaU:uK C 94 Xp Q ρ h=(oP (some (ρ 72)) λc=>
 bP c (
 oP (fQ 3 (ρ 5)) λd=>
 oP (eQ d h) λe=>
 oP (eJ .geq 2 e (V.I 0)) λf=>
 oP (some f) λb=>
 oP (gq true b) λH=>
 oP (gV H (fQ 3 (ρ 5))) λg=>
 oP (gq true b) λI=>
 oP (gV I (eQ g h)) λi=>
 oP (gq true b) λJ=>
 oP (gV J (eJ .lss 2 i (V.I 40))) λj=>
 oP (nM b j (V.bool false)) λk=>
 oP (some k) λa=>
 oP (gq true a) λK=>
 oP (gV K (some (ρ 0))) λl=>
 oP (gq true a) λw=>
 oP (gV w (gU l)) λm=>
 oP (gq true a) λx=>
 oP (gV x (fQ 0 m)) λn=>
 oP (gq true a) λy=>
 oP (gV y (fQ 2 n)) λo=>
 oP (gq true a) λz=>
 oP (gV z (eQ o h)) λp=>
 oP (gq true a) λA=>
 oP (gV A (some (ρ 1))) λq=>
 oP (gq true a) λB=>
 oP (gV B (jc 6 p none (some q) h)) λr=>
 oP (gq true a) λD=>
 oP (gV D (some (V.func jl [] [(ρ 5)]))) λs=>
 oP (gq true a) λE=>
 oP (gC E (some (gS,[r,s]))) λF=>vD C F h λt L=>
 oP (gq true a) λG=>
 oP (gV G (vC .not t)) λu=>
 oP (nM a u (V.bool false)) λv=>
 oP (some v) λM=>
 Wp C 94 WV Q (gw (gw (gw (gw (gw (gw (gw (gw (gw (gw (gw (gw (gw (gw (gw (gw (gw (gw (gw (gw (gw ρ 74 d) 75 e) 76 f) 77 b) 78 g) 79 i) 80 j) 81 k) 82 a) 83 l) 84 m) 85 n) 86 o) 87 p) 88 q) 89 r) 90 s) 91 t) 92 u) 93 v) 4 M) L) (
 Q .normal ρ h)):=by kernel_rfl
theorem zaB:uK C 94 WV Q ρ h=(Q .ret ρ h):=by kernel_rfl
theorem g44{C:fm}(hs:C.start=fK)(a0 a1:V){h:Hp}{Q:fq}(hk:C.K jQ [a0,a1] h=none)(H:uK C 94 OE (LS [.tmp 4] Q) (ME [a0,a1]) h):cP C jQ [a0,a1] h Q:=
 cP.zcx hs (show P0.funcs[44]? =some Tryd.f44 by unfold P0;exact Tryd.func44) (by kernel_rfl) (by kernel_rfl) (by kernel_rfl) hk (Jz rfl) (Wp.code _ H)
def ue(C:fm)(Q:fq)(a0 a1:V)(h:Hp):Prop:=oP (gU a0) λv7=>oP (fQ 0 v7) λv8=>dF 2 v8 h λs=>oP (hV 6 s a1) λt=>oP (fM 6 t h) λu=>gX (zC 40 [nZ,nZ,nZ,nZ,nS,nZ]) h λd h1=>fc (gh 6 d u h1) λvu v=>dF 0 d v λw=>cP C BG [w] v λx q=>(v.next<=q.next/\oP (eJ .eql 9 x (V.str [])) λe=>oP (gq false e) λb5=>oP (gV b5 (some a0)) λy=>oP (gq false e) λb6=>oP (gV b6 (fM 6 d q)) λz=>oP (gq false e) λb7=>oP (gC b7 (some (mc,[z]))) λy7=>vD C y7 q λA B=>(q.next<=B.next/\oP (gq false e) λb8=>oP (gC b8 (some (iM,[y,A]))) λy8=>vD C y8 B λD r=>(B.next<=r.next/\oP (uP e (vC .not D)) λf=>oP (gq false f) λE=>oP (gV E (fQ 0 d)) λF=>oP (gq false f) λG=>oP (gV G (eQ F r)) λH=>oP (gq false f) λI=>oP (gC I (some (mG,[H]))) λJ=>vD C J r λK o=>(r.next<=o.next/\oP (gq false f) λL=>oP (gV L (some K)) λa=>oP (gq true a) λM=>oP (gV M (fQ 5 d)) λN=>oP (gq true a) λO=>oP (gV O (eQ N o)) λP=>oP (gq true a) λR=>oP (gV R (some a0)) λS=>oP (gq true a) λT=>oP (gV T (gU S)) λU=>oP (gq true a) λW=>oP (gV W (fQ 0 U)) λX=>oP (gq true a) λY=>oP (gV Y (fQ 4 X)) λZ=>oP (gq true a) λaa=>oP (gV aa (eQ Z o)) λab=>oP (gq true a) λac=>oP (gV ac (fD ab)) λae=>oP (gq true a) λag=>oP (gC ag (some (jX,[P,ae]))) λah=>vD C ah o λai c=>(o.next<=c.next/\oP (gq true a) λaj=>oP (gV aj (vC .not ai)) λak=>oP (uP f (nM a ak bF)) λal=>bP al (Q bF c) (dF 0 d c λg=>bO .eql 3 g (V.I 20) (dG 4 d c λam=>oP (eJ .eql 3 am nO) λan=>Q an c) (bO .eql 3 g (V.I 21) (dG 4 d c λao=>oP (gU a0) λap=>oP (fQ 0 ap) λaq=>dF 3 aq c λar=>dN 5 a0 c λau=>dX 1 au a1 c λaw=>oP (hV 6 ar aw) λax=>dG 4 ax c λay=>oP (eJ .eql 3 ao ay) λaA=>Q aA c) (bO .eql 3 g nO (dF 3 d c λaB=>oP (eJ .geq 2 aB nZ) λaC=>oP (mn aC (oB (fQ 3 d) λaD=>oB (eQ aD c) λaE=>eJ .lss 2 aE (V.I 40))) λb=>oP (gq true b) λp=>oP (gV p (some a0)) λaF=>oP (gq true b) λaG=>oP (gV aG (gU aF)) λaH=>oP (gq true b) λaI=>oP (gV aI (fQ 0 aH)) λaJ=>oP (gq true b) λi=>oP (gV i (fQ 2 aJ)) λaK=>oP (gq true b) λj=>oP (gV j (eQ aK c)) λaL=>oP (gq true b) λk=>oP (gV k (some a1)) λaM=>oP (gq true b) λl=>oP (gV l (jc 6 aL none (some aM) c)) λaN=>oP (gq true b) λm=>oP (gV m (some (V.func jl [] [d]))) λaO=>oP (gq true b) λn=>oP (gC n (some (gS,[aN,aO]))) λaP=>vD C aP c λaQ h8=>oP (mn b (vC .not aQ)) λaR=>Q aR h8) (Q bT c)))))))))
theorem HP{C:fm}(hs:C.start=fK){a0 a1:V}{h:Hp}{Q:fq}(hk:C.K jQ [a0,a1] h=none)(H:ue C Q a0 a1 h):cP C jQ [a0,a1] h Q:=by
 unfold ue at H;exact g44 hs _ _ hk ((e44 _ _ _ _).mpr (Mc (Wp.of (zcg _ _ _ _) (Mc (oM H λv7 _ H=>oM H λv8 _ H=>oM H λv9 _ H=>oM H λaq _ H=>Mc (oM H λar _ H=>oM H λau _ H=>alM H λv5 h1 H=>zc8 H λvu h2 H=>Wp.of (zcA _ _ _ _) (oM H λaw b H=>oM H λax c H=>⟨c,⟨b,dcM H λay h3 H=>anM H λH=>oM H λaA d H=>Mc (oM H λb5 _ H=>oM H λaB a H=>oM H λb6 _ H=>oM H λaC e H=>⟨(wu e),⟨(wu a),⟨rfl,⟨d,oM H λb7 _ H=>oM H λy7 _ H=>cgM H λaD h4 H=>anM H λH=>⟨(wu a),oM H λb8 _ H=>oM H λy8 _ H=>cgM H λaE h5 H=>anM H λH=>thn (Tg H) λH=>oM H λb9 Z H=>oM H λaF f H=>oM H λaG g H=>Mc (oM H λaH _ H=>oM H λaI i H=>oM H λaJ _ H=>oM H λaK j H=>⟨(wu j),⟨(wu i),⟨rfl,⟨g,⟨(wu f),oM H λaL _ H=>oM H λaM _ H=>cgM H λaN h6 H=>anM H λH=>oM H λaO _ H=>oM H λaP k H=>oM H λaQ _ H=>oM H λaR l H=>oM H λaS _ H=>oM H λaT m H=>oM H λaU _ H=>oM H λaV n H=>oM H λaW _ H=>oM H λaX o H=>oM H λaY _ H=>oM H λaZ p H=>oM H λa5 _ H=>oM H λa6 q H=>oM H λa7 _ H=>oM H λa8 r H=>oM H λa9 _ H=>oM H λba s H=>⟨(wu s),⟨(wu r),⟨(wu q),⟨(wu p),⟨(wu o),⟨(wu n),⟨(wu m),⟨(wu l),⟨(wu k),oM H λbb _ H=>oM H λbc _ H=>cgM H λbd h7 H=>anM H λH=>oM H λbe _ H=>oM H λbf t H=>thn (Tg H) λH=>oM H λbg aa H=>oM H λbh u H=>oM H λbi v H=>⟨v,⟨(wu u),⟨(wu t),Wp.of (zbI _ _ _ _) (Mc (bM H (λH=>Mc (Wp.of (zbV _ _ _ _) (H))) (λH=>Wp.of (zcu _ _ _ _) (oM H λbj _ H=>oM H λbm _ H=>Wp.of (zcL _ _ _ _) (oM H λbn _ H=>Mc (Wp.of (zbU _ _ _ _) (Mc (bM H (λH=>oM H λbo _ H=>oM H λbp _ H=>oM H λbr _ H=>oM H λbt _ H=>Mc (Wp.of (zbM _ _ _ _) (H))) (λH=>oM H λbu _ H=>Mc (Wp.of (zbl _ _ _ _) (Mc (bM H (λH=>oM H λbv w H=>oM H λbw x H=>oM H λbx y H=>Mc (oM H λbz z H=>oM H λbA A H=>oM H λbC B H=>oM H λbD D H=>Mc (oM H λbE E H=>oM H λbG F H=>oM H λbH G H=>Mc (oM H λbI I H=>oM H λbJ J H=>oM H λbK L H=>oM H λbL M H=>oM H λbQ N H=>oM H λbR O H=>oM H λbS P H=>Mc (⟨rfl,⟨P,⟨O,⟨N,⟨M,⟨L,⟨J,⟨I,⟨rfl,⟨G,⟨F,⟨E,⟨rfl,⟨D,⟨B,⟨A,⟨z,⟨rfl,⟨y,⟨x,⟨w,Wp.of (zaX _ _ _ _) (H)⟩⟩⟩⟩⟩⟩⟩⟩⟩⟩⟩⟩⟩⟩⟩⟩⟩⟩⟩⟩⟩))))) (λH=>oM H λbU _ H=>Mc (Wp.of (zaU _ _ _ _) (Mc (bM H (λH=>oM H λbV _ H=>oM H λbW _ H=>oM H λbX _ H=>Mc (thn (PC H) λH=>sG1 H λb4 ab bY ac H=>sG1 H λae ag bZ ah H=>oM H λai aj H=>oM H λca ak H=>oM H λcb al H=>Mc (oM H λam _ H=>oM H λcd _ H=>oM H λce _ H=>oM H λcf _ H=>oM H λcg _ H=>oM H λci _ H=>oM H λR _ H=>oM H λcj _ H=>oM H λS _ H=>oM H λcm _ H=>oM H λT _ H=>oM H λcn _ H=>oM H λU _ H=>oM H λco _ H=>oM H λW _ H=>oM H λcp _ H=>oM H λX _ H=>oM H λcq _ H=>cgM H λcr h8 H=>thn (PC H) λH=>oM H λY an H=>oM H λct ao H=>oM H λcu ap H=>Mc (Wp.of (zaB _ _ _ _) (H))))) (λH=>Wp.of (zcp _ _ _ _) (Mc (Wp.of (zci _ _ _ _) (H))))))))))))))))))))⟩⟩⟩⟩⟩⟩⟩⟩⟩⟩⟩⟩⟩⟩⟩⟩⟩)⟩⟩⟩⟩⟩)⟩⟩)))))))
end
def t45:List (Nat×List Nat):=[(87,[0,5,17,18,19])]
def uZ(C:fm)(Q:fq)(d e a b c:V)(h:Hp):Prop:=∀ρ:gg,ρ 0=d->ρ 5=e->ρ 17=a->ρ 18=b->ρ 19=c->WA C Tryd.f45 t45 43 [] Q ρ h
def uX(C:fm)(Q:fq)(o:Hf)(n c f g d:V)(h:Hp):Prop:=bO .lss 3 d g (dX 1 f d h λp=>oP (gU n) λq=>oP (fQ 0 q) λs=>dG 3 s h λt=>cP C jX [p,t] h λu Y=>bN u (Q bF Y) (oP (eJ .add 3 d nO) λv=>o n c f g v Y)) (dF 1 c h λe=>bO .eql 3 e nO (dG 3 c h λw=>oP (eJ .eql 3 w nO) λx=>Q x h) (bO .eql 3 e (V.I 2) (dG 3 c h λy=>oP (eJ .eql 3 y (V.I 2)) λb=>oP (gq true b) λb5=>oP (gV b5 (some n)) λz=>oP (gq true b) λb6=>oP (gV b6 (fQ 2 c)) λA=>oP (gq true b) λb7=>oP (gV b7 (eQ A h)) λB=>oP (gq true b) λb8=>ghP b8 h (oB (jd 3 1 1 nZ [(0,B)]) λr=>some (r.2 h.next,h.new r.1)) λD h2=>oP (gq true b) λb9=>oP (gC b9 (some (iM,[z,D]))) λy9=>vD C y9 h2 λE h3=>oP (nM b E bF) λF=>Q F h3) (bO .eql 3 e (V.I 3) (dG 3 c h λG=>oP (eJ .eql 3 G nZ) λa=>oP (gq true a) λi=>oP (gV i (fQ 5 c)) λH=>oP (gq true a) λj=>oP (gV j (eQ H h)) λI=>oP (gq true a) λk=>oP (gV k (some n)) λJ=>oP (gq true a) λl=>oP (gV l (gU J)) λK=>oP (gq true a) λm=>oP (gV m (fQ 0 K)) λL=>oP (gq true a) λM=>oP (gV M (fQ 4 L)) λN=>oP (gq true a) λO=>oP (gV O (eQ N h)) λP=>oP (gq true a) λR=>oP (gV R (fD P)) λS=>oP (gq true a) λT=>oP (gC T (some (jX,[I,S]))) λU=>vD C U h λW Z=>(h.next<=Z.next/\oP (nM a W bF) λX=>Q X Z)) (Q bF h))))
theorem CH{C Q}(I)(s:P5 I (uX C Q)){k d e a b c h}(i:I k d e a b c h):uZ C Q d e a b c h:=WA.l5 I _ s i
def yx(C:fm)(Q:fq)(a0 a1:V)(h:Hp):Prop:=oP (gU a0) λj=>oP (fQ 0 j) λb=>dF 3 b h λc=>oP (hV 6 c a1) λd=>oP (fM 6 d h) λe=>gX (zC 38 [nS,nZ,nZ,nS,nS,nZ]) h λf k=>fc (gh 6 f e k) λl i=>dF 3 f i λa=>oP (fD a) λg=>uZ C Q a0 f a g nZ i
theorem FO{C}(s:C.start=fK){a0 a1 h Q}(k:C.K lX [a0,a1] h=none)(H:yx C Q a0 a1 h):cP C lX [a0,a1] h Q:=cP.vd t45 s (by unfold P0;exact Tryd.func45) k H
def t46:List (Nat×List Nat):=[(171,[0,1,16,17,18]),(14,[0,1]),(175,[0,7,54,55,56])]
def wj(C:fm)(Q:fq)(d e a b c:V)(h:Hp):Prop:=∀ρ:gg,ρ 0=d->ρ 1=e->ρ 16=a->ρ 17=b->ρ 18=c->WA C Tryd.f46 t46 85 [] Q ρ h
def mD(C:fm)(Q:fq)(a b:V)(h:Hp):Prop:=∀ρ:gg,ρ 0=a->ρ 1=b->WA C Tryd.f46 t46 7 [] Q ρ h
def wK(C:fm)(Q:fq)(d e a b c:V)(h:Hp):Prop:=∀ρ:gg,ρ 0=d->ρ 7=e->ρ 54=a->ρ 55=b->ρ 56=c->WA C Tryd.f46 t46 87 [] Q ρ h
def wi(C:fm)(Q:fq)(e:Hf)(f t b c a:V)(h:Hp):Prop:=bO .lss 3 a c (dX 1 b a h λd=>oP (gU f) λg=>oP (fQ 0 g) λi=>dJ 3 i 6 a 4 h λj=>cP C gJ [d,j] h λk u=>oP (vC .not k) λl=>oP (uP l (oB (some a) λm=>oB (eJ .eql 3 m nZ) λn=>oB (some n) λo=>mn o (oB (some d) λp=>oB (fD p) λq=>eJ .gtr 3 q nZ))) λr=>bP r (Q bF u) (oP (eJ .add 3 a nO) λs=>e f t b c s u)) (mD C Q f t h)
theorem DB{C Q}(I)(s:P5 I (wi C Q)){k d e a b c h}(i:I k d e a b c h):wj C Q d e a b c h:=WA.l5 I _ s i
def vX(C:fm)(Q:fq)(j l:V)(h:Hp):Prop:=oP (gU j) λb=>oP (fQ 0 b) λc=>dF 3 c h λd=>oP (hV 6 d l) λe=>oP (fM 6 e h) λf=>gX (zC 38 [nS,nZ,nZ,nS,nS,nZ]) h λg m=>fc (gh 6 g f m) λn k=>dF 3 g k λa=>oP (fD a) λi=>wK C Q j g a i nZ k
theorem Du{C:fm}{Q:fq}{a b:V}{h:Hp}(H:vX C Q a b h):mD C Q a b h:=by
 rintro ρ rfl rfl;exact WA.of (by kernel_rfl) H
def wE(C:fm)(Q:fq)(d:Hf)(u v b c a:V)(h:Hp):Prop:=bO .lss 3 a c (dX 1 b a h λe=>dF 1 v h λf=>oP (eJ .eql 3 f (V.I 2)) λg=>oP (mn g (oB (some u) λi=>oB (gU i) λj=>oB (fQ 0 j) λk=>oB (fQ 3 k) λl=>oB (eQ l h) λm=>oB (some e) λn=>oB (hV 6 m n) λo=>oB (fQ 4 o) λp=>oB (eQ p h) λq=>oB (fD q) λr=>eJ .neq 3 r nO)) λs=>bP s (Q bF h) (oP (eJ .add 3 a nO) λt=>d u v b c t h)) (Q bT h)
theorem D0{C Q}(I)(s:P5 I (wE C Q)){k d e a b c h}(i:I k d e a b c h):wK C Q d e a b c h:=WA.l5 I _ s i
def zJ(C:fm)(Q:fq)(a0 a1:V)(h:Hp):Prop:=bO .eql 3 a1 nZ (oP (gU a0) λb=>oP (fQ 0 b) λc=>oP (fM 5 c h) λd=>cP C wN [d] h λa f=>oP (fD a) λe=>wj C Q a0 a1 a e nZ f) (mD C Q a0 a1 h)
theorem He{C}(s:C.start=fK){a0 a1 h Q}(k:C.K mL [a0,a1] h=none)(H:zJ C Q a0 a1 h):cP C mL [a0,a1] h Q:=cP.vd t46 s (by unfold P0;exact Tryd.func46) k H
def t47:List (Nat×List Nat):=[]
def xr(C:fm)(Q:fq)(a0:V)(h:Hp):Prop:=oP (gU a0) λa=>oP (fQ 0 a) λb=>oP (fM 5 b h) λc=>cP C nN [c] h λd e=>Q d e
theorem EZ{C}(s:C.start=fK){a0 h Q}(k:C.K qI [a0] h=none)(H:xr C Q a0 h):cP C qI [a0] h Q:=cP.vd t47 s (by unfold P0;exact Tryd.func47) k H
def t76:List (Nat×List Nat):=[(19,[0,1,2])]
def py(C:fm)(Q:fq)(a b c:V)(h:Hp):Prop:=∀ρ:gg,ρ 0=a->ρ 1=b->ρ 2=c->WA C Tryd.f76 t76 9 [] Q ρ h
def pB(C:fm)(Q:fq)(a:RQ)(e f b:V)(h:Hp):Prop:=bO .geq 3 b nZ (bO .eql 3 f b (Q bT h) (dN 7 e h λc=>dX 1 c b h λd=>a e f d h)) (Q bF h)
theorem yo{C Q}(I)(s:P3 I (pB C Q)){k a b c h}(i:I k a b c h):py C Q a b c h:=WA.l3 I _ s i
def rV(C:fm)(Q:fq)(a0 a1 a2:V)(h:Hp):Prop:=py C Q a0 a1 a2 h
theorem Am{C}(s:C.start=fK){a0 a1 a2 h Q}(k:C.K lD [a0,a1,a2] h=none)(H:rV C Q a0 a1 a2 h):cP C lD [a0,a1,a2] h Q:=cP.vd t76 s (by unfold P0;exact Tryd.func76) k H
def t61:List (Nat×List Nat):=[(43,[0,2,3,11,12,13])]
def vj(C:fm)(Q:fq)(d e f a b c:V)(h:Hp):Prop:=∀ρ:gg,ρ 0=d->ρ 2=e->ρ 3=f->ρ 11=a->ρ 12=b->ρ 13=c->WA C Tryd.f61 t61 21 [] Q ρ h
def vx(C:fm)(Q:fq)(g:OS)(d i T e f b:V)(h:Hp):Prop:=bO .lss 3 b f (dX 1 e b h λc=>dN 5 d h λj=>dX 1 j c h λk=>oP (eJ .eql 3 k i) λl=>oP (mn l (oB (some d) λm=>oB (gU m) λn=>oB (fQ 6 n) λo=>oB (eQ o h) λp=>oB (some c) λq=>oB (hV 1 p q) λr=>oB (eQ r h) λs=>oB (some T) λt=>eJ .geq 3 s t)) λa=>oP (gq false a) λu=>oP (gV u (some d)) λv=>oP (gq false a) λw=>oP (gV w (some d)) λx=>oP (gq false a) λy=>oP (gV y (gU x)) λz=>oP (gq false a) λA=>oP (gV A (fQ 5 z)) λB=>oP (gq false a) λD=>oP (gV D (eQ B h)) λE=>oP (gq false a) λF=>oP (gV F (some c)) λG=>oP (gq false a) λH=>oP (gV H (hV 1 E G)) λI=>oP (gq false a) λJ=>oP (gV J (eQ I h)) λK=>oP (gq false a) λL=>oP (gV L (some i)) λM=>oP (gq false a) λN=>oP (gC N (some (lD,[v,K,M]))) λO=>vD C O h λP U=>oP (uP a (vC .not P)) λR=>bP R (Q bF U) (oP (eJ .add 3 b nO) λS=>g d i T e f S U)) (Q bT h)
theorem Cu{C Q}(I)(s:P6 I (vx C Q)){k d e f a b c h}(i:I k d e f a b c h):vj C Q d e f a b c h:=WA.l6 I _ s i
def yU(C:fm)(Q:fq)(a0 a1 a2 a3:V)(h:Hp):Prop:=oP (fD a1) λa=>vj C Q a0 a2 a3 a1 a nZ h
theorem Gm{C}(s:C.start=fK){a0 a1 a2 a3 h Q}(k:C.K iZ [a0,a1,a2,a3] h=none)(H:yU C Q a0 a1 a2 a3 h):cP C iZ [a0,a1,a2,a3] h Q:=cP.vd t61 s (by unfold P0;exact Tryd.func61) k H
def t62:List (Nat×List Nat):=[(43,[0,2,3,19,20,21])]
def pC(C:fm)(Q:fq)(d e f a b c:V)(h:Hp):Prop:=∀ρ:gg,ρ 0=d->ρ 2=e->ρ 3=f->ρ 19=a->ρ 20=b->ρ 21=c->WA C Tryd.f62 t62 21 [] Q ρ h
def pO(C:fm)(Q:fq)(f:OS)(g i j d e b:V)(h:Hp):Prop:=bO .lss 3 b e (oP (hV 4 d b) λk=>oP (fM 4 k h) λl=>gX (zC 44 [nZ,nZ,nS,nS]) h λc F=>fc (gh 4 c l F) λI B=>dF 2 c B λm=>cP C iZ [g,m,i,j] B λn D=>oP (vC .not n) λa=>oP (gq false a) λG=>oP (gV G (some g)) λo=>oP (gq false a) λH=>oP (gV H (fQ 3 c)) λp=>oP (gq false a) λq=>oP (gV q (eQ p D)) λr=>oP (gq false a) λs=>oP (gV s (some i)) λt=>oP (gq false a) λu=>oP (gV u (some j)) λv=>oP (gq false a) λw=>oP (gC w (some (iZ,[o,r,t,v]))) λx=>vD C x D λy E=>oP (uP a (vC .not y)) λz=>bP z (Q bF E) (oP (eJ .add 3 b nO) λA=>f g i j d e A E)) (Q bT h)
theorem yR{C Q}(I)(s:P6 I (pO C Q)){k d e f a b c h}(i:I k d e f a b c h):pC C Q d e f a b c h:=WA.l6 I _ s i
def tk(C:fm)(Q:fq)(a0 a1 a2 a3:V)(h:Hp):Prop:=oP (gU a0) λb=>oP (fQ 0 b) λc=>dJ 4 c 1 a1 0 h λa=>oP (fD a) λd=>pC C Q a0 a2 a3 a d nZ h
theorem AN{C}(s:C.start=fK){a0 a1 a2 a3 h Q}(k:C.K iS [a0,a1,a2,a3] h=none)(H:tk C Q a0 a1 a2 a3 h):cP C iS [a0,a1,a2,a3] h Q:=cP.vd t62 s (by unfold P0;exact Tryd.func62) k H
def t48:List (Nat×List Nat):=[(175,[0,1,5,6,24,25,26]),(1356591,[0,1,5,6,24,25,26,43,44,45]),(3886,[0,1,5,6,24,25,26])]
def tU(C:fm)(Q:fq)(d e f g a b c:V)(h:Hp):Prop:=∀ρ:gg,ρ 0=d->ρ 1=e->ρ 5=f->ρ 6=g->ρ 24=a->ρ 25=b->ρ 26=c->WA C Tryd.f48 t48 87 [] Q ρ h
def um(C:fm)(Q:fq)(a:Pe)(i j k l b c d e f g:V)(h:Hp):Prop:=∀ρ:gg,ρ 0=i->ρ 1=j->ρ 5=k->ρ 6=l->ρ 24=b->ρ 25=c->ρ 26=d->ρ 43=e->ρ 44=f->ρ 45=g->WA C Tryd.f48 t48 678295 [λρ h=>a (ρ 0) (ρ 1) (ρ 5) (ρ 6) (ρ 24) (ρ 25) (ρ 26) h] Q ρ h
def nr(C:fm)(Q:fq)(a:Pe)(e f g i b c d:V)(h:Hp):Prop:=∀ρ:gg,ρ 0=e->ρ 1=f->ρ 5=g->ρ 6=i->ρ 24=b->ρ 25=c->ρ 26=d->WA C Tryd.f48 t48 1943 [λρ h=>a (ρ 0) (ρ 1) (ρ 5) (ρ 6) (ρ 24) (ρ 25) (ρ 26) h] Q ρ h
def uh(C:fm)(Q:fq)(j:Pe)(d g k t e f b:V)(h:Hp):Prop:=bO .lss 3 b f (dX 1 e b h λu=>oP (gU d) λv=>oP (fQ 0 v) λw=>dF 2 w h λx=>oP (hV 6 x u) λy=>oP (fM 6 y h) λz=>gX (zC 40 [nZ,nZ,nZ,nZ,nS,nZ]) h λi h1=>fc (gh 6 i z h1) λvu l=>dF 0 i l λA=>bO .eql 3 A (V.I 21) (dF 4 i l λm=>oP (fD m) λB=>um C Q j d g k t e f b m B nZ l) (oP (fM 6 i l) λD=>cP C mc [D] l λE h3=>cP C iZ [d,E,g,b] h3 λF h4=>oP (vC .not F) λc=>oP (gq false c) λb8=>oP (gV b8 (fQ 0 i)) λG=>oP (gq false c) λb9=>oP (gV b9 (eQ G h4)) λH=>oP (gq false c) λI=>oP (gC I (some (mG,[H]))) λJ=>vD C J h4 λK h5=>oP (gq false c) λL=>oP (gV L (some K)) λa=>oP (gq true a) λM=>oP (gV M (some d)) λN=>oP (gq true a) λO=>oP (gV O (fQ 5 i)) λP=>oP (gq true a) λR=>oP (gV R (eQ P h5)) λS=>oP (gq true a) λT=>oP (gV T (some g)) λU=>oP (gq true a) λW=>oP (gV W (some b)) λX=>oP (gq true a) λY=>oP (gC Y (some (iS,[N,S,U,X]))) λZ=>vD C Z h5 λaa h6=>oP (gq true a) λab=>oP (gV ab (vC .not aa)) λac=>oP (uP c (nM a ac bF)) λae=>bP ae (Q bF h6) (nr C Q j d g k t e f b h6))) (dF 1 k h λn=>bO .eql 3 n (V.I 2) (dF 2 k h λo=>gX (jd 3 1 1 nZ [(0,o)]) h λp h7=>cP C iZ [d,p,g,t] h7 λq h8=>Q q h8) (bO .eql 3 n (V.I 3) (dF 5 k h λr=>cP C iS [d,r,g,t] h λs h9=>Q s h9) (Q bT h)))
theorem Bj{C Q}(I)(s:P7 I (uh C Q)){k d e f g a b c h}(i:I k d e f g a b c h):tU C Q d e f g a b c h:=WA.l7 I _ s i
def tT(C:fm)(Q:fq)(k:Pe)(l:Ij)(i z j A c d e f g a:V)(h:Hp):Prop:=bO .lss 3 a g (dX 1 f a h λm=>wP (jd 3 1 1 nZ [(0,m)]) h λn o b=>dY 4 j 1 a b λp=>oP (gU i) λq=>oP (fQ 0 q) λr=>dF 3 r b λs=>dY 4 j 1 a b λt=>oP (hV 6 s t) λu=>dG 0 u b λv=>((b.get (h.next)=some n/\O.beq n n=true)/\cP C iZ [i,o,p,v] b λw x=>(b.next<=x.next/\bN w (Q bF x) (oP (eJ .add 3 a nO) λy=>l i z j A c d e f g y x)))) (nr C Q k i z j A c d e h)
theorem Bq{C Q a}(I)(s:P10 I (tT C Q a)){k j l m n b c d e f g h}(i:I k j l m n b c d e f g h):um C Q a j l m n b c d e f g h:=WA.l10 I _ s i
def nK(C:fm)(Q:fq)(a:Pe)(f g i j b c d:V)(h:Hp):Prop:=oP (eJ .add 3 d nO) λe=>a f g i j b c e h
theorem sh{C:fm}{Q:fq}{a:Pe}{e f g i b c d:V}{h:Hp}(H:nK C Q a e f g i b c d h):nr C Q a e f g i b c d h:=by
 rintro ρ rfl rfl rfl rfl rfl rfl rfl;exact WA.of (by kernel_rfl) H
def xB(C:fm)(Q:fq)(a0 a1:V)(h:Hp):Prop:=oP (gU a0) λc=>oP (fQ 0 c) λd=>dF 3 d h λe=>oP (hV 6 e a1) λf=>oP (fM 6 f h) λg=>gX (zC 38 [nS,nZ,nZ,nS,nS,nZ]) h λb l=>fc (gh 6 b g l) λm i=>dG 0 b i λj=>dF 0 b i λa=>oP (fD a) λk=>tU C Q a0 a1 b j a k nZ i
theorem E4{C}(s:C.start=fK){a0 a1 h Q}(k:C.K lL [a0,a1] h=none)(H:xB C Q a0 a1 h):cP C lL [a0,a1] h Q:=cP.vd t48 s (by unfold P0;exact Tryd.func48) k H
def t32:List (Nat×List Nat):=[]
def Jk(C:fm)(Q:fq)(a0:V)(h:Hp):Prop:=gX (mm 29 a0) h λe f=>dG 2 e f λv7=>oP (eJ .gtr 3 v7 (V.I 3000)) λv8=>oP (uP v8 (oB (fQ 3 e) λp=>oB (eQ p f) λq=>oB (fD q) λr=>eJ .gtr 3 r (V.I 300))) λs=>oP (uP s (oB (fQ 4 e) λt=>oB (eQ t f) λu=>oB (fD u) λv=>eJ .gtr 3 v (V.I 1000))) λw=>oP (uP w (oB (fQ 3 e) λx=>oB (eQ x f) λy=>oB (fD y) λz=>eJ .eql 3 z nZ)) λA=>bP A (Q bF f) (oP (fM 5 e f) λB=>oP (fJ [nZ,nZ,nS,nS,nS,nS,nS,nS] [(0,5),(5,1),(6,1),(7,1)] [(0,B)]) λD=>gX (mm 81 D) f λa h2=>dG 4 e h2 λE=>cP C jq [a,E,(V.func lJ [a] [])] h2 λF h3=>oP (vC .not F) λg=>oP (gq false g) λb9=>oP (gV b9 (some a)) λG=>oP (gq false g) λH=>oP (gC H (some (ni,[G]))) λI=>vD C I h3 λJ h4=>oP (uP g (vC .not J)) λb=>oP (gq false b) λi=>oP (gV i (some a)) λK=>oP (gq false b) λL=>oP (gV L (fQ 2 e)) λM=>oP (gq false b) λN=>oP (gV N (eQ M h4)) λO=>oP (gq false b) λj=>oP (gV j (fD O)) λP=>oP (gq false b) λk=>oP (gV k (some a)) λR=>oP (gq false b) λl=>oP (gV l (some (V.func jQ [R] []))) λS=>oP (gq false b) λm=>oP (gC m (some (jq,[K,P,S]))) λT=>vD C T h4 λU h5=>oP (uP b (vC .not U)) λc=>oP (gq false c) λW=>oP (gV W (some a)) λX=>oP (gq false c) λY=>oP (gV Y (fQ 3 e)) λZ=>oP (gq false c) λaa=>oP (gV aa (eQ Z h5)) λab=>oP (gq false c) λac=>oP (gV ac (fD ab)) λae=>oP (gq false c) λag=>oP (gV ag (some a)) λah=>oP (gq false c) λai=>oP (gV ai (some (V.func lX [ah] []))) λaj=>oP (gq false c) λak=>oP (gC ak (some (jq,[X,ae,aj]))) λal=>vD C al h5 λam h6=>oP (uP c (vC .not am)) λd=>oP (gq false d) λan=>oP (gV an (some a)) λao=>oP (gq false d) λap=>oP (gV ap (fQ 3 e)) λaq=>oP (gq false d) λar=>oP (gV ar (eQ aq h6)) λau=>oP (gq false d) λaw=>oP (gV aw (fD au)) λax=>oP (gq false d) λay=>oP (gV ay (some a)) λaA=>oP (gq false d) λaB=>oP (gV aB (some (V.func mL [aA] []))) λaC=>oP (gq false d) λaD=>oP (gC aD (some (jq,[ao,ax,aC]))) λaE=>vD C aE h6 λaF h7=>oP (uP d (vC .not aF)) λaG=>bP aG (Q bF h7) (cP C qI [a] h7 λaH o=>oP (fD aH) λaI=>dG 3 e o λaJ=>bO .neq 3 aI aJ (Q bF o) (oP (fM 5 e o) λaK=>cP C nt [aK] o λaL h9=>oP (gU a) λaM=>oP (fQ 7 aM) λaN=>fc (gh 1 aN aL h9) λvu n=>dG 3 e n λaO=>cP C jq [a,aO,(V.func lL [a] [])] n λaP aQ=>Q aP aQ)))
theorem QD{C}(s:C.start=fK){a0 h Q}(k:C.K rY [a0] h=none)(H:Jk C Q a0 h):cP C rY [a0] h Q:=cP.vd t32 s (by unfold P0;exact Tryd.func32) k H
end
