/- Parts. -/
import Derived.Test.YtnehpeeglbgfpaaDoorM14
set_option maxHeartbeats 4000000
namespace Go.Proofs.YtnehpeeglbgfpaaDoor.Hx
set_option maxRecDepth 100000
noncomputable section
def t19:List (Nat×List Nat):=[(126,[1,3,4,5]),(319,[1,3,4,5])]
def vn(C:fe)(Q:fu)(a b c d:V)(h:Hp):Prop:=∀ρ:fK,ρ 1=a->ρ 3=b->ρ 4=c->ρ 5=d->WA C Tryd.f19 t19 63 [] Q ρ h
def AD(C:fe)(Q:fu)(a b c d:V)(h:Hp):Prop:=∀ρ:fK,ρ 1=a->ρ 3=b->ρ 4=c->ρ 5=d->WA C Tryd.f19 t19 159 [] Q ρ h
def zT(C:fe)(Q:fu)(a b c d:V)(h:Hp):Prop:=AD C Q a b c d h
theorem GR{C:fe}{Q:fu}{a b c d:V}{h:Hp}(H:zT C Q a b c d h):vn C Q a b c d h:=by
 rintro ρ rfl rfl rfl rfl;exact WA.of (by kernel_rfl) H
def AG(C:fe)(Q:fu)(c:Cl)(i e f d:V)(h:Hp):Prop:=oP (fJ d) λj=>bO .gtr 3 j nZ (oP (fJ d) λk=>oP (ej .sub 3 k nO) λl=>oP (gM 2 d l) λa=>dF 3 i h λm=>dN 0 a h λn=>dI 6 m n 3 h λg=>dN 1 a h λo=>oP (fJ g) λp=>bO .eql 3 o p (dN 0 a h λq=>iW (jm 3 1 1 nZ [(0,q)]) h λr R=>fj (fh 3 1 8 f r R) λs O=>oP (fJ d) λt=>oP (ej .sub 3 t nO) λu=>oP (iF 2 d none (some u) O) λv=>c i e s v O) (dN 1 a h λw=>dX 1 g w h λb=>dN 1 a h λx=>oP (ej .add 3 x nO) λy=>oP (hJ a) λz=>oP (fP 1 z) λA=>fj (gU 1 A y h) λZ S=>oP (fJ e) λB=>cP C jo [b,B] S λD E=>oP (kH D (oB (some e) λF=>oB (some b) λG=>oB (gM 1 F G) λH=>oB (er H E) λI=>xF .not I)) λJ=>bP J (oP (gM 1 e b) λK=>fj (gU 1 K bT E) λP T=>oP (fH [nZ,nZ] [(0,1),(1,1)] [(0,b),(1,nZ)]) λL=>iW (jm 83 2 1 (V.agg [nZ,nZ]) [(0,L)]) T λM U=>fj (fh 83 2 16 d M U) λN W=>c i e f N W) (c i e f d E))) (cP C jI [f] h λX Y=>Q f Y)
theorem G3{C Q}(I)(s:P4 I (AG C Q)){k a b c d h}(i:I k a b c d h):AD C Q a b c d h:=WA.l4 I _ s i
def EJ(C:fe)(Q:fu)(l:V)(h:Hp):Prop:=iW (tQ 29 l) h λc k=>dG 3 c k λb=>iW (gS 4 1 1 bF b b) k λa d=>dG 3 c d λe=>bO .gtr 3 e nZ (oP (fH [nZ,nZ] [(0,1),(1,1)] []) λf=>iW (jm 83 2 1 (V.agg [nZ,nZ]) [(0,f)]) d λg m=>fj (fh 83 2 16 nS g m) λi n=>oP (gM 1 a nZ) λj=>fj (gU 1 j bT n) λp o=>vn C Q c a nS i o) (vn C Q c a nS nS d)
theorem K6{C}(s:C.start=fQ){a h Q}(k:C.K lV [a] h=none)(H:EJ C Q a h):cP C lV [a] h Q:=cP.vd t19 s (by unfold P0;exact Tryd.func19) k H
def t51:List (Nat×List Nat):=[(87,[3,13,14,15]),(22935,[3,4,13,14,15,21,22,23]),(498070,[3,4,13,14,15,21,22,23])]
def zW(C:fe)(Q:fu)(d a b c:V)(h:Hp):Prop:=∀ρ:fK,ρ 3=d->ρ 13=a->ρ 14=b->ρ 15=c->WA C Tryd.f51 t51 43 [] Q ρ h
def Av(C:fe)(Q:fu)(a:Cl)(i j b c d e f g:V)(h:Hp):Prop:=∀ρ:fK,ρ 3=i->ρ 4=j->ρ 13=b->ρ 14=c->ρ 15=d->ρ 21=e->ρ 22=f->ρ 23=g->WA C Tryd.f51 t51 11467 [λρ h=>a (ρ 3) (ρ 13) (ρ 14) (ρ 15) h] Q ρ h
def tY(C:fe)(Q:fu)(a:Cl)(b:Ft)(j k c d e f g i:V)(h:Hp):Prop:=∀ρ:fK,ρ 3=j->ρ 4=k->ρ 13=c->ρ 14=d->ρ 15=e->ρ 21=f->ρ 22=g->ρ 23=i->WA C Tryd.f51 t51 249035 [λρ h=>a (ρ 3) (ρ 13) (ρ 14) (ρ 15) h,λρ h=>b (ρ 3) (ρ 4) (ρ 13) (ρ 14) (ρ 15) (ρ 21) (ρ 22) (ρ 23) h] Q ρ h
def AE(C:fe)(Q:fu)(e:Cl)(j b c a:V)(h:Hp):Prop:=bO .lss 3 a c (oP (gM 6 b a) λf=>oP (hH 6 f h) λg=>iW (zC 44 [nS,nZ,nZ,nS,nS,nZ]) h λk m=>fj (gU 6 k g m) λn l=>dF 3 k l λd=>oP (fJ d) λi=>Av C Q e j a b c a d i nZ l) (Q j h)
theorem Ga{C Q}(I)(s:P4 I (AE C Q)){k d a b c h}(i:I k d a b c h):zW C Q d a b c h:=WA.l4 I _ s i
def Ax(C:fe)(Q:fu)(b:Cl)(k:Ft)(j l c d e f g a:V)(h:Hp):Prop:=bO .lss 3 a g (dX 1 f a h λi=>oP (fJ j) λm=>cP C jo [i,m] h λn o=>bP n (dX 1 j i o λp=>iW (jm 3 1 1 nZ [(0,l)]) o λq u=>fj (fh 3 1 8 p q u) λr v=>oP (gM 1 j i) λs=>fj (gU 1 s r v) λx w=>tY C Q b k j l c d e f g a w) (tY C Q b k j l c d e f g a o)) (oP (ej .add 3 e nO) λt=>b j c d t h)
theorem G8{C Q a}(I)(s:P8 I (Ax C Q a)){k j l b c d e f g h}(i:I k j l b c d e f g h):Av C Q a j l b c d e f g h:=WA.l8 I _ s i
def y6(C:fe)(Q:fu)(j:Cl)(a:Ft)(k l b c d e f g:V)(h:Hp):Prop:=oP (ej .add 3 g nO) λi=>a k l b c d e f i h
theorem Fg{C:fe}{Q:fu}{a:Cl}{b:Ft}{j k c d e f g i:V}{h:Hp}(H:y6 C Q a b j k c d e f g i h):tY C Q a b j k c d e f g i h:=by
 rintro ρ rfl rfl rfl rfl rfl rfl rfl rfl;exact WA.of (by kernel_rfl) H
def ES(C:fe)(Q:fu)(i:V)(h:Hp):Prop:=iW (tQ 29 i) h λe f=>dG 3 e f λa=>iW (gS 22 1 24 nS a a) f λc g=>dF 3 e g λb=>oP (fJ b) λd=>zW C Q c b d nZ g
theorem Lb{C}(s:C.start=fQ){a h Q}(k:C.K sQ [a] h=none)(H:ES C Q a h):cP C sQ [a] h Q:=cP.vd t51 s (by unfold P0;exact Tryd.func51) k H
def t37:List (Nat×List Nat):=[(175,[3,4,5,6,30,31]),(351,[3,4,5,6,38,39,40]),(5631,[3,4,5,10,11]),(370175,[3,4,5,10,11,59,60,61]),(362391039,[3,4,5,10,11,13,14,59,60,61,68,69,70]),(8147019262,[3,4,5,10,11,13,14,59,60,61,68,69,70]),(7972350,[3,4,5,10,11,59,60,61])]
def ui(C:fe)(Q:fu)(c d e f a b:V)(h:Hp):Prop:=∀ρ:fK,ρ 3=c->ρ 4=d->ρ 5=e->ρ 6=f->ρ 30=a->ρ 31=b->WA C Tryd.f37 t37 87 [] Q ρ h
def uz(C:fe)(Q:fu)(d e f g a b c:V)(h:Hp):Prop:=∀ρ:fK,ρ 3=d->ρ 4=e->ρ 5=f->ρ 6=g->ρ 38=a->ρ 39=b->ρ 40=c->WA C Tryd.f37 t37 175 [] Q ρ h
def uL(C:fe)(Q:fu)(c d e a b:V)(h:Hp):Prop:=∀ρ:fK,ρ 3=c->ρ 4=d->ρ 5=e->ρ 10=a->ρ 11=b->WA C Tryd.f37 t37 2815 [] Q ρ h
def uB(C:fe)(Q:fu)(a:mC)(g i j b c d e f:V)(h:Hp):Prop:=∀ρ:fK,ρ 3=g->ρ 4=i->ρ 5=j->ρ 10=b->ρ 11=c->ρ 59=d->ρ 60=e->ρ 61=f->WA C Tryd.f37 t37 185087 [λρ h=>a (ρ 3) (ρ 4) (ρ 5) (ρ 10) (ρ 11) h] Q ρ h
def uc(C:fe)(Q:fu)(a:mC)(b:Ft)(n o p c d e f g i j k l m:V)(h:Hp):Prop:=∀ρ:fK,ρ 3=n->ρ 4=o->ρ 5=p->ρ 10=c->ρ 11=d->ρ 13=e->ρ 14=f->ρ 59=g->ρ 60=i->ρ 61=j->ρ 68=k->ρ 69=l->ρ 70=m->WA C Tryd.f37 t37 181195519 [λρ h=>a (ρ 3) (ρ 4) (ρ 5) (ρ 10) (ρ 11) h,λρ h=>b (ρ 3) (ρ 4) (ρ 5) (ρ 10) (ρ 11) (ρ 59) (ρ 60) (ρ 61) h] Q ρ h
def lh(C:fe)(Q:fu)(a:mC)(b:Ft)(c:DC)(o p q d e f g i j k l m n:V)(h:Hp):Prop:=∀ρ:fK,ρ 3=o->ρ 4=p->ρ 5=q->ρ 10=d->ρ 11=e->ρ 13=f->ρ 14=g->ρ 59=i->ρ 60=j->ρ 61=k->ρ 68=l->ρ 69=m->ρ 70=n->WA C Tryd.f37 t37 4073509631 [λρ h=>a (ρ 3) (ρ 4) (ρ 5) (ρ 10) (ρ 11) h,λρ h=>b (ρ 3) (ρ 4) (ρ 5) (ρ 10) (ρ 11) (ρ 59) (ρ 60) (ρ 61) h,λρ h=>c (ρ 3) (ρ 4) (ρ 5) (ρ 10) (ρ 11) (ρ 13) (ρ 14) (ρ 59) (ρ 60) (ρ 61) (ρ 68) (ρ 69) (ρ 70) h] Q ρ h
def nm(C:fe)(Q:fu)(a:mC)(b:Ft)(i j k c d e f g:V)(h:Hp):Prop:=∀ρ:fK,ρ 3=i->ρ 4=j->ρ 5=k->ρ 10=c->ρ 11=d->ρ 59=e->ρ 60=f->ρ 61=g->WA C Tryd.f37 t37 3986175 [λρ h=>a (ρ 3) (ρ 4) (ρ 5) (ρ 10) (ρ 11) h,λρ h=>b (ρ 3) (ρ 4) (ρ 5) (ρ 10) (ρ 11) (ρ 59) (ρ 60) (ρ 61) h] Q ρ h
def ua(C:fe)(Q:fu)(d:rW)(c k e l b a:V)(h:Hp):Prop:=bO .lss 3 a b (oP (er e h) λf=>oP (gM 1 f a) λg=>fj (gU 1 g (V.I (-1)) h) λn m=>oP (ej .add 3 a nO) λi=>d c k e l b i m) (oP (fJ c) λj=>uz C Q c k e l c j nZ h)
theorem Bm{C Q}(I)(s:P6 I (ua C Q)){k c d e f a b h}(i:I k c d e f a b h):ui C Q c d e f a b h:=WA.l6 I _ s i
def uE(C:fe)(Q:fu)(e:zB)(f q b g c d a:V)(h:Hp):Prop:=bO .lss 3 a d (dX 1 c a h λi=>oP (er g h) λj=>oP (gM 1 j i) λk=>fj (gU 1 k a h) λu s=>oP (ej .add 3 a nO) λl=>e f q b g c d l s) (oP (fJ f) λm=>bO .eql 3 m nZ (oP (er b h) λn=>Q n h) (oP (er b h) λo=>oP (gM 1 o nZ) λp=>fj (gU 1 p nZ h) λr t=>uL C Q f q b (V.func iA [] [g,b]) bT t))
theorem Bd{C Q}(I)(s:P7 I (uE C Q)){k d e f g a b c h}(i:I k d e f g a b c h):uz C Q d e f g a b c h:=WA.l7 I _ s i
def uK(C:fe)(Q:fu)(e:mC)(k m f g i:V)(h:Hp):Prop:=bP i (oP (iF 1 k (some nO) none h) λa=>oP (fJ a) λj=>uB C Q e k m f g bF a j nZ h) (oP (er f h) λb=>oP (gM 1 b nZ) λc=>fj (gU 1 c (V.I (-1)) h) λn l=>oP (er f l) λd=>Q d l)
theorem Be{C Q}(I)(s:P5 I (uK C Q)){k c d e a b h}(i:I k c d e a b h):uL C Q c d e a b h:=WA.l5 I _ s i
def uH(C:fe)(Q:fu)(b:mC)(j:Ft)(m k n c d e f a:V)(h:Hp):Prop:=bO .lss 3 a f (dX 1 e a h λg=>dX 1 k g h λi=>oP (fJ i) λl=>uc C Q b j m k n c d g (V.I (-1)) e f a i l nZ h) (b m k n c d h)
theorem Bl{C Q a}(I)(s:P8 I (uH C Q a)){k g j l b c d e f h}(i:I k g j l b c d e f h):uB C Q a g j l b c d e f h:=WA.l8 I _ s i
def uD(C:fe)(Q:fu)(b:mC)(c:Ft)(o:DC)(q r n a k d e f g i l m j:V)(h:Hp):Prop:=bO .lss 3 j m (dX 1 l j h λp=>oP (er n h) λs=>dX 1 s p h λt=>bO .lss 3 t nZ (lh C Q b c o q r n a k d e f g i l m j h) (bO .lss 3 e nZ (lh C Q b c o q r n a k d p f g i l m j h) (gg C (fL a [e,p]) h λu z=>lh C Q b c o q r n a k d u f g i l m j z))) (oP (er n h) λv=>dX 1 v d h λw=>bO .neq 3 w e (oP (er n h) λx=>oP (gM 1 x d) λy=>fj (gU 1 y e h) λB A=>nm C Q b c q r n a bT f g i A) (nm C Q b c q r n a k f g i h))
theorem Bc{C Q a b}(I)(s:XI I (uD C Q a b)){k p q r c d e f g j l m n o h}(i:I k p q r c d e f g j l m n o h):uc C Q a b p q r c d e f g j l m n o h:=WA.Uz I _ s i
def kZ(C:fe)(Q:fu)(n:mC)(o:Ft)(a:DC)(p q r b c d e f g i j k l:V)(h:Hp):Prop:=oP (ej .add 3 l nO) λm=>a p q r b c d e f g i j k m h
theorem nz{C:fe}{Q:fu}{a:mC}{b:Ft}{c:DC}{o p q d e f g i j k l m n:V}{h:Hp}(H:kZ C Q a b c o p q d e f g i j k l m n h):lh C Q a b c o p q d e f g i j k l m n h:=by
 rintro ρ rfl rfl rfl rfl rfl rfl rfl rfl rfl rfl rfl rfl rfl;exact WA.of (by kernel_rfl) H
def nq(C:fe)(Q:fu)(i:mC)(a:Ft)(j k l b c d e f:V)(h:Hp):Prop:=oP (ej .add 3 f nO) λg=>a j k l b c d e g h
theorem tA{C:fe}{Q:fu}{a:mC}{b:Ft}{i j k c d e f g:V}{h:Hp}(H:nq C Q a b i j k c d e f g h):nm C Q a b i j k c d e f g h:=by
 rintro ρ rfl rfl rfl rfl rfl rfl rfl rfl;exact WA.of (by kernel_rfl) H
def xY(C:fe)(Q:fu)(H:V)(h:Hp):Prop:=iW (tQ 29 H) h λe m=>oP (hH 5 e m) λq=>oP (hH 5 e m) λf=>cP C lV [q] m λr n=>(m.next<=n.next/\((hH 5 e n=some f)/\cP C sQ [f] n λs o=>(n.next<=o.next/\oP (fP 3 e) λg=>oP (er g o) λi=>oP (fJ i) λj=>uY (gS 3 1 8 nZ j j) o λt u p=>oP (fP 3 e) λb=>oP (er b p) λc=>oP (fJ c) λk=>uY (gS 3 1 8 nZ k k) p λd v D=>uY (zC 22 [nS]) D λw x E=>uY (zC 22 [nS]) E λy F a=>((a.get (E.next)=some y/\O.beq y y=true)/\((a.get (D.next)=some w/\O.beq w w=true)/\((a.get (p.next)=some d/\O.beq d d=true)/\((er b a=some c)/\((a.get (o.next)=some t/\O.beq t t=true)/\((er g a=some i)/\fj (gU 1 x u a) λI l=>(a.next<=l.next/\((l.get (p.next)=some d/\O.beq d d=true)/\((er b l=some c)/\fj (gU 1 F v l) λG z=>(l.next<=z.next/\oP (er x z) λA=>oP (fJ A) λB=>ui C Q r s x F B nZ z)))))))))))))
theorem Ea{C}(s:C.start=fQ){a h Q}(k:C.K nQ [a] h=none)(H:xY C Q a h):cP C nQ [a] h Q:=cP.vd t37 s (by unfold P0;exact Tryd.func37) k H
def t53:List (Nat×List Nat):=[(19,[0,1,2,3])]
def rR(C:fe)(Q:fu)(a b c d:V)(h:Hp):Prop:=∀ρ:fK,ρ 0=a->ρ 1=b->ρ 2=c->ρ 3=d->WA C Tryd.f53 t53 9 [] Q ρ h
def rZ(C:fe)(Q:fu)(a:Cl)(b c d e:V)(h:Hp):Prop:=bO .neq 3 b c (oP (er d h) λf=>dX 1 f b h λg=>oP (er d h) λi=>dX 1 i c h λj=>bO .gtr 3 g j (oP (er e h) λk=>dX 1 k b h λl=>a l c d e h) (oP (er e h) λm=>dX 1 m c h λn=>a b n d e h)) (Q b h)
theorem zz{C Q}(I)(s:P4 I (rZ C Q)){k a b c d h}(i:I k a b c d h):rR C Q a b c d h:=WA.l4 I _ s i
def vQ(C:fe)(Q:fu)(a b c d:V)(h:Hp):Prop:=rR C Q a b c d h
theorem B4{C}(s:C.start=fQ){a b c d h Q}(k:C.K iA [a,b,c,d] h=none)(H:vQ C Q a b c d h):cP C iA [a,b,c,d] h Q:=cP.vd t53 s (by unfold P0;exact Tryd.func53) k H
def t30:List (Nat×List Nat):=[(43,[1,2,7])]
def tl(C:fe)(Q:fu)(a b c:V)(h:Hp):Prop:=∀ρ:fK,ρ 1=a->ρ 2=b->ρ 7=c->WA C Tryd.f30 t30 21 [] Q ρ h
def tk(C:fe)(Q:fu)(a:HL)(e f b:V)(h:Hp):Prop:=bO .lss 3 b e (gg C (fL f [b]) h λc g=>bN c (Q bF g) (oP (ej .add 3 b nO) λd=>a e f d g)) (Q bT h)
theorem zX{C Q}(I)(s:P3 I (tk C Q)){k a b c h}(i:I k a b c h):tl C Q a b c h:=WA.l3 I _ s i
def wO(C:fe)(Q:fu)(c a b:V)(h:Hp):Prop:=tl C Q a b nZ h
theorem CD{C}(s:C.start=fQ){a b c h Q}(k:C.K iO [a,b,c] h=none)(H:wO C Q a b c h):cP C iO [a,b,c] h Q:=cP.vd t30 s (by unfold P0;exact Tryd.func30) k H
def t45:List (Nat×List Nat):=[(43,[0,7,8,9]),(56522,[0,7,8,9,31])]
def qE(C:fe)(Q:fu)(a b c d:V)(h:Hp):Prop:=∀ρ:fK,ρ 0=a->ρ 7=b->ρ 8=c->ρ 9=d->WA C Tryd.f45 t45 21 [] Q ρ h
def jc(C:fe)(Q:fu)(a:Cl)(c d e f b:V)(h:Hp):Prop:=∀ρ:fK,ρ 0=c->ρ 7=d->ρ 8=e->ρ 9=f->ρ 31=b->WA C Tryd.f45 t45 28261 [λρ h=>a (ρ 0) (ρ 7) (ρ 8) (ρ 9) h] Q ρ h
def qU(C:fe)(Q:fu)(a:Cl)(c f g d:V)(h:Hp):Prop:=bO .lss 3 d g (dX 1 f d h λi=>oP (hJ c) λm=>oP (fP 0 m) λn=>dG 2 n h λo=>cP C jo [i,o] h λp e=>bN p (Q bF e) (oP (hJ c) λq=>oP (fP 0 q) λr=>dJ 2 r 6 i 0 e λb=>oP (ej .eql 3 b (V.I 19)) λj=>bP j (jc C Q a c f g d j e) (oP (ej .eql 3 b (V.I 20)) λk=>bP k (jc C Q a c f g d k e) (oP (ej .eql 3 b (V.I 22)) λl=>bP l (jc C Q a c f g d l e) (oP (ej .eql 3 b (V.I 23)) λs=>jc C Q a c f g d s e))))) (Q bT h)
theorem yA{C Q}(I)(s:P4 I (qU C Q)){k a b c d h}(i:I k a b c d h):qE C Q a b c d h:=WA.l4 I _ s i
def qk(C:fe)(Q:fu)(a:Cl)(d e f g b:V)(h:Hp):Prop:=bP b (Q bF h) (oP (ej .add 3 g nO) λc=>a d e f c h)
theorem xR{C:fe}{Q:fu}{a:Cl}{c d e f b:V}{h:Hp}(H:qk C Q a c d e f b h):jc C Q a c d e f b h:=by
 rintro ρ rfl rfl rfl rfl rfl;exact WA.of (by kernel_rfl) H
def ug(C:fe)(Q:fu)(b a:V)(h:Hp):Prop:=oP (fJ a) λc=>qE C Q b a c nZ h
theorem A9{C}(s:C.start=fQ){a b h Q}(k:C.K ik [a,b] h=none)(H:ug C Q a b h):cP C ik [a,b] h Q:=cP.vd t45 s (by unfold P0;exact Tryd.func45) k H
def t31:List (Nat×List Nat):=[(175,[0,27,28,29])]
def qS(C:fe)(Q:fu)(d a b c:V)(h:Hp):Prop:=∀ρ:fK,ρ 0=d->ρ 27=a->ρ 28=b->ρ 29=c->WA C Tryd.f31 t31 87 [] Q ρ h
def qV(C:fe)(Q:fu)(i:Cl)(j d e c:V)(h:Hp):Prop:=bO .lss 3 c e (oP (gM 4 d c) λk=>oP (hH 4 k h) λl=>iW (zC 50 [nZ,nZ,nS,nS]) h λf O=>fj (gU 4 f l O) λP g=>dG 2 f g λm=>oP (ej .gtr 3 m (V.I 40)) λn=>oP (qe n (oB (fP 3 f) λo=>oB (er o g) λp=>oB (fJ p) λq=>ej .gtr 3 q (V.I 60))) λa=>oP (gB false a) λr=>oP (gV r (some j)) λs=>oP (gB false a) λt=>oP (gV t (fP 2 f)) λu=>oP (gB false a) λv=>oP (gV v (er u g)) λw=>oP (gB false a) λx=>oP (gC x (some (ik,[s,w]))) λy=>yv C y g λz M=>oP (qe a (xF .not z)) λb=>oP (gB false b) λA=>oP (gV A (some j)) λB=>oP (gB false b) λD=>oP (gV D (fP 3 f)) λE=>oP (gB false b) λF=>oP (gV F (er E M)) λG=>oP (gB false b) λH=>oP (gC H (some (ik,[B,G]))) λI=>yv C I M λJ N=>oP (qe b (xF .not J)) λK=>bP K (Q bF N) (oP (ej .add 3 c nO) λL=>i j d e L N)) (Q bT h)
theorem yw{C Q}(I)(s:P4 I (qV C Q)){k d a b c h}(i:I k d a b c h):qS C Q d a b c h:=WA.l4 I _ s i
def uJ(C:fe)(Q:fu)(p q:V)(h:Hp):Prop:=oP (hJ p) λr=>oP (fP 0 r) λd=>dF 4 d h λe=>oP (gM 1 e q) λf=>oP (hH 1 f h) λg=>iW (zC 53 [nS]) h λc s=>fj (gU 1 c g s) λt a=>dG 0 c a λi=>oP (ej .eql 3 i nZ) λj=>oP (qe j (oB (fP 0 c) λk=>oB (er k a) λl=>oB (fJ l) λm=>ej .gtr 3 m (V.I 30))) λn=>bP n (Q bF a) (dF 0 c a λb=>oP (fJ b) λo=>qS C Q p b o nZ a)
theorem Bj{C}(s:C.start=fQ){a b h Q}(k:C.K j7 [a,b] h=none)(H:uJ C Q a b h):cP C j7 [a,b] h Q:=cP.vd t31 s (by unfold P0;exact Tryd.func31) k H
def t32:List (Nat×List Nat):=[(87,[0,36,37]),(351,[0,4,51,52,53]),(190047,[0,4,5,7,51,52,53,59,60,61])]
def qL(C:fe)(Q:fu)(c a b:V)(h:Hp):Prop:=∀ρ:fK,ρ 0=c->ρ 36=a->ρ 37=b->WA C Tryd.f32 t32 43 [] Q ρ h
def rz(C:fe)(Q:fu)(d e a b c:V)(h:Hp):Prop:=∀ρ:fK,ρ 0=d->ρ 4=e->ρ 51=a->ρ 52=b->ρ 53=c->WA C Tryd.f32 t32 175 [] Q ρ h
def re(C:fe)(Q:fu)(a:mC)(i j k l b c d e f g:V)(h:Hp):Prop:=∀ρ:fK,ρ 0=i->ρ 4=j->ρ 5=k->ρ 7=l->ρ 51=b->ρ 52=c->ρ 53=d->ρ 59=e->ρ 60=f->ρ 61=g->WA C Tryd.f32 t32 95023 [λρ h=>a (ρ 0) (ρ 4) (ρ 51) (ρ 52) (ρ 53) h] Q ρ h
def rk(C:fe)(Q:fu)(e:HL)(d b a:V)(h:Hp):Prop:=bO .lss 3 a b (dN 5 d h λf=>oP (gM 1 f a) λg=>fj (gU 1 g (V.I (-1)) h) λn m=>oP (ej .add 3 a nO) λi=>e d b i m) (oP (hJ d) λj=>oP (fP 0 j) λk=>dF 3 k h λc=>oP (fJ c) λl=>rz C Q d nZ c l nZ h)
theorem yR{C Q}(I)(s:P3 I (rk C Q)){k c a b h}(i:I k c a b h):qL C Q c a b h:=WA.l3 I _ s i
def rC(C:fe)(Q:fu)(j:mC)(n o b c a:V)(h:Hp):Prop:=bO .lss 3 a c (oP (gM 6 b a) λk=>oP (hH 6 k h) λl=>iW (zC 44 [nS,nZ,nZ,nS,nS,nZ]) h λp r=>fj (gU 6 p l r) λs q=>dF 0 p q λd=>oP (fJ d) λm=>re C Q j n o a bT b c a d m nZ q) (oP (hJ n) λe=>oP (fP 0 e) λf=>dG 2 f h λg=>oP (ej .eql 3 o g) λi=>Q i h)
theorem yN{C Q}(I)(s:P5 I (rC C Q)){k d e a b c h}(i:I k d e a b c h):rz C Q d e a b c h:=WA.l5 I _ s i
def qC(C:fe)(Q:fu)(D:mC)(E:zo)(d x4 F x7 g i j k l b:V)(h:Hp):Prop:=bO .lss 3 b l (dX 1 k b h λa=>oP (hJ d) λG=>oP (fP 0 G) λH=>dG 2 H h λI=>cP C jo [a,I] h λJ c=>oP (xF .not J) λK=>oP (qe K (oB (some d) λL=>oB (hJ L) λM=>oB (fP 5 M) λN=>oB (er N c) λO=>oB (some a) λP=>oB (gM 1 O P) λR=>oB (er R c) λS=>ej .geq 3 S nZ)) λT=>bP T (Q bF c) (oP (hJ d) λU=>oP (fP 0 U) λW=>dJ 2 W 6 a 0 c λe=>oP (ej .eql 3 e (V.I 21)) λX=>oP (qe X (oB (some e) λY=>ej .eql 3 Y nO)) λf=>oP (kH f (oB (some x7) λm=>xF .not m)) λn=>oP (qe n (oB (some e) λo=>oB (ej .eql 3 o nO) λp=>oB (some F) λq=>oB (ej .eql 3 q nZ) λr=>oB (ej .neq 4 p r) λs=>oB (some s) λt=>kH t (some f))) λu=>bP u (Q bF c) (dN 5 d c λv=>dN 6 d c λw=>oP (gM 1 v a) λx=>fj (gU 1 x F c) λvu Z=>(c.next<=Z.next/\oP (gM 1 w a) λy=>fj (gU 1 y b Z) λaa h3=>(Z.next<=h3.next/\oP (ej .add 3 x4 nO) λz=>oP (ej .add 3 b nO) λA=>E d z F f g i j k l A h3))))) (oP (ej .add 3 j nO) λB=>D d x4 g i B h)
theorem yl{C Q a}(I)(s:VH I (qC C Q a)){k j l m n b c d e f g h}(i:I k j l m n b c d e f g h):re C Q a j l m n b c d e f g h:=WA.M5 I _ s i
def ue(C:fe)(Q:fu)(b:V)(h:Hp):Prop:=oP (hJ b) λm=>oP (fP 0 m) λn=>oP (fP 2 n) λd=>oP (er d h) λe=>oP (fJ e) λf=>uY (gS 3 1 8 nZ f f) h λo p k=>oP (hJ b) λq=>oP (fP 0 q) λr=>oP (fP 2 r) λg=>oP (er g k) λi=>oP (fJ i) λj=>uY (gS 3 1 8 nZ j j) k λa s c=>oP (hJ b) λt=>oP (fP 5 t) λu=>((c.get (k.next)=some a/\O.beq a a=true)/\((er g c=some i)/\((c.get (h.next)=some o/\O.beq o o=true)/\((er d c=some e)/\fj (gU 1 u p c) λB l=>(c.next<=l.next/\oP (hJ b) λv=>oP (fP 6 v) λw=>((l.get (k.next)=some a/\O.beq a a=true)/\fj (gU 1 w s l) λA x=>(l.next<=x.next/\oP (hJ b) λy=>dG 5 y x λz=>qL C Q b z nZ x)))))))
theorem A8{C}(s:C.start=fQ){a h Q}(k:C.K lJ [a] h=none)(H:ue C Q a h):cP C lJ [a] h Q:=cP.vd t32 s (by unfold P0;exact Tryd.func32) k H
section
variable (C:fe)(Q:X->fK->Hp->Prop)(ρ:fK)(h:Hp)
def Lf:=G4 Tryd.f33
noncomputable def SM:=Lf.r
noncomputable def SY:=Lf.r.r
noncomputable def S5:=Lf.r.r.l.r
noncomputable def SV:=Lf.r.r.r
noncomputable def U7:=andThen (Wp C 94 SV Q) Q
noncomputable def SD:=Lf.r.r.l.r.l.r
noncomputable def Td:=Lf.r.r.r.l.r
noncomputable def Te:=Lf.r.r.r.r
noncomputable def Yt:=andThen (Wp C 94 Te Q) Q
noncomputable def SR:=Lf.r.r.r.l.r.l.r
noncomputable def V4(C:fe)(Q:XQ):XQ:=vg 0 Q
noncomputable def SE:=Lf.r.r.r.r.r
noncomputable def SL:=Lf.r.r.r.l.r.l.r.l.r
noncomputable def Pr:=Lf.r.r.r.l.r.l.r.r.r
noncomputable def Qc:=Lf.r.r.r.l.r.l.r.r.r.l.r
noncomputable def Pv:=Lf.r.r.r.l.r.l.r.r.r.r.r
noncomputable def OW:=Lf.r.r.r.l.r.l.r.r.r.r.r.l.r
theorem Yo:qb C 94 Lf Q ρ h=(oP (some (V.bool false)) λa=>
 Wp C 94 SM Q (fS ρ 4 a) h):=by kernel_rfl
theorem VU:qb C 94 SM Q ρ h=(oP (some (ρ 0)) λe=>
 oP (hJ e) λf=>
 oP (fP 0 f) λg=>
 oP (fP 2 g) λi=>
 oP (er i h) λa=>
 oP (some (ρ 1)) λb=>
 oP (gM 6 a b) λc=>
 oP (hH 6 c h) λd=>
 iW (some (.cells 46 1 true false [(V.I 0),(V.I 0),(V.I 0),(V.I 0),V.ed,(V.I 0)],λl=> .ptr l 0)) h λj k=>
 fj (gU 6 j d k) λn m=>
 Wp C 94 SY Q (fS (fS (fS (fS (fS (fS (fS (fS (fS ρ 6 e) 7 f) 8 g) 9 i) 10 a) 11 b) 12 c) 13 d) 5 j) m):=by kernel_rfl
theorem U9:qb C 94 SY Q ρ h=(oP (fP 0 (ρ 5)) λd=>
 oP (er d h) λs=>
 ((er d h=some s)/\
 ((fP 0 (ρ 5)=some d)/\
 W8 C yT [s] h λt D=>
 (h.next<=D.next/\
 oP (ej .eql 9 t (V.str [])) λe=>
 oP (some e) λb=>
 oP (gB false b) λW=>
 oP (gV W (some (ρ 0))) λf=>
 oP (gB false b) λb6=>
 oP (gV b6 (hH 6 (ρ 5) D)) λu=>
 ((gT b6 (hH 6 (ρ 5) D=some u))/\
 ((gT W (some (ρ 0)=some f))/\
 ((some e=some b)/\
 ((ej .eql 9 t (V.str [])=some e)/\
 oP (gB false b) λb7=>
 oP (gC b7 (some (pZ,[u]))) λx7=>yv C x7 D λE X=>
 (D.next<=X.next/\
 ((gT W (some (ρ 0)=some f))/\
 oP (gB false b) λb8=>
 oP (gC b8 (some (ik,[f,E]))) λx8=>yv C x8 X λv F=>
 (X.next<=F.next/\
 oP (gB false b) λb9=>
 oP (gV b9 (xF .not v)) λg=>
 oP (rJ b (V.bool true) g) λi=>
 oP (some i) λc=>
 oP (gB false c) λG=>
 oP (gV G (fP 0 (ρ 5))) λj=>
 oP (gB false c) λH=>
 oP (gV H (er j F)) λw=>
 ((gT H (er j F=some w))/\
 ((gT G (fP 0 (ρ 5)=some j))/\
 ((some i=some c)/\
 ((rJ b (V.bool true) g=some i)/\
 ((gT b9 (xF .not v=some g))/\
 oP (gB false c) λY=>
 oP (gC Y (some (nG,[w]))) λZ=>yv C Z F λx y=>
 (F.next<=y.next/\
 oP (gB false c) λI=>
 oP (gV I (some x)) λa=>
 oP (gB true a) λJ=>
 oP (gV J (fP 5 (ρ 5))) λk=>
 oP (gB true a) λK=>
 oP (gV K (er k y)) λz=>
 oP (gB true a) λL=>
 oP (gV L (some (ρ 0))) λl=>
 oP (gB true a) λM=>
 oP (gV M (hJ l)) λm=>
 oP (gB true a) λN=>
 oP (gV N (fP 0 m)) λn=>
 oP (gB true a) λO=>
 oP (gV O (fP 4 n)) λo=>
 oP (gB true a) λP=>
 oP (gV P (er o y)) λp=>
 oP (gB true a) λR=>
 oP (gV R (fJ p)) λA=>
 ((gT R (fJ p=some A))/\
 ((gT P (er o y=some p))/\
 ((gT O (fP 4 n=some o))/\
 ((gT N (fP 0 m=some n))/\
 ((gT M (hJ l=some m))/\
 ((gT L (some (ρ 0)=some l))/\
 ((gT K (er k y=some z))/\
 ((gT J (fP 5 (ρ 5)=some k))/\
 ((gT I (some x=some a))/\
 oP (gB true a) λaa=>
 oP (gC aa (some (jo,[z,A]))) λab=>yv C ab y λB h5=>
 (y.next<=h5.next/\
 oP (gB true a) λS=>
 oP (gV S (xF .not B)) λq=>
 oP (gB false c) λT=>
 oP (gV T (rJ a q (V.bool false))) λr=>
 oP (rJ c (V.bool true) r) λU=>
 ((rJ c (V.bool true) r=some U)/\
 ((gT T (rJ a q (V.bool false)=some r))/\
 ((gT S (xF .not B=some q))/\
 Wp C 94 S5 (U7 C Q) (fS (fS (fS (fS (fS (fS (fS (fS (fS (fS (fS (fS (fS (fS (fS (fS (fS (fS (fS (fS (fS (fS (fS (fS (fS (fS (fS (fS ρ 14 d) 15 s) 16 t) 17 e) 18 b) 19 f) 20 u) 21 E) 22 v) 23 g) 24 i) 25 c) 26 j) 27 w) 28 x) 29 a) 30 k) 31 z) 32 l) 33 m) 34 n) 35 o) 36 p) 37 A) 38 B) 39 q) 40 r) 41 U) h5)))))))))))))))))))))))))))))):=by kernel_rfl
theorem Vf:qb C 94 SV Q ρ h=(oP (fP 0 (ρ 5)) λa=>
 oP (er a h) λb=>
 Wp C 94 Td (Yt C Q) (fS (fS ρ 42 a) 43 b) h):=by kernel_rfl
theorem VG:qb C 94 S5 Q ρ h=(oP (some (ρ 41)) λc=>
 bP c (
 oP (some (V.bool false)) λa=>
 Wp C 94 SD Q (fS ρ 4 a) h) (
 Q .normal ρ h)):=by kernel_rfl
theorem Wa:qb C 94 Te Q ρ h=(oP (some (V.bool true)) λa=>
 Wp C 94 SE Q (fS ρ 4 a) h):=by kernel_rfl
theorem VX:qb C 94 Td Q ρ h=(oP (ej .eql 3 (ρ 43) (V.I 20)) λa=>
 oP (some a) λb=>
 Wp C 94 SR (V4 C Q) (fS (fS ρ 45 a) 44 b) h):=by kernel_rfl
theorem VP:qb C 94 SE Q ρ h=(Q .ret ρ h):=by kernel_rfl
theorem We:qb C 94 SD Q ρ h=(Q .ret ρ h):=by kernel_rfl
theorem V3:qb C 94 SR Q ρ h=(oP (some (ρ 44)) λc=>
 bP c (
 oP (fP 4 (ρ 5)) λa=>
 oP (er a h) λb=>
 oP (fJ b) λd=>
 oP (ej .eql 3 d (V.I 1)) λe=>
 oP (some e) λi=>
 Wp C 94 SL Q (fS (fS (fS (fS (fS ρ 46 a) 47 b) 48 d) 49 e) 4 i) h) (
 oP (ej .eql 3 (ρ 43) (V.I 21)) λf=>
 oP (some f) λg=>
 Wp C 94 Pr Q (fS (fS ρ 51 f) 50 g) h)):=by kernel_rfl
theorem Vq:qb C 94 SL Q ρ h=(Q .ret ρ h):=by kernel_rfl
theorem Ug:qb C 94 Pr Q ρ h=(oP (some (ρ 50)) λc=>
 bP c (
 oP (fP 4 (ρ 5)) λa=>
 oP (er a h) λb=>
 oP (fJ b) λd=>
 oP (some (ρ 0)) λe=>
 oP (hJ e) λf=>
 oP (fP 0 f) λg=>
 oP (fP 3 g) λi=>
 oP (er i h) λj=>
 oP (some (ρ 0)) λk=>
 oP (hJ k) λl=>
 oP (fP 5 l) λm=>
 oP (er m h) λn=>
 oP (some (ρ 1)) λo=>
 oP (gM 1 n o) λp=>
 oP (er p h) λq=>
 oP (gM 6 j q) λr=>
 oP (fP 4 r) λs=>
 oP (er s h) λt=>
 oP (fJ t) λu=>
 oP (ej .eql 3 d u) λv=>
 oP (some v) λy=>
 ((some v=some y)/\
 ((ej .eql 3 d u=some v)/\
 ((fJ t=some u)/\
 ((er s h=some t)/\
 ((fP 4 r=some s)/\
 ((gM 6 j q=some r)/\
 ((er p h=some q)/\
 ((gM 1 n o=some p)/\
 ((some (ρ 1)=some o)/\
 ((er m h=some n)/\
 ((fP 5 l=some m)/\
 ((hJ k=some l)/\
 ((some (ρ 0)=some k)/\
 ((er i h=some j)/\
 ((fP 3 g=some i)/\
 ((fP 0 f=some g)/\
 ((hJ e=some f)/\
 ((some (ρ 0)=some e)/\
 ((fJ b=some d)/\
 ((er a h=some b)/\
 ((fP 4 (ρ 5)=some a)/\
 Wp C 94 Qc Q (fS (fS (fS (fS (fS (fS (fS (fS (fS (fS (fS (fS (fS (fS (fS (fS (fS (fS (fS (fS (fS ρ 52 a) 53 b) 54 d) 55 e) 56 f) 57 g) 58 i) 59 j) 60 k) 61 l) 62 m) 63 n) 64 o) 65 p) 66 q) 67 r) 68 s) 69 t) 70 u) 71 v) 4 y) h)))))))))))))))))))))) (
 oP (ej .eql 3 (ρ 43) (V.I 1)) λw=>
 oP (some w) λx=>
 Wp C 94 Pv Q (fS (fS ρ 73 w) 72 x) h)):=by kernel_rfl
theorem Ua:qb C 94 Qc Q ρ h=(Q .ret ρ h):=by kernel_rfl
theorem TV:qb C 94 Pv Q ρ h=(oP (some (ρ 72)) λc=>
 bP c (
 oP (fP 3 (ρ 5)) λd=>
 oP (er d h) λe=>
 oP (ej .geq 2 e (V.I 0)) λf=>
 oP (some f) λb=>
 oP (gB true b) λH=>
 oP (gV H (fP 3 (ρ 5))) λg=>
 oP (gB true b) λI=>
 oP (gV I (er g h)) λi=>
 oP (gB true b) λJ=>
 oP (gV J (ej .lss 2 i (V.I 40))) λj=>
 oP (rJ b j (V.bool false)) λk=>
 oP (some k) λa=>
 oP (gB true a) λK=>
 oP (gV K (some (ρ 0))) λl=>
 oP (gB true a) λw=>
 oP (gV w (hJ l)) λm=>
 oP (gB true a) λx=>
 oP (gV x (fP 0 m)) λn=>
 oP (gB true a) λy=>
 oP (gV y (fP 2 n)) λo=>
 oP (gB true a) λz=>
 oP (gV z (er o h)) λp=>
 oP (gB true a) λA=>
 oP (gV A (some (ρ 1))) λq=>
 oP (gB true a) λB=>
 oP (gV B (iF 6 p none (some q) h)) λr=>
 oP (gB true a) λD=>
 oP (gV D (some (V.func iJ [] [(ρ 5)]))) λs=>
 oP (gB true a) λE=>
 oP (gC E (some (gi,[r,s]))) λF=>yv C F h λt L=>
 oP (gB true a) λG=>
 oP (gV G (xF .not t)) λu=>
 oP (rJ a u (V.bool false)) λv=>
 oP (some v) λM=>
 Wp C 94 OW Q (fS (fS (fS (fS (fS (fS (fS (fS (fS (fS (fS (fS (fS (fS (fS (fS (fS (fS (fS (fS (fS ρ 74 d) 75 e) 76 f) 77 b) 78 g) 79 i) 80 j) 81 k) 82 a) 83 l) 84 m) 85 n) 86 o) 87 p) 88 q) 89 r) 90 s) 91 t) 92 u) 93 v) 4 M) L) (
 Q .normal ρ h)):=by kernel_rfl
theorem TI:qb C 94 OW Q ρ h=(Q .ret ρ h):=by kernel_rfl
theorem X2{C:fe}(c:C.start=fQ)(a b:V){h:Hp}{Q:fu}(d:C.K jj [a,b] h=none)(H:qb C 94 Lf (ET [.tmp 4] Q) (GL [a,b]) h):cP C jj [a,b] h Q:=
 cP.SX c (show P0.funcs[33]? =some Tryd.f33 by unfold P0;exact Tryd.func33) (by kernel_rfl) (by kernel_rfl) (by kernel_rfl) d (EY rfl) (Wp.code _ H)
noncomputable def rA(C:fe) (Q:fu) (p u:V) (h:Hp):Prop:=oP (hJ p) λv7=>oP (fP 0 v7) λv8=>oP (fP 2 v8) λv9=>oP (er v9 h) λv=>oP (gM 6 v u) λw=>oP (hH 6 w h) λx=>iW (some (.cells 46 1 true false [(V.I 0),(V.I 0),(V.I 0),(V.I 0),V.ed,(V.I 0)],λl=> .ptr l 0)) h λd h1=>fj (gU 6 d x h1) λvu y=>oP (fP 0 d) λz=>oP (er z y) λA=>cP C yT [A] y λB s=>(y.next<=s.next/\oP (ej .eql 9 B (V.str [])) λe=>oP (gB false e) λb5=>oP (gV b5 (some p)) λD=>oP (gB false e) λb6=>oP (gV b6 (hH 6 d s)) λE=>oP (gB false e) λb7=>oP (gC b7 (some (pZ,[E]))) λy7=>yv C y7 s λF G=>(s.next<=G.next/\oP (gB false e) λb8=>oP (gC b8 (some (ik,[D,F]))) λy8=>yv C y8 G λH t=>(G.next<=t.next/\oP (qe e (xF .not H)) λf=>oP (gB false f) λI=>oP (gV I (fP 0 d)) λJ=>oP (gB false f) λK=>oP (gV K (er J t)) λL=>oP (gB false f) λM=>oP (gC M (some (nG,[L]))) λN=>yv C N t λO q=>(t.next<=q.next/\oP (gB false f) λP=>oP (gV P (some O)) λa=>oP (gB true a) λR=>oP (gV R (fP 5 d)) λS=>oP (gB true a) λT=>oP (gV T (er S q)) λU=>oP (gB true a) λW=>oP (gV W (some p)) λX=>oP (gB true a) λY=>oP (gV Y (hJ X)) λZ=>oP (gB true a) λaa=>oP (gV aa (fP 0 Z)) λab=>oP (gB true a) λac=>oP (gV ac (fP 4 ab)) λae=>oP (gB true a) λag=>oP (gV ag (er ae q)) λah=>oP (gB true a) λai=>oP (gV ai (fJ ah)) λaj=>oP (gB true a) λak=>oP (gC ak (some (jo,[U,aj]))) λal=>yv C al q λam c=>(q.next<=c.next/\oP (gB true a) λan=>oP (gV an (xF .not am)) λao=>oP (qe f (rJ a ao (V.bool false))) λaq=>bP aq (Q (V.bool false) c) (oP (fP 0 d) λar=>oP (er ar c) λg=>oP (ej .eql 3 g (V.I 20)) λau=>bP au (oP (fP 4 d) λaw=>oP (er aw c) λax=>oP (fJ ax) λay=>oP (ej .eql 3 ay (V.I 1)) λaz=>Q az c) (oP (ej .eql 3 g (V.I 21)) λaA=>bP aA (oP (fP 4 d) λaB=>oP (er aB c) λaC=>oP (fJ aC) λaD=>oP (hJ p) λaE=>oP (fP 0 aE) λaF=>oP (fP 3 aF) λaG=>oP (er aG c) λaH=>oP (hJ p) λaI=>oP (fP 5 aI) λaJ=>oP (er aJ c) λaK=>oP (gM 1 aK u) λaL=>oP (er aL c) λaM=>oP (gM 6 aH aM) λaN=>oP (fP 4 aN) λaO=>oP (er aO c) λaP=>oP (fJ aP) λaQ=>oP (ej .eql 3 aD aQ) λaR=>Q aR c) (oP (ej .eql 3 g (V.I 1)) λaS=>bP aS (oP (fP 3 d) λaT=>oP (er aT c) λaU=>oP (ej .geq 2 aU (V.I 0)) λaV=>oP (kH aV (oB (fP 3 d) λaW=>oB (er aW c) λaX=>ej .lss 2 aX (V.I 40))) λb=>oP (gB true b) λr=>oP (gV r (some p)) λaY=>oP (gB true b) λaZ=>oP (gV aZ (hJ aY)) λa2=>oP (gB true b) λa3=>oP (gV a3 (fP 0 a2)) λa4=>oP (gB true b) λi=>oP (gV i (fP 2 a4)) λa5=>oP (gB true b) λj=>oP (gV j (er a5 c)) λa6=>oP (gB true b) λk=>oP (gV k (some u)) λa7=>oP (gB true b) λm=>oP (gV m (iF 6 a6 none (some a7) c)) λa8=>oP (gB true b) λn=>oP (gV n (some (V.func iJ [] [d]))) λa9=>oP (gB true b) λo=>oP (gC o (some (gi,[a8,a9]))) λba=>yv C ba c λbb h8=>oP (kH b (xF .not bb)) λbc=>Q bc h8) (Q (V.bool true) c)))))))))
theorem CJ{C:fe}(hs:C.start=fQ){R S:V}{h:Hp}{Q:fu}(hk:C.K jj [R,S] h=none)(H:rA C Q R S h):cP C jj [R,S] h Q:=by
 unfold rA at H;exact X2 hs _ _ hk ((Yo _ _ _ _).mpr (Fc (Wp.of (VU _ _ _ _) (Fc (oM H λv7 _ H=>oM H λv8 _ H=>oM H λv9 _ H=>oM H λaw _ H=>Fc (oM H λax _ H=>oM H λay _ H=>Yg H λv5 h1 H=>Tk H λvu h2 H=>Wp.of (U9 _ _ _ _) (oM H λaz b H=>oM H λaA c H=>⟨c,⟨b,Yc H λaB h3 H=>So H λH=>oM H λaC d H=>Fc (oM H λb5 _ H=>oM H λaD a H=>oM H λb6 _ H=>oM H λaE e H=>⟨(sW e),⟨(sW a),⟨rfl,⟨d,oM H λb7 _ H=>oM H λy7 _ H=>Wh H λaF h4 H=>So H λH=>⟨(sW a),oM H λb8 _ H=>oM H λy8 _ H=>Wh H λaG h5 H=>So H λH=>WB (MW H) λH=>oM H λb9 ab H=>oM H λaH f H=>oM H λaI g H=>Fc (oM H λaJ _ H=>oM H λaK i H=>oM H λaL _ H=>oM H λaM j H=>⟨(sW j),⟨(sW i),⟨rfl,⟨g,⟨(sW f),oM H λaN _ H=>oM H λaO _ H=>Wh H λaP h6 H=>So H λH=>oM H λaQ _ H=>oM H λaR k H=>oM H λaS _ H=>oM H λaT l H=>oM H λaU _ H=>oM H λaV m H=>oM H λaW _ H=>oM H λaX n H=>oM H λaY _ H=>oM H λaZ o H=>oM H λa2 _ H=>oM H λa3 p H=>oM H λa4 _ H=>oM H λa5 q H=>oM H λa6 _ H=>oM H λa7 r H=>oM H λa8 _ H=>oM H λa9 s H=>⟨(sW s),⟨(sW r),⟨(sW q),⟨(sW p),⟨(sW o),⟨(sW n),⟨(sW m),⟨(sW l),⟨(sW k),oM H λba _ H=>oM H λbb _ H=>Wh H λbc h7 H=>So H λH=>oM H λbd _ H=>oM H λbe t H=>WB (MW H) λH=>oM H λbf ac H=>oM H λbg u H=>oM H λbi v H=>⟨v,⟨(sW u),⟨(sW t),Wp.of (VG _ _ _ _) (Fc (bM H (λH=>Fc (Wp.of (We _ _ _ _) (H))) (λH=>Wp.of (Vf _ _ _ _) (oM H λbj _ H=>oM H λbm _ H=>Wp.of (VX _ _ _ _) (oM H λbn _ H=>Fc (Wp.of (V3 _ _ _ _) (Fc (bM H (λH=>oM H λbo _ H=>oM H λbp _ H=>oM H λbq _ H=>oM H λbr _ H=>Fc (Wp.of (Vq _ _ _ _) (H))) (λH=>oM H λbt _ H=>Fc (Wp.of (Ug _ _ _ _) (Fc (bM H (λH=>oM H λbu w H=>oM H λbv x H=>oM H λbw y H=>Fc (oM H λbz z H=>oM H λbA A H=>oM H λbC B H=>oM H λbD D H=>Fc (oM H λbE E H=>oM H λbG F H=>oM H λbH G H=>Fc (oM H λbI I H=>oM H λbJ J H=>oM H λbK L H=>oM H λbL M H=>oM H λbQ N H=>oM H λbR O H=>oM H λbS P H=>Fc (⟨rfl,⟨P,⟨O,⟨N,⟨M,⟨L,⟨J,⟨I,⟨rfl,⟨G,⟨F,⟨E,⟨rfl,⟨D,⟨B,⟨A,⟨z,⟨rfl,⟨y,⟨x,⟨w,Wp.of (Ua _ _ _ _) (H)⟩⟩⟩⟩⟩⟩⟩⟩⟩⟩⟩⟩⟩⟩⟩⟩⟩⟩⟩⟩⟩))))) (λH=>oM H λbU _ H=>Fc (Wp.of (TV _ _ _ _) (Fc (bM H (λH=>oM H λbV _ H=>oM H λbW _ H=>oM H λbX _ H=>Fc (WB (JO H) λH=>XK H λb4 ae bY ag H=>XK H λah ai bZ aj H=>oM H λak al H=>oM H λb1 am H=>oM H λb2 an H=>Fc (oM H λao _ H=>oM H λb3 _ H=>oM H λca _ H=>oM H λcb _ H=>oM H λcd _ H=>oM H λce _ H=>oM H λT _ H=>oM H λcf _ H=>oM H λU _ H=>oM H λcg _ H=>oM H λW _ H=>oM H λci _ H=>oM H λX _ H=>oM H λcj _ H=>oM H λY _ H=>oM H λcl _ H=>oM H λZ _ H=>oM H λcm _ H=>Wh H λcn h8 H=>WB (JO H) λH=>oM H λaa aq H=>oM H λco ar H=>oM H λcp au H=>Fc (Wp.of (TI _ _ _ _) (H))))) (λH=>Wp.of (Wa _ _ _ _) (Fc (Wp.of (VP _ _ _ _) (H))))))))))))))))))))⟩⟩⟩⟩⟩⟩⟩⟩⟩⟩⟩⟩⟩⟩⟩⟩⟩)⟩⟩⟩⟩⟩)⟩⟩)))))))
end
def t34:List (Nat×List Nat):=[(87,[0,5,17,18,19])]
def rO(C:fe)(Q:fu)(d e a b c:V)(h:Hp):Prop:=∀ρ:fK,ρ 0=d->ρ 5=e->ρ 17=a->ρ 18=b->ρ 19=c->WA C Tryd.f34 t34 43 [] Q ρ h
def se(C:fe)(Q:fu)(o:mC)(n c f g d:V)(h:Hp):Prop:=bO .lss 3 d g (dX 1 f d h λp=>oP (hJ n) λq=>oP (fP 0 q) λs=>dG 3 s h λt=>cP C jo [p,t] h λu Y=>bN u (Q bF Y) (oP (ej .add 3 d nO) λv=>o n c f g v Y)) (dF 1 c h λe=>bO .eql 3 e nO (dG 3 c h λw=>oP (ej .eql 3 w nO) λx=>Q x h) (bO .eql 3 e (V.I 2) (dG 3 c h λy=>oP (ej .eql 3 y (V.I 2)) λb=>oP (gB true b) λb5=>oP (gV b5 (some n)) λz=>oP (gB true b) λb6=>oP (gV b6 (fP 2 c)) λA=>oP (gB true b) λb7=>oP (gV b7 (er A h)) λB=>oP (gB true b) λb8=>Xz b8 h (oB (jm 3 1 1 nZ [(0,B)]) λr=>some (r.2 h.next,h.new r.1)) λD h2=>oP (gB true b) λb9=>oP (gC b9 (some (ik,[z,D]))) λy9=>yv C y9 h2 λE h3=>oP (rJ b E bF) λF=>Q F h3) (bO .eql 3 e (V.I 3) (dG 3 c h λG=>oP (ej .eql 3 G nZ) λa=>oP (gB true a) λi=>oP (gV i (fP 5 c)) λH=>oP (gB true a) λj=>oP (gV j (er H h)) λI=>oP (gB true a) λk=>oP (gV k (some n)) λJ=>oP (gB true a) λl=>oP (gV l (hJ J)) λK=>oP (gB true a) λm=>oP (gV m (fP 0 K)) λL=>oP (gB true a) λM=>oP (gV M (fP 4 L)) λN=>oP (gB true a) λO=>oP (gV O (er N h)) λP=>oP (gB true a) λR=>oP (gV R (fJ P)) λS=>oP (gB true a) λT=>oP (gC T (some (jo,[I,S]))) λU=>yv C U h λW Z=>(h.next<=Z.next/\oP (rJ a W bF) λX=>Q X Z)) (Q bF h))))
theorem zp{C Q}(I)(s:P5 I (se C Q)){k d e a b c h}(i:I k d e a b c h):rO C Q d e a b c h:=WA.l5 I _ s i
def vh(C:fe)(Q:fu)(i k:V)(h:Hp):Prop:=oP (hJ i) λl=>oP (fP 0 l) λb=>dF 3 b h λc=>oP (gM 6 c k) λd=>oP (hH 6 d h) λe=>iW (zC 44 [nS,nZ,nZ,nS,nS,nZ]) h λf m=>fj (gU 6 f e m) λn j=>dF 3 f j λa=>oP (fJ a) λg=>rO C Q i f a g nZ j
theorem B5{C}(s:C.start=fQ){a b h Q}(k:C.K kj [a,b] h=none)(H:vh C Q a b h):cP C kj [a,b] h Q:=cP.vd t34 s (by unfold P0;exact Tryd.func34) k H
def t35:List (Nat×List Nat):=[(171,[0,1,16,17,18]),(14,[0,1]),(175,[0,7,54,55,56])]
def tq(C:fe)(Q:fu)(d e a b c:V)(h:Hp):Prop:=∀ρ:fK,ρ 0=d->ρ 1=e->ρ 16=a->ρ 17=b->ρ 18=c->WA C Tryd.f35 t35 85 [] Q ρ h
def kV(C:fe)(Q:fu)(a b:V)(h:Hp):Prop:=∀ρ:fK,ρ 0=a->ρ 1=b->WA C Tryd.f35 t35 7 [] Q ρ h
def tG(C:fe)(Q:fu)(d e a b c:V)(h:Hp):Prop:=∀ρ:fK,ρ 0=d->ρ 7=e->ρ 54=a->ρ 55=b->ρ 56=c->WA C Tryd.f35 t35 87 [] Q ρ h
def tN(C:fe)(Q:fu)(e:mC)(f t b c a:V)(h:Hp):Prop:=bO .lss 3 a c (dX 1 b a h λd=>oP (hJ f) λg=>oP (fP 0 g) λi=>dJ 3 i 6 a 4 h λj=>cP C ke [d,j] h λk u=>oP (xF .not k) λl=>oP (qe l (oB (some a) λm=>oB (ej .eql 3 m nZ) λn=>oB (some n) λo=>kH o (oB (some d) λp=>oB (fJ p) λq=>ej .gtr 3 q nZ))) λr=>bP r (Q bF u) (oP (ej .add 3 a nO) λs=>e f t b c s u)) (kV C Q f t h)
theorem As{C Q}(I)(s:P5 I (tN C Q)){k d e a b c h}(i:I k d e a b c h):tq C Q d e a b c h:=WA.l5 I _ s i
def tc(C:fe)(Q:fu)(j l:V)(h:Hp):Prop:=oP (hJ j) λb=>oP (fP 0 b) λc=>dF 3 c h λd=>oP (gM 6 d l) λe=>oP (hH 6 e h) λf=>iW (zC 44 [nS,nZ,nZ,nS,nS,nZ]) h λg m=>fj (gU 6 g f m) λn k=>dF 3 g k λa=>oP (fJ a) λi=>tG C Q j g a i nZ k
theorem Ap{C:fe}{Q:fu}{a b:V}{h:Hp}(H:tc C Q a b h):kV C Q a b h:=by
 rintro ρ rfl rfl;exact WA.of (by kernel_rfl) H
def tI(C:fe)(Q:fu)(d:mC)(u v b c a:V)(h:Hp):Prop:=bO .lss 3 a c (dX 1 b a h λe=>dF 1 v h λf=>oP (ej .eql 3 f (V.I 2)) λg=>oP (kH g (oB (some u) λi=>oB (hJ i) λj=>oB (fP 0 j) λk=>oB (fP 3 k) λl=>oB (er l h) λm=>oB (some e) λn=>oB (gM 6 m n) λo=>oB (fP 4 o) λp=>oB (er p h) λq=>oB (fJ q) λr=>ej .neq 3 r nO)) λs=>bP s (Q bF h) (oP (ej .add 3 a nO) λt=>d u v b c t h)) (Q bT h)
theorem zL{C Q}(I)(s:P5 I (tI C Q)){k d e a b c h}(i:I k d e a b c h):tG C Q d e a b c h:=WA.l5 I _ s i
def wS(C:fe)(Q:fu)(b c:V)(h:Hp):Prop:=bO .eql 3 c nZ (oP (hJ b) λd=>oP (fP 0 d) λe=>oP (hH 5 e h) λf=>cP C sQ [f] h λa i=>oP (fJ a) λg=>tq C Q b c a g nZ i) (kV C Q b c h)
theorem Dj{C}(s:C.start=fQ){a b h Q}(k:C.K kR [a,b] h=none)(H:wS C Q a b h):cP C kR [a,b] h Q:=cP.vd t35 s (by unfold P0;exact Tryd.func35) k H
def t36:List (Nat×List Nat):=[]
def uh(C:fe)(Q:fu)(a:V)(h:Hp):Prop:=oP (hJ a) λb=>oP (fP 0 b) λc=>oP (hH 5 c h) λd=>cP C lV [d] h λe f=>Q e f
theorem A7{C}(s:C.start=fQ){a h Q}(k:C.K oK [a] h=none)(H:uh C Q a h):cP C oK [a] h Q:=cP.vd t36 s (by unfold P0;exact Tryd.func36) k H
def t64:List (Nat×List Nat):=[(19,[0,1,2])]
def na(C:fe)(Q:fu)(a b c:V)(h:Hp):Prop:=∀ρ:fK,ρ 0=a->ρ 1=b->ρ 2=c->WA C Tryd.f64 t64 9 [] Q ρ h
def nf(C:fe)(Q:fu)(a:HL)(e f b:V)(h:Hp):Prop:=bO .geq 3 b nZ (bO .eql 3 f b (Q bT h) (dN 7 e h λc=>dX 1 c b h λd=>a e f d h)) (Q bF h)
theorem vK{C Q}(I)(s:P3 I (nf C Q)){k a b c h}(i:I k a b c h):na C Q a b c h:=WA.l3 I _ s i
def ql(C:fe)(Q:fu)(a b c:V)(h:Hp):Prop:=na C Q a b c h
theorem yi{C}(s:C.start=fQ){a b c h Q}(k:C.K jN [a,b,c] h=none)(H:ql C Q a b c h):cP C jN [a,b,c] h Q:=cP.vd t64 s (by unfold P0;exact Tryd.func64) k H
def t54:List (Nat×List Nat):=[(43,[0,2,3,11,12,13])]
def si(C:fe)(Q:fu)(d e f a b c:V)(h:Hp):Prop:=∀ρ:fK,ρ 0=d->ρ 2=e->ρ 3=f->ρ 11=a->ρ 12=b->ρ 13=c->WA C Tryd.f54 t54 21 [] Q ρ h
def rN(C:fe)(Q:fu)(g:rW)(d i T e f b:V)(h:Hp):Prop:=bO .lss 3 b f (dX 1 e b h λc=>dN 5 d h λj=>dX 1 j c h λk=>oP (ej .eql 3 k i) λl=>oP (kH l (oB (some d) λm=>oB (hJ m) λn=>oB (fP 6 n) λo=>oB (er o h) λp=>oB (some c) λq=>oB (gM 1 p q) λr=>oB (er r h) λs=>oB (some T) λt=>ej .geq 3 s t)) λa=>oP (gB false a) λu=>oP (gV u (some d)) λv=>oP (gB false a) λw=>oP (gV w (some d)) λx=>oP (gB false a) λy=>oP (gV y (hJ x)) λz=>oP (gB false a) λA=>oP (gV A (fP 5 z)) λB=>oP (gB false a) λD=>oP (gV D (er B h)) λE=>oP (gB false a) λF=>oP (gV F (some c)) λG=>oP (gB false a) λH=>oP (gV H (gM 1 E G)) λI=>oP (gB false a) λJ=>oP (gV J (er I h)) λK=>oP (gB false a) λL=>oP (gV L (some i)) λM=>oP (gB false a) λN=>oP (gC N (some (jN,[v,K,M]))) λO=>yv C O h λP U=>oP (qe a (xF .not P)) λR=>bP R (Q bF U) (oP (ej .add 3 b nO) λS=>g d i T e f S U)) (Q bT h)
theorem zn{C Q}(I)(s:P6 I (rN C Q)){k d e f a b c h}(i:I k d e f a b c h):si C Q d e f a b c h:=WA.l6 I _ s i
def vH(C:fe)(Q:fu)(c b d e:V)(h:Hp):Prop:=oP (fJ b) λa=>si C Q c d e b a nZ h
theorem BL{C}(s:C.start=fQ){a b c d h Q}(k:C.K iy [a,b,c,d] h=none)(H:vH C Q a b c d h):cP C iy [a,b,c,d] h Q:=cP.vd t54 s (by unfold P0;exact Tryd.func54) k H
def t55:List (Nat×List Nat):=[(43,[0,2,3,19,20,21])]
def nA(C:fe)(Q:fu)(d e f a b c:V)(h:Hp):Prop:=∀ρ:fK,ρ 0=d->ρ 2=e->ρ 3=f->ρ 19=a->ρ 20=b->ρ 21=c->WA C Tryd.f55 t55 21 [] Q ρ h
def nw(C:fe)(Q:fu)(f:rW)(g i j d e b:V)(h:Hp):Prop:=bO .lss 3 b e (oP (gM 4 d b) λk=>oP (hH 4 k h) λl=>iW (zC 50 [nZ,nZ,nS,nS]) h λc F=>fj (gU 4 c l F) λI B=>dF 2 c B λm=>cP C iy [g,m,i,j] B λn D=>oP (xF .not n) λa=>oP (gB false a) λG=>oP (gV G (some g)) λo=>oP (gB false a) λH=>oP (gV H (fP 3 c)) λp=>oP (gB false a) λq=>oP (gV q (er p D)) λr=>oP (gB false a) λs=>oP (gV s (some i)) λt=>oP (gB false a) λu=>oP (gV u (some j)) λv=>oP (gB false a) λw=>oP (gC w (some (iy,[o,r,t,v]))) λx=>yv C x D λy E=>oP (qe a (xF .not y)) λz=>bP z (Q bF E) (oP (ej .add 3 b nO) λA=>f g i j d e A E)) (Q bT h)
theorem vJ{C Q}(I)(s:P6 I (nw C Q)){k d e f a b c h}(i:I k d e f a b c h):nA C Q d e f a b c h:=WA.l6 I _ s i
def qn(C:fe)(Q:fu)(e f g i:V)(h:Hp):Prop:=oP (hJ e) λb=>oP (fP 0 b) λc=>dJ 4 c 1 f 0 h λa=>oP (fJ a) λd=>nA C Q e g i a d nZ h
theorem xN{C}(s:C.start=fQ){a b c d h Q}(k:C.K iq [a,b,c,d] h=none)(H:qn C Q a b c d h):cP C iq [a,b,c,d] h Q:=cP.vd t55 s (by unfold P0;exact Tryd.func55) k H
def t38:List (Nat×List Nat):=[(175,[0,1,5,6,24,25,26]),(1356591,[0,1,5,6,24,25,26,43,44,45]),(3886,[0,1,5,6,24,25,26])]
def rv(C:fe)(Q:fu)(d e f g a b c:V)(h:Hp):Prop:=∀ρ:fK,ρ 0=d->ρ 1=e->ρ 5=f->ρ 6=g->ρ 24=a->ρ 25=b->ρ 26=c->WA C Tryd.f38 t38 87 [] Q ρ h
def rj(C:fe)(Q:fu)(a:zB)(i j k l b c d e f g:V)(h:Hp):Prop:=∀ρ:fK,ρ 0=i->ρ 1=j->ρ 5=k->ρ 6=l->ρ 24=b->ρ 25=c->ρ 26=d->ρ 43=e->ρ 44=f->ρ 45=g->WA C Tryd.f38 t38 678295 [λρ h=>a (ρ 0) (ρ 1) (ρ 5) (ρ 6) (ρ 24) (ρ 25) (ρ 26) h] Q ρ h
def lL(C:fe)(Q:fu)(a:zB)(e f g i b c d:V)(h:Hp):Prop:=∀ρ:fK,ρ 0=e->ρ 1=f->ρ 5=g->ρ 6=i->ρ 24=b->ρ 25=c->ρ 26=d->WA C Tryd.f38 t38 1943 [λρ h=>a (ρ 0) (ρ 1) (ρ 5) (ρ 6) (ρ 24) (ρ 25) (ρ 26) h] Q ρ h
def qT(C:fe)(Q:fu)(j:zB)(d g k t e f b:V)(h:Hp):Prop:=bO .lss 3 b f (dX 1 e b h λu=>oP (hJ d) λv=>oP (fP 0 v) λw=>dF 2 w h λx=>oP (gM 6 x u) λy=>oP (hH 6 y h) λz=>iW (zC 46 [nZ,nZ,nZ,nZ,nS,nZ]) h λi h1=>fj (gU 6 i z h1) λvu l=>dF 0 i l λA=>bO .eql 3 A (V.I 21) (dF 4 i l λm=>oP (fJ m) λB=>rj C Q j d g k t e f b m B nZ l) (oP (hH 6 i l) λD=>cP C pZ [D] l λE h3=>cP C iy [d,E,g,b] h3 λF h4=>oP (xF .not F) λc=>oP (gB false c) λb8=>oP (gV b8 (fP 0 i)) λG=>oP (gB false c) λb9=>oP (gV b9 (er G h4)) λH=>oP (gB false c) λI=>oP (gC I (some (nG,[H]))) λJ=>yv C J h4 λK h5=>oP (gB false c) λL=>oP (gV L (some K)) λa=>oP (gB true a) λM=>oP (gV M (some d)) λN=>oP (gB true a) λO=>oP (gV O (fP 5 i)) λP=>oP (gB true a) λR=>oP (gV R (er P h5)) λS=>oP (gB true a) λT=>oP (gV T (some g)) λU=>oP (gB true a) λW=>oP (gV W (some b)) λX=>oP (gB true a) λY=>oP (gC Y (some (iq,[N,S,U,X]))) λZ=>yv C Z h5 λaa h6=>oP (gB true a) λab=>oP (gV ab (xF .not aa)) λac=>oP (qe c (rJ a ac bF)) λae=>bP ae (Q bF h6) (lL C Q j d g k t e f b h6))) (dF 1 k h λn=>bO .eql 3 n (V.I 2) (dF 2 k h λo=>iW (jm 3 1 1 nZ [(0,o)]) h λp h7=>cP C iy [d,p,g,t] h7 λq h8=>Q q h8) (bO .eql 3 n (V.I 3) (dF 5 k h λr=>cP C iq [d,r,g,t] h λs h9=>Q s h9) (Q bT h)))
theorem yC{C Q}(I)(s:P7 I (qT C Q)){k d e f g a b c h}(i:I k d e f g a b c h):rv C Q d e f g a b c h:=WA.l7 I _ s i
def qW(C:fe)(Q:fu)(k:zB)(l:zo)(i y j z c d e f g a:V)(h:Hp):Prop:=bO .lss 3 a g (dX 1 f a h λm=>uY (jm 3 1 1 nZ [(0,m)]) h λo2 n b=>dY 4 j 1 a b λo=>oP (hJ i) λp=>oP (fP 0 p) λq=>dF 3 q b λr=>dY 4 j 1 a b λs=>oP (gM 6 r s) λt=>dG 0 t b λu=>((b.get (h.next)=some o2/\O.beq o2 o2=true)/\cP C iy [i,n,o,u] b λv w=>(b.next<=w.next/\bN v (Q bF w) (oP (ej .add 3 a nO) λx=>l i y j z c d e f g x w)))) (lL C Q k i y j z c d e h)
theorem yu{C Q a}(I)(s:VH I (qW C Q a)){k j l m n b c d e f g h}(i:I k j l m n b c d e f g h):rj C Q a j l m n b c d e f g h:=WA.M5 I _ s i
def lN(C:fe)(Q:fu)(a:zB)(f g i j b c d:V)(h:Hp):Prop:=oP (ej .add 3 d nO) λe=>a f g i j b c e h
theorem qh{C:fe}{Q:fu}{a:zB}{e f g i b c d:V}{h:Hp}(H:lN C Q a e f g i b c d h):lL C Q a e f g i b c d h:=by
 rintro ρ rfl rfl rfl rfl rfl rfl rfl;exact WA.of (by kernel_rfl) H
def ud(C:fe)(Q:fu)(l m:V)(h:Hp):Prop:=oP (hJ l) λc=>oP (fP 0 c) λd=>dF 3 d h λe=>oP (gM 6 e m) λf=>oP (hH 6 f h) λg=>iW (zC 44 [nS,nZ,nZ,nS,nS,nZ]) h λb n=>fj (gU 6 b g n) λo i=>dG 0 b i λj=>dF 0 b i λa=>oP (fJ a) λk=>rv C Q l m b j a k nZ i
theorem Bo{C}(s:C.start=fQ){a b h Q}(k:C.K j6 [a,b] h=none)(H:ud C Q a b h):cP C j6 [a,b] h Q:=cP.vd t38 s (by unfold P0;exact Tryd.func38) k H
def t17:List (Nat×List Nat):=[]
def EH(C:fe)(Q:fu)(a0:V)(h:Hp):Prop:=iW (tQ 29 a0) h λe f=>dG 2 e f λv7=>oP (ej .gtr 3 v7 (V.I 3000)) λv8=>oP (qe v8 (oB (fP 3 e) λp=>oB (er p f) λq=>oB (fJ q) λr=>ej .gtr 3 r (V.I 300))) λs=>oP (qe s (oB (fP 4 e) λt=>oB (er t f) λu=>oB (fJ u) λv=>ej .gtr 3 v (V.I 1000))) λw=>oP (qe w (oB (fP 3 e) λx=>oB (er x f) λy=>oB (fJ y) λz=>ej .eql 3 z nZ)) λA=>bP A (Q bF f) (oP (hH 5 e f) λB=>oP (fH [nZ,nZ,nS,nS,nS,nS,nS,nS] [(0,5),(5,1),(6,1),(7,1)] [(0,B)]) λD=>iW (tQ 76 D) f λa h2=>dG 4 e h2 λE=>cP C iO [a,E,(V.func j7 [a] [])] h2 λF h3=>oP (xF .not F) λg=>oP (gB false g) λb9=>oP (gV b9 (some a)) λG=>oP (gB false g) λH=>oP (gC H (some (lJ,[G]))) λI=>yv C I h3 λJ h4=>oP (qe g (xF .not J)) λb=>oP (gB false b) λi=>oP (gV i (some a)) λK=>oP (gB false b) λL=>oP (gV L (fP 2 e)) λM=>oP (gB false b) λN=>oP (gV N (er M h4)) λO=>oP (gB false b) λj=>oP (gV j (fJ O)) λP=>oP (gB false b) λk=>oP (gV k (some a)) λR=>oP (gB false b) λl=>oP (gV l (some (V.func jj [R] []))) λS=>oP (gB false b) λm=>oP (gC m (some (iO,[K,P,S]))) λT=>yv C T h4 λU h5=>oP (qe b (xF .not U)) λc=>oP (gB false c) λW=>oP (gV W (some a)) λX=>oP (gB false c) λY=>oP (gV Y (fP 3 e)) λZ=>oP (gB false c) λaa=>oP (gV aa (er Z h5)) λab=>oP (gB false c) λac=>oP (gV ac (fJ ab)) λae=>oP (gB false c) λag=>oP (gV ag (some a)) λah=>oP (gB false c) λai=>oP (gV ai (some (V.func kj [ah] []))) λaj=>oP (gB false c) λak=>oP (gC ak (some (iO,[X,ae,aj]))) λal=>yv C al h5 λam h6=>oP (qe c (xF .not am)) λd=>oP (gB false d) λan=>oP (gV an (some a)) λao=>oP (gB false d) λaq=>oP (gV aq (fP 3 e)) λar=>oP (gB false d) λau=>oP (gV au (er ar h6)) λaw=>oP (gB false d) λax=>oP (gV ax (fJ aw)) λay=>oP (gB false d) λaz=>oP (gV az (some a)) λaA=>oP (gB false d) λaB=>oP (gV aB (some (V.func kR [aA] []))) λaC=>oP (gB false d) λaD=>oP (gC aD (some (iO,[ao,ay,aC]))) λaE=>yv C aE h6 λaF h7=>oP (qe d (xF .not aF)) λaG=>bP aG (Q bF h7) (cP C oK [a] h7 λaH o=>oP (fJ aH) λaI=>dG 3 e o λaJ=>bO .neq 3 aI aJ (Q bF o) (oP (hH 5 e o) λaK=>cP C nQ [aK] o λaL h9=>oP (hJ a) λaM=>oP (fP 7 aM) λaN=>fj (gU 1 aN aL h9) λvu n=>dG 3 e n λaO=>cP C iO [a,aO,(V.func j6 [a] [])] n λaP aQ=>Q aP aQ)))
theorem J8{C}(s:C.start=fQ){a h Q}(k:C.K wE [a] h=none)(H:EH C Q a h):cP C wE [a] h Q:=cP.vd t17 s (by unfold P0;exact Tryd.func17) k H
end
