/- Parts. -/
import Derived.Test.YtnehpeeglbgfpaaDoorM14
set_option maxHeartbeats 4000000
namespace Go.Proofs.YtnehpeeglbgfpaaDoor.Hx
set_option maxRecDepth 100000
noncomputable section
def t19:List (Nat×List Nat):=[(126,[1,3,4,5]),(319,[1,3,4,5])]
def wV(C:fg)(Q:fm)(a b c d:V)(h:Hp):Prop:=∀ρ:fN,ρ 1=a->ρ 3=b->ρ 4=c->ρ 5=d->WA C Tryd.f19 t19 63 [] Q ρ h
def AP(C:fg)(Q:fm)(a b c d:V)(h:Hp):Prop:=∀ρ:fN,ρ 1=a->ρ 3=b->ρ 4=c->ρ 5=d->WA C Tryd.f19 t19 159 [] Q ρ h
def Bb(C:fg)(Q:fm)(a b c d:V)(h:Hp):Prop:=AP C Q a b c d h
theorem Hu{C:fg}{Q:fm}{a b c d:V}{h:Hp}(H:Bb C Q a b c d h):wV C Q a b c d h:=by
 rintro ρ rfl rfl rfl rfl;exact WA.of (by kernel_rfl) H
def Bf(C:fg)(Q:fm)(c:Eu)(i e f d:V)(h:Hp):Prop:=oP (fF d) λj=>bO .gtr 3 j nZ (oP (fF d) λk=>oP (ef .sub 3 k nO) λl=>oP (gy 2 d l) λa=>dF 3 i h λm=>dN 0 a h λn=>dI 6 m n 3 h λg=>dN 1 a h λo=>oP (fF g) λp=>bO .eql 3 o p (dN 0 a h λq=>iQ (ju 3 1 1 nZ [(0,q)]) h λr R=>fi (fh 3 1 8 f r R) λs O=>oP (fF d) λt=>oP (ef .sub 3 t nO) λu=>oP (iZ 2 d none (some u) O) λv=>c i e s v O) (dN 1 a h λw=>dX 1 g w h λb=>dN 1 a h λx=>oP (ef .add 3 x nO) λy=>oP (iu a) λz=>oP (fI 1 z) λA=>fi (gW 1 A y h) λZ S=>oP (fF e) λB=>cP C jH [b,B] S λD E=>oP (jq D (oB (some e) λF=>oB (some b) λG=>oB (gy 1 F G) λH=>oB (en H E) λI=>tk .not I)) λJ=>bP J (oP (gy 1 e b) λK=>fi (gW 1 K bT E) λP T=>oP (fG [nZ,nZ] [(0,1),(1,1)] [(0,b),(1,nZ)]) λL=>iQ (ju 83 2 1 (V.agg [nZ,nZ]) [(0,L)]) T λM U=>fi (fh 83 2 16 d M U) λN W=>c i e f N W) (c i e f d E))) (cP C j4 [f] h λX Y=>Q f Y)
theorem Ic{C Q}(I)(s:P4 I (Bf C Q)){k a b c d h}(i:I k a b c d h):AP C Q a b c d h:=WA.l4 I _ s i
def Gk(C:fg)(Q:fm)(l:V)(h:Hp):Prop:=iQ (sO 29 l) h λc k=>dG 3 c k λb=>iQ (hZ 4 1 1 bF b b) k λa d=>dG 3 c d λe=>bO .gtr 3 e nZ (oP (fG [nZ,nZ] [(0,1),(1,1)] []) λf=>iQ (ju 83 2 1 (V.agg [nZ,nZ]) [(0,f)]) d λg m=>fi (fh 83 2 16 nS g m) λi n=>oP (gy 1 a nZ) λj=>fi (gW 1 j bT n) λp o=>wV C Q c a nS i o) (wV C Q c a nS nS d)
theorem LQ{C}(s:C.start=fT){a h Q}(k:C.K mF [a] h=none)(H:Gk C Q a h):cP C mF [a] h Q:=cP.vd t19 s (by unfold P0;exact Tryd.func19) k H
def t51:List (Nat×List Nat):=[(87,[3,13,14,15]),(22935,[3,4,13,14,15,21,22,23]),(498070,[3,4,13,14,15,21,22,23])]
def A9(C:fg)(Q:fm)(d a b c:V)(h:Hp):Prop:=∀ρ:fN,ρ 3=d->ρ 13=a->ρ 14=b->ρ 15=c->WA C Tryd.f51 t51 43 [] Q ρ h
def Bh(C:fg)(Q:fm)(a:Eu)(i j b c d e f g:V)(h:Hp):Prop:=∀ρ:fN,ρ 3=i->ρ 4=j->ρ 13=b->ρ 14=c->ρ 15=d->ρ 21=e->ρ 22=f->ρ 23=g->WA C Tryd.f51 t51 11467 [λρ h=>a (ρ 3) (ρ 13) (ρ 14) (ρ 15) h] Q ρ h
def uP(C:fg)(Q:fm)(a:Eu)(b:GX)(j k c d e f g i:V)(h:Hp):Prop:=∀ρ:fN,ρ 3=j->ρ 4=k->ρ 13=c->ρ 14=d->ρ 15=e->ρ 21=f->ρ 22=g->ρ 23=i->WA C Tryd.f51 t51 249035 [λρ h=>a (ρ 3) (ρ 13) (ρ 14) (ρ 15) h,λρ h=>b (ρ 3) (ρ 4) (ρ 13) (ρ 14) (ρ 15) (ρ 21) (ρ 22) (ρ 23) h] Q ρ h
def Bn(C:fg)(Q:fm)(e:Eu)(j b c a:V)(h:Hp):Prop:=bO .lss 3 a c (oP (gy 6 b a) λf=>oP (fZ 6 f h) λg=>iQ (zC 44 [nS,nZ,nZ,nS,nS,nZ]) h λk m=>fi (gW 6 k g m) λn l=>dF 3 k l λd=>oP (fF d) λi=>Bh C Q e j a b c a d i nZ l) (Q j h)
theorem Il{C Q}(I)(s:P4 I (Bn C Q)){k d a b c h}(i:I k d a b c h):A9 C Q d a b c h:=WA.l4 I _ s i
def A1(C:fg)(Q:fm)(b:Eu)(k:GX)(j l c d e f g a:V)(h:Hp):Prop:=bO .lss 3 a g (dX 1 f a h λi=>oP (fF j) λm=>cP C jH [i,m] h λn o=>bP n (dX 1 j i o λp=>iQ (ju 3 1 1 nZ [(0,l)]) o λq u=>fi (fh 3 1 8 p q u) λr v=>oP (gy 1 j i) λs=>fi (gW 1 s r v) λx w=>uP C Q b k j l c d e f g a w) (uP C Q b k j l c d e f g a o)) (oP (ef .add 3 e nO) λt=>b j c d t h)
theorem HS{C Q a}(I)(s:P8 I (A1 C Q a)){k j l b c d e f g h}(i:I k j l b c d e f g h):Bh C Q a j l b c d e f g h:=WA.l8 I _ s i
def Ae(C:fg)(Q:fm)(j:Eu)(a:GX)(k l b c d e f g:V)(h:Hp):Prop:=oP (ef .add 3 g nO) λi=>a k l b c d e f i h
theorem GI{C:fg}{Q:fm}{a:Eu}{b:GX}{j k c d e f g i:V}{h:Hp}(H:Ae C Q a b j k c d e f g i h):uP C Q a b j k c d e f g i h:=by
 rintro ρ rfl rfl rfl rfl rfl rfl rfl rfl;exact WA.of (by kernel_rfl) H
def Ge(C:fg)(Q:fm)(i:V)(h:Hp):Prop:=iQ (sO 29 i) h λe f=>dG 3 e f λa=>iQ (hZ 22 1 24 nS a a) f λc g=>dF 3 e g λb=>oP (fF b) λd=>A9 C Q c b d nZ g
theorem Mj{C}(s:C.start=fT){a h Q}(k:C.K ue [a] h=none)(H:Ge C Q a h):cP C ue [a] h Q:=cP.vd t51 s (by unfold P0;exact Tryd.func51) k H
def t37:List (Nat×List Nat):=[(175,[3,4,5,6,30,31]),(351,[3,4,5,6,38,39,40]),(5631,[3,4,5,10,11]),(370175,[3,4,5,10,11,59,60,61]),(362391039,[3,4,5,10,11,13,14,59,60,61,68,69,70]),(8147019262,[3,4,5,10,11,13,14,59,60,61,68,69,70]),(7972350,[3,4,5,10,11,59,60,61])]
def vA(C:fg)(Q:fm)(c d e f a b:V)(h:Hp):Prop:=∀ρ:fN,ρ 3=c->ρ 4=d->ρ 5=e->ρ 6=f->ρ 30=a->ρ 31=b->WA C Tryd.f37 t37 87 [] Q ρ h
def vm(C:fg)(Q:fm)(d e f g a b c:V)(h:Hp):Prop:=∀ρ:fN,ρ 3=d->ρ 4=e->ρ 5=f->ρ 6=g->ρ 38=a->ρ 39=b->ρ 40=c->WA C Tryd.f37 t37 175 [] Q ρ h
def vj(C:fg)(Q:fm)(c d e a b:V)(h:Hp):Prop:=∀ρ:fN,ρ 3=c->ρ 4=d->ρ 5=e->ρ 10=a->ρ 11=b->WA C Tryd.f37 t37 2815 [] Q ρ h
def uZ(C:fg)(Q:fm)(a:ly)(g i j b c d e f:V)(h:Hp):Prop:=∀ρ:fN,ρ 3=g->ρ 4=i->ρ 5=j->ρ 10=b->ρ 11=c->ρ 59=d->ρ 60=e->ρ 61=f->WA C Tryd.f37 t37 185087 [λρ h=>a (ρ 3) (ρ 4) (ρ 5) (ρ 10) (ρ 11) h] Q ρ h
def u0(C:fg)(Q:fm)(a:ly)(b:GX)(n o p c d e f g i j k l m:V)(h:Hp):Prop:=∀ρ:fN,ρ 3=n->ρ 4=o->ρ 5=p->ρ 10=c->ρ 11=d->ρ 13=e->ρ 14=f->ρ 59=g->ρ 60=i->ρ 61=j->ρ 68=k->ρ 69=l->ρ 70=m->WA C Tryd.f37 t37 181195519 [λρ h=>a (ρ 3) (ρ 4) (ρ 5) (ρ 10) (ρ 11) h,λρ h=>b (ρ 3) (ρ 4) (ρ 5) (ρ 10) (ρ 11) (ρ 59) (ρ 60) (ρ 61) h] Q ρ h
def lM(C:fg)(Q:fm)(a:ly)(b:GX)(c:DV)(o p q d e f g i j k l m n:V)(h:Hp):Prop:=∀ρ:fN,ρ 3=o->ρ 4=p->ρ 5=q->ρ 10=d->ρ 11=e->ρ 13=f->ρ 14=g->ρ 59=i->ρ 60=j->ρ 61=k->ρ 68=l->ρ 69=m->ρ 70=n->WA C Tryd.f37 t37 4073509631 [λρ h=>a (ρ 3) (ρ 4) (ρ 5) (ρ 10) (ρ 11) h,λρ h=>b (ρ 3) (ρ 4) (ρ 5) (ρ 10) (ρ 11) (ρ 59) (ρ 60) (ρ 61) h,λρ h=>c (ρ 3) (ρ 4) (ρ 5) (ρ 10) (ρ 11) (ρ 13) (ρ 14) (ρ 59) (ρ 60) (ρ 61) (ρ 68) (ρ 69) (ρ 70) h] Q ρ h
def oe(C:fg)(Q:fm)(a:ly)(b:GX)(i j k c d e f g:V)(h:Hp):Prop:=∀ρ:fN,ρ 3=i->ρ 4=j->ρ 5=k->ρ 10=c->ρ 11=d->ρ 59=e->ρ 60=f->ρ 61=g->WA C Tryd.f37 t37 3986175 [λρ h=>a (ρ 3) (ρ 4) (ρ 5) (ρ 10) (ρ 11) h,λρ h=>b (ρ 3) (ρ 4) (ρ 5) (ρ 10) (ρ 11) (ρ 59) (ρ 60) (ρ 61) h] Q ρ h
def vD(C:fg)(Q:fm)(d:tg)(c k e l b a:V)(h:Hp):Prop:=bO .lss 3 a b (oP (en e h) λf=>oP (gy 1 f a) λg=>fi (gW 1 g (V.I (-1)) h) λn m=>oP (ef .add 3 a nO) λi=>d c k e l b i m) (oP (fF c) λj=>vm C Q c k e l c j nZ h)
theorem Cl{C Q}(I)(s:P6 I (vD C Q)){k c d e f a b h}(i:I k c d e f a b h):vA C Q c d e f a b h:=WA.l6 I _ s i
def vF(C:fg)(Q:fm)(e:AH)(f q b g c d a:V)(h:Hp):Prop:=bO .lss 3 a d (dX 1 c a h λi=>oP (en g h) λj=>oP (gy 1 j i) λk=>fi (gW 1 k a h) λu s=>oP (ef .add 3 a nO) λl=>e f q b g c d l s) (oP (fF f) λm=>bO .eql 3 m nZ (oP (en b h) λn=>Q n h) (oP (en b h) λo=>oP (gy 1 o nZ) λp=>fi (gW 1 p nZ h) λr t=>vj C Q f q b (V.func iK [] [g,b]) bT t))
theorem B8{C Q}(I)(s:P7 I (vF C Q)){k d e f g a b c h}(i:I k d e f g a b c h):vm C Q d e f g a b c h:=WA.l7 I _ s i
def vf(C:fg)(Q:fm)(e:ly)(k m f g i:V)(h:Hp):Prop:=bP i (oP (iZ 1 k (some nO) none h) λa=>oP (fF a) λj=>uZ C Q e k m f g bF a j nZ h) (oP (en f h) λb=>oP (gy 1 b nZ) λc=>fi (gW 1 c (V.I (-1)) h) λn l=>oP (en f l) λd=>Q d l)
theorem Ct{C Q}(I)(s:P5 I (vf C Q)){k c d e a b h}(i:I k c d e a b h):vj C Q c d e a b h:=WA.l5 I _ s i
def vK(C:fg)(Q:fm)(b:ly)(j:GX)(m k n c d e f a:V)(h:Hp):Prop:=bO .lss 3 a f (dX 1 e a h λg=>dX 1 k g h λi=>oP (fF i) λl=>u0 C Q b j m k n c d g (V.I (-1)) e f a i l nZ h) (b m k n c d h)
theorem Cq{C Q a}(I)(s:P8 I (vK C Q a)){k g j l b c d e f h}(i:I k g j l b c d e f h):uZ C Q a g j l b c d e f h:=WA.l8 I _ s i
def vN(C:fg)(Q:fm)(b:ly)(c:GX)(o:DV)(q r n a k d e f g i l m j:V)(h:Hp):Prop:=bO .lss 3 j m (dX 1 l j h λp=>oP (en n h) λs=>dX 1 s p h λt=>bO .lss 3 t nZ (lM C Q b c o q r n a k d e f g i l m j h) (bO .lss 3 e nZ (lM C Q b c o q r n a k d p f g i l m j h) (gv C (fQ a [e,p]) h λu z=>lM C Q b c o q r n a k d u f g i l m j z))) (oP (en n h) λv=>dX 1 v d h λw=>bO .neq 3 w e (oP (en n h) λx=>oP (gy 1 x d) λy=>fi (gW 1 y e h) λB A=>oe C Q b c q r n a bT f g i A) (oe C Q b c q r n a k f g i h))
theorem Ci{C Q a b}(I)(s:P13 I (vN C Q a b)){k p q r c d e f g j l m n o h}(i:I k p q r c d e f g j l m n o h):u0 C Q a b p q r c d e f g j l m n o h:=WA.Wy I _ s i
def lI(C:fg)(Q:fm)(n:ly)(o:GX)(a:DV)(p q r b c d e f g i j k l:V)(h:Hp):Prop:=oP (ef .add 3 l nO) λm=>a p q r b c d e f g i j k m h
theorem og{C:fg}{Q:fm}{a:ly}{b:GX}{c:DV}{o p q d e f g i j k l m n:V}{h:Hp}(H:lI C Q a b c o p q d e f g i j k l m n h):lM C Q a b c o p q d e f g i j k l m n h:=by
 rintro ρ rfl rfl rfl rfl rfl rfl rfl rfl rfl rfl rfl rfl rfl;exact WA.of (by kernel_rfl) H
def nK(C:fg)(Q:fm)(i:ly)(a:GX)(j k l b c d e f:V)(h:Hp):Prop:=oP (ef .add 3 f nO) λg=>a j k l b c d e g h
theorem uj{C:fg}{Q:fm}{a:ly}{b:GX}{i j k c d e f g:V}{h:Hp}(H:nK C Q a b i j k c d e f g h):oe C Q a b i j k c d e f g h:=by
 rintro ρ rfl rfl rfl rfl rfl rfl rfl rfl;exact WA.of (by kernel_rfl) H
def yX(C:fg)(Q:fm)(H:V)(h:Hp):Prop:=iQ (sO 29 H) h λe m=>oP (fZ 5 e m) λq=>oP (fZ 5 e m) λf=>cP C mF [q] m λr n=>(m.next<=n.next/\((fZ 5 e n=some f)/\cP C ue [f] n λs o=>(n.next<=o.next/\oP (fI 3 e) λg=>oP (en g o) λi=>oP (fF i) λj=>uN (hZ 3 1 8 nZ j j) o λt u p=>oP (fI 3 e) λb=>oP (en b p) λc=>oP (fF c) λk=>uN (hZ 3 1 8 nZ k k) p λd v D=>uN (zC 22 [nS]) D λw x E=>uN (zC 22 [nS]) E λy F a=>((a.get (E.next)=some y/\O.beq y y=true)/\((a.get (D.next)=some w/\O.beq w w=true)/\((a.get (p.next)=some d/\O.beq d d=true)/\((en b a=some c)/\((a.get (o.next)=some t/\O.beq t t=true)/\((en g a=some i)/\fi (gW 1 x u a) λI l=>(a.next<=l.next/\((l.get (p.next)=some d/\O.beq d d=true)/\((en b l=some c)/\fi (gW 1 F v l) λG z=>(l.next<=z.next/\oP (en x z) λA=>oP (fF A) λB=>vA C Q r s x F B nZ z)))))))))))))
theorem FL{C}(s:C.start=fT){a h Q}(k:C.K oy [a] h=none)(H:yX C Q a h):cP C oy [a] h Q:=cP.vd t37 s (by unfold P0;exact Tryd.func37) k H
def t53:List (Nat×List Nat):=[(19,[0,1,2,3])]
def ta(C:fg)(Q:fm)(a b c d:V)(h:Hp):Prop:=∀ρ:fN,ρ 0=a->ρ 1=b->ρ 2=c->ρ 3=d->WA C Tryd.f53 t53 9 [] Q ρ h
def tl(C:fg)(Q:fm)(a:Eu)(b c d e:V)(h:Hp):Prop:=bO .neq 3 b c (oP (en d h) λf=>dX 1 f b h λg=>oP (en d h) λi=>dX 1 i c h λj=>bO .gtr 3 g j (oP (en e h) λk=>dX 1 k b h λl=>a l c d e h) (oP (en e h) λm=>dX 1 m c h λn=>a b n d e h)) (Q b h)
theorem Ay{C Q}(I)(s:P4 I (tl C Q)){k a b c d h}(i:I k a b c d h):ta C Q a b c d h:=WA.l4 I _ s i
def wU(C:fg)(Q:fm)(a b c d:V)(h:Hp):Prop:=ta C Q a b c d h
theorem CP{C}(s:C.start=fT){a b c d h Q}(k:C.K iK [a,b,c,d] h=none)(H:wU C Q a b c d h):cP C iK [a,b,c,d] h Q:=cP.vd t53 s (by unfold P0;exact Tryd.func53) k H
def t30:List (Nat×List Nat):=[(43,[1,2,7])]
def tS(C:fg)(Q:fm)(a b c:V)(h:Hp):Prop:=∀ρ:fN,ρ 1=a->ρ 2=b->ρ 7=c->WA C Tryd.f30 t30 21 [] Q ρ h
def tX(C:fg)(Q:fm)(a:JP)(e f b:V)(h:Hp):Prop:=bO .lss 3 b e (gv C (fQ f [b]) h λc g=>bN c (Q bF g) (oP (ef .add 3 b nO) λd=>a e f d g)) (Q bT h)
theorem BC{C Q}(I)(s:P3 I (tX C Q)){k a b c h}(i:I k a b c h):tS C Q a b c h:=WA.l3 I _ s i
def xE(C:fg)(Q:fm)(c a b:V)(h:Hp):Prop:=tS C Q a b nZ h
theorem EC{C}(s:C.start=fT){a b c h Q}(k:C.K jc [a,b,c] h=none)(H:xE C Q a b c h):cP C jc [a,b,c] h Q:=cP.vd t30 s (by unfold P0;exact Tryd.func30) k H
def t45:List (Nat×List Nat):=[(43,[0,7,8,9]),(56522,[0,7,8,9,31])]
def se(C:fg)(Q:fm)(a b c d:V)(h:Hp):Prop:=∀ρ:fN,ρ 0=a->ρ 7=b->ρ 8=c->ρ 9=d->WA C Tryd.f45 t45 21 [] Q ρ h
def jr(C:fg)(Q:fm)(a:Eu)(c d e f b:V)(h:Hp):Prop:=∀ρ:fN,ρ 0=c->ρ 7=d->ρ 8=e->ρ 9=f->ρ 31=b->WA C Tryd.f45 t45 28261 [λρ h=>a (ρ 0) (ρ 7) (ρ 8) (ρ 9) h] Q ρ h
def rf(C:fg)(Q:fm)(a:Eu)(c f g d:V)(h:Hp):Prop:=bO .lss 3 d g (dX 1 f d h λi=>oP (iu c) λm=>oP (fI 0 m) λn=>dG 2 n h λo=>cP C jH [i,o] h λp e=>bN p (Q bF e) (oP (iu c) λq=>oP (fI 0 q) λr=>dJ 2 r 6 i 0 e λb=>oP (ef .eql 3 b (V.I 19)) λj=>bP j (jr C Q a c f g d j e) (oP (ef .eql 3 b (V.I 20)) λk=>bP k (jr C Q a c f g d k e) (oP (ef .eql 3 b (V.I 22)) λl=>bP l (jr C Q a c f g d l e) (oP (ef .eql 3 b (V.I 23)) λs=>jr C Q a c f g d s e))))) (Q bT h)
theorem zy{C Q}(I)(s:P4 I (rf C Q)){k a b c d h}(i:I k a b c d h):se C Q a b c d h:=WA.l4 I _ s i
def qP(C:fg)(Q:fm)(a:Eu)(d e f g b:V)(h:Hp):Prop:=bP b (Q bF h) (oP (ef .add 3 g nO) λc=>a d e f c h)
theorem yU{C:fg}{Q:fm}{a:Eu}{c d e f b:V}{h:Hp}(H:qP C Q a c d e f b h):jr C Q a c d e f b h:=by
 rintro ρ rfl rfl rfl rfl rfl;exact WA.of (by kernel_rfl) H
def vC(C:fg)(Q:fm)(b a:V)(h:Hp):Prop:=oP (fF a) λc=>se C Q b a c nZ h
theorem Co{C}(s:C.start=fT){a b h Q}(k:C.K iB [a,b] h=none)(H:vC C Q a b h):cP C iB [a,b] h Q:=cP.vd t45 s (by unfold P0;exact Tryd.func45) k H
def t31:List (Nat×List Nat):=[(175,[0,27,28,29])]
def sm(C:fg)(Q:fm)(d a b c:V)(h:Hp):Prop:=∀ρ:fN,ρ 0=d->ρ 27=a->ρ 28=b->ρ 29=c->WA C Tryd.f31 t31 87 [] Q ρ h
def rD(C:fg)(Q:fm)(i:Eu)(j d e c:V)(h:Hp):Prop:=bO .lss 3 c e (oP (gy 4 d c) λk=>oP (fZ 4 k h) λl=>iQ (zC 50 [nZ,nZ,nS,nS]) h λf O=>fi (gW 4 f l O) λP g=>dG 2 f g λm=>oP (ef .gtr 3 m (V.I 40)) λn=>oP (mh n (oB (fI 3 f) λo=>oB (en o g) λp=>oB (fF p) λq=>ef .gtr 3 q (V.I 60))) λa=>oP (gg false a) λr=>oP (gV r (some j)) λs=>oP (gg false a) λt=>oP (gV t (fI 2 f)) λu=>oP (gg false a) λv=>oP (gV v (en u g)) λw=>oP (gg false a) λx=>oP (gC x (some (iB,[s,w]))) λy=>xa C y g λz M=>oP (mh a (tk .not z)) λb=>oP (gg false b) λA=>oP (gV A (some j)) λB=>oP (gg false b) λD=>oP (gV D (fI 3 f)) λE=>oP (gg false b) λF=>oP (gV F (en E M)) λG=>oP (gg false b) λH=>oP (gC H (some (iB,[B,G]))) λI=>xa C I M λJ N=>oP (mh b (tk .not J)) λK=>bP K (Q bF N) (oP (ef .add 3 c nO) λL=>i j d e L N)) (Q bT h)
theorem zH{C Q}(I)(s:P4 I (rD C Q)){k d a b c h}(i:I k d a b c h):sm C Q d a b c h:=WA.l4 I _ s i
def vG(C:fg)(Q:fm)(p q:V)(h:Hp):Prop:=oP (iu p) λr=>oP (fI 0 r) λd=>dF 4 d h λe=>oP (gy 1 e q) λf=>oP (fZ 1 f h) λg=>iQ (zC 53 [nS]) h λc s=>fi (gW 1 c g s) λt a=>dG 0 c a λi=>oP (ef .eql 3 i nZ) λj=>oP (mh j (oB (fI 0 c) λk=>oB (en k a) λl=>oB (fF l) λm=>ef .gtr 3 m (V.I 30))) λn=>bP n (Q bF a) (dF 0 c a λb=>oP (fF b) λo=>sm C Q p b o nZ a)
theorem Cc{C}(s:C.start=fT){a b h Q}(k:C.K kL [a,b] h=none)(H:vG C Q a b h):cP C kL [a,b] h Q:=cP.vd t31 s (by unfold P0;exact Tryd.func31) k H
def t32:List (Nat×List Nat):=[(87,[0,36,37]),(351,[0,4,51,52,53]),(190047,[0,4,5,7,51,52,53,59,60,61])]
def rq(C:fg)(Q:fm)(c a b:V)(h:Hp):Prop:=∀ρ:fN,ρ 0=c->ρ 36=a->ρ 37=b->WA C Tryd.f32 t32 43 [] Q ρ h
def sL(C:fg)(Q:fm)(d e a b c:V)(h:Hp):Prop:=∀ρ:fN,ρ 0=d->ρ 4=e->ρ 51=a->ρ 52=b->ρ 53=c->WA C Tryd.f32 t32 175 [] Q ρ h
def rZ(C:fg)(Q:fm)(a:ly)(i j k l b c d e f g:V)(h:Hp):Prop:=∀ρ:fN,ρ 0=i->ρ 4=j->ρ 5=k->ρ 7=l->ρ 51=b->ρ 52=c->ρ 53=d->ρ 59=e->ρ 60=f->ρ 61=g->WA C Tryd.f32 t32 95023 [λρ h=>a (ρ 0) (ρ 4) (ρ 51) (ρ 52) (ρ 53) h] Q ρ h
def rM(C:fg)(Q:fm)(e:JP)(d b a:V)(h:Hp):Prop:=bO .lss 3 a b (dN 5 d h λf=>oP (gy 1 f a) λg=>fi (gW 1 g (V.I (-1)) h) λn m=>oP (ef .add 3 a nO) λi=>e d b i m) (oP (iu d) λj=>oP (fI 0 j) λk=>dF 3 k h λc=>oP (fF c) λl=>sL C Q d nZ c l nZ h)
theorem zT{C Q}(I)(s:P3 I (rM C Q)){k c a b h}(i:I k c a b h):rq C Q c a b h:=WA.l3 I _ s i
def rj(C:fg)(Q:fm)(j:ly)(n o b c a:V)(h:Hp):Prop:=bO .lss 3 a c (oP (gy 6 b a) λk=>oP (fZ 6 k h) λl=>iQ (zC 44 [nS,nZ,nZ,nS,nS,nZ]) h λp r=>fi (gW 6 p l r) λs q=>dF 0 p q λd=>oP (fF d) λm=>rZ C Q j n o a bT b c a d m nZ q) (oP (iu n) λe=>oP (fI 0 e) λf=>dG 2 f h λg=>oP (ef .eql 3 o g) λi=>Q i h)
theorem zu{C Q}(I)(s:P5 I (rj C Q)){k d e a b c h}(i:I k d e a b c h):sL C Q d e a b c h:=WA.l5 I _ s i
def rF(C:fg)(Q:fm)(D:ly)(E:vW)(d x4 F x7 g i j k l b:V)(h:Hp):Prop:=bO .lss 3 b l (dX 1 k b h λa=>oP (iu d) λG=>oP (fI 0 G) λH=>dG 2 H h λI=>cP C jH [a,I] h λJ c=>oP (tk .not J) λK=>oP (mh K (oB (some d) λL=>oB (iu L) λM=>oB (fI 5 M) λN=>oB (en N c) λO=>oB (some a) λP=>oB (gy 1 O P) λR=>oB (en R c) λS=>ef .geq 3 S nZ)) λT=>bP T (Q bF c) (oP (iu d) λU=>oP (fI 0 U) λW=>dJ 2 W 6 a 0 c λe=>oP (ef .eql 3 e (V.I 21)) λX=>oP (mh X (oB (some e) λY=>ef .eql 3 Y nO)) λf=>oP (jq f (oB (some x7) λm=>tk .not m)) λn=>oP (mh n (oB (some e) λo=>oB (ef .eql 3 o nO) λp=>oB (some F) λq=>oB (ef .eql 3 q nZ) λr=>oB (ef .neq 4 p r) λs=>oB (some s) λt=>jq t (some f))) λu=>bP u (Q bF c) (dN 5 d c λv=>dN 6 d c λw=>oP (gy 1 v a) λx=>fi (gW 1 x F c) λvu Z=>(c.next<=Z.next/\oP (gy 1 w a) λy=>fi (gW 1 y b Z) λaa h3=>(Z.next<=h3.next/\oP (ef .add 3 x4 nO) λz=>oP (ef .add 3 b nO) λA=>E d z F f g i j k l A h3))))) (oP (ef .add 3 j nO) λB=>D d x4 g i B h)
theorem zW{C Q a}(I)(s:Wv I (rF C Q a)){k j l m n b c d e f g h}(i:I k j l m n b c d e f g h):rZ C Q a j l m n b c d e f g h:=WA.MK I _ s i
def vh(C:fg)(Q:fm)(b:V)(h:Hp):Prop:=oP (iu b) λm=>oP (fI 0 m) λn=>oP (fI 2 n) λd=>oP (en d h) λe=>oP (fF e) λf=>uN (hZ 3 1 8 nZ f f) h λo p k=>oP (iu b) λq=>oP (fI 0 q) λr=>oP (fI 2 r) λg=>oP (en g k) λi=>oP (fF i) λj=>uN (hZ 3 1 8 nZ j j) k λa s c=>oP (iu b) λt=>oP (fI 5 t) λu=>((c.get (k.next)=some a/\O.beq a a=true)/\((en g c=some i)/\((c.get (h.next)=some o/\O.beq o o=true)/\((en d c=some e)/\fi (gW 1 u p c) λB l=>(c.next<=l.next/\oP (iu b) λv=>oP (fI 6 v) λw=>((l.get (k.next)=some a/\O.beq a a=true)/\fi (gW 1 w s l) λA x=>(l.next<=x.next/\oP (iu b) λy=>dG 5 y x λz=>rq C Q b z nZ x)))))))
theorem Cy{C}(s:C.start=fT){a h Q}(k:C.K mf [a] h=none)(H:vh C Q a h):cP C mf [a] h Q:=cP.vd t32 s (by unfold P0;exact Tryd.func32) k H
section
variable (C:fg)(Q:X->fN->Hp->Prop)(ρ:fN)(h:Hp)
def MJ:=Fe Tryd.f33
noncomputable def UG:=MJ.r
noncomputable def UQ:=MJ.r.r
noncomputable def UW:=MJ.r.r.l.r
noncomputable def UM:=MJ.r.r.r
noncomputable def Xs:=andThen (Wp C 94 UM Q) Q
noncomputable def UJ:=MJ.r.r.l.r.l.r
noncomputable def Ue:=MJ.r.r.r.l.r
noncomputable def UF:=MJ.r.r.r.r
noncomputable def q50:=andThen (Wp C 94 UF Q) Q
noncomputable def UY:=MJ.r.r.r.l.r.l.r
noncomputable def X4(C:fg)(Q:XQ):XQ:=pE 0 Q
noncomputable def UI:=MJ.r.r.r.r.r
noncomputable def UK:=MJ.r.r.r.l.r.l.r.l.r
noncomputable def Sa:=MJ.r.r.r.l.r.l.r.r.r
noncomputable def Qq:=MJ.r.r.r.l.r.l.r.r.r.l.r
noncomputable def QS:=MJ.r.r.r.l.r.l.r.r.r.r.r
noncomputable def RA:=MJ.r.r.r.l.r.l.r.r.r.r.r.l.r
theorem e33:iE C 94 MJ Q ρ h=(oP (some (V.bool false)) λa=>
 Wp C 94 UG Q (eC ρ 4 a) h):=by kernel_rfl
theorem XG:iE C 94 UG Q ρ h=(oP (some (ρ 0)) λe=>
 oP (iu e) λf=>
 oP (fI 0 f) λg=>
 oP (fI 2 g) λi=>
 oP (en i h) λa=>
 oP (some (ρ 1)) λb=>
 oP (gy 6 a b) λc=>
 oP (fZ 6 c h) λd=>
 iQ (some (.cells 46 1 true false [(V.I 0),(V.I 0),(V.I 0),(V.I 0),V.ed,(V.I 0)],λl=> .ptr l 0)) h λj k=>
 fi (gW 6 j d k) λn m=>
 Wp C 94 UQ Q (eC (eC (eC (eC (eC (eC (eC (eC (eC ρ 6 e) 7 f) 8 g) 9 i) 10 a) 11 b) 12 c) 13 d) 5 j) m):=by kernel_rfl
theorem XV:iE C 94 UQ Q ρ h=(oP (fI 0 (ρ 5)) λd=>
 oP (en d h) λs=>
 ((en d h=some s)/\
 ((fI 0 (ρ 5)=some d)/\
 Qa C z9 [s] h λt D=>
 (h.next<=D.next/\
 oP (ef .eql 9 t (V.str [])) λe=>
 oP (some e) λb=>
 oP (gg false b) λW=>
 oP (gV W (some (ρ 0))) λf=>
 oP (gg false b) λb6=>
 oP (gV b6 (fZ 6 (ρ 5) D)) λu=>
 ((gT b6 (fZ 6 (ρ 5) D=some u))/\
 ((gT W (some (ρ 0)=some f))/\
 ((some e=some b)/\
 ((ef .eql 9 t (V.str [])=some e)/\
 oP (gg false b) λb7=>
 oP (gC b7 (some (qB,[u]))) λx7=>xa C x7 D λE X=>
 (D.next<=X.next/\
 ((gT W (some (ρ 0)=some f))/\
 oP (gg false b) λb8=>
 oP (gC b8 (some (iB,[f,E]))) λx8=>xa C x8 X λv F=>
 (X.next<=F.next/\
 oP (gg false b) λb9=>
 oP (gV b9 (tk .not v)) λg=>
 oP (ma b (V.bool true) g) λi=>
 oP (some i) λc=>
 oP (gg false c) λG=>
 oP (gV G (fI 0 (ρ 5))) λj=>
 oP (gg false c) λH=>
 oP (gV H (en j F)) λw=>
 ((gT H (en j F=some w))/\
 ((gT G (fI 0 (ρ 5)=some j))/\
 ((some i=some c)/\
 ((ma b (V.bool true) g=some i)/\
 ((gT b9 (tk .not v=some g))/\
 oP (gg false c) λY=>
 oP (gC Y (some (oD,[w]))) λZ=>xa C Z F λx y=>
 (F.next<=y.next/\
 oP (gg false c) λI=>
 oP (gV I (some x)) λa=>
 oP (gg true a) λJ=>
 oP (gV J (fI 5 (ρ 5))) λk=>
 oP (gg true a) λK=>
 oP (gV K (en k y)) λz=>
 oP (gg true a) λL=>
 oP (gV L (some (ρ 0))) λl=>
 oP (gg true a) λM=>
 oP (gV M (iu l)) λm=>
 oP (gg true a) λN=>
 oP (gV N (fI 0 m)) λn=>
 oP (gg true a) λO=>
 oP (gV O (fI 4 n)) λo=>
 oP (gg true a) λP=>
 oP (gV P (en o y)) λp=>
 oP (gg true a) λR=>
 oP (gV R (fF p)) λA=>
 ((gT R (fF p=some A))/\
 ((gT P (en o y=some p))/\
 ((gT O (fI 4 n=some o))/\
 ((gT N (fI 0 m=some n))/\
 ((gT M (iu l=some m))/\
 ((gT L (some (ρ 0)=some l))/\
 ((gT K (en k y=some z))/\
 ((gT J (fI 5 (ρ 5)=some k))/\
 ((gT I (some x=some a))/\
 oP (gg true a) λaa=>
 oP (gC aa (some (jH,[z,A]))) λab=>xa C ab y λB h5=>
 (y.next<=h5.next/\
 oP (gg true a) λS=>
 oP (gV S (tk .not B)) λq=>
 oP (gg false c) λT=>
 oP (gV T (ma a q (V.bool false))) λr=>
 oP (ma c (V.bool true) r) λU=>
 ((ma c (V.bool true) r=some U)/\
 ((gT T (ma a q (V.bool false)=some r))/\
 ((gT S (tk .not B=some q))/\
 Wp C 94 UW (Xs C Q) (eC (eC (eC (eC (eC (eC (eC (eC (eC (eC (eC (eC (eC (eC (eC (eC (eC (eC (eC (eC (eC (eC (eC (eC (eC (eC (eC (eC ρ 14 d) 15 s) 16 t) 17 e) 18 b) 19 f) 20 u) 21 E) 22 v) 23 g) 24 i) 25 c) 26 j) 27 w) 28 x) 29 a) 30 k) 31 z) 32 l) 33 m) 34 n) 35 o) 36 p) 37 A) 38 B) 39 q) 40 r) 41 U) h5)))))))))))))))))))))))))))))):=by kernel_rfl
theorem Xy:iE C 94 UM Q ρ h=(oP (fI 0 (ρ 5)) λa=>
 oP (en a h) λb=>
 Wp C 94 Ue (q50 C Q) (eC (eC ρ 42 a) 43 b) h):=by kernel_rfl
theorem XL:iE C 94 UW Q ρ h=(oP (some (ρ 41)) λc=>
 bP c (
 oP (some (V.bool false)) λa=>
 Wp C 94 UJ Q (eC ρ 4 a) h) (
 Q .normal ρ h)):=by kernel_rfl
theorem Xa:iE C 94 UF Q ρ h=(oP (some (V.bool true)) λa=>
 Wp C 94 UI Q (eC ρ 4 a) h):=by kernel_rfl
theorem Ym:iE C 94 Ue Q ρ h=(oP (ef .eql 3 (ρ 43) (V.I 20)) λa=>
 oP (some a) λb=>
 Wp C 94 UY (X4 C Q) (eC (eC ρ 45 a) 44 b) h):=by kernel_rfl
theorem X2:iE C 94 UI Q ρ h=(Q .ret ρ h):=by kernel_rfl
theorem Xo:iE C 94 UJ Q ρ h=(Q .ret ρ h):=by kernel_rfl
theorem WZ:iE C 94 UY Q ρ h=(oP (some (ρ 44)) λc=>
 bP c (
 oP (fI 4 (ρ 5)) λa=>
 oP (en a h) λb=>
 oP (fF b) λd=>
 oP (ef .eql 3 d (V.I 1)) λe=>
 oP (some e) λi=>
 Wp C 94 UK Q (eC (eC (eC (eC (eC ρ 46 a) 47 b) 48 d) 49 e) 4 i) h) (
 oP (ef .eql 3 (ρ 43) (V.I 21)) λf=>
 oP (some f) λg=>
 Wp C 94 Sa Q (eC (eC ρ 51 f) 50 g) h)):=by kernel_rfl
theorem XB:iE C 94 UK Q ρ h=(Q .ret ρ h):=by kernel_rfl
theorem VB:iE C 94 Sa Q ρ h=(oP (some (ρ 50)) λc=>
 bP c (
 oP (fI 4 (ρ 5)) λa=>
 oP (en a h) λb=>
 oP (fF b) λd=>
 oP (some (ρ 0)) λe=>
 oP (iu e) λf=>
 oP (fI 0 f) λg=>
 oP (fI 3 g) λi=>
 oP (en i h) λj=>
 oP (some (ρ 0)) λk=>
 oP (iu k) λl=>
 oP (fI 5 l) λm=>
 oP (en m h) λn=>
 oP (some (ρ 1)) λo=>
 oP (gy 1 n o) λp=>
 oP (en p h) λq=>
 oP (gy 6 j q) λr=>
 oP (fI 4 r) λs=>
 oP (en s h) λt=>
 oP (fF t) λu=>
 oP (ef .eql 3 d u) λv=>
 oP (some v) λy=>
 ((some v=some y)/\
 ((ef .eql 3 d u=some v)/\
 ((fF t=some u)/\
 ((en s h=some t)/\
 ((fI 4 r=some s)/\
 ((gy 6 j q=some r)/\
 ((en p h=some q)/\
 ((gy 1 n o=some p)/\
 ((some (ρ 1)=some o)/\
 ((en m h=some n)/\
 ((fI 5 l=some m)/\
 ((iu k=some l)/\
 ((some (ρ 0)=some k)/\
 ((en i h=some j)/\
 ((fI 3 g=some i)/\
 ((fI 0 f=some g)/\
 ((iu e=some f)/\
 ((some (ρ 0)=some e)/\
 ((fF b=some d)/\
 ((en a h=some b)/\
 ((fI 4 (ρ 5)=some a)/\
 Wp C 94 Qq Q (eC (eC (eC (eC (eC (eC (eC (eC (eC (eC (eC (eC (eC (eC (eC (eC (eC (eC (eC (eC (eC ρ 52 a) 53 b) 54 d) 55 e) 56 f) 57 g) 58 i) 59 j) 60 k) 61 l) 62 m) 63 n) 64 o) 65 p) 66 q) 67 r) 68 s) 69 t) 70 u) 71 v) 4 y) h)))))))))))))))))))))) (
 oP (ef .eql 3 (ρ 43) (V.I 1)) λw=>
 oP (some w) λx=>
 Wp C 94 QS Q (eC (eC ρ 73 w) 72 x) h)):=by kernel_rfl
theorem VH:iE C 94 Qq Q ρ h=(Q .ret ρ h):=by kernel_rfl
theorem VD:iE C 94 QS Q ρ h=(oP (some (ρ 72)) λc=>
 bP c (
 oP (fI 3 (ρ 5)) λd=>
 oP (en d h) λe=>
 oP (ef .geq 2 e (V.I 0)) λf=>
 oP (some f) λb=>
 oP (gg true b) λH=>
 oP (gV H (fI 3 (ρ 5))) λg=>
 oP (gg true b) λI=>
 oP (gV I (en g h)) λi=>
 oP (gg true b) λJ=>
 oP (gV J (ef .lss 2 i (V.I 40))) λj=>
 oP (ma b j (V.bool false)) λk=>
 oP (some k) λa=>
 oP (gg true a) λK=>
 oP (gV K (some (ρ 0))) λl=>
 oP (gg true a) λw=>
 oP (gV w (iu l)) λm=>
 oP (gg true a) λx=>
 oP (gV x (fI 0 m)) λn=>
 oP (gg true a) λy=>
 oP (gV y (fI 2 n)) λo=>
 oP (gg true a) λz=>
 oP (gV z (en o h)) λp=>
 oP (gg true a) λA=>
 oP (gV A (some (ρ 1))) λq=>
 oP (gg true a) λB=>
 oP (gV B (iZ 6 p none (some q) h)) λr=>
 oP (gg true a) λD=>
 oP (gV D (some (V.func iY [] [(ρ 5)]))) λs=>
 oP (gg true a) λE=>
 oP (gC E (some (gz,[r,s]))) λF=>xa C F h λt L=>
 oP (gg true a) λG=>
 oP (gV G (tk .not t)) λu=>
 oP (ma a u (V.bool false)) λv=>
 oP (some v) λM=>
 Wp C 94 RA Q (eC (eC (eC (eC (eC (eC (eC (eC (eC (eC (eC (eC (eC (eC (eC (eC (eC (eC (eC (eC (eC ρ 74 d) 75 e) 76 f) 77 b) 78 g) 79 i) 80 j) 81 k) 82 a) 83 l) 84 m) 85 n) 86 o) 87 p) 88 q) 89 r) 90 s) 91 t) 92 u) 93 v) 4 M) L) (
 Q .normal ρ h)):=by kernel_rfl
theorem Ve:iE C 94 RA Q ρ h=(Q .ret ρ h):=by kernel_rfl
theorem g33{C:fg}(c:C.start=fT)(a b:V){h:Hp}{Q:fm}(d:C.K jD [a,b] h=none)(H:iE C 94 MJ (yM [.tmp 4] Q) (GA [a,b]) h):cP C jD [a,b] h Q:=
 cP.RN c (show P0.funcs[33]? =some Tryd.f33 by unfold P0;exact Tryd.func33) (by kernel_rfl) (by kernel_rfl) (by kernel_rfl) d (FY rfl) (Wp.code _ H)
noncomputable def qY(C:fg) (Q:fm) (p u:V) (h:Hp):Prop:=oP (iu p) λv7=>oP (fI 0 v7) λv8=>oP (fI 2 v8) λv9=>oP (en v9 h) λv=>oP (gy 6 v u) λw=>oP (fZ 6 w h) λx=>iQ (some (.cells 46 1 true false [(V.I 0),(V.I 0),(V.I 0),(V.I 0),V.ed,(V.I 0)],λl=> .ptr l 0)) h λd h1=>fi (gW 6 d x h1) λvu y=>oP (fI 0 d) λz=>oP (en z y) λA=>cP C z9 [A] y λB s=>(y.next<=s.next/\oP (ef .eql 9 B (V.str [])) λe=>oP (gg false e) λb5=>oP (gV b5 (some p)) λD=>oP (gg false e) λb6=>oP (gV b6 (fZ 6 d s)) λE=>oP (gg false e) λb7=>oP (gC b7 (some (qB,[E]))) λy7=>xa C y7 s λF G=>(s.next<=G.next/\oP (gg false e) λb8=>oP (gC b8 (some (iB,[D,F]))) λy8=>xa C y8 G λH t=>(G.next<=t.next/\oP (mh e (tk .not H)) λf=>oP (gg false f) λI=>oP (gV I (fI 0 d)) λJ=>oP (gg false f) λK=>oP (gV K (en J t)) λL=>oP (gg false f) λM=>oP (gC M (some (oD,[L]))) λN=>xa C N t λO q=>(t.next<=q.next/\oP (gg false f) λP=>oP (gV P (some O)) λa=>oP (gg true a) λR=>oP (gV R (fI 5 d)) λS=>oP (gg true a) λT=>oP (gV T (en S q)) λU=>oP (gg true a) λW=>oP (gV W (some p)) λX=>oP (gg true a) λY=>oP (gV Y (iu X)) λZ=>oP (gg true a) λaa=>oP (gV aa (fI 0 Z)) λab=>oP (gg true a) λac=>oP (gV ac (fI 4 ab)) λae=>oP (gg true a) λag=>oP (gV ag (en ae q)) λah=>oP (gg true a) λai=>oP (gV ai (fF ah)) λaj=>oP (gg true a) λak=>oP (gC ak (some (jH,[U,aj]))) λal=>xa C al q λam c=>(q.next<=c.next/\oP (gg true a) λan=>oP (gV an (tk .not am)) λao=>oP (mh f (ma a ao (V.bool false))) λaq=>bP aq (Q (V.bool false) c) (oP (fI 0 d) λar=>oP (en ar c) λg=>oP (ef .eql 3 g (V.I 20)) λau=>bP au (oP (fI 4 d) λaw=>oP (en aw c) λax=>oP (fF ax) λay=>oP (ef .eql 3 ay (V.I 1)) λaz=>Q az c) (oP (ef .eql 3 g (V.I 21)) λaA=>bP aA (oP (fI 4 d) λaB=>oP (en aB c) λaC=>oP (fF aC) λaD=>oP (iu p) λaE=>oP (fI 0 aE) λaF=>oP (fI 3 aF) λaG=>oP (en aG c) λaH=>oP (iu p) λaI=>oP (fI 5 aI) λaJ=>oP (en aJ c) λaK=>oP (gy 1 aK u) λaL=>oP (en aL c) λaM=>oP (gy 6 aH aM) λaN=>oP (fI 4 aN) λaO=>oP (en aO c) λaP=>oP (fF aP) λaQ=>oP (ef .eql 3 aD aQ) λaR=>Q aR c) (oP (ef .eql 3 g (V.I 1)) λaS=>bP aS (oP (fI 3 d) λaT=>oP (en aT c) λaU=>oP (ef .geq 2 aU (V.I 0)) λaV=>oP (jq aV (oB (fI 3 d) λaW=>oB (en aW c) λaX=>ef .lss 2 aX (V.I 40))) λb=>oP (gg true b) λr=>oP (gV r (some p)) λaY=>oP (gg true b) λaZ=>oP (gV aZ (iu aY)) λa2=>oP (gg true b) λa3=>oP (gV a3 (fI 0 a2)) λa4=>oP (gg true b) λi=>oP (gV i (fI 2 a4)) λa5=>oP (gg true b) λj=>oP (gV j (en a5 c)) λa6=>oP (gg true b) λk=>oP (gV k (some u)) λa7=>oP (gg true b) λm=>oP (gV m (iZ 6 a6 none (some a7) c)) λa8=>oP (gg true b) λn=>oP (gV n (some (V.func iY [] [d]))) λa9=>oP (gg true b) λo=>oP (gC o (some (gz,[a8,a9]))) λba=>xa C ba c λbb h8=>oP (jq b (tk .not bb)) λbc=>Q bc h8) (Q (V.bool true) c)))))))))
theorem DS{C:fg}(hs:C.start=fT){R S:V}{h:Hp}{Q:fm}(hk:C.K jD [R,S] h=none)(H:qY C Q R S h):cP C jD [R,S] h Q:=by
 unfold qY at H;exact g33 hs _ _ hk ((e33 _ _ _ _).mpr (pD (Wp.of (XG _ _ _ _) (pD (oM H λv7 _ H=>oM H λv8 _ H=>oM H λv9 _ H=>oM H λaw _ H=>pD (oM H λax _ H=>oM H λay _ H=>WI H λv5 h1 H=>HO H λvu h2 H=>Wp.of (XV _ _ _ _) (oM H λaz b H=>oM H λaA c H=>⟨c,⟨b,SB H λaB h3 H=>AB H λH=>oM H λaC d H=>pD (oM H λb5 _ H=>oM H λaD a H=>oM H λb6 _ H=>oM H λaE e H=>⟨(jJ e),⟨(jJ a),⟨rfl,⟨d,oM H λb7 _ H=>oM H λy7 _ H=>Tv H λaF h4 H=>AB H λH=>⟨(jJ a),oM H λb8 _ H=>oM H λy8 _ H=>Tv H λaG h5 H=>AB H λH=>St (BL H) λH=>oM H λb9 ab H=>oM H λaH f H=>oM H λaI g H=>pD (oM H λaJ _ H=>oM H λaK i H=>oM H λaL _ H=>oM H λaM j H=>⟨(jJ j),⟨(jJ i),⟨rfl,⟨g,⟨(jJ f),oM H λaN _ H=>oM H λaO _ H=>Tv H λaP h6 H=>AB H λH=>oM H λaQ _ H=>oM H λaR k H=>oM H λaS _ H=>oM H λaT l H=>oM H λaU _ H=>oM H λaV m H=>oM H λaW _ H=>oM H λaX n H=>oM H λaY _ H=>oM H λaZ o H=>oM H λa2 _ H=>oM H λa3 p H=>oM H λa4 _ H=>oM H λa5 q H=>oM H λa6 _ H=>oM H λa7 r H=>oM H λa8 _ H=>oM H λa9 s H=>⟨(jJ s),⟨(jJ r),⟨(jJ q),⟨(jJ p),⟨(jJ o),⟨(jJ n),⟨(jJ m),⟨(jJ l),⟨(jJ k),oM H λba _ H=>oM H λbb _ H=>Tv H λbc h7 H=>AB H λH=>oM H λbd _ H=>oM H λbe t H=>St (BL H) λH=>oM H λbf ac H=>oM H λbg u H=>oM H λbi v H=>⟨v,⟨(jJ u),⟨(jJ t),Wp.of (XL _ _ _ _) (pD (bM H (λH=>pD (Wp.of (Xo _ _ _ _) (H))) (λH=>Wp.of (Xy _ _ _ _) (oM H λbj _ H=>oM H λbm _ H=>Wp.of (Ym _ _ _ _) (oM H λbn _ H=>pD (Wp.of (WZ _ _ _ _) (pD (bM H (λH=>oM H λbo _ H=>oM H λbp _ H=>oM H λbq _ H=>oM H λbr _ H=>pD (Wp.of (XB _ _ _ _) (H))) (λH=>oM H λbt _ H=>pD (Wp.of (VB _ _ _ _) (pD (bM H (λH=>oM H λbu w H=>oM H λbv x H=>oM H λbw y H=>pD (oM H λbz z H=>oM H λbA A H=>oM H λbC B H=>oM H λbD D H=>pD (oM H λbE E H=>oM H λbG F H=>oM H λbH G H=>pD (oM H λbI I H=>oM H λbJ J H=>oM H λbK L H=>oM H λbL M H=>oM H λbQ N H=>oM H λbR O H=>oM H λbS P H=>pD (⟨rfl,⟨P,⟨O,⟨N,⟨M,⟨L,⟨J,⟨I,⟨rfl,⟨G,⟨F,⟨E,⟨rfl,⟨D,⟨B,⟨A,⟨z,⟨rfl,⟨y,⟨x,⟨w,Wp.of (VH _ _ _ _) (H)⟩⟩⟩⟩⟩⟩⟩⟩⟩⟩⟩⟩⟩⟩⟩⟩⟩⟩⟩⟩⟩))))) (λH=>oM H λbU _ H=>pD (Wp.of (VD _ _ _ _) (pD (bM H (λH=>oM H λbV _ H=>oM H λbW _ H=>oM H λbX _ H=>pD (St (D1 H) λH=>Xr H λb4 ae bY ag H=>Xr H λah ai bZ aj H=>oM H λak al H=>oM H λb1 am H=>oM H λb2 an H=>pD (oM H λao _ H=>oM H λb3 _ H=>oM H λca _ H=>oM H λcb _ H=>oM H λcd _ H=>oM H λce _ H=>oM H λT _ H=>oM H λcf _ H=>oM H λU _ H=>oM H λcg _ H=>oM H λW _ H=>oM H λci _ H=>oM H λX _ H=>oM H λcj _ H=>oM H λY _ H=>oM H λcl _ H=>oM H λZ _ H=>oM H λcm _ H=>Tv H λcn h8 H=>St (D1 H) λH=>oM H λaa aq H=>oM H λco ar H=>oM H λcp au H=>pD (Wp.of (Ve _ _ _ _) (H))))) (λH=>Wp.of (Xa _ _ _ _) (pD (Wp.of (X2 _ _ _ _) (H))))))))))))))))))))⟩⟩⟩⟩⟩⟩⟩⟩⟩⟩⟩⟩⟩⟩⟩⟩⟩)⟩⟩⟩⟩⟩)⟩⟩)))))))
end
def t34:List (Nat×List Nat):=[(87,[0,5,17,18,19])]
def tj(C:fg)(Q:fm)(d e a b c:V)(h:Hp):Prop:=∀ρ:fN,ρ 0=d->ρ 5=e->ρ 17=a->ρ 18=b->ρ 19=c->WA C Tryd.f34 t34 43 [] Q ρ h
def th(C:fg)(Q:fm)(o:ly)(n c f g d:V)(h:Hp):Prop:=bO .lss 3 d g (dX 1 f d h λp=>oP (iu n) λq=>oP (fI 0 q) λs=>dG 3 s h λt=>cP C jH [p,t] h λu Y=>bN u (Q bF Y) (oP (ef .add 3 d nO) λv=>o n c f g v Y)) (dF 1 c h λe=>bO .eql 3 e nO (dG 3 c h λw=>oP (ef .eql 3 w nO) λx=>Q x h) (bO .eql 3 e (V.I 2) (dG 3 c h λy=>oP (ef .eql 3 y (V.I 2)) λb=>oP (gg true b) λb5=>oP (gV b5 (some n)) λz=>oP (gg true b) λb6=>oP (gV b6 (fI 2 c)) λA=>oP (gg true b) λb7=>oP (gV b7 (en A h)) λB=>oP (gg true b) λb8=>ZW b8 h (oB (ju 3 1 1 nZ [(0,B)]) λr=>some (r.2 h.next,h.new r.1)) λD h2=>oP (gg true b) λb9=>oP (gC b9 (some (iB,[z,D]))) λy9=>xa C y9 h2 λE h3=>oP (ma b E bF) λF=>Q F h3) (bO .eql 3 e (V.I 3) (dG 3 c h λG=>oP (ef .eql 3 G nZ) λa=>oP (gg true a) λi=>oP (gV i (fI 5 c)) λH=>oP (gg true a) λj=>oP (gV j (en H h)) λI=>oP (gg true a) λk=>oP (gV k (some n)) λJ=>oP (gg true a) λl=>oP (gV l (iu J)) λK=>oP (gg true a) λm=>oP (gV m (fI 0 K)) λL=>oP (gg true a) λM=>oP (gV M (fI 4 L)) λN=>oP (gg true a) λO=>oP (gV O (en N h)) λP=>oP (gg true a) λR=>oP (gV R (fF P)) λS=>oP (gg true a) λT=>oP (gC T (some (jH,[I,S]))) λU=>xa C U h λW Z=>(h.next<=Z.next/\oP (ma a W bF) λX=>Q X Z)) (Q bF h))))
theorem AG{C Q}(I)(s:P5 I (th C Q)){k d e a b c h}(i:I k d e a b c h):tj C Q d e a b c h:=WA.l5 I _ s i
def wI(C:fg)(Q:fm)(i k:V)(h:Hp):Prop:=oP (iu i) λl=>oP (fI 0 l) λb=>dF 3 b h λc=>oP (gy 6 c k) λd=>oP (fZ 6 d h) λe=>iQ (zC 44 [nS,nZ,nZ,nS,nS,nZ]) h λf m=>fi (gW 6 f e m) λn j=>dF 3 f j λa=>oP (fF a) λg=>tj C Q i f a g nZ j
theorem C8{C}(s:C.start=fT){a b h Q}(k:C.K lg [a,b] h=none)(H:wI C Q a b h):cP C lg [a,b] h Q:=cP.vd t34 s (by unfold P0;exact Tryd.func34) k H
def t35:List (Nat×List Nat):=[(171,[0,1,16,17,18]),(14,[0,1]),(175,[0,7,54,55,56])]
def uc(C:fg)(Q:fm)(d e a b c:V)(h:Hp):Prop:=∀ρ:fN,ρ 0=d->ρ 1=e->ρ 16=a->ρ 17=b->ρ 18=c->WA C Tryd.f35 t35 85 [] Q ρ h
def lL(C:fg)(Q:fm)(a b:V)(h:Hp):Prop:=∀ρ:fN,ρ 0=a->ρ 1=b->WA C Tryd.f35 t35 7 [] Q ρ h
def tQ(C:fg)(Q:fm)(d e a b c:V)(h:Hp):Prop:=∀ρ:fN,ρ 0=d->ρ 7=e->ρ 54=a->ρ 55=b->ρ 56=c->WA C Tryd.f35 t35 87 [] Q ρ h
def uu(C:fg)(Q:fm)(e:ly)(f t b c a:V)(h:Hp):Prop:=bO .lss 3 a c (dX 1 b a h λd=>oP (iu f) λg=>oP (fI 0 g) λi=>dJ 3 i 6 a 4 h λj=>cP C kV [d,j] h λk u=>oP (tk .not k) λl=>oP (mh l (oB (some a) λm=>oB (ef .eql 3 m nZ) λn=>oB (some n) λo=>jq o (oB (some d) λp=>oB (fF p) λq=>ef .gtr 3 q nZ))) λr=>bP r (Q bF u) (oP (ef .add 3 a nO) λs=>e f t b c s u)) (lL C Q f t h)
theorem Bm{C Q}(I)(s:P5 I (uu C Q)){k d e a b c h}(i:I k d e a b c h):uc C Q d e a b c h:=WA.l5 I _ s i
def tP(C:fg)(Q:fm)(j l:V)(h:Hp):Prop:=oP (iu j) λb=>oP (fI 0 b) λc=>dF 3 c h λd=>oP (gy 6 d l) λe=>oP (fZ 6 e h) λf=>iQ (zC 44 [nS,nZ,nZ,nS,nS,nZ]) h λg m=>fi (gW 6 g f m) λn k=>dF 3 g k λa=>oP (fF a) λi=>tQ C Q j g a i nZ k
theorem BF{C:fg}{Q:fm}{a b:V}{h:Hp}(H:tP C Q a b h):lL C Q a b h:=by
 rintro ρ rfl rfl;exact WA.of (by kernel_rfl) H
def tO(C:fg)(Q:fm)(d:ly)(u v b c a:V)(h:Hp):Prop:=bO .lss 3 a c (dX 1 b a h λe=>dF 1 v h λf=>oP (ef .eql 3 f (V.I 2)) λg=>oP (jq g (oB (some u) λi=>oB (iu i) λj=>oB (fI 0 j) λk=>oB (fI 3 k) λl=>oB (en l h) λm=>oB (some e) λn=>oB (gy 6 m n) λo=>oB (fI 4 o) λp=>oB (en p h) λq=>oB (fF q) λr=>ef .neq 3 r nO)) λs=>bP s (Q bF h) (oP (ef .add 3 a nO) λt=>d u v b c t h)) (Q bT h)
theorem Bi{C Q}(I)(s:P5 I (tO C Q)){k d e a b c h}(i:I k d e a b c h):tQ C Q d e a b c h:=WA.l5 I _ s i
def xC(C:fg)(Q:fm)(b c:V)(h:Hp):Prop:=bO .eql 3 c nZ (oP (iu b) λd=>oP (fI 0 d) λe=>oP (fZ 5 e h) λf=>cP C ue [f] h λa i=>oP (fF a) λg=>uc C Q b c a g nZ i) (lL C Q b c h)
theorem Ez{C}(s:C.start=fT){a b h Q}(k:C.K lN [a,b] h=none)(H:xC C Q a b h):cP C lN [a,b] h Q:=cP.vd t35 s (by unfold P0;exact Tryd.func35) k H
def t36:List (Nat×List Nat):=[]
def vx(C:fg)(Q:fm)(a:V)(h:Hp):Prop:=oP (iu a) λb=>oP (fI 0 b) λc=>oP (fZ 5 c h) λd=>cP C mF [d] h λe f=>Q e f
theorem Cn{C}(s:C.start=fT){a h Q}(k:C.K pG [a] h=none)(H:vx C Q a h):cP C pG [a] h Q:=cP.vd t36 s (by unfold P0;exact Tryd.func36) k H
def t64:List (Nat×List Nat):=[(19,[0,1,2])]
def nw(C:fg)(Q:fm)(a b c:V)(h:Hp):Prop:=∀ρ:fN,ρ 0=a->ρ 1=b->ρ 2=c->WA C Tryd.f64 t64 9 [] Q ρ h
def nT(C:fg)(Q:fm)(a:JP)(e f b:V)(h:Hp):Prop:=bO .geq 3 b nZ (bO .eql 3 f b (Q bT h) (dN 7 e h λc=>dX 1 c b h λd=>a e f d h)) (Q bF h)
theorem wN{C Q}(I)(s:P3 I (nT C Q)){k a b c h}(i:I k a b c h):nw C Q a b c h:=WA.l3 I _ s i
def qN(C:fg)(Q:fm)(a b c:V)(h:Hp):Prop:=nw C Q a b c h
theorem ze{C}(s:C.start=fT){a b c h Q}(k:C.K ko [a,b,c] h=none)(H:qN C Q a b c h):cP C ko [a,b,c] h Q:=cP.vd t64 s (by unfold P0;exact Tryd.func64) k H
def t54:List (Nat×List Nat):=[(43,[0,2,3,11,12,13])]
def sW(C:fg)(Q:fm)(d e f a b c:V)(h:Hp):Prop:=∀ρ:fN,ρ 0=d->ρ 2=e->ρ 3=f->ρ 11=a->ρ 12=b->ρ 13=c->WA C Tryd.f54 t54 21 [] Q ρ h
def tf(C:fg)(Q:fm)(g:tg)(d i T e f b:V)(h:Hp):Prop:=bO .lss 3 b f (dX 1 e b h λc=>dN 5 d h λj=>dX 1 j c h λk=>oP (ef .eql 3 k i) λl=>oP (jq l (oB (some d) λm=>oB (iu m) λn=>oB (fI 6 n) λo=>oB (en o h) λp=>oB (some c) λq=>oB (gy 1 p q) λr=>oB (en r h) λs=>oB (some T) λt=>ef .geq 3 s t)) λa=>oP (gg false a) λu=>oP (gV u (some d)) λv=>oP (gg false a) λw=>oP (gV w (some d)) λx=>oP (gg false a) λy=>oP (gV y (iu x)) λz=>oP (gg false a) λA=>oP (gV A (fI 5 z)) λB=>oP (gg false a) λD=>oP (gV D (en B h)) λE=>oP (gg false a) λF=>oP (gV F (some c)) λG=>oP (gg false a) λH=>oP (gV H (gy 1 E G)) λI=>oP (gg false a) λJ=>oP (gV J (en I h)) λK=>oP (gg false a) λL=>oP (gV L (some i)) λM=>oP (gg false a) λN=>oP (gC N (some (ko,[v,K,M]))) λO=>xa C O h λP U=>oP (mh a (tk .not P)) λR=>bP R (Q bF U) (oP (ef .add 3 b nO) λS=>g d i T e f S U)) (Q bT h)
theorem Au{C Q}(I)(s:P6 I (tf C Q)){k d e f a b c h}(i:I k d e f a b c h):sW C Q d e f a b c h:=WA.l6 I _ s i
def wT(C:fg)(Q:fm)(c b d e:V)(h:Hp):Prop:=oP (fF b) λa=>sW C Q c d e b a nZ h
theorem Du{C}(s:C.start=fT){a b c d h Q}(k:C.K iP [a,b,c,d] h=none)(H:wT C Q a b c d h):cP C iP [a,b,c,d] h Q:=cP.vd t54 s (by unfold P0;exact Tryd.func54) k H
def t55:List (Nat×List Nat):=[(43,[0,2,3,19,20,21])]
def nJ(C:fg)(Q:fm)(d e f a b c:V)(h:Hp):Prop:=∀ρ:fN,ρ 0=d->ρ 2=e->ρ 3=f->ρ 19=a->ρ 20=b->ρ 21=c->WA C Tryd.f55 t55 21 [] Q ρ h
def oh(C:fg)(Q:fm)(f:tg)(g i j d e b:V)(h:Hp):Prop:=bO .lss 3 b e (oP (gy 4 d b) λk=>oP (fZ 4 k h) λl=>iQ (zC 50 [nZ,nZ,nS,nS]) h λc F=>fi (gW 4 c l F) λI B=>dF 2 c B λm=>cP C iP [g,m,i,j] B λn D=>oP (tk .not n) λa=>oP (gg false a) λG=>oP (gV G (some g)) λo=>oP (gg false a) λH=>oP (gV H (fI 3 c)) λp=>oP (gg false a) λq=>oP (gV q (en p D)) λr=>oP (gg false a) λs=>oP (gV s (some i)) λt=>oP (gg false a) λu=>oP (gV u (some j)) λv=>oP (gg false a) λw=>oP (gC w (some (iP,[o,r,t,v]))) λx=>xa C x D λy E=>oP (mh a (tk .not y)) λz=>bP z (Q bF E) (oP (ef .add 3 b nO) λA=>f g i j d e A E)) (Q bT h)
theorem wD{C Q}(I)(s:P6 I (oh C Q)){k d e f a b c h}(i:I k d e f a b c h):nJ C Q d e f a b c h:=WA.l6 I _ s i
def qK(C:fg)(Q:fm)(e f g i:V)(h:Hp):Prop:=oP (iu e) λb=>oP (fI 0 b) λc=>dJ 4 c 1 f 0 h λa=>oP (fF a) λd=>nJ C Q e g i a d nZ h
theorem yH{C}(s:C.start=fT){a b c d h Q}(k:C.K iG [a,b,c,d] h=none)(H:qK C Q a b c d h):cP C iG [a,b,c,d] h Q:=cP.vd t55 s (by unfold P0;exact Tryd.func55) k H
def t38:List (Nat×List Nat):=[(175,[0,1,5,6,24,25,26]),(1356591,[0,1,5,6,24,25,26,43,44,45]),(3886,[0,1,5,6,24,25,26])]
def rv(C:fg)(Q:fm)(d e f g a b c:V)(h:Hp):Prop:=∀ρ:fN,ρ 0=d->ρ 1=e->ρ 5=f->ρ 6=g->ρ 24=a->ρ 25=b->ρ 26=c->WA C Tryd.f38 t38 87 [] Q ρ h
def su(C:fg)(Q:fm)(a:AH)(i j k l b c d e f g:V)(h:Hp):Prop:=∀ρ:fN,ρ 0=i->ρ 1=j->ρ 5=k->ρ 6=l->ρ 24=b->ρ 25=c->ρ 26=d->ρ 43=e->ρ 44=f->ρ 45=g->WA C Tryd.f38 t38 678295 [λρ h=>a (ρ 0) (ρ 1) (ρ 5) (ρ 6) (ρ 24) (ρ 25) (ρ 26) h] Q ρ h
def mw(C:fg)(Q:fm)(a:AH)(e f g i b c d:V)(h:Hp):Prop:=∀ρ:fN,ρ 0=e->ρ 1=f->ρ 5=g->ρ 6=i->ρ 24=b->ρ 25=c->ρ 26=d->WA C Tryd.f38 t38 1943 [λρ h=>a (ρ 0) (ρ 1) (ρ 5) (ρ 6) (ρ 24) (ρ 25) (ρ 26) h] Q ρ h
def rB(C:fg)(Q:fm)(j:AH)(d g k t e f b:V)(h:Hp):Prop:=bO .lss 3 b f (dX 1 e b h λu=>oP (iu d) λv=>oP (fI 0 v) λw=>dF 2 w h λx=>oP (gy 6 x u) λy=>oP (fZ 6 y h) λz=>iQ (zC 46 [nZ,nZ,nZ,nZ,nS,nZ]) h λi h1=>fi (gW 6 i z h1) λvu l=>dF 0 i l λA=>bO .eql 3 A (V.I 21) (dF 4 i l λm=>oP (fF m) λB=>su C Q j d g k t e f b m B nZ l) (oP (fZ 6 i l) λD=>cP C qB [D] l λE h3=>cP C iP [d,E,g,b] h3 λF h4=>oP (tk .not F) λc=>oP (gg false c) λb8=>oP (gV b8 (fI 0 i)) λG=>oP (gg false c) λb9=>oP (gV b9 (en G h4)) λH=>oP (gg false c) λI=>oP (gC I (some (oD,[H]))) λJ=>xa C J h4 λK h5=>oP (gg false c) λL=>oP (gV L (some K)) λa=>oP (gg true a) λM=>oP (gV M (some d)) λN=>oP (gg true a) λO=>oP (gV O (fI 5 i)) λP=>oP (gg true a) λR=>oP (gV R (en P h5)) λS=>oP (gg true a) λT=>oP (gV T (some g)) λU=>oP (gg true a) λW=>oP (gV W (some b)) λX=>oP (gg true a) λY=>oP (gC Y (some (iG,[N,S,U,X]))) λZ=>xa C Z h5 λaa h6=>oP (gg true a) λab=>oP (gV ab (tk .not aa)) λac=>oP (mh c (ma a ac bF)) λae=>bP ae (Q bF h6) (mw C Q j d g k t e f b h6))) (dF 1 k h λn=>bO .eql 3 n (V.I 2) (dF 2 k h λo=>iQ (ju 3 1 1 nZ [(0,o)]) h λp h7=>cP C iP [d,p,g,t] h7 λq h8=>Q q h8) (bO .eql 3 n (V.I 3) (dF 5 k h λr=>cP C iG [d,r,g,t] h λs h9=>Q s h9) (Q bT h)))
theorem zD{C Q}(I)(s:P7 I (rB C Q)){k d e f g a b c h}(i:I k d e f g a b c h):rv C Q d e f g a b c h:=WA.l7 I _ s i
def re(C:fg)(Q:fm)(k:AH)(l:vW)(i y j z c d e f g a:V)(h:Hp):Prop:=bO .lss 3 a g (dX 1 f a h λm=>uN (ju 3 1 1 nZ [(0,m)]) h λo2 n b=>dY 4 j 1 a b λo=>oP (iu i) λp=>oP (fI 0 p) λq=>dF 3 q b λr=>dY 4 j 1 a b λs=>oP (gy 6 r s) λt=>dG 0 t b λu=>((b.get (h.next)=some o2/\O.beq o2 o2=true)/\cP C iP [i,n,o,u] b λv w=>(b.next<=w.next/\bN v (Q bF w) (oP (ef .add 3 a nO) λx=>l i y j z c d e f g x w)))) (mw C Q k i y j z c d e h)
theorem zO{C Q a}(I)(s:Wv I (re C Q a)){k j l m n b c d e f g h}(i:I k j l m n b c d e f g h):su C Q a j l m n b c d e f g h:=WA.MK I _ s i
def mz(C:fg)(Q:fm)(a:AH)(f g i j b c d:V)(h:Hp):Prop:=oP (ef .add 3 d nO) λe=>a f g i j b c e h
theorem qL{C:fg}{Q:fm}{a:AH}{e f g i b c d:V}{h:Hp}(H:mz C Q a e f g i b c d h):mw C Q a e f g i b c d h:=by
 rintro ρ rfl rfl rfl rfl rfl rfl rfl;exact WA.of (by kernel_rfl) H
def ve(C:fg)(Q:fm)(l m:V)(h:Hp):Prop:=oP (iu l) λc=>oP (fI 0 c) λd=>dF 3 d h λe=>oP (gy 6 e m) λf=>oP (fZ 6 f h) λg=>iQ (zC 44 [nS,nZ,nZ,nS,nS,nZ]) h λb n=>fi (gW 6 b g n) λo i=>dG 0 b i λj=>dF 0 b i λa=>oP (fF a) λk=>rv C Q l m b j a k nZ i
theorem Cr{C}(s:C.start=fT){a b h Q}(k:C.K kP [a,b] h=none)(H:ve C Q a b h):cP C kP [a,b] h Q:=cP.vd t38 s (by unfold P0;exact Tryd.func38) k H
def t17:List (Nat×List Nat):=[]
def Gt(C:fg)(Q:fm)(a0:V)(h:Hp):Prop:=iQ (sO 29 a0) h λe f=>dG 2 e f λv7=>oP (ef .gtr 3 v7 (V.I 3000)) λv8=>oP (mh v8 (oB (fI 3 e) λp=>oB (en p f) λq=>oB (fF q) λr=>ef .gtr 3 r (V.I 300))) λs=>oP (mh s (oB (fI 4 e) λt=>oB (en t f) λu=>oB (fF u) λv=>ef .gtr 3 v (V.I 1000))) λw=>oP (mh w (oB (fI 3 e) λx=>oB (en x f) λy=>oB (fF y) λz=>ef .eql 3 z nZ)) λA=>bP A (Q bF f) (oP (fZ 5 e f) λB=>oP (fG [nZ,nZ,nS,nS,nS,nS,nS,nS] [(0,5),(5,1),(6,1),(7,1)] [(0,B)]) λD=>iQ (sO 76 D) f λa h2=>dG 4 e h2 λE=>cP C jc [a,E,(V.func kL [a] [])] h2 λF h3=>oP (tk .not F) λg=>oP (gg false g) λb9=>oP (gV b9 (some a)) λG=>oP (gg false g) λH=>oP (gC H (some (mf,[G]))) λI=>xa C I h3 λJ h4=>oP (mh g (tk .not J)) λb=>oP (gg false b) λi=>oP (gV i (some a)) λK=>oP (gg false b) λL=>oP (gV L (fI 2 e)) λM=>oP (gg false b) λN=>oP (gV N (en M h4)) λO=>oP (gg false b) λj=>oP (gV j (fF O)) λP=>oP (gg false b) λk=>oP (gV k (some a)) λR=>oP (gg false b) λl=>oP (gV l (some (V.func jD [R] []))) λS=>oP (gg false b) λm=>oP (gC m (some (jc,[K,P,S]))) λT=>xa C T h4 λU h5=>oP (mh b (tk .not U)) λc=>oP (gg false c) λW=>oP (gV W (some a)) λX=>oP (gg false c) λY=>oP (gV Y (fI 3 e)) λZ=>oP (gg false c) λaa=>oP (gV aa (en Z h5)) λab=>oP (gg false c) λac=>oP (gV ac (fF ab)) λae=>oP (gg false c) λag=>oP (gV ag (some a)) λah=>oP (gg false c) λai=>oP (gV ai (some (V.func lg [ah] []))) λaj=>oP (gg false c) λak=>oP (gC ak (some (jc,[X,ae,aj]))) λal=>xa C al h5 λam h6=>oP (mh c (tk .not am)) λd=>oP (gg false d) λan=>oP (gV an (some a)) λao=>oP (gg false d) λaq=>oP (gV aq (fI 3 e)) λar=>oP (gg false d) λau=>oP (gV au (en ar h6)) λaw=>oP (gg false d) λax=>oP (gV ax (fF aw)) λay=>oP (gg false d) λaz=>oP (gV az (some a)) λaA=>oP (gg false d) λaB=>oP (gV aB (some (V.func lN [aA] []))) λaC=>oP (gg false d) λaD=>oP (gC aD (some (jc,[ao,ay,aC]))) λaE=>xa C aE h6 λaF h7=>oP (mh d (tk .not aF)) λaG=>bP aG (Q bF h7) (cP C pG [a] h7 λaH o=>oP (fF aH) λaI=>dG 3 e o λaJ=>bO .neq 3 aI aJ (Q bF o) (oP (fZ 5 e o) λaK=>cP C oy [aK] o λaL h9=>oP (iu a) λaM=>oP (fI 7 aM) λaN=>fi (gW 1 aN aL h9) λvu n=>dG 3 e n λaO=>cP C jc [a,aO,(V.func kP [a] [])] n λaP aQ=>Q aP aQ)))
theorem Mq{C}(s:C.start=fT){a h Q}(k:C.K uh [a] h=none)(H:Gt C Q a h):cP C uh [a] h Q:=cP.vd t17 s (by unfold P0;exact Tryd.func17) k H
end
