/- Parts. -/
import Derived.Test.YtcoaokdoecgcbaaGreatDoorM14
set_option maxHeartbeats 4000000
namespace Go.Proofs.YtcoaokdoecgcbaaGreatDoor.Hx
set_option maxRecDepth 100000
noncomputable section
def t52:List (Nat×List Nat):=[(126,[1,3,4,5]),(319,[1,3,4,5])]
def Ay(C:fj)(Q:fo)(a b c d:V)(h:Hp):Prop:=∀ρ:gg,ρ 1=a->ρ 3=b->ρ 4=c->ρ 5=d->WA C Tryz.f52 t52 63 [] Q ρ h
def Gn(C:fj)(Q:fo)(a b c d:V)(h:Hp):Prop:=∀ρ:gg,ρ 1=a->ρ 3=b->ρ 4=c->ρ 5=d->WA C Tryz.f52 t52 159 [] Q ρ h
def Gz(C:fj)(Q:fo)(a b c d:V)(h:Hp):Prop:=Gn C Q a b c d h
theorem Oq{C:fj}{Q:fo}{a b c d:V}{h:Hp}(H:Gz C Q a b c d h):Ay C Q a b c d h:=by
 rintro ρ rfl rfl rfl rfl;exact WA.of (by kernel_rfl) H
def Gg(C:fj)(Q:fo)(c:Jn)(i e f d:V)(h:Hp):Prop:=oP (fD d) λj=>bO .gtr 3 j nZ (oP (fD d) λk=>oP (ef .sub 3 k nO) λl=>oP (gP 2 d l) λa=>dF 3 i h λm=>dN 0 a h λn=>dI 6 m n 3 h λg=>dN 1 a h λo=>oP (fD g) λp=>bO .eql 3 o p (dN 0 a h λq=>hZ (iK 3 1 1 nZ [(0,q)]) h λr R=>fg (eQ 3 1 8 f r R) λs O=>oP (fD d) λt=>oP (ef .sub 3 t nO) λu=>oP (iL 2 d none (some u) O) λv=>c i e s v O) (dN 1 a h λw=>dX 1 g w h λb=>dN 1 a h λx=>oP (ef .add 3 x nO) λy=>oP (gq a) λz=>oP (fK 1 z) λA=>fg (gL 1 A y h) λZ S=>oP (fD e) λB=>cP C ka [b,B] S λD E=>oP (iM D (oB (some e) λF=>oB (some b) λG=>oB (gP 1 F G) λH=>oB (eC H E) λI=>qH .not I)) λJ=>bP J (oP (gP 1 e b) λK=>fg (gL 1 K bT E) λP T=>oP (fm [nZ,nZ] [(0,1),(1,1)] [(0,b),(1,nZ)]) λL=>hZ (iK 157 2 1 (V.agg [nZ,nZ]) [(0,L)]) T λM U=>fg (eQ 157 2 16 d M U) λN W=>c i e f N W) (c i e f d E))) (cP C kO [f] h λX Y=>Q f Y)
theorem NV{C Q}(I)(s:P4 I (Gg C Q)){k a b c d h}(i:I k a b c d h):Gn C Q a b c d h:=WA.l4 I _ s i
def L3(C:fj)(Q:fo)(l:V)(h:Hp):Prop:=hZ (nj 34 l) h λc k=>dG 3 c k λb=>hZ (jo 4 1 1 bF b b) k λa d=>dG 3 c d λe=>bO .gtr 3 e nZ (oP (fm [nZ,nZ] [(0,1),(1,1)] []) λf=>hZ (iK 157 2 1 (V.agg [nZ,nZ]) [(0,f)]) d λg m=>fg (eQ 157 2 16 nS g m) λi n=>oP (gP 1 a nZ) λj=>fg (gL 1 j bT n) λp o=>Ay C Q c a nS i o) (Ay C Q c a nS nS d)
theorem RS{C}(s:C.start=fy){a h Q}(k:C.K pb [a] h=none)(H:L3 C Q a h):cP C pb [a] h Q:=cP.vd t52 s (by unfold P0;exact Tryz.func52) k H
def t91:List (Nat×List Nat):=[(87,[3,13,14,15]),(22935,[3,4,13,14,15,21,22,23]),(498070,[3,4,13,14,15,21,22,23])]
def EY(C:fj)(Q:fo)(d a b c:V)(h:Hp):Prop:=∀ρ:gg,ρ 3=d->ρ 13=a->ρ 14=b->ρ 15=c->WA C Tryz.f91 t91 43 [] Q ρ h
def FX(C:fj)(Q:fo)(a:Jn)(i j b c d e f g:V)(h:Hp):Prop:=∀ρ:gg,ρ 3=i->ρ 4=j->ρ 13=b->ρ 14=c->ρ 15=d->ρ 21=e->ρ 22=f->ρ 23=g->WA C Tryz.f91 t91 11467 [λρ h=>a (ρ 3) (ρ 13) (ρ 14) (ρ 15) h] Q ρ h
def yn(C:fj)(Q:fo)(a:Jn)(b:MO)(j k c d e f g i:V)(h:Hp):Prop:=∀ρ:gg,ρ 3=j->ρ 4=k->ρ 13=c->ρ 14=d->ρ 15=e->ρ 21=f->ρ 22=g->ρ 23=i->WA C Tryz.f91 t91 249035 [λρ h=>a (ρ 3) (ρ 13) (ρ 14) (ρ 15) h,λρ h=>b (ρ 3) (ρ 4) (ρ 13) (ρ 14) (ρ 15) (ρ 21) (ρ 22) (ρ 23) h] Q ρ h
def Fi(C:fj)(Q:fo)(e:Jn)(j b c a:V)(h:Hp):Prop:=bO .lss 3 a c (oP (gP 6 b a) λf=>oP (gy 6 f h) λg=>hZ (zC 79 [nS,nZ,nZ,nS,nS,nZ]) h λk m=>fg (gL 6 k g m) λn l=>dF 3 k l λd=>oP (fD d) λi=>FX C Q e j a b c a d i nZ l) (Q j h)
theorem Ob{C Q}(I)(s:P4 I (Fi C Q)){k d a b c h}(i:I k d a b c h):EY C Q d a b c h:=WA.l4 I _ s i
def EP(C:fj)(Q:fo)(b:Jn)(k:MO)(j l c d e f g a:V)(h:Hp):Prop:=bO .lss 3 a g (dX 1 f a h λi=>oP (fD j) λm=>cP C ka [i,m] h λn o=>bP n (dX 1 j i o λp=>hZ (iK 3 1 1 nZ [(0,l)]) o λq u=>fg (eQ 3 1 8 p q u) λr v=>oP (gP 1 j i) λs=>fg (gL 1 s r v) λx w=>yn C Q b k j l c d e f g a w) (yn C Q b k j l c d e f g a o)) (oP (ef .add 3 e nO) λt=>b j c d t h)
theorem Ol{C Q a}(I)(s:P8 I (EP C Q a)){k j l b c d e f g h}(i:I k j l b c d e f g h):FX C Q a j l b c d e f g h:=WA.l8 I _ s i
def Em(C:fj)(Q:fo)(j:Jn)(a:MO)(k l b c d e f g:V)(h:Hp):Prop:=oP (ef .add 3 g nO) λi=>a k l b c d e f i h
theorem Mi{C:fj}{Q:fo}{a:Jn}{b:MO}{j k c d e f g i:V}{h:Hp}(H:Em C Q a b j k c d e f g i h):yn C Q a b j k c d e f g i h:=by
 rintro ρ rfl rfl rfl rfl rfl rfl rfl rfl;exact WA.of (by kernel_rfl) H
def LM(C:fj)(Q:fo)(i:V)(h:Hp):Prop:=hZ (nj 34 i) h λe f=>dG 3 e f λa=>hZ (jo 22 1 24 nS a a) f λc g=>dF 3 e g λb=>oP (fD b) λd=>EY C Q c b d nZ g
theorem TX{C}(s:C.start=fy){a h Q}(k:C.K xY [a] h=none)(H:LM C Q a h):cP C xY [a] h Q:=cP.vd t91 s (by unfold P0;exact Tryz.func91) k H
def t63:List (Nat×List Nat):=[(175,[3,4,5,6,30,31]),(351,[3,4,5,6,38,39,40]),(5631,[3,4,5,10,11]),(370175,[3,4,5,10,11,59,60,61]),(362391039,[3,4,5,10,11,13,14,59,60,61,68,69,70]),(8147019262,[3,4,5,10,11,13,14,59,60,61,68,69,70]),(7972350,[3,4,5,10,11,59,60,61])]
def zj(C:fj)(Q:fo)(c d e f a b:V)(h:Hp):Prop:=∀ρ:gg,ρ 3=c->ρ 4=d->ρ 5=e->ρ 6=f->ρ 30=a->ρ 31=b->WA C Tryz.f63 t63 87 [] Q ρ h
def yV(C:fj)(Q:fo)(d e f g a b c:V)(h:Hp):Prop:=∀ρ:gg,ρ 3=d->ρ 4=e->ρ 5=f->ρ 6=g->ρ 38=a->ρ 39=b->ρ 40=c->WA C Tryz.f63 t63 175 [] Q ρ h
def yx(C:fj)(Q:fo)(c d e a b:V)(h:Hp):Prop:=∀ρ:gg,ρ 3=c->ρ 4=d->ρ 5=e->ρ 10=a->ρ 11=b->WA C Tryz.f63 t63 2815 [] Q ρ h
def yK(C:fj)(Q:fo)(a:AE)(g i j b c d e f:V)(h:Hp):Prop:=∀ρ:gg,ρ 3=g->ρ 4=i->ρ 5=j->ρ 10=b->ρ 11=c->ρ 59=d->ρ 60=e->ρ 61=f->WA C Tryz.f63 t63 185087 [λρ h=>a (ρ 3) (ρ 4) (ρ 5) (ρ 10) (ρ 11) h] Q ρ h
def yX(C:fj)(Q:fo)(a:AE)(b:MO)(n o p c d e f g i j k l m:V)(h:Hp):Prop:=∀ρ:gg,ρ 3=n->ρ 4=o->ρ 5=p->ρ 10=c->ρ 11=d->ρ 13=e->ρ 14=f->ρ 59=g->ρ 60=i->ρ 61=j->ρ 68=k->ρ 69=l->ρ 70=m->WA C Tryz.f63 t63 181195519 [λρ h=>a (ρ 3) (ρ 4) (ρ 5) (ρ 10) (ρ 11) h,λρ h=>b (ρ 3) (ρ 4) (ρ 5) (ρ 10) (ρ 11) (ρ 59) (ρ 60) (ρ 61) h] Q ρ h
def na(C:fj)(Q:fo)(a:AE)(b:MO)(c:Kk)(o p q d e f g i j k l m n:V)(h:Hp):Prop:=∀ρ:gg,ρ 3=o->ρ 4=p->ρ 5=q->ρ 10=d->ρ 11=e->ρ 13=f->ρ 14=g->ρ 59=i->ρ 60=j->ρ 61=k->ρ 68=l->ρ 69=m->ρ 70=n->WA C Tryz.f63 t63 4073509631 [λρ h=>a (ρ 3) (ρ 4) (ρ 5) (ρ 10) (ρ 11) h,λρ h=>b (ρ 3) (ρ 4) (ρ 5) (ρ 10) (ρ 11) (ρ 59) (ρ 60) (ρ 61) h,λρ h=>c (ρ 3) (ρ 4) (ρ 5) (ρ 10) (ρ 11) (ρ 13) (ρ 14) (ρ 59) (ρ 60) (ρ 61) (ρ 68) (ρ 69) (ρ 70) h] Q ρ h
def qk(C:fj)(Q:fo)(a:AE)(b:MO)(i j k c d e f g:V)(h:Hp):Prop:=∀ρ:gg,ρ 3=i->ρ 4=j->ρ 5=k->ρ 10=c->ρ 11=d->ρ 59=e->ρ 60=f->ρ 61=g->WA C Tryz.f63 t63 3986175 [λρ h=>a (ρ 3) (ρ 4) (ρ 5) (ρ 10) (ρ 11) h,λρ h=>b (ρ 3) (ρ 4) (ρ 5) (ρ 10) (ρ 11) (ρ 59) (ρ 60) (ρ 61) h] Q ρ h
def yZ(C:fj)(Q:fo)(d:OF)(c k e l b a:V)(h:Hp):Prop:=bO .lss 3 a b (oP (eC e h) λf=>oP (gP 1 f a) λg=>fg (gL 1 g (V.I (-1)) h) λn m=>oP (ef .add 3 a nO) λi=>d c k e l b i m) (oP (fD c) λj=>yV C Q c k e l c j nZ h)
theorem HN{C Q}(I)(s:P6 I (yZ C Q)){k c d e f a b h}(i:I k c d e f a b h):zj C Q c d e f a b h:=WA.l6 I _ s i
def yU(C:fj)(Q:fo)(e:Fg)(f q b g c d a:V)(h:Hp):Prop:=bO .lss 3 a d (dX 1 c a h λi=>oP (eC g h) λj=>oP (gP 1 j i) λk=>fg (gL 1 k a h) λu s=>oP (ef .add 3 a nO) λl=>e f q b g c d l s) (oP (fD f) λm=>bO .eql 3 m nZ (oP (eC b h) λn=>Q n h) (oP (eC b h) λo=>oP (gP 1 o nZ) λp=>fg (gL 1 p nZ h) λr t=>yx C Q f q b (V.func je [] [g,b]) bT t))
theorem HB{C Q}(I)(s:P7 I (yU C Q)){k d e f g a b c h}(i:I k d e f g a b c h):yV C Q d e f g a b c h:=WA.l7 I _ s i
def zk(C:fj)(Q:fo)(e:AE)(k m f g i:V)(h:Hp):Prop:=bP i (oP (iL 1 k (some nO) none h) λa=>oP (fD a) λj=>yK C Q e k m f g bF a j nZ h) (oP (eC f h) λb=>oP (gP 1 b nZ) λc=>fg (gL 1 c (V.I (-1)) h) λn l=>oP (eC f l) λd=>Q d l)
theorem Hs{C Q}(I)(s:P5 I (zk C Q)){k c d e a b h}(i:I k c d e a b h):yx C Q c d e a b h:=WA.l5 I _ s i
def zl(C:fj)(Q:fo)(b:AE)(j:MO)(m k n c d e f a:V)(h:Hp):Prop:=bO .lss 3 a f (dX 1 e a h λg=>dX 1 k g h λi=>oP (fD i) λl=>yX C Q b j m k n c d g (V.I (-1)) e f a i l nZ h) (b m k n c d h)
theorem Ic{C Q a}(I)(s:P8 I (zl C Q a)){k g j l b c d e f h}(i:I k g j l b c d e f h):yK C Q a g j l b c d e f h:=WA.l8 I _ s i
def yR(C:fj)(Q:fo)(b:AE)(c:MO)(o:Kk)(q r n a k d e f g i l m j:V)(h:Hp):Prop:=bO .lss 3 j m (dX 1 l j h λp=>oP (eC n h) λs=>dX 1 s p h λt=>bO .lss 3 t nZ (na C Q b c o q r n a k d e f g i l m j h) (bO .lss 3 e nZ (na C Q b c o q r n a k d p f g i l m j h) (gO C (fX a [e,p]) h λu z=>na C Q b c o q r n a k d u f g i l m j z))) (oP (eC n h) λv=>dX 1 v d h λw=>bO .neq 3 w e (oP (eC n h) λx=>oP (gP 1 x d) λy=>fg (gL 1 y e h) λB A=>qk C Q b c q r n a bT f g i A) (qk C Q b c q r n a k f g i h))
theorem Hn{C Q a b}(I)(s:P13 I (yR C Q a b)){k p q r c d e f g j l m n o h}(i:I k p q r c d e f g j l m n o h):yX C Q a b p q r c d e f g j l m n o h:=WA.l13 I _ s i
def mM(C:fj)(Q:fo)(n:AE)(o:MO)(a:Kk)(p q r b c d e f g i j k l:V)(h:Hp):Prop:=oP (ef .add 3 l nO) λm=>a p q r b c d e f g i j k m h
theorem qe{C:fj}{Q:fo}{a:AE}{b:MO}{c:Kk}{o p q d e f g i j k l m n:V}{h:Hp}(H:mM C Q a b c o p q d e f g i j k l m n h):na C Q a b c o p q d e f g i j k l m n h:=by
 rintro ρ rfl rfl rfl rfl rfl rfl rfl rfl rfl rfl rfl rfl rfl;exact WA.of (by kernel_rfl) H
def qB(C:fj)(Q:fo)(i:AE)(a:MO)(j k l b c d e f:V)(h:Hp):Prop:=oP (ef .add 3 f nO) λg=>a j k l b c d e g h
theorem xQ{C:fj}{Q:fo}{a:AE}{b:MO}{i j k c d e f g:V}{h:Hp}(H:qB C Q a b i j k c d e f g h):qk C Q a b i j k c d e f g h:=by
 rintro ρ rfl rfl rfl rfl rfl rfl rfl rfl;exact WA.of (by kernel_rfl) H
def Ca(C:fj)(Q:fo)(H:V)(h:Hp):Prop:=hZ (nj 34 H) h λe m=>oP (gy 5 e m) λq=>oP (gy 5 e m) λf=>cP C pb [q] m λr n=>(m.next<=n.next/\((gy 5 e n=some f)/\cP C xY [f] n λs o=>(n.next<=o.next/\oP (fK 3 e) λg=>oP (eC g o) λi=>oP (fD i) λj=>vj (jo 3 1 8 nZ j j) o λt u p=>oP (fK 3 e) λb=>oP (eC b p) λc=>oP (fD c) λk=>vj (jo 3 1 8 nZ k k) p λd v D=>vj (zC 22 [nS]) D λw x E=>vj (zC 22 [nS]) E λy F a=>((a.get (E.next)=some y/\O.beq y y=true)/\((a.get (D.next)=some w/\O.beq w w=true)/\((a.get (p.next)=some d/\O.beq d d=true)/\((eC b a=some c)/\((a.get (o.next)=some t/\O.beq t t=true)/\((eC g a=some i)/\fg (gL 1 x u a) λI l=>(a.next<=l.next/\((l.get (p.next)=some d/\O.beq d d=true)/\((eC b l=some c)/\fg (gL 1 F v l) λG z=>(l.next<=z.next/\oP (eC x z) λA=>oP (fD A) λB=>zj C Q r s x F B nZ z)))))))))))))
theorem KR{C}(s:C.start=fy){a h Q}(k:C.K qP [a] h=none)(H:Ca C Q a h):cP C qP [a] h Q:=cP.vd t63 s (by unfold P0;exact Tryz.func63) k H
def t93:List (Nat×List Nat):=[(19,[0,1,2,3])]
def vZ(C:fj)(Q:fo)(a b c d:V)(h:Hp):Prop:=∀ρ:gg,ρ 0=a->ρ 1=b->ρ 2=c->ρ 3=d->WA C Tryz.f93 t93 9 [] Q ρ h
def vN(C:fj)(Q:fo)(a:Jn)(b c d e:V)(h:Hp):Prop:=bO .neq 3 b c (oP (eC d h) λf=>dX 1 f b h λg=>oP (eC d h) λi=>dX 1 i c h λj=>bO .gtr 3 g j (oP (eC e h) λk=>dX 1 k b h λl=>a l c d e h) (oP (eC e h) λm=>dX 1 m c h λn=>a b n d e h)) (Q b h)
theorem EF{C Q}(I)(s:P4 I (vN C Q)){k a b c d h}(i:I k a b c d h):vZ C Q a b c d h:=WA.l4 I _ s i
def zL(C:fj)(Q:fo)(a b c d:V)(h:Hp):Prop:=vZ C Q a b c d h
theorem Ji{C}(s:C.start=fy){a b c d h Q}(k:C.K je [a,b,c,d] h=none)(H:zL C Q a b c d h):cP C je [a,b,c,d] h Q:=cP.vd t93 s (by unfold P0;exact Tryz.func93) k H
def t56:List (Nat×List Nat):=[(43,[1,2,7])]
def xG(C:fj)(Q:fo)(a b c:V)(h:Hp):Prop:=∀ρ:gg,ρ 1=a->ρ 2=b->ρ 7=c->WA C Tryz.f56 t56 21 [] Q ρ h
def wT(C:fj)(Q:fo)(a:MA)(e f b:V)(h:Hp):Prop:=bO .lss 3 b e (gO C (fX f [b]) h λc g=>bN c (Q bF g) (oP (ef .add 3 b nO) λd=>a e f d g)) (Q bT h)
theorem FE{C Q}(I)(s:P3 I (wT C Q)){k a b c h}(i:I k a b c h):xG C Q a b c h:=WA.l3 I _ s i
def Bd(C:fj)(Q:fo)(c a b:V)(h:Hp):Prop:=xG C Q a b nZ h
theorem Km{C}(s:C.start=fy){a b c h Q}(k:C.K jw [a,b,c] h=none)(H:Bd C Q a b c h):cP C jw [a,b,c] h Q:=cP.vd t56 s (by unfold P0;exact Tryz.func56) k H
def t85:List (Nat×List Nat):=[(43,[0,7,8,9]),(56522,[0,7,8,9,31])]
def uK(C:fj)(Q:fo)(a b c d:V)(h:Hp):Prop:=∀ρ:gg,ρ 0=a->ρ 7=b->ρ 8=c->ρ 9=d->WA C Tryz.f85 t85 21 [] Q ρ h
def jL(C:fj)(Q:fo)(a:Jn)(c d e f b:V)(h:Hp):Prop:=∀ρ:gg,ρ 0=c->ρ 7=d->ρ 8=e->ρ 9=f->ρ 31=b->WA C Tryz.f85 t85 28261 [λρ h=>a (ρ 0) (ρ 7) (ρ 8) (ρ 9) h] Q ρ h
def tV(C:fj)(Q:fo)(a:Jn)(c f g d:V)(h:Hp):Prop:=bO .lss 3 d g (dX 1 f d h λi=>oP (gq c) λm=>oP (fK 0 m) λn=>dG 2 n h λo=>cP C ka [i,o] h λp e=>bN p (Q bF e) (oP (gq c) λq=>oP (fK 0 q) λr=>dJ 2 r 6 i 0 e λb=>oP (ef .eql 3 b (V.I 19)) λj=>bP j (jL C Q a c f g d j e) (oP (ef .eql 3 b (V.I 20)) λk=>bP k (jL C Q a c f g d k e) (oP (ef .eql 3 b (V.I 22)) λl=>bP l (jL C Q a c f g d l e) (oP (ef .eql 3 b (V.I 23)) λs=>jL C Q a c f g d s e))))) (Q bT h)
theorem Du{C Q}(I)(s:P4 I (tV C Q)){k a b c d h}(i:I k a b c d h):uK C Q a b c d h:=WA.l4 I _ s i
def th(C:fj)(Q:fo)(a:Jn)(d e f g b:V)(h:Hp):Prop:=bP b (Q bF h) (oP (ef .add 3 g nO) λc=>a d e f c h)
theorem CJ{C:fj}{Q:fo}{a:Jn}{c d e f b:V}{h:Hp}(H:th C Q a c d e f b h):jL C Q a c d e f b h:=by
 rintro ρ rfl rfl rfl rfl rfl;exact WA.of (by kernel_rfl) H
def zp(C:fj)(Q:fo)(b a:V)(h:Hp):Prop:=oP (fD a) λc=>uK C Q b a c nZ h
theorem HW{C}(s:C.start=fy){a b h Q}(k:C.K iS [a,b] h=none)(H:zp C Q a b h):cP C iS [a,b] h Q:=cP.vd t85 s (by unfold P0;exact Tryz.func85) k H
def t57:List (Nat×List Nat):=[(175,[0,27,28,29])]
def uo(C:fj)(Q:fo)(d a b c:V)(h:Hp):Prop:=∀ρ:gg,ρ 0=d->ρ 27=a->ρ 28=b->ρ 29=c->WA C Tryz.f57 t57 87 [] Q ρ h
def vg(C:fj)(Q:fo)(i:Jn)(j d e c:V)(h:Hp):Prop:=bO .lss 3 c e (oP (gP 4 d c) λk=>oP (gy 4 k h) λl=>hZ (zC 85 [nZ,nZ,nS,nS]) h λf O=>fg (gL 4 f l O) λP g=>dG 2 f g λm=>oP (ef .gtr 3 m (V.I 40)) λn=>oP (mm n (oB (fK 3 f) λo=>oB (eC o g) λp=>oB (fD p) λq=>ef .gtr 3 q (V.I 60))) λa=>oP (gW false a) λr=>oP (gV r (some j)) λs=>oP (gW false a) λt=>oP (gV t (fK 2 f)) λu=>oP (gW false a) λv=>oP (gV v (eC u g)) λw=>oP (gW false a) λx=>oP (gC x (some (iS,[s,w]))) λy=>AS C y g λz M=>oP (mm a (qH .not z)) λb=>oP (gW false b) λA=>oP (gV A (some j)) λB=>oP (gW false b) λD=>oP (gV D (fK 3 f)) λE=>oP (gW false b) λF=>oP (gV F (eC E M)) λG=>oP (gW false b) λH=>oP (gC H (some (iS,[B,G]))) λI=>AS C I M λJ N=>oP (mm b (qH .not J)) λK=>bP K (Q bF N) (oP (ef .add 3 c nO) λL=>i j d e L N)) (Q bT h)
theorem DI{C Q}(I)(s:P4 I (vg C Q)){k d a b c h}(i:I k d a b c h):uo C Q d a b c h:=WA.l4 I _ s i
def yJ(C:fj)(Q:fo)(p q:V)(h:Hp):Prop:=oP (gq p) λr=>oP (fK 0 r) λd=>dF 4 d h λe=>oP (gP 1 e q) λf=>oP (gy 1 f h) λg=>hZ (zC 88 [nS]) h λc s=>fg (gL 1 c g s) λt a=>dG 0 c a λi=>oP (ef .eql 3 i nZ) λj=>oP (mm j (oB (fK 0 c) λk=>oB (eC k a) λl=>oB (fD l) λm=>ef .gtr 3 m (V.I 30))) λn=>bP n (Q bF a) (dF 0 c a λb=>oP (fD b) λo=>uo C Q p b o nZ a)
theorem HX{C}(s:C.start=fy){a b h Q}(k:C.K ma [a,b] h=none)(H:yJ C Q a b h):cP C ma [a,b] h Q:=cP.vd t57 s (by unfold P0;exact Tryz.func57) k H
def t58:List (Nat×List Nat):=[(87,[0,36,37]),(351,[0,4,51,52,53]),(190047,[0,4,5,7,51,52,53,59,60,61])]
def vD(C:fj)(Q:fo)(c a b:V)(h:Hp):Prop:=∀ρ:gg,ρ 0=c->ρ 36=a->ρ 37=b->WA C Tryz.f58 t58 43 [] Q ρ h
def uM(C:fj)(Q:fo)(d e a b c:V)(h:Hp):Prop:=∀ρ:gg,ρ 0=d->ρ 4=e->ρ 51=a->ρ 52=b->ρ 53=c->WA C Tryz.f58 t58 175 [] Q ρ h
def uO(C:fj)(Q:fo)(a:AE)(i j k l b c d e f g:V)(h:Hp):Prop:=∀ρ:gg,ρ 0=i->ρ 4=j->ρ 5=k->ρ 7=l->ρ 51=b->ρ 52=c->ρ 53=d->ρ 59=e->ρ 60=f->ρ 61=g->WA C Tryz.f58 t58 95023 [λρ h=>a (ρ 0) (ρ 4) (ρ 51) (ρ 52) (ρ 53) h] Q ρ h
def tU(C:fj)(Q:fo)(e:MA)(d b a:V)(h:Hp):Prop:=bO .lss 3 a b (dN 5 d h λf=>oP (gP 1 f a) λg=>fg (gL 1 g (V.I (-1)) h) λn m=>oP (ef .add 3 a nO) λi=>e d b i m) (oP (gq d) λj=>oP (fK 0 j) λk=>dF 3 k h λc=>oP (fD c) λl=>uM C Q d nZ c l nZ h)
theorem Df{C Q}(I)(s:P3 I (tU C Q)){k c a b h}(i:I k c a b h):vD C Q c a b h:=WA.l3 I _ s i
def vw(C:fj)(Q:fo)(j:AE)(n o b c a:V)(h:Hp):Prop:=bO .lss 3 a c (oP (gP 6 b a) λk=>oP (gy 6 k h) λl=>hZ (zC 79 [nS,nZ,nZ,nS,nS,nZ]) h λp r=>fg (gL 6 p l r) λs q=>dF 0 p q λd=>oP (fD d) λm=>uO C Q j n o a bT b c a d m nZ q) (oP (gq n) λe=>oP (fK 0 e) λf=>dG 2 f h λg=>oP (ef .eql 3 o g) λi=>Q i h)
theorem DQ{C Q}(I)(s:P5 I (vw C Q)){k d e a b c h}(i:I k d e a b c h):uM C Q d e a b c h:=WA.l5 I _ s i
def vz(C:fj)(Q:fo)(D:AE)(E:CL)(d x4 F x7 g i j k l b:V)(h:Hp):Prop:=bO .lss 3 b l (dX 1 k b h λa=>oP (gq d) λG=>oP (fK 0 G) λH=>dG 2 H h λI=>cP C ka [a,I] h λJ c=>oP (qH .not J) λK=>oP (mm K (oB (some d) λL=>oB (gq L) λM=>oB (fK 5 M) λN=>oB (eC N c) λO=>oB (some a) λP=>oB (gP 1 O P) λR=>oB (eC R c) λS=>ef .geq 3 S nZ)) λT=>bP T (Q bF c) (oP (gq d) λU=>oP (fK 0 U) λW=>dJ 2 W 6 a 0 c λe=>oP (ef .eql 3 e (V.I 21)) λX=>oP (mm X (oB (some e) λY=>ef .eql 3 Y nO)) λf=>oP (iM f (oB (some x7) λm=>qH .not m)) λn=>oP (mm n (oB (some e) λo=>oB (ef .eql 3 o nO) λp=>oB (some F) λq=>oB (ef .eql 3 q nZ) λr=>oB (ef .neq 4 p r) λs=>oB (some s) λt=>iM t (some f))) λu=>bP u (Q bF c) (dN 5 d c λv=>dN 6 d c λw=>oP (gP 1 v a) λx=>fg (gL 1 x F c) λvu Z=>(c.next<=Z.next/\oP (gP 1 w a) λy=>fg (gL 1 y b Z) λaa h3=>(Z.next<=h3.next/\oP (ef .add 3 x4 nO) λz=>oP (ef .add 3 b nO) λA=>E d z F f g i j k l A h3))))) (oP (ef .add 3 j nO) λB=>D d x4 g i B h)
theorem DS{C Q a}(I)(s:P10 I (vz C Q a)){k j l m n b c d e f g h}(i:I k j l m n b c d e f g h):uO C Q a j l m n b c d e f g h:=WA.l10 I _ s i
def yL(C:fj)(Q:fo)(b:V)(h:Hp):Prop:=oP (gq b) λm=>oP (fK 0 m) λn=>oP (fK 2 n) λd=>oP (eC d h) λe=>oP (fD e) λf=>vj (jo 3 1 8 nZ f f) h λo p k=>oP (gq b) λq=>oP (fK 0 q) λr=>oP (fK 2 r) λg=>oP (eC g k) λi=>oP (fD i) λj=>vj (jo 3 1 8 nZ j j) k λa s c=>oP (gq b) λt=>oP (fK 5 t) λu=>((c.get (k.next)=some a/\O.beq a a=true)/\((eC g c=some i)/\((c.get (h.next)=some o/\O.beq o o=true)/\((eC d c=some e)/\fg (gL 1 u p c) λB l=>(c.next<=l.next/\oP (gq b) λv=>oP (fK 6 v) λw=>((l.get (k.next)=some a/\O.beq a a=true)/\fg (gL 1 w s l) λA x=>(l.next<=x.next/\oP (gq b) λy=>dG 5 y x λz=>vD C Q b z nZ x)))))))
theorem Ib{C}(s:C.start=fy){a h Q}(k:C.K oh [a] h=none)(H:yL C Q a h):cP C oh [a] h Q:=cP.vd t58 s (by unfold P0;exact Tryz.func58) k H
section
variable (C:fj)(Q:X->gg->Hp->Prop)(ρ:gg)(h:Hp)
def T0:=ES Tryz.f59
noncomputable def zck:=T0.r
noncomputable def zb6:=T0.r.r
noncomputable def zcz:=T0.r.r.l.r
noncomputable def zb9:=T0.r.r.r
noncomputable def zfq:=andThen (Wp C 94 zb9 Q) Q
noncomputable def zcg:=T0.r.r.l.r.l.r
noncomputable def zce:=T0.r.r.r.l.r
noncomputable def zcF:=T0.r.r.r.r
noncomputable def q90:=andThen (Wp C 94 zcF Q) Q
noncomputable def zcn:=T0.r.r.r.l.r.l.r
noncomputable def zfv(C:fj)(Q:XQ):XQ:=oI 0 Q
noncomputable def zcS:=T0.r.r.r.r.r
noncomputable def zcs:=T0.r.r.r.l.r.l.r.l.r
noncomputable def Zj:=T0.r.r.r.l.r.l.r.r.r
noncomputable def Z9:=T0.r.r.r.l.r.l.r.r.r.l.r
noncomputable def Zw:=T0.r.r.r.l.r.l.r.r.r.r.r
noncomputable def Zh:=T0.r.r.r.l.r.l.r.r.r.r.r.l.r
theorem e59:gJ C 94 T0 Q ρ h=(oP (some (V.bool false)) λa=>
 Wp C 94 zck Q (fc ρ 4 a) h):=by kernel_rfl
theorem zfW:gJ C 94 zck Q ρ h=(oP (some (ρ 0)) λe=>
 oP (gq e) λf=>
 oP (fK 0 f) λg=>
 oP (fK 2 g) λi=>
 oP (eC i h) λa=>
 oP (some (ρ 1)) λb=>
 oP (gP 6 a b) λc=>
 oP (gy 6 c h) λd=>
 hZ (some (.cells 81 1 true false [(V.I 0),(V.I 0),(V.I 0),(V.I 0),V.ed,(V.I 0)],λl=> .ptr l 0)) h λj k=>
 fg (gL 6 j d k) λn m=>
 Wp C 94 zb6 Q (fc (fc (fc (fc (fc (fc (fc (fc (fc ρ 6 e) 7 f) 8 g) 9 i) 10 a) 11 b) 12 c) 13 d) 5 j) m):=by kernel_rfl
theorem ze3:gJ C 94 zb6 Q ρ h=(oP (fK 0 (ρ 5)) λd=>
 oP (eC d h) λs=>
 ((eC d h=some s)/\
 ((fK 0 (ρ 5)=some d)/\
 dcP C DH [s] h λt D=>
 (h.next<=D.next/\
 oP (ef .eql 9 t (V.str [])) λe=>
 oP (some e) λb=>
 oP (gW false b) λW=>
 oP (gV W (some (ρ 0))) λf=>
 oP (gW false b) λb6=>
 oP (gV b6 (gy 6 (ρ 5) D)) λu=>
 ((gT b6 (gy 6 (ρ 5) D=some u))/\
 ((gT W (some (ρ 0)=some f))/\
 ((some e=some b)/\
 ((ef .eql 9 t (V.str [])=some e)/\
 oP (gW false b) λb7=>
 oP (gC b7 (some (sQ,[u]))) λx7=>AS C x7 D λE X=>
 (D.next<=X.next/\
 ((gT W (some (ρ 0)=some f))/\
 oP (gW false b) λb8=>
 oP (gC b8 (some (iS,[f,E]))) λx8=>AS C x8 X λv F=>
 (X.next<=F.next/\
 oP (gW false b) λb9=>
 oP (gV b9 (qH .not v)) λg=>
 oP (tA b (V.bool true) g) λi=>
 oP (some i) λc=>
 oP (gW false c) λG=>
 oP (gV G (fK 0 (ρ 5))) λj=>
 oP (gW false c) λH=>
 oP (gV H (eC j F)) λw=>
 ((gT H (eC j F=some w))/\
 ((gT G (fK 0 (ρ 5)=some j))/\
 ((some i=some c)/\
 ((tA b (V.bool true) g=some i)/\
 ((gT b9 (qH .not v=some g))/\
 oP (gW false c) λY=>
 oP (gC Y (some (qK,[w]))) λZ=>AS C Z F λx y=>
 (F.next<=y.next/\
 oP (gW false c) λI=>
 oP (gV I (some x)) λa=>
 oP (gW true a) λJ=>
 oP (gV J (fK 5 (ρ 5))) λk=>
 oP (gW true a) λK=>
 oP (gV K (eC k y)) λz=>
 oP (gW true a) λL=>
 oP (gV L (some (ρ 0))) λl=>
 oP (gW true a) λM=>
 oP (gV M (gq l)) λm=>
 oP (gW true a) λN=>
 oP (gV N (fK 0 m)) λn=>
 oP (gW true a) λO=>
 oP (gV O (fK 4 n)) λo=>
 oP (gW true a) λP=>
 oP (gV P (eC o y)) λp=>
 oP (gW true a) λR=>
 oP (gV R (fD p)) λA=>
 ((gT R (fD p=some A))/\
 ((gT P (eC o y=some p))/\
 ((gT O (fK 4 n=some o))/\
 ((gT N (fK 0 m=some n))/\
 ((gT M (gq l=some m))/\
 ((gT L (some (ρ 0)=some l))/\
 ((gT K (eC k y=some z))/\
 ((gT J (fK 5 (ρ 5)=some k))/\
 ((gT I (some x=some a))/\
 oP (gW true a) λaa=>
 oP (gC aa (some (ka,[z,A]))) λab=>AS C ab y λB h5=>
 (y.next<=h5.next/\
 oP (gW true a) λS=>
 oP (gV S (qH .not B)) λq=>
 oP (gW false c) λT=>
 oP (gV T (tA a q (V.bool false))) λr=>
 oP (tA c (V.bool true) r) λU=>
 ((tA c (V.bool true) r=some U)/\
 ((gT T (tA a q (V.bool false)=some r))/\
 ((gT S (qH .not B=some q))/\
 Wp C 94 zcz (zfq C Q) (fc (fc (fc (fc (fc (fc (fc (fc (fc (fc (fc (fc (fc (fc (fc (fc (fc (fc (fc (fc (fc (fc (fc (fc (fc (fc (fc (fc ρ 14 d) 15 s) 16 t) 17 e) 18 b) 19 f) 20 u) 21 E) 22 v) 23 g) 24 i) 25 c) 26 j) 27 w) 28 x) 29 a) 30 k) 31 z) 32 l) 33 m) 34 n) 35 o) 36 p) 37 A) 38 B) 39 q) 40 r) 41 U) h5)))))))))))))))))))))))))))))):=by kernel_rfl
theorem zfk:gJ C 94 zb9 Q ρ h=(oP (fK 0 (ρ 5)) λa=>
 oP (eC a h) λb=>
 Wp C 94 zce (q90 C Q) (fc (fc ρ 42 a) 43 b) h):=by kernel_rfl
theorem zgk:gJ C 94 zcz Q ρ h=(oP (some (ρ 41)) λc=>
 bP c (
 oP (some (V.bool false)) λa=>
 Wp C 94 zcg Q (fc ρ 4 a) h) (
 Q .normal ρ h)):=by kernel_rfl
theorem zfS:gJ C 94 zcF Q ρ h=(oP (some (V.bool true)) λa=>
 Wp C 94 zcS Q (fc ρ 4 a) h):=by kernel_rfl
theorem zfR:gJ C 94 zce Q ρ h=(oP (ef .eql 3 (ρ 43) (V.I 20)) λa=>
 oP (some a) λb=>
 Wp C 94 zcn (zfv C Q) (fc (fc ρ 45 a) 44 b) h):=by kernel_rfl
theorem zf9:gJ C 94 zcS Q ρ h=(Q .ret ρ h):=by kernel_rfl
theorem zfT:gJ C 94 zcg Q ρ h=(Q .ret ρ h):=by kernel_rfl
theorem ze9:gJ C 94 zcn Q ρ h=(oP (some (ρ 44)) λc=>
 bP c (
 oP (fK 4 (ρ 5)) λa=>
 oP (eC a h) λb=>
 oP (fD b) λd=>
 oP (ef .eql 3 d (V.I 1)) λe=>
 oP (some e) λi=>
 Wp C 94 zcs Q (fc (fc (fc (fc (fc ρ 46 a) 47 b) 48 d) 49 e) 4 i) h) (
 oP (ef .eql 3 (ρ 43) (V.I 21)) λf=>
 oP (some f) λg=>
 Wp C 94 Zj Q (fc (fc ρ 51 f) 50 g) h)):=by kernel_rfl
theorem zfi:gJ C 94 zcs Q ρ h=(Q .ret ρ h):=by kernel_rfl
theorem zdq:gJ C 94 Zj Q ρ h=(oP (some (ρ 50)) λc=>
 bP c (
 oP (fK 4 (ρ 5)) λa=>
 oP (eC a h) λb=>
 oP (fD b) λd=>
 oP (some (ρ 0)) λe=>
 oP (gq e) λf=>
 oP (fK 0 f) λg=>
 oP (fK 3 g) λi=>
 oP (eC i h) λj=>
 oP (some (ρ 0)) λk=>
 oP (gq k) λl=>
 oP (fK 5 l) λm=>
 oP (eC m h) λn=>
 oP (some (ρ 1)) λo=>
 oP (gP 1 n o) λp=>
 oP (eC p h) λq=>
 oP (gP 6 j q) λr=>
 oP (fK 4 r) λs=>
 oP (eC s h) λt=>
 oP (fD t) λu=>
 oP (ef .eql 3 d u) λv=>
 oP (some v) λy=>
 ((some v=some y)/\
 ((ef .eql 3 d u=some v)/\
 ((fD t=some u)/\
 ((eC s h=some t)/\
 ((fK 4 r=some s)/\
 ((gP 6 j q=some r)/\
 ((eC p h=some q)/\
 ((gP 1 n o=some p)/\
 ((some (ρ 1)=some o)/\
 ((eC m h=some n)/\
 ((fK 5 l=some m)/\
 ((gq k=some l)/\
 ((some (ρ 0)=some k)/\
 ((eC i h=some j)/\
 ((fK 3 g=some i)/\
 ((fK 0 f=some g)/\
 ((gq e=some f)/\
 ((some (ρ 0)=some e)/\
 ((fD b=some d)/\
 ((eC a h=some b)/\
 ((fK 4 (ρ 5)=some a)/\
 Wp C 94 Z9 Q (fc (fc (fc (fc (fc (fc (fc (fc (fc (fc (fc (fc (fc (fc (fc (fc (fc (fc (fc (fc (fc ρ 52 a) 53 b) 54 d) 55 e) 56 f) 57 g) 58 i) 59 j) 60 k) 61 l) 62 m) 63 n) 64 o) 65 p) 66 q) 67 r) 68 s) 69 t) 70 u) 71 v) 4 y) h)))))))))))))))))))))) (
 oP (ef .eql 3 (ρ 43) (V.I 1)) λw=>
 oP (some w) λx=>
 Wp C 94 Zw Q (fc (fc ρ 73 w) 72 x) h)):=by kernel_rfl
theorem zc6:gJ C 94 Z9 Q ρ h=(Q .ret ρ h):=by kernel_rfl
theorem zdI:gJ C 94 Zw Q ρ h=(oP (some (ρ 72)) λc=>
 bP c (
 oP (fK 3 (ρ 5)) λd=>
 oP (eC d h) λe=>
 oP (ef .geq 2 e (V.I 0)) λf=>
 oP (some f) λb=>
 oP (gW true b) λH=>
 oP (gV H (fK 3 (ρ 5))) λg=>
 oP (gW true b) λI=>
 oP (gV I (eC g h)) λi=>
 oP (gW true b) λJ=>
 oP (gV J (ef .lss 2 i (V.I 40))) λj=>
 oP (tA b j (V.bool false)) λk=>
 oP (some k) λa=>
 oP (gW true a) λK=>
 oP (gV K (some (ρ 0))) λl=>
 oP (gW true a) λw=>
 oP (gV w (gq l)) λm=>
 oP (gW true a) λx=>
 oP (gV x (fK 0 m)) λn=>
 oP (gW true a) λy=>
 oP (gV y (fK 2 n)) λo=>
 oP (gW true a) λz=>
 oP (gV z (eC o h)) λp=>
 oP (gW true a) λA=>
 oP (gV A (some (ρ 1))) λq=>
 oP (gW true a) λB=>
 oP (gV B (iL 6 p none (some q) h)) λr=>
 oP (gW true a) λD=>
 oP (gV D (some (V.func jt [] [(ρ 5)]))) λs=>
 oP (gW true a) λE=>
 oP (gC E (some (gX,[r,s]))) λF=>AS C F h λt L=>
 oP (gW true a) λG=>
 oP (gV G (qH .not t)) λu=>
 oP (tA a u (V.bool false)) λv=>
 oP (some v) λM=>
 Wp C 94 Zh Q (fc (fc (fc (fc (fc (fc (fc (fc (fc (fc (fc (fc (fc (fc (fc (fc (fc (fc (fc (fc (fc ρ 74 d) 75 e) 76 f) 77 b) 78 g) 79 i) 80 j) 81 k) 82 a) 83 l) 84 m) 85 n) 86 o) 87 p) 88 q) 89 r) 90 s) 91 t) 92 u) 93 v) 4 M) L) (
 Q .normal ρ h)):=by kernel_rfl
theorem zdo:gJ C 94 Zh Q ρ h=(Q .ret ρ h):=by kernel_rfl
theorem g59{C:fj}(hs:C.start=fy)(a b:V){h:Hp}{Q:fo}(c:C.K j6 [a,b] h=none)(H:gJ C 94 T0 (zK [.tmp 4] Q) (Il [a,b]) h):cP C j6 [a,b] h Q:=
 cP.Sh hs (show P0.funcs[59]? =some Tryz.f59 by unfold P0;exact Tryz.func59) (by kernel_rfl) (by kernel_rfl) (by kernel_rfl) c (Iv rfl) (Wp.code _ H)
noncomputable def tX(C:fj) (Q:fo) (p u:V) (h:Hp):Prop:=oP (gq p) λv7=>oP (fK 0 v7) λv8=>oP (fK 2 v8) λv9=>oP (eC v9 h) λv=>oP (gP 6 v u) λw=>oP (gy 6 w h) λx=>hZ (some (.cells 81 1 true false [(V.I 0),(V.I 0),(V.I 0),(V.I 0),V.ed,(V.I 0)],λl=> .ptr l 0)) h λd h1=>fg (gL 6 d x h1) λvu y=>oP (fK 0 d) λz=>oP (eC z y) λA=>cP C DH [A] y λB s=>(y.next<=s.next/\oP (ef .eql 9 B (V.str [])) λe=>oP (gW false e) λb5=>oP (gV b5 (some p)) λD=>oP (gW false e) λb6=>oP (gV b6 (gy 6 d s)) λE=>oP (gW false e) λb7=>oP (gC b7 (some (sQ,[E]))) λy7=>AS C y7 s λF G=>(s.next<=G.next/\oP (gW false e) λb8=>oP (gC b8 (some (iS,[D,F]))) λy8=>AS C y8 G λH t=>(G.next<=t.next/\oP (mm e (qH .not H)) λf=>oP (gW false f) λI=>oP (gV I (fK 0 d)) λJ=>oP (gW false f) λK=>oP (gV K (eC J t)) λL=>oP (gW false f) λM=>oP (gC M (some (qK,[L]))) λN=>AS C N t λO q=>(t.next<=q.next/\oP (gW false f) λP=>oP (gV P (some O)) λa=>oP (gW true a) λR=>oP (gV R (fK 5 d)) λS=>oP (gW true a) λT=>oP (gV T (eC S q)) λU=>oP (gW true a) λW=>oP (gV W (some p)) λX=>oP (gW true a) λY=>oP (gV Y (gq X)) λZ=>oP (gW true a) λaa=>oP (gV aa (fK 0 Z)) λab=>oP (gW true a) λac=>oP (gV ac (fK 4 ab)) λae=>oP (gW true a) λag=>oP (gV ag (eC ae q)) λah=>oP (gW true a) λai=>oP (gV ai (fD ah)) λaj=>oP (gW true a) λak=>oP (gC ak (some (ka,[U,aj]))) λal=>AS C al q λam c=>(q.next<=c.next/\oP (gW true a) λan=>oP (gV an (qH .not am)) λao=>oP (mm f (tA a ao (V.bool false))) λaq=>bP aq (Q (V.bool false) c) (oP (fK 0 d) λar=>oP (eC ar c) λg=>oP (ef .eql 3 g (V.I 20)) λau=>bP au (oP (fK 4 d) λaw=>oP (eC aw c) λax=>oP (fD ax) λay=>oP (ef .eql 3 ay (V.I 1)) λaz=>Q az c) (oP (ef .eql 3 g (V.I 21)) λaA=>bP aA (oP (fK 4 d) λaB=>oP (eC aB c) λaC=>oP (fD aC) λaD=>oP (gq p) λaE=>oP (fK 0 aE) λaF=>oP (fK 3 aF) λaG=>oP (eC aG c) λaH=>oP (gq p) λaI=>oP (fK 5 aI) λaJ=>oP (eC aJ c) λaK=>oP (gP 1 aK u) λaL=>oP (eC aL c) λaM=>oP (gP 6 aH aM) λaN=>oP (fK 4 aN) λaO=>oP (eC aO c) λaP=>oP (fD aP) λaQ=>oP (ef .eql 3 aD aQ) λaR=>Q aR c) (oP (ef .eql 3 g (V.I 1)) λaS=>bP aS (oP (fK 3 d) λaT=>oP (eC aT c) λaU=>oP (ef .geq 2 aU (V.I 0)) λaV=>oP (iM aV (oB (fK 3 d) λaW=>oB (eC aW c) λaX=>ef .lss 2 aX (V.I 40))) λb=>oP (gW true b) λr=>oP (gV r (some p)) λaY=>oP (gW true b) λaZ=>oP (gV aZ (gq aY)) λa2=>oP (gW true b) λa3=>oP (gV a3 (fK 0 a2)) λa4=>oP (gW true b) λi=>oP (gV i (fK 2 a4)) λa5=>oP (gW true b) λj=>oP (gV j (eC a5 c)) λa6=>oP (gW true b) λk=>oP (gV k (some u)) λa7=>oP (gW true b) λm=>oP (gV m (iL 6 a6 none (some a7) c)) λa8=>oP (gW true b) λn=>oP (gV n (some (V.func jt [] [d]))) λa9=>oP (gW true b) λo=>oP (gC o (some (gX,[a8,a9]))) λba=>AS C ba c λbb h8=>oP (iM b (qH .not bb)) λbc=>Q bc h8) (Q (V.bool true) c)))))))))
theorem JY{C:fj}(hs:C.start=fy){R S:V}{h:Hp}{Q:fo}(hk:C.K j6 [R,S] h=none)(H:tX C Q R S h):cP C j6 [R,S] h Q:=by
 unfold tX at H;exact g59 hs _ _ hk ((e59 _ _ _ _).mpr (km (Wp.of (zfW _ _ _ _) (km (oM H λv7 _ H=>oM H λv8 _ H=>oM H λv9 _ H=>oM H λaw _ H=>km (oM H λax _ H=>oM H λay _ H=>alM H λv5 h1 H=>Nq H λvu h2 H=>Wp.of (ze3 _ _ _ _) (oM H λaz b H=>oM H λaA c H=>⟨c,⟨b,dcM H λaB h3 H=>Mn H λH=>oM H λaC d H=>km (oM H λb5 _ H=>oM H λaD a H=>oM H λb6 _ H=>oM H λaE e H=>⟨(xe e),⟨(xe a),⟨rfl,⟨d,oM H λb7 _ H=>oM H λy7 _ H=>cgM H λaF h4 H=>Mn H λH=>⟨(xe a),oM H λb8 _ H=>oM H λy8 _ H=>cgM H λaG h5 H=>Mn H λH=>thn (Q7 H) λH=>oM H λb9 ab H=>oM H λaH f H=>oM H λaI g H=>km (oM H λaJ _ H=>oM H λaK i H=>oM H λaL _ H=>oM H λaM j H=>⟨(xe j),⟨(xe i),⟨rfl,⟨g,⟨(xe f),oM H λaN _ H=>oM H λaO _ H=>cgM H λaP h6 H=>Mn H λH=>oM H λaQ _ H=>oM H λaR k H=>oM H λaS _ H=>oM H λaT l H=>oM H λaU _ H=>oM H λaV m H=>oM H λaW _ H=>oM H λaX n H=>oM H λaY _ H=>oM H λaZ o H=>oM H λa2 _ H=>oM H λa3 p H=>oM H λa4 _ H=>oM H λa5 q H=>oM H λa6 _ H=>oM H λa7 r H=>oM H λa8 _ H=>oM H λa9 s H=>⟨(xe s),⟨(xe r),⟨(xe q),⟨(xe p),⟨(xe o),⟨(xe n),⟨(xe m),⟨(xe l),⟨(xe k),oM H λba _ H=>oM H λbb _ H=>cgM H λbc h7 H=>Mn H λH=>oM H λbd _ H=>oM H λbe t H=>thn (Q7 H) λH=>oM H λbf ac H=>oM H λbg u H=>oM H λbi v H=>⟨v,⟨(xe u),⟨(xe t),Wp.of (zgk _ _ _ _) (km (bM H (λH=>km (Wp.of (zfT _ _ _ _) (H))) (λH=>Wp.of (zfk _ _ _ _) (oM H λbj _ H=>oM H λbm _ H=>Wp.of (zfR _ _ _ _) (oM H λbn _ H=>km (Wp.of (ze9 _ _ _ _) (km (bM H (λH=>oM H λbo _ H=>oM H λbp _ H=>oM H λbr _ H=>oM H λbt _ H=>km (Wp.of (zfi _ _ _ _) (H))) (λH=>oM H λbu _ H=>km (Wp.of (zdq _ _ _ _) (km (bM H (λH=>oM H λbv w H=>oM H λbw x H=>oM H λbx y H=>km (oM H λbz z H=>oM H λbA A H=>oM H λbC B H=>oM H λbD D H=>km (oM H λbE E H=>oM H λbG F H=>oM H λbH G H=>km (oM H λbI I H=>oM H λbJ J H=>oM H λbK L H=>oM H λbL M H=>oM H λbQ N H=>oM H λbR O H=>oM H λbS P H=>km (⟨rfl,⟨P,⟨O,⟨N,⟨M,⟨L,⟨J,⟨I,⟨rfl,⟨G,⟨F,⟨E,⟨rfl,⟨D,⟨B,⟨A,⟨z,⟨rfl,⟨y,⟨x,⟨w,Wp.of (zc6 _ _ _ _) (H)⟩⟩⟩⟩⟩⟩⟩⟩⟩⟩⟩⟩⟩⟩⟩⟩⟩⟩⟩⟩⟩))))) (λH=>oM H λbU _ H=>km (Wp.of (zdI _ _ _ _) (km (bM H (λH=>oM H λbV _ H=>oM H λbW _ H=>oM H λbX _ H=>km (thn (TO H) λH=>sG1 H λb4 ae bY ag H=>sG1 H λah ai bZ aj H=>oM H λak al H=>oM H λb1 am H=>oM H λb2 an H=>km (oM H λao _ H=>oM H λb3 _ H=>oM H λca _ H=>oM H λcb _ H=>oM H λcd _ H=>oM H λce _ H=>oM H λT _ H=>oM H λcf _ H=>oM H λU _ H=>oM H λcg _ H=>oM H λW _ H=>oM H λci _ H=>oM H λX _ H=>oM H λcj _ H=>oM H λY _ H=>oM H λcm _ H=>oM H λZ _ H=>oM H λcn _ H=>cgM H λco h8 H=>thn (TO H) λH=>oM H λaa aq H=>oM H λcp ar H=>oM H λcq au H=>km (Wp.of (zdo _ _ _ _) (H))))) (λH=>Wp.of (zfS _ _ _ _) (km (Wp.of (zf9 _ _ _ _) (H))))))))))))))))))))⟩⟩⟩⟩⟩⟩⟩⟩⟩⟩⟩⟩⟩⟩⟩⟩⟩)⟩⟩⟩⟩⟩)⟩⟩)))))))
end
def t60:List (Nat×List Nat):=[(87,[0,5,17,18,19])]
def vO(C:fj)(Q:fo)(d e a b c:V)(h:Hp):Prop:=∀ρ:gg,ρ 0=d->ρ 5=e->ρ 17=a->ρ 18=b->ρ 19=c->WA C Tryz.f60 t60 43 [] Q ρ h
def vR(C:fj)(Q:fo)(o:AE)(n c f g d:V)(h:Hp):Prop:=bO .lss 3 d g (dX 1 f d h λp=>oP (gq n) λq=>oP (fK 0 q) λs=>dG 3 s h λt=>cP C ka [p,t] h λu Y=>bN u (Q bF Y) (oP (ef .add 3 d nO) λv=>o n c f g v Y)) (dF 1 c h λe=>bO .eql 3 e nO (dG 3 c h λw=>oP (ef .eql 3 w nO) λx=>Q x h) (bO .eql 3 e (V.I 2) (dG 3 c h λy=>oP (ef .eql 3 y (V.I 2)) λb=>oP (gW true b) λb5=>oP (gV b5 (some n)) λz=>oP (gW true b) λb6=>oP (gV b6 (fK 2 c)) λA=>oP (gW true b) λb7=>oP (gV b7 (eC A h)) λB=>oP (gW true b) λb8=>ghP b8 h (oB (iK 3 1 1 nZ [(0,B)]) λr=>some (r.2 h.next,h.new r.1)) λD h2=>oP (gW true b) λb9=>oP (gC b9 (some (iS,[z,D]))) λy9=>AS C y9 h2 λE h3=>oP (tA b E bF) λF=>Q F h3) (bO .eql 3 e (V.I 3) (dG 3 c h λG=>oP (ef .eql 3 G nZ) λa=>oP (gW true a) λi=>oP (gV i (fK 5 c)) λH=>oP (gW true a) λj=>oP (gV j (eC H h)) λI=>oP (gW true a) λk=>oP (gV k (some n)) λJ=>oP (gW true a) λl=>oP (gV l (gq J)) λK=>oP (gW true a) λm=>oP (gV m (fK 0 K)) λL=>oP (gW true a) λM=>oP (gV M (fK 4 L)) λN=>oP (gW true a) λO=>oP (gV O (eC N h)) λP=>oP (gW true a) λR=>oP (gV R (fD P)) λS=>oP (gW true a) λT=>oP (gC T (some (ka,[I,S]))) λU=>AS C U h λW Z=>(h.next<=Z.next/\oP (tA a W bF) λX=>Q X Z)) (Q bF h))))
theorem ED{C Q}(I)(s:P5 I (vR C Q)){k d e a b c h}(i:I k d e a b c h):vO C Q d e a b c h:=WA.l5 I _ s i
def zR(C:fj)(Q:fo)(i k:V)(h:Hp):Prop:=oP (gq i) λl=>oP (fK 0 l) λb=>dF 3 b h λc=>oP (gP 6 c k) λd=>oP (gy 6 d h) λe=>hZ (zC 79 [nS,nZ,nZ,nS,nS,nZ]) h λf m=>fg (gL 6 f e m) λn j=>dF 3 f j λa=>oP (fD a) λg=>vO C Q i f a g nZ j
theorem Iy{C}(s:C.start=fy){a b h Q}(k:C.K mB [a,b] h=none)(H:zR C Q a b h):cP C mB [a,b] h Q:=cP.vd t60 s (by unfold P0;exact Tryz.func60) k H
def t61:List (Nat×List Nat):=[(171,[0,1,16,17,18]),(14,[0,1]),(175,[0,7,54,55,56])]
def xo(C:fj)(Q:fo)(d e a b c:V)(h:Hp):Prop:=∀ρ:gg,ρ 0=d->ρ 1=e->ρ 16=a->ρ 17=b->ρ 18=c->WA C Tryz.f61 t61 85 [] Q ρ h
def mX(C:fj)(Q:fo)(a b:V)(h:Hp):Prop:=∀ρ:gg,ρ 0=a->ρ 1=b->WA C Tryz.f61 t61 7 [] Q ρ h
def xF(C:fj)(Q:fo)(d e a b c:V)(h:Hp):Prop:=∀ρ:gg,ρ 0=d->ρ 7=e->ρ 54=a->ρ 55=b->ρ 56=c->WA C Tryz.f61 t61 87 [] Q ρ h
def xV(C:fj)(Q:fo)(e:AE)(f t b c a:V)(h:Hp):Prop:=bO .lss 3 a c (dX 1 b a h λd=>oP (gq f) λg=>oP (fK 0 g) λi=>dJ 3 i 6 a 4 h λj=>cP C mi [d,j] h λk u=>oP (qH .not k) λl=>oP (mm l (oB (some a) λm=>oB (ef .eql 3 m nZ) λn=>oB (some n) λo=>iM o (oB (some d) λp=>oB (fD p) λq=>ef .gtr 3 q nZ))) λr=>bP r (Q bF u) (oP (ef .add 3 a nO) λs=>e f t b c s u)) (mX C Q f t h)
theorem Gy{C Q}(I)(s:P5 I (xV C Q)){k d e a b c h}(i:I k d e a b c h):xo C Q d e a b c h:=WA.l5 I _ s i
def xB(C:fj)(Q:fo)(j l:V)(h:Hp):Prop:=oP (gq j) λb=>oP (fK 0 b) λc=>dF 3 c h λd=>oP (gP 6 d l) λe=>oP (gy 6 e h) λf=>hZ (zC 79 [nS,nZ,nZ,nS,nS,nZ]) h λg m=>fg (gL 6 g f m) λn k=>dF 3 g k λa=>oP (fD a) λi=>xF C Q j g a i nZ k
theorem Fb{C:fj}{Q:fo}{a b:V}{h:Hp}(H:xB C Q a b h):mX C Q a b h:=by
 rintro ρ rfl rfl;exact WA.of (by kernel_rfl) H
def yg(C:fj)(Q:fo)(d:AE)(u v b c a:V)(h:Hp):Prop:=bO .lss 3 a c (dX 1 b a h λe=>dF 1 v h λf=>oP (ef .eql 3 f (V.I 2)) λg=>oP (iM g (oB (some u) λi=>oB (gq i) λj=>oB (fK 0 j) λk=>oB (fK 3 k) λl=>oB (eC l h) λm=>oB (some e) λn=>oB (gP 6 m n) λo=>oB (fK 4 o) λp=>oB (eC p h) λq=>oB (fD q) λr=>ef .neq 3 r nO)) λs=>bP s (Q bF h) (oP (ef .add 3 a nO) λt=>d u v b c t h)) (Q bT h)
theorem Gp{C Q}(I)(s:P5 I (yg C Q)){k d e a b c h}(i:I k d e a b c h):xF C Q d e a b c h:=WA.l5 I _ s i
def Ba(C:fj)(Q:fo)(b c:V)(h:Hp):Prop:=bO .eql 3 c nZ (oP (gq b) λd=>oP (fK 0 d) λe=>oP (gy 5 e h) λf=>cP C xY [f] h λa i=>oP (fD a) λg=>xo C Q b c a g nZ i) (mX C Q b c h)
theorem Ju{C}(s:C.start=fy){a b h Q}(k:C.K mV [a,b] h=none)(H:Ba C Q a b h):cP C mV [a,b] h Q:=cP.vd t61 s (by unfold P0;exact Tryz.func61) k H
def t62:List (Nat×List Nat):=[]
def yY(C:fj)(Q:fo)(a:V)(h:Hp):Prop:=oP (gq a) λb=>oP (fK 0 b) λc=>oP (gy 5 c h) λd=>cP C pb [d] h λe f=>Q e f
theorem HH{C}(s:C.start=fy){a h Q}(k:C.K rJ [a] h=none)(H:yY C Q a h):cP C rJ [a] h Q:=cP.vd t62 s (by unfold P0;exact Tryz.func62) k H
def t111:List (Nat×List Nat):=[(19,[0,1,2])]
def qt(C:fj)(Q:fo)(a b c:V)(h:Hp):Prop:=∀ρ:gg,ρ 0=a->ρ 1=b->ρ 2=c->WA C Tryz.f111 t111 9 [] Q ρ h
def qC(C:fj)(Q:fo)(a:MA)(e f b:V)(h:Hp):Prop:=bO .geq 3 b nZ (bO .eql 3 f b (Q bT h) (dN 7 e h λc=>dX 1 c b h λd=>a e f d h)) (Q bF h)
theorem Am{C Q}(I)(s:P3 I (qC C Q)){k a b c h}(i:I k a b c h):qt C Q a b c h:=WA.l3 I _ s i
def tD(C:fj)(Q:fo)(a b c:V)(h:Hp):Prop:=qt C Q a b c h
theorem Ct{C}(s:C.start=fy){a b c h Q}(k:C.K lQ [a,b,c] h=none)(H:tD C Q a b c h):cP C lQ [a,b,c] h Q:=cP.vd t111 s (by unfold P0;exact Tryz.func111) k H
def t94:List (Nat×List Nat):=[(43,[0,2,3,11,12,13])]
def vM(C:fj)(Q:fo)(d e f a b c:V)(h:Hp):Prop:=∀ρ:gg,ρ 0=d->ρ 2=e->ρ 3=f->ρ 11=a->ρ 12=b->ρ 13=c->WA C Tryz.f94 t94 21 [] Q ρ h
def vL(C:fj)(Q:fo)(g:OF)(d i T e f b:V)(h:Hp):Prop:=bO .lss 3 b f (dX 1 e b h λc=>dN 5 d h λj=>dX 1 j c h λk=>oP (ef .eql 3 k i) λl=>oP (iM l (oB (some d) λm=>oB (gq m) λn=>oB (fK 6 n) λo=>oB (eC o h) λp=>oB (some c) λq=>oB (gP 1 p q) λr=>oB (eC r h) λs=>oB (some T) λt=>ef .geq 3 s t)) λa=>oP (gW false a) λu=>oP (gV u (some d)) λv=>oP (gW false a) λw=>oP (gV w (some d)) λx=>oP (gW false a) λy=>oP (gV y (gq x)) λz=>oP (gW false a) λA=>oP (gV A (fK 5 z)) λB=>oP (gW false a) λD=>oP (gV D (eC B h)) λE=>oP (gW false a) λF=>oP (gV F (some c)) λG=>oP (gW false a) λH=>oP (gV H (gP 1 E G)) λI=>oP (gW false a) λJ=>oP (gV J (eC I h)) λK=>oP (gW false a) λL=>oP (gV L (some i)) λM=>oP (gW false a) λN=>oP (gC N (some (lQ,[v,K,M]))) λO=>AS C O h λP U=>oP (mm a (qH .not P)) λR=>bP R (Q bF U) (oP (ef .add 3 b nO) λS=>g d i T e f S U)) (Q bT h)
theorem EE{C Q}(I)(s:P6 I (vL C Q)){k d e f a b c h}(i:I k d e f a b c h):vM C Q d e f a b c h:=WA.l6 I _ s i
def Ao(C:fj)(Q:fo)(c b d e:V)(h:Hp):Prop:=oP (fD b) λa=>vM C Q c d e b a nZ h
theorem Jl{C}(s:C.start=fy){a b c d h Q}(k:C.K iZ [a,b,c,d] h=none)(H:Ao C Q a b c d h):cP C iZ [a,b,c,d] h Q:=cP.vd t94 s (by unfold P0;exact Tryz.func94) k H
def t95:List (Nat×List Nat):=[(43,[0,2,3,19,20,21])]
def qz(C:fj)(Q:fo)(d e f a b c:V)(h:Hp):Prop:=∀ρ:gg,ρ 0=d->ρ 2=e->ρ 3=f->ρ 19=a->ρ 20=b->ρ 21=c->WA C Tryz.f95 t95 21 [] Q ρ h
def qi(C:fj)(Q:fo)(f:OF)(g i j d e b:V)(h:Hp):Prop:=bO .lss 3 b e (oP (gP 4 d b) λk=>oP (gy 4 k h) λl=>hZ (zC 85 [nZ,nZ,nS,nS]) h λc F=>fg (gL 4 c l F) λI B=>dF 2 c B λm=>cP C iZ [g,m,i,j] B λn D=>oP (qH .not n) λa=>oP (gW false a) λG=>oP (gV G (some g)) λo=>oP (gW false a) λH=>oP (gV H (fK 3 c)) λp=>oP (gW false a) λq=>oP (gV q (eC p D)) λr=>oP (gW false a) λs=>oP (gV s (some i)) λt=>oP (gW false a) λu=>oP (gV u (some j)) λv=>oP (gW false a) λw=>oP (gC w (some (iZ,[o,r,t,v]))) λx=>AS C x D λy E=>oP (mm a (qH .not y)) λz=>bP z (Q bF E) (oP (ef .add 3 b nO) λA=>f g i j d e A E)) (Q bT h)
theorem zN{C Q}(I)(s:P6 I (qi C Q)){k d e f a b c h}(i:I k d e f a b c h):qz C Q d e f a b c h:=WA.l6 I _ s i
def tz(C:fj)(Q:fo)(e f g i:V)(h:Hp):Prop:=oP (gq e) λb=>oP (fK 0 b) λc=>dJ 4 c 1 f 0 h λa=>oP (fD a) λd=>qz C Q e g i a d nZ h
theorem Ci{C}(s:C.start=fy){a b c d h Q}(k:C.K iX [a,b,c,d] h=none)(H:tz C Q a b c d h):cP C iX [a,b,c,d] h Q:=cP.vd t95 s (by unfold P0;exact Tryz.func95) k H
def t64:List (Nat×List Nat):=[(175,[0,1,5,6,24,25,26]),(1356591,[0,1,5,6,24,25,26,43,44,45]),(3886,[0,1,5,6,24,25,26])]
def ur(C:fj)(Q:fo)(d e f g a b c:V)(h:Hp):Prop:=∀ρ:gg,ρ 0=d->ρ 1=e->ρ 5=f->ρ 6=g->ρ 24=a->ρ 25=b->ρ 26=c->WA C Tryz.f64 t64 87 [] Q ρ h
def uz(C:fj)(Q:fo)(a:Fg)(i j k l b c d e f g:V)(h:Hp):Prop:=∀ρ:gg,ρ 0=i->ρ 1=j->ρ 5=k->ρ 6=l->ρ 24=b->ρ 25=c->ρ 26=d->ρ 43=e->ρ 44=f->ρ 45=g->WA C Tryz.f64 t64 678295 [λρ h=>a (ρ 0) (ρ 1) (ρ 5) (ρ 6) (ρ 24) (ρ 25) (ρ 26) h] Q ρ h
def oK(C:fj)(Q:fo)(a:Fg)(e f g i b c d:V)(h:Hp):Prop:=∀ρ:gg,ρ 0=e->ρ 1=f->ρ 5=g->ρ 6=i->ρ 24=b->ρ 25=c->ρ 26=d->WA C Tryz.f64 t64 1943 [λρ h=>a (ρ 0) (ρ 1) (ρ 5) (ρ 6) (ρ 24) (ρ 25) (ρ 26) h] Q ρ h
def uV(C:fj)(Q:fo)(j:Fg)(d g k t e f b:V)(h:Hp):Prop:=bO .lss 3 b f (dX 1 e b h λu=>oP (gq d) λv=>oP (fK 0 v) λw=>dF 2 w h λx=>oP (gP 6 x u) λy=>oP (gy 6 y h) λz=>hZ (zC 81 [nZ,nZ,nZ,nZ,nS,nZ]) h λi h1=>fg (gL 6 i z h1) λvu l=>dF 0 i l λA=>bO .eql 3 A (V.I 21) (dF 4 i l λm=>oP (fD m) λB=>uz C Q j d g k t e f b m B nZ l) (oP (gy 6 i l) λD=>cP C sQ [D] l λE h3=>cP C iZ [d,E,g,b] h3 λF h4=>oP (qH .not F) λc=>oP (gW false c) λb8=>oP (gV b8 (fK 0 i)) λG=>oP (gW false c) λb9=>oP (gV b9 (eC G h4)) λH=>oP (gW false c) λI=>oP (gC I (some (qK,[H]))) λJ=>AS C J h4 λK h5=>oP (gW false c) λL=>oP (gV L (some K)) λa=>oP (gW true a) λM=>oP (gV M (some d)) λN=>oP (gW true a) λO=>oP (gV O (fK 5 i)) λP=>oP (gW true a) λR=>oP (gV R (eC P h5)) λS=>oP (gW true a) λT=>oP (gV T (some g)) λU=>oP (gW true a) λW=>oP (gV W (some b)) λX=>oP (gW true a) λY=>oP (gC Y (some (iX,[N,S,U,X]))) λZ=>AS C Z h5 λaa h6=>oP (gW true a) λab=>oP (gV ab (qH .not aa)) λac=>oP (mm c (tA a ac bF)) λae=>bP ae (Q bF h6) (oK C Q j d g k t e f b h6))) (dF 1 k h λn=>bO .eql 3 n (V.I 2) (dF 2 k h λo=>hZ (iK 3 1 1 nZ [(0,o)]) h λp h7=>cP C iZ [d,p,g,t] h7 λq h8=>Q q h8) (bO .eql 3 n (V.I 3) (dF 5 k h λr=>cP C iX [d,r,g,t] h λs h9=>Q s h9) (Q bT h)))
theorem DN{C Q}(I)(s:P7 I (uV C Q)){k d e f g a b c h}(i:I k d e f g a b c h):ur C Q d e f g a b c h:=WA.l7 I _ s i
def vE(C:fj)(Q:fo)(k:Fg)(l:CL)(i y j z c d e f g a:V)(h:Hp):Prop:=bO .lss 3 a g (dX 1 f a h λm=>vj (iK 3 1 1 nZ [(0,m)]) h λo2 n b=>dY 4 j 1 a b λo=>oP (gq i) λp=>oP (fK 0 p) λq=>dF 3 q b λr=>dY 4 j 1 a b λs=>oP (gP 6 r s) λt=>dG 0 t b λu=>((b.get (h.next)=some o2/\O.beq o2 o2=true)/\cP C iZ [i,n,o,u] b λv w=>(b.next<=w.next/\bN v (Q bF w) (oP (ef .add 3 a nO) λx=>l i y j z c d e f g x w)))) (oK C Q k i y j z c d e h)
theorem Dc{C Q a}(I)(s:P10 I (vE C Q a)){k j l m n b c d e f g h}(i:I k j l m n b c d e f g h):uz C Q a j l m n b c d e f g h:=WA.l10 I _ s i
def oA(C:fj)(Q:fo)(a:Fg)(f g i j b c d:V)(h:Hp):Prop:=oP (ef .add 3 d nO) λe=>a f g i j b c e h
theorem sZ{C:fj}{Q:fo}{a:Fg}{e f g i b c d:V}{h:Hp}(H:oA C Q a e f g i b c d h):oK C Q a e f g i b c d h:=by
 rintro ρ rfl rfl rfl rfl rfl rfl rfl;exact WA.of (by kernel_rfl) H
def yG(C:fj)(Q:fo)(l m:V)(h:Hp):Prop:=oP (gq l) λc=>oP (fK 0 c) λd=>dF 3 d h λe=>oP (gP 6 e m) λf=>oP (gy 6 f h) λg=>hZ (zC 79 [nS,nZ,nZ,nS,nS,nZ]) h λb n=>fg (gL 6 b g n) λo i=>dG 0 b i λj=>dF 0 b i λa=>oP (fD a) λk=>ur C Q l m b j a k nZ i
theorem Hr{C}(s:C.start=fy){a b h Q}(k:C.K mb [a,b] h=none)(H:yG C Q a b h):cP C mb [a,b] h Q:=cP.vd t64 s (by unfold P0;exact Tryz.func64) k H
def t26:List (Nat×List Nat):=[]
def LN(C:fj)(Q:fo)(a0:V)(h:Hp):Prop:=hZ (nj 34 a0) h λe f=>dG 2 e f λv7=>oP (ef .gtr 3 v7 (V.I 3000)) λv8=>oP (mm v8 (oB (fK 3 e) λp=>oB (eC p f) λq=>oB (fD q) λr=>ef .gtr 3 r (V.I 300))) λs=>oP (mm s (oB (fK 4 e) λt=>oB (eC t f) λu=>oB (fD u) λv=>ef .gtr 3 v (V.I 1000))) λw=>oP (mm w (oB (fK 3 e) λx=>oB (eC x f) λy=>oB (fD y) λz=>ef .eql 3 z nZ)) λA=>bP A (Q bF f) (oP (gy 5 e f) λB=>oP (fm [nZ,nZ,nS,nS,nS,nS,nS,nS] [(0,5),(5,1),(6,1),(7,1)] [(0,B)]) λD=>hZ (nj 139 D) f λa h2=>dG 4 e h2 λE=>cP C jw [a,E,(V.func ma [a] [])] h2 λF h3=>oP (qH .not F) λg=>oP (gW false g) λb9=>oP (gV b9 (some a)) λG=>oP (gW false g) λH=>oP (gC H (some (oh,[G]))) λI=>AS C I h3 λJ h4=>oP (mm g (qH .not J)) λb=>oP (gW false b) λi=>oP (gV i (some a)) λK=>oP (gW false b) λL=>oP (gV L (fK 2 e)) λM=>oP (gW false b) λN=>oP (gV N (eC M h4)) λO=>oP (gW false b) λj=>oP (gV j (fD O)) λP=>oP (gW false b) λk=>oP (gV k (some a)) λR=>oP (gW false b) λl=>oP (gV l (some (V.func j6 [R] []))) λS=>oP (gW false b) λm=>oP (gC m (some (jw,[K,P,S]))) λT=>AS C T h4 λU h5=>oP (mm b (qH .not U)) λc=>oP (gW false c) λW=>oP (gV W (some a)) λX=>oP (gW false c) λY=>oP (gV Y (fK 3 e)) λZ=>oP (gW false c) λaa=>oP (gV aa (eC Z h5)) λab=>oP (gW false c) λac=>oP (gV ac (fD ab)) λae=>oP (gW false c) λag=>oP (gV ag (some a)) λah=>oP (gW false c) λai=>oP (gV ai (some (V.func mB [ah] []))) λaj=>oP (gW false c) λak=>oP (gC ak (some (jw,[X,ae,aj]))) λal=>AS C al h5 λam h6=>oP (mm c (qH .not am)) λd=>oP (gW false d) λan=>oP (gV an (some a)) λao=>oP (gW false d) λaq=>oP (gV aq (fK 3 e)) λar=>oP (gW false d) λau=>oP (gV au (eC ar h6)) λaw=>oP (gW false d) λax=>oP (gV ax (fD aw)) λay=>oP (gW false d) λaz=>oP (gV az (some a)) λaA=>oP (gW false d) λaB=>oP (gV aB (some (V.func mV [aA] []))) λaC=>oP (gW false d) λaD=>oP (gC aD (some (jw,[ao,ay,aC]))) λaE=>AS C aE h6 λaF h7=>oP (mm d (qH .not aF)) λaG=>bP aG (Q bF h7) (cP C rJ [a] h7 λaH o=>oP (fD aH) λaI=>dG 3 e o λaJ=>bO .neq 3 aI aJ (Q bF o) (oP (gy 5 e o) λaK=>cP C qP [aK] o λaL h9=>oP (gq a) λaM=>oP (fK 7 aM) λaN=>fg (gL 1 aN aL h9) λvu n=>dG 3 e n λaO=>cP C jw [a,aO,(V.func mb [a] [])] n λaP aQ=>Q aP aQ)))
theorem Sj{C}(s:C.start=fy){a h Q}(k:C.K tL [a] h=none)(H:LN C Q a h):cP C tL [a] h Q:=cP.vd t26 s (by unfold P0;exact Tryz.func26) k H
end
