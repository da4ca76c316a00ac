/- Parts. -/
import Derived.Test.YtflkbfabonggkaaGreatDoorM14
set_option maxHeartbeats 4000000
namespace Go.Proofs.YtflkbfabonggkaaGreatDoor.Hx
set_option maxRecDepth 100000
noncomputable section
def t70:List (Nat×List Nat):=[(126,[1,3,4,5]),(319,[1,3,4,5])]
def AJ(C:fm)(Q:ft)(a b c d:V)(h:Hp):Prop:=∀ρ:gD,ρ 1=a->ρ 3=b->ρ 4=c->ρ 5=d->WA C Tryz.f70 t70 63 [] Q ρ h
def GS(C:fm)(Q:ft)(a b c d:V)(h:Hp):Prop:=∀ρ:gD,ρ 1=a->ρ 3=b->ρ 4=c->ρ 5=d->WA C Tryz.f70 t70 159 [] Q ρ h
def Gl(C:fm)(Q:ft)(a b c d:V)(h:Hp):Prop:=GS C Q a b c d h
theorem M6{C:fm}{Q:ft}{a b c d:V}{h:Hp}(H:Gl C Q a b c d h):AJ C Q a b c d h:=by
 rintro ρ rfl rfl rfl rfl;exact WA.of (by kernel_rfl) H
def GW(C:fm)(Q:ft)(fM:LX)(g d e c:V)(h:Hp):Prop:=oP (fE c) λi=>bO .gtr 3 i nZ (oP (fE c) λj=>oP (en .sub 3 j nO) λk=>oP (gz 2 c k) λa=>dF 3 g h λl=>dN 0 a h λm=>dI 6 l m 3 h λf=>dN 1 a h λn=>oP (fE f) λo=>bO .eql 3 n o (dN 0 a h λp=>ig (jr 3 1 1 nZ [(0,p)]) h λq P=>fi (eR 3 1 8 e q P) λr N=>oP (fE c) λs=>oP (en .sub 3 s nO) λt=>oP (jf 2 c none (some t) N) λu=>fM g d r u N) (dN 1 a h λv=>dX 1 f v h λb=>dN 1 a h λw=>oP (en .add 3 w nO) λx=>oP (gY a) λy=>oP (fH 1 y) λz=>fi (gI 1 z x h) λY R=>oP (fE d) λA=>cP C kH [b,A] R λB D=>oP (jO B (oB (some d) λE=>oB (some b) λF=>oB (gz 1 E F) λG=>oB (ez G D) λH=>pt .not H)) λI=>bP I (oP (gz 1 d b) λJ=>fi (gI 1 J bT D) λO S=>oP (fV [nZ,nZ] [(0,1),(1,1)] [(0,b),(1,nZ)]) λK=>ig (jr 126 2 1 (V.agg [nZ,nZ]) [(0,K)]) S λL T=>fi (eR 126 2 16 c L T) λM U=>fM g d e M U) (fM g d e c D))) (cP C lG [e] h λW X=>Q e X)
theorem Nl{C Q}(I)(s:P4 I (GW C Q)){k a b c d h}(i:I k a b c d h):GS C Q a b c d h:=WA.l4 I _ s i
def LQ(C:fm)(Q:ft)(a0:V)(h:Hp):Prop:=ig (om 30 a0) h λc k=>dG 3 c k λb=>ig (il 4 1 1 bF b b) k λa d=>dG 3 c d λe=>bO .gtr 3 e nZ (oP (fV [nZ,nZ] [(0,1),(1,1)] []) λf=>ig (jr 126 2 1 (V.agg [nZ,nZ]) [(0,f)]) d λg l=>fi (eR 126 2 16 nS g l) λi m=>oP (gz 1 a nZ) λj=>fi (gI 1 j bT m) λo n=>AJ C Q c a nS i n) (AJ C Q c a nS nS d)
theorem Q8{C}(s:C.start=fN){a0 h Q}(k:C.K oV [a0] h=none)(H:LQ C Q a0 h):cP C oV [a0] h Q:=cP.vd t70 s (by unfold P0;exact Tryz.func70) k H
def t68:List (Nat×List Nat):=[(87,[3,13,14,15]),(22935,[3,4,13,14,15,21,22,23]),(498070,[3,4,13,14,15,21,22,23])]
def FW(C:fm)(Q:ft)(d a b c:V)(h:Hp):Prop:=∀ρ:gD,ρ 3=d->ρ 13=a->ρ 14=b->ρ 15=c->WA C Tryz.f68 t68 43 [] Q ρ h
def Ge(C:fm)(Q:ft)(fM:LX)(g i a b c d e f:V)(h:Hp):Prop:=∀ρ:gD,ρ 3=g->ρ 4=i->ρ 13=a->ρ 14=b->ρ 15=c->ρ 21=d->ρ 22=e->ρ 23=f->WA C Tryz.f68 t68 11467 [λρ h=>fM (ρ 3) (ρ 13) (ρ 14) (ρ 15) h] Q ρ h
def ze(C:fm)(Q:ft)(fM:LX)(a:L0)(i j b c d e f g:V)(h:Hp):Prop:=∀ρ:gD,ρ 3=i->ρ 4=j->ρ 13=b->ρ 14=c->ρ 15=d->ρ 21=e->ρ 22=f->ρ 23=g->WA C Tryz.f68 t68 249035 [λρ h=>fM (ρ 3) (ρ 13) (ρ 14) (ρ 15) h,λρ h=>a (ρ 3) (ρ 4) (ρ 13) (ρ 14) (ρ 15) (ρ 21) (ρ 22) (ρ 23) h] Q ρ h
def GK(C:fm)(Q:ft)(fM:LX)(i b c a:V)(h:Hp):Prop:=bO .lss 3 a c (oP (gz 6 b a) λe=>oP (gv 6 e h) λf=>ig (zC 47 [nS,nZ,nZ,nS,nS,nZ]) h λj l=>fi (gI 6 j f l) λm k=>dF 3 j k λd=>oP (fE d) λg=>Ge C Q fM i a b c a d g nZ k) (Q i h)
theorem MA{C Q}(I)(s:P4 I (GK C Q)){k d a b c h}(i:I k d a b c h):FW C Q d a b c h:=WA.l4 I _ s i
def GC(C:fm)(Q:ft)(fM:LX)(j:L0)(i k b c d e f a:V)(h:Hp):Prop:=bO .lss 3 a f (dX 1 e a h λg=>oP (fE i) λl=>cP C kH [g,l] h λm n=>bP m (dX 1 i g n λo=>ig (jr 3 1 1 nZ [(0,k)]) n λp t=>fi (eR 3 1 8 o p t) λq u=>oP (gz 1 i g) λr=>fi (gI 1 r q u) λw v=>ze C Q fM j i k b c d e f a v) (ze C Q fM j i k b c d e f a n)) (oP (en .add 3 d nO) λs=>fM i b c s h)
theorem NY{C Q fM}(I)(s:P8 I (GC C Q fM)){k g j a b c d e f h}(i:I k g j a b c d e f h):Ge C Q fM g j a b c d e f h:=WA.l8 I _ s i
def Fb(C:fm)(Q:ft)(fM:LX)(a:L0)(j k b c d e f g:V)(h:Hp):Prop:=oP (en .add 3 g nO) λi=>a j k b c d e f i h
theorem LV{C:fm}{Q:ft}{fM:LX}{a:L0}{i j b c d e f g:V}{h:Hp}(H:Fb C Q fM a i j b c d e f g h):ze C Q fM a i j b c d e f g h:=by
 rintro ρ rfl rfl rfl rfl rfl rfl rfl rfl;exact WA.of (by kernel_rfl) H
def Lo(C:fm)(Q:ft)(a0:V)(h:Hp):Prop:=ig (om 30 a0) h λe f=>dG 3 e f λa=>ig (il 22 1 24 nS a a) f λc g=>dF 3 e g λb=>oP (fE b) λd=>FW C Q c b d nZ g
theorem SA{C}(s:C.start=fN){a0 h Q}(k:C.K yL [a0] h=none)(H:Lo C Q a0 h):cP C yL [a0] h Q:=cP.vd t68 s (by unfold P0;exact Tryz.func68) k H
def t45:List (Nat×List Nat):=[(175,[3,4,5,6,30,31]),(351,[3,4,5,6,38,39,40]),(5631,[3,4,5,10,11]),(370175,[3,4,5,10,11,59,60,61]),(362391039,[3,4,5,10,11,13,14,59,60,61,68,69,70]),(8147019262,[3,4,5,10,11,13,14,59,60,61,68,69,70]),(7972350,[3,4,5,10,11,59,60,61])]
def zs(C:fm)(Q:ft)(c d e f a b:V)(h:Hp):Prop:=∀ρ:gD,ρ 3=c->ρ 4=d->ρ 5=e->ρ 6=f->ρ 30=a->ρ 31=b->WA C Tryz.f45 t45 87 [] Q ρ h
def zw(C:fm)(Q:ft)(d e f g a b c:V)(h:Hp):Prop:=∀ρ:gD,ρ 3=d->ρ 4=e->ρ 5=f->ρ 6=g->ρ 38=a->ρ 39=b->ρ 40=c->WA C Tryz.f45 t45 175 [] Q ρ h
def zp(C:fm)(Q:ft)(c d e a b:V)(h:Hp):Prop:=∀ρ:gD,ρ 3=c->ρ 4=d->ρ 5=e->ρ 10=a->ρ 11=b->WA C Tryz.f45 t45 2815 [] Q ρ h
def zG(C:fm)(Q:ft)(a:J0)(g i j b c d e f:V)(h:Hp):Prop:=∀ρ:gD,ρ 3=g->ρ 4=i->ρ 5=j->ρ 10=b->ρ 11=c->ρ 59=d->ρ 60=e->ρ 61=f->WA C Tryz.f45 t45 185087 [λρ h=>a (ρ 3) (ρ 4) (ρ 5) (ρ 10) (ρ 11) h] Q ρ h
def zE(C:fm)(Q:ft)(a:J0)(b:L0)(n o p c d e f g i j k l m:V)(h:Hp):Prop:=∀ρ:gD,ρ 3=n->ρ 4=o->ρ 5=p->ρ 10=c->ρ 11=d->ρ 13=e->ρ 14=f->ρ 59=g->ρ 60=i->ρ 61=j->ρ 68=k->ρ 69=l->ρ 70=m->WA C Tryz.f45 t45 181195519 [λρ h=>a (ρ 3) (ρ 4) (ρ 5) (ρ 10) (ρ 11) h,λρ h=>b (ρ 3) (ρ 4) (ρ 5) (ρ 10) (ρ 11) (ρ 59) (ρ 60) (ρ 61) h] Q ρ h
def nz(C:fm)(Q:ft)(a:J0)(b:L0)(c:IP)(o p q d e f g i j k l m n:V)(h:Hp):Prop:=∀ρ:gD,ρ 3=o->ρ 4=p->ρ 5=q->ρ 10=d->ρ 11=e->ρ 13=f->ρ 14=g->ρ 59=i->ρ 60=j->ρ 61=k->ρ 68=l->ρ 69=m->ρ 70=n->WA C Tryz.f45 t45 4073509631 [λρ h=>a (ρ 3) (ρ 4) (ρ 5) (ρ 10) (ρ 11) h,λρ h=>b (ρ 3) (ρ 4) (ρ 5) (ρ 10) (ρ 11) (ρ 59) (ρ 60) (ρ 61) h,λρ h=>c (ρ 3) (ρ 4) (ρ 5) (ρ 10) (ρ 11) (ρ 13) (ρ 14) (ρ 59) (ρ 60) (ρ 61) (ρ 68) (ρ 69) (ρ 70) h] Q ρ h
def qJ(C:fm)(Q:ft)(a:J0)(b:L0)(i j k c d e f g:V)(h:Hp):Prop:=∀ρ:gD,ρ 3=i->ρ 4=j->ρ 5=k->ρ 10=c->ρ 11=d->ρ 59=e->ρ 60=f->ρ 61=g->WA C Tryz.f45 t45 3986175 [λρ h=>a (ρ 3) (ρ 4) (ρ 5) (ρ 10) (ρ 11) h,λρ h=>b (ρ 3) (ρ 4) (ρ 5) (ρ 10) (ρ 11) (ρ 59) (ρ 60) (ρ 61) h] Q ρ h
def zA(C:fm)(Q:ft)(fM:Qg)(c j d k b a:V)(h:Hp):Prop:=bO .lss 3 a b (oP (ez d h) λe=>oP (gz 1 e a) λf=>fi (gI 1 f (V.I (-1)) h) λm l=>oP (en .add 3 a nO) λg=>fM c j d k b g l) (oP (fE c) λi=>zw C Q c j d k c i nZ h)
theorem HT{C Q}(I)(s:P6 I (zA C Q)){k c d e f a b h}(i:I k c d e f a b h):zs C Q c d e f a b h:=WA.l6 I _ s i
def zJ(C:fm)(Q:ft)(e:Q0)(f q b g c d a:V)(h:Hp):Prop:=bO .lss 3 a d (dX 1 c a h λi=>oP (ez g h) λj=>oP (gz 1 j i) λk=>fi (gI 1 k a h) λu s=>oP (en .add 3 a nO) λl=>e f q b g c d l s) (oP (fE f) λm=>bO .eql 3 m nZ (oP (ez b h) λn=>Q n h) (oP (ez b h) λo=>oP (gz 1 o nZ) λp=>fi (gI 1 p nZ h) λr t=>zp C Q f q b (V.func ji [] [g,b]) bT t))
theorem Hz{C Q}(I)(s:P7 I (zJ C Q)){k d e f g a b c h}(i:I k d e f g a b c h):zw C Q d e f g a b c h:=WA.l7 I _ s i
def zK(C:fm)(Q:ft)(e:J0)(k m f g i:V)(h:Hp):Prop:=bP i (oP (jf 1 k (some nO) none h) λa=>oP (fE a) λj=>zG C Q e k m f g bF a j nZ h) (oP (ez f h) λb=>oP (gz 1 b nZ) λc=>fi (gI 1 c (V.I (-1)) h) λn l=>oP (ez f l) λd=>Q d l)
theorem HB{C Q}(I)(s:P5 I (zK C Q)){k c d e a b h}(i:I k c d e a b h):zp C Q c d e a b h:=WA.l5 I _ s i
def zI(C:fm)(Q:ft)(b:J0)(j:L0)(m k n c d e f a:V)(h:Hp):Prop:=bO .lss 3 a f (dX 1 e a h λg=>dX 1 k g h λi=>oP (fE i) λl=>zE C Q b j m k n c d g (V.I (-1)) e f a i l nZ h) (b m k n c d h)
theorem Hy{C Q a}(I)(s:P8 I (zI C Q a)){k g j l b c d e f h}(i:I k g j l b c d e f h):zG C Q a g j l b c d e f h:=WA.l8 I _ s i
def zv(C:fm)(Q:ft)(b:J0)(c:L0)(o:IP)(q r n a k d e f g i l m j:V)(h:Hp):Prop:=bO .lss 3 j m (dX 1 l j h λp=>oP (ez n h) λs=>dX 1 s p h λt=>bO .lss 3 t nZ (nz C Q b c o q r n a k d e f g i l m j h) (bO .lss 3 e nZ (nz C Q b c o q r n a k d p f g i l m j h) (hH C (gh a [e,p]) h λu z=>nz C Q b c o q r n a k d u f g i l m j z))) (oP (ez n h) λv=>dX 1 v d h λw=>bO .neq 3 w e (oP (ez n h) λx=>oP (gz 1 x d) λy=>fi (gI 1 y e h) λB A=>qJ C Q b c q r n a bT f g i A) (qJ C Q b c q r n a k f g i h))
theorem HV{C Q a b}(I)(s:P13 I (zv C Q a b)){k p q r c d e f g j l m n o h}(i:I k p q r c d e f g j l m n o h):zE C Q a b p q r c d e f g j l m n o h:=WA.l13 I _ s i
def nH(C:fm)(Q:ft)(n:J0)(o:L0)(a:IP)(p q r b c d e f g i j k l:V)(h:Hp):Prop:=oP (en .add 3 l nO) λm=>a p q r b c d e f g i j k m h
theorem qF{C:fm}{Q:ft}{a:J0}{b:L0}{c:IP}{o p q d e f g i j k l m n:V}{h:Hp}(H:nH C Q a b c o p q d e f g i j k l m n h):nz C Q a b c o p q d e f g i j k l m n h:=by
 rintro ρ rfl rfl rfl rfl rfl rfl rfl rfl rfl rfl rfl rfl rfl;exact WA.of (by kernel_rfl) H
def qz(C:fm)(Q:ft)(i:J0)(a:L0)(j k l b c d e f:V)(h:Hp):Prop:=oP (en .add 3 f nO) λg=>a j k l b c d e g h
theorem yJ{C:fm}{Q:ft}{a:J0}{b:L0}{i j k c d e f g:V}{h:Hp}(H:qz C Q a b i j k c d e f g h):qJ C Q a b i j k c d e f g h:=by
 rintro ρ rfl rfl rfl rfl rfl rfl rfl rfl;exact WA.of (by kernel_rfl) H
def C7(C:fm)(Q:ft)(a0:V)(h:Hp):Prop:=ig (om 30 a0) h λe m=>oP (gv 5 e m) λq=>oP (gv 5 e m) λf=>cP C oV [q] m λr n=>(m.next<=n.next/\((gv 5 e n=some f)/\cP C yL [f] n λs o=>(n.next<=o.next/\oP (fH 3 e) λg=>oP (ez g o) λi=>oP (fE i) λj=>yn (il 3 1 8 nZ j j) o λt u p=>oP (fH 3 e) λb=>oP (ez b p) λc=>oP (fE c) λk=>yn (il 3 1 8 nZ k k) p λd v D=>yn (zC 22 [nS]) D λw x E=>yn (zC 22 [nS]) E λy F a=>((a.get (E.next)=some y/\O.beq y y=true)/\((a.get (D.next)=some w/\O.beq w w=true)/\((a.get (p.next)=some d/\O.beq d d=true)/\((ez b a=some c)/\((a.get (o.next)=some t/\O.beq t t=true)/\((ez g a=some i)/\fi (gI 1 x u a) λH l=>(a.next<=l.next/\((l.get (p.next)=some d/\O.beq d d=true)/\((ez b l=some c)/\fi (gI 1 F v l) λG z=>(l.next<=z.next/\oP (ez x z) λA=>oP (fE A) λB=>zs C Q r s x F B nZ z)))))))))))))
theorem K5{C}(s:C.start=fN){a0 h Q}(k:C.K qW [a0] h=none)(H:C7 C Q a0 h):cP C qW [a0] h Q:=cP.vd t45 s (by unfold P0;exact Tryz.func45) k H
def t71:List (Nat×List Nat):=[(19,[0,1,2,3])]
def xG(C:fm)(Q:ft)(a b c d:V)(h:Hp):Prop:=∀ρ:gD,ρ 0=a->ρ 1=b->ρ 2=c->ρ 3=d->WA C Tryz.f71 t71 9 [] Q ρ h
def yc(C:fm)(Q:ft)(fM:LX)(a b c d:V)(h:Hp):Prop:=bO .neq 3 a b (oP (ez c h) λe=>dX 1 e a h λf=>oP (ez c h) λg=>dX 1 g b h λi=>bO .gtr 3 f i (oP (ez d h) λj=>dX 1 j a h λk=>fM k b c d h) (oP (ez d h) λl=>dX 1 l b h λm=>fM a m c d h)) (Q a h)
theorem Fq{C Q}(I)(s:P4 I (yc C Q)){k a b c d h}(i:I k a b c d h):xG C Q a b c d h:=WA.l4 I _ s i
def Ai(C:fm)(Q:ft)(a0 a1 a2 a3:V)(h:Hp):Prop:=xG C Q a0 a1 a2 a3 h
theorem IH{C}(s:C.start=fN){a0 a1 a2 a3 h Q}(k:C.K ji [a0,a1,a2,a3] h=none)(H:Ai C Q a0 a1 a2 a3 h):cP C ji [a0,a1,a2,a3] h Q:=cP.vd t71 s (by unfold P0;exact Tryz.func71) k H
def t38:List (Nat×List Nat):=[(43,[1,2,7])]
def yQ(C:fm)(Q:ft)(a b c:V)(h:Hp):Prop:=∀ρ:gD,ρ 1=a->ρ 2=b->ρ 7=c->WA C Tryz.f38 t38 21 [] Q ρ h
def yF(C:fm)(Q:ft)(fM:Rk)(d e a:V)(h:Hp):Prop:=bO .lss 3 a d (hH C (gh e [a]) h λb f=>bN b (Q bF f) (oP (en .add 3 a nO) λc=>fM d e c f)) (Q bT h)
theorem Gt{C Q}(I)(s:P3 I (yF C Q)){k a b c h}(i:I k a b c h):yQ C Q a b c h:=WA.l3 I _ s i
def B2(C:fm)(Q:ft)(a0 a1 a2:V)(h:Hp):Prop:=yQ C Q a1 a2 nZ h
theorem Jz{C}(s:C.start=fN){a0 a1 a2 h Q}(k:C.K jG [a0,a1,a2] h=none)(H:B2 C Q a0 a1 a2 h):cP C jG [a0,a1,a2] h Q:=cP.vd t38 s (by unfold P0;exact Tryz.func38) k H
def t61:List (Nat×List Nat):=[(43,[0,7,8,9]),(56522,[0,7,8,9,31])]
def wW(C:fm)(Q:ft)(a b c d:V)(h:Hp):Prop:=∀ρ:gD,ρ 0=a->ρ 7=b->ρ 8=c->ρ 9=d->WA C Tryz.f61 t61 21 [] Q ρ h
def jZ(C:fm)(Q:ft)(fM:LX)(b c d e a:V)(h:Hp):Prop:=∀ρ:gD,ρ 0=b->ρ 7=c->ρ 8=d->ρ 9=e->ρ 31=a->WA C Tryz.f61 t61 28261 [λρ h=>fM (ρ 0) (ρ 7) (ρ 8) (ρ 9) h] Q ρ h
def wL(C:fm)(Q:ft)(fM:LX)(b e f c:V)(h:Hp):Prop:=bO .lss 3 c f (dX 1 e c h λg=>oP (gY b) λl=>oP (fH 0 l) λm=>dG 2 m h λn=>cP C kH [g,n] h λo d=>bN o (Q bF d) (oP (gY b) λp=>oP (fH 0 p) λq=>dJ 2 q 6 g 0 d λa=>oP (en .eql 3 a (V.I 19)) λi=>bP i (jZ C Q fM b e f c i d) (oP (en .eql 3 a (V.I 20)) λj=>bP j (jZ C Q fM b e f c j d) (oP (en .eql 3 a (V.I 22)) λk=>bP k (jZ C Q fM b e f c k d) (oP (en .eql 3 a (V.I 23)) λr=>jZ C Q fM b e f c r d))))) (Q bT h)
theorem EH{C Q}(I)(s:P4 I (wL C Q)){k a b c d h}(i:I k a b c d h):wW C Q a b c d h:=WA.l4 I _ s i
def uD(C:fm)(Q:ft)(fM:LX)(c d e f a:V)(h:Hp):Prop:=bP a (Q bF h) (oP (en .add 3 f nO) λb=>fM c d e b h)
theorem DH{C:fm}{Q:ft}{fM:LX}{b c d e a:V}{h:Hp}(H:uD C Q fM b c d e a h):jZ C Q fM b c d e a h:=by
 rintro ρ rfl rfl rfl rfl rfl;exact WA.of (by kernel_rfl) H
def zM(C:fm)(Q:ft)(a0 a1:V)(h:Hp):Prop:=oP (fE a1) λa=>wW C Q a0 a1 a nZ h
theorem Hv{C}(s:C.start=fN){a0 a1 h Q}(k:C.K iX [a0,a1] h=none)(H:zM C Q a0 a1 h):cP C iX [a0,a1] h Q:=cP.vd t61 s (by unfold P0;exact Tryz.func61) k H
def t39:List (Nat×List Nat):=[(175,[0,27,28,29])]
def vY(C:fm)(Q:ft)(d a b c:V)(h:Hp):Prop:=∀ρ:gD,ρ 0=d->ρ 27=a->ρ 28=b->ρ 29=c->WA C Tryz.f39 t39 87 [] Q ρ h
def wI(C:fm)(Q:ft)(fM:LX)(i d e c:V)(h:Hp):Prop:=bO .lss 3 c e (oP (gz 4 d c) λj=>oP (gv 4 j h) λk=>ig (zC 53 [nZ,nZ,nS,nS]) h λf N=>fi (gI 4 f k N) λO g=>dG 2 f g λl=>oP (en .gtr 3 l (V.I 40)) λm=>oP (nP m (oB (fH 3 f) λn=>oB (ez n g) λo=>oB (fE o) λp=>en .gtr 3 p (V.I 60))) λa=>oP (fy false a) λq=>oP (gV q (some i)) λr=>oP (fy false a) λs=>oP (gV s (fH 2 f)) λt=>oP (fy false a) λu=>oP (gV u (ez t g)) λv=>oP (fy false a) λw=>oP (gC w (some (iX,[r,v]))) λx=>uj C x g λy L=>oP (nP a (pt .not y)) λb=>oP (fy false b) λz=>oP (gV z (some i)) λA=>oP (fy false b) λB=>oP (gV B (fH 3 f)) λD=>oP (fy false b) λE=>oP (gV E (ez D L)) λF=>oP (fy false b) λG=>oP (gC G (some (iX,[A,F]))) λH=>uj C H L λI M=>oP (nP b (pt .not I)) λJ=>bP J (Q bF M) (oP (en .add 3 c nO) λK=>fM i d e K M)) (Q bT h)
theorem Ea{C Q}(I)(s:P4 I (wI C Q)){k d a b c h}(i:I k d a b c h):vY C Q d a b c h:=WA.l4 I _ s i
def zt(C:fm)(Q:ft)(a0 a1:V)(h:Hp):Prop:=oP (gY a0) λp=>oP (fH 0 p) λd=>dF 4 d h λe=>oP (gz 1 e a1) λf=>oP (gv 1 f h) λg=>ig (zC 56 [nS]) h λc q=>fi (gI 1 c g q) λr a=>dG 0 c a λi=>oP (en .eql 3 i nZ) λj=>oP (nP j (oB (fH 0 c) λk=>oB (ez k a) λl=>oB (fE l) λm=>en .gtr 3 m (V.I 30))) λn=>bP n (Q bF a) (dF 0 c a λb=>oP (fE b) λo=>vY C Q a0 b o nZ a)
theorem HP{C}(s:C.start=fN){a0 a1 h Q}(k:C.K mg [a0,a1] h=none)(H:zt C Q a0 a1 h):cP C mg [a0,a1] h Q:=cP.vd t39 s (by unfold P0;exact Tryz.func39) k H
def t40:List (Nat×List Nat):=[(87,[0,36,37]),(351,[0,4,51,52,53]),(190047,[0,4,5,7,51,52,53,59,60,61])]
def xC(C:fm)(Q:ft)(c a b:V)(h:Hp):Prop:=∀ρ:gD,ρ 0=c->ρ 36=a->ρ 37=b->WA C Tryz.f40 t40 43 [] Q ρ h
def wC(C:fm)(Q:ft)(d e a b c:V)(h:Hp):Prop:=∀ρ:gD,ρ 0=d->ρ 4=e->ρ 51=a->ρ 52=b->ρ 53=c->WA C Tryz.f40 t40 175 [] Q ρ h
def xA(C:fm)(Q:ft)(a:J0)(i j k l b c d e f g:V)(h:Hp):Prop:=∀ρ:gD,ρ 0=i->ρ 4=j->ρ 5=k->ρ 7=l->ρ 51=b->ρ 52=c->ρ 53=d->ρ 59=e->ρ 60=f->ρ 61=g->WA C Tryz.f40 t40 95023 [λρ h=>a (ρ 0) (ρ 4) (ρ 51) (ρ 52) (ρ 53) h] Q ρ h
def wA(C:fm)(Q:ft)(fM:Rk)(d b a:V)(h:Hp):Prop:=bO .lss 3 a b (dN 5 d h λe=>oP (gz 1 e a) λf=>fi (gI 1 f (V.I (-1)) h) λm l=>oP (en .add 3 a nO) λg=>fM d b g l) (oP (gY d) λi=>oP (fH 0 i) λj=>dF 3 j h λc=>oP (fE c) λk=>wC C Q d nZ c k nZ h)
theorem Ez{C Q}(I)(s:P3 I (wA C Q)){k c a b h}(i:I k c a b h):xC C Q c a b h:=WA.l3 I _ s i
def xx(C:fm)(Q:ft)(j:J0)(n o b c a:V)(h:Hp):Prop:=bO .lss 3 a c (oP (gz 6 b a) λk=>oP (gv 6 k h) λl=>ig (zC 47 [nS,nZ,nZ,nS,nS,nZ]) h λp r=>fi (gI 6 p l r) λs q=>dF 0 p q λd=>oP (fE d) λm=>xA C Q j n o a bT b c a d m nZ q) (oP (gY n) λe=>oP (fH 0 e) λf=>dG 2 f h λg=>oP (en .eql 3 o g) λi=>Q i h)
theorem Ep{C Q}(I)(s:P5 I (xx C Q)){k d e a b c h}(i:I k d e a b c h):wC C Q d e a b c h:=WA.l5 I _ s i
def wU(C:fm)(Q:ft)(D:J0)(E:K9)(d x4 F x7 g i j k l b:V)(h:Hp):Prop:=bO .lss 3 b l (dX 1 k b h λa=>oP (gY d) λG=>oP (fH 0 G) λH=>dG 2 H h λI=>cP C kH [a,I] h λJ c=>oP (pt .not J) λK=>oP (nP K (oB (some d) λL=>oB (gY L) λM=>oB (fH 5 M) λN=>oB (ez N c) λO=>oB (some a) λP=>oB (gz 1 O P) λR=>oB (ez R c) λS=>en .geq 3 S nZ)) λT=>bP T (Q bF c) (oP (gY d) λU=>oP (fH 0 U) λW=>dJ 2 W 6 a 0 c λe=>oP (en .eql 3 e (V.I 21)) λX=>oP (nP X (oB (some e) λY=>en .eql 3 Y nO)) λf=>oP (jO f (oB (some x7) λm=>pt .not m)) λn=>oP (nP n (oB (some e) λo=>oB (en .eql 3 o nO) λp=>oB (some F) λq=>oB (en .eql 3 q nZ) λr=>oB (en .neq 4 p r) λs=>oB (some s) λt=>jO t (some f))) λu=>bP u (Q bF c) (dN 5 d c λv=>dN 6 d c λw=>oP (gz 1 v a) λx=>fi (gI 1 x F c) λvu Z=>(c.next<=Z.next/\oP (gz 1 w a) λy=>fi (gI 1 y b Z) λaa h3=>(Z.next<=h3.next/\oP (en .add 3 x4 nO) λz=>oP (en .add 3 b nO) λA=>E d z F f g i j k l A h3))))) (oP (en .add 3 j nO) λB=>D d x4 g i B h)
theorem El{C Q a}(I)(s:P10 I (wU C Q a)){k j l m n b c d e f g h}(i:I k j l m n b c d e f g h):xA C Q a j l m n b c d e f g h:=WA.l10 I _ s i
def zu(C:fm)(Q:ft)(a0:V)(h:Hp):Prop:=oP (gY a0) λl=>oP (fH 0 l) λm=>oP (fH 2 m) λc=>oP (ez c h) λd=>oP (fE d) λe=>yn (il 3 1 8 nZ e e) h λn o j=>oP (gY a0) λp=>oP (fH 0 p) λq=>oP (fH 2 q) λf=>oP (ez f j) λg=>oP (fE g) λi=>yn (il 3 1 8 nZ i i) j λa r b=>oP (gY a0) λs=>oP (fH 5 s) λt=>((b.get (j.next)=some a/\O.beq a a=true)/\((ez f b=some g)/\((b.get (h.next)=some n/\O.beq n n=true)/\((ez c b=some d)/\fi (gI 1 t o b) λA k=>(b.next<=k.next/\oP (gY a0) λu=>oP (fH 6 u) λv=>((k.get (j.next)=some a/\O.beq a a=true)/\fi (gI 1 v r k) λz w=>(k.next<=w.next/\oP (gY a0) λx=>dG 5 x w λy=>xC C Q a0 y nZ w)))))))
theorem Ht{C}(s:C.start=fN){a0 h Q}(k:C.K oD [a0] h=none)(H:zu C Q a0 h):cP C oD [a0] h Q:=cP.vd t40 s (by unfold P0;exact Tryz.func40) k H
section
variable (C:fm)(Q:X->gD->Hp->Prop)(ρ:gD)(h:Hp)
def Tg:=KA Tryz.f41
def zb8:=Tg.r
def zbN:=Tg.r.r
def zbu:=Tg.r.r.l.r
def zbJ:=Tg.r.r.r
def zeH:=andThen (Wp C 94 zbJ Q) Q
def zbR:=Tg.r.r.l.r.l.r
def zbW:=Tg.r.r.r.l.r
def zb9:=Tg.r.r.r.r
def q67:=andThen (Wp C 94 zb9 Q) Q
def zb3:=Tg.r.r.r.l.r.l.r
def zdP(C:fm)(Q:XQ):XQ:=xm 0 Q
def zbI:=Tg.r.r.r.r.r
def zbS:=Tg.r.r.r.l.r.l.r.l.r
def Y0:=Tg.r.r.r.l.r.l.r.r.r
def YW:=Tg.r.r.r.l.r.l.r.r.r.l.r
def XH:=Tg.r.r.r.l.r.l.r.r.r.r.r
def Y4:=Tg.r.r.r.l.r.l.r.r.r.r.r.l.r
theorem e41:jH C 94 Tg Q ρ h=(oP (some (V.bool false)) λa=>
 Wp C 94 zb8 Q (fo ρ 4 a) h):=by kernel_rfl
theorem zeP:jH C 94 zb8 Q ρ h=(oP (some (ρ 0)) λe=>
 oP (gY e) λf=>
 oP (fH 0 f) λg=>
 oP (fH 2 g) λi=>
 oP (ez i h) λa=>
 oP (some (ρ 1)) λb=>
 oP (gz 6 a b) λc=>
 oP (gv 6 c h) λd=>
 ig (some (.cells 49 1 true false [(V.I 0),(V.I 0),(V.I 0),(V.I 0),V.ee,(V.I 0)],λl=> .ptr l 0)) h λj k=>
 fi (gI 6 j d k) λn m=>
 Wp C 94 zbN Q (fo (fo (fo (fo (fo (fo (fo (fo (fo ρ 6 e) 7 f) 8 g) 9 i) 10 a) 11 b) 12 c) 13 d) 5 j) m):=by kernel_rfl
theorem zeU:jH C 94 zbN Q ρ h=(oP (fH 0 (ρ 5)) λd=>
 oP (ez d h) λs=>
 ((ez d h=some s)/\
 ((fH 0 (ρ 5)=some d)/\
 dcP C EP [s] h λt D=>
 (h.next<=D.next/\
 oP (en .eql 9 t (V.str [])) λe=>
 oP (some e) λb=>
 oP (fy false b) λW=>
 oP (gV W (some (ρ 0))) λf=>
 oP (fy false b) λb6=>
 oP (gV b6 (gv 6 (ρ 5) D)) λu=>
 ((gT b6 (gv 6 (ρ 5) D=some u))/\
 ((gT W (some (ρ 0)=some f))/\
 ((some e=some b)/\
 ((en .eql 9 t (V.str [])=some e)/\
 oP (fy false b) λb7=>
 oP (gC b7 (some (uy,[u]))) λx7=>uj C x7 D λE X=>
 (D.next<=X.next/\
 ((gT W (some (ρ 0)=some f))/\
 oP (fy false b) λb8=>
 oP (gC b8 (some (iX,[f,E]))) λx8=>uj C x8 X λv F=>
 (X.next<=F.next/\
 oP (fy false b) λb9=>
 oP (gV b9 (pt .not v)) λg=>
 oP (jt b (V.bool true) g) λi=>
 oP (some i) λc=>
 oP (fy false c) λG=>
 oP (gV G (fH 0 (ρ 5))) λj=>
 oP (fy false c) λH=>
 oP (gV H (ez j F)) λw=>
 ((gT H (ez j F=some w))/\
 ((gT G (fH 0 (ρ 5)=some j))/\
 ((some i=some c)/\
 ((jt b (V.bool true) g=some i)/\
 ((gT b9 (pt .not v=some g))/\
 oP (fy false c) λY=>
 oP (gC Y (some (pd,[w]))) λZ=>uj C Z F λx y=>
 (F.next<=y.next/\
 oP (fy false c) λI=>
 oP (gV I (some x)) λa=>
 oP (fy true a) λJ=>
 oP (gV J (fH 5 (ρ 5))) λk=>
 oP (fy true a) λK=>
 oP (gV K (ez k y)) λz=>
 oP (fy true a) λL=>
 oP (gV L (some (ρ 0))) λl=>
 oP (fy true a) λM=>
 oP (gV M (gY l)) λm=>
 oP (fy true a) λN=>
 oP (gV N (fH 0 m)) λn=>
 oP (fy true a) λO=>
 oP (gV O (fH 4 n)) λo=>
 oP (fy true a) λP=>
 oP (gV P (ez o y)) λp=>
 oP (fy true a) λR=>
 oP (gV R (fE p)) λA=>
 ((gT R (fE p=some A))/\
 ((gT P (ez o y=some p))/\
 ((gT O (fH 4 n=some o))/\
 ((gT N (fH 0 m=some n))/\
 ((gT M (gY l=some m))/\
 ((gT L (some (ρ 0)=some l))/\
 ((gT K (ez k y=some z))/\
 ((gT J (fH 5 (ρ 5)=some k))/\
 ((gT I (some x=some a))/\
 oP (fy true a) λaa=>
 oP (gC aa (some (kH,[z,A]))) λab=>uj C ab y λB h5=>
 (y.next<=h5.next/\
 oP (fy true a) λS=>
 oP (gV S (pt .not B)) λq=>
 oP (fy false c) λT=>
 oP (gV T (jt a q (V.bool false))) λr=>
 oP (jt c (V.bool true) r) λU=>
 ((jt c (V.bool true) r=some U)/\
 ((gT T (jt a q (V.bool false)=some r))/\
 ((gT S (pt .not B=some q))/\
 Wp C 94 zbu (zeH C Q) (fo (fo (fo (fo (fo (fo (fo (fo (fo (fo (fo (fo (fo (fo (fo (fo (fo (fo (fo (fo (fo (fo (fo (fo (fo (fo (fo (fo ρ 14 d) 15 s) 16 t) 17 e) 18 b) 19 f) 20 u) 21 E) 22 v) 23 g) 24 i) 25 c) 26 j) 27 w) 28 x) 29 a) 30 k) 31 z) 32 l) 33 m) 34 n) 35 o) 36 p) 37 A) 38 B) 39 q) 40 r) 41 U) h5)))))))))))))))))))))))))))))):=by kernel_rfl
theorem zed:jH C 94 zbJ Q ρ h=(oP (fH 0 (ρ 5)) λa=>
 oP (ez a h) λb=>
 Wp C 94 zbW (q67 C Q) (fo (fo ρ 42 a) 43 b) h):=by kernel_rfl
theorem zef:jH C 94 zbu Q ρ h=(oP (some (ρ 41)) λc=>
 bP c (
 oP (some (V.bool false)) λa=>
 Wp C 94 zbR Q (fo ρ 4 a) h) (
 Q .normal ρ h)):=by kernel_rfl
theorem zem:jH C 94 zb9 Q ρ h=(oP (some (V.bool true)) λa=>
 Wp C 94 zbI Q (fo ρ 4 a) h):=by kernel_rfl
theorem zeg:jH C 94 zbW Q ρ h=(oP (en .eql 3 (ρ 43) (V.I 20)) λa=>
 oP (some a) λb=>
 Wp C 94 zb3 (zdP C Q) (fo (fo ρ 45 a) 44 b) h):=by kernel_rfl
theorem zee:jH C 94 zbI Q ρ h=(Q .ret ρ h):=by kernel_rfl
theorem zeC:jH C 94 zbR Q ρ h=(Q .ret ρ h):=by kernel_rfl
theorem zdW:jH C 94 zb3 Q ρ h=(oP (some (ρ 44)) λc=>
 bP c (
 oP (fH 4 (ρ 5)) λa=>
 oP (ez a h) λb=>
 oP (fE b) λd=>
 oP (en .eql 3 d (V.I 1)) λe=>
 oP (some e) λi=>
 Wp C 94 zbS Q (fo (fo (fo (fo (fo ρ 46 a) 47 b) 48 d) 49 e) 4 i) h) (
 oP (en .eql 3 (ρ 43) (V.I 21)) λf=>
 oP (some f) λg=>
 Wp C 94 Y0 Q (fo (fo ρ 51 f) 50 g) h)):=by kernel_rfl
theorem zeV:jH C 94 zbS Q ρ h=(Q .ret ρ h):=by kernel_rfl
theorem zcU:jH C 94 Y0 Q ρ h=(oP (some (ρ 50)) λc=>
 bP c (
 oP (fH 4 (ρ 5)) λa=>
 oP (ez a h) λb=>
 oP (fE b) λd=>
 oP (some (ρ 0)) λe=>
 oP (gY e) λf=>
 oP (fH 0 f) λg=>
 oP (fH 3 g) λi=>
 oP (ez i h) λj=>
 oP (some (ρ 0)) λk=>
 oP (gY k) λl=>
 oP (fH 5 l) λm=>
 oP (ez m h) λn=>
 oP (some (ρ 1)) λo=>
 oP (gz 1 n o) λp=>
 oP (ez p h) λq=>
 oP (gz 6 j q) λr=>
 oP (fH 4 r) λs=>
 oP (ez s h) λt=>
 oP (fE t) λu=>
 oP (en .eql 3 d u) λv=>
 oP (some v) λy=>
 ((some v=some y)/\
 ((en .eql 3 d u=some v)/\
 ((fE t=some u)/\
 ((ez s h=some t)/\
 ((fH 4 r=some s)/\
 ((gz 6 j q=some r)/\
 ((ez p h=some q)/\
 ((gz 1 n o=some p)/\
 ((some (ρ 1)=some o)/\
 ((ez m h=some n)/\
 ((fH 5 l=some m)/\
 ((gY k=some l)/\
 ((some (ρ 0)=some k)/\
 ((ez i h=some j)/\
 ((fH 3 g=some i)/\
 ((fH 0 f=some g)/\
 ((gY e=some f)/\
 ((some (ρ 0)=some e)/\
 ((fE b=some d)/\
 ((ez a h=some b)/\
 ((fH 4 (ρ 5)=some a)/\
 Wp C 94 YW Q (fo (fo (fo (fo (fo (fo (fo (fo (fo (fo (fo (fo (fo (fo (fo (fo (fo (fo (fo (fo (fo ρ 52 a) 53 b) 54 d) 55 e) 56 f) 57 g) 58 i) 59 j) 60 k) 61 l) 62 m) 63 n) 64 o) 65 p) 66 q) 67 r) 68 s) 69 t) 70 u) 71 v) 4 y) h)))))))))))))))))))))) (
 oP (en .eql 3 (ρ 43) (V.I 1)) λw=>
 oP (some w) λx=>
 Wp C 94 XH Q (fo (fo ρ 73 w) 72 x) h)):=by kernel_rfl
theorem zcZ:jH C 94 YW Q ρ h=(Q .ret ρ h):=by kernel_rfl
theorem zcH:jH C 94 XH Q ρ h=(oP (some (ρ 72)) λc=>
 bP c (
 oP (fH 3 (ρ 5)) λd=>
 oP (ez d h) λe=>
 oP (en .geq 2 e (V.I 0)) λf=>
 oP (some f) λb=>
 oP (fy true b) λH=>
 oP (gV H (fH 3 (ρ 5))) λg=>
 oP (fy true b) λI=>
 oP (gV I (ez g h)) λi=>
 oP (fy true b) λJ=>
 oP (gV J (en .lss 2 i (V.I 40))) λj=>
 oP (jt b j (V.bool false)) λk=>
 oP (some k) λa=>
 oP (fy true a) λK=>
 oP (gV K (some (ρ 0))) λl=>
 oP (fy true a) λw=>
 oP (gV w (gY l)) λm=>
 oP (fy true a) λx=>
 oP (gV x (fH 0 m)) λn=>
 oP (fy true a) λy=>
 oP (gV y (fH 2 n)) λo=>
 oP (fy true a) λz=>
 oP (gV z (ez o h)) λp=>
 oP (fy true a) λA=>
 oP (gV A (some (ρ 1))) λq=>
 oP (fy true a) λB=>
 oP (gV B (jf 6 p none (some q) h)) λr=>
 oP (fy true a) λD=>
 oP (gV D (some (V.func jC [] [(ρ 5)]))) λs=>
 oP (fy true a) λE=>
 oP (gC E (some (gU,[r,s]))) λF=>uj C F h λt L=>
 oP (fy true a) λG=>
 oP (gV G (pt .not t)) λu=>
 oP (jt a u (V.bool false)) λv=>
 oP (some v) λM=>
 Wp C 94 Y4 Q (fo (fo (fo (fo (fo (fo (fo (fo (fo (fo (fo (fo (fo (fo (fo (fo (fo (fo (fo (fo (fo ρ 74 d) 75 e) 76 f) 77 b) 78 g) 79 i) 80 j) 81 k) 82 a) 83 l) 84 m) 85 n) 86 o) 87 p) 88 q) 89 r) 90 s) 91 t) 92 u) 93 v) 4 M) L) (
 Q .normal ρ h)):=by kernel_rfl
theorem zc2:jH C 94 Y4 Q ρ h=(Q .ret ρ h):=by kernel_rfl
theorem g41{C:fm}(hs:C.start=fN)(a0 a1:V){h:Hp}{Q:ft}(hk:C.K ke [a0,a1] h=none)(H:jH C 94 Tg (ID [.tmp 4] Q) (Lv [a0,a1]) h):cP C ke [a0,a1] h Q:=
 cP.XL hs (show P0.funcs[41]? =some Tryz.f41 by unfold P0;exact Tryz.func41) (by kernel_rfl) (by kernel_rfl) (by kernel_rfl) hk (Kj rfl) (Wp.code _ H)
def wh(C:fm)(Q:ft)(a0 a1:V)(h:Hp):Prop:=oP (gY a0) λv7=>oP (fH 0 v7) λv8=>dF 2 v8 h λs=>oP (gz 6 s a1) λt=>oP (gv 6 t h) λu=>ig (zC 49 [nZ,nZ,nZ,nZ,nS,nZ]) h λd h1=>fi (gI 6 d u h1) λvu v=>dF 0 d v λw=>cP C EP [w] v λx q=>(v.next<=q.next/\oP (en .eql 9 x (V.str [])) λe=>oP (fy false e) λb5=>oP (gV b5 (some a0)) λy=>oP (fy false e) λb6=>oP (gV b6 (gv 6 d q)) λz=>oP (fy false e) λb7=>oP (gC b7 (some (uy,[z]))) λy7=>uj C y7 q λA B=>(q.next<=B.next/\oP (fy false e) λb8=>oP (gC b8 (some (iX,[y,A]))) λy8=>uj C y8 B λD r=>(B.next<=r.next/\oP (nP e (pt .not D)) λf=>oP (fy false f) λE=>oP (gV E (fH 0 d)) λF=>oP (fy false f) λG=>oP (gV G (ez F r)) λH=>oP (fy false f) λI=>oP (gC I (some (pd,[H]))) λJ=>uj C J r λK o=>(r.next<=o.next/\oP (fy false f) λL=>oP (gV L (some K)) λa=>oP (fy true a) λM=>oP (gV M (fH 5 d)) λN=>oP (fy true a) λO=>oP (gV O (ez N o)) λP=>oP (fy true a) λR=>oP (gV R (some a0)) λS=>oP (fy true a) λT=>oP (gV T (gY S)) λU=>oP (fy true a) λW=>oP (gV W (fH 0 U)) λX=>oP (fy true a) λY=>oP (gV Y (fH 4 X)) λZ=>oP (fy true a) λaa=>oP (gV aa (ez Z o)) λab=>oP (fy true a) λac=>oP (gV ac (fE ab)) λae=>oP (fy true a) λag=>oP (gC ag (some (kH,[P,ae]))) λah=>uj C ah o λai c=>(o.next<=c.next/\oP (fy true a) λaj=>oP (gV aj (pt .not ai)) λak=>oP (nP f (jt a ak bF)) λal=>bP al (Q bF c) (dF 0 d c λg=>bO .eql 3 g (V.I 20) (dG 4 d c λam=>oP (en .eql 3 am nO) λan=>Q an c) (bO .eql 3 g (V.I 21) (dG 4 d c λao=>oP (gY a0) λap=>oP (fH 0 ap) λaq=>dF 3 aq c λar=>dN 5 a0 c λau=>dX 1 au a1 c λaw=>oP (gz 6 ar aw) λax=>dG 4 ax c λay=>oP (en .eql 3 ao ay) λaA=>Q aA c) (bO .eql 3 g nO (dF 3 d c λaB=>oP (en .geq 2 aB nZ) λaC=>oP (jO aC (oB (fH 3 d) λaD=>oB (ez aD c) λaE=>en .lss 2 aE (V.I 40))) λb=>oP (fy true b) λp=>oP (gV p (some a0)) λaF=>oP (fy true b) λaG=>oP (gV aG (gY aF)) λaH=>oP (fy true b) λaI=>oP (gV aI (fH 0 aH)) λaJ=>oP (fy true b) λi=>oP (gV i (fH 2 aJ)) λaK=>oP (fy true b) λj=>oP (gV j (ez aK c)) λaL=>oP (fy true b) λk=>oP (gV k (some a1)) λaM=>oP (fy true b) λl=>oP (gV l (jf 6 aL none (some aM) c)) λaN=>oP (fy true b) λm=>oP (gV m (some (V.func jC [] [d]))) λaO=>oP (fy true b) λn=>oP (gC n (some (gU,[aN,aO]))) λaP=>uj C aP c λaQ h8=>oP (jO b (pt .not aQ)) λaR=>Q aR h8) (Q bT c)))))))))
theorem Kg{C:fm}(hs:C.start=fN){a0 a1:V}{h:Hp}{Q:ft}(hk:C.K ke [a0,a1] h=none)(H:wh C Q a0 a1 h):cP C ke [a0,a1] h Q:=by
 unfold wh at H;exact g41 hs _ _ hk ((e41 _ _ _ _).mpr (vB (Wp.of (zeP _ _ _ _) (vB (oM H λv7 _ H=>oM H λv8 _ H=>oM H λv9 _ H=>oM H λaq _ H=>vB (oM H λar _ H=>oM H λau _ H=>alM H λv5 h1 H=>zcI H λvu h2 H=>Wp.of (zeU _ _ _ _) (oM H λaw b H=>oM H λax c H=>⟨c,⟨b,dcM H λay h3 H=>anM H λH=>oM H λaA d H=>vB (oM H λb5 _ H=>oM H λaB a H=>oM H λb6 _ H=>oM H λaC e H=>⟨(hK e),⟨(hK a),⟨rfl,⟨d,oM H λb7 _ H=>oM H λy7 _ H=>cgM H λaD h4 H=>anM H λH=>⟨(hK a),oM H λb8 _ H=>oM H λy8 _ H=>cgM H λaE h5 H=>anM H λH=>thn (Jw H) λH=>oM H λb9 Z H=>oM H λaF f H=>oM H λaG g H=>vB (oM H λaH _ H=>oM H λaI i H=>oM H λaJ _ H=>oM H λaK j H=>⟨(hK j),⟨(hK i),⟨rfl,⟨g,⟨(hK f),oM H λaL _ H=>oM H λaM _ H=>cgM H λaN h6 H=>anM H λH=>oM H λaO _ H=>oM H λaP k H=>oM H λaQ _ H=>oM H λaR l H=>oM H λaS _ H=>oM H λaT m H=>oM H λaU _ H=>oM H λaV n H=>oM H λaW _ H=>oM H λaX o H=>oM H λaY _ H=>oM H λaZ p H=>oM H λa4 _ H=>oM H λa5 q H=>oM H λa6 _ H=>oM H λa7 r H=>oM H λa8 _ H=>oM H λa9 s H=>⟨(hK s),⟨(hK r),⟨(hK q),⟨(hK p),⟨(hK o),⟨(hK n),⟨(hK m),⟨(hK l),⟨(hK k),oM H λba _ H=>oM H λbb _ H=>cgM H λbc h7 H=>anM H λH=>oM H λbd _ H=>oM H λbe t H=>thn (Jw H) λH=>oM H λbf aa H=>oM H λbg u H=>oM H λbh v H=>⟨v,⟨(hK u),⟨(hK t),Wp.of (zef _ _ _ _) (vB (bM H (λH=>vB (Wp.of (zeC _ _ _ _) (H))) (λH=>Wp.of (zed _ _ _ _) (oM H λbi _ H=>oM H λbj _ H=>Wp.of (zeg _ _ _ _) (oM H λbm _ H=>vB (Wp.of (zdW _ _ _ _) (vB (bM H (λH=>oM H λbo _ H=>oM H λbr _ H=>oM H λbt _ H=>oM H λbu _ H=>vB (Wp.of (zeV _ _ _ _) (H))) (λH=>oM H λbw _ H=>vB (Wp.of (zcU _ _ _ _) (vB (bM H (λH=>oM H λbx w H=>oM H λbz x H=>oM H λbA y H=>vB (oM H λbC z H=>oM H λbD A H=>oM H λbE B H=>oM H λbG D H=>vB (oM H λbH E H=>oM H λbI F H=>oM H λbJ G H=>vB (oM H λbK I H=>oM H λbL J H=>oM H λbQ L H=>oM H λbR M H=>oM H λbS N H=>oM H λbU O H=>oM H λbV P H=>vB (⟨rfl,⟨P,⟨O,⟨N,⟨M,⟨L,⟨J,⟨I,⟨rfl,⟨G,⟨F,⟨E,⟨rfl,⟨D,⟨B,⟨A,⟨z,⟨rfl,⟨y,⟨x,⟨w,Wp.of (zcZ _ _ _ _) (H)⟩⟩⟩⟩⟩⟩⟩⟩⟩⟩⟩⟩⟩⟩⟩⟩⟩⟩⟩⟩⟩))))) (λH=>oM H λbW _ H=>vB (Wp.of (zcH _ _ _ _) (vB (bM H (λH=>oM H λbX _ H=>oM H λbY _ H=>oM H λbZ _ H=>vB (thn (MV H) λH=>sG1 H λb4 ab ca ac H=>sG1 H λae ag cb ah H=>oM H λai aj H=>oM H λcd ak H=>oM H λce al H=>vB (oM H λam _ H=>oM H λcf _ H=>oM H λcg _ H=>oM H λci _ H=>oM H λcj _ H=>oM H λcl _ H=>oM H λR _ H=>oM H λcm _ H=>oM H λS _ H=>oM H λcn _ H=>oM H λT _ H=>oM H λco _ H=>oM H λU _ H=>oM H λcp _ H=>oM H λW _ H=>oM H λcq _ H=>oM H λX _ H=>oM H λcr _ H=>cgM H λct h8 H=>thn (MV H) λH=>oM H λY an H=>oM H λcu ao H=>oM H λcv ap H=>vB (Wp.of (zc2 _ _ _ _) (H))))) (λH=>Wp.of (zem _ _ _ _) (vB (Wp.of (zee _ _ _ _) (H))))))))))))))))))))⟩⟩⟩⟩⟩⟩⟩⟩⟩⟩⟩⟩⟩⟩⟩⟩⟩)⟩⟩⟩⟩⟩)⟩⟩)))))))
end
def t42:List (Nat×List Nat):=[(87,[0,5,17,18,19])]
def xY(C:fm)(Q:ft)(d e a b c:V)(h:Hp):Prop:=∀ρ:gD,ρ 0=d->ρ 5=e->ρ 17=a->ρ 18=b->ρ 19=c->WA C Tryz.f42 t42 43 [] Q ρ h
def yf(C:fm)(Q:ft)(fM:J0)(n c f g d:V)(h:Hp):Prop:=bO .lss 3 d g (dX 1 f d h λo=>oP (gY n) λp=>oP (fH 0 p) λq=>dG 3 q h λs=>cP C kH [o,s] h λt X=>bN t (Q bF X) (oP (en .add 3 d nO) λu=>fM n c f g u X)) (dF 1 c h λe=>bO .eql 3 e nO (dG 3 c h λv=>oP (en .eql 3 v nO) λw=>Q w h) (bO .eql 3 e (V.I 2) (dG 3 c h λx=>oP (en .eql 3 x (V.I 2)) λb=>oP (fy true b) λZ=>oP (gV Z (some n)) λy=>oP (fy true b) λb6=>oP (gV b6 (fH 2 c)) λz=>oP (fy true b) λb7=>oP (gV b7 (ez z h)) λA=>oP (fy true b) λb8=>ghP b8 h (oB (jr 3 1 1 nZ [(0,A)]) λr=>some (r.2 h.next,h.new r.1)) λB h2=>oP (fy true b) λb9=>oP (gC b9 (some (iX,[y,B]))) λy9=>uj C y9 h2 λD h3=>oP (jt b D bF) λE=>Q E h3) (bO .eql 3 e (V.I 3) (dG 3 c h λF=>oP (en .eql 3 F nZ) λa=>oP (fy true a) λi=>oP (gV i (fH 5 c)) λG=>oP (fy true a) λj=>oP (gV j (ez G h)) λH=>oP (fy true a) λk=>oP (gV k (some n)) λI=>oP (fy true a) λl=>oP (gV l (gY I)) λJ=>oP (fy true a) λm=>oP (gV m (fH 0 J)) λK=>oP (fy true a) λL=>oP (gV L (fH 4 K)) λM=>oP (fy true a) λN=>oP (gV N (ez M h)) λO=>oP (fy true a) λP=>oP (gV P (fE O)) λR=>oP (fy true a) λS=>oP (gC S (some (kH,[H,R]))) λT=>uj C T h λU Y=>(h.next<=Y.next/\oP (jt a U bF) λW=>Q W Y)) (Q bF h))))
theorem Fu{C Q}(I)(s:P5 I (yf C Q)){k d e a b c h}(i:I k d e a b c h):xY C Q d e a b c h:=WA.l5 I _ s i
def An(C:fm)(Q:ft)(a0 a1:V)(h:Hp):Prop:=oP (gY a0) λj=>oP (fH 0 j) λb=>dF 3 b h λc=>oP (gz 6 c a1) λd=>oP (gv 6 d h) λe=>ig (zC 47 [nS,nZ,nZ,nS,nS,nZ]) h λf k=>fi (gI 6 f e k) λl i=>dF 3 f i λa=>oP (fE a) λg=>xY C Q a0 f a g nZ i
theorem II{C}(s:C.start=fN){a0 a1 h Q}(k:C.K mH [a0,a1] h=none)(H:An C Q a0 a1 h):cP C mH [a0,a1] h Q:=cP.vd t42 s (by unfold P0;exact Tryz.func42) k H
def t43:List (Nat×List Nat):=[(171,[0,1,16,17,18]),(14,[0,1]),(175,[0,7,54,55,56])]
def y6(C:fm)(Q:ft)(d e a b c:V)(h:Hp):Prop:=∀ρ:gD,ρ 0=d->ρ 1=e->ρ 16=a->ρ 17=b->ρ 18=c->WA C Tryz.f43 t43 85 [] Q ρ h
def nK(C:fm)(Q:ft)(a b:V)(h:Hp):Prop:=∀ρ:gD,ρ 0=a->ρ 1=b->WA C Tryz.f43 t43 7 [] Q ρ h
def yN(C:fm)(Q:ft)(d e a b c:V)(h:Hp):Prop:=∀ρ:gD,ρ 0=d->ρ 7=e->ρ 54=a->ρ 55=b->ρ 56=c->WA C Tryz.f43 t43 87 [] Q ρ h
def yE(C:fm)(Q:ft)(fM:J0)(e s b c a:V)(h:Hp):Prop:=bO .lss 3 a c (dX 1 b a h λd=>oP (gY e) λf=>oP (fH 0 f) λg=>dJ 3 g 6 a 4 h λi=>cP C mw [d,i] h λj t=>oP (pt .not j) λk=>oP (nP k (oB (some a) λl=>oB (en .eql 3 l nZ) λm=>oB (some m) λn=>jO n (oB (some d) λo=>oB (fE o) λp=>en .gtr 3 p nZ))) λq=>bP q (Q bF t) (oP (en .add 3 a nO) λr=>fM e s b c r t)) (nK C Q e s h)
theorem Gk{C Q}(I)(s:P5 I (yE C Q)){k d e a b c h}(i:I k d e a b c h):y6 C Q d e a b c h:=WA.l5 I _ s i
def yT(C:fm)(Q:ft)(j l:V)(h:Hp):Prop:=oP (gY j) λb=>oP (fH 0 b) λc=>dF 3 c h λd=>oP (gz 6 d l) λe=>oP (gv 6 e h) λf=>ig (zC 47 [nS,nZ,nZ,nS,nS,nZ]) h λg m=>fi (gI 6 g f m) λn k=>dF 3 g k λa=>oP (fE a) λi=>yN C Q j g a i nZ k
theorem Gi{C:fm}{Q:ft}{a b:V}{h:Hp}(H:yT C Q a b h):nK C Q a b h:=by
 rintro ρ rfl rfl;exact WA.of (by kernel_rfl) H
def yX(C:fm)(Q:ft)(d:J0)(u v b c a:V)(h:Hp):Prop:=bO .lss 3 a c (dX 1 b a h λe=>dF 1 v h λf=>oP (en .eql 3 f (V.I 2)) λg=>oP (jO g (oB (some u) λi=>oB (gY i) λj=>oB (fH 0 j) λk=>oB (fH 3 k) λl=>oB (ez l h) λm=>oB (some e) λn=>oB (gz 6 m n) λo=>oB (fH 4 o) λp=>oB (ez p h) λq=>oB (fE q) λr=>en .neq 3 r nO)) λs=>bP s (Q bF h) (oP (en .add 3 a nO) λt=>d u v b c t h)) (Q bT h)
theorem Gy{C Q}(I)(s:P5 I (yX C Q)){k d e a b c h}(i:I k d e a b c h):yN C Q d e a b c h:=WA.l5 I _ s i
def B5(C:fm)(Q:ft)(a0 a1:V)(h:Hp):Prop:=bO .eql 3 a1 nZ (oP (gY a0) λb=>oP (fH 0 b) λc=>oP (gv 5 c h) λd=>cP C yL [d] h λa f=>oP (fE a) λe=>y6 C Q a0 a1 a e nZ f) (nK C Q a0 a1 h)
theorem JA{C}(s:C.start=fN){a0 a1 h Q}(k:C.K nJ [a0,a1] h=none)(H:B5 C Q a0 a1 h):cP C nJ [a0,a1] h Q:=cP.vd t43 s (by unfold P0;exact Tryz.func43) k H
def t44:List (Nat×List Nat):=[]
def zN(C:fm)(Q:ft)(a0:V)(h:Hp):Prop:=oP (gY a0) λa=>oP (fH 0 a) λb=>oP (gv 5 b h) λc=>cP C oV [c] h λd e=>Q d e
theorem HO{C}(s:C.start=fN){a0 h Q}(k:C.K tp [a0] h=none)(H:zN C Q a0 h):cP C tp [a0] h Q:=cP.vd t44 s (by unfold P0;exact Tryz.func44) k H
def t89:List (Nat×List Nat):=[(19,[0,1,2])]
def qC(C:fm)(Q:ft)(a b c:V)(h:Hp):Prop:=∀ρ:gD,ρ 0=a->ρ 1=b->ρ 2=c->WA C Tryz.f89 t89 9 [] Q ρ h
def qo(C:fm)(Q:ft)(fM:Rk)(d e a:V)(h:Hp):Prop:=bO .geq 3 a nZ (bO .eql 3 e a (Q bT h) (dN 7 d h λb=>dX 1 b a h λc=>fM d e c h)) (Q bF h)
theorem Al{C Q}(I)(s:P3 I (qo C Q)){k a b c h}(i:I k a b c h):qC C Q a b c h:=WA.l3 I _ s i
def vw(C:fm)(Q:ft)(a0 a1 a2:V)(h:Hp):Prop:=qC C Q a0 a1 a2 h
theorem CN{C}(s:C.start=fN){a0 a1 a2 h Q}(k:C.K lU [a0,a1,a2] h=none)(H:vw C Q a0 a1 a2 h):cP C lU [a0,a1,a2] h Q:=cP.vd t89 s (by unfold P0;exact Tryz.func89) k H
def t72:List (Nat×List Nat):=[(43,[0,2,3,11,12,13])]
def xO(C:fm)(Q:ft)(d e f a b c:V)(h:Hp):Prop:=∀ρ:gD,ρ 0=d->ρ 2=e->ρ 3=f->ρ 11=a->ρ 12=b->ρ 13=c->WA C Tryz.f72 t72 21 [] Q ρ h
def yh(C:fm)(Q:ft)(fM:Qg)(d g S e f b:V)(h:Hp):Prop:=bO .lss 3 b f (dX 1 e b h λc=>dN 5 d h λi=>dX 1 i c h λj=>oP (en .eql 3 j g) λk=>oP (jO k (oB (some d) λl=>oB (gY l) λm=>oB (fH 6 m) λn=>oB (ez n h) λo=>oB (some c) λp=>oB (gz 1 o p) λq=>oB (ez q h) λr=>oB (some S) λs=>en .geq 3 r s)) λa=>oP (fy false a) λt=>oP (gV t (some d)) λu=>oP (fy false a) λv=>oP (gV v (some d)) λw=>oP (fy false a) λx=>oP (gV x (gY w)) λy=>oP (fy false a) λz=>oP (gV z (fH 5 y)) λA=>oP (fy false a) λB=>oP (gV B (ez A h)) λD=>oP (fy false a) λE=>oP (gV E (some c)) λF=>oP (fy false a) λG=>oP (gV G (gz 1 D F)) λH=>oP (fy false a) λI=>oP (gV I (ez H h)) λJ=>oP (fy false a) λK=>oP (gV K (some g)) λL=>oP (fy false a) λM=>oP (gC M (some (lU,[u,J,L]))) λN=>uj C N h λO T=>oP (nP a (pt .not O)) λP=>bP P (Q bF T) (oP (en .add 3 b nO) λR=>fM d g S e f R T)) (Q bT h)
theorem FG{C Q}(I)(s:P6 I (yh C Q)){k d e f a b c h}(i:I k d e f a b c h):xO C Q d e f a b c h:=WA.l6 I _ s i
def AT(C:fm)(Q:ft)(a0 a1 a2 a3:V)(h:Hp):Prop:=oP (fE a1) λa=>xO C Q a0 a2 a3 a1 a nZ h
theorem I9{C}(s:C.start=fN){a0 a1 a2 a3 h Q}(k:C.K jl [a0,a1,a2,a3] h=none)(H:AT C Q a0 a1 a2 a3 h):cP C jl [a0,a1,a2,a3] h Q:=cP.vd t72 s (by unfold P0;exact Tryz.func72) k H
def t73:List (Nat×List Nat):=[(43,[0,2,3,19,20,21])]
def qN(C:fm)(Q:ft)(d e f a b c:V)(h:Hp):Prop:=∀ρ:gD,ρ 0=d->ρ 2=e->ρ 3=f->ρ 19=a->ρ 20=b->ρ 21=c->WA C Tryz.f73 t73 21 [] Q ρ h
def ql(C:fm)(Q:ft)(fM:Qg)(f g i d e b:V)(h:Hp):Prop:=bO .lss 3 b e (oP (gz 4 d b) λj=>oP (gv 4 j h) λk=>ig (zC 53 [nZ,nZ,nS,nS]) h λc E=>fi (gI 4 c k E) λH A=>dF 2 c A λl=>cP C jl [f,l,g,i] A λm B=>oP (pt .not m) λa=>oP (fy false a) λF=>oP (gV F (some f)) λn=>oP (fy false a) λG=>oP (gV G (fH 3 c)) λo=>oP (fy false a) λp=>oP (gV p (ez o B)) λq=>oP (fy false a) λr=>oP (gV r (some g)) λs=>oP (fy false a) λt=>oP (gV t (some i)) λu=>oP (fy false a) λv=>oP (gC v (some (jl,[n,q,s,u]))) λw=>uj C w B λx D=>oP (nP a (pt .not x)) λy=>bP y (Q bF D) (oP (en .add 3 b nO) λz=>fM f g i d e z D)) (Q bT h)
theorem AI{C Q}(I)(s:P6 I (ql C Q)){k d e f a b c h}(i:I k d e f a b c h):qN C Q d e f a b c h:=WA.l6 I _ s i
def uT(C:fm)(Q:ft)(a0 a1 a2 a3:V)(h:Hp):Prop:=oP (gY a0) λb=>oP (fH 0 b) λc=>dJ 4 c 1 a1 0 h λa=>oP (fE a) λd=>qN C Q a0 a2 a3 a d nZ h
theorem Dd{C}(s:C.start=fN){a0 a1 a2 a3 h Q}(k:C.K jb [a0,a1,a2,a3] h=none)(H:uT C Q a0 a1 a2 a3 h):cP C jb [a0,a1,a2,a3] h Q:=cP.vd t73 s (by unfold P0;exact Tryz.func73) k H
def t46:List (Nat×List Nat):=[(175,[0,1,5,6,24,25,26]),(1356591,[0,1,5,6,24,25,26,43,44,45]),(3886,[0,1,5,6,24,25,26])]
def wB(C:fm)(Q:ft)(d e f g a b c:V)(h:Hp):Prop:=∀ρ:gD,ρ 0=d->ρ 1=e->ρ 5=f->ρ 6=g->ρ 24=a->ρ 25=b->ρ 26=c->WA C Tryz.f46 t46 87 [] Q ρ h
def wu(C:fm)(Q:ft)(fM:Q0)(g i j k a b c d e f:V)(h:Hp):Prop:=∀ρ:gD,ρ 0=g->ρ 1=i->ρ 5=j->ρ 6=k->ρ 24=a->ρ 25=b->ρ 26=c->ρ 43=d->ρ 44=e->ρ 45=f->WA C Tryz.f46 t46 678295 [λρ h=>fM (ρ 0) (ρ 1) (ρ 5) (ρ 6) (ρ 24) (ρ 25) (ρ 26) h] Q ρ h
def oL(C:fm)(Q:ft)(fM:Q0)(d e f g a b c:V)(h:Hp):Prop:=∀ρ:gD,ρ 0=d->ρ 1=e->ρ 5=f->ρ 6=g->ρ 24=a->ρ 25=b->ρ 26=c->WA C Tryz.f46 t46 1943 [λρ h=>fM (ρ 0) (ρ 1) (ρ 5) (ρ 6) (ρ 24) (ρ 25) (ρ 26) h] Q ρ h
def vU(C:fm)(Q:ft)(fM:Q0)(d g j s e f b:V)(h:Hp):Prop:=bO .lss 3 b f (dX 1 e b h λt=>oP (gY d) λu=>oP (fH 0 u) λv=>dF 2 v h λw=>oP (gz 6 w t) λx=>oP (gv 6 x h) λy=>ig (zC 49 [nZ,nZ,nZ,nZ,nS,nZ]) h λi h1=>fi (gI 6 i y h1) λvu k=>dF 0 i k λz=>bO .eql 3 z (V.I 21) (dF 4 i k λl=>oP (fE l) λA=>wu C Q fM d g j s e f b l A nZ k) (oP (gv 6 i k) λB=>cP C uy [B] k λD h3=>cP C jl [d,D,g,b] h3 λE h4=>oP (pt .not E) λc=>oP (fy false c) λb8=>oP (gV b8 (fH 0 i)) λF=>oP (fy false c) λb9=>oP (gV b9 (ez F h4)) λG=>oP (fy false c) λH=>oP (gC H (some (pd,[G]))) λI=>uj C I h4 λJ h5=>oP (fy false c) λK=>oP (gV K (some J)) λa=>oP (fy true a) λL=>oP (gV L (some d)) λM=>oP (fy true a) λN=>oP (gV N (fH 5 i)) λO=>oP (fy true a) λP=>oP (gV P (ez O h5)) λR=>oP (fy true a) λS=>oP (gV S (some g)) λT=>oP (fy true a) λU=>oP (gV U (some b)) λW=>oP (fy true a) λX=>oP (gC X (some (jb,[M,R,T,W]))) λY=>uj C Y h5 λZ h6=>oP (fy true a) λaa=>oP (gV aa (pt .not Z)) λab=>oP (nP c (jt a ab bF)) λac=>bP ac (Q bF h6) (oL C Q fM d g j s e f b h6))) (dF 1 j h λm=>bO .eql 3 m (V.I 2) (dF 2 j h λn=>ig (jr 3 1 1 nZ [(0,n)]) h λo h7=>cP C jl [d,o,g,s] h7 λp h8=>Q p h8) (bO .eql 3 m (V.I 3) (dF 5 j h λq=>cP C jb [d,q,g,s] h λr h9=>Q r h9) (Q bT h)))
theorem EU{C Q}(I)(s:P7 I (vU C Q)){k d e f g a b c h}(i:I k d e f g a b c h):wB C Q d e f g a b c h:=WA.l7 I _ s i
def wZ(C:fm)(Q:ft)(fM:Q0)(k:K9)(i y j z c d e f g a:V)(h:Hp):Prop:=bO .lss 3 a g (dX 1 f a h λl=>yn (jr 3 1 1 nZ [(0,l)]) h λm n b=>dY 4 j 1 a b λo=>oP (gY i) λp=>oP (fH 0 p) λq=>dF 3 q b λr=>dY 4 j 1 a b λs=>oP (gz 6 r s) λt=>dG 0 t b λu=>((b.get (h.next)=some m/\O.beq m m=true)/\cP C jl [i,n,o,u] b λv w=>(b.next<=w.next/\bN v (Q bF w) (oP (en .add 3 a nO) λx=>k i y j z c d e f g x w)))) (oL C Q fM i y j z c d e h)
theorem EX{C Q fM}(I)(s:P10 I (wZ C Q fM)){k g j l m a b c d e f h}(i:I k g j l m a b c d e f h):wu C Q fM g j l m a b c d e f h:=WA.l10 I _ s i
def oU(C:fm)(Q:ft)(fM:Q0)(e f g i a b c:V)(h:Hp):Prop:=oP (en .add 3 c nO) λd=>fM e f g i a b d h
theorem ve{C:fm}{Q:ft}{fM:Q0}{d e f g a b c:V}{h:Hp}(H:oU C Q fM d e f g a b c h):oL C Q fM d e f g a b c h:=by
 rintro ρ rfl rfl rfl rfl rfl rfl rfl;exact WA.of (by kernel_rfl) H
def zF(C:fm)(Q:ft)(a0 a1:V)(h:Hp):Prop:=oP (gY a0) λc=>oP (fH 0 c) λd=>dF 3 d h λe=>oP (gz 6 e a1) λf=>oP (gv 6 f h) λg=>ig (zC 47 [nS,nZ,nZ,nS,nS,nZ]) h λb l=>fi (gI 6 b g l) λm i=>dG 0 b i λj=>dF 0 b i λa=>oP (fE a) λk=>wB C Q a0 a1 b j a k nZ i
theorem HL{C}(s:C.start=fN){a0 a1 h Q}(k:C.K mi [a0,a1] h=none)(H:zF C Q a0 a1 h):cP C mi [a0,a1] h Q:=cP.vd t46 s (by unfold P0;exact Tryz.func46) k H
def t12:List (Nat×List Nat):=[]
def Ly(C:fm)(Q:ft)(a0:V)(h:Hp):Prop:=ig (om 30 a0) h λe f=>dG 2 e f λv7=>oP (en .gtr 3 v7 (V.I 3000)) λv8=>oP (nP v8 (oB (fH 3 e) λp=>oB (ez p f) λq=>oB (fE q) λr=>en .gtr 3 r (V.I 300))) λs=>oP (nP s (oB (fH 4 e) λt=>oB (ez t f) λu=>oB (fE u) λv=>en .gtr 3 v (V.I 1000))) λw=>oP (nP w (oB (fH 3 e) λx=>oB (ez x f) λy=>oB (fE y) λz=>en .eql 3 z nZ)) λA=>bP A (Q bF f) (oP (gv 5 e f) λB=>oP (fV [nZ,nZ,nS,nS,nS,nS,nS,nS] [(0,5),(5,1),(6,1),(7,1)] [(0,B)]) λD=>ig (om 89 D) f λa h2=>dG 4 e h2 λE=>cP C jG [a,E,(V.func mg [a] [])] h2 λF h3=>oP (pt .not F) λg=>oP (fy false g) λb9=>oP (gV b9 (some a)) λG=>oP (fy false g) λH=>oP (gC H (some (oD,[G]))) λI=>uj C I h3 λJ h4=>oP (nP g (pt .not J)) λb=>oP (fy false b) λi=>oP (gV i (some a)) λK=>oP (fy false b) λL=>oP (gV L (fH 2 e)) λM=>oP (fy false b) λN=>oP (gV N (ez M h4)) λO=>oP (fy false b) λj=>oP (gV j (fE O)) λP=>oP (fy false b) λk=>oP (gV k (some a)) λR=>oP (fy false b) λl=>oP (gV l (some (V.func ke [R] []))) λS=>oP (fy false b) λm=>oP (gC m (some (jG,[K,P,S]))) λT=>uj C T h4 λU h5=>oP (nP b (pt .not U)) λc=>oP (fy false c) λW=>oP (gV W (some a)) λX=>oP (fy false c) λY=>oP (gV Y (fH 3 e)) λZ=>oP (fy false c) λaa=>oP (gV aa (ez Z h5)) λab=>oP (fy false c) λac=>oP (gV ac (fE ab)) λae=>oP (fy false c) λag=>oP (gV ag (some a)) λah=>oP (fy false c) λai=>oP (gV ai (some (V.func mH [ah] []))) λaj=>oP (fy false c) λak=>oP (gC ak (some (jG,[X,ae,aj]))) λal=>uj C al h5 λam h6=>oP (nP c (pt .not am)) λd=>oP (fy false d) λan=>oP (gV an (some a)) λao=>oP (fy false d) λap=>oP (gV ap (fH 3 e)) λaq=>oP (fy false d) λar=>oP (gV ar (ez aq h6)) λau=>oP (fy false d) λaw=>oP (gV aw (fE au)) λax=>oP (fy false d) λay=>oP (gV ay (some a)) λaA=>oP (fy false d) λaB=>oP (gV aB (some (V.func nJ [aA] []))) λaC=>oP (fy false d) λaD=>oP (gC aD (some (jG,[ao,ax,aC]))) λaE=>uj C aE h6 λaF h7=>oP (nP d (pt .not aF)) λaG=>bP aG (Q bF h7) (cP C tp [a] h7 λaH o=>oP (fE aH) λaI=>dG 3 e o λaJ=>bO .neq 3 aI aJ (Q bF o) (oP (gv 5 e o) λaK=>cP C qW [aK] o λaL h9=>oP (gY a) λaM=>oP (fH 7 aM) λaN=>fi (gI 1 aN aL h9) λvu n=>dG 3 e n λaO=>cP C jG [a,aO,(V.func mi [a] [])] n λaP aQ=>Q aP aQ)))
theorem RS{C}(s:C.start=fN){a0 h Q}(k:C.K B3 [a0] h=none)(H:Ly C Q a0 h):cP C B3 [a0] h Q:=cP.vd t12 s (by unfold P0;exact Tryz.func12) k H
end
