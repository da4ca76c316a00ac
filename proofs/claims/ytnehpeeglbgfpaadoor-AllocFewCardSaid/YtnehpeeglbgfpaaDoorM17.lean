/- Parts. -/
import Derived.Test.YtnehpeeglbgfpaaDoorM14
set_option maxHeartbeats 4000000
namespace Go.Proofs.YtnehpeeglbgfpaaDoor.Hx
set_option maxRecDepth 100000
noncomputable section
def t18:List (Nat×List Nat):=[(87,[1,3,12,13]),(351,[3,4,5]),(23135,[3,4,5,6])]
def zh(C:fe)(Q:fu)(c d a b:V)(h:Hp):Prop:=∀ρ:fK,ρ 1=c->ρ 3=d->ρ 12=a->ρ 13=b->WA C Tryd.f18 t18 43 [] Q ρ h
def zj(C:fe)(Q:fu)(a b c:V)(h:Hp):Prop:=∀ρ:fK,ρ 3=a->ρ 4=b->ρ 5=c->WA C Tryd.f18 t18 175 [] Q ρ h
def za(C:fe)(Q:fu)(a:HL)(b c d e:V)(h:Hp):Prop:=∀ρ:fK,ρ 3=b->ρ 4=c->ρ 5=d->ρ 6=e->WA C Tryd.f18 t18 11567 [λρ h=>a (ρ 3) (ρ 4) (ρ 5) h] Q ρ h
def zl(C:fe)(Q:fu)(v:Cl)(u k l m:V)(h:Hp):Prop:=bO .lss 3 m l (oP (hJ k) λw=>oP (fP 5 w) λn=>oP (er n h) λo=>oP (fP 2 u) λp=>oP (er p h) λq=>oP (fJ q) λr=>uY (gS 4 1 1 bF r r) h λx y S=>uY (jm 59 1 1 nS [(0,y)]) S λd z s=>oP (hJ k) λA=>oP (fP 6 A) λe=>oP (er e s) λf=>oP (fP 2 u) λg=>oP (er g s) λi=>oP (fJ i) λt=>uY (gS 4 1 1 bF t t) s λa B D=>uY (jm 59 1 1 nS [(0,B)]) D λb E c=>((c.get (D.next)=some b/\O.beq b b=true)/\((c.get (s.next)=some a/\O.beq a a=true)/\((er g c=some i)/\((er e c=some f)/\((c.get (S.next)=some d/\O.beq d d=true)/\((c.get (h.next)=some x/\O.beq x x=true)/\((er p c=some q)/\((er n c=some o)/\fj (fh 59 1 24 o z c) λF j=>(c.next<=j.next/\((j.get (D.next)=some b/\O.beq b b=true)/\((j.get (s.next)=some a/\O.beq a a=true)/\((er g j=some i)/\((er e j=some f)/\fj (fh 59 1 24 f E j) λG H=>(j.next<=H.next/\oP (hJ k) λI=>oP (fP 5 I) λJ=>fj (gU 1 J F H) λX K=>(H.next<=K.next/\oP (hJ k) λL=>oP (fP 6 L) λM=>fj (gU 1 M G K) λT U=>(K.next<=U.next/\oP (ej .add 3 m nO) λN=>v u k l N U))))))))))))))))) (oP (hH 5 u h) λP=>cP C lV [P] h λR W=>zj C Q k R bT W)
theorem E7{C Q}(I)(s:P4 I (zl C Q)){k c d a b h}(i:I k c d a b h):zh C Q c d a b h:=WA.l4 I _ s i
def y5(C:fe)(Q:fu)(a:HL)(d e f:V)(h:Hp):Prop:=bP f (oP (fJ e) λb=>oP (ej .sub 3 b nO) λc=>za C Q a d e bF c h) (Q d h)
theorem Fh{C Q}(I)(s:P3 I (y5 C Q)){k a b c h}(i:I k a b c h):zj C Q a b c h:=WA.l3 I _ s i
def zd(C:fe)(Q:fu)(a:HL)(b:Cl)(c d k e:V)(h:Hp):Prop:=bO .geq 3 e nZ (dX 1 d e h λf=>cP C lH [c,f] h λg l=>oP (qe g (some k)) λi=>oP (ej .sub 3 e nO) λj=>b c d i j l) (a c d k h)
theorem Fb{C Q a}(I)(s:P4 I (zd C Q a)){k b c d e h}(i:I k b c d e h):za C Q a b c d e h:=WA.l4 I _ s i
def Dh(C:fe)(Q:fu)(e:V)(h:Hp):Prop:=iW (tQ 29 e) h λa c=>oP (hH 5 a c) λf=>oP (fH [nZ,nZ,nS,nS,nS,nS,nS] [(0,5),(5,1),(6,1)] [(0,f)]) λg=>iW (tQ 80 g) c λi d=>dG 3 a d λb=>zh C Q a i b nZ d
theorem ID{C}(s:C.start=fQ){a h Q}(k:C.K uS [a] h=none)(H:Dh C Q a h):cP C uS [a] h Q:=cP.vd t18 s (by unfold P0;exact Tryd.func18) k H
def t39:List (Nat×List Nat):=[(351,[0,1,5,6,7]),(1407,[0,1,5,8,55,56,57])]
def qR(C:fe)(Q:fu)(a b c d e:V)(h:Hp):Prop:=∀ρ:fK,ρ 0=a->ρ 1=b->ρ 5=c->ρ 6=d->ρ 7=e->WA C Tryd.f39 t39 175 [] Q ρ h
def lY(C:fe)(Q:fu)(d e f g a b c:V)(h:Hp):Prop:=∀ρ:fK,ρ 0=d->ρ 1=e->ρ 5=f->ρ 8=g->ρ 55=a->ρ 56=b->ρ 57=c->WA C Tryd.f39 t39 703 [] Q ρ h
def qu(C:fe)(Q:fu)(e:mC)(c s b f d:V)(h:Hp):Prop:=oP (ej .geq 3 d nZ) λa=>oP (gB true a) λt=>oP (gV t (some c)) λg=>oP (gB true a) λu=>oP (gV u (some f)) λi=>oP (gB true a) λv=>oP (gV v (some d)) λj=>oP (gB true a) λw=>oP (gV w (gM 1 i j)) λk=>oP (gB true a) λx=>oP (gV x (er k h)) λl=>oP (gB true a) λy=>oP (gC y (some (iu,[g,l]))) λz=>yv C z h λm n=>oP (kH a (xF .not m)) λo=>bP o (dX 1 f d n λp=>cP C j5 [c,b,p] n λA B=>oP (ej .sub 3 d nO) λq=>e c s b f q B) (oP (fJ b) λr=>lY C Q c s b bF b r nZ n)
theorem yJ{C Q}(I)(s:P5 I (qu C Q)){k a b c d e h}(i:I k a b c d e h):qR C Q a b c d e h:=WA.l5 I _ s i
def rB(C:fe)(Q:fu)(d:zB)(e f x y b c a:V)(h:Hp):Prop:=bO .lss 3 a c (dX 1 b a h λg=>oP (qe y (oB (some g) λi=>oB (some e) λj=>oB (hJ j) λk=>oB (fP 5 k) λl=>oB (er l h) λm=>oB (some f) λn=>oB (gM 1 m n) λo=>oB (er o h) λp=>oB (some a) λq=>oB (gM 1 p q) λr=>oB (er r h) λs=>ej .neq 4 i s)) λt=>oP (ej .add 3 a nO) λu=>d e f x t b c u h) (dN 5 e h λv=>oP (gM 1 v f) λw=>fj (gU 1 w x h) λA z=>Q y z)
theorem yn{C Q}(I)(s:P7 I (rB C Q)){k d e f g a b c h}(i:I k d e f g a b c h):lY C Q d e f g a b c h:=WA.l7 I _ s i
def uG(C:fe)(Q:fu)(e f:V)(h:Hp):Prop:=cP C mL [e,f] h λc j=>oP (hJ e) λk=>oP (fP 6 k) λa=>oP (er a j) λb=>uY (jm 4 1 0 bF []) j λl m g=>((g.get (j.next)=some l/\O.beq l l=true)/\((er a g=some b)/\fj (fh 4 1 1 m c g) λn i=>(g.next<=i.next/\oP (gM 1 b f) λo=>((er a i=some b)/\fj (gU 1 o n i) λu p=>(i.next<=p.next/\oP (hJ e) λq=>oP (fP 0 q) λr=>dJ 3 r 6 f 0 p λd=>oP (fJ d) λs=>oP (ej .sub 3 s nO) λt=>qR C Q e f c d t p)))))
theorem Bu{C}(s:C.start=fQ){a b h Q}(k:C.K lH [a,b] h=none)(H:uG C Q a b h):cP C lH [a,b] h Q:=cP.vd t39 s (by unfold P0;exact Tryd.func39) k H
def t56:List (Nat×List Nat):=[(175,[0,1,5,6,37,38,39]),(176943,[0,1,5,6,9,37,38,39,57,58,59]),(351,[0,1,5,6,91,92,93]),(193327,[0,1,5,6,37,38,39,76,77,78]),(190047,[0,1,5,6,16,91,92,93,106,107,108]),(254,[5]),(3994414,[0,1,5,6,37,38,39,76,77,78]),(46982751,[0,1,5,6,16,17,18,91,92,93,106,107,108,114,115,116]),(1020061278,[0,1,5,6,16,17,18,91,92,93,106,107,108,114,115,116])]
def tf(C:fe)(Q:fu)(d e f g a b c:V)(h:Hp):Prop:=∀ρ:fK,ρ 0=d->ρ 1=e->ρ 5=f->ρ 6=g->ρ 37=a->ρ 38=b->ρ 39=c->WA C Tryd.f56 t56 87 [] Q ρ h
def sX(C:fe)(Q:fu)(a:zB)(i j k l m b c d e f g:V)(h:Hp):Prop:=∀ρ:fK,ρ 0=i->ρ 1=j->ρ 5=k->ρ 6=l->ρ 9=m->ρ 37=b->ρ 38=c->ρ 39=d->ρ 57=e->ρ 58=f->ρ 59=g->WA C Tryd.f56 t56 88471 [λρ h=>a (ρ 0) (ρ 1) (ρ 5) (ρ 6) (ρ 37) (ρ 38) (ρ 39) h] Q ρ h
def sV(C:fe)(Q:fu)(d e f g a b c:V)(h:Hp):Prop:=∀ρ:fK,ρ 0=d->ρ 1=e->ρ 5=f->ρ 6=g->ρ 91=a->ρ 92=b->ρ 93=c->WA C Tryd.f56 t56 175 [] Q ρ h
def sM(C:fe)(Q:fu)(a:zB)(i j k l b c d e f g:V)(h:Hp):Prop:=∀ρ:fK,ρ 0=i->ρ 1=j->ρ 5=k->ρ 6=l->ρ 37=b->ρ 38=c->ρ 39=d->ρ 76=e->ρ 77=f->ρ 78=g->WA C Tryd.f56 t56 96663 [λρ h=>a (ρ 0) (ρ 1) (ρ 5) (ρ 6) (ρ 37) (ρ 38) (ρ 39) h] Q ρ h
def sR(C:fe)(Q:fu)(d:zB)(j k l m e f g i a b c:V)(h:Hp):Prop:=∀ρ:fK,ρ 0=j->ρ 1=k->ρ 5=l->ρ 6=m->ρ 16=e->ρ 91=f->ρ 92=g->ρ 93=i->ρ 106=a->ρ 107=b->ρ 108=c->WA C Tryd.f56 t56 95023 [λρ h=>d (ρ 0) (ρ 1) (ρ 5) (ρ 6) (ρ 91) (ρ 92) (ρ 93) h] Q ρ h
def jM(C:fe)(Q:fu)(a:V)(h:Hp):Prop:=∀ρ:fK,ρ 5=a->WA C Tryd.f56 t56 127 [] Q ρ h
def my(C:fe)(Q:fu)(a:zB)(b:zo)(j k l m c d e f g i:V)(h:Hp):Prop:=∀ρ:fK,ρ 0=j->ρ 1=k->ρ 5=l->ρ 6=m->ρ 37=c->ρ 38=d->ρ 39=e->ρ 76=f->ρ 77=g->ρ 78=i->WA C Tryd.f56 t56 1997207 [λρ h=>a (ρ 0) (ρ 1) (ρ 5) (ρ 6) (ρ 37) (ρ 38) (ρ 39) h,λρ h=>b (ρ 0) (ρ 1) (ρ 5) (ρ 6) (ρ 37) (ρ 38) (ρ 39) (ρ 76) (ρ 77) (ρ 78) h] Q ρ h
def tm(C:fe)(Q:fu)(g:zB)(i:pV)(p q r s j k l m n o a b c d e f:V)(h:Hp):Prop:=∀ρ:fK,ρ 0=p->ρ 1=q->ρ 5=r->ρ 6=s->ρ 16=j->ρ 17=k->ρ 18=l->ρ 91=m->ρ 92=n->ρ 93=o->ρ 106=a->ρ 107=b->ρ 108=c->ρ 114=d->ρ 115=e->ρ 116=f->WA C Tryd.f56 t56 23491375 [λρ h=>g (ρ 0) (ρ 1) (ρ 5) (ρ 6) (ρ 91) (ρ 92) (ρ 93) h,λρ h=>i (ρ 0) (ρ 1) (ρ 5) (ρ 6) (ρ 16) (ρ 91) (ρ 92) (ρ 93) (ρ 106) (ρ 107) (ρ 108) h] Q ρ h
def mz(C:fe)(Q:fu)(g:zB)(i:pV)(j:PK)(q r s t k l m n o p a b c d e f:V)(h:Hp):Prop:=∀ρ:fK,ρ 0=q->ρ 1=r->ρ 5=s->ρ 6=t->ρ 16=k->ρ 17=l->ρ 18=m->ρ 91=n->ρ 92=o->ρ 93=p->ρ 106=a->ρ 107=b->ρ 108=c->ρ 114=d->ρ 115=e->ρ 116=f->WA C Tryd.f56 t56 510030639 [λρ h=>g (ρ 0) (ρ 1) (ρ 5) (ρ 6) (ρ 91) (ρ 92) (ρ 93) h,λρ h=>i (ρ 0) (ρ 1) (ρ 5) (ρ 6) (ρ 16) (ρ 91) (ρ 92) (ρ 93) (ρ 106) (ρ 107) (ρ 108) h,λρ h=>j (ρ 0) (ρ 1) (ρ 5) (ρ 6) (ρ 16) (ρ 17) (ρ 18) (ρ 91) (ρ 92) (ρ 93) (ρ 106) (ρ 107) (ρ 108) (ρ 114) (ρ 115) (ρ 116) h] Q ρ h
def tJ(C:fe)(Q:fu)(i:zB)(g t u j b c a:V)(h:Hp):Prop:=bO .lss 3 a c (dX 1 b a h λd=>oP (hJ g) λk=>oP (fP 0 k) λl=>dF 3 l h λm=>oP (gM 6 m d) λn=>oP (hH 6 n h) λo=>iW (zC 44 [nS,nZ,nZ,nS,nS,nZ]) h λv w=>fj (gU 6 v o w) λx p=>dN 5 g p λq=>dX 1 q d p λe=>oP (fJ e) λr=>sX C Q i g t u j v b c a e r nZ p) (dF 3 j h λf=>oP (fJ f) λs=>sV C Q g t u j f s nZ h)
theorem Au{C Q}(I)(s:P7 I (tJ C Q)){k d e f g a b c h}(i:I k d e f g a b c h):tf C Q d e f g a b c h:=WA.l7 I _ s i
def td(C:fe)(Q:fu)(j:zB)(k:pV)(r s i t u b c d e f a:V)(h:Hp):Prop:=bO .lss 3 a f (dX 1 e a h λl=>dX 1 i a h λm=>oP (qe m (some l)) λn=>oP (gM 1 i a) λo=>fj (gU 1 o n h) λw v=>oP (ej .add 3 a nO) λp=>k r s i t u b c d e f p v) (dF 0 u h λg=>oP (fJ g) λq=>sM C Q j r s i t b c d g q nZ h)
theorem Ae{C Q a}(I)(s:Tz I (td C Q a)){k j l m n o b c d e f g h}(i:I k j l m n o b c d e f g h):sX C Q a j l m n o b c d e f g h:=WA.FX I _ s i
def ta(C:fe)(Q:fu)(q:zB)(r y e p f g c:V)(h:Hp):Prop:=bO .lss 3 c g (dX 1 f c h λs=>oP (hJ r) λt=>oP (fP 0 t) λu=>dF 3 u h λi=>oP (gM 6 i s) λj=>oP (hH 6 j h) λk=>iW (zC 44 [nS,nZ,nZ,nS,nS,nZ]) h λd z=>fj (gU 6 d k z) λD v=>dF 4 d v λa=>oP (fJ a) λl=>sR C Q q r y e p d f g c a l nZ v) (dF 1 p h λb=>bO .eql 3 b (V.I 2) (dF 2 p h λm=>oP (gM 1 e m) λn=>fj (gU 1 n bT h) λw A=>jM C Q e A) (bO .eql 3 b (V.I 3) (dF 5 p h λo=>cP C j4 [r,e,o] h λx B=>jM C Q e B) (jM C Q e h)))
theorem zR{C Q}(I)(s:P7 I (ta C Q)){k d e f g a b c h}(i:I k d e f g a b c h):sV C Q d e f g a b c h:=WA.l7 I _ s i
def tw(C:fe)(Q:fu)(b:zB)(i:zo)(k m l n c d e f g a:V)(h:Hp):Prop:=bO .lss 3 a g (dX 1 f a h λj=>cP C iu [k,j] h λo r=>bP o (oP (gM 1 l j) λp=>fj (gU 1 p bF r) λt s=>my C Q b i k m l n c d e f g a s) (my C Q b i k m l n c d e f g a r)) (oP (ej .add 3 e nO) λq=>b k m l n c d q h)
theorem Aw{C Q a}(I)(s:VH I (tw C Q a)){k j l m n b c d e f g h}(i:I k j l m n b c d e f g h):sM C Q a j l m n b c d e f g h:=WA.M5 I _ s i
def tL(C:fe)(Q:fu)(e:zB)(n:pV)(o p q r f g i j b c a:V)(h:Hp):Prop:=bO .lss 3 a c (dX 1 b a h λk=>dF 0 f h λd=>oP (fJ d) λl=>tm C Q e n o p q r f a k g i j b c a d l nZ h) (oP (ej .add 3 j nO) λm=>e o p q r g i m h)
theorem zZ{C Q d}(I)(s:Tz I (tL C Q d)){k l m n o e f g j a b c h}(i:I k l m n o e f g j a b c h):sR C Q d l m n o e f g j a b c h:=WA.FX I _ s i
def tu(C:fe)(Q:fu)(a:V)(h:Hp):Prop:=Q a h
theorem zP{C:fe}{Q:fu}{a:V}{h:Hp}(H:tu C Q a h):jM C Q a h:=by
 rintro ρ rfl;exact WA.of (by kernel_rfl) H
def mB(C:fe)(Q:fu)(j:zB)(a:zo)(k l m n b c d e f g:V)(h:Hp):Prop:=oP (ej .add 3 g nO) λi=>a k l m n b c d e f i h
theorem sh{C:fe}{Q:fu}{a:zB}{b:zo}{j k l m c d e f g i:V}{h:Hp}(H:mB C Q a b j k l m c d e f g i h):my C Q a b j k l m c d e f g i h:=by
 rintro ρ rfl rfl rfl rfl rfl rfl rfl rfl rfl rfl;exact WA.of (by kernel_rfl) H
def ti(C:fe)(Q:fu)(p:zB)(i:pV)(q:PK)(r K L M j k l m n o b c d e f a:V)(h:Hp):Prop:=bO .lss 3 a f (dX 1 e a h λg=>oP (ej .eql 3 l K) λs=>oP (kH s (oB (some r) λt=>oB (hJ t) λu=>oB (fP 0 u) λv=>oB (fP 2 v) λw=>oB (er w h) λx=>oB (some g) λy=>oB (gM 6 x y) λz=>oB (fP 0 z) λA=>oB (er A h) λB=>ej .eql 3 B (V.I 21))) λD=>bP D (oP (hJ r) λE=>oP (fP 0 E) λF=>dJ 2 F 6 g 4 h λG=>dX 1 G k h λH=>oP (gM 1 L H) λI=>fj (gU 1 I bT h) λO N=>mz C Q p i q r K L M j k l m n o b c d e f a N) (mz C Q p i q r K L M j k l m n o b c d e f a h)) (oP (ej .add 3 d nO) λJ=>i r K L M j m n o b c J h)
theorem Af{C:fe}{Q:fu}{s:zB}{t:pV}(I:Nat->PK)(step:∀(k:Nat)(o p q r g i j l m n a b c d e f:V)(h:Hp),I k o p q r g i j l m n a b c d e f h->ti C Q s t (λo p q r g i j l m n a b c d e f h=>∃k',k' < k/\I k' o p q r g i j l m n a b c d e f h) o p q r g i j l m n a b c d e f h){k:Nat}{o p q r g i j l m n a b c d e f:V}{h:Hp}(h0:I k o p q r g i j l m n a b c d e f h):tm C Q s t o p q r g i j l m n a b c d e f h:=by
 rintro ρ rfl rfl rfl rfl rfl rfl rfl rfl rfl rfl rfl rfl rfl rfl rfl rfl;exact WA.loop (λk ρ h=>I k (ρ 0) (ρ 1) (ρ 5) (ρ 6) (ρ 16) (ρ 17) (ρ 18) (ρ 91) (ρ 92) (ρ 93) (ρ 106) (ρ 107) (ρ 108) (ρ 114) (ρ 115) (ρ 116) h) (by kernel_rfl) (by kernel_rfl) (λk ρ h hi=>LA.of (by kernel_rfl) (step k (ρ 0) (ρ 1) (ρ 5) (ρ 6) (ρ 16) (ρ 17) (ρ 18) (ρ 91) (ρ 92) (ρ 93) (ρ 106) (ρ 107) (ρ 108) (ρ 114) (ρ 115) (ρ 116) h hi)) h0
def mA(C:fe)(Q:fu)(p:zB)(q:pV)(i:PK)(r s t u j k l m n o a b c d e f:V)(h:Hp):Prop:=oP (ej .add 3 f nO) λg=>i r s t u j k l m n o a b c d e g h
theorem rS{C:fe}{Q:fu}{g:zB}{i:pV}{j:PK}{q r s t k l m n o p a b c d e f:V}{h:Hp}(H:mA C Q g i j q r s t k l m n o p a b c d e f h):mz C Q g i j q r s t k l m n o p a b c d e f h:=by
 rintro ρ rfl rfl rfl rfl rfl rfl rfl rfl rfl rfl rfl rfl rfl rfl rfl rfl;exact WA.of (by kernel_rfl) H
def wR(C:fe)(Q:fu)(c p:V)(h:Hp):Prop:=oP (hJ c) λd=>oP (fP 0 d) λe=>dG 2 e h λa=>iW (gS 4 1 1 bF a a) h λf g=>oP (hJ c) λi=>oP (fP 0 i) λj=>dF 3 j g λk=>oP (gM 6 k p) λl=>oP (hH 6 l g) λm=>iW (zC 44 [nS,nZ,nZ,nS,nS,nZ]) g λn r=>fj (gU 6 n m r) λs q=>dF 3 n q λb=>oP (fJ b) λo=>tf C Q c p f n b o nZ q
theorem DA{C}(s:C.start=fQ){a b h Q}(k:C.K mL [a,b] h=none)(H:wR C Q a b h):cP C mL [a,b] h Q:=cP.vd t56 s (by unfold P0;exact Tryd.func56) k H
def t42:List (Nat×List Nat):=[]
def uF(C:fe)(Q:fu)(q c r:V)(h:Hp):Prop:=oP (hJ q) λu=>oP (fP 0 u) λv=>dF 2 v h λd=>oP (gM 6 d r) λe=>oP (hH 6 e h) λf=>iW (zC 46 [nZ,nZ,nZ,nZ,nS,nZ]) h λa w=>fj (gU 6 a f w) λD x=>oP (gM 1 c r) λg=>fj (gU 1 g bF x) λs t=>oP (hH 6 a t) λi=>cP C pZ [i] t λj y=>cP C nM [c,j] y λz b=>dF 0 a b λk=>oP (ej .eql 3 k (V.I 22)) λl=>oP (qe l (oB (fP 0 a) λm=>oB (er m b) λn=>ej .eql 3 n (V.I 23))) λo=>bP o (dF 5 a b λp=>cP C j4 [q,c,p] b λA B=>Q (V.tuple []) B) (Q (V.tuple []) b)
theorem Br{C}(s:C.start=fQ){a b c h Q}(k:C.K j5 [a,b,c] h=none)(H:uF C Q a b c h):cP C j5 [a,b,c] h Q:=cP.vd t42 s (by unfold P0;exact Tryd.func42) k H
def t58:List (Nat×List Nat):=[(11,[1,16,17,18])]
def rl(C:fe)(Q:fu)(d a b c:V)(h:Hp):Prop:=∀ρ:fK,ρ 1=d->ρ 16=a->ρ 17=b->ρ 18=c->WA C Tryd.f58 t58 5 [] Q ρ h
def rq(C:fe)(Q:fu)(d:Cl)(e b c a:V)(h:Hp):Prop:=bO .lss 3 a c (oP (gM 4 b a) λf=>oP (hH 4 f h) λg=>iW (zC 50 [nZ,nZ,nS,nS]) h λi o=>fj (gU 4 i g o) λs m=>dF 2 i m λj=>cP C nM [e,j] m λp n=>dF 3 i n λk=>cP C nM [e,k] n λq r=>oP (ej .add 3 a nO) λl=>d e b c l r) (Q (V.tuple []) h)
theorem yY{C Q}(I)(s:P4 I (rq C Q)){k d a b c h}(i:I k d a b c h):rl C Q d a b c h:=WA.l4 I _ s i
def uw(C:fe)(Q:fu)(d e f:V)(h:Hp):Prop:=oP (hJ d) λg=>oP (fP 0 g) λb=>dJ 4 b 1 f 0 h λa=>oP (fJ a) λc=>rl C Q e a c nZ h
theorem Bi{C}(s:C.start=fQ){a b c h Q}(k:C.K j4 [a,b,c] h=none)(H:uw C Q a b c h):cP C j4 [a,b,c] h Q:=cP.vd t58 s (by unfold P0;exact Tryd.func58) k H
def t21:List (Nat×List Nat):=[]
def vI(C:fe)(Q:fu)(e f:V)(h:Hp):Prop:=oP (hJ e) λg=>oP (fP 0 g) λi=>dJ 2 i 6 f 0 h λa=>oP (ej .eql 3 a (V.I 21)) λb=>oP (qe b (oB (some a) λc=>ej .eql 3 c nO)) λd=>Q d h
theorem B3{C}(s:C.start=fQ){a b h Q}(k:C.K iu [a,b] h=none)(H:vI C Q a b h):cP C iu [a,b] h Q:=cP.vd t21 s (by unfold P0;exact Tryd.func21) k H
def t57:List (Nat×List Nat):=[(11,[0,6,7,8])]
def ze(C:fe)(Q:fu)(a b c d:V)(h:Hp):Prop:=∀ρ:fK,ρ 0=a->ρ 6=b->ρ 7=c->ρ 8=d->WA C Tryd.f57 t57 5 [] Q ρ h
def y0(C:fe)(Q:fu)(a:Cl)(f g i b:V)(h:Hp):Prop:=bO .lss 3 b i (dX 1 g b h λc=>oP (gM 1 f c) λd=>fj (gU 1 d bT h) λk j=>oP (ej .add 3 b nO) λe=>a f g i e j) (Q (V.tuple []) h)
theorem E9{C Q}(I)(s:P4 I (y0 C Q)){k a b c d h}(i:I k a b c d h):ze C Q a b c d h:=WA.l4 I _ s i
def Dg(C:fe)(Q:fu)(b a:V)(h:Hp):Prop:=oP (fJ a) λc=>ze C Q b a c nZ h
theorem I9{C}(s:C.start=fQ){a b h Q}(k:C.K nM [a,b] h=none)(H:Dg C Q a b h):cP C nM [a,b] h Q:=cP.vd t57 s (by unfold P0;exact Tryd.func57) k H
end
set_option maxRecDepth 100000
noncomputable section
def t20:List (Nat×List Nat):=[(351,[0,5,6,7,8]),(3678,[0,5,6,7,8])]
def qp(C:fe)(Q:fu)(a b c d e:V)(h:Hp):Prop:=∀ρ:fK,ρ 0=a->ρ 5=b->ρ 6=c->ρ 7=d->ρ 8=e->WA C Tryd.f20 t20 175 [] Q ρ h
def lC(C:fe)(Q:fu)(a:mC)(b c d e f:V)(h:Hp):Prop:=∀ρ:fK,ρ 0=b->ρ 5=c->ρ 6=d->ρ 7=e->ρ 8=f->WA C Tryd.f20 t20 1839 [λρ h=>a (ρ 0) (ρ 5) (ρ 6) (ρ 7) (ρ 8) h] Q ρ h
def qj(C:fe)(Q:fu)(b:mC)(c d e f a:V)(h:Hp):Prop:=bO .geq 3 a nZ (iW (jm 4 1 0 bF []) h λg p=>fj (fh 4 1 1 g f p) λi q=>oP (gM 1 e a) λj=>fj (gU 1 j i q) λt o=>dX 1 d a o λk=>cP C iu [c,k] o λl m=>bN l (dX 1 d a m λn=>cP C j5 [c,f,n] m λr s=>lC C Q b c d e f a s) (lC C Q b c d e f a m)) (Q e h)
theorem yb{C Q}(I)(s:P5 I (qj C Q)){k a b c d e h}(i:I k a b c d e h):qp C Q a b c d e h:=WA.l5 I _ s i
def lB(C:fe)(Q:fu)(a:mC)(c d e f g:V)(h:Hp):Prop:=oP (ej .sub 3 g nO) λb=>a c d e f b h
theorem pj{C:fe}{Q:fu}{a:mC}{b c d e f:V}{h:Hp}(H:lB C Q a b c d e f h):lC C Q a b c d e f h:=by
 rintro ρ rfl rfl rfl rfl rfl;exact WA.of (by kernel_rfl) H
def tg(C:fe)(Q:fu)(c o:V)(h:Hp):Prop:=oP (hJ c) λd=>oP (fP 0 d) λe=>dJ 3 e 6 o 0 h λa=>oP (fJ a) λb=>iW (gS 59 1 24 nS b b) h λf p=>iW (jm 4 1 0 bF []) p λg i=>dN 6 c i λj=>dX 1 j o i λk=>fj (fh 4 1 1 g k i) λl q=>oP (fJ a) λm=>oP (ej .sub 3 m nO) λn=>qp C Q c a f l n q
theorem Ar{C}(s:C.start=fQ){a b h Q}(k:C.K kT [a,b] h=none)(H:tg C Q a b h):cP C kT [a,b] h Q:=cP.vd t20 s (by unfold P0;exact Tryd.func20) k H
end
