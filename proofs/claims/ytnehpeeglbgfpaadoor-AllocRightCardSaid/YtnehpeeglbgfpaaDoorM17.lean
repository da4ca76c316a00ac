/- Parts. -/
import Derived.Test.YtnehpeeglbgfpaaDoorM14
set_option maxHeartbeats 4000000
namespace Go.Proofs.YtnehpeeglbgfpaaDoor.Hx
set_option maxRecDepth 100000
noncomputable section
def t18:List (Nat×List Nat):=[(87,[1,3,12,13]),(351,[3,4,5]),(23135,[3,4,5,6])]
def Aq(C:fg)(Q:fm)(c d a b:V)(h:Hp):Prop:=∀ρ:fN,ρ 1=c->ρ 3=d->ρ 12=a->ρ 13=b->WA C Tryd.f18 t18 43 [] Q ρ h
def Am(C:fg)(Q:fm)(a b c:V)(h:Hp):Prop:=∀ρ:fN,ρ 3=a->ρ 4=b->ρ 5=c->WA C Tryd.f18 t18 175 [] Q ρ h
def An(C:fg)(Q:fm)(a:JP)(b c d e:V)(h:Hp):Prop:=∀ρ:fN,ρ 3=b->ρ 4=c->ρ 5=d->ρ 6=e->WA C Tryd.f18 t18 11567 [λρ h=>a (ρ 3) (ρ 4) (ρ 5) h] Q ρ h
def Aj(C:fg)(Q:fm)(v:Eu)(u k l m:V)(h:Hp):Prop:=bO .lss 3 m l (oP (iu k) λw=>oP (fI 5 w) λn=>oP (en n h) λo=>oP (fI 2 u) λp=>oP (en p h) λq=>oP (fF q) λr=>uN (hZ 4 1 1 bF r r) h λx y S=>uN (ju 59 1 1 nS [(0,y)]) S λd z s=>oP (iu k) λA=>oP (fI 6 A) λe=>oP (en e s) λf=>oP (fI 2 u) λg=>oP (en g s) λi=>oP (fF i) λt=>uN (hZ 4 1 1 bF t t) s λa B D=>uN (ju 59 1 1 nS [(0,B)]) D λb E c=>((c.get (D.next)=some b/\O.beq b b=true)/\((c.get (s.next)=some a/\O.beq a a=true)/\((en g c=some i)/\((en e c=some f)/\((c.get (S.next)=some d/\O.beq d d=true)/\((c.get (h.next)=some x/\O.beq x x=true)/\((en p c=some q)/\((en n c=some o)/\fi (fh 59 1 24 o z c) λF j=>(c.next<=j.next/\((j.get (D.next)=some b/\O.beq b b=true)/\((j.get (s.next)=some a/\O.beq a a=true)/\((en g j=some i)/\((en e j=some f)/\fi (fh 59 1 24 f E j) λG H=>(j.next<=H.next/\oP (iu k) λI=>oP (fI 5 I) λJ=>fi (gW 1 J F H) λX K=>(H.next<=K.next/\oP (iu k) λL=>oP (fI 6 L) λM=>fi (gW 1 M G K) λT U=>(K.next<=U.next/\oP (ef .add 3 m nO) λN=>v u k l N U))))))))))))))))) (oP (fZ 5 u h) λP=>cP C mF [P] h λR W=>Am C Q k R bT W)
theorem GB{C Q}(I)(s:P4 I (Aj C Q)){k c d a b h}(i:I k c d a b h):Aq C Q c d a b h:=WA.l4 I _ s i
def Ao(C:fg)(Q:fm)(a:JP)(d e f:V)(h:Hp):Prop:=bP f (oP (fF e) λb=>oP (ef .sub 3 b nO) λc=>An C Q a d e bF c h) (Q d h)
theorem GC{C Q}(I)(s:P3 I (Ao C Q)){k a b c h}(i:I k a b c h):Am C Q a b c h:=WA.l3 I _ s i
def Ar(C:fg)(Q:fm)(a:JP)(b:Eu)(c d k e:V)(h:Hp):Prop:=bO .geq 3 e nZ (dX 1 d e h λf=>cP C ml [c,f] h λg l=>oP (mh g (some k)) λi=>oP (ef .sub 3 e nO) λj=>b c d i j l) (a c d k h)
theorem GK{C Q a}(I)(s:P4 I (Ar C Q a)){k b c d e h}(i:I k b c d e h):An C Q a b c d e h:=WA.l4 I _ s i
def Ee(C:fg)(Q:fm)(e:V)(h:Hp):Prop:=iQ (sO 29 e) h λa c=>oP (fZ 5 a c) λf=>oP (fG [nZ,nZ,nS,nS,nS,nS,nS] [(0,5),(5,1),(6,1)] [(0,f)]) λg=>iQ (sO 80 g) c λi d=>dG 3 a d λb=>Aq C Q a i b nZ d
theorem Kf{C}(s:C.start=fT){a h Q}(k:C.K rl [a] h=none)(H:Ee C Q a h):cP C rl [a] h Q:=cP.vd t18 s (by unfold P0;exact Tryd.func18) k H
def t39:List (Nat×List Nat):=[(351,[0,1,5,6,7]),(1407,[0,1,5,8,55,56,57])]
def rn(C:fg)(Q:fm)(a b c d e:V)(h:Hp):Prop:=∀ρ:fN,ρ 0=a->ρ 1=b->ρ 5=c->ρ 6=d->ρ 7=e->WA C Tryd.f39 t39 175 [] Q ρ h
def mH(C:fg)(Q:fm)(d e f g a b c:V)(h:Hp):Prop:=∀ρ:fN,ρ 0=d->ρ 1=e->ρ 5=f->ρ 8=g->ρ 55=a->ρ 56=b->ρ 57=c->WA C Tryd.f39 t39 703 [] Q ρ h
def rG(C:fg)(Q:fm)(e:ly)(c s b f d:V)(h:Hp):Prop:=oP (ef .geq 3 d nZ) λa=>oP (gg true a) λt=>oP (gV t (some c)) λg=>oP (gg true a) λu=>oP (gV u (some f)) λi=>oP (gg true a) λv=>oP (gV v (some d)) λj=>oP (gg true a) λw=>oP (gV w (gy 1 i j)) λk=>oP (gg true a) λx=>oP (gV x (en k h)) λl=>oP (gg true a) λy=>oP (gC y (some (hY,[g,l]))) λz=>xa C z h λm n=>oP (jq a (tk .not m)) λo=>bP o (dX 1 f d n λp=>cP C kK [c,b,p] n λA B=>oP (ef .sub 3 d nO) λq=>e c s b f q B) (oP (fF b) λr=>mH C Q c s b bF b r nZ n)
theorem z8{C Q}(I)(s:P5 I (rG C Q)){k a b c d e h}(i:I k a b c d e h):rn C Q a b c d e h:=WA.l5 I _ s i
def sH(C:fg)(Q:fm)(d:AH)(e f x y b c a:V)(h:Hp):Prop:=bO .lss 3 a c (dX 1 b a h λg=>oP (mh y (oB (some g) λi=>oB (some e) λj=>oB (iu j) λk=>oB (fI 5 k) λl=>oB (en l h) λm=>oB (some f) λn=>oB (gy 1 m n) λo=>oB (en o h) λp=>oB (some a) λq=>oB (gy 1 p q) λr=>oB (en r h) λs=>ef .neq 4 i s)) λt=>oP (ef .add 3 a nO) λu=>d e f x t b c u h) (dN 5 e h λv=>oP (gy 1 v f) λw=>fi (gW 1 w x h) λA z=>Q y z)
theorem zG{C Q}(I)(s:P7 I (sH C Q)){k d e f g a b c h}(i:I k d e f g a b c h):mH C Q d e f g a b c h:=WA.l7 I _ s i
def vy(C:fg)(Q:fm)(e f:V)(h:Hp):Prop:=cP C nm [e,f] h λc j=>oP (iu e) λk=>oP (fI 6 k) λa=>oP (en a j) λb=>uN (ju 4 1 0 bF []) j λl m g=>((g.get (j.next)=some l/\O.beq l l=true)/\((en a g=some b)/\fi (fh 4 1 1 m c g) λn i=>(g.next<=i.next/\oP (gy 1 b f) λo=>((en a i=some b)/\fi (gW 1 o n i) λu p=>(i.next<=p.next/\oP (iu e) λq=>oP (fI 0 q) λr=>dJ 3 r 6 f 0 p λd=>oP (fF d) λs=>oP (ef .sub 3 s nO) λt=>rn C Q e f c d t p)))))
theorem Ca{C}(s:C.start=fT){a b h Q}(k:C.K ml [a,b] h=none)(H:vy C Q a b h):cP C ml [a,b] h Q:=cP.vd t39 s (by unfold P0;exact Tryd.func39) k H
def t56:List (Nat×List Nat):=[(175,[0,1,5,6,37,38,39]),(176943,[0,1,5,6,9,37,38,39,57,58,59]),(351,[0,1,5,6,91,92,93]),(193327,[0,1,5,6,37,38,39,76,77,78]),(190047,[0,1,5,6,16,91,92,93,106,107,108]),(254,[5]),(3994414,[0,1,5,6,37,38,39,76,77,78]),(46982751,[0,1,5,6,16,17,18,91,92,93,106,107,108,114,115,116]),(1020061278,[0,1,5,6,16,17,18,91,92,93,106,107,108,114,115,116])]
def uH(C:fg)(Q:fm)(d e f g a b c:V)(h:Hp):Prop:=∀ρ:fN,ρ 0=d->ρ 1=e->ρ 5=f->ρ 6=g->ρ 37=a->ρ 38=b->ρ 39=c->WA C Tryd.f56 t56 87 [] Q ρ h
def uw(C:fg)(Q:fm)(a:AH)(i j k l m b c d e f g:V)(h:Hp):Prop:=∀ρ:fN,ρ 0=i->ρ 1=j->ρ 5=k->ρ 6=l->ρ 9=m->ρ 37=b->ρ 38=c->ρ 39=d->ρ 57=e->ρ 58=f->ρ 59=g->WA C Tryd.f56 t56 88471 [λρ h=>a (ρ 0) (ρ 1) (ρ 5) (ρ 6) (ρ 37) (ρ 38) (ρ 39) h] Q ρ h
def uF(C:fg)(Q:fm)(d e f g a b c:V)(h:Hp):Prop:=∀ρ:fN,ρ 0=d->ρ 1=e->ρ 5=f->ρ 6=g->ρ 91=a->ρ 92=b->ρ 93=c->WA C Tryd.f56 t56 175 [] Q ρ h
def uo(C:fg)(Q:fm)(a:AH)(i j k l b c d e f g:V)(h:Hp):Prop:=∀ρ:fN,ρ 0=i->ρ 1=j->ρ 5=k->ρ 6=l->ρ 37=b->ρ 38=c->ρ 39=d->ρ 76=e->ρ 77=f->ρ 78=g->WA C Tryd.f56 t56 96663 [λρ h=>a (ρ 0) (ρ 1) (ρ 5) (ρ 6) (ρ 37) (ρ 38) (ρ 39) h] Q ρ h
def ui(C:fg)(Q:fm)(d:AH)(j k l m e f g i a b c:V)(h:Hp):Prop:=∀ρ:fN,ρ 0=j->ρ 1=k->ρ 5=l->ρ 6=m->ρ 16=e->ρ 91=f->ρ 92=g->ρ 93=i->ρ 106=a->ρ 107=b->ρ 108=c->WA C Tryd.f56 t56 95023 [λρ h=>d (ρ 0) (ρ 1) (ρ 5) (ρ 6) (ρ 91) (ρ 92) (ρ 93) h] Q ρ h
def kh(C:fg)(Q:fm)(a:V)(h:Hp):Prop:=∀ρ:fN,ρ 5=a->WA C Tryd.f56 t56 127 [] Q ρ h
def mW(C:fg)(Q:fm)(a:AH)(b:vW)(j k l m c d e f g i:V)(h:Hp):Prop:=∀ρ:fN,ρ 0=j->ρ 1=k->ρ 5=l->ρ 6=m->ρ 37=c->ρ 38=d->ρ 39=e->ρ 76=f->ρ 77=g->ρ 78=i->WA C Tryd.f56 t56 1997207 [λρ h=>a (ρ 0) (ρ 1) (ρ 5) (ρ 6) (ρ 37) (ρ 38) (ρ 39) h,λρ h=>b (ρ 0) (ρ 1) (ρ 5) (ρ 6) (ρ 37) (ρ 38) (ρ 39) (ρ 76) (ρ 77) (ρ 78) h] Q ρ h
def tY(C:fg)(Q:fm)(g:AH)(i:qy)(p q r s j k l m n o a b c d e f:V)(h:Hp):Prop:=∀ρ:fN,ρ 0=p->ρ 1=q->ρ 5=r->ρ 6=s->ρ 16=j->ρ 17=k->ρ 18=l->ρ 91=m->ρ 92=n->ρ 93=o->ρ 106=a->ρ 107=b->ρ 108=c->ρ 114=d->ρ 115=e->ρ 116=f->WA C Tryd.f56 t56 23491375 [λρ h=>g (ρ 0) (ρ 1) (ρ 5) (ρ 6) (ρ 91) (ρ 92) (ρ 93) h,λρ h=>i (ρ 0) (ρ 1) (ρ 5) (ρ 6) (ρ 16) (ρ 91) (ρ 92) (ρ 93) (ρ 106) (ρ 107) (ρ 108) h] Q ρ h
def mU(C:fg)(Q:fm)(g:AH)(i:qy)(j:QK)(q r s t k l m n o p a b c d e f:V)(h:Hp):Prop:=∀ρ:fN,ρ 0=q->ρ 1=r->ρ 5=s->ρ 6=t->ρ 16=k->ρ 17=l->ρ 18=m->ρ 91=n->ρ 92=o->ρ 93=p->ρ 106=a->ρ 107=b->ρ 108=c->ρ 114=d->ρ 115=e->ρ 116=f->WA C Tryd.f56 t56 510030639 [λρ h=>g (ρ 0) (ρ 1) (ρ 5) (ρ 6) (ρ 91) (ρ 92) (ρ 93) h,λρ h=>i (ρ 0) (ρ 1) (ρ 5) (ρ 6) (ρ 16) (ρ 91) (ρ 92) (ρ 93) (ρ 106) (ρ 107) (ρ 108) h,λρ h=>j (ρ 0) (ρ 1) (ρ 5) (ρ 6) (ρ 16) (ρ 17) (ρ 18) (ρ 91) (ρ 92) (ρ 93) (ρ 106) (ρ 107) (ρ 108) (ρ 114) (ρ 115) (ρ 116) h] Q ρ h
def uD(C:fg)(Q:fm)(i:AH)(g t u j b c a:V)(h:Hp):Prop:=bO .lss 3 a c (dX 1 b a h λd=>oP (iu g) λk=>oP (fI 0 k) λl=>dF 3 l h λm=>oP (gy 6 m d) λn=>oP (fZ 6 n h) λo=>iQ (zC 44 [nS,nZ,nZ,nS,nS,nZ]) h λv w=>fi (gW 6 v o w) λx p=>dN 5 g p λq=>dX 1 q d p λe=>oP (fF e) λr=>uw C Q i g t u j v b c a e r nZ p) (dF 3 j h λf=>oP (fF f) λs=>uF C Q g t u j f s nZ h)
theorem Bv{C Q}(I)(s:P7 I (uD C Q)){k d e f g a b c h}(i:I k d e f g a b c h):uH C Q d e f g a b c h:=WA.l7 I _ s i
def tV(C:fg)(Q:fm)(j:AH)(k:qy)(r s i t u b c d e f a:V)(h:Hp):Prop:=bO .lss 3 a f (dX 1 e a h λl=>dX 1 i a h λm=>oP (mh m (some l)) λn=>oP (gy 1 i a) λo=>fi (gW 1 o n h) λw v=>oP (ef .add 3 a nO) λp=>k r s i t u b c d e f p v) (dF 0 u h λg=>oP (fF g) λq=>uo C Q j r s i t b c d g q nZ h)
theorem Be{C Q a}(I)(s:Vu I (tV C Q a)){k j l m n o b c d e f g h}(i:I k j l m n o b c d e f g h):uw C Q a j l m n o b c d e f g h:=WA.Ir I _ s i
def uk(C:fg)(Q:fm)(q:AH)(r y e p f g c:V)(h:Hp):Prop:=bO .lss 3 c g (dX 1 f c h λs=>oP (iu r) λt=>oP (fI 0 t) λu=>dF 3 u h λi=>oP (gy 6 i s) λj=>oP (fZ 6 j h) λk=>iQ (zC 44 [nS,nZ,nZ,nS,nS,nZ]) h λd z=>fi (gW 6 d k z) λD v=>dF 4 d v λa=>oP (fF a) λl=>ui C Q q r y e p d f g c a l nZ v) (dF 1 p h λb=>bO .eql 3 b (V.I 2) (dF 2 p h λm=>oP (gy 1 e m) λn=>fi (gW 1 n bT h) λw A=>kh C Q e A) (bO .eql 3 b (V.I 3) (dF 5 p h λo=>cP C kO [r,e,o] h λx B=>kh C Q e B) (kh C Q e h)))
theorem AW{C Q}(I)(s:P7 I (uk C Q)){k d e f g a b c h}(i:I k d e f g a b c h):uF C Q d e f g a b c h:=WA.l7 I _ s i
def uE(C:fg)(Q:fm)(b:AH)(i:vW)(k m l n c d e f g a:V)(h:Hp):Prop:=bO .lss 3 a g (dX 1 f a h λj=>cP C hY [k,j] h λo r=>bP o (oP (gy 1 l j) λp=>fi (gW 1 p bF r) λt s=>mW C Q b i k m l n c d e f g a s) (mW C Q b i k m l n c d e f g a r)) (oP (ef .add 3 e nO) λq=>b k m l n c d q h)
theorem Bs{C Q a}(I)(s:Wv I (uE C Q a)){k j l m n b c d e f g h}(i:I k j l m n b c d e f g h):uo C Q a j l m n b c d e f g h:=WA.MK I _ s i
def uK(C:fg)(Q:fm)(e:AH)(n:qy)(o p q r f g i j b c a:V)(h:Hp):Prop:=bO .lss 3 a c (dX 1 b a h λk=>dF 0 f h λd=>oP (fF d) λl=>tY C Q e n o p q r f a k g i j b c a d l nZ h) (oP (ef .add 3 j nO) λm=>e o p q r g i m h)
theorem Bo{C Q d}(I)(s:Vu I (uK C Q d)){k l m n o e f g j a b c h}(i:I k l m n o e f g j a b c h):ui C Q d l m n o e f g j a b c h:=WA.Ir I _ s i
def uJ(C:fg)(Q:fm)(a:V)(h:Hp):Prop:=Q a h
theorem A8{C:fg}{Q:fm}{a:V}{h:Hp}(H:uJ C Q a h):kh C Q a h:=by
 rintro ρ rfl;exact WA.of (by kernel_rfl) H
def mR(C:fg)(Q:fm)(j:AH)(a:vW)(k l m n b c d e f g:V)(h:Hp):Prop:=oP (ef .add 3 g nO) λi=>a k l m n b c d e f i h
theorem sU{C:fg}{Q:fm}{a:AH}{b:vW}{j k l m c d e f g i:V}{h:Hp}(H:mR C Q a b j k l m c d e f g i h):mW C Q a b j k l m c d e f g i h:=by
 rintro ρ rfl rfl rfl rfl rfl rfl rfl rfl rfl rfl;exact WA.of (by kernel_rfl) H
def uM(C:fg)(Q:fm)(p:AH)(i:qy)(q:QK)(r K L M j k l m n o b c d e f a:V)(h:Hp):Prop:=bO .lss 3 a f (dX 1 e a h λg=>oP (ef .eql 3 l K) λs=>oP (jq s (oB (some r) λt=>oB (iu t) λu=>oB (fI 0 u) λv=>oB (fI 2 v) λw=>oB (en w h) λx=>oB (some g) λy=>oB (gy 6 x y) λz=>oB (fI 0 z) λA=>oB (en A h) λB=>ef .eql 3 B (V.I 21))) λD=>bP D (oP (iu r) λE=>oP (fI 0 E) λF=>dJ 2 F 6 g 4 h λG=>dX 1 G k h λH=>oP (gy 1 L H) λI=>fi (gW 1 I bT h) λO N=>mU C Q p i q r K L M j k l m n o b c d e f a N) (mU C Q p i q r K L M j k l m n o b c d e f a h)) (oP (ef .add 3 d nO) λJ=>i r K L M j m n o b c J h)
theorem A5{C:fg}{Q:fm}{s:AH}{t:qy}(I:Nat->QK)(step:∀(k:Nat)(o p q r g i j l m n a b c d e f:V)(h:Hp),I k o p q r g i j l m n a b c d e f h->uM C Q s t (λo p q r g i j l m n a b c d e f h=>∃k',k' < k/\I k' o p q r g i j l m n a b c d e f h) o p q r g i j l m n a b c d e f h){k:Nat}{o p q r g i j l m n a b c d e f:V}{h:Hp}(h0:I k o p q r g i j l m n a b c d e f h):tY C Q s t o p q r g i j l m n a b c d e f h:=by
 rintro ρ rfl rfl rfl rfl rfl rfl rfl rfl rfl rfl rfl rfl rfl rfl rfl rfl;exact WA.loop (λk ρ h=>I k (ρ 0) (ρ 1) (ρ 5) (ρ 6) (ρ 16) (ρ 17) (ρ 18) (ρ 91) (ρ 92) (ρ 93) (ρ 106) (ρ 107) (ρ 108) (ρ 114) (ρ 115) (ρ 116) h) (by kernel_rfl) (by kernel_rfl) (λk ρ h hi=>LA.of (by kernel_rfl) (step k (ρ 0) (ρ 1) (ρ 5) (ρ 6) (ρ 16) (ρ 17) (ρ 18) (ρ 91) (ρ 92) (ρ 93) (ρ 106) (ρ 107) (ρ 108) (ρ 114) (ρ 115) (ρ 116) h hi)) h0
def mV(C:fg)(Q:fm)(p:AH)(q:qy)(i:QK)(r s t u j k l m n o a b c d e f:V)(h:Hp):Prop:=oP (ef .add 3 f nO) λg=>i r s t u j k l m n o a b c d e g h
theorem sV{C:fg}{Q:fm}{g:AH}{i:qy}{j:QK}{q r s t k l m n o p a b c d e f:V}{h:Hp}(H:mV C Q g i j q r s t k l m n o p a b c d e f h):mU C Q g i j q r s t k l m n o p a b c d e f h:=by
 rintro ρ rfl rfl rfl rfl rfl rfl rfl rfl rfl rfl rfl rfl rfl rfl rfl rfl;exact WA.of (by kernel_rfl) H
def xN(C:fg)(Q:fm)(c p:V)(h:Hp):Prop:=oP (iu c) λd=>oP (fI 0 d) λe=>dG 2 e h λa=>iQ (hZ 4 1 1 bF a a) h λf g=>oP (iu c) λi=>oP (fI 0 i) λj=>dF 3 j g λk=>oP (gy 6 k p) λl=>oP (fZ 6 l g) λm=>iQ (zC 44 [nS,nZ,nZ,nS,nS,nZ]) g λn r=>fi (gW 6 n m r) λs q=>dF 3 n q λb=>oP (fF b) λo=>uH C Q c p f n b o nZ q
theorem Ed{C}(s:C.start=fT){a b h Q}(k:C.K nm [a,b] h=none)(H:xN C Q a b h):cP C nm [a,b] h Q:=cP.vd t56 s (by unfold P0;exact Tryd.func56) k H
def t42:List (Nat×List Nat):=[]
def vB(C:fg)(Q:fm)(q c r:V)(h:Hp):Prop:=oP (iu q) λu=>oP (fI 0 u) λv=>dF 2 v h λd=>oP (gy 6 d r) λe=>oP (fZ 6 e h) λf=>iQ (zC 46 [nZ,nZ,nZ,nZ,nS,nZ]) h λa w=>fi (gW 6 a f w) λD x=>oP (gy 1 c r) λg=>fi (gW 1 g bF x) λs t=>oP (fZ 6 a t) λi=>cP C qB [i] t λj y=>cP C oI [c,j] y λz b=>dF 0 a b λk=>oP (ef .eql 3 k (V.I 22)) λl=>oP (mh l (oB (fI 0 a) λm=>oB (en m b) λn=>ef .eql 3 n (V.I 23))) λo=>bP o (dF 5 a b λp=>cP C kO [q,c,p] b λA B=>Q (V.tuple []) B) (Q (V.tuple []) b)
theorem Cv{C}(s:C.start=fT){a b c h Q}(k:C.K kK [a,b,c] h=none)(H:vB C Q a b c h):cP C kK [a,b,c] h Q:=cP.vd t42 s (by unfold P0;exact Tryd.func42) k H
def t58:List (Nat×List Nat):=[(11,[1,16,17,18])]
def ry(C:fg)(Q:fm)(d a b c:V)(h:Hp):Prop:=∀ρ:fN,ρ 1=d->ρ 16=a->ρ 17=b->ρ 18=c->WA C Tryd.f58 t58 5 [] Q ρ h
def rH(C:fg)(Q:fm)(d:Eu)(e b c a:V)(h:Hp):Prop:=bO .lss 3 a c (oP (gy 4 b a) λf=>oP (fZ 4 f h) λg=>iQ (zC 50 [nZ,nZ,nS,nS]) h λi o=>fi (gW 4 i g o) λs m=>dF 2 i m λj=>cP C oI [e,j] m λp n=>dF 3 i n λk=>cP C oI [e,k] n λq r=>oP (ef .add 3 a nO) λl=>d e b c l r) (Q (V.tuple []) h)
theorem zY{C Q}(I)(s:P4 I (rH C Q)){k d a b c h}(i:I k d a b c h):ry C Q d a b c h:=WA.l4 I _ s i
def vr(C:fg)(Q:fm)(d e f:V)(h:Hp):Prop:=oP (iu d) λg=>oP (fI 0 g) λb=>dJ 4 b 1 f 0 h λa=>oP (fF a) λc=>ry C Q e a c nZ h
theorem B7{C}(s:C.start=fT){a b c h Q}(k:C.K kO [a,b,c] h=none)(H:vr C Q a b c h):cP C kO [a,b,c] h Q:=cP.vd t58 s (by unfold P0;exact Tryd.func58) k H
def t21:List (Nat×List Nat):=[]
def wu(C:fg)(Q:fm)(e f:V)(h:Hp):Prop:=oP (iu e) λg=>oP (fI 0 g) λi=>dJ 2 i 6 f 0 h λa=>oP (ef .eql 3 a (V.I 21)) λb=>oP (mh b (oB (some a) λc=>ef .eql 3 c nO)) λd=>Q d h
theorem CV{C}(s:C.start=fT){a b h Q}(k:C.K hY [a,b] h=none)(H:wu C Q a b h):cP C hY [a,b] h Q:=cP.vd t21 s (by unfold P0;exact Tryd.func21) k H
def t57:List (Nat×List Nat):=[(11,[0,6,7,8])]
def As(C:fg)(Q:fm)(a b c d:V)(h:Hp):Prop:=∀ρ:fN,ρ 0=a->ρ 6=b->ρ 7=c->ρ 8=d->WA C Tryd.f57 t57 5 [] Q ρ h
def Al(C:fg)(Q:fm)(a:Eu)(f g i b:V)(h:Hp):Prop:=bO .lss 3 b i (dX 1 g b h λc=>oP (gy 1 f c) λd=>fi (gW 1 d bT h) λk j=>oP (ef .add 3 b nO) λe=>a f g i e j) (Q (V.tuple []) h)
theorem GH{C Q}(I)(s:P4 I (Al C Q)){k a b c d h}(i:I k a b c d h):As C Q a b c d h:=WA.l4 I _ s i
def EF(C:fg)(Q:fm)(b a:V)(h:Hp):Prop:=oP (fF a) λc=>As C Q b a c nZ h
theorem KJ{C}(s:C.start=fT){a b h Q}(k:C.K oI [a,b] h=none)(H:EF C Q a b h):cP C oI [a,b] h Q:=cP.vd t57 s (by unfold P0;exact Tryd.func57) k H
end
set_option maxRecDepth 100000
noncomputable section
def t20:List (Nat×List Nat):=[(351,[0,5,6,7,8]),(3678,[0,5,6,7,8])]
def qE(C:fg)(Q:fm)(a b c d e:V)(h:Hp):Prop:=∀ρ:fN,ρ 0=a->ρ 5=b->ρ 6=c->ρ 7=d->ρ 8=e->WA C Tryd.f20 t20 175 [] Q ρ h
def lW(C:fg)(Q:fm)(a:ly)(b c d e f:V)(h:Hp):Prop:=∀ρ:fN,ρ 0=b->ρ 5=c->ρ 6=d->ρ 7=e->ρ 8=f->WA C Tryd.f20 t20 1839 [λρ h=>a (ρ 0) (ρ 5) (ρ 6) (ρ 7) (ρ 8) h] Q ρ h
def qF(C:fg)(Q:fm)(b:ly)(c d e f a:V)(h:Hp):Prop:=bO .geq 3 a nZ (iQ (ju 4 1 0 bF []) h λg p=>fi (fh 4 1 1 g f p) λi q=>oP (gy 1 e a) λj=>fi (gW 1 j i q) λt o=>dX 1 d a o λk=>cP C hY [c,k] o λl m=>bN l (dX 1 d a m λn=>cP C kK [c,f,n] m λr s=>lW C Q b c d e f a s) (lW C Q b c d e f a m)) (Q e h)
theorem zo{C Q}(I)(s:P5 I (qF C Q)){k a b c d e h}(i:I k a b c d e h):qE C Q a b c d e h:=WA.l5 I _ s i
def lZ(C:fg)(Q:fm)(a:ly)(c d e f g:V)(h:Hp):Prop:=oP (ef .sub 3 g nO) λb=>a c d e f b h
theorem pZ{C:fg}{Q:fm}{a:ly}{b c d e f:V}{h:Hp}(H:lZ C Q a b c d e f h):lW C Q a b c d e f h:=by
 rintro ρ rfl rfl rfl rfl rfl;exact WA.of (by kernel_rfl) H
def uv(C:fg)(Q:fm)(c o:V)(h:Hp):Prop:=oP (iu c) λd=>oP (fI 0 d) λe=>dJ 3 e 6 o 0 h λa=>oP (fF a) λb=>iQ (hZ 59 1 24 nS b b) h λf p=>iQ (ju 4 1 0 bF []) p λg i=>dN 6 c i λj=>dX 1 j o i λk=>fi (fh 4 1 1 g k i) λl q=>oP (fF a) λm=>oP (ef .sub 3 m nO) λn=>qE C Q c a f l n q
theorem AS{C}(s:C.start=fT){a b h Q}(k:C.K j9 [a,b] h=none)(H:uv C Q a b h):cP C j9 [a,b] h Q:=cP.vd t20 s (by unfold P0;exact Tryd.func20) k H
def t11:List (Nat×List Nat):=[(87,[2,3,39,40,41]),(351,[3,7,66,67,68]),(190047,[3,7,9,10,66,67,68,76,77,78]),(130868830,[3,7,9,10,12,13,66,67,68,76,77,78]),(399304287,[3,7,9,10,13,66,67,68,76,77,78,109,110,111])]
def zf(C:fg)(Q:fm)(d e a b c:V)(h:Hp):Prop:=∀ρ:fN,ρ 2=d->ρ 3=e->ρ 39=a->ρ 40=b->ρ 41=c->WA C Tryd.f11 t11 43 [] Q ρ h
def y0(C:fg)(Q:fm)(d e a b c:V)(h:Hp):Prop:=∀ρ:fN,ρ 3=d->ρ 7=e->ρ 66=a->ρ 67=b->ρ 68=c->WA C Tryd.f11 t11 175 [] Q ρ h
def zd(C:fg)(Q:fm)(a:ly)(j k l b c d e f g i:V)(h:Hp):Prop:=∀ρ:fN,ρ 3=j->ρ 7=k->ρ 9=l->ρ 10=b->ρ 66=c->ρ 67=d->ρ 68=e->ρ 76=f->ρ 77=g->ρ 78=i->WA C Tryd.f11 t11 95023 [λρ h=>a (ρ 3) (ρ 7) (ρ 66) (ρ 67) (ρ 68) h] Q ρ h
def nd(C:fg)(Q:fm)(a:ly)(b:vW)(m n o c d e f g i j k l:V)(h:Hp):Prop:=∀ρ:fN,ρ 3=m->ρ 7=n->ρ 9=o->ρ 10=c->ρ 12=d->ρ 13=e->ρ 66=f->ρ 67=g->ρ 68=i->ρ 76=j->ρ 77=k->ρ 78=l->WA C Tryd.f11 t11 65434415 [λρ h=>a (ρ 3) (ρ 7) (ρ 66) (ρ 67) (ρ 68) h,λρ h=>b (ρ 3) (ρ 7) (ρ 9) (ρ 10) (ρ 66) (ρ 67) (ρ 68) (ρ 76) (ρ 77) (ρ 78) h] Q ρ h
def yK(C:fg)(Q:fm)(d:ly)(e:vW)(o p q f g i j k l m n a b c:V)(h:Hp):Prop:=∀ρ:fN,ρ 3=o->ρ 7=p->ρ 9=q->ρ 10=f->ρ 13=g->ρ 66=i->ρ 67=j->ρ 68=k->ρ 76=l->ρ 77=m->ρ 78=n->ρ 109=a->ρ 110=b->ρ 111=c->WA C Tryd.f11 t11 199652143 [λρ h=>d (ρ 3) (ρ 7) (ρ 66) (ρ 67) (ρ 68) h,λρ h=>e (ρ 3) (ρ 7) (ρ 9) (ρ 10) (ρ 66) (ρ 67) (ρ 68) (ρ 76) (ρ 77) (ρ 78) h] Q ρ h
def zj(C:fg)(Q:fm)(f:ly)(g i c d b:V)(h:Hp):Prop:=bO .lss 3 b d (dX 1 c b h λa=>oP (ef .lss 3 a nZ) λj=>oP (mh j (oB (some a) λk=>ef .geq 3 k (V.I 12))) λl=>oP (jq l (oB (some a) λm=>oB (ef .lss 3 m (V.I 16)) λn=>oB (some n) λo=>mh o (oB (some a) λp=>oB (fI 1 i) λq=>oB (en q h) λr=>oB (ef .add 3 (V.I 16) r) λs=>ef .geq 3 p s))) λt=>bP t (Q bF h) (oP (ef .add 3 b nO) λu=>f g i c d u h)) (oP (fZ 5 g h) λv=>cP C rl [v] h λw y=>dF 3 g y λe=>oP (fF e) λx=>y0 C Q i w e x nZ y)
theorem Fg{C Q}(I)(s:P5 I (zj C Q)){k d e a b c h}(i:I k d e a b c h):zf C Q d e a b c h:=WA.l5 I _ s i
def yW(C:fg)(Q:fm)(e:ly)(n k b c a:V)(h:Hp):Prop:=bO .lss 3 a c (oP (gy 6 b a) λf=>oP (fZ 6 f h) λg=>iQ (zC 44 [nS,nZ,nZ,nS,nS,nZ]) h λm o=>fi (gW 6 m g o) λs p=>iQ (some (.map [] 0,λl=> .map l)) p λi q=>cP C j9 [k,a] q λd r=>oP (fF d) λj=>zd C Q e n k m i b c a d j nZ r) (Q bT h)
theorem FE{C Q}(I)(s:P5 I (yW C Q)){k d e a b c h}(i:I k d e a b c h):y0 C Q d e a b c h:=WA.l5 I _ s i
def yJ(C:fg)(Q:fm)(d:ly)(k:vW)(l m s c e f g i j b:V)(h:Hp):Prop:=bO .lss 3 b j (dX 1 i b h λn=>dY 0 s 1 b h λa=>cP C hY [m,a] h λt o=>oP (jq t (oB (some c) λu=>oB (fI 0 l) λv=>oB (en v o) λw=>oB (some a) λx=>oB (gy 1 w x) λy=>oB (en y o) λz=>CK 3 none bF false u z o)) λA=>bP A (Q bF o) (cP C hY [m,a] o λp B=>bP p (dY 0 l 1 a B λq=>fi (yQ 3 none c q bT B) λE D=>nd C Q d k l m s c n a e f g i j b D) (nd C Q d k l m s c n a e f g i j b B))) (oP (ef .add 3 g nO) λr=>d l m e f r h)
theorem FX{C Q a}(I)(s:Wv I (yJ C Q a)){k l m n b c d e f g j h}(i:I k l m n b c d e f g j h):zd C Q a l m n b c d e f g j h:=WA.MK I _ s i
def xD(C:fg)(Q:fm)(c:ly)(d:vW)(n o p e a f g i j k l m:V)(h:Hp):Prop:=oP (fF a) λb=>yK C Q c d n o p e f g i j k l m a b nZ h
theorem Ek{C:fg}{Q:fm}{a:ly}{b:vW}{m n o c d e f g i j k l:V}{h:Hp}(H:xD C Q a b m n o c d e f g i j k l h):nd C Q a b m n o c d e f g i j k l h:=by
 rintro ρ rfl rfl rfl rfl rfl rfl rfl rfl rfl rfl rfl rfl;exact WA.of (by kernel_rfl) H
def zh(C:fg)(Q:fm)(J:ly)(F:vW)(G:I9)(E H I e d f g i j k l b c a:V)(h:Hp):Prop:=bO .lss 3 a c (dX 1 b a h λm=>oP (jq m (oB (some a) λn=>oB (some d) λo=>ef .neq 3 n o)) λp=>oP (jq p (oB (fI 0 E) λq=>oB (en q h) λr=>oB (some a) λs=>oB (gy 1 r s) λt=>oB (en t h) λu=>oB (fI 0 E) λv=>oB (en v h) λw=>oB (some d) λx=>oB (gy 1 w x) λy=>oB (en y h) λz=>ef .eql 3 u z)) λA=>bP A (Q bF h) (oP (ef .add 3 a nO) λB=>G E H I e d f g i j k l b c B h)) (oP (ef .add 3 l nO) λD=>F E H I e f g i j k D h)
theorem FQ{C Q d e}(I)(s:Z1 I (zh C Q d e)){k q r t f g j l m n o p a b c h}(i:I k q r t f g j l m n o p a b c h):yK C Q d e q r t f g j l m n o p a b c h:=WA.Wh I _ s i
def CJ(C:fg)(Q:fm)(x y:V)(h:Hp):Prop:=iQ (sO 29 x) h λd z=>iQ (sO 32 y) z λb w=>oP (fZ 5 d w) λe=>cP C uh [e] w λf a=>oP (tk .not f) λg=>oP (mh g (oB (fI 0 b) λi=>oB (en i a) λj=>oB (fF j) λk=>oB (fI 2 d) λl=>oB (en l a) λm=>oB (fF m) λn=>ef .neq 3 k n)) λo=>oP (mh o (oB (fI 1 b) λp=>oB (en p a) λq=>ef .lss 3 q nZ)) λr=>oP (mh r (oB (fI 1 b) λs=>oB (en s a) λt=>ef .gtr 3 t (V.I 399))) λu=>bP u (Q bF a) (dF 0 b a λc=>oP (fF c) λv=>zf C Q d b c v nZ a)
theorem I6{C}(s:C.start=fT){a b h Q}(k:C.K j5 [a,b] h=none)(H:CJ C Q a b h):cP C j5 [a,b] h Q:=cP.vd t11 s (by unfold P0;exact Tryd.func11) k H
end
