/- Parts. -/
import Derived.Test.YtcoaokdoecgcbaaGreatDoorM14
set_option maxHeartbeats 4000000
namespace Go.Proofs.YtcoaokdoecgcbaaGreatDoor.Hx
set_option maxRecDepth 100000
noncomputable section
def t51:List (Nat×List Nat):=[(87,[1,3,12,13]),(351,[3,4,5]),(23135,[3,4,5,6])]
def EA(C:fj)(Q:fo)(c d a b:V)(h:Hp):Prop:=∀ρ:gg,ρ 1=c->ρ 3=d->ρ 12=a->ρ 13=b->WA C Tryz.f51 t51 43 [] Q ρ h
def Ed(C:fj)(Q:fo)(a b c:V)(h:Hp):Prop:=∀ρ:gg,ρ 3=a->ρ 4=b->ρ 5=c->WA C Tryz.f51 t51 175 [] Q ρ h
def EB(C:fj)(Q:fo)(a:MA)(b c d e:V)(h:Hp):Prop:=∀ρ:gg,ρ 3=b->ρ 4=c->ρ 5=d->ρ 6=e->WA C Tryz.f51 t51 11567 [λρ h=>a (ρ 3) (ρ 4) (ρ 5) h] Q ρ h
def Ex(C:fj)(Q:fo)(v:Jn)(u k l m:V)(h:Hp):Prop:=bO .lss 3 m l (oP (gq k) λw=>oP (fK 5 w) λn=>oP (eC n h) λo=>oP (fK 2 u) λp=>oP (eC p h) λq=>oP (fD q) λr=>vj (jo 4 1 1 bF r r) h λx y S=>vj (iK 130 1 1 nS [(0,y)]) S λd z s=>oP (gq k) λA=>oP (fK 6 A) λe=>oP (eC e s) λf=>oP (fK 2 u) λg=>oP (eC g s) λi=>oP (fD i) λt=>vj (jo 4 1 1 bF t t) s λa B D=>vj (iK 130 1 1 nS [(0,B)]) D λb E c=>((c.get (D.next)=some b/\O.beq b b=true)/\((c.get (s.next)=some a/\O.beq a a=true)/\((eC g c=some i)/\((eC e c=some f)/\((c.get (S.next)=some d/\O.beq d d=true)/\((c.get (h.next)=some x/\O.beq x x=true)/\((eC p c=some q)/\((eC n c=some o)/\fg (eQ 130 1 24 o z c) λF j=>(c.next<=j.next/\((j.get (D.next)=some b/\O.beq b b=true)/\((j.get (s.next)=some a/\O.beq a a=true)/\((eC g j=some i)/\((eC e j=some f)/\fg (eQ 130 1 24 f E j) λG H=>(j.next<=H.next/\oP (gq k) λI=>oP (fK 5 I) λJ=>fg (gL 1 J F H) λX K=>(H.next<=K.next/\oP (gq k) λL=>oP (fK 6 L) λM=>fg (gL 1 M G K) λT U=>(K.next<=U.next/\oP (ef .add 3 m nO) λN=>v u k l N U))))))))))))))))) (oP (gy 5 u h) λP=>cP C pb [P] h λR W=>Ed C Q k R bT W)
theorem Me{C Q}(I)(s:P4 I (Ex C Q)){k c d a b h}(i:I k c d a b h):EA C Q c d a b h:=WA.l4 I _ s i
def Ew(C:fj)(Q:fo)(a:MA)(d e f:V)(h:Hp):Prop:=bP f (oP (fD e) λb=>oP (ef .sub 3 b nO) λc=>EB C Q a d e bF c h) (Q d h)
theorem Mx{C Q}(I)(s:P3 I (Ew C Q)){k a b c h}(i:I k a b c h):Ed C Q a b c h:=WA.l3 I _ s i
def Ea(C:fj)(Q:fo)(a:MA)(b:Jn)(c d k e:V)(h:Hp):Prop:=bO .geq 3 e nZ (dX 1 d e h λf=>cP C od [c,f] h λg l=>oP (mm g (some k)) λi=>oP (ef .sub 3 e nO) λj=>b c d i j l) (a c d k h)
theorem Mh{C Q a}(I)(s:P4 I (Ea C Q a)){k b c d e h}(i:I k b c d e h):EB C Q a b c d e h:=WA.l4 I _ s i
def JR(C:fj)(Q:fo)(e:V)(h:Hp):Prop:=hZ (nj 34 e) h λa c=>oP (gy 5 a c) λf=>oP (fm [nZ,nZ,nS,nS,nS,nS,nS] [(0,5),(5,1),(6,1)] [(0,f)]) λg=>hZ (nj 154 g) c λi d=>dG 3 a d λb=>EA C Q a i b nZ d
theorem Rb{C}(s:C.start=fy){a h Q}(k:C.K uD [a] h=none)(H:JR C Q a h):cP C uD [a] h Q:=cP.vd t51 s (by unfold P0;exact Tryz.func51) k H
def t79:List (Nat×List Nat):=[(351,[0,1,5,6,7]),(1407,[0,1,5,8,55,56,57])]
def uL(C:fj)(Q:fo)(a b c d e:V)(h:Hp):Prop:=∀ρ:gg,ρ 0=a->ρ 1=b->ρ 5=c->ρ 6=d->ρ 7=e->WA C Tryz.f79 t79 175 [] Q ρ h
def pq(C:fj)(Q:fo)(d e f g a b c:V)(h:Hp):Prop:=∀ρ:gg,ρ 0=d->ρ 1=e->ρ 5=f->ρ 8=g->ρ 55=a->ρ 56=b->ρ 57=c->WA C Tryz.f79 t79 703 [] Q ρ h
def ua(C:fj)(Q:fo)(e:AE)(c s b f d:V)(h:Hp):Prop:=oP (ef .geq 3 d nZ) λa=>oP (gW true a) λt=>oP (gV t (some c)) λg=>oP (gW true a) λu=>oP (gV u (some f)) λi=>oP (gW true a) λv=>oP (gV v (some d)) λj=>oP (gW true a) λw=>oP (gV w (gP 1 i j)) λk=>oP (gW true a) λx=>oP (gV x (eC k h)) λl=>oP (gW true a) λy=>oP (gC y (some (iq,[g,l]))) λz=>AS C z h λm n=>oP (iM a (qH .not m)) λo=>bP o (dX 1 f d n λp=>cP C lW [c,b,p] n λA B=>oP (ef .sub 3 d nO) λq=>e c s b f q B) (oP (fD b) λr=>pq C Q c s b bF b r nZ n)
theorem DA{C Q}(I)(s:P5 I (ua C Q)){k a b c d e h}(i:I k a b c d e h):uL C Q a b c d e h:=WA.l5 I _ s i
def uQ(C:fj)(Q:fo)(d:Fg)(e f x y b c a:V)(h:Hp):Prop:=bO .lss 3 a c (dX 1 b a h λg=>oP (mm y (oB (some g) λi=>oB (some e) λj=>oB (gq j) λk=>oB (fK 5 k) λl=>oB (eC l h) λm=>oB (some f) λn=>oB (gP 1 m n) λo=>oB (eC o h) λp=>oB (some a) λq=>oB (gP 1 p q) λr=>oB (eC r h) λs=>ef .neq 4 i s)) λt=>oP (ef .add 3 a nO) λu=>d e f x t b c u h) (dN 5 e h λv=>oP (gP 1 v f) λw=>fg (gL 1 w x h) λA z=>Q y z)
theorem CR{C Q}(I)(s:P7 I (uQ C Q)){k d e f g a b c h}(i:I k d e f g a b c h):pq C Q d e f g a b c h:=WA.l7 I _ s i
def yE(C:fj)(Q:fo)(e f:V)(h:Hp):Prop:=cP C pY [e,f] h λc j=>oP (gq e) λk=>oP (fK 6 k) λa=>oP (eC a j) λb=>vj (iK 4 1 0 bF []) j λl m g=>((g.get (j.next)=some l/\O.beq l l=true)/\((eC a g=some b)/\fg (eQ 4 1 1 m c g) λn i=>(g.next<=i.next/\oP (gP 1 b f) λo=>((eC a i=some b)/\fg (gL 1 o n i) λu p=>(i.next<=p.next/\oP (gq e) λq=>oP (fK 0 q) λr=>dJ 3 r 6 f 0 p λd=>oP (fD d) λs=>oP (ef .sub 3 s nO) λt=>uL C Q e f c d t p)))))
theorem Hk{C}(s:C.start=fy){a b h Q}(k:C.K od [a,b] h=none)(H:yE C Q a b h):cP C od [a,b] h Q:=cP.vd t79 s (by unfold P0;exact Tryz.func79) k H
def t104:List (Nat×List Nat):=[(175,[0,1,5,6,37,38,39]),(176943,[0,1,5,6,9,37,38,39,57,58,59]),(351,[0,1,5,6,91,92,93]),(193327,[0,1,5,6,37,38,39,76,77,78]),(190047,[0,1,5,6,16,91,92,93,106,107,108]),(254,[5]),(3994414,[0,1,5,6,37,38,39,76,77,78]),(46982751,[0,1,5,6,16,17,18,91,92,93,106,107,108,114,115,116]),(1020061278,[0,1,5,6,16,17,18,91,92,93,106,107,108,114,115,116])]
def xz(C:fj)(Q:fo)(d e f g a b c:V)(h:Hp):Prop:=∀ρ:gg,ρ 0=d->ρ 1=e->ρ 5=f->ρ 6=g->ρ 37=a->ρ 38=b->ρ 39=c->WA C Tryz.f104 t104 87 [] Q ρ h
def xA(C:fj)(Q:fo)(a:Fg)(i j k l m b c d e f g:V)(h:Hp):Prop:=∀ρ:gg,ρ 0=i->ρ 1=j->ρ 5=k->ρ 6=l->ρ 9=m->ρ 37=b->ρ 38=c->ρ 39=d->ρ 57=e->ρ 58=f->ρ 59=g->WA C Tryz.f104 t104 88471 [λρ h=>a (ρ 0) (ρ 1) (ρ 5) (ρ 6) (ρ 37) (ρ 38) (ρ 39) h] Q ρ h
def xr(C:fj)(Q:fo)(d e f g a b c:V)(h:Hp):Prop:=∀ρ:gg,ρ 0=d->ρ 1=e->ρ 5=f->ρ 6=g->ρ 91=a->ρ 92=b->ρ 93=c->WA C Tryz.f104 t104 175 [] Q ρ h
def wY(C:fj)(Q:fo)(a:Fg)(i j k l b c d e f g:V)(h:Hp):Prop:=∀ρ:gg,ρ 0=i->ρ 1=j->ρ 5=k->ρ 6=l->ρ 37=b->ρ 38=c->ρ 39=d->ρ 76=e->ρ 77=f->ρ 78=g->WA C Tryz.f104 t104 96663 [λρ h=>a (ρ 0) (ρ 1) (ρ 5) (ρ 6) (ρ 37) (ρ 38) (ρ 39) h] Q ρ h
def xO(C:fj)(Q:fo)(d:Fg)(j k l m e f g i a b c:V)(h:Hp):Prop:=∀ρ:gg,ρ 0=j->ρ 1=k->ρ 5=l->ρ 6=m->ρ 16=e->ρ 91=f->ρ 92=g->ρ 93=i->ρ 106=a->ρ 107=b->ρ 108=c->WA C Tryz.f104 t104 95023 [λρ h=>d (ρ 0) (ρ 1) (ρ 5) (ρ 6) (ρ 91) (ρ 92) (ρ 93) h] Q ρ h
def kZ(C:fj)(Q:fo)(a:V)(h:Hp):Prop:=∀ρ:gg,ρ 5=a->WA C Tryz.f104 t104 127 [] Q ρ h
def pN(C:fj)(Q:fo)(a:Fg)(b:CL)(j k l m c d e f g i:V)(h:Hp):Prop:=∀ρ:gg,ρ 0=j->ρ 1=k->ρ 5=l->ρ 6=m->ρ 37=c->ρ 38=d->ρ 39=e->ρ 76=f->ρ 77=g->ρ 78=i->WA C Tryz.f104 t104 1997207 [λρ h=>a (ρ 0) (ρ 1) (ρ 5) (ρ 6) (ρ 37) (ρ 38) (ρ 39) h,λρ h=>b (ρ 0) (ρ 1) (ρ 5) (ρ 6) (ρ 37) (ρ 38) (ρ 39) (ρ 76) (ρ 77) (ρ 78) h] Q ρ h
def xD(C:fj)(Q:fo)(g:Fg)(i:As)(p q r s j k l m n o a b c d e f:V)(h:Hp):Prop:=∀ρ:gg,ρ 0=p->ρ 1=q->ρ 5=r->ρ 6=s->ρ 16=j->ρ 17=k->ρ 18=l->ρ 91=m->ρ 92=n->ρ 93=o->ρ 106=a->ρ 107=b->ρ 108=c->ρ 114=d->ρ 115=e->ρ 116=f->WA C Tryz.f104 t104 23491375 [λρ h=>g (ρ 0) (ρ 1) (ρ 5) (ρ 6) (ρ 91) (ρ 92) (ρ 93) h,λρ h=>i (ρ 0) (ρ 1) (ρ 5) (ρ 6) (ρ 16) (ρ 91) (ρ 92) (ρ 93) (ρ 106) (ρ 107) (ρ 108) h] Q ρ h
def pI(C:fj)(Q:fo)(g:Fg)(i:As)(j:Zd)(q r s t k l m n o p a b c d e f:V)(h:Hp):Prop:=∀ρ:gg,ρ 0=q->ρ 1=r->ρ 5=s->ρ 6=t->ρ 16=k->ρ 17=l->ρ 18=m->ρ 91=n->ρ 92=o->ρ 93=p->ρ 106=a->ρ 107=b->ρ 108=c->ρ 114=d->ρ 115=e->ρ 116=f->WA C Tryz.f104 t104 510030639 [λρ h=>g (ρ 0) (ρ 1) (ρ 5) (ρ 6) (ρ 91) (ρ 92) (ρ 93) h,λρ h=>i (ρ 0) (ρ 1) (ρ 5) (ρ 6) (ρ 16) (ρ 91) (ρ 92) (ρ 93) (ρ 106) (ρ 107) (ρ 108) h,λρ h=>j (ρ 0) (ρ 1) (ρ 5) (ρ 6) (ρ 16) (ρ 17) (ρ 18) (ρ 91) (ρ 92) (ρ 93) (ρ 106) (ρ 107) (ρ 108) (ρ 114) (ρ 115) (ρ 116) h] Q ρ h
def wU(C:fj)(Q:fo)(i:Fg)(g t u j b c a:V)(h:Hp):Prop:=bO .lss 3 a c (dX 1 b a h λd=>oP (gq g) λk=>oP (fK 0 k) λl=>dF 3 l h λm=>oP (gP 6 m d) λn=>oP (gy 6 n h) λo=>hZ (zC 79 [nS,nZ,nZ,nS,nS,nZ]) h λv w=>fg (gL 6 v o w) λx p=>dN 5 g p λq=>dX 1 q d p λe=>oP (fD e) λr=>xA C Q i g t u j v b c a e r nZ p) (dF 3 j h λf=>oP (fD f) λs=>xr C Q g t u j f s nZ h)
theorem GI{C Q}(I)(s:P7 I (wU C Q)){k d e f g a b c h}(i:I k d e f g a b c h):xz C Q d e f g a b c h:=WA.l7 I _ s i
def ye(C:fj)(Q:fo)(j:Fg)(k:As)(r s i t u b c d e f a:V)(h:Hp):Prop:=bO .lss 3 a f (dX 1 e a h λl=>dX 1 i a h λm=>oP (mm m (some l)) λn=>oP (gP 1 i a) λo=>fg (gL 1 o n h) λw v=>oP (ef .add 3 a nO) λp=>k r s i t u b c d e f p v) (dF 0 u h λg=>oP (fD g) λq=>wY C Q j r s i t b c d g q nZ h)
theorem FJ{C Q a}(I)(s:P11 I (ye C Q a)){k j l m n o b c d e f g h}(i:I k j l m n o b c d e f g h):xA C Q a j l m n o b c d e f g h:=WA.l11 I _ s i
def xx(C:fj)(Q:fo)(q:Fg)(r y e p f g c:V)(h:Hp):Prop:=bO .lss 3 c g (dX 1 f c h λs=>oP (gq r) λt=>oP (fK 0 t) λu=>dF 3 u h λi=>oP (gP 6 i s) λj=>oP (gy 6 j h) λk=>hZ (zC 79 [nS,nZ,nZ,nS,nS,nZ]) h λd z=>fg (gL 6 d k z) λD v=>dF 4 d v λa=>oP (fD a) λl=>xO C Q q r y e p d f g c a l nZ v) (dF 1 p h λb=>bO .eql 3 b (V.I 2) (dF 2 p h λm=>oP (gP 1 e m) λn=>fg (gL 1 n bT h) λw A=>kZ C Q e A) (bO .eql 3 b (V.I 3) (dF 5 p h λo=>cP C lY [r,e,o] h λx B=>kZ C Q e B) (kZ C Q e h)))
theorem FB{C Q}(I)(s:P7 I (xx C Q)){k d e f g a b c h}(i:I k d e f g a b c h):xr C Q d e f g a b c h:=WA.l7 I _ s i
def xR(C:fj)(Q:fo)(b:Fg)(i:CL)(k m l n c d e f g a:V)(h:Hp):Prop:=bO .lss 3 a g (dX 1 f a h λj=>cP C iq [k,j] h λo r=>bP o (oP (gP 1 l j) λp=>fg (gL 1 p bF r) λt s=>pN C Q b i k m l n c d e f g a s) (pN C Q b i k m l n c d e f g a r)) (oP (ef .add 3 e nO) λq=>b k m l n c d q h)
theorem Ff{C Q a}(I)(s:P10 I (xR C Q a)){k j l m n b c d e f g h}(i:I k j l m n b c d e f g h):wY C Q a j l m n b c d e f g h:=WA.l10 I _ s i
def xW(C:fj)(Q:fo)(e:Fg)(n:As)(o p q r f g i j b c a:V)(h:Hp):Prop:=bO .lss 3 a c (dX 1 b a h λk=>dF 0 f h λd=>oP (fD d) λl=>xD C Q e n o p q r f a k g i j b c a d l nZ h) (oP (ef .add 3 j nO) λm=>e o p q r g i m h)
theorem Gf{C Q d}(I)(s:P11 I (xW C Q d)){k l m n o e f g j a b c h}(i:I k l m n o e f g j a b c h):xO C Q d l m n o e f g j a b c h:=WA.l11 I _ s i
def wP(C:fj)(Q:fo)(a:V)(h:Hp):Prop:=Q a h
theorem FZ{C:fj}{Q:fo}{a:V}{h:Hp}(H:wP C Q a h):kZ C Q a h:=by
 rintro ρ rfl;exact WA.of (by kernel_rfl) H
def pH(C:fj)(Q:fo)(j:Fg)(a:CL)(k l m n b c d e f g:V)(h:Hp):Prop:=oP (ef .add 3 g nO) λi=>a k l m n b c d e f i h
theorem vQ{C:fj}{Q:fo}{a:Fg}{b:CL}{j k l m c d e f g i:V}{h:Hp}(H:pH C Q a b j k l m c d e f g i h):pN C Q a b j k l m c d e f g i h:=by
 rintro ρ rfl rfl rfl rfl rfl rfl rfl rfl rfl rfl;exact WA.of (by kernel_rfl) H
def yc(C:fj)(Q:fo)(p:Fg)(i:As)(q:Zd)(r K L M j k l m n o b c d e f a:V)(h:Hp):Prop:=bO .lss 3 a f (dX 1 e a h λg=>oP (ef .eql 3 l K) λs=>oP (iM s (oB (some r) λt=>oB (gq t) λu=>oB (fK 0 u) λv=>oB (fK 2 v) λw=>oB (eC w h) λx=>oB (some g) λy=>oB (gP 6 x y) λz=>oB (fK 0 z) λA=>oB (eC A h) λB=>ef .eql 3 B (V.I 21))) λD=>bP D (oP (gq r) λE=>oP (fK 0 E) λF=>dJ 2 F 6 g 4 h λG=>dX 1 G k h λH=>oP (gP 1 L H) λI=>fg (gL 1 I bT h) λO N=>pI C Q p i q r K L M j k l m n o b c d e f a N) (pI C Q p i q r K L M j k l m n o b c d e f a h)) (oP (ef .add 3 d nO) λJ=>i r K L M j m n o b c J h)
theorem GB{C:fj}{Q:fo}{s:Fg}{t:As}(I:Nat->Zd)(step:∀(k:Nat)(o p q r g i j l m n a b c d e f:V)(h:Hp),I k o p q r g i j l m n a b c d e f h->yc C Q s t (λo p q r g i j l m n a b c d e f h=>∃k',k' < k/\I k' o p q r g i j l m n a b c d e f h) o p q r g i j l m n a b c d e f h){k:Nat}{o p q r g i j l m n a b c d e f:V}{h:Hp}(h0:I k o p q r g i j l m n a b c d e f h):xD C Q s t o p q r g i j l m n a b c d e f h:=by
 rintro ρ rfl rfl rfl rfl rfl rfl rfl rfl rfl rfl rfl rfl rfl rfl rfl rfl;exact WA.loop (λk ρ h=>I k (ρ 0) (ρ 1) (ρ 5) (ρ 6) (ρ 16) (ρ 17) (ρ 18) (ρ 91) (ρ 92) (ρ 93) (ρ 106) (ρ 107) (ρ 108) (ρ 114) (ρ 115) (ρ 116) h) (by kernel_rfl) (by kernel_rfl) (λk ρ h hi=>LA.of (by kernel_rfl) (step k (ρ 0) (ρ 1) (ρ 5) (ρ 6) (ρ 16) (ρ 17) (ρ 18) (ρ 91) (ρ 92) (ρ 93) (ρ 106) (ρ 107) (ρ 108) (ρ 114) (ρ 115) (ρ 116) h hi)) h0
def pK(C:fj)(Q:fo)(p:Fg)(q:As)(i:Zd)(r s t u j k l m n o a b c d e f:V)(h:Hp):Prop:=oP (ef .add 3 f nO) λg=>i r s t u j k l m n o a b c d e g h
theorem vS{C:fj}{Q:fo}{g:Fg}{i:As}{j:Zd}{q r s t k l m n o p a b c d e f:V}{h:Hp}(H:pK C Q g i j q r s t k l m n o p a b c d e f h):pI C Q g i j q r s t k l m n o p a b c d e f h:=by
 rintro ρ rfl rfl rfl rfl rfl rfl rfl rfl rfl rfl rfl rfl rfl rfl rfl rfl;exact WA.of (by kernel_rfl) H
def Bj(C:fj)(Q:fo)(c p:V)(h:Hp):Prop:=oP (gq c) λd=>oP (fK 0 d) λe=>dG 2 e h λa=>hZ (jo 4 1 1 bF a a) h λf g=>oP (gq c) λi=>oP (fK 0 i) λj=>dF 3 j g λk=>oP (gP 6 k p) λl=>oP (gy 6 l g) λm=>hZ (zC 79 [nS,nZ,nZ,nS,nS,nZ]) g λn r=>fg (gL 6 n m r) λs q=>dF 3 n q λb=>oP (fD b) λo=>xz C Q c p f n b o nZ q
theorem JX{C}(s:C.start=fy){a b h Q}(k:C.K pY [a,b] h=none)(H:Bj C Q a b h):cP C pY [a,b] h Q:=cP.vd t104 s (by unfold P0;exact Tryz.func104) k H
def t82:List (Nat×List Nat):=[]
def ze(C:fj)(Q:fo)(q c r:V)(h:Hp):Prop:=oP (gq q) λu=>oP (fK 0 u) λv=>dF 2 v h λd=>oP (gP 6 d r) λe=>oP (gy 6 e h) λf=>hZ (zC 81 [nZ,nZ,nZ,nZ,nS,nZ]) h λa w=>fg (gL 6 a f w) λD x=>oP (gP 1 c r) λg=>fg (gL 1 g bF x) λs t=>oP (gy 6 a t) λi=>cP C sQ [i] t λj y=>cP C qU [c,j] y λz b=>dF 0 a b λk=>oP (ef .eql 3 k (V.I 22)) λl=>oP (mm l (oB (fK 0 a) λm=>oB (eC m b) λn=>ef .eql 3 n (V.I 23))) λo=>bP o (dF 5 a b λp=>cP C lY [q,c,p] b λA B=>Q (V.tuple []) B) (Q (V.tuple []) b)
theorem HU{C}(s:C.start=fy){a b c h Q}(k:C.K lW [a,b,c] h=none)(H:ze C Q a b c h):cP C lW [a,b,c] h Q:=cP.vd t82 s (by unfold P0;exact Tryz.func82) k H
def t106:List (Nat×List Nat):=[(11,[1,16,17,18])]
def vA(C:fj)(Q:fo)(d a b c:V)(h:Hp):Prop:=∀ρ:gg,ρ 1=d->ρ 16=a->ρ 17=b->ρ 18=c->WA C Tryz.f106 t106 5 [] Q ρ h
def uZ(C:fj)(Q:fo)(d:Jn)(e b c a:V)(h:Hp):Prop:=bO .lss 3 a c (oP (gP 4 b a) λf=>oP (gy 4 f h) λg=>hZ (zC 85 [nZ,nZ,nS,nS]) h λi o=>fg (gL 4 i g o) λs m=>dF 2 i m λj=>cP C qU [e,j] m λp n=>dF 3 i n λk=>cP C qU [e,k] n λq r=>oP (ef .add 3 a nO) λl=>d e b c l r) (Q (V.tuple []) h)
theorem Dz{C Q}(I)(s:P4 I (uZ C Q)){k d a b c h}(i:I k d a b c h):vA C Q d a b c h:=WA.l4 I _ s i
def zg(C:fj)(Q:fo)(d e f:V)(h:Hp):Prop:=oP (gq d) λg=>oP (fK 0 g) λb=>dJ 4 b 1 f 0 h λa=>oP (fD a) λc=>vA C Q e a c nZ h
theorem HR{C}(s:C.start=fy){a b c h Q}(k:C.K lY [a,b,c] h=none)(H:zg C Q a b c h):cP C lY [a,b,c] h Q:=cP.vd t106 s (by unfold P0;exact Tryz.func106) k H
def t54:List (Nat×List Nat):=[]
def Ap(C:fj)(Q:fo)(e f:V)(h:Hp):Prop:=oP (gq e) λg=>oP (fK 0 g) λi=>dJ 2 i 6 f 0 h λa=>oP (ef .eql 3 a (V.I 21)) λb=>oP (mm b (oB (some a) λc=>ef .eql 3 c nO)) λd=>Q d h
theorem IN{C}(s:C.start=fy){a b h Q}(k:C.K iq [a,b] h=none)(H:Ap C Q a b h):cP C iq [a,b] h Q:=cP.vd t54 s (by unfold P0;exact Tryz.func54) k H
def t105:List (Nat×List Nat):=[(11,[0,6,7,8])]
def Ec(C:fj)(Q:fo)(a b c d:V)(h:Hp):Prop:=∀ρ:gg,ρ 0=a->ρ 6=b->ρ 7=c->ρ 8=d->WA C Tryz.f105 t105 5 [] Q ρ h
def Ei(C:fj)(Q:fo)(a:Jn)(f g i b:V)(h:Hp):Prop:=bO .lss 3 b i (dX 1 g b h λc=>oP (gP 1 f c) λd=>fg (gL 1 d bT h) λk j=>oP (ef .add 3 b nO) λe=>a f g i e j) (Q (V.tuple []) h)
theorem Mq{C Q}(I)(s:P4 I (Ei C Q)){k a b c d h}(i:I k a b c d h):Ec C Q a b c d h:=WA.l4 I _ s i
def JD(C:fj)(Q:fo)(b a:V)(h:Hp):Prop:=oP (fD a) λc=>Ec C Q b a c nZ h
theorem Rn{C}(s:C.start=fy){a b h Q}(k:C.K qU [a,b] h=none)(H:JD C Q a b h):cP C qU [a,b] h Q:=cP.vd t105 s (by unfold P0;exact Tryz.func105) k H
end
set_option maxRecDepth 100000
noncomputable section
def t53:List (Nat×List Nat):=[(351,[0,5,6,7,8]),(3678,[0,5,6,7,8])]
def tI(C:fj)(Q:fo)(a b c d e:V)(h:Hp):Prop:=∀ρ:gg,ρ 0=a->ρ 5=b->ρ 6=c->ρ 7=d->ρ 8=e->WA C Tryz.f53 t53 175 [] Q ρ h
def nB(C:fj)(Q:fo)(a:AE)(b c d e f:V)(h:Hp):Prop:=∀ρ:gg,ρ 0=b->ρ 5=c->ρ 6=d->ρ 7=e->ρ 8=f->WA C Tryz.f53 t53 1839 [λρ h=>a (ρ 0) (ρ 5) (ρ 6) (ρ 7) (ρ 8) h] Q ρ h
def tK(C:fj)(Q:fo)(b:AE)(c d e f a:V)(h:Hp):Prop:=bO .geq 3 a nZ (hZ (iK 4 1 0 bF []) h λg p=>fg (eQ 4 1 1 g f p) λi q=>oP (gP 1 e a) λj=>fg (gL 1 j i q) λt o=>dX 1 d a o λk=>cP C iq [c,k] o λl m=>bN l (dX 1 d a m λn=>cP C lW [c,f,n] m λr s=>nB C Q b c d e f a s) (nB C Q b c d e f a m)) (Q e h)
theorem Ce{C Q}(I)(s:P5 I (tK C Q)){k a b c d e h}(i:I k a b c d e h):tI C Q a b c d e h:=WA.l5 I _ s i
def nA(C:fj)(Q:fo)(a:AE)(c d e f g:V)(h:Hp):Prop:=oP (ef .sub 3 g nO) λb=>a c d e f b h
theorem si{C:fj}{Q:fo}{a:AE}{b c d e f:V}{h:Hp}(H:nA C Q a b c d e f h):nB C Q a b c d e f h:=by
 rintro ρ rfl rfl rfl rfl rfl;exact WA.of (by kernel_rfl) H
def wR(C:fj)(Q:fo)(c o:V)(h:Hp):Prop:=oP (gq c) λd=>oP (fK 0 d) λe=>dJ 3 e 6 o 0 h λa=>oP (fD a) λb=>hZ (jo 130 1 24 nS b b) h λf p=>hZ (iK 4 1 0 bF []) p λg i=>dN 6 c i λj=>dX 1 j o i λk=>fg (eQ 4 1 1 g k i) λl q=>oP (fD a) λm=>oP (ef .sub 3 m nO) λn=>tI C Q c a f l n q
theorem FG{C}(s:C.start=fy){a b h Q}(k:C.K kU [a,b] h=none)(H:wR C Q a b h):cP C kU [a,b] h Q:=cP.vd t53 s (by unfold P0;exact Tryz.func53) k H
def t27:List (Nat×List Nat):=[(87,[2,3,39,40,41]),(351,[3,7,66,67,68]),(190047,[3,7,9,10,66,67,68,76,77,78]),(130868830,[3,7,9,10,12,13,66,67,68,76,77,78]),(399304287,[3,7,9,10,13,66,67,68,76,77,78,109,110,111])]
def Cu(C:fj)(Q:fo)(d e a b c:V)(h:Hp):Prop:=∀ρ:gg,ρ 2=d->ρ 3=e->ρ 39=a->ρ 40=b->ρ 41=c->WA C Tryz.f27 t27 43 [] Q ρ h
def B3(C:fj)(Q:fo)(d e a b c:V)(h:Hp):Prop:=∀ρ:gg,ρ 3=d->ρ 7=e->ρ 66=a->ρ 67=b->ρ 68=c->WA C Tryz.f27 t27 175 [] Q ρ h
def Cn(C:fj)(Q:fo)(a:AE)(j k l b c d e f g i:V)(h:Hp):Prop:=∀ρ:gg,ρ 3=j->ρ 7=k->ρ 9=l->ρ 10=b->ρ 66=c->ρ 67=d->ρ 68=e->ρ 76=f->ρ 77=g->ρ 78=i->WA C Tryz.f27 t27 95023 [λρ h=>a (ρ 3) (ρ 7) (ρ 66) (ρ 67) (ρ 68) h] Q ρ h
def pZ(C:fj)(Q:fo)(a:AE)(b:CL)(m n o c d e f g i j k l:V)(h:Hp):Prop:=∀ρ:gg,ρ 3=m->ρ 7=n->ρ 9=o->ρ 10=c->ρ 12=d->ρ 13=e->ρ 66=f->ρ 67=g->ρ 68=i->ρ 76=j->ρ 77=k->ρ 78=l->WA C Tryz.f27 t27 65434415 [λρ h=>a (ρ 3) (ρ 7) (ρ 66) (ρ 67) (ρ 68) h,λρ h=>b (ρ 3) (ρ 7) (ρ 9) (ρ 10) (ρ 66) (ρ 67) (ρ 68) (ρ 76) (ρ 77) (ρ 78) h] Q ρ h
def B6(C:fj)(Q:fo)(d:AE)(e:CL)(o p q f g i j k l m n a b c:V)(h:Hp):Prop:=∀ρ:gg,ρ 3=o->ρ 7=p->ρ 9=q->ρ 10=f->ρ 13=g->ρ 66=i->ρ 67=j->ρ 68=k->ρ 76=l->ρ 77=m->ρ 78=n->ρ 109=a->ρ 110=b->ρ 111=c->WA C Tryz.f27 t27 199652143 [λρ h=>d (ρ 3) (ρ 7) (ρ 66) (ρ 67) (ρ 68) h,λρ h=>e (ρ 3) (ρ 7) (ρ 9) (ρ 10) (ρ 66) (ρ 67) (ρ 68) (ρ 76) (ρ 77) (ρ 78) h] Q ρ h
def B0(C:fj)(Q:fo)(f:AE)(g i c d b:V)(h:Hp):Prop:=bO .lss 3 b d (dX 1 c b h λa=>oP (ef .lss 3 a nZ) λj=>oP (mm j (oB (some a) λk=>ef .geq 3 k (V.I 12))) λl=>oP (iM l (oB (some a) λm=>oB (ef .lss 3 m (V.I 16)) λn=>oB (some n) λo=>mm o (oB (some a) λp=>oB (fK 1 i) λq=>oB (eC q h) λr=>oB (ef .add 3 (V.I 16) r) λs=>ef .geq 3 p s))) λt=>bP t (Q bF h) (oP (ef .add 3 b nO) λu=>f g i c d u h)) (oP (gy 5 g h) λv=>cP C uD [v] h λw y=>dF 3 g y λe=>oP (fD e) λx=>B3 C Q i w e x nZ y)
theorem KZ{C Q}(I)(s:P5 I (B0 C Q)){k d e a b c h}(i:I k d e a b c h):Cu C Q d e a b c h:=WA.l5 I _ s i
def CC(C:fj)(Q:fo)(e:AE)(n k b c a:V)(h:Hp):Prop:=bO .lss 3 a c (oP (gP 6 b a) λf=>oP (gy 6 f h) λg=>hZ (zC 79 [nS,nZ,nZ,nS,nS,nZ]) h λm o=>fg (gL 6 m g o) λs p=>hZ (some (.map [] 0,λl=> .map l)) p λi q=>cP C kU [k,a] q λd r=>oP (fD d) λj=>Cn C Q e n k m i b c a d j nZ r) (Q bT h)
theorem Lo{C Q}(I)(s:P5 I (CC C Q)){k d e a b c h}(i:I k d e a b c h):B3 C Q d e a b c h:=WA.l5 I _ s i
def B1(C:fj)(Q:fo)(d:AE)(k:CL)(l m s c e f g i j b:V)(h:Hp):Prop:=bO .lss 3 b j (dX 1 i b h λn=>dY 0 s 1 b h λa=>cP C iq [m,a] h λt o=>oP (iM t (oB (some c) λu=>oB (fK 0 l) λv=>oB (eC v o) λw=>oB (some a) λx=>oB (gP 1 w x) λy=>oB (eC y o) λz=>p5 3 none bF false u z o)) λA=>bP A (Q bF o) (cP C iq [m,a] o λp B=>bP p (dY 0 l 1 a B λq=>fg (xh 3 none c q bT B) λE D=>pZ C Q d k l m s c n a e f g i j b D) (pZ C Q d k l m s c n a e f g i j b B))) (oP (ef .add 3 g nO) λr=>d l m e f r h)
theorem Lp{C Q a}(I)(s:P10 I (B1 C Q a)){k l m n b c d e f g j h}(i:I k l m n b c d e f g j h):Cn C Q a l m n b c d e f g j h:=WA.l10 I _ s i
def AW(C:fj)(Q:fo)(c:AE)(d:CL)(n o p e a f g i j k l m:V)(h:Hp):Prop:=oP (fD a) λb=>B6 C Q c d n o p e f g i j k l m a b nZ h
theorem JE{C:fj}{Q:fo}{a:AE}{b:CL}{m n o c d e f g i j k l:V}{h:Hp}(H:AW C Q a b m n o c d e f g i j k l h):pZ C Q a b m n o c d e f g i j k l h:=by
 rintro ρ rfl rfl rfl rfl rfl rfl rfl rfl rfl rfl rfl rfl;exact WA.of (by kernel_rfl) H
def B2(C:fj)(Q:fo)(J:AE)(F:CL)(G:OK)(E H I e d f g i j k l b c a:V)(h:Hp):Prop:=bO .lss 3 a c (dX 1 b a h λm=>oP (iM m (oB (some a) λn=>oB (some d) λo=>ef .neq 3 n o)) λp=>oP (iM p (oB (fK 0 E) λq=>oB (eC q h) λr=>oB (some a) λs=>oB (gP 1 r s) λt=>oB (eC t h) λu=>oB (fK 0 E) λv=>oB (eC v h) λw=>oB (some d) λx=>oB (gP 1 w x) λy=>oB (eC y h) λz=>ef .eql 3 u z)) λA=>bP A (Q bF h) (oP (ef .add 3 a nO) λB=>G E H I e d f g i j k l b c B h)) (oP (ef .add 3 l nO) λD=>F E H I e f g i j k D h)
theorem K3{C Q d e}(I)(s:P14 I (B2 C Q d e)){k q r t f g j l m n o p a b c h}(i:I k q r t f g j l m n o p a b c h):B6 C Q d e q r t f g j l m n o p a b c h:=WA.l14 I _ s i
def Ie(C:fj)(Q:fo)(x y:V)(h:Hp):Prop:=hZ (nj 34 x) h λd z=>hZ (nj 37 y) z λb w=>oP (gy 5 d w) λe=>cP C tL [e] w λf a=>oP (qH .not f) λg=>oP (mm g (oB (fK 0 b) λi=>oB (eC i a) λj=>oB (fD j) λk=>oB (fK 2 d) λl=>oB (eC l a) λm=>oB (fD m) λn=>ef .neq 3 k n)) λo=>oP (mm o (oB (fK 1 b) λp=>oB (eC p a) λq=>ef .lss 3 q nZ)) λr=>oP (mm r (oB (fK 1 b) λs=>oB (eC s a) λt=>ef .gtr 3 t (V.I 399))) λu=>bP u (Q bF a) (dF 0 b a λc=>oP (fD c) λv=>Cu C Q d b c v nZ a)
theorem Pb{C}(s:C.start=fy){a b h Q}(k:C.K wK [a,b] h=none)(H:Ie C Q a b h):cP C wK [a,b] h Q:=cP.vd t27 s (by unfold P0;exact Tryz.func27) k H
end
