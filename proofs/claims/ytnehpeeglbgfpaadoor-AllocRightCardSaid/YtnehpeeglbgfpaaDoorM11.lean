/- Parts. -/
import Derived.Test.YtnehpeeglbgfpaaDoorM00
import Derived.Calls
set_option maxHeartbeats 4000000
namespace Go.Proofs.YtnehpeeglbgfpaaDoor.Dm
structure Gr where
 node:Nat->Prop
 xz:Nat->Nat->Prop
 place:Nat->Nat
 first:node 0
 zJ:place 0=0
 inj:∀a b,node a->node b->place a=place b->a=b
 to:∀a b,node a->xz a b->node b
 early:∀b,node b->b≠0->∃p,node p/\xz p b/\place p<place b
inductive Pa (G:Gr):Nat->List Nat->Nat->Prop
 |nil:Pa G 0 [0] 0
 |fwd {p b:Nat} {l:List Nat} {r:Nat} (h:Pa G p l r) (e:G.xz p b) (a:G.place p<G.place b):Pa G b (b::l) r
 |bwd {p b:Nat} {l:List Nat} {r:Nat} (h:Pa G p l r) (e:G.xz p b) (a:¬G.place p<G.place b):Pa G b (b::l) (r+1)
def PE(G:Gr)(x b:Nat):Prop:=∀l r,Pa G b l r->x∈l
def DK(G:Gr)(k x b:Nat):Prop:=∀l r,Pa G b l r->r<k->x∈l
variable{G:Gr}
theorem Pa.node:∀{b l r},Pa G b l r->G.node b
 |_,_,_,.nil=>G.first
 |_,_,_,.fwd h e _=>G.to _ _ h.node e
 |_,_,_,.bwd h e _=>G.to _ _ h.node e
theorem Pa.last:∀{b l r},Pa G b l r->b∈l
 |_,_,_,.nil=> .head _
 |_,_,_,.fwd _ _ _=> .head _
 |_,_,_,.bwd _ _ _=> .head _
theorem Pa.step{p b:Nat} {l:List Nat} {r:Nat} (h:Pa G p l r) (e:G.xz p b):∃r',r'<=r+1/\(G.place p<G.place b->r' = r)/\Pa G b (b::l) r':=by
 by_cases hp:G.place p<G.place b
 ·exact⟨r,La _,λ_=>rfl,.fwd h e hp⟩
 ·exact⟨r+1,jn _,by omega,.bwd h e hp⟩
theorem SL(n:Nat):∀b,G.node b->G.place b<n->∃l,Pa G b l 0/\∀x∈l,G.node x/\G.place x<=G.place b:=by
 induction n with
 |zero=>omega
 | succ n c=>
   intro b d i;by_cases h0:b=0
   ·subst h0
    exact⟨[0],.nil,by simp_all⟩
   ·obtain⟨p,e,f,a⟩:=G.early b d h0
    obtain⟨l,g,j⟩:=c p e (by omega);refine⟨b::l,.fwd g f a,λx h=>?_⟩
    grind
theorem Pa.pre:∀{b l r},Pa G b l r->∀{x},x∈l->∃c r',Pa G x c r'/\r'<=r/\∀y∈c,y∈l
 |_,_,_,.nil,x,a=>by simp at a;subst a;exact⟨[0],0,.nil,jn _,λy h=>h⟩
 | b,_,_,.fwd (l:=l) (r:=r) h e hp,x,a=>by
   rcases AJ.1 a with rfl|a
   ·exact⟨_,_,.fwd h e hp,jn _,λy h=>h⟩
   ·obtain⟨c,r',d,f,g⟩:=h.pre a
    grind
 | b,_,_,.bwd (l:=l) (r:=r) h e hp,x,a=>by
   rcases AJ.1 a with rfl|a
   ·exact⟨_,_,.bwd h e hp,jn _,λy h=>h⟩
   ·obtain⟨c,r',d,f,g⟩:=h.pre a
    grind
theorem DK.mono{x b k k':Nat}(h:DK G k x b)(c:k'<=k):DK G k' x b:=λl r a d=>h l r a (by omega)
theorem DK.trans{x y b k:Nat} (c:DK G k x y) (d:DK G k y b):DK G k x b:=by
 intro l r a e;obtain⟨f,r',g,i,h⟩:=a.pre (d l r a e);exact h x (c f r' g (by omega))
theorem DK.self(k b:Nat):DK G k b b:=λ_ _ a _=>a.last
theorem PE.pred{x p b:Nat} (h:PE G x b) (d:x≠b) (e:G.xz p b):PE G x p:=by
 intro l r a;obtain⟨r',_,_,c⟩:=a.step e;rcases AJ.1 (h _ _ c)with rfl|h
 ·omega
 ·exact h
inductive nq (I:Nat->Nat):Nat->Nat->Prop
 |refl (b:Nat):nq I b b
 |up {a b:Nat} (h0:b≠0) (h:nq I a (I b)):nq I a b
theorem nq.trans{I:Nat->Nat} {a b c:Nat} (d:nq I a b) (e:nq I b c):nq I a c:=by
 induction e with
 |refl=>exact d
 |up h0 _ f=>exact .up h0 f
theorem nq.parent{I:Nat->Nat} {a b:Nat} (h:nq I a b) (c:a≠b):nq I a (I b):=by
 cases h with
 |refl=>omega
 |up _ h=>exact h
def set(I:Nat->Nat)(b d:Nat):Nat->Nat:=λx=>if x=b then d else I x
structure Tree (G:Gr) (I:Nat->Nat) (S:Nat->Prop):Prop where
 zero:S 0
 node:∀b,S b->G.node b
 up:∀b,S b->b≠0->S (I b)/\G.place (I b)<G.place b
section
variable{I:Nat->Nat}{S:Nat->Prop}
theorem Tree.Ws(c:Tree G I S) {a b:Nat} (h:nq I a b):S b->S a/\G.place a<=G.place b:=by
 induction h with
 |refl=>simp_all
 | up h0 _ e=>
   intro d;obtain⟨f,g⟩:=c.up _ d h0
   grind
theorem Tree.YZ(c:Tree G I S) {a b:Nat} (e:nq I a b) (f:nq I b a) (h:S b):a=b:=by
 have d:=c.Ws e h;have g:=c.Ws f d.1;exact G.inj _ _ (c.node _ d.1) (c.node _ h) (by omega)
theorem Tree.UO(c:Tree G I S) {a b x:Nat} (i:S a) (d:S b) (f:G.place b<G.place a) (g:nq I x a) (h:nq I x b):nq I x (I a):=by
 refine g.parent λe=>?_;subst e;have:=(c.Ws h d).2;omega
theorem nq.TI{b d:Nat} (e:Tree G I S) {a c:Nat} (h:nq I a c):S c->G.place c<G.place b->nq (set I b d) a c:=by
 induction h with
 |refl=>exact λ_ _=> .refl _
 | up h0 _ f=>
   rename_i c _;intro hc g;have pe:c≠b:=by grind
   obtain⟨i,j⟩:=e.up _ hc h0;refine .up h0 ?_;unfold Dm.set;rw[if_neg pe];exact f i (by omega)
end
structure Inv (G:Gr) (I:Nat->Nat) (S:Nat->Prop) (k pos:Nat):Prop where
 tree:Tree G I S
 one:1<=k
 zak:1<=pos
 done:∀b,G.node b->G.place b<pos->S b
 all:2<=k->∀b,G.node b->S b
 fresh:k=1->∀b,S b->G.place b<pos
 low:∀b,S b->b≠0->DK G (if G.place b<pos then k else k-1) (I b) b
 OE:∀y x,S y->PE G x y->nq I x y
section
variable{I:Nat->Nat}{S:Nat->Prop}{k pos:Nat}
theorem Inv.kb(a:Inv G I S k pos) {b:Nat} (c:S b):1<=(if G.place b<pos then k else k-1):=by
 have:=a.one;split
 ·omega
 ·rename_i h;by_cases d:k=1
  ·exact absurd (a.fresh d b c) h
  ·omega
theorem Inv.Kq(c:Inv G I S k pos) {a b:Nat} (h:nq I a b):S b->DK G (if G.place b<pos then k else k-1) a b:=by
 induction h with
 |refl=>grind[DK.self]
 | up h0 _ e=>
   rename_i b _;intro d;obtain⟨f,g⟩:=c.tree.up _ d h0;refine DK.trans (DK.mono (e f) ?_) (c.low b d h0)
   grind
theorem Pa.swap:∀{y d r0},Pa G y d r0->r0=0->∀{z l r},z∈d->Pa G z l r->∃a r',Pa G y a r'/\G.place z<=G.place y/\∀w∈a,w∈l\/G.place z<G.place w
 | _,_,_,.nil,_,z,l,r,c,hp=>by
   grind
 | _,_,_,.fwd (p:=p) (b:=b) h e IX,h0,z,l,r,c,hp=>by
   rcases AJ.1 c with rfl|c
   ·grind
   ·obtain⟨a,r',f,g,i⟩:=h.swap h0 c hp
    refine⟨b::a,r',.fwd f e IX,by omega,λw j=>?_⟩
    grind
 |_,_,_,.bwd _ _ _,h0,_,_,_,_,_=>by cases h0
theorem Inv.VS(a:Inv G I S k pos) {x y z:Nat} (c:S y) (j:PE G x y) (g:nq I z y) (d:nq I x z) (pe:x≠z):PE G x z:=by
 intro l r m;obtain⟨i,b,_⟩:=SL (G:=G) (G.place y+1) y (a.tree.node y c) (K8 _);have e:z∈i:=a.Kq g c i 0 b (a.kb c);obtain⟨n,r',o,_,p⟩:=b.swap rfl e m;rcases p x (j n r' o)with h|h
 ·exact h
 ·have f:=a.tree.Ws g c;have:=a.tree.Ws d f.1;omega
theorem Inv.IV(a:Inv G I S k pos) {b d:Nat} (A:G.node b) (h0:b≠0) (R:G.place b=pos) (f:∀p,S p->G.xz p b->nq I d p) (i:∀x,(∀p,S p->G.xz p b->nq I x p)->nq I x d) :
  Inv G (set I b d) (λx=>S x\/x=b) k (pos+1)/\S d/\G.place d<G.place b:=by
 obtain⟨p0,B,C,J⟩:=G.early b A h0;have s:S p0:=a.done p0 B (by omega);obtain⟨hd,K⟩:=a.tree.Ws (f p0 s C) s;have t:G.place d<G.place b:=by omega
 have u:set I b d b=d:=by unfold Dm.set;rw[if_pos rfl]
 have j:∀c,c≠b->set I b d c=I c:=by simp_all[Dm.set,if_neg]
 have D:Tree G (set I b d) (λx=>S x\/x=b):=by
  refine⟨.inl a.tree.zero,λc hc=>?_,λc hc m=>?_⟩
  ·rcases hc with hc|rfl
   ·exact a.tree.node c hc
   ·exact A
  ·by_cases hcb:c=b
   ·simp_all
   ·rw[j c hcb];have hc:=hc.resolve_right hcb;have:=a.tree.up c hc m
    simp_all
 have E:∀x,PE G x b->nq (set I b d) x b:=by
  intro x q;by_cases hxb:x=b
  ·subst hxb;exact .refl _
  ·refine .up h0 ?_;rw[u];exact(i x λp F L=>a.OE p x F (q.pred hxb L)).TI a.tree hd t
 refine⟨⟨D,a.one,by omega,λc hc v=>?_,λM c hc=> .inl (a.all M c hc),λN c hc=>?_,λc hc m=>?_,λy x O q=>?_⟩,hd,t⟩
 ·by_cases hcp:G.place c<pos
  ·exact .inl (a.done c hc hcp)
  ·exact .inr (G.inj c b hc A (by omega))
 ·rcases hc with hc|rfl
  ·have:=a.fresh N c hc;omega
  ·omega
 ·by_cases hcb:c=b
  ·subst hcb;rw[u,if_pos (by omega)];intro l r n P
   cases n with
   |nil=>omega
   | fwd h e v=>
     rename_i p l;have w:S p:=a.done p h.node (by omega);have:=a.Kq (f p w e) w;rw[if_pos (by omega)]at this
     exact .tail _ (this _ _ h P)
   | bwd h e v=>
     rename_i p l r;have w:S p:=a.all (by omega) p h.node;have:=(a.Kq (f p w e) w).mono (k':=k-1) (by grind);exact .tail _ (this _ _ h (by omega))
  ·have z:=hc.resolve_right hcb;rw[j c hcb];have pe:G.place c≠pos:=λh=>hcb (G.inj c b (a.tree.node c z) A (by omega));have:=a.low c z m
   grind
 ·by_cases hyb:y=b
  ·simp_all
  ·have g:=O.resolve_right hyb;have H:∀{y},nq I x y->S y->PE G x y->nq (set I b d) x y:=by
    intro y h
    induction h with
    |refl=>exact λ_ _=> .refl _
    | up o h Q=>
      rename_i y;intro g q;by_cases hyb:y=b
      ·simp_all
      ·refine .up o ?_
       rw[j y hyb];by_cases hxI:x=I y
       ·rw[<-hxI];exact .refl _
       ·exact Q (a.tree.up y g o).1 (a.VS g q (.up o (.refl _)) h hxI)
   exact H (a.OE y x g q) g q
theorem Inv.pass(d:Inv G I S k pos) (a:∀b,G.node b->G.place b<pos):Inv G I S (k+1) 1:=by
 have g:=d.one;refine⟨d.tree,by omega,jn _,λb c e=>?_,λ_ b c=>d.done b c (a b c),by omega,λb c h0=>?_,d.OE⟩
 ·exact d.done b c (a b c)
 ·have:=d.low b c h0;rw[if_pos (a b (d.tree.node b c))]at this;split
  ·rename_i h;have f:G.place b=G.place 0:=by have:=G.zJ;omega
   exact absurd (G.inj b 0 (d.tree.node b c) G.first f) h0
  simp_all
theorem Inv.start:Inv G (λ_=>0) (λx=>x=0) 1 1:=by
 refine⟨⟨rfl,λb h=>by subst h;exact G.first,by omega⟩,jn _,jn _,λb a c=>?_,by omega,λ_ b h=>by subst h;rw[G.zJ];omega,by omega,λy x d e=>?_⟩
 ·exact G.inj b 0 a G.first (by have:=G.zJ;omega)
 ·subst d;have:=e _ _ .nil;simp at this;subst this;exact .refl _
theorem Pa.suffix:∀{b l r},Pa G b l r->∀{x},x∈l->∃c r' t,Pa G x c r'/\l=t++c
 |_,_,_,.nil,x,a=>by simp at a;subst a;exact⟨[0],0,[],.nil,rfl⟩
 | b,_,_,.fwd (l:=l) (r:=r) h e hp,x,a=>by
   rcases AJ.1 a with rfl|a
   ·exact⟨_,_,[],.fwd h e hp,rfl⟩
   ·obtain⟨c,r',t,d,f⟩:=h.suffix a
    grind
 | b,_,_,.bwd (l:=l) (r:=r) h e hp,x,a=>by
   rcases AJ.1 a with rfl|a
   ·exact⟨_,_,[],.bwd h e hp,rfl⟩
   ·obtain⟨c,r',t,d,f⟩:=h.suffix a
    grind
theorem Pa.short:∀{b l r},Pa G b l r->r+1<=l.length
 |_,_,_,.nil=>by simp
 |_,_,_,.fwd h _ _=>by have:=h.short;simp;omega
 |_,_,_,.bwd h _ _=>by have:=h.short;simp;omega
theorem Pa.nodes:∀{b l r},Pa G b l r->∀x∈l,G.node x
 |_,_,_,.nil,x,a=>by simp at a;subst a;exact G.first
 | _,_,_,.fwd h e hp,x,a=>by
   rcases AJ.1 a with rfl|a
   ·exact G.to _ _ h.node e
   ·exact h.nodes x a
 | _,_,_,.bwd h e hp,x,a=>by
   rcases AJ.1 a with rfl|a
   ·exact G.to _ _ h.node e
   ·exact h.nodes x a
theorem Pa.simple:∀{b l r},Pa G b l r->∃a r',Pa G b a r'/\a.Nodup/\∀x∈a,x∈l:=by
 intro b l r h;have step:∀{p b:Nat} {l:List Nat},(∃a r',Pa G p a r'/\a.Nodup/\∀x∈a,x∈l)->G.xz p b->∃a r',Pa G b a r'/\a.Nodup/\∀x∈a,x∈b::l:=by
  rintro p b l ⟨a,r',d,f,i⟩ e;by_cases hb:b∈a
  ·obtain⟨l2,r2,t,j,k⟩:=d.suffix hb
   grind
  ·obtain⟨r2,_,_,g⟩:=d.step e
   grind
 induction h with
 |nil=>exact⟨[0],0,.nil,by simp,λx h=>h⟩
 |fwd _ e _ c=>exact step c e
 |bwd _ e _ c=>exact step c e
theorem wx:∀(n:Nat) (l:List Nat),l.Nodup->(∀x∈l,x<n)->l.length<=n:=by
 intro n
 induction n with
 | zero=>
   intro l _ h
   cases l with
   |nil=>simp_all
   |cons a l=>exact absurd (h a (.head _)) (Nat.not_lt_zero _)
 | succ n c=>
   intro l hd h;by_cases hn:n∈l
   ·have f:=c (l.erase n) (hd.erase n) (λx b=>by
      have d:=List.mem_of_mem_erase b;have g:=h x d;have i:x≠n:=λe=>by subst e;exact absurd b hd.not_mem_erase
      omega)
    simp_all
   grind
theorem DK.OE{n x b c:Nat} (e:∀b,G.node b->b<n) (h:DK G c x b) (k:n<=c):PE G x b:=by
 intro l r f;obtain⟨d,r',a,g,i⟩:=f.simple;have m:=wx n d g λx j=>e x (a.nodes x j);have o:=a.short;exact i x (h d r' a (by omega))
theorem Inv.exact(a:Inv G I S k pos) {n:Nat} (d:∀b,G.node b->b<n) (e:n+1<=k) {x b:Nat} (c:S b):nq I x b↔PE G x b:=by
 refine⟨λh=>(a.Kq h c).OE d ?_,a.OE b x c⟩
 grind
theorem Inv.stay(c:Inv G I S k pos) {n:Nat} (g:∀b,G.node b->b<n) (l:n+1<=k) {b d:Nat} (m:G.node b) (h0:b≠0) (o:G.place b=pos) (e:∀p,S p->G.xz p b->nq I d p) (a:∀x,(∀p,S p->G.xz p b->nq I x p)->nq I x d) :
  S b/\d=I b:=by
 have q:=g 0 G.first;have f:S b:=c.all (by omega) b m;obtain⟨h,hd,r⟩:=c.IV m h0 o e a;obtain⟨i,s⟩:=c.tree.up b f h0;have pe:I b≠b:=by grind
 have t:PE G (I b) b:=(c.exact g l f).1 (.up h0 (.refl _));have u:nq I (I b) d:=a _ λp j v=>c.OE p _ j (t.pred pe v);have w:PE G d b:=(h.exact g l (.inr rfl)).1 (.up h0 (by unfold Dm.set;rw[if_pos rfl];exact .refl _));have y:nq I d (I b):=(c.OE b d f w).parent (by grind);exact⟨f,c.tree.YZ y u i⟩
end
def nt(seen:List Bool)(b:Nat):Prop:=seen[b]? =some true
theorem Dy{seen:List Bool} {t b:Nat} (a:t<seen.length):nt (seen.set t true) b↔b=t\/nt seen b:=by
 unfold nt
 grind
structure Fz (n:Nat) (next:Nat->List Nat) (seen:List Bool) (post:List Nat) (stack:List (Nat×Nat)):Prop where
 len:seen.length=n
 low:∀b,b<n->∀t∈next b,t<n
 range:∀x∈stack,x.1<n/\x.2<=(next x.1).length
 pre:∀b∈post,b<n
 iff:∀b,nt seen b↔b∈post\/b∈stack.map (·.1)
 nodup:(post++stack.map (·.1)).Nodup
 root:∀x s,stack=x::s->x.1=0
 last:stack=[]->∃p,post=p++[0]
 closed:∀b∈post,∀t∈next b,nt seen t
 gone:∀x∈stack,∀j,j<x.2->∀t,(next x.1)[j]? =some t->nt seen t
 Ux:∀s x y r,stack=s++x::y::r->y.1∈next x.1
 early:∀l b r,post=l++b::r->b=0\/∃p,b∈next p/\(p∈r\/p∈stack.map (·.1))
 zero:0 ∉ post\/stack=[]
section
variable{n:Nat}{next:Nat->List Nat}{seen:List Bool}{post:List Nat}{stack s:List (Nat×Nat)}{b i t:Nat}
theorem Fz.start(c:0<n) (a:∀b,b<n->∀t∈next b,t<n):Fz n next ((List.replicate n false).set 0 true) [] [(0,0)] where
 len:=by simp
 low:=a
 range:=by simp_all
 pre:=by simp_all
 iff:=by grind[Dy,nt]
 nodup:=by simp
 root:=by simp_all
 last:=by simp_all
 closed:=by simp_all
 gone:=by simp_all
 Ux:=λs x y r h=>by
  have:=congrArg List.length h
  grind
 early:=by simp_all
 zero:=by simp_all
theorem gY{α:Type} (l:List α):l=[]\/∃s x,l=s++[x]:=by
 rcases List.eq_nil_or_concat l with h|⟨s,x,h⟩
 ·simp_all
 simp_all
theorem xS{α:Type} {s a:List α} {x y:α} (h:s++[x]=a++[y]):s=a/\x=y:=by
 simp_all
theorem Fz.pop(a:Fz n next seen post (s++[(b,i)])) (hi:i=(next b).length):Fz n next seen (post++[b]) s where
 len:=a.len
 low:=a.low
 range:=λx e=>a.range x (Sv _ e)
 pre:=λc hc=>by
  rcases AI.1 hc with hc|hc
  ·exact a.pre c hc
  ·simp at hc;subst hc;exact(a.range (c,i) (by simp)).1
 iff:=λc=>by
  rw[a.iff c]
  grind
 nodup:=by
  have:=a.nodup
  grind
 root:=λx r h=>a.root x (r++[(b,i)]) (by simp_all)
 last:=λh=>by
  subst h;have:=a.root (b,i) [] rfl
  simp_all
 closed:=λc hc t k=>by
  rcases AI.1 hc with hc|hc
  ·exact a.closed c hc t k
  ·simp at hc;subst hc;obtain⟨j,m⟩:=mM.1 k;have q:=(jw.1 m).1;exact a.gone (c,i) (by simp) j (by omega) t m
 gone:=λx e=>a.gone x (Sv _ e)
 Ux:=λd x y r h=>a.Ux d x y (r++[(b,i)]) (by simp_all)
 early:=λl c r h=>by
  rcases gY r with rfl|⟨r',z,rfl⟩
  ·obtain⟨o,f⟩:=xS h;subst f;rcases gY s with rfl|⟨d,x,rfl⟩
   ·exact .inl (a.root (b,i) [] rfl)
   ·refine .inr ⟨x.1,a.Ux d x (b,i) [] (by simp),by simp_all⟩
  ·have h':post++[b]=(l++c::r')++[z]:=by rw[h];simp
   obtain⟨o,f⟩:=xS h';subst f;rcases a.early l c r' o with h0|⟨p,w,A⟩
   ·omega
   grind
 zero:=by
  rcases gY s with rfl|⟨d,x,rfl⟩
  ·simp_all
  ·refine .inl λh0=>?_;obtain⟨y,g,u⟩:∃y g,d++[x]=y::g:=by
    cases d with
    |nil=>simp_all
    |cons y d=>simp_all
   have B:=a.root y (g++[(b,i)]) (by simp_all);have v:=a.nodup
   grind
theorem Fz.skip(a:Fz n next seen post (s++[(b,i)])) (q:(next b)[i]? =some t) (v:nt seen t):Fz n next seen post (s++[(b,i+1)]):=by
 have g:∀j:Nat,(s++[(b,j)]).map (λx:Nat×Nat=>x.1)=s.map (λx:Nat×Nat=>x.1)++[b]:=by simp_all
 refine⟨a.len,a.low,λx d=>?_,a.pre,λc=>?_,?_,λx r h=>?_,by simp_all,a.closed,λx d j m u o=>?_,λf x y r h=>?_,λl c r h=>?_,?_⟩
 ·rcases AI.1 d with d|d
  ·exact a.range x (Sv _ d)
  ·simp at d;subst d;have:=a.range (b,i) (by simp)
   grind
 ·rw[g];have:=a.iff c;simp_all
 ·rw[g];have:=a.nodup;simp_all
 ·cases s with
  |nil=>simp at h;obtain⟨e,_⟩:=h;subst e;exact a.root (b,i) [] rfl
  | cons y s=>
    simp at h;obtain⟨e,k⟩:=h;subst e;exact a.root y (s++[(b,i)]) rfl
 ·rcases AI.1 d with d|d
  ·exact a.gone x (Sv _ d) j m u o
  ·simp at d;subst d;have p:j<i+1:=m;by_cases hji:j=i
   ·simp_all
   ·exact a.gone (b,i) (by simp) j (by omega) u o
 ·rcases gY r with rfl|⟨r',z,rfl⟩
  ·have h':s++[(b,i+1)]=(f++[x])++[y]:=by rw[h];simp
   obtain⟨e,k⟩:=xS h';subst k;exact a.Ux f x (b,i) [] (by simp_all)
  ·have h':s++[(b,i+1)]=(f++x::y::r')++[z]:=by rw[h];simp
   obtain⟨e,k⟩:=xS h';exact a.Ux f x y (r'++[(b,i)]) (by simp_all)
 ·rw[g];have:=a.early l c r h;simp_all
 ·rcases a.zero with h|h
  ·simp_all
  simp_all
theorem Fz.push(a:Fz n next seen post (s++[(b,i)])) (v:(next b)[i]? =some t) (E:¬nt seen t):Fz n next (seen.set t true) post (s++[(b,i+1)]++[(t,0)]):=by
 have F:=a.range (b,i) (by simp);have q:t<n:=a.low b F.1 t (xu v);have f:∀c,nt (seen.set t true) c↔c=t\/nt seen c:=λc=>Dy (by rw[a.len];exact q);have w:(s++[(b,i+1)]++[(t,0)]).map (λx:Nat×Nat=>x.1)=(s++[(b,i)]).map (λx:Nat×Nat=>x.1)++[t]:=by simp
 have G:=(jw.1 v).1;refine⟨by simp[a.len],a.low,λx d=>?_,a.pre,λc=>?_,?_,λx r h=>?_,by simp_all,λc hc u m=>(f u).2 (.inr (a.closed c hc u m)),λx d j A u m=>?_,λg x y r h=>?_,λl c r h=>?_,?_⟩
 ·rcases AI.1 d with d|d
  ·rcases AI.1 d with d|d
   ·exact a.range x (Sv _ d)
   grind
  simp_all
 ·rw[f,w,a.iff c,AI]
  grind
 ·rw[w,<-MQ];refine List.nodup_append.2 ⟨a.nodup,by simp,λx d y B e=>?_⟩;simp at B;subst B;subst e;refine E ((a.iff x).2 ?_)
  simp_all
 ·cases s with
  | nil=>
    simp at h;obtain⟨k,_⟩:=h;subst k
    exact a.root (b,i) [] rfl
  | cons y s=>
    simp at h;obtain⟨k,H⟩:=h;subst k;exact a.root y (s++[(b,i)]) rfl
 ·refine (f u).2 ?_;rcases AI.1 d with d|d
  ·rcases AI.1 d with d|d
   ·exact .inr (a.gone x (Sv _ d) j A u m)
   ·simp at d;subst d;have I:j<i+1:=A;by_cases hji:j=i
    ·simp_all
    ·exact .inr (a.gone (b,i) (by simp) j (by omega) u m)
  simp_all
 ·rcases gY r with rfl|⟨r',z,rfl⟩
  ·have h':s++[(b,i+1)]++[(t,0)]=(g++[x])++[y]:=by rw[h];simp
   grind[xS,xu]
  ·have h':s++[(b,i+1)]++[(t,0)]=(g++x::y::r')++[z]:=by rw[h];simp
   obtain⟨k,H⟩:=xS h';rcases gY r' with rfl|⟨r2,J,rfl⟩
   ·have o:s++[(b,i+1)]=(g++[x])++[y]:=by rw[k];simp
    obtain⟨C,D⟩:=xS o;subst D;exact a.Ux g x (b,i) [] (by simp_all)
   ·have o:s++[(b,i+1)]=(g++x::y::r2)++[J]:=by rw[k];simp
    obtain⟨C,D⟩:=xS o;exact a.Ux g x y (r2++[(b,i)]) (by simp_all)
 ·rcases a.early l c r h with h0|⟨p,o,C⟩
  ·omega
  grind
 ·rcases a.zero with h|h
  ·simp_all
  simp_all
end
def cost(n:Nat)(f:Nat->Nat):Nat:=((List.range n).map f).sum
theorem JK(n:Nat) (f:Nat->Nat):cost (n+1) f=cost n f+f n:=by
 grind[cost,Vc]
theorem PV(n:Nat) (f g:Nat->Nat) (h:∀b,b<n->f b=g b):cost n f=cost n g:=by
 induction n with
 |zero=>rfl
 |succ n a=>grind[JK]
theorem Rx(n:Nat) (f g:Nat->Nat) (t:Nat) (a:t<n) (h0:g t=0) (h:∀b,b≠t->g b=f b):cost n g+f t=cost n f:=by
 induction n with
 |zero=>omega
 | succ n c=>
   grind[JK,PV]
noncomputable def left(next:Nat->List Nat)(seen:List Bool)(b:Nat):Nat:=if seen[b]? =some true then 0 else 2+(next b).length
def OM(next:Nat->List Nat)(stack:List (Nat×Nat)):Nat:=(stack.map λx=>1+((next x.1).length-x.2)).sum
noncomputable def mu(n:Nat)(next:Nat->List Nat)(seen:List Bool)(stack:List (Nat×Nat)):Nat:=cost n (left next seen)+OM next stack
section
variable{n:Nat}{next:Nat->List Nat}{seen:List Bool}{post:List Nat}{s:List (Nat×Nat)}{b i t:Nat}
theorem Dd(x:Nat×Nat):OM next (s++[x])=OM next s+(1+((next x.1).length-x.2)):=by
 grind[OM]
theorem V5:mu n next seen s<mu n next seen (s++[(b,i)]):=by
 grind[mu,Dd]
theorem SW(a:(next b)[i]? =some t):mu n next seen (s++[(b,i+1)])<mu n next seen (s++[(b,i)]):=by
 grind[jw,mu,Dd]
theorem Tt(d:Fz n next seen post (s++[(b,i)])) (f:(next b)[i]? =some t) (g:¬nt seen t):mu n next (seen.set t true) (s++[(b,i+1)]++[(t,0)])<mu n next seen (s++[(b,i)]):=by
 have h:=d.range (b,i) (by simp);have a:t<n:=d.low b h.1 t (xu f);have j:=(jw.1 f).1;have e:∀c,nt (seen.set t true) c↔c=t\/nt seen c:=λc=>Dy (by rw[d.len];exact a);have k:left next (seen.set t true) t=0:=by
  unfold left;exact if_pos ((e t).2 (.inl rfl))
 have l:∀c,c≠t->left next (seen.set t true) c=left next seen c:=by simp_all[nt,left,if_pos,if_neg]
 have m:=Rx n (left next seen) (left next (seen.set t true)) t a k l;have o:left next seen t=2+(next t).length:=by
  unfold left;exact if_neg g
 grind[mu,Dd,cost,left]
end
theorem sub_le:∀(l b:List Nat),l.Nodup->(∀x∈l,x∈b)->l.length<=b.length
 |[],_,_,_=>GM _
 | a::l,b,hd,h=>by
   have d:=h a (.head _);have c:=List.nodup_cons.1 hd;have e:=sub_le l (b.erase a) c.2 (by grind)
   grind
theorem Nh:∀(l:List Nat) (a:Nat),a∈l->l[l.idxOf a]? =some a
 |[],_,h=>by cases h
 | b::l,a,h=>by
   grind
section
variable{n:Nat}{next:Nat->List Nat}{seen:List Bool}{post:List Nat}
def Fz.gr(c:Fz n next seen post []):Gr where
 node b:=b∈post
 xz a b:=b∈next a
 place b:=post.reverse.idxOf b
 first:=by obtain⟨p,h⟩:=c.last rfl;simp_all
 zJ:=by obtain⟨p,h⟩:=c.last rfl;simp_all
 inj a b ha hb h:=by
  grind[Nh,Option.some.inj]
 to a b ha he:=by
  have:=(c.iff b).1 (c.closed a ha b he)
  simp_all
 early b hb h0:=by
  obtain⟨l,r,h⟩:=List.append_of_mem hb;rcases c.early l b r h with h'|⟨p,d,e⟩
  ·omega
  ·have g:p∈r:=by simpa using e
   refine⟨p,by simp_all,d,?_⟩;have f:=c.nodup
   grind
theorem Fz.all(c:Fz n next seen post []) (d:∀b,b<n->b∈post):post.length=n:=by
 have a:=c.nodup;simp only[List.map_nil,IN]at a;have e:=wx n post a c.pre;have f:=sub_le (List.range n) post List.nodup_range (by simp_all)
 grind
end
end Go.Proofs.YtnehpeeglbgfpaaDoor.Dm
namespace Go.Proofs.YtnehpeeglbgfpaaDoor.Un
open Dm
structure Vl where
 op:Nat
 a:Nat
 b:Nat
 n:Int
 args:List Nat
 state:Nat
structure Bk where
 ee:List Nat
 fin:Nat
 cond:Nat
 next:List Nat
 ft:List Nat
 state:Nat
structure Fm where
 func:Int
 pc:Int
 locals:List Nat
 stack:List Nat
structure U where
 func:Int
 pc:Int
 ee:List Vl
 blocks:List Bk
 eh:List (List Fm)
def two(op:Nat):Bool:=(3<=op&&op<=7) ||(10<=op&&op<=14) ||op == 18 ||op == 19 ||op == 20
def ud(op:Nat):Bool:=op == 8 ||op == 9 ||op == 15 ||op == 16 ||op == 17 ||op == 22
def mD(v:Vl):List Nat:=
 if v.op=21 then v.args else if v.op=20 then v.a::v.b::v.args.take 1 else if two v.op=true then[v.a,v.b] else if ud v.op=true then[v.a] else[]
def JO(op:Nat):Bool:=op<19 ||op == 21
def leaves(op:Nat):Bool:=op == 22 ||op == 23
def iC(op:Nat):Bool:=op == 1 ||op == 21
def jh(s:List Fm):List Nat:=s.flatMap λf=>f.locals++f.stack
def next(u:U) (b:Nat):List Nat:=match u.blocks[b]? with
 |some B=>B.next
 |none=>[]
def lP(l:List Bk) (i b:Nat):List Nat:=match l with
 |[]=>[]
 |B::l=>(B.next.filter (·= b)).map (λ_=>i)++lP l (i+1) b
def ahead(u:U)(b:Nat):List Nat:=lP u.blocks 0 b
inductive Pt (nx:Nat->List Nat):Nat->List Nat->Prop
 |nil:Pt nx 0 [0]
 |step {p b:Nat} {l:List Nat} (h:Pt nx p l) (e:b∈nx p):Pt nx b (b::l)
def wA(nx:Nat->List Nat)(x b:Nat):Prop:=∀l,Pt nx b l->x∈l
def At(u:U)(v b k:Nat):Prop:=∃B,u.blocks[b]? =some B/\B.ee[k]? =some v
def Eo(u:U)(v:Nat):Prop:=∃x,u.ee[v]? =some x/\JO x.op=true
def O2(u:U)(v b k:Nat):Prop:=∃c j,At u v c j/\(c=b/\j<k\/c≠b/\wA (next u) c b)
def DC(u:U)(v b:Nat):Prop:=∃c j,At u v c j/\wA (next u) c b
structure Gd (u:U) (P:Nat->Prop):Prop where
 nv:u.ee.length<=3000
 Oz:1<=u.blocks.length
 nb:u.blocks.length<=300
 ns:u.eh.length<=1000
 st:∀(s:Nat) (fs:List Fm),u.eh[s]? =some fs->1<=fs.length/\fs.length<=30/\∀f∈fs,f.locals.length<=40/\f.stack.length<=60/\(∀v∈f.locals,Eo u v)/\∀v∈f.stack,Eo u v
 DB:∀(v:Nat),v<u.ee.length->P v->∃b k,At u v b k
 JC:∀(v:Nat) (b:Nat) (k:Nat) (a:Nat) (k':Nat),At u v b k->At u v a k'->b=a/\k=k'
 vR:∀(v:Nat) (b:Nat) (k:Nat),At u v b k->v<u.ee.length
 Ie:∀(v:Nat) (w:Nat) (b:Nat) (k:Nat) (x:Vl) (y:Vl),At u v b (k+1)->At u w b k->u.ee[v]? =some x->u.ee[w]? =some y->iC x.op=true->iC y.op=true
 par:∀(v:Nat) (b:Nat) (k:Nat) (x:Vl),At u v b k->u.ee[v]? =some x->x.op=1->b=0
 T3:∀(v:Nat) (b:Nat) (k:Nat) (x:Vl) (B:Bk),At u v b k->u.ee[v]? =some x->x.op=21->u.blocks[b]? =some B->b≠0/\x.args.length=B.ft.length
 op:∀(v:Nat) (x:Vl),u.ee[v]? =some x->1<=x.op/\x.op<=23
 use:∀(v:Nat) (x:Vl),u.ee[v]? =some x->∀w∈mD x,Eo u w
 leave:∀(v:Nat) (x:Vl),u.ee[v]? =some x->leaves x.op=true->x.state<u.eh.length
 putAt:∀(v:Nat) (x:Vl),u.ee[v]? =some x->x.op=20->x.args.length=1
 param:∀(v:Nat) (x:Vl),u.ee[v]? =some x->x.op=1->0<=x.n/\x.n<40/\∀(w:Nat) (y:Vl),u.ee[w]? =some y->y.op=1->y.n=x.n->w=v
 fin:∀(b:Nat) (B:Bk),u.blocks[b]? =some B->(B.fin=1/\B.next.length=1)\/(B.fin=2/\B.next.length=2/\Eo u B.cond)\/(B.fin=3/\B.next=[]/\B.state<u.eh.length)
 nx:∀(b:Nat),∀t∈next u b,t<u.blocks.length
 ft:∀(b:Nat) (B:Bk),u.blocks[b]? =some B->B.ft=ahead u b
 KD:ahead u 0=[]
 MC:∀(b:Nat) (B:Bk),u.blocks[b]? =some B->B.fin=2->∀t∈B.next,(ahead u t).length=1
 reach:∀(b:Nat),b<u.blocks.length->∃l,Pt (next u) b l
 NR:∀(v:Nat) (b:Nat) (k:Nat) (x:Vl),At u v b k->u.ee[v]? =some x->x.op≠21->∀w∈mD x,O2 u w b k
 Sp:∀(v:Nat) (b:Nat) (k:Nat) (x:Vl) (B:Bk),At u v b k->u.ee[v]? =some x->x.op=21->u.blocks[b]? =some B->∀(j w p:Nat),x.args[j]? =some w->B.ft[j]? =some p->DC u w p
 NT:∀(v:Nat) (b:Nat) (k:Nat) (x:Vl) (fs:List Fm),At u v b k->u.ee[v]? =some x->leaves x.op=true->u.eh[x.state]? =some fs->∀w∈jh fs,O2 u w b k
 Se:∀(b:Nat) (B:Bk),u.blocks[b]? =some B->B.fin=2->DC u B.cond b
 Qx:∀(b:Nat) (B:Bk) (fs:List Fm),u.blocks[b]? =some B->B.fin=3->u.eh[B.state]? =some fs->∀w∈jh fs,DC u w b
abbrev Good(u:U):Prop:=Gd u λ_=>True
theorem Er{nx:Nat->List Nat} {D:Nat->Nat} (hc:∀p b,b∈nx p->b≠0->nq D (D b) p) {x:Nat}:∀{b l},Pt nx b l->nq D x b->x∈l
 | _,_,.nil,h=>by
   cases h <;> grind
 | _,_,.step (p:=p) h e,a=>by
   cases a with
   |refl=>simp_all
   |up h0 a=>exact .tail _ (Er hc h (a.trans (by simp_all)))
theorem wA.self(nx:Nat->List Nat)(b:Nat):wA nx b b:=λl h=>by cases h <;> exact .head _
theorem Rk{G:Gr} {nx:Nat->List Nat} (c:∀a b,G.xz a b↔b∈nx a):∀{b l r},Pa G b l r->Pt nx b l
 |_,_,_,.nil=> .nil
 |_,_,_,.fwd h e _=> .step (Rk c h) (by simp_all)
 |_,_,_,.bwd h e _=> .step (Rk c h) (by simp_all)
theorem UL{G:Gr} {nx:Nat->List Nat} (c:∀a b,G.xz a b↔b∈nx a):∀{b l},Pt nx b l->∃r,Pa G b l r
 |_,_,.nil=>⟨0,.nil⟩
 | _,_,.step h e=>by
   obtain⟨r,d⟩:=UL c h;obtain⟨r',_,_,f⟩:=d.step ((c _ _).2 e)
   grind
theorem QE{G:Gr} {nx:Nat->List Nat} (d:∀a b,G.xz a b↔b∈nx a) {x b:Nat}:wA nx x b↔PE G x b:=
 ⟨λh l r c=>h l (Rk d c),λh l c=>let⟨r,hr⟩:=UL d c;h l r hr⟩
theorem Gj{b p:Nat}:∀{l:List Bk} {i:Nat},p∈lP l i b↔∃k B,l[k]? =some B/\b∈B.next/\p=i+k
 |[],i=>by simp[lP]
 | B ::l,i=>by
   simp only[lP,AI,Sy,TD,IM,Gj (l:=l)];constructor
   ·rintro (⟨t,⟨a,c⟩,d⟩|⟨k,e,a,c,d⟩)
    ·subst c
     exact⟨0,B,rfl,a,d.symm⟩
    ·exact⟨k+1,e,a,c,by omega⟩
   grind
theorem zm{u:U} {b p:Nat}:p∈ahead u b↔b∈next u p:=by
 grind[ahead,next,Gj]
theorem wq{b:Nat}:∀(l m:List Bk) (i:Nat),lP (l++m) i b=lP l i b++lP m (i+l.length) b
 |[],m,i=>by rfl
 | B::l,m,i=>by
   simp only[List.cons_append,lP,wq l m (i+1),MX,MQ]
   grind
def jk(n:Int)(m:Nat):Nat:=(if n.tmod m<0 then n.tmod m+m else n.tmod m).toNat
theorem wS(n:Int) {m:Nat} (a:0<m):jk n m<m:=by
 have c:=Int.tmod_lt_of_pos n (b:=(m:Int)) (by omega)
 grind[Int,Int.tmod_lt_of_pos,Int.neg_tmod,jk]
structure Ds where
 ee:List Vl
 cur:List Nat
 known:List Nat
 eh:List (List Fm)
 pos:Nat
def draw(ops:List Int) (pos m:Nat):Nat×Nat:=match ops[pos]? with
 |none=>(0,pos)
 |some n=>(jk n m,pos+1)
theorem tH(ops:List Int) (pos:Nat) {m:Nat} (a:0<m):(draw ops pos m).1<m:=by
 unfold draw;split
 ·exact a
 simp_all[wS]
def vl(op a b:Nat)(n:Int)(args:List Nat)(state:Nat):Vl:=⟨op,a,b,n,args,state⟩
def put(s:Ds)(v:Vl):Ds:={s with ee:=s.ee++[v],cur:=s.cur++[s.ee.length]}
def gX(s:Ds)(v:Vl):Ds:={s with ee:=s.ee++[v],cur:=s.cur++[s.ee.length],known:=s.known++[s.ee.length]}
def fu(ops:List Int)(s:Ds):Nat×Ds:=(s.known.getD (draw ops s.pos s.known.length).1 0,{s with pos:=(draw ops s.pos s.known.length).2})
def num(ops:List Int)(s:Ds)(m:Nat):Nat×Ds:=((draw ops s.pos m).1,{s with pos:=(draw ops s.pos m).2})
def some_(ops:List Int):Nat->Ds->List Nat->List Nat×Ds
 |0,s,l=>(l,s)
 |i+1,s,l=>some_ ops i (fu ops s).2 (l++[(fu ops s).1])
def fk(ops:List Int) (s:Ds):Nat×Ds:=
 let r:=num ops s 4
 let q:=some_ ops r.1 r.2 []
 (s.eh.length,{q.2 with eh:=s.eh++[[⟨1,(s.eh.length:Nat),q.1,[s.known.getLastD 0]⟩]]})
def qR(ops:List Int) (s:Ds) (k a b:Nat):Ds:=
 if k<12 then gX s (vl (3+k) a b 0 [] 0)
 else if k=12 then let r:=num ops s 1048576;gX r.2 (vl 2 0 0 ((r.1:Int)-9) [] 0)
 else if k=13 then let r:=num ops s 5;gX r.2 (vl 17 a 0 (r.1:Nat) [] 0)
 else if k=14 then gX s (vl 18 a b 0 [] 0)
 else if k=15 then let r:=num ops s 5;put r.2 (vl 19 a b (r.1:Nat) [] 0)
 else if k=16 then let r:=fu ops s;put r.2 (vl 20 a b 0 [r.1] 0)
 else if k=17 then let r:=fk ops s;put r.2 (vl 22 a 0 0 [] r.1)
 else if k=18 then let r:=fk ops s;put r.2 (vl 23 0 0 0 [] r.1)
 else let r:=num ops s 2;gX r.2 (vl (15+r.1) a 0 0 [] 0)
def rX(ops:List Int) (s:Ds):Ds:=
 let r:=fu ops s
 let q:=fu ops r.2
 let k:=num ops q.2 20
 qR ops k.2 k.1 r.1 q.1
def rows(ops:List Int):Nat->Ds->Ds
 |0,s=>s
 |i+1,s=>if s.ee.length<200 then rows ops i (rX ops s) else s
def row(ops:List Int)(s:Ds):Ds:=let r:=num ops s 6;rows ops (1+r.1) r.2
structure Dt where
 s:Ds
 blocks:List Bk
 ft:List Nat
def end_(t:Dt) (fin cond:Nat) (nx:List Nat) (state:Nat) (ft:List Nat):Dt:={s:={t.s with cur:=[]},blocks:=t.blocks++[⟨t.s.cur,fin,cond,nx,t.ft,state⟩],ft:=ft}
def cut(n:Nat)(s:Ds):Ds:={s with known:=s.known.take n}
def setArgs(s:Ds)(v:Nat)(args:List Nat):Ds:={s with ee:=s.ee.modify v λx=>{x with args:=args} }
def fork(ops:List Int) (t:Dt):Dt:=
 let c:=fu ops t.s
 let b:=t.s.known.length
 let a:=t.blocks.length
 let d:=end_ {t with s:=c.2} 2 c.1 [a+1,a+2] 0 [a]
 let s1:=row ops d.s
 let x:=s1.known.getLastD 0
 let e:=end_ {d with s:=cut b s1} 1 0 [a+3] 0 [a]
 let f:=row ops e.s
 let y:=f.known.getLastD 0
 let t3:=end_ {e with s:=cut b f} 1 0 [a+3] 0 [a+1,a+2]
 {t3 with s:=row ops (gX t3.s (vl 21 0 0 0 [x,y] 0))}
def loop(ops:List Int) (t:Dt):Dt:=
 let f:=fu ops t.s
 let a:=t.blocks.length
 let c:=end_ {t with s:=f.2} 1 0 [a+1] 0 [a,a+2]
 let p:=c.s.ee.length
 let s1:=put c.s (vl 21 0 0 0 [f.1,0] 0)
 let g:=fu ops s1
 let i:=put g.2 (vl 21 0 0 0 [g.1,p] 0)
 let m:={i with known:=i.known++[p,p+1]}
 let st:=fk ops m
 let j:=put st.2 (vl 23 0 0 0 [] st.1)
 let one:=j.ee.length
 let n:=put j (vl 2 0 0 1 [] 0)
 let k:=gX n (vl 4 p one 0 [] 0)
 let l:=end_ {c with s:=k} 2 p [a+2,a+3] 0 [a+1]
 let b:=k.known.length
 let e:=row ops l.s
 let o:=setArgs e p [f.1,one+1]
 let d:=num ops o 3
 let q:=if d.1=0 then setArgs d.2 p [f.1,e.known.getLastD 0] else d.2
 let h:=setArgs q (p+1) [g.1,e.known.getLastD 0]
 let t3:=end_ {l with s:=cut b h} 1 0 [a+1] 0 [a+1]
 {t3 with s:=row ops t3.s}
def wG(ops:List Int) (t:Dt):Dt:=
 let c:=fu ops t.s
 let b:=t.s.known.length
 let a:=t.blocks.length
 let d:=end_ {t with s:=c.2} 2 c.1 [a+1,a+2] 0 [a]
 let s1:=row ops d.s
 let st:=fk ops s1
 let e:=end_ {d with s:=cut b st.2} 3 0 [] st.1 [a]
 {e with s:=row ops e.s}
def rh(ops:List Int)(k:Nat)(t:Dt):Dt:=if k=0 then fork ops t else if k=1 then loop ops t else wG ops t
def kI(ops:List Int):List Int->Dt->Dt
 |[],t=>t
 |k::l,t=>if t.s.ee.length<160 then kI ops l (rh ops (jk k 3) t) else t
def params:Nat->Nat->Ds->Ds
 |0,_,s=>s
 |n+1,i,s=>params n (i+1) (gX s (vl 1 0 0 (i:Nat) [] 0))
def Ak(ops a:List Int) (n:Int):U:=
 let s:=row ops (gX (params (jk n 5) 0 ⟨[],[],[],[],0⟩) (vl 2 0 0 5 [] 0))
 let t:=kI ops (a.take 6) ⟨s,[],[]⟩
 let st:=fk ops t.s
 let b:=end_ {t with s:=st.2} 3 0 [] st.1 []
 ⟨1,2,b.s.ee,b.blocks,b.s.eh⟩
