/- Parts. -/
import Derived.Test.YtpnddokajmjpbaaDoorM00
import Derived.Calls
namespace Go.Proofs.YtpnddokajmjpbaaDoor.Dm
structure Gr where
 node:Nat->Prop
 edge:Nat->Nat->Prop
 place:Nat->Nat
 first:node 0
 place0:place 0=0
 inj:∀a b,node a->node b->place a=place b->a=b
 to:∀a b,node a->edge a b->node b
 early:∀b,node b->b≠0->∃p,node p/\edge p b/\place p<place b
inductive Pa (G:Gr):Nat->List Nat->Nat->Prop
 |nil:Pa G 0 [0] 0
 |fwd {p b:Nat} {l:List Nat} {r:Nat} (h:Pa G p l r) (e:G.edge p b) (a:G.place p<G.place b):Pa G b (b::l) r
 |bwd {p b:Nat} {l:List Nat} {r:Nat} (h:Pa G p l r) (e:G.edge p b) (a:¬G.place p<G.place b):Pa G b (b::l) (r+1)
def Dom (G:Gr)(x b:Nat):Prop:=∀l r,Pa G b l r->x∈l
def DK (G:Gr)(k x b:Nat):Prop:=∀l r,Pa G b l r->r<k->x∈l
variable{G:Gr}
theorem Pa.node:∀{b l r},Pa G b l r->G.node b
 |_,_,_,.nil=>G.first
 |_,_,_,.fwd h e _=>G.to _ _ h.node e
 |_,_,_,.bwd h e _=>G.to _ _ h.node e
theorem Pa.last:∀{b l r},Pa G b l r->b∈l
 |_,_,_,.nil=> .head _
 |_,_,_,.fwd _ _ _=> .head _
 |_,_,_,.bwd _ _ _=> .head _
theorem Pa.step {p b:Nat} {l:List Nat} {r:Nat} (h:Pa G p l r) (e:G.edge p b):∃r',r'<=r+1/\(G.place p<G.place b->r' = r)/\Pa G b (b::l) r':=by
 by_cases hp:G.place p<G.place b
 ·exact⟨r,wBZ _,λ_=>rfl,.fwd h e hp⟩
 ·exact⟨r+1,wAF _,λh=>absurd h hp,.bwd h e hp⟩
theorem fwdPath (n:Nat):∀b,G.node b->G.place b<n->∃l,Pa G b l 0/\∀x∈l,G.node x/\G.place x<=G.place b:=by
 induction n with
 |zero=>intro b _ h;omega
 | succ n e=>
   intro b c j;by_cases h0:b=0
   ·subst h0
    exact⟨[0],.nil,λx a=>by simp at a;subst a;exact⟨c,wAF _⟩⟩
   ·obtain ⟨p,f,g,d⟩:=G.early b c h0
    obtain⟨l,i,a⟩:=e p f (by omega);refine⟨b::l,.fwd i g d,λx h=>?_⟩
    cases h with
    |head=>exact⟨c,wAF _⟩
    | tail _ h=>
      have:=a x h;exact⟨this.1,by omega⟩
theorem Pa.pre:∀{b l r},Pa G b l r->∀{x},x∈l->∃c r',Pa G x c r'/\r'<=r/\∀y∈c,y∈l
 |_,_,_,.nil,x,a=>by simp at a;subst a;exact⟨[0],0,.nil,wAF _,λy h=>h⟩
 | b,_,_,.fwd (l:=l) (r:=r) h e hp,x,a=>by
   rcases wAr.1 a with rfl|a
   ·exact⟨_,_,.fwd h e hp,wAF _,λy h=>h⟩
   ·obtain⟨c,r',d,i,f⟩:=h.pre a
    exact⟨c,r',d,i,λy g=> .tail _ (f y g)⟩
 | b,_,_,.bwd (l:=l) (r:=r) h e hp,x,a=>by
   rcases wAr.1 a with rfl|a
   ·exact⟨_,_,.bwd h e hp,wAF _,λy h=>h⟩
   ·obtain⟨c,r',d,i,f⟩:=h.pre a
    exact⟨c,r',d,by omega,λy g=> .tail _ (f y g)⟩
theorem DK.mono{x b k k':Nat}(h:DK G k x b)(c:k'<=k):DK G k' x b:=λl r a d=>h l r a (by omega)
theorem DK.trans {x y b k:Nat} (c:DK G k x y) (d:DK G k y b):DK G k x b:=by
 intro l r a e;obtain⟨f,r',g,i,h⟩:=a.pre (d l r a e);exact h x (c f r' g (by omega))
theorem DK.self (k b:Nat):DK G k b b:=λ_ _ a _=>a.last
theorem Dom.self (b:Nat):Dom G b b:=λ_ _ a=>a.last
theorem Dom.pred {x p b:Nat} (h:Dom G x b) (a:x≠b) (e:G.edge p b):Dom G x p:=by
 intro l r c;obtain⟨r',_,_,hs⟩:=c.step e;rcases wAr.1 (h _ _ hs)with rfl|h
 ·exact absurd rfl a
 ·exact h
inductive Anc (I:Nat->Nat):Nat->Nat->Prop
 |refl (b:Nat):Anc I b b
 |up {a b:Nat} (h0:b≠0) (h:Anc I a (I b)):Anc I a b
theorem Anc.trans {I:Nat->Nat} {a b c:Nat} (d:Anc I a b) (e:Anc I b c):Anc I a c:=by
 induction e with
 |refl=>exact d
 |up h0 _ f=>exact .up h0 f
theorem Anc.parent {I:Nat->Nat} {a b:Nat} (h:Anc I a b) (c:a≠b):Anc I a (I b):=by
 cases h with
 |refl=>exact absurd rfl c
 |up _ h=>exact h
def set (I:Nat->Nat)(b d:Nat):Nat->Nat:=λx=>if x=b then d else I x
structure Tree (G:Gr) (I:Nat->Nat) (S:Nat->Prop):Prop where
 zero:S 0
 node:∀b,S b->G.node b
 up:∀b,S b->b≠0->S (I b)/\G.place (I b)<G.place b
section
variable{I:Nat->Nat}{S:Nat->Prop}
theorem Tree.anc (c:Tree G I S) {a b:Nat} (h:Anc I a b):S b->S a/\G.place a<=G.place b:=by
 induction h with
 |refl=>exact λh=>⟨h,wAF _⟩
 | up h0 _ d=>
   intro e;obtain⟨f,g⟩:=c.up _ e h0;have:=d f;exact⟨this.1,by omega⟩
theorem Tree.anti (c:Tree G I S) {a b:Nat} (e:Anc I a b) (f:Anc I b a) (h:S b):a=b:=by
 have d:=c.anc e h;have g:=c.anc f d.1;exact G.inj _ _ (c.node _ d.1) (c.node _ h) (by omega)
theorem Tree.meetL (c:Tree G I S) {a b x:Nat} (i:S a) (d:S b) (f:G.place b<G.place a) (g:Anc I x a) (h:Anc I x b):Anc I x (I a):=by
 refine g.parent λe=>?_;subst e;have:=(c.anc h d).2;omega
theorem Anc.set_low {b d:Nat} (g:Tree G I S) {a c:Nat} (h:Anc I a c):S c->G.place c<G.place b->Anc (set I b d) a c:=by
 induction h with
 |refl=>exact λ_ _=> .refl _
 | up h0 _ i=>
   rename_i c _;intro hc j;have f:c≠b:=λe=>by subst e;omega
   obtain⟨k,l⟩:=g.up _ hc h0;refine .up h0 ?_;unfold Dm.set;rw[if_neg f];exact i k (by omega)
end
structure Inv (G:Gr) (I:Nat->Nat) (S:Nat->Prop) (k pos:Nat):Prop where
 tree:Tree G I S
 one:1<=k
 pos1:1<=pos
 done:∀b,G.node b->G.place b<pos->S b
 all:2<=k->∀b,G.node b->S b
 fresh:k=1->∀b,S b->G.place b<pos
 low:∀b,S b->b≠0->DK G (if G.place b<pos then k else k-1) (I b) b
 dom:∀y x,S y->Dom G x y->Anc I x y
section
variable{I:Nat->Nat}{S:Nat->Prop}{k pos:Nat}
theorem Inv.kb (a:Inv G I S k pos) {b:Nat} (c:S b):1<=(if G.place b<pos then k else k-1):=by
 have:=a.one;split
 ·omega
 ·rename_i h;by_cases d:k=1
  ·exact absurd (a.fresh d b c) h
  ·omega
theorem Inv.ancLow (c:Inv G I S k pos) {a b:Nat} (h:Anc I a b):S b->DK G (if G.place b<pos then k else k-1) a b:=by
 induction h with
 |refl=>exact λ_=>DK.self _ _
 | up h0 _ e=>
   rename_i b _;intro d;obtain⟨f,g⟩:=c.tree.up _ d h0;refine DK.trans (DK.mono (e f) ?_) (c.low b d h0);split <;> split <;> omega
theorem Pa.swap:∀{y f g},Pa G y f g->g=0->∀{z l r},z∈f->Pa G z l r->∃c r',Pa G y c r'/\G.place z<=G.place y/\∀w∈c,w∈l\/G.place z<G.place w
 | _,_,_,.nil,_,z,l,r,a,hp=>by
   simp at a;subst a
   exact⟨l,r,hp,wAF _,λw h=> .inl h⟩
 | _,_,_,.fwd (p:=p) (b:=b) h e hlt,h0,z,l,r,a,hp=>by
   rcases wAr.1 a with rfl|a
   ·exact⟨l,r,hp,wAF _,λw h=> .inl h⟩
   ·obtain⟨c,r',i,k,j⟩:=h.swap h0 a hp
    refine⟨b::c,r',.fwd i e hlt,by omega,λw d=>?_⟩;rcases wAr.1 d with rfl|d
    ·exact .inr (by omega)
    ·exact j w d
 |_,_,_,.bwd _ _ _,h0,_,_,_,_,_=>by cases h0
theorem Inv.domMid (a:Inv G I S k pos) {x y z:Nat} (c:S y) (j:Dom G x y) (g:Anc I z y) (d:Anc I x z) (m:x≠z):Dom G x z:=by
 intro l r n;obtain⟨i,b,_⟩:=fwdPath (G:=G) (G.place y+1) y (a.tree.node y c) (wAk _);have e:z∈i:=a.ancLow g c i 0 b (a.kb c);obtain⟨o,r',p,_,q⟩:=b.swap rfl e n;rcases q x (j o r' p)with h|h
 ·exact h
 ·have f:=a.tree.anc g c;have:=a.tree.anc d f.1;omega
theorem Inv.upd (a:Inv G I S k pos) {b d:Nat} (B:G.node b) (h0:b≠0) (U:G.place b=pos) (f:∀p,S p->G.edge p b->Anc I d p) (m:∀x,(∀p,S p->G.edge p b->Anc I x p)->Anc I x d) :
  Inv G (set I b d) (λx=>S x\/x=b) k (pos+1)/\S d/\G.place d<G.place b:=by
 obtain⟨p0,C,D,K⟩:=G.early b B h0;have w:S p0:=a.done p0 C (by omega);obtain⟨E,L⟩:=a.tree.anc (f p0 w D) w;have o:G.place d<G.place b:=by omega
 have q:set I b d b=d:=by unfold Dm.set;rw[if_pos rfl]
 have s:∀c,c≠b->set I b d c=I c:=λc h=>by unfold Dm.set;rw[if_neg h]
 have F:Tree G (set I b d) (λx=>S x\/x=b):=by
  refine⟨.inl a.tree.zero,λc hc=>?_,λc hc t=>?_⟩
  ·rcases hc with hc|rfl
   ·exact a.tree.node c hc
   ·exact B
  ·by_cases hcb:c=b
   ·subst hcb;rw[q];exact⟨.inl E,o⟩
   ·rw[s c hcb];have hc:=hc.resolve_right hcb;have:=a.tree.up c hc t;exact⟨.inl this.1,this.2⟩
 have g:∀x,Dom G x b->Anc (set I b d) x b:=by
  intro x n;by_cases hxb:x=b
  ·subst hxb;exact .refl _
  ·refine .up h0 ?_;rw[q];exact(m x λp H M=>a.dom p x H (n.pred hxb M)).set_low a.tree E o
 refine⟨⟨F,a.one,by omega,λc hc i=>?_,λN c hc=> .inl (a.all N c hc),λO c hc=>?_,λc hc t=>?_,λy x P n=>?_⟩,E,o⟩
 ·by_cases hcp:G.place c<pos
  ·exact .inl (a.done c hc hcp)
  ·exact .inr (G.inj c b hc B (by omega))
 ·rcases hc with hc|rfl
  ·have:=a.fresh O c hc;omega
  ·omega
 ·by_cases hcb:c=b
  ·subst hcb;rw[q,if_pos (by omega)];intro l r u Q
   cases u with
   |nil=>exact absurd rfl h0
   | fwd h e i=>
     rename_i p l;have z:S p:=a.done p h.node (by omega);have:=a.ancLow (f p z e) z;rw[if_pos (by omega)]at this
     exact .tail _ (this _ _ h Q)
   | bwd h e i=>
     rename_i p l r;have z:S p:=a.all (by omega) p h.node;have:=(a.ancLow (f p z e) z).mono (k':=k-1) (by split <;> omega);exact .tail _ (this _ _ h (by omega))
  ·have A:=hc.resolve_right hcb;rw[s c hcb];have R:G.place c≠pos:=λh=>hcb (G.inj c b (a.tree.node c A) B (by omega));have:=a.low c A t;by_cases i:G.place c<pos
   ·rw[if_pos i]at this;rw[if_pos (by omega)];exact this
   ·rw[if_neg i]at this;rw[if_neg (by omega)];exact this
 ·by_cases hyb:y=b
  ·subst hyb;exact g x n
  ·have j:=P.resolve_right hyb;have J:∀{y},Anc I x y->S y->Dom G x y->Anc (set I b d) x y:=by
    intro y h
    induction h with
    |refl=>exact λ_ _=> .refl _
    | up v h T=>
      rename_i y;intro j n;by_cases hyb:y=b
      ·subst hyb;exact g x n
      ·refine .up v ?_
       rw[s y hyb];by_cases hxI:x=I y
       ·rw[<-hxI];exact .refl _
       ·exact T (a.tree.up y j v).1 (a.domMid j n (.up v (.refl _)) h hxI)
   exact J (a.dom y x j n) j n
theorem Inv.pass (d:Inv G I S k pos) (a:∀b,G.node b->G.place b<pos):Inv G I S (k+1) 1:=by
 have g:=d.one;refine⟨d.tree,by omega,wAF _,λb c e=>?_,λ_ b c=>d.done b c (a b c),λh=>by omega,λb c h0=>?_,d.dom⟩
 ·exact d.done b c (a b c)
 ·have:=d.low b c h0;rw[if_pos (a b (d.tree.node b c))]at this;split
  ·rename_i h;have f:G.place b=G.place 0:=by have:=G.place0;omega
   exact absurd (G.inj b 0 (d.tree.node b c) G.first f) h0
  ·exact this
theorem Inv.start:Inv G (λ_=>0) (λx=>x=0) 1 1:=by
 refine⟨⟨rfl,λb h=>by subst h;exact G.first,λb h h0=>absurd h h0⟩,wAF _,wAF _,λb a c=>?_,λh=>by omega,λ_ b h=>by subst h;rw[G.place0];omega,λb h h0=>absurd h h0,λy x d e=>?_⟩
 ·exact G.inj b 0 a G.first (by have:=G.place0;omega)
 ·subst d;have:=e _ _ .nil;simp at this;subst this;exact .refl _
theorem Pa.suffix:∀{b l r},Pa G b l r->∀{x},x∈l->∃c r' t,Pa G x c r'/\l=t++c
 |_,_,_,.nil,x,a=>by simp at a;subst a;exact⟨[0],0,[],.nil,rfl⟩
 | b,_,_,.fwd (l:=l) (r:=r) h e hp,x,a=>by
   rcases wAr.1 a with rfl|a
   ·exact⟨_,_,[],.fwd h e hp,rfl⟩
   ·obtain⟨c,r',t,d,f⟩:=h.suffix a
    exact⟨c,r',b::t,d,by rw[f];rfl⟩
 | b,_,_,.bwd (l:=l) (r:=r) h e hp,x,a=>by
   rcases wAr.1 a with rfl|a
   ·exact⟨_,_,[],.bwd h e hp,rfl⟩
   ·obtain⟨c,r',t,d,f⟩:=h.suffix a
    exact⟨c,r',b::t,d,by rw[f];rfl⟩
theorem Pa.short:∀{b l r},Pa G b l r->r+1<=l.length
 |_,_,_,.nil=>by simp
 |_,_,_,.fwd h _ _=>by have:=h.short;simp;omega
 |_,_,_,.bwd h _ _=>by have:=h.short;simp;omega
theorem Pa.nodes:∀{b l r},Pa G b l r->∀x∈l,G.node x
 |_,_,_,.nil,x,a=>by simp at a;subst a;exact G.first
 | _,_,_,.fwd h e hp,x,a=>by
   rcases wAr.1 a with rfl|a
   ·exact G.to _ _ h.node e
   ·exact h.nodes x a
 | _,_,_,.bwd h e hp,x,a=>by
   rcases wAr.1 a with rfl|a
   ·exact G.to _ _ h.node e
   ·exact h.nodes x a
theorem Pa.simple:∀{b l r},Pa G b l r->∃a r',Pa G b a r'/\a.Nodup/\∀x∈a,x∈l:=by
 intro b l r h;have step:∀{p b:Nat} {l:List Nat},(∃a r',Pa G p a r'/\a.Nodup/\∀x∈a,x∈l)->G.edge p b->∃a r',Pa G b a r'/\a.Nodup/\∀x∈a,x∈b::l:=by
  rintro p b l ⟨a,r',i,d,j⟩ e;by_cases hb:b∈a
  ·obtain⟨l2,r2,t,m,k⟩:=i.suffix hb;refine⟨l2,r2,m,?_,λx c=> .tail _ (j x (by rw[k];exact wBc _ c))⟩;rw[k]at d;exact(wBM.1 d).2.1
  ·obtain⟨r2,_,_,g⟩:=i.step e;refine⟨b::a,r2,g,List.nodup_cons.2 ⟨hb,d⟩,λx c=>?_⟩;rcases wAr.1 c with rfl|c
   ·exact .head _
   ·exact .tail _ (j x c)
 induction h with
 |nil=>exact⟨[0],0,.nil,by simp,λx h=>h⟩
 |fwd _ e _ f=>exact step f e
 |bwd _ e _ f=>exact step f e
theorem iy:∀(n:Nat) (l:List Nat),l.Nodup->(∀x∈l,x<n)->l.length<=n:=by
 intro n
 induction n with
 | zero=>
   intro l _ h
   cases l with
   |nil=>exact wAF _
   |cons a l=>exact absurd (h a (.head _)) (Nat.not_lt_zero _)
 | succ n f=>
   intro l c h;by_cases hn:n∈l
   ·have g:=f (l.erase n) (c.erase n) (λx b=>by
      have d:=List.mem_of_mem_erase b;have i:=h x d;have j:x≠n:=λe=>by subst e;exact absurd b c.not_mem_erase
      omega)
    have d:=List.length_erase_of_mem hn;have i:0<l.length:=List.length_pos_of_mem hn;omega
   ·have:=f l c λx b=>by
      have g:=h x b;have d:x≠n:=λe=>by subst e;exact hn b
      omega
    omega
theorem DK.dom {n x b c:Nat} (e:∀b,G.node b->b<n) (h:DK G c x b) (k:n<=c):Dom G x b:=by
 intro l r f;obtain⟨d,r',a,g,i⟩:=f.simple;have m:=iy n d g λx j=>e x (a.nodes x j);have o:=a.short;exact i x (h d r' a (by omega))
theorem Inv.exact (a:Inv G I S k pos) {n:Nat} (d:∀b,G.node b->b<n) (e:n+1<=k) {x b:Nat} (c:S b):Anc I x b↔Dom G x b:=by
 refine⟨λh=>(a.ancLow h c).dom d ?_,a.dom b x c⟩;split <;> omega
theorem Inv.stay (c:Inv G I S k pos) {n:Nat} (h:∀b,G.node b->b<n) (q:n+1<=k) {b d:Nat} (r:G.node b) (h0:b≠0) (s:G.place b=pos) (f:∀p,S p->G.edge p b->Anc I d p) (a:∀x,(∀p,S p->G.edge p b->Anc I x p)->Anc I x d) :
  S b/\d=I b:=by
 have t:=h 0 G.first;have g:S b:=c.all (by omega) b r;obtain⟨i,B,u⟩:=c.upd r h0 s f a;obtain⟨j,l⟩:=c.tree.up b g h0;have m:I b≠b:=λe=>by rw[e]at l;omega
 have v:Dom G (I b) b:=(c.exact h q g).1 (.up h0 (.refl _));have w:Anc I (I b) d:=a _ λp o y=>c.dom p _ o (v.pred m y);have z:Dom G d b:=(i.exact h q (.inr rfl)).1 (.up h0 (by unfold Dm.set;rw[if_pos rfl];exact .refl _));have A:Anc I d (I b):=(c.dom b d g z).parent λe=>by subst e;omega
 exact⟨g,c.tree.anti A w j⟩
end
def isSeen (seen:List Bool)(b:Nat):Prop:=seen[b]? =some true
theorem yH {seen:List Bool} {t b:Nat} (a:t<seen.length):isSeen (seen.set t true) b↔b=t\/isSeen seen b:=by
 unfold isSeen;rw[List.getElem?_set];by_cases h:t=b
 ·subst h;simp[a]
 ·rw [if_neg h];constructor
  ·exact λh=> .inr h
  ·rintro(rfl|h')
   ·exact absurd rfl h
   ·exact h'
structure Go_ (n:Nat) (next:Nat->List Nat) (seen:List Bool) (post:List Nat) (stack:List (Nat×Nat)):Prop where
 len:seen.length=n
 low:∀b,b<n->∀t∈next b,t<n
 range:∀x∈stack,x.1<n/\x.2<=(next x.1).length
 pre:∀b∈post,b<n
 iff:∀b,isSeen seen b↔b∈post\/b∈stack.map (·.1)
 nodup:(post++stack.map (·.1)).Nodup
 root:∀x s,stack=x::s->x.1=0
 last:stack=[]->∃p,post=p++[0]
 closed:∀b∈post,∀t∈next b,isSeen seen t
 gone:∀x∈stack,∀j,j<x.2->∀t,(next x.1)[j]? =some t->isSeen seen t
 way:∀s x y r,stack=s++x::y::r->y.1∈next x.1
 early:∀l b r,post=l++b::r->b=0\/∃p,b∈next p/\(p∈r\/p∈stack.map (·.1))
 zero:0 ∉ post\/stack=[]
section
variable{n:Nat}{next:Nat->List Nat}{seen:List Bool}{post:List Nat}{stack s:List (Nat×Nat)}{b i t:Nat}
theorem Go_.start (d:0<n) (e:∀b,b<n->∀t∈next b,t<n):Go_ n next ((List.replicate n false).set 0 true) [] [(0,0)] where
 len:=by simp
 low:=e
 range:=λx a=>by simp at a;subst a;exact⟨d,wA5 _⟩
 pre:=λb c=>by cases c
 iff:=λb=>by
  rw[yH (by simpa using d)];simp[isSeen,wA4]
 nodup:=by simp
 root:=λx s h=>by cases h;rfl
 last:=λh=>by cases h
 closed:=λb c=>by cases c
 gone:=λx a j f=>by simp at a;subst a;exact absurd f (Nat.not_lt_zero _)
 way:=λs x y r h=>by
  have:=congrArg List.length h;simp at this;omega
 early:=λl b r h=>by
  have:=congrArg List.length h;simp at this
 zero:= .inl (by simp)
theorem hX {α:Type} (l:List α):l=[]\/∃s x,l=s++[x]:=by
 rcases List.eq_nil_or_concat l with h|⟨s,x,h⟩
 ·exact .inl h
 ·exact .inr ⟨s,x,by rw[h,List.concat_eq_append]⟩
theorem rR {α:Type} {s a:List α} {x y:α} (h:s++[x]=a++[y]):s=a/\x=y:=by
 have:=List.append_inj_right' h rfl;have b:=List.append_inj_left' h rfl;simp at this;exact⟨b,this⟩
theorem Go_.pop (a:Go_ n next seen post (s++[(b,i)])) (hi:i=(next b).length):Go_ n next seen (post++[b]) s where
 len:=a.len
 low:=a.low
 range:=λx m=>a.range x (wAu _ m)
 pre:=λc hc=>by
  rcases wAV.1 hc with hc|hc
  ·exact a.pre c hc
  ·simp at hc;subst hc;exact(a.range (c,i) (by simp)).1
 iff:=λc=>by
  rw[a.iff c];simp only[wAx,wBO,wBa,wAV,wAW];constructor
  ·rintro(h|h|h)
   ·exact .inl (.inl h)
   ·exact .inr h
   ·exact .inl (.inr h)
  ·rintro((h|h)|h)
   ·exact .inl h
   ·exact .inr (.inr h)
   ·exact .inr (.inl h)
 nodup:=by
  have:=a.nodup;simp only[wAx,wBO,wBa]at this;have A:(post++[b]++s.map (·.1)).Perm (post++(s.map (·.1)++[b])):=by
   rw[wAU];exact List.Perm.append_left _ List.perm_append_comm
  exact A.nodup_iff.2 this
 root:=λx r h=>a.root x (r++[(b,i)]) (by rw[h];rfl)
 last:=λh=>by
  subst h;have:=a.root (b,i) [] rfl;simp at this;subst this;exact⟨post,rfl⟩
 closed:=λc hc t u=>by
  rcases wAV.1 hc with hc|hc
  ·exact a.closed c hc t u
  ·simp at hc;subst hc;obtain⟨j,v⟩:=wAD.1 u;have B:=(wAB.1 v).1;exact a.gone (c,i) (by simp) j (by show j<i;omega) t v
 gone:=λx m=>a.gone x (wAu _ m)
 way:=λe x y r h=>a.way e x y (r++[(b,i)]) (by rw[h];simp)
 early:=λl c r h=>by
  rcases hX r with rfl|⟨r',z,rfl⟩
  ·obtain⟨w,g⟩:=rR h;subst g;rcases hX s with rfl|⟨e,x,rfl⟩
   ·exact .inl (a.root (b,i) [] rfl)
   ·refine .inr ⟨x.1,a.way e x (b,i) [] (by simp),.inr (by simp)⟩
  ·have h':post++[b]=(l++c::r')++[z]:=by rw[h];simp
   obtain⟨w,g⟩:=rR h';subst g;rcases a.early l c r' w with h0|⟨p,o,d⟩
   ·exact .inl h0
   ·refine .inr ⟨p,o,?_⟩;rcases d with d|d
    ·exact .inl (by simp[d])
    ·simp only[wAx,wBO,wBa,wAV,wAW]at d;rcases d with d|d
     ·exact .inr d
     ·exact .inl (by simp[d])
 zero:=by
  rcases hX s with rfl|⟨e,x,rfl⟩
  ·exact .inr rfl
  ·refine .inl λh0=>?_;obtain⟨y,q,k⟩:∃y q,e++[x]=y::q:=by
    cases e with
    |nil=>exact⟨x,[],rfl⟩
    |cons y e=>exact⟨y,e++[x],rfl⟩
   have C:=a.root y (q++[(b,i)]) (by rw[k];rfl);have f:=a.nodup;rcases wAV.1 h0 with h0|h0
   ·rcases a.zero with h|h
    ·exact h h0
    ·simp at h
   ·simp at h0;rw[k]at f;have:(0:Nat)=b:=h0;subst this;simp only[wBC,wBO,wAx,wBa,C]at f;have g:=(wBM.1 f).2.1;have o:=(List.nodup_cons.1 g).1;exact o (by simp)
theorem Go_.skip (a:Go_ n next seen post (s++[(b,i)])) (q:(next b)[i]? =some t) (hs:isSeen seen t):Go_ n next seen post (s++[(b,i+1)]):=by
 have f:∀j:Nat,(s++[(b,j)]).map (λx:Nat×Nat=>x.1)=s.map (λx:Nat×Nat=>x.1)++[b]:=λj=>by simp
 refine⟨a.len,a.low,λx d=>?_,a.pre,λc=>?_,?_,λx r h=>?_,λh=>by simp at h,a.closed,λx d j v u m=>?_,λk x y r h=>?_,λl c r h=>?_,?_⟩
 ·rcases wAV.1 d with d|d
  ·exact a.range x (wAu _ d)
  ·simp at d;subst d;have:=a.range (b,i) (by simp);have o:=(wAB.1 q).1;exact⟨this.1,o⟩
 ·rw[f];have:=a.iff c;rw[f]at this;exact this
 ·rw[f];have:=a.nodup;rw[f]at this;exact this
 ·cases s with
  |nil=>simp at h;obtain⟨e,_⟩:=h;subst e;exact a.root (b,i) [] rfl
  | cons y s=>
    simp at h;obtain⟨e,p⟩:=h;subst e;exact a.root y (s++[(b,i)]) rfl
 ·rcases wAV.1 d with d|d
  ·exact a.gone x (wAu _ d) j v u m
  ·simp at d;subst d;have w:j<i+1:=v;by_cases hji:j=i
   ·subst hji;have g:(next b)[j]? =some u:=m;rw[q]at g;cases g;exact hs
   ·exact a.gone (b,i) (by simp) j (by show j<i;omega) u m
 ·rcases hX r with rfl|⟨r',z,rfl⟩
  ·have h':s++[(b,i+1)]=(k++[x])++[y]:=by rw[h];simp
   obtain⟨e,p⟩:=rR h';subst p;exact a.way k x (b,i) [] (by rw[e];simp)
  ·have h':s++[(b,i+1)]=(k++x::y::r')++[z]:=by rw[h];simp
   obtain⟨e,p⟩:=rR h';exact a.way k x y (r'++[(b,i)]) (by rw[e];simp)
 ·rw[f];have:=a.early l c r h;rw[f]at this;exact this
 ·rcases a.zero with h|h
  ·exact .inl h
  ·simp at h
theorem Go_.push (d:Go_ n next seen post (s++[(b,i)])) (A:(next b)[i]? =some t) (hs:¬isSeen seen t):Go_ n next (seen.set t true) post (s++[(b,i+1)]++[(t,0)]):=by
 have F:=d.range (b,i) (by simp);have q:t<n:=d.low b F.1 t (wAI A);have k:∀c,isSeen (seen.set t true) c↔c=t\/isSeen seen c:=λc=>yH (by rw[d.len];exact q);have B:(s++[(b,i+1)]++[(t,0)]).map (λx:Nat×Nat=>x.1)=(s++[(b,i)]).map (λx:Nat×Nat=>x.1)++[t]:=by simp
 have C:=(wAB.1 A).1;refine⟨by simp[d.len],d.low,λx a=>?_,d.pre,λc=>?_,?_,λx r h=>?_,λh=>by simp at h,λc hc u v=>(k u).2 (.inr (d.closed c hc u v)),λx a j D u v=>?_,λo x y r h=>?_,λl c r h=>?_,?_⟩
 ·rcases wAV.1 a with a|a
  ·rcases wAV.1 a with a|a
   ·exact d.range x (wAu _ a)
   ·simp at a;subst a;exact⟨F.1,C⟩
  ·simp at a;subst a;exact⟨q,wA5 _⟩
 ·rw [k,B,d.iff c,wAV];simp only[wAW];constructor
  ·rintro(h|h|h)
   ·exact .inr (.inr h)
   ·exact .inl h
   ·exact .inr (.inl h)
  ·rintro(h|h|h)
   ·exact .inr (.inl h)
   ·exact .inr (.inr h)
   ·exact .inl h
 ·rw[B,<-wAU];refine wBM.2 ⟨d.nodup,by simp,λx a y G e=>?_⟩;simp at G;subst G;subst e;refine hs ((d.iff x).2 ?_);exact wAV.1 a
 ·cases s with
  | nil=>
    simp at h;obtain⟨g,_⟩:=h;subst g
    exact d.root (b,i) [] rfl
  | cons y s=>
    simp at h;obtain⟨g,E⟩:=h;subst g;exact d.root y (s++[(b,i)]) rfl
 ·refine (k u).2 ?_;rcases wAV.1 a with a|a
  ·rcases wAV.1 a with a|a
   ·exact .inr (d.gone x (wAu _ a) j D u v)
   ·simp at a;subst a;have I:j<i+1:=D;by_cases hji:j=i
    ·subst hji;have w:(next b)[j]? =some u:=v;rw[A]at w;cases w;exact .inl rfl
    ·exact .inr (d.gone (b,i) (by simp) j (by show j<i;omega) u v)
  ·simp at a;subst a;exact absurd D (Nat.not_lt_zero _)
 ·rcases hX r with rfl|⟨r',z,rfl⟩
  ·have h':s++[(b,i+1)]++[(t,0)]=(o++[x])++[y]:=by rw[h];simp
   obtain⟨g,E⟩:=rR h';obtain⟨_,m⟩:=rR g;subst E;subst m;exact wAI A
  ·have h':s++[(b,i+1)]++[(t,0)]=(o++x::y::r')++[z]:=by rw[h];simp
   obtain⟨g,E⟩:=rR h';rcases hX r' with rfl|⟨r2,J,rfl⟩
   ·have m:s++[(b,i+1)]=(o++[x])++[y]:=by rw[g];simp
    obtain⟨f,H⟩:=rR m;subst H;exact d.way o x (b,i) [] (by rw[f];simp)
   ·have m:s++[(b,i+1)]=(o++x::y::r2)++[J]:=by rw[g];simp
    obtain⟨f,H⟩:=rR m;exact d.way o x y (r2++[(b,i)]) (by rw[f];simp)
 ·rcases d.early l c r h with h0|⟨p,m,f⟩
  ·exact .inl h0
  ·refine .inr ⟨p,m,?_⟩;rw[B];rcases f with f|f
   ·exact .inl f
   ·exact .inr (wAu _ f)
 ·rcases d.zero with h|h
  ·exact .inl h
  ·simp at h
end
def cost (n:Nat)(f:Nat->Nat):Nat:=((List.range n).map f).sum
theorem xG (n:Nat) (f:Nat->Nat):cost (n+1) f=cost n f+f n:=by
 unfold cost;rw[wBg,wAx,List.sum_append];simp
theorem GG (n:Nat) (f g:Nat->Nat) (h:∀b,b<n->f b=g b):cost n f=cost n g:=by
 induction n with
 |zero=>rfl
 |succ n a=>rw[xG,xG,a λb c=>h b (by omega),h n (by omega)]
theorem G7 (n:Nat) (f g:Nat->Nat) (t:Nat) (c:t<n) (h0:g t=0) (h:∀b,b≠t->g b=f b):cost n g+f t=cost n f:=by
 induction n with
 |zero=>omega
 | succ n a=>
   rw[xG,xG];by_cases hn:t=n
   ·subst hn
    rw[GG t g f λb d=>h b (by omega),h0];omega
   ·have:=a (by omega)
    rw[h n (λe=>hn e.symm)];omega
noncomputable def left (next:Nat->List Nat)(seen:List Bool)(b:Nat):Nat:=if seen[b]? =some true then 0 else 2+(next b).length
def onWay (next:Nat->List Nat)(stack:List (Nat×Nat)):Nat:=(stack.map λx=>1+((next x.1).length-x.2)).sum
noncomputable def mu (n:Nat)(next:Nat->List Nat)(seen:List Bool)(stack:List (Nat×Nat)):Nat:=cost n (left next seen)+onWay next stack
section
variable{n:Nat}{next:Nat->List Nat}{seen:List Bool}{post:List Nat}{s:List (Nat×Nat)}{b i t:Nat}
theorem qp (x:Nat×Nat):onWay next (s++[x])=onWay next s+(1+((next x.1).length-x.2)):=by
 unfold onWay;rw[wAx,List.sum_append];simp
theorem JS:mu n next seen s<mu n next seen (s++[(b,i)]):=by
 unfold mu;rw[qp];omega
theorem Js (a:(next b)[i]? =some t):mu n next seen (s++[(b,i+1)])<mu n next seen (s++[(b,i)]):=by
 have c:=(wAB.1 a).1;unfold mu;rw[qp,qp];show _+(_+(1+((next b).length-(i+1))))<_+(_+(1+((next b).length-i)))
 omega
theorem IX (e:Go_ n next seen post (s++[(b,i)])) (f:(next b)[i]? =some t) (hs:¬isSeen seen t):mu n next (seen.set t true) (s++[(b,i+1)]++[(t,0)])<mu n next seen (s++[(b,i)]):=by
 have g:=e.range (b,i) (by simp);have a:t<n:=e.low b g.1 t (wAI f);have j:=(wAB.1 f).1;have d:∀c,isSeen (seen.set t true) c↔c=t\/isSeen seen c:=λc=>yH (by rw[e.len];exact a);have k:left next (seen.set t true) t=0:=by
  unfold left;exact if_pos ((d t).2 (.inl rfl))
 have l:∀c,c≠t->left next (seen.set t true) c=left next seen c:=λc hc=>by
  have:=d c;unfold isSeen at this;unfold left;by_cases h:seen[c]? =some true
  ·rw[if_pos h,if_pos (this.2 (.inr h))]
  ·rw[if_neg h,if_neg (λh'=>(this.1 h').elim hc h)]
 have m:=G7 n (left next seen) (left next (seen.set t true)) t a k l;have o:left next seen t=2+(next t).length:=by
  unfold left;exact if_neg hs
 unfold mu;rw[qp,qp,qp];show cost n (left next (seen.set t true))+(_+(1+((next b).length-(i+1)))+(1+((next t).length-0)))<_+(_+(1+((next b).length-i)))
 omega
end
theorem ER:∀(l b:List Nat),l.Nodup->(∀x∈l,x∈b)->l.length<=b.length
 |[],_,_,_=>wA5 _
 | a ::l,b,hd,h=>by
   have f:=h a (.head _);have c:=List.nodup_cons.1 hd;have i:=ER l (b.erase a) c.2 λx g=>by
     have d:x≠a:=λe=>by subst e;exact c.1 g
     exact(List.mem_erase_of_ne d).2 (h x (.tail _ g))
   have j:=List.length_erase_of_mem f;have k:0<b.length:=List.length_pos_of_mem f;simp only[wAX];omega
theorem z6:∀(l:List Nat) (a:Nat),a∈l->l[l.idxOf a]? =some a
 |[],_,h=>by cases h
 | b ::l,a,h=>by
   rw[List.idxOf_cons];by_cases hb:b=a
   ·subst hb;simp
   ·have c:(b == a)=false:=by simpa using hb
    rw[c];rcases wAr.1 h with rfl|h
    ·exact absurd rfl hb
    ·exact z6 l a h
theorem IO (l r:List Nat) (b:Nat) (h:b ∉ l):(l++b::r).idxOf b=l.length:=by
 rw[wB9];rw[if_neg h];simp
theorem HX (l r:List Nat) (p:Nat) (h:p∈l):(l++r).idxOf p<l.length:=by
 rw[wB9,if_pos h];exact wBv h
section
variable{n:Nat}{next:Nat->List Nat}{seen:List Bool}{post:List Nat}
def Go_.gr (f:Go_ n next seen post []):Gr where
 node b:=b∈post
 edge a b:=b∈next a
 place b:=post.reverse.idxOf b
 first:=by obtain⟨p,h⟩:=f.last rfl;rw[h];simp
 place0:=by obtain⟨p,h⟩:=f.last rfl;rw[h];simp
 inj a b ha hb h:=by
  have g:=z6 _ _ (wBD.2 ha);have i:=z6 _ _ (wBD.2 hb);rw[h,i]at g;exact(Option.some.inj g).symm
 to a b ha he:=by
  have:=(f.iff b).1 (f.closed a ha b he);simpa using this
 early b hb h0:=by
  obtain⟨l,r,h⟩:=List.append_of_mem hb;rcases f.early l b r h with h'|⟨p,g,i⟩
  ·exact absurd h' h0
  ·have j:p∈r:=by simpa using i
   refine ⟨p,by rw[h];simp[j],g,?_⟩;have c:=f.nodup;simp only[wBa,wAa]at c;rw[h]at c;have d:b ∉ r:=λd=>by
    have:=(wBM.1 c).2.1;exact(List.nodup_cons.1 this).1 d
   rw[h,List.reverse_append,List.reverse_cons,wAU];have e:([b]++l.reverse:List Nat)=b::l.reverse:=rfl;rw[e,IO _ _ _ (λk=>d (wBD.1 k))];exact HX _ _ _ (wBD.2 j)
theorem Go_.all (d:Go_ n next seen post []) (a:∀b,b<n->b∈post):post.length=n:=by
 have c:=d.nodup;simp only[wBa,wAa]at c;have g:=iy n post c d.pre;have e:=ER (List.range n) post List.nodup_range λx f=>a x (wBJ.1 f);rw[wBY]at e;omega
end
end Go.Proofs.YtpnddokajmjpbaaDoor.Dm
namespace Go.Proofs.YtpnddokajmjpbaaDoor.Un
open Go.Proofs.YtpnddokajmjpbaaDoor.Dm
structure Vl where
 op:Nat
 a:Nat
 b:Nat
 n:Int
 args:List Nat
 state:Nat
structure Bk where
 vals:List Nat
 fin:Nat
 cond:Nat
 next:List Nat
 preds:List Nat
 state:Nat
structure Fm where
 func:Int
 pc:Int
 locals:List Nat
 stack:List Nat
structure U where
 func:Int
 pc:Int
 vals:List Vl
 blocks:List Bk
 states:List (List Fm)
def two (op:Nat):Bool:=(3<=op&&op<=7) ||(10<=op&&op<=14) ||op == 18 ||op == 19 ||op == 20
def oneP (op:Nat):Bool:=op == 8 ||op == 9 ||op == 15 ||op == 16 ||op == 17 ||op == 22
def uses (v:Vl):List Nat:=
 if v.op=21 then v.args else if v.op=20 then v.a::v.b::v.args.take 1 else if two v.op=true then[v.a,v.b] else if oneP v.op=true then[v.a] else[]
def gives (op:Nat):Bool:=op<19 ||op == 21
def leaves (op:Nat):Bool:=op == 22 ||op == 23
def isHead (op:Nat):Bool:=op == 1 ||op == 21
def frames (s:List Fm):List Nat:=s.flatMap λf=>f.locals++f.stack
def next (u:U) (b:Nat):List Nat:=match u.blocks[b]? with
 |some B=>B.next
 |none=>[]
def aheadTo (l:List Bk) (i b:Nat):List Nat:=match l with
 |[]=>[]
 |B::l=>(B.next.filter (·= b)).map (λ_=>i)++aheadTo l (i+1) b
def ahead (u:U)(b:Nat):List Nat:=aheadTo u.blocks 0 b
inductive Pt (nx:Nat->List Nat):Nat->List Nat->Prop
 |nil:Pt nx 0 [0]
 |step {p b:Nat} {l:List Nat} (h:Pt nx p l) (e:b∈nx p):Pt nx b (b::l)
def Domi (nx:Nat->List Nat)(x b:Nat):Prop:=∀l,Pt nx b l->x∈l
def At (u:U)(v b k:Nat):Prop:=∃B,u.blocks[b]? =some B/\B.vals[k]? =some v
def Gives (u:U)(v:Nat):Prop:=∃x,u.vals[v]? =some x/\gives x.op=true
def Sees (u:U)(v b k:Nat):Prop:=∃c j,At u v c j/\(c=b/\j<k\/c≠b/\Domi (next u) c b)
def SeesEnd (u:U)(v b:Nat):Prop:=∃c j,At u v c j/\Domi (next u) c b
structure Good (u:U):Prop where
 nv:u.vals.length<=3000
 nb0:1<=u.blocks.length
 nb:u.blocks.length<=300
 ns:u.states.length<=1000
 st:∀(s:Nat) (fs:List Fm),u.states[s]? =some fs->1<=fs.length/\fs.length<=30/\∀f∈fs,f.locals.length<=40/\f.stack.length<=60/\(∀v∈f.locals,Gives u v)/\∀v∈f.stack,Gives u v
 at1:∀(v:Nat),v<u.vals.length->∃b k,At u v b k
 at2:∀(v:Nat) (b:Nat) (k:Nat) (a:Nat) (k':Nat),At u v b k->At u v a k'->b=a/\k=k'
 atlt:∀(v:Nat) (b:Nat) (k:Nat),At u v b k->v<u.vals.length
 heads:∀(v:Nat) (w:Nat) (b:Nat) (k:Nat) (x:Vl) (y:Vl),At u v b (k+1)->At u w b k->u.vals[v]? =some x->u.vals[w]? =some y->isHead x.op=true->isHead y.op=true
 par:∀(v:Nat) (b:Nat) (k:Nat) (x:Vl),At u v b k->u.vals[v]? =some x->x.op=1->b=0
 phi:∀(v:Nat) (b:Nat) (k:Nat) (x:Vl) (B:Bk),At u v b k->u.vals[v]? =some x->x.op=21->u.blocks[b]? =some B->b≠0/\x.args.length=B.preds.length
 op:∀(v:Nat) (x:Vl),u.vals[v]? =some x->1<=x.op/\x.op<=23
 use:∀(v:Nat) (x:Vl),u.vals[v]? =some x->∀w∈uses x,Gives u w
 leave:∀(v:Nat) (x:Vl),u.vals[v]? =some x->leaves x.op=true->x.state<u.states.length
 putAt:∀(v:Nat) (x:Vl),u.vals[v]? =some x->x.op=20->x.args.length=1
 param:∀(v:Nat) (x:Vl),u.vals[v]? =some x->x.op=1->0<=x.n/\x.n<40/\∀(w:Nat) (y:Vl),u.vals[w]? =some y->y.op=1->y.n=x.n->w=v
 fin:∀(b:Nat) (B:Bk),u.blocks[b]? =some B->(B.fin=1/\B.next.length=1)\/(B.fin=2/\B.next.length=2/\Gives u B.cond)\/(B.fin=3/\B.next=[]/\B.state<u.states.length)
 nx:∀(b:Nat),∀t∈next u b,t<u.blocks.length
 preds:∀(b:Nat) (B:Bk),u.blocks[b]? =some B->B.preds=ahead u b
 preds0:ahead u 0=[]
 crit:∀(b:Nat) (B:Bk),u.blocks[b]? =some B->B.fin=2->∀t∈B.next,(ahead u t).length=1
 reach:∀(b:Nat),b<u.blocks.length->∃l,Pt (next u) b l
 seesV:∀(v:Nat) (b:Nat) (k:Nat) (x:Vl),At u v b k->u.vals[v]? =some x->x.op≠21->∀w∈uses x,Sees u w b k
 seesP:∀(v:Nat) (b:Nat) (k:Nat) (x:Vl) (B:Bk),At u v b k->u.vals[v]? =some x->x.op=21->u.blocks[b]? =some B->∀(j w p:Nat),x.args[j]? =some w->B.preds[j]? =some p->SeesEnd u w p
 seesS:∀(v:Nat) (b:Nat) (k:Nat) (x:Vl) (fs:List Fm),At u v b k->u.vals[v]? =some x->leaves x.op=true->u.states[x.state]? =some fs->∀w∈frames fs,Sees u w b k
 seesC:∀(b:Nat) (B:Bk),u.blocks[b]? =some B->B.fin=2->SeesEnd u B.cond b
 seesO:∀(b:Nat) (B:Bk) (fs:List Fm),u.blocks[b]? =some B->B.fin=3->u.states[B.state]? =some fs->∀w∈frames fs,SeesEnd u w b
theorem zo {nx:Nat->List Nat} {D:Nat->Nat} (hc:∀p b,b∈nx p->b≠0->Anc D (D b) p) {x:Nat}:∀{b l},Pt nx b l->Anc D x b->x∈l
 | _,_,.nil,h=>by
   cases h with
   |refl=>exact .head _
   |up h0 _=>exact absurd rfl h0
 | _,_,.step (p:=p) h e,a=>by
   cases a with
   |refl=>exact .head _
   |up h0 a=>exact .tail _ (zo hc h (a.trans (hc _ _ e h0)))
theorem Domi.self (nx:Nat->List Nat)(b:Nat):Domi nx b b:=λl h=>by cases h <;> exact .head _
theorem Hn {G:Gr} {nx:Nat->List Nat} (c:∀a b,G.edge a b↔b∈nx a):∀{b l r},Pa G b l r->Pt nx b l
 |_,_,_,.nil=> .nil
 |_,_,_,.fwd h e _=> .step (Hn c h) ((c _ _).1 e)
 |_,_,_,.bwd h e _=> .step (Hn c h) ((c _ _).1 e)
theorem Jz {G:Gr} {nx:Nat->List Nat} (c:∀a b,G.edge a b↔b∈nx a):∀{b l},Pt nx b l->∃r,Pa G b l r
 |_,_,.nil=>⟨0,.nil⟩
 | _,_,.step h e=>by
   obtain⟨r,d⟩:=Jz c h;obtain⟨r',_,_,hs⟩:=d.step ((c _ _).2 e);exact⟨r',hs⟩
theorem HZ {G:Gr} {nx:Nat->List Nat} (d:∀a b,G.edge a b↔b∈nx a) {x b:Nat}:Domi nx x b↔Dom G x b:=
 ⟨λh l r c=>h l (Hn d c),λh l c=>let⟨r,hr⟩:=Jz d c;h l r hr⟩
theorem nT {b p:Nat}:∀{l:List Bk} {i:Nat},p∈aheadTo l i b↔∃k B,l[k]? =some B/\b∈B.next/\p=i+k
 |[],i=>by simp[aheadTo]
 | B ::l,i=>by
   simp only[aheadTo,wAV,wBH,wA7,wAe,nT (l:=l)];constructor
   ·rintro (⟨t,⟨a,c⟩,d⟩|⟨k,e,a,c,d⟩)
    ·subst c
     exact⟨0,B,rfl,a,d.symm⟩
    ·exact⟨k+1,e,a,c,by omega⟩
   ·rintro ⟨k,e,a,c,d⟩
    cases k with
    | zero=>
      obtain rfl:B=e:=by simpa using a
      exact .inl ⟨b,⟨c,rfl⟩,d.symm⟩
    |succ k=>exact .inr ⟨k,e,by simpa using a,c,by omega⟩
theorem xr {u:U} {b p:Nat}:p∈ahead u b↔b∈next u p:=by
 unfold ahead next
 rw[nT];constructor
 ·rintro⟨k,B,a,c,e⟩;have:p=k:=by omega
  subst this;rw[a];exact c
 ·intro h;split at h
  ·rename_i B d;exact⟨p,B,d,h,by omega⟩
  ·cases h
theorem sS {b:Nat}:∀(l m:List Bk) (i:Nat),aheadTo (l++m) i b=aheadTo l i b++aheadTo m (i+l.length) b
 |[],m,i=>by simp[aheadTo]
 | B::l,m,i=>by
   simp only[wBC,aheadTo,sS l m (i+1),wAX,wAU];rw[show i+1+l.length=i+(l.length+1) by omega]
def pickN (n:Int)(m:Nat):Nat:=(if n.tmod m<0 then n.tmod m+m else n.tmod m).toNat
theorem zz (n:Int) {m:Nat} (a:0<m):pickN n m<m:=by
 have c:=Int.tmod_lt_of_pos n (b:=(m:Int)) (by omega);have d : -(m:Int)<n.tmod m:=by
  have:=Int.tmod_lt_of_pos (-n) (b:=(m:Int)) (by omega);rw[Int.neg_tmod]at this;omega
 unfold pickN;split <;> omega
structure Ds where
 vals:List Vl
 cur:List Nat
 known:List Nat
 states:List (List Fm)
 pos:Nat
def draw (ops:List Int) (pos m:Nat):Nat×Nat:=match ops[pos]? with
 |none=>(0,pos)
 |some n=>(pickN n m,pos+1)
theorem qq (ops:List Int) (pos:Nat) {m:Nat} (a:0<m):(draw ops pos m).1<m:=by
 unfold draw;split
 ·exact a
 ·exact zz _ a
def vl (op a b:Nat)(n:Int)(args:List Nat)(state:Nat):Vl:=⟨op,a,b,n,args,state⟩
def put (s:Ds)(v:Vl):Ds:={s with vals:=s.vals++[v],cur:=s.cur++[s.vals.length]}
def putK (s:Ds)(v:Vl):Ds:={s with vals:=s.vals++[v],cur:=s.cur++[s.vals.length],known:=s.known++[s.vals.length]}
def one_ (ops:List Int)(s:Ds):Nat×Ds:=(s.known.getD (draw ops s.pos s.known.length).1 0,{s with pos:=(draw ops s.pos s.known.length).2})
def num (ops:List Int)(s:Ds)(m:Nat):Nat×Ds:=((draw ops s.pos m).1,{s with pos:=(draw ops s.pos m).2})
def m0 (ops:List Int):Nat->Ds->List Nat->List Nat×Ds
 |0,s,l=>(l,s)
 |i+1,s,l=>m0 ops i (one_ ops s).2 (l++[(one_ ops s).1])
def stateM (ops:List Int) (s:Ds):Nat×Ds:=
 let r:=num ops s 4
 let q:=m0 ops r.1 r.2 []
 (s.states.length,{q.2 with states:=s.states++[[⟨1,(s.states.length:Nat),q.1,[s.known.getLastD 0]⟩]]})
def kindM (ops:List Int) (s:Ds) (k a b:Nat):Ds:=
 if k<12 then putK s (vl (3+k) a b 0 [] 0)
 else if k=12 then let r:=num ops s 1048576;putK r.2 (vl 2 0 0 ((r.1:Int)-9) [] 0)
 else if k=13 then let r:=num ops s 5;putK r.2 (vl 17 a 0 (r.1:Nat) [] 0)
 else if k=14 then putK s (vl 18 a b 0 [] 0)
 else if k=15 then let r:=num ops s 5;put r.2 (vl 19 a b (r.1:Nat) [] 0)
 else if k=16 then let r:=one_ ops s;put r.2 (vl 20 a b 0 [r.1] 0)
 else if k=17 then let r:=stateM ops s;put r.2 (vl 22 a 0 0 [] r.1)
 else if k=18 then let r:=stateM ops s;put r.2 (vl 23 0 0 0 [] r.1)
 else let r:=num ops s 2;putK r.2 (vl (15+r.1) a 0 0 [] 0)
def rowStep (ops:List Int) (s:Ds):Ds:=
 let r:=one_ ops s
 let q:=one_ ops r.2
 let k:=num ops q.2 20
 kindM ops k.2 k.1 r.1 q.1
def rows (ops:List Int):Nat->Ds->Ds
 |0,s=>s
 |i+1,s=>if s.vals.length<200 then rows ops i (rowStep ops s) else s
def row (ops:List Int)(s:Ds):Ds:=let r:=num ops s 6;rows ops (1+r.1) r.2
structure Dt where
 s:Ds
 blocks:List Bk
 preds:List Nat
def end_ (t:Dt) (fin cond:Nat) (nx:List Nat) (state:Nat) (preds:List Nat):Dt:=
 {s:={t.s with cur:=[]},blocks:=t.blocks++[⟨t.s.cur,fin,cond,nx,t.preds,state⟩],preds:=preds}
def cut (n:Nat)(s:Ds):Ds:={s with known:=s.known.take n}
def setArgs (s:Ds)(v:Nat)(args:List Nat):Ds:={s with vals:=s.vals.modify v λx=>{x with args:=args} }
def fork (ops:List Int) (t:Dt):Dt:=
 let c:=one_ ops t.s
 let b:=t.s.known.length
 let a:=t.blocks.length
 let d:=end_ {t with s:=c.2} 2 c.1 [a+1,a+2] 0 [a]
 let e:=row ops d.s
 let x:=e.known.getLastD 0
 let f:=end_ {d with s:=cut b e} 1 0 [a+3] 0 [a]
 let g:=row ops f.s
 let y:=g.known.getLastD 0
 let h:=end_ {f with s:=cut b g} 1 0 [a+3] 0 [a+1,a+2]
 {h with s:=row ops (putK h.s (vl 21 0 0 0 [x,y] 0))}
def loop (ops:List Int) (t:Dt):Dt:=
 let f:=one_ ops t.s
 let a:=t.blocks.length
 let c:=end_ {t with s:=f.2} 1 0 [a+1] 0 [a,a+2]
 let p:=c.s.vals.length
 let n:=put c.s (vl 21 0 0 0 [f.1,0] 0)
 let g:=one_ ops n
 let i:=put g.2 (vl 21 0 0 0 [g.1,p] 0)
 let o:={i with known:=i.known++[p,p+1]}
 let st:=stateM ops o
 let j:=put st.2 (vl 23 0 0 0 [] st.1)
 let one:=j.vals.length
 let q:=put j (vl 2 0 0 1 [] 0)
 let k:=putK q (vl 4 p one 0 [] 0)
 let l:=end_ {c with s:=k} 2 p [a+2,a+3] 0 [a+1]
 let b:=k.known.length
 let e:=row ops l.s
 let r:=setArgs e p [f.1,one+1]
 let d:=num ops r 3
 let u:=if d.1=0 then setArgs d.2 p [f.1,e.known.getLastD 0] else d.2
 let h:=setArgs u (p+1) [g.1,e.known.getLastD 0]
 let m:=end_ {l with s:=cut b h} 1 0 [a+1] 0 [a+1]
 {m with s:=row ops m.s}
def qJ (ops:List Int) (t:Dt):Dt:=
 let c:=one_ ops t.s
 let b:=t.s.known.length
 let a:=t.blocks.length
 let d:=end_ {t with s:=c.2} 2 c.1 [a+1,a+2] 0 [a]
 let f:=row ops d.s
 let st:=stateM ops f
 let e:=end_ {d with s:=cut b st.2} 3 0 [] st.1 [a]
 {e with s:=row ops e.s}
def shapeM (ops:List Int)(k:Nat)(t:Dt):Dt:=if k=0 then fork ops t else if k=1 then loop ops t else qJ ops t
def shapes (ops:List Int):List Int->Dt->Dt
 |[],t=>t
 |k::l,t=>if t.s.vals.length<160 then shapes ops l (shapeM ops (pickN k 3) t) else t
def params:Nat->Nat->Ds->Ds
 |0,_,s=>s
 |n+1,i,s=>params n (i+1) (putK s (vl 1 0 0 (i:Nat) [] 0))
def unitM (ops a:List Int) (n:Int):U:=
 let s:=row ops (putK (params (pickN n 5) 0 ⟨[],[],[],[],0⟩) (vl 2 0 0 5 [] 0))
 let t:=shapes ops (a.take 6) ⟨s,[],[]⟩
 let st:=stateM ops t.s
 let b:=end_ {t with s:=st.2} 3 0 [] st.1 []
 ⟨1,2,b.s.vals,b.blocks,b.s.states⟩
