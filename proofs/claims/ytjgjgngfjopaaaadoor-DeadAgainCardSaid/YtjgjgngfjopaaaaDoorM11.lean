/- Parts. -/
import Derived.Test.YtjgjgngfjopaaaaDoorM00
import Derived.Calls
namespace Go.Proofs.YtjgjgngfjopaaaaDoor.Dm
structure Gr where
 node:Nat->Prop
 zj:Nat->Nat->Prop
 place:Nat->Nat
 first:node 0
 CU:place 0=0
 inj:∀a b,node a->node b->place a=place b->a=b
 to:∀a b,node a->zj a b->node b
 early:∀b,node b->b≠0->∃p,node p/\zj p b/\place p<place b
inductive Pa (G:Gr):Nat->List Nat->Nat->Prop
 |nil:Pa G 0 [0] 0
 |fwd {p b:Nat} {l:List Nat} {r:Nat} (h:Pa G p l r) (e:G.zj p b) (hp:G.place p<G.place b):Pa G b (b::l) r
 |bwd {p b:Nat} {l:List Nat} {r:Nat} (h:Pa G p l r) (e:G.zj p b) (hp:¬G.place p<G.place b):Pa G b (b::l) (r+1)
def U0(G:Gr)(x b:Nat):Prop:=∀l r,Pa G b l r->x∈l
def DK(G:Gr)(k x b:Nat):Prop:=∀l r,Pa G b l r->r<k->x∈l
variable{G:Gr}
theorem Pa.node:∀{b l r},Pa G b l r->G.node b
 |_,_,_,.nil=>G.first
 |_,_,_,.fwd h e _=>G.to _ _ h.node e
 |_,_,_,.bwd h e _=>G.to _ _ h.node e
theorem Pa.last:∀{b l r},Pa G b l r->b∈l
 |_,_,_,.nil=> .head _
 |_,_,_,.fwd _ _ _=> .head _
 |_,_,_,.bwd _ _ _=> .head _
theorem Pa.step{p b:Nat} {l:List Nat} {r:Nat} (h:Pa G p l r) (e:G.zj p b):∃r',r'<=r+1/\(G.place p<G.place b->r' = r)/\Pa G b (b::l) r':=by
 by_cases hp:G.place p<G.place b
 ·exact⟨r,Nk _,λ_=>rfl,.fwd h e hp⟩
 ·exact⟨r+1,jj _,λh=>absurd h hp,.bwd h e hp⟩
theorem ZB(n:Nat):∀b,G.node b->G.place b<n->∃l,Pa G b l 0/\∀x∈l,G.node x/\G.place x<=G.place b:=by
 induction n with
 |zero=>intro b _ h;omega
 | succ n e=>
   intro b c i;by_cases h0:b=0
   ·subst h0
    exact⟨[0],.nil,λx a=>by simp at a;subst a;exact⟨c,jj _⟩⟩
   ·obtain ⟨p,hp,f,d⟩:=G.early b c h0
    obtain⟨l,g,a⟩:=e p hp (by omega);refine⟨b::l,.fwd g f d,λx h=>?_⟩
    cases h with
    |head=>exact⟨c,jj _⟩
    | tail _ h=>
      have:=a x h;exact⟨this.1,by omega⟩
theorem Pa.pre:∀{b l r},Pa G b l r->∀{x},x∈l->∃c r',Pa G x c r'/\r'<=r/\∀y∈c,y∈l
 |_,_,_,.nil,x,a=>by simp at a;subst a;exact⟨[0],0,.nil,jj _,λy h=>h⟩
 | b,_,_,.fwd (l:=l) (r:=r) h e hp,x,a=>by
   rcases Jq.1 a with rfl|a
   ·exact⟨_,_,.fwd h e hp,jj _,λy h=>h⟩
   ·obtain⟨c,r',d,i,f⟩:=h.pre a
    exact⟨c,r',d,i,λy g=> .tail _ (f y g)⟩
 | b,_,_,.bwd (l:=l) (r:=r) h e hp,x,a=>by
   rcases Jq.1 a with rfl|a
   ·exact⟨_,_,.bwd h e hp,jj _,λy h=>h⟩
   ·obtain⟨c,r',d,i,f⟩:=h.pre a
    exact⟨c,r',d,by omega,λy g=> .tail _ (f y g)⟩
theorem DK.mono{x b k k':Nat}(h:DK G k x b)(a:k'<=k):DK G k' x b:=λl r hp c=>h l r hp (by omega)
theorem DK.trans{x y b k:Nat} (a:DK G k x y) (c:DK G k y b):DK G k x b:=by
 intro l r hp d;obtain⟨e,r',f,g,g3⟩:=hp.pre (c l r hp d);exact g3 x (a e r' f (by omega))
theorem DK.self(k b:Nat):DK G k b b:=λ_ _ hp _=>hp.last
theorem U0.pred{x p b:Nat} (h:U0 G x b) (a:x≠b) (e:G.zj p b):U0 G x p:=by
 intro l r hp;obtain⟨r',_,_,hs⟩:=hp.step e;rcases Jq.1 (h _ _ hs)with rfl|h
 ·exact absurd rfl a
 ·exact h
inductive pQ (I:Nat->Nat):Nat->Nat->Prop
 |refl (b:Nat):pQ I b b
 |up {a b:Nat} (h0:b≠0) (h:pQ I a (I b)):pQ I a b
theorem pQ.trans{I:Nat->Nat} {a b c:Nat} (d:pQ I a b) (e:pQ I b c):pQ I a c:=by
 induction e with
 |refl=>exact d
 |up h0 _ f=>exact .up h0 f
theorem pQ.parent{I:Nat->Nat} {a b:Nat} (h:pQ I a b) (c:a≠b):pQ I a (I b):=by
 cases h with
 |refl=>exact absurd rfl c
 |up _ h=>exact h
def set(I:Nat->Nat)(b d:Nat):Nat->Nat:=λx=>if x=b then d else I x
structure Tree (G:Gr) (I:Nat->Nat) (S:Nat->Prop):Prop where
 zero:S 0
 node:∀b,S b->G.node b
 up:∀b,S b->b≠0->S (I b)/\G.place (I b)<G.place b
section
variable{I:Nat->Nat}{S:Nat->Prop}
theorem Tree.anc(c:Tree G I S) {a b:Nat} (h:pQ I a b):S b->S a/\G.place a<=G.place b:=by
 induction h with
 |refl=>exact λh=>⟨h,jj _⟩
 | up h0 _ d=>
   intro e;obtain⟨f,g⟩:=c.up _ e h0;have:=d f;exact⟨this.1,by omega⟩
theorem Tree.zbg(c:Tree G I S) {a b:Nat} (e:pQ I a b) (f:pQ I b a) (h:S b):a=b:=by
 have d:=c.anc e h;have g:=c.anc f d.1;exact G.inj _ _ (c.node _ d.1) (c.node _ h) (by omega)
theorem Tree.Z0(c:Tree G I S) {a b x:Nat} (i:S a) (d:S b) (f:G.place b<G.place a) (g:pQ I x a) (h:pQ I x b):pQ I x (I a):=by
 refine g.parent λe=>?_;subst e;have:=(c.anc h d).2;omega
theorem pQ.ZJ{b d:Nat} (g:Tree G I S) {a c:Nat} (h:pQ I a c):S c->G.place c<G.place b->pQ (set I b d) a c:=by
 induction h with
 |refl=>exact λ_ _=> .refl _
 | up h0 _ i=>
   rename_i c _;intro hc j;have f:c≠b:=λe=>by subst e;omega
   obtain⟨k,l⟩:=g.up _ hc h0;refine .up h0 ?_;unfold Dm.set;rw[if_neg f];exact i k (by omega)
end
structure Inv (G:Gr) (I:Nat->Nat) (S:Nat->Prop) (k pos:Nat):Prop where
 tree:Tree G I S
 one:1<=k
 zei:1<=pos
 done:∀b,G.node b->G.place b<pos->S b
 all:2<=k->∀b,G.node b->S b
 fresh:k=1->∀b,S b->G.place b<pos
 low:∀b,S b->b≠0->DK G (if G.place b<pos then k else k-1) (I b) b
 Rg:∀y x,S y->U0 G x y->pQ I x y
section
variable{I:Nat->Nat}{S:Nat->Prop}{k pos:Nat}
theorem Inv.kb(a:Inv G I S k pos) {b:Nat} (c:S b):1<=(if G.place b<pos then k else k-1):=by
 have:=a.one;split
 ·omega
 ·rename_i h;by_cases d:k=1
  ·exact absurd (a.fresh d b c) h
  ·omega
theorem Inv.Ov(c:Inv G I S k pos) {a b:Nat} (h:pQ I a b):S b->DK G (if G.place b<pos then k else k-1) a b:=by
 induction h with
 |refl=>exact λ_=>DK.self _ _
 | up h0 _ e=>
   rename_i b _;intro d;obtain⟨f,g⟩:=c.tree.up _ d h0;refine DK.trans (DK.mono (e f) ?_) (c.low b d h0);split <;> split <;> omega
theorem Pa.swap:∀{y f g},Pa G y f g->g=0->∀{z l r},z∈f->Pa G z l r->∃c r',Pa G y c r'/\G.place z<=G.place y/\∀w∈c,w∈l\/G.place z<G.place w
 | _,_,_,.nil,_,z,l,r,a,hp=>by
   simp at a;subst a
   exact⟨l,r,hp,jj _,λw h=> .inl h⟩
 | _,_,_,.fwd (p:=p) (b:=b) h e Kh,h0,z,l,r,a,hp=>by
   rcases Jq.1 a with rfl|a
   ·exact⟨l,r,hp,jj _,λw h=> .inl h⟩
   ·obtain⟨c,r',i,j,g3⟩:=h.swap h0 a hp
    refine⟨b::c,r',.fwd i e Kh,by omega,λw d=>?_⟩;rcases Jq.1 d with rfl|d
    ·exact .inr (by omega)
    ·exact g3 w d
 |_,_,_,.bwd _ _ _,h0,_,_,_,_,_=>by cases h0
theorem Inv.zaX(a:Inv G I S k pos) {x y z:Nat} (c:S y) (j:U0 G x y) (g:pQ I z y) (d:pQ I x z) (m:x≠z):U0 G x z:=by
 intro l r hp;obtain⟨i,b,_⟩:=ZB (G:=G) (G.place y+1) y (a.tree.node y c) (KX _);have e:z∈i:=a.Ov g c i 0 b (a.kb c);obtain⟨n,r',o,_,g3⟩:=b.swap rfl e hp;rcases g3 x (j n r' o)with h|h
 ·exact h
 ·have f:=a.tree.anc g c;have:=a.tree.anc d f.1;omega
theorem Inv.MW(a:Inv G I S k pos) {b d:Nat} (B:G.node b) (h0:b≠0) (hp:G.place b=pos) (f:∀p,S p->G.zj p b->pQ I d p) (m:∀x,(∀p,S p->G.zj p b->pQ I x p)->pQ I x d) :
  Inv G (set I b d) (λx=>S x\/x=b) k (pos+1)/\S d/\G.place d<G.place b:=by
 obtain⟨p0,C,D,K⟩:=G.early b B h0;have w:S p0:=a.done p0 C (by omega);obtain⟨E,L⟩:=a.tree.anc (f p0 w D) w;have o:G.place d<G.place b:=by omega
 have q:set I b d b=d:=by unfold Dm.set;rw[if_pos rfl]
 have s:∀c,c≠b->set I b d c=I c:=λc h=>by unfold Dm.set;rw[if_neg h]
 have F:Tree G (set I b d) (λx=>S x\/x=b):=by
  refine⟨.inl a.tree.zero,λc hc=>?_,λc hc t=>?_⟩
  ·rcases hc with hc|rfl
   ·exact a.tree.node c hc
   ·exact B
  ·by_cases hcb:c=b
   ·subst hcb;rw[q];exact⟨.inl E,o⟩
   ·rw[s c hcb];have hc:=hc.resolve_right hcb;have:=a.tree.up c hc t;exact⟨.inl this.1,this.2⟩
 have g:∀x,U0 G x b->pQ (set I b d) x b:=by
  intro x n;by_cases hxb:x=b
  ·subst hxb;exact .refl _
  ·refine .up h0 ?_;rw[q];exact(m x λp H M=>a.Rg p x H (n.pred hxb M)).ZJ a.tree E o
 refine⟨⟨F,a.one,by omega,λc hc i=>?_,λN c hc=> .inl (a.all N c hc),λO c hc=>?_,λc hc t=>?_,λy x P n=>?_⟩,E,o⟩
 ·by_cases hcp:G.place c<pos
  ·exact .inl (a.done c hc hcp)
  ·exact .inr (G.inj c b hc B (by omega))
 ·rcases hc with hc|rfl
  ·have:=a.fresh O c hc;omega
  ·omega
 ·by_cases hcb:c=b
  ·subst hcb;rw[q,if_pos (by omega)];intro l r u Q
   cases u with
   |nil=>exact absurd rfl h0
   | fwd h e i=>
     rename_i p l;have z:S p:=a.done p h.node (by omega);have:=a.Ov (f p z e) z;rw[if_pos (by omega)]at this
     exact .tail _ (this _ _ h Q)
   | bwd h e i=>
     rename_i p l r;have z:S p:=a.all (by omega) p h.node;have:=(a.Ov (f p z e) z).mono (k':=k-1) (by split <;> omega);exact .tail _ (this _ _ h (by omega))
  ·have A:=hc.resolve_right hcb;rw[s c hcb];have R:G.place c≠pos:=λh=>hcb (G.inj c b (a.tree.node c A) B (by omega));have:=a.low c A t;by_cases i:G.place c<pos
   ·rw[if_pos i]at this;rw[if_pos (by omega)];exact this
   ·rw[if_neg i]at this;rw[if_neg (by omega)];exact this
 ·by_cases hyb:y=b
  ·subst hyb;exact g x n
  ·have j:=P.resolve_right hyb;have J:∀{y},pQ I x y->S y->U0 G x y->pQ (set I b d) x y:=by
    intro y h
    induction h with
    |refl=>exact λ_ _=> .refl _
    | up v h T=>
      rename_i y;intro j n;by_cases hyb:y=b
      ·subst hyb;exact g x n
      ·refine .up v ?_
       rw[s y hyb];by_cases hxI:x=I y
       ·rw[<-hxI];exact .refl _
       ·exact T (a.tree.up y j v).1 (a.zaX j n (.up v (.refl _)) h hxI)
   exact J (a.Rg y x j n) j n
theorem Inv.pass(d:Inv G I S k pos) (a:∀b,G.node b->G.place b<pos):Inv G I S (k+1) 1:=by
 have g:=d.one;refine⟨d.tree,by omega,jj _,λb c e=>?_,λ_ b c=>d.done b c (a b c),λh=>by omega,λb c h0=>?_,d.Rg⟩
 ·exact d.done b c (a b c)
 ·have:=d.low b c h0;rw[if_pos (a b (d.tree.node b c))]at this;split
  ·rename_i h;have f:G.place b=G.place 0:=by have:=G.CU;omega
   exact absurd (G.inj b 0 (d.tree.node b c) G.first f) h0
  ·exact this
theorem Inv.start:Inv G (λ_=>0) (λx=>x=0) 1 1:=by
 refine⟨⟨rfl,λb h=>by subst h;exact G.first,λb h h0=>absurd h h0⟩,jj _,jj _,λb a c=>?_,λh=>by omega,λ_ b h=>by subst h;rw[G.CU];omega,λb h h0=>absurd h h0,λy x d e=>?_⟩
 ·exact G.inj b 0 a G.first (by have:=G.CU;omega)
 ·subst d;have:=e _ _ .nil;simp at this;subst this;exact .refl _
theorem Pa.suffix:∀{b l r},Pa G b l r->∀{x},x∈l->∃c r' t,Pa G x c r'/\l=t++c
 |_,_,_,.nil,x,a=>by simp at a;subst a;exact⟨[0],0,[],.nil,rfl⟩
 | b,_,_,.fwd (l:=l) (r:=r) h e hp,x,a=>by
   rcases Jq.1 a with rfl|a
   ·exact⟨_,_,[],.fwd h e hp,rfl⟩
   ·obtain⟨c,r',t,d,f⟩:=h.suffix a
    exact⟨c,r',b::t,d,by rw[f];rfl⟩
 | b,_,_,.bwd (l:=l) (r:=r) h e hp,x,a=>by
   rcases Jq.1 a with rfl|a
   ·exact⟨_,_,[],.bwd h e hp,rfl⟩
   ·obtain⟨c,r',t,d,f⟩:=h.suffix a
    exact⟨c,r',b::t,d,by rw[f];rfl⟩
theorem Pa.short:∀{b l r},Pa G b l r->r+1<=l.length
 |_,_,_,.nil=>by simp
 |_,_,_,.fwd h _ _=>by have:=h.short;simp;omega
 |_,_,_,.bwd h _ _=>by have:=h.short;simp;omega
theorem Pa.nodes:∀{b l r},Pa G b l r->∀x∈l,G.node x
 |_,_,_,.nil,x,a=>by simp at a;subst a;exact G.first
 | _,_,_,.fwd h e hp,x,a=>by
   rcases Jq.1 a with rfl|a
   ·exact G.to _ _ h.node e
   ·exact h.nodes x a
 | _,_,_,.bwd h e hp,x,a=>by
   rcases Jq.1 a with rfl|a
   ·exact G.to _ _ h.node e
   ·exact h.nodes x a
theorem Pa.simple:∀{b l r},Pa G b l r->∃a r',Pa G b a r'/\a.Nodup/\∀x∈a,x∈l:=by
 intro b l r h;have step:∀{p b:Nat} {l:List Nat},(∃a r',Pa G p a r'/\a.Nodup/\∀x∈a,x∈l)->G.zj p b->∃a r',Pa G b a r'/\a.Nodup/\∀x∈a,x∈b::l:=by
  rintro p b l ⟨a,r',j,d,k⟩ e;by_cases hb:b∈a
  ·obtain⟨l2,f,t,n,m⟩:=j.suffix hb;refine⟨l2,f,n,?_,λx c=> .tail _ (k x (by rw[m];exact wBW _ c))⟩;rw[m]at d;exact(WO.1 d).2.1
  ·obtain⟨f,_,_,g⟩:=j.step e;refine⟨b::a,f,g,List.nodup_cons.2 ⟨hb,d⟩,λx c=>?_⟩;rcases Jq.1 c with rfl|c
   ·exact .head _
   ·exact .tail _ (k x c)
 induction h with
 |nil=>exact⟨[0],0,.nil,by simp,λx h=>h⟩
 |fwd _ e _ i=>exact step i e
 |bwd _ e _ i=>exact step i e
theorem jK:∀(n:Nat) (l:List Nat),l.Nodup->(∀x∈l,x<n)->l.length<=n:=by
 intro n
 induction n with
 | zero=>
   intro l _ h
   cases l with
   |nil=>exact jj _
   |cons a l=>exact absurd (h a (.head _)) (Nat.not_lt_zero _)
 | succ n f=>
   intro l c h;by_cases hn:n∈l
   ·have g:=f (l.erase n) (c.erase n) (λx b=>by
      have d:=List.mem_of_mem_erase b;have i:=h x d;have j:x≠n:=λe=>by subst e;exact absurd b c.not_mem_erase
      omega)
    have d:=List.length_erase_of_mem hn;have i:0<l.length:=List.length_pos_of_mem hn;omega
   ·have:=f l c λx b=>by
      have g:=h x b;have d:x≠n:=λe=>by subst e;exact hn b
      omega
    omega
theorem DK.Rg{n x b c:Nat} (e:∀b,G.node b->b<n) (h:DK G c x b) (j:n<=c):U0 G x b:=by
 intro l r hp;obtain⟨d,r',a,f,g⟩:=hp.simple;have k:=jK n d f λx i=>e x (a.nodes x i);have m:=a.short;exact g x (h d r' a (by omega))
theorem Inv.exact(a:Inv G I S k pos) {n:Nat} (d:∀b,G.node b->b<n) (e:n+1<=k) {x b:Nat} (c:S b):pQ I x b↔U0 G x b:=by
 refine⟨λh=>(a.Ov h c).Rg d ?_,a.Rg b x c⟩;split <;> omega
theorem Inv.stay(c:Inv G I S k pos) {n:Nat} (h:∀b,G.node b->b<n) (q:n+1<=k) {b d:Nat} (r:G.node b) (h0:b≠0) (hp:G.place b=pos) (f:∀p,S p->G.zj p b->pQ I d p) (a:∀x,(∀p,S p->G.zj p b->pQ I x p)->pQ I x d) :
  S b/\d=I b:=by
 have s:=h 0 G.first;have g:S b:=c.all (by omega) b r;obtain⟨i,A,t⟩:=c.MW r h0 hp f a;obtain⟨j,l⟩:=c.tree.up b g h0;have m:I b≠b:=λe=>by rw[e]at l;omega
 have u:U0 G (I b) b:=(c.exact h q g).1 (.up h0 (.refl _));have v:pQ I (I b) d:=a _ λp o w=>c.Rg p _ o (u.pred m w);have y:U0 G d b:=(i.exact h q (.inr rfl)).1 (.up h0 (by unfold Dm.set;rw[if_pos rfl];exact .refl _));have z:pQ I d (I b):=(c.Rg b d g y).parent λe=>by subst e;omega
 exact⟨g,c.tree.zbg z v j⟩
end
def pW(seen:List Bool)(b:Nat):Prop:=seen[b]? =some true
theorem Hy{seen:List Bool} {t b:Nat} (a:t<seen.length):pW (seen.set t true) b↔b=t\/pW seen b:=by
 unfold pW;rw[List.getElem?_set];by_cases h:t=b
 ·subst h;simp[a]
 ·rw [if_neg h];constructor
  ·exact λh=> .inr h
  ·rintro(rfl|h')
   ·exact absurd rfl h
   ·exact h'
structure Ie (n:Nat) (next:Nat->List Nat) (seen:List Bool) (post:List Nat) (stack:List (Nat×Nat)):Prop where
 len:seen.length=n
 low:∀b,b<n->∀t∈next b,t<n
 range:∀x∈stack,x.1<n/\x.2<=(next x.1).length
 pre:∀b∈post,b<n
 iff:∀b,pW seen b↔b∈post\/b∈stack.map (·.1)
 nodup:(post++stack.map (·.1)).Nodup
 root:∀x s,stack=x::s->x.1=0
 last:stack=[]->∃p,post=p++[0]
 closed:∀b∈post,∀t∈next b,pW seen t
 gone:∀x∈stack,∀j,j<x.2->∀t,(next x.1)[j]? =some t->pW seen t
 way:∀s x y r,stack=s++x::y::r->y.1∈next x.1
 early:∀l b r,post=l++b::r->b=0\/∃p,b∈next p/\(p∈r\/p∈stack.map (·.1))
 zero:0 ∉ post\/stack=[]
section
variable{n:Nat}{next:Nat->List Nat}{seen:List Bool}{post:List Nat}{stack s:List (Nat×Nat)}{b i t:Nat}
theorem Ie.start(d:0<n) (e:∀b,b<n->∀t∈next b,t<n):Ie n next ((List.replicate n false).set 0 true) [] [(0,0)] where
 len:=by simp
 low:=e
 range:=λx a=>by simp at a;subst a;exact⟨d,Kl _⟩
 pre:=λb c=>by cases c
 iff:=λb=>by
  rw[Hy (by simpa using d)];simp[pW,Wb]
 nodup:=by simp
 root:=λx s h=>by cases h;rfl
 last:=λh=>by cases h
 closed:=λb c=>by cases c
 gone:=λx a j f=>by simp at a;subst a;exact absurd f (Nat.not_lt_zero _)
 way:=λs x y r h=>by
  have:=congrArg List.length h;simp at this;omega
 early:=λl b r h=>by
  have:=congrArg List.length h;simp at this
 zero:= .inl (by simp)
theorem lB{α:Type} (l:List α):l=[]\/∃s x,l=s++[x]:=by
 rcases List.eq_nil_or_concat l with h|⟨s,x,h⟩
 ·exact .inl h
 ·exact .inr ⟨s,x,by rw[h,List.concat_eq_append]⟩
theorem zo{α:Type} {s s':List α} {x y:α} (h:s++[x]=s'++[y]):s=s'/\x=y:=by
 have:=List.append_inj_right' h rfl;have a:=List.append_inj_left' h rfl;simp at this;exact⟨a,this⟩
theorem Ie.pop(a:Ie n next seen post (s++[(b,i)])) (hi:i=(next b).length):Ie n next seen (post++[b]) s where
 len:=a.len
 low:=a.low
 range:=λx k=>a.range x (Rh _ k)
 pre:=λc hc=>by
  rcases BK.1 hc with hc|hc
  ·exact a.pre c hc
  ·simp at hc;subst hc;exact(a.range (c,i) (by simp)).1
 iff:=λc=>by
  rw[a.iff c];simp only[Ji,Sp,SM,BK,Jd];constructor
  ·rintro(h|h|h)
   ·exact .inl (.inl h)
   ·exact .inr h
   ·exact .inl (.inr h)
  ·rintro((h|h)|h)
   ·exact .inl h
   ·exact .inr (.inr h)
   ·exact .inr (.inl h)
 nodup:=by
  have:=a.nodup;simp only[Ji,Sp,SM]at this;have hp:(post++[b]++s.map (·.1)).Perm (post++(s.map (·.1)++[b])):=by
   rw[Ek];exact List.Perm.append_left _ List.perm_append_comm
  exact hp.nodup_iff.2 this
 root:=λx r h=>a.root x (r++[(b,i)]) (by rw[h];rfl)
 last:=λh=>by
  subst h;have:=a.root (b,i) [] rfl;simp at this;subst this;exact⟨post,rfl⟩
 closed:=λc hc t q=>by
  rcases BK.1 hc with hc|hc
  ·exact a.closed c hc t q
  ·simp at hc;subst hc;obtain⟨j,u⟩:=mK.1 q;have w:=(iR.1 u).1;exact a.gone (c,i) (by simp) j (by show j<i;omega) t u
 gone:=λx k=>a.gone x (Rh _ k)
 way:=λs' x y r h=>a.way s' x y (r++[(b,i)]) (by rw[h];simp)
 early:=λl c r h=>by
  rcases lB r with rfl|⟨r',z,rfl⟩
  ·obtain⟨v,f⟩:=zo h;subst f;rcases lB s with rfl|⟨s',x,rfl⟩
   ·exact .inl (a.root (b,i) [] rfl)
   ·refine .inr ⟨x.1,a.way s' x (b,i) [] (by simp),.inr (by simp)⟩
  ·have h':post++[b]=(l++c::r')++[z]:=by rw[h];simp
   obtain⟨v,f⟩:=zo h';subst f;rcases a.early l c r' v with h0|⟨p,m,d⟩
   ·exact .inl h0
   ·refine .inr ⟨p,m,?_⟩;rcases d with d|d
    ·exact .inl (by simp[d])
    ·simp only[Ji,Sp,SM,BK,Jd]at d;rcases d with d|d
     ·exact .inr d
     ·exact .inl (by simp[d])
 zero:=by
  rcases lB s with rfl|⟨s',x,rfl⟩
  ·exact .inr rfl
  ·refine .inl λh0=>?_;obtain⟨y,o,g⟩:∃y o,s'++[x]=y::o:=by
    cases s' with
    |nil=>exact⟨x,[],rfl⟩
    |cons y s'=>exact⟨y,s'++[x],rfl⟩
   have A:=a.root y (o++[(b,i)]) (by rw[g];rfl);have e:=a.nodup;rcases BK.1 h0 with h0|h0
   ·rcases a.zero with h|h
    ·exact h h0
    ·simp at h
   ·simp at h0;rw[g]at e;have:(0:Nat)=b:=h0;subst this;simp only[wB1,Sp,Ji,SM,A]at e;have f:=(WO.1 e).2.1;have m:=(List.nodup_cons.1 f).1;exact m (by simp)
theorem Ie.skip(a:Ie n next seen post (s++[(b,i)])) (p:(next b)[i]? =some t) (hs:pW seen t):Ie n next seen post (s++[(b,i+1)]):=by
 have f:∀j:Nat,(s++[(b,j)]).map (λx:Nat×Nat=>x.1)=s.map (λx:Nat×Nat=>x.1)++[b]:=λj=>by simp
 refine⟨a.len,a.low,λx d=>?_,a.pre,λc=>?_,?_,λx r h=>?_,λh=>by simp at h,a.closed,λx d j q u k=>?_,λs' x y r h=>?_,λl c r h=>?_,?_⟩
 ·rcases BK.1 d with d|d
  ·exact a.range x (Rh _ d)
  ·simp at d;subst d;have:=a.range (b,i) (by simp);have m:=(iR.1 p).1;exact⟨this.1,m⟩
 ·rw[f];have:=a.iff c;rw[f]at this;exact this
 ·rw[f];have:=a.nodup;rw[f]at this;exact this
 ·cases s with
  |nil=>simp at h;obtain⟨e,_⟩:=h;subst e;exact a.root (b,i) [] rfl
  | cons y s=>
    simp at h;obtain⟨e,o⟩:=h;subst e;exact a.root y (s++[(b,i)]) rfl
 ·rcases BK.1 d with d|d
  ·exact a.gone x (Rh _ d) j q u k
  ·simp at d;subst d;have v:j<i+1:=q;by_cases hji:j=i
   ·subst hji;have g:(next b)[j]? =some u:=k;rw[p]at g;cases g;exact hs
   ·exact a.gone (b,i) (by simp) j (by show j<i;omega) u k
 ·rcases lB r with rfl|⟨r',z,rfl⟩
  ·have h':s++[(b,i+1)]=(s'++[x])++[y]:=by rw[h];simp
   obtain⟨e,o⟩:=zo h';subst o;exact a.way s' x (b,i) [] (by rw[e];simp)
  ·have h':s++[(b,i+1)]=(s'++x::y::r')++[z]:=by rw[h];simp
   obtain⟨e,o⟩:=zo h';exact a.way s' x y (r'++[(b,i)]) (by rw[e];simp)
 ·rw[f];have:=a.early l c r h;rw[f]at this;exact this
 ·rcases a.zero with h|h
  ·exact .inl h
  ·simp at h
theorem Ie.push(d:Ie n next seen post (s++[(b,i)])) (w:(next b)[i]? =some t) (hs:¬pW seen t):Ie n next (seen.set t true) post (s++[(b,i+1)]++[(t,0)]):=by
 have E:=d.range (b,i) (by simp);have o:t<n:=d.low b E.1 t (A7 w);have k:∀c,pW (seen.set t true) c↔c=t\/pW seen c:=λc=>Hy (by rw[d.len];exact o);have A:(s++[(b,i+1)]++[(t,0)]).map (λx:Nat×Nat=>x.1)=(s++[(b,i)]).map (λx:Nat×Nat=>x.1)++[t]:=by simp
 have B:=(iR.1 w).1;refine⟨by simp[d.len],d.low,λx a=>?_,d.pre,λc=>?_,?_,λx r h=>?_,λh=>by simp at h,λc hc u q=>(k u).2 (.inr (d.closed c hc u q)),λx a j C u q=>?_,λs' x y r h=>?_,λl c r h=>?_,?_⟩
 ·rcases BK.1 a with a|a
  ·rcases BK.1 a with a|a
   ·exact d.range x (Rh _ a)
   ·simp at a;subst a;exact⟨E.1,B⟩
  ·simp at a;subst a;exact⟨o,Kl _⟩
 ·rw [k,A,d.iff c,BK];simp only[Jd];constructor
  ·rintro(h|h|h)
   ·exact .inr (.inr h)
   ·exact .inl h
   ·exact .inr (.inl h)
  ·rintro(h|h|h)
   ·exact .inr (.inl h)
   ·exact .inr (.inr h)
   ·exact .inl h
 ·rw[A,<-Ek];refine WO.2 ⟨d.nodup,by simp,λx a y F e=>?_⟩;simp at F;subst F;subst e;refine hs ((d.iff x).2 ?_);exact BK.1 a
 ·cases s with
  | nil=>
    simp at h;obtain⟨g,_⟩:=h;subst g
    exact d.root (b,i) [] rfl
  | cons y s=>
    simp at h;obtain⟨g,D⟩:=h;subst g;exact d.root y (s++[(b,i)]) rfl
 ·refine (k u).2 ?_;rcases BK.1 a with a|a
  ·rcases BK.1 a with a|a
   ·exact .inr (d.gone x (Rh _ a) j C u q)
   ·simp at a;subst a;have I:j<i+1:=C;by_cases hji:j=i
    ·subst hji;have v:(next b)[j]? =some u:=q;rw[w]at v;cases v;exact .inl rfl
    ·exact .inr (d.gone (b,i) (by simp) j (by show j<i;omega) u q)
  ·simp at a;subst a;exact absurd C (Nat.not_lt_zero _)
 ·rcases lB r with rfl|⟨r',z,rfl⟩
  ·have h':s++[(b,i+1)]++[(t,0)]=(s'++[x])++[y]:=by rw[h];simp
   obtain⟨g,D⟩:=zo h';obtain⟨_,m⟩:=zo g;subst D;subst m;exact A7 w
  ·have h':s++[(b,i+1)]++[(t,0)]=(s'++x::y::r')++[z]:=by rw[h];simp
   obtain⟨g,D⟩:=zo h';rcases lB r' with rfl|⟨G,J,rfl⟩
   ·have m:s++[(b,i+1)]=(s'++[x])++[y]:=by rw[g];simp
    obtain⟨f,H⟩:=zo m;subst H;exact d.way s' x (b,i) [] (by rw[f];simp)
   ·have m:s++[(b,i+1)]=(s'++x::y::G)++[J]:=by rw[g];simp
    obtain⟨f,H⟩:=zo m;exact d.way s' x y (G++[(b,i)]) (by rw[f];simp)
 ·rcases d.early l c r h with h0|⟨p,m,f⟩
  ·exact .inl h0
  ·refine .inr ⟨p,m,?_⟩;rw[A];rcases f with f|f
   ·exact .inl f
   ·exact .inr (Rh _ f)
 ·rcases d.zero with h|h
  ·exact .inl h
  ·simp at h
end
def cost(n:Nat)(f:Nat->Nat):Nat:=((List.range n).map f).sum
theorem Gd(n:Nat) (f:Nat->Nat):cost (n+1) f=cost n f+f n:=by
 unfold cost;rw[XY,Ji,List.sum_append];simp
theorem Vq(n:Nat) (f g:Nat->Nat) (h:∀b,b<n->f b=g b):cost n f=cost n g:=by
 induction n with
 |zero=>rfl
 |succ n a=>rw[Gd,Gd,a λb c=>h b (by omega),h n (by omega)]
theorem XR(n:Nat) (f g:Nat->Nat) (t:Nat) (c:t<n) (h0:g t=0) (h:∀b,b≠t->g b=f b):cost n g+f t=cost n f:=by
 induction n with
 |zero=>omega
 | succ n a=>
   rw[Gd,Gd];by_cases hn:t=n
   ·subst hn
    rw[Vq t g f λb d=>h b (by omega),h0];omega
   ·have:=a (by omega)
    rw[h n (λe=>hn e.symm)];omega
noncomputable def left(next:Nat->List Nat)(seen:List Bool)(b:Nat):Nat:=if seen[b]? =some true then 0 else 2+(next b).length
def Ua(next:Nat->List Nat)(stack:List (Nat×Nat)):Nat:=(stack.map λx=>1+((next x.1).length-x.2)).sum
noncomputable def mu(n:Nat)(next:Nat->List Nat)(seen:List Bool)(stack:List (Nat×Nat)):Nat:=cost n (left next seen)+Ua next stack
section
variable{n:Nat}{next:Nat->List Nat}{seen:List Bool}{post:List Nat}{s:List (Nat×Nat)}{b i t:Nat}
theorem xm(x:Nat×Nat):Ua next (s++[x])=Ua next s+(1+((next x.1).length-x.2)):=by
 unfold Ua;rw[Ji,List.sum_append];simp
theorem zaE:mu n next seen s<mu n next seen (s++[(b,i)]):=by
 unfold mu;rw[xm];omega
theorem ZM(a:(next b)[i]? =some t):mu n next seen (s++[(b,i+1)])<mu n next seen (s++[(b,i)]):=by
 have c:=(iR.1 a).1;unfold mu;rw[xm,xm];show _+(_+(1+((next b).length-(i+1))))<_+(_+(1+((next b).length-i)))
 omega
theorem YH(e:Ie n next seen post (s++[(b,i)])) (f:(next b)[i]? =some t) (hs:¬pW seen t):mu n next (seen.set t true) (s++[(b,i+1)]++[(t,0)])<mu n next seen (s++[(b,i)]):=by
 have g:=e.range (b,i) (by simp);have a:t<n:=e.low b g.1 t (A7 f);have j:=(iR.1 f).1;have d:∀c,pW (seen.set t true) c↔c=t\/pW seen c:=λc=>Hy (by rw[e.len];exact a);have k:left next (seen.set t true) t=0:=by
  unfold left;exact if_pos ((d t).2 (.inl rfl))
 have l:∀c,c≠t->left next (seen.set t true) c=left next seen c:=λc hc=>by
  have:=d c;unfold pW at this;unfold left;by_cases h:seen[c]? =some true
  ·rw[if_pos h,if_pos (this.2 (.inr h))]
  ·rw[if_neg h,if_neg (λh'=>(this.1 h').elim hc h)]
 have m:=XR n (left next seen) (left next (seen.set t true)) t a k l;have o:left next seen t=2+(next t).length:=by
  unfold left;exact if_neg hs
 unfold mu;rw[xm,xm,xm];show cost n (left next (seen.set t true))+(_+(1+((next b).length-(i+1)))+(1+((next t).length-0)))<_+(_+(1+((next b).length-i)))
 omega
end
theorem sub_le:∀(l b:List Nat),l.Nodup->(∀x∈l,x∈b)->l.length<=b.length
 |[],_,_,_=>Kl _
 | a ::l,b,hd,h=>by
   have f:=h a (.head _);have c:=List.nodup_cons.1 hd;have i:=sub_le l (b.erase a) c.2 λx g=>by
     have d:x≠a:=λe=>by subst e;exact c.1 g
     exact(List.mem_erase_of_ne d).2 (h x (.tail _ g))
   have j:=List.length_erase_of_mem f;have k:0<b.length:=List.length_pos_of_mem f;simp only[Dz];omega
theorem Jw:∀(l:List Nat) (a:Nat),a∈l->l[l.idxOf a]? =some a
 |[],_,h=>by cases h
 | b ::l,a,h=>by
   rw[List.idxOf_cons];by_cases hb:b=a
   ·subst hb;simp
   ·have c:(b == a)=false:=by simpa using hb
    rw[c];rcases Jq.1 h with rfl|h
    ·exact absurd rfl hb
    ·exact Jw l a h
theorem YJ(l r:List Nat) (b:Nat) (h:b ∉ l):(l++b::r).idxOf b=l.length:=by
 rw[wCD];rw[if_neg h];simp
theorem VP(l r:List Nat) (p:Nat) (h:p∈l):(l++r).idxOf p<l.length:=by
 rw[wCD,if_pos h];exact wBX h
section
variable{n:Nat}{next:Nat->List Nat}{seen:List Bool}{post:List Nat}
def Ie.gr(f:Ie n next seen post []):Gr where
 node b:=b∈post
 zj a b:=b∈next a
 place b:=post.reverse.idxOf b
 first:=by obtain⟨p,h⟩:=f.last rfl;rw[h];simp
 CU:=by obtain⟨p,h⟩:=f.last rfl;rw[h];simp
 inj a b ha hb h:=by
  have g:=Jw _ _ (Xd.2 ha);have i:=Jw _ _ (Xd.2 hb);rw[h,i]at g;exact(Option.some.inj g).symm
 to a b ha he:=by
  have:=(f.iff b).1 (f.closed a ha b he);simpa using this
 early b hb h0:=by
  obtain⟨l,r,h⟩:=List.append_of_mem hb;rcases f.early l b r h with h'|⟨p,g,i⟩
  ·exact absurd h' h0
  ·have j:p∈r:=by simpa using i
   refine ⟨p,by rw[h];simp[j],g,?_⟩;have c:=f.nodup;simp only[SM,Eo]at c;rw[h]at c;have d:b ∉ r:=λd=>by
    have:=(WO.1 c).2.1;exact(List.nodup_cons.1 this).1 d
   rw[h,List.reverse_append,List.reverse_cons,Ek];have e:([b]++l.reverse:List Nat)=b::l.reverse:=rfl;rw[e,YJ _ _ _ (λk=>d (Xd.1 k))];exact VP _ _ _ (Xd.2 j)
theorem Ie.all(d:Ie n next seen post []) (a:∀b,b<n->b∈post):post.length=n:=by
 have c:=d.nodup;simp only[SM,Eo]at c;have g:=jK n post c d.pre;have e:=sub_le (List.range n) post List.nodup_range λx f=>a x (Sq.1 f);rw[Xe]at e;omega
end
end Go.Proofs.YtjgjgngfjopaaaaDoor.Dm
namespace Go.Proofs.YtjgjgngfjopaaaaDoor.Un
open Dm
structure Vl where
 op:Nat
 a:Nat
 b:Nat
 n:Int
 args:List Nat
 state:Nat
structure Bk where
 ef:List Nat
 fin:Nat
 cond:Nat
 next:List Nat
 fg:List Nat
 state:Nat
structure Fm where
 func:Int
 pc:Int
 locals:List Nat
 stack:List Nat
structure U where
 func:Int
 pc:Int
 ef:List Vl
 blocks:List Bk
 eh:List (List Fm)
def two(op:Nat):Bool:=(3<=op&&op<=7) ||(10<=op&&op<=14) ||op == 18 ||op == 19 ||op == 20
def pg(op:Nat):Bool:=op == 8 ||op == 9 ||op == 15 ||op == 16 ||op == 17 ||op == 22
def je(v:Vl):List Nat:=
 if v.op=21 then v.args else if v.op=20 then v.a::v.b::v.args.take 1 else if two v.op=true then[v.a,v.b] else if pg v.op=true then[v.a] else[]
def Ii(op:Nat):Bool:=op<19 ||op == 21
def leaves(op:Nat):Bool:=op == 22 ||op == 23
def iH(op:Nat):Bool:=op == 1 ||op == 21
def gJ(s:List Fm):List Nat:=s.flatMap λf=>f.locals++f.stack
def next(u:U) (b:Nat):List Nat:=match u.blocks[b]? with
 |some B=>B.next
 |none=>[]
def kW(l:List Bk) (i b:Nat):List Nat:=match l with
 |[]=>[]
 |B::l=>(B.next.filter (·= b)).map (λ_=>i)++kW l (i+1) b
def ahead(u:U)(b:Nat):List Nat:=kW u.blocks 0 b
inductive Pt (nx:Nat->List Nat):Nat->List Nat->Prop
 |nil:Pt nx 0 [0]
 |step {p b:Nat} {l:List Nat} (h:Pt nx p l) (e:b∈nx p):Pt nx b (b::l)
def ve(nx:Nat->List Nat)(x b:Nat):Prop:=∀l,Pt nx b l->x∈l
def At(u:U)(v b k:Nat):Prop:=∃B,u.blocks[b]? =some B/\B.ef[k]? =some v
def w7(u:U)(v:Nat):Prop:=∃x,u.ef[v]? =some x/\Ii x.op=true
def JH(u:U)(v b k:Nat):Prop:=∃c j,At u v c j/\(c=b/\j<k\/c≠b/\ve (next u) c b)
def xI(u:U)(v b:Nat):Prop:=∃c j,At u v c j/\ve (next u) c b
structure Good (u:U):Prop where
 nv:u.ef.length<=3000
 OC:1<=u.blocks.length
 nb:u.blocks.length<=300
 ns:u.eh.length<=1000
 st:∀(s:Nat) (fs:List Fm),u.eh[s]? =some fs->1<=fs.length/\fs.length<=30/\∀f∈fs,f.locals.length<=40/\f.stack.length<=60/\(∀v∈f.locals,w7 u v)/\∀v∈f.stack,w7 u v
 HW:∀(v:Nat),v<u.ef.length->∃b k,At u v b k
 OM:∀(v:Nat) (b:Nat) (k:Nat) (a:Nat) (k':Nat),At u v b k->At u v a k'->b=a/\k=k'
 mb:∀(v:Nat) (b:Nat) (k:Nat),At u v b k->v<u.ef.length
 NL:∀(v:Nat) (w:Nat) (b:Nat) (k:Nat) (x:Vl) (y:Vl),At u v b (k+1)->At u w b k->u.ef[v]? =some x->u.ef[w]? =some y->iH x.op=true->iH y.op=true
 par:∀(v:Nat) (b:Nat) (k:Nat) (x:Vl),At u v b k->u.ef[v]? =some x->x.op=1->b=0
 Ko:∀(v:Nat) (b:Nat) (k:Nat) (x:Vl) (B:Bk),At u v b k->u.ef[v]? =some x->x.op=21->u.blocks[b]? =some B->b≠0/\x.args.length=B.fg.length
 op:∀(v:Nat) (x:Vl),u.ef[v]? =some x->1<=x.op/\x.op<=23
 use:∀(v:Nat) (x:Vl),u.ef[v]? =some x->∀w∈je x,w7 u w
 leave:∀(v:Nat) (x:Vl),u.ef[v]? =some x->leaves x.op=true->x.state<u.eh.length
 putAt:∀(v:Nat) (x:Vl),u.ef[v]? =some x->x.op=20->x.args.length=1
 param:∀(v:Nat) (x:Vl),u.ef[v]? =some x->x.op=1->0<=x.n/\x.n<40/\∀(w:Nat) (y:Vl),u.ef[w]? =some y->y.op=1->y.n=x.n->w=v
 fin:∀(b:Nat) (B:Bk),u.blocks[b]? =some B->(B.fin=1/\B.next.length=1)\/(B.fin=2/\B.next.length=2/\w7 u B.cond)\/(B.fin=3/\B.next=[]/\B.state<u.eh.length)
 nx:∀(b:Nat),∀t∈next u b,t<u.blocks.length
 fg:∀(b:Nat) (B:Bk),u.blocks[b]? =some B->B.fg=ahead u b
 JZ:ahead u 0=[]
 Mr:∀(b:Nat) (B:Bk),u.blocks[b]? =some B->B.fin=2->∀t∈B.next,(ahead u t).length=1
 reach:∀(b:Nat),b<u.blocks.length->∃l,Pt (next u) b l
 NU:∀(v:Nat) (b:Nat) (k:Nat) (x:Vl),At u v b k->u.ef[v]? =some x->x.op≠21->∀w∈je x,JH u w b k
 NX:∀(v:Nat) (b:Nat) (k:Nat) (x:Vl) (B:Bk),At u v b k->u.ef[v]? =some x->x.op=21->u.blocks[b]? =some B->∀(j w p:Nat),x.args[j]? =some w->B.fg[j]? =some p->xI u w p
 Oa:∀(v:Nat) (b:Nat) (k:Nat) (x:Vl) (fs:List Fm),At u v b k->u.ef[v]? =some x->leaves x.op=true->u.eh[x.state]? =some fs->∀w∈gJ fs,JH u w b k
 NC:∀(b:Nat) (B:Bk),u.blocks[b]? =some B->B.fin=2->xI u B.cond b
 Nt:∀(b:Nat) (B:Bk) (fs:List Fm),u.blocks[b]? =some B->B.fin=3->u.eh[B.state]? =some fs->∀w∈gJ fs,xI u w b
theorem IY{nx:Nat->List Nat} {D:Nat->Nat} (hc:∀p b,b∈nx p->b≠0->pQ D (D b) p) {x:Nat}:∀{b l},Pt nx b l->pQ D x b->x∈l
 | _,_,.nil,h=>by
   cases h with
   |refl=>exact .head _
   |up h0 _=>exact absurd rfl h0
 | _,_,.step (p:=p) h e,a=>by
   cases a with
   |refl=>exact .head _
   |up h0 a=>exact .tail _ (IY hc h (a.trans (hc _ _ e h0)))
theorem ve.self(nx:Nat->List Nat)(b:Nat):ve nx b b:=λl h=>by cases h <;> exact .head _
theorem Wi{G:Gr} {nx:Nat->List Nat} (c:∀a b,G.zj a b↔b∈nx a):∀{b l r},Pa G b l r->Pt nx b l
 |_,_,_,.nil=> .nil
 |_,_,_,.fwd h e _=> .step (Wi c h) ((c _ _).1 e)
 |_,_,_,.bwd h e _=> .step (Wi c h) ((c _ _).1 e)
theorem zag{G:Gr} {nx:Nat->List Nat} (c:∀a b,G.zj a b↔b∈nx a):∀{b l},Pt nx b l->∃r,Pa G b l r
 |_,_,.nil=>⟨0,.nil⟩
 | _,_,.step h e=>by
   obtain⟨r,hp⟩:=zag c h;obtain⟨r',_,_,hs⟩:=hp.step ((c _ _).2 e);exact⟨r',hs⟩
theorem Ww{G:Gr} {nx:Nat->List Nat} (c:∀a b,G.zj a b↔b∈nx a) {x b:Nat}:ve nx x b↔U0 G x b:=
 ⟨λh l r hp=>h l (Wi c hp),λh l hp=>let⟨r,hr⟩:=zag c hp;h l r hr⟩
theorem uk{b p:Nat}:∀{l:List Bk} {i:Nat},p∈kW l i b↔∃k B,l[k]? =some B/\b∈B.next/\p=i+k
 |[],i=>by simp[kW]
 | B ::l,i=>by
   simp only[kW,BK,K4,MS,AW,uk (l:=l)];constructor
   ·rintro (⟨t,⟨a,c⟩,d⟩|⟨k,e,a,c,d⟩)
    ·subst c
     exact⟨0,B,rfl,a,d.symm⟩
    ·exact⟨k+1,e,a,c,by omega⟩
   ·rintro ⟨k,e,a,c,d⟩
    cases k with
    | zero=>
      obtain rfl:B=e:=by simpa using a
      exact .inl ⟨b,⟨c,rfl⟩,d.symm⟩
    |succ k=>exact .inr ⟨k,e,by simpa using a,c,by omega⟩
theorem Gc{u:U} {b p:Nat}:p∈ahead u b↔b∈next u p:=by
 unfold ahead next
 rw[uk];constructor
 ·rintro⟨k,B,a,c,e⟩;have:p=k:=by omega
  subst this;rw[a];exact c
 ·intro h;split at h
  ·rename_i B d;exact⟨p,B,d,h,by omega⟩
  ·cases h
theorem z9{b:Nat}:∀(l m:List Bk) (i:Nat),kW (l++m) i b=kW l i b++kW m (i+l.length) b
 |[],m,i=>by simp[kW]
 | B::l,m,i=>by
   simp only[wB1,kW,z9 l m (i+1),Dz,Ek];rw[show i+1+l.length=i+(l.length+1) by omega]
def l0(n:Int)(m:Nat):Nat:=(if n.tmod m<0 then n.tmod m+m else n.tmod m).toNat
theorem EZ(n:Int) {m:Nat} (a:0<m):l0 n m<m:=by
 have c:=Int.tmod_lt_of_pos n (b:=(m:Int)) (by omega);have d : -(m:Int)<n.tmod m:=by
  have:=Int.tmod_lt_of_pos (-n) (b:=(m:Int)) (by omega);rw[Int.neg_tmod]at this;omega
 unfold l0;split <;> omega
structure Ds where
 ef:List Vl
 cur:List Nat
 known:List Nat
 eh:List (List Fm)
 pos:Nat
def draw(ops:List Int) (pos m:Nat):Nat×Nat:=match ops[pos]? with
 |none=>(0,pos)
 |some n=>(l0 n m,pos+1)
theorem xF(ops:List Int) (pos:Nat) {m:Nat} (a:0<m):(draw ops pos m).1<m:=by
 unfold draw;split
 ·exact a
 ·exact EZ _ a
def vl(op a b:Nat)(n:Int)(args:List Nat)(state:Nat):Vl:=⟨op,a,b,n,args,state⟩
def put(s:Ds)(v:Vl):Ds:={s with ef:=s.ef++[v],cur:=s.cur++[s.ef.length]}
def iJ(s:Ds)(v:Vl):Ds:={s with ef:=s.ef++[v],cur:=s.cur++[s.ef.length],known:=s.known++[s.ef.length]}
def fK(ops:List Int)(s:Ds):Nat×Ds:=(s.known.getD (draw ops s.pos s.known.length).1 0,{s with pos:=(draw ops s.pos s.known.length).2})
def num(ops:List Int)(s:Ds)(m:Nat):Nat×Ds:=((draw ops s.pos m).1,{s with pos:=(draw ops s.pos m).2})
def some_(ops:List Int):Nat->Ds->List Nat->List Nat×Ds
 |0,s,l=>(l,s)
 |i+1,s,l=>some_ ops i (fK ops s).2 (l++[(fK ops s).1])
def fJ(ops:List Int) (s:Ds):Nat×Ds:=
 let r:=num ops s 4
 let q:=some_ ops r.1 r.2 []
 (s.eh.length,{q.2 with eh:=s.eh++[[⟨1,(s.eh.length:Nat),q.1,[s.known.getLastD 0]⟩]]})
def sq(ops:List Int) (s:Ds) (k a b:Nat):Ds:=
 if k<12 then iJ s (vl (3+k) a b 0 [] 0)
 else if k=12 then let r:=num ops s 1048576;iJ r.2 (vl 2 0 0 ((r.1:Int)-9) [] 0)
 else if k=13 then let r:=num ops s 5;iJ r.2 (vl 17 a 0 (r.1:Nat) [] 0)
 else if k=14 then iJ s (vl 18 a b 0 [] 0)
 else if k=15 then let r:=num ops s 5;put r.2 (vl 19 a b (r.1:Nat) [] 0)
 else if k=16 then let r:=fK ops s;put r.2 (vl 20 a b 0 [r.1] 0)
 else if k=17 then let r:=fJ ops s;put r.2 (vl 22 a 0 0 [] r.1)
 else if k=18 then let r:=fJ ops s;put r.2 (vl 23 0 0 0 [] r.1)
 else let r:=num ops s 2;iJ r.2 (vl (15+r.1) a 0 0 [] 0)
def tM(ops:List Int) (s:Ds):Ds:=
 let r:=fK ops s
 let q:=fK ops r.2
 let k:=num ops q.2 20
 sq ops k.2 k.1 r.1 q.1
def rows(ops:List Int):Nat->Ds->Ds
 |0,s=>s
 |i+1,s=>if s.ef.length<200 then rows ops i (tM ops s) else s
def row(ops:List Int)(s:Ds):Ds:=let r:=num ops s 6;rows ops (1+r.1) r.2
structure Dt where
 s:Ds
 blocks:List Bk
 fg:List Nat
def end_(t:Dt) (fin cond:Nat) (nx:List Nat) (state:Nat) (fg:List Nat):Dt:={s:={t.s with cur:=[]},blocks:=t.blocks++[⟨t.s.cur,fin,cond,nx,t.fg,state⟩],fg:=fg}
def cut(n:Nat)(s:Ds):Ds:={s with known:=s.known.take n}
def setArgs(s:Ds)(v:Nat)(args:List Nat):Ds:={s with ef:=s.ef.modify v λx=>{x with args:=args} }
def fork(ops:List Int) (t:Dt):Dt:=
 let c:=fK ops t.s
 let b:=t.s.known.length
 let a:=t.blocks.length
 let d:=end_ {t with s:=c.2} 2 c.1 [a+1,a+2] 0 [a]
 let e:=row ops d.s
 let x:=e.known.getLastD 0
 let f:=end_ {d with s:=cut b e} 1 0 [a+3] 0 [a]
 let g:=row ops f.s
 let y:=g.known.getLastD 0
 let h:=end_ {f with s:=cut b g} 1 0 [a+3] 0 [a+1,a+2]
 {h with s:=row ops (iJ h.s (vl 21 0 0 0 [x,y] 0))}
def loop(ops:List Int) (t:Dt):Dt:=
 let f:=fK ops t.s
 let a:=t.blocks.length
 let c:=end_ {t with s:=f.2} 1 0 [a+1] 0 [a,a+2]
 let p:=c.s.ef.length
 let m:=put c.s (vl 21 0 0 0 [f.1,0] 0)
 let g:=fK ops m
 let i:=put g.2 (vl 21 0 0 0 [g.1,p] 0)
 let n:={i with known:=i.known++[p,p+1]}
 let st:=fJ ops n
 let s4:=put st.2 (vl 23 0 0 0 [] st.1)
 let one:=s4.ef.length
 let o:=put s4 (vl 2 0 0 1 [] 0)
 let j:=iJ o (vl 4 p one 0 [] 0)
 let k:=end_ {c with s:=j} 2 p [a+2,a+3] 0 [a+1]
 let b:=j.known.length
 let e:=row ops k.s
 let q:=setArgs e p [f.1,one+1]
 let d:=num ops q 3
 let r:=if d.1=0 then setArgs d.2 p [f.1,e.known.getLastD 0] else d.2
 let h:=setArgs r (p+1) [g.1,e.known.getLastD 0]
 let l:=end_ {k with s:=cut b h} 1 0 [a+1] 0 [a+1]
 {l with s:=row ops l.s}
def yo(ops:List Int) (t:Dt):Dt:=
 let c:=fK ops t.s
 let b:=t.s.known.length
 let a:=t.blocks.length
 let d:=end_ {t with s:=c.2} 2 c.1 [a+1,a+2] 0 [a]
 let f:=row ops d.s
 let st:=fJ ops f
 let e:=end_ {d with s:=cut b st.2} 3 0 [] st.1 [a]
 {e with s:=row ops e.s}
def tW(ops:List Int)(k:Nat)(t:Dt):Dt:=if k=0 then fork ops t else if k=1 then loop ops t else yo ops t
def lE(ops:List Int):List Int->Dt->Dt
 |[],t=>t
 |k::l,t=>if t.s.ef.length<160 then lE ops l (tW ops (l0 k 3) t) else t
def params:Nat->Nat->Ds->Ds
 |0,_,s=>s
 |n+1,i,s=>params n (i+1) (iJ s (vl 1 0 0 (i:Nat) [] 0))
def G8(ops a:List Int) (n:Int):U:=
 let s:=row ops (iJ (params (l0 n 5) 0 ⟨[],[],[],[],0⟩) (vl 2 0 0 5 [] 0))
 let t:=lE ops (a.take 6) ⟨s,[],[]⟩
 let st:=fJ ops t.s
 let b:=end_ {t with s:=st.2} 3 0 [] st.1 []
 ⟨1,2,b.s.ef,b.blocks,b.s.eh⟩
