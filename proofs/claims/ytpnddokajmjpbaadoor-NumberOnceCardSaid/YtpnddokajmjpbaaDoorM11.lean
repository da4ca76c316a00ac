/- Parts. -/
import Derived.Test.YtpnddokajmjpbaaDoorM00
import Derived.Calls
namespace Go.Proofs.YtpnddokajmjpbaaDoor.Dm
structure Gr where
 node:Nat->Prop
 xZ:Nat->Nat->Prop
 place:Nat->Nat
 first:node 0
 B8:place 0=0
 inj:∀a b,node a->node b->place a=place b->a=b
 to:∀a b,node a->xZ a b->node b
 early:∀b,node b->b≠0->∃p,node p/\xZ p b/\place p<place b
inductive Pa (G:Gr):Nat->List Nat->Nat->Prop
 |nil:Pa G 0 [0] 0
 |fwd {p b:Nat} {l:List Nat} {r:Nat} (h:Pa G p l r) (e:G.xZ p b) (a:G.place p<G.place b):Pa G b (b::l) r
 |bwd {p b:Nat} {l:List Nat} {r:Nat} (h:Pa G p l r) (e:G.xZ p b) (a:¬G.place p<G.place b):Pa G b (b::l) (r+1)
def Qk (G:Gr)(x b:Nat):Prop:=∀l r,Pa G b l r->x∈l
def DK (G:Gr)(k x b:Nat):Prop:=∀l r,Pa G b l r->r<k->x∈l
variable{G:Gr}
theorem Pa.node:∀{b l r},Pa G b l r->G.node b
 |_,_,_,.nil=>G.first
 |_,_,_,.fwd h e _=>G.to _ _ h.node e
 |_,_,_,.bwd h e _=>G.to _ _ h.node e
theorem Pa.last:∀{b l r},Pa G b l r->b∈l
 |_,_,_,.nil=> .head _
 |_,_,_,.fwd _ _ _=> .head _
 |_,_,_,.bwd _ _ _=> .head _
theorem Pa.step {p b:Nat} {l:List Nat} {r:Nat} (h:Pa G p l r) (e:G.xZ p b):∃r',r'<=r+1/\(G.place p<G.place b->r' = r)/\Pa G b (b::l) r':=by
 by_cases hp:G.place p<G.place b
 ·exact⟨r,Nv _,λ_=>rfl,.fwd h e hp⟩
 ·exact⟨r+1,iW _,λh=>absurd h hp,.bwd h e hp⟩
theorem Xa (n:Nat):∀b,G.node b->G.place b<n->∃l,Pa G b l 0/\∀x∈l,G.node x/\G.place x<=G.place b:=by
 induction n with
 |zero=>intro b _ h;omega
 | succ n c=>
   intro b hb g;by_cases h0:b=0
   ·subst h0
    exact⟨[0],.nil,λx hx=>by simp at hx;subst hx;exact⟨hb,iW _⟩⟩
   ·obtain ⟨p,d,e,a⟩:=G.early b hb h0
    obtain⟨l,f,hx⟩:=c p d (by omega);refine⟨b::l,.fwd f e a,λx h=>?_⟩
    cases h with
    |head=>exact⟨hb,iW _⟩
    | tail _ h=>
      have:=hx x h;exact⟨this.1,by omega⟩
theorem Pa.pre:∀{b l r},Pa G b l r->∀{x},x∈l->∃a r',Pa G x a r'/\r'<=r/\∀y∈a,y∈l
 |_,_,_,.nil,x,hx=>by simp at hx;subst hx;exact⟨[0],0,.nil,iW _,λy h=>h⟩
 | b,_,_,.fwd (l:=l) (r:=r) h e hp,x,hx=>by
   rcases CL.1 hx with rfl|hx
   ·exact⟨_,_,.fwd h e hp,iW _,λy h=>h⟩
   ·obtain⟨a,r',c,g,d⟩:=h.pre hx
    exact⟨a,r',c,g,λy f=> .tail _ (d y f)⟩
 | b,_,_,.bwd (l:=l) (r:=r) h e hp,x,hx=>by
   rcases CL.1 hx with rfl|hx
   ·exact⟨_,_,.bwd h e hp,iW _,λy h=>h⟩
   ·obtain⟨a,r',c,g,d⟩:=h.pre hx
    exact⟨a,r',c,by omega,λy f=> .tail _ (d y f)⟩
theorem DK.mono{x b k k':Nat}(h:DK G k x b)(c:k'<=k):DK G k' x b:=λl r a d=>h l r a (by omega)
theorem DK.trans {x y b k:Nat} (c:DK G k x y) (d:DK G k y b):DK G k x b:=by
 intro l r a e;obtain⟨f,r',g,i,h⟩:=a.pre (d l r a e);exact h x (c f r' g (by omega))
theorem DK.self (k b:Nat):DK G k b b:=λ_ _ a _=>a.last
theorem Qk.self (b:Nat):Qk G b b:=λ_ _ a=>a.last
theorem Qk.pred {x p b:Nat} (h:Qk G x b) (hx:x≠b) (e:G.xZ p b):Qk G x p:=by
 intro l r a;obtain⟨r',_,_,hs⟩:=a.step e;rcases CL.1 (h _ _ hs)with rfl|h
 ·exact absurd rfl hx
 ·exact h
inductive ot (I:Nat->Nat):Nat->Nat->Prop
 |refl (b:Nat):ot I b b
 |up {a b:Nat} (h0:b≠0) (h:ot I a (I b)):ot I a b
theorem ot.trans {I:Nat->Nat} {a b c:Nat} (d:ot I a b) (e:ot I b c):ot I a c:=by
 induction e with
 |refl=>exact d
 |up h0 _ f=>exact .up h0 f
theorem ot.parent {I:Nat->Nat} {a b:Nat} (h:ot I a b) (c:a≠b):ot I a (I b):=by
 cases h with
 |refl=>exact absurd rfl c
 |up _ h=>exact h
def set (I:Nat->Nat)(b d:Nat):Nat->Nat:=λx=>if x=b then d else I x
structure Tree (G:Gr) (I:Nat->Nat) (S:Nat->Prop):Prop where
 zero:S 0
 node:∀b,S b->G.node b
 up:∀b,S b->b≠0->S (I b)/\G.place (I b)<G.place b
section
variable{I:Nat->Nat}{S:Nat->Prop}
theorem Tree.Xj (c:Tree G I S) {a b:Nat} (h:ot I a b):S b->S a/\G.place a<=G.place b:=by
 induction h with
 |refl=>exact λh=>⟨h,iW _⟩
 | up h0 _ d=>
   intro hb;obtain⟨e,f⟩:=c.up _ hb h0;have:=d e;exact⟨this.1,by omega⟩
theorem Tree.Zj (c:Tree G I S) {a b:Nat} (e:ot I a b) (hb:ot I b a) (h:S b):a=b:=by
 have d:=c.Xj e h;have f:=c.Xj hb d.1;exact G.inj _ _ (c.node _ d.1) (c.node _ h) (by omega)
theorem Tree.XY (c:Tree G I S) {a b x:Nat} (g:S a) (hb:S b) (d:G.place b<G.place a) (hx:ot I x a) (f:ot I x b):ot I x (I a):=by
 refine hx.parent λe=>?_;subst e;have:=(c.Xj f hb).2;omega
theorem ot.WU {b d:Nat} (g:Tree G I S) {a c:Nat} (h:ot I a c):S c->G.place c<G.place b->ot (set I b d) a c:=by
 induction h with
 |refl=>exact λ_ _=> .refl _
 | up h0 _ i=>
   rename_i c _;intro hc j;have f:c≠b:=λe=>by subst e;omega
   obtain⟨k,l⟩:=g.up _ hc h0;refine .up h0 ?_;unfold Dm.set;rw[if_neg f];exact i k (by omega)
end
structure Inv (G:Gr) (I:Nat->Nat) (S:Nat->Prop) (k pos:Nat):Prop where
 tree:Tree G I S
 one:1<=k
 zbG:1<=pos
 done:∀b,G.node b->G.place b<pos->S b
 all:2<=k->∀b,G.node b->S b
 fresh:k=1->∀b,S b->G.place b<pos
 low:∀b,S b->b≠0->DK G (if G.place b<pos then k else k-1) (I b) b
 Pe:∀y x,S y->Qk G x y->ot I x y
section
variable{I:Nat->Nat}{S:Nat->Prop}{k pos:Nat}
theorem Inv.kb (a:Inv G I S k pos) {b:Nat} (hb:S b):1<=(if G.place b<pos then k else k-1):=by
 have:=a.one;split
 ·omega
 ·rename_i h;by_cases c:k=1
  ·exact absurd (a.fresh c b hb) h
  ·omega
theorem Inv.Nh (c:Inv G I S k pos) {a b:Nat} (h:ot I a b):S b->DK G (if G.place b<pos then k else k-1) a b:=by
 induction h with
 |refl=>exact λ_=>DK.self _ _
 | up h0 _ d=>
   rename_i b _;intro hb;obtain⟨e,f⟩:=c.tree.up _ hb h0;refine DK.trans (DK.mono (d e) ?_) (c.low b hb h0);split <;> split <;> omega
theorem Pa.swap:∀{y f g},Pa G y f g->g=0->∀{z l r},z∈f->Pa G z l r->∃c r',Pa G y c r'/\G.place z<=G.place y/\∀w∈c,w∈l\/G.place z<G.place w
 | _,_,_,.nil,_,z,l,r,a,hp=>by
   simp at a;subst a
   exact⟨l,r,hp,iW _,λw h=> .inl h⟩
 | _,_,_,.fwd (p:=p) (b:=b) h e IH,h0,z,l,r,a,hp=>by
   rcases CL.1 a with rfl|a
   ·exact⟨l,r,hp,iW _,λw h=> .inl h⟩
   ·obtain⟨c,r',i,k,j⟩:=h.swap h0 a hp
    refine⟨b::c,r',.fwd i e IH,by omega,λw d=>?_⟩;rcases CL.1 d with rfl|d
    ·exact .inr (by omega)
    ·exact j w d
 |_,_,_,.bwd _ _ _,h0,_,_,_,_,_=>by cases h0
theorem Inv.Yy (a:Inv G I S k pos) {x y z:Nat} (c:S y) (hx:Qk G x y) (g:ot I z y) (d:ot I x z) (j:x≠z):Qk G x z:=by
 intro l r m;obtain⟨i,b,_⟩:=Xa (G:=G) (G.place y+1) y (a.tree.node y c) (IS _);have e:z∈i:=a.Nh g c i 0 b (a.kb c);obtain⟨n,r',o,_,p⟩:=b.swap rfl e m;rcases p x (hx n r' o)with h|h
 ·exact h
 ·have f:=a.tree.Xj g c;have:=a.tree.Xj d f.1;omega
theorem Inv.Ld (a:Inv G I S k pos) {b d:Nat} (hb:G.node b) (h0:b≠0) (R:G.place b=pos) (f:∀p,S p->G.xZ p b->ot I d p) (m:∀x,(∀p,S p->G.xZ p b->ot I x p)->ot I x d) :
  Inv G (set I b d) (λx=>S x\/x=b) k (pos+1)/\S d/\G.place d<G.place b:=by
 obtain⟨p0,A,B,H⟩:=G.early b hb h0;have v:S p0:=a.done p0 A (by omega);obtain⟨C,J⟩:=a.tree.Xj (f p0 v B) v;have n:G.place d<G.place b:=by omega
 have o:set I b d b=d:=by unfold Dm.set;rw[if_pos rfl]
 have q:∀c,c≠b->set I b d c=I c:=λc h=>by unfold Dm.set;rw[if_neg h]
 have D:Tree G (set I b d) (λx=>S x\/x=b):=by
  refine⟨.inl a.tree.zero,λc hc=>?_,λc hc s=>?_⟩
  ·rcases hc with hc|rfl
   ·exact a.tree.node c hc
   ·exact hb
  ·by_cases hcb:c=b
   ·subst hcb;rw[o];exact⟨.inl C,n⟩
   ·rw[q c hcb];have hc:=hc.resolve_right hcb;have:=a.tree.up c hc s;exact⟨.inl this.1,this.2⟩
 have g:∀x,Qk G x b->ot (set I b d) x b:=by
  intro x hx;by_cases hxb:x=b
  ·subst hxb;exact .refl _
  ·refine .up h0 ?_;rw[o];exact(m x λp E K=>a.Pe p x E (hx.pred hxb K)).WU a.tree C n
 refine⟨⟨D,a.one,by omega,λc hc i=>?_,λL c hc=> .inl (a.all L c hc),λM c hc=>?_,λc hc s=>?_,λy x N hx=>?_⟩,C,n⟩
 ·by_cases hcp:G.place c<pos
  ·exact .inl (a.done c hc hcp)
  ·exact .inr (G.inj c b hc hb (by omega))
 ·rcases hc with hc|rfl
  ·have:=a.fresh M c hc;omega
  ·omega
 ·by_cases hcb:c=b
  ·subst hcb;rw[o,if_pos (by omega)];intro l r t O
   cases t with
   |nil=>exact absurd rfl h0
   | fwd h e i=>
     rename_i p l;have w:S p:=a.done p h.node (by omega);have:=a.Nh (f p w e) w;rw[if_pos (by omega)]at this
     exact .tail _ (this _ _ h O)
   | bwd h e i=>
     rename_i p l r;have w:S p:=a.all (by omega) p h.node;have:=(a.Nh (f p w e) w).mono (k':=k-1) (by split <;> omega);exact .tail _ (this _ _ h (by omega))
  ·have z:=hc.resolve_right hcb;rw[q c hcb];have P:G.place c≠pos:=λh=>hcb (G.inj c b (a.tree.node c z) hb (by omega));have:=a.low c z s;by_cases i:G.place c<pos
   ·rw[if_pos i]at this;rw[if_pos (by omega)];exact this
   ·rw[if_neg i]at this;rw[if_neg (by omega)];exact this
 ·by_cases hyb:y=b
  ·subst hyb;exact g x hx
  ·have j:=N.resolve_right hyb;have F:∀{y},ot I x y->S y->Qk G x y->ot (set I b d) x y:=by
    intro y h
    induction h with
    |refl=>exact λ_ _=> .refl _
    | up u h Q=>
      rename_i y;intro j hx;by_cases hyb:y=b
      ·subst hyb;exact g x hx
      ·refine .up u ?_
       rw[q y hyb];by_cases hxI:x=I y
       ·rw[<-hxI];exact .refl _
       ·exact Q (a.tree.up y j u).1 (a.Yy j hx (.up u (.refl _)) h hxI)
   exact F (a.Pe y x j hx) j hx
theorem Inv.pass (c:Inv G I S k pos) (a:∀b,G.node b->G.place b<pos):Inv G I S (k+1) 1:=by
 have f:=c.one;refine⟨c.tree,by omega,iW _,λb hb d=>?_,λ_ b hb=>c.done b hb (a b hb),λh=>by omega,λb hb h0=>?_,c.Pe⟩
 ·exact c.done b hb (a b hb)
 ·have:=c.low b hb h0;rw[if_pos (a b (c.tree.node b hb))]at this;split
  ·rename_i h;have e:G.place b=G.place 0:=by have:=G.B8;omega
   exact absurd (G.inj b 0 (c.tree.node b hb) G.first e) h0
  ·exact this
theorem Inv.start:Inv G (λ_=>0) (λx=>x=0) 1 1:=by
 refine⟨⟨rfl,λb h=>by subst h;exact G.first,λb h h0=>absurd h h0⟩,iW _,iW _,λb hb a=>?_,λh=>by omega,λ_ b h=>by subst h;rw[G.B8];omega,λb h h0=>absurd h h0,λy x c hx=>?_⟩
 ·exact G.inj b 0 hb G.first (by have:=G.B8;omega)
 ·subst c;have:=hx _ _ .nil;simp at this;subst this;exact .refl _
theorem Pa.suffix:∀{b l r},Pa G b l r->∀{x},x∈l->∃a r' t,Pa G x a r'/\l=t++a
 |_,_,_,.nil,x,hx=>by simp at hx;subst hx;exact⟨[0],0,[],.nil,rfl⟩
 | b,_,_,.fwd (l:=l) (r:=r) h e hp,x,hx=>by
   rcases CL.1 hx with rfl|hx
   ·exact⟨_,_,[],.fwd h e hp,rfl⟩
   ·obtain⟨a,r',t,c,d⟩:=h.suffix hx
    exact⟨a,r',b::t,c,by rw[d];rfl⟩
 | b,_,_,.bwd (l:=l) (r:=r) h e hp,x,hx=>by
   rcases CL.1 hx with rfl|hx
   ·exact⟨_,_,[],.bwd h e hp,rfl⟩
   ·obtain⟨a,r',t,c,d⟩:=h.suffix hx
    exact⟨a,r',b::t,c,by rw[d];rfl⟩
theorem Pa.short:∀{b l r},Pa G b l r->r+1<=l.length
 |_,_,_,.nil=>by simp
 |_,_,_,.fwd h _ _=>by have:=h.short;simp;omega
 |_,_,_,.bwd h _ _=>by have:=h.short;simp;omega
theorem Pa.nodes:∀{b l r},Pa G b l r->∀x∈l,G.node x
 |_,_,_,.nil,x,hx=>by simp at hx;subst hx;exact G.first
 | _,_,_,.fwd h e hp,x,hx=>by
   rcases CL.1 hx with rfl|hx
   ·exact G.to _ _ h.node e
   ·exact h.nodes x hx
 | _,_,_,.bwd h e hp,x,hx=>by
   rcases CL.1 hx with rfl|hx
   ·exact G.to _ _ h.node e
   ·exact h.nodes x hx
theorem Pa.simple:∀{b l r},Pa G b l r->∃a r',Pa G b a r'/\a.Nodup/\∀x∈a,x∈l:=by
 intro b l r h;have step:∀{p b:Nat} {l:List Nat},(∃a r',Pa G p a r'/\a.Nodup/\∀x∈a,x∈l)->G.xZ p b->∃a r',Pa G b a r'/\a.Nodup/\∀x∈a,x∈b::l:=by
  rintro p b l ⟨a,r',f,c,i⟩ e;by_cases hb:b∈a
  ·obtain⟨l2,r2,t,k,j⟩:=f.suffix hb;refine⟨l2,r2,k,?_,λx hx=> .tail _ (i x (by rw[j];exact XU _ hx))⟩;rw[j]at c;exact(Qh.1 c).2.1
  ·obtain⟨r2,_,_,g⟩:=f.step e;refine⟨b::a,r2,g,ZY.2 ⟨hb,c⟩,λx hx=>?_⟩;rcases CL.1 hx with rfl|hx
   ·exact .head _
   ·exact .tail _ (i x hx)
 induction h with
 |nil=>exact⟨[0],0,.nil,by simp,λx h=>h⟩
 |fwd _ e _ d=>exact step d e
 |bwd _ e _ d=>exact step d e
theorem jy:∀(n:Nat) (l:List Nat),l.Nodup->(∀x∈l,x<n)->l.length<=n:=by
 intro n
 induction n with
 | zero=>
   intro l _ h
   cases l with
   |nil=>exact iW _
   |cons a l=>exact absurd (h a (.head _)) (Y5 _)
 | succ n d=>
   intro l b h;by_cases hn:n∈l
   ·have f:=d (l.erase n) (b.erase n) (λx hx=>by
      have c:=List.mem_of_mem_erase hx;have g:=h x c;have i:x≠n:=λe=>by subst e;exact absurd hx b.not_mem_erase
      omega)
    have c:=List.length_erase_of_mem hn;have g:0<l.length:=List.length_pos_of_mem hn;omega
   ·have:=d l b λx hx=>by
      have f:=h x hx;have c:x≠n:=λe=>by subst e;exact hn hx
      omega
    omega
theorem DK.Pe {n x b c:Nat} (e:∀b,G.node b->b<n) (h:DK G c x b) (j:n<=c):Qk G x b:=by
 intro l r f;obtain⟨d,r',a,g,i⟩:=f.simple;have k:=jy n d g λx hx=>e x (a.nodes x hx);have m:=a.short;exact i x (h d r' a (by omega))
theorem Inv.exact (a:Inv G I S k pos) {n:Nat} (c:∀b,G.node b->b<n) (d:n+1<=k) {x b:Nat} (hb:S b):ot I x b↔Qk G x b:=by
 refine⟨λh=>(a.Nh h hb).Pe c ?_,a.Pe b x hb⟩;split <;> omega
theorem Inv.stay (c:Inv G I S k pos) {n:Nat} (h:∀b,G.node b->b<n) (q:n+1<=k) {b d:Nat} (hb:G.node b) (h0:b≠0) (r:G.place b=pos) (f:∀p,S p->G.xZ p b->ot I d p) (a:∀x,(∀p,S p->G.xZ p b->ot I x p)->ot I x d) :
  S b/\d=I b:=by
 have s:=h 0 G.first;have g:S b:=c.all (by omega) b hb;obtain⟨i,A,t⟩:=c.Ld hb h0 r f a;obtain⟨j,l⟩:=c.tree.up b g h0;have m:I b≠b:=λe=>by rw[e]at l;omega
 have u:Qk G (I b) b:=(c.exact h q g).1 (.up h0 (.refl _));have v:ot I (I b) d:=a _ λp o w=>c.Pe p _ o (u.pred m w);have y:Qk G d b:=(i.exact h q (.inr rfl)).1 (.up h0 (by unfold Dm.set;rw[if_pos rfl];exact .refl _));have z:ot I d (I b):=(c.Pe b d g y).parent λe=>by subst e;omega
 exact⟨g,c.tree.Zj z v j⟩
end
def oZ (seen:List Bool)(b:Nat):Prop:=seen[b]? =some true
theorem Fh {seen:List Bool} {t b:Nat} (ht:t<seen.length):oZ (seen.set t true) b↔b=t\/oZ seen b:=by
 unfold oZ;rw[List.getElem?_set];by_cases h:t=b
 ·subst h;simp[ht]
 ·rw [if_neg h];constructor
  ·exact λh=> .inr h
  ·rintro(rfl|h')
   ·exact absurd rfl h
   ·exact h'
structure FX (n:Nat) (next:Nat->List Nat) (seen:List Bool) (post:List Nat) (stack:List (Nat×Nat)):Prop where
 len:seen.length=n
 low:∀b,b<n->∀t∈next b,t<n
 range:∀x∈stack,x.1<n/\x.2<=(next x.1).length
 pre:∀b∈post,b<n
 iff:∀b,oZ seen b↔b∈post\/b∈stack.map (·.1)
 nodup:(post++stack.map (·.1)).Nodup
 root:∀x s,stack=x::s->x.1=0
 last:stack=[]->∃p,post=p++[0]
 closed:∀b∈post,∀t∈next b,oZ seen t
 gone:∀x∈stack,∀j,j<x.2->∀t,(next x.1)[j]? =some t->oZ seen t
 Yd:∀s x y r,stack=s++x::y::r->y.1∈next x.1
 early:∀l b r,post=l++b::r->b=0\/∃p,b∈next p/\(p∈r\/p∈stack.map (·.1))
 zero:0 ∉ post\/stack=[]
section
variable{n:Nat}{next:Nat->List Nat}{seen:List Bool}{post:List Nat}{stack s:List (Nat×Nat)}{b i t:Nat}
theorem FX.start (a:0<n) (c:∀b,b<n->∀t∈next b,t<n):FX n next ((List.replicate n false).set 0 true) [] [(0,0)] where
 len:=by simp
 low:=c
 range:=λx hx=>by simp at hx;subst hx;exact⟨a,Gl _⟩
 pre:=λb hb=>by cases hb
 iff:=λb=>by
  rw[Fh (by simpa using a)];simp[oZ,VX]
 nodup:=by simp
 root:=λx s h=>by cases h;rfl
 last:=λh=>by cases h
 closed:=λb hb=>by cases hb
 gone:=λx hx j d=>by simp at hx;subst hx;exact absurd d (Y5 _)
 Yd:=λs x y r h=>by
  have:=congrArg List.length h;simp at this;omega
 early:=λl b r h=>by
  have:=congrArg List.length h;simp at this
 zero:= .inl (by simp)
theorem lR {α:Type} (l:List α):l=[]\/∃s x,l=s++[x]:=by
 rcases List.eq_nil_or_concat l with h|⟨s,x,h⟩
 ·exact .inl h
 ·exact .inr ⟨s,x,by rw[h,List.concat_eq_append]⟩
theorem yd {α:Type} {s a:List α} {x y:α} (h:s++[x]=a++[y]):s=a/\x=y:=by
 have:=List.append_inj_right' h rfl;have b:=List.append_inj_left' h rfl;simp at this;exact⟨b,this⟩
theorem FX.pop (a:FX n next seen post (s++[(b,i)])) (hi:i=(next b).length):FX n next seen (post++[b]) s where
 len:=a.len
 low:=a.low
 range:=λx hx=>a.range x (LC _ hx)
 pre:=λc hc=>by
  rcases xX.1 hc with hc|hc
  ·exact a.pre c hc
  ·simp at hc;subst hc;exact(a.range (c,i) (by simp)).1
 iff:=λc=>by
  rw[a.iff c];simp only[EV,PW,Qz,xX,EB];constructor
  ·rintro(h|h|h)
   ·exact .inl (.inl h)
   ·exact .inr h
   ·exact .inl (.inr h)
  ·rintro((h|h)|h)
   ·exact .inl h
   ·exact .inr (.inr h)
   ·exact .inr (.inl h)
 nodup:=by
  have:=a.nodup;simp only[EV,PW,Qz]at this;have v:(post++[b]++s.map (·.1)).Perm (post++(s.map (·.1)++[b])):=by
   rw[Cy];exact List.Perm.append_left _ List.perm_append_comm
  exact v.nodup_iff.2 this
 root:=λx r h=>a.root x (r++[(b,i)]) (by rw[h];rfl)
 last:=λh=>by
  subst h;have:=a.root (b,i) [] rfl;simp at this;subst this;exact⟨post,rfl⟩
 closed:=λc hc t ht=>by
  rcases xX.1 hc with hc|hc
  ·exact a.closed c hc t ht
  ·simp at hc;subst hc;obtain⟨j,q⟩:=mA.1 ht;have w:=(iB.1 q).1;exact a.gone (c,i) (by simp) j (by show j<i;omega) t q
 gone:=λx hx=>a.gone x (LC _ hx)
 Yd:=λe x y r h=>a.Yd e x y (r++[(b,i)]) (by rw[h];simp)
 early:=λl c r h=>by
  rcases lR r with rfl|⟨r',z,rfl⟩
  ·obtain⟨u,g⟩:=yd h;subst g;rcases lR s with rfl|⟨e,x,rfl⟩
   ·exact .inl (a.root (b,i) [] rfl)
   ·refine .inr ⟨x.1,a.Yd e x (b,i) [] (by simp),.inr (by simp)⟩
  ·have h':post++[b]=(l++c::r')++[z]:=by rw[h];simp
   obtain⟨u,g⟩:=yd h';subst g;rcases a.early l c r' u with h0|⟨p,m,d⟩
   ·exact .inl h0
   ·refine .inr ⟨p,m,?_⟩;rcases d with d|d
    ·exact .inl (by simp[d])
    ·simp only[EV,PW,Qz,xX,EB]at d;rcases d with d|d
     ·exact .inr d
     ·exact .inl (by simp[d])
 zero:=by
  rcases lR s with rfl|⟨e,x,rfl⟩
  ·exact .inr rfl
  ·refine .inl λh0=>?_;obtain⟨y,o,k⟩:∃y o,e++[x]=y::o:=by
    cases e with
    |nil=>exact⟨x,[],rfl⟩
    |cons y e=>exact⟨y,e++[x],rfl⟩
   have A:=a.root y (o++[(b,i)]) (by rw[k];rfl);have f:=a.nodup;rcases xX.1 h0 with h0|h0
   ·rcases a.zero with h|h
    ·exact h h0
    ·simp at h
   ·simp at h0;rw[k]at f;have:(0:Nat)=b:=h0;subst this;simp only[YO,PW,EV,Qz,A]at f;have g:=(Qh.1 f).2.1;have m:=(ZY.1 g).1;exact m (by simp)
theorem FX.skip (a:FX n next seen post (s++[(b,i)])) (ht:(next b)[i]? =some t) (hs:oZ seen t):FX n next seen post (s++[(b,i+1)]):=by
 have e:∀j:Nat,(s++[(b,j)]).map (λx:Nat×Nat=>x.1)=s.map (λx:Nat×Nat=>x.1)++[b]:=λj=>by simp
 refine⟨a.len,a.low,λx hx=>?_,a.pre,λc=>?_,?_,λx r h=>?_,λh=>by simp at h,a.closed,λx hx j p u k=>?_,λg x y r h=>?_,λl c r h=>?_,?_⟩
 ·rcases xX.1 hx with hx|hx
  ·exact a.range x (LC _ hx)
  ·simp at hx;subst hx;have:=a.range (b,i) (by simp);have m:=(iB.1 ht).1;exact⟨this.1,m⟩
 ·rw[e];have:=a.iff c;rw[e]at this;exact this
 ·rw[e];have:=a.nodup;rw[e]at this;exact this
 ·cases s with
  |nil=>simp at h;obtain⟨d,_⟩:=h;subst d;exact a.root (b,i) [] rfl
  | cons y s=>
    simp at h;obtain⟨d,o⟩:=h;subst d;exact a.root y (s++[(b,i)]) rfl
 ·rcases xX.1 hx with hx|hx
  ·exact a.gone x (LC _ hx) j p u k
  ·simp at hx;subst hx;have q:j<i+1:=p;by_cases hji:j=i
   ·subst hji;have f:(next b)[j]? =some u:=k;rw[ht]at f;cases f;exact hs
   ·exact a.gone (b,i) (by simp) j (by show j<i;omega) u k
 ·rcases lR r with rfl|⟨r',z,rfl⟩
  ·have h':s++[(b,i+1)]=(g++[x])++[y]:=by rw[h];simp
   obtain⟨d,o⟩:=yd h';subst o;exact a.Yd g x (b,i) [] (by rw[d];simp)
  ·have h':s++[(b,i+1)]=(g++x::y::r')++[z]:=by rw[h];simp
   obtain⟨d,o⟩:=yd h';exact a.Yd g x y (r'++[(b,i)]) (by rw[d];simp)
 ·rw[e];have:=a.early l c r h;rw[e]at this;exact this
 ·rcases a.zero with h|h
  ·exact .inl h
  ·simp at h
theorem FX.push (a:FX n next seen post (s++[(b,i)])) (ht:(next b)[i]? =some t) (hs:¬oZ seen t):FX n next (seen.set t true) post (s++[(b,i+1)]++[(t,0)]):=by
 have hb:=a.range (b,i) (by simp);have o:t<n:=a.low b hb.1 t (xQ ht);have g:∀c,oZ (seen.set t true) c↔c=t\/oZ seen c:=λc=>Fh (by rw[a.len];exact o);have w:(s++[(b,i+1)]++[(t,0)]).map (λx:Nat×Nat=>x.1)=(s++[(b,i)]).map (λx:Nat×Nat=>x.1)++[t]:=by simp
 have A:=(iB.1 ht).1;refine⟨by simp[a.len],a.low,λx hx=>?_,a.pre,λc=>?_,?_,λx r h=>?_,λh=>by simp at h,λc hc u q=>(g u).2 (.inr (a.closed c hc u q)),λx hx j B u q=>?_,λm x y r h=>?_,λl c r h=>?_,?_⟩
 ·rcases xX.1 hx with hx|hx
  ·rcases xX.1 hx with hx|hx
   ·exact a.range x (LC _ hx)
   ·simp at hx;subst hx;exact⟨hb.1,A⟩
  ·simp at hx;subst hx;exact⟨o,Gl _⟩
 ·rw [g,w,a.iff c,xX];simp only[EB];constructor
  ·rintro(h|h|h)
   ·exact .inr (.inr h)
   ·exact .inl h
   ·exact .inr (.inl h)
  ·rintro(h|h|h)
   ·exact .inr (.inl h)
   ·exact .inr (.inr h)
   ·exact .inl h
 ·rw[w,<-Cy];refine Qh.2 ⟨a.nodup,by simp,λx hx y D e=>?_⟩;simp at D;subst D;subst e;refine hs ((a.iff x).2 ?_);exact xX.1 hx
 ·cases s with
  | nil=>
    simp at h;obtain⟨f,_⟩:=h;subst f
    exact a.root (b,i) [] rfl
  | cons y s=>
    simp at h;obtain⟨f,C⟩:=h;subst f;exact a.root y (s++[(b,i)]) rfl
 ·refine (g u).2 ?_;rcases xX.1 hx with hx|hx
  ·rcases xX.1 hx with hx|hx
   ·exact .inr (a.gone x (LC _ hx) j B u q)
   ·simp at hx;subst hx;have F:j<i+1:=B;by_cases hji:j=i
    ·subst hji;have v:(next b)[j]? =some u:=q;rw[ht]at v;cases v;exact .inl rfl
    ·exact .inr (a.gone (b,i) (by simp) j (by show j<i;omega) u q)
  ·simp at hx;subst hx;exact absurd B (Y5 _)
 ·rcases lR r with rfl|⟨r',z,rfl⟩
  ·have h':s++[(b,i+1)]++[(t,0)]=(m++[x])++[y]:=by rw[h];simp
   obtain⟨f,C⟩:=yd h';obtain⟨_,k⟩:=yd f;subst C;subst k;exact xQ ht
  ·have h':s++[(b,i+1)]++[(t,0)]=(m++x::y::r')++[z]:=by rw[h];simp
   obtain⟨f,C⟩:=yd h';rcases lR r' with rfl|⟨r2,G,rfl⟩
   ·have k:s++[(b,i+1)]=(m++[x])++[y]:=by rw[f];simp
    obtain⟨d,E⟩:=yd k;subst E;exact a.Yd m x (b,i) [] (by rw[d];simp)
   ·have k:s++[(b,i+1)]=(m++x::y::r2)++[G]:=by rw[f];simp
    obtain⟨d,E⟩:=yd k;exact a.Yd m x y (r2++[(b,i)]) (by rw[d];simp)
 ·rcases a.early l c r h with h0|⟨p,k,d⟩
  ·exact .inl h0
  ·refine .inr ⟨p,k,?_⟩;rw[w];rcases d with d|d
   ·exact .inl d
   ·exact .inr (LC _ d)
 ·rcases a.zero with h|h
  ·exact .inl h
  ·simp at h
end
def cost (n:Nat)(f:Nat->Nat):Nat:=((List.range n).map f).sum
theorem DP (n:Nat) (f:Nat->Nat):cost (n+1) f=cost n f+f n:=by
 unfold cost;rw[UD,EV,List.sum_append];simp
theorem SN (n:Nat) (f g:Nat->Nat) (h:∀b,b<n->f b=g b):cost n f=cost n g:=by
 induction n with
 |zero=>rfl
 |succ n a=>rw[DP,DP,a λb hb=>h b (by omega),h n (by omega)]
theorem TI (n:Nat) (f g:Nat->Nat) (t:Nat) (ht:t<n) (h0:g t=0) (h:∀b,b≠t->g b=f b):cost n g+f t=cost n f:=by
 induction n with
 |zero=>omega
 | succ n a=>
   rw[DP,DP];by_cases hn:t=n
   ·subst hn
    rw[SN t g f λb hb=>h b (by omega),h0];omega
   ·have:=a (by omega)
    rw[h n (λe=>hn e.symm)];omega
noncomputable def left (next:Nat->List Nat)(seen:List Bool)(b:Nat):Nat:=if seen[b]? =some true then 0 else 2+(next b).length
def Ru (next:Nat->List Nat)(stack:List (Nat×Nat)):Nat:=(stack.map λx=>1+((next x.1).length-x.2)).sum
noncomputable def mu (n:Nat)(next:Nat->List Nat)(seen:List Bool)(stack:List (Nat×Nat)):Nat:=cost n (left next seen)+Ru next stack
section
variable{n:Nat}{next:Nat->List Nat}{seen:List Bool}{post:List Nat}{s:List (Nat×Nat)}{b i t:Nat}
theorem vK (x:Nat×Nat):Ru next (s++[x])=Ru next s+(1+((next x.1).length-x.2)):=by
 unfold Ru;rw[EV,List.sum_append];simp
theorem YG:mu n next seen s<mu n next seen (s++[(b,i)]):=by
 unfold mu;rw[vK];omega
theorem WX (ht:(next b)[i]? =some t):mu n next seen (s++[(b,i+1)])<mu n next seen (s++[(b,i)]):=by
 have a:=(iB.1 ht).1;unfold mu;rw[vK,vK];show _+(_+(1+((next b).length-(i+1))))<_+(_+(1+((next b).length-i)))
 omega
theorem Xi (e:FX n next seen post (s++[(b,i)])) (ht:(next b)[i]? =some t) (hs:¬oZ seen t):mu n next (seen.set t true) (s++[(b,i+1)]++[(t,0)])<mu n next seen (s++[(b,i)]):=by
 have hb:=e.range (b,i) (by simp);have a:t<n:=e.low b hb.1 t (xQ ht);have f:=(iB.1 ht).1;have d:∀c,oZ (seen.set t true) c↔c=t\/oZ seen c:=λc=>Fh (by rw[e.len];exact a);have g:left next (seen.set t true) t=0:=by
  unfold left;exact if_pos ((d t).2 (.inl rfl))
 have j:∀c,c≠t->left next (seen.set t true) c=left next seen c:=λc hc=>by
  have:=d c;unfold oZ at this;unfold left;by_cases h:seen[c]? =some true
  ·rw[if_pos h,if_pos (this.2 (.inr h))]
  ·rw[if_neg h,if_neg (λh'=>(this.1 h').elim hc h)]
 have k:=TI n (left next seen) (left next (seen.set t true)) t a g j;have l:left next seen t=2+(next t).length:=by
  unfold left;exact if_neg hs
 unfold mu;rw[vK,vK,vK];show cost n (left next (seen.set t true))+(_+(1+((next b).length-(i+1)))+(1+((next t).length-0)))<_+(_+(1+((next b).length-i)))
 omega
end
theorem sub_le:∀(l b:List Nat),l.Nodup->(∀x∈l,x∈b)->l.length<=b.length
 |[],_,_,_=>Gl _
 | a ::l,b,hd,h=>by
   have f:=h a (.head _);have c:=ZY.1 hd;have g:=sub_le l (b.erase a) c.2 λx hx=>by
     have d:x≠a:=λe=>by subst e;exact c.1 hx
     exact(List.mem_erase_of_ne d).2 (h x (.tail _ hx))
   have i:=List.length_erase_of_mem f;have j:0<b.length:=List.length_pos_of_mem f;simp only[CM];omega
theorem Ic:∀(l:List Nat) (a:Nat),a∈l->l[l.idxOf a]? =some a
 |[],_,h=>by cases h
 | b ::l,a,h=>by
   rw[List.idxOf_cons];by_cases hb:b=a
   ·subst hb;simp
   ·have c:(b == a)=false:=by simpa using hb
    rw[c];rcases CL.1 h with rfl|h
    ·exact absurd rfl hb
    ·exact Ic l a h
theorem VY (l r:List Nat) (b:Nat) (h:b ∉ l):(l++b::r).idxOf b=l.length:=by
 rw[ZJ];rw[if_neg h];simp
theorem Vq (l r:List Nat) (p:Nat) (h:p∈l):(l++r).idxOf p<l.length:=by
 rw[ZJ,if_pos h];exact wBw h
section
variable{n:Nat}{next:Nat->List Nat}{seen:List Bool}{post:List Nat}
def FX.gr (f:FX n next seen post []):Gr where
 node b:=b∈post
 xZ a b:=b∈next a
 place b:=post.reverse.idxOf b
 first:=by obtain⟨p,h⟩:=f.last rfl;rw[h];simp
 B8:=by obtain⟨p,h⟩:=f.last rfl;rw[h];simp
 inj a b ha hb h:=by
  have g:=Ic _ _ (VB.2 ha);have i:=Ic _ _ (VB.2 hb);rw[h,i]at g;exact(Option.some.inj g).symm
 to a b ha he:=by
  have:=(f.iff b).1 (f.closed a ha b he);simpa using this
 early b hb h0:=by
  obtain⟨l,r,h⟩:=List.append_of_mem hb;rcases f.early l b r h with h'|⟨p,g,i⟩
  ·exact absurd h' h0
  ·have j:p∈r:=by simpa using i
   refine ⟨p,by rw[h];simp[j],g,?_⟩;have c:=f.nodup;simp only[Qz,Co]at c;rw[h]at c;have d:b ∉ r:=λd=>by
    have:=(Qh.1 c).2.1;exact(ZY.1 this).1 d
   rw[h,List.reverse_append,List.reverse_cons,Cy];have e:([b]++l.reverse:List Nat)=b::l.reverse:=rfl;rw[e,VY _ _ _ (λhx=>d (VB.1 hx))];exact Vq _ _ _ (VB.2 j)
theorem FX.all (d:FX n next seen post []) (a:∀b,b<n->b∈post):post.length=n:=by
 have c:=d.nodup;simp only[Qz,Co]at c;have f:=jy n post c d.pre;have e:=sub_le (List.range n) post List.nodup_range λx hx=>a x (Px.1 hx);rw[VO]at e;omega
end
end Go.Proofs.YtpnddokajmjpbaaDoor.Dm
namespace Go.Proofs.YtpnddokajmjpbaaDoor.Un
open Go.Proofs.YtpnddokajmjpbaaDoor.Dm
structure Vl where
 op:Nat
 a:Nat
 b:Nat
 n:Int
 args:List Nat
 state:Nat
structure Bk where
 ee:List Nat
 fin:Nat
 cond:Nat
 next:List Nat
 fe:List Nat
 state:Nat
structure Fm where
 func:Int
 pc:Int
 locals:List Nat
 stack:List Nat
structure U where
 func:Int
 pc:Int
 ee:List Vl
 blocks:List Bk
 eh:List (List Fm)
def two (op:Nat):Bool:=(3<=op&&op<=7) ||(10<=op&&op<=14) ||op == 18 ||op == 19 ||op == 20
def uD (op:Nat):Bool:=op == 8 ||op == 9 ||op == 15 ||op == 16 ||op == 17 ||op == 22
def gJ (v:Vl):List Nat:=
 if v.op=21 then v.args else if v.op=20 then v.a::v.b::v.args.take 1 else if two v.op=true then[v.a,v.b] else if uD v.op=true then[v.a] else[]
def EM (op:Nat):Bool:=op<19 ||op == 21
def leaves (op:Nat):Bool:=op == 22 ||op == 23
def iG (op:Nat):Bool:=op == 1 ||op == 21
def ie (s:List Fm):List Nat:=s.flatMap λf=>f.locals++f.stack
def next (u:U) (b:Nat):List Nat:=match u.blocks[b]? with
 |some B=>B.next
 |none=>[]
def kh (l:List Bk) (i b:Nat):List Nat:=match l with
 |[]=>[]
 |B::l=>(B.next.filter (·= b)).map (λ_=>i)++kh l (i+1) b
def ahead (u:U)(b:Nat):List Nat:=kh u.blocks 0 b
inductive Pt (nx:Nat->List Nat):Nat->List Nat->Prop
 |nil:Pt nx 0 [0]
 |step {p b:Nat} {l:List Nat} (h:Pt nx p l) (e:b∈nx p):Pt nx b (b::l)
def mg (nx:Nat->List Nat)(x b:Nat):Prop:=∀l,Pt nx b l->x∈l
def At (u:U)(v b k:Nat):Prop:=∃B,u.blocks[b]? =some B/\B.ee[k]? =some v
def tI (u:U)(v:Nat):Prop:=∃x,u.ee[v]? =some x/\EM x.op=true
def Sb (u:U)(v b k:Nat):Prop:=∃c j,At u v c j/\(c=b/\j<k\/c≠b/\mg (next u) c b)
def ye (u:U)(v b:Nat):Prop:=∃c j,At u v c j/\mg (next u) c b
structure Good (u:U):Prop where
 nv:u.ee.length<=3000
 Ju:1<=u.blocks.length
 nb:u.blocks.length<=300
 ns:u.eh.length<=1000
 st:∀(s:Nat) (fs:List Fm),u.eh[s]? =some fs->1<=fs.length/\fs.length<=30/\∀f∈fs,f.locals.length<=40/\f.stack.length<=60/\(∀v∈f.locals,tI u v)/\∀v∈f.stack,tI u v
 AB:∀(v:Nat),v<u.ee.length->∃b k,At u v b k
 EI:∀(v:Nat) (b:Nat) (k:Nat) (a:Nat) (k':Nat),At u v b k->At u v a k'->b=a/\k=k'
 l0:∀(v:Nat) (b:Nat) (k:Nat),At u v b k->v<u.ee.length
 G1:∀(v:Nat) (w:Nat) (b:Nat) (k:Nat) (x:Vl) (y:Vl),At u v b (k+1)->At u w b k->u.ee[v]? =some x->u.ee[w]? =some y->iG x.op=true->iG y.op=true
 par:∀(v:Nat) (b:Nat) (k:Nat) (x:Vl),At u v b k->u.ee[v]? =some x->x.op=1->b=0
 IE:∀(v:Nat) (b:Nat) (k:Nat) (x:Vl) (B:Bk),At u v b k->u.ee[v]? =some x->x.op=21->u.blocks[b]? =some B->b≠0/\x.args.length=B.fe.length
 op:∀(v:Nat) (x:Vl),u.ee[v]? =some x->1<=x.op/\x.op<=23
 use:∀(v:Nat) (x:Vl),u.ee[v]? =some x->∀w∈gJ x,tI u w
 leave:∀(v:Nat) (x:Vl),u.ee[v]? =some x->leaves x.op=true->x.state<u.eh.length
 putAt:∀(v:Nat) (x:Vl),u.ee[v]? =some x->x.op=20->x.args.length=1
 param:∀(v:Nat) (x:Vl),u.ee[v]? =some x->x.op=1->0<=x.n/\x.n<40/\∀(w:Nat) (y:Vl),u.ee[w]? =some y->y.op=1->y.n=x.n->w=v
 fin:∀(b:Nat) (B:Bk),u.blocks[b]? =some B->(B.fin=1/\B.next.length=1)\/(B.fin=2/\B.next.length=2/\tI u B.cond)\/(B.fin=3/\B.next=[]/\B.state<u.eh.length)
 nx:∀(b:Nat),∀t∈next u b,t<u.blocks.length
 fe:∀(b:Nat) (B:Bk),u.blocks[b]? =some B->B.fe=ahead u b
 Dj:ahead u 0=[]
 Hg:∀(b:Nat) (B:Bk),u.blocks[b]? =some B->B.fin=2->∀t∈B.next,(ahead u t).length=1
 reach:∀(b:Nat),b<u.blocks.length->∃l,Pt (next u) b l
 IB:∀(v:Nat) (b:Nat) (k:Nat) (x:Vl),At u v b k->u.ee[v]? =some x->x.op≠21->∀w∈gJ x,Sb u w b k
 JU:∀(v:Nat) (b:Nat) (k:Nat) (x:Vl) (B:Bk),At u v b k->u.ee[v]? =some x->x.op=21->u.blocks[b]? =some B->∀(j w p:Nat),x.args[j]? =some w->B.fe[j]? =some p->ye u w p
 J4:∀(v:Nat) (b:Nat) (k:Nat) (x:Vl) (fs:List Fm),At u v b k->u.ee[v]? =some x->leaves x.op=true->u.eh[x.state]? =some fs->∀w∈ie fs,Sb u w b k
 JA:∀(b:Nat) (B:Bk),u.blocks[b]? =some B->B.fin=2->ye u B.cond b
 J2:∀(b:Nat) (B:Bk) (fs:List Fm),u.blocks[b]? =some B->B.fin=3->u.eh[B.state]? =some fs->∀w∈ie fs,ye u w b
theorem Gq {nx:Nat->List Nat} {D:Nat->Nat} (hc:∀p b,b∈nx p->b≠0->ot D (D b) p) {x:Nat}:∀{b l},Pt nx b l->ot D x b->x∈l
 | _,_,.nil,h=>by
   cases h with
   |refl=>exact .head _
   |up h0 _=>exact absurd rfl h0
 | _,_,.step (p:=p) h e,hx=>by
   cases hx with
   |refl=>exact .head _
   |up h0 hx=>exact .tail _ (Gq hc h (hx.trans (hc _ _ e h0)))
theorem mg.self (nx:Nat->List Nat)(b:Nat):mg nx b b:=λl h=>by cases h <;> exact .head _
theorem TA {G:Gr} {nx:Nat->List Nat} (c:∀a b,G.xZ a b↔b∈nx a):∀{b l r},Pa G b l r->Pt nx b l
 |_,_,_,.nil=> .nil
 |_,_,_,.fwd h e _=> .step (TA c h) ((c _ _).1 e)
 |_,_,_,.bwd h e _=> .step (TA c h) ((c _ _).1 e)
theorem XI {G:Gr} {nx:Nat->List Nat} (c:∀a b,G.xZ a b↔b∈nx a):∀{b l},Pt nx b l->∃r,Pa G b l r
 |_,_,.nil=>⟨0,.nil⟩
 | _,_,.step h e=>by
   obtain⟨r,d⟩:=XI c h;obtain⟨r',_,_,hs⟩:=d.step ((c _ _).2 e);exact⟨r',hs⟩
theorem Vr {G:Gr} {nx:Nat->List Nat} (d:∀a b,G.xZ a b↔b∈nx a) {x b:Nat}:mg nx x b↔Qk G x b:=
 ⟨λh l r c=>h l (TA d c),λh l c=>let⟨r,hr⟩:=XI d c;h l r hr⟩
theorem tf {b p:Nat}:∀{l:List Bk} {i:Nat},p∈kh l i b↔∃k B,l[k]? =some B/\b∈B.next/\p=i+k
 |[],i=>by simp[kh]
 | B ::l,i=>by
   simp only[kh,xX,K2,NA,DY,tf (l:=l)];constructor
   ·rintro (⟨t,⟨a,c⟩,d⟩|⟨k,e,a,c,d⟩)
    ·subst c
     exact⟨0,B,rfl,a,d.symm⟩
    ·exact⟨k+1,e,a,c,by omega⟩
   ·rintro ⟨k,e,a,c,d⟩
    cases k with
    | zero=>
      obtain rfl:B=e:=by simpa using a
      exact .inl ⟨b,⟨c,rfl⟩,d.symm⟩
    |succ k=>exact .inr ⟨k,e,by simpa using a,c,by omega⟩
theorem Eo {u:U} {b p:Nat}:p∈ahead u b↔b∈next u p:=by
 unfold ahead next
 rw[tf];constructor
 ·rintro⟨k,B,a,c,e⟩;have:p=k:=by omega
  subst this;rw[a];exact c
 ·intro h;split at h
  ·rename_i B d;exact⟨p,B,d,h,by omega⟩
  ·cases h
theorem yu {b:Nat}:∀(l m:List Bk) (i:Nat),kh (l++m) i b=kh l i b++kh m (i+l.length) b
 |[],m,i=>by simp[kh]
 | B::l,m,i=>by
   simp only[YO,kh,yu l m (i+1),CM,Cy];rw[show i+1+l.length=i+(l.length+1) by omega]
def lg (n:Int)(m:Nat):Nat:=(if n.tmod m<0 then n.tmod m+m else n.tmod m).toNat
theorem Gp (n:Int) {m:Nat} (a:0<m):lg n m<m:=by
 have c:=Int.tmod_lt_of_pos n (b:=(m:Int)) (by omega);have d : -(m:Int)<n.tmod m:=by
  have:=Int.tmod_lt_of_pos (-n) (b:=(m:Int)) (by omega);rw[Int.neg_tmod]at this;omega
 unfold lg;split <;> omega
structure Ds where
 ee:List Vl
 cur:List Nat
 known:List Nat
 eh:List (List Fm)
 pos:Nat
def draw (ops:List Int) (pos m:Nat):Nat×Nat:=match ops[pos]? with
 |none=>(0,pos)
 |some n=>(lg n m,pos+1)
theorem vY (ops:List Int) (pos:Nat) {m:Nat} (a:0<m):(draw ops pos m).1<m:=by
 unfold draw;split
 ·exact a
 ·exact Gp _ a
def vl (op a b:Nat)(n:Int)(args:List Nat)(state:Nat):Vl:=⟨op,a,b,n,args,state⟩
def put (s:Ds)(v:Vl):Ds:={s with ee:=s.ee++[v],cur:=s.cur++[s.ee.length]}
def il (s:Ds)(v:Vl):Ds:={s with ee:=s.ee++[v],cur:=s.cur++[s.ee.length],known:=s.known++[s.ee.length]}
def fy (ops:List Int)(s:Ds):Nat×Ds:=(s.known.getD (draw ops s.pos s.known.length).1 0,{s with pos:=(draw ops s.pos s.known.length).2})
def num (ops:List Int)(s:Ds)(m:Nat):Nat×Ds:=((draw ops s.pos m).1,{s with pos:=(draw ops s.pos m).2})
def some_ (ops:List Int):Nat->Ds->List Nat->List Nat×Ds
 |0,s,l=>(l,s)
 |i+1,s,l=>some_ ops i (fy ops s).2 (l++[(fy ops s).1])
def fw (ops:List Int) (s:Ds):Nat×Ds:=
 let r:=num ops s 4
 let q:=some_ ops r.1 r.2 []
 (s.eh.length,{q.2 with eh:=s.eh++[[⟨1,(s.eh.length:Nat),q.1,[s.known.getLastD 0]⟩]]})
def qK (ops:List Int) (s:Ds) (k a b:Nat):Ds:=
 if k<12 then il s (vl (3+k) a b 0 [] 0)
 else if k=12 then let r:=num ops s 1048576;il r.2 (vl 2 0 0 ((r.1:Int)-9) [] 0)
 else if k=13 then let r:=num ops s 5;il r.2 (vl 17 a 0 (r.1:Nat) [] 0)
 else if k=14 then il s (vl 18 a b 0 [] 0)
 else if k=15 then let r:=num ops s 5;put r.2 (vl 19 a b (r.1:Nat) [] 0)
 else if k=16 then let r:=fy ops s;put r.2 (vl 20 a b 0 [r.1] 0)
 else if k=17 then let r:=fw ops s;put r.2 (vl 22 a 0 0 [] r.1)
 else if k=18 then let r:=fw ops s;put r.2 (vl 23 0 0 0 [] r.1)
 else let r:=num ops s 2;il r.2 (vl (15+r.1) a 0 0 [] 0)
def su (ops:List Int) (s:Ds):Ds:=
 let r:=fy ops s
 let q:=fy ops r.2
 let k:=num ops q.2 20
 qK ops k.2 k.1 r.1 q.1
def rows (ops:List Int):Nat->Ds->Ds
 |0,s=>s
 |i+1,s=>if s.ee.length<200 then rows ops i (su ops s) else s
def row (ops:List Int)(s:Ds):Ds:=let r:=num ops s 6;rows ops (1+r.1) r.2
structure Dt where
 s:Ds
 blocks:List Bk
 fe:List Nat
def end_ (t:Dt) (fin cond:Nat) (nx:List Nat) (state:Nat) (fe:List Nat):Dt:=
 {s:={t.s with cur:=[]},blocks:=t.blocks++[⟨t.s.cur,fin,cond,nx,t.fe,state⟩],fe:=fe}
def cut (n:Nat)(s:Ds):Ds:={s with known:=s.known.take n}
def setArgs (s:Ds)(v:Nat)(args:List Nat):Ds:={s with ee:=s.ee.modify v λx=>{x with args:=args} }
def fork (ops:List Int) (t:Dt):Dt:=
 let c:=fy ops t.s
 let b:=t.s.known.length
 let a:=t.blocks.length
 let d:=end_ {t with s:=c.2} 2 c.1 [a+1,a+2] 0 [a]
 let e:=row ops d.s
 let x:=e.known.getLastD 0
 let f:=end_ {d with s:=cut b e} 1 0 [a+3] 0 [a]
 let g:=row ops f.s
 let y:=g.known.getLastD 0
 let h:=end_ {f with s:=cut b g} 1 0 [a+3] 0 [a+1,a+2]
 {h with s:=row ops (il h.s (vl 21 0 0 0 [x,y] 0))}
def loop (ops:List Int) (t:Dt):Dt:=
 let f:=fy ops t.s
 let a:=t.blocks.length
 let c:=end_ {t with s:=f.2} 1 0 [a+1] 0 [a,a+2]
 let p:=c.s.ee.length
 let n:=put c.s (vl 21 0 0 0 [f.1,0] 0)
 let g:=fy ops n
 let i:=put g.2 (vl 21 0 0 0 [g.1,p] 0)
 let o:={i with known:=i.known++[p,p+1]}
 let st:=fw ops o
 let j:=put st.2 (vl 23 0 0 0 [] st.1)
 let one:=j.ee.length
 let q:=put j (vl 2 0 0 1 [] 0)
 let k:=il q (vl 4 p one 0 [] 0)
 let l:=end_ {c with s:=k} 2 p [a+2,a+3] 0 [a+1]
 let b:=k.known.length
 let e:=row ops l.s
 let r:=setArgs e p [f.1,one+1]
 let d:=num ops r 3
 let u:=if d.1=0 then setArgs d.2 p [f.1,e.known.getLastD 0] else d.2
 let h:=setArgs u (p+1) [g.1,e.known.getLastD 0]
 let m:=end_ {l with s:=cut b h} 1 0 [a+1] 0 [a+1]
 {m with s:=row ops m.s}
def we (ops:List Int) (t:Dt):Dt:=
 let c:=fy ops t.s
 let b:=t.s.known.length
 let a:=t.blocks.length
 let d:=end_ {t with s:=c.2} 2 c.1 [a+1,a+2] 0 [a]
 let f:=row ops d.s
 let st:=fw ops f
 let e:=end_ {d with s:=cut b st.2} 3 0 [] st.1 [a]
 {e with s:=row ops e.s}
def sy (ops:List Int)(k:Nat)(t:Dt):Dt:=if k=0 then fork ops t else if k=1 then loop ops t else we ops t
def kG (ops:List Int):List Int->Dt->Dt
 |[],t=>t
 |k::l,t=>if t.s.ee.length<160 then kG ops l (sy ops (lg k 3) t) else t
def params:Nat->Nat->Ds->Ds
 |0,_,s=>s
 |n+1,i,s=>params n (i+1) (il s (vl 1 0 0 (i:Nat) [] 0))
def GG (ops a:List Int) (n:Int):U:=
 let s:=row ops (il (params (lg n 5) 0 ⟨[],[],[],[],0⟩) (vl 2 0 0 5 [] 0))
 let t:=kG ops (a.take 6) ⟨s,[],[]⟩
 let st:=fw ops t.s
 let b:=end_ {t with s:=st.2} 3 0 [] st.1 []
 ⟨1,2,b.s.ee,b.blocks,b.s.eh⟩
