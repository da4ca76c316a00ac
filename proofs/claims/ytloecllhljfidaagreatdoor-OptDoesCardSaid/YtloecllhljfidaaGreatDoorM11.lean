/- Parts. -/
import Derived.Test.YtloecllhljfidaaGreatDoorM00
import Derived.Calls
set_option maxHeartbeats 4000000
namespace Go.Proofs.YtloecllhljfidaaGreatDoor.Dm
structure Gr where
 node:Nat->Prop
 BK:Nat->Nat->Prop
 place:Nat->Nat
 first:node 0
 ES:place 0=0
 inj:∀a b,node a->node b->place a=place b->a=b
 to:∀a b,node a->BK a b->node b
 early:∀b,node b->b≠0->∃p,node p/\BK p b/\place p<place b
inductive Pa (G:Gr):Nat->List Nat->Nat->Prop
 |nil:Pa G 0 [0] 0
 |fwd {p b:Nat} {l:List Nat} {r:Nat} (h:Pa G p l r) (e:G.BK p b) (hp:G.place p<G.place b):Pa G b (b::l) r
 |bwd {p b:Nat} {l:List Nat} {r:Nat} (h:Pa G p l r) (e:G.BK p b) (hp:¬G.place p<G.place b):Pa G b (b::l) (r+1)
def YV(G:Gr)(x b:Nat):Prop:=∀l r,Pa G b l r->x∈l
def DK(G:Gr)(k x b:Nat):Prop:=∀l r,Pa G b l r->r<k->x∈l
variable{G:Gr}
theorem Pa.node:∀{b l r},Pa G b l r->G.node b
 |_,_,_,.nil=>G.first
 |_,_,_,.fwd h e _=>G.to _ _ h.node e
 |_,_,_,.bwd h e _=>G.to _ _ h.node e
theorem Pa.last:∀{b l r},Pa G b l r->b∈l
 |_,_,_,.nil=> .head _
 |_,_,_,.fwd _ _ _=> .head _
 |_,_,_,.bwd _ _ _=> .head _
theorem Pa.step{p b:Nat} {l:List Nat} {r:Nat} (h:Pa G p l r) (e:G.BK p b):∃r',r'<=r+1/\(G.place p<G.place b->r' = r)/\Pa G b (b::l) r':=by
 by_cases hp:G.place p<G.place b
 ·exact⟨r,PH _,λ_=>rfl,.fwd h e hp⟩
 ·exact⟨r+1,iZ _,by omega,.bwd h e hp⟩
theorem za3(n:Nat):∀b,G.node b->G.place b<n->∃l,Pa G b l 0/\∀x∈l,G.node x/\G.place x<=G.place b:=by
 induction n with
 |zero=>omega
 | succ n a=>
   intro b hb c;by_cases h0:b=0
   ·subst h0
    exact⟨[0],.nil,by simp_all⟩
   ·let⟨p,hp,he,Nr⟩:=G.early b hb h0
    let⟨l,hl,hx⟩:=a p hp (by omega)
    refine⟨b::l,.fwd hl he Nr,λx h=>?_⟩
    grind
theorem Pa.pre:∀{b l r},Pa G b l r->∀{x},x∈l->∃a r',Pa G x a r'/\r'<=r/\∀y∈a,y∈l
 |_,_,_,.nil,x,hx=>by simp at hx;subst hx;exact⟨[0],0,.nil,iZ _,λy h=>h⟩
 | b,_,_,.fwd h e hp,x,hx=>by
   rcases Ki.1 hx with rfl|hx
   ·exact⟨_,_,.fwd h e hp,iZ _,λy h=>h⟩
   ·let⟨a,r',c,d,f⟩:=h.pre hx
    grind
 | b,_,_,.bwd h e hp,x,hx=>by
   rcases Ki.1 hx with rfl|hx
   ·exact⟨_,_,.bwd h e hp,iZ _,λy h=>h⟩
   ·let⟨a,r',c,d,f⟩:=h.pre hx
    grind
theorem DK.mono{x b k k':Nat}(h:DK G k x b)(hk:k'<=k):DK G k' x b:=λl r hp a=>h l r hp (by omega)
theorem DK.trans{x y b k:Nat} (a:DK G k x y) (c:DK G k y b):DK G k x b:=by
 intro l r hp d
 let⟨l',r',e,g,f⟩:=hp.pre (c l r hp d)
 exact f x (a l' r' e (by omega))
theorem DK.self(k b:Nat):DK G k b b:=λ_ _ hp _=>hp.last
theorem YV.pred{x p b:Nat} (h:YV G x b) (hx:x≠b) (e:G.BK p b):YV G x p:=by
 intro l r hp
 let⟨r',_,_,hs⟩:=hp.step e
 rcases Ki.1 (h _ _ hs)with rfl|h
 ·omega
 ·exact h
inductive qD (I:Nat->Nat):Nat->Nat->Prop
 |refl (b:Nat):qD I b b
 |up {a b:Nat} (h0:b≠0) (h:qD I a (I b)):qD I a b
theorem qD.trans{I:Nat->Nat} {a b c:Nat} (d:qD I a b) (e:qD I b c):qD I a c:=by
 induction e with
 |refl=>exact d
 |up h0 _ f=>exact .up h0 f
theorem qD.parent{I:Nat->Nat} {a b:Nat} (h:qD I a b) (c:a≠b):qD I a (I b):=by
 cases h with
 |refl=>omega
 |up _ h=>exact h
def set(I:Nat->Nat)(b d:Nat):Nat->Nat:=λx=>if x=b then d else I x
structure Tree (G:Gr) (I:Nat->Nat) (S:Nat->Prop):Prop where
 zero:S 0
 node:∀b,S b->G.node b
 up:∀b,S b->b≠0->S (I b)/\G.place (I b)<G.place b
section
variable{I:Nat->Nat}{S:Nat->Prop}
theorem Tree.anc(c:Tree G I S) {a b:Nat} (h:qD I a b):S b->S a/\G.place a<=G.place b:=by
 induction h with
 |refl=>simp_all
 | up h0 _ d=>
   intro hb
   let⟨e,f⟩:=c.up _ hb h0
   grind
theorem Tree.VY(c:Tree G I S) {a b:Nat} (e:qD I a b) (hb:qD I b a) (h:S b):a=b:=by
 have d:=c.anc e h;have f:=c.anc hb d.1;exact G.inj _ _ (c.node _ d.1) (c.node _ h) (by omega)
theorem Tree.zc7(c:Tree G I S) {a b x:Nat} (g:S a) (hb:S b) (d:G.place b<G.place a) (hx:qD I x a) (f:qD I x b):qD I x (I a):=by
 refine hx.parent λe=>?_;subst e;have:=(c.anc f hb).2;omega
theorem qD.zbZ{b d:Nat} (f:Tree G I S) {a c:Nat} (h:qD I a c):S c->G.place c<G.place b->qD (set I b d) a c:=by
 induction h with
 |refl=>exact λ_ _=> .refl _
 | up h0 _ g=>
   rename_i c _;intro hc i;have e:c≠b:=by grind
   let⟨j,k⟩:=f.up _ hc h0
   refine .up h0 ?_;unfold Dm.set;rw[if_neg e];exact g j (by omega)
end
structure Inv (G:Gr) (I:Nat->Nat) (S:Nat->Prop) (k pos:Nat):Prop where
 tree:Tree G I S
 one:1<=k
 zgR:1<=pos
 done:∀b,G.node b->G.place b<pos->S b
 all:2<=k->∀b,G.node b->S b
 fresh:k=1->∀b,S b->G.place b<pos
 low:∀b,S b->b≠0->DK G (if G.place b<pos then k else k-1) (I b) b
 Uz:∀y x,S y->YV G x y->qD I x y
section
variable{I:Nat->Nat}{S:Nat->Prop}{k pos:Nat}
theorem Inv.kb(a:Inv G I S k pos) {b:Nat} (hb:S b):1<=(if G.place b<pos then k else k-1):=by
 have:=a.one;split
 ·omega
 ·rename_i h;by_cases c:k=1
  ·exact absurd (a.fresh c b hb) h
  ·omega
theorem Inv.Rj(c:Inv G I S k pos) {a b:Nat} (h:qD I a b):S b->DK G (if G.place b<pos then k else k-1) a b:=by
 induction h with
 |refl=>grind[DK.self]
 | up h0 _ d=>
   rename_i b _;intro hb
   let⟨e,f⟩:=c.tree.up _ hb h0
   refine DK.trans (DK.mono (d e) ?_) (c.low b hb h0)
   grind
theorem Pa.swap:∀{y d r0},Pa G y d r0->r0=0->∀{z l r},z∈d->Pa G z l r->∃a r',Pa G y a r'/\G.place z<=G.place y/\∀w∈a,w∈l\/G.place z<G.place w
 | _,_,_,.nil,_,z,l,r,c,hp=>by
   grind
 | _,_,_,.fwd (b:=b) h e Nr,h0,z,l,r,c,hp=>by
   rcases Ki.1 c with rfl|c
   ·grind
   ·let⟨a,r',f,g,i⟩:=h.swap h0 c hp
    refine⟨b::a,r',.fwd f e Nr,by omega,λw j=>?_⟩
    grind
 |_,_,_,.bwd _ _ _,h0,_,_,_,_,_=>by cases h0
theorem Inv.zdT(a:Inv G I S k pos) {x y z:Nat} (b:S y) (hx:YV G x y) (f:qD I z y) (c:qD I x z) (g:x≠z):YV G x z:=by
 intro l r hp
 let⟨i,hl0,_⟩:=za3 (G.place y+1) y (a.tree.node y b) (Pf _)
 have d:=a.Rj f b i 0 hl0 (a.kb b)
 let⟨l',r',j,_,m⟩:=hl0.swap rfl d hp
 rcases m x (hx l' r' j)with h|h
 ·exact h
 ·have e:=a.tree.anc f b;have:=a.tree.anc c e.1;omega
theorem Inv.Pu(a:Inv G I S k pos) {b d:Nat} (hb:G.node b) (h0:b≠0) (hp:G.place b=pos) (f:∀p,S p->G.BK p b->qD I d p) (i:∀x,(∀p,S p->G.BK p b->qD I x p)->qD I x d) :
  Inv G (set I b d) (λx=>S x\/x=b) k (pos+1)/\S d/\G.place d<G.place b:=by
 let⟨p0,hn0,he0,hlt0⟩:=G.early b hb h0
 have q:=a.done p0 hn0 (by omega)
 let⟨hd,hpd⟩:=a.tree.anc (f p0 q he0) q
 have s:G.place d<G.place b:=by omega
 have t:set I b d b=d:=by unfold Dm.set;rw[if_pos rfl]
 have j:∀c,c≠b->set I b d c=I c:=by simp_all[Dm.set,if_neg]
 have z:Tree G (set I b d) (λx=>S x\/x=b):=by
  refine⟨.inl a.tree.zero,λc hc=>?_,λc hc m=>?_⟩
  ·rcases hc with hc|rfl
   ·exact a.tree.node c hc
   ·exact hb
  ·by_cases hcb:c=b
   ·simp_all
   ·rw[j c hcb];have hc:=hc.resolve_right hcb;have:=a.tree.up c hc m
    simp_all
 have A:∀x,YV G x b->qD (set I b d) x b:=by
  intro x hx;by_cases hxb:x=b
  ·subst hxb;exact .refl _
  ·refine .up h0 ?_;rw[t];exact(i x λp B D=>a.Uz p x B (hx.pred hxb D)).zbZ a.tree hd s
 refine⟨⟨z,a.one,by omega,λc hc u=>?_,λE c hc=> .inl (a.all E c hc),λF c hc=>?_,λc hc m=>?_,λy x H hx=>?_⟩,hd,s⟩
 ·by_cases hcp:G.place c<pos
  ·exact .inl (a.done c hc hcp)
  ·exact .inr (G.inj c b hc hb (by omega))
 ·rcases hc with hc|rfl
  ·have:=a.fresh F c hc;omega
  ·omega
 ·by_cases hcb:c=b
  ·subst hcb;rw[t,if_pos (by omega)];intro l r n J
   cases n with
   |nil=>omega
   | fwd h e u=>
     rename_i p l;have v:=a.done p h.node (by omega);have:=a.Rj (f p v e) v;rw[if_pos (by omega)]at this
     exact .tail _ (this _ _ h J)
   | bwd h e u=>
     rename_i p l r;have v:=a.all (by omega) p h.node;have:=(a.Rj (f p v e) v).mono (k':=k-1) (by grind);exact .tail _ (this _ _ h (by omega))
  ·have w:=hc.resolve_right hcb;rw[j c hcb];have K:=λh=>hcb (G.inj c b (a.tree.node c w) hb (by omega));have:=a.low c w m
   grind
 ·by_cases hyb:y=b
  ·simp_all
  ·have g:=H.resolve_right hyb;have C:∀{y},qD I x y->S y->YV G x y->qD (set I b d) x y:=by
    intro y h
    induction h with
    |refl=>exact λ_ _=> .refl _
    | up o h L=>
      rename_i y;intro g hx;by_cases hyb:y=b
      ·simp_all
      ·refine .up o ?_
       rw[j y hyb];by_cases hxI:x=I y
       ·rw[<-hxI];exact .refl _
       ·exact L (a.tree.up y g o).1 (a.zdT g hx (.up o (.refl _)) h hxI)
   exact C (a.Uz y x g hx) g hx
theorem Inv.pass(c:Inv G I S k pos) (a:∀b,G.node b->G.place b<pos):Inv G I S (k+1) 1:=by
 have f:=c.one;refine⟨c.tree,by omega,iZ _,λb hb d=>?_,λ_ b hb=>c.done b hb (a b hb),by omega,λb hb h0=>?_,c.Uz⟩
 ·exact c.done b hb (a b hb)
 ·have:=c.low b hb h0;rw[if_pos (a b (c.tree.node b hb))]at this;split
  ·rename_i h;have e:G.place b=G.place 0:=by have:=G.ES;omega
   exact absurd (G.inj b 0 (c.tree.node b hb) G.first e) h0
  simp_all
theorem Inv.start:Inv G (λ_=>0) (λx=>x=0) 1 1:=by
 refine⟨⟨rfl,λb h=>by subst h;exact G.first,by omega⟩,iZ _,iZ _,λb hb a=>?_,by omega,λ_ b h=>by subst h;rw[G.ES];omega,by omega,λy x c hx=>?_⟩
 ·exact G.inj b 0 hb G.first (by have:=G.ES;omega)
 ·subst c;have:=hx _ _ .nil;simp at this;subst this;exact .refl _
theorem Pa.suffix:∀{b l r},Pa G b l r->∀{x},x∈l->∃a r' t,Pa G x a r'/\l=t++a
 |_,_,_,.nil,x,hx=>by simp at hx;subst hx;exact⟨[0],0,[],.nil,rfl⟩
 | b,_,_,.fwd h e hp,x,hx=>by
   rcases Ki.1 hx with rfl|hx
   ·exact⟨_,_,[],.fwd h e hp,rfl⟩
   ·let⟨a,r',t,c,d⟩:=h.suffix hx
    grind
 | b,_,_,.bwd h e hp,x,hx=>by
   rcases Ki.1 hx with rfl|hx
   ·exact⟨_,_,[],.bwd h e hp,rfl⟩
   ·let⟨a,r',t,c,d⟩:=h.suffix hx
    grind
theorem Pa.short:∀{b l r},Pa G b l r->r+1<=l.length
 |_,_,_,.nil=>by simp
 |_,_,_,.fwd h _ _=>by have:=h.short;simp;omega
 |_,_,_,.bwd h _ _=>by have:=h.short;simp;omega
theorem Pa.nodes:∀{b l r},Pa G b l r->∀x∈l,G.node x
 |_,_,_,.nil,x,hx=>by simp at hx;subst hx;exact G.first
 | _,_,_,.fwd h e hp,x,hx=>by
   rcases Ki.1 hx with rfl|hx
   ·exact G.to _ _ h.node e
   ·exact h.nodes x hx
 | _,_,_,.bwd h e hp,x,hx=>by
   rcases Ki.1 hx with rfl|hx
   ·exact G.to _ _ h.node e
   ·exact h.nodes x hx
theorem Pa.simple:∀{b l r},Pa G b l r->∃a r',Pa G b a r'/\a.Nodup/\∀x∈a,x∈l:=by
 intro b l r h;have step:∀{p b:Nat} {l:List Nat},(∃a r',Pa G p a r'/\a.Nodup/\∀x∈a,x∈l)->G.BK p b->∃a r',Pa G b a r'/\a.Nodup/\∀x∈a,x∈b::l:=by
  rintro p b l ⟨a,r',d,i,j⟩ e;by_cases hb:b∈a
  ·let⟨l2,f,t,k,m⟩:=d.suffix hb
   grind
  ·let⟨f,_,_,g⟩:=d.step e
   grind
 induction h with
 |nil=>exact⟨[0],0,.nil,by simp,λx h=>h⟩
 |fwd _ e _ c=>exact step c e
 |bwd _ e _ c=>exact step c e
theorem iP:∀n (l:List Nat),l.Nodup->(∀x∈l,x<n)->l.length<=n:=by
 intro n
 induction n with
 | zero=>
   intro l _ h
   cases l with
   |nil=>simp_all
   |cons a l=>exact absurd (h a (.head _)) (Nat.not_lt_zero _)
 | succ n c=>
   intro l b h;by_cases hn:n∈l
   ·have f:=c (l.erase n) (b.erase n) (λx hx=>by
      have d:=List.mem_of_mem_erase hx;have g:=h x d;have i:x≠n:=λe=>by subst e;exact absurd hx b.not_mem_erase
      omega)
    simp_all
   grind
theorem DK.Uz{n x b c:Nat} (d:∀b,G.node b->b<n) (h:DK G c x b) (hk:n<=c):YV G x b:=by
 intro l r hp
 let⟨l',r',a,e,f⟩:=hp.simple
 have g:=iP n l' e λx hx=>d x (a.nodes x hx);have i:=a.short;exact f x (h l' r' a (by omega))
theorem Inv.exact(a:Inv G I S k pos) {n:Nat} (c:∀b,G.node b->b<n) (hk:n+1<=k) {x b:Nat} (hb:S b):qD I x b↔YV G x b:=by
 refine⟨λh=>(a.Rj h hb).Uz c ?_,a.Uz b x hb⟩
 grind
theorem Inv.stay(c:Inv G I S k pos) {n:Nat} (g:∀b,G.node b->b<n) (hk:n+1<=k) {b d:Nat} (hb:G.node b) (h0:b≠0) (hp:G.place b=pos) (e:∀p,S p->G.BK p b->qD I d p) (a:∀x,(∀p,S p->G.BK p b->qD I x p)->qD I x d) :
  S b/\d=I b:=by
 have j:=g 0 G.first;have f:=c.all (by omega) b hb
 let⟨hI',hd,hdb⟩:=c.Pu hb h0 hp e a
 let⟨hIb,Nr⟩:=c.tree.up b f h0
 have h:I b≠b:=by grind
 have l:=(c.exact g hk f).1 (.up h0 (.refl _));have m:=a _ λp i o=>c.Uz p _ i (l.pred h o);have q:=(hI'.exact g hk (.inr rfl)).1 (.up h0 (by unfold Dm.set;rw[if_pos rfl];exact .refl _));have r:=(c.Uz b d f q).parent (by grind);exact⟨f,c.tree.VY r m hIb⟩
end
def rJ(seen:List Bool)(b:Nat):Prop:=seen[b]? =some true
theorem NK{seen:List Bool} {t b:Nat} (ht:t<seen.length):rJ (seen.set t true) b↔b=t\/rJ seen b:=by
 unfold rJ
 grind
structure Iq (n:Nat) (next:Nat->List Nat) (seen:List Bool) (post:List Nat) (stack:List (Nat×Nat)):Prop where
 len:seen.length=n
 low:∀b,b<n->∀t∈next b,t<n
 range:∀x∈stack,x.1<n/\x.2<=(next x.1).length
 pre:∀b∈post,b<n
 iff:∀b,rJ seen b↔b∈post\/b∈stack.map (·.1)
 nodup:(post++stack.map (·.1)).Nodup
 root:∀x s,stack=x::s->x.1=0
 last:stack=[]->∃p,post=p++[0]
 closed:∀b∈post,∀t∈next b,rJ seen t
 gone:∀x∈stack,∀j,j<x.2->∀t,(next x.1)[j]? =some t->rJ seen t
 way:∀s x y r,stack=s++x::y::r->y.1∈next x.1
 early:∀l b r,post=l++b::r->b=0\/∃p,b∈next p/\(p∈r\/p∈stack.map (·.1))
 zero:0 ∉ post\/stack=[]
section
variable{n:Nat}{next:Nat->List Nat}{seen:List Bool}{post:List Nat}{stack s:List (Nat×Nat)}{b i t:Nat}
theorem Iq.start(c:0<n) (a:∀b,b<n->∀t∈next b,t<n):Iq n next ((List.replicate n false).set 0 true) [] [(0,0)] where
 len:=by simp
 low:=a
 range:=by simp_all
 pre:=by simp_all
 iff:=by grind[rJ]
 nodup:=by simp
 root:=by simp_all
 last:=by simp_all
 closed:=by simp_all
 gone:=by simp_all
 way:=λs x y r h=>by
  have:=congrArg List.length h
  grind
 early:=by simp_all
 zero:=by simp_all
theorem lL{α:Type} (l:List α):l=[]\/∃s x,l=s++[x]:=by
 rcases List.eq_nil_or_concat l with h|⟨s,x,h⟩
 ·simp_all
 simp_all
theorem Ca{α:Type} {s s':List α} {x y:α} (h:s++[x]=s'++[y]):s=s'/\x=y:=by
 simp_all
theorem Iq.pop(a:Iq n next seen post (s++[(b,i)])) (hi:i=(next b).length):Iq n next seen (post++[b]) s where
 len:=a.len
 low:=a.low
 range:=λx hx=>a.range x (Ti _ hx)
 pre:=λc hc=>by
  rcases EG.1 hc with hc|hc
  ·exact a.pre c hc
  ·simp at hc;subst hc;exact(a.range (c,i) (by simp)).1
 iff:=λc=>by
  rw[a.iff c]
  grind
 nodup:=by
  have:=a.nodup
  grind
 root:=λx r h=>a.root x (r++[(b,i)]) (by simp_all)
 last:=λh=>by
  subst h;have:=a.root (b,i) [] rfl
  simp_all
 closed:=λc hc t ht=>by
  rcases EG.1 hc with hc|hc
  ·exact a.closed c hc t ht
  ·simp at hc;subst hc
   let⟨j,hj⟩:=mn.1 ht
   have g:=(jo.1 hj).1;exact a.gone (c,i) (by simp) j (by omega) t hj
 gone:=λx hx=>a.gone x (Ti _ hx)
 way:=λs' x y r h=>a.way s' x y (r++[(b,i)]) (by simp_all)
 early:=λl c r h=>by
  rcases lL r with rfl|⟨r',z,rfl⟩
  ·let⟨f,d⟩:=Ca h
   subst d;rcases lL s with rfl|⟨s',x,rfl⟩
   ·exact .inl (a.root (b,i) [] rfl)
   ·refine .inr ⟨x.1,a.way s' x (b,i) [] (by simp),by simp_all⟩
  ·have h':post++[b]=(l++c::r')++[z]:=by rw[h];simp
   let⟨f,d⟩:=Ca h'
   subst d;rcases a.early l c r' f with h0|⟨p,o,q⟩
   ·omega
   grind
 zero:=by
  rcases lL s with rfl|⟨s',x,rfl⟩
  ·simp_all
  ·refine .inl λh0=>?_;obtain⟨y,e,k⟩:∃y e,s'++[x]=y::e:=by
    cases s' with
    |nil=>simp_all
    |cons y s'=>simp_all
   have u:=a.root y (e++[(b,i)]) (by simp_all);have m:=a.nodup
   grind
theorem Iq.skip(a:Iq n next seen post (s++[(b,i)])) (ht:(next b)[i]? =some t) (hs:rJ seen t):Iq n next seen post (s++[(b,i+1)]):=by
 have e:∀j,(s++[(b,j)]).map (λx:Nat×Nat=>x.1)=s.map (λx:Nat×Nat=>x.1)++[b]:=by simp_all
 refine⟨a.len,a.low,λx hx=>?_,a.pre,λc=>?_,?_,λx r h=>?_,by simp_all,a.closed,λx hx j k u g=>?_,λs' x y r h=>?_,λl c r h=>?_,?_⟩
 ·rcases EG.1 hx with hx|hx
  ·exact a.range x (Ti _ hx)
  ·simp at hx;subst hx;have:=a.range (b,i) (by simp)
   grind
 ·rw[e];have:=a.iff c;simp_all
 ·rw[e];have:=a.nodup;simp_all
 ·cases s with
  |nil=>simp at h;let⟨d,_⟩:=h;subst d;exact a.root (b,i) [] rfl
  | cons y s=>
    simp at h
    let⟨d,f⟩:=h
    subst d;exact a.root y (s++[(b,i)]) rfl
 ·rcases EG.1 hx with hx|hx
  ·exact a.gone x (Ti _ hx) j k u g
  ·simp at hx;subst hx;by_cases hji:j=i
   ·simp_all
   ·exact a.gone (b,i) (by simp) j (by omega) u g
 ·rcases lL r with rfl|⟨r',z,rfl⟩
  ·have h':s++[(b,i+1)]=(s'++[x])++[y]:=by rw[h];simp
   let⟨d,f⟩:=Ca h'
   subst f;exact a.way s' x (b,i) [] (by simp_all)
  ·have h':s++[(b,i+1)]=(s'++x::y::r')++[z]:=by rw[h];simp
   let⟨d,f⟩:=Ca h'
   exact a.way s' x y (r'++[(b,i)]) (by simp_all)
 ·rw[e];have:=a.early l c r h;simp_all
 ·rcases a.zero with h|h
  ·simp_all
  simp_all
theorem Iq.push(a:Iq n next seen post (s++[(b,i)])) (ht:(next b)[i]? =some t) (hs:¬rJ seen t):Iq n next (seen.set t true) post (s++[(b,i+1)]++[(t,0)]):=by
 have hb:=a.range (b,i) (by simp);have m:=a.low b hb.1 t (zD ht);have d:∀c,rJ (seen.set t true) c↔c=t\/rJ seen c:=λc=>NK (by rw[a.len];exact m);have o:(s++[(b,i+1)]++[(t,0)]).map (λx:Nat×Nat=>x.1)=(s++[(b,i)]).map (λx:Nat×Nat=>x.1)++[t]:=by simp
 refine⟨by simp[a.len],a.low,λx hx=>?_,a.pre,λc=>?_,?_,λx r h=>?_,by simp_all,λc hc u g=>(d u).2 (.inr (a.closed c hc u g)),λx hx j q u g=>?_,λs' x y r h=>?_,λl c r h=>?_,?_⟩
 ·rcases EG.1 hx with hx|hx
  ·rcases EG.1 hx with hx|hx
   ·exact a.range x (Ti _ hx)
   grind
  simp_all
 ·rw[d,o,a.iff c]
  grind
 ·rw[o,<-Pr];refine wBO.2 ⟨a.nodup,by simp,λx hx y v e=>?_⟩;simp at v;subst v;subst e;refine hs ((a.iff x).2 ?_)
  simp_all
 ·cases s with
  | nil=>
    simp at h
    let⟨f,_⟩:=h
    subst f
    exact a.root (b,i) [] rfl
  | cons y s=>
    simp at h
    let⟨f,C⟩:=h
    subst f;exact a.root y (s++[(b,i)]) rfl
 ·refine (d u).2 ?_;rcases EG.1 hx with hx|hx
  ·rcases EG.1 hx with hx|hx
   ·exact .inr (a.gone x (Ti _ hx) j q u g)
   ·simp at hx;subst hx;have D:=q;by_cases hji:j=i
    ·simp_all
    ·exact .inr (a.gone (b,i) (by simp) j (by omega) u g)
  simp_all
 ·rcases lL r with rfl|⟨r',z,rfl⟩
  ·have h':s++[(b,i+1)]++[(t,0)]=(s'++[x])++[y]:=by rw[h];simp
   grind[Ca,zD]
  ·have h':s++[(b,i+1)]++[(t,0)]=(s'++x::y::r')++[z]:=by rw[h];simp
   let⟨f,C⟩:=Ca h'
   rcases lL r' with rfl|⟨w,E,rfl⟩
   ·have k:s++[(b,i+1)]=(s'++[x])++[y]:=by rw[f];simp
    let⟨A,B⟩:=Ca k
    subst B;exact a.way s' x (b,i) [] (by simp_all)
   ·have k:s++[(b,i+1)]=(s'++x::y::w)++[E]:=by rw[f];simp
    let⟨A,B⟩:=Ca k
    exact a.way s' x y (w++[(b,i)]) (by simp_all)
 ·rcases a.early l c r h with h0|⟨p,k,A⟩
  ·omega
  grind
 ·rcases a.zero with h|h
  ·simp_all
  simp_all
end
def cost(n:Nat)(f:Nat->Nat):Nat:=((List.range n).map f).sum
theorem Qt(n:Nat) (f:Nat->Nat):cost (n+1) f=cost n f+f n:=by
 grind[cost,YN]
theorem XB(n:Nat) (f g:Nat->Nat) (h:∀b,b<n->f b=g b):cost n f=cost n g:=by
 induction n with
 |zero=>rfl
 |succ n a=>grind[Qt]
theorem Zg(n:Nat) (f g:Nat->Nat) (t:Nat) (ht:t<n) (h0:g t=0) (h:∀b,b≠t->g b=f b):cost n g+f t=cost n f:=by
 induction n with
 |zero=>omega
 | succ n a=>
   grind[Qt,XB]
noncomputable def left(next:Nat->List Nat)(seen:List Bool)(b:Nat):Nat:=if seen[b]? =some true then 0 else 2+(next b).length
def Wj(next:Nat->List Nat)(stack:List (Nat×Nat)):Nat:=(stack.map λx=>1+((next x.1).length-x.2)).sum
noncomputable def mu(n:Nat)(next:Nat->List Nat)(seen:List Bool)(stack:List (Nat×Nat)):Nat:=cost n (left next seen)+Wj next stack
section
variable{n:Nat}{next:Nat->List Nat}{seen:List Bool}{post:List Nat}{s:List (Nat×Nat)}{b i t:Nat}
theorem Jz(x:Nat×Nat):Wj next (s++[x])=Wj next s+(1+((next x.1).length-x.2)):=by
 grind[Wj]
theorem zej:mu n next seen s<mu n next seen (s++[(b,i)]):=by
 grind[mu,Jz]
theorem zbD(ht:(next b)[i]? =some t):mu n next seen (s++[(b,i+1)])<mu n next seen (s++[(b,i)]):=by
 grind[mu,Jz]
theorem zbp(d:Iq n next seen post (s++[(b,i)])) (ht:(next b)[i]? =some t) (hs:¬rJ seen t):mu n next (seen.set t true) (s++[(b,i+1)]++[(t,0)])<mu n next seen (s++[(b,i)]):=by
 have hb:=d.range (b,i) (by simp);have a:=d.low b hb.1 t (zD ht);have e:∀c,rJ (seen.set t true) c↔c=t\/rJ seen c:=λc=>NK (by rw[d.len];exact a);have f:left next (seen.set t true) t=0:=by
  exact if_pos ((e t).2 (.inl rfl))
 have g:∀c,c≠t->left next (seen.set t true) c=left next seen c:=by simp_all[rJ,left]
 have h:=Zg n (left next seen) (left next (seen.set t true)) t a f g;have j:left next seen t=2+(next t).length:=by
  exact if_neg hs
 grind[mu,Jz]
end
theorem sub_le:∀(l b:List Nat),l.Nodup->(∀x∈l,x∈b)->l.length<=b.length
 |[],_,_,_=>Mr _
 | a::l,b,hd,h=>by
   have c:=wBj.1 hd;have d:=sub_le l (b.erase a) c.2 (by grind)
   grind
theorem UJ:∀(l:List Nat) a,a∈l->l[l.idxOf a]? =some a
 |[],_,h=>by cases h
 | b::l,a,h=>by
   grind
section
variable{n:Nat}{next:Nat->List Nat}{seen:List Bool}{post:List Nat}
def Iq.gr(c:Iq n next seen post []):Gr where
 node b:=b∈post
 BK a b:=b∈next a
 place b:=post.reverse.idxOf b
 first:=by let⟨p,h⟩:=c.last rfl;simp_all
 ES:=by obtain⟨p,h⟩:=c.last rfl;simp_all
 inj a b ha hb h:=by
  grind[UJ,Option.some.inj]
 to a b ha he:=by
  have:=(c.iff b).1 (c.closed a ha b he)
  simp_all
 early b hb h0:=by
  let⟨l,r,h⟩:=List.append_of_mem hb
  rcases c.early l b r h with h'|⟨p,d,e⟩
  ·omega
  ·have g:p∈r:=by simpa using e
   refine⟨p,by simp_all,d,?_⟩;have f:=c.nodup
   grind
theorem Iq.all(c:Iq n next seen post []) (d:∀b,b<n->b∈post):post.length=n:=by
 have a:=c.nodup;simp[ Lg]at a;have e:=iP n post a c.pre;have f:=sub_le (List.range n) post wBV (by simp_all)
 grind
end
end Go.Proofs.YtloecllhljfidaaGreatDoor.Dm
namespace Go.Proofs.YtloecllhljfidaaGreatDoor.Un
open Dm
variable{nx:Nat->List Nat}
structure Vl where
 op:Nat
 a:Nat
 b:Nat
 n:Int
 args:List Nat
 state:Nat
structure Bk where
 ej:List Nat
 fin:Nat
 cond:Nat
 next:List Nat
 fh:List Nat
 state:Nat
structure Fm where
 func:Int
 pc:Int
 locals:List Nat
 stack:List Nat
structure U where
 func:Int
 pc:Int
 ej:List Vl
 blocks:List Bk
 eo:List (List Fm)
def two(op:Nat):Bool:=(3<=op&&op<=7) ||(10<=op&&op<=14) ||op == 18 ||op == 19 ||op == 20
def ml(op:Nat):Bool:=op == 8 ||op == 9 ||op == 15 ||op == 16 ||op == 17 ||op == 22
def gG(v:Vl):List Nat:=
 if v.op=21 then v.args else if v.op=20 then v.a::v.b::v.args.take 1 else if two v.op=true then[v.a,v.b] else if ml v.op=true then[v.a] else[]
def Jk(op:Nat):Bool:=op<19 ||op == 21
def leaves(op:Nat):Bool:=op == 22 ||op == 23
def hZ(op:Nat):Bool:=op == 1 ||op == 21
def gL(s:List Fm):List Nat:=s.flatMap λf=>f.locals++f.stack
def next(u:U) (b:Nat):List Nat:=match u.blocks[b]? with
 |some B=>B.next
 |none=>[]
def jK(l:List Bk) (i b:Nat):List Nat:=match l with
 |[]=>[]
 |B::l=>(B.next.filter (·= b)).map (λ_=>i)++jK l (i+1) b
def ahead(u:U)(b:Nat):List Nat:=jK u.blocks 0 b
inductive Pt (nx:Nat->List Nat):Nat->List Nat->Prop
 |nil:Pt nx 0 [0]
 |step {p b:Nat} {l:List Nat} (h:Pt nx p l) (e:b∈nx p):Pt nx b (b::l)
def mz(nx:Nat->List Nat)(x b:Nat):Prop:=∀l,Pt nx b l->x∈l
def At(u:U)(v b k:Nat):Prop:=∃B,u.blocks[b]? =some B/\B.ej[k]? =some v
def mq(u:U)(v:Nat):Prop:=∃x,u.ej[v]? =some x/\Jk x.op=true
def qw(u:U)(v b k:Nat):Prop:=∃c j,At u v c j/\(c=b/\j<k\/c≠b/\mz (next u) c b)
def sP(u:U)(v b:Nat):Prop:=∃c j,At u v c j/\mz (next u) c b
structure Gd (u:U) (P:Nat->Prop):Prop where
 nv:u.ej.length<=3000
 I5:1<=u.blocks.length
 nb:u.blocks.length<=300
 ns:u.eo.length<=1000
 st:∀(s:Nat) fs,u.eo[s]? =some fs->1<=fs.length/\fs.length<=30/\∀f∈fs,f.locals.length<=40/\f.stack.length<=60/\(∀v∈f.locals,mq u v)/\∀v∈f.stack,mq u v
 B6:∀v,v<u.ej.length->P v->∃b k,At u v b k
 Ao:∀v b k b' k',At u v b k->At u v b' k'->b=b'/\k=k'
 iM:∀v b k,At u v b k->v<u.ej.length
 yD:∀v w b k x y,At u v b (k+1)->At u w b k->u.ej[v]? =some x->u.ej[w]? =some y->hZ x.op=true->hZ y.op=true
 par:∀v b k x,At u v b k->u.ej[v]? =some x->x.op=1->b=0
 Cd:∀v b k x B,At u v b k->u.ej[v]? =some x->x.op=21->u.blocks[b]? =some B->b≠0/\x.args.length=B.fh.length
 op:∀(v:Nat) x,u.ej[v]? =some x->1<=x.op/\x.op<=23
 use:∀(v:Nat) x,u.ej[v]? =some x->∀w∈gG x,mq u w
 leave:∀(v:Nat) x,u.ej[v]? =some x->leaves x.op=true->x.state<u.eo.length
 putAt:∀(v:Nat) x,u.ej[v]? =some x->x.op=20->x.args.length=1
 param:∀v x,u.ej[v]? =some x->x.op=1->0<=x.n/\x.n<40/\∀(w:Nat) y,u.ej[w]? =some y->y.op=1->y.n=x.n->w=v
 fin:∀(b:Nat) B,u.blocks[b]? =some B->(B.fin=1/\B.next.length=1)\/(B.fin=2/\B.next.length=2/\mq u B.cond)\/(B.fin=3/\B.next=[]/\B.state<u.eo.length)
 nx:∀b,∀t∈next u b,t<u.blocks.length
 fh:∀b B,u.blocks[b]? =some B->B.fh=ahead u b
 zG:ahead u 0=[]
 FY:∀(b:Nat) B,u.blocks[b]? =some B->B.fin=2->∀t∈B.next,(ahead u t).length=1
 reach:∀b,b<u.blocks.length->∃l,Pt (next u) b l
 yo:∀v b k x,At u v b k->u.ej[v]? =some x->x.op≠21->∀w∈gG x,qw u w b k
 AU:∀v b k x B,At u v b k->u.ej[v]? =some x->x.op=21->u.blocks[b]? =some B->∀(j w p:Nat),x.args[j]? =some w->B.fh[j]? =some p->sP u w p
 Dv:∀v b k x fs,At u v b k->u.ej[v]? =some x->leaves x.op=true->u.eo[x.state]? =some fs->∀w∈gL fs,qw u w b k
 Ay:∀b B,u.blocks[b]? =some B->B.fin=2->sP u B.cond b
 Dp:∀b B fs,u.blocks[b]? =some B->B.fin=3->u.eo[B.state]? =some fs->∀w∈gL fs,sP u w b
abbrev Good(u:U):Prop:=Gd u λ_=>True
theorem K0 {D:Nat->Nat} (hc:∀p b,b∈nx p->b≠0->qD D (D b) p) {x:Nat}:∀{b l},Pt nx b l->qD D x b->x∈l
 | _,_,.nil,h=>by
   cases h <;> grind
 | _,_,.step h e,hx=>by
   cases hx with
   |refl=>simp_all
   |up h0 hx=>exact .tail _ (K0 hc h (hx.trans (by simp_all)))
theorem mz.self(nx:Nat->List Nat)(b:Nat):mz nx b b:=λl h=>by cases h <;> exact .head _
theorem Zt{G:Gr}  (c:∀a b,G.BK a b↔b∈nx a):∀{b l r},Pa G b l r->Pt nx b l
 |_,_,_,.nil=> .nil
 |_,_,_,.fwd h e _=> .step (Zt c h) (by simp_all)
 |_,_,_,.bwd h e _=> .step (Zt c h) (by simp_all)
theorem zcO{G:Gr}  (c:∀a b,G.BK a b↔b∈nx a):∀{b l},Pt nx b l->∃r,Pa G b l r
 |_,_,.nil=>⟨0,.nil⟩
 | _,_,.step h e=>by
   let⟨r,hp⟩:=zcO c h
   let⟨r',_,_,hs⟩:=hp.step ((c _ _).2 e)
   grind
theorem zaH{G:Gr}  (c:∀a b,G.BK a b↔b∈nx a) {x b:Nat}:mz nx x b↔YV G x b:=
 ⟨λh l r hp=>h l (Zt c hp),λh l hp=>let⟨r,hr⟩:=zcO c hp;h l r hr⟩
theorem xg{b p:Nat}:∀{l:List Bk} {i:Nat},p∈jK l i b↔∃k B,l[k]? =some B/\b∈B.next/\p=i+k
 |[],i=>by simp[jK]
 | B ::l,i=>by
   simp only[jK,EG,Kj,Lz,zX,xg];constructor
   ·rintro (⟨t,⟨a,c⟩,d⟩|⟨k,e,a,c,d⟩)
    ·subst c
     exact⟨0,B,rfl,a,d.symm⟩
    ·exact⟨k+1,e,a,c,by omega⟩
   grind
theorem wG{u:U} {b p:Nat}:p∈ahead u b↔b∈next u p:=by
 grind[ahead,next,xg]
theorem rk{b:Nat}:∀l m i,jK (l++m) i b=jK l i b++jK m (i+l.length) b
 |[],m,i=>by rfl
 | B::l,m,i=>by
   simp[ jK,rk l m (i+1)]
   grind
def mJ(n:Int)(m:Nat):Nat:=(if n.tmod m<0 then n.tmod m+m else n.tmod m).toNat
theorem GU(n:Int) {m:Nat} (a:0<m):mJ n m<m:=by
 have c:=Int.tmod_lt_of_pos n (b:=(m:Int)) (by omega)
 grind[Int,Int.tmod_lt_of_pos,Int.neg_tmod,mJ]
structure Ds where
 ej:List Vl
 cur:List Nat
 known:List Nat
 eo:List (List Fm)
 pos:Nat
def draw(ops:List Int) (pos m:Nat):Nat×Nat:=match ops[pos]? with
 |none=>(0,pos)
 |some n=>(mJ n m,pos+1)
theorem yS(ops:List Int) (pos:Nat) {m:Nat} (a:0<m):(draw ops pos m).1<m:=by
 unfold draw;split
 ·exact a
 simp_all[GU]
def vl(op a b:Nat)(n:Int)(args:List Nat)(state:Nat):Vl:=⟨op,a,b,n,args,state⟩
def put(s:Ds)(v:Vl):Ds:={s with ej:=s.ej++[v],cur:=s.cur++[s.ej.length]}
def iO(s:Ds)(v:Vl):Ds:={s with ej:=s.ej++[v],cur:=s.cur++[s.ej.length],known:=s.known++[s.ej.length]}
def fQ(ops:List Int)(s:Ds):Nat×Ds:=(s.known.getD (draw ops s.pos s.known.length).1 0,{s with pos:=(draw ops s.pos s.known.length).2})
def num(ops:List Int)(s:Ds)(m:Nat):Nat×Ds:=((draw ops s.pos m).1,{s with pos:=(draw ops s.pos m).2})
def some_(ops:List Int):Nat->Ds->List Nat->List Nat×Ds
 |0,s,l=>(l,s)
 |i+1,s,l=>some_ ops i (fQ ops s).2 (l++[(fQ ops s).1])
def fN(ops:List Int) (s:Ds):Nat×Ds:=
 let r:=num ops s 4
 let q:=some_ ops r.1 r.2 []
 (s.eo.length,{q.2 with eo:=s.eo++[[⟨1,(s.eo.length:Nat),q.1,[s.known.getLastD 0]⟩]]})
def tp(ops:List Int) (s:Ds) (k a b:Nat):Ds:=
 if k<12 then iO s (vl (3+k) a b 0 [] 0)
 else if k=12 then let r:=num ops s 1048576;iO r.2 (vl 2 0 0 ((r.1:Int)-9) [] 0)
 else if k=13 then let r:=num ops s 5;iO r.2 (vl 17 a 0 (r.1:Nat) [] 0)
 else if k=14 then iO s (vl 18 a b 0 [] 0)
 else if k=15 then let r:=num ops s 5;put r.2 (vl 19 a b (r.1:Nat) [] 0)
 else if k=16 then let r:=fQ ops s;put r.2 (vl 20 a b 0 [r.1] 0)
 else if k=17 then let r:=fN ops s;put r.2 (vl 22 a 0 0 [] r.1)
 else if k=18 then let r:=fN ops s;put r.2 (vl 23 0 0 0 [] r.1)
 else let r:=num ops s 2;iO r.2 (vl (15+r.1) a 0 0 [] 0)
def vL(ops:List Int) (s:Ds):Ds:=
 let r:=fQ ops s
 let q:=fQ ops r.2
 let k:=num ops q.2 20
 tp ops k.2 k.1 r.1 q.1
def rows(ops:List Int):Nat->Ds->Ds
 |0,s=>s
 |i+1,s=>if s.ej.length<200 then rows ops i (vL ops s) else s
def row(ops:List Int)(s:Ds):Ds:=let r:=num ops s 6;rows ops (1+r.1) r.2
structure Dt where
 s:Ds
 blocks:List Bk
 fh:List Nat
def end_(t:Dt) (fin cond:Nat) (nx:List Nat) (state:Nat) (fh:List Nat):Dt:={s:={t.s with cur:=[]},blocks:=t.blocks++[⟨t.s.cur,fin,cond,nx,t.fh,state⟩],fh:=fh}
def cut(n:Nat)(s:Ds):Ds:={s with known:=s.known.take n}
def setArgs(s:Ds)(v:Nat)(args:List Nat):Ds:={s with ej:=s.ej.modify v λx=>{x with args:=args} }
def fork(ops:List Int) (t:Dt):Dt:=
 let c:=fQ ops t.s
 let b:=t.s.known.length
 let a:=t.blocks.length
 let d:=end_ {t with s:=c.2} 2 c.1 [a+1,a+2] 0 [a]
 let e:=row ops d.s
 let x:=e.known.getLastD 0
 let f:=end_ {d with s:=cut b e} 1 0 [a+3] 0 [a]
 let g:=row ops f.s
 let y:=g.known.getLastD 0
 let h:=end_ {f with s:=cut b g} 1 0 [a+3] 0 [a+1,a+2]
 {h with s:=row ops (iO h.s (vl 21 0 0 0 [x,y] 0))}
def loop(ops:List Int) (t:Dt):Dt:=
 let f:=fQ ops t.s
 let a:=t.blocks.length
 let c:=end_ {t with s:=f.2} 1 0 [a+1] 0 [a,a+2]
 let p:=c.s.ej.length
 let m:=put c.s (vl 21 0 0 0 [f.1,0] 0)
 let g:=fQ ops m
 let i:=put g.2 (vl 21 0 0 0 [g.1,p] 0)
 let n:={i with known:=i.known++[p,p+1]}
 let st:=fN ops n
 let s4:=put st.2 (vl 23 0 0 0 [] st.1)
 let one:=s4.ej.length
 let o:=put s4 (vl 2 0 0 1 [] 0)
 let j:=iO o (vl 4 p one 0 [] 0)
 let k:=end_ {c with s:=j} 2 p [a+2,a+3] 0 [a+1]
 let b:=j.known.length
 let e:=row ops k.s
 let q:=setArgs e p [f.1,one+1]
 let d:=num ops q 3
 let r:=if d.1=0 then setArgs d.2 p [f.1,e.known.getLastD 0] else d.2
 let h:=setArgs r (p+1) [g.1,e.known.getLastD 0]
 let l:=end_ {k with s:=cut b h} 1 0 [a+1] 0 [a+1]
 {l with s:=row ops l.s}
def zj(ops:List Int) (t:Dt):Dt:=
 let c:=fQ ops t.s
 let b:=t.s.known.length
 let a:=t.blocks.length
 let d:=end_ {t with s:=c.2} 2 c.1 [a+1,a+2] 0 [a]
 let f:=row ops d.s
 let st:=fN ops f
 let e:=end_ {d with s:=cut b st.2} 3 0 [] st.1 [a]
 {e with s:=row ops e.s}
def vR(ops:List Int)(k:Nat)(t:Dt):Dt:=if k=0 then fork ops t else if k=1 then loop ops t else zj ops t
def lM(ops:List Int):List Int->Dt->Dt
 |[],t=>t
 |k::l,t=>if t.s.ej.length<160 then lM ops l (vR ops (mJ k 3) t) else t
def params:Nat->Nat->Ds->Ds
 |0,_,s=>s
 |n+1,i,s=>params n (i+1) (iO s (vl 1 0 0 (i:Nat) [] 0))
def IZ(ops a:List Int) (n:Int):U:=
 let s:=row ops (iO (params (mJ n 5) 0 ⟨[],[],[],[],0⟩) (vl 2 0 0 5 [] 0))
 let t:=lM ops (a.take 6) ⟨s,[],[]⟩
 let st:=fN ops t.s
 let b:=end_ {t with s:=st.2} 3 0 [] st.1 []
 ⟨1,2,b.s.ej,b.blocks,b.s.eo⟩
