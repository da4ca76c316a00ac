/- Parts. -/
import Derived.Test.YtkpicojjjifmgabGreatDoorM00
import Derived.Calls
set_option maxHeartbeats 4000000
namespace Go.Proofs.YtkpicojjjifmgabGreatDoor.Dm
structure Gr where
 node:Nat->Prop
 BY:Nat->Nat->Prop
 place:Nat->Nat
 first:node 0
 EF:place 0=0
 inj:∀a b,node a->node b->place a=place b->a=b
 to:∀a b,node a->BY a b->node b
 early:∀b,node b->b≠0->∃p,node p/\BY p b/\place p<place b
inductive Pa (G:Gr):Nat->List Nat->Nat->Prop
 |nil:Pa G 0 [0] 0
 |fwd {p b:Nat} {l:List Nat} {r:Nat} (h:Pa G p l r) (e:G.BY p b) (hp:G.place p<G.place b):Pa G b (b::l) r
 |bwd {p b:Nat} {l:List Nat} {r:Nat} (h:Pa G p l r) (e:G.BY p b) (hp:¬G.place p<G.place b):Pa G b (b::l) (r+1)
def WL(G:Gr)(x b:Nat):Prop:=∀l r,Pa G b l r->x∈l
def DK(G:Gr)(k x b:Nat):Prop:=∀l r,Pa G b l r->r<k->x∈l
variable{G:Gr}
theorem Pa.node:∀{b l r},Pa G b l r->G.node b
 |_,_,_,.nil=>G.first
 |_,_,_,.fwd h e _=>G.to _ _ h.node e
 |_,_,_,.bwd h e _=>G.to _ _ h.node e
theorem Pa.last:∀{b l r},Pa G b l r->b∈l
 |_,_,_,.nil=> .head _
 |_,_,_,.fwd _ _ _=> .head _
 |_,_,_,.bwd _ _ _=> .head _
theorem Pa.step{p b:Nat} {l:List Nat} {r:Nat} (h:Pa G p l r) (e:G.BY p b):∃r',r'<=r+1/\(G.place p<G.place b->r' = r)/\Pa G b (b::l) r':=by
 by_cases hp:G.place p<G.place b
 ·exact⟨r,OK _,λ_=>rfl,.fwd h e hp⟩
 ·exact⟨r+1,jO _,by omega,.bwd h e hp⟩
theorem zbn(n:Nat):∀b,G.node b->G.place b<n->∃l,Pa G b l 0/\∀x∈l,G.node x/\G.place x<=G.place b:=by
 induction n with
 |zero=>omega
 | succ n c=>
   intro b hb f;by_cases h0:b=0
   ·subst h0
    exact⟨[0],.nil,by simp_all⟩
   ·obtain⟨p,hp,d,a⟩:=G.early b hb h0
    obtain⟨l,e,hx⟩:=c p hp (by omega);refine⟨b::l,.fwd e d a,λx h=>?_⟩
    grind
theorem Pa.pre:∀{b l r},Pa G b l r->∀{x},x∈l->∃a r',Pa G x a r'/\r'<=r/\∀y∈a,y∈l
 |_,_,_,.nil,x,hx=>by simp at hx;subst hx;exact⟨[0],0,.nil,jO _,λy h=>h⟩
 | b,_,_,.fwd (l:=l) (r:=r) h e hp,x,hx=>by
   rcases IS.1 hx with rfl|hx
   ·exact⟨_,_,.fwd h e hp,jO _,λy h=>h⟩
   ·obtain⟨a,r',c,d,f⟩:=h.pre hx
    grind
 | b,_,_,.bwd (l:=l) (r:=r) h e hp,x,hx=>by
   rcases IS.1 hx with rfl|hx
   ·exact⟨_,_,.bwd h e hp,jO _,λy h=>h⟩
   ·obtain⟨a,r',c,d,f⟩:=h.pre hx
    grind
theorem DK.mono{x b k k':Nat}(h:DK G k x b)(a:k'<=k):DK G k' x b:=λl r hp c=>h l r hp (by omega)
theorem DK.trans{x y b k:Nat} (a:DK G k x y) (c:DK G k y b):DK G k x b:=by
 intro l r hp d;obtain⟨e,r',f,h,g⟩:=hp.pre (c l r hp d);exact g x (a e r' f (by omega))
theorem DK.self(k b:Nat):DK G k b b:=λ_ _ hp _=>hp.last
theorem WL.pred{x p b:Nat} (h:WL G x b) (hx:x≠b) (e:G.BY p b):WL G x p:=by
 intro l r hp;obtain⟨r',_,_,hs⟩:=hp.step e;rcases IS.1 (h _ _ hs)with rfl|h
 ·omega
 ·exact h
inductive qo (I:Nat->Nat):Nat->Nat->Prop
 |refl (b:Nat):qo I b b
 |up {a b:Nat} (h0:b≠0) (h:qo I a (I b)):qo I a b
theorem qo.trans{I:Nat->Nat} {a b c:Nat} (d:qo I a b) (e:qo I b c):qo I a c:=by
 induction e with
 |refl=>exact d
 |up h0 _ f=>exact .up h0 f
theorem qo.parent{I:Nat->Nat} {a b:Nat} (h:qo I a b) (c:a≠b):qo I a (I b):=by
 cases h with
 |refl=>omega
 |up _ h=>exact h
def set(I:Nat->Nat)(b d:Nat):Nat->Nat:=λx=>if x=b then d else I x
structure Tree (G:Gr) (I:Nat->Nat) (S:Nat->Prop):Prop where
 zero:S 0
 node:∀b,S b->G.node b
 up:∀b,S b->b≠0->S (I b)/\G.place (I b)<G.place b
section
variable{I:Nat->Nat}{S:Nat->Prop}
theorem Tree.anc(c:Tree G I S) {a b:Nat} (h:qo I a b):S b->S a/\G.place a<=G.place b:=by
 induction h with
 |refl=>simp_all
 | up h0 _ d=>
   intro hb;obtain⟨e,f⟩:=c.up _ hb h0
   grind
theorem Tree.W6(c:Tree G I S) {a b:Nat} (e:qo I a b) (hb:qo I b a) (h:S b):a=b:=by
 have d:=c.anc e h;have f:=c.anc hb d.1;exact G.inj _ _ (c.node _ d.1) (c.node _ h) (by omega)
theorem Tree.zbW(c:Tree G I S) {a b x:Nat} (g:S a) (hb:S b) (d:G.place b<G.place a) (hx:qo I x a) (f:qo I x b):qo I x (I a):=by
 refine hx.parent λe=>?_;subst e;have:=(c.anc f hb).2;omega
theorem qo.zae{b d:Nat} (f:Tree G I S) {a c:Nat} (h:qo I a c):S c->G.place c<G.place b->qo (set I b d) a c:=by
 induction h with
 |refl=>exact λ_ _=> .refl _
 | up h0 _ g=>
   rename_i c _;intro hc i;have e:c≠b:=by grind
   obtain⟨j,k⟩:=f.up _ hc h0;refine .up h0 ?_;unfold Dm.set;rw[if_neg e];exact g j (by omega)
end
structure Inv (G:Gr) (I:Nat->Nat) (S:Nat->Prop) (k pos:Nat):Prop where
 tree:Tree G I S
 one:1<=k
 zfJ:1<=pos
 done:∀b,G.node b->G.place b<pos->S b
 all:2<=k->∀b,G.node b->S b
 fresh:k=1->∀b,S b->G.place b<pos
 low:∀b,S b->b≠0->DK G (if G.place b<pos then k else k-1) (I b) b
 TG:∀y x,S y->WL G x y->qo I x y
section
variable{I:Nat->Nat}{S:Nat->Prop}{k pos:Nat}
theorem Inv.kb(a:Inv G I S k pos) {b:Nat} (hb:S b):1<=(if G.place b<pos then k else k-1):=by
 have:=a.one;split
 ·omega
 ·rename_i h;by_cases c:k=1
  ·exact absurd (a.fresh c b hb) h
  ·omega
theorem Inv.QE(c:Inv G I S k pos) {a b:Nat} (h:qo I a b):S b->DK G (if G.place b<pos then k else k-1) a b:=by
 induction h with
 |refl=>grind[DK.self]
 | up h0 _ d=>
   rename_i b _;intro hb;obtain⟨e,f⟩:=c.tree.up _ hb h0;refine DK.trans (DK.mono (d e) ?_) (c.low b hb h0)
   grind
theorem Pa.swap:∀{y d f},Pa G y d f->f=0->∀{z l r},z∈d->Pa G z l r->∃a r',Pa G y a r'/\G.place z<=G.place y/\∀w∈a,w∈l\/G.place z<G.place w
 | _,_,_,.nil,_,z,l,r,c,hp=>by
   grind
 | _,_,_,.fwd (p:=p) (b:=b) h e OY,h0,z,l,r,c,hp=>by
   rcases IS.1 c with rfl|c
   ·grind
   ·obtain⟨a,r',g,i,j⟩:=h.swap h0 c hp
    refine⟨b::a,r',.fwd g e OY,by omega,λw k=>?_⟩
    grind
 |_,_,_,.bwd _ _ _,h0,_,_,_,_,_=>by cases h0
theorem Inv.zc6(a:Inv G I S k pos) {x y z:Nat} (c:S y) (hx:WL G x y) (g:qo I z y) (d:qo I x z) (j:x≠z):WL G x z:=by
 intro l r hp;obtain⟨i,b,_⟩:=zbn (G:=G) (G.place y+1) y (a.tree.node y c) (OF _);have e:z∈i:=a.QE g c i 0 b (a.kb c);obtain⟨m,r',n,_,o⟩:=b.swap rfl e hp;rcases o x (hx m r' n)with h|h
 ·exact h
 ·have f:=a.tree.anc g c;have:=a.tree.anc d f.1;omega
theorem Inv.OP(a:Inv G I S k pos) {b d:Nat} (hb:G.node b) (h0:b≠0) (hp:G.place b=pos) (f:∀p,S p->G.BY p b->qo I d p) (i:∀x,(∀p,S p->G.BY p b->qo I x p)->qo I x d) :
  Inv G (set I b d) (λx=>S x\/x=b) k (pos+1)/\S d/\G.place d<G.place b:=by
 obtain⟨p0,z,A,F⟩:=G.early b hb h0;have q:S p0:=a.done p0 z (by omega);obtain⟨H,J⟩:=a.tree.anc (f p0 q A) q;have s:G.place d<G.place b:=by omega
 have t:set I b d b=d:=by unfold Dm.set;rw[if_pos rfl]
 have j:∀c,c≠b->set I b d c=I c:=by simp_all[Dm.set,if_neg]
 have B:Tree G (set I b d) (λx=>S x\/x=b):=by
  refine⟨.inl a.tree.zero,λc hc=>?_,λc hc m=>?_⟩
  ·rcases hc with hc|rfl
   ·exact a.tree.node c hc
   ·exact hb
  ·by_cases hcb:c=b
   ·simp_all
   ·rw[j c hcb];have hc:=hc.resolve_right hcb;have:=a.tree.up c hc m
    simp_all
 have C:∀x,WL G x b->qo (set I b d) x b:=by
  intro x hx;by_cases hxb:x=b
  ·subst hxb;exact .refl _
  ·refine .up h0 ?_;rw[t];exact(i x λp D K=>a.TG p x D (hx.pred hxb K)).zae a.tree H s
 refine⟨⟨B,a.one,by omega,λc hc u=>?_,λL c hc=> .inl (a.all L c hc),λM c hc=>?_,λc hc m=>?_,λy x N hx=>?_⟩,H,s⟩
 ·by_cases hcp:G.place c<pos
  ·exact .inl (a.done c hc hcp)
  ·exact .inr (G.inj c b hc hb (by omega))
 ·rcases hc with hc|rfl
  ·have:=a.fresh M c hc;omega
  ·omega
 ·by_cases hcb:c=b
  ·subst hcb;rw[t,if_pos (by omega)];intro l r n O
   cases n with
   |nil=>omega
   | fwd h e u=>
     rename_i p l;have v:S p:=a.done p h.node (by omega);have:=a.QE (f p v e) v;rw[if_pos (by omega)]at this
     exact .tail _ (this _ _ h O)
   | bwd h e u=>
     rename_i p l r;have v:S p:=a.all (by omega) p h.node;have:=(a.QE (f p v e) v).mono (k':=k-1) (by grind);exact .tail _ (this _ _ h (by omega))
  ·have w:=hc.resolve_right hcb;rw[j c hcb];have P:G.place c≠pos:=λh=>hcb (G.inj c b (a.tree.node c w) hb (by omega));have:=a.low c w m
   grind
 ·by_cases hyb:y=b
  ·simp_all
  ·have g:=N.resolve_right hyb;have E:∀{y},qo I x y->S y->WL G x y->qo (set I b d) x y:=by
    intro y h
    induction h with
    |refl=>exact λ_ _=> .refl _
    | up o h Q=>
      rename_i y;intro g hx;by_cases hyb:y=b
      ·simp_all
      ·refine .up o ?_
       rw[j y hyb];by_cases hxI:x=I y
       ·rw[<-hxI];exact .refl _
       ·exact Q (a.tree.up y g o).1 (a.zc6 g hx (.up o (.refl _)) h hxI)
   exact E (a.TG y x g hx) g hx
theorem Inv.pass(c:Inv G I S k pos) (a:∀b,G.node b->G.place b<pos):Inv G I S (k+1) 1:=by
 have f:=c.one;refine⟨c.tree,by omega,jO _,λb hb d=>?_,λ_ b hb=>c.done b hb (a b hb),by omega,λb hb h0=>?_,c.TG⟩
 ·exact c.done b hb (a b hb)
 ·have:=c.low b hb h0;rw[if_pos (a b (c.tree.node b hb))]at this;split
  ·rename_i h;have e:G.place b=G.place 0:=by have:=G.EF;omega
   exact absurd (G.inj b 0 (c.tree.node b hb) G.first e) h0
  simp_all
theorem Inv.start:Inv G (λ_=>0) (λx=>x=0) 1 1:=by
 refine⟨⟨rfl,λb h=>by subst h;exact G.first,by omega⟩,jO _,jO _,λb hb a=>?_,by omega,λ_ b h=>by subst h;rw[G.EF];omega,by omega,λy x c hx=>?_⟩
 ·exact G.inj b 0 hb G.first (by have:=G.EF;omega)
 ·subst c;have:=hx _ _ .nil;simp at this;subst this;exact .refl _
theorem Pa.suffix:∀{b l r},Pa G b l r->∀{x},x∈l->∃a r' t,Pa G x a r'/\l=t++a
 |_,_,_,.nil,x,hx=>by simp at hx;subst hx;exact⟨[0],0,[],.nil,rfl⟩
 | b,_,_,.fwd (l:=l) (r:=r) h e hp,x,hx=>by
   rcases IS.1 hx with rfl|hx
   ·exact⟨_,_,[],.fwd h e hp,rfl⟩
   ·obtain⟨a,r',t,c,d⟩:=h.suffix hx
    grind
 | b,_,_,.bwd (l:=l) (r:=r) h e hp,x,hx=>by
   rcases IS.1 hx with rfl|hx
   ·exact⟨_,_,[],.bwd h e hp,rfl⟩
   ·obtain⟨a,r',t,c,d⟩:=h.suffix hx
    grind
theorem Pa.short:∀{b l r},Pa G b l r->r+1<=l.length
 |_,_,_,.nil=>by simp
 |_,_,_,.fwd h _ _=>by have:=h.short;simp;omega
 |_,_,_,.bwd h _ _=>by have:=h.short;simp;omega
theorem Pa.nodes:∀{b l r},Pa G b l r->∀x∈l,G.node x
 |_,_,_,.nil,x,hx=>by simp at hx;subst hx;exact G.first
 | _,_,_,.fwd h e hp,x,hx=>by
   rcases IS.1 hx with rfl|hx
   ·exact G.to _ _ h.node e
   ·exact h.nodes x hx
 | _,_,_,.bwd h e hp,x,hx=>by
   rcases IS.1 hx with rfl|hx
   ·exact G.to _ _ h.node e
   ·exact h.nodes x hx
theorem Pa.simple:∀{b l r},Pa G b l r->∃a r',Pa G b a r'/\a.Nodup/\∀x∈a,x∈l:=by
 intro b l r h;have step:∀{p b:Nat} {l:List Nat},(∃a r',Pa G p a r'/\a.Nodup/\∀x∈a,x∈l)->G.BY p b->∃a r',Pa G b a r'/\a.Nodup/\∀x∈a,x∈b::l:=by
  rintro p b l ⟨a,r',d,f,i⟩ e;by_cases hb:b∈a
  ·obtain⟨l2,r2,t,j,k⟩:=d.suffix hb
   grind
  ·obtain⟨r2,_,_,g⟩:=d.step e
   grind
 induction h with
 |nil=>exact⟨[0],0,.nil,by simp,λx h=>h⟩
 |fwd _ e _ c=>exact step c e
 |bwd _ e _ c=>exact step c e
theorem jM:∀(n:Nat) (l:List Nat),l.Nodup->(∀x∈l,x<n)->l.length<=n:=by
 intro n
 induction n with
 | zero=>
   intro l _ h
   cases l with
   |nil=>simp_all
   |cons a l=>exact absurd (h a (.head _)) (Nat.not_lt_zero _)
 | succ n c=>
   intro l b h;by_cases hn:n∈l
   ·have f:=c (l.erase n) (b.erase n) (λx hx=>by
      have d:=List.mem_of_mem_erase hx;have g:=h x d;have i:x≠n:=λe=>by subst e;exact absurd hx b.not_mem_erase
      omega)
    simp_all
   grind
theorem DK.TG{n x b c:Nat} (e:∀b,G.node b->b<n) (h:DK G c x b) (i:n<=c):WL G x b:=by
 intro l r hp;obtain⟨d,r',a,f,g⟩:=hp.simple;have j:=jM n d f λx hx=>e x (a.nodes x hx);have k:=a.short;exact g x (h d r' a (by omega))
theorem Inv.exact(a:Inv G I S k pos) {n:Nat} (c:∀b,G.node b->b<n) (d:n+1<=k) {x b:Nat} (hb:S b):qo I x b↔WL G x b:=by
 refine⟨λh=>(a.QE h hb).TG c ?_,a.TG b x hb⟩
 grind
theorem Inv.stay(c:Inv G I S k pos) {n:Nat} (g:∀b,G.node b->b<n) (m:n+1<=k) {b d:Nat} (hb:G.node b) (h0:b≠0) (hp:G.place b=pos) (e:∀p,S p->G.BY p b->qo I d p) (a:∀x,(∀p,S p->G.BY p b->qo I x p)->qo I x d) :
  S b/\d=I b:=by
 have o:=g 0 G.first;have f:S b:=c.all (by omega) b hb;obtain⟨h,y,q⟩:=c.OP hb h0 hp e a;obtain⟨i,r⟩:=c.tree.up b f h0;have j:I b≠b:=by grind
 have s:WL G (I b) b:=(c.exact g m f).1 (.up h0 (.refl _));have t:qo I (I b) d:=a _ λp l u=>c.TG p _ l (s.pred j u);have v:WL G d b:=(h.exact g m (.inr rfl)).1 (.up h0 (by unfold Dm.set;rw[if_pos rfl];exact .refl _));have w:qo I d (I b):=(c.TG b d f v).parent (by grind);exact⟨f,c.tree.W6 w t i⟩
end
def rq(seen:List Bool)(b:Nat):Prop:=seen[b]? =some true
theorem JF{seen:List Bool} {t b:Nat} (ht:t<seen.length):rq (seen.set t true) b↔b=t\/rq seen b:=by
 unfold rq
 grind
structure JN (n:Nat) (next:Nat->List Nat) (seen:List Bool) (post:List Nat) (stack:List (Nat×Nat)):Prop where
 len:seen.length=n
 low:∀b,b<n->∀t∈next b,t<n
 range:∀x∈stack,x.1<n/\x.2<=(next x.1).length
 pre:∀b∈post,b<n
 iff:∀b,rq seen b↔b∈post\/b∈stack.map (·.1)
 nodup:(post++stack.map (·.1)).Nodup
 root:∀x s,stack=x::s->x.1=0
 last:stack=[]->∃p,post=p++[0]
 closed:∀b∈post,∀t∈next b,rq seen t
 gone:∀x∈stack,∀j,j<x.2->∀t,(next x.1)[j]? =some t->rq seen t
 way:∀s x y r,stack=s++x::y::r->y.1∈next x.1
 early:∀l b r,post=l++b::r->b=0\/∃p,b∈next p/\(p∈r\/p∈stack.map (·.1))
 zero:0 ∉ post\/stack=[]
section
variable{n:Nat}{next:Nat->List Nat}{seen:List Bool}{post:List Nat}{stack s:List (Nat×Nat)}{b i t:Nat}
theorem JN.start(c:0<n) (a:∀b,b<n->∀t∈next b,t<n):JN n next ((List.replicate n false).set 0 true) [] [(0,0)] where
 len:=by simp
 low:=a
 range:=by simp_all
 pre:=by simp_all
 iff:=by grind[JF,rq]
 nodup:=by simp
 root:=by simp_all
 last:=by simp_all
 closed:=by simp_all
 gone:=by simp_all
 way:=λs x y r h=>by
  have:=congrArg List.length h
  grind
 early:=by simp_all
 zero:=by simp_all
theorem nM{α:Type} (l:List α):l=[]\/∃s x,l=s++[x]:=by
 rcases List.eq_nil_or_concat l with h|⟨s,x,h⟩
 ·simp_all
 simp_all
theorem Co{α:Type} {s s':List α} {x y:α} (h:s++[x]=s'++[y]):s=s'/\x=y:=by
 simp_all
theorem JN.pop(a:JN n next seen post (s++[(b,i)])) (hi:i=(next b).length):JN n next seen (post++[b]) s where
 len:=a.len
 low:=a.low
 range:=λx hx=>a.range x (SN _ hx)
 pre:=λc hc=>by
  rcases He.1 hc with hc|hc
  ·exact a.pre c hc
  ·simp at hc;subst hc;exact(a.range (c,i) (by simp)).1
 iff:=λc=>by
  rw[a.iff c]
  grind
 nodup:=by
  have:=a.nodup
  grind
 root:=λx r h=>a.root x (r++[(b,i)]) (by simp_all)
 last:=λh=>by
  subst h;have:=a.root (b,i) [] rfl
  simp_all
 closed:=λc hc t ht=>by
  rcases He.1 hc with hc|hc
  ·exact a.closed c hc t ht
  ·simp at hc;subst hc;obtain⟨j,f⟩:=oY.1 ht;have k:=(ki.1 f).1;exact a.gone (c,i) (by simp) j (by omega) t f
 gone:=λx hx=>a.gone x (SN _ hx)
 way:=λs' x y r h=>a.way s' x y (r++[(b,i)]) (by simp_all)
 early:=λl c r h=>by
  rcases nM r with rfl|⟨r',z,rfl⟩
  ·obtain⟨g,d⟩:=Co h;subst d;rcases nM s with rfl|⟨s',x,rfl⟩
   ·exact .inl (a.root (b,i) [] rfl)
   ·refine .inr ⟨x.1,a.way s' x (b,i) [] (by simp),by simp_all⟩
  ·have h':post++[b]=(l++c::r')++[z]:=by rw[h];simp
   obtain⟨g,d⟩:=Co h';subst d;rcases a.early l c r' g with h0|⟨p,q,u⟩
   ·omega
   grind
 zero:=by
  rcases nM s with rfl|⟨s',x,rfl⟩
  ·simp_all
  ·refine .inl λh0=>?_;obtain⟨y,e,m⟩:∃y e,s'++[x]=y::e:=by
    cases s' with
    |nil=>simp_all
    |cons y s'=>simp_all
   have v:=a.root y (e++[(b,i)]) (by simp_all);have o:=a.nodup
   grind
theorem JN.skip(a:JN n next seen post (s++[(b,i)])) (ht:(next b)[i]? =some t) (hs:rq seen t):JN n next seen post (s++[(b,i+1)]):=by
 have e:∀j:Nat,(s++[(b,j)]).map (λx:Nat×Nat=>x.1)=s.map (λx:Nat×Nat=>x.1)++[b]:=by simp_all
 refine⟨a.len,a.low,λx hx=>?_,a.pre,λc=>?_,?_,λx r h=>?_,by simp_all,a.closed,λx hx j g u k=>?_,λs' x y r h=>?_,λl c r h=>?_,?_⟩
 ·rcases He.1 hx with hx|hx
  ·exact a.range x (SN _ hx)
  ·simp at hx;subst hx;have:=a.range (b,i) (by simp)
   grind
 ·rw[e];have:=a.iff c;simp_all
 ·rw[e];have:=a.nodup;simp_all
 ·cases s with
  |nil=>simp at h;obtain⟨d,_⟩:=h;subst d;exact a.root (b,i) [] rfl
  | cons y s=>
    simp at h;obtain⟨d,f⟩:=h;subst d;exact a.root y (s++[(b,i)]) rfl
 ·rcases He.1 hx with hx|hx
  ·exact a.gone x (SN _ hx) j g u k
  ·simp at hx;subst hx;have m:j<i+1:=g;by_cases hji:j=i
   ·simp_all
   ·exact a.gone (b,i) (by simp) j (by omega) u k
 ·rcases nM r with rfl|⟨r',z,rfl⟩
  ·have h':s++[(b,i+1)]=(s'++[x])++[y]:=by rw[h];simp
   obtain⟨d,f⟩:=Co h';subst f;exact a.way s' x (b,i) [] (by simp_all)
  ·have h':s++[(b,i+1)]=(s'++x::y::r')++[z]:=by rw[h];simp
   obtain⟨d,f⟩:=Co h';exact a.way s' x y (r'++[(b,i)]) (by simp_all)
 ·rw[e];have:=a.early l c r h;simp_all
 ·rcases a.zero with h|h
  ·simp_all
  simp_all
theorem JN.push(a:JN n next seen post (s++[(b,i)])) (ht:(next b)[i]? =some t) (hs:¬rq seen t):JN n next (seen.set t true) post (s++[(b,i+1)]++[(t,0)]):=by
 have hb:=a.range (b,i) (by simp);have m:t<n:=a.low b hb.1 t (DG ht);have d:∀c,rq (seen.set t true) c↔c=t\/rq seen c:=λc=>JF (by rw[a.len];exact m);have o:(s++[(b,i+1)]++[(t,0)]).map (λx:Nat×Nat=>x.1)=(s++[(b,i)]).map (λx:Nat×Nat=>x.1)++[t]:=by simp
 have B:=(ki.1 ht).1;refine⟨by simp[a.len],a.low,λx hx=>?_,a.pre,λc=>?_,?_,λx r h=>?_,by simp_all,λc hc u g=>(d u).2 (.inr (a.closed c hc u g)),λx hx j q u g=>?_,λs' x y r h=>?_,λl c r h=>?_,?_⟩
 ·rcases He.1 hx with hx|hx
  ·rcases He.1 hx with hx|hx
   ·exact a.range x (SN _ hx)
   grind
  simp_all
 ·rw[d,o,a.iff c,He]
  grind
 ·rw[o,<-Lb];refine ZL.2 ⟨a.nodup,by simp,λx hx y v e=>?_⟩;simp at v;subst v;subst e;refine hs ((a.iff x).2 ?_)
  simp_all
 ·cases s with
  | nil=>
    simp at h;obtain⟨f,_⟩:=h;subst f
    exact a.root (b,i) [] rfl
  | cons y s=>
    simp at h;obtain⟨f,C⟩:=h;subst f;exact a.root y (s++[(b,i)]) rfl
 ·refine (d u).2 ?_;rcases He.1 hx with hx|hx
  ·rcases He.1 hx with hx|hx
   ·exact .inr (a.gone x (SN _ hx) j q u g)
   ·simp at hx;subst hx;have D:j<i+1:=q;by_cases hji:j=i
    ·simp_all
    ·exact .inr (a.gone (b,i) (by simp) j (by omega) u g)
  simp_all
 ·rcases nM r with rfl|⟨r',z,rfl⟩
  ·have h':s++[(b,i+1)]++[(t,0)]=(s'++[x])++[y]:=by rw[h];simp
   grind[Co,DG]
  ·have h':s++[(b,i+1)]++[(t,0)]=(s'++x::y::r')++[z]:=by rw[h];simp
   obtain⟨f,C⟩:=Co h';rcases nM r' with rfl|⟨r2,E,rfl⟩
   ·have k:s++[(b,i+1)]=(s'++[x])++[y]:=by rw[f];simp
    obtain⟨w,A⟩:=Co k;subst A;exact a.way s' x (b,i) [] (by simp_all)
   ·have k:s++[(b,i+1)]=(s'++x::y::r2)++[E]:=by rw[f];simp
    obtain⟨w,A⟩:=Co k;exact a.way s' x y (r2++[(b,i)]) (by simp_all)
 ·rcases a.early l c r h with h0|⟨p,k,w⟩
  ·omega
  grind
 ·rcases a.zero with h|h
  ·simp_all
  simp_all
end
def cost(n:Nat)(f:Nat->Nat):Nat:=((List.range n).map f).sum
theorem Pl(n:Nat) (f:Nat->Nat):cost (n+1) f=cost n f+f n:=by
 grind[cost,Yl]
theorem WW(n:Nat) (f g:Nat->Nat) (h:∀b,b<n->f b=g b):cost n f=cost n g:=by
 induction n with
 |zero=>rfl
 |succ n a=>grind[Pl]
theorem YN(n:Nat) (f g:Nat->Nat) (t:Nat) (ht:t<n) (h0:g t=0) (h:∀b,b≠t->g b=f b):cost n g+f t=cost n f:=by
 induction n with
 |zero=>omega
 | succ n a=>
   grind[Pl,WW]
noncomputable def left(next:Nat->List Nat)(seen:List Bool)(b:Nat):Nat:=if seen[b]? =some true then 0 else 2+(next b).length
def VO(next:Nat->List Nat)(stack:List (Nat×Nat)):Nat:=(stack.map λx=>1+((next x.1).length-x.2)).sum
noncomputable def mu(n:Nat)(next:Nat->List Nat)(seen:List Bool)(stack:List (Nat×Nat)):Nat:=cost n (left next seen)+VO next stack
section
variable{n:Nat}{next:Nat->List Nat}{seen:List Bool}{post:List Nat}{s:List (Nat×Nat)}{b i t:Nat}
theorem I3(x:Nat×Nat):VO next (s++[x])=VO next s+(1+((next x.1).length-x.2)):=by
 grind[VO]
theorem zc7:mu n next seen s<mu n next seen (s++[(b,i)]):=by
 grind[mu,I3]
theorem zab(ht:(next b)[i]? =some t):mu n next seen (s++[(b,i+1)])<mu n next seen (s++[(b,i)]):=by
 grind[ki,mu,I3]
theorem zaj(d:JN n next seen post (s++[(b,i)])) (ht:(next b)[i]? =some t) (hs:¬rq seen t):mu n next (seen.set t true) (s++[(b,i+1)]++[(t,0)])<mu n next seen (s++[(b,i)]):=by
 have hb:=d.range (b,i) (by simp);have a:t<n:=d.low b hb.1 t (DG ht);have f:=(ki.1 ht).1;have e:∀c,rq (seen.set t true) c↔c=t\/rq seen c:=λc=>JF (by rw[d.len];exact a);have g:left next (seen.set t true) t=0:=by
  unfold left;exact if_pos ((e t).2 (.inl rfl))
 have h:∀c,c≠t->left next (seen.set t true) c=left next seen c:=by simp_all[rq,left,if_pos,if_neg]
 have j:=YN n (left next seen) (left next (seen.set t true)) t a g h;have k:left next seen t=2+(next t).length:=by
  unfold left;exact if_neg hs
 grind[mu,I3,cost,left]
end
theorem sub_le:∀(l b:List Nat),l.Nodup->(∀x∈l,x∈b)->l.length<=b.length
 |[],_,_,_=>Mj _
 | a::l,b,hd,h=>by
   have d:=h a (.head _);have c:=List.nodup_cons.1 hd;have e:=sub_le l (b.erase a) c.2 (by grind)
   grind
theorem UC:∀(l:List Nat) (a:Nat),a∈l->l[l.idxOf a]? =some a
 |[],_,h=>by cases h
 | b::l,a,h=>by
   grind
section
variable{n:Nat}{next:Nat->List Nat}{seen:List Bool}{post:List Nat}
def JN.gr(c:JN n next seen post []):Gr where
 node b:=b∈post
 BY a b:=b∈next a
 place b:=post.reverse.idxOf b
 first:=by obtain⟨p,h⟩:=c.last rfl;simp_all
 EF:=by obtain⟨p,h⟩:=c.last rfl;simp_all
 inj a b ha hb h:=by
  grind[UC,Option.some.inj]
 to a b ha he:=by
  have:=(c.iff b).1 (c.closed a ha b he)
  simp_all
 early b hb h0:=by
  obtain⟨l,r,h⟩:=List.append_of_mem hb;rcases c.early l b r h with h'|⟨p,d,e⟩
  ·omega
  ·have g:p∈r:=by simpa using e
   refine⟨p,by simp_all,d,?_⟩;have f:=c.nodup
   grind
theorem JN.all(c:JN n next seen post []) (d:∀b,b<n->b∈post):post.length=n:=by
 have a:=c.nodup;simp only[wB2,JL]at a;have e:=jM n post a c.pre;have f:=sub_le (List.range n) post List.nodup_range (by simp_all)
 grind
end
end Go.Proofs.YtkpicojjjifmgabGreatDoor.Dm
namespace Go.Proofs.YtkpicojjjifmgabGreatDoor.Un
open Dm
structure Vl where
 op:Nat
 a:Nat
 b:Nat
 n:Int
 args:List Nat
 state:Nat
structure Bk where
 ej:List Nat
 fin:Nat
 cond:Nat
 next:List Nat
 fi:List Nat
 state:Nat
structure Fm where
 func:Int
 pc:Int
 locals:List Nat
 stack:List Nat
structure U where
 func:Int
 pc:Int
 ej:List Vl
 blocks:List Bk
 ev:List (List Fm)
def two(op:Nat):Bool:=(3<=op&&op<=7) ||(10<=op&&op<=14) ||op == 18 ||op == 19 ||op == 20
def nq(op:Nat):Bool:=op == 8 ||op == 9 ||op == 15 ||op == 16 ||op == 17 ||op == 22
def hK(v:Vl):List Nat:=
 if v.op=21 then v.args else if v.op=20 then v.a::v.b::v.args.take 1 else if two v.op=true then[v.a,v.b] else if nq v.op=true then[v.a] else[]
def IM(op:Nat):Bool:=op<19 ||op == 21
def leaves(op:Nat):Bool:=op == 22 ||op == 23
def iO(op:Nat):Bool:=op == 1 ||op == 21
def ik(s:List Fm):List Nat:=s.flatMap λf=>f.locals++f.stack
def next(u:U) (b:Nat):List Nat:=match u.blocks[b]? with
 |some B=>B.next
 |none=>[]
def mN(l:List Bk) (i b:Nat):List Nat:=match l with
 |[]=>[]
 |B::l=>(B.next.filter (·= b)).map (λ_=>i)++mN l (i+1) b
def ahead(u:U)(b:Nat):List Nat:=mN u.blocks 0 b
inductive Pt (nx:Nat->List Nat):Nat->List Nat->Prop
 |nil:Pt nx 0 [0]
 |step {p b:Nat} {l:List Nat} (h:Pt nx p l) (e:b∈nx p):Pt nx b (b::l)
def o0(nx:Nat->List Nat)(x b:Nat):Prop:=∀l,Pt nx b l->x∈l
def At(u:U)(v b k:Nat):Prop:=∃B,u.blocks[b]? =some B/\B.ej[k]? =some v
def vD(u:U)(v:Nat):Prop:=∃x,u.ej[v]? =some x/\IM x.op=true
def zE(u:U)(v b k:Nat):Prop:=∃c j,At u v c j/\(c=b/\j<k\/c≠b/\o0 (next u) c b)
def zb(u:U)(v b:Nat):Prop:=∃c j,At u v c j/\o0 (next u) c b
structure Gd (u:U) (P:Nat->Prop):Prop where
 nv:u.ej.length<=3000
 MH:1<=u.blocks.length
 nb:u.blocks.length<=300
 ns:u.ev.length<=1000
 st:∀(s:Nat) (fs:List Fm),u.ev[s]? =some fs->1<=fs.length/\fs.length<=30/\∀f∈fs,f.locals.length<=40/\f.stack.length<=60/\(∀v∈f.locals,vD u v)/\∀v∈f.stack,vD u v
 Ef:∀(v:Nat),v<u.ej.length->P v->∃b k,At u v b k
 FQ:∀(v:Nat) (b:Nat) (k:Nat) (a:Nat) (k':Nat),At u v b k->At u v a k'->b=a/\k=k'
 ko:∀(v:Nat) (b:Nat) (k:Nat),At u v b k->v<u.ej.length
 II:∀(v:Nat) (w:Nat) (b:Nat) (k:Nat) (x:Vl) (y:Vl),At u v b (k+1)->At u w b k->u.ej[v]? =some x->u.ej[w]? =some y->iO x.op=true->iO y.op=true
 par:∀(v:Nat) (b:Nat) (k:Nat) (x:Vl),At u v b k->u.ej[v]? =some x->x.op=1->b=0
 KN:∀(v:Nat) (b:Nat) (k:Nat) (x:Vl) (B:Bk),At u v b k->u.ej[v]? =some x->x.op=21->u.blocks[b]? =some B->b≠0/\x.args.length=B.fi.length
 op:∀(v:Nat) (x:Vl),u.ej[v]? =some x->1<=x.op/\x.op<=23
 use:∀(v:Nat) (x:Vl),u.ej[v]? =some x->∀w∈hK x,vD u w
 leave:∀(v:Nat) (x:Vl),u.ej[v]? =some x->leaves x.op=true->x.state<u.ev.length
 putAt:∀(v:Nat) (x:Vl),u.ej[v]? =some x->x.op=20->x.args.length=1
 param:∀(v:Nat) (x:Vl),u.ej[v]? =some x->x.op=1->0<=x.n/\x.n<40/\∀(w:Nat) (y:Vl),u.ej[w]? =some y->y.op=1->y.n=x.n->w=v
 fin:∀(b:Nat) (B:Bk),u.blocks[b]? =some B->(B.fin=1/\B.next.length=1)\/(B.fin=2/\B.next.length=2/\vD u B.cond)\/(B.fin=3/\B.next=[]/\B.state<u.ev.length)
 nx:∀(b:Nat),∀t∈next u b,t<u.blocks.length
 fi:∀(b:Nat) (B:Bk),u.blocks[b]? =some B->B.fi=ahead u b
 Hf:ahead u 0=[]
 Lz:∀(b:Nat) (B:Bk),u.blocks[b]? =some B->B.fin=2->∀t∈B.next,(ahead u t).length=1
 reach:∀(b:Nat),b<u.blocks.length->∃l,Pt (next u) b l
 GM:∀(v:Nat) (b:Nat) (k:Nat) (x:Vl),At u v b k->u.ej[v]? =some x->x.op≠21->∀w∈hK x,zE u w b k
 L1:∀(v:Nat) (b:Nat) (k:Nat) (x:Vl) (B:Bk),At u v b k->u.ej[v]? =some x->x.op=21->u.blocks[b]? =some B->∀(j w p:Nat),x.args[j]? =some w->B.fi[j]? =some p->zb u w p
 Md:∀(v:Nat) (b:Nat) (k:Nat) (x:Vl) (fs:List Fm),At u v b k->u.ej[v]? =some x->leaves x.op=true->u.ev[x.state]? =some fs->∀w∈ik fs,zE u w b k
 L8:∀(b:Nat) (B:Bk),u.blocks[b]? =some B->B.fin=2->zb u B.cond b
 L4:∀(b:Nat) (B:Bk) (fs:List Fm),u.blocks[b]? =some B->B.fin=3->u.ev[B.state]? =some fs->∀w∈ik fs,zb u w b
abbrev Good(u:U):Prop:=Gd u λ_=>True
theorem KL{nx:Nat->List Nat} {D:Nat->Nat} (hc:∀p b,b∈nx p->b≠0->qo D (D b) p) {x:Nat}:∀{b l},Pt nx b l->qo D x b->x∈l
 | _,_,.nil,h=>by
   cases h <;> grind
 | _,_,.step (p:=p) h e,hx=>by
   cases hx with
   |refl=>simp_all
   |up h0 hx=>exact .tail _ (KL hc h (hx.trans (by simp_all)))
theorem o0.self(nx:Nat->List Nat)(b:Nat):o0 nx b b:=λl h=>by cases h <;> exact .head _
theorem ZC{G:Gr} {nx:Nat->List Nat} (c:∀a b,G.BY a b↔b∈nx a):∀{b l r},Pa G b l r->Pt nx b l
 |_,_,_,.nil=> .nil
 |_,_,_,.fwd h e _=> .step (ZC c h) (by simp_all)
 |_,_,_,.bwd h e _=> .step (ZC c h) (by simp_all)
theorem zcf{G:Gr} {nx:Nat->List Nat} (c:∀a b,G.BY a b↔b∈nx a):∀{b l},Pt nx b l->∃r,Pa G b l r
 |_,_,.nil=>⟨0,.nil⟩
 | _,_,.step h e=>by
   obtain⟨r,hp⟩:=zcf c h;obtain⟨r',_,_,hs⟩:=hp.step ((c _ _).2 e)
   grind
theorem YT{G:Gr} {nx:Nat->List Nat} (c:∀a b,G.BY a b↔b∈nx a) {x b:Nat}:o0 nx x b↔WL G x b:=
 ⟨λh l r hp=>h l (ZC c hp),λh l hp=>let⟨r,hr⟩:=zcf c hp;h l r hr⟩
theorem wA{b p:Nat}:∀{l:List Bk} {i:Nat},p∈mN l i b↔∃k B,l[k]? =some B/\b∈B.next/\p=i+k
 |[],i=>by simp[mN]
 | B ::l,i=>by
   simp only[mN,He,MI,Rl,CU,wA (l:=l)];constructor
   ·rintro (⟨t,⟨a,c⟩,d⟩|⟨k,e,a,c,d⟩)
    ·subst c
     exact⟨0,B,rfl,a,d.symm⟩
    ·exact⟨k+1,e,a,c,by omega⟩
   grind
theorem Hq{u:U} {b p:Nat}:p∈ahead u b↔b∈next u p:=by
 grind[ahead,next,wA]
theorem AZ{b:Nat}:∀(l m:List Bk) (i:Nat),mN (l++m) i b=mN l i b++mN m (i+l.length) b
 |[],m,i=>by rfl
 | B::l,m,i=>by
   simp only[wBo,mN,AZ l m (i+1),Rt,Lb]
   grind
def mS(n:Int)(m:Nat):Nat:=(if n.tmod m<0 then n.tmod m+m else n.tmod m).toNat
theorem Ha(n:Int) {m:Nat} (a:0<m):mS n m<m:=by
 have c:=Int.tmod_lt_of_pos n (b:=(m:Int)) (by omega)
 grind[Int,Int.tmod_lt_of_pos,Int.neg_tmod,mS]
structure Ds where
 ej:List Vl
 cur:List Nat
 known:List Nat
 ev:List (List Fm)
 pos:Nat
def draw(ops:List Int) (pos m:Nat):Nat×Nat:=match ops[pos]? with
 |none=>(0,pos)
 |some n=>(mS n m,pos+1)
theorem zf(ops:List Int) (pos:Nat) {m:Nat} (a:0<m):(draw ops pos m).1<m:=by
 unfold draw;split
 ·exact a
 simp_all[Ha]
def vl(op a b:Nat)(n:Int)(args:List Nat)(state:Nat):Vl:=⟨op,a,b,n,args,state⟩
def put(s:Ds)(v:Vl):Ds:={s with ej:=s.ej++[v],cur:=s.cur++[s.ej.length]}
def jd(s:Ds)(v:Vl):Ds:={s with ej:=s.ej++[v],cur:=s.cur++[s.ej.length],known:=s.known++[s.ej.length]}
def fO(ops:List Int)(s:Ds):Nat×Ds:=(s.known.getD (draw ops s.pos s.known.length).1 0,{s with pos:=(draw ops s.pos s.known.length).2})
def num(ops:List Int)(s:Ds)(m:Nat):Nat×Ds:=((draw ops s.pos m).1,{s with pos:=(draw ops s.pos m).2})
def some_(ops:List Int):Nat->Ds->List Nat->List Nat×Ds
 |0,s,l=>(l,s)
 |i+1,s,l=>some_ ops i (fO ops s).2 (l++[(fO ops s).1])
def fK(ops:List Int) (s:Ds):Nat×Ds:=
 let r:=num ops s 4
 let q:=some_ ops r.1 r.2 []
 (s.ev.length,{q.2 with ev:=s.ev++[[⟨1,(s.ev.length:Nat),q.1,[s.known.getLastD 0]⟩]]})
def tS(ops:List Int) (s:Ds) (k a b:Nat):Ds:=
 if k<12 then jd s (vl (3+k) a b 0 [] 0)
 else if k=12 then let r:=num ops s 1048576;jd r.2 (vl 2 0 0 ((r.1:Int)-9) [] 0)
 else if k=13 then let r:=num ops s 5;jd r.2 (vl 17 a 0 (r.1:Nat) [] 0)
 else if k=14 then jd s (vl 18 a b 0 [] 0)
 else if k=15 then let r:=num ops s 5;put r.2 (vl 19 a b (r.1:Nat) [] 0)
 else if k=16 then let r:=fO ops s;put r.2 (vl 20 a b 0 [r.1] 0)
 else if k=17 then let r:=fK ops s;put r.2 (vl 22 a 0 0 [] r.1)
 else if k=18 then let r:=fK ops s;put r.2 (vl 23 0 0 0 [] r.1)
 else let r:=num ops s 2;jd r.2 (vl (15+r.1) a 0 0 [] 0)
def vf(ops:List Int) (s:Ds):Ds:=
 let r:=fO ops s
 let q:=fO ops r.2
 let k:=num ops q.2 20
 tS ops k.2 k.1 r.1 q.1
def rows(ops:List Int):Nat->Ds->Ds
 |0,s=>s
 |i+1,s=>if s.ej.length<200 then rows ops i (vf ops s) else s
def row(ops:List Int)(s:Ds):Ds:=let r:=num ops s 6;rows ops (1+r.1) r.2
structure Dt where
 s:Ds
 blocks:List Bk
 fi:List Nat
def end_(t:Dt) (fin cond:Nat) (nx:List Nat) (state:Nat) (fi:List Nat):Dt:={s:={t.s with cur:=[]},blocks:=t.blocks++[⟨t.s.cur,fin,cond,nx,t.fi,state⟩],fi:=fi}
def cut(n:Nat)(s:Ds):Ds:={s with known:=s.known.take n}
def setArgs(s:Ds)(v:Nat)(args:List Nat):Ds:={s with ej:=s.ej.modify v λx=>{x with args:=args} }
def fork(ops:List Int) (t:Dt):Dt:=
 let c:=fO ops t.s
 let b:=t.s.known.length
 let a:=t.blocks.length
 let d:=end_ {t with s:=c.2} 2 c.1 [a+1,a+2] 0 [a]
 let e:=row ops d.s
 let x:=e.known.getLastD 0
 let f:=end_ {d with s:=cut b e} 1 0 [a+3] 0 [a]
 let g:=row ops f.s
 let y:=g.known.getLastD 0
 let t3:=end_ {f with s:=cut b g} 1 0 [a+3] 0 [a+1,a+2]
 {t3 with s:=row ops (jd t3.s (vl 21 0 0 0 [x,y] 0))}
def loop(ops:List Int) (t:Dt):Dt:=
 let f:=fO ops t.s
 let a:=t.blocks.length
 let c:=end_ {t with s:=f.2} 1 0 [a+1] 0 [a,a+2]
 let p:=c.s.ej.length
 let l:=put c.s (vl 21 0 0 0 [f.1,0] 0)
 let g:=fO ops l
 let i:=put g.2 (vl 21 0 0 0 [g.1,p] 0)
 let m:={i with known:=i.known++[p,p+1]}
 let st:=fK ops m
 let s4:=put st.2 (vl 23 0 0 0 [] st.1)
 let one:=s4.ej.length
 let n:=put s4 (vl 2 0 0 1 [] 0)
 let j:=jd n (vl 4 p one 0 [] 0)
 let k:=end_ {c with s:=j} 2 p [a+2,a+3] 0 [a+1]
 let b:=j.known.length
 let e:=row ops k.s
 let o:=setArgs e p [f.1,one+1]
 let d:=num ops o 3
 let q:=if d.1=0 then setArgs d.2 p [f.1,e.known.getLastD 0] else d.2
 let h:=setArgs q (p+1) [g.1,e.known.getLastD 0]
 let t3:=end_ {k with s:=cut b h} 1 0 [a+1] 0 [a+1]
 {t3 with s:=row ops t3.s}
def zl(ops:List Int) (t:Dt):Dt:=
 let c:=fO ops t.s
 let b:=t.s.known.length
 let a:=t.blocks.length
 let d:=end_ {t with s:=c.2} 2 c.1 [a+1,a+2] 0 [a]
 let f:=row ops d.s
 let st:=fK ops f
 let e:=end_ {d with s:=cut b st.2} 3 0 [] st.1 [a]
 {e with s:=row ops e.s}
def vw(ops:List Int)(k:Nat)(t:Dt):Dt:=if k=0 then fork ops t else if k=1 then loop ops t else zl ops t
def mz(ops:List Int):List Int->Dt->Dt
 |[],t=>t
 |k::l,t=>if t.s.ej.length<160 then mz ops l (vw ops (mS k 3) t) else t
def params:Nat->Nat->Ds->Ds
 |0,_,s=>s
 |n+1,i,s=>params n (i+1) (jd s (vl 1 0 0 (i:Nat) [] 0))
def IB(ops a:List Int) (n:Int):U:=
 let s:=row ops (jd (params (mS n 5) 0 ⟨[],[],[],[],0⟩) (vl 2 0 0 5 [] 0))
 let t:=mz ops (a.take 6) ⟨s,[],[]⟩
 let st:=fK ops t.s
 let b:=end_ {t with s:=st.2} 3 0 [] st.1 []
 ⟨1,2,b.s.ej,b.blocks,b.s.ev⟩
