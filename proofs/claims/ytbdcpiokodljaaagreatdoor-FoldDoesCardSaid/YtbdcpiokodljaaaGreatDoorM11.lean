/- Parts. -/
import Derived.Test.YtbdcpiokodljaaaGreatDoorM00
import Derived.Calls
set_option maxHeartbeats 4000000
namespace Go.Proofs.YtbdcpiokodljaaaGreatDoor.Dm
structure Gr where
 node:Nat->Prop
 BZ:Nat->Nat->Prop
 place:Nat->Nat
 first:node 0
 EM:place 0=0
 inj:∀a b,node a->node b->place a=place b->a=b
 to:∀a b,node a->BZ a b->node b
 early:∀b,node b->b≠0->∃p,node p/\BZ p b/\place p<place b
inductive Pa (G:Gr):Nat->List Nat->Nat->Prop
 |nil:Pa G 0 [0] 0
 |fwd {p b:Nat} {l:List Nat} {r:Nat} (h:Pa G p l r) (e:G.BZ p b) (hp:G.place p<G.place b):Pa G b (b::l) r
 |bwd {p b:Nat} {l:List Nat} {r:Nat} (h:Pa G p l r) (e:G.BZ p b) (hp:¬G.place p<G.place b):Pa G b (b::l) (r+1)
def X7(G:Gr)(x b:Nat):Prop:=∀l r,Pa G b l r->x∈l
def DK(G:Gr)(k x b:Nat):Prop:=∀l r,Pa G b l r->r<k->x∈l
variable{G:Gr}
theorem Pa.node:∀{b l r},Pa G b l r->G.node b
 |_,_,_,.nil=>G.first
 |_,_,_,.fwd h e _=>G.to _ _ h.node e
 |_,_,_,.bwd h e _=>G.to _ _ h.node e
theorem Pa.last:∀{b l r},Pa G b l r->b∈l
 |_,_,_,.nil=> .head _
 |_,_,_,.fwd _ _ _=> .head _
 |_,_,_,.bwd _ _ _=> .head _
theorem Pa.step{p b:Nat} {l:List Nat} {r:Nat} (h:Pa G p l r) (e:G.BZ p b):∃r',r'<=r+1/\(G.place p<G.place b->r' = r)/\Pa G b (b::l) r':=by
 by_cases hp:G.place p<G.place b
 ·exact⟨r,PT _,λ_=>rfl,.fwd h e hp⟩
 ·exact⟨r+1,ju _,by omega,.bwd h e hp⟩
theorem zaz(n:Nat):∀b,G.node b->G.place b<n->∃l,Pa G b l 0/\∀x∈l,G.node x/\G.place x<=G.place b:=by
 induction n with
 |zero=>omega
 | succ n c=>
   intro b d g;by_cases h0:b=0
   ·subst h0
    exact⟨[0],.nil,by simp_all⟩
   ·obtain⟨p,hp,e,a⟩:=G.early b d h0
    obtain⟨l,f,i⟩:=c p hp (by omega);refine⟨b::l,.fwd f e a,λx h=>?_⟩
    grind
theorem Pa.pre:∀{b l r},Pa G b l r->∀{x},x∈l->∃c r',Pa G x c r'/\r'<=r/\∀y∈c,y∈l
 |_,_,_,.nil,x,a=>by simp at a;subst a;exact⟨[0],0,.nil,ju _,λy h=>h⟩
 | b,_,_,.fwd (l:=l) (r:=r) h e hp,x,a=>by
   rcases Pd.1 a with rfl|a
   ·exact⟨_,_,.fwd h e hp,ju _,λy h=>h⟩
   ·obtain⟨c,r',d,f,g⟩:=h.pre a
    grind
 | b,_,_,.bwd (l:=l) (r:=r) h e hp,x,a=>by
   rcases Pd.1 a with rfl|a
   ·exact⟨_,_,.bwd h e hp,ju _,λy h=>h⟩
   ·obtain⟨c,r',d,f,g⟩:=h.pre a
    grind
theorem DK.mono{x b k k':Nat}(h:DK G k x b)(hk:k'<=k):DK G k' x b:=λl r hp a=>h l r hp (by omega)
theorem DK.trans{x y b k:Nat} (a:DK G k x y) (c:DK G k y b):DK G k x b:=by
 intro l r hp d;obtain⟨e,r',f,h,g⟩:=hp.pre (c l r hp d);exact g x (a e r' f (by omega))
theorem DK.self(k b:Nat):DK G k b b:=λ_ _ hp _=>hp.last
theorem X7.pred{x p b:Nat} (h:X7 G x b) (a:x≠b) (e:G.BZ p b):X7 G x p:=by
 intro l r hp;obtain⟨r',_,_,hs⟩:=hp.step e;rcases Pd.1 (h _ _ hs)with rfl|h
 ·omega
 ·exact h
inductive qO (I:Nat->Nat):Nat->Nat->Prop
 |refl (b:Nat):qO I b b
 |up {a b:Nat} (h0:b≠0) (h:qO I a (I b)):qO I a b
theorem qO.trans{I:Nat->Nat} {a b c:Nat} (d:qO I a b) (e:qO I b c):qO I a c:=by
 induction e with
 |refl=>exact d
 |up h0 _ f=>exact .up h0 f
theorem qO.parent{I:Nat->Nat} {a b:Nat} (h:qO I a b) (c:a≠b):qO I a (I b):=by
 cases h with
 |refl=>omega
 |up _ h=>exact h
def set(I:Nat->Nat)(b d:Nat):Nat->Nat:=λx=>if x=b then d else I x
structure Tree (G:Gr) (I:Nat->Nat) (S:Nat->Prop):Prop where
 zero:S 0
 node:∀b,S b->G.node b
 up:∀b,S b->b≠0->S (I b)/\G.place (I b)<G.place b
section
variable{I:Nat->Nat}{S:Nat->Prop}
theorem Tree.anc(c:Tree G I S) {a b:Nat} (h:qO I a b):S b->S a/\G.place a<=G.place b:=by
 induction h with
 |refl=>simp_all
 | up h0 _ e=>
   intro d;obtain⟨f,g⟩:=c.up _ d h0
   grind
theorem Tree.zaA(c:Tree G I S) {a b:Nat} (e:qO I a b) (f:qO I b a) (h:S b):a=b:=by
 have d:=c.anc e h;have g:=c.anc f d.1;exact G.inj _ _ (c.node _ d.1) (c.node _ h) (by omega)
theorem Tree.zcs(c:Tree G I S) {a b x:Nat} (i:S a) (d:S b) (f:G.place b<G.place a) (g:qO I x a) (h:qO I x b):qO I x (I a):=by
 refine g.parent λe=>?_;subst e;have:=(c.anc h d).2;omega
theorem qO.zaO{b d:Nat} (f:Tree G I S) {a c:Nat} (h:qO I a c):S c->G.place c<G.place b->qO (set I b d) a c:=by
 induction h with
 |refl=>exact λ_ _=> .refl _
 | up h0 _ g=>
   rename_i c _;intro hc i;have e:c≠b:=by grind
   obtain⟨j,k⟩:=f.up _ hc h0;refine .up h0 ?_;unfold Dm.set;rw[if_neg e];exact g j (by omega)
end
structure Inv (G:Gr) (I:Nat->Nat) (S:Nat->Prop) (k pos:Nat):Prop where
 tree:Tree G I S
 one:1<=k
 zgr:1<=pos
 done:∀b,G.node b->G.place b<pos->S b
 all:2<=k->∀b,G.node b->S b
 fresh:k=1->∀b,S b->G.place b<pos
 low:∀b,S b->b≠0->DK G (if G.place b<pos then k else k-1) (I b) b
 Ug:∀y x,S y->X7 G x y->qO I x y
section
variable{I:Nat->Nat}{S:Nat->Prop}{k pos:Nat}
theorem Inv.kb(a:Inv G I S k pos) {b:Nat} (c:S b):1<=(if G.place b<pos then k else k-1):=by
 have:=a.one;split
 ·omega
 ·rename_i h;by_cases d:k=1
  ·exact absurd (a.fresh d b c) h
  ·omega
theorem Inv.QL(c:Inv G I S k pos) {a b:Nat} (h:qO I a b):S b->DK G (if G.place b<pos then k else k-1) a b:=by
 induction h with
 |refl=>grind[DK.self]
 | up h0 _ e=>
   rename_i b _;intro d;obtain⟨f,g⟩:=c.tree.up _ d h0;refine DK.trans (DK.mono (e f) ?_) (c.low b d h0)
   grind
theorem Pa.swap:∀{y d r0},Pa G y d r0->r0=0->∀{z l r},z∈d->Pa G z l r->∃a r',Pa G y a r'/\G.place z<=G.place y/\∀w∈a,w∈l\/G.place z<G.place w
 | _,_,_,.nil,_,z,l,r,c,hp=>by
   grind
 | _,_,_,.fwd (p:=p) (b:=b) h e Pu,h0,z,l,r,c,hp=>by
   rcases Pd.1 c with rfl|c
   ·grind
   ·obtain⟨a,r',f,g,i⟩:=h.swap h0 c hp
    refine⟨b::a,r',.fwd f e Pu,by omega,λw j=>?_⟩
    grind
 |_,_,_,.bwd _ _ _,h0,_,_,_,_,_=>by cases h0
theorem Inv.zdt(a:Inv G I S k pos) {x y z:Nat} (c:S y) (j:X7 G x y) (g:qO I z y) (d:qO I x z) (m:x≠z):X7 G x z:=by
 intro l r hp;obtain⟨i,b,_⟩:=zaz (G:=G) (G.place y+1) y (a.tree.node y c) (Pv _);have e:z∈i:=a.QL g c i 0 b (a.kb c);obtain⟨n,r',o,_,p⟩:=b.swap rfl e hp;rcases p x (j n r' o)with h|h
 ·exact h
 ·have f:=a.tree.anc g c;have:=a.tree.anc d f.1;omega
theorem Inv.Pj(a:Inv G I S k pos) {b d:Nat} (A:G.node b) (h0:b≠0) (hp:G.place b=pos) (f:∀p,S p->G.BZ p b->qO I d p) (i:∀x,(∀p,S p->G.BZ p b->qO I x p)->qO I x d) :
  Inv G (set I b d) (λx=>S x\/x=b) k (pos+1)/\S d/\G.place d<G.place b:=by
 obtain⟨p0,B,C,J⟩:=G.early b A h0;have s:S p0:=a.done p0 B (by omega);obtain⟨K,L⟩:=a.tree.anc (f p0 s C) s;have t:G.place d<G.place b:=by omega
 have u:set I b d b=d:=by unfold Dm.set;rw[if_pos rfl]
 have j:∀c,c≠b->set I b d c=I c:=by simp_all[Dm.set,if_neg]
 have D:Tree G (set I b d) (λx=>S x\/x=b):=by
  refine⟨.inl a.tree.zero,λc hc=>?_,λc hc m=>?_⟩
  ·rcases hc with hc|rfl
   ·exact a.tree.node c hc
   ·exact A
  ·by_cases hcb:c=b
   ·simp_all
   ·rw[j c hcb];have hc:=hc.resolve_right hcb;have:=a.tree.up c hc m
    simp_all
 have E:∀x,X7 G x b->qO (set I b d) x b:=by
  intro x q;by_cases hxb:x=b
  ·subst hxb;exact .refl _
  ·refine .up h0 ?_;rw[u];exact(i x λp F M=>a.Ug p x F (q.pred hxb M)).zaO a.tree K t
 refine⟨⟨D,a.one,by omega,λc hc v=>?_,λN c hc=> .inl (a.all N c hc),λO c hc=>?_,λc hc m=>?_,λy x P q=>?_⟩,K,t⟩
 ·by_cases hcp:G.place c<pos
  ·exact .inl (a.done c hc hcp)
  ·exact .inr (G.inj c b hc A (by omega))
 ·rcases hc with hc|rfl
  ·have:=a.fresh O c hc;omega
  ·omega
 ·by_cases hcb:c=b
  ·subst hcb;rw[u,if_pos (by omega)];intro l r n Q
   cases n with
   |nil=>omega
   | fwd h e v=>
     rename_i p l;have w:S p:=a.done p h.node (by omega);have:=a.QL (f p w e) w;rw[if_pos (by omega)]at this
     exact .tail _ (this _ _ h Q)
   | bwd h e v=>
     rename_i p l r;have w:S p:=a.all (by omega) p h.node;have:=(a.QL (f p w e) w).mono (k':=k-1) (by grind);exact .tail _ (this _ _ h (by omega))
  ·have z:=hc.resolve_right hcb;rw[j c hcb];have R:G.place c≠pos:=λh=>hcb (G.inj c b (a.tree.node c z) A (by omega));have:=a.low c z m
   grind
 ·by_cases hyb:y=b
  ·simp_all
  ·have g:=P.resolve_right hyb;have H:∀{y},qO I x y->S y->X7 G x y->qO (set I b d) x y:=by
    intro y h
    induction h with
    |refl=>exact λ_ _=> .refl _
    | up o h T=>
      rename_i y;intro g q;by_cases hyb:y=b
      ·simp_all
      ·refine .up o ?_
       rw[j y hyb];by_cases hxI:x=I y
       ·rw[<-hxI];exact .refl _
       ·exact T (a.tree.up y g o).1 (a.zdt g q (.up o (.refl _)) h hxI)
   exact H (a.Ug y x g q) g q
theorem Inv.pass(d:Inv G I S k pos) (a:∀b,G.node b->G.place b<pos):Inv G I S (k+1) 1:=by
 have g:=d.one;refine⟨d.tree,by omega,ju _,λb c e=>?_,λ_ b c=>d.done b c (a b c),by omega,λb c h0=>?_,d.Ug⟩
 ·exact d.done b c (a b c)
 ·have:=d.low b c h0;rw[if_pos (a b (d.tree.node b c))]at this;split
  ·rename_i h;have f:G.place b=G.place 0:=by have:=G.EM;omega
   exact absurd (G.inj b 0 (d.tree.node b c) G.first f) h0
  simp_all
theorem Inv.start:Inv G (λ_=>0) (λx=>x=0) 1 1:=by
 refine⟨⟨rfl,λb h=>by subst h;exact G.first,by omega⟩,ju _,ju _,λb a c=>?_,by omega,λ_ b h=>by subst h;rw[G.EM];omega,by omega,λy x d e=>?_⟩
 ·exact G.inj b 0 a G.first (by have:=G.EM;omega)
 ·subst d;have:=e _ _ .nil;simp at this;subst this;exact .refl _
theorem Pa.suffix:∀{b l r},Pa G b l r->∀{x},x∈l->∃c r' t,Pa G x c r'/\l=t++c
 |_,_,_,.nil,x,a=>by simp at a;subst a;exact⟨[0],0,[],.nil,rfl⟩
 | b,_,_,.fwd (l:=l) (r:=r) h e hp,x,a=>by
   rcases Pd.1 a with rfl|a
   ·exact⟨_,_,[],.fwd h e hp,rfl⟩
   ·obtain⟨c,r',t,d,f⟩:=h.suffix a
    grind
 | b,_,_,.bwd (l:=l) (r:=r) h e hp,x,a=>by
   rcases Pd.1 a with rfl|a
   ·exact⟨_,_,[],.bwd h e hp,rfl⟩
   ·obtain⟨c,r',t,d,f⟩:=h.suffix a
    grind
theorem Pa.short:∀{b l r},Pa G b l r->r+1<=l.length
 |_,_,_,.nil=>by simp
 |_,_,_,.fwd h _ _=>by have:=h.short;simp;omega
 |_,_,_,.bwd h _ _=>by have:=h.short;simp;omega
theorem Pa.nodes:∀{b l r},Pa G b l r->∀x∈l,G.node x
 |_,_,_,.nil,x,a=>by simp at a;subst a;exact G.first
 | _,_,_,.fwd h e hp,x,a=>by
   rcases Pd.1 a with rfl|a
   ·exact G.to _ _ h.node e
   ·exact h.nodes x a
 | _,_,_,.bwd h e hp,x,a=>by
   rcases Pd.1 a with rfl|a
   ·exact G.to _ _ h.node e
   ·exact h.nodes x a
theorem Pa.simple:∀{b l r},Pa G b l r->∃a r',Pa G b a r'/\a.Nodup/\∀x∈a,x∈l:=by
 intro b l r h;have step:∀{p b:Nat} {l:List Nat},(∃a r',Pa G p a r'/\a.Nodup/\∀x∈a,x∈l)->G.BZ p b->∃a r',Pa G b a r'/\a.Nodup/\∀x∈a,x∈b::l:=by
  rintro p b l ⟨a,r',d,i,j⟩ e;by_cases hb:b∈a
  ·obtain⟨l2,f,t,k,m⟩:=d.suffix hb
   grind
  ·obtain⟨f,_,_,g⟩:=d.step e
   grind
 induction h with
 |nil=>exact⟨[0],0,.nil,by simp,λx h=>h⟩
 |fwd _ e _ c=>exact step c e
 |bwd _ e _ c=>exact step c e
theorem jA:∀(n:Nat) (l:List Nat),l.Nodup->(∀x∈l,x<n)->l.length<=n:=by
 intro n
 induction n with
 | zero=>
   intro l _ h
   cases l with
   |nil=>simp_all
   |cons a l=>exact absurd (h a (.head _)) (Nat.not_lt_zero _)
 | succ n d=>
   intro l b h;by_cases hn:n∈l
   ·have g:=d (l.erase n) (b.erase n) (λx c=>by
      have f:=List.mem_of_mem_erase c;have i:=h x f;have j:x≠n:=λe=>by subst e;exact absurd c b.not_mem_erase
      omega)
    simp_all
   grind
theorem DK.Ug{n x b c:Nat} (e:∀b,G.node b->b<n) (h:DK G c x b) (hk:n<=c):X7 G x b:=by
 intro l r hp;obtain⟨d,r',a,f,g⟩:=hp.simple;have j:=jA n d f λx i=>e x (a.nodes x i);have k:=a.short;exact g x (h d r' a (by omega))
theorem Inv.exact(a:Inv G I S k pos) {n:Nat} (d:∀b,G.node b->b<n) (hk:n+1<=k) {x b:Nat} (c:S b):qO I x b↔X7 G x b:=by
 refine⟨λh=>(a.QL h c).Ug d ?_,a.Ug b x c⟩
 grind
theorem Inv.stay(c:Inv G I S k pos) {n:Nat} (g:∀b,G.node b->b<n) (hk:n+1<=k) {b d:Nat} (m:G.node b) (h0:b≠0) (hp:G.place b=pos) (e:∀p,S p->G.BZ p b->qO I d p) (a:∀x,(∀p,S p->G.BZ p b->qO I x p)->qO I x d) :
  S b/\d=I b:=by
 have o:=g 0 G.first;have f:S b:=c.all (by omega) b m;obtain⟨h,y,q⟩:=c.Pj m h0 hp e a;obtain⟨i,r⟩:=c.tree.up b f h0;have j:I b≠b:=by grind
 have s:X7 G (I b) b:=(c.exact g hk f).1 (.up h0 (.refl _));have t:qO I (I b) d:=a _ λp l u=>c.Ug p _ l (s.pred j u);have v:X7 G d b:=(h.exact g hk (.inr rfl)).1 (.up h0 (by unfold Dm.set;rw[if_pos rfl];exact .refl _));have w:qO I d (I b):=(c.Ug b d f v).parent (by grind);exact⟨f,c.tree.zaA w t i⟩
end
def ry(seen:List Bool)(b:Nat):Prop:=seen[b]? =some true
theorem Jr{seen:List Bool} {t b:Nat} (a:t<seen.length):ry (seen.set t true) b↔b=t\/ry seen b:=by
 unfold ry
 grind
structure Iy (n:Nat) (next:Nat->List Nat) (seen:List Bool) (post:List Nat) (stack:List (Nat×Nat)):Prop where
 len:seen.length=n
 low:∀b,b<n->∀t∈next b,t<n
 range:∀x∈stack,x.1<n/\x.2<=(next x.1).length
 pre:∀b∈post,b<n
 iff:∀b,ry seen b↔b∈post\/b∈stack.map (·.1)
 nodup:(post++stack.map (·.1)).Nodup
 root:∀x s,stack=x::s->x.1=0
 last:stack=[]->∃p,post=p++[0]
 closed:∀b∈post,∀t∈next b,ry seen t
 gone:∀x∈stack,∀j,j<x.2->∀t,(next x.1)[j]? =some t->ry seen t
 way:∀s x y r,stack=s++x::y::r->y.1∈next x.1
 early:∀l b r,post=l++b::r->b=0\/∃p,b∈next p/\(p∈r\/p∈stack.map (·.1))
 zero:0 ∉ post\/stack=[]
section
variable{n:Nat}{next:Nat->List Nat}{seen:List Bool}{post:List Nat}{stack s:List (Nat×Nat)}{b i t:Nat}
theorem Iy.start(c:0<n) (a:∀b,b<n->∀t∈next b,t<n):Iy n next ((List.replicate n false).set 0 true) [] [(0,0)] where
 len:=by simp
 low:=a
 range:=by simp_all
 pre:=by simp_all
 iff:=by grind[Jr,ry]
 nodup:=by simp
 root:=by simp_all
 last:=by simp_all
 closed:=by simp_all
 gone:=by simp_all
 way:=λs x y r h=>by
  have:=congrArg List.length h
  grind
 early:=by simp_all
 zero:=by simp_all
theorem nB{α:Type} (l:List α):l=[]\/∃s x,l=s++[x]:=by
 rcases List.eq_nil_or_concat l with h|⟨s,x,h⟩
 ·simp_all
 simp_all
theorem Co{α:Type} {s s':List α} {x y:α} (h:s++[x]=s'++[y]):s=s'/\x=y:=by
 simp_all
theorem Iy.pop(a:Iy n next seen post (s++[(b,i)])) (hi:i=(next b).length):Iy n next seen (post++[b]) s where
 len:=a.len
 low:=a.low
 range:=λx d=>a.range x (Yj _ d)
 pre:=λc hc=>by
  rcases JT.1 hc with hc|hc
  ·exact a.pre c hc
  ·simp at hc;subst hc;exact(a.range (c,i) (by simp)).1
 iff:=λc=>by
  rw[a.iff c]
  grind
 nodup:=by
  have:=a.nodup
  grind
 root:=λx r h=>a.root x (r++[(b,i)]) (by simp_all)
 last:=λh=>by
  subst h;have:=a.root (b,i) [] rfl
  simp_all
 closed:=λc hc t g=>by
  rcases JT.1 hc with hc|hc
  ·exact a.closed c hc t g
  ·simp at hc;subst hc;obtain⟨j,k⟩:=nT.1 g;have o:=(kj.1 k).1;exact a.gone (c,i) (by simp) j (by omega) t k
 gone:=λx d=>a.gone x (Yj _ d)
 way:=λs' x y r h=>a.way s' x y (r++[(b,i)]) (by simp_all)
 early:=λl c r h=>by
  rcases nB r with rfl|⟨r',z,rfl⟩
  ·obtain⟨m,e⟩:=Co h;subst e;rcases nB s with rfl|⟨s',x,rfl⟩
   ·exact .inl (a.root (b,i) [] rfl)
   ·refine .inr ⟨x.1,a.way s' x (b,i) [] (by simp),by simp_all⟩
  ·have h':post++[b]=(l++c::r')++[z]:=by rw[h];simp
   obtain⟨m,e⟩:=Co h';subst e;rcases a.early l c r' m with h0|⟨p,v,w⟩
   ·omega
   grind
 zero:=by
  rcases nB s with rfl|⟨s',x,rfl⟩
  ·simp_all
  ·refine .inl λh0=>?_;obtain⟨y,f,q⟩:∃y f,s'++[x]=y::f:=by
    cases s' with
    |nil=>simp_all
    |cons y s'=>simp_all
   have A:=a.root y (f++[(b,i)]) (by simp_all);have u:=a.nodup
   grind
theorem Iy.skip(a:Iy n next seen post (s++[(b,i)])) (p:(next b)[i]? =some t) (hs:ry seen t):Iy n next seen post (s++[(b,i+1)]):=by
 have f:∀j:Nat,(s++[(b,j)]).map (λx:Nat×Nat=>x.1)=s.map (λx:Nat×Nat=>x.1)++[b]:=by simp_all
 refine⟨a.len,a.low,λx d=>?_,a.pre,λc=>?_,?_,λx r h=>?_,by simp_all,a.closed,λx d j k u m=>?_,λs' x y r h=>?_,λl c r h=>?_,?_⟩
 ·rcases JT.1 d with d|d
  ·exact a.range x (Yj _ d)
  ·simp at d;subst d;have:=a.range (b,i) (by simp)
   grind
 ·rw[f];have:=a.iff c;simp_all
 ·rw[f];have:=a.nodup;simp_all
 ·cases s with
  |nil=>simp at h;obtain⟨e,_⟩:=h;subst e;exact a.root (b,i) [] rfl
  | cons y s=>
    simp at h;obtain⟨e,g⟩:=h;subst e;exact a.root y (s++[(b,i)]) rfl
 ·rcases JT.1 d with d|d
  ·exact a.gone x (Yj _ d) j k u m
  ·simp at d;subst d;have o:j<i+1:=k;by_cases hji:j=i
   ·simp_all
   ·exact a.gone (b,i) (by simp) j (by omega) u m
 ·rcases nB r with rfl|⟨r',z,rfl⟩
  ·have h':s++[(b,i+1)]=(s'++[x])++[y]:=by rw[h];simp
   obtain⟨e,g⟩:=Co h';subst g;exact a.way s' x (b,i) [] (by simp_all)
  ·have h':s++[(b,i+1)]=(s'++x::y::r')++[z]:=by rw[h];simp
   obtain⟨e,g⟩:=Co h';exact a.way s' x y (r'++[(b,i)]) (by simp_all)
 ·rw[f];have:=a.early l c r h;simp_all
 ·rcases a.zero with h|h
  ·simp_all
  simp_all
theorem Iy.push(a:Iy n next seen post (s++[(b,i)])) (q:(next b)[i]? =some t) (hs:¬ry seen t):Iy n next (seen.set t true) post (s++[(b,i+1)]++[(t,0)]):=by
 have E:=a.range (b,i) (by simp);have o:t<n:=a.low b E.1 t (DQ q);have f:∀c,ry (seen.set t true) c↔c=t\/ry seen c:=λc=>Jr (by rw[a.len];exact o);have v:(s++[(b,i+1)]++[(t,0)]).map (λx:Nat×Nat=>x.1)=(s++[(b,i)]).map (λx:Nat×Nat=>x.1)++[t]:=by simp
 have F:=(kj.1 q).1;refine⟨by simp[a.len],a.low,λx d=>?_,a.pre,λc=>?_,?_,λx r h=>?_,by simp_all,λc hc u k=>(f u).2 (.inr (a.closed c hc u k)),λx d j w u k=>?_,λs' x y r h=>?_,λl c r h=>?_,?_⟩
 ·rcases JT.1 d with d|d
  ·rcases JT.1 d with d|d
   ·exact a.range x (Yj _ d)
   grind
  simp_all
 ·rw[f,v,a.iff c,JT]
  grind
 ·rw[v,<-M6];refine wBu.2 ⟨a.nodup,by simp,λx d y A e=>?_⟩;simp at A;subst A;subst e;refine hs ((a.iff x).2 ?_)
  simp_all
 ·cases s with
  | nil=>
    simp at h;obtain⟨g,_⟩:=h;subst g
    exact a.root (b,i) [] rfl
  | cons y s=>
    simp at h;obtain⟨g,G⟩:=h;subst g;exact a.root y (s++[(b,i)]) rfl
 ·refine (f u).2 ?_;rcases JT.1 d with d|d
  ·rcases JT.1 d with d|d
   ·exact .inr (a.gone x (Yj _ d) j w u k)
   ·simp at d;subst d;have H:j<i+1:=w;by_cases hji:j=i
    ·simp_all
    ·exact .inr (a.gone (b,i) (by simp) j (by omega) u k)
  simp_all
 ·rcases nB r with rfl|⟨r',z,rfl⟩
  ·have h':s++[(b,i+1)]++[(t,0)]=(s'++[x])++[y]:=by rw[h];simp
   grind[Co,DQ]
  ·have h':s++[(b,i+1)]++[(t,0)]=(s'++x::y::r')++[z]:=by rw[h];simp
   obtain⟨g,G⟩:=Co h';rcases nB r' with rfl|⟨B,I,rfl⟩
   ·have m:s++[(b,i+1)]=(s'++[x])++[y]:=by rw[g];simp
    obtain⟨C,D⟩:=Co m;subst D;exact a.way s' x (b,i) [] (by simp_all)
   ·have m:s++[(b,i+1)]=(s'++x::y::B)++[I]:=by rw[g];simp
    obtain⟨C,D⟩:=Co m;exact a.way s' x y (B++[(b,i)]) (by simp_all)
 ·rcases a.early l c r h with h0|⟨p,m,C⟩
  ·omega
  grind
 ·rcases a.zero with h|h
  ·simp_all
  simp_all
end
def cost(n:Nat)(f:Nat->Nat):Nat:=((List.range n).map f).sum
theorem PR(n:Nat) (f:Nat->Nat):cost (n+1) f=cost n f+f n:=by
 grind[cost,wBO]
theorem X5(n:Nat) (f g:Nat->Nat) (h:∀b,b<n->f b=g b):cost n f=cost n g:=by
 induction n with
 |zero=>rfl
 |succ n a=>grind[PR]
theorem zaf(n:Nat) (f g:Nat->Nat) (t:Nat) (a:t<n) (h0:g t=0) (h:∀b,b≠t->g b=f b):cost n g+f t=cost n f:=by
 induction n with
 |zero=>omega
 | succ n c=>
   grind[PR,X5]
noncomputable def left(next:Nat->List Nat)(seen:List Bool)(b:Nat):Nat:=if seen[b]? =some true then 0 else 2+(next b).length
def VS(next:Nat->List Nat)(stack:List (Nat×Nat)):Nat:=(stack.map λx=>1+((next x.1).length-x.2)).sum
noncomputable def mu(n:Nat)(next:Nat->List Nat)(seen:List Bool)(stack:List (Nat×Nat)):Nat:=cost n (left next seen)+VS next stack
section
variable{n:Nat}{next:Nat->List Nat}{seen:List Bool}{post:List Nat}{s:List (Nat×Nat)}{b i t:Nat}
theorem Jp(x:Nat×Nat):VS next (s++[x])=VS next s+(1+((next x.1).length-x.2)):=by
 grind[VS]
theorem zdi:mu n next seen s<mu n next seen (s++[(b,i)]):=by
 grind[mu,Jp]
theorem zaG(a:(next b)[i]? =some t):mu n next seen (s++[(b,i+1)])<mu n next seen (s++[(b,i)]):=by
 grind[kj,mu,Jp]
theorem zbY(d:Iy n next seen post (s++[(b,i)])) (f:(next b)[i]? =some t) (hs:¬ry seen t):mu n next (seen.set t true) (s++[(b,i+1)]++[(t,0)])<mu n next seen (s++[(b,i)]):=by
 have g:=d.range (b,i) (by simp);have a:t<n:=d.low b g.1 t (DQ f);have h:=(kj.1 f).1;have e:∀c,ry (seen.set t true) c↔c=t\/ry seen c:=λc=>Jr (by rw[d.len];exact a);have j:left next (seen.set t true) t=0:=by
  unfold left;exact if_pos ((e t).2 (.inl rfl))
 have k:∀c,c≠t->left next (seen.set t true) c=left next seen c:=by simp_all[ry,left,if_pos,if_neg]
 have l:=zaf n (left next seen) (left next (seen.set t true)) t a j k;have m:left next seen t=2+(next t).length:=by
  unfold left;exact if_neg hs
 grind[mu,Jp,cost,left]
end
theorem sub_le:∀(l b:List Nat),l.Nodup->(∀x∈l,x∈b)->l.length<=b.length
 |[],_,_,_=>Ol _
 | a::l,b,hd,h=>by
   have d:=h a (.head _);have c:=wBl.1 hd;have e:=sub_le l (b.erase a) c.2 (by grind)
   grind
theorem VH:∀(l:List Nat) (a:Nat),a∈l->l[l.idxOf a]? =some a
 |[],_,h=>by cases h
 | b::l,a,h=>by
   grind
section
variable{n:Nat}{next:Nat->List Nat}{seen:List Bool}{post:List Nat}
def Iy.gr(c:Iy n next seen post []):Gr where
 node b:=b∈post
 BZ a b:=b∈next a
 place b:=post.reverse.idxOf b
 first:=by obtain⟨p,h⟩:=c.last rfl;simp_all
 EM:=by obtain⟨p,h⟩:=c.last rfl;simp_all
 inj a b ha hb h:=by
  grind[VH,Option.some.inj]
 to a b ha he:=by
  have:=(c.iff b).1 (c.closed a ha b he)
  simp_all
 early b hb h0:=by
  obtain⟨l,r,h⟩:=List.append_of_mem hb;rcases c.early l b r h with h'|⟨p,d,e⟩
  ·omega
  ·have g:p∈r:=by simpa using e
   refine⟨p,by simp_all,d,?_⟩;have f:=c.nodup
   grind
theorem Iy.all(c:Iy n next seen post []) (d:∀b,b<n->b∈post):post.length=n:=by
 have a:=c.nodup;simp only[YE,JY]at a;have e:=jA n post a c.pre;have f:=sub_le (List.range n) post wBZ (by simp_all)
 grind
end
end Go.Proofs.YtbdcpiokodljaaaGreatDoor.Dm
namespace Go.Proofs.YtbdcpiokodljaaaGreatDoor.Un
open Dm
structure Vl where
 op:Nat
 a:Nat
 b:Nat
 n:Int
 args:List Nat
 state:Nat
structure Bk where
 ef:List Nat
 fin:Nat
 cond:Nat
 next:List Nat
 eQ:List Nat
 state:Nat
structure Fm where
 func:Int
 pc:Int
 locals:List Nat
 stack:List Nat
structure U where
 func:Int
 pc:Int
 ef:List Vl
 blocks:List Bk
 eh:List (List Fm)
def two(op:Nat):Bool:=(3<=op&&op<=7) ||(10<=op&&op<=14) ||op == 18 ||op == 19 ||op == 20
def nW(op:Nat):Bool:=op == 8 ||op == 9 ||op == 15 ||op == 16 ||op == 17 ||op == 22
def iP(v:Vl):List Nat:=
 if v.op=21 then v.args else if v.op=20 then v.a::v.b::v.args.take 1 else if two v.op=true then[v.a,v.b] else if nW v.op=true then[v.a] else[]
def KG(op:Nat):Bool:=op<19 ||op == 21
def leaves(op:Nat):Bool:=op == 22 ||op == 23
def ir(op:Nat):Bool:=op == 1 ||op == 21
def iq(s:List Fm):List Nat:=s.flatMap λf=>f.locals++f.stack
def next(u:U) (b:Nat):List Nat:=match u.blocks[b]? with
 |some B=>B.next
 |none=>[]
def kh(l:List Bk) (i b:Nat):List Nat:=match l with
 |[]=>[]
 |B::l=>(B.next.filter (·= b)).map (λ_=>i)++kh l (i+1) b
def ahead(u:U)(b:Nat):List Nat:=kh u.blocks 0 b
inductive Pt (nx:Nat->List Nat):Nat->List Nat->Prop
 |nil:Pt nx 0 [0]
 |step {p b:Nat} {l:List Nat} (h:Pt nx p l) (e:b∈nx p):Pt nx b (b::l)
def qM(nx:Nat->List Nat)(x b:Nat):Prop:=∀l,Pt nx b l->x∈l
def At(u:U)(v b k:Nat):Prop:=∃B,u.blocks[b]? =some B/\B.ef[k]? =some v
def oJ(u:U)(v:Nat):Prop:=∃x,u.ef[v]? =some x/\KG x.op=true
def BI(u:U)(v b k:Nat):Prop:=∃c j,At u v c j/\(c=b/\j<k\/c≠b/\qM (next u) c b)
def rX(u:U)(v b:Nat):Prop:=∃c j,At u v c j/\qM (next u) c b
structure Gd (u:U) (P:Nat->Prop):Prop where
 nv:u.ef.length<=3000
 L2:1<=u.blocks.length
 nb:u.blocks.length<=300
 ns:u.eh.length<=1000
 st:∀(s:Nat) (fs:List Fm),u.eh[s]? =some fs->1<=fs.length/\fs.length<=30/\∀f∈fs,f.locals.length<=40/\f.stack.length<=60/\(∀v∈f.locals,oJ u v)/\∀v∈f.stack,oJ u v
 FU:∀(v:Nat),v<u.ef.length->P v->∃b k,At u v b k
 KZ:∀(v:Nat) (b:Nat) (k:Nat) (b':Nat) (k':Nat),At u v b k->At u v b' k'->b=b'/\k=k'
 jW:∀(v:Nat) (b:Nat) (k:Nat),At u v b k->v<u.ef.length
 Cs:∀(v:Nat) (w:Nat) (b:Nat) (k:Nat) (x:Vl) (y:Vl),At u v b (k+1)->At u w b k->u.ef[v]? =some x->u.ef[w]? =some y->ir x.op=true->ir y.op=true
 par:∀(v:Nat) (b:Nat) (k:Nat) (x:Vl),At u v b k->u.ef[v]? =some x->x.op=1->b=0
 Dz:∀(v:Nat) (b:Nat) (k:Nat) (x:Vl) (B:Bk),At u v b k->u.ef[v]? =some x->x.op=21->u.blocks[b]? =some B->b≠0/\x.args.length=B.eQ.length
 op:∀(v:Nat) (x:Vl),u.ef[v]? =some x->1<=x.op/\x.op<=23
 use:∀(v:Nat) (x:Vl),u.ef[v]? =some x->∀w∈iP x,oJ u w
 leave:∀(v:Nat) (x:Vl),u.ef[v]? =some x->leaves x.op=true->x.state<u.eh.length
 putAt:∀(v:Nat) (x:Vl),u.ef[v]? =some x->x.op=20->x.args.length=1
 param:∀(v:Nat) (x:Vl),u.ef[v]? =some x->x.op=1->0<=x.n/\x.n<40/\∀(w:Nat) (y:Vl),u.ef[w]? =some y->y.op=1->y.n=x.n->w=v
 fin:∀(b:Nat) (B:Bk),u.blocks[b]? =some B->(B.fin=1/\B.next.length=1)\/(B.fin=2/\B.next.length=2/\oJ u B.cond)\/(B.fin=3/\B.next=[]/\B.state<u.eh.length)
 nx:∀(b:Nat),∀t∈next u b,t<u.blocks.length
 eQ:∀(b:Nat) (B:Bk),u.blocks[b]? =some B->B.eQ=ahead u b
 Di:ahead u 0=[]
 IB:∀(b:Nat) (B:Bk),u.blocks[b]? =some B->B.fin=2->∀t∈B.next,(ahead u t).length=1
 reach:∀(b:Nat),b<u.blocks.length->∃l,Pt (next u) b l
 DD:∀(v:Nat) (b:Nat) (k:Nat) (x:Vl),At u v b k->u.ef[v]? =some x->x.op≠21->∀w∈iP x,BI u w b k
 DO:∀(v:Nat) (b:Nat) (k:Nat) (x:Vl) (B:Bk),At u v b k->u.ef[v]? =some x->x.op=21->u.blocks[b]? =some B->∀(j w p:Nat),x.args[j]? =some w->B.eQ[j]? =some p->rX u w p
 GW:∀(v:Nat) (b:Nat) (k:Nat) (x:Vl) (fs:List Fm),At u v b k->u.ef[v]? =some x->leaves x.op=true->u.eh[x.state]? =some fs->∀w∈iq fs,BI u w b k
 El:∀(b:Nat) (B:Bk),u.blocks[b]? =some B->B.fin=2->rX u B.cond b
 Hc:∀(b:Nat) (B:Bk) (fs:List Fm),u.blocks[b]? =some B->B.fin=3->u.eh[B.state]? =some fs->∀w∈iq fs,rX u w b
abbrev Good(u:U):Prop:=Gd u λ_=>True
theorem Kd{nx:Nat->List Nat} {D:Nat->Nat} (hc:∀p b,b∈nx p->b≠0->qO D (D b) p) {x:Nat}:∀{b l},Pt nx b l->qO D x b->x∈l
 | _,_,.nil,h=>by
   cases h <;> grind
 | _,_,.step (p:=p) h e,a=>by
   cases a with
   |refl=>simp_all
   |up h0 a=>exact .tail _ (Kd hc h (a.trans (by simp_all)))
theorem qM.self(nx:Nat->List Nat)(b:Nat):qM nx b b:=λl h=>by cases h <;> exact .head _
theorem YH{G:Gr} {nx:Nat->List Nat} (c:∀a b,G.BZ a b↔b∈nx a):∀{b l r},Pa G b l r->Pt nx b l
 |_,_,_,.nil=> .nil
 |_,_,_,.fwd h e _=> .step (YH c h) (by simp_all)
 |_,_,_,.bwd h e _=> .step (YH c h) (by simp_all)
theorem zcI{G:Gr} {nx:Nat->List Nat} (c:∀a b,G.BZ a b↔b∈nx a):∀{b l},Pt nx b l->∃r,Pa G b l r
 |_,_,.nil=>⟨0,.nil⟩
 | _,_,.step h e=>by
   obtain⟨r,hp⟩:=zcI c h;obtain⟨r',_,_,hs⟩:=hp.step ((c _ _).2 e)
   grind
theorem Yx{G:Gr} {nx:Nat->List Nat} (c:∀a b,G.BZ a b↔b∈nx a) {x b:Nat}:qM nx x b↔X7 G x b:=
 ⟨λh l r hp=>h l (YH c hp),λh l hp=>let⟨r,hr⟩:=zcI c hp;h l r hr⟩
theorem vM{b p:Nat}:∀{l:List Bk} {i:Nat},p∈kh l i b↔∃k B,l[k]? =some B/\b∈B.next/\p=i+k
 |[],i=>by simp[kh]
 | B ::l,i=>by
   simp only[kh,JT,Mv,LC,A4,vM (l:=l)];constructor
   ·rintro (⟨t,⟨a,c⟩,d⟩|⟨k,e,a,c,d⟩)
    ·subst c
     exact⟨0,B,rfl,a,d.symm⟩
    ·exact⟨k+1,e,a,c,by omega⟩
   grind
theorem we{u:U} {b p:Nat}:p∈ahead u b↔b∈next u p:=by
 grind[ahead,next,vM]
theorem rA{b:Nat}:∀(l m:List Bk) (i:Nat),kh (l++m) i b=kh l i b++kh m (i+l.length) b
 |[],m,i=>by rfl
 | B::l,m,i=>by
   simp only[wBo,kh,rA l m (i+1),Rb,M6]
   grind
def mV(n:Int)(m:Nat):Nat:=(if n.tmod m<0 then n.tmod m+m else n.tmod m).toNat
theorem Hh(n:Int) {m:Nat} (a:0<m):mV n m<m:=by
 have c:=Int.tmod_lt_of_pos n (b:=(m:Int)) (by omega)
 grind[Int,Int.tmod_lt_of_pos,Int.neg_tmod,mV]
structure Ds where
 ef:List Vl
 cur:List Nat
 known:List Nat
 eh:List (List Fm)
 pos:Nat
def draw(ops:List Int) (pos m:Nat):Nat×Nat:=match ops[pos]? with
 |none=>(0,pos)
 |some n=>(mV n m,pos+1)
theorem zg(ops:List Int) (pos:Nat) {m:Nat} (a:0<m):(draw ops pos m).1<m:=by
 unfold draw;split
 ·exact a
 simp_all[Hh]
def vl(op a b:Nat)(n:Int)(args:List Nat)(state:Nat):Vl:=⟨op,a,b,n,args,state⟩
def put(s:Ds)(v:Vl):Ds:={s with ef:=s.ef++[v],cur:=s.cur++[s.ef.length]}
def jh(s:Ds)(v:Vl):Ds:={s with ef:=s.ef++[v],cur:=s.cur++[s.ef.length],known:=s.known++[s.ef.length]}
def fL(ops:List Int)(s:Ds):Nat×Ds:=(s.known.getD (draw ops s.pos s.known.length).1 0,{s with pos:=(draw ops s.pos s.known.length).2})
def num(ops:List Int)(s:Ds)(m:Nat):Nat×Ds:=((draw ops s.pos m).1,{s with pos:=(draw ops s.pos m).2})
def some_(ops:List Int):Nat->Ds->List Nat->List Nat×Ds
 |0,s,l=>(l,s)
 |i+1,s,l=>some_ ops i (fL ops s).2 (l++[(fL ops s).1])
def fH(ops:List Int) (s:Ds):Nat×Ds:=
 let r:=num ops s 4
 let q:=some_ ops r.1 r.2 []
 (s.eh.length,{q.2 with eh:=s.eh++[[⟨1,(s.eh.length:Nat),q.1,[s.known.getLastD 0]⟩]]})
def tq(ops:List Int) (s:Ds) (k a b:Nat):Ds:=
 if k<12 then jh s (vl (3+k) a b 0 [] 0)
 else if k=12 then let r:=num ops s 1048576;jh r.2 (vl 2 0 0 ((r.1:Int)-9) [] 0)
 else if k=13 then let r:=num ops s 5;jh r.2 (vl 17 a 0 (r.1:Nat) [] 0)
 else if k=14 then jh s (vl 18 a b 0 [] 0)
 else if k=15 then let r:=num ops s 5;put r.2 (vl 19 a b (r.1:Nat) [] 0)
 else if k=16 then let r:=fL ops s;put r.2 (vl 20 a b 0 [r.1] 0)
 else if k=17 then let r:=fH ops s;put r.2 (vl 22 a 0 0 [] r.1)
 else if k=18 then let r:=fH ops s;put r.2 (vl 23 0 0 0 [] r.1)
 else let r:=num ops s 2;jh r.2 (vl (15+r.1) a 0 0 [] 0)
def vf(ops:List Int) (s:Ds):Ds:=
 let r:=fL ops s
 let q:=fL ops r.2
 let k:=num ops q.2 20
 tq ops k.2 k.1 r.1 q.1
def rows(ops:List Int):Nat->Ds->Ds
 |0,s=>s
 |i+1,s=>if s.ef.length<200 then rows ops i (vf ops s) else s
def row(ops:List Int)(s:Ds):Ds:=let r:=num ops s 6;rows ops (1+r.1) r.2
structure Dt where
 s:Ds
 blocks:List Bk
 eQ:List Nat
def end_(t:Dt) (fin cond:Nat) (nx:List Nat) (state:Nat) (eQ:List Nat):Dt:={s:={t.s with cur:=[]},blocks:=t.blocks++[⟨t.s.cur,fin,cond,nx,t.eQ,state⟩],eQ:=eQ}
def cut(n:Nat)(s:Ds):Ds:={s with known:=s.known.take n}
def setArgs(s:Ds)(v:Nat)(args:List Nat):Ds:={s with ef:=s.ef.modify v λx=>{x with args:=args} }
def fork(ops:List Int) (t:Dt):Dt:=
 let c:=fL ops t.s
 let b:=t.s.known.length
 let a:=t.blocks.length
 let d:=end_ {t with s:=c.2} 2 c.1 [a+1,a+2] 0 [a]
 let e:=row ops d.s
 let x:=e.known.getLastD 0
 let f:=end_ {d with s:=cut b e} 1 0 [a+3] 0 [a]
 let g:=row ops f.s
 let y:=g.known.getLastD 0
 let t3:=end_ {f with s:=cut b g} 1 0 [a+3] 0 [a+1,a+2]
 {t3 with s:=row ops (jh t3.s (vl 21 0 0 0 [x,y] 0))}
def loop(ops:List Int) (t:Dt):Dt:=
 let f:=fL ops t.s
 let a:=t.blocks.length
 let c:=end_ {t with s:=f.2} 1 0 [a+1] 0 [a,a+2]
 let p:=c.s.ef.length
 let l:=put c.s (vl 21 0 0 0 [f.1,0] 0)
 let g:=fL ops l
 let i:=put g.2 (vl 21 0 0 0 [g.1,p] 0)
 let m:={i with known:=i.known++[p,p+1]}
 let st:=fH ops m
 let s4:=put st.2 (vl 23 0 0 0 [] st.1)
 let one:=s4.ef.length
 let n:=put s4 (vl 2 0 0 1 [] 0)
 let j:=jh n (vl 4 p one 0 [] 0)
 let k:=end_ {c with s:=j} 2 p [a+2,a+3] 0 [a+1]
 let b:=j.known.length
 let e:=row ops k.s
 let o:=setArgs e p [f.1,one+1]
 let d:=num ops o 3
 let q:=if d.1=0 then setArgs d.2 p [f.1,e.known.getLastD 0] else d.2
 let h:=setArgs q (p+1) [g.1,e.known.getLastD 0]
 let t3:=end_ {k with s:=cut b h} 1 0 [a+1] 0 [a+1]
 {t3 with s:=row ops t3.s}
def zo(ops:List Int) (t:Dt):Dt:=
 let c:=fL ops t.s
 let b:=t.s.known.length
 let a:=t.blocks.length
 let d:=end_ {t with s:=c.2} 2 c.1 [a+1,a+2] 0 [a]
 let f:=row ops d.s
 let st:=fH ops f
 let e:=end_ {d with s:=cut b st.2} 3 0 [] st.1 [a]
 {e with s:=row ops e.s}
def vn(ops:List Int)(k:Nat)(t:Dt):Dt:=if k=0 then fork ops t else if k=1 then loop ops t else zo ops t
def mi(ops:List Int):List Int->Dt->Dt
 |[],t=>t
 |k::l,t=>if t.s.ef.length<160 then mi ops l (vn ops (mV k 3) t) else t
def params:Nat->Nat->Ds->Ds
 |0,_,s=>s
 |n+1,i,s=>params n (i+1) (jh s (vl 1 0 0 (i:Nat) [] 0))
def Ji(ops a:List Int) (n:Int):U:=
 let s:=row ops (jh (params (mV n 5) 0 ⟨[],[],[],[],0⟩) (vl 2 0 0 5 [] 0))
 let t:=mi ops (a.take 6) ⟨s,[],[]⟩
 let st:=fH ops t.s
 let b:=end_ {t with s:=st.2} 3 0 [] st.1 []
 ⟨1,2,b.s.ef,b.blocks,b.s.eh⟩
