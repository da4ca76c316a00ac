/- Parts. -/
import Derived.Test.YtcoaokdoecgcbaaGreatDoorM00
import Derived.Calls
set_option maxHeartbeats 4000000
namespace Go.Proofs.YtcoaokdoecgcbaaGreatDoor.Dm
structure Gr where
 node:Nat->Prop
 B7:Nat->Nat->Prop
 place:Nat->Nat
 first:node 0
 Fq:place 0=0
 inj:∀a b,node a->node b->place a=place b->a=b
 to:∀a b,node a->B7 a b->node b
 early:∀b,node b->b≠0->∃p,node p/\B7 p b/\place p<place b
inductive Pa (G:Gr):Nat->List Nat->Nat->Prop
 |nil:Pa G 0 [0] 0
 |fwd {p b:Nat} {l:List Nat} {r:Nat} (h:Pa G p l r) (e:G.B7 p b) (hp:G.place p<G.place b):Pa G b (b::l) r
 |bwd {p b:Nat} {l:List Nat} {r:Nat} (h:Pa G p l r) (e:G.B7 p b) (hp:¬G.place p<G.place b):Pa G b (b::l) (r+1)
def Dom(G:Gr)(x b:Nat):Prop:=∀l r,Pa G b l r->x∈l
def DK(G:Gr)(k x b:Nat):Prop:=∀l r,Pa G b l r->r<k->x∈l
variable{G:Gr}
theorem Pa.node:∀{b l r},Pa G b l r->G.node b
 |_,_,_,.nil=>G.first
 |_,_,_,.fwd h e _=>G.to _ _ h.node e
 |_,_,_,.bwd h e _=>G.to _ _ h.node e
theorem Pa.last:∀{b l r},Pa G b l r->b∈l
 |_,_,_,.nil=> .head _
 |_,_,_,.fwd _ _ _=> .head _
 |_,_,_,.bwd _ _ _=> .head _
theorem Pa.step{p b:Nat} {l:List Nat} {r:Nat} (h:Pa G p l r) (e:G.B7 p b):∃r',r'<=r+1/\(G.place p<G.place b->r' = r)/\Pa G b (b::l) r':=by
 by_cases hp:G.place p<G.place b
 ·exact⟨r,K5 _,λ_=>rfl,.fwd h e hp⟩
 ·exact⟨r+1,jJ _,by omega,.bwd h e hp⟩
theorem zeL(n:Nat):∀b,G.node b->G.place b<n->∃l,Pa G b l 0/\∀x∈l,G.node x/\G.place x<=G.place b:=by
 induction n with
 |zero=>omega
 | succ n a=>
   intro b c d;by_cases h0:b=0
   ·subst h0
    exact⟨[0],.nil,by simp_all⟩
   ·let⟨p,hp,he,G6⟩:=G.early b c h0
    let⟨l,hl,hx⟩:=a p hp (by omega)
    refine⟨b::l,.fwd hl he G6,λx h=>?_⟩
    grind
theorem Pa.pre:∀{b l r},Pa G b l r->∀{x},x∈l->∃c r',Pa G x c r'/\r'<=r/\∀y∈c,y∈l
 |_,_,_,.nil,x,a=>by simp at a;subst a;exact⟨[0],0,.nil,jJ _,λy h=>h⟩
 | b,_,_,.fwd h e hp,x,a=>by
   rcases Aw.1 a with rfl|a
   ·exact⟨_,_,.fwd h e hp,jJ _,λy h=>h⟩
   ·let⟨c,r',d,f,g⟩:=h.pre a
    grind
 | b,_,_,.bwd h e hp,x,a=>by
   rcases Aw.1 a with rfl|a
   ·exact⟨_,_,.bwd h e hp,jJ _,λy h=>h⟩
   ·let⟨c,r',d,f,g⟩:=h.pre a
    grind
theorem DK.mono{x b k k':Nat}(h:DK G k x b)(a:k'<=k):DK G k' x b:=λl r hp c=>h l r hp (by omega)
theorem DK.trans{x y b k:Nat} (a:DK G k x y) (c:DK G k y b):DK G k x b:=by
 intro l r hp d
 let⟨l',r',e,g,f⟩:=hp.pre (c l r hp d)
 exact f x (a l' r' e (by omega))
theorem DK.self(k b:Nat):DK G k b b:=λ_ _ hp _=>hp.last
theorem Dom.pred{x p b:Nat} (h:Dom G x b) (a:x≠b) (e:G.B7 p b):Dom G x p:=by
 intro l r hp
 let⟨r',_,_,hs⟩:=hp.step e
 rcases Aw.1 (h _ _ hs)with rfl|h
 ·omega
 ·exact h
inductive tf (I:Nat->Nat):Nat->Nat->Prop
 |refl (b:Nat):tf I b b
 |up {a b:Nat} (h0:b≠0) (h:tf I a (I b)):tf I a b
theorem tf.trans{I:Nat->Nat} {a b c:Nat} (d:tf I a b) (e:tf I b c):tf I a c:=by
 induction e with
 |refl=>exact d
 |up h0 _ f=>exact .up h0 f
theorem tf.parent{I:Nat->Nat} {a b:Nat} (h:tf I a b) (c:a≠b):tf I a (I b):=by
 cases h with
 |refl=>omega
 |up _ h=>exact h
def set(I:Nat->Nat)(b d:Nat):Nat->Nat:=λx=>if x=b then d else I x
structure Tree (G:Gr) (I:Nat->Nat) (S:Nat->Prop):Prop where
 zero:S 0
 node:∀b,S b->G.node b
 up:∀b,S b->b≠0->S (I b)/\G.place (I b)<G.place b
section
variable{I:Nat->Nat}{S:Nat->Prop}
theorem Tree.anc(c:Tree G I S) {a b:Nat} (h:tf I a b):S b->S a/\G.place a<=G.place b:=by
 induction h with
 |refl=>simp_all
 | up h0 _ e=>
   intro d
   let⟨f,g⟩:=c.up _ d h0
   grind
theorem Tree.zhW(c:Tree G I S) {a b:Nat} (e:tf I a b) (f:tf I b a) (h:S b):a=b:=by
 have d:=c.anc e h;have g:=c.anc f d.1;exact G.inj _ _ (c.node _ d.1) (c.node _ h) (by omega)
theorem Tree.zfn(c:Tree G I S) {a b x:Nat} (i:S a) (d:S b) (f:G.place b<G.place a) (g:tf I x a) (h:tf I x b):tf I x (I a):=by
 refine g.parent λe=>?_;subst e;have:=(c.anc h d).2;omega
theorem tf.zel{b d:Nat} (e:Tree G I S) {a c:Nat} (h:tf I a c):S c->G.place c<G.place b->tf (set I b d) a c:=by
 induction h with
 |refl=>exact λ_ _=> .refl _
 | up h0 _ f=>
   rename_i c _;intro hc g;have nw:c≠b:=by grind
   let⟨i,j⟩:=e.up _ hc h0
   refine .up h0 ?_;unfold Dm.set;rw[if_neg nw];exact f i (by omega)
structure Inv (G:Gr) (I:Nat->Nat) (S:Nat->Prop) (k pos:Nat):Prop where
 tree:Tree G I S
 one:1<=k
 zik:1<=pos
 done:∀b,G.node b->G.place b<pos->S b
 all:2<=k->∀b,G.node b->S b
 fresh:k=1->∀b,S b->G.place b<pos
 low:∀b,S b->b≠0->DK G (if G.place b<pos then k else k-1) (I b) b
 Zd:∀y x,S y->Dom G x y->tf I x y
variable{k pos:Nat}
theorem Inv.kb(a:Inv G I S k pos) {b:Nat} (c:S b):1<=(if G.place b<pos then k else k-1):=by
 have:=a.one;split
 ·omega
 ·rename_i h;by_cases d:k=1
  ·exact absurd (a.fresh d b c) h
  ·omega
theorem Inv.T9(c:Inv G I S k pos) {a b:Nat} (h:tf I a b):S b->DK G (if G.place b<pos then k else k-1) a b:=by
 induction h with
 |refl=>grind[DK.self]
 | up h0 _ e=>
   rename_i b _;intro d
   let⟨f,g⟩:=c.tree.up _ d h0
   refine DK.trans (DK.mono (e f) ?_) (c.low b d h0)
   grind
theorem Pa.swap:∀{y d r0},Pa G y d r0->r0=0->∀{z l r},z∈d->Pa G z l r->∃a r',Pa G y a r'/\G.place z<=G.place y/\∀w∈a,w∈l\/G.place z<G.place w
 | _,_,_,.nil,_,z,l,r,c,hp=>by
   grind
 | _,_,_,.fwd (b:=b) h e G6,h0,z,l,r,c,hp=>by
   rcases Aw.1 c with rfl|c
   ·grind
   ·let⟨a,r',f,g,i⟩:=h.swap h0 c hp
    refine⟨b::a,r',.fwd f e G6,by omega,λw j=>?_⟩
    grind
 |_,_,_,.bwd _ _ _,h0,_,_,_,_,_=>by cases h0
theorem Inv.zfQ(a:Inv G I S k pos) {x y z:Nat} (b:S y) (g:Dom G x y) (f:tf I z y) (c:tf I x z) (nw:x≠z):Dom G x z:=by
 intro l r hp
 let⟨i,hl0,_⟩:=zeL (G.place y+1) y (a.tree.node y b) (TU _)
 have d:=a.T9 f b i 0 hl0 (a.kb b)
 let⟨l',r',j,_,m⟩:=hl0.swap rfl d hp
 rcases m x (g l' r' j)with h|h
 ·exact h
 ·have e:=a.tree.anc f b;have:=a.tree.anc c e.1;omega
theorem Inv.Lm(a:Inv G I S k pos) {b d:Nat} (A:G.node b) (h0:b≠0) (hp:G.place b=pos) (f:∀p,S p->G.B7 p b->tf I d p) (i:∀x,(∀p,S p->G.B7 p b->tf I x p)->tf I x d) :
  Inv G (set I b d) (λx=>S x\/x=b) k (pos+1)/\S d/\G.place d<G.place b:=by
 let⟨p0,hn0,he0,hlt0⟩:=G.early b A h0
 have s:=a.done p0 hn0 (by omega)
 let⟨hd,hpd⟩:=a.tree.anc (f p0 s he0) s
 have t:G.place d<G.place b:=by omega
 have u:set I b d b=d:=by unfold Dm.set;rw[if_pos rfl]
 have j:∀c,c≠b->set I b d c=I c:=by simp_all[Dm.set,if_neg]
 have B:Tree G (set I b d) (λx=>S x\/x=b):=by
  refine⟨.inl a.tree.zero,λc hc=>?_,λc hc m=>?_⟩
  ·rcases hc with hc|rfl
   ·exact a.tree.node c hc
   ·exact A
  ·by_cases hcb:c=b
   ·simp_all
   ·rw[j c hcb];have hc:=hc.resolve_right hcb;have:=a.tree.up c hc m
    simp_all
 have C:∀x,Dom G x b->tf (set I b d) x b:=by
  intro x q;by_cases hxb:x=b
  ·subst hxb;exact .refl _
  ·refine .up h0 ?_;rw[u];exact(i x λp D F=>a.Zd p x D (q.pred hxb F)).zel a.tree hd t
 refine⟨⟨B,a.one,by omega,λc hc v=>?_,λH c hc=> .inl (a.all H c hc),λJ c hc=>?_,λc hc m=>?_,λy x K q=>?_⟩,hd,t⟩
 ·by_cases hcp:G.place c<pos
  ·exact .inl (a.done c hc hcp)
  ·exact .inr (G.inj c b hc A (by omega))
 ·rcases hc with hc|rfl
  ·have:=a.fresh J c hc;omega
  ·omega
 ·by_cases hcb:c=b
  ·subst hcb;rw[u,if_pos (by omega)];intro l r n L
   cases n with
   |nil=>omega
   | fwd h e v=>
     rename_i p l;have w:=a.done p h.node (by omega);have:=a.T9 (f p w e) w;rw[if_pos (by omega)]at this
     exact .tail _ (this _ _ h L)
   | bwd h e v=>
     rename_i p l r;have w:=a.all (by omega) p h.node;have:=(a.T9 (f p w e) w).mono (k':=k-1) (by grind);exact .tail _ (this _ _ h (by omega))
  ·have z:=hc.resolve_right hcb;rw[j c hcb];have nw:=λh=>hcb (G.inj c b (a.tree.node c z) A (by omega));have:=a.low c z m
   grind
 ·by_cases hyb:y=b
  ·simp_all
  ·have g:=K.resolve_right hyb;have E:∀{y},tf I x y->S y->Dom G x y->tf (set I b d) x y:=by
    intro y h
    induction h with
    |refl=>exact λ_ _=> .refl _
    | up o h M=>
      rename_i y;intro g q;by_cases hyb:y=b
      ·simp_all
      ·refine .up o ?_
       rw[j y hyb];by_cases hxI:x=I y
       ·rw[<-hxI];exact .refl _
       ·exact M (a.tree.up y g o).1 (a.zfQ g q (.up o (.refl _)) h hxI)
   exact E (a.Zd y x g q) g q
theorem Inv.pass(d:Inv G I S k pos) (a:∀b,G.node b->G.place b<pos):Inv G I S (k+1) 1:=by
 have g:=d.one;refine⟨d.tree,by omega,jJ _,λb c e=>?_,λ_ b c=>d.done b c (a b c),by omega,λb c h0=>?_,d.Zd⟩
 ·exact d.done b c (a b c)
 ·have:=d.low b c h0;rw[if_pos (a b (d.tree.node b c))]at this;split
  ·rename_i h;have f:G.place b=G.place 0:=by have:=G.Fq;omega
   exact absurd (G.inj b 0 (d.tree.node b c) G.first f) h0
  simp_all
theorem Inv.start:Inv G (λ_=>0) (λx=>x=0) 1 1:=by
 refine⟨⟨rfl,λb h=>by subst h;exact G.first,by omega⟩,jJ _,jJ _,λb a c=>?_,by omega,λ_ b h=>by subst h;rw[G.Fq];omega,by omega,λy x d e=>?_⟩
 ·exact G.inj b 0 a G.first (by have:=G.Fq;omega)
 ·subst d;have:=e _ _ .nil;simp at this;subst this;exact .refl _
theorem Pa.suffix:∀{b l r},Pa G b l r->∀{x},x∈l->∃c r' t,Pa G x c r'/\l=t++c
 |_,_,_,.nil,x,a=>by simp at a;subst a;exact⟨[0],0,[],.nil,rfl⟩
 | b,_,_,.fwd h e hp,x,a=>by
   rcases Aw.1 a with rfl|a
   ·exact⟨_,_,[],.fwd h e hp,rfl⟩
   ·let⟨c,r',t,d,f⟩:=h.suffix a
    grind
 | b,_,_,.bwd h e hp,x,a=>by
   rcases Aw.1 a with rfl|a
   ·exact⟨_,_,[],.bwd h e hp,rfl⟩
   ·let⟨c,r',t,d,f⟩:=h.suffix a
    grind
theorem Pa.short:∀{b l r},Pa G b l r->r+1<=l.length
 |_,_,_,.nil=>by simp
 |_,_,_,.fwd h _ _=>by have:=h.short;simp;omega
 |_,_,_,.bwd h _ _=>by have:=h.short;simp;omega
theorem Pa.nodes:∀{b l r},Pa G b l r->∀x∈l,G.node x
 |_,_,_,.nil,x,a=>by simp at a;subst a;exact G.first
 | _,_,_,.fwd h e hp,x,a=>by
   rcases Aw.1 a with rfl|a
   ·exact G.to _ _ h.node e
   ·exact h.nodes x a
 | _,_,_,.bwd h e hp,x,a=>by
   rcases Aw.1 a with rfl|a
   ·exact G.to _ _ h.node e
   ·exact h.nodes x a
theorem Pa.simple:∀{b l r},Pa G b l r->∃a r',Pa G b a r'/\a.Nodup/\∀x∈a,x∈l:=by
 intro b l r h;have step:∀{p b:Nat} {l:List Nat},(∃a r',Pa G p a r'/\a.Nodup/\∀x∈a,x∈l)->G.B7 p b->∃a r',Pa G b a r'/\a.Nodup/\∀x∈a,x∈b::l:=by
  rintro p b l ⟨a,r',d,f,i⟩ e;by_cases hb:b∈a
  ·let⟨j,r2,t,k,m⟩:=d.suffix hb
   grind
  ·let⟨r2,_,_,g⟩:=d.step e
   grind
 induction h with
 |nil=>exact⟨[0],0,.nil,by simp,λx h=>h⟩
 |fwd _ e _ c=>exact step c e
 |bwd _ e _ c=>exact step c e
theorem qG:∀n (l:List Nat),l.Nodup->(∀x∈l,x<n)->l.length<=n:=by
 intro n
 induction n with
 | zero=>
   intro l _ h
   cases l with
   |nil=>simp_all
   |cons a l=>exact absurd (h a (.head _)) (Nat.not_lt_zero _)
 | succ n c=>
   intro l hd h;by_cases hn:n∈l
   ·have f:=c (l.erase n) (hd.erase n) (λx b=>by
      have d:=List.mem_of_mem_erase b;have g:=h x d;have i:x≠n:=λe=>by subst e;exact absurd b hd.not_mem_erase
      omega)
    simp_all
   grind
theorem DK.Zd{n x b c:Nat} (d:∀b,G.node b->b<n) (h:DK G c x b) (i:n<=c):Dom G x b:=by
 intro l r hp
 let⟨l',r',a,e,f⟩:=hp.simple
 have j:=qG n l' e λx g=>d x (a.nodes x g);have k:=a.short;exact f x (h l' r' a (by omega))
theorem Inv.exact(a:Inv G I S k pos) {n:Nat} (d:∀b,G.node b->b<n) (e:n+1<=k) {x b:Nat} (c:S b):tf I x b↔Dom G x b:=by
 refine⟨λh=>(a.T9 h c).Zd d ?_,a.Zd b x c⟩
 grind
theorem Inv.stay(c:Inv G I S k pos) {n:Nat} (g:∀b,G.node b->b<n) (i:n+1<=k) {b d:Nat} (j:G.node b) (h0:b≠0) (hp:G.place b=pos) (e:∀p,S p->G.B7 p b->tf I d p) (a:∀x,(∀p,S p->G.B7 p b->tf I x p)->tf I x d) :
  S b/\d=I b:=by
 have l:=g 0 G.first;have f:=c.all (by omega) b j
 let⟨hI',hd,hdb⟩:=c.Lm j h0 hp e a
 let⟨hIb,G6⟩:=c.tree.up b f h0
 have nw:I b≠b:=by grind
 have m:=(c.exact g i f).1 (.up h0 (.refl _));have o:=a _ λp h q=>c.Zd p _ h (m.pred nw q);have r:=(hI'.exact g i (.inr rfl)).1 (.up h0 (by unfold Dm.set;rw[if_pos rfl];exact .refl _));have s:=(c.Zd b d f r).parent (by grind);exact⟨f,c.tree.zhW s o hIb⟩
def rT(seen:List Bool)(b:Nat):Prop:=seen[b]? =some true
theorem Q0{seen:List Bool} {t b:Nat} (a:t<seen.length):rT (seen.set t true) b↔b=t\/rT seen b:=by
 unfold rT
 grind
structure No (n:Nat) (next:Nat->List Nat) (seen:List Bool) (post:List Nat) (stack:List (Nat×Nat)):Prop where
 len:seen.length=n
 low:∀b,b<n->∀t∈next b,t<n
 range:∀x∈stack,x.1<n/\x.2<=(next x.1).length
 pre:∀b∈post,b<n
 iff:∀b,rT seen b↔b∈post\/b∈stack.map (·.1)
 nodup:(post++stack.map (·.1)).Nodup
 root:∀x s,stack=x::s->x.1=0
 last:stack=[]->∃p,post=p++[0]
 closed:∀b∈post,∀t∈next b,rT seen t
 gone:∀x∈stack,∀j,j<x.2->∀t,(next x.1)[j]? =some t->rT seen t
 way:∀s x y r,stack=s++x::y::r->y.1∈next x.1
 early:∀l b r,post=l++b::r->b=0\/∃p,b∈next p/\(p∈r\/p∈stack.map (·.1))
 zero:0 ∉ post\/stack=[]
variable{n:Nat}{next:Nat->List Nat}{seen:List Bool}{post:List Nat}{stack s:List (Nat×Nat)}{b i t:Nat}
theorem No.start(a:0<n) (hl:∀b,b<n->∀t∈next b,t<n):No n next ((List.replicate n false).set 0 true) [] [(0,0)] where
 len:=by simp
 low:=hl
 range:=by simp_all
 pre:=by simp_all
 iff:=by grind[rT]
 nodup:=by simp
 root:=by simp_all
 last:=by simp_all
 closed:=by simp_all
 gone:=by simp_all
 way:=λs x y r h=>by
  have:=congrArg List.length h
  grind
 early:=by simp_all
 zero:=by simp_all
theorem jh{α:Type} (l:List α):l=[]\/∃s x,l=s++[x]:=by
 rcases List.eq_nil_or_concat l with h|⟨s,x,h⟩
 ·simp_all
 simp_all
theorem Cs{α:Type} {s s':List α} {x y:α} (h:s++[x]=s'++[y]):s=s'/\x=y:=by
 simp_all
theorem No.pop(a:No n next seen post (s++[(b,i)])) (hi:i=(next b).length):No n next seen (post++[b]) s where
 len:=a.len
 low:=a.low
 range:=λx d=>a.range x (Zu _ d)
 pre:=λc hc=>by
  rcases yX.1 hc with hc|hc
  ·exact a.pre c hc
  ·simp at hc;subst hc;exact(a.range (c,i) (by simp)).1
 iff:=λc=>by
  rw[a.iff c]
  grind
 nodup:=by
  have:=a.nodup
  grind
 root:=λx r h=>a.root x (r++[(b,i)]) (by simp_all)
 last:=λh=>by
  subst h;have:=a.root (b,i) [] rfl
  simp_all
 closed:=λc hc t g=>by
  rcases yX.1 hc with hc|hc
  ·exact a.closed c hc t g
  ·simp at hc;subst hc
   let⟨j,hj⟩:=mz.1 g
   have m:=(ke.1 hj).1;exact a.gone (c,i) (by simp) j (by omega) t hj
 gone:=λx d=>a.gone x (Zu _ d)
 way:=λs' x y r h=>a.way s' x y (r++[(b,i)]) (by simp_all)
 early:=λl c r h=>by
  rcases jh r with rfl|⟨r',z,rfl⟩
  ·let⟨k,e⟩:=Cs h
   subst e;rcases jh s with rfl|⟨s',x,rfl⟩
   ·exact .inl (a.root (b,i) [] rfl)
   ·refine .inr ⟨x.1,a.way s' x (b,i) [] (by simp),by simp_all⟩
  ·have h':post++[b]=(l++c::r')++[z]:=by rw[h];simp
   let⟨k,e⟩:=Cs h'
   subst e;rcases a.early l c r' k with h0|⟨p,u,v⟩
   ·omega
   grind
 zero:=by
  rcases jh s with rfl|⟨s',x,rfl⟩
  ·simp_all
  ·refine .inl λh0=>?_;obtain⟨y,f,o⟩:∃y f,s'++[x]=y::f:=by
    cases s' with
    |nil=>simp_all
    |cons y s'=>simp_all
   have w:=a.root y (f++[(b,i)]) (by simp_all);have q:=a.nodup
   grind
theorem No.skip(a:No n next seen post (s++[(b,i)])) (o:(next b)[i]? =some t) (hs:rT seen t):No n next seen post (s++[(b,i+1)]):=by
 have f:∀j,(s++[(b,j)]).map (λx:Nat×Nat=>x.1)=s.map (λx:Nat×Nat=>x.1)++[b]:=by simp_all
 refine⟨a.len,a.low,λx d=>?_,a.pre,λc=>?_,?_,λx r h=>?_,by simp_all,a.closed,λx d j m u k=>?_,λs' x y r h=>?_,λl c r h=>?_,?_⟩
 ·rcases yX.1 d with d|d
  ·exact a.range x (Zu _ d)
  ·simp at d;subst d;have:=a.range (b,i) (by simp)
   grind
 ·rw[f];have:=a.iff c;simp_all
 ·rw[f];have:=a.nodup;simp_all
 ·cases s with
  |nil=>simp at h;let⟨e,_⟩:=h;subst e;exact a.root (b,i) [] rfl
  | cons y s=>
    simp at h
    let⟨e,g⟩:=h
    subst e;exact a.root y (s++[(b,i)]) rfl
 ·rcases yX.1 d with d|d
  ·exact a.gone x (Zu _ d) j m u k
  ·simp at d;subst d;by_cases hji:j=i
   ·simp_all
   ·exact a.gone (b,i) (by simp) j (by omega) u k
 ·rcases jh r with rfl|⟨r',z,rfl⟩
  ·have h':s++[(b,i+1)]=(s'++[x])++[y]:=by rw[h];simp
   let⟨e,g⟩:=Cs h'
   subst g;exact a.way s' x (b,i) [] (by simp_all)
  ·have h':s++[(b,i+1)]=(s'++x::y::r')++[z]:=by rw[h];simp
   let⟨e,g⟩:=Cs h'
   exact a.way s' x y (r'++[(b,i)]) (by simp_all)
 ·rw[f];have:=a.early l c r h;simp_all
 ·rcases a.zero with h|h
  ·simp_all
  simp_all
theorem No.push(a:No n next seen post (s++[(b,i)])) (C:(next b)[i]? =some t) (hs:¬rT seen t):No n next (seen.set t true) post (s++[(b,i+1)]++[(t,0)]):=by
 have D:=a.range (b,i) (by simp);have o:=a.low b D.1 t (yN C);have f:∀c,rT (seen.set t true) c↔c=t\/rT seen c:=λc=>Q0 (by rw[a.len];exact o);have q:(s++[(b,i+1)]++[(t,0)]).map (λx:Nat×Nat=>x.1)=(s++[(b,i)]).map (λx:Nat×Nat=>x.1)++[t]:=by simp
 refine⟨by simp[a.len],a.low,λx d=>?_,a.pre,λc=>?_,?_,λx r h=>?_,by simp_all,λc hc u k=>(f u).2 (.inr (a.closed c hc u k)),λx d j v u k=>?_,λs' x y r h=>?_,λl c r h=>?_,?_⟩
 ·rcases yX.1 d with d|d
  ·rcases yX.1 d with d|d
   ·exact a.range x (Zu _ d)
   grind
  simp_all
 ·rw[f,q,a.iff c]
  grind
 ·rw[q,<-Cy];refine wBk.2 ⟨a.nodup,by simp,λx d y w e=>?_⟩;simp at w;subst w;subst e;refine hs ((a.iff x).2 ?_)
  simp_all
 ·cases s with
  | nil=>
    simp at h
    let⟨g,_⟩:=h
    subst g
    exact a.root (b,i) [] rfl
  | cons y s=>
    simp at h
    let⟨g,E⟩:=h
    subst g;exact a.root y (s++[(b,i)]) rfl
 ·refine (f u).2 ?_;rcases yX.1 d with d|d
  ·rcases yX.1 d with d|d
   ·exact .inr (a.gone x (Zu _ d) j v u k)
   ·simp at d;subst d;have F:=v;by_cases hji:j=i
    ·simp_all
    ·exact .inr (a.gone (b,i) (by simp) j (by omega) u k)
  simp_all
 ·rcases jh r with rfl|⟨r',z,rfl⟩
  ·have h':s++[(b,i+1)]++[(t,0)]=(s'++[x])++[y]:=by rw[h];simp
   grind[Cs,yN]
  ·have h':s++[(b,i+1)]++[(t,0)]=(s'++x::y::r')++[z]:=by rw[h];simp
   let⟨g,E⟩:=Cs h'
   rcases jh r' with rfl|⟨r2,G,rfl⟩
   ·have m:s++[(b,i+1)]=(s'++[x])++[y]:=by rw[g];simp
    let⟨A,B⟩:=Cs m
    subst B;exact a.way s' x (b,i) [] (by simp_all)
   ·have m:s++[(b,i+1)]=(s'++x::y::r2)++[G]:=by rw[g];simp
    let⟨A,B⟩:=Cs m
    exact a.way s' x y (r2++[(b,i)]) (by simp_all)
 ·rcases a.early l c r h with h0|⟨p,m,A⟩
  ·omega
  grind
 ·rcases a.zero with h|h
  ·simp_all
  simp_all
def cost(n:Nat)(f:Nat->Nat):Nat:=((List.range n).map f).sum
theorem Sr(n:Nat) (f:Nat->Nat):cost (n+1) f=cost n f+f n:=by
 grind[cost,wBl]
theorem zan(n:Nat) (f g:Nat->Nat) (h:∀b,b<n->f b=g b):cost n f=cost n g:=by
 induction n with
 |zero=>rfl
 |succ n a=>grind[Sr]
theorem zcl(n:Nat) (f g:Nat->Nat) (t:Nat) (a:t<n) (h0:g t=0) (h:∀b,b≠t->g b=f b):cost n g+f t=cost n f:=by
 induction n with
 |zero=>omega
 | succ n c=>
   grind[Sr,zan]
noncomputable def left(next:Nat->List Nat)(seen:List Bool)(b:Nat):Nat:=if seen[b]? =some true then 0 else 2+(next b).length
def YB(next:Nat->List Nat)(stack:List (Nat×Nat)):Nat:=(stack.map λx=>1+((next x.1).length-x.2)).sum
noncomputable def mu(n:Nat)(next:Nat->List Nat)(seen:List Bool)(stack:List (Nat×Nat)):Nat:=cost n (left next seen)+YB next stack
theorem K1(x:Nat×Nat):YB next (s++[x])=YB next s+(1+((next x.1).length-x.2)):=by
 grind[YB]
theorem zfN:mu n next seen s<mu n next seen (s++[(b,i)]):=by
 grind[mu,K1]
theorem zdX(a:(next b)[i]? =some t):mu n next seen (s++[(b,i+1)])<mu n next seen (s++[(b,i)]):=by
 grind[mu,K1]
theorem zdF(d:No n next seen post (s++[(b,i)])) (f:(next b)[i]? =some t) (hs:¬rT seen t):mu n next (seen.set t true) (s++[(b,i+1)]++[(t,0)])<mu n next seen (s++[(b,i)]):=by
 have g:=d.range (b,i) (by simp);have a:=d.low b g.1 t (yN f);have e:∀c,rT (seen.set t true) c↔c=t\/rT seen c:=λc=>Q0 (by rw[d.len];exact a);have h:left next (seen.set t true) t=0:=by
  exact if_pos ((e t).2 (.inl rfl))
 have j:∀c,c≠t->left next (seen.set t true) c=left next seen c:=by simp_all[rT,left]
 have k:=zcl n (left next seen) (left next (seen.set t true)) t a h j;have l:left next seen t=2+(next t).length:=by
  exact if_neg hs
 grind[mu,K1]
theorem sub_le:∀(l b:List Nat),l.Nodup->(∀x∈l,x∈b)->l.length<=b.length
 |[],_,_,_=>PM _
 | a::l,b,hd,h=>by
   have c:=WM.1 hd;have d:=sub_le l (b.erase a) c.2 (by grind)
   grind
theorem XL:∀(l:List Nat) a,a∈l->l[l.idxOf a]? =some a
 |[],_,h=>by cases h
 | b::l,a,h=>by
   grind
def No.gr(c:No n next seen post []):Gr where
 node b:=b∈post
 B7 a b:=b∈next a
 place b:=post.reverse.idxOf b
 first:=by let⟨p,h⟩:=c.last rfl;simp_all
 Fq:=by obtain⟨p,h⟩:=c.last rfl;simp_all
 inj a b ha hb h:=by
  grind[XL,Option.some.inj]
 to a b ha he:=by
  have:=(c.iff b).1 (c.closed a ha b he)
  simp_all
 early b hb h0:=by
  let⟨l,r,h⟩:=wBt hb
  rcases c.early l b r h with h'|⟨p,d,e⟩
  ·omega
  ·have g:p∈r:=by simpa using e
   refine⟨p,by simp_all,d,?_⟩;have f:=c.nodup
   grind
theorem No.all(c:No n next seen post []) (d:∀b,b<n->b∈post):post.length=n:=by
 have a:=c.nodup;simp[ Ku]at a;have e:=qG n post a c.pre;have f:=sub_le (List.range n) post List.nodup_range (by simp_all)
 grind
end
end Go.Proofs.YtcoaokdoecgcbaaGreatDoor.Dm
namespace Go.Proofs.YtcoaokdoecgcbaaGreatDoor.Un
open Dm
variable{nx:Nat->List Nat}
structure Vl where
 op:Nat
 a:Nat
 b:Nat
 n:Int
 args:List Nat
 state:Nat
structure Bk where
 ee:List Nat
 fin:Nat
 cond:Nat
 next:List Nat
 fk:List Nat
 state:Nat
structure Fm where
 func:Int
 pc:Int
 locals:List Nat
 stack:List Nat
structure U where
 func:Int
 pc:Int
 ee:List Vl
 blocks:List Bk
 eE:List (List Fm)
def two(op:Nat):Bool:=(3<=op&&op<=7) ||(10<=op&&op<=14) ||op == 18 ||op == 19 ||op == 20
def uk(op:Nat):Bool:=op == 8 ||op == 9 ||op == 15 ||op == 16 ||op == 17 ||op == 22
def jn(v:Vl):List Nat:=
 if v.op=21 then v.args else if v.op=20 then v.a::v.b::v.args.take 1 else if two v.op=true then[v.a,v.b] else if uk v.op=true then[v.a] else[]
def Gv(op:Nat):Bool:=op<19 ||op == 21
def leaves(op:Nat):Bool:=op == 22 ||op == 23
def iV(op:Nat):Bool:=op == 1 ||op == 21
def gB(s:List Fm):List Nat:=s.flatMap λf=>f.locals++f.stack
def next(u:U) (b:Nat):List Nat:=match u.blocks[b]? with
 |some B=>B.next
 |none=>[]
def nT(l:List Bk) (i b:Nat):List Nat:=match l with
 |[]=>[]
 |B::l=>(B.next.filter (·= b)).map (λ_=>i)++nT l (i+1) b
def ahead(u:U)(b:Nat):List Nat:=nT u.blocks 0 b
inductive Pt (nx:Nat->List Nat):Nat->List Nat->Prop
 |nil:Pt nx 0 [0]
 |step {p b:Nat} {l:List Nat} (h:Pt nx p l) (e:b∈nx p):Pt nx b (b::l)
def zJ(nx:Nat->List Nat)(x b:Nat):Prop:=∀l,Pt nx b l->x∈l
def At(u:U)(v b k:Nat):Prop:=∃B,u.blocks[b]? =some B/\B.ee[k]? =some v
def zh2(u:U)(v op:Nat):Prop:=∃x,u.ee[v]? =some x/\x.op=op
def nz(u:U)(v:Nat):Prop:=∃x,u.ee[v]? =some x/\Gv x.op=true
def zaH(u:U)(v b k:Nat):Prop:=∃c j,At u v c j/\(c=b/\j<k\/c≠b/\zJ (next u) c b)
def Mh(u:U)(v b:Nat):Prop:=∃c j,At u v c j/\zJ (next u) c b
structure Gd (u:U) (P:Nat->Prop):Prop where
 nv:u.ee.length<=3000
 Xi:1<=u.blocks.length
 nb:u.blocks.length<=300
 ns:u.eE.length<=1000
 st:∀(s:Nat) fs,u.eE[s]? =some fs->1<=fs.length/\fs.length<=30/\∀f∈fs,f.locals.length<=40/\f.stack.length<=60/\(∀v∈f.locals,nz u v)/\∀v∈f.stack,nz u v
 NN:∀v,v<u.ee.length->P v->∃b k,At u v b k
 Rp:∀v b k a k',At u v b k->At u v a k'->b=a/\k=k'
 uP:∀v b k,At u v b k->v<u.ee.length
 za8:∀v w b k x y,At u v b (k+1)->At u w b k->u.ee[v]? =some x->u.ee[w]? =some y->iV x.op=true->iV y.op=true
 par:∀v b k x,At u v b k->u.ee[v]? =some x->x.op=1->b=0
 XS:∀v b k x B,At u v b k->u.ee[v]? =some x->x.op=21->u.blocks[b]? =some B->b≠0/\x.args.length=B.fk.length
 op:∀(v:Nat) x,u.ee[v]? =some x->1<=x.op/\x.op<=23
 use:∀(v:Nat) x,u.ee[v]? =some x->∀w∈jn x,nz u w
 leave:∀(v:Nat) x,u.ee[v]? =some x->leaves x.op=true->x.state<u.eE.length
 putAt:∀(v:Nat) x,u.ee[v]? =some x->x.op=20->x.args.length=1
 param:∀v x,u.ee[v]? =some x->x.op=1->0<=x.n/\x.n<40/\∀(w:Nat) y,u.ee[w]? =some y->y.op=1->y.n=x.n->w=v
 fin:∀(b:Nat) B,u.blocks[b]? =some B->(B.fin=1/\B.next.length=1)\/(B.fin=2/\B.next.length=2/\nz u B.cond)\/(B.fin=3/\B.next=[]/\B.state<u.eE.length)
 nx:∀b,∀t∈next u b,t<u.blocks.length
 fk:∀b B,u.blocks[b]? =some B->B.fk=ahead u b
 Tk:ahead u 0=[]
 RI:∀(b:Nat) B,u.blocks[b]? =some B->B.fin=2->∀t∈B.next,(ahead u t).length=1
 reach:∀b,b<u.blocks.length->∃l,Pt (next u) b l
 ZC:∀v b k x,At u v b k->u.ee[v]? =some x->x.op≠21->∀w∈jn x,zaH u w b k
 zcM:∀v b k x B,At u v b k->u.ee[v]? =some x->x.op=21->u.blocks[b]? =some B->∀(j w p:Nat),x.args[j]? =some w->B.fk[j]? =some p->Mh u w p
 Zq:∀v b k x fs,At u v b k->u.ee[v]? =some x->leaves x.op=true->u.eE[x.state]? =some fs->∀w∈gB fs,zaH u w b k
 zbo:∀b B,u.blocks[b]? =some B->B.fin=2->Mh u B.cond b
 zbA:∀b B fs,u.blocks[b]? =some B->B.fin=3->u.eE[B.state]? =some fs->∀w∈gB fs,Mh u w b
abbrev Good(u:U):Prop:=Gd u λ_=>True
theorem Mk {D:Nat->Nat} (hc:∀p b,b∈nx p->b≠0->tf D (D b) p) {x:Nat}:∀{b l},Pt nx b l->tf D x b->x∈l
 | _,_,.nil,h=>by
   cases h <;> grind
 | _,_,.step h e,a=>by
   cases a with
   |refl=>simp_all
   |up h0 a=>exact .tail _ (Mk hc h (a.trans (by simp_all)))
theorem zJ.self(nx:Nat->List Nat)(b:Nat):zJ nx b b:=λl h=>by cases h <;> exact .head _
theorem zbK{G:Gr}  (c:∀a b,G.B7 a b↔b∈nx a):∀{b l r},Pa G b l r->Pt nx b l
 |_,_,_,.nil=> .nil
 |_,_,_,.fwd h e _=> .step (zbK c h) (by simp_all)
 |_,_,_,.bwd h e _=> .step (zbK c h) (by simp_all)
theorem zeY{G:Gr}  (c:∀a b,G.B7 a b↔b∈nx a):∀{b l},Pt nx b l->∃r,Pa G b l r
 |_,_,.nil=>⟨0,.nil⟩
 | _,_,.step h e=>by
   let⟨r,hp⟩:=zeY c h
   let⟨r',_,_,hs⟩:=hp.step ((c _ _).2 e)
   grind
theorem zbq{G:Gr}  (c:∀a b,G.B7 a b↔b∈nx a) {x b:Nat}:zJ nx x b↔Dom G x b:=
 ⟨λh l r hp=>h l (zbK c hp),λh l hp=>let⟨r,hr⟩:=zeY c hp;h l r hr⟩
theorem Ol{b p:Nat}:∀{l:List Bk} {i:Nat},p∈nT l i b↔∃k B,l[k]? =some B/\b∈B.next/\p=i+k
 |[],i=>by simp[nT]
 | B ::l,i=>by
   simp only[nT,yX,V7,wA9,yU,Ol];constructor
   ·rintro (⟨t,⟨a,c⟩,d⟩|⟨k,e,a,c,d⟩)
    ·subst c
     exact⟨0,B,rfl,a,d.symm⟩
    ·exact⟨k+1,e,a,c,by omega⟩
   grind
theorem mK{u:U} {b p:Nat}:p∈ahead u b↔b∈next u p:=by
 grind[ahead,next,Ol]
theorem Bj{b:Nat}:∀l m i,nT (l++m) i b=nT l i b++nT m (i+l.length) b
 |[],m,i=>by rfl
 | B::l,m,i=>by
   simp[ nT,Bj l m (i+1)]
   grind
def jC(n:Int)(m:Nat):Nat:=(if n.tmod m<0 then n.tmod m+m else n.tmod m).toNat
theorem zq(n:Int) {m:Nat} (a:0<m):jC n m<m:=by
 have c:=Int.tmod_lt_of_pos n (b:=(m:Int)) (by omega)
 grind[Int.tmod_lt_of_pos,jC]
structure Ds where
 ee:List Vl
 cur:List Nat
 known:List Nat
 eE:List (List Fm)
 pos:Nat
def draw(ops:List Int) (pos m:Nat):Nat×Nat:=match ops[pos]? with
 |none=>(0,pos)
 |some n=>(jC n m,pos+1)
theorem xx(ops:List Int) (pos:Nat) {m:Nat} (a:0<m):(draw ops pos m).1<m:=by
 unfold draw;split
 ·exact a
 simp_all[zq]
def vl(op a b:Nat)(n:Int)(args:List Nat)(state:Nat):Vl:=⟨op,a,b,n,args,state⟩
def put(s:Ds)(v:Vl):Ds:={s with ee:=s.ee++[v],cur:=s.cur++[s.ee.length]}
def il(s:Ds)(v:Vl):Ds:={s with ee:=s.ee++[v],cur:=s.cur++[s.ee.length],known:=s.known++[s.ee.length]}
def fT(ops:List Int)(s:Ds):Nat×Ds:=(s.known.getD (draw ops s.pos s.known.length).1 0,{s with pos:=(draw ops s.pos s.known.length).2})
def num(ops:List Int)(s:Ds)(m:Nat):Nat×Ds:=((draw ops s.pos m).1,{s with pos:=(draw ops s.pos m).2})
def some_(ops:List Int):Nat->Ds->List Nat->List Nat×Ds
 |0,s,l=>(l,s)
 |i+1,s,l=>some_ ops i (fT ops s).2 (l++[(fT ops s).1])
def fI(ops:List Int) (s:Ds):Nat×Ds:=
 let r:=num ops s 4
 let q:=some_ ops r.1 r.2 []
 (s.eE.length,{q.2 with eE:=s.eE++[[⟨1,(s.eE.length:Nat),q.1,[s.known.getLastD 0]⟩]]})
def tS(ops:List Int) (s:Ds) (k a b:Nat):Ds:=
 if k<12 then il s (vl (3+k) a b 0 [] 0)
 else if k=12 then let r:=num ops s 1048576;il r.2 (vl 2 0 0 ((r.1:Int)-9) [] 0)
 else if k=13 then let r:=num ops s 5;il r.2 (vl 17 a 0 (r.1:Nat) [] 0)
 else if k=14 then il s (vl 18 a b 0 [] 0)
 else if k=15 then let r:=num ops s 5;put r.2 (vl 19 a b (r.1:Nat) [] 0)
 else if k=16 then let r:=fT ops s;put r.2 (vl 20 a b 0 [r.1] 0)
 else if k=17 then let r:=fI ops s;put r.2 (vl 22 a 0 0 [] r.1)
 else if k=18 then let r:=fI ops s;put r.2 (vl 23 0 0 0 [] r.1)
 else let r:=num ops s 2;il r.2 (vl (15+r.1) a 0 0 [] 0)
def vx(ops:List Int) (s:Ds):Ds:=
 let r:=fT ops s
 let q:=fT ops r.2
 let k:=num ops q.2 20
 tS ops k.2 k.1 r.1 q.1
def rows(ops:List Int):Nat->Ds->Ds
 |0,s=>s
 |i+1,s=>if s.ee.length<200 then rows ops i (vx ops s) else s
def row(ops:List Int)(s:Ds):Ds:=let r:=num ops s 6;rows ops (1+r.1) r.2
structure Dt where
 s:Ds
 blocks:List Bk
 fk:List Nat
def end_(t:Dt) (fin cond:Nat) (nx:List Nat) (state:Nat) (fk:List Nat):Dt:={s:={t.s with cur:=[]},blocks:=t.blocks++[⟨t.s.cur,fin,cond,nx,t.fk,state⟩],fk:=fk}
def cut(n:Nat)(s:Ds):Ds:={s with known:=s.known.take n}
def setArgs(s:Ds)(v:Nat)(args:List Nat):Ds:={s with ee:=s.ee.modify v λx=>{x with args:=args} }
def fork(ops:List Int) (t:Dt):Dt:=
 let c:=fT ops t.s
 let b:=t.s.known.length
 let a:=t.blocks.length
 let d:=end_ {t with s:=c.2} 2 c.1 [a+1,a+2] 0 [a]
 let s1:=row ops d.s
 let x:=s1.known.getLastD 0
 let e:=end_ {d with s:=cut b s1} 1 0 [a+3] 0 [a]
 let f:=row ops e.s
 let y:=f.known.getLastD 0
 let t3:=end_ {e with s:=cut b f} 1 0 [a+3] 0 [a+1,a+2]
 {t3 with s:=row ops (il t3.s (vl 21 0 0 0 [x,y] 0))}
def loop(ops:List Int) (t:Dt):Dt:=
 let f:=fT ops t.s
 let a:=t.blocks.length
 let c:=end_ {t with s:=f.2} 1 0 [a+1] 0 [a,a+2]
 let p:=c.s.ee.length
 let s1:=put c.s (vl 21 0 0 0 [f.1,0] 0)
 let g:=fT ops s1
 let i:=put g.2 (vl 21 0 0 0 [g.1,p] 0)
 let l:={i with known:=i.known++[p,p+1]}
 let st:=fI ops l
 let s4:=put st.2 (vl 23 0 0 0 [] st.1)
 let one:=s4.ee.length
 let m:=put s4 (vl 2 0 0 1 [] 0)
 let j:=il m (vl 4 p one 0 [] 0)
 let k:=end_ {c with s:=j} 2 p [a+2,a+3] 0 [a+1]
 let b:=j.known.length
 let e:=row ops k.s
 let n:=setArgs e p [f.1,one+1]
 let d:=num ops n 3
 let o:=if d.1=0 then setArgs d.2 p [f.1,e.known.getLastD 0] else d.2
 let h:=setArgs o (p+1) [g.1,e.known.getLastD 0]
 let t3:=end_ {k with s:=cut b h} 1 0 [a+1] 0 [a+1]
 {t3 with s:=row ops t3.s}
def Ai(ops:List Int) (t:Dt):Dt:=
 let c:=fT ops t.s
 let b:=t.s.known.length
 let a:=t.blocks.length
 let d:=end_ {t with s:=c.2} 2 c.1 [a+1,a+2] 0 [a]
 let s1:=row ops d.s
 let st:=fI ops s1
 let e:=end_ {d with s:=cut b st.2} 3 0 [] st.1 [a]
 {e with s:=row ops e.s}
def um(ops:List Int)(k:Nat)(t:Dt):Dt:=if k=0 then fork ops t else if k=1 then loop ops t else Ai ops t
def kM(ops:List Int):List Int->Dt->Dt
 |[],t=>t
 |k::l,t=>if t.s.ee.length<160 then kM ops l (um ops (jC k 3) t) else t
def params:Nat->Nat->Ds->Ds
 |0,_,s=>s
 |n+1,i,s=>params n (i+1) (il s (vl 1 0 0 (i:Nat) [] 0))
def Ao(ops a:List Int) (n:Int):U:=
 let s:=row ops (il (params (jC n 5) 0 ⟨[],[],[],[],0⟩) (vl 2 0 0 5 [] 0))
 let t:=kM ops (a.take 6) ⟨s,[],[]⟩
 let st:=fI ops t.s
 let b:=end_ {t with s:=st.2} 3 0 [] st.1 []
 ⟨1,2,b.s.ee,b.blocks,b.s.eE⟩
