/- Parts of the proof. -/
import Derived.Calls
namespace Go.Proofs.YtiepamfpilhcjaaDoor.Dm
structure Gr where
 node:Nat→Prop
 edge:Nat→Nat→Prop
 place:Nat→Nat
 first:node 0
 place0:place 0=0
 inj:∀a b,node a→node b→place a=place b→a=b
 to:∀a b,node a→edge a b→node b
 early:∀b,node b→b≠0→∃p,node p∧edge p b∧place p<place b
inductive Pa (G:Gr):Nat→List Nat→Nat→Prop
 | nil:Pa G 0 [0] 0
 | fwd {p b:Nat} {l:List Nat} {r:Nat} (h:Pa G p l r) (e:G.edge p b) (hp:G.place p<G.place b):Pa G b (b::l) r
 | bwd {p b:Nat} {l:List Nat} {r:Nat} (h:Pa G p l r) (e:G.edge p b) (hp:¬G.place p<G.place b):Pa G b (b::l) (r+1)
def Dom (G:Gr) (x b:Nat):Prop:=∀l r,Pa G b l r→x∈l
def DK (G:Gr) (k x b:Nat):Prop:=∀l r,Pa G b l r→r<k→x∈l
variable {G:Gr}
theorem Pa.node:∀{b l r},Pa G b l r→G.node b
 | _,_,_, .nil=>G.first
 | _,_,_, .fwd h e _=>G.to _ _ h.node e
 | _,_,_, .bwd h e _=>G.to _ _ h.node e
theorem Pa.last:∀{b l r},Pa G b l r→b∈l
 | _,_,_, .nil=> .head _
 | _,_,_, .fwd _ _ _=> .head _
 | _,_,_, .bwd _ _ _=> .head _
theorem Pa.step {p b:Nat} {l:List Nat} {r:Nat} (h:Pa G p l r) (e:G.edge p b):∃r',r'≤r+1∧(G.place p<G.place b→r' = r)∧Pa G b (b::l) r':=by
 by_cases hp:G.place p<G.place b
 ·exact ⟨r,Nat.le_succ _,fun _=>rfl, .fwd h e hp⟩
 ·exact ⟨r+1,Nat.le_refl _,fun h=>absurd h hp, .bwd h e hp⟩
theorem fwdPath (n:Nat):∀b,G.node b→G.place b<n→∃l,Pa G b l 0∧∀x∈l,G.node x∧G.place x≤G.place b:=by
 induction n with
 | zero=>intro b _ h;omega
 | succ n ih =>
   intro b hb hn
   by_cases h0 : b = 0
   · subst h0
     exact ⟨[0], .nil, fun x hx => by simp at hx; subst hx; exact ⟨hb, Nat.le_refl _⟩⟩
   · obtain ⟨p, hp, he, hlt⟩ := G.early b hb h0
     obtain ⟨l, hl, hx⟩ := ih p hp (by omega)
     refine ⟨b :: l, .fwd hl he hlt, fun x h => ?_⟩
     cases h with
     | head => exact ⟨hb, Nat.le_refl _⟩
     | tail _ h =>
       have := hx x h
       exact ⟨this.1, by omega⟩
theorem Pa.pre:∀{b l r},Pa G b l r→∀{x},x∈l→∃l' r',Pa G x l' r'∧r'≤r∧∀y∈l',y∈l
 | _,_,_, .nil,x,hx=>by simp at hx;subst hx;exact ⟨[0],0, .nil,Nat.le_refl _,fun y h=>h⟩
 | b, _, _, .fwd (l := l) (r := r) h e hp, x, hx => by
   rcases List.mem_cons.1 hx with rfl | hx
   · exact ⟨_, _, .fwd h e hp, Nat.le_refl _, fun y h => h⟩
   · obtain ⟨l', r', h1, h2, h3⟩ := h.pre hx
     exact ⟨l', r', h1, h2, fun y hy => .tail _ (h3 y hy)⟩
 | b, _, _, .bwd (l := l) (r := r) h e hp, x, hx => by
   rcases List.mem_cons.1 hx with rfl | hx
   · exact ⟨_, _, .bwd h e hp, Nat.le_refl _, fun y h => h⟩
   · obtain ⟨l', r', h1, h2, h3⟩ := h.pre hx
     exact ⟨l', r', h1, by omega, fun y hy => .tail _ (h3 y hy)⟩
theorem DK.mono {x b k k' : Nat} (h:DK G k x b) (hk:k'≤k):DK G k' x b:=fun l r hp hr=>h l r hp (by omega)
theorem DK.trans {x y b k:Nat} (h1:DK G k x y) (h2:DK G k y b):DK G k x b:=by
 intro l r hp hr
 obtain ⟨l',r',g1,g2,g3⟩:=hp.pre (h2 l r hp hr)
 exact g3 x (h1 l' r' g1 (by omega))
theorem DK.self (k b:Nat):DK G k b b:=fun _ _ hp _=>hp.last
theorem Dom.self (b:Nat):Dom G b b:=fun _ _ hp=>hp.last
theorem Dom.pred {x p b:Nat} (h:Dom G x b) (hx:x≠b) (e:G.edge p b):Dom G x p:=by
 intro l r hp
 obtain ⟨r',_,_,hs⟩:=hp.step e
 rcases List.mem_cons.1 (h _ _ hs) with rfl | h
 ·exact absurd rfl hx
 ·exact h
inductive Anc (I:Nat→Nat):Nat→Nat→Prop
 | refl (b:Nat):Anc I b b
 | up {a b:Nat} (h0:b≠0) (h:Anc I a (I b)):Anc I a b
theorem Anc.trans {I:Nat→Nat} {a b c:Nat} (h1:Anc I a b) (h2:Anc I b c):Anc I a c:=by
 induction h2 with
 | refl=>exact h1
 | up h0 _ ih=>exact .up h0 ih
theorem Anc.parent {I:Nat→Nat} {a b:Nat} (h:Anc I a b) (hn:a≠b):Anc I a (I b):=by
 cases h with
 | refl=>exact absurd rfl hn
 | up _ h=>exact h
def set (I:Nat→Nat) (b d:Nat):Nat→Nat:=fun x=>if x=b then d else I x
structure Tree (G:Gr) (I:Nat→Nat) (S:Nat→Prop):Prop where
 zero:S 0
 node:∀b,S b→G.node b
 up:∀b,S b→b≠0→S (I b)∧G.place (I b)<G.place b
section
variable {I:Nat→Nat} {S:Nat→Prop}
theorem Tree.anc (hT:Tree G I S) {a b:Nat} (h:Anc I a b):S b→S a∧G.place a≤G.place b:=by
 induction h with
 | refl=>exact fun h=>⟨h,Nat.le_refl _⟩
 | up h0 _ ih =>
   intro hb
   obtain ⟨h1, h2⟩ := hT.up _ hb h0
   have := ih h1
   exact ⟨this.1, by omega⟩
theorem Tree.anti (hT:Tree G I S) {a b:Nat} (ha:Anc I a b) (hb:Anc I b a) (h:S b):a=b:=by
 have h1:=hT.anc ha h
 have h2:=hT.anc hb h1.1
 exact G.inj _ _ (hT.node _ h1.1) (hT.node _ h) (by omega)
theorem Tree.meetL (hT:Tree G I S) {a b x:Nat} (ha:S a) (hb:S b) (hlt:G.place b<G.place a) (hx:Anc I x a) (hy:Anc I x b):Anc I x (I a):=by
 refine hx.parent fun e=>?_
 subst e
 have:=(hT.anc hy hb).2
 omega
theorem Anc.set_low {b d:Nat} (hT:Tree G I S) {a c:Nat} (h:Anc I a c):S c→G.place c<G.place b→Anc (set I b d) a c:=by
 induction h with
 | refl=>exact fun _ _=> .refl _
 | up h0 _ ih =>
   rename_i c _
   intro hc hlt
   have hne : c ≠ b := fun e => by subst e; omega
   obtain ⟨h1, h2⟩ := hT.up _ hc h0
   refine .up h0 ?_
   unfold Dm.set
   rw [if_neg hne]
   exact ih h1 (by omega)
end
structure Inv (G:Gr) (I:Nat→Nat) (S:Nat→Prop) (k pos:Nat):Prop where
 tree:Tree G I S
 one:1≤k
 pos1:1≤pos
 done:∀b,G.node b→G.place b<pos→S b
 all:2≤k→∀b,G.node b→S b
 fresh:k=1→∀b,S b→G.place b<pos
 low:∀b,S b→b≠0→DK G (if G.place b<pos then k else k - 1) (I b) b
 dom:∀y x,S y→Dom G x y→Anc I x y
section
variable {I:Nat→Nat} {S:Nat→Prop} {k pos:Nat}
theorem Inv.kb (hI:Inv G I S k pos) {b:Nat} (hb:S b):1≤(if G.place b<pos then k else k - 1):=by
 have:=hI.one
 split
 ·omega
 ·rename_i h
  by_cases h1:k=1
  ·exact absurd (hI.fresh h1 b hb) h
  ·omega
theorem Inv.ancLow (hI:Inv G I S k pos) {a b:Nat} (h:Anc I a b):S b→DK G (if G.place b<pos then k else k - 1) a b:=by
 induction h with
 | refl=>exact fun _=>DK.self _ _
 | up h0 _ ih =>
   rename_i b _
   intro hb
   obtain ⟨h1, h2⟩ := hI.tree.up _ hb h0
   refine DK.trans (DK.mono (ih h1) ?_) (hI.low b hb h0)
   split <;> split <;> omega
theorem Pa.swap:∀{y l0 r0},Pa G y l0 r0→r0=0→∀{z l r},z∈l0→Pa G z l r→∃l' r',Pa G y l' r'∧G.place z≤G.place y∧∀w∈l',w∈l∨G.place z<G.place w
 | _, _, _, .nil, _, z, l, r, hz, hp => by
   simp at hz; subst hz
   exact ⟨l, r, hp, Nat.le_refl _, fun w h => .inl h⟩
 | _, _, _, .fwd (p := p) (b := b) h e hlt, h0, z, l, r, hz, hp => by
   rcases List.mem_cons.1 hz with rfl | hz
   · exact ⟨l, r, hp, Nat.le_refl _, fun w h => .inl h⟩
   · obtain ⟨l', r', g1, g2, g3⟩ := h.swap h0 hz hp
     refine ⟨b :: l', r', .fwd g1 e hlt, by omega, fun w hw => ?_⟩
     rcases List.mem_cons.1 hw with rfl | hw
     · exact .inr (by omega)
     · exact g3 w hw
 | _,_,_, .bwd _ _ _,h0,_,_,_,_,_=>by cases h0
theorem Inv.domMid (hI:Inv G I S k pos) {x y z:Nat} (hy:S y) (hx:Dom G x y) (hz:Anc I z y) (hxz:Anc I x z) (hne:x≠z):Dom G x z:=by
 intro l r hp
 obtain ⟨l0,hl0,_⟩:=fwdPath (G:=G) (G.place y+1) y (hI.tree.node y hy) (Nat.lt_succ_self _)
 have hz0:z∈l0:=hI.ancLow hz hy l0 0 hl0 (hI.kb hy)
 obtain ⟨l',r',g1,_,g3⟩:=hl0.swap rfl hz0 hp
 rcases g3 x (hx l' r' g1) with h | h
 ·exact h
 ·have hzS:=hI.tree.anc hz hy
  have:=hI.tree.anc hxz hzS.1
  omega
theorem Inv.upd (hI:Inv G I S k pos) {b d:Nat} (hb:G.node b) (h0:b≠0) (hp:G.place b=pos) (hlow:∀p,S p→G.edge p b→Anc I d p) (hgreat:∀x,(∀p,S p→G.edge p b→Anc I x p)→Anc I x d) :
  Inv G (set I b d) (fun x=>S x∨x=b) k (pos+1)∧S d∧G.place d<G.place b:=by
 obtain ⟨p0,hn0,he0,hlt0⟩:=G.early b hb h0
 have hS0:S p0:=hI.done p0 hn0 (by omega)
 obtain ⟨hd,hpd⟩:=hI.tree.anc (hlow p0 hS0 he0) hS0
 have hdb:G.place d<G.place b:=by omega
 have hsb:set I b d b=d:=by unfold Dm.set;rw [if_pos rfl]
 have hsn:∀c,c≠b→set I b d c=I c:=fun c h=>by unfold Dm.set;rw [if_neg h]
 have hT' : Tree G (set I b d) (fun x=>S x∨x=b):=by
  refine ⟨.inl hI.tree.zero,fun c hc=>?_,fun c hc hc0=>?_⟩
  ·rcases hc with hc | rfl
   ·exact hI.tree.node c hc
   ·exact hb
  ·by_cases hcb:c=b
   ·subst hcb
    rw [hsb]
    exact ⟨.inl hd,hdb⟩
   ·rw [hsn c hcb]
    have hc:=hc.resolve_right hcb
    have:=hI.tree.up c hc hc0
    exact ⟨.inl this.1,this.2⟩
 have hbAnc:∀x,Dom G x b→Anc (set I b d) x b:=by
  intro x hx
  by_cases hxb:x=b
  ·subst hxb;exact .refl _
  ·refine .up h0 ?_
   rw [hsb]
   exact (hgreat x fun p hpS he=>hI.dom p x hpS (hx.pred hxb he)).set_low hI.tree hd hdb
 refine ⟨⟨hT',hI.one,by omega,fun c hc hlt=>?_,fun h2 c hc=> .inl (hI.all h2 c hc),fun h1 c hc=>?_,fun c hc hc0=>?_,fun y x hy hx=>?_⟩,hd,hdb⟩
 ·by_cases hcp:G.place c<pos
  ·exact .inl (hI.done c hc hcp)
  ·exact .inr (G.inj c b hc hb (by omega))
 ·rcases hc with hc | rfl
  ·have:=hI.fresh h1 c hc;omega
  ·omega
 ·by_cases hcb:c=b
  ·subst hcb
   rw [hsb,if_pos (by omega)]
   intro l r hpath hr
   cases hpath with
   | nil=>exact absurd rfl h0
   | fwd h e hlt =>
     rename_i p l
     have hS : S p := hI.done p h.node (by omega)
     have := hI.ancLow (hlow p hS e) hS
     rw [if_pos (by omega)] at this
     exact .tail _ (this _ _ h hr)
   | bwd h e hlt =>
     rename_i p l r
     have hS : S p := hI.all (by omega) p h.node
     have := (hI.ancLow (hlow p hS e) hS).mono (k' := k - 1) (by split <;> omega)
     exact .tail _ (this _ _ h (by omega))
  ·have hc':=hc.resolve_right hcb
   rw [hsn c hcb]
   have hne:G.place c≠pos:=fun h=>hcb (G.inj c b (hI.tree.node c hc') hb (by omega))
   have:=hI.low c hc' hc0
   by_cases hlt:G.place c<pos
   ·rw [if_pos hlt] at this;rw [if_pos (by omega)];exact this
   ·rw [if_neg hlt] at this;rw [if_neg (by omega)];exact this
 ·by_cases hyb:y=b
  ·subst hyb;exact hbAnc x hx
  ·have hyS:=hy.resolve_right hyb
   have key:∀{y},Anc I x y→S y→Dom G x y→Anc (set I b d) x y:=by
    intro y h
    induction h with
    | refl=>exact fun _ _=> .refl _
    | up hy0 h ih =>
      rename_i y
      intro hyS hx
      by_cases hyb : y = b
      · subst hyb; exact hbAnc x hx
      · refine .up hy0 ?_
        rw [hsn y hyb]
        by_cases hxI : x = I y
        · rw [← hxI]; exact .refl _
        · exact ih (hI.tree.up y hyS hy0).1 (hI.domMid hyS hx (.up hy0 (.refl _)) h hxI)
   exact key (hI.dom y x hyS hx) hyS hx
theorem Inv.pass (hI:Inv G I S k pos) (hall:∀b,G.node b→G.place b<pos):Inv G I S (k+1) 1:=by
 have h1:=hI.one
 refine ⟨hI.tree,by omega,Nat.le_refl _,fun b hb hlt=>?_,fun _ b hb=>hI.done b hb (hall b hb),fun h=>by omega,fun b hb h0=>?_,hI.dom⟩
 ·exact hI.done b hb (hall b hb)
 ·have:=hI.low b hb h0
  rw [if_pos (hall b (hI.tree.node b hb))] at this
  split
  ·rename_i h
   have hz:G.place b=G.place 0:=by have:=G.place0;omega
   exact absurd (G.inj b 0 (hI.tree.node b hb) G.first hz) h0
  ·exact this
theorem Inv.start:Inv G (fun _=>0) (fun x=>x=0) 1 1:=by
 refine ⟨⟨rfl,fun b h=>by subst h;exact G.first,fun b h h0=>absurd h h0⟩,Nat.le_refl _,Nat.le_refl _,fun b hb hlt=>?_,fun h=>by omega,fun _ b h=>by subst h;rw [G.place0];omega,fun b h h0=>absurd h h0,fun y x hy hx=>?_⟩
 ·exact G.inj b 0 hb G.first (by have:=G.place0;omega)
 ·subst hy
  have:=hx _ _ .nil
  simp at this
  subst this
  exact .refl _
theorem Pa.suffix:∀{b l r},Pa G b l r→∀{x},x∈l→∃l' r' t,Pa G x l' r'∧l=t++l'
 | _,_,_, .nil,x,hx=>by simp at hx;subst hx;exact ⟨[0],0,[], .nil,rfl⟩
 | b, _, _, .fwd (l := l) (r := r) h e hp, x, hx => by
   rcases List.mem_cons.1 hx with rfl | hx
   · exact ⟨_, _, [], .fwd h e hp, rfl⟩
   · obtain ⟨l', r', t, h1, h2⟩ := h.suffix hx
     exact ⟨l', r', b :: t, h1, by rw [h2]; rfl⟩
 | b, _, _, .bwd (l := l) (r := r) h e hp, x, hx => by
   rcases List.mem_cons.1 hx with rfl | hx
   · exact ⟨_, _, [], .bwd h e hp, rfl⟩
   · obtain ⟨l', r', t, h1, h2⟩ := h.suffix hx
     exact ⟨l', r', b :: t, h1, by rw [h2]; rfl⟩
theorem Pa.short:∀{b l r},Pa G b l r→r+1≤l.length
 | _,_,_, .nil=>by simp
 | _,_,_, .fwd h _ _=>by have:=h.short;simp;omega
 | _,_,_, .bwd h _ _=>by have:=h.short;simp;omega
theorem Pa.nodes:∀{b l r},Pa G b l r→∀x∈l,G.node x
 | _,_,_, .nil,x,hx=>by simp at hx;subst hx;exact G.first
 | _, _, _, .fwd h e hp, x, hx => by
   rcases List.mem_cons.1 hx with rfl | hx
   · exact G.to _ _ h.node e
   · exact h.nodes x hx
 | _, _, _, .bwd h e hp, x, hx => by
   rcases List.mem_cons.1 hx with rfl | hx
   · exact G.to _ _ h.node e
   · exact h.nodes x hx
theorem Pa.simple:∀{b l r},Pa G b l r→∃l' r',Pa G b l' r'∧l'.Nodup∧∀x∈l',x∈l:=by
 intro b l r h
 have step:∀{p b:Nat} {l:List Nat},(∃l' r',Pa G p l' r'∧l'.Nodup∧∀x∈l',x∈l)→G.edge p b→∃l' r',Pa G b l' r'∧l'.Nodup∧∀x∈l',x∈b::l:=by
  rintro p b l ⟨l',r',h1,h2,h3⟩ e
  by_cases hb:b∈l'
  ·obtain ⟨l2,r2,t,g1,g2⟩:=h1.suffix hb
   refine ⟨l2,r2,g1,?_,fun x hx=> .tail _ (h3 x (by rw [g2];exact List.mem_append_right _ hx))⟩
   rw [g2] at h2
   exact (List.nodup_append.1 h2).2.1
  ·obtain ⟨r2,_,_,g⟩:=h1.step e
   refine ⟨b::l',r2,g,List.nodup_cons.2 ⟨hb,h2⟩,fun x hx=>?_⟩
   rcases List.mem_cons.1 hx with rfl | hx
   ·exact .head _
   ·exact .tail _ (h3 x hx)
 induction h with
 | nil=>exact ⟨[0],0, .nil,by simp,fun x h=>h⟩
 | fwd _ e _ ih=>exact step ih e
 | bwd _ e _ ih=>exact step ih e
theorem nodup_le:∀(n:Nat) (l:List Nat),l.Nodup→(∀x∈l,x<n)→l.length≤n:=by
 intro n
 induction n with
 | zero =>
   intro l _ h
   cases l with
   | nil => exact Nat.le_refl _
   | cons a l => exact absurd (h a (.head _)) (Nat.not_lt_zero _)
 | succ n ih =>
   intro l hd h
   by_cases hn : n ∈ l
   · have h1 := ih (l.erase n) (hd.erase n) (fun x hx => by
       have h2 := List.mem_of_mem_erase hx
       have h3 := h x h2
       have h4 : x ≠ n := fun e => by subst e; exact absurd hx hd.not_mem_erase
       omega)
     have h2 := List.length_erase_of_mem hn
     have h3 : 0 < l.length := List.length_pos_of_mem hn
     omega
   · have := ih l hd fun x hx => by
       have h1 := h x hx
       have h2 : x ≠ n := fun e => by subst e; exact hn hx
       omega
     omega
theorem DK.dom {n x b kk:Nat} (hn:∀b,G.node b→b<n) (h:DK G kk x b) (hk:n≤kk):Dom G x b:=by
 intro l r hp
 obtain ⟨l',r',h1,h2,h3⟩:=hp.simple
 have h4:=nodup_le n l' h2 fun x hx=>hn x (h1.nodes x hx)
 have h5:=h1.short
 exact h3 x (h l' r' h1 (by omega))
theorem Inv.exact (hI:Inv G I S k pos) {n:Nat} (hn:∀b,G.node b→b<n) (hk:n+1≤k) {x b:Nat} (hb:S b):Anc I x b↔Dom G x b:=by
 refine ⟨fun h=>(hI.ancLow h hb).dom hn ?_,hI.dom b x hb⟩
 split <;> omega
theorem Inv.stay (hI:Inv G I S k pos) {n:Nat} (hn:∀b,G.node b→b<n) (hk:n+1≤k) {b d:Nat} (hb:G.node b) (h0:b≠0) (hp:G.place b=pos) (hlow:∀p,S p→G.edge p b→Anc I d p) (hgreat:∀x,(∀p,S p→G.edge p b→Anc I x p)→Anc I x d) :
  S b∧d=I b:=by
 have hn0:=hn 0 G.first
 have hS:S b:=hI.all (by omega) b hb
 obtain ⟨hI',hd,hdb⟩:=hI.upd hb h0 hp hlow hgreat
 obtain ⟨hIb,hlt⟩:=hI.tree.up b hS h0
 have hne:I b≠b:=fun e=>by rw [e] at hlt;omega
 have h1:Dom G (I b) b:=(hI.exact hn hk hS).1 (.up h0 (.refl _))
 have h2:Anc I (I b) d:=hgreat _ fun p hpS he=>hI.dom p _ hpS (h1.pred hne he)
 have h3:Dom G d b:=(hI'.exact hn hk (.inr rfl)).1 (.up h0 (by unfold Dm.set;rw [if_pos rfl];exact .refl _))
 have h4:Anc I d (I b):=(hI.dom b d hS h3).parent fun e=>by subst e;omega
 exact ⟨hS,hI.tree.anti h4 h2 hIb⟩
end
end Go.Proofs.YtiepamfpilhcjaaDoor.Dm
namespace Go.Proofs.YtiepamfpilhcjaaDoor.Dm
def isSeen (seen:List Bool) (b:Nat):Prop:=seen[b]? = some true
theorem isSeen_set {seen:List Bool} {t b:Nat} (ht:t<seen.length):isSeen (seen.set t true) b↔b=t∨isSeen seen b:=by
 unfold isSeen
 rw [List.getElem?_set]
 by_cases h:t=b
 ·subst h;simp [ht]
 ·rw [if_neg h]
  constructor
  ·exact fun h=> .inr h
  ·rintro (rfl | h')
   ·exact absurd rfl h
   ·exact h'
structure Go_ (n:Nat) (next:Nat→List Nat) (seen:List Bool) (post:List Nat) (stack:List (Nat×Nat)):Prop where
 len:seen.length=n
 low:∀b,b<n→∀t∈next b,t<n
 range:∀x∈stack,x.1<n∧x.2≤(next x.1).length
 pre:∀b∈post,b<n
 iff:∀b,isSeen seen b↔b∈post∨b∈stack.map (·.1)
 nodup:(post++stack.map (·.1)).Nodup
 root:∀x s,stack=x::s→x.1=0
 last:stack=[]→∃p,post=p++[0]
 closed:∀b∈post,∀t∈next b,isSeen seen t
 gone:∀x∈stack,∀j,j<x.2→∀t,(next x.1)[j]? = some t→isSeen seen t
 way:∀s x y r,stack=s++x::y::r→y.1∈next x.1
 early:∀l b r,post=l++b::r→b=0∨∃p,b∈next p∧(p∈r∨p∈stack.map (·.1))
 zero:0 ∉ post∨stack=[]
section
variable {n:Nat} {next:Nat→List Nat} {seen:List Bool} {post:List Nat} {stack s:List (Nat×Nat)} {b i t:Nat}
theorem Go_.start (hn:0<n) (hl:∀b,b<n→∀t∈next b,t<n):Go_ n next ((List.replicate n false).set 0 true) [] [(0,0)] where
 len:=by simp
 low:=hl
 range:=fun x hx=>by simp at hx;subst hx;exact ⟨hn,Nat.zero_le _⟩
 pre:=fun b hb=>by cases hb
 iff:=fun b=>by
  rw [isSeen_set (by simpa using hn)]
  simp [isSeen,List.getElem?_replicate]
 nodup:=by simp
 root:=fun x s h=>by cases h;rfl
 last:=fun h=>by cases h
 closed:=fun b hb=>by cases hb
 gone:=fun x hx j hj=>by simp at hx;subst hx;exact absurd hj (Nat.not_lt_zero _)
 way:=fun s x y r h=>by
  have:=congrArg List.length h
  simp at this
  omega
 early:=fun l b r h=>by
  have:=congrArg List.length h
  simp at this
 zero:= .inl (by simp)
theorem eq_nil_or_snoc {α:Type} (l:List α):l=[]∨∃s x,l=s++[x]:=by
 rcases List.eq_nil_or_concat l with h | ⟨s,x,h⟩
 ·exact .inl h
 ·exact .inr ⟨s,x,by rw [h,List.concat_eq_append]⟩
theorem snoc_eq {α:Type} {s s' : List α} {x y:α} (h:s++[x]=s'++[y]):s=s'∧x=y:=by
 have:=List.append_inj_right' h rfl
 have h2:=List.append_inj_left' h rfl
 simp at this
 exact ⟨h2,this⟩
theorem Go_.pop (hI:Go_ n next seen post (s++[(b,i)])) (hi:i=(next b).length):Go_ n next seen (post++[b]) s where
 len:=hI.len
 low:=hI.low
 range:=fun x hx=>hI.range x (List.mem_append_left _ hx)
 pre:=fun c hc=>by
  rcases List.mem_append.1 hc with hc | hc
  ·exact hI.pre c hc
  ·simp at hc;subst hc;exact (hI.range (c,i) (by simp)).1
 iff:=fun c=>by
  rw [hI.iff c]
  simp only [List.map_append,List.map_cons,List.map_nil,List.mem_append,List.mem_singleton]
  constructor
  ·rintro (h | h | h)
   ·exact .inl (.inl h)
   ·exact .inr h
   ·exact .inl (.inr h)
  ·rintro ((h | h) | h)
   ·exact .inl h
   ·exact .inr (.inr h)
   ·exact .inr (.inl h)
 nodup:=by
  have:=hI.nodup
  simp only [List.map_append,List.map_cons,List.map_nil] at this
  have hp:(post++[b]++s.map (·.1)).Perm (post++(s.map (·.1)++[b])):=by
   rw [List.append_assoc]
   exact List.Perm.append_left _ List.perm_append_comm
  exact hp.nodup_iff.2 this
 root:=fun x r h=>hI.root x (r++[(b,i)]) (by rw [h];rfl)
 last:=fun h=>by
  subst h
  have:=hI.root (b,i) [] rfl
  simp at this
  subst this
  exact ⟨post,rfl⟩
 closed:=fun c hc t ht=>by
  rcases List.mem_append.1 hc with hc | hc
  ·exact hI.closed c hc t ht
  ·simp at hc;subst hc
   obtain ⟨j,hj⟩:=List.mem_iff_getElem?.1 ht
   have hlt:=(List.getElem?_eq_some_iff.1 hj).1
   exact hI.gone (c,i) (by simp) j (by show j<i;omega) t hj
 gone:=fun x hx=>hI.gone x (List.mem_append_left _ hx)
 way:=fun s' x y r h=>hI.way s' x y (r++[(b,i)]) (by rw [h];simp)
 early:=fun l c r h=>by
  rcases eq_nil_or_snoc r with rfl | ⟨r',z,rfl⟩
  ·obtain ⟨h1,h2⟩:=snoc_eq h
   subst h2
   rcases eq_nil_or_snoc s with rfl | ⟨s',x,rfl⟩
   ·exact .inl (hI.root (b,i) [] rfl)
   ·refine .inr ⟨x.1,hI.way s' x (b,i) [] (by simp), .inr (by simp)⟩
  ·have h' : post++[b]=(l++c::r')++[z]:=by rw [h];simp
   obtain ⟨h1,h2⟩:=snoc_eq h'
   subst h2
   rcases hI.early l c r' h1 with h0 | ⟨p,h3,h4⟩
   ·exact .inl h0
   ·refine .inr ⟨p,h3,?_⟩
    rcases h4 with h4 | h4
    ·exact .inl (by simp [h4])
    ·simp only [List.map_append,List.map_cons,List.map_nil,List.mem_append,List.mem_singleton] at h4
     rcases h4 with h4 | h4
     ·exact .inr h4
     ·exact .inl (by simp [h4])
 zero:=by
  rcases eq_nil_or_snoc s with rfl | ⟨s',x,rfl⟩
  ·exact .inr rfl
  ·refine .inl fun h0=>?_
   obtain ⟨y,s2,hs2⟩:∃y s2,s'++[x]=y::s2:=by
    cases s' with
    | nil=>exact ⟨x,[],rfl⟩
    | cons y s'=>exact ⟨y,s'++[x],rfl⟩
   have hy:=hI.root y (s2++[(b,i)]) (by rw [hs2];rfl)
   have hnd:=hI.nodup
   rcases List.mem_append.1 h0 with h0 | h0
   ·rcases hI.zero with h | h
    ·exact h h0
    ·simp at h
   ·simp at h0
    rw [hs2] at hnd
    have:(0:Nat)=b:=h0
    subst this
    simp only [List.cons_append,List.map_cons,List.map_append,List.map_nil,hy] at hnd
    have h2:=(List.nodup_append.1 hnd).2.1
    have h3:=(List.nodup_cons.1 h2).1
    exact h3 (by simp)
theorem Go_.skip (hI:Go_ n next seen post (s++[(b,i)])) (ht:(next b)[i]? = some t) (hs:isSeen seen t):Go_ n next seen post (s++[(b,i+1)]):=by
 have hm:∀j:Nat,(s++[(b,j)]).map (fun x:Nat×Nat=>x.1)=s.map (fun x:Nat×Nat=>x.1)++[b]:=fun j=>by simp
 refine ⟨hI.len,hI.low,fun x hx=>?_,hI.pre,fun c=>?_,?_,fun x r h=>?_,fun h=>by simp at h,hI.closed,fun x hx j hj u hu=>?_,fun s' x y r h=>?_,fun l c r h=>?_,?_⟩
 ·rcases List.mem_append.1 hx with hx | hx
  ·exact hI.range x (List.mem_append_left _ hx)
  ·simp at hx;subst hx
   have:=hI.range (b,i) (by simp)
   have hlt:=(List.getElem?_eq_some_iff.1 ht).1
   exact ⟨this.1,hlt⟩
 ·rw [hm];have:=hI.iff c;rw [hm] at this;exact this
 ·rw [hm];have:=hI.nodup;rw [hm] at this;exact this
 ·cases s with
  | nil=>simp at h;obtain ⟨h1,_⟩:=h;subst h1;exact hI.root (b,i) [] rfl
  | cons y s =>
    simp at h
    obtain ⟨h1, h2⟩ := h
    subst h1
    exact hI.root y (s ++ [(b, i)]) rfl
 ·rcases List.mem_append.1 hx with hx | hx
  ·exact hI.gone x (List.mem_append_left _ hx) j hj u hu
  ·simp at hx;subst hx
   have hj' : j<i+1:=hj
   by_cases hji:j=i
   ·subst hji
    have hu' : (next b)[j]? = some u:=hu
    rw [ht] at hu';cases hu';exact hs
   ·exact hI.gone (b,i) (by simp) j (by show j<i;omega) u hu
 ·rcases eq_nil_or_snoc r with rfl | ⟨r',z,rfl⟩
  ·have h' : s++[(b,i+1)]=(s'++[x])++[y]:=by rw [h];simp
   obtain ⟨h1,h2⟩:=snoc_eq h'
   subst h2
   exact hI.way s' x (b,i) [] (by rw [h1];simp)
  ·have h' : s++[(b,i+1)]=(s'++x::y::r')++[z]:=by rw [h];simp
   obtain ⟨h1,h2⟩:=snoc_eq h'
   exact hI.way s' x y (r'++[(b,i)]) (by rw [h1];simp)
 ·rw [hm];have:=hI.early l c r h;rw [hm] at this;exact this
 ·rcases hI.zero with h | h
  ·exact .inl h
  ·simp at h
theorem Go_.push (hI:Go_ n next seen post (s++[(b,i)])) (ht:(next b)[i]? = some t) (hs:¬isSeen seen t):Go_ n next (seen.set t true) post (s++[(b,i+1)]++[(t,0)]):=by
 have hb:=hI.range (b,i) (by simp)
 have htn:t<n:=hI.low b hb.1 t (List.mem_of_getElem? ht)
 have hss:∀c,isSeen (seen.set t true) c↔c=t∨isSeen seen c:=fun c=>isSeen_set (by rw [hI.len];exact htn)
 have hm:(s++[(b,i+1)]++[(t,0)]).map (fun x:Nat×Nat=>x.1)=(s++[(b,i)]).map (fun x:Nat×Nat=>x.1)++[t]:=by simp
 have hlt:=(List.getElem?_eq_some_iff.1 ht).1
 refine ⟨by simp [hI.len],hI.low,fun x hx=>?_,hI.pre,fun c=>?_,?_,fun x r h=>?_,fun h=>by simp at h,fun c hc u hu=>(hss u).2 (.inr (hI.closed c hc u hu)),fun x hx j hj u hu=>?_,fun s' x y r h=>?_,fun l c r h=>?_,?_⟩
 ·rcases List.mem_append.1 hx with hx | hx
  ·rcases List.mem_append.1 hx with hx | hx
   ·exact hI.range x (List.mem_append_left _ hx)
   ·simp at hx;subst hx
    exact ⟨hb.1,hlt⟩
  ·simp at hx;subst hx
   exact ⟨htn,Nat.zero_le _⟩
 ·rw [hss,hm,hI.iff c,List.mem_append]
  simp only [List.mem_singleton]
  constructor
  ·rintro (h | h | h)
   ·exact .inr (.inr h)
   ·exact .inl h
   ·exact .inr (.inl h)
  ·rintro (h | h | h)
   ·exact .inr (.inl h)
   ·exact .inr (.inr h)
   ·exact .inl h
 ·rw [hm,←List.append_assoc]
  refine List.nodup_append.2 ⟨hI.nodup,by simp,fun x hx y hy e=>?_⟩
  simp at hy
  subst hy
  subst e
  refine hs ((hI.iff x).2 ?_)
  exact List.mem_append.1 hx
 ·cases s with
  | nil =>
    simp at h
    obtain ⟨h1, _⟩ := h
    subst h1
    exact hI.root (b, i) [] rfl
  | cons y s =>
    simp at h
    obtain ⟨h1, h2⟩ := h
    subst h1
    exact hI.root y (s ++ [(b, i)]) rfl
 ·refine (hss u).2 ?_
  rcases List.mem_append.1 hx with hx | hx
  ·rcases List.mem_append.1 hx with hx | hx
   ·exact .inr (hI.gone x (List.mem_append_left _ hx) j hj u hu)
   ·simp at hx;subst hx
    have hj' : j<i+1:=hj
    by_cases hji:j=i
    ·subst hji
     have hu' : (next b)[j]? = some u:=hu
     rw [ht] at hu';cases hu';exact .inl rfl
    ·exact .inr (hI.gone (b,i) (by simp) j (by show j<i;omega) u hu)
  ·simp at hx;subst hx
   exact absurd hj (Nat.not_lt_zero _)
 ·rcases eq_nil_or_snoc r with rfl | ⟨r',z,rfl⟩
  ·have h' : s++[(b,i+1)]++[(t,0)]=(s'++[x])++[y]:=by rw [h];simp
   obtain ⟨h1,h2⟩:=snoc_eq h'
   obtain ⟨_,h3⟩:=snoc_eq h1
   subst h2
   subst h3
   exact List.mem_of_getElem? ht
  ·have h' : s++[(b,i+1)]++[(t,0)]=(s'++x::y::r')++[z]:=by rw [h];simp
   obtain ⟨h1,h2⟩:=snoc_eq h'
   rcases eq_nil_or_snoc r' with rfl | ⟨r2,z2,rfl⟩
   ·have h3:s++[(b,i+1)]=(s'++[x])++[y]:=by rw [h1];simp
    obtain ⟨h4,h5⟩:=snoc_eq h3
    subst h5
    exact hI.way s' x (b,i) [] (by rw [h4];simp)
   ·have h3:s++[(b,i+1)]=(s'++x::y::r2)++[z2]:=by rw [h1];simp
    obtain ⟨h4,h5⟩:=snoc_eq h3
    exact hI.way s' x y (r2++[(b,i)]) (by rw [h4];simp)
 ·rcases hI.early l c r h with h0 | ⟨p,h3,h4⟩
  ·exact .inl h0
  ·refine .inr ⟨p,h3,?_⟩
   rw [hm]
   rcases h4 with h4 | h4
   ·exact .inl h4
   ·exact .inr (List.mem_append_left _ h4)
 ·rcases hI.zero with h | h
  ·exact .inl h
  ·simp at h
end
def cost (n:Nat) (f:Nat→Nat):Nat:=((List.range n).map f).sum
theorem cost_succ (n:Nat) (f:Nat→Nat):cost (n+1) f=cost n f+f n:=by
 unfold cost
 rw [List.range_succ,List.map_append,List.sum_append]
 simp
theorem cost_same (n:Nat) (f g:Nat→Nat) (h:∀b,b<n→f b=g b):cost n f=cost n g:=by
 induction n with
 | zero=>rfl
 | succ n ih=>rw [cost_succ,cost_succ,ih fun b hb=>h b (by omega),h n (by omega)]
theorem cost_set (n:Nat) (f g:Nat→Nat) (t:Nat) (ht:t<n) (h0:g t=0) (h:∀b,b≠t→g b=f b):cost n g+f t=cost n f:=by
 induction n with
 | zero=>omega
 | succ n ih =>
   rw [cost_succ, cost_succ]
   by_cases hn : t = n
   · subst hn
     rw [cost_same t g f fun b hb => h b (by omega), h0]
     omega
   · have := ih (by omega)
     rw [h n (fun e => hn e.symm)]
     omega
noncomputable def left (next:Nat→List Nat) (seen:List Bool) (b:Nat):Nat:=if seen[b]? = some true then 0 else 2+(next b).length
def onWay (next:Nat→List Nat) (stack:List (Nat×Nat)):Nat:=(stack.map fun x=>1+((next x.1).length - x.2)).sum
noncomputable def mu (n:Nat) (next:Nat→List Nat) (seen:List Bool) (stack:List (Nat×Nat)):Nat:=cost n (left next seen)+onWay next stack
section
variable {n:Nat} {next:Nat→List Nat} {seen:List Bool} {post:List Nat} {s:List (Nat×Nat)} {b i t:Nat}
theorem onWay_snoc (x:Nat×Nat):onWay next (s++[x])=onWay next s+(1+((next x.1).length - x.2)):=by
 unfold onWay
 rw [List.map_append,List.sum_append]
 simp
theorem mu_pop:mu n next seen s<mu n next seen (s++[(b,i)]):=by
 unfold mu
 rw [onWay_snoc]
 omega
theorem mu_skip (ht:(next b)[i]? = some t):mu n next seen (s++[(b,i+1)])<mu n next seen (s++[(b,i)]):=by
 have hlt:=(List.getElem?_eq_some_iff.1 ht).1
 unfold mu
 rw [onWay_snoc,onWay_snoc]
 show _+(_+(1+((next b).length - (i+1))))<_+(_+(1+((next b).length - i)))
 omega
theorem mu_push (hI:Go_ n next seen post (s++[(b,i)])) (ht:(next b)[i]? = some t) (hs:¬isSeen seen t):mu n next (seen.set t true) (s++[(b,i+1)]++[(t,0)])<mu n next seen (s++[(b,i)]):=by
 have hb:=hI.range (b,i) (by simp)
 have htn:t<n:=hI.low b hb.1 t (List.mem_of_getElem? ht)
 have hlt:=(List.getElem?_eq_some_iff.1 ht).1
 have hss:∀c,isSeen (seen.set t true) c↔c=t∨isSeen seen c:=fun c=>isSeen_set (by rw [hI.len];exact htn)
 have h1:left next (seen.set t true) t=0:=by
  unfold left
  exact if_pos ((hss t).2 (.inl rfl))
 have h2:∀c,c≠t→left next (seen.set t true) c=left next seen c:=fun c hc=>by
  have:=hss c
  unfold isSeen at this
  unfold left
  by_cases h:seen[c]? = some true
  ·rw [if_pos h,if_pos (this.2 (.inr h))]
  ·rw [if_neg h,if_neg (fun h'=>(this.1 h').elim hc h)]
 have h3:=cost_set n (left next seen) (left next (seen.set t true)) t htn h1 h2
 have h4:left next seen t=2+(next t).length:=by
  unfold left
  exact if_neg hs
 unfold mu
 rw [onWay_snoc,onWay_snoc,onWay_snoc]
 show cost n (left next (seen.set t true))+(_+(1+((next b).length - (i+1)))+(1+((next t).length - 0)))<_+(_+(1+((next b).length - i)))
 omega
end
theorem sub_le:∀(l l' : List Nat),l.Nodup→(∀x∈l,x∈l')→l.length≤l'.length
 | [],_,_,_=>Nat.zero_le _
 | a :: l, l', hd, h => by
   have ha := h a (.head _)
   have hd' := List.nodup_cons.1 hd
   have h1 := sub_le l (l'.erase a) hd'.2 fun x hx => by
     have hne : x ≠ a := fun e => by subst e; exact hd'.1 hx
     exact (List.mem_erase_of_ne hne).2 (h x (.tail _ hx))
   have h2 := List.length_erase_of_mem ha
   have h3 : 0 < l'.length := List.length_pos_of_mem ha
   simp only [List.length_cons]
   omega
theorem at_idx:∀(l:List Nat) (a:Nat),a∈l→l[l.idxOf a]? = some a
 | [],_,h=>by cases h
 | b :: l, a, h => by
   rw [List.idxOf_cons]
   by_cases hb : b = a
   · subst hb; simp
   · have hb' : (b == a) = false := by simpa using hb
     rw [hb']
     rcases List.mem_cons.1 h with rfl | h
     · exact absurd rfl hb
     · exact at_idx l a h
theorem idx_mid (l r:List Nat) (b:Nat) (h:b ∉ l):(l++b::r).idxOf b=l.length:=by
 rw [List.idxOf_append]
 rw [if_neg h]
 simp
theorem idx_left (l r:List Nat) (p:Nat) (h:p∈l):(l++r).idxOf p<l.length:=by
 rw [List.idxOf_append,if_pos h]
 exact List.idxOf_lt_length_of_mem h
section
variable {n:Nat} {next:Nat→List Nat} {seen:List Bool} {post:List Nat}
def Go_.gr (hI:Go_ n next seen post []):Gr where
 node b:=b∈post
 edge a b:=b∈next a
 place b:=post.reverse.idxOf b
 first:=by obtain ⟨p,h⟩:=hI.last rfl;rw [h];simp
 place0:=by obtain ⟨p,h⟩:=hI.last rfl;rw [h];simp
 inj a b ha hb h:=by
  have h1:=at_idx _ _ (List.mem_reverse.2 ha)
  have h2:=at_idx _ _ (List.mem_reverse.2 hb)
  rw [h,h2] at h1
  exact (Option.some.inj h1).symm
 to a b ha he:=by
  have:=(hI.iff b).1 (hI.closed a ha b he)
  simpa using this
 early b hb h0:=by
  obtain ⟨l,r,h⟩:=List.append_of_mem hb
  rcases hI.early l b r h with h' | ⟨p,h1,h2⟩
  ·exact absurd h' h0
  ·have h3:p∈r:=by simpa using h2
   refine ⟨p,by rw [h];simp [h3],h1,?_⟩
   have hnd:=hI.nodup
   simp only [List.map_nil,List.append_nil] at hnd
   rw [h] at hnd
   have hbr:b ∉ r:=fun hbr=>by
    have:=(List.nodup_append.1 hnd).2.1
    exact (List.nodup_cons.1 this).1 hbr
   rw [h,List.reverse_append,List.reverse_cons,List.append_assoc]
   have e:([b]++l.reverse:List Nat)=b::l.reverse:=rfl
   rw [e,idx_mid _ _ _ (fun hx=>hbr (List.mem_reverse.1 hx))]
   exact idx_left _ _ _ (List.mem_reverse.2 h3)
theorem Go_.all (hI:Go_ n next seen post []) (hall:∀b,b<n→b∈post):post.length=n:=by
 have hnd:=hI.nodup
 simp only [List.map_nil,List.append_nil] at hnd
 have h1:=nodup_le n post hnd hI.pre
 have h2:=sub_le (List.range n) post List.nodup_range fun x hx=>hall x (List.mem_range.1 hx)
 rw [List.length_range] at h2
 omega
end
end Go.Proofs.YtiepamfpilhcjaaDoor.Dm
namespace Go.Proofs.YtiepamfpilhcjaaDoor.Un
open Go.Proofs.YtiepamfpilhcjaaDoor.Dm
structure Vl where
 op:Nat
 a:Nat
 b:Nat
 n:Int
 args:List Nat
 state:Nat
structure Bk where
 vals:List Nat
 fin:Nat
 cond:Nat
 next:List Nat
 preds:List Nat
 state:Nat
structure Fm where
 func:Int
 pc:Int
 locals:List Nat
 stack:List Nat
structure U where
 func:Int
 pc:Int
 vals:List Vl
 blocks:List Bk
 states:List (List Fm)
def two (op:Nat):Bool:=(3≤op&&op≤7) || (10≤op&&op≤14) || op == 18 || op == 19 || op == 20
def oneP (op:Nat):Bool:=op == 8 || op == 9 || op == 15 || op == 16 || op == 17 || op == 22
def uses (v:Vl):List Nat:=
 if v.op=21 then v.args else if v.op=20 then v.a::v.b::v.args.take 1 else if two v.op=true then [v.a,v.b] else if oneP v.op=true then [v.a] else []
def gives (op:Nat):Bool:=op<19 || op == 21
def leaves (op:Nat):Bool:=op == 22 || op == 23
def isHead (op:Nat):Bool:=op == 1 || op == 21
def frames (s:List Fm):List Nat:=s.flatMap fun f=>f.locals++f.stack
def next (u:U) (b:Nat):List Nat:=match u.blocks[b]? with
 | some B=>B.next
 | none=>[]
def aheadTo (l:List Bk) (i b:Nat):List Nat:=match l with
 | []=>[]
 | B::l=>(B.next.filter (·= b)).map (fun _=>i)++aheadTo l (i+1) b
def ahead (u:U) (b:Nat):List Nat:=aheadTo u.blocks 0 b
inductive Pt (nx:Nat→List Nat):Nat→List Nat→Prop
 | nil:Pt nx 0 [0]
 | step {p b:Nat} {l:List Nat} (h:Pt nx p l) (e:b∈nx p):Pt nx b (b::l)
def Domi (nx:Nat→List Nat) (x b:Nat):Prop:=∀l,Pt nx b l→x∈l
def At (u:U) (v b k:Nat):Prop:=∃B,u.blocks[b]? = some B∧B.vals[k]? = some v
def opOf (u:U) (v op:Nat):Prop:=∃x,u.vals[v]? = some x∧x.op=op
def Gives (u:U) (v:Nat):Prop:=∃x,u.vals[v]? = some x∧gives x.op=true
def Sees (u:U) (v b k:Nat):Prop:=∃c j,At u v c j∧(c=b∧j<k∨c≠b∧Domi (next u) c b)
def SeesEnd (u:U) (v b:Nat):Prop:=∃c j,At u v c j∧Domi (next u) c b
structure Good (u:U):Prop where
 nv:u.vals.length≤3000
 nb0:1≤u.blocks.length
 nb:u.blocks.length≤300
 ns:u.states.length≤1000
 st:∀(s:Nat) (fs:List Fm),u.states[s]? = some fs→1≤fs.length∧fs.length≤30∧∀f∈fs,f.locals.length≤40∧f.stack.length≤60∧(∀v∈f.locals,Gives u v)∧∀v∈f.stack,Gives u v
 at1:∀(v:Nat),v<u.vals.length→∃b k,At u v b k
 at2:∀(v:Nat) (b:Nat) (k:Nat) (b' : Nat) (k' : Nat),At u v b k→At u v b' k'→b=b'∧k=k'
 atlt:∀(v:Nat) (b:Nat) (k:Nat),At u v b k→v<u.vals.length
 heads:∀(v:Nat) (w:Nat) (b:Nat) (k:Nat) (x:Vl) (y:Vl),At u v b (k+1)→At u w b k→u.vals[v]? = some x→u.vals[w]? = some y→isHead x.op=true→isHead y.op=true
 par:∀(v:Nat) (b:Nat) (k:Nat) (x:Vl),At u v b k→u.vals[v]? = some x→x.op=1→b=0
 phi:∀(v:Nat) (b:Nat) (k:Nat) (x:Vl) (B:Bk),At u v b k→u.vals[v]? = some x→x.op=21→u.blocks[b]? = some B→b≠0∧x.args.length=B.preds.length
 op:∀(v:Nat) (x:Vl),u.vals[v]? = some x→1≤x.op∧x.op≤23
 use:∀(v:Nat) (x:Vl),u.vals[v]? = some x→∀w∈uses x,Gives u w
 leave:∀(v:Nat) (x:Vl),u.vals[v]? = some x→leaves x.op=true→x.state<u.states.length
 putAt:∀(v:Nat) (x:Vl),u.vals[v]? = some x→x.op=20→x.args.length=1
 param:∀(v:Nat) (x:Vl),u.vals[v]? = some x→x.op=1→0≤x.n∧x.n<40∧∀(w:Nat) (y:Vl),u.vals[w]? = some y→y.op=1→y.n=x.n→w=v
 fin:∀(b:Nat) (B:Bk),u.blocks[b]? = some B→(B.fin=1∧B.next.length=1)∨(B.fin=2∧B.next.length=2∧Gives u B.cond)∨(B.fin=3∧B.next=[]∧B.state<u.states.length)
 nx:∀(b:Nat),∀t∈next u b,t<u.blocks.length
 preds:∀(b:Nat) (B:Bk),u.blocks[b]? = some B→B.preds=ahead u b
 preds0:ahead u 0=[]
 crit:∀(b:Nat) (B:Bk),u.blocks[b]? = some B→B.fin=2→∀t∈B.next,(ahead u t).length=1
 reach:∀(b:Nat),b<u.blocks.length→∃l,Pt (next u) b l
 seesV:∀(v:Nat) (b:Nat) (k:Nat) (x:Vl),At u v b k→u.vals[v]? = some x→x.op≠21→∀w∈uses x,Sees u w b k
 seesP:∀(v:Nat) (b:Nat) (k:Nat) (x:Vl) (B:Bk),At u v b k→u.vals[v]? = some x→x.op=21→u.blocks[b]? = some B→∀(j w p:Nat),x.args[j]? = some w→B.preds[j]? = some p→SeesEnd u w p
 seesS:∀(v:Nat) (b:Nat) (k:Nat) (x:Vl) (fs:List Fm),At u v b k→u.vals[v]? = some x→leaves x.op=true→u.states[x.state]? = some fs→∀w∈frames fs,Sees u w b k
 seesC:∀(b:Nat) (B:Bk),u.blocks[b]? = some B→B.fin=2→SeesEnd u B.cond b
 seesO:∀(b:Nat) (B:Bk) (fs:List Fm),u.blocks[b]? = some B→B.fin=3→u.states[B.state]? = some fs→∀w∈frames fs,SeesEnd u w b
theorem domi_of_tree {nx:Nat→List Nat} {D:Nat→Nat} (hc:∀p b,b∈nx p→b≠0→Anc D (D b) p) {x:Nat} : ∀{b l},Pt nx b l→Anc D x b→x∈l
 | _, _, .nil, h => by
   cases h with
   | refl => exact .head _
   | up h0 _ => exact absurd rfl h0
 | _, _, .step (p := p) h e, hx => by
   cases hx with
   | refl => exact .head _
   | up h0 hx => exact .tail _ (domi_of_tree hc h (hx.trans (hc _ _ e h0)))
theorem Domi.self (nx:Nat→List Nat) (b:Nat):Domi nx b b:=fun l h=>by cases h <;> exact .head _
theorem pa_pt {G:Gr} {nx:Nat→List Nat} (he:∀a b,G.edge a b↔b∈nx a):∀{b l r},Pa G b l r→Pt nx b l
 | _,_,_, .nil=> .nil
 | _,_,_, .fwd h e _=> .step (pa_pt he h) ((he _ _).1 e)
 | _,_,_, .bwd h e _=> .step (pa_pt he h) ((he _ _).1 e)
theorem pt_pa {G:Gr} {nx:Nat→List Nat} (he:∀a b,G.edge a b↔b∈nx a):∀{b l},Pt nx b l→∃r,Pa G b l r
 | _,_, .nil=>⟨0, .nil⟩
 | _, _, .step h e => by
   obtain ⟨r, hp⟩ := pt_pa he h
   obtain ⟨r', _, _, hs⟩ := hp.step ((he _ _).2 e)
   exact ⟨r', hs⟩
theorem domi_iff {G:Gr} {nx:Nat→List Nat} (he:∀a b,G.edge a b↔b∈nx a) {x b:Nat} : Domi nx x b↔Dom G x b:=
 ⟨fun h l r hp=>h l (pa_pt he hp),fun h l hp=>let ⟨r,hr⟩:=pt_pa he hp;h l r hr⟩
theorem mem_aheadTo {b p:Nat} : ∀{l:List Bk} {i:Nat},p∈aheadTo l i b↔∃k B,l[k]? = some B∧b∈B.next∧p=i+k
 | [],i=>by simp [aheadTo]
 | B :: l, i => by
   simp only [aheadTo, List.mem_append, List.mem_map, List.mem_filter, decide_eq_true_eq, mem_aheadTo (l := l)]
   constructor
   · rintro (⟨t, ⟨h1, h2⟩, h3⟩ | ⟨k, B', h1, h2, h3⟩)
     · subst h2
       exact ⟨0, B, rfl, h1, h3.symm⟩
     · exact ⟨k + 1, B', h1, h2, by omega⟩
   · rintro ⟨k, B', h1, h2, h3⟩
     cases k with
     | zero =>
       obtain rfl : B = B' := by simpa using h1
       exact .inl ⟨b, ⟨h2, rfl⟩, h3.symm⟩
     | succ k => exact .inr ⟨k, B', by simpa using h1, h2, by omega⟩
theorem mem_ahead {u:U} {b p:Nat} : p∈ahead u b↔b∈next u p:=by
 unfold ahead next
 rw [mem_aheadTo]
 constructor
 ·rintro ⟨k,B,h1,h2,h3⟩
  have:p=k:=by omega
  subst this
  rw [h1];exact h2
 ·intro h
  split at h
  ·rename_i B hB
   exact ⟨p,B,hB,h,by omega⟩
  ·cases h
theorem aheadTo_append {b:Nat} : ∀(l m:List Bk) (i:Nat),aheadTo (l++m) i b=aheadTo l i b++aheadTo m (i+l.length) b
 | [],m,i=>by simp [aheadTo]
 | B :: l, m, i => by
   simp only [List.cons_append, aheadTo, aheadTo_append l m (i + 1), List.length_cons, List.append_assoc]
   rw [show i + 1 + l.length = i + (l.length + 1) by omega]
end Go.Proofs.YtiepamfpilhcjaaDoor.Un
namespace Go.Proofs.YtiepamfpilhcjaaDoor.Un
def pickN (n:Int) (m:Nat):Nat:=(if n.tmod m<0 then n.tmod m+m else n.tmod m).toNat
theorem pickN_lt (n:Int) {m:Nat} (hm:0<m):pickN n m<m:=by
 have h1:=Int.tmod_lt_of_pos n (b:=(m:Int)) (by omega)
 have h2 : -(m:Int)<n.tmod m:=by
  have:=Int.tmod_lt_of_pos (-n) (b:=(m:Int)) (by omega)
  rw [Int.neg_tmod] at this
  omega
 unfold pickN
 split <;> omega
structure Ds where
 vals:List Vl
 cur:List Nat
 known:List Nat
 states:List (List Fm)
 pos:Nat
def draw (ops:List Int) (pos m:Nat):Nat×Nat:=match ops[pos]? with
 | none=>(0,pos)
 | some n=>(pickN n m,pos+1)
theorem draw_lt (ops:List Int) (pos:Nat) {m:Nat} (hm:0<m):(draw ops pos m).1<m:=by
 unfold draw
 split
 ·exact hm
 ·exact pickN_lt _ hm
def vl (op a b:Nat) (n:Int) (args:List Nat) (state:Nat):Vl:=⟨op,a,b,n,args,state⟩
def put (s:Ds) (v:Vl):Ds:={ s with vals:=s.vals++[v],cur:=s.cur++[s.vals.length] }
def putK (s:Ds) (v:Vl):Ds:={ s with vals:=s.vals++[v],cur:=s.cur++[s.vals.length],known:=s.known++[s.vals.length] }
def one_ (ops:List Int) (s:Ds):Nat×Ds:=(s.known.getD (draw ops s.pos s.known.length).1 0,{ s with pos:=(draw ops s.pos s.known.length).2 })
def num (ops:List Int) (s:Ds) (m:Nat):Nat×Ds:=((draw ops s.pos m).1,{ s with pos:=(draw ops s.pos m).2 })
def some_ (ops:List Int):Nat→Ds→List Nat→List Nat×Ds
 | 0,s,l=>(l,s)
 | i+1,s,l=>some_ ops i (one_ ops s).2 (l++[(one_ ops s).1])
def stateM (ops:List Int) (s:Ds):Nat×Ds:=
 let r:=num ops s 4
 let q:=some_ ops r.1 r.2 []
 (s.states.length,{ q.2 with states:=s.states++[[⟨1,(s.states.length:Nat),q.1,[s.known.getLastD 0]⟩]] })
def kindM (ops:List Int) (s:Ds) (k a b:Nat):Ds:=
 if k<12 then putK s (vl (3+k) a b 0 [] 0)
 else if k=12 then let r:=num ops s 1048576;putK r.2 (vl 2 0 0 ((r.1:Int) - 9) [] 0)
 else if k=13 then let r:=num ops s 5;putK r.2 (vl 17 a 0 (r.1:Nat) [] 0)
 else if k=14 then putK s (vl 18 a b 0 [] 0)
 else if k=15 then let r:=num ops s 5;put r.2 (vl 19 a b (r.1:Nat) [] 0)
 else if k=16 then let r:=one_ ops s;put r.2 (vl 20 a b 0 [r.1] 0)
 else if k=17 then let r:=stateM ops s;put r.2 (vl 22 a 0 0 [] r.1)
 else if k=18 then let r:=stateM ops s;put r.2 (vl 23 0 0 0 [] r.1)
 else let r:=num ops s 2;putK r.2 (vl (15+r.1) a 0 0 [] 0)
def rowStep (ops:List Int) (s:Ds):Ds:=
 let r:=one_ ops s
 let q:=one_ ops r.2
 let k:=num ops q.2 20
 kindM ops k.2 k.1 r.1 q.1
def rows (ops:List Int):Nat→Ds→Ds
 | 0,s=>s
 | i+1,s=>if s.vals.length<200 then rows ops i (rowStep ops s) else s
def row (ops:List Int) (s:Ds):Ds:=let r:=num ops s 6;rows ops (1+r.1) r.2
structure Dt where
 s:Ds
 blocks:List Bk
 preds:List Nat
def end_ (t:Dt) (fin cond:Nat) (nx:List Nat) (state:Nat) (preds:List Nat):Dt:=
 { s:={ t.s with cur:=[] },blocks:=t.blocks++[⟨t.s.cur,fin,cond,nx,t.preds,state⟩],preds:=preds }
def cut (n:Nat) (s:Ds):Ds:={ s with known:=s.known.take n }
def setArgs (s:Ds) (v:Nat) (args:List Nat):Ds:={ s with vals:=s.vals.modify v fun x=>{ x with args:=args } }
def fork (ops:List Int) (t:Dt):Dt:=
 let c:=one_ ops t.s
 let here:=t.s.known.length
 let a:=t.blocks.length
 let t1:=end_ { t with s:=c.2 } 2 c.1 [a+1,a+2] 0 [a]
 let s1:=row ops t1.s
 let x:=s1.known.getLastD 0
 let t2:=end_ { t1 with s:=cut here s1 } 1 0 [a+3] 0 [a]
 let s2:=row ops t2.s
 let y:=s2.known.getLastD 0
 let t3:=end_ { t2 with s:=cut here s2 } 1 0 [a+3] 0 [a+1,a+2]
 { t3 with s:=row ops (putK t3.s (vl 21 0 0 0 [x,y] 0)) }
def loop (ops:List Int) (t:Dt):Dt:=
 let f:=one_ ops t.s
 let a:=t.blocks.length
 let t1:=end_ { t with s:=f.2 } 1 0 [a+1] 0 [a,a+2]
 let p:=t1.s.vals.length
 let s1:=put t1.s (vl 21 0 0 0 [f.1,0] 0)
 let g:=one_ ops s1
 let s2:=put g.2 (vl 21 0 0 0 [g.1,p] 0)
 let s3:={ s2 with known:=s2.known++[p,p+1] }
 let st:=stateM ops s3
 let s4:=put st.2 (vl 23 0 0 0 [] st.1)
 let one:=s4.vals.length
 let s5:=put s4 (vl 2 0 0 1 [] 0)
 let s6:=putK s5 (vl 4 p one 0 [] 0)
 let t2:=end_ { t1 with s:=s6 } 2 p [a+2,a+3] 0 [a+1]
 let here:=s6.known.length
 let s7:=row ops t2.s
 let s8:=setArgs s7 p [f.1,one+1]
 let d:=num ops s8 3
 let s9:=if d.1=0 then setArgs d.2 p [f.1,s7.known.getLastD 0] else d.2
 let s10:=setArgs s9 (p+1) [g.1,s7.known.getLastD 0]
 let t3:=end_ { t2 with s:=cut here s10 } 1 0 [a+1] 0 [a+1]
 { t3 with s:=row ops t3.s }
def exit_ (ops:List Int) (t:Dt):Dt:=
 let c:=one_ ops t.s
 let here:=t.s.known.length
 let a:=t.blocks.length
 let t1:=end_ { t with s:=c.2 } 2 c.1 [a+1,a+2] 0 [a]
 let s1:=row ops t1.s
 let st:=stateM ops s1
 let t2:=end_ { t1 with s:=cut here st.2 } 3 0 [] st.1 [a]
 { t2 with s:=row ops t2.s }
def shapeM (ops:List Int) (k:Nat) (t:Dt):Dt:=if k=0 then fork ops t else if k=1 then loop ops t else exit_ ops t
def shapes (ops:List Int):List Int→Dt→Dt
 | [],t=>t
 | k::l,t=>if t.s.vals.length<160 then shapes ops l (shapeM ops (pickN k 3) t) else t
def params:Nat→Nat→Ds→Ds
 | 0,_,s=>s
 | n+1,i,s=>params n (i+1) (putK s (vl 1 0 0 (i:Nat) [] 0))
def unitM (ops shape:List Int) (n:Int):U:=
 let s:=row ops (putK (params (pickN n 5) 0 ⟨[],[],[],[],0⟩) (vl 2 0 0 5 [] 0))
 let t:=shapes ops (shape.take 6) ⟨s,[],[]⟩
 let st:=stateM ops t.s
 let t1:=end_ { t with s:=st.2 } 3 0 [] st.1 []
 ⟨1,2,t1.s.vals,t1.blocks,t1.s.states⟩
end Go.Proofs.YtiepamfpilhcjaaDoor.Un
