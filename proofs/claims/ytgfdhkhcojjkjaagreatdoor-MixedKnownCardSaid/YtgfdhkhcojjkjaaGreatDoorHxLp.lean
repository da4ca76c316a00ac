/- A long loop, run in stages: what is left of a call at the head of its loop, shown by runs of so many rounds. -/
import Derived.Test.YtgfdhkhcojjkjaaGreatDoorHx9
namespace Go.Proofs.YtgfdhkhcojjkjaaGreatDoor.Hx

/-! ### tables of values, alike -/
def eqOV : Option V → Option V → Bool
  | none, none => true
  | some a, some b => V.beq a b
  | _, _ => false
theorem eqOV_eq : ∀ {a b : Option V}, eqOV a b = true → a = b
  | none, none, _ => rfl
  | some a, some b, h => by rw [V.eq_of_beq a b h]
  | none, some _, h => by cases h
  | some _, none, h => by cases h
def eqTo : To V → To V → Bool
  | .leaf, .leaf => true
  | .node l v r, .node l' v' r' => eqTo l l' && (eqOV v v' && eqTo r r')
  | _, _ => false
theorem eqTo_eq : ∀ {a b : To V}, eqTo a b = true → a = b
  | .leaf, .leaf, _ => rfl
  | .node l v r, .node l' v' r', h => by
    simp only [eqTo, Bool.and_eq_true] at h
    rw [eqTo_eq h.1, eqOV_eq h.2.1, eqTo_eq h.2.2]
  | .leaf, .node .., h => by cases h
  | .node .., .leaf, h => by cases h
def eqQ : (n : Nat) → QT V n → QT V n → Bool
  | 0, x, y => eqTo x y
  | n + 1, x, y => eqQ n (Q4.a (α := QT V n) x) (Q4.a (α := QT V n) y) && (eqQ n (Q4.b (α := QT V n) x) (Q4.b (α := QT V n) y) && (eqQ n (Q4.c (α := QT V n) x) (Q4.c (α := QT V n) y) && eqQ n (Q4.d (α := QT V n) x) (Q4.d (α := QT V n) y)))
theorem eqQ_eq : ∀ (n : Nat) {x y : QT V n}, eqQ n x y = true → x = y
  | 0, _, _, h => eqTo_eq h
  | n + 1, x, y, h => by
    obtain ⟨a, b, c, d⟩ := (x : Q4 (QT V n))
    obtain ⟨a', b', c', d'⟩ := (y : Q4 (QT V n))
    simp only [eqQ, Bool.and_eq_true] at h
    obtain ⟨h1, h2, h3, h4⟩ := h
    have e1 : a = a' := eqQ_eq n h1
    have e2 : b = b' := eqQ_eq n h2
    have e3 : c = c' := eqQ_eq n h3
    have e4 : d = d' := eqQ_eq n h4
    rw [e1, e2, e3, e4]

/-! ### a loop's head -/
structure LSt where
  t : List (Nat × V)
  n : Nat
  h : List (Nat × O)
noncomputable def LSt.tr (s : LSt) : Tr V := s.t.foldr (fun x t => Tr.set t x.1 x.2) Tr.leaf
noncomputable def LSt.tm (s : LSt) : Tm := .tree s.tr []
noncomputable def LSt.hp (s : LSt) : Hp := hpOf s.n s.h
noncomputable def LSt.met (s : LSt) (t : Tm) (h : Hp) : Bool := match t with
  | .tree x [] => eqQ 4 x s.tr && (Nat.beq s.n h.next && lies h s.h)
  | _ => false
theorem LSt.met_eq {s : LSt} {t : Tm} {h : Hp} (hm : s.met t h = true) : t = s.tm ∧ s.hp.Le h := by
  unfold LSt.met at hm
  split at hm
  · rename_i x
    simp only [Bool.and_eq_true] at hm
    obtain ⟨h1, h2, h3⟩ := hm
    exact ⟨by unfold LSt.tm; rw [eqQ_eq 4 h1], lies_le (Nat.eq_of_beq_eq_true h2) h3⟩
  · cases hm
/-- Code that has one loop in its midst: what is ahead of it, the loop, what follows. -/
def cutL : Code → Option (Code × Nat × Code × Code)
  | .seq (.block id (.loop c)) post => some (.skip, id, c, post)
  | .seq a b => match cutL b with
    | some r => some (.seq a r.1, r.2)
    | none => none
  | _ => none
theorem seqK_assoc (x : Option (X × Tm × Hp)) (f g : Tm → Hp → Option (X × Tm × Hp)) : seqK (seqK x f) g = seqK x fun t h => seqK (f t h) g := by
  cases x with
  | none => rfl
  | some r =>
    obtain ⟨e, t, h⟩ := r
    cases e <;> rfl
theorem cutL_eq {n : Nat} {call : Call} {m : Nat} : ∀ {c0 pre c post : Code} {id : Nat}, cutL c0 = some (pre, id, c, post) → ∀ t h, (codeC n c0).f call m t h = seqK ((codeC n pre).f call m t h) fun t h =>
    seqK (blockK id (loopN (fun t h => (codeC n c).f call m t h) m t h)) fun t h => (codeC n post).f call m t h := by
  intro c0
  induction c0 with
  | seq a b _ ih =>
    intro pre c post id hc t h
    unfold cutL at hc
    split at hc
    · rename_i id' c' post' he
      cases hc
      cases he
      rfl
    · rename_i a' b' _ he
      cases he
      split at hc
      · rename_i r hr
        obtain ⟨p, i, l, q⟩ := r
        cases hc
        have := ih hr
        show seqK ((codeC n a).f call m t h) (fun t h => (codeC n b).f call m t h) = seqK (seqK ((codeC n a).f call m t h) fun t h => (codeC n p).f call m t h) _
        rw [seqK_assoc]
        congr 1
        funext t h
        exact this t h
      · cases hc
    · rename_i he
      exact absurd rfl (he a b)
  | _ => intro pre c post id hc; cases hc

section
variable {C : Cfg} {fn : Func} {c post : Code} {id : Nat}
/-- What is left of a call at the loop's head. -/
noncomputable def restC (fn : Func) (id : Nat) (c post : Code) (call : Call) (M k : Nat) (t : Tm) (h : Hp) : Option (V × Hp) :=
  oB (seqK (blockK id (loopN (fun t h => (codeC fn.ntmps c).f call M t h) k t h)) fun t h => (codeC fn.ntmps post).f call M t h) (dendC fn)
def RestOk (C : Cfg) (fn : Func) (id : Nat) (c post : Code) (s : LSt) (v : V) (n1 : Nat) (h1 : List (Nat × O)) : Prop :=
  ∃ m0 d0, ∀ M k d, m0 ≤ M → m0 ≤ k → d0 ≤ d → ∀ H, s.hp.Le H → ∃ H', restC fn id c post (callN C M d) M k s.tm H = some (v, H') ∧ (hpOf n1 h1).Le H'
theorem loop_h {b b' : Tm → Hp → Option (X × Tm × Hp)} (hb : ∀ t h r, b t h = some r → ∀ H, h.Le H → ∃ H', b' t H = some (r.1, r.2.1, H') ∧ r.2.2.Le H') : ∀ (k : Nat) {k' : Nat}, k ≤ k' → ∀ {t : Tm} {h : Hp} {r : X × Tm × Hp}, loopN b k t h = some r → ∀ H, h.Le H → ∃ H', loopN b' k' t H = some (r.1, r.2.1, H') ∧ r.2.2.Le H'
  | 0, _, _, _, _, _, hv, _, _ => by cases hv
  | k + 1, 0, hk, _, _, _, _, _, _ => by omega
  | k + 1, k' + 1, hk, t, h, r, hv, H, le => by
    have hv' : seqK (b t h) (loopN b k) = some r := hv
    show ∃ H', seqK (b' t H) (loopN b' k') = some (r.1, r.2.1, H') ∧ r.2.2.Le H'
    rcases seqK_eq hv' with ⟨t1, h1, e1, e2⟩ | ⟨e1, e2⟩
    · obtain ⟨H1, g1, g2⟩ := hb _ _ _ e1 H le
      rw [g1]
      exact loop_h hb k (by omega) e2 H1 g2
    · obtain ⟨H1, g1, g2⟩ := hb _ _ _ e1 H le
      rw [g1]
      obtain ⟨x', t', h'⟩ := r
      cases x' with
      | normal => exact absurd rfl e2
      | exit id => exact ⟨H1, rfl, g2⟩
      | ret => exact ⟨H1, rfl, g2⟩
theorem block_h {x y : Option (X × Tm × Hp)} (hx : ∀ r, x = some r → ∃ H', y = some (r.1, r.2.1, H') ∧ r.2.2.Le H') {r : X × Tm × Hp} (hv : blockK id x = some r) : ∃ H', blockK id y = some (r.1, r.2.1, H') ∧ r.2.2.Le H' := by
  cases hr : x with
  | none => rw [hr] at hv; cases hv
  | some r' =>
    rw [hr] at hv
    obtain ⟨H', g1, g2⟩ := hx r' hr
    rw [g1]
    obtain ⟨e, t', h'⟩ := r'
    cases e with
    | normal => cases hv; exact ⟨H', rfl, g2⟩
    | ret => cases hv; exact ⟨H', rfl, g2⟩
    | exit id' =>
      unfold blockK at hv ⊢
      simp only at hv ⊢
      cases hb : Nat.beq id' id with
      | true => rw [hb] at hv; cases hv; exact ⟨H', rfl, g2⟩
      | false => rw [hb] at hv; cases hv; exact ⟨H', rfl, g2⟩
theorem rest_h {call call' : Call} (hc : call.LeH call') {M M' k k' : Nat} (hM : M ≤ M') (hk : k ≤ k') {t : Tm} {h : Hp} {r : V × Hp} (hv : restC fn id c post call M k t h = some r) {H : Hp} (le : h.Le H) : ∃ H', restC fn id c post call' M' k' t H = some (r.1, H') ∧ r.2.Le H' := by
  unfold restC at hv ⊢
  rw [oB_eq] at hv
  obtain ⟨⟨x, t1, h1⟩, e1, e2⟩ := hv
  have key : ∃ H1, seqK (blockK id (loopN (fun t h => (codeC fn.ntmps c).f call' M' t h) k' t H)) (fun t h => (codeC fn.ntmps post).f call' M' t h) = some (x, t1, H1) ∧ h1.Le H1 := by
    have hl : ∀ r, loopN (fun t h => (codeC fn.ntmps c).f call M t h) k t h = some r → ∃ H', loopN (fun t h => (codeC fn.ntmps c).f call' M' t h) k' t H = some (r.1, r.2.1, H') ∧ r.2.2.Le H' := fun r hr =>
      loop_h (b := fun t h => (codeC fn.ntmps c).f call M t h) (b' := fun t h => (codeC fn.ntmps c).f call' M' t h) (fun t h r hr H le => codeC_h hc hM c le hr) k hk hr H le
    rcases seqK_eq e1 with ⟨t2, h2, g1, g2⟩ | ⟨g1, g2⟩
    · obtain ⟨H2, q1, q2⟩ := block_h hl g1
      rw [q1]
      exact codeC_h hc hM post q2 g2
    · obtain ⟨H2, q1, q2⟩ := block_h hl g1
      rw [q1]
      cases x with
      | normal => exact absurd rfl g2
      | exit id => exact ⟨H2, rfl, q2⟩
      | ret => exact ⟨H2, rfl, q2⟩
  obtain ⟨H1, q1, q2⟩ := key
  obtain ⟨H2, q3, q4⟩ := dendC_h q2 e2
  exact ⟨H2, by rw [q1]; exact q3, q4⟩
theorem LeH_mono {C : Cfg} {a : Call} {m m' d d' : Nat} (h : a.LeH (callN C m d)) (hm : m ≤ m') (hd : d ≤ d') : a.LeH (callN C m' d') := fun f x hp r hv H le =>
  let ⟨H', g1, g2⟩ := h f x hp r hv H le
  ⟨H', callN_mono hm hd _ _ _ _ g1, g2⟩
/-- The end, by a run. -/
theorem rest_last (hK : HK C) {pl : Nat → Nat → Option Plan} (hok : PlansOk pl) {l : List Stage} (hl : ∀ s ∈ l, s.Ok C) {f m d : Nat} {c0 : Code} (_hf : P0.funcs[f]? = some fn) (_hb : fn.body = some c0) {s : LSt} {v : V} {n1 : Nat} {h1 : List (Nat × O)}
    (hr : regsOk (pl f) (.seq (.block id (.loop c)) post) = true)
    (hv : (match oB ((codeP (pl f) fn.ntmps (.seq (.block id (.loop c)) post)).f (callS C pl l m d) m s.tm s.hp) (dendC fn) with
      | some (v', h') => V.beq v' v && (Nat.beq n1 h'.next && lies h' h1)
      | none => false) = true) : RestOk C fn id c post s v n1 h1 := by
  obtain ⟨m0, d0, hS⟩ := callS_h hK hok hl m
  split at hv
  · rename_i v' h' he
    simp only [Bool.and_eq_true] at hv
    obtain ⟨e1, e2, e3⟩ := hv
    obtain rfl := V.eq_of_beq _ _ e1
    rw [oB_eq] at he
    obtain ⟨r, g1, g2⟩ := he
    have g3 := codeP_le _ hr g1
    have g4 : restC fn id c post (callS C pl l m d) m m s.tm s.hp = some (v', h') := by
      unfold restC
      rw [oB_eq]
      exact ⟨r, g3, g2⟩
    refine ⟨max m m0, d0 + d, fun M k D hM hk hD H le => ?_⟩
    obtain ⟨H', q1, q2⟩ := rest_h (LeH_mono (hS d) hM hD) (show m ≤ M by omega) (show m ≤ k by omega) g4 le
    exact ⟨H', q1, (lies_le (Nat.eq_of_beq_eq_true e2) e3).trans q2⟩
  · cases hv
noncomputable def iterN (b : Tm → Hp → Option (X × Tm × Hp)) (j : Nat) : Tm → Hp → Option (Tm × Hp) :=
  Nat.rec (motive := fun _ => Tm → Hp → Option (Tm × Hp)) (fun t h => some (t, h)) (fun _ ih t h => match b t h with
    | some (.normal, t, h) => ih t h
    | _ => none) j
theorem iter_loop {b b' : Tm → Hp → Option (X × Tm × Hp)} (hb : ∀ t h r, b t h = some r → ∀ H, h.Le H → ∃ H', b' t H = some (r.1, r.2.1, H') ∧ r.2.2.Le H') (k : Nat) : ∀ (j : Nat) {t t' : Tm} {h h' : Hp}, iterN b j t h = some (t', h') → ∀ H, h.Le H → ∃ H', loopN b' (k + j) t H = loopN b' k t' H' ∧ h'.Le H'
  | 0, t, t', h, h', hv, H, le => by
    have hv : some (t, h) = some (t', h') := hv
    cases hv
    exact ⟨H, rfl, le⟩
  | j + 1, t, t', h, h', hv, H, le => by
    have hv' : (match b t h with
      | some (.normal, t, h) => iterN b j t h
      | _ => none) = some (t', h') := hv
    split at hv'
    · rename_i t1 h1 e1
      obtain ⟨H1, g1, g2⟩ := hb _ _ _ e1 H le
      obtain ⟨H2, q1, q2⟩ := iter_loop hb k j hv' H1 g2
      refine ⟨H2, ?_, q2⟩
      rw [← q1]
      show seqK (b' t H) (loopN b' (k + j)) = _
      rw [g1]
      rfl
    · cases hv'
/-- So many rounds, by a run. -/
theorem rest_iter (hK : HK C) {pl : Nat → Nat → Option Plan} (hok : PlansOk pl) {l : List Stage} (hl : ∀ s ∈ l, s.Ok C) {f m d j : Nat} {s s' : LSt} {v : V} {n1 : Nat} {h1 : List (Nat × O)}
    (hr : regsOk (pl f) c = true)
    (hv : (match iterN (fun t h => (codeP (pl f) fn.ntmps c).f (callS C pl l m d) m t h) j s.tm s.hp with
      | some (t', h') => s'.met t' h'
      | none => false) = true) (hs : RestOk C fn id c post s' v n1 h1) : RestOk C fn id c post s v n1 h1 := by
  obtain ⟨m0, d0, hS⟩ := callS_h hK hok hl m
  obtain ⟨m1, d1, hR⟩ := hs
  split at hv
  · rename_i t' h' he
    obtain ⟨e1, e2⟩ := LSt.met_eq hv
    subst e1
    refine ⟨max (max m m0) m1 + j, max (d0 + d) d1, fun M k D hM hk hD H le => ?_⟩
    obtain ⟨H', q1, q2⟩ := iter_loop (b' := fun t h => (codeC fn.ntmps c).f (callN C M D) M t h) (fun t h r hr' H le => codeC_h (LeH_mono (hS d) (show max m m0 ≤ M by omega) (show d0 + d ≤ D by omega)) (show m ≤ M by omega) c le (codeP_le _ hr hr')) (k - j) j he H le
    obtain ⟨H2, q3, q4⟩ := hR M (k - j) D (by omega) (by omega) (by omega) H' (e2.trans q2)
    refine ⟨H2, ?_, q4⟩
    unfold restC at q3 ⊢
    rw [show k = k - j + j by omega, q1]
    exact q3
  · cases hv
/-- The call, by a run up to the loop's head. -/
theorem rest_first (hK : HK C) {pl : Nat → Nat → Option Plan} (hok : PlansOk pl) {l : List Stage} (hl : ∀ s ∈ l, s.Ok C) {m d : Nat} {c0 pre : Code} {g : Stage} {s : LSt} (hf : P0.funcs[g.f]? = some fn) (hb : fn.body = some c0) (hc : cutL c0 = some (pre, id, c, post))
    (hR0 : C.R g.f = none) (hk : C.K g.f g.args (hpOf g.n0 g.h0) = none) (hle : Nat.ble g.args.length fn.ntmps = true) (hr : regsOk (pl g.f) pre = true)
    (hv : (match (codeP (pl g.f) fn.ntmps pre).f (callS C pl l m d) m (C.start g.args) (hpOf g.n0 g.h0) with
      | some (.normal, t', h') => s.met t' h'
      | _ => false) = true) (hs : RestOk C fn id c post s g.v g.n1 g.h1) : g.Ok C := by
  obtain ⟨m0, d0, hS⟩ := callS_h hK hok hl m
  obtain ⟨m1, d1, hR⟩ := hs
  split at hv
  · rename_i t' h' he
    obtain ⟨e1, e2⟩ := LSt.met_eq hv
    subst e1
    have hm : ∀ a b c : Nat, a ≤ max (max a b) c ∧ b ≤ max (max a b) c ∧ c ≤ max (max a b) c ∧ max a b ≤ max (max a b) c := fun a b c => by omega
    obtain ⟨i1, i2, i3, i4⟩ := hm m m0 m1
    obtain ⟨H1, q1, q2⟩ := codeC_h (LeH_mono (hS d) i4 (show d0 + d ≤ max (d0 + d) d1 by omega)) i1 pre (Hp.Le.refl _) (codeP_le _ hr he)
    obtain ⟨H2, q3, q4⟩ := hR _ _ (max (d0 + d) d1) i3 i3 (by omega) H1 (e2.trans q2)
    refine ⟨max (max m m0) m1, max (d0 + d) d1 + 1, H2, ?_, q4⟩
    show (funcC C g.f).f (callN C (max (max m m0) m1) (max (d0 + d) d1)) (max (max m m0) m1) g.args _ = _
    unfold funcC
    simp only [hf, hb, hR0, hk, orB, hle]
    rw [bB_eq]
    refine ⟨rfl, ?_⟩
    rw [oB_eq]
    unfold restC at q3
    rw [oB_eq] at q3
    obtain ⟨r, z1, z2⟩ := q3
    refine ⟨r, ?_, ?_⟩
    · rw [cutL_eq hc, q1]
      exact z1
    · obtain ⟨x, t, h⟩ := r
      unfold dendC at z2
      cases x with
      | exit id => cases z2
      | _ =>
        simp only at z2 ⊢
        cases hd : t.ds with
        | nil =>
          rw [hd] at z2
          exact z2
        | cons _ _ => rw [hd] at z2; cases z2
  · cases hv
end
end Go.Proofs.YtgfdhkhcojjkjaaGreatDoor.Hx
/- Calls that are told beforehand with what they make: what a call comes to over a heap of its own is taken to wherever its things lie. -/
namespace Go.Proofs.YtgfdhkhcojjkjaaGreatDoor.Hx

/-! ### other names for places -/
abbrev Ren := Nat → Option Nat
noncomputable section
mutual
def V.ren (τ : Ren) : V → Option V
  | .bool b => some (.bool b)
  | .int k n => some (.int k n)
  | .str s => some (.str s)
  | .nilPtr => some .nilPtr
  | .ptr l o => oB (τ l) fun L => some (.ptr L o)
  | .nilSlice => some .nilSlice
  | .slice l o n => oB (τ l) fun L => some (.slice L o n)
  | .nilMap => some .nilMap
  | .map l => oB (τ l) fun L => some (.map L)
  | .nilFunc => some .nilFunc
  | .func f a c => oB (V.rens τ a) fun a' => oB (V.rens τ c) fun c' => some (.func f a' c')
  | .nilIface => some .nilIface
  | .iface t v => oB (V.ren τ v) fun v' => some (.iface t v')
  | .agg l => oB (V.rens τ l) fun l' => some (.agg l')
  | .tuple l => oB (V.rens τ l) fun l' => some (.tuple l')
def V.rens (τ : Ren) : List V → Option (List V)
  | [] => some []
  | v :: l => oB (V.ren τ v) fun v' => oB (V.rens τ l) fun l' => some (v' :: l')
end
end
mutual
theorem VRel.carry {τ ρ : Ren} {A B : Env} (H : ∀ l a b d, τ l = some a → ρ l = some b → A a = some d → B b = some d) : ∀ (v : V) {u u' : V} {y : Value}, v.ren τ = some u → v.ren ρ = some u' → VRel A u y → VRel B u' y
  | .bool _, _, _, _, h1, h2, h => by cases h1; cases h2; cases h; exact .bool _
  | .int _ _, _, _, _, h1, h2, h => by cases h1; cases h2; cases h; exact .int _ _
  | .str _, _, _, _, h1, h2, h => by
    cases h1; cases h2
    generalize hv : V.str _ = v at h ⊢
    cases h <;> cases hv
    exact .str _
  | .nilPtr, _, _, _, h1, h2, h => by cases h1; cases h2; cases h; exact .nilPtr
  | .ptr l o, _, _, _, h1, h2, h => by
    simp only [V.ren, oB_eq] at h1 h2
    obtain ⟨a, ha, h1⟩ := h1; obtain ⟨b, hb, h2⟩ := h2
    cases h1; cases h2
    cases h with | ptr _ _ d hd => exact .ptr _ _ d (H _ _ _ _ ha hb hd)
  | .nilSlice, _, _, _, h1, h2, h => by cases h1; cases h2; cases h; exact .nilSlice
  | .slice l o n, _, _, _, h1, h2, h => by
    simp only [V.ren, oB_eq] at h1 h2
    obtain ⟨a, ha, h1⟩ := h1; obtain ⟨b, hb, h2⟩ := h2
    cases h1; cases h2
    cases h with | slice _ _ _ cap o' d hd hk hl ho => exact .slice _ _ _ cap o' d (H _ _ _ _ ha hb hd) hk hl ho
  | .nilMap, _, _, _, h1, h2, h => by cases h1; cases h2; cases h; exact .nilMap
  | .map l, _, _, _, h1, h2, h => by
    simp only [V.ren, oB_eq] at h1 h2
    obtain ⟨a, ha, h1⟩ := h1; obtain ⟨b, hb, h2⟩ := h2
    cases h1; cases h2
    cases h with | map _ d hd => exact .map _ d (H _ _ _ _ ha hb hd)
  | .nilFunc, _, _, _, h1, h2, h => by cases h1; cases h2; cases h; exact .nilFunc
  | .func f x c, _, _, _, h1, h2, h => by
    simp only [V.ren, oB_eq] at h1 h2
    obtain ⟨a, ha, a', ha', h1⟩ := h1; obtain ⟨b, hb, b', hb', h2⟩ := h2
    cases h1; cases h2
    cases h with | func _ _ _ a2 c2 h3 h4 => exact .func _ _ _ a2 c2 (VsRel.carry H x ha hb h3) (VsRel.carry H c ha' hb' h4)
  | .nilIface, _, _, _, h1, h2, h => by cases h1; cases h2; cases h; exact .nilIface
  | .iface t v, _, _, _, h1, h2, h => by
    simp only [V.ren, oB_eq] at h1 h2
    obtain ⟨a, ha, h1⟩ := h1; obtain ⟨b, hb, h2⟩ := h2
    cases h1; cases h2
    cases h with | iface _ _ v' h3 => exact .iface _ _ v' (VRel.carry H v ha hb h3)
  | .agg l, _, _, _, h1, h2, h => by
    simp only [V.ren, oB_eq] at h1 h2
    obtain ⟨a, ha, h1⟩ := h1; obtain ⟨b, hb, h2⟩ := h2
    cases h1; cases h2
    cases h with | agg _ cs' h3 => exact .agg _ cs' (VsRel.carry H l ha hb h3)
  | .tuple l, _, _, _, h1, h2, h => by
    simp only [V.ren, oB_eq] at h1 h2
    obtain ⟨a, ha, h1⟩ := h1; obtain ⟨b, hb, h2⟩ := h2
    cases h1; cases h2
    cases h with | tuple _ cs' h3 => exact .tuple _ cs' (VsRel.carry H l ha hb h3)
theorem VsRel.carry {τ ρ : Ren} {A B : Env} (H : ∀ l a b d, τ l = some a → ρ l = some b → A a = some d → B b = some d) : ∀ (v : List V) {u u' : List V} {y : List Value}, V.rens τ v = some u → V.rens ρ v = some u' → VsRel A u y → VsRel B u' y
  | [], _, _, _, h1, h2, h => by cases h1; cases h2; cases h; exact .nil
  | v :: l, _, _, _, h1, h2, h => by
    simp only [V.rens, oB_eq] at h1 h2
    obtain ⟨a, ha, a', ha', h1⟩ := h1; obtain ⟨b, hb, b', hb', h2⟩ := h2
    cases h1; cases h2
    cases h with | cons _ _ _ _ h3 h4 => exact .cons _ _ _ _ (VRel.carry H v ha hb h3) (VsRel.carry H l ha' hb' h4)
end
mutual
theorem V.ren_id : ∀ v : V, v.ren some = some v
  | .bool _ | .int _ _ | .str _ | .nilPtr | .nilSlice | .nilMap | .nilFunc | .nilIface | .ptr _ _ | .slice _ _ _ | .map _ => rfl
  | .func _ a c => by simp only [V.ren, V.rens_id a, V.rens_id c]; rfl
  | .iface _ v => by simp only [V.ren, V.ren_id v]; rfl
  | .agg l => by simp only [V.ren, V.rens_id l]; rfl
  | .tuple l => by simp only [V.ren, V.rens_id l]; rfl
theorem V.rens_id : ∀ l : List V, V.rens some l = some l
  | [] => rfl
  | v :: l => by simp only [V.rens, V.ren_id v, V.rens_id l]; rfl
end
theorem rens_get {τ : Ren} : ∀ {cs l : List V}, V.rens τ cs = some l → l.length = cs.length ∧ ∀ (i : Nat) u, l[i]? = some u → ∃ v, cs[i]? = some v ∧ v.ren τ = some u
  | [], _, h => by cases h; exact ⟨rfl, fun i u h => by simp at h⟩
  | v :: cs, _, h => by
    simp only [V.rens, oB_eq] at h
    obtain ⟨a, ha, l, hl, h⟩ := h
    cases h
    obtain ⟨h1, h2⟩ := rens_get hl
    refine ⟨by simp [h1], fun i u hu => ?_⟩
    cases i with
    | zero => cases hu; exact ⟨v, rfl, ha⟩
    | succ i => exact h2 i u hu
theorem rens_fwd {τ : Ren} : ∀ {cs l : List V}, V.rens τ cs = some l → ∀ (i : Nat) v, cs[i]? = some v → ∃ u, l[i]? = some u ∧ v.ren τ = some u
  | [], _, h => fun i u h => by simp at h
  | v :: cs, _, h => by
    simp only [V.rens, oB_eq] at h
    obtain ⟨a, ha, l, hl, h⟩ := h
    cases h
    intro i u hu
    cases i with
    | zero => cases hu; exact ⟨a, rfl, ha⟩
    | succ i => exact rens_fwd hl i u hu
noncomputable def eren (τ : Ren) : List (V × V × Nat) → Option (List (V × V × Nat))
  | [] => some []
  | x :: l => oB (x.1.ren τ) fun k => oB (x.2.1.ren τ) fun v => oB (eren τ l) fun l' => some ((k, v, x.2.2) :: l')
noncomputable def O.ren (τ : Ren) : O → Option O
  | .cells e sz a r cs => oB (V.rens τ cs) fun l => some (.cells e sz a r l)
  | .map es c => oB (eren τ es) fun l => some (.map l c)
  | .iter .. => none
theorem O.ren_live {τ : Ren} {o p : O} (h : o.ren τ = some p) : p.live = o.live := by
  cases o with
  | cells e sz a r cs => simp only [O.ren, oB_eq] at h; obtain ⟨l, _, h⟩ := h; cases h; rfl
  | map es c => simp only [O.ren, oB_eq] at h; obtain ⟨l, _, h⟩ := h; cases h; rfl
  | iter => cases h
theorem eren_id : ∀ l : List (V × V × Nat), eren some l = some l
  | [] => rfl
  | (a, b, c) :: l => by simp only [eren, V.ren_id, eren_id l]; rfl
theorem ERel.carry {τ ρ : Ren} {A B : Env} (H : ∀ l a b d, τ l = some a → ρ l = some b → A a = some d → B b = some d) : ∀ {es u u' : List (V × V × Nat)} {y : List MapEntry}, eren τ es = some u → eren ρ es = some u' → ERel A u y → ERel B u' y
  | [], _, _, _, h1, h2, h => by cases h1; cases h2; cases h; exact .nil
  | x :: es, _, _, _, h1, h2, h => by
    simp only [eren, oB_eq] at h1 h2
    obtain ⟨k, hk, v, hv, l, hl, h1⟩ := h1
    obtain ⟨k', hk', v', hv', l', hl', h2⟩ := h2
    cases h1; cases h2
    cases h with
    | cons _ _ _ e _ es' g1 g2 g3 g4 => exact .cons _ _ _ e _ es' (VRel.carry H x.1 hk hk' g1) (VRel.carry H x.2.1 hv hv' g2) g3 (ERel.carry H hl hl' g4)
theorem ORel.carry {τ ρ : Ren} {A B : Env} (H : ∀ l a b d, τ l = some a → ρ l = some b → A a = some d → B b = some d) {o p p' : O} {d : D} {ob : Option Obj} (h1 : o.ren τ = some p) (h2 : o.ren ρ = some p') (h : ORel A d p ob) : ORel B d p' ob := by
  cases o with
  | cells e sz a r cs =>
    simp only [O.ren, oB_eq] at h1 h2
    obtain ⟨l, hl, h1⟩ := h1; obtain ⟨l', hl', h2⟩ := h2
    cases h1; cases h2
    obtain ⟨g1, g2, g3, g4, g5⟩ := h
    have e1 := (rens_get hl).1
    have e2 := (rens_get hl').1
    refine ⟨g1, g2, by rw [g3, e1, e2], g4, fun hl9 => ?_⟩
    obtain ⟨c, e, fr, q1, q2, q3, q4, q5⟩ := g5 hl9
    refine ⟨c, e, fr, q1, q2, q3, by rw [e2, ← e1]; exact q4, fun i u hu => ?_⟩
    obtain ⟨v, hv, hr⟩ := (rens_get hl').2 i u hu
    obtain ⟨u2, hu2, hr2⟩ := rens_fwd hl i v hv
    obtain ⟨x, hx, hxr⟩ := q5 i u2 hu2
    exact ⟨x, hx, VRel.carry H v hr2 hr hxr⟩
  | map es c =>
    simp only [O.ren, oB_eq] at h1 h2
    obtain ⟨l, hl, h1⟩ := h1; obtain ⟨l', hl', h2⟩ := h2
    cases h1; cases h2
    obtain ⟨g1, g2, g3, es', g4, g5⟩ := h
    exact ⟨g1, g2, g3, es', g4, ERel.carry H hl hl' g5⟩
  | iter => cases h1

/-! ### a call over a heap of its own -/
/-- A call: its function and arguments, the rows that it looks at (at g, g + 1, ..), the answer, the rows that it makes and that the answer speaks of (behind these). -/
structure RT where
  f : Nat
  g : Nat
  args : List V
  hs : List O
  v : V
  news : List O
def numR (k : Nat) : List O → List (Nat × O)
  | [] => []
  | o :: l => (k, o) :: numR (k + 1) l
theorem numR_mem : ∀ {l : List O} {k : Nat} {x : Nat × O}, x ∈ numR k l → k ≤ x.1 ∧ l[x.1 - k]? = some x.2
  | [], _, _, h => by cases h
  | o :: l, k, x, h => by
    rcases List.mem_cons.1 h with rfl | h
    · exact ⟨Nat.le_refl _, by simp⟩
    · obtain ⟨h1, h2⟩ := numR_mem h
      refine ⟨by omega, ?_⟩
      rw [show x.1 - k = (x.1 - (k + 1)) + 1 by omega]
      exact h2
theorem numR_of : ∀ {l : List O} {k i : Nat} {o : O}, l[i]? = some o → (k + i, o) ∈ numR k l
  | [], _, _, _, h => by simp at h
  | o :: l, k, 0, _, h => by cases h; exact List.mem_cons_self ..
  | o :: l, k, i + 1, _, h => by
    refine List.mem_cons_of_mem _ ?_
    rw [show k + (i + 1) = k + 1 + i by omega]
    exact numR_of h
/-- The place in a row of places. -/
noncomputable def nth : List Nat → Nat → Option Nat := fun l => List.rec (motive := fun _ => Nat → Option Nat) (fun _ => none) (fun a _ ih n => Nat.rec (motive := fun _ => Option Nat) (some a) (fun n _ => ih n) n) l
theorem nth_eq : ∀ (l : List Nat) (n : Nat), nth l n = l[n]?
  | [], n => by simp [nth]
  | a :: l, 0 => rfl
  | a :: l, n + 1 => nth_eq l n
noncomputable def rn (g : Nat) (L : List Nat) : Ren := fun l => bB (Nat.ble g l) (nth L (l - g))
theorem rn_eq {g : Nat} {L : List Nat} {l a : Nat} : rn g L l = some a ↔ g ≤ l ∧ L[l - g]? = some a := by
  unfold rn
  rw [bB_eq, nth_eq, Nat.ble_eq]
noncomputable def RT.hp (s : RT) : Hp := hpOf (s.g + s.hs.length) (numR s.g s.hs)
/-- Its own heap is well made. -/
structure RT.Wf (s : RT) : Prop where
  glob : P0.globals.size ≤ s.g
  live : s.hs.all O.live = true
  lies : ∀ x ∈ numR s.g s.hs, s.hp.get x.1 = some x.2
theorem RT.wf {s : RT} (hg : P0.globals.size ≤ s.g) (hl : s.hs.all O.live = true) (h : (numR s.g s.hs).map (fun x => s.hp.get x.1) = (numR s.g s.hs).map (fun x => some x.2)) : s.Wf :=
  ⟨hg, hl, List.map_inj_left.1 h⟩
/-- What a run must leave: the answer, by other names for what is new; the old rows ads they were; the new ones. -/
structure RT.Out (s : RT) (τ : Ren) (u : V) (h : Hp) : Prop where
  old : ∀ l, s.g ≤ l → l < s.g + s.hs.length → τ l = some l
  val : s.v.ren τ = some u
  keep : ∀ x ∈ numR s.g s.hs, h.get x.1 = some x.2
  new : ∀ (j : Nat) (o : O), s.news[j]? = some o → ∃ a q, τ (s.g + s.hs.length + j) = some a ∧ s.g + s.hs.length ≤ a ∧ o.ren τ = some q ∧ h.get a = some q ∧ q.live = true
  apart : ∀ i j a, τ (s.g + s.hs.length + i) = some a → τ (s.g + s.hs.length + j) = some a → i = j
def RT.Ok (s : RT) : Prop := s.Wf ∧ ∀ (Δ : Env) (w : World) (args' : Array Value), WR Δ s.hp w → VsRel Δ s.args args'.toList →
  Calls P0 s.f args' w fun e w' => ∃ Δ' x u h' τ, e = .returned x ∧ After Δ s.hp w u h' Δ' x w' ∧ s.Out τ u h'
/-- The new rows, laid at the heap's end. -/
noncomputable def putAll (g : Nat) : List O → List Nat → Hp → Option (List Nat × Hp)
  | [], L, H => some (L, H)
  | o :: l, L, H => oB (o.ren (rn g L)) fun p => putAll g l (L ++ [H.next]) (H.new p)
/-- Do the rows lie there? -/
noncomputable def rowsAt (g : Nat) (L : List Nat) (H : Hp) : List O → List Nat → Bool
  | [], [] => true
  | o :: os, a :: ads => Option.rec (motive := fun _ => Bool) false (fun p => Option.rec (motive := fun _ => Bool) false (fun q => O.eqB p q && rowsAt g L H os ads) (H.get a)) (o.ren (rn g L))
  | _, _ => false
def distinct : List Nat → Bool
  | [] => true
  | a :: l => l.all (fun b => !Nat.beq a b) && distinct l
theorem distinct_nodup : ∀ {l : List Nat}, distinct l = true → l.Nodup
  | [], _ => .nil
  | a :: l, h => by
    simp only [distinct, Bool.and_eq_true, List.all_eq_true] at h
    refine List.nodup_cons.2 ⟨fun hm => ?_, distinct_nodup h.2⟩
    have := h.1 a hm
    simp at this
/-- The call over a heap in which the rows lie at L. -/
noncomputable def RT.ask (s : RT) (L : List Nat) (args : List V) (H : Hp) : Option (V × Hp) :=
  oB (V.rens (rn s.g L) s.args) fun ads => bB (V.beqs ads args) <| bB (rowsAt s.g L H s.hs L) <| bB (distinct L) <| oB (putAll s.g s.news L H) fun r => oB (s.v.ren (rn s.g r.1)) fun v => some (v, r.2)
theorem rowsAt_eq {g : Nat} {L : List Nat} {H : Hp} : ∀ {os : List O} {ads : List Nat}, rowsAt g L H os ads = true → ads.length = os.length ∧ ∀ (i : Nat) (a : Nat), ads[i]? = some a → ∃ o p, os[i]? = some o ∧ o.ren (rn g L) = some p ∧ H.get a = some p
  | [], [], _ => ⟨rfl, fun i a h => by simp at h⟩
  | [], _ :: _, h => by cases h
  | _ :: _, [], h => by cases h
  | o :: os, a :: ads, h => by
    unfold rowsAt at h
    cases h1 : o.ren (rn g L) with
    | none => rw [h1] at h; cases h
    | some p =>
      rw [h1] at h
      cases h2 : H.get a with
      | none => simp only [h2] at h; cases h
      | some q =>
        simp only [h2, Bool.and_eq_true] at h
        obtain rfl := O.eqB_eq h.1
        obtain ⟨g1, g2⟩ := rowsAt_eq h.2
        refine ⟨by simp [g1], fun i b hb => ?_⟩
        cases i with
        | zero => cases hb; exact ⟨o, p, rfl, h1, h2⟩
        | succ i => exact g2 i b hb
theorem ORel.dead {Δ : Env} {d : D} {o : O} {x y : Option Obj} (h : ORel Δ d o x) (hl : o.live = false) : ORel Δ d o y := by
  cases o with
  | cells e sz a r cs =>
    obtain ⟨g1, g2, g3, g4, _⟩ := h
    exact ⟨g1, g2, g3, g4, fun h => by rw [show a = false from hl] at h; cases h⟩
  | _ => cases hl
theorem O.ren_id {τ : Ren} {o p : O} (h : o.ren τ = some p) : o.ren some = some o := by
  cases o with
  | cells e sz a r cs => simp only [O.ren, V.rens_id]; rfl
  | map es c => simp only [O.ren, eren_id]; rfl
  | iter => cases h
/-- A place gets a row that its block holds already. -/
theorem WR.layB {Δ : Env} {h : Hp} {w : World} (hW : WR Δ h w) {l : Nat} {o : O} {d : D} (hn : Δ l = none) (hl : l < h.next) (hgl : P0.globals.size ≤ l) (hg : h.get l = some o) (hb : d.b < w.heap.size) (ho : ORel (Δ.set l d) d o w.heap[d.b]?)
    (hap : ∀ m d' p, Δ m = some d' → h.get m = some p → p.live = true → o.live = true → (d.ro = false ∨ d'.ro = false) → d.b ≠ d'.b) (ht : ∀ g c, (g, c) ∈ tabs → d.ro = false → d.b ≠ g) : WR (Δ.set l d) h w where
  fresh := fun m e hm => by
    rcases Env.set_other hm with ⟨rfl, rfl⟩ | ⟨_, hm⟩
    · exact hl
    · exact hW.fresh m e hm
  blk := fun m e hm => by
    rcases Env.set_other hm with ⟨rfl, rfl⟩ | ⟨_, hm⟩
    · exact hb
    · exact hW.blk m e hm
  obj := fun m e hm => by
    rcases Env.set_other hm with ⟨rfl, rfl⟩ | ⟨_, hm⟩
    · exact ⟨o, hg, ho⟩
    · obtain ⟨o', h1, h2⟩ := hW.obj m e hm
      exact ⟨o', h1, h2.mono (Env.le_set hn)⟩
  apart := fun m m' e e' p p' hm hm' hne hp hp' hlp hlp' hro => by
    rcases Env.set_other hm with ⟨h1, h2⟩ | ⟨_, h1⟩ <;> rcases Env.set_other hm' with ⟨h3, h4⟩ | ⟨_, h3⟩
    · omega
    · subst h1; subst h2
      rw [hg] at hp; cases hp
      exact hap m' e' p' h3 hp' hlp' hlp hro
    · subst h3; subst h4
      rw [hg] at hp'; cases hp'
      exact fun he => hap m e p h1 hp hlp hlp' hro.symm he.symm
    · exact hW.apart m m' e e' p p' h1 h3 hne hp hp' hlp hlp' hro
  glob := fun g p hlt hp => by
    obtain ⟨e, h1, h2⟩ := hW.glob g p hlt hp
    exact ⟨e, Env.le_set hn _ _ h1, h2⟩
  gnext := hW.gnext
  tab := fun g c hm => ⟨(hW.tab g c hm).1, fun m e he hro => by
    rcases Env.set_other he with ⟨rfl, rfl⟩ | ⟨_, he⟩
    · exact ht g c hm hro
    · exact (hW.tab g c hm).2 m e he hro⟩
theorem rn_snoc {g x l b : Nat} {L : List Nat} (h : rn g (L ++ [x]) l = some b) : rn g L l = some b ∨ (l = g + L.length ∧ b = x) := by
  rw [rn_eq] at h ⊢
  obtain ⟨h1, h2⟩ := h
  by_cases hl : l - g < L.length
  · rw [List.getElem?_append_left hl] at h2
    exact .inl ⟨h1, h2⟩
  · rw [List.getElem?_append_right (by omega)] at h2
    by_cases he : l - g = L.length
    · rw [he] at h2
      simp at h2
      exact .inr ⟨by omega, h2.symm⟩
    · rw [List.getElem?_eq_none (by simp; omega)] at h2
      cases h2
theorem RT.ask_ok {s : RT} (hs : s.Ok) {L : List Nat} {args : List V} {H H' : Hp} {v : V} (hv : s.ask L args H = some (v, H')) {Δ : Env} {w : World} {args' : Array Value} (hW : WR Δ H w) (ha : VsRel Δ args args'.toList) :
    Calls P0 s.f args' w fun e w' => ∃ Δ2 x, e = .returned x ∧ After Δ H w v H' Δ2 x w' := by
  obtain ⟨⟨hg, hlive, hlies⟩, hcall⟩ := hs
  simp only [RT.ask, oB_eq, bB_eq] at hv
  obtain ⟨ads, h1, h2, h3, h4, ⟨L', H1⟩, h5, v', h6, h7⟩ := hv
  cases h7
  obtain rfl := V.eq_of_beqs _ _ h2
  obtain ⟨hlen, hrow⟩ := rowsAt_eq h3
  have hnd := distinct_nodup h4
  rw [List.all_eq_true] at hlive
  obtain ⟨Δ0, hΔe⟩ : ∃ Δ0 : Env, Δ0 = fun l => (rn s.g L l).bind Δ := ⟨_, rfl⟩
  have hΔ0 : ∀ l d, Δ0 l = some d ↔ ∃ a, rn s.g L l = some a ∧ Δ a = some d := fun l d => by rw [hΔe]; exact Option.bind_eq_some_iff
  have hget : ∀ l o, s.hp.get l = some o → s.g ≤ l ∧ s.hs[l - s.g]? = some o := fun l o h => numR_mem (hpOf_get h)
  have hget' : ∀ i o, s.hs[i]? = some o → s.hp.get (s.g + i) = some o := fun i o h => hlies _ (numR_of h)
  have hold : ∀ l a, rn s.g L l = some a → ∃ o p, (l, o) ∈ numR s.g s.hs ∧ s.hp.get l = some o ∧ o.live = true ∧ o.ren (rn s.g L) = some p ∧ H.get a = some p ∧ l < s.g + s.hs.length := fun l a h => by
    obtain ⟨k1, k2⟩ := rn_eq.1 h
    obtain ⟨o, p, q1, q2, q3⟩ := hrow _ _ k2
    have hl := (List.getElem?_eq_some_iff.1 q1).1
    have e : s.g + (l - s.g) = l := by omega
    have m1 := numR_of (k := s.g) q1
    have m2 := hget' _ _ q1
    rw [e] at m1 m2
    exact ⟨o, p, m1, m2, hlive o (List.mem_of_getElem? q1), q2, q3, by omega⟩
  have hW0 : WR Δ0 s.hp w :=
    { fresh := fun l d h => by
        obtain ⟨a, e1, e2⟩ := (hΔ0 l d).1 h
        obtain ⟨_, _, _, _, _, _, _, hl⟩ := hold l a e1
        exact hl
      blk := fun l d h => by
        obtain ⟨a, _, e2⟩ := (hΔ0 l d).1 h
        exact hW.blk a d e2
      obj := fun l d h => by
        obtain ⟨a, e1, e2⟩ := (hΔ0 l d).1 h
        obtain ⟨o, p, _, q1, _, q3, q4, _⟩ := hold l a e1
        obtain ⟨o', z1, z2⟩ := hW.obj a d e2
        rw [q4] at z1; cases z1
        exact ⟨o, q1, ORel.carry (fun l a b d e1 e2 e3 => by cases e2; exact (hΔ0 l d).2 ⟨a, e1, e3⟩) q3 (O.ren_id q3) z2⟩
      apart := fun l l' d d' o o' e1 e2 hne g1 g2 l1 l2 hro => by
        obtain ⟨a, e3, e4⟩ := (hΔ0 l d).1 e1
        obtain ⟨a', e5, e6⟩ := (hΔ0 l' d').1 e2
        obtain ⟨o1, p1, _, q1, _, q3, q4, _⟩ := hold l a e3
        obtain ⟨o2, p2, _, r1, _, r3, r4, _⟩ := hold l' a' e5
        rw [g1] at q1; cases q1
        rw [g2] at r1; cases r1
        refine hW.apart a a' d d' p1 p2 e4 e6 (fun he => hne ?_) q4 r4 (by rw [O.ren_live q3]; exact l1) (by rw [O.ren_live r3]; exact l2) hro
        subst he
        obtain ⟨k1, k2⟩ := rn_eq.1 e3
        obtain ⟨k3, k4⟩ := rn_eq.1 e5
        have := (List.getElem?_inj (List.getElem?_eq_some_iff.1 k2).1 hnd).1 (k2.trans k4.symm)
        omega
      glob := fun g o hlt h => by
        have := (hget g o h).1
        omega
      gnext := Nat.le_trans hg (Nat.le_add_right _ _)
      tab := fun g c hm => ⟨(hW.tab g c hm).1, fun l d hd hro => by
        obtain ⟨a, _, e2⟩ := (hΔ0 l d).1 hd
        exact (hW.tab g c hm).2 a d e2 hro⟩ }
  have ha0 : VsRel Δ0 s.args args'.toList := VsRel.carry (fun l a b d e1 e2 e3 => by cases e2; exact (hΔ0 l d).2 ⟨a, e1, e3⟩) s.args h1 (V.rens_id _) ha
  refine Calls.mono (hcall Δ0 w args' hW0 ha0) fun e w' he => ?_
  obtain ⟨Δ', x, u, h', τ, rfl, hA, hO⟩ := he
  have hΔ' : ∀ l, l < s.g + s.hs.length → ∀ d, Δ' l = some d → Δ0 l = some d := fun l hl d hd => by
    cases h0 : Δ0 l with
    | some d0 => rw [← hd, hA.frame.le l d0 h0]
    | none => rw [hA.grow.none l h0 hl] at hd; cases hd
  have hrw : ∀ b, RW Δ0 b → RW Δ b := fun b ⟨l, d, q1, q2, q3⟩ => by
    obtain ⟨a, _, e2⟩ := (hΔ0 l d).1 q1
    exact ⟨a, d, e2, q2, q3⟩
  have hW1 : WR Δ H w' :=
    { fresh := hW.fresh
      blk := fun l d h => Nat.lt_of_lt_of_le (hW.blk l d h) hA.frame.size
      obj := fun l d hd => by
        obtain ⟨o, ho, hr⟩ := hW.obj l d hd
        refine ⟨o, ho, ?_⟩
        by_cases hx : RW Δ0 d.b
        · obtain ⟨m, d0, hm, hro, hb⟩ := hx
          obtain ⟨a, ha1, ha2⟩ := (hΔ0 m d0).1 hm
          obtain ⟨om, p, q0, q1, q2, q3, q4, q5⟩ := hold m a ha1
          by_cases hal : a = l
          · subst hal
            rw [hd] at ha2; cases ha2
            rw [ho] at q4; cases q4
            obtain ⟨o2, z1, z2⟩ := hA.world.obj m d (hA.frame.le _ _ hm)
            rw [hO.keep (m, om) q0] at z1; cases z1
            refine ORel.carry (τ := some) (ρ := rn s.g L) (fun l a b d e1 e2 e3 => ?_) (O.ren_id q3) q3 z2
            cases e1
            obtain ⟨_, _, _, _, _, _, _, hl⟩ := hold l b e2
            obtain ⟨c, e4, e5⟩ := (hΔ0 l d).1 (hΔ' l hl d e3)
            rw [e2] at e4; cases e4
            exact e5
          · cases hlv : o.live with
            | true => exact absurd hb.symm (hW.apart l a d d0 o p hd ha2 (Ne.symm hal) ho q4 hlv (by rw [O.ren_live q3]; exact q2) (.inr hro))
            | false => exact hr.dead hlv
        · rw [hA.frame.keep d.b (hW.blk l d hd) hx]; exact hr
      apart := hW.apart
      glob := hW.glob
      gnext := hW.gnext
      tab := fun g c hm => by
        obtain ⟨⟨e, fr, t1⟩, t2⟩ := hW.tab g c hm
        refine ⟨⟨e, fr, ?_⟩, t2⟩
        rw [hA.frame.keep g (Array.getElem?_eq_some_iff.1 t1).1 (fun ⟨l, d, q1, q2, q3⟩ => by
          obtain ⟨a, _, e2⟩ := (hΔ0 l d).1 q1
          exact t2 a d e2 q2 q3)]
        exact t1 }
  have hF1 : FR Δ Δ w w' := ⟨Env.le_refl _, hA.frame.size, hA.frame.os, hA.frame.tape, hA.frame.output, fun b hb hn => hA.frame.keep b hb (fun h => hn (hrw b h)), fun l d h => .inl h⟩
  have hB : ∀ (l : List O) (j : Nat) (Lc Lf : List Nat) (Hc Hf : Hp) (Δc : Env), s.news.drop j = l → putAll s.g l Lc Hc = some (Lf, Hf) → WR Δc Hc w' → FR Δ Δc w w' → Gr H Δ Hc Δc → H.next ≤ Hc.next →
      (∀ l a b d, τ l = some a → rn s.g Lc l = some b → Δ' a = some d → Δc b = some d) → Lc.length = s.hs.length + j →
      (∀ b d o, Δc b = some d → Hc.get b = some o → d.b < w.heap.size ∨ ∃ i a, i < j ∧ τ (s.g + s.hs.length + i) = some a ∧ Δ' a = some d) →
      ∃ Δ2, WR Δ2 Hf w' ∧ FR Δ Δ2 w w' ∧ Gr H Δ Hf Δ2 ∧ ∀ l a b d, τ l = some a → rn s.g Lf l = some b → Δ' a = some d → Δ2 b = some d := by
    intro l
    induction l with
    | nil =>
      intro j Lc Lf Hc Hf Δc _ hp c1 c2 c3 _ c4 _ _
      cases hp
      exact ⟨Δc, c1, c2, c3, c4⟩
    | cons o l ih =>
      intro j Lc Lf Hc Hf Δc hd hp c1 c2 c3 c7 c4 c5 c6
      simp only [putAll, oB_eq] at hp
      obtain ⟨p, hp1, hp2⟩ := hp
      have hoj : s.news[j]? = some o := by
        have : (s.news.drop j)[0]? = some o := by rw [hd]; rfl
        rwa [List.getElem?_drop, Nat.add_zero] at this
      have hd' : s.news.drop (j + 1) = l := by rw [← List.drop_drop, hd]; rfl
      obtain ⟨a, q, n1, n2, n3, n4, n5⟩ := hO.new j o hoj
      have hnn := c1.none_next
      have hlen' : (Lc ++ [Hc.next]).length = s.hs.length + (j + 1) := by simp [c5]; omega
      have hnx : ∀ b d, Δc b = some d → b < Hc.next := fun b d h => c1.fresh b d h
      cases hda : Δ' a with
      | none =>
        refine ih (j + 1) (Lc ++ [Hc.next]) Lf (Hc.new p) Hf Δc hd' hp2 (c1.more p) c2 ⟨Nat.le_succ_of_le c3.next, c3.none⟩ (Nat.le_succ_of_le c7) (fun l a' b d e1 e2 e3 => ?_) hlen' (fun b d o' h1 h2 => ?_)
        · rcases rn_snoc e2 with e2 | ⟨rfl, rfl⟩
          · exact c4 l a' b d e1 e2 e3
          · rw [c5, ← Nat.add_assoc, n1] at e1; cases e1
            rw [hda] at e3; cases e3
        · rw [get_new, if_neg (Nat.ne_of_gt (hnx b d h1))] at h2
          rcases c6 b d o' h1 h2 with h | ⟨i, a', h3, h4⟩
          · exact .inl h
          · exact .inr ⟨i, a', by omega, h4⟩
      | some d =>
        have hlive' : ∀ m d0, Δ0 m = some d0 → d0.ro = false → d0.b ≠ d.b := fun m d0 hm hro => by
          obtain ⟨b, e1, e2⟩ := (hΔ0 m d0).1 hm
          obtain ⟨om, p', q0, q1, q2, q3, q4, q5⟩ := hold m b e1
          exact hA.world.apart m a d0 d om q (hA.frame.le _ _ hm) hda (by omega) (hO.keep (m, om) q0) n4 q2 n5 (.inl hro)
        have hfar : w.heap.size ≤ d.b := by
          rcases hA.frame.new a d hda with h | h | ⟨m, d0, hm, hro, hb⟩
          · exfalso
            have : a < s.g + s.hs.length := hW0.fresh a d h
            omega
          · exact h
          · exact absurd hb (hlive' m d0 hm hro)
        have hle := Env.le_set (d := d) hnn
        have hWm := c1.more p
        have hgn : (Hc.new p).get Hc.next = some p := by rw [get_new, if_pos rfl]
        have hor : ORel (Δc.set Hc.next d) d p w'.heap[d.b]? := by
          obtain ⟨o2, z1, z2⟩ := hA.world.obj a d hda
          rw [n4] at z1; cases z1
          exact ORel.carry (fun l a b d e1 e2 e3 => hle _ _ (c4 l a b d e1 e2 e3)) n3 hp1 z2
        refine ih (j + 1) (Lc ++ [Hc.next]) Lf (Hc.new p) Hf (Δc.set Hc.next d) hd' hp2 (hWm.layB hnn (Nat.lt_succ_self _) c1.gnext hgn (hA.world.blk a d hda) hor (fun m d2 o2 g1 g2 g3 g4 g5 => ?_) (fun g c hm hro => (hA.world.tab g c hm).2 a d hda hro)) ?_ ?_ (Nat.le_succ_of_le c7) (fun l a' b d2 e1 e2 e3 => ?_) hlen' (fun b d2 o' h1 h2 => ?_)
        · rw [get_new, if_neg (Nat.ne_of_gt (hnx m d2 g1))] at g2
          rcases c6 m d2 o2 g1 g2 with h | ⟨i, a2, i1, i2, i3⟩
          · omega
          · obtain ⟨oi, hoi⟩ : ∃ oi, s.news[i]? = some oi := by
              have hj := (List.getElem?_eq_some_iff.1 hoj).1
              exact ⟨_, List.getElem?_eq_getElem (show i < s.news.length by omega)⟩
            obtain ⟨a3, q3, m1, m2, m3, m4, m5⟩ := hO.new i oi hoi
            rw [i2] at m1; cases m1
            refine hA.world.apart a a2 d d2 q q3 hda i3 (fun he => ?_) n4 m4 n5 m5 g5
            subst he
            have := hO.apart j i a n1 i2
            omega
        · exact ⟨Env.le_trans c2.le hle, c2.size, c2.os, c2.tape, c2.output, c2.keep, fun l e h => by
            rcases Env.set_other h with ⟨rfl, rfl⟩ | ⟨_, h⟩
            · exact .inr (.inl hfar)
            · exact c2.new l e h⟩
        · refine ⟨Nat.le_succ_of_le c3.next, fun l hl hlt => ?_⟩
          unfold Env.set
          rw [if_neg (by omega)]
          exact c3.none l hl hlt
        · rcases rn_snoc e2 with e2 | ⟨rfl, rfl⟩
          · exact hle _ _ (c4 l a' b d2 e1 e2 e3)
          · rw [c5, ← Nat.add_assoc, n1] at e1; cases e1
            rw [hda] at e3; cases e3
            exact Env.set_self _ _ _
        · rcases Env.set_other h1 with ⟨rfl, rfl⟩ | ⟨_, h1⟩
          · exact .inr ⟨j, a, Nat.lt_succ_self _, n1, hda⟩
          · rw [get_new, if_neg (Nat.ne_of_gt (hnx b d2 h1))] at h2
            rcases c6 b d2 o' h1 h2 with h | ⟨i, a', h3, h4⟩
            · exact .inl h
            · exact .inr ⟨i, a', by omega, h4⟩
  obtain ⟨Δ2, r1, r2, r3, r4⟩ := hB s.news 0 L L' H H1 Δ rfl h5 hW1 hF1 (.refl _ _) (Nat.le_refl _) (fun l a b d e1 e2 e3 => by
    obtain ⟨_, _, _, _, _, _, _, hl⟩ := hold l b e2
    rw [hO.old l (rn_eq.1 e2).1 hl] at e1; cases e1
    obtain ⟨c, e4, e5⟩ := (hΔ0 l d).1 (hΔ' l hl d e3)
    rw [e2] at e4; cases e4
    exact e5) (by rw [Nat.add_zero]; exact hlen) (fun b d o h1 _ => .inl (hW.blk b d h1))
  exact ⟨Δ2, x, rfl, VRel.carry r4 s.v hO.val h6 hA.val, r1, r2, r3⟩
/-! ### how such a call is shown -/
/-- Do the new rows lie there, by other names? -/
noncomputable def newsAt (τ : Ren) (n : Nat) (h : Hp) : List O → List Nat → Bool
  | [], [] => true
  | o :: os, a :: ads => Nat.ble n a && (Option.rec (motive := fun _ => Bool) false (fun p => Option.rec (motive := fun _ => Bool) false (fun q => O.eqB p q && (q.live && newsAt τ n h os ads)) (h.get a)) (o.ren τ))
  | _, _ => false
theorem newsAt_eq {τ : Ren} {n : Nat} {h : Hp} : ∀ {os : List O} {ads : List Nat}, newsAt τ n h os ads = true → ads.length = os.length ∧ ∀ (j : Nat) (o : O), os[j]? = some o → ∃ a q, ads[j]? = some a ∧ n ≤ a ∧ o.ren τ = some q ∧ h.get a = some q ∧ q.live = true
  | [], [], _ => ⟨rfl, fun j o h => by simp at h⟩
  | [], _ :: _, h => by cases h
  | _ :: _, [], h => by cases h
  | o :: os, a :: ads, hv => by
    unfold newsAt at hv
    rw [Bool.and_eq_true] at hv
    obtain ⟨h0, hv⟩ := hv
    cases h1 : o.ren τ with
    | none => rw [h1] at hv; cases hv
    | some p =>
      rw [h1] at hv
      cases h2 : h.get a with
      | none => simp only [h2] at hv; cases hv
      | some q =>
        simp only [h2, Bool.and_eq_true] at hv
        obtain ⟨e1, e2, e3⟩ := hv
        obtain rfl := O.eqB_eq e1
        obtain ⟨g1, g2⟩ := newsAt_eq e3
        refine ⟨by simp [g1], fun j o' hj => ?_⟩
        cases j with
        | zero => cases hj; exact ⟨a, p, rfl, Nat.le_of_ble_eq_true h0, h1, h2, e2⟩
        | succ j => exact g2 j o' hj
noncomputable def RT.outB (s : RT) (ads : List Nat) (u : V) (h : Hp) : Bool :=
  Option.rec (motive := fun _ => Bool) false (fun x => V.beq x u) (s.v.ren (rn s.g (List.range' s.g s.hs.length ++ ads))) && (lies h (numR s.g s.hs) && (newsAt (rn s.g (List.range' s.g s.hs.length ++ ads)) (s.g + s.hs.length) h s.news ads && distinct ads))
theorem RT.outB_out (s : RT) {ads : List Nat} {u : V} {h : Hp} (hv : s.outB ads u h = true) : s.Out (rn s.g (List.range' s.g s.hs.length ++ ads)) u h := by
  unfold RT.outB at hv
  simp only [Bool.and_eq_true] at hv
  obtain ⟨h1, h2, h3, h4⟩ := hv
  obtain ⟨g1, g2⟩ := newsAt_eq h3
  have hnew : ∀ j, (List.range' s.g s.hs.length ++ ads)[s.g + s.hs.length + j - s.g]? = ads[j]? := fun j => by
    rw [List.getElem?_append_right (by simp; omega)]
    congr 1
    simp; omega
  refine ⟨fun l hl hl2 => rn_eq.2 ⟨hl, ?_⟩, ?_, lies_get h2, fun j o hj => ?_, fun i j a e1 e2 => ?_⟩
  · rw [List.getElem?_append_left (by simp; omega), List.getElem?_range' (by omega)]
    congr 1; omega
  · cases hx : s.v.ren (rn s.g (List.range' s.g s.hs.length ++ ads)) with
    | none => rw [hx] at h1; cases h1
    | some x => rw [hx] at h1; rw [V.eq_of_beq _ _ h1]
  · obtain ⟨a, q, q1, q2, q3, q4, q5⟩ := g2 j o hj
    exact ⟨a, q, rn_eq.2 ⟨by omega, by rw [hnew]; exact q1⟩, q2, q3, q4, q5⟩
  · have e1 := (rn_eq.1 e1).2
    have e2 := (rn_eq.1 e2).2
    rw [hnew] at e1 e2
    exact (List.getElem?_inj (List.getElem?_eq_some_iff.1 e1).1 (distinct_nodup h4)).1 (e1.trans e2.symm)
/-- A told call, shown by a run. -/
theorem RT.ok_run {C : Cfg} (hF : Facts C) {s : RT} {M d : Nat} (hwf : s.Wf) (hb : ∃ fn c, P0.funcs[s.f]? = some fn ∧ fn.body = some c) (nw : V → Hp → List Nat)
    (hv : (match callN C M d s.f s.args s.hp with
      | some (u, h) => s.outB (nw u h) u h
      | none => false) = true) : s.Ok := by
  refine ⟨hwf, fun Δ w args' hW ha => ?_⟩
  split at hv
  · rename_i u h hr
    rcases callN_ok hF M d s.f s.args _ _ _ Δ w args' hr hW ha with ⟨x, h1, _⟩ | ⟨_, h2⟩
    · exfalso
      obtain ⟨fn, c, hf, hbd⟩ := hb
      have hnm := hF.named s.f fn hf
      have : (callFunc s.f args').run P0 w = .ok (.enter s.f args') w := by
        simp only [callFunc, Sem.run_bind, run_program, Result.andThen_ok, hf, hnm, hbd, Option.isNone_some, Bool.false_eq_true, if_false]
        rfl
      simp_all
    · refine Calls.mono h2 fun e w' he => ?_
      obtain ⟨Δ', x, rfl, hA⟩ := he
      exact ⟨Δ', x, u, h, _, rfl, hA, s.outB_out hv⟩
  · cases hv

/-! ### more is known of the heap -/
theorem rowsAt_h {g : Nat} {L : List Nat} {h H : Hp} (le : h.Le H) : ∀ {os : List O} {ads : List Nat}, rowsAt g L h os ads = true → rowsAt g L H os ads = true
  | [], [], _ => rfl
  | [], _ :: _, hv => by cases hv
  | _ :: _, [], hv => by cases hv
  | o :: os, a :: ads, hv => by
    unfold rowsAt at hv ⊢
    cases h1 : o.ren (rn g L) with
    | none => rw [h1] at hv; cases hv
    | some p =>
      rw [h1] at hv
      cases h2 : h.get a with
      | none => simp only [h2] at hv; cases hv
      | some q =>
        simp only [h2, Bool.and_eq_true] at hv
        simp only [le.get _ _ h2, hv.1, Bool.true_and]
        exact rowsAt_h le hv.2
theorem putAll_h {g : Nat} : ∀ {l : List O} {L : List Nat} {h H : Hp} {r : List Nat × Hp}, h.Le H → putAll g l L h = some r → ∃ H', putAll g l L H = some (r.1, H') ∧ r.2.Le H'
  | [], _, _, H, _, le, hv => by cases hv; exact ⟨H, rfl, le⟩
  | o :: l, L, h, H, r, le, hv => by
    simp only [putAll, oB_eq] at hv ⊢
    obtain ⟨p, h1, h2⟩ := hv
    rw [le.next] at h2
    obtain ⟨H', g1, g2⟩ := putAll_h (le.new p) h2
    exact ⟨H', ⟨p, h1, g1⟩, g2⟩
theorem RT.ask_h {s : RT} {L : List Nat} {args : List V} {h H : Hp} {r : V × Hp} (le : h.Le H) (hv : s.ask L args h = some r) : ∃ H', s.ask L args H = some (r.1, H') ∧ r.2.Le H' := by
  simp only [RT.ask, oB_eq, bB_eq] at hv ⊢
  obtain ⟨ads, h1, h2, h3, h4, r1, h5, v, h6, h7⟩ := hv
  obtain ⟨H', g1, g2⟩ := putAll_h le h5
  cases h7
  exact ⟨H', ⟨ads, h1, h2, rowsAt_h le h3, h4, _, g1, v, h6, rfl⟩, g2⟩

/-! ### what a machine is told of its functions -/
/-- Calls of one function: which told call it is, and where its rows lie. -/
structure RE where
  f : Nat
  find : List V → Hp → Option (RT × List Nat)
structure RE.Ok (e : RE) : Prop where
  ok : ∀ args h s L, e.find args h = some (s, L) → s.f = e.f ∧ s.Ok
  more : ∀ args h H r, h.Le H → e.find args h = some r → e.find args H = some r
noncomputable def RE.run (e : RE) (args : List V) (h : Hp) : Option (V × Hp) := oB (e.find args h) fun r => r.1.ask r.2 args h
noncomputable def findR : List RE → Nat → Option (List V → Hp → Option (V × Hp))
  | [], _ => none
  | e :: l, f => Bool.rec (findR l f) (some e.run) (Nat.beq e.f f)
theorem findR_mem : ∀ {l : List RE} {f : Nat} {g : List V → Hp → Option (V × Hp)}, findR l f = some g → ∃ e ∈ l, e.f = f ∧ g = e.run
  | [], _, _, h => by cases h
  | e :: l, f, g, h => by
    unfold findR at h
    cases hb : Nat.beq e.f f with
    | true =>
      rw [hb] at h
      cases h
      exact ⟨e, List.mem_cons_self .., Nat.eq_of_beq_eq_true hb, rfl⟩
    | false =>
      rw [hb] at h
      obtain ⟨e', h1, h2⟩ := findR_mem (l := l) h
      exact ⟨e', List.mem_cons_of_mem _ h1, h2⟩
noncomputable def Cfg.told (C : Cfg) (l : List RE) : Cfg := ⟨C.start, C.ext, C.K, findR l⟩
theorem Facts.withR {C : Cfg} (hF : Facts C) {l : List RE} (hl : ∀ e ∈ l, e.Ok) : Facts (C.told l) where
  startD := hF.startD
  start := hF.start
  mixed := hF.mixed
  named := hF.named
  ext := hF.ext
  known := hF.known
  told := fun f g hg args v h h' hv Δ w args' hW ha => by
    obtain ⟨e, he, rfl, rfl⟩ := findR_mem hg
    unfold RE.run at hv
    rw [oB_eq] at hv
    obtain ⟨⟨s, L⟩, h1, h2⟩ := hv
    obtain ⟨h3, h4⟩ := (hl e he).ok args h s L h1
    rw [← h3]
    exact RT.ask_ok h4 h2 hW ha
theorem HK.withR {C : Cfg} (hK : ∀ f a h H, C.K f a h = C.K f a H) {l : List RE} (hl : ∀ e ∈ l, e.Ok) : HK (C.told l) where
  flat := hK
  more := fun f g hg a h r hv H le => by
    obtain ⟨e, he, rfl, rfl⟩ := findR_mem hg
    unfold RE.run at hv ⊢
    rw [oB_eq] at hv
    obtain ⟨⟨s, L⟩, h1, h2⟩ := hv
    rw [(hl e he).more a h H _ le h1]
    exact RT.ask_h le h2
end Go.Proofs.YtgfdhkhcojjkjaaGreatDoor.Hx
