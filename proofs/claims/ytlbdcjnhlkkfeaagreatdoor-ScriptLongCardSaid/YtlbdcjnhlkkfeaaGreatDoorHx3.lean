/- Rules by which what is left of segments is laid together. -/
import Derived.Test.YtlbdcjnhlkkfeaaGreatDoorHxY
namespace Go.Proofs.YtlbdcjnhlkkfeaaGreatDoor.Hx
section
variable {C : Cfg} {n : Nat} {Q : X → Rho → Hp → Prop} {ρ : Rho} {h : Hp}
theorem Wp.of {c : Code} {P : Prop} (e : codeR C n c Q ρ h = P) (hp : P) : Wp C n c Q ρ h := Wp.code c (e.mpr hp)
theorem oSm {α : Type} {a : α} {k : α → Prop} (h : k a) : oP (some a) k := h
theorem oM {α : Type} {x : Option α} {k k' : α → Prop} (h : oP x k) (f : ∀ a, x = some a → k a → k' a) : oP x k' := by
  grind[oP_eq,oP_mk]
theorem bM {v : V} {a b a' b' : Prop} (h : bP v a b) (f : a → a') (g : b → b') : bP v a' b' := by
  unfold bP at h ⊢
  split at h
  · rename_i x
    cases x <;> grind
  omega
theorem dcM {f : Nat} {l : List V} {k k' : V → Hp → Prop} (h' : cP C f l h k) (F : ∀ v h', k v h' → k' v h') : dcP C f l h k' := by
  show cP C f l h k'
  exact h'.mono F
theorem calM {x : Option R} {k k' : V → Hp → Prop} (h' : calP C x h k) (F : ∀ v h', k v h' → k' v h') : calP C x h k' :=
  oM h' (by grind[cP.mono])
theorem cgM {x : Option (Nat × List V)} {k k' : V → Hp → Prop} (h' : cgP C x h k) (F : ∀ v h', k v h' → k' v h') : cgP C x h k' := by
  cases x with
  | none => simp_all
  | some y => exact cP.mono h' F
theorem alM {x : Option (O × (Nat → V))} {k k' : V → Hp → Prop} (h' : alP x h k) (F : ∀ v h', k v h' → k' v h') : alP x h k' :=
  oM h' (by simp_all)
theorem alOM {x : Option (O × (Nat → V))} {k k' : O → V → Hp → Prop} (h' : alO x h k) (F : ∀ o v h', k o v h' → k' o v h') : alO x h k' :=
  oM h' (by simp_all)
theorem valM {x : Option R} {k k' : V → Hp → Prop} (h' : valP x k) (F : ∀ v h', k v h' → k' v h') : valP x k' :=
  oM h' (by simp_all)
theorem ghM {b : Bool} {x : Option (V × Hp)} {k k' : V → Hp → Prop} (h' : ghP b h x k) (F : ∀ v h', k v h' → k' v h') : ghP b h x k' :=
  oM h' (by simp_all)
end
theorem anM {a b c : Prop} (h : c ∧ a) (f : a → b) : c ∧ b := by simp_all
@[simp] theorem O.beq_cells (e sz : Nat) (a r : Bool) (cs : List V) : O.beq (.cells e sz a r cs) (.cells e sz a r cs) = true := by
  simp [O.beq, V.beqs_self]
@[simp] theorem O.beq_map (c : Nat) : O.beq (.map [] c) (.map [] c) = true := by simp [O.beq]
/-! ### what is asked only if -/
/-- One of two, the second one only where the first one does not hold. -/
def pOr (c : V) (X : Option V) : Option V := match c with
  | .bool true => some (.bool true)
  | .bool false => X
  | _ => none
/-- Both of two, the second one only where the first one holds. -/
def pAnd (c : V) (X : Option V) : Option V := match c with
  | .bool false => some (.bool false)
  | .bool true => X
  | _ => none
@[simp] theorem pOr_true (X : Option V) : pOr (.bool true) X = some (.bool true) := rfl
@[simp] theorem pOr_false (X : Option V) : pOr (.bool false) X = X := rfl
@[simp] theorem pAnd_true (X : Option V) : pAnd (.bool true) X = X := rfl
@[simp] theorem pAnd_false (X : Option V) : pAnd (.bool false) X = some (.bool false) := rfl
@[simp] theorem pOr_bool (c d : Bool) : pOr (.bool c) (some (.bool d)) = some (.bool (c || d)) := by cases c <;> rfl
@[simp] theorem pAnd_bool (c d : Bool) : pAnd (.bool c) (some (.bool d)) = some (.bool (c && d)) := by cases c <;> rfl
theorem pOr_of {c d : Bool} {X : Option V} (h : c = false → X = some (.bool d)) : pOr (.bool c) X = some (.bool (c || d)) := by
  cases c <;> simp_all
theorem pAnd_of {c d : Bool} {X : Option V} (h : c = true → X = some (.bool d)) : pAnd (.bool c) X = some (.bool (c && d)) := by
  cases c <;> simp_all
theorem thn {A B : Prop} (a : A) (f : A → B) : B := f a
section
variable {c c' Xc : V} {X X' : Option V} {K : V → Prop} {f : V → Option V} {w b0 : Bool}
theorem or_open (H : oP (pOr c X) K) : oP (pGd false c) fun b => oP (gV b X) fun v => oP (pPick c (.bool true) v) K := by
  unfold pOr at H
  split at H
  · exact H
  · exact H
  · exact H.elim
theorem and_open (H : oP (pAnd c X) K) : oP (pGd true c) fun b => oP (gV b X) fun v => oP (pPick c v (.bool false)) K := by
  unfold pAnd at H
  split at H
  · exact H
  · exact H
  · exact H.elim
theorem sG1 {R : Bool → V → Prop} (H : oP (pGd w c) fun b => oP (gV b (oB X f)) K) (F : ∀ b, pGd w c = some b → ∀ v, gV b X = some v → (oP (pGd w c) fun b => oP (gV b (f v)) K) → R b v) : oP (pGd w c) fun b => oP (gV b X) fun v => R b v := by
  let ⟨b, h1, h2⟩ := oP_eq.1 H
  refine oP_mk h1 ?_
  cases b with
  | true =>
    grind[oP_eq,oB_eq,gV]
  | false => simp_all
theorem sNor {Xo : Option V} {b1 : Bool} (G : pGd w c = some b1) (E : gV b1 Xo = some c') (H : oP (pGd w c) fun b => oP (gV b (oB (pOr c' X') f)) K) :
    oP (pGd false c') fun b' => oP (gV b' X') fun v' => oP (pGd w c) fun b => oP (gV b (pPick c' (.bool true) v')) fun v => oP (pGd w c) fun b => oP (gV b (f v)) K := by
  let ⟨b, h1, h2⟩ := oP_eq.1 H
  rw [G] at h1; cases h1
  cases b1 with
  | true =>
    let ⟨v, h3, h4⟩ := oP_eq.1 h2
    let ⟨x, h5, h6⟩ := oB_eq.1 (h3)
    unfold pOr at h5
    split at h5
    · cases h5; simp_all
    · simp_all
    · cases h5
  | false =>
    cases E
    exact oP_mk rfl (by simp_all)
theorem sNor' {Xo : Option V} {b1 : Bool} (G : pGd w c = some b1) (E : gV b1 Xo = some c') (H : oP (pGd w c) fun b => oP (gV b (pOr c' X')) K) :
    oP (pGd false c') fun b' => oP (gV b' X') fun v' => oP (pGd w c) fun b => oP (gV b (pPick c' (.bool true) v')) K := by
  let ⟨b, h1, h2⟩ := oP_eq.1 H
  rw [G] at h1; cases h1
  cases b1 with
  | true =>
    let ⟨v, h3, h4⟩ := oP_eq.1 h2
    have h5 := h3
    unfold pOr at h5
    split at h5
    · cases h5; simp_all
    · simp_all
    · cases h5
  | false =>
    cases E
    exact oP_mk rfl (by simp_all)
theorem sNand {Xo : Option V} {b1 : Bool} (G : pGd w c = some b1) (E : gV b1 Xo = some c') (H : oP (pGd w c) fun b => oP (gV b (oB (pAnd c' X') f)) K) :
    oP (pGd true c') fun b' => oP (gV b' X') fun v' => oP (pGd w c) fun b => oP (gV b (pPick c' v' (.bool false))) fun v => oP (pGd w c) fun b => oP (gV b (f v)) K := by
  let ⟨b, h1, h2⟩ := oP_eq.1 H
  rw [G] at h1; cases h1
  cases b1 with
  | true =>
    let ⟨v, h3, h4⟩ := oP_eq.1 h2
    let ⟨x, h5, h6⟩ := oB_eq.1 (h3)
    unfold pAnd at h5
    split at h5
    · cases h5; simp_all
    · simp_all
    · cases h5
  | false =>
    cases E
    exact oP_mk rfl (by simp_all)
theorem sNand' {Xo : Option V} {b1 : Bool} (G : pGd w c = some b1) (E : gV b1 Xo = some c') (H : oP (pGd w c) fun b => oP (gV b (pAnd c' X')) K) :
    oP (pGd true c') fun b' => oP (gV b' X') fun v' => oP (pGd w c) fun b => oP (gV b (pPick c' v' (.bool false))) K := by
  let ⟨b, h1, h2⟩ := oP_eq.1 H
  rw [G] at h1; cases h1
  cases b1 with
  | true =>
    let ⟨v, h3, h4⟩ := oP_eq.1 h2
    have h5 := h3
    unfold pAnd at h5
    split at h5
    · cases h5; simp_all
    · simp_all
    · cases h5
  | false =>
    cases E
    exact oP_mk rfl (by simp_all)
theorem gT_of {b : Bool} {v : V} (E : gV b X = some v) : gT b (X = some v) := by
  cases b <;> simp_all
end
end Go.Proofs.YtlbdcjnhlkkfeaaGreatDoor.Hx
