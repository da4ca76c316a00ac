/- Chapter 30's text, plainly: numbers and words as rows of bytes; what is printed is read again. -/
import Derived.Lib.ItoaNum
namespace Go.Proofs.YtdpfhajggknfaaaGreatDoor.Tx
open Go.Lib

abbrev Bs := List UInt8
def isDig (c : UInt8) : Bool := Nat.ble 48 c.toNat && Nat.ble c.toNat 57
/-- What digits come to, behind a number. -/
def valD : Bs → Nat → Nat
  | [], n => n
  | c :: s, n => valD s (10 * n + (c.toNat - 48))
/-- Digits without a 0 ahead, up to 2^62. -/
def pNat (s : Bs) : Option Nat :=
  match s with
  | [] => none
  | c :: r => bif (!(c.toNat == 48 && !r.isEmpty)) && (s.length ≤ 19) && s.all isDig && (valD s 0 ≤ 4611686018427387904) then some (valD s 0) else none
/-- An int. -/
def pInt (s : Bs) : Option Int :=
  match s with
  | 45 :: r => match pNat r with
    | some (n + 1) => some (-((n : Int) + 1))
    | _ => none
  | s => (pNat s).map fun n => (n : Int)
/-- Words by one blank. -/
def split (c : UInt8) : Bs → List Bs
  | [] => [[]]
  | x :: s => bif x == c then [] :: split c s else match split c s with
    | [] => [[x]]
    | w :: ws => (x :: w) :: ws
theorem split_ne (c : UInt8) : ∀ s, split c s ≠ []
  | [] => by simp [split]
  | x :: s => by
    unfold split
    cases x == c
    · simp only [cond_false]
      split <;> simp
    · simp

/-! ### digits -/
theorem valD_append : ∀ (s t : Bs) (n : Nat), valD (s ++ t) n = valD t (valD s n)
  | [], _, _ => rfl
  | _ :: s, t, _ => valD_append s t _
theorem dig_of (k : Nat) (h : k < 10) : isDig (UInt8.ofNat (48 + k)) = true ∧ (UInt8.ofNat (48 + k)).toNat = 48 + k := by
  have : (UInt8.ofNat (48 + k)).toNat = 48 + k := by simp; omega
  refine ⟨?_, this⟩
  unfold isDig
  rw [this]
  simp; omega
theorem dec_all (u : Nat) : (decDigits u).all isDig = true := by
  induction u using Nat.strongRecOn with
  | _ u ih =>
    rw [decDigits]
    split
    · rename_i h
      simp only [List.all_cons, List.all_nil, Bool.and_true]
      exact (dig_of u h).1
    · rename_i h
      simp only [List.all_append, ih (u / 10) (by omega), List.all_cons, List.all_nil, Bool.and_true, Bool.true_and]
      exact (dig_of _ (Nat.mod_lt _ (by omega))).1
theorem dec_val (u : Nat) : valD (decDigits u) 0 = u := by
  induction u using Nat.strongRecOn with
  | _ u ih =>
    rw [decDigits]
    split
    · rename_i h; simp only [valD, (dig_of u h).2]; omega
    · rename_i h
      rw [valD_append, ih (u / 10) (by omega)]
      simp only [valD, (dig_of _ (Nat.mod_lt u (by omega : 0 < 10))).2]
      omega
theorem dec_ne (u : Nat) : decDigits u ≠ [] := by
  rw [decDigits]
  split <;> simp
/-- The first digit of a number above 0 is not 0. -/
theorem dec_head (u : Nat) (hu : 0 < u) : ∃ c r, decDigits u = c :: r ∧ c.toNat ≠ 48 := by
  induction u using Nat.strongRecOn with
  | _ u ih =>
    rw [decDigits]
    split
    · rename_i h; exact ⟨_, [], rfl, by rw [(dig_of u h).2]; omega⟩
    · rename_i h
      obtain ⟨c, r, h1, h2⟩ := ih (u / 10) (by omega) (by omega)
      exact ⟨c, _, by rw [h1]; rfl, h2⟩
theorem dec_len (u k : Nat) (h : u < 10 ^ (k + 1)) : (decDigits u).length ≤ k + 1 := by
  induction k generalizing u with
  | zero =>
    rw [decDigits, dif_pos (by simpa using h)]; simp
  | succ k ih =>
    rw [decDigits]
    split
    · simp
    · have := ih (u / 10) (by rw [Nat.pow_succ] at h; omega)
      simp; omega
theorem pNat_dec (u : Nat) (hu : u ≤ 4611686018427387904) : pNat (decDigits u) = some u := by
  have h1 := dec_all u
  have h2 := dec_val u
  have h3 := dec_len u 18 (by omega)
  cases hd : decDigits u with
  | nil => exact absurd hd (dec_ne u)
  | cons c r =>
    rw [hd] at h1 h2 h3
    have h4 : (c.toNat == 48 && !r.isEmpty) = false := by
      by_cases h0 : u = 0
      · subst h0
        have : r = [] := by
          have h5 : decDigits 0 = [UInt8.ofNat (48 + 0)] := by rw [decDigits, dif_pos (by omega)]
          rw [hd] at h5
          exact (List.cons.inj h5).2
        subst this; simp
      · obtain ⟨c', r', h5, h6⟩ := dec_head u (by omega)
        rw [hd] at h5
        obtain ⟨rfl, rfl⟩ := List.cons.inj h5
        simp [h6]
    have h3' : (c :: r).length ≤ 19 := h3
    show (bif (!(c.toNat == 48 && !r.isEmpty)) && decide ((c :: r).length ≤ 19) && (c :: r).all isDig && decide (valD (c :: r) 0 ≤ 4611686018427387904) then some (valD (c :: r) 0) else none) = some u
    rw [h4, h1, h2, decide_eq_true h3', decide_eq_true hu]
    rfl
theorem pInt_itoa (n : Int) (h0 : -4611686018427387904 ≤ n) (h1 : n ≤ 4611686018427387904) : pInt (itoa n) = some n := by
  unfold itoa
  split
  · rename_i h
    have := pNat_dec n.natAbs (by omega)
    unfold pInt
    simp only [this]
    obtain ⟨k, hk⟩ : ∃ k, n.natAbs = k + 1 := ⟨n.natAbs - 1, by omega⟩
    rw [hk]
    simp only [Option.some.injEq]
    omega
  · rename_i h
    have hp := pNat_dec n.toNat (by omega)
    have hm : ∀ r, decDigits n.toNat ≠ 45 :: r := by
      intro r hr
      have := dec_all n.toNat
      rw [hr] at this
      simp [isDig] at this
    have : pInt (decDigits n.toNat) = (pNat (decDigits n.toNat)).map fun n => (n : Int) := by
      unfold pInt
      split
      · rename_i r hr; exact absurd hr (hm r)
      · rfl
    rw [this, hp]
    simp; omega
theorem isDig_iff (c : UInt8) : isDig c = true ↔ 48 ≤ c.toNat ∧ c.toNat ≤ 57 := by
  unfold isDig
  rw [Bool.and_eq_true, Nat.ble_eq, Nat.ble_eq]
theorem valD_pos : ∀ (s : Bs) (n : Nat), 0 < n → 0 < valD s n
  | [], _, h => h
  | _ :: s, _, h => valD_pos s _ (by omega)
/-- Digits behind a number above 0 are that number's and its digits'. -/
theorem dec_valD : ∀ (s : Bs) (n : Nat), 0 < n → s.all isDig = true → decDigits (valD s n) = decDigits n ++ s
  | [], n, _, _ => by simp [valD]
  | c :: s, n, hn, h => by
    simp only [List.all_cons, Bool.and_eq_true] at h
    have hc := (isDig_iff c).1 h.1
    rw [valD, dec_valD s _ (by omega) h.2]
    have : decDigits (10 * n + (c.toNat - 48)) = decDigits n ++ [c] := by
      rw [decDigits, dif_neg (by omega)]
      have e1 : (10 * n + (c.toNat - 48)) / 10 = n := by omega
      have e2 : 48 + (10 * n + (c.toNat - 48)) % 10 = c.toNat := by omega
      rw [e1, e2]
      simp
    rw [this, List.append_assoc]; rfl
theorem dec_pNat {s : Bs} {n : Nat} (h : pNat s = some n) : decDigits n = s ∧ n ≤ 4611686018427387904 := by
  unfold pNat at h
  split at h
  · cases h
  · rename_i c r
    cases hb : ((!(c.toNat == 48 && !r.isEmpty)) && decide ((c :: r).length ≤ 19) && (c :: r).all isDig && decide (valD (c :: r) 0 ≤ 4611686018427387904)) with
    | false => rw [hb] at h; cases h
    | true =>
      rw [hb] at h
      cases h
      simp only [Bool.and_eq_true, decide_eq_true_eq, List.all_cons, Bool.not_eq_true'] at hb
      obtain ⟨⟨⟨h1, h2⟩, h3, h4⟩, h5⟩ := hb
      refine ⟨?_, h5⟩
      have hc := (isDig_iff c).1 h3
      cases r with
      | nil =>
        simp only [valD]
        rw [decDigits, dif_pos (by omega)]
        have : 48 + (10 * 0 + (c.toNat - 48)) = c.toNat := by omega
        rw [this]; simp
      | cons d r =>
        have h0 : c.toNat ≠ 48 := by simpa using h1
        rw [valD, dec_valD _ _ (by omega) h4, decDigits, dif_pos (by omega)]
        have : 48 + (10 * 0 + (c.toNat - 48)) = c.toNat := by omega
        rw [this]; simp
theorem itoa_pInt {s : Bs} {n : Int} (h : pInt s = some n) : itoa n = s ∧ -4611686018427387904 ≤ n ∧ n ≤ 4611686018427387904 := by
  unfold pInt at h
  split at h
  · rename_i r
    split at h
    · rename_i k hk
      cases h
      obtain ⟨h1, h2⟩ := dec_pNat hk
      refine ⟨?_, by omega, by omega⟩
      unfold itoa
      rw [if_pos (by omega)]
      have : (-((k : Int) + 1)).natAbs = k + 1 := by omega
      rw [this, h1]
    · cases h
  · cases hk : pNat s with
    | none => rw [hk] at h; cases h
    | some k =>
    rw [hk] at h
    obtain rfl : (k : Int) = n := Option.some.inj h
    obtain ⟨h1, h2⟩ := dec_pNat hk
    refine ⟨?_, by omega, by omega⟩
    unfold itoa
    rw [if_neg (by omega)]
    simpa using h1

/-! ### words -/
theorem split_word (c : UInt8) : ∀ (w s : Bs), (∀ x ∈ w, x ≠ c) → split c (w ++ c :: s) = w :: split c s
  | [], s, _ => by simp [split]
  | x :: w, s, h => by
    have hx : (x == c) = false := by simpa using h x (by simp)
    have ih := split_word c w s (fun y hy => h y (by simp [hy]))
    simp only [List.cons_append, split, hx, cond_false, ih]
theorem split_last (c : UInt8) : ∀ (w : Bs), (∀ x ∈ w, x ≠ c) → split c w = [w]
  | [], _ => rfl
  | x :: w, h => by
    have hx : (x == c) = false := by simpa using h x (by simp)
    have ih := split_last c w (fun y hy => h y (by simp [hy]))
    simp only [split, hx, cond_false, ih]
/-- Words with a blank ahead of each. -/
def tail (c : UInt8) (l : List Bs) : Bs := l.flatMap fun w => c :: w
theorem split_join (c : UInt8) (w : Bs) (l : List Bs) (hw : ∀ x ∈ w, x ≠ c) (hl : ∀ v ∈ l, ∀ x ∈ v, x ≠ c) : split c (w ++ tail c l) = w :: l := by
  induction l generalizing w with
  | nil => simp [tail, split_last c w hw]
  | cons v l ih =>
    have : w ++ tail c (v :: l) = w ++ c :: (v ++ tail c l) := by simp [tail]
    rw [this, split_word c w _ hw, ih v (hl v (by simp)) (fun u hu => hl u (by simp [hu]))]
/-- The words of a text are the text. -/
theorem join_split (c : UInt8) : ∀ (s : Bs), ∃ w l, split c s = w :: l ∧ w ++ tail c l = s
  | [] => ⟨[], [], rfl, rfl⟩
  | x :: s => by
    obtain ⟨w, l, h1, h2⟩ := join_split c s
    unfold split
    cases hx : x == c with
    | true =>
      have : x = c := by simpa using hx
      subst this
      exact ⟨[], split x s, rfl, by rw [h1]; simp [tail] at h2 ⊢; exact h2⟩
    | false =>
      simp only [cond_false, h1]
      exact ⟨x :: w, l, rfl, by simp [h2]⟩
theorem itoa_blank (n : Int) : ∀ x ∈ itoa n, x ≠ 32 := by
  intro x hx e
  subst e
  have key : ∀ u, (32 : UInt8) ∉ decDigits u := by
    intro u hu
    have := List.all_eq_true.1 (dec_all u) _ hu
    simp [isDig] at this
  unfold itoa at hx
  split at hx
  · cases hx with
    | tail _ hx => exact key _ hx
  · exact key _ hx
end Go.Proofs.YtdpfhajggknfaaaGreatDoor.Tx
