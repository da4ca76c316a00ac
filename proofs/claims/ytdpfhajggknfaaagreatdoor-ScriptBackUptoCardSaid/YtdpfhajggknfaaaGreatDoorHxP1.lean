/- Chapter 30's text, plainly: words, numbers, lines; what is printed is parsed to it, what is parsed is printed as it. -/
import Derived.Lib.ItoaNum
namespace Go.Proofs.YtdpfhajggknfaaaGreatDoor.Tx
open Go.Lib

abbrev Bs := List UInt8
def isDig (c : UInt8) : Bool := Nat.ble 48 c.toNat && Nat.ble c.toNat 57
/-- What digits come to, behind a number. -/
def valD : Bs → Nat → Nat
  | [], n => n
  | c :: s, n => valD s (10 * n + (c.toNat - 48))
/-- Digits without a 0 ahead, up to 2^62. -/
def pNat (s : Bs) : Option Nat :=
  match s with
  | [] => none
  | c :: r => bif (!(c.toNat == 48 && !r.isEmpty)) && (s.length ≤ 19) && s.all isDig && (valD s 0 ≤ 4611686018427387904) then some (valD s 0) else none
/-- An int. -/
def pInt (s : Bs) : Option Int :=
  match s with
  | 45 :: r => match pNat r with
    | some (n + 1) => some (-((n : Int) + 1))
    | _ => none
  | s => (pNat s).map fun n => (n : Int)
/-- Words by one blank. -/
def split (c : UInt8) : Bs → List Bs
  | [] => [[]]
  | x :: s => bif x == c then [] :: split c s else match split c s with
    | [] => [[x]]
    | w :: ws => (x :: w) :: ws
theorem split_ne (c : UInt8) : ∀ s, split c s ≠ []
  | [] => by simp [split]
  | x :: s => by
    unfold split
    cases x == c
    · simp only [cond_false]
      split <;> simp
    · simp

/-! ### digits -/
theorem valD_append : ∀ (s t : Bs) (n : Nat), valD (s ++ t) n = valD t (valD s n)
  | [], _, _ => rfl
  | _ :: s, t, _ => valD_append s t _
theorem dig_of (k : Nat) (h : k < 10) : isDig (UInt8.ofNat (48 + k)) = true ∧ (UInt8.ofNat (48 + k)).toNat = 48 + k := by
  have : (UInt8.ofNat (48 + k)).toNat = 48 + k := by simp; omega
  refine ⟨?_, this⟩
  unfold isDig
  rw [this]
  simp; omega
theorem dec_all (u : Nat) : (decDigits u).all isDig = true := by
  induction u using Nat.strongRecOn with
  | _ u ih =>
    rw [decDigits]
    split
    · rename_i h
      simp only [List.all_cons, List.all_nil, Bool.and_true]
      exact (dig_of u h).1
    · rename_i h
      simp only [List.all_append, ih (u / 10) (by omega), List.all_cons, List.all_nil, Bool.and_true, Bool.true_and]
      exact (dig_of _ (Nat.mod_lt _ (by omega))).1
theorem dec_val (u : Nat) : valD (decDigits u) 0 = u := by
  induction u using Nat.strongRecOn with
  | _ u ih =>
    rw [decDigits]
    split
    · rename_i h; simp only [valD, (dig_of u h).2]; omega
    · rename_i h
      rw [valD_append, ih (u / 10) (by omega)]
      simp only [valD, (dig_of _ (Nat.mod_lt u (by omega : 0 < 10))).2]
      omega
theorem dec_ne (u : Nat) : decDigits u ≠ [] := by
  rw [decDigits]
  split <;> simp
/-- The first digit of a number above 0 is not 0. -/
theorem dec_head (u : Nat) (hu : 0 < u) : ∃ c r, decDigits u = c :: r ∧ c.toNat ≠ 48 := by
  induction u using Nat.strongRecOn with
  | _ u ih =>
    rw [decDigits]
    split
    · rename_i h; exact ⟨_, [], rfl, by rw [(dig_of u h).2]; omega⟩
    · rename_i h
      obtain ⟨c, r, h1, h2⟩ := ih (u / 10) (by omega) (by omega)
      exact ⟨c, _, by rw [h1]; rfl, h2⟩
theorem dec_len (u k : Nat) (h : u < 10 ^ (k + 1)) : (decDigits u).length ≤ k + 1 := by
  induction k generalizing u with
  | zero =>
    rw [decDigits, dif_pos (by simpa using h)]; simp
  | succ k ih =>
    rw [decDigits]
    split
    · simp
    · have := ih (u / 10) (by rw [Nat.pow_succ] at h; omega)
      simp; omega
theorem pNat_dec (u : Nat) (hu : u ≤ 4611686018427387904) : pNat (decDigits u) = some u := by
  have h1 := dec_all u
  have h2 := dec_val u
  have h3 := dec_len u 18 (by omega)
  cases hd : decDigits u with
  | nil => exact absurd hd (dec_ne u)
  | cons c r =>
    rw [hd] at h1 h2 h3
    have h4 : (c.toNat == 48 && !r.isEmpty) = false := by
      by_cases h0 : u = 0
      · subst h0
        have : r = [] := by
          have h5 : decDigits 0 = [UInt8.ofNat (48 + 0)] := by rw [decDigits, dif_pos (by omega)]
          rw [hd] at h5
          exact (List.cons.inj h5).2
        subst this; simp
      · obtain ⟨c', r', h5, h6⟩ := dec_head u (by omega)
        rw [hd] at h5
        obtain ⟨rfl, rfl⟩ := List.cons.inj h5
        simp [h6]
    have h3' : (c :: r).length ≤ 19 := h3
    show (bif (!(c.toNat == 48 && !r.isEmpty)) && decide ((c :: r).length ≤ 19) && (c :: r).all isDig && decide (valD (c :: r) 0 ≤ 4611686018427387904) then some (valD (c :: r) 0) else none) = some u
    rw [h4, h1, h2, decide_eq_true h3', decide_eq_true hu]
    rfl
theorem pInt_itoa (n : Int) (h0 : -4611686018427387904 ≤ n) (h1 : n ≤ 4611686018427387904) : pInt (itoa n) = some n := by
  unfold itoa
  split
  · rename_i h
    have := pNat_dec n.natAbs (by omega)
    unfold pInt
    simp only [this]
    obtain ⟨k, hk⟩ : ∃ k, n.natAbs = k + 1 := ⟨n.natAbs - 1, by omega⟩
    rw [hk]
    simp only [Option.some.injEq]
    omega
  · rename_i h
    have hp := pNat_dec n.toNat (by omega)
    have hm : ∀ r, decDigits n.toNat ≠ 45 :: r := by
      intro r hr
      have := dec_all n.toNat
      rw [hr] at this
      simp [isDig] at this
    have : pInt (decDigits n.toNat) = (pNat (decDigits n.toNat)).map fun n => (n : Int) := by
      unfold pInt
      split
      · rename_i r hr; exact absurd hr (hm r)
      · rfl
    rw [this, hp]
    simp; omega
theorem isDig_iff (c : UInt8) : isDig c = true ↔ 48 ≤ c.toNat ∧ c.toNat ≤ 57 := by
  unfold isDig
  rw [Bool.and_eq_true, Nat.ble_eq, Nat.ble_eq]
theorem valD_pos : ∀ (s : Bs) (n : Nat), 0 < n → 0 < valD s n
  | [], _, h => h
  | _ :: s, _, h => valD_pos s _ (by omega)
/-- Digits behind a number above 0 are that number's and its digits'. -/
theorem dec_valD : ∀ (s : Bs) (n : Nat), 0 < n → s.all isDig = true → decDigits (valD s n) = decDigits n ++ s
  | [], n, _, _ => by simp [valD]
  | c :: s, n, hn, h => by
    simp only [List.all_cons, Bool.and_eq_true] at h
    have hc := (isDig_iff c).1 h.1
    rw [valD, dec_valD s _ (by omega) h.2]
    have : decDigits (10 * n + (c.toNat - 48)) = decDigits n ++ [c] := by
      rw [decDigits, dif_neg (by omega)]
      have e1 : (10 * n + (c.toNat - 48)) / 10 = n := by omega
      have e2 : 48 + (10 * n + (c.toNat - 48)) % 10 = c.toNat := by omega
      rw [e1, e2]
      simp
    rw [this, List.append_assoc]; rfl
theorem dec_pNat {s : Bs} {n : Nat} (h : pNat s = some n) : decDigits n = s ∧ n ≤ 4611686018427387904 := by
  unfold pNat at h
  split at h
  · cases h
  · rename_i c r
    cases hb : ((!(c.toNat == 48 && !r.isEmpty)) && decide ((c :: r).length ≤ 19) && (c :: r).all isDig && decide (valD (c :: r) 0 ≤ 4611686018427387904)) with
    | false => rw [hb] at h; cases h
    | true =>
      rw [hb] at h
      cases h
      simp only [Bool.and_eq_true, decide_eq_true_eq, List.all_cons, Bool.not_eq_true'] at hb
      obtain ⟨⟨⟨h1, h2⟩, h3, h4⟩, h5⟩ := hb
      refine ⟨?_, h5⟩
      have hc := (isDig_iff c).1 h3
      cases r with
      | nil =>
        simp only [valD]
        rw [decDigits, dif_pos (by omega)]
        have : 48 + (10 * 0 + (c.toNat - 48)) = c.toNat := by omega
        rw [this]; simp
      | cons d r =>
        have h0 : c.toNat ≠ 48 := by simpa using h1
        rw [valD, dec_valD _ _ (by omega) h4, decDigits, dif_pos (by omega)]
        have : 48 + (10 * 0 + (c.toNat - 48)) = c.toNat := by omega
        rw [this]; simp
theorem itoa_pInt {s : Bs} {n : Int} (h : pInt s = some n) : itoa n = s ∧ -4611686018427387904 ≤ n ∧ n ≤ 4611686018427387904 := by
  unfold pInt at h
  split at h
  · rename_i r
    split at h
    · rename_i k hk
      cases h
      obtain ⟨h1, h2⟩ := dec_pNat hk
      refine ⟨?_, by omega, by omega⟩
      unfold itoa
      rw [if_pos (by omega)]
      have : (-((k : Int) + 1)).natAbs = k + 1 := by omega
      rw [this, h1]
    · cases h
  · cases hk : pNat s with
    | none => rw [hk] at h; cases h
    | some k =>
    rw [hk] at h
    obtain rfl : (k : Int) = n := Option.some.inj h
    obtain ⟨h1, h2⟩ := dec_pNat hk
    refine ⟨?_, by omega, by omega⟩
    unfold itoa
    rw [if_neg (by omega)]
    simpa using h1

/-! ### words -/
theorem split_word (c : UInt8) : ∀ (w s : Bs), (∀ x ∈ w, x ≠ c) → split c (w ++ c :: s) = w :: split c s
  | [], s, _ => by simp [split]
  | x :: w, s, h => by
    have hx : (x == c) = false := by simpa using h x (by simp)
    have ih := split_word c w s (fun y hy => h y (by simp [hy]))
    simp only [List.cons_append, split, hx, cond_false, ih]
theorem split_last (c : UInt8) : ∀ (w : Bs), (∀ x ∈ w, x ≠ c) → split c w = [w]
  | [], _ => rfl
  | x :: w, h => by
    have hx : (x == c) = false := by simpa using h x (by simp)
    have ih := split_last c w (fun y hy => h y (by simp [hy]))
    simp only [split, hx, cond_false, ih]
/-- Words with a blank ahead of each. -/
def tail (c : UInt8) (l : List Bs) : Bs := l.flatMap fun w => c :: w
theorem split_join (c : UInt8) (w : Bs) (l : List Bs) (hw : ∀ x ∈ w, x ≠ c) (hl : ∀ v ∈ l, ∀ x ∈ v, x ≠ c) : split c (w ++ tail c l) = w :: l := by
  induction l generalizing w with
  | nil => simp [tail, split_last c w hw]
  | cons v l ih =>
    have : w ++ tail c (v :: l) = w ++ c :: (v ++ tail c l) := by simp [tail]
    rw [this, split_word c w _ hw, ih v (hl v (by simp)) (fun u hu => hl u (by simp [hu]))]
/-- The words of a text are the text. -/
theorem join_split (c : UInt8) : ∀ (s : Bs), ∃ w l, split c s = w :: l ∧ w ++ tail c l = s
  | [] => ⟨[], [], rfl, rfl⟩
  | x :: s => by
    obtain ⟨w, l, h1, h2⟩ := join_split c s
    unfold split
    cases hx : x == c with
    | true =>
      have : x = c := by simpa using hx
      subst this
      exact ⟨[], split x s, rfl, by rw [h1]; simp [tail] at h2 ⊢; exact h2⟩
    | false =>
      simp only [cond_false, h1]
      exact ⟨x :: w, l, rfl, by simp [h2]⟩
theorem itoa_blank (n : Int) : ∀ x ∈ itoa n, x ≠ 32 := by
  intro x hx e
  subst e
  have key : ∀ u, (32 : UInt8) ∉ decDigits u := by
    intro u hu
    have := List.all_eq_true.1 (dec_all u) _ hu
    simp [isDig] at this
  unfold itoa at hx
  split at hx
  · cases hx with
    | tail _ hx => exact key _ hx
  · exact key _ hx
end Go.Proofs.YtdpfhajggknfaaaGreatDoor.Tx
namespace Go.Proofs.YtdpfhajggknfaaaGreatDoor.Tx
open Go.Lib

structure Ev where
  kind : Int
  f : Int
  pc : Int
  n : Int
  cf : Int
  cpc : Int
  cy : Int
  cn : Int
  ty : List (Int × Int)
def ev0 : Ev := ⟨0, 0, 0, 0, 0, 0, 0, 0, []⟩
def nStep : Bs := [115, 116, 101, 112]
def nCompile : Bs := [99, 111, 109, 112, 105, 108, 101]
def nEnter : Bs := [101, 110, 116, 101, 114]
def nEvict : Bs := [101, 118, 105, 99, 116]
def nInvalidate : Bs := [105, 110, 118, 97, 108, 105, 100, 97, 116, 101]
def nCount : Bs := [99, 111, 117, 110, 116]
def nAuto : Bs := [97, 117, 116, 111]
def names : List Bs := [nStep, nCompile, nEnter, nEvict, nInvalidate, nCount, nAuto]
/-- A kind's name. -/
def nameOf (k : Nat) : Bs := (names[k - 1]?).getD []
/-- A name's kind; 0: none. -/
def kindOf (w : Bs) : Nat := if w = nStep then 1 else if w = nCompile then 2 else if w = nEnter then 3 else if w = nEvict then 4 else if w = nInvalidate then 5 else if w = nCount then 6 else if w = nAuto then 7 else 0
def pairs : List Int → Option (List (Int × Int))
  | [] => some []
  | a :: b :: l => (pairs l).map ((a, b) :: ·)
  | _ => none
def flat : List (Int × Int) → List Int
  | [] => []
  | x :: l => x.1 :: x.2 :: flat l
theorem pairs_flat : ∀ l, pairs (flat l) = some l
  | [] => rfl
  | x :: l => by simp [flat, pairs, pairs_flat l]
theorem flat_pairs : ∀ {l : List Int} {ts}, pairs l = some ts → flat ts = l
  | [], ts, h => by simp [pairs] at h; subst h; rfl
  | [_], ts, h => by simp [pairs] at h
  | a :: b :: l, ts, h => by
    simp only [pairs, Option.map_eq_some_iff] at h
    obtain ⟨t, h1, rfl⟩ := h
    simp [flat, flat_pairs h1]
/-- An event of a kind by its numbers. -/
def evOf (k : Nat) (ns : List Int) : Option Ev :=
  match k, ns with
  | 1, [a] => some { ev0 with kind := 1, n := a }
  | 2, [a, b] => some { ev0 with kind := 2, f := a, pc := b }
  | 3, [a] => some { ev0 with kind := 3, n := a }
  | 4, [a, b] => some { ev0 with kind := 4, f := a, pc := b }
  | 5, [a] => some { ev0 with kind := 5, f := a }
  | 6, a :: b :: c :: d :: l => match pairs l with
    | some ts => if ts.length ≤ 8 then some { ev0 with kind := 6, cf := a, cpc := b, cy := c, cn := d, ty := ts } else none
    | none => none
  | 7, [a] => some { ev0 with kind := 7, n := a }
  | _, _ => none
def readAll : List Bs → Option (List Int)
  | [] => some []
  | w :: ws => match pInt w with
    | some n => (readAll ws).map (n :: ·)
    | none => none
/-- A line as an event. -/
def parseM (line : Bs) : Option Ev := match split 32 line with
  | [] => none
  | w :: ws => match readAll ws with
    | some ns => evOf (kindOf w) ns
    | none => none
/-- The numbers of an event's line. -/
def intsOf (e : Ev) : Option (List Int) :=
  if e.kind = 1 ∨ e.kind = 3 ∨ e.kind = 7 then some [e.n]
  else if e.kind = 2 ∨ e.kind = 4 then some [e.f, e.pc]
  else if e.kind = 5 then some [e.f]
  else if e.kind = 6 then (if e.ty.length ≤ 8 then some (e.cf :: e.cpc :: e.cy :: e.cn :: flat e.ty) else none)
  else none
def fits (n : Int) : Bool := decide (-4611686018427387904 ≤ n) && decide (n ≤ 4611686018427387904)
def lineOf (k : Nat) (l : List Int) : Bs := nameOf k ++ tail 32 (l.map itoa)
/-- An event as a line. -/
def printM (e : Ev) : Option Bs := match intsOf e with
  | some l => if l.all fits then some (lineOf e.kind.toNat l) else none
  | none => none
/-- The fields that its kind has. -/
def bareM (e : Ev) : Ev :=
  if e.kind = 1 ∨ e.kind = 3 ∨ e.kind = 7 then { ev0 with kind := e.kind, n := e.n }
  else if e.kind = 2 ∨ e.kind = 4 then { ev0 with kind := e.kind, f := e.f, pc := e.pc }
  else if e.kind = 5 then { ev0 with kind := e.kind, f := e.f }
  else if e.kind = 6 then { ev0 with kind := 6, cf := e.cf, cpc := e.cpc, cy := e.cy, cn := e.cn, ty := e.ty }
  else { ev0 with kind := e.kind }

theorem readAll_itoa : ∀ (l : List Int), l.all fits = true → readAll (l.map itoa) = some l
  | [], _ => rfl
  | n :: l, h => by
    simp only [List.all_cons, Bool.and_eq_true] at h
    have h1 := h.1
    simp only [fits, Bool.and_eq_true, decide_eq_true_eq] at h1
    simp only [List.map_cons, readAll, pInt_itoa n h1.1 h1.2, readAll_itoa l h.2, Option.map_some]
theorem itoa_readAll : ∀ {ws : List Bs} {l : List Int}, readAll ws = some l → l.map itoa = ws ∧ l.all fits = true
  | [], l, h => by simp [readAll] at h; subst h; exact ⟨rfl, rfl⟩
  | w :: ws, l, h => by
    simp only [readAll] at h
    split at h
    · rename_i n hn
      simp only [Option.map_eq_some_iff] at h
      obtain ⟨t, h1, rfl⟩ := h
      obtain ⟨h2, h3⟩ := itoa_readAll h1
      obtain ⟨h4, h5, h6⟩ := itoa_pInt hn
      refine ⟨by simp [h2, h4], ?_⟩
      simp only [List.all_cons, h3, Bool.and_true, fits, Bool.and_eq_true, decide_eq_true_eq]
      exact ⟨h5, h6⟩
    · cases h
theorem name_blank (k : Nat) : ∀ x ∈ nameOf k, x ≠ 32 := by
  have key : ∀ w ∈ names, ∀ x ∈ w, x ≠ 32 := by decide
  unfold nameOf
  cases h : names[k - 1]? with
  | none => simp
  | some w => exact key w (List.mem_of_getElem? h)
theorem kindOf_name : ∀ k, 1 ≤ k → k ≤ 7 → kindOf (nameOf k) = k := by
  intro k h1 h2
  have : k = 1 ∨ k = 2 ∨ k = 3 ∨ k = 4 ∨ k = 5 ∨ k = 6 ∨ k = 7 := by omega
  rcases this with h | h | h | h | h | h | h <;> subst h <;> decide
theorem name_kindOf (w : Bs) (h : kindOf w ≠ 0) : nameOf (kindOf w) = w := by
  unfold kindOf at h ⊢
  split
  · rename_i h; rw [h]; rfl
  split
  · rename_i h; rw [h]; rfl
  split
  · rename_i h; rw [h]; rfl
  split
  · rename_i h; rw [h]; rfl
  split
  · rename_i h; rw [h]; rfl
  split
  · rename_i h; rw [h]; rfl
  split
  · rename_i h; rw [h]; rfl
  · rename_i h1 h2 h3 h4 h5 h6 h7
    simp [h1, h2, h3, h4, h5, h6, h7] at h
theorem kindOf_le (w : Bs) : kindOf w ≤ 7 := by
  unfold kindOf
  repeat' split
  all_goals omega
theorem evOf_zero (ns : List Int) : evOf 0 ns = none := by unfold evOf; split <;> simp_all
/-- What is printed is parsed to it. -/
theorem parse_print {e : Ev} {s : Bs} (h : printM e = some s) : parseM s = some (bareM e) := by
  unfold printM at h
  split at h
  case h_2 => cases h
  rename_i l hl
  split at h
  case isFalse => cases h
  rename_i hf
  obtain rfl := Option.some.inj h
  unfold parseM lineOf
  rw [split_join 32 _ _ (name_blank _) (fun v hv x hx => by
    obtain ⟨n, _, rfl⟩ := List.mem_map.1 hv
    exact itoa_blank n x hx)]
  simp only [readAll_itoa l hf]
  unfold intsOf at hl
  obtain ⟨k, f, pc, n, cf, cpc, cy, cn, ty⟩ := e
  simp only at hl ⊢
  split at hl
  · rename_i hk
    obtain rfl := Option.some.inj hl
    rcases hk with rfl | rfl | rfl <;> rfl
  split at hl
  · rename_i hk
    obtain rfl := Option.some.inj hl
    rcases hk with rfl | rfl <;> rfl
  split at hl
  · rename_i hk
    obtain rfl := Option.some.inj hl
    subst hk; rfl
  split at hl
  · rename_i hk
    subst hk
    split at hl
    · rename_i ht
      obtain rfl := Option.some.inj hl
      show evOf 6 _ = _
      simp only [evOf, pairs_flat, if_pos ht]
      rfl
    · cases hl
  · cases hl
/-- What is parsed is printed as it. -/
theorem print_parse {s : Bs} {e : Ev} (h : parseM s = some e) : printM e = some s := by
  obtain ⟨w, ws, h1, h2⟩ := join_split 32 s
  unfold parseM at h
  rw [h1] at h
  simp only at h
  split at h
  case h_2 => cases h
  rename_i ns hns
  obtain ⟨h3, h4⟩ := itoa_readAll hns
  have hk : kindOf w ≠ 0 := by
    intro h0
    rw [h0, evOf_zero] at h
    cases h
  have key : intsOf e = some ns ∧ e.kind.toNat = kindOf w := by
    unfold evOf at h
    split at h
    all_goals try (obtain rfl := Option.some.inj h; rename_i hk; exact ⟨rfl, hk ▸ rfl⟩)
    · rename_i hk
      split at h
      · rename_i ts hts
        split at h
        · rename_i hlen
          obtain rfl := Option.some.inj h
          refine ⟨?_, hk ▸ rfl⟩
          simp only [intsOf]
          simp [hlen, flat_pairs hts]
        · cases h
      · cases h
    · cases h
  unfold printM
  rw [key.1]
  simp only [h4, if_true, key.2]
  unfold lineOf
  rw [h3, name_kindOf w hk, h2]
/-- Of an event that is parsed its kind's fields are all. -/
theorem parse_kind {s : Bs} {e : Ev} (h : parseM s = some e) : 1 ≤ e.kind ∧ e.kind ≤ 7 ∧ e.ty.length ≤ 8 := by
  unfold parseM at h
  split at h
  · cases h
  split at h
  case h_2 => cases h
  unfold evOf at h
  split at h
  all_goals try (obtain rfl := Option.some.inj h; simp [ev0]; done)
  · split at h
    · split at h
      · obtain rfl := Option.some.inj h; simp [ev0]; assumption
      · cases h
    · cases h
  · cases h

/-! ### rows -/
structure Rw where
  why : Int
  steps : Int
  left : Int
  state : Int
  trap : Int
  keys : List (Int × Int)
def sOk : Bs := [111, 107]
def sError : Bs := [101, 114, 114, 111, 114, 32]
def sSteps : Bs := [32, 115, 116, 101, 112, 115, 32]
def sLeft : Bs := [32, 108, 101, 102, 116, 32]
def sKey : Bs := [32, 107, 101, 121, 32]
def sDone : Bs := [100, 111, 110, 101]
def sTrap : Bs := [116, 114, 97, 112, 32]
def keysM (l : List (Int × Int)) : Bs := l.flatMap fun x => sKey ++ (itoa x.1 ++ (32 :: itoa x.2))
def tell1 (r : Rw) : Bs := if r.why = 0 then sOk else sError ++ itoa r.why
def tell2 (r : Rw) : Bs := if r.steps = 0 then tell1 r else tell1 r ++ (sSteps ++ itoa r.steps)
def tell3 (r : Rw) : Bs := if r.left = 0 then tell2 r else tell2 r ++ (sLeft ++ itoa r.left)
def endM (r : Rw) : Bs := if r.state = 1 then 32 :: sDone else if r.state = 2 then 32 :: (sTrap ++ itoa r.trap) else []
def tellM (r : Rw) : Bs := tell3 r ++ keysM r.keys ++ endM r
end Go.Proofs.YtdpfhajggknfaaaGreatDoor.Tx
