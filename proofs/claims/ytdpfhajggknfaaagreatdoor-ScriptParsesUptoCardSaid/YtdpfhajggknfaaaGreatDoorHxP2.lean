/- Chapter 30's lines, plainly: events as lines, lines as events; what is printed is parsed to it, what is parsed is printed as it. -/
import Derived.Test.YtdpfhajggknfaaaGreatDoorHxP1
namespace Go.Proofs.YtdpfhajggknfaaaGreatDoor.Tx
open Go.Lib

structure Ev where
  kind : Int
  f : Int
  pc : Int
  n : Int
  cf : Int
  cpc : Int
  cy : Int
  cn : Int
  ty : List (Int × Int)
def ev0 : Ev := ⟨0, 0, 0, 0, 0, 0, 0, 0, []⟩
def nStep : Bs := [115, 116, 101, 112]
def nCompile : Bs := [99, 111, 109, 112, 105, 108, 101]
def nEnter : Bs := [101, 110, 116, 101, 114]
def nEvict : Bs := [101, 118, 105, 99, 116]
def nInvalidate : Bs := [105, 110, 118, 97, 108, 105, 100, 97, 116, 101]
def nCount : Bs := [99, 111, 117, 110, 116]
def nAuto : Bs := [97, 117, 116, 111]
def names : List Bs := [nStep, nCompile, nEnter, nEvict, nInvalidate, nCount, nAuto]
/-- A kind's name. -/
def nameOf (k : Nat) : Bs := (names[k - 1]?).getD []
/-- A name's kind; 0: none. -/
def kindOf (w : Bs) : Nat := if w = nStep then 1 else if w = nCompile then 2 else if w = nEnter then 3 else if w = nEvict then 4 else if w = nInvalidate then 5 else if w = nCount then 6 else if w = nAuto then 7 else 0
def pairs : List Int → Option (List (Int × Int))
  | [] => some []
  | a :: b :: l => (pairs l).map ((a, b) :: ·)
  | _ => none
def flat : List (Int × Int) → List Int
  | [] => []
  | x :: l => x.1 :: x.2 :: flat l
theorem pairs_flat : ∀ l, pairs (flat l) = some l
  | [] => rfl
  | x :: l => by simp [flat, pairs, pairs_flat l]
theorem flat_pairs : ∀ {l : List Int} {ts}, pairs l = some ts → flat ts = l
  | [], ts, h => by simp [pairs] at h; subst h; rfl
  | [_], ts, h => by simp [pairs] at h
  | a :: b :: l, ts, h => by
    simp only [pairs, Option.map_eq_some_iff] at h
    obtain ⟨t, h1, rfl⟩ := h
    simp [flat, flat_pairs h1]
/-- An event of a kind by its numbers. -/
def evOf (k : Nat) (ns : List Int) : Option Ev :=
  match k, ns with
  | 1, [a] => some { ev0 with kind := 1, n := a }
  | 2, [a, b] => some { ev0 with kind := 2, f := a, pc := b }
  | 3, [a] => some { ev0 with kind := 3, n := a }
  | 4, [a, b] => some { ev0 with kind := 4, f := a, pc := b }
  | 5, [a] => some { ev0 with kind := 5, f := a }
  | 6, a :: b :: c :: d :: l => match pairs l with
    | some ts => if ts.length ≤ 8 then some { ev0 with kind := 6, cf := a, cpc := b, cy := c, cn := d, ty := ts } else none
    | none => none
  | 7, [a] => some { ev0 with kind := 7, n := a }
  | _, _ => none
def readAll : List Bs → Option (List Int)
  | [] => some []
  | w :: ws => match pInt w with
    | some n => (readAll ws).map (n :: ·)
    | none => none
/-- A line as an event. -/
def parseM (line : Bs) : Option Ev := match split 32 line with
  | [] => none
  | w :: ws => match readAll ws with
    | some ns => evOf (kindOf w) ns
    | none => none
/-- The numbers of an event's line. -/
def intsOf (e : Ev) : Option (List Int) :=
  if e.kind = 1 ∨ e.kind = 3 ∨ e.kind = 7 then some [e.n]
  else if e.kind = 2 ∨ e.kind = 4 then some [e.f, e.pc]
  else if e.kind = 5 then some [e.f]
  else if e.kind = 6 then (if e.ty.length ≤ 8 then some (e.cf :: e.cpc :: e.cy :: e.cn :: flat e.ty) else none)
  else none
def fits (n : Int) : Bool := decide (-4611686018427387904 ≤ n) && decide (n ≤ 4611686018427387904)
def lineOf (k : Nat) (l : List Int) : Bs := nameOf k ++ tail 32 (l.map itoa)
/-- An event as a line. -/
def printM (e : Ev) : Option Bs := match intsOf e with
  | some l => if l.all fits then some (lineOf e.kind.toNat l) else none
  | none => none
/-- The fields that its kind has. -/
def bareM (e : Ev) : Ev :=
  if e.kind = 1 ∨ e.kind = 3 ∨ e.kind = 7 then { ev0 with kind := e.kind, n := e.n }
  else if e.kind = 2 ∨ e.kind = 4 then { ev0 with kind := e.kind, f := e.f, pc := e.pc }
  else if e.kind = 5 then { ev0 with kind := e.kind, f := e.f }
  else if e.kind = 6 then { ev0 with kind := 6, cf := e.cf, cpc := e.cpc, cy := e.cy, cn := e.cn, ty := e.ty }
  else { ev0 with kind := e.kind }

theorem readAll_itoa : ∀ (l : List Int), l.all fits = true → readAll (l.map itoa) = some l
  | [], _ => rfl
  | n :: l, h => by
    simp only [List.all_cons, Bool.and_eq_true] at h
    have h1 := h.1
    simp only [fits, Bool.and_eq_true, decide_eq_true_eq] at h1
    simp only [List.map_cons, readAll, pInt_itoa n h1.1 h1.2, readAll_itoa l h.2, Option.map_some]
theorem itoa_readAll : ∀ {ws : List Bs} {l : List Int}, readAll ws = some l → l.map itoa = ws ∧ l.all fits = true
  | [], l, h => by simp [readAll] at h; subst h; exact ⟨rfl, rfl⟩
  | w :: ws, l, h => by
    simp only [readAll] at h
    split at h
    · rename_i n hn
      simp only [Option.map_eq_some_iff] at h
      obtain ⟨t, h1, rfl⟩ := h
      obtain ⟨h2, h3⟩ := itoa_readAll h1
      obtain ⟨h4, h5, h6⟩ := itoa_pInt hn
      refine ⟨by simp [h2, h4], ?_⟩
      simp only [List.all_cons, h3, Bool.and_true, fits, Bool.and_eq_true, decide_eq_true_eq]
      exact ⟨h5, h6⟩
    · cases h
theorem name_blank (k : Nat) : ∀ x ∈ nameOf k, x ≠ 32 := by
  have key : ∀ w ∈ names, ∀ x ∈ w, x ≠ 32 := by decide
  unfold nameOf
  cases h : names[k - 1]? with
  | none => simp
  | some w => exact key w (List.mem_of_getElem? h)
theorem kindOf_name : ∀ k, 1 ≤ k → k ≤ 7 → kindOf (nameOf k) = k := by
  intro k h1 h2
  have : k = 1 ∨ k = 2 ∨ k = 3 ∨ k = 4 ∨ k = 5 ∨ k = 6 ∨ k = 7 := by omega
  rcases this with h | h | h | h | h | h | h <;> subst h <;> decide
theorem name_kindOf (w : Bs) (h : kindOf w ≠ 0) : nameOf (kindOf w) = w := by
  unfold kindOf at h ⊢
  split
  · rename_i h; rw [h]; rfl
  split
  · rename_i h; rw [h]; rfl
  split
  · rename_i h; rw [h]; rfl
  split
  · rename_i h; rw [h]; rfl
  split
  · rename_i h; rw [h]; rfl
  split
  · rename_i h; rw [h]; rfl
  split
  · rename_i h; rw [h]; rfl
  · rename_i h1 h2 h3 h4 h5 h6 h7
    simp [h1, h2, h3, h4, h5, h6, h7] at h
theorem kindOf_le (w : Bs) : kindOf w ≤ 7 := by
  unfold kindOf
  repeat' split
  all_goals omega
theorem evOf_zero (ns : List Int) : evOf 0 ns = none := by unfold evOf; split <;> simp_all
/-- What is printed is parsed to it. -/
theorem parse_print {e : Ev} {s : Bs} (h : printM e = some s) : parseM s = some (bareM e) := by
  unfold printM at h
  split at h
  case h_2 => cases h
  rename_i l hl
  split at h
  case isFalse => cases h
  rename_i hf
  obtain rfl := Option.some.inj h
  unfold parseM lineOf
  rw [split_join 32 _ _ (name_blank _) (fun v hv x hx => by
    obtain ⟨n, _, rfl⟩ := List.mem_map.1 hv
    exact itoa_blank n x hx)]
  simp only [readAll_itoa l hf]
  unfold intsOf at hl
  obtain ⟨k, f, pc, n, cf, cpc, cy, cn, ty⟩ := e
  simp only at hl ⊢
  split at hl
  · rename_i hk
    obtain rfl := Option.some.inj hl
    rcases hk with rfl | rfl | rfl <;> rfl
  split at hl
  · rename_i hk
    obtain rfl := Option.some.inj hl
    rcases hk with rfl | rfl <;> rfl
  split at hl
  · rename_i hk
    obtain rfl := Option.some.inj hl
    subst hk; rfl
  split at hl
  · rename_i hk
    subst hk
    split at hl
    · rename_i ht
      obtain rfl := Option.some.inj hl
      show evOf 6 _ = _
      simp only [evOf, pairs_flat, if_pos ht]
      rfl
    · cases hl
  · cases hl
/-- What is parsed is printed as it. -/
theorem print_parse {s : Bs} {e : Ev} (h : parseM s = some e) : printM e = some s := by
  obtain ⟨w, ws, h1, h2⟩ := join_split 32 s
  unfold parseM at h
  rw [h1] at h
  simp only at h
  split at h
  case h_2 => cases h
  rename_i ns hns
  obtain ⟨h3, h4⟩ := itoa_readAll hns
  have hk : kindOf w ≠ 0 := by
    intro h0
    rw [h0, evOf_zero] at h
    cases h
  have key : intsOf e = some ns ∧ e.kind.toNat = kindOf w := by
    unfold evOf at h
    split at h
    all_goals try (obtain rfl := Option.some.inj h; rename_i hk; exact ⟨rfl, hk ▸ rfl⟩)
    · rename_i hk
      split at h
      · rename_i ts hts
        split at h
        · rename_i hlen
          obtain rfl := Option.some.inj h
          refine ⟨?_, hk ▸ rfl⟩
          simp only [intsOf]
          simp [hlen, flat_pairs hts]
        · cases h
      · cases h
    · cases h
  unfold printM
  rw [key.1]
  simp only [h4, if_true, key.2]
  unfold lineOf
  rw [h3, name_kindOf w hk, h2]
/-- Of an event that is parsed its kind's fields are all. -/
theorem parse_kind {s : Bs} {e : Ev} (h : parseM s = some e) : 1 ≤ e.kind ∧ e.kind ≤ 7 ∧ e.ty.length ≤ 8 := by
  unfold parseM at h
  split at h
  · cases h
  split at h
  case h_2 => cases h
  unfold evOf at h
  split at h
  all_goals try (obtain rfl := Option.some.inj h; simp [ev0]; done)
  · split at h
    · split at h
      · obtain rfl := Option.some.inj h; simp [ev0]; assumption
      · cases h
    · cases h
  · cases h

/-! ### rows -/
structure Rw where
  why : Int
  steps : Int
  left : Int
  state : Int
  trap : Int
  keys : List (Int × Int)
def sOk : Bs := [111, 107]
def sError : Bs := [101, 114, 114, 111, 114, 32]
def sSteps : Bs := [32, 115, 116, 101, 112, 115, 32]
def sLeft : Bs := [32, 108, 101, 102, 116, 32]
def sKey : Bs := [32, 107, 101, 121, 32]
def sDone : Bs := [100, 111, 110, 101]
def sTrap : Bs := [116, 114, 97, 112, 32]
def keysM (l : List (Int × Int)) : Bs := l.flatMap fun x => sKey ++ (itoa x.1 ++ (32 :: itoa x.2))
def tell1 (r : Rw) : Bs := if r.why = 0 then sOk else sError ++ itoa r.why
def tell2 (r : Rw) : Bs := if r.steps = 0 then tell1 r else tell1 r ++ (sSteps ++ itoa r.steps)
def tell3 (r : Rw) : Bs := if r.left = 0 then tell2 r else tell2 r ++ (sLeft ++ itoa r.left)
def endM (r : Rw) : Bs := if r.state = 1 then 32 :: sDone else if r.state = 2 then 32 :: (sTrap ++ itoa r.trap) else []
def tellM (r : Rw) : Bs := tell3 r ++ keysM r.keys ++ endM r
end Go.Proofs.YtdpfhajggknfaaaGreatDoor.Tx
