/- What operations come to where their parts are known: numbers, texts, rows. -/
import Derived.Test.YtlbdcjnhlkkfeaaGreatDoorHx3
import Derived.Test.YtlbdcjnhlkkfeaaGreatDoorHxYa
namespace Go.Proofs.YtlbdcjnhlkkfeaaGreatDoor.Hx

/-! ### numbers -/
section
variable (t : Nat) (k : IntKind) (a b : Int)
@[simp] theorem hbin_add : hbin .add t (.int k a) (.int k b) = some (.int k (wrapF k (a + b))) := by cases k <;> rfl
@[simp] theorem hbin_sub : hbin .sub t (.int k a) (.int k b) = some (.int k (wrapF k (a - b))) := by cases k <;> rfl
@[simp] theorem hbin_mul : hbin .mul t (.int k a) (.int k b) = some (.int k (wrapF k (a * b))) := by cases k <;> rfl
@[simp] theorem hbin_lss : hbin .lss t (.int k a) (.int k b) = some (.bool (decide (a < b))) := by cases k <;> rfl
@[simp] theorem hbin_leq : hbin .leq t (.int k a) (.int k b) = some (.bool (decide (a ≤ b))) := by cases k <;> rfl
@[simp] theorem hbin_gtr : hbin .gtr t (.int k a) (.int k b) = some (.bool (decide (b < a))) := by cases k <;> rfl
@[simp] theorem hbin_geq : hbin .geq t (.int k a) (.int k b) = some (.bool (decide (b ≤ a))) := by cases k <;> rfl
@[simp] theorem hbin_eql : hbin .eql t (.int k a) (.int k b) = some (.bool (a == b)) := by cases k <;> rfl
@[simp] theorem hbin_neq : hbin .neq t (.int k a) (.int k b) = some (.bool (a != b)) := by cases k <;> rfl
@[simp] theorem hbin_eqlS (x y : List UInt8) : hbin .eql t (.str x) (.str y) = some (.bool (x == y)) := rfl
@[simp] theorem hbin_neqS (x y : List UInt8) : hbin .neq t (.str x) (.str y) = some (.bool (!(x == y))) := rfl
theorem hbin_addS {x y : List UInt8} (h : x.length + y.length ≤ 4611686018427387904) : hbin .add t (.str x) (.str y) = some (.str (x ++ y)) := by
  show (match Nat.ble (x.length + y.length) 4611686018427387904 with
    | true => some (V.str (x ++ y))
    | false => none) = _
  rw [Nat.ble_eq_true_of_le h]
@[simp] theorem hun_not (x : Bool) : hun .not (.bool x) = some (.bool !x) := rfl
@[simp] theorem hun_neg : hun .neg (.int k a) = some (.int k (wrapF k (0 - a))) := rfl
theorem wrapF_in {k : IntKind} {n : Int} (h : inK k n) : wrapF k n = n := by
  rw [wrapF_eq]
  cases k <;> simp only [inK] at h <;> simp only [IntKind.wrap, IntKind.signed, IntKind.bits, Bool.true_and, Bool.false_and, decide_eq_true_eq, Bool.false_eq_true, if_false, Nat.reduceSub, Int.reducePow, ge_iff_le] <;> (try split) <;> omega
@[simp] theorem wrapF_nat {n : Nat} (h : n < 9223372036854775808) : wrapF .i64 (n : Int) = n := wrapF_in (by simp only [inK]; omega)
@[simp] theorem hmin_one (g : Bool) : hmin g (.int k a) [.int k b] = some (.int k (if g then max a b else min a b)) := by
  cases g
  · show some (V.int k (if b < a then b else a)) = _
    simp only [Bool.false_eq_true, if_false]
    congr 2
    omega
  · show some (V.int k (if b > a then b else a)) = _
    simp only [if_true]
    congr 2
    omega
end

/-! ### texts -/
theorem hsliceS_to {s : List UInt8} {k : IntKind} {n : Nat} (h : n ≤ s.length) : hsliceS (.str s) none (some (.int k n)) = some (.str (s.take n)) := by
  simp_all[hsliceS,hbound,asNat_cast,oB_some',bB_of,Nat.ble_eq_true_of_le,Nat.zero_le]
theorem hsliceS_from {s : List UInt8} {k : IntKind} {n : Nat} (h : n ≤ s.length) : hsliceS (.str s) (some (.int k n)) none = some (.str (s.drop n)) := by
  unfold hsliceS hbound
  simp_all[asNat_cast,oB_some',bB_of,Nat.ble_eq_true_of_le,Nat.le_refl,List.take_of_length_le]
theorem hsliceS_both {s : List UInt8} {k k' : IntKind} {m n : Nat} (h1 : m ≤ n) (h : n ≤ s.length) : hsliceS (.str s) (some (.int k m)) (some (.int k' n)) = some (.str ((s.drop m).take (n - m))) := by
  grind[hsliceS,hbound,asNat_cast,oB_some',bB_of,Nat.ble_eq_true_of_le]
theorem pIdxS_at {s : List UInt8} {k : IntKind} {n : Nat} (h : n < s.length) : pIdxS (.str s) (.int k n) = some (.int .u8 (s[n].toNat : Nat)) := by
  simp_all[pIdxS,asNat_cast,List.head?_drop,List.getElem?_eq_getElem]

/-! ### rows -/
theorem repl_one (n : Nat) (z : V) : repl n [z] = List.replicate n z := by
  induction n <;> grind[repl]
theorem hmakeSlice_of {e sz by_ n : Nat} {z : V} (h1 : n * by_ ≤ 281474976710656) (h2 : n ≤ 1099511627776) :
    hmakeSlice e sz by_ z (.int .i64 (n : Int)) (.int .i64 (n : Int)) = some (O.cells e sz true false (repl n z.cells), fun l => V.slice l 0 n) := by
  show bB (Nat.ble n n) (bB (Nat.ble (n * by_) 281474976710656) (bB (Nat.ble n 1099511627776) (some (O.cells e sz true false (repl n z.cells), fun l => V.slice l 0 n)))) = _
  simp_all[bB_of,Nat.ble_eq_true_of_le,Nat.le_refl]
end Go.Proofs.YtlbdcjnhlkkfeaaGreatDoor.Hx
