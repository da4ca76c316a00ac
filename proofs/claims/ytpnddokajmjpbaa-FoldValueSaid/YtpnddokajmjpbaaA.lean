/- The contracts of the callees of FoldValue: what Two, divide, fold.Value and the document's Value answer, of any op and any words: plain functions on integers; no condition. -/
import Derived.Test.YtpnddokajmjpbaaRows
import Derived.WalkKit
import Derived.WalkLawsBesides
namespace Go.Proofs.Ytpnddokajmjpbaa
open Go.RowKit
abbrev u64w (n : Int) : Int := IntKind.u64.wrap n
def fl (b : Bool) : Int := if b then 1 else 0
def dq (x y : Int) : Int := if y = 0 then 0 else if y = -1 then u64w (-x) else u64w (wrap64 (x.tdiv y))
def dr (x y : Int) : Int := if y = 0 then 0 else if y = -1 then 0 else u64w (x.tmod y)
def rdiv (a b : Int) : Int := dq (wrap64 a) (wrap64 b)
def rrem (a b : Int) : Int := dr (wrap64 a) (wrap64 b)
def two (op a b : Int) : Int :=
  if op = 3 then u64w (a + b)
  else if op = 4 then u64w (a - b)
  else if op = 5 then u64w (a * b)
  else if op = 6 then rdiv a b
  else if op = 7 then rrem a b
  else if op = 8 then u64w (-a)
  else if op = 9 then fl (decide (a = 0))
  else if op = 10 then fl (decide (a = b))
  else if op = 11 then fl (decide (a ≠ b))
  else if op = 12 then fl (decide (wrap64 a < wrap64 b))
  else if op = 13 then fl (decide (wrap64 a ≤ wrap64 b))
  else fl (decide (a < b))
theorem two_3 (a b : Int) : two 3 a b = u64w (a + b) := by simp [two]
theorem two_4 (a b : Int) : two 4 a b = u64w (a - b) := by simp [two]
theorem two_5 (a b : Int) : two 5 a b = u64w (a * b) := by simp [two]
theorem two_6 (a b : Int) : two 6 a b = rdiv a b := by simp [two]
theorem two_7 (a b : Int) : two 7 a b = rrem a b := by simp [two]
theorem two_8 (a b : Int) : two 8 a b = u64w (-a) := by simp [two]
theorem two_9 (a b : Int) : two 9 a b = fl (decide (a = 0)) := by simp [two]
theorem two_10 (a b : Int) : two 10 a b = fl (decide (a = b)) := by simp [two]
theorem two_11 (a b : Int) : two 11 a b = fl (decide (a ≠ b)) := by simp [two]
theorem two_12 (a b : Int) : two 12 a b = fl (decide (wrap64 a < wrap64 b)) := by simp [two]
theorem two_13 (a b : Int) : two 13 a b = fl (decide (wrap64 a ≤ wrap64 b)) := by simp [two]
theorem two_14 (a b : Int) : two 14 a b = fl (decide (a < b)) := by simp [two]
theorem ev_3 (a b : Int) (w : World) :
    Calls Try.prog 8 #[.int .i64 3, .int .u64 a, .int .u64 b] w fun e w' => e = .returned (.int .u64 (two 3 a b)) ∧ w = w' := by
  rw [two_3]
  go_enter Try.func8, Try.ntmps8
  go_wp2
  all_goals go_ret
  all_goals first | exact ⟨rfl, rfl⟩ | (simp_all; done) | (simp_all [fl]; done)

theorem rf_3 (a b : Int) (w : World) :
    Calls Try.prog 6 #[.int .i64 3, .int .u64 a, .int .u64 b] w fun e w' => e = .returned (.tuple #[.int .u64 (two 3 a b), .bool true]) ∧ w = w' := by
  rw [two_3]
  go_enter Try.func6, Try.ntmps6
  go_wp2
  all_goals go_ret2
  all_goals first | exact ⟨rfl, rfl⟩ | (simp_all; done) | (simp_all [fl]; done)

theorem ev_4 (a b : Int) (w : World) :
    Calls Try.prog 8 #[.int .i64 4, .int .u64 a, .int .u64 b] w fun e w' => e = .returned (.int .u64 (two 4 a b)) ∧ w = w' := by
  rw [two_4]
  go_enter Try.func8, Try.ntmps8
  go_wp2
  all_goals go_ret
  all_goals first | exact ⟨rfl, rfl⟩ | (simp_all; done) | (simp_all [fl]; done)

theorem rf_4 (a b : Int) (w : World) :
    Calls Try.prog 6 #[.int .i64 4, .int .u64 a, .int .u64 b] w fun e w' => e = .returned (.tuple #[.int .u64 (two 4 a b), .bool true]) ∧ w = w' := by
  rw [two_4]
  go_enter Try.func6, Try.ntmps6
  go_wp2
  all_goals go_ret2
  all_goals first | exact ⟨rfl, rfl⟩ | (simp_all; done) | (simp_all [fl]; done)

theorem ev_5 (a b : Int) (w : World) :
    Calls Try.prog 8 #[.int .i64 5, .int .u64 a, .int .u64 b] w fun e w' => e = .returned (.int .u64 (two 5 a b)) ∧ w = w' := by
  rw [two_5]
  go_enter Try.func8, Try.ntmps8
  go_wp2
  all_goals go_ret
  all_goals first | exact ⟨rfl, rfl⟩ | (simp_all; done) | (simp_all [fl]; done)

theorem rf_5 (a b : Int) (w : World) :
    Calls Try.prog 6 #[.int .i64 5, .int .u64 a, .int .u64 b] w fun e w' => e = .returned (.tuple #[.int .u64 (two 5 a b), .bool true]) ∧ w = w' := by
  rw [two_5]
  go_enter Try.func6, Try.ntmps6
  go_wp2
  all_goals go_ret2
  all_goals first | exact ⟨rfl, rfl⟩ | (simp_all; done) | (simp_all [fl]; done)

theorem ev_8 (a b : Int) (w : World) :
    Calls Try.prog 8 #[.int .i64 8, .int .u64 a, .int .u64 b] w fun e w' => e = .returned (.int .u64 (two 8 a b)) ∧ w = w' := by
  rw [two_8]
  go_enter Try.func8, Try.ntmps8
  go_wp2
  all_goals go_ret
  all_goals first | exact ⟨rfl, rfl⟩ | (simp_all; done) | (simp_all [fl]; done)

theorem rf_8 (a b : Int) (w : World) :
    Calls Try.prog 6 #[.int .i64 8, .int .u64 a, .int .u64 b] w fun e w' => e = .returned (.tuple #[.int .u64 (two 8 a b), .bool true]) ∧ w = w' := by
  rw [two_8]
  go_enter Try.func6, Try.ntmps6
  go_wp2
  all_goals go_ret2
  all_goals first | exact ⟨rfl, rfl⟩ | (simp_all; done) | (simp_all [fl]; done)

theorem ev_9 (a b : Int) (w : World) :
    Calls Try.prog 8 #[.int .i64 9, .int .u64 a, .int .u64 b] w fun e w' => e = .returned (.int .u64 (two 9 a b)) ∧ w = w' := by
  rw [two_9]
  go_enter Try.func8, Try.ntmps8
  go_wp2
  all_goals go_ret
  all_goals first | exact ⟨rfl, rfl⟩ | (simp_all [fl]; done) | (simp_all [fl]; done)

theorem rf_9 (a b : Int) (w : World) :
    Calls Try.prog 6 #[.int .i64 9, .int .u64 a, .int .u64 b] w fun e w' => e = .returned (.tuple #[.int .u64 (two 9 a b), .bool true]) ∧ w = w' := by
  rw [two_9]
  go_enter Try.func6, Try.ntmps6
  go_wp2
  all_goals go_ret2
  all_goals first | exact ⟨rfl, rfl⟩ | (simp_all [fl]; done) | (simp_all [fl]; done)

theorem ev_10 (a b : Int) (w : World) :
    Calls Try.prog 8 #[.int .i64 10, .int .u64 a, .int .u64 b] w fun e w' => e = .returned (.int .u64 (two 10 a b)) ∧ w = w' := by
  rw [two_10]
  go_enter Try.func8, Try.ntmps8
  go_wp2
  all_goals go_ret
  all_goals first | exact ⟨rfl, rfl⟩ | (simp_all; done) | (simp_all [fl]; done)

theorem rf_10 (a b : Int) (w : World) :
    Calls Try.prog 6 #[.int .i64 10, .int .u64 a, .int .u64 b] w fun e w' => e = .returned (.tuple #[.int .u64 (two 10 a b), .bool true]) ∧ w = w' := by
  rw [two_10]
  go_enter Try.func6, Try.ntmps6
  go_wp2
  all_goals go_ret2
  all_goals first | exact ⟨rfl, rfl⟩ | (simp_all; done) | (simp_all [fl]; done)

theorem ev_11 (a b : Int) (w : World) :
    Calls Try.prog 8 #[.int .i64 11, .int .u64 a, .int .u64 b] w fun e w' => e = .returned (.int .u64 (two 11 a b)) ∧ w = w' := by
  rw [two_11]
  go_enter Try.func8, Try.ntmps8
  go_wp2
  all_goals go_ret
  all_goals first | exact ⟨rfl, rfl⟩ | (simp_all; done) | (simp_all [fl]; done)

theorem rf_11 (a b : Int) (w : World) :
    Calls Try.prog 6 #[.int .i64 11, .int .u64 a, .int .u64 b] w fun e w' => e = .returned (.tuple #[.int .u64 (two 11 a b), .bool true]) ∧ w = w' := by
  rw [two_11]
  go_enter Try.func6, Try.ntmps6
  go_wp2
  all_goals go_ret2
  all_goals first | exact ⟨rfl, rfl⟩ | (simp_all; done) | (simp_all [fl]; done)

theorem ev_12 (a b : Int) (w : World) :
    Calls Try.prog 8 #[.int .i64 12, .int .u64 a, .int .u64 b] w fun e w' => e = .returned (.int .u64 (two 12 a b)) ∧ w = w' := by
  rw [two_12]
  go_enter Try.func8, Try.ntmps8
  go_wp2
  all_goals go_ret
  all_goals first | exact ⟨rfl, rfl⟩ | (simp_all; done) | (simp_all [fl]; done)

theorem rf_12 (a b : Int) (w : World) :
    Calls Try.prog 6 #[.int .i64 12, .int .u64 a, .int .u64 b] w fun e w' => e = .returned (.tuple #[.int .u64 (two 12 a b), .bool true]) ∧ w = w' := by
  rw [two_12]
  go_enter Try.func6, Try.ntmps6
  go_wp2
  all_goals go_ret2
  all_goals first | exact ⟨rfl, rfl⟩ | (simp_all; done) | (simp_all [fl]; done)

theorem ev_13 (a b : Int) (w : World) :
    Calls Try.prog 8 #[.int .i64 13, .int .u64 a, .int .u64 b] w fun e w' => e = .returned (.int .u64 (two 13 a b)) ∧ w = w' := by
  rw [two_13]
  go_enter Try.func8, Try.ntmps8
  go_wp2
  all_goals go_ret
  all_goals first | exact ⟨rfl, rfl⟩ | (simp_all; done) | (simp_all [fl]; done)

theorem rf_13 (a b : Int) (w : World) :
    Calls Try.prog 6 #[.int .i64 13, .int .u64 a, .int .u64 b] w fun e w' => e = .returned (.tuple #[.int .u64 (two 13 a b), .bool true]) ∧ w = w' := by
  rw [two_13]
  go_enter Try.func6, Try.ntmps6
  go_wp2
  all_goals go_ret2
  all_goals first | exact ⟨rfl, rfl⟩ | (simp_all; done) | (simp_all [fl]; done)

theorem ev_14 (a b : Int) (w : World) :
    Calls Try.prog 8 #[.int .i64 14, .int .u64 a, .int .u64 b] w fun e w' => e = .returned (.int .u64 (two 14 a b)) ∧ w = w' := by
  rw [two_14]
  go_enter Try.func8, Try.ntmps8
  go_wp2
  all_goals go_ret
  all_goals first | exact ⟨rfl, rfl⟩ | (simp_all; done) | (simp_all [fl]; done)

theorem rf_14 (a b : Int) (w : World) :
    Calls Try.prog 6 #[.int .i64 14, .int .u64 a, .int .u64 b] w fun e w' => e = .returned (.tuple #[.int .u64 (two 14 a b), .bool true]) ∧ w = w' := by
  rw [two_14]
  go_enter Try.func6, Try.ntmps6
  go_wp2
  all_goals go_ret2
  all_goals first | exact ⟨rfl, rfl⟩ | (simp_all; done) | (simp_all [fl]; done)


theorem ret_int {k : IntKind} {a b : Int} (h : a = b) : Ending.returned (.int k a) = .returned (.int k b) := by rw [h]
theorem dv_zero (o x : Int) (w : World) (_ho : o = 6 ∨ o = 7) :
    Calls Try.prog 10 #[.int .i64 o, .int .i64 x, .int .i64 0] w fun e w' => e = .returned (.int .u64 0) ∧ w = w' := by
  by_cases hx : x = -9223372036854775808
  · subst hx
    go_enter Try.func10, Try.ntmps10
    go_wp2
    go_ret
    exact ⟨rfl, rfl⟩
  · have hx2 : (x == -9223372036854775808) = false := by simpa using hx
    go_enter Try.func10, Try.ntmps10
    go_wp2
    go_ret
    exact ⟨rfl, rfl⟩
theorem tdiv_min (y : Int) : (-9223372036854775808 : Int).tdiv y = - Int.tdiv 9223372036854775808 y := Int.neg_tdiv _ _
theorem tmod_min (y : Int) : (-9223372036854775808 : Int).tmod y = - Int.tmod 9223372036854775808 y := Int.neg_tmod _ _
theorem dv_min (w : World) :
    Calls Try.prog 10 #[.int .i64 6, .int .i64 (-9223372036854775808), .int .i64 (-1)] w fun e w' => e = .returned (.int .u64 (dq (-9223372036854775808) (-1))) ∧ w = w' := by
  go_enter Try.func10, Try.ntmps10
  go_wp2
  go_ret
  exact ⟨ret_int (by decide +kernel), rfl⟩
theorem dr_min (w : World) :
    Calls Try.prog 10 #[.int .i64 7, .int .i64 (-9223372036854775808), .int .i64 (-1)] w fun e w' => e = .returned (.int .u64 (dr (-9223372036854775808) (-1))) ∧ w = w' := by
  go_enter Try.func10, Try.ntmps10
  go_wp2
  go_ret
  exact ⟨ret_int (by decide +kernel), rfl⟩
theorem dq_eq (x y : Int) (h : x ≠ -9223372036854775808 ∨ y ≠ -1) (h1 : -9223372036854775808 ≤ x) (h2 : x < 9223372036854775808) (hy : y ≠ 0) : dq x y = u64w (wrap64 (x.tdiv y)) := by
  unfold dq
  rw [if_neg hy]
  split
  · rename_i e
    subst e
    rw [show x.tdiv (-1) = -x from by rw [Int.tdiv_neg, Int.tdiv_one]]
    simp only [wrap64, u64w, IntKind.wrap, IntKind.signed, IntKind.bits, Bool.false_and, Bool.false_eq_true, if_false]
    omega
  · rfl
theorem dr_eq (x y : Int) (hy : y ≠ 0) : dr x y = u64w (x.tmod y) := by
  unfold dr
  rw [if_neg hy]
  split
  · rename_i e
    subst e
    rw [show x.tmod (-1) = 0 from by rw [Int.tmod_neg, Int.tmod_one]]
    rfl
  · rfl
theorem dv_some (x y : Int) (w : World) (h : x ≠ -9223372036854775808 ∨ y ≠ -1) (h1 : -9223372036854775808 ≤ x) (h2 : x < 9223372036854775808) (hy : y ≠ 0) :
    Calls Try.prog 10 #[.int .i64 6, .int .i64 x, .int .i64 y] w fun e w' => e = .returned (.int .u64 (dq x y)) ∧ w = w' := by
  rw [dq_eq x y h h1 h2 hy]
  have hy3 : (y == 0) = false := by simpa using hy
  by_cases hx : x = -9223372036854775808
  · subst hx
    have hy2 : (y == -1) = false := by simpa using h
    rw [tdiv_min]
    clear h h1 h2
    go_enter Try.func10, Try.ntmps10
    go_wp2
    go_ret
    exact ⟨rfl, rfl⟩
  · have hx2 : (x == -9223372036854775808) = false := by simpa using hx
    clear h h1 h2
    go_enter Try.func10, Try.ntmps10
    go_wp2
    go_ret
    exact ⟨rfl, rfl⟩
theorem dr_some (x y : Int) (w : World) (h : x ≠ -9223372036854775808 ∨ y ≠ -1) (hy : y ≠ 0) :
    Calls Try.prog 10 #[.int .i64 7, .int .i64 x, .int .i64 y] w fun e w' => e = .returned (.int .u64 (dr x y)) ∧ w = w' := by
  rw [dr_eq x y hy]
  have hy3 : (y == 0) = false := by simpa using hy
  by_cases hx : x = -9223372036854775808
  · subst hx
    have hy2 : (y == -1) = false := by simpa using h
    rw [tmod_min]
    clear h
    go_enter Try.func10, Try.ntmps10
    go_wp2
    go_ret
    exact ⟨ret_int (by rw [Int.tmod_eq_emod_of_nonneg (by decide)]), rfl⟩
  · have hx2 : (x == -9223372036854775808) = false := by simpa using hx
    clear h
    go_enter Try.func10, Try.ntmps10
    go_wp2
    go_ret
    exact ⟨rfl, rfl⟩
theorem w64_bd (a : Int) : -9223372036854775808 ≤ wrap64 a ∧ wrap64 a < 9223372036854775808 := by
  simp only [wrap64, IntKind.wrap, IntKind.signed, IntKind.bits]
  omega
theorem dv_any (x y : Int) (w : World) (h1 : -9223372036854775808 ≤ x) (h2 : x < 9223372036854775808) :
    Calls Try.prog 10 #[.int .i64 6, .int .i64 x, .int .i64 y] w fun e w' => e = .returned (.int .u64 (dq x y)) ∧ w = w' := by
  by_cases hy : y = 0
  · subst hy; exact dv_zero 6 x w (.inl rfl)
  · by_cases h : x ≠ -9223372036854775808 ∨ y ≠ -1
    · exact dv_some x y w h h1 h2 hy
    · obtain ⟨rfl, rfl⟩ : x = -9223372036854775808 ∧ y = -1 := by omega
      exact dv_min w
theorem dr_any (x y : Int) (w : World) :
    Calls Try.prog 10 #[.int .i64 7, .int .i64 x, .int .i64 y] w fun e w' => e = .returned (.int .u64 (dr x y)) ∧ w = w' := by
  by_cases hy : y = 0
  · subst hy; exact dv_zero 7 x w (.inr rfl)
  · by_cases h : x ≠ -9223372036854775808 ∨ y ≠ -1
    · exact dr_some x y w h hy
    · obtain ⟨rfl, rfl⟩ : x = -9223372036854775808 ∧ y = -1 := by omega
      exact dr_min w
theorem ev_6 (a b : Int) (w : World) :
    Calls Try.prog 8 #[.int .i64 6, .int .u64 a, .int .u64 b] w fun e w' => e = .returned (.int .u64 (two 6 a b)) ∧ w = w' := by
  rw [two_6, rdiv]
  obtain ⟨h1, h2⟩ := w64_bd a
  go_enter Try.func8, Try.ntmps8
  go_wp2_with (go_at_call 10; refine (dv_any _ _ _ (by assumption) (by assumption)).mono ?_; rintro e w' ⟨rfl, rfl⟩)
  go_ret
  exact ⟨rfl, rfl⟩
theorem ev_7 (a b : Int) (w : World) :
    Calls Try.prog 8 #[.int .i64 7, .int .u64 a, .int .u64 b] w fun e w' => e = .returned (.int .u64 (two 7 a b)) ∧ w = w' := by
  rw [two_7, rrem]
  go_enter Try.func8, Try.ntmps8
  go_wp2_with (go_at_call 10; refine (dr_any _ _ _).mono ?_; rintro e w' ⟨rfl, rfl⟩)
  go_ret
  exact ⟨rfl, rfl⟩
theorem neg_w (a : Int) : u64w (-wrap64 a) = u64w (-a) := by
  simp only [wrap64, u64w, IntKind.wrap, IntKind.signed, IntKind.bits, Bool.false_and, Bool.false_eq_true, if_false]
  omega
theorem rf_6 (a b : Int) (w : World) :
    Calls Try.prog 6 #[.int .i64 6, .int .u64 a, .int .u64 b] w fun e w' => e = .returned (.tuple #[.int .u64 (two 6 a b), .bool true]) ∧ w = w' := by
  rw [two_6, rdiv, dq, neg_w]
  by_cases h0 : wrap64 b = 0
  · rw [if_pos h0]
    have h0' : (wrap64 b == 0) = true := by simpa using h0
    go_enter Try.func6, Try.ntmps6
    go_wp2
    go_ret2
    exact ⟨rfl, rfl⟩
  · rw [if_neg h0]
    have h0' : (wrap64 b == 0) = false := by simpa using h0
    by_cases h1 : wrap64 b = -1
    · rw [if_pos h1]
      have h1' : (wrap64 b == -1) = true := by simpa using h1
      clear h1
      go_enter Try.func6, Try.ntmps6
      go_wp2
      go_ret2
      exact ⟨rfl, rfl⟩
    · rw [if_neg h1]
      have h1' : (wrap64 b == -1) = false := by simpa using h1
      clear h1
      go_enter Try.func6, Try.ntmps6
      go_wp2
      go_ret2
      exact ⟨rfl, rfl⟩
theorem rf_7 (a b : Int) (w : World) :
    Calls Try.prog 6 #[.int .i64 7, .int .u64 a, .int .u64 b] w fun e w' => e = .returned (.tuple #[.int .u64 (two 7 a b), .bool true]) ∧ w = w' := by
  rw [two_7, rrem, dr]
  by_cases h0 : wrap64 b = 0
  · rw [if_pos h0]
    have h0' : (wrap64 b == 0) = true := by simpa using h0
    go_enter Try.func6, Try.ntmps6
    go_wp2
    go_ret2
    exact ⟨rfl, rfl⟩
  · rw [if_neg h0]
    have h0' : (wrap64 b == 0) = false := by simpa using h0
    by_cases h1 : wrap64 b = -1
    · rw [if_pos h1]
      have h1' : (wrap64 b == -1) = true := by simpa using h1
      clear h1
      go_enter Try.func6, Try.ntmps6
      go_wp2
      go_ret2
      exact ⟨rfl, rfl⟩
    · rw [if_neg h1]
      have h1' : (wrap64 b == -1) = false := by simpa using h1
      clear h1
      go_enter Try.func6, Try.ntmps6
      go_wp2
      go_ret2
      exact ⟨rfl, rfl⟩
theorem rf_no (o a b : Int) (w : World) (h : o < 3 ∨ 14 < o) :
    Calls Try.prog 6 #[.int .i64 o, .int .u64 a, .int .u64 b] w fun e w' => e = .returned (.tuple #[.int .u64 0, .bool false]) ∧ w = w' := by
  rcases h with h | h
  all_goals
    go_enter Try.func6, Try.ntmps6
    go_wp2
    go_ret2
    exact ⟨rfl, rfl⟩
theorem op_cases (o : Int) (h1 : 3 ≤ o) (h2 : o ≤ 14) : o = 3 ∨ o = 4 ∨ o = 5 ∨ o = 6 ∨ o = 7 ∨ o = 8 ∨ o = 9 ∨ o = 10 ∨ o = 11 ∨ o = 12 ∨ o = 13 ∨ o = 14 := by omega
theorem ev_any (o a b : Int) (w : World) (h1 : 3 ≤ o) (h2 : o ≤ 14) :
    Calls Try.prog 8 #[.int .i64 o, .int .u64 a, .int .u64 b] w fun e w' => e = .returned (.int .u64 (two o a b)) ∧ w = w' := by
  rcases op_cases o h1 h2 with rfl | rfl | rfl | rfl | rfl | rfl | rfl | rfl | rfl | rfl | rfl | rfl
  · exact ev_3 a b w
  · exact ev_4 a b w
  · exact ev_5 a b w
  · exact ev_6 a b w
  · exact ev_7 a b w
  · exact ev_8 a b w
  · exact ev_9 a b w
  · exact ev_10 a b w
  · exact ev_11 a b w
  · exact ev_12 a b w
  · exact ev_13 a b w
  · exact ev_14 a b w
theorem rf_any (o a b : Int) (w : World) (h1 : 3 ≤ o) (h2 : o ≤ 14) :
    Calls Try.prog 6 #[.int .i64 o, .int .u64 a, .int .u64 b] w fun e w' => e = .returned (.tuple #[.int .u64 (two o a b), .bool true]) ∧ w = w' := by
  rcases op_cases o h1 h2 with rfl | rfl | rfl | rfl | rfl | rfl | rfl | rfl | rfl | rfl | rfl | rfl
  · exact rf_3 a b w
  · exact rf_4 a b w
  · exact rf_5 a b w
  · exact rf_6 a b w
  · exact rf_7 a b w
  · exact rf_8 a b w
  · exact rf_9 a b w
  · exact rf_10 a b w
  · exact rf_11 a b w
  · exact rf_12 a b w
  · exact rf_13 a b w
  · exact rf_14 a b w
theorem fv_any (o a b : Int) (w : World) (h1 : 3 ≤ o) (h2 : o ≤ 14) :
    Calls Try.prog 5 #[.int .i64 o, .int .u64 a, .int .u64 b] w fun e w' => e = .returned (.tuple #[.int .u64 (two o a b), .bool true]) ∧ w = w' := by
  go_enter Try.func5, Try.ntmps5
  go_wp2_with (go_at_call 8; refine (ev_any _ _ _ _ (by assumption) (by assumption)).mono ?_; rintro e w' ⟨rfl, rfl⟩)
  go_ret2
  exact ⟨rfl, rfl⟩
theorem fv_no (o a b : Int) (w : World) (h : o < 3 ∨ 14 < o) :
    Calls Try.prog 5 #[.int .i64 o, .int .u64 a, .int .u64 b] w fun e w' => e = .returned (.tuple #[.int .u64 0, .bool false]) ∧ w = w' := by
  rcases h with h | h
  · go_enter Try.func5, Try.ntmps5
    go_wp2
    go_ret2
    exact ⟨rfl, rfl⟩
  · have h3 : ¬ o < 3 := by omega
    go_enter Try.func5, Try.ntmps5
    go_wp2
    go_ret2
    exact ⟨rfl, rfl⟩
theorem kn (w : World) : Calls Try.prog 7 #[] w fun e w' => e = .returned (.bool true) ∧ w = w' := by
  have e1 : two 6 7 0 = 0 := by decide +kernel
  have e2 : two 12 18446744073709551615 0 = 1 := by decide +kernel
  have e3 : two 14 18446744073709551615 0 = 0 := by decide +kernel
  go_enter Try.func7, Try.ntmps7
  go_wp2_with fail
  refine (fv_any _ _ _ _ (by omega) (by omega)).mono ?_; rintro e w' ⟨rfl, rfl⟩
  go_wp2_with fail
  refine (fv_any _ _ _ _ (by omega) (by omega)).mono ?_; rintro e w' ⟨rfl, rfl⟩
  go_wp2_with fail
  refine (fv_any _ _ _ _ (by omega) (by omega)).mono ?_; rintro e w' ⟨rfl, rfl⟩
  go_wp2_with fail
  refine (fv_no _ _ _ _ (by omega)).mono ?_; rintro e w' ⟨rfl, rfl⟩
  go_wp2_with fail
  go_ret
  exact ⟨rfl, rfl⟩

end Go.Proofs.Ytpnddokajmjpbaa
