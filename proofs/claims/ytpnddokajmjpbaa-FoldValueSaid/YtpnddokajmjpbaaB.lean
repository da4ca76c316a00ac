/- The law FoldValue, walked out of its callees' contracts: it returns true, of any op, any words; no condition. -/
import Derived.Test.YtpnddokajmjpbaaA
namespace Go.Proofs.Ytpnddokajmjpbaa
open Go.RowKit
def SomeInt (w : World) (e : Ending) (w' : World) : Prop := ∃ n : Int, e = .returned (.int .i64 n) ∧ w = w'
theorem pk (n : Int) (w : World) : Calls Try.prog 4 #[.int .i64 n, .int .i64 25] w (SomeInt w) := by
  by_cases h : n.tmod 25 < 0
  · go_enter Try.func4, Try.ntmps4
    go_wp2
    go_ret
    exact ⟨_, rfl, rfl⟩
  · go_enter Try.func4, Try.ntmps4
    go_wp2
    go_ret
    exact ⟨_, rfl, rfl⟩
theorem law_far (o a b : Int) (w : World) : Calls Try.prog 3 #[.int .i64 o, .int .u64 a, .int .u64 b, .bool false] w fun e w' => e = .returned (.bool true) ∧ w = w' := by
  by_cases h : o < 3 ∨ 14 < o
  · go_enter Try.func3, Try.ntmps3
    go_wp2_with fail
    refine (fv_no _ _ _ _ h).mono ?_; rintro e w' ⟨rfl, rfl⟩
    go_wp2_with fail
    refine (rf_no _ _ _ _ h).mono ?_; rintro e w' ⟨rfl, rfl⟩
    go_wp2_with fail
    refine (kn _).mono ?_; rintro e w' ⟨rfl, rfl⟩
    go_wp2_with fail
    go_ret
    exact ⟨rfl, rfl⟩
  · have h1 : 3 ≤ o := by omega
    have h2 : o ≤ 14 := by omega
    clear h
    go_enter Try.func3, Try.ntmps3
    go_wp2_with fail
    refine (fv_any _ _ _ _ h1 h2).mono ?_; rintro e w' ⟨rfl, rfl⟩
    go_wp2_with fail
    refine (rf_any _ _ _ _ h1 h2).mono ?_; rintro e w' ⟨rfl, rfl⟩
    go_wp2_with fail
    refine (kn _).mono ?_; rintro e w' ⟨rfl, rfl⟩
    go_wp2_with fail
    go_ret
    exact ⟨rfl, rfl⟩
theorem law_near (o a b : Int) (w : World) : Calls Try.prog 3 #[.int .i64 o, .int .u64 a, .int .u64 b, .bool true] w fun e w' => e = .returned (.bool true) ∧ w = w' := by
  go_enter Try.func3, Try.ntmps3
  go_wp2_with fail
  refine (pk _ _).mono ?_; rintro e w' ⟨p, rfl, rfl⟩
  by_cases h : p < 3 ∨ 14 < p
  · go_wp2_with fail
    refine (fv_no _ _ _ _ h).mono ?_; rintro e w' ⟨rfl, rfl⟩
    go_wp2_with fail
    refine (rf_no _ _ _ _ h).mono ?_; rintro e w' ⟨rfl, rfl⟩
    go_wp2_with fail
    refine (kn _).mono ?_; rintro e w' ⟨rfl, rfl⟩
    go_wp2_with fail
    go_ret
    exact ⟨rfl, rfl⟩
  · have h1 : 3 ≤ p := by omega
    have h2 : p ≤ 14 := by omega
    clear h
    go_wp2_with fail
    refine (fv_any _ _ _ _ h1 h2).mono ?_; rintro e w' ⟨rfl, rfl⟩
    go_wp2_with fail
    refine (rf_any _ _ _ _ h1 h2).mono ?_; rintro e w' ⟨rfl, rfl⟩
    go_wp2_with fail
    refine (kn _).mono ?_; rintro e w' ⟨rfl, rfl⟩
    go_wp2_with fail
    go_ret
    exact ⟨rfl, rfl⟩
end Go.Proofs.Ytpnddokajmjpbaa
