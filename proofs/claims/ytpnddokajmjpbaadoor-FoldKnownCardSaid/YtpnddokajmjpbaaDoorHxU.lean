/- The program's own facts for the plain machine. -/
import Derived.Test.YtpnddokajmjpbaaDoorHxT
import Derived.KernelRfl
namespace Go.Proofs.YtpnddokajmjpbaaDoor.Hx
def E1 : Nat → Ext
  | 120 => .countByte
  | 127 => .indexByte
  | _ => .none
theorem namedAll : (P0.funcs.toList.all fun fn => !(fn.name == "runtime.NumGoroutine")) = true := by kernel_rfl
theorem mixed : P0.follows .mixedOrders = true := by kernel_rfl
theorem globs : Nat.ble P0.globals.size 3 = true := by kernel_rfl
theorem fn120 : P0.funcs[120]? = some Tryd.f120 := by unfold P0; exact Tryd.func120
theorem fn127 : P0.funcs[127]? = some Tryd.f127 := by unfold P0; exact Tryd.func127
theorem facts : Facts E1 where
  mixed := mixed
  named := fun f fn hf => by
    have h := List.all_eq_true.1 namedAll fn (by rw [Array.mem_toList_iff]; exact Array.mem_of_getElem? hf)
    simpa using h
  ext := fun f fn hf hb Δ args v args' w hv ha => by
    by_cases h1 : f = 120
    · subst h1
      rw [fn120] at hf
      cases hf
      exact ext_count fn120 (by kernel_rfl) (by kernel_rfl) (by kernel_rfl) (by kernel_rfl) hv ha
    · by_cases h2 : f = 127
      · subst h2
        rw [fn127] at hf
        cases hf
        exact ext_index fn127 (by kernel_rfl) (by kernel_rfl) (by kernel_rfl) (by kernel_rfl) hv ha
      · have : E1 f = .none := by
          unfold E1
          split
          · exact absurd rfl h1
          · exact absurd rfl h2
          · rfl
        rw [this] at hv
        simp [extF] at hv
end Go.Proofs.YtpnddokajmjpbaaDoor.Hx
