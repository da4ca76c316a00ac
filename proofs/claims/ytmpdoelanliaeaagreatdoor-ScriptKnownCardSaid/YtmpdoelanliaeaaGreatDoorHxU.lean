/- The program's own facts for the plain machine. -/
import Derived.Test.YtmpdoelanliaeaaGreatDoorHxT
import Derived.KernelRfl
namespace Go.Proofs.YtmpdoelanliaeaaGreatDoor.Hx
def E1 : Nat → Ext
  | 188 => .countByte
  | 447 => .indexByte
  | _ => .none
theorem namedAll : (P0.funcs.toList.all fun fn => !(fn.name == "runtime.NumGoroutine")) = true := by kernel_rfl
theorem mixed : P0.follows .mixedOrders = true := by kernel_rfl
theorem globs : Nat.ble P0.globals.size 6 = true := by kernel_rfl
theorem fn188 : P0.funcs[188]? = some Tryz.f188 := by unfold P0; exact Tryz.func188
theorem fn447 : P0.funcs[447]? = some Tryz.f447 := by unfold P0; exact Tryz.func447
noncomputable def C1 : Cfg := ⟨startT, E1, fun _ _ _ => none⟩
theorem facts : Facts C1 where
  startD := fun _ => rfl
  start := startT_get
  known := fun _ _ _ _ h => nomatch h
  mixed := mixed
  named := fun f fn hf => by
    have h := List.all_eq_true.1 namedAll fn (by rw [Array.mem_toList_iff]; exact Array.mem_of_getElem? hf)
    simpa using h
  ext := fun f fn hf hb Δ args v args' w hv ha => by
    by_cases h1 : f = 188
    · subst h1
      rw [fn188] at hf
      cases hf
      exact ext_count fn188 (by kernel_rfl) (by kernel_rfl) (by kernel_rfl) (by kernel_rfl) hv ha
    · by_cases h2 : f = 447
      · subst h2
        rw [fn447] at hf
        cases hf
        exact ext_index fn447 (by kernel_rfl) (by kernel_rfl) (by kernel_rfl) (by kernel_rfl) hv ha
      · have h9 : C1.ext f = .none := by
          show E1 f = .none
          unfold E1
          split
          · exact absurd rfl h1
          · exact absurd rfl h2
          · rfl
        rw [h9] at hv
        simp [extF] at hv
end Go.Proofs.YtmpdoelanliaeaaGreatDoor.Hx
