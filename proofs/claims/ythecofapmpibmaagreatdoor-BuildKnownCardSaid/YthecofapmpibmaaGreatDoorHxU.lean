/- The program's own facts for the plain machine. -/
import Derived.Test.YthecofapmpibmaaGreatDoorHxT
import Derived.KernelRfl
namespace Go.Proofs.YthecofapmpibmaaGreatDoor.Hx
def E1 : Nat → Ext
  | 339 => .countByte
  | 355 => .indexByte
  | _ => .none
theorem namedAll : (P0.funcs.toList.all fun fn => !(fn.name == "runtime.NumGoroutine")) = true := by kernel_rfl
theorem mixed : P0.follows .mixedOrders = true := by kernel_rfl
theorem globs : Nat.ble P0.globals.size 3 = true := by kernel_rfl
theorem fn339 : P0.funcs[339]? = some Tryz.f339 := by unfold P0; exact Tryz.func339
theorem fn355 : P0.funcs[355]? = some Tryz.f355 := by unfold P0; exact Tryz.func355
theorem noTab (w : World) : TabOk (fun _ => none) w := fun g c h => by simp [tabs] at h
noncomputable def C1 : Cfg := ⟨startT, E1, fun _ _ _ => none⟩
theorem facts : Facts C1 where
  startD := fun _ => rfl
  start := startT_get
  known := fun _ _ _ _ h => nomatch h
  mixed := mixed
  named := fun f fn hf => by
    have h := List.all_eq_true.1 namedAll fn (by rw [Array.mem_toList_iff]; exact Array.mem_of_getElem? hf)
    simpa using h
  ext := fun f fn hf hb Δ args v args' w hv ha => by
    by_cases h1 : f = 339
    · subst h1
      rw [fn339] at hf
      cases hf
      exact ext_count fn339 (by kernel_rfl) (by kernel_rfl) (by kernel_rfl) (by kernel_rfl) hv ha
    · by_cases h2 : f = 355
      · subst h2
        rw [fn355] at hf
        cases hf
        exact ext_index fn355 (by kernel_rfl) (by kernel_rfl) (by kernel_rfl) (by kernel_rfl) hv ha
      · have h9 : C1.ext f = .none := by
          show E1 f = .none
          unfold E1
          split
          · exact absurd rfl h1
          · exact absurd rfl h2
          · rfl
        rw [h9] at hv
        simp [extF] at hv
end Go.Proofs.YthecofapmpibmaaGreatDoor.Hx
