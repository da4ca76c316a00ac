/- Calls of the program that are known beforehand: tables, and what takes nothing and returns true. -/
import Derived.Test.YthecofapmpibmaaGreatDoorHx1
import Derived.Test.YthecofapmpibmaaGreatDoorHxU
import Derived.Test.YthecofapmpibmaaGreatDoorHx6
import Derived.KernelRfl
namespace Go.Proofs.YthecofapmpibmaaGreatDoor.Hx
def tab116 : List (Nat × V) := [(1, .str [80, 97, 114, 97, 109]), (2, .str [67, 111, 110, 115, 116]), (3, .str [65, 100, 100]), (12, .str [76, 116]), (21, .str [80, 104, 105]), (23, .str [80, 111, 108, 108])]
theorem b116 : ∃ fn c, P0.funcs[116]? = some fn ∧ fn.body = some c := by
  unfold P0
  exact ⟨Tryz.f116, _, Tryz.func116, rfl⟩
set_option maxRecDepth 1000000 in
theorem ok116 : namesOk C1 100000 60 3 116 tab116 = true := by kernel_rfl
def tab237 : List (Nat × V) := [(1, .str [78, 117, 109]), (5, .str [76, 111, 97, 100]), (6, .str [83, 116, 111, 114, 101]), (8, .str [65, 100, 100]), (17, .str [76, 116]), (26, .str [74, 117, 109, 112]), (27, .str [74, 117, 109, 112, 78, 111]), (36, .str [67, 97, 108, 108]), (39, .str [80, 114, 105, 110, 116]), (41, .str [82, 101, 116])]
theorem b237 : ∃ fn c, P0.funcs[237]? = some fn ∧ fn.body = some c := by
  unfold P0
  exact ⟨Tryz.f237, _, Tryz.func237, rfl⟩
set_option maxRecDepth 1000000 in
theorem ok237 : namesOk C1 100000 60 3 237 tab237 = true := by kernel_rfl
noncomputable def C2 : Cfg := Cfg.more C1 [.names 116 tab116, .names 237 tab237]
theorem facts2 : Facts C2 := Facts.more facts fun e he => by
  simp only [List.mem_cons, List.mem_nil_iff, or_false] at he
  rcases he with rfl | rfl
  · exact .names (n := 3) (Nat.le_of_ble_eq_true globs) b116 ok116
  · exact .names (n := 3) (Nat.le_of_ble_eq_true globs) b237 ok237
noncomputable def CK : Cfg := C2
theorem factsK : Facts CK := facts2
end Go.Proofs.YthecofapmpibmaaGreatDoor.Hx
