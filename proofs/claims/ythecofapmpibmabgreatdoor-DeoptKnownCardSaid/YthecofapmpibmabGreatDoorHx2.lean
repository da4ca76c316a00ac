/- Calls of the program that are known beforehand: tables, and what takes nothing and returns true. -/
import Derived.Test.YthecofapmpibmabGreatDoorHx1
import Derived.Test.YthecofapmpibmabGreatDoorHxU
import Derived.Test.YthecofapmpibmabGreatDoorHx6
import Derived.KernelRfl
namespace Go.Proofs.YthecofapmpibmabGreatDoor.Hx
def tab221 : List (Nat × V) := [(1, .str [80, 97, 114, 97, 109]), (2, .str [67, 111, 110, 115, 116]), (3, .str [65, 100, 100]), (12, .str [76, 116]), (21, .str [80, 104, 105]), (23, .str [80, 111, 108, 108])]
theorem b221 : ∃ fn c, P0.funcs[221]? = some fn ∧ fn.body = some c := by
  unfold P0
  exact ⟨Tryz.f221, _, Tryz.func221, rfl⟩
set_option maxRecDepth 1000000 in
theorem ok221 : namesOk C1 100000 60 3 221 tab221 = true := by kernel_rfl
def tab193 : List (Nat × V) := [(1, .str [78, 117, 109]), (5, .str [76, 111, 97, 100]), (6, .str [83, 116, 111, 114, 101]), (8, .str [65, 100, 100]), (17, .str [76, 116]), (26, .str [74, 117, 109, 112]), (27, .str [74, 117, 109, 112, 78, 111]), (39, .str [80, 114, 105, 110, 116]), (41, .str [82, 101, 116])]
theorem b193 : ∃ fn c, P0.funcs[193]? = some fn ∧ fn.body = some c := by
  unfold P0
  exact ⟨Tryz.f193, _, Tryz.func193, rfl⟩
set_option maxRecDepth 1000000 in
theorem ok193 : namesOk C1 100000 60 3 193 tab193 = true := by kernel_rfl
def tab151 : List (Nat × V) := [(1, .str [83, 101, 116]), (5, .str [65, 100, 100]), (14, .str [76, 116]), (23, .str [74, 117, 109, 112]), (24, .str [74, 122]), (26, .str [80, 111, 108, 108]), (27, .str [76, 101, 97, 118, 101])]
theorem b151 : ∃ fn c, P0.funcs[151]? = some fn ∧ fn.body = some c := by
  unfold P0
  exact ⟨Tryz.f151, _, Tryz.func151, rfl⟩
set_option maxRecDepth 1000000 in
theorem ok151 : namesOk C1 100000 60 3 151 tab151 = true := by kernel_rfl
noncomputable def C2 : Cfg := Cfg.more C1 [.names 221 tab221, .names 193 tab193, .names 151 tab151]
theorem facts2 : Facts C2 := Facts.more facts fun e he => by
  simp only [List.mem_cons, List.mem_nil_iff, or_false] at he
  rcases he with rfl | rfl | rfl
  · exact .names (n := 3) (Nat.le_of_ble_eq_true globs) b221 ok221
  · exact .names (n := 3) (Nat.le_of_ble_eq_true globs) b193 ok193
  · exact .names (n := 3) (Nat.le_of_ble_eq_true globs) b151 ok151
noncomputable def CK : Cfg := C2
theorem factsK : Facts CK := facts2
end Go.Proofs.YthecofapmpibmabGreatDoor.Hx
