/- Calls that are told beforehand, shown by runs. Printed by mx.py. -/
import Derived.Test.YtgfdhkhcojjkjaaGreatDoorHxAl
import Derived.Test.YtgfdhkhcojjkjaaGreatDoorHxRm
import Derived.Test.YtgfdhkhcojjkjaaGreatDoorHxSh
import Derived.KernelRfl
namespace Go.Proofs.YtgfdhkhcojjkjaaGreatDoor.Hx
set_option maxRecDepth 1000000
theorem bt249 : ∃ fn c, P0.funcs[249]? = some fn ∧ fn.body = some c := by
  unfold P0
  exact ⟨Tryz.f249, _, Tryz.func249, rfl⟩
/-- turnstone/emit.Right -/
def rt0 : RT where
  f := 249
  g := 6
  args := [.agg [.int .i64 0, .int .i64 10, .slice 6 0 110, .slice 7 0 2, .slice 8 0 1]]
  hs := [.cells 5 1 true false [.int .u8 23, .int .u8 0, .int .u8 0, .int .u8 1, .int .u8 0, .int .u8 0, .int .u8 0, .int .u8 0, .int .u8 0, .int .u8 0, .int .u8 0, .int .u8 23, .int .u8 0, .int .u8 0, .int .u8 2, .int .u8 0, .int .u8 0, .int .u8 0, .int .u8 0, .int .u8 0, .int .u8 0, .int .u8 0, .int .u8 26, .int .u8 0, .int .u8 0, .int .u8 0, .int .u8 0, .int .u8 0, .int .u8 0, .int .u8 0, .int .u8 0, .int .u8 0, .int .u8 0, .int .u8 1, .int .u8 16, .int .u8 0, .int .u8 232, .int .u8 3, .int .u8 0, .int .u8 0, .int .u8 0, .int .u8 0, .int .u8 0, .int .u8 0, .int .u8 14, .int .u8 16, .int .u8 1, .int .u8 0, .int .u8 0, .int .u8 0, .int .u8 0, .int .u8 0, .int .u8 0, .int .u8 0, .int .u8 0, .int .u8 25, .int .u8 16, .int .u8 0, .int .u8 1, .int .u8 0, .int .u8 0, .int .u8 0, .int .u8 0, .int .u8 0, .int .u8 0, .int .u8 0, .int .u8 23, .int .u8 0, .int .u8 0, .int .u8 7, .int .u8 0, .int .u8 0, .int .u8 0, .int .u8 0, .int .u8 0, .int .u8 0, .int .u8 0, .int .u8 1, .int .u8 16, .int .u8 0, .int .u8 1, .int .u8 0, .int .u8 0, .int .u8 0, .int .u8 0, .int .u8 0, .int .u8 0, .int .u8 0, .int .u8 5, .int .u8 0, .int .u8 1, .int .u8 0, .int .u8 0, .int .u8 0, .int .u8 0, .int .u8 0, .int .u8 0, .int .u8 0, .int .u8 0, .int .u8 23, .int .u8 0, .int .u8 0, .int .u8 1, .int .u8 0, .int .u8 0, .int .u8 0, .int .u8 0, .int .u8 0, .int .u8 0, .int .u8 0],
 .cells 152 3 true false [.slice 9 0 1, .int .i64 0, .int .i64 2, .slice 10 0 1, .int .i64 1, .int .i64 5],
 .cells 432 2 true false [.int .i64 1, .int .i64 0],
 .cells 438 4 true false [.int .i64 0, .int .i64 2, .slice 11 0 1, .slice 12 0 0],
 .cells 438 4 true false [.int .i64 0, .int .i64 5, .slice 13 0 1, .slice 14 0 1],
 .cells 432 2 true false [.int .i64 1, .int .i64 0],
 .cells 432 2 true false [],
 .cells 432 2 true false [.int .i64 1, .int .i64 0],
 .cells 432 2 true false [.int .i64 1, .int .i64 1]]
  v := .bool true
  news := []
theorem rt0_ok : rt0.Ok := RT.ok_run factsK (M := 100000) (d := 60) (RT.wf (Nat.le_of_ble_eq_true globs) rfl (by kernel_rfl)) bt249 (fun _ _ => []) (by kernel_rfl)
theorem bt124 : ∃ fn c, P0.funcs[124]? = some fn ∧ fn.body = some c := by
  unfold P0
  exact ⟨Tryz.f124, _, Tryz.func124, rfl⟩
/-- turnstone/machine.Decode -/
def rt1 : RT where
  f := 124
  g := 6
  args := [.slice 6 0 110]
  hs := [.cells 5 1 true false [.int .u8 23, .int .u8 0, .int .u8 0, .int .u8 1, .int .u8 0, .int .u8 0, .int .u8 0, .int .u8 0, .int .u8 0, .int .u8 0, .int .u8 0, .int .u8 23, .int .u8 0, .int .u8 0, .int .u8 2, .int .u8 0, .int .u8 0, .int .u8 0, .int .u8 0, .int .u8 0, .int .u8 0, .int .u8 0, .int .u8 26, .int .u8 0, .int .u8 0, .int .u8 0, .int .u8 0, .int .u8 0, .int .u8 0, .int .u8 0, .int .u8 0, .int .u8 0, .int .u8 0, .int .u8 1, .int .u8 16, .int .u8 0, .int .u8 232, .int .u8 3, .int .u8 0, .int .u8 0, .int .u8 0, .int .u8 0, .int .u8 0, .int .u8 0, .int .u8 14, .int .u8 16, .int .u8 1, .int .u8 0, .int .u8 0, .int .u8 0, .int .u8 0, .int .u8 0, .int .u8 0, .int .u8 0, .int .u8 0, .int .u8 25, .int .u8 16, .int .u8 0, .int .u8 1, .int .u8 0, .int .u8 0, .int .u8 0, .int .u8 0, .int .u8 0, .int .u8 0, .int .u8 0, .int .u8 23, .int .u8 0, .int .u8 0, .int .u8 7, .int .u8 0, .int .u8 0, .int .u8 0, .int .u8 0, .int .u8 0, .int .u8 0, .int .u8 0, .int .u8 1, .int .u8 16, .int .u8 0, .int .u8 1, .int .u8 0, .int .u8 0, .int .u8 0, .int .u8 0, .int .u8 0, .int .u8 0, .int .u8 0, .int .u8 5, .int .u8 0, .int .u8 1, .int .u8 0, .int .u8 0, .int .u8 0, .int .u8 0, .int .u8 0, .int .u8 0, .int .u8 0, .int .u8 0, .int .u8 23, .int .u8 0, .int .u8 0, .int .u8 1, .int .u8 0, .int .u8 0, .int .u8 0, .int .u8 0, .int .u8 0, .int .u8 0, .int .u8 0]]
  v := .tuple [.slice 7 0 10, .int .i64 0]
  news := [.cells 282 5 true false [.int .i64 23, .int .i64 0, .int .i64 0, .int .i64 0, .int .i64 1, .int .i64 23, .int .i64 0, .int .i64 0, .int .i64 0, .int .i64 2, .int .i64 26, .int .i64 0, .int .i64 0, .int .i64 0, .int .i64 0, .int .i64 1, .int .i64 1, .int .i64 0, .int .i64 0, .int .i64 1000, .int .i64 14, .int .i64 1, .int .i64 0, .int .i64 1, .int .i64 0, .int .i64 25, .int .i64 1, .int .i64 0, .int .i64 0, .int .i64 1, .int .i64 23, .int .i64 0, .int .i64 0, .int .i64 0, .int .i64 7, .int .i64 1, .int .i64 1, .int .i64 0, .int .i64 0, .int .i64 1, .int .i64 5, .int .i64 0, .int .i64 0, .int .i64 1, .int .i64 0, .int .i64 23, .int .i64 0, .int .i64 0, .int .i64 0, .int .i64 1]]
theorem rt1_ok : rt1.Ok := RT.ok_run factsK (M := 100000) (d := 60) (RT.wf (Nat.le_of_ble_eq_true globs) rfl (by kernel_rfl)) bt124 (fun _ _ => [36]) (by kernel_rfl)
theorem bt382 : ∃ fn c, P0.funcs[382]? = some fn ∧ fn.body = some c := by
  unfold P0
  exact ⟨Tryz.f382, _, Tryz.func382, rfl⟩
/-- turnstone/verify.Heights -/
def rt2 : RT where
  f := 382
  g := 6
  args := [.agg [.slice 6 0 5, .slice 7 0 1, .int .i64 0, .slice 8 0 0, .slice 9 0 3], .int .i64 0]
  hs := [.cells 103 5 true false [.int .i64 0, .str [], .int .i64 0, .slice 10 0 0, .slice 11 0 0, .int .i64 1, .str [105, 110, 116], .int .i64 0, .slice 12 0 0, .slice 13 0 0, .int .i64 2, .str [98, 111, 111, 108], .int .i64 0, .slice 14 0 0, .slice 15 0 0, .int .i64 3, .str [115, 116, 114, 105, 110, 103], .int .i64 0, .slice 16 0 0, .slice 17 0 0, .int .i64 4, .str [110, 105, 108], .int .i64 0, .slice 18 0 0, .slice 19 0 0],
 .cells 109 5 true false [.str [109, 97, 105, 110], .slice 20 0 0, .int .i64 0, .slice 21 0 1, .slice 22 0 14],
 .cells 9 1 true false [],
 .cells 2 1 true false [.int .i64 0, .int .i64 1000, .int .i64 1],
 .cells 466 2 true false [],
 .cells 106 4 true false [],
 .cells 466 2 true false [],
 .cells 106 4 true false [],
 .cells 466 2 true false [],
 .cells 106 4 true false [],
 .cells 466 2 true false [],
 .cells 106 4 true false [],
 .cells 466 2 true false [],
 .cells 106 4 true false [],
 .cells 3 1 true false [],
 .cells 3 1 true false [.int .i64 1],
 .cells 224 3 true false [.int .i64 1, .int .i64 0, .int .i64 0, .int .i64 6, .int .i64 0, .int .i64 0, .int .i64 5, .int .i64 0, .int .i64 0, .int .i64 1, .int .i64 1, .int .i64 0, .int .i64 17, .int .i64 0, .int .i64 0, .int .i64 27, .int .i64 11, .int .i64 0, .int .i64 5, .int .i64 0, .int .i64 0, .int .i64 1, .int .i64 2, .int .i64 0, .int .i64 8, .int .i64 0, .int .i64 0, .int .i64 6, .int .i64 0, .int .i64 0, .int .i64 26, .int .i64 2, .int .i64 0, .int .i64 5, .int .i64 0, .int .i64 0, .int .i64 39, .int .i64 1, .int .i64 0, .int .i64 41, .int .i64 0, .int .i64 0]]
  v := .tuple [.slice 23 0 14, .bool true]
  news := [.cells 3 1 true false [.int .i64 0, .int .i64 1, .int .i64 0, .int .i64 1, .int .i64 2, .int .i64 1, .int .i64 0, .int .i64 1, .int .i64 2, .int .i64 1, .int .i64 0, .int .i64 0, .int .i64 1, .int .i64 0]]
theorem rt2_ok : rt2.Ok := RT.ok_run factsK (M := 100000) (d := 60) (RT.wf (Nat.le_of_ble_eq_true globs) rfl (by kernel_rfl)) bt382 (fun _ _ => [224]) (by kernel_rfl)
/-- turnstone/emit.Right -/
def rt3 : RT where
  f := 249
  g := 6
  args := [.agg [.int .i64 0, .int .i64 2, .slice 6 0 110, .slice 7 0 2, .slice 8 0 1]]
  hs := [.cells 5 1 true false [.int .u8 23, .int .u8 0, .int .u8 0, .int .u8 1, .int .u8 0, .int .u8 0, .int .u8 0, .int .u8 0, .int .u8 0, .int .u8 0, .int .u8 0, .int .u8 26, .int .u8 0, .int .u8 0, .int .u8 0, .int .u8 0, .int .u8 0, .int .u8 0, .int .u8 0, .int .u8 0, .int .u8 0, .int .u8 0, .int .u8 1, .int .u8 16, .int .u8 0, .int .u8 9, .int .u8 0, .int .u8 0, .int .u8 0, .int .u8 0, .int .u8 0, .int .u8 0, .int .u8 0, .int .u8 14, .int .u8 16, .int .u8 1, .int .u8 0, .int .u8 0, .int .u8 0, .int .u8 0, .int .u8 0, .int .u8 0, .int .u8 0, .int .u8 0, .int .u8 24, .int .u8 16, .int .u8 0, .int .u8 9, .int .u8 0, .int .u8 0, .int .u8 0, .int .u8 0, .int .u8 0, .int .u8 0, .int .u8 0, .int .u8 23, .int .u8 0, .int .u8 0, .int .u8 6, .int .u8 0, .int .u8 0, .int .u8 0, .int .u8 0, .int .u8 0, .int .u8 0, .int .u8 0, .int .u8 1, .int .u8 16, .int .u8 0, .int .u8 1, .int .u8 0, .int .u8 0, .int .u8 0, .int .u8 0, .int .u8 0, .int .u8 0, .int .u8 0, .int .u8 5, .int .u8 0, .int .u8 1, .int .u8 0, .int .u8 0, .int .u8 0, .int .u8 0, .int .u8 0, .int .u8 0, .int .u8 0, .int .u8 0, .int .u8 23, .int .u8 0, .int .u8 0, .int .u8 1, .int .u8 0, .int .u8 0, .int .u8 0, .int .u8 0, .int .u8 0, .int .u8 0, .int .u8 0, .int .u8 27, .int .u8 0, .int .u8 0, .int .u8 1, .int .u8 0, .int .u8 0, .int .u8 0, .int .u8 0, .int .u8 0, .int .u8 0, .int .u8 0],
 .cells 152 3 true false [.slice 9 0 1, .int .i64 0, .int .i64 2, .slice 10 0 1, .int .i64 1, .int .i64 (-1)],
 .cells 432 2 true false [.int .i64 1, .int .i64 0],
 .cells 438 4 true false [.int .i64 0, .int .i64 2, .slice 11 0 1, .slice 12 0 0],
 .cells 438 4 true false [.int .i64 0, .int .i64 11, .slice 13 0 1, .slice 14 0 0],
 .cells 432 2 true false [.int .i64 1, .int .i64 0],
 .cells 432 2 true false [],
 .cells 432 2 true false [.int .i64 1, .int .i64 0],
 .cells 432 2 true false []]
  v := .bool true
  news := []
theorem rt3_ok : rt3.Ok := RT.ok_run factsK (M := 100000) (d := 60) (RT.wf (Nat.le_of_ble_eq_true globs) rfl (by kernel_rfl)) bt249 (fun _ _ => []) (by kernel_rfl)
/-- turnstone/machine.Decode -/
def rt4 : RT where
  f := 124
  g := 6
  args := [.slice 6 0 110]
  hs := [.cells 5 1 true false [.int .u8 23, .int .u8 0, .int .u8 0, .int .u8 1, .int .u8 0, .int .u8 0, .int .u8 0, .int .u8 0, .int .u8 0, .int .u8 0, .int .u8 0, .int .u8 26, .int .u8 0, .int .u8 0, .int .u8 0, .int .u8 0, .int .u8 0, .int .u8 0, .int .u8 0, .int .u8 0, .int .u8 0, .int .u8 0, .int .u8 1, .int .u8 16, .int .u8 0, .int .u8 9, .int .u8 0, .int .u8 0, .int .u8 0, .int .u8 0, .int .u8 0, .int .u8 0, .int .u8 0, .int .u8 14, .int .u8 16, .int .u8 1, .int .u8 0, .int .u8 0, .int .u8 0, .int .u8 0, .int .u8 0, .int .u8 0, .int .u8 0, .int .u8 0, .int .u8 24, .int .u8 16, .int .u8 0, .int .u8 9, .int .u8 0, .int .u8 0, .int .u8 0, .int .u8 0, .int .u8 0, .int .u8 0, .int .u8 0, .int .u8 23, .int .u8 0, .int .u8 0, .int .u8 6, .int .u8 0, .int .u8 0, .int .u8 0, .int .u8 0, .int .u8 0, .int .u8 0, .int .u8 0, .int .u8 1, .int .u8 16, .int .u8 0, .int .u8 1, .int .u8 0, .int .u8 0, .int .u8 0, .int .u8 0, .int .u8 0, .int .u8 0, .int .u8 0, .int .u8 5, .int .u8 0, .int .u8 1, .int .u8 0, .int .u8 0, .int .u8 0, .int .u8 0, .int .u8 0, .int .u8 0, .int .u8 0, .int .u8 0, .int .u8 23, .int .u8 0, .int .u8 0, .int .u8 1, .int .u8 0, .int .u8 0, .int .u8 0, .int .u8 0, .int .u8 0, .int .u8 0, .int .u8 0, .int .u8 27, .int .u8 0, .int .u8 0, .int .u8 1, .int .u8 0, .int .u8 0, .int .u8 0, .int .u8 0, .int .u8 0, .int .u8 0, .int .u8 0]]
  v := .tuple [.slice 7 0 10, .int .i64 0]
  news := [.cells 282 5 true false [.int .i64 23, .int .i64 0, .int .i64 0, .int .i64 0, .int .i64 1, .int .i64 26, .int .i64 0, .int .i64 0, .int .i64 0, .int .i64 0, .int .i64 1, .int .i64 1, .int .i64 0, .int .i64 0, .int .i64 9, .int .i64 14, .int .i64 1, .int .i64 0, .int .i64 1, .int .i64 0, .int .i64 24, .int .i64 1, .int .i64 0, .int .i64 0, .int .i64 9, .int .i64 23, .int .i64 0, .int .i64 0, .int .i64 0, .int .i64 6, .int .i64 1, .int .i64 1, .int .i64 0, .int .i64 0, .int .i64 1, .int .i64 5, .int .i64 0, .int .i64 0, .int .i64 1, .int .i64 0, .int .i64 23, .int .i64 0, .int .i64 0, .int .i64 0, .int .i64 1, .int .i64 27, .int .i64 0, .int .i64 0, .int .i64 0, .int .i64 1]]
theorem rt4_ok : rt4.Ok := RT.ok_run factsK (M := 100000) (d := 60) (RT.wf (Nat.le_of_ble_eq_true globs) rfl (by kernel_rfl)) bt124 (fun _ _ => [36]) (by kernel_rfl)
/-- turnstone/verify.Heights -/
def rt5 : RT where
  f := 382
  g := 6
  args := [.agg [.slice 6 0 5, .slice 7 0 1, .int .i64 0, .slice 8 0 0, .slice 9 0 3], .int .i64 0]
  hs := [.cells 103 5 true false [.int .i64 0, .str [], .int .i64 0, .slice 10 0 0, .slice 11 0 0, .int .i64 1, .str [105, 110, 116], .int .i64 0, .slice 12 0 0, .slice 13 0 0, .int .i64 2, .str [98, 111, 111, 108], .int .i64 0, .slice 14 0 0, .slice 15 0 0, .int .i64 3, .str [115, 116, 114, 105, 110, 103], .int .i64 0, .slice 16 0 0, .slice 17 0 0, .int .i64 4, .str [110, 105, 108], .int .i64 0, .slice 18 0 0, .slice 19 0 0],
 .cells 109 5 true false [.str [109, 97, 105, 110], .slice 20 0 0, .int .i64 0, .slice 21 0 1, .slice 22 0 12],
 .cells 9 1 true false [],
 .cells 2 1 true false [.int .i64 0, .int .i64 9, .int .i64 1],
 .cells 466 2 true false [],
 .cells 106 4 true false [],
 .cells 466 2 true false [],
 .cells 106 4 true false [],
 .cells 466 2 true false [],
 .cells 106 4 true false [],
 .cells 466 2 true false [],
 .cells 106 4 true false [],
 .cells 466 2 true false [],
 .cells 106 4 true false [],
 .cells 3 1 true false [],
 .cells 3 1 true false [.int .i64 1],
 .cells 224 3 true false [.int .i64 1, .int .i64 0, .int .i64 0, .int .i64 6, .int .i64 0, .int .i64 0, .int .i64 5, .int .i64 0, .int .i64 0, .int .i64 1, .int .i64 1, .int .i64 0, .int .i64 17, .int .i64 0, .int .i64 0, .int .i64 27, .int .i64 11, .int .i64 0, .int .i64 5, .int .i64 0, .int .i64 0, .int .i64 1, .int .i64 2, .int .i64 0, .int .i64 8, .int .i64 0, .int .i64 0, .int .i64 6, .int .i64 0, .int .i64 0, .int .i64 26, .int .i64 2, .int .i64 0, .int .i64 41, .int .i64 0, .int .i64 0]]
  v := .tuple [.slice 23 0 12, .bool true]
  news := [.cells 3 1 true false [.int .i64 0, .int .i64 1, .int .i64 0, .int .i64 1, .int .i64 2, .int .i64 1, .int .i64 0, .int .i64 1, .int .i64 2, .int .i64 1, .int .i64 0, .int .i64 0]]
theorem rt5_ok : rt5.Ok := RT.ok_run factsK (M := 100000) (d := 60) (RT.wf (Nat.le_of_ble_eq_true globs) rfl (by kernel_rfl)) bt382 (fun _ _ => [198]) (by kernel_rfl)
def alV0 : List (List (Nat × Nat × Nat)) := [[],
 [(0, 0, 0)],
 [(0, 0, 0), (5, 0, 0)],
 [(0, 0, 0), (5, 0, 0), (10, 0, 0)],
 [(0, 0, 0), (5, 1, 0), (10, 0, 0)],
 [(0, 0, 0), (5, 1, 0), (10, 1, 0)],
 [(0, 0, 0), (5, 2, 0), (10, 1, 0)],
 [(0, 0, 0), (5, 2, 0), (10, 2, 0)],
 [(0, 0, 0), (5, 3, 0), (10, 2, 0)],
 [(0, 0, 0), (5, 3, 0), (10, 3, 0)],
 [(0, 0, 0), (5, 3, 1), (10, 3, 0)],
 [(0, 0, 0), (5, 4, 0), (10, 3, 0)],
 [(0, 0, 0), (5, 4, 0), (10, 4, 0)]]
theorem alV0_ok : alV0.all chkAll = true := by kernel_rfl
def alV1 : List (List (Nat × Nat × Nat)) := [[(0, 0, 0), (5, 5, 0), (10, 4, 0)],
 [(0, 0, 0), (5, 5, 0), (10, 5, 0)],
 [(0, 0, 0), (5, 6, 0), (10, 5, 0)],
 [(0, 0, 0), (5, 6, 0), (10, 6, 0)],
 [(0, 0, 0), (5, 7, 0), (10, 6, 0)],
 [(0, 0, 0), (5, 7, 0), (10, 7, 0)],
 [(0, 0, 0), (5, 8, 0), (10, 7, 0)],
 [(0, 0, 0), (5, 8, 0), (10, 8, 0)],
 [(0, 0, 0), (5, 9, 0), (10, 8, 0)],
 [(0, 0, 0), (5, 9, 0), (10, 9, 0)],
 [(0, 0, 0), (5, 10, 0), (10, 9, 0)],
 [(0, 0, 0), (5, 10, 0), (10, 10, 0)],
 [(0, 0, 0), (5, 11, 0), (10, 10, 0)]]
theorem alV1_ok : alV1.all chkAll = true := by kernel_rfl
def alV2 : List (List (Nat × Nat × Nat)) := [[(0, 0, 0), (5, 11, 0), (10, 11, 0)],
 [(0, 0, 0), (5, 12, 0), (10, 11, 0)],
 [(0, 0, 0), (5, 12, 0), (10, 12, 0)],
 [(0, 0, 0), (5, 13, 0), (10, 12, 0)],
 [(0, 0, 0), (5, 13, 0), (10, 13, 0)],
 [(0, 0, 0), (5, 14, 0), (10, 13, 0)],
 [(0, 0, 0), (5, 14, 0), (10, 14, 0)],
 [(0, 0, 0), (5, 15, 0), (10, 14, 0)],
 [(0, 0, 0), (5, 15, 0), (10, 15, 0)],
 [(0, 0, 0), (5, 16, 0), (10, 15, 0)],
 [(0, 0, 0), (5, 17, 0), (10, 15, 0)],
 [(0, 0, 0), (5, 18, 0), (10, 15, 0)],
 [(0, 0, 0), (5, 19, 0), (10, 15, 0)]]
theorem alV2_ok : alV2.all chkAll = true := by kernel_rfl
def alV3 : List (List (Nat × Nat × Nat)) := [[(0, 0, 0), (5, 20, 0), (10, 15, 0)],
 [(0, 0, 0), (5, 21, 0), (10, 15, 0)],
 [(0, 0, 0), (5, 22, 0), (10, 15, 0)],
 [(0, 0, 0), (5, 23, 0), (10, 15, 0)],
 [(0, 0, 0), (5, 24, 0), (10, 15, 0)],
 [(0, 0, 0), (5, 25, 0), (10, 15, 0)],
 [(0, 0, 0), (5, 26, 0), (10, 15, 0)],
 [(0, 0, 0), (5, 27, 0), (10, 15, 0)],
 [(0, 0, 0), (5, 28, 0), (10, 15, 0)],
 [(0, 0, 0), (5, 29, 0), (10, 15, 0)],
 [(0, 0, 0), (5, 30, 0), (10, 15, 0)],
 [(0, 0, 0), (5, 31, 0), (10, 15, 0)],
 [(0, 0, 0), (5, 32, 0), (10, 15, 0)]]
theorem alV3_ok : alV3.all chkAll = true := by kernel_rfl
def alV4 : List (List (Nat × Nat × Nat)) := [[(0, 0, 0), (5, 33, 0), (10, 15, 0)],
 [(0, 0, 0), (5, 34, 0), (10, 15, 0)],
 [(0, 0, 0), (5, 35, 0), (10, 15, 0)],
 [(0, 0, 0), (5, 35, 1), (10, 15, 0)]]
theorem alV4_ok : alV4.all chkAll = true := by kernel_rfl
def alV : List (List (Nat × Nat × Nat)) := alV0 ++ alV1 ++ alV2 ++ alV3 ++ alV4
theorem alV_ok : ∀ l ∈ alV, chkAll l = true := by
  intro l hl
  unfold alV at hl
  simp only [List.mem_append, or_assoc] at hl
  rcases hl with hl | hl | hl | hl | hl
  · exact List.all_eq_true.1 alV0_ok l hl
  · exact List.all_eq_true.1 alV1_ok l hl
  · exact List.all_eq_true.1 alV2_ok l hl
  · exact List.all_eq_true.1 alV3_ok l hl
  · exact List.all_eq_true.1 alV4_ok l hl
noncomputable def reAll : RE := ⟨29, findAll alV⟩
theorem reAll_ok : reAll.Ok := findAll_ok alV_ok
noncomputable def REA : List RE := [reAll]
theorem REA_ok : ∀ e ∈ REA, e.Ok := fun _ h => by
  rcases List.mem_singleton.1 h with rfl
  exact reAll_ok
noncomputable def CA : Cfg := CK.told REA
theorem factsA : Facts CA := Facts.withR factsK REA_ok
noncomputable def chkHot (l : List (Nat × Nat × Nat)) : Bool := chkHotC CA l
def hoV0 : List (List (Nat × Nat × Nat)) := [[(0, 0, 0)],
 [(0, 0, 0), (5, 0, 0)],
 [(0, 0, 0), (5, 0, 0), (10, 0, 0)],
 [(0, 0, 0), (5, 1, 0), (10, 0, 0)],
 [(0, 0, 0), (5, 1, 0), (10, 1, 0)],
 [(0, 0, 0), (5, 2, 0), (10, 1, 0)],
 [(0, 0, 0), (5, 2, 0), (10, 2, 0)],
 [(0, 0, 0), (5, 3, 0), (10, 2, 0)],
 [(0, 0, 0), (5, 3, 0), (10, 3, 0)],
 [(0, 0, 0), (5, 4, 0), (10, 3, 0)],
 [(0, 0, 0), (5, 4, 0), (10, 4, 0)],
 [(0, 0, 0), (5, 5, 0), (10, 4, 0)],
 [(0, 0, 0), (5, 5, 0), (10, 5, 0)]]
theorem hoV0_ok : hoV0.all chkHot = true := by kernel_rfl
def hoV1 : List (List (Nat × Nat × Nat)) := [[(0, 0, 0), (5, 6, 0), (10, 5, 0)],
 [(0, 0, 0), (5, 6, 0), (10, 6, 0)],
 [(0, 0, 0), (5, 7, 0), (10, 6, 0)],
 [(0, 0, 0), (5, 7, 0), (10, 7, 0)],
 [(0, 0, 0), (5, 8, 0), (10, 7, 0)],
 [(0, 0, 0), (5, 8, 0), (10, 8, 0)],
 [(0, 0, 0), (5, 9, 0), (10, 8, 0)],
 [(0, 0, 0), (5, 9, 0), (10, 9, 0)],
 [(0, 0, 0), (5, 10, 0), (10, 9, 0)],
 [(0, 0, 0), (5, 10, 0), (10, 10, 0)],
 [(0, 0, 0), (5, 11, 0), (10, 10, 0)],
 [(0, 0, 0), (5, 11, 0), (10, 11, 0)],
 [(0, 0, 0), (5, 12, 0), (10, 11, 0)]]
theorem hoV1_ok : hoV1.all chkHot = true := by kernel_rfl
def hoV2 : List (List (Nat × Nat × Nat)) := [[(0, 0, 0), (5, 12, 0), (10, 12, 0)],
 [(0, 0, 0), (5, 13, 0), (10, 12, 0)],
 [(0, 0, 0), (5, 13, 0), (10, 13, 0)],
 [(0, 0, 0), (5, 14, 0), (10, 13, 0)],
 [(0, 0, 0), (5, 14, 0), (10, 14, 0)],
 [(0, 0, 0), (5, 15, 0), (10, 14, 0)],
 [(0, 0, 0), (5, 15, 0), (10, 15, 0)],
 [(0, 0, 0), (5, 16, 0), (10, 15, 0)],
 [(0, 0, 0), (5, 17, 0), (10, 15, 0)],
 [(0, 0, 0), (5, 18, 0), (10, 15, 0)],
 [(0, 0, 0), (5, 19, 0), (10, 15, 0)],
 [(0, 0, 0), (5, 20, 0), (10, 15, 0)],
 [(0, 0, 0), (5, 21, 0), (10, 15, 0)]]
theorem hoV2_ok : hoV2.all chkHot = true := by kernel_rfl
def hoV3 : List (List (Nat × Nat × Nat)) := [[(0, 0, 0), (5, 22, 0), (10, 15, 0)],
 [(0, 0, 0), (5, 23, 0), (10, 15, 0)],
 [(0, 0, 0), (5, 24, 0), (10, 15, 0)],
 [(0, 0, 0), (5, 25, 0), (10, 15, 0)],
 [(0, 0, 0), (5, 26, 0), (10, 15, 0)],
 [(0, 0, 0), (5, 27, 0), (10, 15, 0)],
 [(0, 0, 0), (5, 28, 0), (10, 15, 0)],
 [(0, 0, 0), (5, 29, 0), (10, 15, 0)],
 [(0, 0, 0), (5, 30, 0), (10, 15, 0)],
 [(0, 0, 0), (5, 31, 0), (10, 15, 0)],
 [(0, 0, 0), (5, 32, 0), (10, 15, 0)],
 [(0, 0, 0), (5, 33, 0), (10, 15, 0)],
 [(0, 0, 0), (5, 34, 0), (10, 15, 0)]]
theorem hoV3_ok : hoV3.all chkHot = true := by kernel_rfl
def hoV4 : List (List (Nat × Nat × Nat)) := [[(0, 0, 0), (5, 35, 0), (10, 15, 0)],
 [(0, 0, 0), (5, 35, 1), (10, 15, 0)]]
theorem hoV4_ok : hoV4.all chkHot = true := by kernel_rfl
def hoV : List (List (Nat × Nat × Nat)) := hoV0 ++ hoV1 ++ hoV2 ++ hoV3 ++ hoV4
theorem hoV_ok : ∀ l ∈ hoV, chkHot l = true := by
  intro l hl
  unfold hoV at hl
  simp only [List.mem_append, or_assoc] at hl
  rcases hl with hl | hl | hl | hl | hl
  · exact List.all_eq_true.1 hoV0_ok l hl
  · exact List.all_eq_true.1 hoV1_ok l hl
  · exact List.all_eq_true.1 hoV2_ok l hl
  · exact List.all_eq_true.1 hoV3_ok l hl
  · exact List.all_eq_true.1 hoV4_ok l hl
noncomputable def reHot : RE := ⟨64, findHot hoV⟩
theorem reHot_ok : reHot.Ok := findHot_ok factsA hoV_ok
noncomputable def re124 : RE := RE.row 124 [rt1, rt4]
theorem re124_ok : re124.Ok := RE.row_ok fun s hs => by
  simp only [List.mem_cons, List.mem_nil_iff, or_false] at hs
  rcases hs with rfl | rfl
  · exact ⟨rfl, rt1_ok⟩
  · exact ⟨rfl, rt4_ok⟩
noncomputable def re249 : RE := RE.row 249 [rt0, rt3]
theorem re249_ok : re249.Ok := RE.row_ok fun s hs => by
  simp only [List.mem_cons, List.mem_nil_iff, or_false] at hs
  rcases hs with rfl | rfl
  · exact ⟨rfl, rt0_ok⟩
  · exact ⟨rfl, rt3_ok⟩
noncomputable def re382 : RE := RE.row 382 [rt2, rt5]
theorem re382_ok : re382.Ok := RE.row_ok fun s hs => by
  simp only [List.mem_cons, List.mem_nil_iff, or_false] at hs
  rcases hs with rfl | rfl
  · exact ⟨rfl, rt2_ok⟩
  · exact ⟨rfl, rt5_ok⟩
noncomputable def REL : List RE := [reAll, reHot, re124, re249, re382]
theorem REL_ok : ∀ e ∈ REL, e.Ok := by
  intro e he
  simp only [REL, List.mem_cons, List.mem_nil_iff, or_false] at he
  rcases he with rfl | rfl | rfl | rfl | rfl
  · exact reAll_ok
  · exact reHot_ok
  · exact re124_ok
  · exact re249_ok
  · exact re382_ok
noncomputable def CR : Cfg := CK.told REL
theorem factsR : Facts CR := Facts.withR factsK REL_ok
theorem CRH : HK CR := HK.withR (fun _ _ _ _ => rfl) REL_ok
end Go.Proofs.YtgfdhkhcojjkjaaGreatDoor.Hx
