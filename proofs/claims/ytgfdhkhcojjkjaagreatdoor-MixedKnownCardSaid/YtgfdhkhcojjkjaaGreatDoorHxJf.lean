/- What the law's row asks of the whole program: by computation, part by part. -/
import Derived.Test.YtgfdhkhcojjkjaaGreatDoorCards
import Derived.WalkKit
import Derived.ProofKit
import Derived.OpenShut
import Derived.Deep.DeepHandedRow
import Derived.Lib.LaidTab
import Derived.KernelRfl
import Derived.Test.YtgfdhkhcojjkjaaGreatDoorHxJl
import Derived.Test.YtgfdhkhcojjkjaaGreatDoorHxJc
namespace Go.Proofs.YtgfdhkhcojjkjaaGreatDoor.mixedKnown
open Go.ChangeShapes Go.WideShapes Go.ChangeAt Go.RowKit
set_option maxRecDepth 100000 in
theorem jp0 : (Tryz.pinned.checked.prog.stops == []) = true := by kernel_rfl
set_option maxRecDepth 100000 in
theorem jp1 : (Tryz.pinned.checked.prog.stopKnobs == []) = true := by kernel_rfl
set_option maxRecDepth 100000 in
theorem jp2 : (Rows.mixedKnownRow.plainKeys == Tryz.pinned.checked.prog.plainKeys) = true := by kernel_rfl
set_option maxRecDepth 100000 in
theorem jp3 : Tryz.pinned.checked.prog.stopsHeard = true := by kernel_rfl
set_option maxRecDepth 100000 in
theorem jp4 : Tryz.pinned.checked.prog.mayEnter = true := by kernel_rfl
set_option maxRecDepth 100000 in
theorem jp5 : (Rows.mixedKnownRow.lifted == Tryz.pinned.checked.prog.liftsFinal) = true := by kernel_rfl
set_option maxRecDepth 100000 in
theorem jp6 : (Tryz.pinned.checked.prog.make == some Rows.mixedKnownRow.make) = true := by kernel_rfl
theorem jl0 : laidOutB Tryz.pinned.checked.prog = true := Laws.laidOutP
theorem jl1 : mapsRowed Tryz.pinned.checked.prog = true := Laws.mapsRowedP
set_option maxRecDepth 100000 in
theorem closed : joinedFacts Tryz.pinned.checked.prog 3 Tryz.f3 (OpenSpec.ofChange Rows.mixedKnownSpec).bare Rows.mixedKnownRow = true := by
  unfold joinedFacts
  rw [jf0, jf1, jf2, jf3, jp0, jp1, jp2, jp3, jp4, jp5, jp6, jl0, jl1]
  kernel_rfl
end Go.Proofs.YtgfdhkhcojjkjaaGreatDoor.mixedKnown
