/- What the law's row asks of the whole program: by computation. -/
import Derived.Test.YthecofapmpibmabGreatDoorCards
import Derived.Test.YthecofapmpibmabGreatDoorTie
import Derived.WalkKit
import Derived.ProofKit
import Derived.OpenShut
import Derived.Deep.DeepHandedRow
import Derived.Lib.LaidTab
import Derived.KernelRfl
namespace Go.Proofs.YthecofapmpibmabGreatDoor.deoptKnown
open Go.ChangeShapes Go.WideShapes Go.ChangeAt Go.RowKit
set_option maxRecDepth 100000 in
theorem jf0 : (Rows.deoptKnownRow.inPlace == Tryz.pinned.checked.prog.inPlace 3) = true := by kernel_rfl
set_option maxRecDepth 100000 in
theorem jf1 : (Rows.deoptKnownRow.unfollowed == Tryz.pinned.checked.prog.unfollowed 3) = true := by kernel_rfl
set_option maxRecDepth 100000 in
theorem jf2 : (Rows.deoptKnownRow.recurses == Tryz.pinned.checked.prog.recurses 3) = true := by kernel_rfl
set_option maxRecDepth 100000 in
theorem jf3 : (Rows.deoptKnownRow.named == Tryz.pinned.checked.prog.varsNamed 3) = true := by kernel_rfl
set_option maxRecDepth 100000 in
theorem closed : joinedFacts Tryz.pinned.checked.prog 3 Tryz.f3 (OpenSpec.ofChange Rows.deoptKnownSpec).bare Rows.deoptKnownRow = true := by
  unfold joinedFacts
  rw [jf0, jf1, jf2, jf3]
  kernel_rfl
end Go.Proofs.YthecofapmpibmabGreatDoor.deoptKnown
