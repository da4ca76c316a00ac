/- What the card asks: by computation. -/
import Derived.Test.YtgfdhkhcojjkjaaGreatDoorCards
import Derived.WalkKit
import Derived.ProofKit
import Derived.OpenShut
import Derived.Deep.DeepHandedRow
import Derived.Lib.LaidTab
import Derived.KernelRfl
import Derived.Test.YtgfdhkhcojjkjaaGreatDoorHxJl
namespace Go.Proofs.YtgfdhkhcojjkjaaGreatDoor.mixedKnown
open Go.ChangeShapes Go.WideShapes Go.ChangeAt Go.RowKit
set_option maxRecDepth 100000 in
theorem cw : Rows.mixedKnownRow.wfByText (OpenSpec.ofChange Rows.mixedKnownSpec) = true := by kernel_rfl
set_option maxRecDepth 100000 in
theorem cm : Tryz.pinned.checked.prog.mainIs = some (Rows.mixedKnownCard.stood.harness.1, Rows.mixedKnownCard.stood.harness.2.toList) := by kernel_rfl
theorem goes_of {P : Program} (h : P.funcs.any Func.goes = false) (f : FuncId) : P.goes f = false := by
  have e : ∀ g : Nat, (P.funcs[g]?).any Func.goes = false := fun g => by
    cases hg : P.funcs[g]? with
    | none => rfl
    | some fn =>
      rw [Array.any_eq_false] at h
      obtain ⟨hi, rfl⟩ := Array.getElem?_eq_some_iff.1 hg
      simpa using h g hi
  unfold Program.goes
  rw [h, Bool.and_false, Bool.or_false]
  simp [e]
set_option maxRecDepth 100000 in
theorem cn : Tryz.pinned.checked.prog.funcs.any Func.goes = false := by kernel_rfl
theorem goesFrom_of {P : Program} (h : P.funcs.any Func.goes = false) (s : String) : P.goesFrom s = false := by
  unfold Program.goesFrom
  cases P.funcNamed s with
  | none => rfl
  | some f => exact goes_of h f
theorem goesBy_of {P : Program} (h : P.funcs.any Func.goes = false) {c : OpenClaim} (hs : c.start = .entering) : false = c.goesBy P := by
  unfold OpenClaim.goesBy Program.goesAt
  rw [goesFrom_of h, hs]
  rfl
theorem cg : false = Rows.mixedKnownRow.goesBy Tryz.pinned.checked.prog := goesBy_of cn rfl
set_option maxRecDepth 100000 in
theorem cl : true = Tryz.pinned.checked.prog.looks [] := by kernel_rfl
end Go.Proofs.YtgfdhkhcojjkjaaGreatDoor.mixedKnown
