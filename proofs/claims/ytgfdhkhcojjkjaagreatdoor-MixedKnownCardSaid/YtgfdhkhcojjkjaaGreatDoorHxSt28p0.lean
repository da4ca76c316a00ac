/- Rounds of a loop, shown by their run. Printed by mx.py. -/
import Derived.Test.YtgfdhkhcojjkjaaGreatDoorHxSt28D
import Derived.KernelRfl
namespace Go.Proofs.YtgfdhkhcojjkjaaGreatDoor.Hx
set_option maxRecDepth 1000000
theorem sr28_first : (match (codeP (lookF pls 27) Tryz.f27.ntmps lpre28).f (callS CR (lookF pls) sl28 100000 60) 100000 (CR.start sg28.args) (hpOf sg28.n0 sg28.h0) with
  | some (.normal, t, h) => ls28_0.met t h
  | _ => false) = true := by kernel_rfl
theorem sr28_0 : (match iterN (fun t h => (codeP (lookF pls 27) Tryz.f27.ntmps lc28).f (callS CR (lookF pls) sl28 100000 60) 100000 t h) 118 ls28_0.tm ls28_0.hp with
  | some (t, h) => ls28_1.met t h
  | none => false) = true := by kernel_rfl
theorem sr28_1 : (match iterN (fun t h => (codeP (lookF pls 27) Tryz.f27.ntmps lc28).f (callS CR (lookF pls) sl28 100000 60) 100000 t h) 60 ls28_1.tm ls28_1.hp with
  | some (t, h) => ls28_2.met t h
  | none => false) = true := by kernel_rfl
end Go.Proofs.YtgfdhkhcojjkjaaGreatDoor.Hx
