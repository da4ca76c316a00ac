/- Rounds of a loop, shown by their run. Printed by mx.py. -/
import Derived.Test.YtgfdhkhcojjkjaaGreatDoorHxSt28D
import Derived.KernelRfl
namespace Go.Proofs.YtgfdhkhcojjkjaaGreatDoor.Hx
set_option maxRecDepth 1000000
theorem sr28_2 : (match iterN (fun t h => (codeP (lookF pls 27) Tryz.f27.ntmps lc28).f (callS CR (lookF pls) sl28 100000 60) 100000 t h) 74 ls28_2.tm ls28_2.hp with
  | some (t, h) => ls28_3.met t h
  | none => false) = true := by kernel_rfl
theorem sr28_3 : (match iterN (fun t h => (codeP (lookF pls 27) Tryz.f27.ntmps lc28).f (callS CR (lookF pls) sl28 100000 60) 100000 t h) 73 ls28_3.tm ls28_3.hp with
  | some (t, h) => ls28_4.met t h
  | none => false) = true := by kernel_rfl
theorem sr28_4 : (match oB ((codeP (lookF pls 27) Tryz.f27.ntmps (.seq (.block lid28 (.loop lc28)) lpost28)).f (callS CR (lookF pls) sl28 100000 60) 100000 ls28_4.tm ls28_4.hp) (dendC Tryz.f27) with
  | some (v, h) => V.beq v sg28.v && (Nat.beq sg28.n1 h.next && lies h sg28.h1)
  | none => false) = true := by kernel_rfl
end Go.Proofs.YtgfdhkhcojjkjaaGreatDoor.Hx
