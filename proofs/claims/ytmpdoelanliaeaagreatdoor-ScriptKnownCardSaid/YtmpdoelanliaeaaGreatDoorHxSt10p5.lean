/- Rounds of a loop, shown by their run. Printed by st.py. -/
import Derived.Test.YtmpdoelanliaeaaGreatDoorHxSt10D
import Derived.KernelRfl
namespace Go.Proofs.YtmpdoelanliaeaaGreatDoor.Hx
set_option maxRecDepth 1000000
theorem sr10_5 : (match oB ((codeP (lookF pls 170) Tryz.f170.ntmps (.seq (.block lid10 (.loop lc10)) lpost10)).f (callS CK (lookF pls) sl10 100000 60) 100000 ls10_5.tm ls10_5.hp) (dendC Tryz.f170) with
  | some (v, h) => V.beq v sg10.v && (Nat.beq sg10.n1 h.next && lies h sg10.h1)
  | none => false) = true := by kernel_rfl
end Go.Proofs.YtmpdoelanliaeaaGreatDoor.Hx
