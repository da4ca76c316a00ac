/- Rounds of a loop, shown by their run. Printed by st.py. -/
import Derived.Test.YtmpdoelanliaeaaGreatDoorHxSt10D
import Derived.KernelRfl
namespace Go.Proofs.YtmpdoelanliaeaaGreatDoor.Hx
set_option maxRecDepth 1000000
theorem sr10_2 : (match iterN (fun t h => (codeP (lookF pls 170) Tryz.f170.ntmps lc10).f (callS CK (lookF pls) sl10 100000 60) 100000 t h) 135 ls10_2.tm ls10_2.hp with
  | some (t, h) => ls10_3.met t h
  | none => false) = true := by kernel_rfl
end Go.Proofs.YtmpdoelanliaeaaGreatDoor.Hx
