/- Rounds of a loop, shown by their run. Printed by st.py. -/
import Derived.Test.YtmpdoelanliaeaaGreatDoorHxSt10D
import Derived.KernelRfl
namespace Go.Proofs.YtmpdoelanliaeaaGreatDoor.Hx
set_option maxRecDepth 1000000
theorem sr10_first : (match (codeP (lookF pls 170) Tryz.f170.ntmps lpre10).f (callS CK (lookF pls) sl10 100000 60) 100000 (CK.start sg10.args) (hpOf sg10.n0 sg10.h0) with
  | some (.normal, t, h) => ls10_0.met t h
  | _ => false) = true := by kernel_rfl
end Go.Proofs.YtmpdoelanliaeaaGreatDoor.Hx
