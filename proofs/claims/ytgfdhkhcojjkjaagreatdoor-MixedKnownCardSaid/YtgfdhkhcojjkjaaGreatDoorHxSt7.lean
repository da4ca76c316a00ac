/- Stages, shown by their runs. Printed by mx.py. -/
import Derived.Test.YtgfdhkhcojjkjaaGreatDoorHxStA
import Derived.KernelRfl
namespace Go.Proofs.YtgfdhkhcojjkjaaGreatDoor.Hx
set_option maxRecDepth 1000000
def sl13 : List Stage := []
theorem sl13_ok : ∀ s ∈ sl13, s.Ok CR := fun _ hs => nomatch hs
theorem sg13_run : sg13.met (callS CR (lookF pls) sl13 100000 60 sg13.f sg13.args (hpOf sg13.n0 sg13.h0)) = true := by kernel_rfl
theorem sg13_ok : sg13.Ok CR := Stage.ok CRH plsOk sl13_ok sg13_run
end Go.Proofs.YtgfdhkhcojjkjaaGreatDoor.Hx
