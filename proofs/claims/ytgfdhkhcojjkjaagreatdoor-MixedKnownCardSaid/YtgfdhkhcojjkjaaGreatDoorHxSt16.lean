/- Stages, shown by their runs. Printed by mx.py. -/
import Derived.Test.YtgfdhkhcojjkjaaGreatDoorHxStA
import Derived.KernelRfl
namespace Go.Proofs.YtgfdhkhcojjkjaaGreatDoor.Hx
set_option maxRecDepth 1000000
def sl22 : List Stage := []
theorem sl22_ok : ∀ s ∈ sl22, s.Ok CR := fun _ hs => nomatch hs
theorem sg22_run : sg22.met (callS CR (lookF pls) sl22 100000 60 sg22.f sg22.args (hpOf sg22.n0 sg22.h0)) = true := by kernel_rfl
theorem sg22_ok : sg22.Ok CR := Stage.ok CRH plsOk sl22_ok sg22_run
end Go.Proofs.YtgfdhkhcojjkjaaGreatDoor.Hx
