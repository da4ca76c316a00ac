/- Stages, shown by their runs. Printed by mx.py. -/
import Derived.Test.YtgfdhkhcojjkjaaGreatDoorHxStA
import Derived.KernelRfl
namespace Go.Proofs.YtgfdhkhcojjkjaaGreatDoor.Hx
set_option maxRecDepth 1000000
def sl16 : List Stage := []
theorem sl16_ok : ∀ s ∈ sl16, s.Ok CR := fun _ hs => nomatch hs
theorem sg16_run : sg16.met (callS CR (lookF pls) sl16 100000 60 sg16.f sg16.args (hpOf sg16.n0 sg16.h0)) = true := by kernel_rfl
theorem sg16_ok : sg16.Ok CR := Stage.ok CRH plsOk sl16_ok sg16_run
end Go.Proofs.YtgfdhkhcojjkjaaGreatDoor.Hx
