/- Stages, shown by their runs. Printed by mx.py. -/
import Derived.Test.YtgfdhkhcojjkjaaGreatDoorHxStA
import Derived.KernelRfl
namespace Go.Proofs.YtgfdhkhcojjkjaaGreatDoor.Hx
set_option maxRecDepth 1000000
def sl23 : List Stage := []
theorem sl23_ok : ∀ s ∈ sl23, s.Ok CR := fun _ hs => nomatch hs
theorem sg23_run : sg23.met (callS CR (lookF pls) sl23 100000 60 sg23.f sg23.args (hpOf sg23.n0 sg23.h0)) = true := by kernel_rfl
theorem sg23_ok : sg23.Ok CR := Stage.ok CRH plsOk sl23_ok sg23_run
end Go.Proofs.YtgfdhkhcojjkjaaGreatDoor.Hx
