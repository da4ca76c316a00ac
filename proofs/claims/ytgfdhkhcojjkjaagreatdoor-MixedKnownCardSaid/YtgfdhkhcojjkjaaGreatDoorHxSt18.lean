/- Stages, shown by their runs. Printed by mx.py. -/
import Derived.Test.YtgfdhkhcojjkjaaGreatDoorHxStA
import Derived.KernelRfl
namespace Go.Proofs.YtgfdhkhcojjkjaaGreatDoor.Hx
set_option maxRecDepth 1000000
def sl24 : List Stage := []
theorem sl24_ok : ∀ s ∈ sl24, s.Ok CR := fun _ hs => nomatch hs
theorem sg24_run : sg24.met (callS CR (lookF pls) sl24 100000 60 sg24.f sg24.args (hpOf sg24.n0 sg24.h0)) = true := by kernel_rfl
theorem sg24_ok : sg24.Ok CR := Stage.ok CRH plsOk sl24_ok sg24_run
end Go.Proofs.YtgfdhkhcojjkjaaGreatDoor.Hx
