/- Stages, shown by their runs. Printed by mx.py. -/
import Derived.Test.YtgfdhkhcojjkjaaGreatDoorHxStA
import Derived.KernelRfl
namespace Go.Proofs.YtgfdhkhcojjkjaaGreatDoor.Hx
set_option maxRecDepth 1000000
def sl10 : List Stage := []
theorem sl10_ok : ∀ s ∈ sl10, s.Ok CR := fun _ hs => nomatch hs
theorem sg10_run : sg10.met (callS CR (lookF pls) sl10 100000 60 sg10.f sg10.args (hpOf sg10.n0 sg10.h0)) = true := by kernel_rfl
theorem sg10_ok : sg10.Ok CR := Stage.ok CRH plsOk sl10_ok sg10_run
end Go.Proofs.YtgfdhkhcojjkjaaGreatDoor.Hx
