/- Stages, shown by their runs. Printed by mx.py. -/
import Derived.Test.YtgfdhkhcojjkjaaGreatDoorHxStA
import Derived.KernelRfl
namespace Go.Proofs.YtgfdhkhcojjkjaaGreatDoor.Hx
set_option maxRecDepth 1000000
def sl14 : List Stage := []
theorem sl14_ok : ∀ s ∈ sl14, s.Ok CR := fun _ hs => nomatch hs
theorem sg14_run : sg14.met (callS CR (lookF pls) sl14 100000 60 sg14.f sg14.args (hpOf sg14.n0 sg14.h0)) = true := by kernel_rfl
theorem sg14_ok : sg14.Ok CR := Stage.ok CRH plsOk sl14_ok sg14_run
end Go.Proofs.YtgfdhkhcojjkjaaGreatDoor.Hx
