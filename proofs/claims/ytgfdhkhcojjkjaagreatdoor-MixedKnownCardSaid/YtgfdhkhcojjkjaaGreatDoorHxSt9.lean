/- Stages, shown by their runs. Printed by mx.py. -/
import Derived.Test.YtgfdhkhcojjkjaaGreatDoorHxStA
import Derived.KernelRfl
namespace Go.Proofs.YtgfdhkhcojjkjaaGreatDoor.Hx
set_option maxRecDepth 1000000
def sl15 : List Stage := []
theorem sl15_ok : ∀ s ∈ sl15, s.Ok CR := fun _ hs => nomatch hs
theorem sg15_run : sg15.met (callS CR (lookF pls) sl15 100000 60 sg15.f sg15.args (hpOf sg15.n0 sg15.h0)) = true := by kernel_rfl
theorem sg15_ok : sg15.Ok CR := Stage.ok CRH plsOk sl15_ok sg15_run
end Go.Proofs.YtgfdhkhcojjkjaaGreatDoor.Hx
