/- Stages, shown by their runs. Printed by mx.py. -/
import Derived.Test.YtgfdhkhcojjkjaaGreatDoorHxStA
import Derived.KernelRfl
namespace Go.Proofs.YtgfdhkhcojjkjaaGreatDoor.Hx
set_option maxRecDepth 1000000
def sl9 : List Stage := []
theorem sl9_ok : ∀ s ∈ sl9, s.Ok CR := fun _ hs => nomatch hs
theorem sg9_run : sg9.met (callS CR (lookF pls) sl9 100000 60 sg9.f sg9.args (hpOf sg9.n0 sg9.h0)) = true := by kernel_rfl
theorem sg9_ok : sg9.Ok CR := Stage.ok CRH plsOk sl9_ok sg9_run
end Go.Proofs.YtgfdhkhcojjkjaaGreatDoor.Hx
