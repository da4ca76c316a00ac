/- Stages, shown by their runs. Printed by mx.py. -/
import Derived.Test.YtgfdhkhcojjkjaaGreatDoorHxStA
import Derived.KernelRfl
namespace Go.Proofs.YtgfdhkhcojjkjaaGreatDoor.Hx
set_option maxRecDepth 1000000
def sl17 : List Stage := []
theorem sl17_ok : ∀ s ∈ sl17, s.Ok CR := fun _ hs => nomatch hs
theorem sg17_run : sg17.met (callS CR (lookF pls) sl17 100000 60 sg17.f sg17.args (hpOf sg17.n0 sg17.h0)) = true := by kernel_rfl
theorem sg17_ok : sg17.Ok CR := Stage.ok CRH plsOk sl17_ok sg17_run
end Go.Proofs.YtgfdhkhcojjkjaaGreatDoor.Hx
