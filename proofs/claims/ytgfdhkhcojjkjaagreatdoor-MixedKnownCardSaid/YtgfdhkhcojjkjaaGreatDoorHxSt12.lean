/- Stages, shown by their runs. Printed by mx.py. -/
import Derived.Test.YtgfdhkhcojjkjaaGreatDoorHxStA
import Derived.KernelRfl
namespace Go.Proofs.YtgfdhkhcojjkjaaGreatDoor.Hx
set_option maxRecDepth 1000000
def sl18 : List Stage := []
theorem sl18_ok : ∀ s ∈ sl18, s.Ok CR := fun _ hs => nomatch hs
theorem sg18_run : sg18.met (callS CR (lookF pls) sl18 100000 60 sg18.f sg18.args (hpOf sg18.n0 sg18.h0)) = true := by kernel_rfl
theorem sg18_ok : sg18.Ok CR := Stage.ok CRH plsOk sl18_ok sg18_run
end Go.Proofs.YtgfdhkhcojjkjaaGreatDoor.Hx
