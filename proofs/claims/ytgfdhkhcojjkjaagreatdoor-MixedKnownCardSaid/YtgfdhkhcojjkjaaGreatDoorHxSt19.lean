/- Stages, shown by their runs. Printed by mx.py. -/
import Derived.Test.YtgfdhkhcojjkjaaGreatDoorHxStA
import Derived.KernelRfl
namespace Go.Proofs.YtgfdhkhcojjkjaaGreatDoor.Hx
set_option maxRecDepth 1000000
def sl25 : List Stage := []
theorem sl25_ok : ∀ s ∈ sl25, s.Ok CR := fun _ hs => nomatch hs
theorem sg25_run : sg25.met (callS CR (lookF pls) sl25 100000 60 sg25.f sg25.args (hpOf sg25.n0 sg25.h0)) = true := by kernel_rfl
theorem sg25_ok : sg25.Ok CR := Stage.ok CRH plsOk sl25_ok sg25_run
end Go.Proofs.YtgfdhkhcojjkjaaGreatDoor.Hx
