/- Stages, shown by their runs. Printed by mx.py. -/
import Derived.Test.YtgfdhkhcojjkjaaGreatDoorHxStA
import Derived.KernelRfl
namespace Go.Proofs.YtgfdhkhcojjkjaaGreatDoor.Hx
set_option maxRecDepth 1000000
def sl11 : List Stage := []
theorem sl11_ok : ∀ s ∈ sl11, s.Ok CR := fun _ hs => nomatch hs
theorem sg11_run : sg11.met (callS CR (lookF pls) sl11 100000 60 sg11.f sg11.args (hpOf sg11.n0 sg11.h0)) = true := by kernel_rfl
theorem sg11_ok : sg11.Ok CR := Stage.ok CRH plsOk sl11_ok sg11_run
end Go.Proofs.YtgfdhkhcojjkjaaGreatDoor.Hx
