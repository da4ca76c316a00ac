/- Stages, shown by their runs. Printed by mx.py. -/
import Derived.Test.YtgfdhkhcojjkjaaGreatDoorHxStA
import Derived.KernelRfl
namespace Go.Proofs.YtgfdhkhcojjkjaaGreatDoor.Hx
set_option maxRecDepth 1000000
def sl21 : List Stage := []
theorem sl21_ok : ∀ s ∈ sl21, s.Ok CR := fun _ hs => nomatch hs
theorem sg21_run : sg21.met (callS CR (lookF pls) sl21 100000 60 sg21.f sg21.args (hpOf sg21.n0 sg21.h0)) = true := by kernel_rfl
theorem sg21_ok : sg21.Ok CR := Stage.ok CRH plsOk sl21_ok sg21_run
end Go.Proofs.YtgfdhkhcojjkjaaGreatDoor.Hx
