/- Stages, shown by their runs. Printed by mx.py. -/
import Derived.Test.YtgfdhkhcojjkjaaGreatDoorHxStA
import Derived.KernelRfl
namespace Go.Proofs.YtgfdhkhcojjkjaaGreatDoor.Hx
set_option maxRecDepth 1000000
def sl12 : List Stage := []
theorem sl12_ok : ∀ s ∈ sl12, s.Ok CR := fun _ hs => nomatch hs
theorem sg12_run : sg12.met (callS CR (lookF pls) sl12 100000 60 sg12.f sg12.args (hpOf sg12.n0 sg12.h0)) = true := by kernel_rfl
theorem sg12_ok : sg12.Ok CR := Stage.ok CRH plsOk sl12_ok sg12_run
end Go.Proofs.YtgfdhkhcojjkjaaGreatDoor.Hx
