/- Stages, shown by their runs. Printed by mx.py. -/
import Derived.Test.YtgfdhkhcojjkjaaGreatDoorHxStA
import Derived.KernelRfl
namespace Go.Proofs.YtgfdhkhcojjkjaaGreatDoor.Hx
set_option maxRecDepth 1000000
def sl20 : List Stage := []
theorem sl20_ok : ∀ s ∈ sl20, s.Ok CR := fun _ hs => nomatch hs
theorem sg20_run : sg20.met (callS CR (lookF pls) sl20 100000 60 sg20.f sg20.args (hpOf sg20.n0 sg20.h0)) = true := by kernel_rfl
theorem sg20_ok : sg20.Ok CR := Stage.ok CRH plsOk sl20_ok sg20_run
end Go.Proofs.YtgfdhkhcojjkjaaGreatDoor.Hx
