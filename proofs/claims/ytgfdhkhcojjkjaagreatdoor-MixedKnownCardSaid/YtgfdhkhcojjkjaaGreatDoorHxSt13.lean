/- Stages, shown by their runs. Printed by mx.py. -/
import Derived.Test.YtgfdhkhcojjkjaaGreatDoorHxStA
import Derived.KernelRfl
namespace Go.Proofs.YtgfdhkhcojjkjaaGreatDoor.Hx
set_option maxRecDepth 1000000
def sl19 : List Stage := []
theorem sl19_ok : ∀ s ∈ sl19, s.Ok CR := fun _ hs => nomatch hs
theorem sg19_run : sg19.met (callS CR (lookF pls) sl19 100000 60 sg19.f sg19.args (hpOf sg19.n0 sg19.h0)) = true := by kernel_rfl
theorem sg19_ok : sg19.Ok CR := Stage.ok CRH plsOk sl19_ok sg19_run
end Go.Proofs.YtgfdhkhcojjkjaaGreatDoor.Hx
