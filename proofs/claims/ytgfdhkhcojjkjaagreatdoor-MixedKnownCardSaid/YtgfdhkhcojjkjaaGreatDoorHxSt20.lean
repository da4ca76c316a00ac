/- Stages, shown by their runs. Printed by mx.py. -/
import Derived.Test.YtgfdhkhcojjkjaaGreatDoorHxStA
import Derived.KernelRfl
namespace Go.Proofs.YtgfdhkhcojjkjaaGreatDoor.Hx
set_option maxRecDepth 1000000
def sl26 : List Stage := []
theorem sl26_ok : ∀ s ∈ sl26, s.Ok CR := fun _ hs => nomatch hs
theorem sg26_run : sg26.met (callS CR (lookF pls) sl26 100000 60 sg26.f sg26.args (hpOf sg26.n0 sg26.h0)) = true := by kernel_rfl
theorem sg26_ok : sg26.Ok CR := Stage.ok CRH plsOk sl26_ok sg26_run
def sl27 : List Stage := []
theorem sl27_ok : ∀ s ∈ sl27, s.Ok CR := fun _ hs => nomatch hs
theorem sg27_run : sg27.met (callS CR (lookF pls) sl27 100000 60 sg27.f sg27.args (hpOf sg27.n0 sg27.h0)) = true := by kernel_rfl
theorem sg27_ok : sg27.Ok CR := Stage.ok CRH plsOk sl27_ok sg27_run
end Go.Proofs.YtgfdhkhcojjkjaaGreatDoor.Hx
