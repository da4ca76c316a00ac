/- Stages, shown by their runs. Printed by mx.py. -/
import Derived.Test.YtgfdhkhcojjkjaaGreatDoorHxStA
import Derived.KernelRfl
namespace Go.Proofs.YtgfdhkhcojjkjaaGreatDoor.Hx
set_option maxRecDepth 1000000
def sl36 : List Stage := []
theorem sl36_ok : ∀ s ∈ sl36, s.Ok CR := fun _ hs => nomatch hs
theorem sg36_run : sg36.met (callS CR (lookF pls) sl36 100000 60 sg36.f sg36.args (hpOf sg36.n0 sg36.h0)) = true := by kernel_rfl
theorem sg36_ok : sg36.Ok CR := Stage.ok CRH plsOk sl36_ok sg36_run
def sl37 : List Stage := []
theorem sl37_ok : ∀ s ∈ sl37, s.Ok CR := fun _ hs => nomatch hs
theorem sg37_run : sg37.met (callS CR (lookF pls) sl37 100000 60 sg37.f sg37.args (hpOf sg37.n0 sg37.h0)) = true := by kernel_rfl
theorem sg37_ok : sg37.Ok CR := Stage.ok CRH plsOk sl37_ok sg37_run
end Go.Proofs.YtgfdhkhcojjkjaaGreatDoor.Hx
