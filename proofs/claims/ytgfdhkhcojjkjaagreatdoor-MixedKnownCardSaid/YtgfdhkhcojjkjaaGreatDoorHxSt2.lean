/- Stages, shown by their runs. Printed by mx.py. -/
import Derived.Test.YtgfdhkhcojjkjaaGreatDoorHxStA
import Derived.KernelRfl
namespace Go.Proofs.YtgfdhkhcojjkjaaGreatDoor.Hx
set_option maxRecDepth 1000000
def sl7 : List Stage := []
theorem sl7_ok : ∀ s ∈ sl7, s.Ok CR := fun _ hs => nomatch hs
theorem sg7_run : sg7.met (callS CR (lookF pls) sl7 100000 60 sg7.f sg7.args (hpOf sg7.n0 sg7.h0)) = true := by kernel_rfl
theorem sg7_ok : sg7.Ok CR := Stage.ok CRH plsOk sl7_ok sg7_run
def sl8 : List Stage := []
theorem sl8_ok : ∀ s ∈ sl8, s.Ok CR := fun _ hs => nomatch hs
theorem sg8_run : sg8.met (callS CR (lookF pls) sl8 100000 60 sg8.f sg8.args (hpOf sg8.n0 sg8.h0)) = true := by kernel_rfl
theorem sg8_ok : sg8.Ok CR := Stage.ok CRH plsOk sl8_ok sg8_run
end Go.Proofs.YtgfdhkhcojjkjaaGreatDoor.Hx
