/- Stages, shown by their runs. Printed by mx.py. -/
import Derived.Test.YtgfdhkhcojjkjaaGreatDoorHxStA
import Derived.KernelRfl
namespace Go.Proofs.YtgfdhkhcojjkjaaGreatDoor.Hx
set_option maxRecDepth 1000000
def sl0 : List Stage := []
theorem sl0_ok : ∀ s ∈ sl0, s.Ok CR := fun _ hs => nomatch hs
theorem sg0_run : sg0.met (callS CR (lookF pls) sl0 100000 60 sg0.f sg0.args (hpOf sg0.n0 sg0.h0)) = true := by kernel_rfl
theorem sg0_ok : sg0.Ok CR := Stage.ok CRH plsOk sl0_ok sg0_run
def sl1 : List Stage := []
theorem sl1_ok : ∀ s ∈ sl1, s.Ok CR := fun _ hs => nomatch hs
theorem sg1_run : sg1.met (callS CR (lookF pls) sl1 100000 60 sg1.f sg1.args (hpOf sg1.n0 sg1.h0)) = true := by kernel_rfl
theorem sg1_ok : sg1.Ok CR := Stage.ok CRH plsOk sl1_ok sg1_run
def sl2 : List Stage := []
theorem sl2_ok : ∀ s ∈ sl2, s.Ok CR := fun _ hs => nomatch hs
theorem sg2_run : sg2.met (callS CR (lookF pls) sl2 100000 60 sg2.f sg2.args (hpOf sg2.n0 sg2.h0)) = true := by kernel_rfl
theorem sg2_ok : sg2.Ok CR := Stage.ok CRH plsOk sl2_ok sg2_run
def sl3 : List Stage := []
theorem sl3_ok : ∀ s ∈ sl3, s.Ok CR := fun _ hs => nomatch hs
theorem sg3_run : sg3.met (callS CR (lookF pls) sl3 100000 60 sg3.f sg3.args (hpOf sg3.n0 sg3.h0)) = true := by kernel_rfl
theorem sg3_ok : sg3.Ok CR := Stage.ok CRH plsOk sl3_ok sg3_run
def sl4 : List Stage := []
theorem sl4_ok : ∀ s ∈ sl4, s.Ok CR := fun _ hs => nomatch hs
theorem sg4_run : sg4.met (callS CR (lookF pls) sl4 100000 60 sg4.f sg4.args (hpOf sg4.n0 sg4.h0)) = true := by kernel_rfl
theorem sg4_ok : sg4.Ok CR := Stage.ok CRH plsOk sl4_ok sg4_run
end Go.Proofs.YtgfdhkhcojjkjaaGreatDoor.Hx
