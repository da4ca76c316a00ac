/- Stages, shown by their runs. Printed by mx.py. -/
import Derived.Test.YtgfdhkhcojjkjaaGreatDoorHxStA
import Derived.KernelRfl
namespace Go.Proofs.YtgfdhkhcojjkjaaGreatDoor.Hx
set_option maxRecDepth 1000000
def sl30 : List Stage := []
theorem sl30_ok : ∀ s ∈ sl30, s.Ok CR := fun _ hs => nomatch hs
theorem sg30_run : sg30.met (callS CR (lookF pls) sl30 100000 60 sg30.f sg30.args (hpOf sg30.n0 sg30.h0)) = true := by kernel_rfl
theorem sg30_ok : sg30.Ok CR := Stage.ok CRH plsOk sl30_ok sg30_run
def sl31 : List Stage := []
theorem sl31_ok : ∀ s ∈ sl31, s.Ok CR := fun _ hs => nomatch hs
theorem sg31_run : sg31.met (callS CR (lookF pls) sl31 100000 60 sg31.f sg31.args (hpOf sg31.n0 sg31.h0)) = true := by kernel_rfl
theorem sg31_ok : sg31.Ok CR := Stage.ok CRH plsOk sl31_ok sg31_run
def sl32 : List Stage := []
theorem sl32_ok : ∀ s ∈ sl32, s.Ok CR := fun _ hs => nomatch hs
theorem sg32_run : sg32.met (callS CR (lookF pls) sl32 100000 60 sg32.f sg32.args (hpOf sg32.n0 sg32.h0)) = true := by kernel_rfl
theorem sg32_ok : sg32.Ok CR := Stage.ok CRH plsOk sl32_ok sg32_run
def sl33 : List Stage := []
theorem sl33_ok : ∀ s ∈ sl33, s.Ok CR := fun _ hs => nomatch hs
theorem sg33_run : sg33.met (callS CR (lookF pls) sl33 100000 60 sg33.f sg33.args (hpOf sg33.n0 sg33.h0)) = true := by kernel_rfl
theorem sg33_ok : sg33.Ok CR := Stage.ok CRH plsOk sl33_ok sg33_run
end Go.Proofs.YtgfdhkhcojjkjaaGreatDoor.Hx
