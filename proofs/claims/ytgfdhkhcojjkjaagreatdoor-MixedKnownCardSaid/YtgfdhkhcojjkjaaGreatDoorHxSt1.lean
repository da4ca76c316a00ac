/- Stages, shown by their runs. Printed by mx.py. -/
import Derived.Test.YtgfdhkhcojjkjaaGreatDoorHxStA
import Derived.Test.YtgfdhkhcojjkjaaGreatDoorHxSt0
import Derived.KernelRfl
namespace Go.Proofs.YtgfdhkhcojjkjaaGreatDoor.Hx
set_option maxRecDepth 1000000
def sl5 : List Stage := [sg2, sg3, sg4]
theorem sl5_ok : ∀ s ∈ sl5, s.Ok CR := by
  intro s hs
  simp only [sl5, List.mem_cons, List.mem_nil_iff, or_false] at hs
  rcases hs with rfl | rfl | rfl
  · exact sg2_ok
  · exact sg3_ok
  · exact sg4_ok
theorem sg5_run : sg5.met (callS CR (lookF pls) sl5 100000 60 sg5.f sg5.args (hpOf sg5.n0 sg5.h0)) = true := by kernel_rfl
theorem sg5_ok : sg5.Ok CR := Stage.ok CRH plsOk sl5_ok sg5_run
def sl6 : List Stage := []
theorem sl6_ok : ∀ s ∈ sl6, s.Ok CR := fun _ hs => nomatch hs
theorem sg6_run : sg6.met (callS CR (lookF pls) sl6 100000 60 sg6.f sg6.args (hpOf sg6.n0 sg6.h0)) = true := by kernel_rfl
theorem sg6_ok : sg6.Ok CR := Stage.ok CRH plsOk sl6_ok sg6_run
end Go.Proofs.YtgfdhkhcojjkjaaGreatDoor.Hx
