/- Stages, shown by their runs. Printed by mx.py. -/
import Derived.Test.YtgfdhkhcojjkjaaGreatDoorHxStA
import Derived.Test.YtgfdhkhcojjkjaaGreatDoorHxSt21
import Derived.KernelRfl
namespace Go.Proofs.YtgfdhkhcojjkjaaGreatDoor.Hx
set_option maxRecDepth 1000000
def sl34 : List Stage := [sg31, sg32, sg33]
theorem sl34_ok : ∀ s ∈ sl34, s.Ok CR := by
  intro s hs
  simp only [sl34, List.mem_cons, List.mem_nil_iff, or_false] at hs
  rcases hs with rfl | rfl | rfl
  · exact sg31_ok
  · exact sg32_ok
  · exact sg33_ok
theorem sg34_run : sg34.met (callS CR (lookF pls) sl34 100000 60 sg34.f sg34.args (hpOf sg34.n0 sg34.h0)) = true := by kernel_rfl
theorem sg34_ok : sg34.Ok CR := Stage.ok CRH plsOk sl34_ok sg34_run
def sl35 : List Stage := []
theorem sl35_ok : ∀ s ∈ sl35, s.Ok CR := fun _ hs => nomatch hs
theorem sg35_run : sg35.met (callS CR (lookF pls) sl35 100000 60 sg35.f sg35.args (hpOf sg35.n0 sg35.h0)) = true := by kernel_rfl
theorem sg35_ok : sg35.Ok CR := Stage.ok CRH plsOk sl35_ok sg35_run
end Go.Proofs.YtgfdhkhcojjkjaaGreatDoor.Hx
