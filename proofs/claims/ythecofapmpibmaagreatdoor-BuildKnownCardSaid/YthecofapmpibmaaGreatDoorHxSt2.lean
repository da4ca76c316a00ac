/- A stage, shown by its run. Printed by st.py. -/
import Derived.Test.YthecofapmpibmaaGreatDoorHxStA
import Derived.KernelRfl
namespace Go.Proofs.YthecofapmpibmaaGreatDoor.Hx
def sl2 : List Stage := []
theorem sl2_ok : ∀ s ∈ sl2, s.Ok CK := by
  intro s hs
  simp only [sl2, List.mem_cons, List.mem_nil_iff, or_false] at hs
set_option maxRecDepth 1000000 in
theorem sg2_run : sg2.met (callS CK (lookF pls) sl2 100000 60 sg2.f sg2.args (hpOf sg2.n0 sg2.h0)) = true := by kernel_rfl
theorem sg2_ok : sg2.Ok CK := Stage.ok CKH plsOk sl2_ok sg2_run
end Go.Proofs.YthecofapmpibmaaGreatDoor.Hx
