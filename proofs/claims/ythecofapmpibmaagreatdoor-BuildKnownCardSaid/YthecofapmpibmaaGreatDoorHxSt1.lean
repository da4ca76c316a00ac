/- A stage, shown by its run. Printed by st.py. -/
import Derived.Test.YthecofapmpibmaaGreatDoorHxStA
import Derived.KernelRfl
namespace Go.Proofs.YthecofapmpibmaaGreatDoor.Hx
def sl1 : List Stage := []
theorem sl1_ok : ∀ s ∈ sl1, s.Ok CK := by
  intro s hs
  simp only [sl1, List.mem_cons, List.mem_nil_iff, or_false] at hs
set_option maxRecDepth 1000000 in
theorem sg1_run : sg1.met (callS CK (lookF pls) sl1 100000 60 sg1.f sg1.args (hpOf sg1.n0 sg1.h0)) = true := by kernel_rfl
theorem sg1_ok : sg1.Ok CK := Stage.ok CKH plsOk sl1_ok sg1_run
end Go.Proofs.YthecofapmpibmaaGreatDoor.Hx
