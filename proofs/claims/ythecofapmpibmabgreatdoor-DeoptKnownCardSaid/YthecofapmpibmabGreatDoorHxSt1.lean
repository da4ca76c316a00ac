/- A stage, shown by its run. Printed by st.py. -/
import Derived.Test.YthecofapmpibmabGreatDoorHxStA
import Derived.KernelRfl
namespace Go.Proofs.YthecofapmpibmabGreatDoor.Hx
def sl1 : List Stage := []
theorem sl1_ok : ∀ s ∈ sl1, s.Ok CK := fun _ hs => nomatch hs
set_option maxRecDepth 1000000 in
theorem sg1_run : sg1.met (callS CK (lookF pls) sl1 100000 60 sg1.f sg1.args (hpOf sg1.n0 sg1.h0)) = true := by kernel_rfl
theorem sg1_ok : sg1.Ok CK := Stage.ok CKH plsOk sl1_ok sg1_run
end Go.Proofs.YthecofapmpibmabGreatDoor.Hx
