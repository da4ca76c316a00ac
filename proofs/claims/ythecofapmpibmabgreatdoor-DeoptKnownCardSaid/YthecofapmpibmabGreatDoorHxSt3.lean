/- A stage, shown by its run. Printed by st.py. -/
import Derived.Test.YthecofapmpibmabGreatDoorHxStA
import Derived.KernelRfl
namespace Go.Proofs.YthecofapmpibmabGreatDoor.Hx
def sl3 : List Stage := []
theorem sl3_ok : ∀ s ∈ sl3, s.Ok CK := fun _ hs => nomatch hs
set_option maxRecDepth 1000000 in
theorem sg3_run : sg3.met (callS CK (lookF pls) sl3 100000 60 sg3.f sg3.args (hpOf sg3.n0 sg3.h0)) = true := by kernel_rfl
theorem sg3_ok : sg3.Ok CK := Stage.ok CKH plsOk sl3_ok sg3_run
end Go.Proofs.YthecofapmpibmabGreatDoor.Hx
