/- A stage, shown by its run. Printed by st.py. -/
import Derived.Test.YthecofapmpibmabGreatDoorHxStA
import Derived.KernelRfl
namespace Go.Proofs.YthecofapmpibmabGreatDoor.Hx
def sl2 : List Stage := []
theorem sl2_ok : ∀ s ∈ sl2, s.Ok CK := fun _ hs => nomatch hs
set_option maxRecDepth 1000000 in
theorem sg2_run : sg2.met (callS CK (lookF pls) sl2 100000 60 sg2.f sg2.args (hpOf sg2.n0 sg2.h0)) = true := by kernel_rfl
theorem sg2_ok : sg2.Ok CK := Stage.ok CKH plsOk sl2_ok sg2_run
end Go.Proofs.YthecofapmpibmabGreatDoor.Hx
