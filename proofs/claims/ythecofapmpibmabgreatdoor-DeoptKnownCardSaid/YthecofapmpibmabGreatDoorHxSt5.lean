/- A stage, shown by its run. Printed by st.py. -/
import Derived.Test.YthecofapmpibmabGreatDoorHxStA
import Derived.KernelRfl
namespace Go.Proofs.YthecofapmpibmabGreatDoor.Hx
def sl5 : List Stage := []
theorem sl5_ok : ∀ s ∈ sl5, s.Ok CK := fun _ hs => nomatch hs
set_option maxRecDepth 1000000 in
theorem sg5_run : sg5.met (callS CK (lookF pls) sl5 100000 60 sg5.f sg5.args (hpOf sg5.n0 sg5.h0)) = true := by kernel_rfl
theorem sg5_ok : sg5.Ok CK := Stage.ok CKH plsOk sl5_ok sg5_run
end Go.Proofs.YthecofapmpibmabGreatDoor.Hx
