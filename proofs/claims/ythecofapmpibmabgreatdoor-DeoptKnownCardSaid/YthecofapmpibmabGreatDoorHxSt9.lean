/- A stage, shown by its run. Printed by st.py. -/
import Derived.Test.YthecofapmpibmabGreatDoorHxStA
import Derived.KernelRfl
namespace Go.Proofs.YthecofapmpibmabGreatDoor.Hx
def sl9 : List Stage := []
theorem sl9_ok : ∀ s ∈ sl9, s.Ok CK := fun _ hs => nomatch hs
set_option maxRecDepth 1000000 in
theorem sg9_run : sg9.met (callS CK (lookF pls) sl9 100000 60 sg9.f sg9.args (hpOf sg9.n0 sg9.h0)) = true := by kernel_rfl
theorem sg9_ok : sg9.Ok CK := Stage.ok CKH plsOk sl9_ok sg9_run
end Go.Proofs.YthecofapmpibmabGreatDoor.Hx
