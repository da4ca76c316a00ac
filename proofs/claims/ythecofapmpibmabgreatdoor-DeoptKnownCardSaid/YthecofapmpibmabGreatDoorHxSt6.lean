/- A stage, shown by its run. Printed by st.py. -/
import Derived.Test.YthecofapmpibmabGreatDoorHxStA
import Derived.KernelRfl
namespace Go.Proofs.YthecofapmpibmabGreatDoor.Hx
def sl6 : List Stage := []
theorem sl6_ok : ∀ s ∈ sl6, s.Ok CK := fun _ hs => nomatch hs
set_option maxRecDepth 1000000 in
theorem sg6_run : sg6.met (callS CK (lookF pls) sl6 100000 60 sg6.f sg6.args (hpOf sg6.n0 sg6.h0)) = true := by kernel_rfl
theorem sg6_ok : sg6.Ok CK := Stage.ok CKH plsOk sl6_ok sg6_run
end Go.Proofs.YthecofapmpibmabGreatDoor.Hx
