/- A stage, shown by its run. Printed by st.py. -/
import Derived.Test.YthecofapmpibmabGreatDoorHxStA
import Derived.KernelRfl
namespace Go.Proofs.YthecofapmpibmabGreatDoor.Hx
def sl0 : List Stage := []
theorem sl0_ok : ∀ s ∈ sl0, s.Ok CK := fun _ hs => nomatch hs
set_option maxRecDepth 1000000 in
theorem sg0_run : sg0.met (callS CK (lookF pls) sl0 100000 60 sg0.f sg0.args (hpOf sg0.n0 sg0.h0)) = true := by kernel_rfl
theorem sg0_ok : sg0.Ok CK := Stage.ok CKH plsOk sl0_ok sg0_run
end Go.Proofs.YthecofapmpibmabGreatDoor.Hx
