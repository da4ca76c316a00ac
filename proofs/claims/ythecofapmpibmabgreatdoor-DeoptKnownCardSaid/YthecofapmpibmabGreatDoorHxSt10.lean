/- A stage, shown by its run. Printed by st.py. -/
import Derived.Test.YthecofapmpibmabGreatDoorHxStA
import Derived.KernelRfl
namespace Go.Proofs.YthecofapmpibmabGreatDoor.Hx
def sl10 : List Stage := []
theorem sl10_ok : ∀ s ∈ sl10, s.Ok CK := fun _ hs => nomatch hs
set_option maxRecDepth 1000000 in
theorem sg10_run : sg10.met (callS CK (lookF pls) sl10 100000 60 sg10.f sg10.args (hpOf sg10.n0 sg10.h0)) = true := by kernel_rfl
theorem sg10_ok : sg10.Ok CK := Stage.ok CKH plsOk sl10_ok sg10_run
end Go.Proofs.YthecofapmpibmabGreatDoor.Hx
