/- A stage, shown by its run. Printed by st.py. -/
import Derived.Test.YthecofapmpibmabGreatDoorHxStA
import Derived.KernelRfl
namespace Go.Proofs.YthecofapmpibmabGreatDoor.Hx
def sl7 : List Stage := []
theorem sl7_ok : ∀ s ∈ sl7, s.Ok CK := fun _ hs => nomatch hs
set_option maxRecDepth 1000000 in
theorem sg7_run : sg7.met (callS CK (lookF pls) sl7 100000 60 sg7.f sg7.args (hpOf sg7.n0 sg7.h0)) = true := by kernel_rfl
theorem sg7_ok : sg7.Ok CK := Stage.ok CKH plsOk sl7_ok sg7_run
end Go.Proofs.YthecofapmpibmabGreatDoor.Hx
