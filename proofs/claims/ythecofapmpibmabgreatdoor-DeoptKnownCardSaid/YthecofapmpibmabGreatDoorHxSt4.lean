/- A stage, shown by its run. Printed by st.py. -/
import Derived.Test.YthecofapmpibmabGreatDoorHxStA
import Derived.KernelRfl
namespace Go.Proofs.YthecofapmpibmabGreatDoor.Hx
def sl4 : List Stage := []
theorem sl4_ok : ∀ s ∈ sl4, s.Ok CK := fun _ hs => nomatch hs
set_option maxRecDepth 1000000 in
theorem sg4_run : sg4.met (callS CK (lookF pls) sl4 100000 60 sg4.f sg4.args (hpOf sg4.n0 sg4.h0)) = true := by kernel_rfl
theorem sg4_ok : sg4.Ok CK := Stage.ok CKH plsOk sl4_ok sg4_run
end Go.Proofs.YthecofapmpibmabGreatDoor.Hx
