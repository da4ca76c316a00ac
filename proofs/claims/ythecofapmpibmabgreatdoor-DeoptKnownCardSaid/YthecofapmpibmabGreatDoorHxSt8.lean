/- A stage, shown by its run. Printed by st.py. -/
import Derived.Test.YthecofapmpibmabGreatDoorHxStA
import Derived.KernelRfl
namespace Go.Proofs.YthecofapmpibmabGreatDoor.Hx
def sl8 : List Stage := []
theorem sl8_ok : ∀ s ∈ sl8, s.Ok CK := fun _ hs => nomatch hs
set_option maxRecDepth 1000000 in
theorem sg8_run : sg8.met (callS CK (lookF pls) sl8 100000 60 sg8.f sg8.args (hpOf sg8.n0 sg8.h0)) = true := by kernel_rfl
theorem sg8_ok : sg8.Ok CK := Stage.ok CKH plsOk sl8_ok sg8_run
end Go.Proofs.YthecofapmpibmabGreatDoor.Hx
