/- A stage, shown by its run. Printed by st.py. -/
import Derived.Test.YtmpdoelanliaeaaGreatDoorHxStA
import Derived.KernelRfl
namespace Go.Proofs.YtmpdoelanliaeaaGreatDoor.Hx
def sl12 : List Stage := []
theorem sl12_ok : ∀ s ∈ sl12, s.Ok CK := fun _ hs => nomatch hs
set_option maxRecDepth 1000000 in
theorem sg12_run : sg12.met (callS CK (lookF pls) sl12 100000 60 sg12.f sg12.args (hpOf sg12.n0 sg12.h0)) = true := by kernel_rfl
theorem sg12_ok : sg12.Ok CK := Stage.ok CKH plsOk sl12_ok sg12_run
end Go.Proofs.YtmpdoelanliaeaaGreatDoor.Hx
