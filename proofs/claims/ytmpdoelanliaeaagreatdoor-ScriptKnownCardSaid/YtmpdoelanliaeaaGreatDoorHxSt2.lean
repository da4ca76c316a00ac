/- A stage, shown by its run. Printed by st.py. -/
import Derived.Test.YtmpdoelanliaeaaGreatDoorHxStA
import Derived.KernelRfl
namespace Go.Proofs.YtmpdoelanliaeaaGreatDoor.Hx
def sl2 : List Stage := []
theorem sl2_ok : ∀ s ∈ sl2, s.Ok CK := fun _ hs => nomatch hs
set_option maxRecDepth 1000000 in
theorem sg2_run : sg2.met (callS CK (lookF pls) sl2 100000 60 sg2.f sg2.args (hpOf sg2.n0 sg2.h0)) = true := by kernel_rfl
theorem sg2_ok : sg2.Ok CK := Stage.ok CKH plsOk sl2_ok sg2_run
end Go.Proofs.YtmpdoelanliaeaaGreatDoor.Hx
namespace Go.Proofs.YtmpdoelanliaeaaGreatDoor.Hx
def sl3 : List Stage := []
theorem sl3_ok : ∀ s ∈ sl3, s.Ok CK := fun _ hs => nomatch hs
set_option maxRecDepth 1000000 in
theorem sg3_run : sg3.met (callS CK (lookF pls) sl3 100000 60 sg3.f sg3.args (hpOf sg3.n0 sg3.h0)) = true := by kernel_rfl
theorem sg3_ok : sg3.Ok CK := Stage.ok CKH plsOk sl3_ok sg3_run
end Go.Proofs.YtmpdoelanliaeaaGreatDoor.Hx
