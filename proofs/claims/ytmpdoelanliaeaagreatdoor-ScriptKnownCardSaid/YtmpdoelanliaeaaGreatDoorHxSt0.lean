/- A stage, shown by its run. Printed by st.py. -/
import Derived.Test.YtmpdoelanliaeaaGreatDoorHxStA
import Derived.KernelRfl
namespace Go.Proofs.YtmpdoelanliaeaaGreatDoor.Hx
def sl0 : List Stage := []
theorem sl0_ok : ∀ s ∈ sl0, s.Ok CK := fun _ hs => nomatch hs
set_option maxRecDepth 1000000 in
theorem sg0_run : sg0.met (callS CK (lookF pls) sl0 100000 60 sg0.f sg0.args (hpOf sg0.n0 sg0.h0)) = true := by kernel_rfl
theorem sg0_ok : sg0.Ok CK := Stage.ok CKH plsOk sl0_ok sg0_run
end Go.Proofs.YtmpdoelanliaeaaGreatDoor.Hx
namespace Go.Proofs.YtmpdoelanliaeaaGreatDoor.Hx
def sl1 : List Stage := []
theorem sl1_ok : ∀ s ∈ sl1, s.Ok CK := fun _ hs => nomatch hs
set_option maxRecDepth 1000000 in
theorem sg1_run : sg1.met (callS CK (lookF pls) sl1 100000 60 sg1.f sg1.args (hpOf sg1.n0 sg1.h0)) = true := by kernel_rfl
theorem sg1_ok : sg1.Ok CK := Stage.ok CKH plsOk sl1_ok sg1_run
end Go.Proofs.YtmpdoelanliaeaaGreatDoor.Hx
namespace Go.Proofs.YtmpdoelanliaeaaGreatDoor.Hx
def sl8 : List Stage := []
theorem sl8_ok : ∀ s ∈ sl8, s.Ok CK := fun _ hs => nomatch hs
set_option maxRecDepth 1000000 in
theorem sg8_run : sg8.met (callS CK (lookF pls) sl8 100000 60 sg8.f sg8.args (hpOf sg8.n0 sg8.h0)) = true := by kernel_rfl
theorem sg8_ok : sg8.Ok CK := Stage.ok CKH plsOk sl8_ok sg8_run
end Go.Proofs.YtmpdoelanliaeaaGreatDoor.Hx
namespace Go.Proofs.YtmpdoelanliaeaaGreatDoor.Hx
def sl9 : List Stage := []
theorem sl9_ok : ∀ s ∈ sl9, s.Ok CK := fun _ hs => nomatch hs
set_option maxRecDepth 1000000 in
theorem sg9_run : sg9.met (callS CK (lookF pls) sl9 100000 60 sg9.f sg9.args (hpOf sg9.n0 sg9.h0)) = true := by kernel_rfl
theorem sg9_ok : sg9.Ok CK := Stage.ok CKH plsOk sl9_ok sg9_run
end Go.Proofs.YtmpdoelanliaeaaGreatDoor.Hx
