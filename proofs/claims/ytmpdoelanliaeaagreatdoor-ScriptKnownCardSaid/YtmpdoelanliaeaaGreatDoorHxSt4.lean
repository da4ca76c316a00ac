/- A stage, shown by its run. Printed by st.py. -/
import Derived.Test.YtmpdoelanliaeaaGreatDoorHxStA
import Derived.KernelRfl
namespace Go.Proofs.YtmpdoelanliaeaaGreatDoor.Hx
def sl4 : List Stage := []
theorem sl4_ok : ∀ s ∈ sl4, s.Ok CK := fun _ hs => nomatch hs
set_option maxRecDepth 1000000 in
theorem sg4_run : sg4.met (callS CK (lookF pls) sl4 100000 60 sg4.f sg4.args (hpOf sg4.n0 sg4.h0)) = true := by kernel_rfl
theorem sg4_ok : sg4.Ok CK := Stage.ok CKH plsOk sl4_ok sg4_run
end Go.Proofs.YtmpdoelanliaeaaGreatDoor.Hx
namespace Go.Proofs.YtmpdoelanliaeaaGreatDoor.Hx
def sl5 : List Stage := []
theorem sl5_ok : ∀ s ∈ sl5, s.Ok CK := fun _ hs => nomatch hs
set_option maxRecDepth 1000000 in
theorem sg5_run : sg5.met (callS CK (lookF pls) sl5 100000 60 sg5.f sg5.args (hpOf sg5.n0 sg5.h0)) = true := by kernel_rfl
theorem sg5_ok : sg5.Ok CK := Stage.ok CKH plsOk sl5_ok sg5_run
end Go.Proofs.YtmpdoelanliaeaaGreatDoor.Hx
namespace Go.Proofs.YtmpdoelanliaeaaGreatDoor.Hx
def sl6 : List Stage := []
theorem sl6_ok : ∀ s ∈ sl6, s.Ok CK := fun _ hs => nomatch hs
set_option maxRecDepth 1000000 in
theorem sg6_run : sg6.met (callS CK (lookF pls) sl6 100000 60 sg6.f sg6.args (hpOf sg6.n0 sg6.h0)) = true := by kernel_rfl
theorem sg6_ok : sg6.Ok CK := Stage.ok CKH plsOk sl6_ok sg6_run
end Go.Proofs.YtmpdoelanliaeaaGreatDoor.Hx
