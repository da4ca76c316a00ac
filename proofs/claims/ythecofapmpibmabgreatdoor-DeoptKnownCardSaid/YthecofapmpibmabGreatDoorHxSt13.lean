/- A stage, shown by its run. Printed by st.py. -/
import Derived.Test.YthecofapmpibmabGreatDoorHxStA
import Derived.Test.YthecofapmpibmabGreatDoorHxSt12
import Derived.KernelRfl
namespace Go.Proofs.YthecofapmpibmabGreatDoor.Hx
def sl13 : List Stage := [sg12]
theorem sl13_ok : ∀ s ∈ sl13, s.Ok CK := by
  intro s hs
  simp only [sl13, List.mem_cons, List.mem_nil_iff, or_false] at hs
  rcases hs with rfl
  exact sg12_ok
set_option maxRecDepth 1000000 in
theorem sg13_run : sg13.met (callS CK (lookF pls) sl13 100000 60 sg13.f sg13.args (hpOf sg13.n0 sg13.h0)) = true := by kernel_rfl
theorem sg13_ok : sg13.Ok CK := Stage.ok CKH plsOk sl13_ok sg13_run
end Go.Proofs.YthecofapmpibmabGreatDoor.Hx
