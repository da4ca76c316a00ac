/- A stage, shown by its run. Printed by st.py. -/
import Derived.Test.YthecofapmpibmabGreatDoorHxStA
import Derived.Test.YthecofapmpibmabGreatDoorHxSt2
import Derived.Test.YthecofapmpibmabGreatDoorHxSt3
import Derived.Test.YthecofapmpibmabGreatDoorHxSt4
import Derived.Test.YthecofapmpibmabGreatDoorHxSt5
import Derived.Test.YthecofapmpibmabGreatDoorHxSt6
import Derived.Test.YthecofapmpibmabGreatDoorHxSt7
import Derived.Test.YthecofapmpibmabGreatDoorHxSt8
import Derived.Test.YthecofapmpibmabGreatDoorHxSt9
import Derived.Test.YthecofapmpibmabGreatDoorHxSt10
import Derived.KernelRfl
namespace Go.Proofs.YthecofapmpibmabGreatDoor.Hx
def sl11 : List Stage := [sg2, sg3, sg4, sg5, sg6, sg7, sg8, sg9, sg10]
theorem sl11_ok : ∀ s ∈ sl11, s.Ok CK := by
  intro s hs
  simp only [sl11, List.mem_cons, List.mem_nil_iff, or_false] at hs
  rcases hs with rfl | rfl | rfl | rfl | rfl | rfl | rfl | rfl | rfl
  · exact sg2_ok
  · exact sg3_ok
  · exact sg4_ok
  · exact sg5_ok
  · exact sg6_ok
  · exact sg7_ok
  · exact sg8_ok
  · exact sg9_ok
  · exact sg10_ok
set_option maxRecDepth 1000000 in
theorem sg11_run : sg11.met (callS CK (lookF pls) sl11 100000 60 sg11.f sg11.args (hpOf sg11.n0 sg11.h0)) = true := by kernel_rfl
theorem sg11_ok : sg11.Ok CK := Stage.ok CKH plsOk sl11_ok sg11_run
end Go.Proofs.YthecofapmpibmabGreatDoor.Hx
