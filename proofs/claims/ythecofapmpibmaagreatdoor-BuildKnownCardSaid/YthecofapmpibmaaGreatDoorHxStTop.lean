/- A stage, shown by its run. Printed by st.py. -/
import Derived.Test.YthecofapmpibmaaGreatDoorHxStA
import Derived.Test.YthecofapmpibmaaGreatDoorHxSt0
import Derived.Test.YthecofapmpibmaaGreatDoorHxSt1
import Derived.Test.YthecofapmpibmaaGreatDoorHxSt2
import Derived.Test.YthecofapmpibmaaGreatDoorHxSt3
import Derived.Test.YthecofapmpibmaaGreatDoorHxSt4
import Derived.KernelRfl
namespace Go.Proofs.YthecofapmpibmaaGreatDoor.Hx
def slTop : List Stage := [sg0, sg1, sg2, sg3, sg4]
theorem slTop_ok : ∀ s ∈ slTop, s.Ok CK := by
  intro s hs
  simp only [slTop, List.mem_cons, List.mem_nil_iff, or_false] at hs
  rcases hs with rfl | rfl | rfl | rfl | rfl
  · exact sg0_ok
  · exact sg1_ok
  · exact sg2_ok
  · exact sg3_ok
  · exact sg4_ok
set_option maxRecDepth 1000000 in
theorem top_run : isTrue (callS CK (lookF pls) slTop 100000 60 3 [] { next := 3, tr := .leaf }) = true := by kernel_rfl
theorem top_ran : ∃ m d, isTrue (callN CK m d 3 [] { next := 3, tr := .leaf }) = true := true_of_stages CKH plsOk slTop_ok top_run
end Go.Proofs.YthecofapmpibmaaGreatDoor.Hx
