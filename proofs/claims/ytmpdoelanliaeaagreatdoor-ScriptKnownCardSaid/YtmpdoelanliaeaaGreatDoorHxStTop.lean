/- A stage, shown by its run. Printed by st.py. -/
import Derived.Test.YtmpdoelanliaeaaGreatDoorHxStA
import Derived.Test.YtmpdoelanliaeaaGreatDoorHxSt0
import Derived.Test.YtmpdoelanliaeaaGreatDoorHxSt7
import Derived.Test.YtmpdoelanliaeaaGreatDoorHxSt11
import Derived.Test.YtmpdoelanliaeaaGreatDoorHxSt12
import Derived.KernelRfl
namespace Go.Proofs.YtmpdoelanliaeaaGreatDoor.Hx
def slTop : List Stage := [sg0, sg1, sg7, sg8, sg9, sg11, sg12]
theorem slTop_ok : ∀ s ∈ slTop, s.Ok CK := by
  intro s hs
  simp only [slTop, List.mem_cons, List.mem_nil_iff, or_false] at hs
  rcases hs with rfl | rfl | rfl | rfl | rfl | rfl | rfl
  · exact sg0_ok
  · exact sg1_ok
  · exact sg7_ok
  · exact sg8_ok
  · exact sg9_ok
  · exact sg11_ok
  · exact sg12_ok
set_option maxRecDepth 1000000 in
theorem top_run : isTrue (callS CK (lookF pls) slTop 100000 60 3 [] { next := 6, tr := .leaf }) = true := by kernel_rfl
theorem top_ran : ∃ m d, isTrue (callN CK m d 3 [] { next := 6, tr := .leaf }) = true := true_of_stages CKH plsOk slTop_ok top_run
end Go.Proofs.YtmpdoelanliaeaaGreatDoor.Hx
