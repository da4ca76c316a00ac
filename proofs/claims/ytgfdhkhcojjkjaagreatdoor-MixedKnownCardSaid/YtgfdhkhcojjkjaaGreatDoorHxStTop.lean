/- The last run. Printed by mx.py. -/
import Derived.Test.YtgfdhkhcojjkjaaGreatDoorHxStA
import Derived.Test.YtgfdhkhcojjkjaaGreatDoorHxSt0
import Derived.Test.YtgfdhkhcojjkjaaGreatDoorHxSt21
import Derived.Test.YtgfdhkhcojjkjaaGreatDoorHxSt22
import Derived.Test.YtgfdhkhcojjkjaaGreatDoorHxSt23
import Derived.Test.YtgfdhkhcojjkjaaGreatDoorHxStL28
import Derived.KernelRfl
namespace Go.Proofs.YtgfdhkhcojjkjaaGreatDoor.Hx
set_option maxRecDepth 1000000
def slTop : List Stage := [sg0, sg29, sg30, sg34, sg35, sg36, sg37]
theorem slTop_ok : ∀ s ∈ slTop, s.Ok CR := by
  intro s hs
  simp only [slTop, List.mem_cons, List.mem_nil_iff, or_false] at hs
  rcases hs with rfl | rfl | rfl | rfl | rfl | rfl | rfl
  · exact sg0_ok
  · exact sg29_ok
  · exact sg30_ok
  · exact sg34_ok
  · exact sg35_ok
  · exact sg36_ok
  · exact sg37_ok
theorem top_run : isTrue (callS CR (lookF pls) slTop 100000 60 3 [] { next := 6, tr := .leaf }) = true := by kernel_rfl
theorem top_ran : ∃ m d, isTrue (callN CR m d 3 [] { next := 6, tr := .leaf }) = true := true_of_stages CRH plsOk slTop_ok top_run
end Go.Proofs.YtgfdhkhcojjkjaaGreatDoor.Hx
