/- A stage, shown by its run. Printed by st.py. -/
import Derived.Test.YtmpdoelanliaeaaGreatDoorHxStA
import Derived.Test.YtmpdoelanliaeaaGreatDoorHxSt2
import Derived.Test.YtmpdoelanliaeaaGreatDoorHxSt4
import Derived.KernelRfl
namespace Go.Proofs.YtmpdoelanliaeaaGreatDoor.Hx
def sl7 : List Stage := [sg2, sg3, sg4, sg5, sg6]
theorem sl7_ok : ∀ s ∈ sl7, s.Ok CK := by
  intro s hs
  simp only [sl7, List.mem_cons, List.mem_nil_iff, or_false] at hs
  rcases hs with rfl | rfl | rfl | rfl | rfl
  · exact sg2_ok
  · exact sg3_ok
  · exact sg4_ok
  · exact sg5_ok
  · exact sg6_ok
set_option maxRecDepth 1000000 in
theorem sg7_run : sg7.met (callS CK (lookF pls) sl7 100000 60 sg7.f sg7.args (hpOf sg7.n0 sg7.h0)) = true := by kernel_rfl
theorem sg7_ok : sg7.Ok CK := Stage.ok CKH plsOk sl7_ok sg7_run
end Go.Proofs.YtmpdoelanliaeaaGreatDoor.Hx
