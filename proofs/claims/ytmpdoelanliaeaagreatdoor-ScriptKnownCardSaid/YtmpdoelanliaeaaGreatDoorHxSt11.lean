/- A stage, shown by its run. Printed by st.py. -/
import Derived.Test.YtmpdoelanliaeaaGreatDoorHxStA
import Derived.Test.YtmpdoelanliaeaaGreatDoorHxSt10
import Derived.KernelRfl
namespace Go.Proofs.YtmpdoelanliaeaaGreatDoor.Hx
def sl11 : List Stage := [sg10]
theorem sl11_ok : ∀ s ∈ sl11, s.Ok CK := by
  intro s hs
  simp only [sl11, List.mem_cons, List.mem_nil_iff, or_false] at hs
  rcases hs with rfl
  exact sg10_ok
set_option maxRecDepth 1000000 in
theorem sg11_run : sg11.met (callS CK (lookF pls) sl11 100000 60 sg11.f sg11.args (hpOf sg11.n0 sg11.h0)) = true := by kernel_rfl
theorem sg11_ok : sg11.Ok CK := Stage.ok CKH plsOk sl11_ok sg11_run
end Go.Proofs.YtmpdoelanliaeaaGreatDoor.Hx
