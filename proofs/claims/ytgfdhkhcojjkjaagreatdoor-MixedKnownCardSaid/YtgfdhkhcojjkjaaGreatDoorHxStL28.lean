/- A stage of many rounds. Printed by mx.py. -/
import Derived.Test.YtgfdhkhcojjkjaaGreatDoorHxSt28p0
import Derived.Test.YtgfdhkhcojjkjaaGreatDoorHxSt28p1
import Derived.Test.YtgfdhkhcojjkjaaGreatDoorHxStA
import Derived.KernelRfl
namespace Go.Proofs.YtgfdhkhcojjkjaaGreatDoor.Hx
theorem lf28 : P0.funcs[27]? = some Tryz.f27 := by
  unfold P0
  exact Tryz.func27
theorem rs28_4 : RestOk CR Tryz.f27 lid28 lc28 lpost28 ls28_4 sg28.v sg28.n1 sg28.h1 := rest_last CRH plsOk sl28_ok (m := 100000) (d := 60) lf28 rfl (by kernel_rfl) sr28_4
theorem rs28_3 : RestOk CR Tryz.f27 lid28 lc28 lpost28 ls28_3 sg28.v sg28.n1 sg28.h1 := rest_iter CRH plsOk sl28_ok (m := 100000) (d := 60) (f := 27) (j := 73) (by kernel_rfl) sr28_3 rs28_4
theorem rs28_2 : RestOk CR Tryz.f27 lid28 lc28 lpost28 ls28_2 sg28.v sg28.n1 sg28.h1 := rest_iter CRH plsOk sl28_ok (m := 100000) (d := 60) (f := 27) (j := 74) (by kernel_rfl) sr28_2 rs28_3
theorem rs28_1 : RestOk CR Tryz.f27 lid28 lc28 lpost28 ls28_1 sg28.v sg28.n1 sg28.h1 := rest_iter CRH plsOk sl28_ok (m := 100000) (d := 60) (f := 27) (j := 60) (by kernel_rfl) sr28_1 rs28_2
theorem rs28_0 : RestOk CR Tryz.f27 lid28 lc28 lpost28 ls28_0 sg28.v sg28.n1 sg28.h1 := rest_iter CRH plsOk sl28_ok (m := 100000) (d := 60) (f := 27) (j := 118) (by kernel_rfl) sr28_0 rs28_1
theorem sg28_ok : sg28.Ok CR :=
  rest_first CRH plsOk sl28_ok (m := 100000) (d := 60) (g := sg28) lf28 rfl lcut28 rfl (by kernel_rfl) (by kernel_rfl) (by kernel_rfl) sr28_first rs28_0
end Go.Proofs.YtgfdhkhcojjkjaaGreatDoor.Hx
/- A stage, shown by its run. Printed by mx.py. -/
namespace Go.Proofs.YtgfdhkhcojjkjaaGreatDoor.Hx
set_option maxRecDepth 1000000
def sl29 : List Stage := [sg28]
theorem sl29_ok : ∀ s ∈ sl29, s.Ok CR := by
  intro s hs
  simp only [sl29, List.mem_cons, List.mem_nil_iff, or_false] at hs
  rcases hs with rfl
  exact sg28_ok
theorem sg29_run : sg29.met (callS CR (lookF pls) sl29 100000 60 sg29.f sg29.args (hpOf sg29.n0 sg29.h0)) = true := by kernel_rfl
theorem sg29_ok : sg29.Ok CR := Stage.ok CRH plsOk sl29_ok sg29_run
end Go.Proofs.YtgfdhkhcojjkjaaGreatDoor.Hx
