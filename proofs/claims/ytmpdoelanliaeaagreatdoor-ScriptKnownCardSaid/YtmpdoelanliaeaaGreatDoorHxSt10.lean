/- A stage of many rounds. Printed by st.py. -/
import Derived.Test.YtmpdoelanliaeaaGreatDoorHxSt10pF
import Derived.Test.YtmpdoelanliaeaaGreatDoorHxSt10p0
import Derived.Test.YtmpdoelanliaeaaGreatDoorHxSt10p1
import Derived.Test.YtmpdoelanliaeaaGreatDoorHxSt10p2
import Derived.Test.YtmpdoelanliaeaaGreatDoorHxSt10p3
import Derived.Test.YtmpdoelanliaeaaGreatDoorHxSt10p4
import Derived.Test.YtmpdoelanliaeaaGreatDoorHxSt10p5
namespace Go.Proofs.YtmpdoelanliaeaaGreatDoor.Hx
theorem lf10 : P0.funcs[170]? = some Tryz.f170 := by
  unfold P0
  exact Tryz.func170
theorem sg10_ok : sg10.Ok CK :=
  rest_first CKH plsOk sl10_ok (m := 100000) (d := 60) (g := sg10) lf10 rfl lcut10 (by kernel_rfl) (by kernel_rfl) (by kernel_rfl) sr10_first (rest_iter CKH plsOk sl10_ok (m := 100000) (d := 60) (f := 170) (j := 135) (by kernel_rfl) sr10_0 (rest_iter CKH plsOk sl10_ok (m := 100000) (d := 60) (f := 170) (j := 135) (by kernel_rfl) sr10_1 (rest_iter CKH plsOk sl10_ok (m := 100000) (d := 60) (f := 170) (j := 135) (by kernel_rfl) sr10_2 (rest_iter CKH plsOk sl10_ok (m := 100000) (d := 60) (f := 170) (j := 135) (by kernel_rfl) sr10_3 (rest_iter CKH plsOk sl10_ok (m := 100000) (d := 60) (f := 170) (j := 135) (by kernel_rfl) sr10_4 (rest_last CKH plsOk sl10_ok (m := 100000) (d := 60) lf10 rfl (by kernel_rfl) sr10_5))))))
end Go.Proofs.YtmpdoelanliaeaaGreatDoor.Hx
