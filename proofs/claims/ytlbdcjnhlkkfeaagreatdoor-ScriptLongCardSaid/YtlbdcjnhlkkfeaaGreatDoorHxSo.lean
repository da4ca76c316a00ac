/- The ways of calling by which ScriptLong is walked: known(), the line's event and what its row tells, each by one run. -/
import Derived.Test.YtlbdcjnhlkkfeaaGreatDoorHxVC
import Derived.Test.YtlbdcjnhlkkfeaaGreatDoorHxYc
import Derived.Test.YtlbdcjnhlkkfeaaGreatDoorHx1
import Derived.Test.YtlbdcjnhlkkfeaaGreatDoorHxU
import Derived.Test.YtlbdcjnhlkkfeaaGreatDoorHxP4
namespace Go.Proofs.YtlbdcjnhlkkfeaaGreatDoor.Hx

/-- The cells of the line's event. -/
def evc : List V := [.int .i64 4, .int .i64 0, .int .i64 0, .int .i64 0, .int .i64 0, .int .i64 0, .int .i64 0, .int .i64 0, .nilSlice]
/-- What playing it answers. -/
def rowV : V := .agg [.int .i64 3, .int .i64 0, .int .i64 0, .int .i64 0, .int .i64 0, .nilSlice]
/-- "error 3" -/
def err3 : List UInt8 := [101, 114, 114, 111, 114, 32, 51]
def KL : List KE := [.yes 6, .one 10 [.str Tx.evict] (.tuple [.agg evc, .int .i64 0]), .one 11 [rowV] (.str err3)]
theorem body6 : ∃ fn c, P0.funcs[6]? = some fn ∧ fn.body = some c := by
  unfold P0
  exact ⟨Tryz.f6, _, Tryz.func6, rfl⟩
theorem body10 : ∃ fn c, P0.funcs[10]? = some fn ∧ fn.body = some c := by
  unfold P0
  exact ⟨Tryz.f10, _, Tryz.func10, rfl⟩
theorem body11 : ∃ fn c, P0.funcs[11]? = some fn ∧ fn.body = some c := by
  unfold P0
  exact ⟨Tryz.f11, _, Tryz.func11, rfl⟩
set_option maxRecDepth 1000000 in
theorem yes6 : isTrue (callN C1 100000 60 6 [] { next := 6, tr := .leaf }) = true := by kernel_rfl
set_option maxRecDepth 1000000 in
theorem one10 : isV (.tuple [.agg evc, .int .i64 0]) (callN C1 100000 60 10 [.str Tx.evict] { next := 6, tr := .leaf }) = true := by kernel_rfl
set_option maxRecDepth 1000000 in
theorem one11 : isV (.str err3) (callN C1 100000 60 11 [rowV] { next := 6, tr := .leaf }) = true := by kernel_rfl
theorem kOk : ∀ e ∈ KL, KOk C1 e := by
  intro e he
  rcases List.mem_cons.1 he with rfl | he
  · exact .yes (n := 6) (Nat.le_of_ble_eq_true globs) body6 yes6
  rcases List.mem_cons.1 he with rfl | he
  · exact .one (n := 6) (Nat.le_of_ble_eq_true globs) body10 one10
  rcases List.mem_cons.1 he with rfl | he
  · exact .one (n := 6) (Nat.le_of_ble_eq_true globs) body11 one11
  cases he
noncomputable def CS : Cfg := ⟨startF, E1, fun f args _ => askAll KL f args⟩
theorem factsS : Facts CS where
  startD := fun _ => rfl
  start := fun _ _ => rfl
  mixed := mixed
  named := facts.named
  ext := facts.ext
  known := fun f args v h hk hf1 hf2 Δ W args' hW ha =>
    have ⟨e, hm, he⟩ := askAll_mem KL hk
    (kOk e hm).calls facts he hf2 W hW.tab.none args' ha
theorem ct_known {h : Hp} {Q : V → Hp → Prop} (H : Q (.bool true) h) : cP CS n_turnstonelaw30_known [] h Q :=
  let ⟨_, _, h1, h2⟩ := body6
  cP.known h1 h2 rfl rfl rfl H
theorem ct_Parse {h : Hp} {Q : V → Hp → Prop} (H : Q (.tuple [.agg evc, .int .i64 0]) h) : cP CS n_script_Parse [.str Tx.evict] h Q :=
  let ⟨_, _, h1, h2⟩ := body10
  cP.known h1 h2 (by kernel_rfl) rfl rfl H
theorem ct_Tell {h : Hp} {Q : V → Hp → Prop} (H : Q (.str err3) h) : cP CS n_script_Tell [rowV] h Q :=
  let ⟨_, _, h1, h2⟩ := body11
  cP.known h1 h2 (by kernel_rfl) rfl rfl H
end Go.Proofs.YtlbdcjnhlkkfeaaGreatDoor.Hx
