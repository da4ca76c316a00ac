/- The ways of calling by which chapter 30's text is walked: strconv.Itoa by the kit's contract, known() by one run. -/
import Derived.Test.YtdpfhajggknfaaaGreatDoorHxVA
import Derived.Test.YtdpfhajggknfaaaGreatDoorHxYc
import Derived.Test.YtdpfhajggknfaaaGreatDoorHx1
import Derived.Test.YtdpfhajggknfaaaGreatDoorHxU
import Derived.Test.YtdpfhajggknfaaaGreatDoorHxSh
import Derived.Lib.AppendIntMem
namespace Go.Proofs.YtdpfhajggknfaaaGreatDoor.Hx
open Go.Lib

theorem body31 : ∃ fn c, P0.funcs[31]? = some fn ∧ fn.body = some c := by
  unfold P0
  exact ⟨Tryz.f31, _, Tryz.func31, rfl⟩
theorem body10 : ∃ fn c, P0.funcs[10]? = some fn ∧ fn.body = some c := by
  unfold P0
  exact ⟨Tryz.f10, _, Tryz.func10, rfl⟩
set_option maxRecDepth 1000000 in
theorem yes10 : isTrue (callN C1 100000 60 10 [] { next := 6, tr := .leaf }) = true := by kernel_rfl
theorem kOk10 : KOk C1 (.yes 10) := .yes (n := 6) (Nat.le_of_ble_eq_true globs) body10 yes10

noncomputable def KS (f : Nat) (args : List V) (_ : Hp) : Option V := match f, args with
  | 31, [.int .i64 n] => bB (decide (-9223372036854775808 ≤ n) && decide (n ≤ 9223372036854775807)) (some (.str (itoa n)))
  | 10, [] => some (.bool true)
  | _, _ => none
noncomputable def CS : Cfg := ⟨startF, E1, KS⟩
theorem pow10_tab : ∀ w : World, TabOk (fun _ => none) w → TabIs Tryz.prog w "internal/strconv.uint64pow10" .u64 pow10Tab := by
  intro w ht
  obtain ⟨⟨e, fr, h⟩, _⟩ := ht 1 _ (List.mem_singleton.2 rfl)
  unfold TabIs World.var?
  rw [show Tryz.prog.globalNamed "internal/strconv.uint64pow10" = some 1 by kernel_rfl]
  show (match w.heap[1]? with
    | some (.cells cs _ _) => some cs
    | _ => none) = _
  rw [h]
  show some _ = some _
  rfl
theorem factsS : Facts CS where
  startD := fun _ => rfl
  start := fun _ _ => rfl
  mixed := mixed
  named := facts.named
  ext := facts.ext
  known := fun f args v h hk hf1 hf2 Δ W args' hW ha => by
    have hk' : KS f args h = some v := hk
    unfold KS at hk'
    split at hk'
    · rename_i n
      rw [bB_eq] at hk'
      obtain ⟨hr, hv⟩ := hk'
      cases hv
      simp only [Bool.and_eq_true, decide_eq_true_eq] at hr
      obtain ⟨l⟩ := args'
      cases ha with
      | cons _ x _ xs hx hs =>
        cases hs
        cases hx
        have hc := Tryz.strconv_Itoa n hr.1 hr.2 W (pow10_tab W hW.tab.none)
        unfold P0
        refine Calls.mono hc fun e W' ⟨he, k, os, hw⟩ => ⟨_, he, ?_, ?_⟩
        · have : itoa n = (⟨(itoa n).toArray⟩ : ByteArray).data.toList := rfl
          rw [this]
          exact .str _
        · subst hw
          exact ⟨rfl, rfl, rfl, size_grow W k os, fun b hb => heap_grow_old W k os b hb⟩
    · cases hk'
      exact kOk10.calls facts (f := 10) (args := []) (v := .bool true) rfl rfl W hW.tab.none args' ha
    · cases hk'
end Go.Proofs.YtdpfhajggknfaaaGreatDoor.Hx
