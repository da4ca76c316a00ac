/- Calls of the program that are known beforehand: tables, single calls, numbers as text. Printed by kk.py. -/
import Derived.Test.YtmpdoelanliaeaaGreatDoorHxPn
import Derived.Test.YtmpdoelanliaeaaGreatDoorHxU
import Derived.Test.YtmpdoelanliaeaaGreatDoorHx6
import Derived.Test.YtmpdoelanliaeaaGreatDoorHxSh
import Derived.Lib.AppendIntMem
import Derived.KernelRfl
namespace Go.Proofs.YtmpdoelanliaeaaGreatDoor.Hx
open Go.Lib
theorem bodyF : ∃ fn c, P0.funcs[93]? = some fn ∧ fn.body = some c := by
  unfold P0
  exact ⟨Tryz.f93, _, Tryz.func93, rfl⟩
noncomputable def K0 (f : Nat) (args : List V) (_ : Hp) : Option V := match f, args with
  | 93, [.int .i64 n, .int .i64 10] => bB (decide (-9223372036854775808 ≤ n) && decide (n ≤ 9223372036854775807)) (some (.str (itoa n)))
  | _, _ => none
noncomputable def C0 : Cfg := ⟨startT, E1, K0⟩
theorem pow10_tab : ∀ w : World, TabOk (fun _ => none) w → TabIs Tryz.prog w "internal/strconv.uint64pow10" .u64 pow10Tab := by
  intro w ht
  obtain ⟨⟨e, fr, h⟩, _⟩ := ht 1 _ (List.mem_singleton.2 rfl)
  unfold TabIs World.var?
  rw [show Tryz.prog.globalNamed "internal/strconv.uint64pow10" = some 1 by kernel_rfl]
  show (match w.heap[1]? with
    | some (.cells cs _ _) => some cs
    | _ => none) = _
  rw [h]
  show some _ = some _
  rfl
theorem facts0 : Facts C0 where
  startD := fun _ => rfl
  start := startT_get
  mixed := mixed
  named := facts.named
  ext := facts.ext
  known := fun f args v h hk hf1 hf2 Δ W args' hW ha => by
    have hk' : K0 f args h = some v := hk
    unfold K0 at hk'
    split at hk'
    · rename_i n
      rw [bB_eq] at hk'
      obtain ⟨hr, hv⟩ := hk'
      cases hv
      simp only [Bool.and_eq_true, decide_eq_true_eq] at hr
      obtain ⟨l⟩ := args'
      cases ha with
      | cons _ x _ xs hx hs =>
        cases hs with
        | cons _ y _ ys hy hs2 =>
          cases hs2
          cases hx
          cases hy
          have hc := Tryz.internal_strconv_FormatInt_10 n hr.1 hr.2 W (pow10_tab W hW.tab.none)
          unfold P0
          refine Calls.mono hc fun e W' ⟨he, k, os, hw⟩ => ⟨_, he, ?_, ?_⟩
          · have : itoa n = (⟨(itoa n).toArray⟩ : ByteArray).data.toList := rfl
            rw [this]
            exact .str _
          · subst hw
            exact ⟨rfl, rfl, rfl, size_grow W k os, fun b hb => heap_grow_old W k os b hb⟩
    · cases hk'
def tab314 : List (Nat × V) := [(1, .str [83, 101, 116]), (5, .str [65, 100, 100]), (14, .str [76, 116]), (23, .str [74, 117, 109, 112]), (24, .str [74, 122]), (26, .str [80, 111, 108, 108]), (27, .str [76, 101, 97, 118, 101])]
theorem b314 : ∃ fn c, P0.funcs[314]? = some fn ∧ fn.body = some c := by
  unfold P0
  exact ⟨Tryz.f314, _, Tryz.func314, rfl⟩
set_option maxRecDepth 1000000 in
theorem ok314 : namesOk C0 100000 60 6 314 tab314 = true := by kernel_rfl
def tab403 : List (Nat × V) := [(1, .str [80, 97, 114, 97, 109]), (2, .str [67, 111, 110, 115, 116]), (3, .str [65, 100, 100]), (12, .str [76, 116]), (21, .str [80, 104, 105]), (23, .str [80, 111, 108, 108])]
theorem b403 : ∃ fn c, P0.funcs[403]? = some fn ∧ fn.body = some c := by
  unfold P0
  exact ⟨Tryz.f403, _, Tryz.func403, rfl⟩
set_option maxRecDepth 1000000 in
theorem ok403 : namesOk C0 100000 60 6 403 tab403 = true := by kernel_rfl
def tab351 : List (Nat × V) := [(1, .str [78, 117, 109]), (3, .str [76, 105, 116]), (5, .str [76, 111, 97, 100]), (6, .str [83, 116, 111, 114, 101]), (8, .str [65, 100, 100]), (17, .str [76, 116]), (26, .str [74, 117, 109, 112]), (27, .str [74, 117, 109, 112, 78, 111]), (39, .str [80, 114, 105, 110, 116]), (41, .str [82, 101, 116])]
theorem b351 : ∃ fn c, P0.funcs[351]? = some fn ∧ fn.body = some c := by
  unfold P0
  exact ⟨Tryz.f351, _, Tryz.func351, rfl⟩
set_option maxRecDepth 1000000 in
theorem ok351 : namesOk C0 100000 60 6 351 tab351 = true := by kernel_rfl
def LC2 : List KE := [.names 314 tab314, .names 403 tab403, .names 351 tab351]
theorem okC2 : ∀ e ∈ LC2, KOk C0 e := by
  intro e he
  simp only [LC2, List.mem_cons, List.mem_nil_iff, or_false] at he
  rcases he with rfl | rfl | rfl
  · exact .names (n := 6) (Nat.le_of_ble_eq_true globs) b314 ok314
  · exact .names (n := 6) (Nat.le_of_ble_eq_true globs) b403 ok403
  · exact .names (n := 6) (Nat.le_of_ble_eq_true globs) b351 ok351
noncomputable def C2 : Cfg := Cfg.more C0 LC2
theorem facts2 : Facts C2 := Facts.more facts0 okC2
theorem b425 : ∃ fn c, P0.funcs[425]? = some fn ∧ fn.body = some c := by
  unfold P0
  exact ⟨Tryz.f425, _, Tryz.func425, rfl⟩
set_option maxRecDepth 1000000 in
theorem one0 : isV (.bool true) (callN C2 100000 60 425 [.agg [.int .i64 23, .int .i64 0, .int .i64 0, .int .i64 0, .int .i64 1], .int .i64 10] { next := 6, tr := .leaf }) = true := by kernel_rfl
set_option maxRecDepth 1000000 in
theorem one1 : isV (.bool true) (callN C2 100000 60 425 [.agg [.int .i64 26, .int .i64 0, .int .i64 0, .int .i64 0, .int .i64 0], .int .i64 10] { next := 6, tr := .leaf }) = true := by kernel_rfl
set_option maxRecDepth 1000000 in
theorem one2 : isV (.bool true) (callN C2 100000 60 425 [.agg [.int .i64 1, .int .i64 1, .int .i64 0, .int .i64 0, .int .i64 100], .int .i64 10] { next := 6, tr := .leaf }) = true := by kernel_rfl
set_option maxRecDepth 1000000 in
theorem one3 : isV (.bool true) (callN C2 100000 60 425 [.agg [.int .i64 14, .int .i64 1, .int .i64 0, .int .i64 1, .int .i64 0], .int .i64 10] { next := 6, tr := .leaf }) = true := by kernel_rfl
set_option maxRecDepth 1000000 in
theorem one4 : isV (.bool true) (callN C2 100000 60 425 [.agg [.int .i64 24, .int .i64 1, .int .i64 0, .int .i64 0, .int .i64 9], .int .i64 10] { next := 6, tr := .leaf }) = true := by kernel_rfl
set_option maxRecDepth 1000000 in
theorem one5 : isV (.bool true) (callN C2 100000 60 425 [.agg [.int .i64 23, .int .i64 0, .int .i64 0, .int .i64 0, .int .i64 6], .int .i64 10] { next := 6, tr := .leaf }) = true := by kernel_rfl
set_option maxRecDepth 1000000 in
theorem one6 : isV (.bool true) (callN C2 100000 60 425 [.agg [.int .i64 1, .int .i64 1, .int .i64 0, .int .i64 0, .int .i64 1], .int .i64 10] { next := 6, tr := .leaf }) = true := by kernel_rfl
set_option maxRecDepth 1000000 in
theorem one7 : isV (.bool true) (callN C2 100000 60 425 [.agg [.int .i64 5, .int .i64 0, .int .i64 0, .int .i64 1, .int .i64 0], .int .i64 10] { next := 6, tr := .leaf }) = true := by kernel_rfl
set_option maxRecDepth 1000000 in
theorem one8 : isV (.bool true) (callN C2 100000 60 425 [.agg [.int .i64 27, .int .i64 0, .int .i64 0, .int .i64 0, .int .i64 1], .int .i64 10] { next := 6, tr := .leaf }) = true := by kernel_rfl
theorem b28 : ∃ fn c, P0.funcs[28]? = some fn ∧ fn.body = some c := by
  unfold P0
  exact ⟨Tryz.f28, _, Tryz.func28, rfl⟩
set_option maxRecDepth 1000000 in
theorem one9 : isV (.tuple [.agg [.int .i64 0, .str [], .int .i64 0, .int .i64 0, .int .i64 0, .nilSlice], .agg [.int .i64 1, .int .i64 5], .int .i64 13]) (recC C2 28 (callN C2 100000 60) (panN C2 100000 60) 100000 [.str [102, 117, 110, 99]] { next := 6, tr := .leaf }) = true := by kernel_rfl
def LC3 : List KE := [.one 425 [.agg [.int .i64 23, .int .i64 0, .int .i64 0, .int .i64 0, .int .i64 1], .int .i64 10] (.bool true), .one 425 [.agg [.int .i64 26, .int .i64 0, .int .i64 0, .int .i64 0, .int .i64 0], .int .i64 10] (.bool true), .one 425 [.agg [.int .i64 1, .int .i64 1, .int .i64 0, .int .i64 0, .int .i64 100], .int .i64 10] (.bool true), .one 425 [.agg [.int .i64 14, .int .i64 1, .int .i64 0, .int .i64 1, .int .i64 0], .int .i64 10] (.bool true), .one 425 [.agg [.int .i64 24, .int .i64 1, .int .i64 0, .int .i64 0, .int .i64 9], .int .i64 10] (.bool true), .one 425 [.agg [.int .i64 23, .int .i64 0, .int .i64 0, .int .i64 0, .int .i64 6], .int .i64 10] (.bool true), .one 425 [.agg [.int .i64 1, .int .i64 1, .int .i64 0, .int .i64 0, .int .i64 1], .int .i64 10] (.bool true), .one 425 [.agg [.int .i64 5, .int .i64 0, .int .i64 0, .int .i64 1, .int .i64 0], .int .i64 10] (.bool true), .one 425 [.agg [.int .i64 27, .int .i64 0, .int .i64 0, .int .i64 0, .int .i64 1], .int .i64 10] (.bool true), .one 28 [.str [102, 117, 110, 99]] (.tuple [.agg [.int .i64 0, .str [], .int .i64 0, .int .i64 0, .int .i64 0, .nilSlice], .agg [.int .i64 1, .int .i64 5], .int .i64 13])]
theorem okC3 : ∀ e ∈ LC3, KOk C2 e := by
  intro e he
  simp only [LC3, List.mem_cons, List.mem_nil_iff, or_false] at he
  rcases he with rfl | rfl | rfl | rfl | rfl | rfl | rfl | rfl | rfl | rfl
  · exact .one (n := 6) (Nat.le_of_ble_eq_true globs) b425 one0
  · exact .one (n := 6) (Nat.le_of_ble_eq_true globs) b425 one1
  · exact .one (n := 6) (Nat.le_of_ble_eq_true globs) b425 one2
  · exact .one (n := 6) (Nat.le_of_ble_eq_true globs) b425 one3
  · exact .one (n := 6) (Nat.le_of_ble_eq_true globs) b425 one4
  · exact .one (n := 6) (Nat.le_of_ble_eq_true globs) b425 one5
  · exact .one (n := 6) (Nat.le_of_ble_eq_true globs) b425 one6
  · exact .one (n := 6) (Nat.le_of_ble_eq_true globs) b425 one7
  · exact .one (n := 6) (Nat.le_of_ble_eq_true globs) b425 one8
  · exact .told fun W ht args' ha => rec_calls facts2 (n := 6) (Nat.le_of_ble_eq_true globs) rfl one9 W ht args' ha
noncomputable def C3 : Cfg := Cfg.more C2 LC3
theorem facts3 : Facts C3 := Facts.more facts2 okC3
theorem b8 : ∃ fn c, P0.funcs[8]? = some fn ∧ fn.body = some c := by
  unfold P0
  exact ⟨Tryz.f8, _, Tryz.func8, rfl⟩
set_option maxRecDepth 1000000 in
theorem yesP8 : isTrue (callP C3 (lookF pls) 100000 60 8 [] { next := 6, tr := .leaf }) = true := by kernel_rfl
theorem yes8 : isTrue (callN C3 100000 60 8 [] { next := 6, tr := .leaf }) = true := isTrue_le plsOk yesP8
def LCK : List KE := [.yes 8]
theorem okCK : ∀ e ∈ LCK, KOk C3 e := by
  intro e he
  simp only [LCK, List.mem_cons, List.mem_nil_iff, or_false] at he
  rcases he with rfl
  exact .yes (n := 6) (Nat.le_of_ble_eq_true globs) b8 yes8
noncomputable def CK : Cfg := Cfg.more C3 LCK
theorem factsK : Facts CK := Facts.more facts3 okCK
end Go.Proofs.YtmpdoelanliaeaaGreatDoor.Hx
