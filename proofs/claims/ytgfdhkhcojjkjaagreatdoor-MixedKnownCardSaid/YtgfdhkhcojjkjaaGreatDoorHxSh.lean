/-
  DERIVED: THE SHELF's CONTRACTS AT THIS DUMP, IN PLAIN WORDS (tools/lay-plain.mjs out of 'TryzShelf.lean', which tools/lay-shelf.mjs wrote): THE SAME DECLARATIONS UNDER THE SAME NAMES: 'import', 'namespace', 'open', 'def', 'theorem' AND NOTHING ELSE: no command of the shelf's: FOR A HAND-IN. Each laying: the table of numbers ('.._ren') and one theorem, a field a fact of the dump's own or the kernel's comparison; each contract: ONE APPLICATION.
-/
import Derived.Shelf.LaysM
import Derived.Shelf.Strconv.Itoa3
import Derived.Test.YtgfdhkhcojjkjaaGreatDoorProg
import Derived.Test.YtgfdhkhcojjkjaaGreatDoorHx1
import Derived.Test.YtgfdhkhcojjkjaaGreatDoorHx6
import Derived.Lib.AppendIntMem
import Derived.KernelRfl
namespace Go.Proofs
open Go.Shelf
def Tryz.laysM246_ren : Go.Shelf.Ren := ⟨fun | 246 => 502 | 283 => 536 | 284 => 537 | 285 => 538 | 286 => 539 | 129 => 266 | 317 => 555 | 318 => 556 | 319 => 557 | 320 => 558 | 337 => 566 | 338 => 567 | n => n, fun | 2 => 2 | 3 => 3 | 9 => 9 | 4 => 4 | 171 => 649 | 0 => 0 | 53 => 97 | 37 => 133 | 5 => 5 | 173 => 651 | 212 => 662 | 51 => 455 | 20 => 20 | 213 => 663 | 46 => 324 | 232 => 671 | 233 => 672 | n => n, fun | 17 => 0 | 18 => 4 | 19 => 5 | n => n⟩
theorem Tryz.laysM246 : Go.Proofs.LaysM.n246 Tryz.prog Tryz.laysM246_ren := {
  mixed := by kernel_rfl
  f129 := Tryz.func266.trans (congrArg some (by kernel_rfl))
  f246 := Tryz.func502.trans (congrArg some (by kernel_rfl))
  f283 := Tryz.func536.trans (congrArg some (by kernel_rfl))
  f284 := Tryz.func537.trans (congrArg some (by kernel_rfl))
  f285 := Tryz.func538.trans (congrArg some (by kernel_rfl))
  f286 := Tryz.func539.trans (congrArg some (by kernel_rfl))
  f317 := Tryz.func555.trans (congrArg some (by kernel_rfl))
  f318 := Tryz.func556.trans (congrArg some (by kernel_rfl))
  f319 := Tryz.func557.trans (congrArg some (by kernel_rfl))
  f320 := Tryz.func558.trans (congrArg some (by kernel_rfl))
  f337 := Tryz.func566.trans (congrArg some (by kernel_rfl))
  f338 := Tryz.func567.trans (congrArg some (by kernel_rfl))
  t0 := Tryz.underlying0
  a0 := Tryz.isAgg0
  z0 := Tryz.sizeOf0
  v0 := Tryz.zeroValue0
  t2 := Tryz.underlying2
  a2 := Tryz.isAgg2
  z2 := Tryz.sizeOf2
  v2 := Tryz.zeroValue2
  t3 := Tryz.underlying3
  a3 := Tryz.isAgg3
  z3 := Tryz.sizeOf3
  v3 := Tryz.zeroValue3
  t4 := Tryz.underlying4
  a4 := Tryz.isAgg4
  z4 := Tryz.sizeOf4
  v4 := Tryz.zeroValue4
  t5 := Tryz.underlying5
  a5 := Tryz.isAgg5
  z5 := Tryz.sizeOf5
  v5 := Tryz.zeroValue5
  t9 := Tryz.underlying9
  a9 := Tryz.isAgg9
  z9 := Tryz.sizeOf9
  v9 := Tryz.zeroValue9
  t20 := Tryz.underlying20
  a20 := Tryz.isAgg20
  z20 := Tryz.sizeOf20
  v20 := Tryz.zeroValue20
  t37 := Tryz.underlying133
  a37 := Tryz.isAgg133
  z37 := Tryz.sizeOf133
  v37 := Tryz.zeroValue133
  t46 := Tryz.underlying324
  a46 := Tryz.isAgg324
  z46 := Tryz.sizeOf324
  v46 := Tryz.zeroValue324
  t51 := Tryz.underlying455
  a51 := Tryz.isAgg455
  z51 := Tryz.sizeOf455
  v51 := Tryz.zeroValue455
  t53 := Tryz.underlying97
  a53 := Tryz.isAgg97
  z53 := Tryz.sizeOf97
  v53 := Tryz.zeroValue97
  t171 := Tryz.underlying649
  a171 := Tryz.isAgg649
  z171 := Tryz.sizeOf649
  v171 := Tryz.zeroValue649
  t173 := Tryz.underlying651
  a173 := Tryz.isAgg651
  z173 := Tryz.sizeOf651
  v173 := Tryz.zeroValue651
  t212 := Tryz.underlying662
  a212 := Tryz.isAgg662
  z212 := Tryz.sizeOf662
  v212 := Tryz.zeroValue662
  t213 := Tryz.underlying663
  a213 := Tryz.isAgg663
  z213 := Tryz.sizeOf663
  t232 := Tryz.underlying671
  a232 := Tryz.isAgg671
  z232 := Tryz.sizeOf671
  v232 := Tryz.zeroValue671
  t233 := Tryz.underlying672
  a233 := Tryz.isAgg672
  z233 := Tryz.sizeOf672
  v233 := Tryz.zeroValue672
  g17 := by kernel_rfl
  g18 := by kernel_rfl
  g19 := by kernel_rfl
  i0 := by kernel_rfl
  i2 := by kernel_rfl
  i3 := by kernel_rfl
  i4 := by kernel_rfl
  i5 := by kernel_rfl
  i9 := by kernel_rfl
  i20 := by kernel_rfl
  i37 := by kernel_rfl
  i46 := by kernel_rfl
  i51 := by kernel_rfl
  i53 := by kernel_rfl
  i171 := by kernel_rfl
  i173 := by kernel_rfl
  i212 := by kernel_rfl
  i232 := by kernel_rfl
  i233 := by kernel_rfl
  m17 := by kernel_rfl
  m18 := by kernel_rfl
  m19 := by kernel_rfl }
open Go.RowKit Go.Sort Go.Lib in
/-- internal/strconv.FormatInt: "FormatInt returns the string representation of i in the given base": AT BASE 10: i's decimal numeral, for every int64. The world behind the call: the world before it, new blocks behind the heap, draws. (LAID: no walk: one application.) -/
theorem Tryz.internal_strconv_FormatInt_10 (n : Int) (h0 : -9223372036854775808 ≤ n) (h1 : n ≤ 9223372036854775807) (w : World) (htab : Lib.TabIs Tryz.prog w "internal/strconv.uint64pow10" .u64 Lib.pow10Tab) :
    Calls Tryz.prog 502 #[.int .i64 n, .int .i64 10] w fun e w' => e = .returned (.string ⟨(Lib.itoa n).toArray⟩) ∧ ∃ k os, w' = grow (w.drewN k) os := Any.internal_strconv_FormatInt_10 Tryz.laysM246 n h0 h1 w htab
end Go.Proofs
/- Calls of the program that are known beforehand: tables, single calls, numbers as text. Printed by kkm.py. -/
namespace Go.Proofs.YtgfdhkhcojjkjaaGreatDoor.Hx
open Go.Lib
theorem bodyF : ∃ fn c, P0.funcs[502]? = some fn ∧ fn.body = some c := by
  unfold P0
  exact ⟨Tryz.f502, _, Tryz.func502, rfl⟩
noncomputable def K0 (f : Nat) (args : List V) (_ : Hp) : Option V := match f, args with
  | 502, [.int .i64 n, .int .i64 10] => bB (decide (-9223372036854775808 ≤ n) && decide (n ≤ 9223372036854775807)) (some (.str (itoa n)))
  | _, _ => none
noncomputable def C0 : Cfg := ⟨startT, E1, K0, fun _ => none⟩
theorem pow10_tab : ∀ w : World, TabOk (fun _ => none) w → TabIs Tryz.prog w "internal/strconv.uint64pow10" .u64 pow10Tab := by
  intro w ht
  obtain ⟨⟨e, fr, h⟩, _⟩ := ht 0 _ (List.mem_singleton.2 rfl)
  unfold TabIs World.var?
  rw [show Tryz.prog.globalNamed "internal/strconv.uint64pow10" = some 0 by kernel_rfl]
  show (match w.heap[0]? with
    | some (.cells cs _ _) => some cs
    | _ => none) = _
  rw [h]
  show some _ = some _
  rfl
theorem facts0 : Facts C0 where
  startD := fun _ => rfl
  start := startT_get
  told := fun _ _ h => nomatch h
  mixed := mixed
  named := facts.named
  ext := facts.ext
  known := fun f args v h hk hf1 hf2 Δ W args' hW ha => by
    have hk' : K0 f args h = some v := hk
    unfold K0 at hk'
    split at hk'
    · rename_i n
      rw [bB_eq] at hk'
      obtain ⟨hr, hv⟩ := hk'
      cases hv
      simp only [Bool.and_eq_true, decide_eq_true_eq] at hr
      obtain ⟨l⟩ := args'
      cases ha with
      | cons _ x _ xs hx hs =>
        cases hs with
        | cons _ y _ ys hy hs2 =>
          cases hs2
          cases hx
          cases hy
          have hc := Tryz.internal_strconv_FormatInt_10 n hr.1 hr.2 W (pow10_tab W hW.tab.none)
          unfold P0
          refine Calls.mono hc fun e W' ⟨he, k, os, hw⟩ => ⟨_, he, ?_, ?_⟩
          · have : itoa n = (⟨(itoa n).toArray⟩ : ByteArray).data.toList := rfl
            rw [this]
            exact .str _
          · subst hw
            exact ⟨rfl, rfl, rfl, size_grow W k os, fun b hb => heap_grow_old W k os b hb⟩
    · cases hk'
def tab346 : List (Nat × V) := [(1, .str [80, 97, 114, 97, 109]), (2, .str [67, 111, 110, 115, 116]), (3, .str [65, 100, 100]), (12, .str [76, 116]), (21, .str [80, 104, 105]), (22, .str [71, 117, 97, 114, 100]), (23, .str [80, 111, 108, 108])]
theorem b346 : ∃ fn c, P0.funcs[346]? = some fn ∧ fn.body = some c := by
  unfold P0
  exact ⟨Tryz.f346, _, Tryz.func346, rfl⟩
set_option maxRecDepth 1000000 in
theorem ok346 : namesOk C0 100000 60 6 346 tab346 = true := by kernel_rfl
def tab304 : List (Nat × V) := [(1, .str [78, 117, 109]), (5, .str [76, 111, 97, 100]), (6, .str [83, 116, 111, 114, 101]), (8, .str [65, 100, 100]), (17, .str [76, 116]), (26, .str [74, 117, 109, 112]), (27, .str [74, 117, 109, 112, 78, 111]), (39, .str [80, 114, 105, 110, 116]), (41, .str [82, 101, 116])]
theorem b304 : ∃ fn c, P0.funcs[304]? = some fn ∧ fn.body = some c := by
  unfold P0
  exact ⟨Tryz.f304, _, Tryz.func304, rfl⟩
set_option maxRecDepth 1000000 in
theorem ok304 : namesOk C0 100000 60 6 304 tab304 = true := by kernel_rfl
def tab251 : List (Nat × V) := [(1, .str [83, 101, 116]), (5, .str [65, 100, 100]), (14, .str [76, 116]), (23, .str [74, 117, 109, 112]), (24, .str [74, 122]), (25, .str [71, 117, 97, 114, 100]), (26, .str [80, 111, 108, 108]), (27, .str [76, 101, 97, 118, 101])]
theorem b251 : ∃ fn c, P0.funcs[251]? = some fn ∧ fn.body = some c := by
  unfold P0
  exact ⟨Tryz.f251, _, Tryz.func251, rfl⟩
set_option maxRecDepth 1000000 in
theorem ok251 : namesOk C0 100000 60 6 251 tab251 = true := by kernel_rfl
def LC2 : List KE := [.names 346 tab346, .names 304 tab304, .names 251 tab251]
theorem okC2 : ∀ e ∈ LC2, KOk C0 e := by
  intro e he
  simp only [LC2, List.mem_cons, List.mem_nil_iff, or_false] at he
  rcases he with rfl | rfl | rfl
  · exact .names (n := 6) (Nat.le_of_ble_eq_true globs) b346 ok346
  · exact .names (n := 6) (Nat.le_of_ble_eq_true globs) b304 ok304
  · exact .names (n := 6) (Nat.le_of_ble_eq_true globs) b251 ok251
noncomputable def C2 : Cfg := Cfg.more C0 LC2
theorem facts2 : Facts C2 := Facts.more facts0 okC2
theorem b368 : ∃ fn c, P0.funcs[368]? = some fn ∧ fn.body = some c := by
  unfold P0
  exact ⟨Tryz.f368, _, Tryz.func368, rfl⟩
set_option maxRecDepth 1000000 in
theorem one0 : isV (.bool true) (callN C2 100000 60 368 [.agg [.int .i64 23, .int .i64 0, .int .i64 0, .int .i64 0, .int .i64 1], .int .i64 10] { next := 6, tr := .leaf }) = true := by kernel_rfl
set_option maxRecDepth 1000000 in
theorem one1 : isV (.bool true) (callN C2 100000 60 368 [.agg [.int .i64 23, .int .i64 0, .int .i64 0, .int .i64 0, .int .i64 2], .int .i64 10] { next := 6, tr := .leaf }) = true := by kernel_rfl
set_option maxRecDepth 1000000 in
theorem one2 : isV (.bool true) (callN C2 100000 60 368 [.agg [.int .i64 26, .int .i64 0, .int .i64 0, .int .i64 0, .int .i64 0], .int .i64 10] { next := 6, tr := .leaf }) = true := by kernel_rfl
set_option maxRecDepth 1000000 in
theorem one3 : isV (.bool true) (callN C2 100000 60 368 [.agg [.int .i64 1, .int .i64 1, .int .i64 0, .int .i64 0, .int .i64 1000], .int .i64 10] { next := 6, tr := .leaf }) = true := by kernel_rfl
set_option maxRecDepth 1000000 in
theorem one4 : isV (.bool true) (callN C2 100000 60 368 [.agg [.int .i64 14, .int .i64 1, .int .i64 0, .int .i64 1, .int .i64 0], .int .i64 10] { next := 6, tr := .leaf }) = true := by kernel_rfl
set_option maxRecDepth 1000000 in
theorem one5 : isV (.bool true) (callN C2 100000 60 368 [.agg [.int .i64 25, .int .i64 1, .int .i64 0, .int .i64 0, .int .i64 1], .int .i64 10] { next := 6, tr := .leaf }) = true := by kernel_rfl
set_option maxRecDepth 1000000 in
theorem one6 : isV (.bool true) (callN C2 100000 60 368 [.agg [.int .i64 23, .int .i64 0, .int .i64 0, .int .i64 0, .int .i64 7], .int .i64 10] { next := 6, tr := .leaf }) = true := by kernel_rfl
set_option maxRecDepth 1000000 in
theorem one7 : isV (.bool true) (callN C2 100000 60 368 [.agg [.int .i64 1, .int .i64 1, .int .i64 0, .int .i64 0, .int .i64 1], .int .i64 10] { next := 6, tr := .leaf }) = true := by kernel_rfl
set_option maxRecDepth 1000000 in
theorem one8 : isV (.bool true) (callN C2 100000 60 368 [.agg [.int .i64 5, .int .i64 0, .int .i64 0, .int .i64 1, .int .i64 0], .int .i64 10] { next := 6, tr := .leaf }) = true := by kernel_rfl
set_option maxRecDepth 1000000 in
theorem one9 : isV (.bool true) (callN C2 100000 60 368 [.agg [.int .i64 1, .int .i64 1, .int .i64 0, .int .i64 0, .int .i64 9], .int .i64 10] { next := 6, tr := .leaf }) = true := by kernel_rfl
set_option maxRecDepth 1000000 in
theorem one10 : isV (.bool true) (callN C2 100000 60 368 [.agg [.int .i64 24, .int .i64 1, .int .i64 0, .int .i64 0, .int .i64 9], .int .i64 10] { next := 6, tr := .leaf }) = true := by kernel_rfl
set_option maxRecDepth 1000000 in
theorem one11 : isV (.bool true) (callN C2 100000 60 368 [.agg [.int .i64 23, .int .i64 0, .int .i64 0, .int .i64 0, .int .i64 6], .int .i64 10] { next := 6, tr := .leaf }) = true := by kernel_rfl
set_option maxRecDepth 1000000 in
theorem one12 : isV (.bool true) (callN C2 100000 60 368 [.agg [.int .i64 27, .int .i64 0, .int .i64 0, .int .i64 0, .int .i64 1], .int .i64 10] { next := 6, tr := .leaf }) = true := by kernel_rfl
def LC3 : List KE := [.one 368 [.agg [.int .i64 23, .int .i64 0, .int .i64 0, .int .i64 0, .int .i64 1], .int .i64 10] (.bool true), .one 368 [.agg [.int .i64 23, .int .i64 0, .int .i64 0, .int .i64 0, .int .i64 2], .int .i64 10] (.bool true), .one 368 [.agg [.int .i64 26, .int .i64 0, .int .i64 0, .int .i64 0, .int .i64 0], .int .i64 10] (.bool true), .one 368 [.agg [.int .i64 1, .int .i64 1, .int .i64 0, .int .i64 0, .int .i64 1000], .int .i64 10] (.bool true), .one 368 [.agg [.int .i64 14, .int .i64 1, .int .i64 0, .int .i64 1, .int .i64 0], .int .i64 10] (.bool true), .one 368 [.agg [.int .i64 25, .int .i64 1, .int .i64 0, .int .i64 0, .int .i64 1], .int .i64 10] (.bool true), .one 368 [.agg [.int .i64 23, .int .i64 0, .int .i64 0, .int .i64 0, .int .i64 7], .int .i64 10] (.bool true), .one 368 [.agg [.int .i64 1, .int .i64 1, .int .i64 0, .int .i64 0, .int .i64 1], .int .i64 10] (.bool true), .one 368 [.agg [.int .i64 5, .int .i64 0, .int .i64 0, .int .i64 1, .int .i64 0], .int .i64 10] (.bool true), .one 368 [.agg [.int .i64 1, .int .i64 1, .int .i64 0, .int .i64 0, .int .i64 9], .int .i64 10] (.bool true), .one 368 [.agg [.int .i64 24, .int .i64 1, .int .i64 0, .int .i64 0, .int .i64 9], .int .i64 10] (.bool true), .one 368 [.agg [.int .i64 23, .int .i64 0, .int .i64 0, .int .i64 0, .int .i64 6], .int .i64 10] (.bool true), .one 368 [.agg [.int .i64 27, .int .i64 0, .int .i64 0, .int .i64 0, .int .i64 1], .int .i64 10] (.bool true)]
theorem okC3 : ∀ e ∈ LC3, KOk C2 e := by
  intro e he
  simp only [LC3, List.mem_cons, List.mem_nil_iff, or_false] at he
  rcases he with rfl | rfl | rfl | rfl | rfl | rfl | rfl | rfl | rfl | rfl | rfl | rfl | rfl
  · exact .one (n := 6) (Nat.le_of_ble_eq_true globs) b368 one0
  · exact .one (n := 6) (Nat.le_of_ble_eq_true globs) b368 one1
  · exact .one (n := 6) (Nat.le_of_ble_eq_true globs) b368 one2
  · exact .one (n := 6) (Nat.le_of_ble_eq_true globs) b368 one3
  · exact .one (n := 6) (Nat.le_of_ble_eq_true globs) b368 one4
  · exact .one (n := 6) (Nat.le_of_ble_eq_true globs) b368 one5
  · exact .one (n := 6) (Nat.le_of_ble_eq_true globs) b368 one6
  · exact .one (n := 6) (Nat.le_of_ble_eq_true globs) b368 one7
  · exact .one (n := 6) (Nat.le_of_ble_eq_true globs) b368 one8
  · exact .one (n := 6) (Nat.le_of_ble_eq_true globs) b368 one9
  · exact .one (n := 6) (Nat.le_of_ble_eq_true globs) b368 one10
  · exact .one (n := 6) (Nat.le_of_ble_eq_true globs) b368 one11
  · exact .one (n := 6) (Nat.le_of_ble_eq_true globs) b368 one12
noncomputable def C3 : Cfg := Cfg.more C2 LC3
theorem facts3 : Facts C3 := Facts.more facts2 okC3
noncomputable def CK : Cfg := C3
theorem factsK : Facts CK := facts3
end Go.Proofs.YtgfdhkhcojjkjaaGreatDoor.Hx
