/- Proved: Chapter 29's examples come out as told. It is run on a plain machine, whose every answer the model gives too. Condition: what its row lists. -/
import Derived.Test.YtgfdhkhcojjkjaaGreatDoorHxStTop
import Derived.Test.YtgfdhkhcojjkjaaGreatDoorCards
import Derived.Test.YtgfdhkhcojjkjaaGreatDoorHxTi
import Derived.WalkKit
import Derived.ProofKit
import Derived.OpenShut
import Derived.Deep.DeepHandedRow
import Derived.Lib.LaidTab
import Derived.Test.YtgfdhkhcojjkjaaGreatDoorHxJf
import Derived.Test.YtgfdhkhcojjkjaaGreatDoorHxJh
namespace Go.Proofs.YtgfdhkhcojjkjaaGreatDoor.mixedKnown
open Go.ChangeShapes Go.WideShapes Go.ChangeAt Go.RowKit

theorem own : ownKnob Tryz.prog.godebug = none := by kernel_rfl
theorem tabRow {H : Type} : (Rows.laid_internal_strconv_uint64pow10 : DataW H) = Lib.tabData .u64 Lib.pow10Tab := rfl
theorem cellsE : Tryz.prog.cellsOf 97 = 1 := by kernel_rfl
theorem cellsT : Tryz.prog.cellsOf 662 = 20 := by kernel_rfl
theorem gTab : Tryz.prog.globalNamed "internal/strconv.uint64pow10" = some 0 := by kernel_rfl
theorem gTabType : (Tryz.prog.globals[0]?).map (·.type) = some 662 := by kernel_rfl
abbrev laid : List (String × DataW Unit) := [("unicode/utf8.first", Rows.laid_unicode_utf8_first), ("unicode/utf8.acceptRanges", Rows.laid_unicode_utf8_acceptRanges), ("internal/strconv.uint64pow10", Rows.laid_internal_strconv_uint64pow10), ("math/bits.deBruijn32tab", Rows.laid_math_bits_deBruijn32tab), ("math/bits.deBruijn64tab", Rows.laid_math_bits_deBruijn64tab)]
theorem table {W : World} (h : laidMetH Tryz.prog laid W) : Hx.TabOk (fun _ => none) W := by
  have h' : laidMet Tryz.prog laid W := h
  obtain ⟨ps, hl, _⟩ := h'
  obtain ⟨_, _, _, _, _, _, _, _, _, _, ⟨_, _, _, _, _, _, _, _, _, _, ⟨g, t, cs, fuel, p, q, hg, ht, hvar, hd, _⟩, _⟩, _⟩ := hl
  obtain rfl : g = 0 := by
    have := hg.symm.trans gTab
    exact Option.some.inj this
  obtain rfl : t = 662 := Option.some.inj (ht.symm.trans gTabType)
  rw [tabRow] at hd
  have hcs := Lib.cells_of_tab Tryz.underlying662 Tryz.underlying97 cellsE cellsT hd
  have hv : (match (W.heap[0]? : Option Obj) with
      | some (Obj.cells cs _ _) => some cs
      | _ => (none : Option (Array Value))) = some cs := by
    have h1 : W.var? Tryz.prog "internal/strconv.uint64pow10" = some cs := hvar
    unfold World.var? at h1
    rw [gTab] at h1
    exact h1
  intro g' c hm
  obtain ⟨rfl, rfl⟩ := Prod.mk.inj (List.mem_singleton.1 hm)
  refine ⟨?_, fun _ _ e => nomatch e⟩
  split at hv
  · rename_i c e fr he
    cases hv
    refine ⟨e, fr, ?_⟩
    rw [he]
    congr 2
    apply Array.ext'
    rw [hcs]
    unfold Lib.pow10Tab
    rw [List.map_map]
    rfl
  · cases hv
theorem body : ∃ fn c, Hx.P0.funcs[3]? = some fn ∧ fn.body = some c := by
  unfold Hx.P0
  exact ⟨Tryz.f3, _, Tryz.func3, rfl⟩
/-- The call: it returns true, and all that was there is as it was. -/
theorem walk (W : World) (ht : Hx.TabOk (fun _ => none) W) : Calls Tryz.prog 3 #[] W fun e W' => e = .returned (.bool true) ∧ Hx.Kept W W' := by
  obtain ⟨m, d, ran⟩ := Hx.top_ran
  have h := Hx.known Hx.factsR (n := 6) (Nat.le_of_ble_eq_true Hx.globs) body ran W ht
  unfold Hx.P0 at h
  exact h

set_option maxRecDepth 100000 in
theorem contract (H : Type) (enc : TypeId × Value → H) (W : World) (args : Array Value) (ds gs : List (DataW H)) (before : List MemPlace)
    (hW : DataW.Whole enc Tryz.prog Tryz.f3.params.toList Rows.mixedKnownSpec.vars false W args.toList ds gs before) (hL : laidMetH Tryz.prog laid W) :
    Calls Tryz.prog 3 args W fun e W' => ∃ v, e = .returned v ∧ Rows.mixedKnownSpec.post enc Tryz.prog Tryz.f3 false true false false W args v W' := by
  have hW' := hW
  obtain ⟨p, q, hA0, hV, rfl, hfz, hnd⟩ := hW
  have hA : DataW.TrodAll enc Tryz.prog W 0 (fun _ => true) true Tryz.f3.params.toList args.toList ds p := hA0
  rw [Tryz.params3] at hA
  obtain ⟨hargs, rfl, rfl⟩ := trodAll_nil hA
  obtain rfl : args = #[] := by cases args; simp_all
  obtain ⟨rfl, rfl⟩ := trodVars_none hV
  clear hA0
  simp only [List.append_nil] at hW'
  refine (walk W (table hL)).mono fun e W' ⟨he, hk⟩ => ?_
  subst he
  refine ⟨_, rfl, ?_⟩
  refine Hx.post_kept (pa := []) (pv := []) hW' ?_ ?_ ?_ ?_ hk ?_
  · exact fun _ _ _ => trodAll_cons_mk (shut_bool Tryz.underlying4 _) trodAll_mk0
  · exact fun _ _ => trodAll_mk0
  · exact fun _ _ => rfl
  · rfl
  · have hok : Value.okWide Tryz.prog W' .any 0 4 (.bool true) := okWide_bool_mk Tryz.underlying4 true
    exact ok_one (t := 4) (by kernel_rfl) rfl hok

/-! ### the row's step -/
/-- The cells that a datum lays. -/
def flat : Nat → DataW Unit → List Value
  | 0, _ => []
  | _ + 1, .lit (.int k v) => [.int k v]
  | n + 1, .agg l => l.flatMap (flat n)
  | _ + 1, _ => []
def lay (cs : List Value) : Obj → Obj
  | .cells _ t frozen => .cells cs.toArray t frozen
  | o => o
noncomputable def laidWorld (os : Os) : World :=
  { World.holding Tryz.prog os ⟨#[], #[], []⟩ with heap := (((((World.holding Tryz.prog os ⟨#[], #[], []⟩).heap.modify 0 (lay (flat 8 Rows.laid_internal_strconv_uint64pow10))).modify 2 (lay (flat 8 Rows.laid_unicode_utf8_first))).modify 3 (lay (flat 8 Rows.laid_unicode_utf8_acceptRanges))).modify 4 (lay (flat 8 Rows.laid_math_bits_deBruijn32tab))).modify 5 (lay (flat 8 Rows.laid_math_bits_deBruijn64tab)) }
theorem laid_met (os : Os) : laidMet Tryz.prog Rows.mixedKnownRow.laid ((laidWorld os).forCall (fun _ _ => 0) ⟨#[], #[], []⟩).memory :=
  laidMet_of_run' 8 (by kernel_rfl) (by kernel_rfl)
theorem reads (os : Os) {H : Type} (enc : TypeId × Value → H) : ∃ places, DataW.whole enc Tryz.prog ((laidWorld os).forCall (fun _ _ => 0) ⟨#[], #[], []⟩).memory Tryz.f3.params.toList Rows.mixedKnownSpec.vars false (#[] : Array Value).toList 8 = some ([], [], places) :=
  ⟨[], by kernel_rfl⟩
set_option maxRecDepth 100000 in
theorem lifted (os : Os) (started : os.Started) (H : Type) (enc : TypeId × Value → H) (F : Stop.Interp) :
    ReturnsInHanded {} Tryz.checked os 3 .any ((OpenSpec.ofChange Rows.mixedKnownSpec).preRow enc Tryz.prog Tryz.f3 Rows.mixedKnownRow.domain false Rows.mixedKnownRow.laid) (((OpenSpec.ofChange Rows.mixedKnownSpec).at F).post enc Tryz.prog Tryz.f3 false true false false) := by
  obtain ⟨places, hx⟩ := reads os enc
  refine returnsInHanded_of_row (C := Tryz.checked) (s := OpenSpec.ofChange Rows.mixedKnownSpec) own started (by kernel_rfl) Tryz.func3
    (witness_row_at (enc := enc) (C := Tryz.checked) false (laidWorld os) #[] rfl (by kernel_rfl) (by kernel_rfl) (by kernel_rfl)
      (OpenSpec.preRow_of_cond 8 hx (by kernel_rfl) (fun k hk => by cases hk) (by kernel_rfl) (laid_met os))) ?_
  intro W base args ds gs before hval hW _ _ _ hL _ _
  exact contract H enc W args ds gs before hW hL
theorem said : Rows.MixedKnownSaid :=
  OpenClaim.holds_of_cond 3 Tryz.f3 rfl rfl rfl rfl rfl rfl rfl ⟨rfl, rfl, rfl, rfl, rfl⟩ rfl rfl rfl rfl rfl (by kernel_rfl) Tryz.func3 closed
    (of_decide_eq_true (by kernel_rfl)) (by unfold Func.isWrapper; first | (rw [if_pos (by decide +kernel)]; kernel_rfl) | (rw [if_neg (by decide +kernel)]; exact ⟨rfl, rfl⟩))
    (fun os started H enc _ F => by rw [OpenClaim.pre_eq_preRow]; exact lifted os started H enc F)
theorem plain (f : FuncId) (fn : Func) (hf : Tryz.pinned.checked.prog.funcNamed "turnstone/turnstonelaw29.MixedKnown" = some f) (hfn : Tryz.pinned.checked.prog.funcs[f]? = some fn) :
    true = Tryz.pinned.checked.prog.looks [] ∧ ∀ (j : Nat) t, fn.params[j]? = some t → Tryz.pinned.checked.prog.wantsStandIn t = false := by
  obtain rfl : f = 3 := Option.some.inj ((show Tryz.prog.funcNamed "turnstone/turnstonelaw29.MixedKnown" = some 3 by kernel_rfl).symm.trans hf) |>.symm
  obtain rfl : fn = Tryz.f3 := (Option.some.inj (Tryz.func3.symm.trans hfn)).symm
  refine ⟨cl, fun j t ht => ?_⟩
  rw [Tryz.params3] at ht
  simp at ht
/-- The card. -/
theorem proved : Rows.MixedKnownCardSaid :=
  Claim7.holds_tied_plain_at .later [] _ _ _ _ said (fun _ h => by cases h) cw (fun _ h => by cases h) Ties.mixedKnown_row_tie rfl ⟨rfl, rfl⟩ cm rfl plain cg
end Go.Proofs.YtgfdhkhcojjkjaaGreatDoor.mixedKnown
