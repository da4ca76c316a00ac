/- Proved: A text of as many lines as may be is played, one more is refused (chapter 30). Condition: what its row lists. -/
import Derived.Test.YtlbdcjnhlkkfeaaGreatDoorHxScriptLongA
import Derived.Test.YtlbdcjnhlkkfeaaGreatDoorHxJf
import Derived.Test.YtlbdcjnhlkkfeaaGreatDoorHxJh
namespace Go.Proofs.YtlbdcjnhlkkfeaaGreatDoor.scriptLong
open Go.ChangeShapes Go.WideShapes Go.ChangeAt Go.RowKit Go.Proofs.YtlbdcjnhlkkfeaaGreatDoor.Laws

/-! ### the row's step -/
/-- Noughts. -/
abbrev w0 : Array Value := #[.int .i64 0]
theorem laid_met (os : Os) : laidMet Tryz.prog Rows.scriptLongRow.laid ((laidWorld os).forCall (fun _ _ => 0) ⟨#[], w0, []⟩).memory :=
  laidMet_of_run' 8 (by kernel_rfl) (by kernel_rfl)
theorem reads (os : Os) {H : Type} (enc : TypeId × Value → H) : ∃ ds places, DataW.whole enc Tryz.prog ((laidWorld os).forCall (fun _ _ => 0) ⟨#[], w0, []⟩).memory Tryz.f3.params.toList Rows.scriptLongSpec.vars false w0.toList 8 = some (ds, [], places) :=
  ⟨[.lit (.int .i64 0)], [], by kernel_rfl⟩
set_option maxRecDepth 100000 in
theorem lifted (os : Os) (started : os.Started) (H : Type) (enc : TypeId × Value → H) (F : Stop.Interp) :
    ReturnsInHanded {} Tryz.checked os 3 .any ((OpenSpec.ofChange Rows.scriptLongSpec).preRow enc Tryz.prog Tryz.f3 Rows.scriptLongRow.domain false Rows.scriptLongRow.laid) (((OpenSpec.ofChange Rows.scriptLongSpec).at F).post enc Tryz.prog Tryz.f3 false true false false) := by
  obtain ⟨ds, places, hx⟩ := reads os enc
  refine returnsInHanded_of_row (C := Tryz.checked) (s := OpenSpec.ofChange Rows.scriptLongSpec) own started (by kernel_rfl) Tryz.func3
    (witness_row_at (enc := enc) (C := Tryz.checked) false (laidWorld os) w0 rfl (by kernel_rfl) (by kernel_rfl) (by kernel_rfl)
      (OpenSpec.preRow_of_cond 8 hx rfl (fun k hk => by cases hk) (by kernel_rfl) (laid_met os))) ?_
  intro W base args ds gs before hval hW _ _ _ _ _ _
  exact contract H enc W base args ds gs before hval hW
theorem said : Rows.ScriptLongSaid :=
  OpenClaim.holds_of_cond 3 Tryz.f3 rfl rfl rfl rfl rfl rfl rfl ⟨rfl, rfl, rfl, rfl, rfl⟩ rfl rfl rfl rfl rfl (by kernel_rfl) Tryz.func3 closed
    (of_decide_eq_true (by kernel_rfl)) (by unfold Func.isWrapper; first | (rw [if_pos (by decide +kernel)]; kernel_rfl) | (rw [if_neg (by decide +kernel)]; exact ⟨rfl, rfl⟩))
    (fun os started H enc _ F => by rw [OpenClaim.pre_eq_preRow]; exact lifted os started H enc F)
theorem plain (f : FuncId) (fn : Func) (hf : Tryz.pinned.checked.prog.funcNamed "turnstone/turnstonelaw30.ScriptLong" = some f) (hfn : Tryz.pinned.checked.prog.funcs[f]? = some fn) :
    true = Tryz.pinned.checked.prog.looks [] ∧ ∀ (j : Nat) t, fn.params[j]? = some t → Tryz.pinned.checked.prog.wantsStandIn t = false := by
  obtain rfl : f = 3 := Option.some.inj ((show Tryz.prog.funcNamed "turnstone/turnstonelaw30.ScriptLong" = some 3 by kernel_rfl).symm.trans hf) |>.symm
  obtain rfl : fn = Tryz.f3 := (Option.some.inj (Tryz.func3.symm.trans hfn)).symm
  refine ⟨cl, fun j t ht => ?_⟩
  have hm := Array.mem_of_getElem? ht
  rw [Tryz.params3] at hm
  obtain rfl : t = 3 := by simpa using hm
  exact (show Tryz.prog.wantsStandIn 3 = false by kernel_rfl)
/-- The card. -/
theorem proved : Rows.ScriptLongCardSaid :=
  Claim7.holds_tied_plain_at .later [] _ _ _ _ said (fun _ h => by cases h) cw (fun _ h => by cases h) Ties.scriptLong_row_tie rfl ⟨rfl, rfl⟩ cm rfl plain cg
end Go.Proofs.YtlbdcjnhlkkfeaaGreatDoor.scriptLong
