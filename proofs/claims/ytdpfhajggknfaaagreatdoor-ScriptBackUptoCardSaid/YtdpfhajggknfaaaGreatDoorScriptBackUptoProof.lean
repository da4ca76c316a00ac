/- Proved: any event and any line go there and back by the program as the document says (chapter 30), where what the law reads holds together at most 1048576 values and letters. Condition: what its row lists. -/
import Derived.Test.YtdpfhajggknfaaaGreatDoorHxBackA
namespace Go.Proofs.YtdpfhajggknfaaaGreatDoor.scriptBack
open Go.ChangeShapes Go.WideShapes Go.ChangeAt Go.RowKit Go.Proofs.YtdpfhajggknfaaaGreatDoor.Laws

/-! ### the row's step -/
abbrev w0 : Value := .agg #[.int .i64 0, .int .i64 0, .int .i64 0, .int .i64 0, .int .i64 0, .int .i64 0, .int .i64 0, .int .i64 0, .slice none 0 0]
abbrev w1 : Value := .agg #[.int .i64 0, .slice none 0 0, .slice none 0 0, .int .i64 0]
theorem laid_met (os : Os) : laidMet Tryz.prog Rows.scriptBackUptoRow.laid ((laidWorld os).forCall (fun _ _ => 0) ⟨#[], #[w0, w1, .string .empty, .bool false], []⟩).memory :=
  laidMet_of_run' 8 (by kernel_rfl) (by kernel_rfl)
theorem reads (os : Os) {H : Type} (enc : TypeId × Value → H) : ∃ ds places, DataW.whole enc Tryz.prog ((laidWorld os).forCall (fun _ _ => 0) ⟨#[], #[w0, w1, .string .empty, .bool false], []⟩).memory Tryz.f7.params.toList Rows.scriptBackSpec.vars false #[w0, w1, .string .empty, .bool false].toList 8 = some (ds, [], places) ∧ Rows.uptoSmall H (ds ++ []) = true :=
  ⟨[.agg [(.lit (.int .i64 0)), (.lit (.int .i64 0)), (.lit (.int .i64 0)), (.lit (.int .i64 0)), .agg [(.lit (.int .i64 0)), (.lit (.int .i64 0)), (.lit (.int .i64 0)), (.lit (.int .i64 0)), .nil]], .agg [(.lit (.int .i64 0)), .nil, .nil, (.lit (.int .i64 0))], .lit (.string []), .lit (.bool false)], [], by kernel_rfl, by kernel_rfl⟩
set_option maxRecDepth 100000 in
theorem lifted (os : Os) (started : os.Started) (H : Type) (enc : TypeId × Value → H) (F : Stop.Interp) :
    ReturnsInHanded {} Tryz.checked os 7 .any ((Rows.OpenSpec.upto Rows.scriptBackSpec).preRow enc Tryz.prog Tryz.f7 Rows.scriptBackUptoRow.domain false Rows.scriptBackUptoRow.laid) (((Rows.OpenSpec.upto Rows.scriptBackSpec).at F).post enc Tryz.prog Tryz.f7 false true false false) := by
  obtain ⟨ds, places, hx, hu⟩ := reads os enc
  refine returnsInHanded_of_row (C := Tryz.checked) (s := Rows.OpenSpec.upto Rows.scriptBackSpec) own started (by kernel_rfl) Tryz.func7
    (witness_row_at (enc := enc) (C := Tryz.checked) false (laidWorld os) #[w0, w1, .string .empty, .bool false] rfl (by kernel_rfl) (by kernel_rfl) (by kernel_rfl)
      (OpenSpec.preRow_of_cond 8 hx (by rfl) (fun k hk => by cases hk; exact hu) (by kernel_rfl) (laid_met os))) ?_
  intro W base args ds gs before hval hW _ hcond _ hL _ _
  exact contract H enc W base args ds gs before hval hW hL (hcond _ rfl)
set_option maxRecDepth 100000 in
theorem jf0 : (Rows.scriptBackUptoRow.inPlace == Tryz.pinned.checked.prog.inPlace 7) = true := by kernel_rfl
set_option maxRecDepth 100000 in
theorem jf1 : (Rows.scriptBackUptoRow.unfollowed == Tryz.pinned.checked.prog.unfollowed 7) = true := by kernel_rfl
set_option maxRecDepth 100000 in
theorem jf2 : (Rows.scriptBackUptoRow.recurses == Tryz.pinned.checked.prog.recurses 7) = true := by kernel_rfl
set_option maxRecDepth 100000 in
theorem jf3 : (Rows.scriptBackUptoRow.named == Tryz.pinned.checked.prog.varsNamed 7) = true := by kernel_rfl
set_option maxRecDepth 100000 in
theorem closed : joinedFacts Tryz.pinned.checked.prog 7 Tryz.f7 (Rows.OpenSpec.upto Rows.scriptBackSpec).bare Rows.scriptBackUptoRow = true := by
  unfold joinedFacts
  rw [jf0, jf1, jf2, jf3]
  kernel_rfl
theorem said : Rows.ScriptBackUptoSaid :=
  OpenClaim.holds_of_cond 7 Tryz.f7 rfl rfl rfl rfl rfl rfl rfl ⟨rfl, rfl, rfl, rfl, rfl⟩ rfl rfl rfl rfl rfl (by kernel_rfl) Tryz.func7 closed
    (of_decide_eq_true (by kernel_rfl)) (by unfold Func.isWrapper; first | (rw [if_pos (by decide +kernel)]; kernel_rfl) | (rw [if_neg (by decide +kernel)]; exact ⟨rfl, rfl⟩))
    (fun os started H enc _ F => by rw [OpenClaim.pre_eq_preRow]; exact lifted os started H enc F)
theorem plain (f : FuncId) (fn : Func) (hf : Tryz.pinned.checked.prog.funcNamed "turnstone/turnstonelaw30.ScriptBack" = some f) (hfn : Tryz.pinned.checked.prog.funcs[f]? = some fn) :
    true = Tryz.pinned.checked.prog.looks [] ∧ ∀ (j : Nat) t, fn.params[j]? = some t → Tryz.pinned.checked.prog.wantsStandIn t = false := by
  obtain rfl : f = 7 := Option.some.inj ((show Tryz.prog.funcNamed "turnstone/turnstonelaw30.ScriptBack" = some 7 by kernel_rfl).symm.trans hf) |>.symm
  obtain rfl : fn = Tryz.f7 := (Option.some.inj (Tryz.func7.symm.trans hfn)).symm
  refine ⟨by kernel_rfl, fun j t ht => ?_⟩
  rw [Tryz.params7] at ht
  have hm : t = 26 ∨ t = 36 ∨ t = 9 ∨ t = 4 := by simpa using Array.mem_of_getElem? ht
  rcases hm with rfl | rfl | rfl | rfl
  · exact (show Tryz.prog.wantsStandIn 26 = false by kernel_rfl)
  · exact (show Tryz.prog.wantsStandIn 36 = false by kernel_rfl)
  · exact (show Tryz.prog.wantsStandIn 9 = false by kernel_rfl)
  · exact (show Tryz.prog.wantsStandIn 4 = false by kernel_rfl)
/-- The card. -/
theorem proved : Rows.ScriptBackUptoCardSaid :=
  Claim7.holds_tied_plain_at .later [] _ _ _ _ said (fun _ h => by cases h) (by kernel_rfl) (fun _ h => by cases h) scriptBackUpto_row_tie rfl ⟨rfl, rfl⟩ (by kernel_rfl) rfl plain (by kernel_rfl)
end Go.Proofs.YtdpfhajggknfaaaGreatDoor.scriptBack
