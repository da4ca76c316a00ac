/- Proved: zV rounds of passes than ten over a tame drawn unit are as ten,and rounds below 0 are none. (chapter of the law's package). Condition: what jM row lists. -/
import Derived.Test.YtloecllhljfidaaDoorM31
namespace Go.Proofs.YtloecllhljfidaaDoor.optRounds
open Go.ChangeShapes Go.WideShapes Go.ChangeAt Go.RowKit Laws

/-! ### the row's step -/
/-- Noughts. -/
abbrev w0:Array Value:=#[.agg #[.slice none 0 0,.slice none 0 0,.int .i64 0],.int .i64 0]
theorem Xl(os:Os):laidMet Tryd.prog Rows.optRoundsRow.laid ((HV os).forCall (λ_ _=>0) ⟨#[],w0,[]⟩).memory:=
  laidMet_of_run' 8 (by kernel_rfl) (by kernel_rfl)
theorem reads(os:Os) {H:Type} (enc:TypeId×Value->H):∃ds places,DataW.whole enc Tryd.prog ((HV os).forCall (λ_ _=>0) ⟨#[],w0,[]⟩).memory Tryd.f3.params.toList Rows.optRoundsSpec.vars false w0.toList 8=some (ds,[],places):=
  ⟨[.agg [.nil,.nil,(.lit (.int .i64 0))],.lit (.int .i64 0)],[],by kernel_rfl⟩
set_option maxRecDepth 100000 in
theorem lifted (os:Os) (started:os.Started) (H:Type) (enc:TypeId×Value->H) (F:Stop.Interp) :
    ReturnsInHanded {} Tryd.checked os 3 .any ((OpenSpec.ofChange Rows.optRoundsSpec).preRow enc Tryd.prog Tryd.f3 Rows.optRoundsRow.domain false Rows.optRoundsRow.laid) (((OpenSpec.ofChange Rows.optRoundsSpec).at F).post enc Tryd.prog Tryd.f3 false true false false):=by
  obtain⟨ds,places,hx⟩:=reads os enc
  refine returnsInHanded_of_row (C:=Tryd.checked) (s:=OpenSpec.ofChange Rows.optRoundsSpec) own started (by kernel_rfl) Tryd.func3
    (witness_row_at (enc:=enc) (C:=Tryd.checked) false (HV os) w0 rfl (by kernel_rfl) (by kernel_rfl) (by kernel_rfl)
      (OpenSpec.preRow_of_cond 8 hx rfl (λk hk=>by cases hk) (by kernel_rfl) (Xl os))) ?_
  intro W base args ds gs before zdi hW _ _ _ _ _ _
  exact XA H enc W base args ds gs before zdi hW
set_option maxRecDepth 100000 in
theorem jf0:(Rows.optRoundsRow.inPlace == Tryd.pinned.checked.prog.inPlace 3)=true:=by kernel_rfl
set_option maxRecDepth 100000 in
theorem jf1:(Rows.optRoundsRow.unfollowed == Tryd.pinned.checked.prog.unfollowed 3)=true:=by kernel_rfl
set_option maxRecDepth 100000 in
theorem jf2:(Rows.optRoundsRow.recurses == Tryd.pinned.checked.prog.recurses 3)=true:=by kernel_rfl
set_option maxRecDepth 100000 in
theorem jf3:(Rows.optRoundsRow.named == Tryd.pinned.checked.prog.varsNamed 3)=true:=by kernel_rfl
set_option maxRecDepth 100000 in
theorem closed:joinedFacts Tryd.pinned.checked.prog 3 Tryd.f3 (OpenSpec.ofChange Rows.optRoundsSpec).bare Rows.optRoundsRow=true:=by
  unfold joinedFacts
  rw[jf0,jf1,jf2,jf3]
  kernel_rfl
theorem said:Rows.OptRoundsSaid:=
  OpenClaim.holds_of_cond 3 Tryd.f3 rfl rfl rfl rfl rfl rfl rfl ⟨rfl,rfl,rfl,rfl,rfl⟩ rfl rfl rfl rfl rfl (by kernel_rfl) Tryd.func3 closed
    (of_decide_eq_true (by kernel_rfl)) (by unfold Func.isWrapper;first|(rw[if_pos (by decide +kernel)];kernel_rfl)|(rw[if_neg (by decide +kernel)];exact⟨rfl,rfl⟩))
    (λos started H enc _ F=>by rw[OpenClaim.pre_eq_preRow];exact lifted os started H enc F)
theorem plain(f:FuncId) (fn:Func) (hf:Tryd.pinned.checked.prog.funcNamed "turnstone/turnstonelaw22.OptRounds" = some f) (hfn:Tryd.pinned.checked.prog.funcs[f]? =some fn) :
    false=Tryd.pinned.checked.prog.looks []/\∀(j:Nat) t,fn.params[j]? =some t->Tryd.pinned.checked.prog.wantsStandIn t=false:=by
  obtain rfl:f=3:=Option.some.inj ((show Tryd.prog.funcNamed "turnstone/turnstonelaw22.OptRounds" = some 3 by kernel_rfl).symm.trans hf)|>.symm
  obtain rfl:fn=Tryd.f3:=(Option.some.inj (Tryd.func3.symm.trans hfn)).symm
  refine⟨by kernel_rfl,λj t ht=>?_⟩
  have hm:=Array.mem_of_getElem? ht
  rw[Tryd.params3]at hm
  have hm:t=24\/t=3:=by simpa using hm
  rcases hm with rfl|rfl
  ·exact(show Tryd.prog.wantsStandIn 24=false by kernel_rfl)
  ·exact(show Tryd.prog.wantsStandIn 3=false by kernel_rfl)
/-- The card. -/
theorem proved:Rows.OptRoundsCardSaid:=
  Claim7.holds_tied_plain_at .later [] _ _ _ _ said (λ_ h=>by cases h) (by kernel_rfl) (λ_ h=>by cases h) optRounds_row_tie rfl ⟨rfl,rfl⟩ (by kernel_rfl) rfl plain (by kernel_rfl)
end Go.Proofs.YtloecllhljfidaaDoor.optRounds
