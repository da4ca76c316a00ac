/- Proved: The code of a drawn unit leaves where the unit is left,with the same gB and heap. (chapter of the law's package). Condition: what kr row lists. -/
import Derived.Test.YtcoaokdoecgcbaaGreatDoorM31
namespace Go.Proofs.YtcoaokdoecgcbaaGreatDoor.emitDoes
open Go.ChangeShapes Go.WideShapes Go.ChangeAt Go.RowKit Laws

/-! ### the row's step -/
/-- Noughts. -/
abbrev w0:Array Value:=#[.agg #[.slice none 0 0,.slice none 0 0,.int .i64 0],.slice none 0 0,.slice none 0 0,.int .i64 0,.bool false]
theorem zbr(os:Os):laidMet Tryz.prog Rows.emitDoesRow.laid ((NZ os).forCall (λ_ _=>0) ⟨#[],w0,[]⟩).memory:=
  laidMet_of_run' 8 (by kernel_rfl) (by kernel_rfl)
theorem reads(os:Os) {H:Type} (enc:TypeId×Value->H):∃ds places,DataW.whole enc Tryz.prog ((NZ os).forCall (λ_ _=>0) ⟨#[],w0,[]⟩).memory Tryz.f4.params.toList Rows.emitDoesSpec.vars false w0.toList 8=some (ds,[],places):=
  ⟨[.agg [.nil,.nil,(.lit (.int .i64 0))],.nil,.nil,.lit (.int .i64 0),.lit (.bool false)],[],by kernel_rfl⟩
set_option maxRecDepth 100000 in
theorem lifted (os:Os) (started:os.Started) (H:Type) (enc:TypeId×Value->H) (F:Stop.Interp) :
    ReturnsInHanded {} Tryz.checked os 4 .any ((OpenSpec.ofChange Rows.emitDoesSpec).preRow enc Tryz.prog Tryz.f4 Rows.emitDoesRow.domain false Rows.emitDoesRow.laid) (((OpenSpec.ofChange Rows.emitDoesSpec).at F).post enc Tryz.prog Tryz.f4 false true false false):=by
  obtain⟨ds,places,hx⟩:=reads os enc
  refine returnsInHanded_of_row (C:=Tryz.checked) (s:=OpenSpec.ofChange Rows.emitDoesSpec) own started (by kernel_rfl) Tryz.func4
    (witness_row_at (enc:=enc) (C:=Tryz.checked) false (NZ os) w0 rfl (by kernel_rfl) (by kernel_rfl) (by kernel_rfl)
      (OpenSpec.preRow_of_cond 8 hx rfl (λk hk=>by cases hk) (by kernel_rfl) (zbr os))) ?_
  intro W base args ds gs before zf3 hW _ _ _ _ _ _
  exact zcA H enc W base args ds gs before zf3 hW
set_option maxRecDepth 100000 in
theorem jf0:(Rows.emitDoesRow.inPlace == Tryz.pinned.checked.prog.inPlace 4)=true:=by kernel_rfl
set_option maxRecDepth 100000 in
theorem jf1:(Rows.emitDoesRow.unfollowed == Tryz.pinned.checked.prog.unfollowed 4)=true:=by kernel_rfl
set_option maxRecDepth 100000 in
theorem jf2:(Rows.emitDoesRow.recurses == Tryz.pinned.checked.prog.recurses 4)=true:=by kernel_rfl
set_option maxRecDepth 100000 in
theorem jf3:(Rows.emitDoesRow.named == Tryz.pinned.checked.prog.varsNamed 4)=true:=by kernel_rfl
set_option maxRecDepth 100000 in
theorem closed:joinedFacts Tryz.pinned.checked.prog 4 Tryz.f4 (OpenSpec.ofChange Rows.emitDoesSpec).bare Rows.emitDoesRow=true:=by
  unfold joinedFacts
  rw[jf0,jf1,jf2,jf3]
  kernel_rfl
theorem said:Rows.EmitDoesSaid:=
  OpenClaim.holds_of_cond 4 Tryz.f4 rfl rfl rfl rfl rfl rfl rfl ⟨rfl,rfl,rfl,rfl,rfl⟩ rfl rfl rfl rfl rfl (by kernel_rfl) Tryz.func4 closed
    (of_decide_eq_true (by kernel_rfl)) (by unfold Func.isWrapper;first|(rw[if_pos (by decide +kernel)];kernel_rfl)|(rw[if_neg (by decide +kernel)];exact⟨rfl,rfl⟩))
    (λos started H enc _ F=>by rw[OpenClaim.pre_eq_preRow];exact lifted os started H enc F)
theorem plain(f:FuncId) (fn:Func) (hf:Tryz.pinned.checked.prog.funcNamed "turnstone/turnstonelaw26.EmitDoes" = some f) (hfn:Tryz.pinned.checked.prog.funcs[f]? =some fn) :
    true=Tryz.pinned.checked.prog.looks []/\∀(j:Nat) t,fn.params[j]? =some t->Tryz.pinned.checked.prog.wantsStandIn t=false:=by
  obtain rfl:f=4:=Option.some.inj ((show Tryz.prog.funcNamed "turnstone/turnstonelaw26.EmitDoes" = some 4 by kernel_rfl).symm.trans hf)|>.symm
  obtain rfl:fn=Tryz.f4:=(Option.some.inj (Tryz.func4.symm.trans hfn)).symm
  refine⟨by kernel_rfl,λj t ht=>?_⟩
  have hm:=Array.mem_of_getElem? ht
  rw[Tryz.params4]at hm
  have hm:t=24\/t=54\/t=54\/t=3\/t=4:=by simpa using hm
  rcases hm with rfl|rfl|rfl|rfl|rfl
  ·exact(show Tryz.prog.wantsStandIn 24=false by kernel_rfl)
  ·exact(show Tryz.prog.wantsStandIn 54=false by kernel_rfl)
  ·exact(show Tryz.prog.wantsStandIn 54=false by kernel_rfl)
  ·exact(show Tryz.prog.wantsStandIn 3=false by kernel_rfl)
  ·exact(show Tryz.prog.wantsStandIn 4=false by kernel_rfl)
/-- The card. -/
theorem proved:Rows.EmitDoesCardSaid:=
  Claim7.holds_tied_plain_at .later [] _ _ _ _ said (λ_ h=>by cases h) (by kernel_rfl) (λ_ h=>by cases h) emitDoes_row_tie rfl ⟨rfl,rfl⟩ (by kernel_rfl) rfl plain (by kernel_rfl)
end Go.Proofs.YtcoaokdoecgcbaaGreatDoor.emitDoes
