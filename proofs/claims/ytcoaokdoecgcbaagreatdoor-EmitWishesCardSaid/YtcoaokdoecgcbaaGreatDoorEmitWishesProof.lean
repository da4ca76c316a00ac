/- Proved: The code of a drawn unit passes as many Polls as are wished at zcR,and leaves the later,the greater the fk. (chapter of the law's package). Condition: what kM row lists. -/
import Derived.Test.YtcoaokdoecgcbaaGreatDoorM31
namespace Go.Proofs.YtcoaokdoecgcbaaGreatDoor.emitWishes
open Go.ChangeShapes Go.WideShapes Go.ChangeAt Go.RowKit Laws

/-! ### the row's step -/
/-- Noughts. -/
abbrev w0:Array Value:=#[.agg #[.slice none 0 0,.slice none 0 0,.int .i64 0],.slice none 0 0,.slice none 0 0,.int .i64 0,.bool false]
theorem zaE(os:Os):laidMet Tryz.prog Rows.emitWishesRow.laid ((MB os).forCall (λ_ _=>0) ⟨#[],w0,[]⟩).memory:=
  laidMet_of_run' 8 (by kernel_rfl) (by kernel_rfl)
theorem reads(os:Os) {H:Type} (enc:TypeId×Value->H):∃ds places,DataW.whole enc Tryz.prog ((MB os).forCall (λ_ _=>0) ⟨#[],w0,[]⟩).memory Tryz.f5.params.toList Rows.emitWishesSpec.vars false w0.toList 8=some (ds,[],places):=
  ⟨[.agg [.nil,.nil,(.lit (.int .i64 0))],.nil,.nil,.lit (.int .i64 0),.lit (.bool false)],[],by kernel_rfl⟩
set_option maxRecDepth 100000 in
theorem lifted (os:Os) (started:os.Started) (H:Type) (enc:TypeId×Value->H) (F:Stop.Interp) :
    ReturnsInHanded {} Tryz.checked os 5 .any ((OpenSpec.ofChange Rows.emitWishesSpec).preRow enc Tryz.prog Tryz.f5 Rows.emitWishesRow.domain false Rows.emitWishesRow.laid) (((OpenSpec.ofChange Rows.emitWishesSpec).at F).post enc Tryz.prog Tryz.f5 false true false false):=by
  obtain⟨ds,places,hx⟩:=reads os enc
  refine returnsInHanded_of_row (C:=Tryz.checked) (s:=OpenSpec.ofChange Rows.emitWishesSpec) own started (by kernel_rfl) Tryz.func5
    (witness_row_at (enc:=enc) (C:=Tryz.checked) false (MB os) w0 rfl (by kernel_rfl) (by kernel_rfl) (by kernel_rfl)
      (OpenSpec.preRow_of_cond 8 hx rfl (λk hk=>by cases hk) (by kernel_rfl) (zaE os))) ?_
  intro W base args ds gs before zej hW _ _ _ _ _ _
  exact za3 H enc W base args ds gs before zej hW
set_option maxRecDepth 100000 in
theorem jf0:(Rows.emitWishesRow.inPlace == Tryz.pinned.checked.prog.inPlace 5)=true:=by kernel_rfl
set_option maxRecDepth 100000 in
theorem jf1:(Rows.emitWishesRow.unfollowed == Tryz.pinned.checked.prog.unfollowed 5)=true:=by kernel_rfl
set_option maxRecDepth 100000 in
theorem jf2:(Rows.emitWishesRow.recurses == Tryz.pinned.checked.prog.recurses 5)=true:=by kernel_rfl
set_option maxRecDepth 100000 in
theorem jf3:(Rows.emitWishesRow.named == Tryz.pinned.checked.prog.varsNamed 5)=true:=by kernel_rfl
set_option maxRecDepth 100000 in
theorem closed:joinedFacts Tryz.pinned.checked.prog 5 Tryz.f5 (OpenSpec.ofChange Rows.emitWishesSpec).bare Rows.emitWishesRow=true:=by
  unfold joinedFacts
  rw[jf0,jf1,jf2,jf3]
  kernel_rfl
theorem said:Rows.EmitWishesSaid:=
  OpenClaim.holds_of_cond 5 Tryz.f5 rfl rfl rfl rfl rfl rfl rfl ⟨rfl,rfl,rfl,rfl,rfl⟩ rfl rfl rfl rfl rfl (by kernel_rfl) Tryz.func5 closed
    (of_decide_eq_true (by kernel_rfl)) (by unfold Func.isWrapper;first|(rw[if_pos (by decide +kernel)];kernel_rfl)|(rw[if_neg (by decide +kernel)];exact⟨rfl,rfl⟩))
    (λos started H enc _ F=>by rw[OpenClaim.pre_eq_preRow];exact lifted os started H enc F)
theorem plain(f:FuncId) (fn:Func) (hf:Tryz.pinned.checked.prog.funcNamed "turnstone/turnstonelaw26.EmitWishes" = some f) (hfn:Tryz.pinned.checked.prog.funcs[f]? =some fn) :
    true=Tryz.pinned.checked.prog.looks []/\∀(j:Nat) t,fn.params[j]? =some t->Tryz.pinned.checked.prog.wantsStandIn t=false:=by
  obtain rfl:f=5:=Option.some.inj ((show Tryz.prog.funcNamed "turnstone/turnstonelaw26.EmitWishes" = some 5 by kernel_rfl).symm.trans hf)|>.symm
  obtain rfl:fn=Tryz.f5:=(Option.some.inj (Tryz.func5.symm.trans hfn)).symm
  refine⟨by kernel_rfl,λj t ht=>?_⟩
  have hm:=Array.mem_of_getElem? ht
  rw[Tryz.params5]at hm
  have hm:t=24\/t=54\/t=54\/t=3\/t=4:=by simpa using hm
  rcases hm with rfl|rfl|rfl|rfl|rfl
  ·exact(show Tryz.prog.wantsStandIn 24=false by kernel_rfl)
  ·exact(show Tryz.prog.wantsStandIn 54=false by kernel_rfl)
  ·exact(show Tryz.prog.wantsStandIn 54=false by kernel_rfl)
  ·exact(show Tryz.prog.wantsStandIn 3=false by kernel_rfl)
  ·exact(show Tryz.prog.wantsStandIn 4=false by kernel_rfl)
/-- The card. -/
theorem proved:Rows.EmitWishesCardSaid:=
  Claim7.holds_tied_plain_at .later [] _ _ _ _ said (λ_ h=>by cases h) (by kernel_rfl) (λ_ h=>by cases h) emitWishes_row_tie rfl ⟨rfl,rfl⟩ (by kernel_rfl) rfl plain (by kernel_rfl)
end Go.Proofs.YtcoaokdoecgcbaaGreatDoor.emitWishes
