/- Proved: Which places may be,of any unit,is as the document says: of VP that were made,with something turned,too. (chapter of the law's package). Condition: what jv row lists. -/
import Derived.Test.YtnehpeeglbgfpaaDoorM31
namespace Go.Proofs.YtnehpeeglbgfpaaDoor.allocRight
open Go.ChangeShapes Go.WideShapes Go.ChangeAt Go.RowKit Laws

/-! ### the row's step -/
/-- Noughts. -/
abbrev w0:Array Value:=#[.agg #[.slice none 0 0,.slice none 0 0,.int .i64 0],.slice none 0 0,.int .i64 0,.slice none 0 0]
theorem Q1(os:Os):laidMet Tryd.prog Rows.allocRightRow.laid ((ET os).forCall (λ_ _=>0) ⟨#[],w0,[]⟩).memory:=
  laidMet_of_run' 8 (by kernel_rfl) (by kernel_rfl)
theorem reads(os:Os) {H:Type} (enc:TypeId×Value->H):∃ds places,DataW.whole enc Tryd.prog ((ET os).forCall (λ_ _=>0) ⟨#[],w0,[]⟩).memory Tryd.f4.params.toList Rows.allocRightSpec.vars false w0.toList 8=some (ds,[],places):=
  ⟨[.agg [.nil,.nil,(.lit (.int .i64 0))],.nil,.lit (.int .i64 0),.nil],[],by kernel_rfl⟩
set_option maxRecDepth 100000 in
theorem lifted (os:Os) (started:os.Started) (H:Type) (enc:TypeId×Value->H) (F:Stop.Interp) :
    ReturnsInHanded {} Tryd.checked os 4 .any ((OpenSpec.ofChange Rows.allocRightSpec).preRow enc Tryd.prog Tryd.f4 Rows.allocRightRow.domain false Rows.allocRightRow.laid) (((OpenSpec.ofChange Rows.allocRightSpec).at F).post enc Tryd.prog Tryd.f4 false true false false):=by
  obtain⟨ds,places,hx⟩:=reads os enc
  refine returnsInHanded_of_row (C:=Tryd.checked) (s:=OpenSpec.ofChange Rows.allocRightSpec) own started (by kernel_rfl) Tryd.func4
    (witness_row_at (enc:=enc) (C:=Tryd.checked) false (ET os) w0 rfl (by kernel_rfl) (by kernel_rfl) (by kernel_rfl)
      (OpenSpec.preRow_of_cond 8 hx rfl (λk hk=>by cases hk) (by kernel_rfl) (Q1 os))) ?_
  intro W base args ds gs before Y5 hW _ _ _ _ _ _
  exact Q0 H enc W base args ds gs before Y5 hW
set_option maxRecDepth 100000 in
theorem jf0:(Rows.allocRightRow.inPlace == Tryd.pinned.checked.prog.inPlace 4)=true:=by kernel_rfl
set_option maxRecDepth 100000 in
theorem jf1:(Rows.allocRightRow.unfollowed == Tryd.pinned.checked.prog.unfollowed 4)=true:=by kernel_rfl
set_option maxRecDepth 100000 in
theorem jf2:(Rows.allocRightRow.recurses == Tryd.pinned.checked.prog.recurses 4)=true:=by kernel_rfl
set_option maxRecDepth 100000 in
theorem jf3:(Rows.allocRightRow.named == Tryd.pinned.checked.prog.varsNamed 4)=true:=by kernel_rfl
set_option maxRecDepth 100000 in
theorem closed:joinedFacts Tryd.pinned.checked.prog 4 Tryd.f4 (OpenSpec.ofChange Rows.allocRightSpec).bare Rows.allocRightRow=true:=by
  unfold joinedFacts
  rw[jf0,jf1,jf2,jf3]
  kernel_rfl
theorem said:Rows.AllocRightSaid:=
  OpenClaim.holds_of_cond 4 Tryd.f4 rfl rfl rfl rfl rfl rfl rfl ⟨rfl,rfl,rfl,rfl,rfl⟩ rfl rfl rfl rfl rfl (by kernel_rfl) Tryd.func4 closed
    (of_decide_eq_true (by kernel_rfl)) (by unfold Func.isWrapper;first|(rw[if_pos (by decide +kernel)];kernel_rfl)|(rw[if_neg (by decide +kernel)];exact⟨rfl,rfl⟩))
    (λos started H enc _ F=>by rw[OpenClaim.pre_eq_preRow];exact lifted os started H enc F)
theorem plain(f:FuncId) (fn:Func) (hf:Tryd.pinned.checked.prog.funcNamed "turnstone/turnstonelaw24.AllocRight" = some f) (hfn:Tryd.pinned.checked.prog.funcs[f]? =some fn) :
    true=Tryd.pinned.checked.prog.looks []/\∀(j:Nat) t,fn.params[j]? =some t->Tryd.pinned.checked.prog.wantsStandIn t=false:=by
  obtain rfl:f=4:=Option.some.inj ((show Tryd.prog.funcNamed "turnstone/turnstonelaw24.AllocRight" = some 4 by kernel_rfl).symm.trans hf)|>.symm
  obtain rfl:fn=Tryd.f4:=(Option.some.inj (Tryd.func4.symm.trans hfn)).symm
  refine⟨by kernel_rfl,λj t ht=>?_⟩
  have hm:=Array.mem_of_getElem? ht
  rw[Tryd.params4]at hm
  have hm:t=24\/t=22\/t=3\/t=22:=by simpa using hm
  rcases hm with rfl|rfl|rfl|rfl
  ·exact(show Tryd.prog.wantsStandIn 24=false by kernel_rfl)
  ·exact(show Tryd.prog.wantsStandIn 22=false by kernel_rfl)
  ·exact(show Tryd.prog.wantsStandIn 3=false by kernel_rfl)
  ·exact(show Tryd.prog.wantsStandIn 22=false by kernel_rfl)
/-- The card. -/
theorem proved:Rows.AllocRightCardSaid:=
  Claim7.holds_tied_plain_at .later [] _ _ _ _ said (λ_ h=>by cases h) (by kernel_rfl) (λ_ h=>by cases h) allocRight_row_tie rfl ⟨rfl,rfl⟩ (by kernel_rfl) rfl plain (by kernel_rfl)
end Go.Proofs.YtnehpeeglbgfpaaDoor.allocRight
