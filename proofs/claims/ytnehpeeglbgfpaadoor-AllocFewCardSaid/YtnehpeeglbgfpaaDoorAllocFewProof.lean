/- Proved: In a unit of one block where at no place more values are alive,or set,than there are registers,there are no fY. (chapter of the law's package). Condition: what jf row lists. -/
import Derived.Test.YtnehpeeglbgfpaaDoorM31
namespace Go.Proofs.YtnehpeeglbgfpaaDoor.allocFew
open Go.ChangeShapes Go.WideShapes Go.ChangeAt Go.RowKit Laws

/-! ### the row's step -/
/-- Noughts. -/
abbrev w0:Array Value:=#[.agg #[.slice none 0 0,.slice none 0 0,.int .i64 0]]
theorem Qh(os:Os):laidMet Tryd.prog Rows.allocFewRow.laid ((Ei os).forCall (λ_ _=>0) ⟨#[],w0,[]⟩).memory:=
  laidMet_of_run' 8 (by kernel_rfl) (by kernel_rfl)
theorem reads(os:Os) {H:Type} (enc:TypeId×Value->H):∃ds places,DataW.whole enc Tryd.prog ((Ei os).forCall (λ_ _=>0) ⟨#[],w0,[]⟩).memory Tryd.f3.params.toList Rows.allocFewSpec.vars false w0.toList 8=some (ds,[],places):=
  ⟨[.agg [.nil,.nil,(.lit (.int .i64 0))]],[],by kernel_rfl⟩
set_option maxRecDepth 100000 in
theorem lifted (os:Os) (started:os.Started) (H:Type) (enc:TypeId×Value->H) (F:Stop.Interp) :
    ReturnsInHanded {} Tryd.checked os 3 .any ((OpenSpec.ofChange Rows.allocFewSpec).preRow enc Tryd.prog Tryd.f3 Rows.allocFewRow.domain false Rows.allocFewRow.laid) (((OpenSpec.ofChange Rows.allocFewSpec).at F).post enc Tryd.prog Tryd.f3 false true false false):=by
  obtain⟨ds,places,hx⟩:=reads os enc
  refine returnsInHanded_of_row (C:=Tryd.checked) (s:=OpenSpec.ofChange Rows.allocFewSpec) own started (by kernel_rfl) Tryd.func3
    (witness_row_at (enc:=enc) (C:=Tryd.checked) false (Ei os) w0 rfl (by kernel_rfl) (by kernel_rfl) (by kernel_rfl)
      (OpenSpec.preRow_of_cond 8 hx rfl (λk hk=>by cases hk) (by kernel_rfl) (Qh os))) ?_
  intro W base args ds gs before WV hW _ _ _ _ _ _
  exact PN H enc W base args ds gs before WV hW
set_option maxRecDepth 100000 in
theorem Ys:(Rows.allocFewRow.inPlace == Tryd.pinned.checked.prog.inPlace 3)=true:=by kernel_rfl
set_option maxRecDepth 100000 in
theorem Ya:(Rows.allocFewRow.unfollowed == Tryd.pinned.checked.prog.unfollowed 3)=true:=by kernel_rfl
set_option maxRecDepth 100000 in
theorem XY:(Rows.allocFewRow.recurses == Tryd.pinned.checked.prog.recurses 3)=true:=by kernel_rfl
set_option maxRecDepth 100000 in
theorem X4:(Rows.allocFewRow.named == Tryd.pinned.checked.prog.varsNamed 3)=true:=by kernel_rfl
set_option maxRecDepth 100000 in
theorem closed:joinedFacts Tryd.pinned.checked.prog 3 Tryd.f3 (OpenSpec.ofChange Rows.allocFewSpec).bare Rows.allocFewRow=true:=by
  unfold joinedFacts
  rw[Ys,Ya,XY,X4]
  kernel_rfl
theorem said:Rows.AllocFewSaid:=
  OpenClaim.holds_of_cond 3 Tryd.f3 rfl rfl rfl rfl rfl rfl rfl ⟨rfl,rfl,rfl,rfl,rfl⟩ rfl rfl rfl rfl rfl (by kernel_rfl) Tryd.func3 closed
    (of_decide_eq_true (by kernel_rfl)) (by unfold Func.isWrapper;first|(rw[if_pos (by decide +kernel)];kernel_rfl)|(rw[if_neg (by decide +kernel)];exact⟨rfl,rfl⟩))
    (λos started H enc _ F=>by rw[OpenClaim.pre_eq_preRow];exact lifted os started H enc F)
theorem plain(f:FuncId) (fn:Func) (hf:Tryd.pinned.checked.prog.funcNamed "turnstone/turnstonelaw24.AllocFew" = some f) (YH:Tryd.pinned.checked.prog.funcs[f]? =some fn) :
    true=Tryd.pinned.checked.prog.looks []/\∀(j:Nat) t,fn.params[j]? =some t->Tryd.pinned.checked.prog.wantsStandIn t=false:=by
  obtain rfl:f=3:=Option.some.inj ((show Tryd.prog.funcNamed "turnstone/turnstonelaw24.AllocFew" = some 3 by kernel_rfl).symm.trans hf)|>.symm
  obtain rfl:fn=Tryd.f3:=(Option.some.inj (Tryd.func3.symm.trans YH)).symm
  refine⟨by kernel_rfl,λj t ht=>?_⟩
  have hm:=Array.mem_of_getElem? ht
  rw[Tryd.params3]at hm
  obtain rfl:t=24:=by simpa using hm
  exact(show Tryd.prog.wantsStandIn 24=false by kernel_rfl)
/-- The card. -/
theorem proved:Rows.AllocFewCardSaid:=
  Claim7.holds_tied_plain_at .later [] _ _ _ _ said (λ_ h=>by cases h) (by kernel_rfl) (λ_ h=>by cases h) allocFew_row_tie rfl ⟨rfl,rfl⟩ (by kernel_rfl) rfl plain (by kernel_rfl)
end Go.Proofs.YtnehpeeglbgfpaaDoor.allocFew
