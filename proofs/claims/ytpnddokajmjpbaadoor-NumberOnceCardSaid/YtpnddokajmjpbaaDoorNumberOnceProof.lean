/- Proved: Behind number.Number no two pure values of one op and the same parts stand so that the one is ahead of the other. (chapter of the law's package). Condition: what jA row lists. -/
import Derived.Test.YtpnddokajmjpbaaDoorM31
namespace Go.Proofs.YtpnddokajmjpbaaDoor.numberOnce
open Go.ChangeShapes Go.WideShapes Go.ChangeAt Go.RowKit Go.Proofs.YtpnddokajmjpbaaDoor.Laws

/-! ### the row's step -/
/-- Noughts. -/
abbrev w0:Array Value:=#[.agg #[.slice none 0 0,.slice none 0 0,.int .i64 0]]
theorem TQ (os:Os):laidMet Tryd.prog Rows.numberOnceRow.laid ((HL os).forCall (λ_ _=>0) ⟨#[],w0,[]⟩).memory:=
  laidMet_of_run' 8 (by kernel_rfl) (by kernel_rfl)
theorem reads (os:Os) {H:Type} (enc:TypeId×Value->H):∃ds places,DataW.whole enc Tryd.prog ((HL os).forCall (λ_ _=>0) ⟨#[],w0,[]⟩).memory Tryd.f7.params.toList Rows.numberOnceSpec.vars false w0.toList 8=some (ds,[],places):=
  ⟨[.agg [.nil,.nil,(.lit (.int .i64 0))]],[],by kernel_rfl⟩
set_option maxRecDepth 100000 in
theorem lifted (os:Os) (started:os.Started) (H:Type) (enc:TypeId×Value->H) (F:Stop.Interp) :
    ReturnsInHanded {} Tryd.checked os 7 .any ((OpenSpec.ofChange Rows.numberOnceSpec).preRow enc Tryd.prog Tryd.f7 Rows.numberOnceRow.domain false Rows.numberOnceRow.laid) (((OpenSpec.ofChange Rows.numberOnceSpec).at F).post enc Tryd.prog Tryd.f7 false true false false):=by
  obtain⟨ds,places,hx⟩:=reads os enc
  refine returnsInHanded_of_row (C:=Tryd.checked) (s:=OpenSpec.ofChange Rows.numberOnceSpec) own started (by kernel_rfl) Tryd.func7
    (witness_row_at (enc:=enc) (C:=Tryd.checked) false (HL os) w0 rfl (by kernel_rfl) (by kernel_rfl) (by kernel_rfl)
      (OpenSpec.preRow_of_cond 8 hx rfl (λk hk=>by cases hk) (by kernel_rfl) (TQ os))) ?_
  intro W base args ds gs before zbl hW _ _ _ _ _ _
  exact TU H enc W base args ds gs before zbl hW
set_option maxRecDepth 100000 in
theorem jf0:(Rows.numberOnceRow.inPlace == Tryd.pinned.checked.prog.inPlace 7)=true:=by kernel_rfl
set_option maxRecDepth 100000 in
theorem jf1:(Rows.numberOnceRow.unfollowed == Tryd.pinned.checked.prog.unfollowed 7)=true:=by kernel_rfl
set_option maxRecDepth 100000 in
theorem jf2:(Rows.numberOnceRow.recurses == Tryd.pinned.checked.prog.recurses 7)=true:=by kernel_rfl
set_option maxRecDepth 100000 in
theorem jf3:(Rows.numberOnceRow.named == Tryd.pinned.checked.prog.varsNamed 7)=true:=by kernel_rfl
set_option maxRecDepth 100000 in
theorem closed:joinedFacts Tryd.pinned.checked.prog 7 Tryd.f7 (OpenSpec.ofChange Rows.numberOnceSpec).bare Rows.numberOnceRow=true:=by
  unfold joinedFacts
  rw[jf0,jf1,jf2,jf3]
  kernel_rfl
theorem said:Rows.NumberOnceSaid:=
  OpenClaim.holds_of_cond 7 Tryd.f7 rfl rfl rfl rfl rfl rfl rfl ⟨rfl,rfl,rfl,rfl,rfl⟩ rfl rfl rfl rfl rfl (by kernel_rfl) Tryd.func7 closed
    (of_decide_eq_true (by kernel_rfl)) (by unfold Func.isWrapper;first|(rw[if_pos (by decide +kernel)];kernel_rfl)|(rw[if_neg (by decide +kernel)];exact⟨rfl,rfl⟩))
    (λos started H enc _ F=>by rw[OpenClaim.pre_eq_preRow];exact lifted os started H enc F)
theorem plain (f:FuncId) (fn:Func) (hf:Tryd.pinned.checked.prog.funcNamed "turnstone/turnstonelaw19.NumberOnce" = some f) (hfn:Tryd.pinned.checked.prog.funcs[f]? =some fn) :
    false=Tryd.pinned.checked.prog.looks []/\∀(j:Nat) t,fn.params[j]? =some t->Tryd.pinned.checked.prog.wantsStandIn t=false:=by
  obtain rfl:f=7:=Option.some.inj ((show Tryd.prog.funcNamed "turnstone/turnstonelaw19.NumberOnce" = some 7 by kernel_rfl).symm.trans hf)|>.symm
  obtain rfl:fn=Tryd.f7:=(Option.some.inj (Tryd.func7.symm.trans hfn)).symm
  refine⟨by kernel_rfl,λj t ht=>?_⟩
  have hm:=Array.mem_of_getElem? ht
  rw[Tryd.params7]at hm
  obtain rfl:t=25:=by simpa using hm
  exact(show Tryd.prog.wantsStandIn 25=false by kernel_rfl)
/-- The card. -/
theorem proved:Rows.NumberOnceCardSaid:=
  Claim7.holds_tied_plain_at .later [] _ _ _ _ said (λ_ h=>by cases h) (by kernel_rfl) (λ_ h=>by cases h) numberOnce_row_tie rfl ⟨rfl,rfl⟩ (by kernel_rfl) rfl plain (by kernel_rfl)
end Go.Proofs.YtpnddokajmjpbaaDoor.numberOnce
