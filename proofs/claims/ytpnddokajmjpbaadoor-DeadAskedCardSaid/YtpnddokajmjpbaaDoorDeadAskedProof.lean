/- Proved: Behind dead.Dead all that is left of a drawn unit is asked for,and every state counts. (chapter of the law's package). Condition: what its row lists. -/
import Derived.Test.YtpnddokajmjpbaaDoorM31
namespace Go.Proofs.YtpnddokajmjpbaaDoor.deadAsked
open Go.ChangeShapes Go.WideShapes Go.ChangeAt Go.RowKit Go.Proofs.YtpnddokajmjpbaaDoor.Laws

/-! ### the row's step -/
/-- Noughts. -/
abbrev w0:Array Value:=#[.agg #[.slice none 0 0,.slice none 0 0,.int .i64 0]]
theorem G4 (os:Os):laidMet Tryd.prog Rows.deadAskedRow.laid ((laidWorld os).forCall (λ_ _=>0) ⟨#[],w0,[]⟩).memory:=
  laidMet_of_run' 8 (by kernel_rfl) (by kernel_rfl)
theorem reads (os:Os) {H:Type} (enc:TypeId×Value->H):∃ds places,DataW.whole enc Tryd.prog ((laidWorld os).forCall (λ_ _=>0) ⟨#[],w0,[]⟩).memory Tryd.f4.params.toList Rows.deadAskedSpec.vars false w0.toList 8=some (ds,[],places):=
  ⟨[.agg [.nil,.nil,(.lit (.int .i64 0))]],[],by kernel_rfl⟩
set_option maxRecDepth 100000 in
theorem lifted (os:Os) (started:os.Started) (H:Type) (enc:TypeId×Value->H) (F:Stop.Interp) :
    ReturnsInHanded {} Tryd.checked os 4 .any ((OpenSpec.ofChange Rows.deadAskedSpec).preRow enc Tryd.prog Tryd.f4 Rows.deadAskedRow.domain false Rows.deadAskedRow.laid) (((OpenSpec.ofChange Rows.deadAskedSpec).at F).post enc Tryd.prog Tryd.f4 false true false false):=by
  obtain⟨ds,places,hx⟩:=reads os enc
  refine returnsInHanded_of_row (C:=Tryd.checked) (s:=OpenSpec.ofChange Rows.deadAskedSpec) own started (by kernel_rfl) Tryd.func4
    (witness_row_at (enc:=enc) (C:=Tryd.checked) false (laidWorld os) w0 rfl (by kernel_rfl) (by kernel_rfl) (by kernel_rfl)
      (OpenSpec.preRow_of_cond 8 hx rfl (λk hk=>by cases hk) (by kernel_rfl) (G4 os))) ?_
  intro W base args ds gs before hval hW _ _ _ _ _ _
  exact contract H enc W base args ds gs before hval hW
set_option maxRecDepth 100000 in
theorem jf0:(Rows.deadAskedRow.inPlace == Tryd.pinned.checked.prog.inPlace 4)=true:=by kernel_rfl
set_option maxRecDepth 100000 in
theorem jf1:(Rows.deadAskedRow.unfollowed == Tryd.pinned.checked.prog.unfollowed 4)=true:=by kernel_rfl
set_option maxRecDepth 100000 in
theorem jf2:(Rows.deadAskedRow.recurses == Tryd.pinned.checked.prog.recurses 4)=true:=by kernel_rfl
set_option maxRecDepth 100000 in
theorem jf3:(Rows.deadAskedRow.named == Tryd.pinned.checked.prog.varsNamed 4)=true:=by kernel_rfl
set_option maxRecDepth 100000 in
theorem closed:joinedFacts Tryd.pinned.checked.prog 4 Tryd.f4 (OpenSpec.ofChange Rows.deadAskedSpec).bare Rows.deadAskedRow=true:=by
  unfold joinedFacts
  rw[jf0,jf1,jf2,jf3]
  kernel_rfl
theorem said:Rows.DeadAskedSaid:=
  OpenClaim.holds_of_cond 4 Tryd.f4 rfl rfl rfl rfl rfl rfl rfl ⟨rfl,rfl,rfl,rfl,rfl⟩ rfl rfl rfl rfl rfl (by kernel_rfl) Tryd.func4 closed
    (of_decide_eq_true (by kernel_rfl)) (by unfold Func.isWrapper;first|(rw[if_pos (by decide +kernel)];kernel_rfl)|(rw[if_neg (by decide +kernel)];exact⟨rfl,rfl⟩))
    (λos started H enc _ F=>by rw[OpenClaim.pre_eq_preRow];exact lifted os started H enc F)
theorem plain (f:FuncId) (fn:Func) (hf:Tryd.pinned.checked.prog.funcNamed "turnstone/turnstonelaw20.DeadAsked" = some f) (hfn:Tryd.pinned.checked.prog.funcs[f]? =some fn) :
    false=Tryd.pinned.checked.prog.looks []/\∀(j:Nat) t,fn.params[j]? =some t->Tryd.pinned.checked.prog.wantsStandIn t=false:=by
  obtain rfl:f=4:=Option.some.inj ((show Tryd.prog.funcNamed "turnstone/turnstonelaw20.DeadAsked" = some 4 by kernel_rfl).symm.trans hf)|>.symm
  obtain rfl:fn=Tryd.f4:=(Option.some.inj (Tryd.func4.symm.trans hfn)).symm
  refine⟨by kernel_rfl,λj t ht=>?_⟩
  have hm:=Array.mem_of_getElem? ht
  rw[Tryd.params4]at hm
  obtain rfl:t=25:=by simpa using hm
  exact(show Tryd.prog.wantsStandIn 25=false by kernel_rfl)
/-- The card. -/
theorem proved:Rows.DeadAskedCardSaid:=
  Claim7.holds_tied_plain_at .later [] _ _ _ _ said (λ_ h=>by cases h) (by kernel_rfl) (λ_ h=>by cases h) deadAsked_row_tie rfl ⟨rfl,rfl⟩ (by kernel_rfl) rfl plain (by kernel_rfl)
end Go.Proofs.YtpnddokajmjpbaaDoor.deadAsked
