/- Proved: Whether a native may be is as the document says. (chapter of the law's package). Condition: what jQ row lists. -/
import Derived.Test.YtcoaokdoecgcbaaGreatDoorM31
namespace Go.Proofs.YtcoaokdoecgcbaaGreatDoor.emitRight
open Go.ChangeShapes Go.WideShapes Go.ChangeAt Go.RowKit Laws

/-! ### the row's step -/
/-- Noughts. -/
abbrev w0:Array Value:=#[.agg #[.slice none 0 0,.slice none 0 0,.int .i64 0],.int .i64 0,.int .i64 0,.agg #[.int .i64 0,.int .i64 0,.slice none 0 0,.slice none 0 0,.slice none 0 0],.bool false]
theorem ZJ(os:Os):laidMet Tryz.prog Rows.emitRightUptoRow.laid ((K7 os).forCall (λ_ _=>0) ⟨#[],w0,[]⟩).memory:=
  laidMet_of_run' 8 (by kernel_rfl) (by kernel_rfl)
theorem reads(os:Os) {H:Type} (enc:TypeId×Value->H):∃places,DataW.whole enc Tryz.prog ((K7 os).forCall (λ_ _=>0) ⟨#[],w0,[]⟩).memory Tryz.f3.params.toList Rows.emitRightSpec.vars false w0.toList 8=some ([.agg [.nil,.nil,(.lit (.int .i64 0))],.lit (.int .i64 0),.lit (.int .i64 0),.agg [(.lit (.int .i64 0)),(.lit (.int .i64 0)),.nil,.nil,.nil],.lit (.bool false)],[],places):=
  ⟨[],by kernel_rfl⟩
set_option maxRecDepth 100000 in
theorem lifted (os:Os) (started:os.Started) (H:Type) (enc:TypeId×Value->H) (F:Stop.Interp) :
    ReturnsInHanded {} Tryz.checked os 3 .any ((Rows.OpenSpec.upto Rows.emitRightSpec).preRow enc Tryz.prog Tryz.f3 Rows.emitRightUptoRow.domain false Rows.emitRightUptoRow.laid) (((Rows.OpenSpec.upto Rows.emitRightSpec).at F).post enc Tryz.prog Tryz.f3 false true false false):=by
  obtain⟨places,hx⟩:=reads os enc
  refine returnsInHanded_of_row (C:=Tryz.checked) (s:=Rows.OpenSpec.upto Rows.emitRightSpec) own started (by kernel_rfl) Tryz.func3
    (witness_row_at (enc:=enc) (C:=Tryz.checked) false (K7 os) w0 rfl (by kernel_rfl) (by kernel_rfl) (by kernel_rfl)
      (OpenSpec.preRow_of_cond 8 hx (by kernel_rfl) (λk hk=>by cases hk;kernel_rfl) (by kernel_rfl) (ZJ os))) ?_
  intro W base args ds gs before zei hW _ zf6 _ _ _ _
  exact zaI H enc W base args ds gs before zei hW (zf6 _ rfl)
set_option maxRecDepth 100000 in
theorem jf0:(Rows.emitRightUptoRow.inPlace == Tryz.pinned.checked.prog.inPlace 3)=true:=by kernel_rfl
set_option maxRecDepth 100000 in
theorem jf1:(Rows.emitRightUptoRow.unfollowed == Tryz.pinned.checked.prog.unfollowed 3)=true:=by kernel_rfl
set_option maxRecDepth 100000 in
theorem jf2:(Rows.emitRightUptoRow.recurses == Tryz.pinned.checked.prog.recurses 3)=true:=by kernel_rfl
set_option maxRecDepth 100000 in
theorem jf3:(Rows.emitRightUptoRow.named == Tryz.pinned.checked.prog.varsNamed 3)=true:=by kernel_rfl
set_option maxRecDepth 100000 in
theorem closed:joinedFacts Tryz.pinned.checked.prog 3 Tryz.f3 (Rows.OpenSpec.upto Rows.emitRightSpec).bare Rows.emitRightUptoRow=true:=by
  unfold joinedFacts
  rw[jf0,jf1,jf2,jf3]
  kernel_rfl
theorem said:Rows.EmitRightUptoSaid:=
  OpenClaim.holds_of_cond 3 Tryz.f3 rfl rfl rfl rfl rfl rfl rfl ⟨rfl,rfl,rfl,rfl,rfl⟩ rfl rfl rfl rfl rfl (by kernel_rfl) Tryz.func3 closed
    (of_decide_eq_true (by kernel_rfl)) (by unfold Func.isWrapper;first|(rw[if_pos (by decide +kernel)];kernel_rfl)|(rw[if_neg (by decide +kernel)];exact⟨rfl,rfl⟩))
    (λos started H enc _ F=>by rw[OpenClaim.pre_eq_preRow];exact lifted os started H enc F)
theorem plain(f:FuncId) (fn:Func) (hf:Tryz.pinned.checked.prog.funcNamed "turnstone/turnstonelaw26.EmitRight" = some f) (hfn:Tryz.pinned.checked.prog.funcs[f]? =some fn) :
    true=Tryz.pinned.checked.prog.looks []/\∀(j:Nat) t,fn.params[j]? =some t->Tryz.pinned.checked.prog.wantsStandIn t=false:=by
  obtain rfl:f=3:=Option.some.inj ((show Tryz.prog.funcNamed "turnstone/turnstonelaw26.EmitRight" = some 3 by kernel_rfl).symm.trans hf)|>.symm
  obtain rfl:fn=Tryz.f3:=(Option.some.inj (Tryz.func3.symm.trans hfn)).symm
  refine⟨by kernel_rfl,λj t ht=>?_⟩
  have hm:=Array.mem_of_getElem? ht
  rw[Tryz.params3]at hm
  have hm:t=24\/t=3\/t=3\/t=29\/t=4:=by simpa using hm
  rcases hm with rfl|rfl|rfl|rfl|rfl
  ·exact(show Tryz.prog.wantsStandIn 24=false by kernel_rfl)
  ·exact(show Tryz.prog.wantsStandIn 3=false by kernel_rfl)
  ·exact(show Tryz.prog.wantsStandIn 3=false by kernel_rfl)
  ·exact(show Tryz.prog.wantsStandIn 29=false by kernel_rfl)
  ·exact(show Tryz.prog.wantsStandIn 4=false by kernel_rfl)
/-- The card. -/
theorem proved:Rows.EmitRightUptoCardSaid:=
  Claim7.holds_tied_plain_at .later [] _ _ _ _ said (λ_ h=>by cases h) (by kernel_rfl) (λ_ h=>by cases h) emitRightUpto_row_tie rfl ⟨rfl,rfl⟩ (by kernel_rfl) rfl plain (by kernel_rfl)
end Go.Proofs.YtcoaokdoecgcbaaGreatDoor.emitRight
