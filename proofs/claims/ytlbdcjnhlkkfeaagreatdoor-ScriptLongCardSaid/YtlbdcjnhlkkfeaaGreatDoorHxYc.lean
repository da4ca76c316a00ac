/- A statement with arguments: what is walked over plain values is what the statement's function does, and all that was there is left as it was. -/
import Derived.Test.YtlbdcjnhlkkfeaaGreatDoorHxYb
import Derived.Carry
namespace Go.Proofs.YtlbdcjnhlkkfeaaGreatDoor.Hx
open Go.ChangeShapes Go.WideShapes Go.RowKit

theorem Rd.start (n : Nat) (hn : P0.globals.size ≤ n) (w : World) (ht : TabOk (fun _ => none) w) : Rd (fun _ => none) { next := n, tr := .leaf } w :=
  ⟨WR.start n hn w ht, fun _ _ h => nomatch h⟩
/-- A call that was walked. -/
theorem cP.calls {C : Cfg} (hF : Facts C) {f : Nat} {args : List V} {h : Hp} {Δ : Env} {W : World} {args' : Array Value} (hb : ∃ fn c, P0.funcs[f]? = some fn ∧ fn.body = some c) (hR : Rd Δ h W) (ha : VsRel Δ args args'.toList)
    (hc : cP C f args h fun v _ => v = .bool true) : Calls P0 f args' W fun e W' => e = .returned (.bool true) ∧ Kept W W' := by
  obtain ⟨v, h', ⟨m, d, hr⟩, rfl⟩ := hc
  rcases callN_ok hF m d f args _ _ _ Δ W args' hr hR.world ha with ⟨x, h1, _⟩ | ⟨_, h2⟩
  · exfalso
    obtain ⟨fn, c, hf, hbd⟩ := hb
    have hnm := hF.named f fn hf
    have : (callFunc f args').run P0 W = .ok (.enter f args') W := by
      simp only [callFunc, Sem.run_bind, run_program, Result.andThen_ok, hf, hnm, hbd, Option.isNone_some, Bool.false_eq_true, if_false]
      rfl
    simp_all
  · refine Calls.mono h2 fun e w' he => ?_
    obtain ⟨Δ', x, rfl, hA⟩ := he
    have hx := hA.val
    cases hx
    exact ⟨rfl, hA.frame.kept fun b hb => (by obtain ⟨l, d, hl, hro, _⟩ := hb; rw [hR.ro l d hl] at hro; cases hro)⟩

/-- What is but read reads as it did. -/
theorem trodAll_stay {H : Type} {enc : TypeId × Value → H} {W W' : World} (hl : laidOutB P0 = true) (hk : Kept W W') : ∀ {ts : List TypeId} {vs : List Value} {ds : List (DataW H)} {ps : List MemPlace},
    (ts.all fun t => P0.readableRec t && decide (t < P0.types.size)) = true → DataW.TrodAll enc P0 W 0 (fun _ => true) true ts vs ds ps → (∀ p ∈ ps, p.block < W.heap.size) → ∀ sp : Nat → Bool, (∀ p ∈ ps, sp p.block = true) →
    DataW.TrodAll enc P0 W' 0 sp true ts vs ds ps
  | [], _, _, _, _, h, _, _, _ => by
    obtain ⟨rfl, rfl, rfl⟩ := trodAll_nil h
    exact rfl
  | t :: ts, _, _, _, hr, h, hlt, sp, hsp => by
    obtain ⟨v, vs, d, ds, p, q, rfl, rfl, rfl, h1, h2⟩ := trodAll_cons h
    simp only [List.all_cons, Bool.and_eq_true, decide_eq_true_eq] at hr
    refine ⟨p, q, ?_, trodAll_stay hl hk hr.2 h2 (by simp_all) sp (by simp_all), rfl⟩
    have hbl : Below W.heap.size W { W' with tape := W.tape } := ⟨hk.1, rfl, hk.2.1, hk.2.2.1, hk.2.2.2⟩
    have h3 := WideElems.Trod_stays hl hr.1.1 hr.1.2 h1 (fun x hx => hbl.same (by simp_all)) (sp' := sp) (by simp_all)
    exact DataW.Trod.of_heap (w := { W' with tape := W.tape }) (w' := W') rfl h3
end Go.Proofs.YtlbdcjnhlkkfeaaGreatDoor.Hx
