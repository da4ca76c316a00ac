/- Any state at the end of a run is told as the document says: the law's walk, for every argument. -/
import Derived.Test.YtdpfhajggknfaaaGreatDoorHxLa
import Derived.Test.YtdpfhajggknfaaaGreatDoorHxS16
import Derived.ChangeMaps5
namespace Go.Proofs.YtdpfhajggknfaaaGreatDoor.scriptTells
open Go.ChangeShapes Go.ChangeMaps Go.WideShapes Go.ChangeAt Go.RowKit Go.Proofs.YtdpfhajggknfaaaGreatDoor.Laws

theorem body : ∃ fn c, Hx.P0.funcs[5]? = some fn ∧ fn.body = some c := by
  unfold Hx.P0
  exact ⟨Tryz.f5, _, Tryz.func5, rfl⟩
theorem walk0 (W : World) (ht : Hx.TabOk (fun _ => none) W) {H : Type} {enc : TypeId × Value → H} {base : Nat} {v0 : Value} {d0 : DataW H} {p0 : List MemPlace} (hv : Value.okWide Hx.P0 W .any base 43 v0) (hd : DataW.Trod enc Hx.P0 W 0 (fun _ => true) true 43 v0 d0 p0) :
    Calls Hx.P0 5 #[v0] W fun e W' => e = .returned (.bool true) ∧ Hx.Kept W W' := by
  obtain ⟨fs, hfs⟩ := Hx.fs43
  obtain ⟨e, vs, Δ', h', h1, h2, h3, h4, _, _⟩ := Hx.lRw.argS hfs hv hd (Hx.Rd.start 6 (Nat.le_of_ble_eq_true Hx.globs) W ht)
  obtain ⟨v, rfl, hs⟩ := h2
  exact Hx.cP.calls Hx.factsS (args := [.agg (Hx.rwCells e v)]) (args' := #[v0]) body h4 (.one h1) (Hx.ct_ScriptTells (Nat.le_refl _) hs h3 fun _ _ => rfl)
set_option maxRecDepth 100000 in
theorem contract (H : Type) (enc : TypeId × Value → H) (W : World) (base : Nat) (args : Array Value) (ds gs : List (DataW H)) (before : List MemPlace)
    (hval : ∀ (j : Nat) t v, Tryz.f5.params[j]? = some t → args[j]? = some v → Value.okWide Tryz.prog W .any base t v)
    (hW : DataW.Whole enc Tryz.prog Tryz.f5.params.toList Rows.scriptTellsSpec.vars false W args.toList ds gs before) (hL : laidMetH Tryz.prog laid W) :
    Calls Tryz.prog 5 args W fun e W' => ∃ v, e = .returned v ∧ Rows.scriptTellsSpec.post enc Tryz.prog Tryz.f5 false true false false W args v W' := by
  have hW' := hW
  obtain ⟨p, q, hA0, hV, rfl, hfz, hnd⟩ := hW
  have hA : DataW.TrodAll enc Tryz.prog W 0 (fun _ => true) true Tryz.f5.params.toList args.toList ds p := hA0
  have hlt := hA0.lt
  rw [Tryz.params5] at hA hval
  obtain ⟨v0, vs0, d0, ds0, p0, q0, hargs, rfl, rfl, h0, r0⟩ := trodAll_cons hA
  obtain ⟨rfl, rfl, rfl⟩ := trodAll_nil r0
  obtain rfl : args = #[v0] := by cases args; simp_all
  obtain ⟨rfl, rfl⟩ := trodVars_none hV
  have k0 : Value.okWide Tryz.prog W .any base 43 v0 := @hval 0 43 v0 (by simp) (by simp)
  simp only [List.append_nil] at hW' hA0 hlt
  have hw := walk0 (enc := enc) (base := base) (d0 := d0) (p0 := p0) W (table hL) (by unfold Hx.P0; exact k0) (by unfold Hx.P0; exact h0)
  unfold Hx.P0 at hw
  refine hw.mono fun e W' ⟨he, hk⟩ => ?_
  subst he
  refine ⟨_, rfl, ?_⟩
  refine Hx.post_kept (pa := p0) (pv := []) hW' ?_ ?_ ?_ ?_ hk ?_
  · exact fun _ _ _ => trodAll_cons_mk (shut_bool Tryz.underlying4 _) trodAll_mk0
  · intro sp hsp
    have h8 : DataW.TrodAll enc Hx.P0 W 0 (fun _ => true) true Tryz.f5.params.toList [v0] [d0] p0 := by
      unfold Hx.P0
      exact hA0
    have h9 := Hx.trodAll_stay (W' := W') laidOut hk (by kernel_rfl) h8 hlt sp hsp
    unfold Hx.P0 at h9
    exact h9
  · exact fun _ _ => rfl
  · rw [List.append_nil]
  · exact ok_one (t := 4) (by kernel_rfl) rfl (okWide_bool_mk Tryz.underlying4 true)

end Go.Proofs.YtdpfhajggknfaaaGreatDoor.scriptTells
