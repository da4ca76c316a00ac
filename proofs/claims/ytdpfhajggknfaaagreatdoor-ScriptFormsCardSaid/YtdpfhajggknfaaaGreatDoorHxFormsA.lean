/- Any line of the drawn kind, whole or with a letter changed or struck, is an event, or refused, as the document says: the law's walk, for every argument. -/
import Derived.Test.YtdpfhajggknfaaaGreatDoorHxLa
import Derived.Test.YtdpfhajggknfaaaGreatDoorHxS17
import Derived.ChangeMaps5
namespace Go.Proofs.YtdpfhajggknfaaaGreatDoor.scriptForms
open Go.ChangeShapes Go.ChangeMaps Go.WideShapes Go.ChangeAt Go.RowKit Go.Proofs.YtdpfhajggknfaaaGreatDoor.Laws

theorem body : ∃ fn c, Hx.P0.funcs[4]? = some fn ∧ fn.body = some c := by
  unfold Hx.P0
  exact ⟨Tryz.f4, _, Tryz.func4, rfl⟩
theorem walk0 (W : World) (htab : Hx.TabOk (fun _ => none) W) {H : Type} {enc : TypeId × Value → H} {base : Nat} {v0 : Value} {d0 : DataW H} {p0 : List MemPlace} (n1 n2 : Int) (hv : Value.okWide Hx.P0 W .any base 36 v0) (hd : DataW.Trod enc Hx.P0 W 0 (fun _ => true) true 36 v0 d0 p0) :
    Calls Hx.P0 4 #[v0, .int .i64 n1, .int .i64 n2] W fun e W' => e = .returned (.bool true) ∧ Hx.Kept W W' := by
  obtain ⟨fs, hfs⟩ := Hx.fs36
  obtain ⟨e, vs, Δ', h', h1, h2, _, h4, _, _⟩ := Hx.lLn.argS hfs hv hd (Hx.Rd.start 6 (Nat.le_of_ble_eq_true Hx.globs) W htab)
  obtain ⟨vn, vw, rfl, hs, ht⟩ := h2
  exact Hx.cP.calls Hx.factsS (args := [.agg (Hx.lnCells e.kind e.how vn vw), .int .i64 n1, .int .i64 n2]) (args' := #[v0, .int .i64 n1, .int .i64 n2]) body h4 (.cons _ _ _ _ h1 (.cons _ _ _ _ (.int _ _) (.one (.int _ _)))) (Hx.ct_ScriptForms (Nat.le_refl _) hs ht fun _ _ => rfl)
set_option maxRecDepth 100000 in
theorem contract (H : Type) (enc : TypeId × Value → H) (W : World) (base : Nat) (args : Array Value) (ds gs : List (DataW H)) (before : List MemPlace)
    (hval : ∀ (j : Nat) t v, Tryz.f4.params[j]? = some t → args[j]? = some v → Value.okWide Tryz.prog W .any base t v)
    (hW : DataW.Whole enc Tryz.prog Tryz.f4.params.toList Rows.scriptFormsSpec.vars false W args.toList ds gs before) (hL : laidMetH Tryz.prog laid W) :
    Calls Tryz.prog 4 args W fun e W' => ∃ v, e = .returned v ∧ Rows.scriptFormsSpec.post enc Tryz.prog Tryz.f4 false true false false W args v W' := by
  have hW' := hW
  obtain ⟨p, q, hA0, hV, rfl, hfz, hnd⟩ := hW
  have hA : DataW.TrodAll enc Tryz.prog W 0 (fun _ => true) true Tryz.f4.params.toList args.toList ds p := hA0
  have hlt := hA0.lt
  rw [Tryz.params4] at hA hval
  obtain ⟨v0, vs0, d0, ds0, p0, q0, hargs, rfl, rfl, h0, r0⟩ := trodAll_cons hA
  obtain ⟨v1, vs1, d1, ds1, p1, q1, rfl, rfl, rfl, h1, r1⟩ := trodAll_cons r0
  obtain ⟨v2, vs2, d2, ds2, p2, q2, rfl, rfl, rfl, h2, r2⟩ := trodAll_cons r1
  obtain ⟨rfl, rfl, rfl⟩ := trodAll_nil r2
  obtain rfl : args = #[v0, v1, v2] := by cases args; simp_all
  obtain ⟨rfl, rfl⟩ := trodVars_none hV
  have k0 : Value.okWide Tryz.prog W .any base 36 v0 := @hval 0 36 v0 (by simp) (by simp)
  have k1 : Value.okWide Tryz.prog W .any base 3 v1 := @hval 1 3 v1 (by simp) (by simp)
  have k2 : Value.okWide Tryz.prog W .any base 3 v2 := @hval 2 3 v2 (by simp) (by simp)
  have m1 := open_int (P := Tryz.prog) (t := 3) Tryz.underlying3 k1 h1
  have m2 := open_int (P := Tryz.prog) (t := 3) Tryz.underlying3 k2 h2
  obtain ⟨n1, rfl, rfl, rfl, _⟩ := m1
  obtain ⟨n2, rfl, rfl, rfl, _⟩ := m2
  simp only [List.append_nil] at hW' hA0 hlt
  have hw := walk0 (enc := enc) (base := base) (d0 := d0) (p0 := p0) W (table hL) n1 n2 (by unfold Hx.P0; exact k0) (by unfold Hx.P0; exact h0)
  unfold Hx.P0 at hw
  refine hw.mono fun e W' ⟨he, hk⟩ => ?_
  subst he
  refine ⟨_, rfl, ?_⟩
  refine Hx.post_kept (pa := p0) (pv := []) hW' ?_ ?_ ?_ ?_ hk ?_
  · exact fun _ _ _ => trodAll_cons_mk (shut_bool Tryz.underlying4 _) trodAll_mk0
  · intro sp hsp
    have h8 : DataW.TrodAll enc Hx.P0 W 0 (fun _ => true) true Tryz.f4.params.toList [v0, .int .i64 n1, .int .i64 n2] [d0, .lit (.int .i64 n1), .lit (.int .i64 n2)] p0 := by
      unfold Hx.P0
      exact hA0
    have h9 := Hx.trodAll_stay (W' := W') laidOut hk (by kernel_rfl) h8 hlt sp hsp
    unfold Hx.P0 at h9
    exact h9
  · exact fun _ _ => rfl
  · rw [List.append_nil]
  · exact ok_one (t := 4) (by kernel_rfl) rfl (okWide_bool_mk Tryz.underlying4 true)

end Go.Proofs.YtdpfhajggknfaaaGreatDoor.scriptForms
