/- Any event and any line there and back: the law's walk, for every argument of a bound. -/
import Derived.Test.YtdpfhajggknfaaaGreatDoorHxLa
import Derived.Test.YtdpfhajggknfaaaGreatDoorHxSg
import Derived.Test.YtdpfhajggknfaaaGreatDoorHxS15
import Derived.Test.YtdpfhajggknfaaaGreatDoorHxS17
import Derived.ChangeMaps5
namespace Go.Proofs.YtdpfhajggknfaaaGreatDoor.scriptBack
open Go.ChangeShapes Go.ChangeMaps Go.WideShapes Go.ChangeAt Go.RowKit Go.Proofs.YtdpfhajggknfaaaGreatDoor.Laws

theorem body : ∃ fn c, Hx.P0.funcs[7]? = some fn ∧ fn.body = some c := by
  unfold Hx.P0
  exact ⟨Tryz.f7, _, Tryz.func7, rfl⟩
set_option maxRecDepth 100000 in
theorem bound {H : Type} {l : List (DataW H)} (h : Rows.uptoSmall H l = true) : Rows.uptoBulkAll l ≤ 1048576 := of_decide_eq_true h
theorem bulk_four {H : Type} (d0 d1 d3 : DataW H) (l : List UInt8) : l.length ≤ Rows.uptoBulkAll [d0, d1, (.lit (.string l) : DataW H), d3] := by
  simp only [Rows.uptoBulkAll, Rows.uptoBulk]
  omega
theorem small_of {n m : Nat} (h1 : n ≤ m) (h2 : m ≤ 1048576) : n < 1000000000 := by omega
theorem walk0 (W : World) (htab : Hx.TabOk (fun _ => none) W) {H : Type} {enc : TypeId × Value → H} {base : Nat} {v0 v1 : Value} {d0 d1 : DataW H} {p0 p1 : List MemPlace} (s : ByteArray) (b : Bool) (hlen : s.data.toList.length < 1000000000)
    (hv : Value.okWide Hx.P0 W .any base 26 v0) (hd : DataW.Trod enc Hx.P0 W 0 (fun _ => true) true 26 v0 d0 p0) (hv' : Value.okWide Hx.P0 W .any base 36 v1) (hd' : DataW.Trod enc Hx.P0 W 0 (fun _ => true) true 36 v1 d1 p1) :
    Calls Hx.P0 7 #[v0, v1, .string s, .bool b] W fun e W' => e = .returned (.bool true) ∧ Hx.Kept W W' := by
  obtain ⟨fs, hfs⟩ := Hx.fs26
  obtain ⟨fs', hfs'⟩ := Hx.fs36
  obtain ⟨e, vs, Δ', h', h1, h2, h3, h4, _, _⟩ := Hx.lEv.argS hfs hv hd (Hx.Rd.start 6 (Nat.le_of_ble_eq_true Hx.globs) W htab)
  obtain ⟨x, us, Δ2, h'', g1, g2, _, g4, hle, hg⟩ := Hx.lLn.argS hfs' hv' hd' h4
  obtain ⟨v, rfl, hs⟩ := h2
  obtain ⟨vn, vw, rfl, hn, hw⟩ := g2
  exact Hx.cP.calls Hx.factsS (args := [.agg (Hx.evCells e v), .agg (Hx.lnCells x.kind x.how vn vw), .str s.data.toList, .bool b]) (args' := #[v0, v1, .string s, .bool b]) body g4 (.cons _ _ _ _ (h1.mono hle) (.cons _ _ _ _ g1 (.cons _ _ _ _ (.str s) (.one (.bool b)))))
    (Hx.ct_ScriptBack (Nat.le_refl _) ((hs.ext hg (Nat.le_refl _)).mono hg.next) h3 hn hw hlen fun _ _ => rfl)
set_option maxRecDepth 100000 in
theorem contract (H : Type) (enc : TypeId × Value → H) (W : World) (base : Nat) (args : Array Value) (ds gs : List (DataW H)) (before : List MemPlace)
    (hval : ∀ (j : Nat) t v, Tryz.f7.params[j]? = some t → args[j]? = some v → Value.okWide Tryz.prog W .any base t v)
    (hW : DataW.Whole enc Tryz.prog Tryz.f7.params.toList Rows.scriptBackSpec.vars false W args.toList ds gs before) (hL : laidMetH Tryz.prog laid W) (hb : Rows.uptoSmall H (ds ++ gs) = true) :
    Calls Tryz.prog 7 args W fun e W' => ∃ v, e = .returned v ∧ Rows.scriptBackSpec.post enc Tryz.prog Tryz.f7 false true false false W args v W' := by
  have hW' := hW
  obtain ⟨p, q, hA0, hV, rfl, hfz, hnd⟩ := hW
  have hA : DataW.TrodAll enc Tryz.prog W 0 (fun _ => true) true Tryz.f7.params.toList args.toList ds p := hA0
  have hlt := hA0.lt
  rw [Tryz.params7] at hA hval
  obtain ⟨v0, vs0, d0, ds0, p0, q0, hargs, rfl, rfl, h0, r0⟩ := trodAll_cons hA
  obtain ⟨v1, vs1, d1, ds1, p1, q1, rfl, rfl, rfl, h1, r1⟩ := trodAll_cons r0
  obtain ⟨v2, vs2, d2, ds2, p2, q2, rfl, rfl, rfl, h2, r2⟩ := trodAll_cons r1
  obtain ⟨v3, vs3, d3, ds3, p3, q3, rfl, rfl, rfl, h3, r3⟩ := trodAll_cons r2
  obtain ⟨rfl, rfl, rfl⟩ := trodAll_nil r3
  obtain rfl : args = #[v0, v1, v2, v3] := by cases args; simp_all
  obtain ⟨rfl, rfl⟩ := trodVars_none hV
  have k0 : Value.okWide Tryz.prog W .any base 26 v0 := @hval 0 26 v0 (by simp) (by simp)
  have k1 : Value.okWide Tryz.prog W .any base 36 v1 := @hval 1 36 v1 (by simp) (by simp)
  have k2 : Value.okWide Tryz.prog W .any base 9 v2 := @hval 2 9 v2 (by simp) (by simp)
  have k3 : Value.okWide Tryz.prog W .any base 4 v3 := @hval 3 4 v3 (by simp) (by simp)
  have m2 := open_string (P := Tryz.prog) (t := 9) Tryz.underlying9 k2 h2
  have m3 := open_bool (P := Tryz.prog) (t := 4) Tryz.underlying4 k3 h3
  obtain ⟨s, rfl, rfl, rfl, _⟩ := m2
  obtain ⟨b, rfl, rfl, rfl⟩ := m3
  have hlen : s.data.toList.length < 1000000000 := by
    have hb2 := bound hb
    rw [List.append_nil] at hb2
    exact small_of (bulk_four d0 d1 _ _) hb2
  simp only [List.append_nil, List.nil_append] at hW' hA0 hlt
  have hw := walk0 (enc := enc) (base := base) (d0 := d0) (p0 := p0) (d1 := d1) (p1 := p1) W (table hL) s b hlen (by unfold Hx.P0; exact k0) (by unfold Hx.P0; exact h0) (by unfold Hx.P0; exact k1) (by unfold Hx.P0; exact h1)
  unfold Hx.P0 at hw
  refine hw.mono fun e W' ⟨he, hk⟩ => ?_
  subst he
  refine ⟨_, rfl, ?_⟩
  refine Hx.post_kept (pa := p0 ++ p1) (pv := []) hW' ?_ ?_ ?_ ?_ hk ?_
  · exact fun _ _ _ => trodAll_cons_mk (shut_bool Tryz.underlying4 _) trodAll_mk0
  · intro sp hsp
    have h8 : DataW.TrodAll enc Hx.P0 W 0 (fun _ => true) true Tryz.f7.params.toList [v0, v1, .string s, .bool b] [d0, d1, .lit (.string s.data.toList), .lit (.bool b)] (p0 ++ p1) := by
      unfold Hx.P0
      exact hA0
    have h9 := Hx.trodAll_stay (W' := W') laidOut hk (by kernel_rfl) h8 hlt sp hsp
    unfold Hx.P0 at h9
    exact h9
  · exact fun _ _ => rfl
  · rw [List.append_nil]
  · exact ok_one (t := 4) (by kernel_rfl) rfl (okWide_bool_mk Tryz.underlying4 true)

end Go.Proofs.YtdpfhajggknfaaaGreatDoor.scriptBack
