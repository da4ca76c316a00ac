/- Any line is an event, or refused, as the document says: the law's walk, for every argument of a bound. -/
import Derived.Test.YtdpfhajggknfaaaGreatDoorHxLa
import Derived.ChangeMaps5
namespace Go.Proofs.YtdpfhajggknfaaaGreatDoor.scriptParses
open Go.ChangeShapes Go.ChangeMaps Go.WideShapes Go.ChangeAt Go.RowKit Go.Proofs.YtdpfhajggknfaaaGreatDoor.Laws

set_option maxRecDepth 100000 in
theorem bound {H : Type} {l : List (DataW H)} (h : Rows.uptoSmall H l = true) : Rows.uptoBulkAll l ≤ 1048576 := of_decide_eq_true h
theorem small_of {n : Nat} (h : n + 1 ≤ 1048576) : n < 1000000000 := by omega
theorem bulk_str {H : Type} (l : List UInt8) : Rows.uptoBulkAll [(.lit (.string l) : DataW H)] = l.length + 1 := by simp [Rows.uptoBulkAll, Rows.uptoBulk]
theorem body : ∃ fn c, Hx.P0.funcs[3]? = some fn ∧ fn.body = some c := by
  unfold Hx.P0
  exact ⟨Tryz.f3, _, Tryz.func3, rfl⟩
theorem walk (W : World) (ht : Hx.TabOk (fun _ => none) W) (s : ByteArray) (hs : s.data.toList.length < 1000000000) : Calls Tryz.prog 3 #[.string s] W fun e W' => e = .returned (.bool true) ∧ Hx.Kept W W' := by
  have h := Hx.cP.calls Hx.factsS (args := [.str s.data.toList]) (args' := #[.string s]) body (Hx.Rd.start 6 (Nat.le_of_ble_eq_true Hx.globs) W ht) (.one (.str s)) (Hx.ct_ScriptParses hs fun _ _ => rfl)
  unfold Hx.P0 at h
  exact h
set_option maxRecDepth 100000 in
theorem contract (H : Type) (enc : TypeId × Value → H) (W : World) (base : Nat) (args : Array Value) (ds gs : List (DataW H)) (before : List MemPlace)
    (hval : ∀ (j : Nat) t v, Tryz.f3.params[j]? = some t → args[j]? = some v → Value.okWide Tryz.prog W .any base t v)
    (hW : DataW.Whole enc Tryz.prog Tryz.f3.params.toList Rows.scriptParsesSpec.vars false W args.toList ds gs before) (hL : laidMetH Tryz.prog laid W) (hb : Rows.uptoSmall H (ds ++ gs) = true) :
    Calls Tryz.prog 3 args W fun e W' => ∃ v, e = .returned v ∧ Rows.scriptParsesSpec.post enc Tryz.prog Tryz.f3 false true false false W args v W' := by
  have hW' := hW
  obtain ⟨p, q, hA0, hV, rfl, hfz, hnd⟩ := hW
  have hA : DataW.TrodAll enc Tryz.prog W 0 (fun _ => true) true Tryz.f3.params.toList args.toList ds p := hA0
  rw [Tryz.params3] at hA hval
  obtain ⟨v0, vs0, d0, ds0, p0, q0, hargs, rfl, rfl, h0, r0⟩ := trodAll_cons hA
  obtain ⟨rfl, rfl, rfl⟩ := trodAll_nil r0
  obtain rfl : args = #[v0] := by cases args; simp_all
  obtain ⟨rfl, rfl⟩ := trodVars_none hV
  have h5 : Value.okWide Tryz.prog W .any base 9 v0 := @hval 0 9 v0 (by simp) (by simp)
  have h6 := open_string (P := Tryz.prog) (t := 9) Tryz.underlying9 h5 h0
  obtain ⟨s, rfl, rfl, rfl, _⟩ := h6
  have hlen : s.data.toList.length < 1000000000 := by
    have hb2 := bound hb
    rw [List.append_nil] at hb2
    rw [bulk_str] at hb2
    exact small_of hb2
  simp only [List.append_nil] at hW'
  refine (walk W (table hL) s hlen).mono fun e W' ⟨he, hk⟩ => ?_
  subst he
  refine ⟨_, rfl, ?_⟩
  refine Hx.post_kept (pa := []) (pv := []) hW' ?_ ?_ ?_ ?_ hk ?_
  · exact fun _ _ _ => trodAll_cons_mk (shut_bool Tryz.underlying4 _) trodAll_mk0
  · intro sp hsp
    have h8 : DataW.TrodAll enc Hx.P0 W 0 (fun _ => true) true Tryz.f3.params.toList [.string s] [.lit (.string s.data.toList)] [] := by
      unfold Hx.P0
      exact hA0
    have h9 := Hx.trodAll_stay (W' := W') laidOut hk (by kernel_rfl) h8 (fun p hp => by cases hp) sp (fun p hp => by cases hp)
    unfold Hx.P0 at h9
    exact h9
  · exact fun _ _ => rfl
  · rfl
  · exact ok_one (t := 4) (by kernel_rfl) rfl (okWide_bool_mk Tryz.underlying4 true)

end Go.Proofs.YtdpfhajggknfaaaGreatDoor.scriptParses
