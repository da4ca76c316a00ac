/- A text of as many lines as may be is played, one more is refused: the law's walk, for every argument. -/
import Derived.Test.YtlbdcjnhlkkfeaaGreatDoorHxSs
import Derived.Test.YtlbdcjnhlkkfeaaGreatDoorHxYd
import Derived.Test.YtlbdcjnhlkkfeaaGreatDoorCards
import Derived.Test.YtlbdcjnhlkkfeaaGreatDoorHxTi
import Derived.Test.YtlbdcjnhlkkfeaaGreatDoorHxJl
import Derived.WalkKit
import Derived.ProofKit
import Derived.OpenShut
import Derived.ChangeMaps5
import Derived.Deep.DeepHandedRow
import Derived.Lib.LaidTab
namespace Go.Proofs.YtlbdcjnhlkkfeaaGreatDoor.Laws
open Go.ChangeShapes Go.WideShapes Go.ChangeAt Go.RowKit
theorem own : ownKnob Tryz.prog.godebug = none := by kernel_rfl
/-- The cells that a datum lays. -/
def flat : Nat → DataW Unit → List Value
  | 0, _ => []
  | _ + 1, .lit (.int k v) => [.int k v]
  | n + 1, .agg l => l.flatMap (flat n)
  | _ + 1, _ => []
def lay (cs : List Value) : Obj → Obj
  | .cells _ t frozen => .cells cs.toArray t frozen
  | o => o
noncomputable def laidWorld (os : Os) : World :=
  { World.holding Tryz.prog os ⟨#[], #[], []⟩ with heap := (((((World.holding Tryz.prog os ⟨#[], #[], []⟩).heap.modify 1 (lay (flat 8 Rows.laid_internal_strconv_uint64pow10))).modify 2 (lay (flat 8 Rows.laid_unicode_utf8_first))).modify 3 (lay (flat 8 Rows.laid_unicode_utf8_acceptRanges))).modify 4 (lay (flat 8 Rows.laid_math_bits_deBruijn32tab))).modify 5 (lay (flat 8 Rows.laid_math_bits_deBruijn64tab)) }
theorem laidOut : laidOutB Hx.P0 = true := by
  unfold Hx.P0
  exact laidOutP
end Go.Proofs.YtlbdcjnhlkkfeaaGreatDoor.Laws
namespace Go.Proofs.YtlbdcjnhlkkfeaaGreatDoor.scriptLong
open Go.ChangeShapes Go.ChangeMaps Go.WideShapes Go.ChangeAt Go.RowKit Go.Proofs.YtlbdcjnhlkkfeaaGreatDoor.Laws

theorem body : ∃ fn c, Hx.P0.funcs[3]? = some fn ∧ fn.body = some c := by
  unfold Hx.P0
  exact ⟨Tryz.f3, _, Tryz.func3, rfl⟩
theorem walk0 (W : World) {base : Nat} {v0 : Value} (k0 : Value.okWide Hx.P0 W .any base 3 v0) :
    Calls Hx.P0 3 #[v0] W fun e W' => e = .returned (.bool true) ∧ Hx.Kept W W' := by
  obtain ⟨n, rfl⟩ := Go.WideShapes.okWide_int (by unfold Hx.P0; exact Tryz.underlying3) k0
  exact Hx.cP.calls Hx.factsS (args := [.int .i64 n]) (args' := #[.int .i64 n]) body (Hx.Rd.start 6 (Nat.le_of_ble_eq_true Hx.globs) W (Hx.noTab W)) (.cons _ _ _ _ (.int _ _) .nil) (Hx.ct_Long fun _ => rfl)
set_option maxRecDepth 100000 in
theorem contract (H : Type) (enc : TypeId × Value → H) (W : World) (base : Nat) (args : Array Value) (ds gs : List (DataW H)) (before : List MemPlace)
    (hval : ∀ (j : Nat) t v, Tryz.f3.params[j]? = some t → args[j]? = some v → Value.okWide Tryz.prog W .any base t v)
    (hW : DataW.Whole enc Tryz.prog Tryz.f3.params.toList Rows.scriptLongSpec.vars false W args.toList ds gs before) :
    Calls Tryz.prog 3 args W fun e W' => ∃ v, e = .returned v ∧ Rows.scriptLongSpec.post enc Tryz.prog Tryz.f3 false true false false W args v W' := by
  have hW' := hW
  obtain ⟨p, q, hA0, hV, rfl, hfz, hnd⟩ := hW
  have hA : DataW.TrodAll enc Tryz.prog W 0 (fun _ => true) true Tryz.f3.params.toList args.toList ds p := hA0
  have hlt := hA0.lt
  rw [Tryz.params3] at hA hval
  obtain ⟨v0, vs0, d0, ds0, p0, q0, hargs0, rfl, rfl, h0, hA0'⟩ := trodAll_cons hA
  obtain ⟨rfl, rfl, rfl⟩ := trodAll_nil hA0'
  obtain rfl : args = #[v0] := by cases args; simp_all
  obtain ⟨rfl, rfl⟩ := trodVars_none hV
  have k0 : Value.okWide Tryz.prog W .any base 3 v0 := @hval 0 3 v0 (by simp) (by simp)
  simp only [List.append_nil] at hW' hA0 hlt
  have hw := walk0 (base := base) W (by unfold Hx.P0; exact k0)
  unfold Hx.P0 at hw
  refine hw.mono fun e W' ⟨he, hk⟩ => ?_
  subst he
  refine ⟨_, rfl, ?_⟩
  refine Hx.post_kept (pa := p0) (pv := []) hW' ?_ ?_ ?_ ?_ hk ?_
  · exact fun _ _ _ => trodAll_cons_mk (shut_bool Tryz.underlying4 _) trodAll_mk0
  · intro sp hsp
    have h8 : DataW.TrodAll enc Hx.P0 W 0 (fun _ => true) true Tryz.f3.params.toList [v0] [d0] p0 := by
      unfold Hx.P0
      exact hA0
    have h9 := Hx.trodAll_stay (W' := W') laidOut hk (by kernel_rfl) h8 hlt sp hsp
    unfold Hx.P0 at h9
    exact h9
  · exact fun _ _ => rfl
  · rw [List.append_nil]
  · exact ok_one (t := 4) (by kernel_rfl) rfl (okWide_bool_mk Tryz.underlying4 true)
end Go.Proofs.YtlbdcjnhlkkfeaaGreatDoor.scriptLong
