/- From the plain machine's answer to a law's: functions without a body that it knows; worlds that are kept; a law without arguments that is true. -/
import Derived.Test.YtmpdoelanliaeaaGreatDoorHxS
import Derived.Lib.Bytealg
import Derived.Laws.Externs
import Derived.ChangeSame
import Derived.RowKit3
namespace Go.Proofs.YtmpdoelanliaeaaGreatDoor.Hx

theorem countB_eq (c : Nat) (hc : c < 256) : ∀ l n, countB c l n = n + l.count (UInt8.ofNat c)
  | [], n => by rfl
  | b :: l, n => by
    simp [countB]
    rw [countB_eq c hc l, List.count_cons]
    have hb : Nat.beq b.toNat c = (b == UInt8.ofNat c) := by
      rw [Bool.eq_iff_iff]
      simp only [beq_iff_eq]
      constructor
      · intro h
        have h' := Nat.eq_of_beq_eq_true h
        rw [← h']; simp
      · simp_all
    rw [hb]
    cases b == UInt8.ofNat c
    · simp
    grind
theorem indexB_eq (c : Nat) (hc : c < 256) : ∀ l n, (match indexB c l n with | some i => (i : Int) | none => -1) = if Lib.indexByte l (UInt8.ofNat c) = -1 then -1 else Lib.indexByte l (UInt8.ofNat c) + n
  | [], n => by rfl
  | b :: l, n => by
    simp [indexB]
    have hb : Nat.beq b.toNat c = (b == UInt8.ofNat c) := by
      rw [Bool.eq_iff_iff]
      simp only [beq_iff_eq]
      constructor
      · intro h
        have h' := Nat.eq_of_beq_eq_true h
        rw [← h']; simp
      · simp_all
    rw [hb]
    unfold Lib.indexByte
    cases hbc : b == UInt8.ofNat c with
    | true => simp
    | false =>
      have ih := indexB_eq c hc l (n + 1)
      have hge := Lib.indexByte_ge l (UInt8.ofNat c)
      grind
theorem ext_count {f : Nat} {fn : Func} (hf : P0.funcs[f]? = some fn) (hname : (fn.name == "runtime.NumGoroutine") = false) (hb : fn.body.isNone = true) (hn : Extern.findNext fn = none) (he : Extern.find fn = some Extern.BytealgCount.count)
    {Δ : Env} {args : List V} {v : V} {args' : Array Value} {w : World} (hv : extF .countByte args = some v) (ha : VsRel Δ args args'.toList) : ∃ x, (callFunc f args').run P0 w = .ok (.value x) w ∧ VRel Δ v x := by
  unfold extF at hv
  split at hv
  · rename_i s c _
    rw [bB_eq] at hv
    let ⟨hc, hv⟩ := hv
    have hc' : c < 256 := by rw [Nat.blt_eq] at hc; exact hc
    cases hv
    let ⟨l⟩ := args'
    cases ha with
    | cons _ x _ xs hx hs =>
      cases hs with
      | cons _ y _ ys hy hs =>
        cases hs
        cases hy
        cases hx with
        | str sb =>
          have hr := Lib.run_countString (P := P0) sb (Int.ofNat c) w
          refine ⟨.int .i64 (Lib.countByte sb.data.toList (Int.ofNat c).toNat.toUInt8), ?_, ?_⟩
          · rw [run_callFunc_extern hf hname hb hn he]
            simp_all
          have e : countB c sb.data.toList 0 = Lib.countByte sb.data.toList (Int.ofNat c).toNat.toUInt8 := by
            rw [countB_eq c hc', Nat.zero_add]; rfl
          rw [e]
          exact .int _ _
  · simp_all
  · cases hv
theorem ext_index {f : Nat} {fn : Func} (hf : P0.funcs[f]? = some fn) (hname : (fn.name == "runtime.NumGoroutine") = false) (hb : fn.body.isNone = true) (hn : Extern.findNext fn = none) (he : Extern.find fn = some Extern.BytealgIndexByte.indexByte)
    {Δ : Env} {args : List V} {v : V} {args' : Array Value} {w : World} (hv : extF .indexByte args = some v) (ha : VsRel Δ args args'.toList) : ∃ x, (callFunc f args').run P0 w = .ok (.value x) w ∧ VRel Δ v x := by
  unfold extF at hv
  split at hv
  · simp_all
  · rename_i s c _
    rw [bB_eq] at hv
    let ⟨hc, hv⟩ := hv
    have hc' : c < 256 := by rw [Nat.blt_eq] at hc; exact hc
    let ⟨l⟩ := args'
    cases ha with
    | cons _ x _ xs hx hs =>
      cases hs with
      | cons _ y _ ys hy hs =>
        cases hs
        cases hy
        generalize hsl : s = sl at hx
        cases hx with
        | str sb =>
          have hr := Lib.run_indexByteString (P := P0) sb (Int.ofNat c) w
          refine ⟨.int .i64 (Lib.indexByte sb.data.toList (Int.ofNat c).toNat.toUInt8), ?_, ?_⟩
          · rw [run_callFunc_extern hf hname hb hn he]
            simp_all
          have e := indexB_eq c hc' sb.data.toList 0
          have e2 : (if Lib.indexByte sb.data.toList (UInt8.ofNat c) = -1 then -1 else Lib.indexByte sb.data.toList (UInt8.ofNat c) + ((0 : Nat) : Int)) = Lib.indexByte sb.data.toList (Int.ofNat c).toNat.toUInt8 := by
            show _ = Lib.indexByte sb.data.toList (UInt8.ofNat c)
            split
            · omega
            · simp
          rw [e2] at e
          rw [← e]
          rw [hsl] at hv
          split at hv
          · rename_i i hi; cases hv; rw [hi]; exact .int _ _
          · rename_i hi; cases hv; rw [hi]; exact .int _ _
  · cases hv

/-! ### worlds -/
/-- All that was there is as it was. -/
def Kept (W W' : World) : Prop := W'.os = W.os ∧ W'.output = W.output ∧ W.heap.size ≤ W'.heap.size ∧ ∀ b, b < W.heap.size → W'.heap[b]? = W.heap[b]?
theorem Kept.but {W W' : World} (h : Kept W W') (may : MemPlace → Prop) : W.keptBut W' may := by
  refine ⟨h.1, h.2.1, fun i hi => ?_⟩
  rw [h.2.2.2 i hi]
  grind
theorem FR.kept {Δ Δ' : Env} {w w' : World} (h : FR Δ Δ' w w') (hn : ∀ b, ¬ RW Δ b) : Kept w w' := ⟨h.os, h.output, h.size, fun b hb => h.keep b hb (hn b)⟩
def isTrue : Option (V × Hp) → Bool
  | some (.bool true, _) => true
  | _ => false
theorem TabOk.none {Δ : Env} {w : World} (h : TabOk Δ w) : TabOk (fun _ => none) w := fun g c hm => ⟨(h g c hm).1, by simp_all⟩
theorem WR.start (n : Nat) (hn : P0.globals.size ≤ n) (w : World) (ht : TabOk (fun _ => none) w) : WR (fun _ => none) { next := n, tr := .leaf } w :=
  ⟨by simp_all, by simp_all, by simp_all, by simp_all, by grind[Hp.get_eq,Tr.get_leaf], hn, ht⟩
/-- A function without arguments that the plain machine finds true returns true, and leaves all that was there. -/
theorem known {C : Cfg} (hF : Facts C) {m d n f : Nat} (hn : P0.globals.size ≤ n) (hb : ∃ fn c, P0.funcs[f]? = some fn ∧ fn.body = some c) (hv : isTrue (callN C m d f [] { next := n, tr := .leaf }) = true) (W : World) (ht : TabOk (fun _ => none) W) :
    Calls P0 f #[] W fun e W' => e = .returned (.bool true) ∧ Kept W W' := by
  cases hr : callN C m d f [] { next := n, tr := .leaf } with
  | none => rw [hr] at hv; cases hv
  | some r =>
    let ⟨v, h'⟩ := r
    rw [hr] at hv
    have hvt : v = .bool true := by
      unfold isTrue at hv
      split at hv
      · simp_all
      · cases hv
    subst hvt
    rcases callN_ok hF m d f [] _ _ _ (fun _ => none) W #[] hr (by grind[WR.start]) .nil with ⟨x, h1, _⟩ | ⟨_, h2⟩
    · exfalso
      let ⟨fn, c, hf, hbd⟩ := hb
      have hnm := hF.named f fn hf
      have : (callFunc f #[]).run P0 W = .ok (.enter f #[]) W := by
        simp only [callFunc, Sem.run_bind, run_program, Result.andThen_ok, hf, hnm, hbd, Option.isNone_some, Bool.false_eq_true, if_false]
        rfl
      simp_all
    · refine Calls.mono h2 fun e w' he => ?_
      obtain ⟨Δ', x, rfl, hA⟩ := he
      have hx := hA.val
      cases hx
      exact ⟨rfl, hA.frame.kept fun b hb => (by let ⟨l, d, hl, _⟩ := hb; cases hl)⟩
open Go.ChangeShapes Go.WideShapes in
/-- What a row asks behind a call that left all that was there as it was. -/
theorem post_kept {H : Type} {enc : TypeId × Value → H} {P : Program} {f : Func} {s : ChangeSpec} {apart fresh handsOn again : Bool} {W W' : World} {args : Array Value} {v : Value} {ds gs : List (DataW H)}
    {before pa pv : List MemPlace} (hW : DataW.Whole enc P f.params.toList s.vars apart W args.toList ds gs before)
    (hres : ∀ (b : Nat) (sp : Nat → Bool) (hd : Bool), DataW.TrodAll enc P W' b sp hd f.resultTypes.toList (v.resultList f.resultTypes.size) (s.fn H (ds ++ gs)).results [])
    (hargs : ∀ sp : Nat → Bool, (∀ p ∈ before, sp p.block = true) → DataW.TrodAll enc P W' 0 sp true f.params.toList args.toList (s.fn H (ds ++ gs)).args pa)
    (hvars : ∀ sp : Nat → Bool, (∀ p ∈ before, sp p.block = true) → DataW.TrodVars enc P W' sp s.vars (s.fn H (ds ++ gs)).vars pv)
    (hps : before = pa ++ pv) (hk : Kept W W')
    (hok : ∀ (j : Nat) (t : TypeId) (r : Value), f.resultTypes[j]? = some t → (v.resultList f.resultTypes.size)[j]? = some r → Value.okWide P W' .any 0 t r) :
    s.post enc P f apart fresh handsOn again W args v W' := by
  have hlt : ∀ p ∈ before, p.block < W.heap.size := fun p hp => hW.lt p hp
  have hold : ∀ p ∈ before, (fun b => decide (b < W.heap.size)) p.block = true := by simp_all
  refine ⟨ds, gs, before, [], pa, pv, hW, hres _ _ _, hargs _ hold, hvars _ hold, hk.but _, fun _ => ?_⟩
  obtain ⟨_, _, _, _, _, hz, hn⟩ := hW
  refine ⟨hok, _, _, ([] ++ pa) ++ pv, ⟨[] ++ pa, pv, trodAll_append (hargs _ (fun _ _ => rfl)) (hres _ _ _), hvars _ (fun _ _ => rfl), rfl, ?_, ?_⟩, ?_⟩
  · intro b off hp
    have hp' : MemPlace.cell b off ∈ before := by rw [hps]; simpa using hp
    have hz' := hz b off hp'
    have hb := hlt _ hp'
    have he : W'.frozen? ⟨b, off, none⟩ = W.frozen? ⟨b, off, none⟩ := by
      unfold World.frozen?
      have := hk.2.2.2 b hb
      simp only at this ⊢
      rw [this]
    simp_all
  · simp_all
  simp_all
end Go.Proofs.YtmpdoelanliaeaaGreatDoor.Hx
