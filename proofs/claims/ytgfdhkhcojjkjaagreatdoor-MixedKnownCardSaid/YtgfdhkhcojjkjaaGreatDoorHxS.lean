/- The plain machine is right: what it says of a call, the model does. -/
import Derived.Test.YtgfdhkhcojjkjaaGreatDoorHxQ
import Derived.Defers
import Derived.Recover
import Derived.Lib.Bytealg
import Derived.Laws.Externs
import Derived.ChangeSame
import Derived.RowKit3
namespace Go.Proofs.YtgfdhkhcojjkjaaGreatDoor.Hx

/-- All that was there is as it was. -/
structure Still (W W' : World) : Prop where
  os : W'.os = W.os
  tape : W'.tape = W.tape
  output : W'.output = W.output
  size : W.heap.size ≤ W'.heap.size
  keep : ∀ b, b < W.heap.size → W'.heap[b]? = W.heap[b]?
theorem FR.still {Δ Δ' : Env} {w w' : World} (h : FR Δ Δ' w w') (hn : ∀ b, ¬ RW Δ b) : Still w w' := ⟨h.os, h.tape, h.output, h.size, fun b hb => h.keep b hb (hn b)⟩
theorem noRW (b : Nat) : ¬ RW (fun _ => .none) b := fun ⟨_, _, hl, _⟩ => nomatch hl
theorem Still.after {Δ : Env} {h : Hp} {W W' : World} (hs : Still W W') (hW : WR Δ h W) {v : V} {x : Value} (hv : VRel (fun _ => .none) v x) : After Δ h W v h Δ x W' where
  val := hv.mono fun _ _ h => by cases h
  world := ⟨hW.fresh, fun l d hl => Nat.lt_of_lt_of_le (hW.blk l d hl) hs.size, fun l d hl => by rw [hs.keep _ (hW.blk l d hl)]; exact hW.obj l d hl, hW.apart, hW.glob, hW.gnext, hW.tab.step (fun b hb _ => hs.keep b hb) (by simp_all)⟩
  frame := ⟨Env.le_refl _, hs.size, hs.os, hs.tape, hs.output, fun b hb _ => hs.keep b hb, by simp_all⟩
  grow := .refl _ _
mutual
theorem flat_rel {Δ Δ' : Env} : ∀ {v : V} {x : Value}, VRel Δ v x → v.flat = true → VRel Δ' v x
  | _, _, .bool b, _ => .bool b
  | _, _, .int k n, _ => .int k n
  | _, _, .str s, _ => .str s
  | _, _, .nilPtr, _ => .nilPtr
  | _, _, .nilSlice, _ => .nilSlice
  | _, _, .nilMap, _ => .nilMap
  | _, _, .nilFunc, _ => .nilFunc
  | _, _, .nilIface, _ => .nilIface
  | _, _, .agg cs cs' h, hf => .agg cs cs' (flats_rel h (by rwa [V.flat] at hf))
  | _, _, .tuple cs cs' h, hf => .tuple cs cs' (flats_rel h (by rwa [V.flat] at hf))
  | _, _, .ptr .., hf => by simp [V.flat] at hf
  | _, _, .slice .., hf => by simp [V.flat] at hf
  | _, _, .map .., hf => by simp [V.flat] at hf
  | _, _, .func .., hf => by simp [V.flat] at hf
  | _, _, .iface .., hf => by simp [V.flat] at hf
theorem flats_rel {Δ Δ' : Env} : ∀ {vs : List V} {xs : List Value}, VsRel Δ vs xs → flats vs = true → VsRel Δ' vs xs
  | _, _, .nil, _ => .nil
  | _, _, .cons v v' vs vs' h hs, hf => by
    rw [flats, Bool.and_eq_true] at hf
    exact .cons _ _ _ _ (flat_rel h hf.1) (flats_rel hs hf.2)
end
/-- What must be known of the program itself. -/
structure Facts (C : Cfg) : Prop where
  startD : ∀ args, (C.start args).ds = []
  start : ∀ args i, tget (C.start args) i = (args[i]?).getD .undef
  mixed : P0.follows .mixedOrders = true
  named : ∀ (f : Nat) fn, P0.funcs[f]? = some fn → (fn.name == "runtime.NumGoroutine") = false
  ext : ∀ f fn, P0.funcs[f]? = some fn → fn.body = none → ∀ Δ args v args' w, extF (C.ext f) args = some v → VsRel Δ args args'.toList →
    ∃ x, (callFunc f args').run P0 w = .ok (.value x) w ∧ VRel Δ v x
  known : ∀ f args v h, C.K f args h = some v → flats args = true → v.flat = true → ∀ Δ W args', WR Δ h W → VsRel (fun _ => .none) args args'.toList →
    Calls P0 f args' W fun e W' => ∃ x, e = .returned x ∧ VRel (fun _ => .none) v x ∧ Still W W'
  told : ∀ f g, C.R f = some g → ∀ args v h h', g args h = some (v, h') → ∀ Δ w args', WR Δ h w → VsRel Δ args args'.toList →
    Calls P0 f args' w fun e w' => ∃ Δ' x, e = .returned x ∧ After Δ h w v h' Δ' x w'

section
variable {n : Nat} {call : Call}
theorem order_its {its ws : List It} (hw : ∀ x ∈ ws, x ∈ its) : ∀ l k, (∀ x ∈ l, x ∈ its) → ∀ a ∈ order its ws l k, a ∈ its
  | [], k, _, a, ha => (List.mem_filter.1 ha).1
  | w :: l, k, hl, a, ha => by
    simp [order, List.mem_append] at ha
    rcases ha with h | rfl | h
    · exact (List.mem_filter.1 h).1
    · simp_all
    · exact order_its hw l (k + 1) (by simp_all) a h
theorem draw_core (hc : CallOk call) (hmix : P0.follows .mixedOrders = true) {id : Nat} {ops : Array Oper} {Δ : Env} {h : Hp} {w : World} {t : Tm} {a : Act} (hW : WR Δ h w) (hT : TR Δ n t a)
    {r : Tm × Hp} (hp : pairsOk (Its ops) = true) (hg : (Its ops).all (guardOk (Its ops)) = true) (he : (Its ops).all edgesOk = true) (hord : orderOk (Its ops) (wsOf (Its ops)) (order (Its ops) (wsOf (Its ops)) (wsOf (Its ops)) 0) 0 0 = true)
    (hv : (seqC n ops.toList (wsOf (Its ops)) (order (Its ops) (wsOf (Its ops)) (wsOf (Its ops)) 0) 0).f call t h [] = some r) {Q : Exit → Act → World → Prop} (hQ : ∀ Δ' a' w', Goes Δ h w n r.1 r.2 Δ' a' w' → Q .normal a' w')
    (hesc : ∀ T, TraceOk n ops.toList (Its ops) (wsOf (Its ops)) call t h (order (Its ops) (wsOf (Its ops)) (wsOf (Its ops)) 0) 0 0 h [] r T T → ∀ fuel listed act w' j Δ' t' a, 0 ≤ j → listed.toList.count false ≤ fuel + 1 →
      Inv n ops t h Δ w T listed j Δ' t' act w' → a ∈ Its ops → cls a.o = 2 → listed.getD a.i false = false → (∀ x ∈ Its ops, a.b.testBit x.i = true → listed.getD x.i false = true) → (wsOf (Its ops))[j]? ≠ some a →
      wpOp P0 ops Q a.i (wpAny P0 .any ops Q fuel (listed.setIfInBounds a.i true)) act w') : (Code.region id ops true).wp P0 Q a w := by
  have hsub : ∀ x ∈ order (Its ops) (wsOf (Its ops)) (wsOf (Its ops)) 0, x ∈ Its ops := by grind[order_its,ws_its]
  let T0 : Tc := ⟨fun _ => false, fun _ => .undef, fun _ => .tree .leaf [], fun _ => 0, fun _ => 0, fun _ => default, fun _ => h, fun _ => h⟩
  let ⟨T, hTr⟩ := trace (t0 := t) its_ix hp _ 0 0 t h [] r T0 hsub hord hv (fun a ha hx => by simp at hx)
    (by grind[lastV_idle]) (Nat.le_refl _) (by omega) (Nat.zero_le _)
  have hTT : TraceOk n ops.toList (Its ops) (wsOf (Its ops)) call t h _ 0 0 h [] r T T :=
    ⟨by simp_all, by omega, hTr.item, hTr.recs, hTr.more, hTr.chain, hTr.plow, hTr.pdist, hTr.last, hTr.temps, hTr.done, hTr.kle⟩
  refine wp_region_any hmix (inv_any hc hp hg he 0 (by grind) hsub hTT (seqC_ds _ _ hv) hQ ops.size _ a _ 0 Δ t (Nat.le_refl _) ?_ ⟨by simp, fun x hx hxs => ?_, Nat.zero_le _, fun q x hq => ?_, hT, fun d => ?_, (hW.heap (w' := { w with drawn := w.drawn + 1 }) rfl).onward hTr.more,
    ⟨Env.le_refl _, Nat.le_refl _, rfl, rfl, rfl, by simp_all, by simp_all⟩, by simp_all, rfl, fun x hx h1 h2 _ _ => ?_⟩)
  · simp_all
  · simp [Array.getD_eq_getD_getElem?, Array.getElem?_replicate] at hxs
    grind
  · constructor
    · intro hh
      simp [Array.getD_eq_getD_getElem?, Array.getElem?_replicate] at hh
      grind
    omega
  · refine (lastV_idle (fun x _ _ => ?_) _).symm
    simp [Array.getD_eq_getD_getElem?, Array.getElem?_replicate]
    grind
  · have hxl : x ∈ order (Its ops) (wsOf (Its ops)) (wsOf (Its ops)) 0 := by
      rcases hTr.done x hx with h3 | h3
      · simp_all
      · grind[its_eq]
    have := hTr.plow x hxl h1 h2
    cases hd' : Δ (T.pl x.i) with
    | none => rfl
    | some e => have := hW.fresh _ _ hd'; omega
theorem draw_wp (hc : CallOk call) (hmix : P0.follows .mixedOrders = true) {id : Nat} {ops : Array Oper} {Δ : Env} {h : Hp} {w : World} {t : Tm} {a : Act} (hW : WR Δ h w) (hT : TR Δ n t a)
    {r : Tm × Hp} (hv : (drawC n ops.toList).f call t h = some r) {Q : Exit → Act → World → Prop} (hQ : ∀ Δ' a' w', Goes Δ h w n r.1 r.2 Δ' a' w' → Q .normal a' w') : (Code.region id ops true).wp P0 Q a w := by
  unfold drawC at hv
  split at hv
  · rename_i hok
    simp [ drawOk] at hok
    grind[draw_core,esc_chain]
  · split at hv
    · rename_i pr hfp hok
      simp only [Bool.and_eq_true, drawOk2] at hok
      let ⟨⟨⟨hp, hg⟩, he⟩, hord⟩ := hok
      simp only [oB_eq, bB_eq] at hv
      obtain ⟨r', hv, hap, hr⟩ := hv
      cases hr
      let ⟨x, y, da, db⟩ := pr
      let ⟨h1, h2, h3, h4, h5, h6, h7⟩ := freePair_eq hfp
      let ⟨p, g1, g2, g3⟩ := lastTwo_eq h1
      have hsub : ∀ x ∈ order (Its ops) (wsOf (Its ops)) (wsOf (Its ops)) 0, x ∈ Its ops := by grind[order_its,ws_its]
      exact draw_core hc hmix hW hT hp hg he hord hv hQ fun T hTT => esc_pair hc hp hg he hsub hTT ⟨g1, g2, g3, h2, h3, h4, h5, h6, h7, hap⟩ (seqC_ds _ _ hv) hQ
    · cases hv

def X.to : X → Exit
  | .normal => .normal
  | .exit id => .exit id
  | .ret => .ret
theorem seqK_eq {r : Option (X × Tm × Hp)} {k : Tm → Hp → Option (X × Tm × Hp)} {y : X × Tm × Hp} (h : seqK r k = some y) :
    (∃ t h', r = some (.normal, t, h') ∧ k t h' = some y) ∨ (r = some y ∧ y.1 ≠ .normal) := by
  unfold seqK at h
  grind
theorem then_ne {next : Act → World → Prop} {Q : Exit → Act → World → Prop} {x : X} (hx : x ≠ .normal) {a : Act} {w : World} (h : Q x.to a w) : Exit.then next Q x.to a w := by
  cases x with
  | normal => simp_all
  | exit id => exact h
  | ret => exact h
theorem code_wp (hc : CallOk call) (hmix : P0.follows .mixedOrders = true) {m : Nat} : ∀ c {Δ : Env} {h : Hp} {w : World} {t : Tm} {a : Act}, WR Δ h w → TR Δ n t a → ∀ {r : X × Tm × Hp},
    (codeC n c).f call m t h = some r → ∀ {Q : Exit → Act → World → Prop}, (∀ Δ' a' w', Goes Δ h w n r.2.1 r.2.2 Δ' a' w' → Q r.1.to a' w') → c.wp P0 Q a w
  | .skip, Δ, h, w, t, a, hW, hT, r, hv, Q, hQ => by cases hv; exact wp_skip (hQ _ _ _ (.start hT hW))
  | .seq x y, Δ, h, w, t, a, hW, hT, r, hv, Q, hQ => by
    refine wp_seq ?_
    rcases seqK_eq hv with ⟨t1, h1, e1, e2⟩ | ⟨e1, e2⟩
    · exact code_wp hc hmix x hW hT e1 fun Δ' a' w' hg => code_wp hc hmix y hg.world hg.tmps e2 fun Δ'' a'' w'' hg' => hQ _ _ _ (hg.trans hg')
    · exact code_wp hc hmix x hW hT e1 (by grind[then_ne])
  | .cond c x y, Δ, h, w, t, a, hW, hT, r, hv, Q, hQ => by
    simp [codeC, oB_eq] at hv
    let ⟨v, h1, h2⟩ := hv
    have hr := evO_ok hW hT h1
    split at h2
    · rename_i b
      generalize hx : a.eval c = xv at hr
      cases hr
      cases b with
      | true => exact wp_cond_true hx (code_wp hc hmix x hW hT h2 hQ)
      | false => exact wp_cond_false hx (code_wp hc hmix y hW hT h2 hQ)
    · cases h2
  | .block id c, Δ, h, w, t, a, hW, hT, r, hv, Q, hQ => by
    simp [codeC] at hv
    refine wp_block ?_
    cases hr : (codeC n c).f call m t h with
    | none => rw [hr] at hv; cases hv
    | some r' =>
      rw [hr] at hv
      refine code_wp hc hmix c hW hT hr fun Δ' a' w' hg => ?_
      let ⟨x, t', h'⟩ := r'
      cases x with
      | normal => cases hv; exact hQ _ _ _ hg
      | ret => cases hv; exact hQ _ _ _ hg
      | exit id' =>
        simp [blockK] at hv
        show if id' = id then Q .normal a' w' else Q (.exit id') a' w'
        cases hb : Nat.beq id' id with
        | true =>
          rw [hb] at hv
          have := Nat.eq_of_beq_eq_true hb
          rw [if_pos this]
          cases hv
          exact hQ _ _ _ hg
        | false =>
          rw [hb] at hv
          have : id' ≠ id := by grind[Nat.beq_refl]
          rw [if_neg this]
          cases hv
          exact hQ _ _ _ hg
  | .loop c, Δ, h, w, t, a, hW, hT, r, hv, Q, hQ => by
    simp [codeC] at hv
    refine LoopWp.wp ?_
    have key : ∀ k {Δ : Env} {h : Hp} {w : World} {t : Tm} {a : Act}, WR Δ h w → TR Δ n t a → loopN (fun t h => (codeC n c).f call m t h) k t h = some r →
        (∀ Δ' a' w', Goes Δ h w n r.2.1 r.2.2 Δ' a' w' → Q r.1.to a' w') → LoopWp c Q a w := by
      intro k
      induction k with
      | zero => intro Δ h w t a _ _ hv _; cases hv
      | succ k ih =>
        intro Δ h w t a hW hT hv hQ
        have hv' := hv
        refine LoopWp.round ?_
        rcases seqK_eq hv' with ⟨t1, h1, e1, e2⟩ | ⟨e1, e2⟩
        · exact code_wp hc hmix c hW hT e1 fun Δ' a' w' hg => ih hg.world hg.tmps e2 fun Δ'' a'' w'' hg' => hQ _ _ _ (hg.trans hg')
        · exact code_wp hc hmix c hW hT e1 (by grind[then_ne])
    grind
  | .exit id, Δ, h, w, t, a, hW, hT, r, hv, Q, hQ => by cases hv; exact wp_exit (hQ _ _ _ (.start hT hW))
  | .ret, Δ, h, w, t, a, hW, hT, r, hv, Q, hQ => by cases hv; exact wp_ret (hQ _ _ _ (.start hT hW))
  | .region id ops false, Δ, h, w, t, a, hW, hT, r, hv, Q, hQ => by
    simp only [codeC, oB_eq] at hv
    let ⟨r', h1, h2⟩ := hv
    cases h2
    refine wp_region ?_
    have := region_wp hc ops.toList 0 rfl hW hT h1 hQ
    grind[List.range_eq_range']
  | .region id ops true, Δ, h, w, t, a, hW, hT, r, hv, Q, hQ => by
    simp only [codeC, oB_eq] at hv
    let ⟨r', h1, h2⟩ := hv
    cases h2
    exact draw_wp hc hmix hW hT h1 hQ
  | .rangeFunc .., Δ, h, w, t, a, hW, hT, r, hv, Q, hQ => by cases hv
  | .scope _, Δ, h, w, t, a, hW, hT, r, hv, Q, hQ => by cases hv
  | .label _, Δ, h, w, t, a, hW, hT, r, hv, Q, hQ => by cases hv
  | .goto _, Δ, h, w, t, a, hW, hT, r, hv, Q, hQ => by cases hv
  | .refuse _, Δ, h, w, t, a, hW, hT, r, hv, Q, hQ => by cases hv

/-! ### functions -/
noncomputable def tgetT (t : Tr V) (i : Nat) : V := Option.rec V.undef (fun v => v) (t.get i)
theorem tgetT_set (t : Tr V) (d i : Nat) (v : V) : tgetT (t.set d v) i = if d = i then v else tgetT t i := tget_set (.tree t []) d i v
theorem initT_get : ∀ args i t j, tgetT (initT args i t) j = if i ≤ j ∧ j < i + args.length then args[j - i]?.getD .undef else tgetT t j
  | [], i, t, j => by rw [if_neg (by simp_all)]; rfl
  | v :: vs, i, t, j => by
    simp [initT]
    rw [initT_get vs (i + 1) (t.set i v) j]
    by_cases h1 : i + 1 ≤ j ∧ j < i + 1 + vs.length
    · grind
    · rw [ tgetT_set]
      grind
theorem startT_get (args : List V) (i : Nat) : tget (startT args) i = (args[i]?).getD .undef := by
  have h := initT_get args 0 .leaf i
  rw [show tget (startT args) i = tgetT (initT args 0 .leaf) i from rfl, h]
  simp_all[Nat.sub_zero,tgetT,Tr.get_leaf]
theorem start_rel {C : Cfg} (hF : Facts C) {Δ : Env} {args : List V} {args' : Array Value} (ha : VsRel Δ args args'.toList) {k : Nat} (hk : args.length ≤ k) :
    TR Δ k (C.start args) { tmps := args' ++ Array.replicate (k - args'.size) undef, defers := [] } := by
  have hl := ha.length
  simp [Array.length_toList] at hl
  refine ⟨by simp; omega, fun i => ?_, by rw [hF.startD]; exact .nil⟩
  rw [hF.start]
  simp [Array.getD_eq_getD_getElem?]
  by_cases h : i < args.length
  · rw [Array.getElem?_append_left (by omega)]
    let ⟨x, hx, hr⟩ := ha.get i args[i] (by simp_all)
    grind
  · rw [List.getElem?_eq_none (by omega), Array.getElem?_append_right (by omega), Array.getElem?_replicate]
    split <;> exact .undef Δ
def resM (tmps : Array Value) : ResultVar → Sem Value
  | .tmp t => pure (tmps.getD t undef)
  | .cell b ty => do loadVar ty (← asAddr (tmps.getD b undef))
theorem res_ok {Δ : Env} {h : Hp} {w : World} {t : Tm} {a : Act} (hW : WR Δ h w) (hT : TR Δ n t a) : ∀ {l : List ResultVar} {vs : List V}, resVs t h l = some vs →
    ∃ xs, (l.mapM (resM a.tmps)).run P0 w = .ok xs w ∧ VsRel Δ vs xs
  | [], vs, hv => by simp [resVs] at hv; subst hv; exact ⟨[], by simp, .nil⟩
  | .tmp i :: l, vs, hv => by
    simp [resVs, oB_eq] at hv
    let ⟨v, h1, vs', h2, h3⟩ := hv
    cases h3
    let ⟨xs, h4, h5⟩ := res_ok hW hT h2
    cases h1
    have hp : (resM a.tmps (.tmp i)).run P0 w = .ok (a.tmps.getD i undef) w := rfl
    exact ⟨a.tmps.getD i undef :: xs, by simp_all, .cons _ _ _ _ (hT.rel i) h5⟩
  | .cell b ty :: l, vs, hv => by
    simp [resVs, oB_eq] at hv
    let ⟨v, h1, vs', h2, h3⟩ := hv
    cases h3
    let ⟨xs, h4, h5⟩ := res_ok hW hT h2
    let ⟨x, h6, h7⟩ := hload_ok (xv := a.tmps.getD b undef) hW (fun v hv => by cases hv; exact hT.rel b) h1
    have hptr : ∃ ad, a.tmps.getD b undef = .pointer (some ad) := by
      cases hx : a.tmps.getD b undef with
      | pointer p => cases p with
        | some ad => simp_all
        | none => simp_all[Instr.loadAt,Instr.sureAddr]
      | _ => simp_all[Instr.loadAt,Instr.sureAddr]
    let ⟨ad, had⟩ := hptr
    rw [had] at h6
    have hlv : (loadVar ty ad).run P0 w = .ok x w := by simpa [Instr.loadAt, Instr.sureAddr] using h6
    have hp : (resM a.tmps (.cell b ty)).run P0 w = .ok x w := by simp [resM, had, asAddr, hlv]
    exact ⟨x :: xs, by simp_all, .cons _ _ _ _ h7 h5⟩
theorem results_ok {Δ : Env} {h : Hp} {w : World} {t : Tm} {a : Act} (hW : WR Δ h w) (hT : TR Δ n t a) {fn : Func} {vs : List V} (hv : resVs t h fn.results.toList = some vs) :
    ∃ x, (results fn a.tmps).run P0 w = .ok x w ∧ VRel Δ (tupleOf vs) x := by
  let ⟨xs, h1, h2⟩ := res_ok hW hT hv
  have hm : (results fn a.tmps).run P0 w = .ok (if h : xs.toArray.size = 1 then xs.toArray[0] else .tuple xs.toArray) w := by
    have h0 : results fn a.tmps = (do let vs ← fn.results.mapM (resM a.tmps); pure (if h : vs.size = 1 then vs[0] else .tuple vs)) := by
      congr 1
    rw [h0, Array.mapM_eq_mapM_toList]
    simp only [Sem.run_bind, map_eq_pure_bind, h1, Result.andThen_ok, Sem.run_pure]
  refine ⟨_, hm, ?_⟩
  cases h2 with
  | nil => exact .tuple _ #[] .nil
  | cons v x vs xs hvx hs =>
    cases hs with
    | nil => exact hvx
    | cons v2 x2 vs xs hv2 hs =>
      rw [dif_neg (by simp)]
      exact .tuple _ _ (.cons _ _ _ _ hvx (.cons _ _ _ _ hv2 hs))
theorem dend_ok {Δ Δ' : Env} {h : Hp} {w w' : World} {n : Nat} {fn : Func} {r : X × Tm × Hp} {a' : Act} {v : V} {h' : Hp} (hg : Goes Δ h w n r.2.1 r.2.2 Δ' a' w') (hv : dendC fn r = some (v, h')) :
    (r.1 = .normal ∨ r.1 = .ret) ∧ a'.defers = [] ∧ ∃ y, (results fn a'.tmps).run P0 w' = .ok y w' ∧ ∃ Δ'' z, Ending.returned y = .returned z ∧ After Δ h w v h' Δ'' z w' := by
  let ⟨x, t', h''⟩ := r
  have hres : (match t'.ds with
      | [] => oB (resVs t' h'' fn.results.toList) fun vs => some (tupleOf vs, h'')
      | _ :: _ => none) = some (v, h') → a'.defers = [] ∧ ∃ y, (results fn a'.tmps).run P0 w' = .ok y w' ∧
      ∃ Δ'' z, Ending.returned y = .returned z ∧ After Δ h w v h' Δ'' z w' := by
    intro he
    split at he
    · rename_i hds
      simp only [oB_eq] at he
      let ⟨vs, hvs, he⟩ := he
      cases he
      let ⟨y, hy, hyr⟩ := results_ok hg.world hg.tmps hvs
      have hd := hg.tmps.ds
      rw [hds] at hd
      have hd' : a'.defers = [] := by cases hx : a'.defers with
        | nil => rfl
        | cons _ _ => rw [hx] at hd; cases hd
      exact ⟨hd', y, hy, Δ', y, rfl, hyr, hg.world, hg.frame, hg.grow⟩
    · cases he
  cases x with
  | exit id => cases hv
  | normal => exact ⟨.inl rfl, hres hv⟩
  | ret => exact ⟨.inr rfl, hres hv⟩
theorem recover_run {o : Oper} {c : Go.Call} (hop : o.op = .call c) (hc : c.callee = .builtin .recover) (ρ : Operand → Value) (w : World) : (execOp ρ o).run P0 w = .ok .recover w := by
  unfold execOp
  rw [hop]
  simp [ resolve, hc]
  rfl
theorem rec_split {c rest : Code} {d : Nat} (h : recOf c = some (d, rest)) : ∃ id o cl, c = .seq (.region id #[o] false) rest ∧ o.op = .call cl ∧ cl.callee = .builtin .recover ∧ o.guard = none ∧ o.dst = some d := by
  unfold recOf at h
  split at h
  · rename_i id ops rest'
    split at h
    · rename_i o ho
      split at h
      · rename_i cl hop
        split at h
        · rename_i d' hcl hgd hdst
          cases h
          refine ⟨id, o, cl, ?_, hop, hcl, hgd, hdst⟩
          congr 2
          grind
        · cases h
      · cases h
    · cases h
  · cases h
theorem dfunc_ok {C : Cfg} (hF : Facts C) (hc : CallOk call) {m f : Nat} {args : List V} {v : V} {h h' : Hp} {Δ : Env} {w : World} {args' : Array Value} (hv : (dfuncC C f).f call m args h = some (v, h'))
    (hW : WR Δ h w) (ha : VsRel Δ args args'.toList) : (callFunc f args').run P0 w = .ok (.enter f args') w ∧
      CallsD P0 f args' .returning w fun e u' w' => u' = .returning ∧ ∃ Δ' x, e = .returned x ∧ After Δ h w v h' Δ' x w' := by
  unfold dfuncC at hv
  split at hv
  · rename_i fn hf
    split at hv
    · rename_i c hb
      refine ⟨?_, ?_⟩
      · have hn := hF.named f fn hf
        simp_all[callFunc,Sem.run_bind]
      split at hv
      · rename_i d rest hrec
        simp only [bB_eq, oB_eq] at hv
        let ⟨hle, hd, r, h1, h2⟩ := hv
        have hle' := Nat.le_of_ble_eq_true hle
        obtain ⟨id, o, cl, rfl, hop, hcl, hgd, hdst⟩ := rec_split hrec
        refine callsD_of_wpS hf hb fun c₀ cs hc0 => ?_
        have hst := start_rel hF ha hle'
        have hdc : dstC fn.ntmps o = some ⟨fun t v => t.set d v⟩ := by unfold dstC; rw [hdst]; simp [hd]
        have hT := put_ok hst hdc .nilIface
        refine wpS_seq (wpS_region ?_)
        have hrange : List.range (#[o] : Array Oper).size = [0] := rfl
        rw [hrange]
        simp only [wpOpsS]
        have h0 : (#[o] : Array Oper)[0]? = some o := rfl
        simp []
        have hwant : ∀ y, Region.wanted o y = true := by grind[Region.wanted]
        rw [if_pos (hwant _), recover_run hop hcl]
        have hnone : recoverD (c₀ :: cs) = none := by simp [recoverD, hc0]
        simp [hnone]
        show rest.wpS P0 _ _ _ _
        refine wpS_of_wp ?_
        refine code_wp hc hF.mixed rest hW hT h1 fun Δ' a' w' hg => ?_
        let ⟨hx, hd', y, hy, hz⟩ := dend_ok hg h2
        have hmode : ({ c₀ with mode := .returning } : Frame) = c₀ := by rw [← hc0]
        rcases hx with hx | hx <;> rw [hx] <;> exact ⟨hd', .returning, by rw [hmode], y, hy, rfl, hz⟩
      · simp only [bB_eq, oB_eq] at hv
        let ⟨hle, r, h1, h2⟩ := hv
        have hle' := Nat.le_of_ble_eq_true hle
        refine callsD_of_wp hf hb ?_
        refine code_wp hc hF.mixed c hW (by grind[start_rel]) h1 fun Δ' a' w' hg => ?_
        let ⟨hx, hd', y, hy, hz⟩ := dend_ok hg h2
        rcases hx with hx | hx <;> rw [hx] <;> exact ⟨hd', y, hy, hz⟩
    · cases hv
  · cases hv
theorem runD_ok {C : Cfg} (hF : Facts C) (hc : CallOk call) {m : Nat} {fn : Func} {tmps : Array Value} {R : Ending → World → Prop} : ∀ l {l' : List Deferred} {Δ : Env} {h h' : Hp} {w : World},
    runD C call m l h = some h' → WR Δ h w → DsRel Δ l l' →
    (∀ Δ' w', WR Δ' h' w' → FR Δ Δ' w w' → Gr h Δ h' Δ' → ∃ v, (results fn tmps).run P0 w' = .ok v w' ∧ R (.returned v) w') → Leaves P0 fn tmps R l' .returning w
  | [], _, Δ, h, h', w, hv, hW, .nil, hR => by
    cases hv
    exact hR Δ w hW (.refl _ _) (.refl _ _)
  | (g, args) :: l, _, Δ, h, h', w, hv, hW, .cons _ _ cap args' _ l' ha hl, hR => by
    simp only [runD, oB_eq] at hv
    let ⟨⟨v, h1⟩, h2, h3⟩ := hv
    let ⟨h4, h5⟩ := dfunc_ok hF hc h2 hW ha
    refine leaves_cons (by simp_all) h4 ?_
    refine CallsD.mono h5 fun e u' w' he => ?_
    obtain ⟨rfl, Δ', x, rfl, hA⟩ := he
    exact runD_ok hF hc l h3 hA.world (hl.mono hA.frame.le) fun Δ'' w'' h6 h7 h8 => hR Δ'' w'' h6 (hA.frame.trans h7) (hA.grow.trans h8)
theorem func_ok {C : Cfg} (hF : Facts C) (hc : CallOk call) {m : Nat} : CallOk fun f args h => (funcC C f).f call m args h := by
  intro f args v h h' Δ w args' hv hW ha
  simp only at hv
  unfold funcC at hv
  split at hv
  · rename_i fn hf
    split at hv
    · rename_i c hb
      right
      have henter : (callFunc f args').run P0 w = .ok (.enter f args') w := by
        have hn := hF.named f fn hf
        simp only [callFunc, Sem.run_bind, run_program, Result.andThen_ok, hf, hn, hb, Option.isNone_some, Bool.false_eq_true, if_false]
        rfl
      refine ⟨henter, ?_⟩
      simp [orB] at hv
      cases hr : C.R f with
      | some g =>
        rw [hr] at hv
        exact hF.told f g hr args _ _ _ hv Δ w args' hW ha
      | none =>
      rw [hr] at hv
      simp only at hv
      cases hk : C.K f args h with
      | some u =>
        rw [hk] at hv
        simp only [bB_eq, Bool.and_eq_true] at hv
        let ⟨⟨hf1, hf2⟩, hv⟩ := hv
        cases hv
        refine Calls.mono (hF.known f args _ _ hk hf1 hf2 Δ w args' hW (flats_rel ha hf1)) fun e w' he => ?_
        obtain ⟨x, rfl, hx, hs⟩ := he
        exact ⟨Δ, x, rfl, hs.after hW hx⟩
      | none =>
        rw [hk] at hv
        simp only [bB_eq, oB_eq] at hv
        let ⟨hle, r, h1, h2⟩ := hv
        have hle' := Nat.le_of_ble_eq_true hle
        refine calls_of_wp_defers hf hb ?_
        refine code_wp hc hF.mixed c hW (by grind[start_rel]) h1 fun Δ' a' w' hg => ?_
        let ⟨x, t', h''⟩ := r
        have hres : (∃ h3, runD C call m t'.ds h'' = some h3 ∧ ∃ vs, resVs t' h3 fn.results.toList = some vs ∧ some (tupleOf vs, h3) = some (v, h')) →
            Leaves P0 fn a'.tmps (fun e w' => ∃ Δ' x, e = .returned x ∧ After Δ h w v h' Δ' x w') a'.defers .returning w' := by
          rintro ⟨h3, hd, vs, hvs, he⟩
          cases he
          refine runD_ok hF hc _ hd hg.world hg.tmps.ds fun Δ'' w'' h6 h7 h8 => ?_
          let ⟨y, hy, hyr⟩ := results_ok h6 (hg.tmps.mono h7.le) hvs
          exact ⟨y, hy, Δ'', y, rfl, hyr, h6, hg.frame.trans h7, hg.grow.trans h8⟩
        cases x with
        | exit id => cases h2
        | normal => simp only [oB_eq] at h2; exact hres h2
        | ret => simp only [oB_eq] at h2; exact hres h2
    · rename_i hb
      left
      simp only [oB_eq] at hv
      let ⟨u, h1, h2⟩ := hv
      cases h2
      let ⟨x, h3, h4⟩ := hF.ext f fn hf hb Δ args _ args' w h1 ha
      exact ⟨x, h3, h4, hW, .refl _ _, .refl _ _⟩
  · cases hv
/-- The plain machine is right. -/
theorem callN_ok {C : Cfg} (hF : Facts C) (m : Nat) : ∀ d, CallOk (callN C m d)
  | 0 => fun _f _args _v _h _h' _Δ _w _args' hv => (nomatch hv)
  | d + 1 => func_ok hF (callN_ok hF m d)
end
end Go.Proofs.YtgfdhkhcojjkjaaGreatDoor.Hx
/- From the plain machine's answer to a law's: functions without a body that it knows; worlds that are kept; a law without arguments that is true. -/
namespace Go.Proofs.YtgfdhkhcojjkjaaGreatDoor.Hx

theorem countB_eq (c : Nat) (hc : c < 256) : ∀ l n, countB c l n = n + l.count (UInt8.ofNat c)
  | [], n => by rfl
  | b :: l, n => by
    simp [countB]
    rw [countB_eq c hc l, List.count_cons]
    have hb : Nat.beq b.toNat c = (b == UInt8.ofNat c) := by
      rw [Bool.eq_iff_iff]
      simp only [beq_iff_eq]
      constructor
      · intro h
        have h' := Nat.eq_of_beq_eq_true h
        rw [← h']; simp
      · simp_all
    rw [hb]
    cases b == UInt8.ofNat c
    · simp
    grind
theorem indexB_eq (c : Nat) (hc : c < 256) : ∀ l n, (match indexB c l n with | some i => (i : Int) | none => -1) = if Lib.indexByte l (UInt8.ofNat c) = -1 then -1 else Lib.indexByte l (UInt8.ofNat c) + n
  | [], n => by rfl
  | b :: l, n => by
    simp [indexB]
    have hb : Nat.beq b.toNat c = (b == UInt8.ofNat c) := by
      rw [Bool.eq_iff_iff]
      simp only [beq_iff_eq]
      constructor
      · intro h
        have h' := Nat.eq_of_beq_eq_true h
        rw [← h']; simp
      · simp_all
    rw [hb]
    unfold Lib.indexByte
    cases hbc : b == UInt8.ofNat c with
    | true => simp
    | false =>
      have ih := indexB_eq c hc l (n + 1)
      have hge := Lib.indexByte_ge l (UInt8.ofNat c)
      grind
theorem ext_count {f : Nat} {fn : Func} (hf : P0.funcs[f]? = some fn) (hname : (fn.name == "runtime.NumGoroutine") = false) (hb : fn.body.isNone = true) (hn : Extern.findNext fn = none) (he : Extern.find fn = some Extern.BytealgCount.count)
    {Δ : Env} {args : List V} {v : V} {args' : Array Value} {w : World} (hv : extF .countByte args = some v) (ha : VsRel Δ args args'.toList) : ∃ x, (callFunc f args').run P0 w = .ok (.value x) w ∧ VRel Δ v x := by
  unfold extF at hv
  split at hv
  · rename_i s c _
    rw [bB_eq] at hv
    let ⟨hc, hv⟩ := hv
    have hc' : c < 256 := by rw [Nat.blt_eq] at hc; exact hc
    cases hv
    let ⟨l⟩ := args'
    cases ha with
    | cons _ x _ xs hx hs =>
      cases hs with
      | cons _ y _ ys hy hs =>
        cases hs
        cases hy
        cases hx with
        | str sb =>
          have hr := Lib.run_countString (P := P0) sb (Int.ofNat c) w
          refine ⟨.int .i64 (Lib.countByte sb.data.toList (Int.ofNat c).toNat.toUInt8), ?_, ?_⟩
          · rw [run_callFunc_extern hf hname hb hn he]
            simp_all
          have e : countB c sb.data.toList 0 = Lib.countByte sb.data.toList (Int.ofNat c).toNat.toUInt8 := by
            rw [countB_eq c hc', Nat.zero_add]; rfl
          rw [e]
          exact .int _ _
  · simp_all
  · cases hv
theorem ext_index {f : Nat} {fn : Func} (hf : P0.funcs[f]? = some fn) (hname : (fn.name == "runtime.NumGoroutine") = false) (hb : fn.body.isNone = true) (hn : Extern.findNext fn = none) (he : Extern.find fn = some Extern.BytealgIndexByte.indexByte)
    {Δ : Env} {args : List V} {v : V} {args' : Array Value} {w : World} (hv : extF .indexByte args = some v) (ha : VsRel Δ args args'.toList) : ∃ x, (callFunc f args').run P0 w = .ok (.value x) w ∧ VRel Δ v x := by
  unfold extF at hv
  split at hv
  · simp_all
  · rename_i s c _
    rw [bB_eq] at hv
    let ⟨hc, hv⟩ := hv
    have hc' : c < 256 := by rw [Nat.blt_eq] at hc; exact hc
    let ⟨l⟩ := args'
    cases ha with
    | cons _ x _ xs hx hs =>
      cases hs with
      | cons _ y _ ys hy hs =>
        cases hs
        cases hy
        generalize hsl : s = sl at hx
        cases hx with
        | str sb =>
          have hr := Lib.run_indexByteString (P := P0) sb (Int.ofNat c) w
          refine ⟨.int .i64 (Lib.indexByte sb.data.toList (Int.ofNat c).toNat.toUInt8), ?_, ?_⟩
          · rw [run_callFunc_extern hf hname hb hn he]
            simp_all
          have e := indexB_eq c hc' sb.data.toList 0
          have e2 : (if Lib.indexByte sb.data.toList (UInt8.ofNat c) = -1 then -1 else Lib.indexByte sb.data.toList (UInt8.ofNat c) + ((0 : Nat) : Int)) = Lib.indexByte sb.data.toList (Int.ofNat c).toNat.toUInt8 := by
            show _ = Lib.indexByte sb.data.toList (UInt8.ofNat c)
            split
            · omega
            · simp
          rw [e2] at e
          rw [← e]
          rw [hsl] at hv
          split at hv
          · rename_i i hi; cases hv; rw [hi]; exact .int _ _
          · rename_i hi; cases hv; rw [hi]; exact .int _ _
  · cases hv

/-! ### worlds -/
/-- All that was there is as it was. -/
def Kept (W W' : World) : Prop := W'.os = W.os ∧ W'.output = W.output ∧ W.heap.size ≤ W'.heap.size ∧ ∀ b, b < W.heap.size → W'.heap[b]? = W.heap[b]?
theorem Kept.but {W W' : World} (h : Kept W W') (may : MemPlace → Prop) : W.keptBut W' may := by
  refine ⟨h.1, h.2.1, fun i hi => ?_⟩
  rw [h.2.2.2 i hi]
  grind
theorem FR.kept {Δ Δ' : Env} {w w' : World} (h : FR Δ Δ' w w') (hn : ∀ b, ¬ RW Δ b) : Kept w w' := ⟨h.os, h.output, h.size, fun b hb => h.keep b hb (hn b)⟩
def isTrue : Option (V × Hp) → Bool
  | some (.bool true, _) => true
  | _ => false
theorem TabOk.none {Δ : Env} {w : World} (h : TabOk Δ w) : TabOk (fun _ => none) w := fun g c hm => ⟨(h g c hm).1, by simp_all⟩
theorem WR.start (n : Nat) (hn : P0.globals.size ≤ n) (w : World) (ht : TabOk (fun _ => none) w) : WR (fun _ => none) { next := n, tr := .leaf } w :=
  ⟨by simp_all, by simp_all, by simp_all, by simp_all, by grind[Hp.get_eq,Tr.get_leaf], hn, ht⟩
/-- A function without arguments that the plain machine finds true returns true, and leaves all that was there. -/
theorem known {C : Cfg} (hF : Facts C) {m d n f : Nat} (hn : P0.globals.size ≤ n) (hb : ∃ fn c, P0.funcs[f]? = some fn ∧ fn.body = some c) (hv : isTrue (callN C m d f [] { next := n, tr := .leaf }) = true) (W : World) (ht : TabOk (fun _ => none) W) :
    Calls P0 f #[] W fun e W' => e = .returned (.bool true) ∧ Kept W W' := by
  cases hr : callN C m d f [] { next := n, tr := .leaf } with
  | none => rw [hr] at hv; cases hv
  | some r =>
    let ⟨v, h'⟩ := r
    rw [hr] at hv
    have hvt : v = .bool true := by
      unfold isTrue at hv
      split at hv
      · simp_all
      · cases hv
    subst hvt
    rcases callN_ok hF m d f [] _ _ _ (fun _ => none) W #[] hr (by grind[WR.start]) .nil with ⟨x, h1, _⟩ | ⟨_, h2⟩
    · exfalso
      let ⟨fn, c, hf, hbd⟩ := hb
      have hnm := hF.named f fn hf
      have : (callFunc f #[]).run P0 W = .ok (.enter f #[]) W := by
        simp only [callFunc, Sem.run_bind, run_program, Result.andThen_ok, hf, hnm, hbd, Option.isNone_some, Bool.false_eq_true, if_false]
        rfl
      simp_all
    · refine Calls.mono h2 fun e w' he => ?_
      obtain ⟨Δ', x, rfl, hA⟩ := he
      have hx := hA.val
      cases hx
      exact ⟨rfl, hA.frame.kept fun b hb => (by let ⟨l, d, hl, _⟩ := hb; cases hl)⟩
open Go.ChangeShapes Go.WideShapes in
/-- What a row asks behind a call that left all that was there as it was. -/
theorem post_kept {H : Type} {enc : TypeId × Value → H} {P : Program} {f : Func} {s : ChangeSpec} {apart fresh handsOn again : Bool} {W W' : World} {args : Array Value} {v : Value} {ds gs : List (DataW H)}
    {before pa pv : List MemPlace} (hW : DataW.Whole enc P f.params.toList s.vars apart W args.toList ds gs before)
    (hres : ∀ (b : Nat) (sp : Nat → Bool) (hd : Bool), DataW.TrodAll enc P W' b sp hd f.resultTypes.toList (v.resultList f.resultTypes.size) (s.fn H (ds ++ gs)).results [])
    (hargs : ∀ sp : Nat → Bool, (∀ p ∈ before, sp p.block = true) → DataW.TrodAll enc P W' 0 sp true f.params.toList args.toList (s.fn H (ds ++ gs)).args pa)
    (hvars : ∀ sp : Nat → Bool, (∀ p ∈ before, sp p.block = true) → DataW.TrodVars enc P W' sp s.vars (s.fn H (ds ++ gs)).vars pv)
    (hps : before = pa ++ pv) (hk : Kept W W')
    (hok : ∀ (j : Nat) (t : TypeId) (r : Value), f.resultTypes[j]? = some t → (v.resultList f.resultTypes.size)[j]? = some r → Value.okWide P W' .any 0 t r) :
    s.post enc P f apart fresh handsOn again W args v W' := by
  have hlt : ∀ p ∈ before, p.block < W.heap.size := fun p hp => hW.lt p hp
  have hold : ∀ p ∈ before, (fun b => decide (b < W.heap.size)) p.block = true := by simp_all
  refine ⟨ds, gs, before, [], pa, pv, hW, hres _ _ _, hargs _ hold, hvars _ hold, hk.but _, fun _ => ?_⟩
  obtain ⟨_, _, _, _, _, hz, hn⟩ := hW
  refine ⟨hok, _, _, ([] ++ pa) ++ pv, ⟨[] ++ pa, pv, trodAll_append (hargs _ (fun _ _ => rfl)) (hres _ _ _), hvars _ (fun _ _ => rfl), rfl, ?_, ?_⟩, ?_⟩
  · intro b off hp
    have hp' : MemPlace.cell b off ∈ before := by rw [hps]; simpa using hp
    have hz' := hz b off hp'
    have hb := hlt _ hp'
    have he : W'.frozen? ⟨b, off, none⟩ = W.frozen? ⟨b, off, none⟩ := by
      unfold World.frozen?
      have := hk.2.2.2 b hb
      simp only at this ⊢
      rw [this]
    simp_all
  · simp_all
  simp_all
end Go.Proofs.YtgfdhkhcojjkjaaGreatDoor.Hx
