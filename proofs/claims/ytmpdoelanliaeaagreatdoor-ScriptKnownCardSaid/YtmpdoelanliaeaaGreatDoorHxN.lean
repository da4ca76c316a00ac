/- The walk's steps: an operation, where its value goes, a region whose order is told, a loop. -/
import Derived.Test.YtmpdoelanliaeaaGreatDoorHxM
namespace Go.Proofs.YtmpdoelanliaeaaGreatDoor.Hx

/-- What a call of the plain machine stands for. -/
def CallOk (call : Call) : Prop := ∀ (f : Nat) (args : List V) (v : V) (h h' : Hp) (Δ : Env) (w : World) (args' : Array Value), call f args h = some (v, h') → WR Δ h w → VsRel Δ args args'.toList →
  (∃ x, (callFunc f args').run P0 w = .ok (.value x) w ∧ After Δ h w v h' Δ x w) ∨
  ((callFunc f args').run P0 w = .ok (.enter f args') w ∧ Calls P0 f args' w fun e w' => ∃ Δ' x, e = .returned x ∧ After Δ h w v h' Δ' x w')

section
variable {Δ : Env} {h : Hp} {w : World} {n : Nat} {t : Tm} {a : Act}

theorem op_wp {call : Call} (hc : CallOk call) (hW : WR Δ h w) (hT : TR Δ n t a) {o : Oper} {v : V} {h' : Hp} (hv : (opC o).f call t h = some (v, h')) {K : Act → World → Prop} {Q : Exit → Act → World → Prop}
    (hK : ∀ Δ' x w', After Δ h w v h' Δ' x w' → K (a.put o.dst x) w') : o.wp P0 a w K Q := by
  unfold opC at hv
  split at hv
  · simp only [oB_eq] at hv
    obtain ⟨v', h1, h2⟩ := hv
    cases h2
    obtain ⟨x, h3, h4⟩ := pure_ok hW hT h1
    unfold Oper.wp
    rw [h3, Oper.upon_value]
    exact hK Δ x w ⟨h4, hW, .refl _ _, .refl _ _⟩
  · simp only [oB_eq] at hv
    obtain ⟨⟨ob, mk⟩, h1, h2⟩ := hv
    cases h2
    obtain ⟨mo, mv, h3, h4⟩ := alloc_ok hT h1
    obtain ⟨Δ', a1, a2, a3, a4⟩ := hW.alloc h4
    unfold Oper.wp
    rw [h3 w, Oper.upon_value]
    exact hK Δ' _ _ ⟨a2, a1, a3, a4⟩
  · simp only [oB_eq] at hv
    obtain ⟨r, h1, h2⟩ := hv
    rcases write_ok hW hT h1 with ⟨v', h'', Δ', x, w', rfl, h3, h4⟩ | ⟨g, l, args', rfl, h3, h4⟩
    · cases h2
      unfold Oper.wp
      rcases h3 with h3 | ⟨rfl, h3⟩
      · grind[Oper.upon_value]
      grind[Oper.upon_skip]
    · unfold Oper.wp
      rw [h4]
      rcases hc g l v h h' Δ w args' h2 hW h3 with ⟨x, h5, h6⟩ | ⟨h5, h6⟩
      · grind[Oper.upon_value]
      · rw [h5, Oper.upon_enter]
        refine Calls.mono h6 fun e w' he => ?_
        grind

theorem put_getD (a : Act) (d : Nat) (x : Value) (i : Nat) (hd : d < a.tmps.size) : (a.put (some d) x).tmps.getD i undef = if d = i then x else a.tmps.getD i undef := by
  simp only [Act.put, Array.getD_eq_getD_getElem?, Array.getElem?_setIfInBounds]
  grind
theorem put_defers (a : Act) (d : Option Tmp) (x : Value) : (a.put d x).defers = a.defers := by cases d <;> rfl
theorem put_ok (hT : TR Δ n t a) {o : Oper} {d : DF} (hd : dstC n o = some d) {v : V} {x : Value} (hv : VRel Δ v x) : TR Δ n (d.f t v) (a.put o.dst x) := by
  unfold dstC at hd
  cases ho : o.dst with
  | none => simp only [ho] at hd; cases hd; exact hT
  | some k =>
    simp only [ho] at hd
    cases hk : Nat.blt k n with
    | false => simp_all
    | true =>
      simp only [hk] at hd
      cases hd
      have hlt : k < a.tmps.size := by rw [hT.size, ← Nat.blt_eq]; exact hk
      refine ⟨by simp [Act.put, hT.size], fun i => ?_, by rw [put_defers]; show DsRel Δ (t.set k v).ds _; rw [Tm.ds_set]; exact hT.ds⟩
      rw [put_getD _ _ _ _ hlt]
      show VRel Δ (tget (t.set k v) i) _
      rw [tget_set]
      by_cases h : k = i
      · simp_all
      · rw [if_neg h, if_neg h]; exact hT.rel i
theorem want_none {n : Nat} {ops : List Oper} {o : Oper} (hw : wantC n ops o = none) (y : Nat → Option Bool) : Region.wanted o y = true := by
  grind[wantC,Region.wanted]
theorem want_some (hT : TR Δ n t a) {ops : Array Oper} {o : Oper} {g : GF} (hw : wantC n ops.toList o = some g) {b : Bool} (hb : g.f t = some b) : Region.wanted o (yielded ops a.tmps) = b := by
  unfold wantC at hw
  unfold Region.wanted
  cases hg : o.guard with
  | none => simp_all
  | some gj =>
    obtain ⟨j, wt⟩ := gj
    simp only [hg] at hw ⊢
    unfold yielded
    cases hj : ops.toList[j]? with
    | none =>
      grind
    | some oj =>
      have hj' : ops[j]? = some oj := by rw [← Array.getElem?_toList]; exact hj
      simp only [hj] at hw
      simp only [hj', Option.bind_some]
      cases hd : oj.dst with
      | none =>
        grind
      | some d =>
        simp only [hd] at hw
        simp only [Option.bind_some]
        cases hlt : Nat.blt d n with
        | false => grind
        | true =>
          simp only [hlt] at hw
          cases hw
          have hlt' : d < a.tmps.size := by rw [hT.size, ← Nat.blt_eq]; exact hlt
          have hr := hT.rel d
          have he : a.tmps[d]? = some (a.tmps.getD d undef) := by simp [hlt']
          rw [he]
          generalize a.tmps.getD d undef = x at hr
          simp only at hb
          split at hb
          · rename_i bb hbb
            cases hb
            rw [hbb] at hr
            cases hr
            cases wt <;> cases bb <;> rfl
          · rename_i hbb
            cases hb
            rw [hbb] at hr
            cases hr <;> grind
          · cases hb

/-- How far a walk has come. -/
structure Goes (Δ : Env) (h : Hp) (w : World) (n : Nat) (t' : Tm) (h' : Hp) (Δ' : Env) (a' : Act) (w' : World) : Prop where
  tmps : TR Δ' n t' a'
  world : WR Δ' h' w'
  frame : FR Δ Δ' w w'
  grow : Gr h Δ h' Δ'
theorem Goes.start (hT : TR Δ n t a) (hW : WR Δ h w) : Goes Δ h w n t h Δ a w := ⟨hT, hW, .refl _ _, .refl _ _⟩
theorem Goes.trans {Δ1 Δ2 : Env} {h1 h2 : Hp} {w1 w2 : World} {t1 t2 : Tm} {a1 a2 : Act} (x : Goes Δ h w n t1 h1 Δ1 a1 w1) (y : Goes Δ1 h1 w1 n t2 h2 Δ2 a2 w2) : Goes Δ h w n t2 h2 Δ2 a2 w2 :=
  ⟨y.tmps, y.world, x.frame.trans y.frame, x.grow.trans y.grow⟩
theorem Goes.put (hT : TR Δ n t a) {o : Oper} {d : DF} (hdst : dstC n o = some d) {v : V} {h' : Hp} {Δ' : Env} {x : Value} {w' : World} (hA : After Δ h w v h' Δ' x w') :
    Goes Δ h w n (d.f t v) h' Δ' (a.put o.dst x) w' :=
  ⟨put_ok (hT.mono hA.frame.le) hdst hA.val, hA.world, hA.frame, hA.grow⟩

theorem defer_ok (hW : WR Δ h w) (hT : TR Δ n t a) {o : Oper} {q : QF} (hq : deferC o = some q) {t' : Tm} (hv : q.f t h = some t') :
    ∃ d, (∀ w, (execOp a.eval o).run P0 w = .ok (.defer d) w) ∧ TR Δ n t' { a with defers := d :: a.defers } := by
  unfold deferC at hq
  split at hq
  · rename_i c hop
    split at hq
    · rename_i f hf
      cases hq
      simp only [oB_eq] at hv
      obtain ⟨fv, h1, args, h2, h3⟩ := hv
      have hfr := evO_ok hW hT h1
      obtain ⟨xs, hxs⟩ : ∃ xs, xs = c.args.map a.eval := ⟨_, rfl⟩
      have har := evNs_ok hT h2
      generalize hx : a.eval f = xv at hfr
      unfold hdefer at h3
      split at h3
      · rename_i g first caps
        cases h3
        cases hfr with
        | func _ _ _ a' c' ha hc =>
          refine ⟨{ target := .fn (.func g) c', args := a' ++ c.args.map a.eval }, fun w => ?_, ⟨hT.size, fun i => ?_, ?_⟩⟩
          · have hr : (resolve a.eval c o.type).run P0 w = .ok { target := .fn (.func g) c', args := a' ++ c.args.map a.eval } w := by
              unfold resolve
              rw [hf]
              simp only [hx]
              rfl
            simp_all[execOp,Result.andThen_ok]
          · rw [tget_push]; exact hT.rel i
          · rw [Tm.ds_push]
            refine .cons _ _ _ _ _ _ ?_ hT.ds
            simp only [Array.toList_append, List.append_assoc, Array.toList_map]
            exact ha.append (har.append hc)
      · cases h3
    · cases hq
  · cases hq
theorem step_wp {call : Call} (hc : CallOk call) {ops : Array Oper} {i : Nat} {o : Oper} (hi : ops[i]? = some o) {rest : SF} {K : Act → World → Prop} {Q : Exit → Act → World → Prop}
    (hW : WR Δ h w) (hT : TR Δ n t a) {r : Tm × Hp} (hv : (stepC n ops.toList o rest).f call t h = some r)
    (hK : ∀ t' h' Δ' a' w', rest.f call t' h' = some r → Goes Δ h w n t' h' Δ' a' w' → K a' w') : wpOp P0 ops Q i K a w := by
  unfold stepC at hv
  unfold wpOp
  simp only [hi]
  cases hdst : dstC n o with
  | none => simp only [hdst] at hv; cases hv
  | some d =>
    simp only [hdst] at hv
    have run : ∀ x, oB ((opC o).f call t h) (fun r => rest.f call (d.f t r.1) r.2) = some x → x = r → o.wp P0 a w K Q := by
      intro x hx hxr
      subst hxr
      rw [oB_eq] at hx
      obtain ⟨⟨v, h'⟩, h1, h2⟩ := hx
      exact op_wp hc hW hT h1 fun Δ' x w' hA => hK _ _ _ _ _ h2 (Goes.put hT hdst hA)
    cases hg : wantC n ops.toList o with
    | none =>
      simp only [hg] at hv
      rw [if_pos (want_none hg _)]
      cases hq : deferC o with
      | none => grind
      | some q =>
        simp only [hq, oB_eq] at hv
        obtain ⟨t1, h1, h2⟩ := hv
        obtain ⟨dd, h3, h4⟩ := defer_ok hW hT hq h1
        refine .inl ?_
        unfold Oper.wp
        rw [h3 w, Oper.upon_defer]
        exact hK _ _ _ _ _ h2 (Goes.put h4 hdst ⟨.undef Δ, hW, .refl _ _, .refl _ _⟩)
    | some g =>
      simp only [hg, oB_eq] at hv
      obtain ⟨b, h1, h2⟩ := hv
      rw [want_some hT hg h1]
      cases b with
      | true => simp_all
      | false => exact hK _ _ _ _ _ h2 (Goes.put hT hdst ⟨.undef Δ, hW, .refl _ _, .refl _ _⟩)
theorem region_wp {call : Call} (hc : CallOk call) {ops : Array Oper} {Q : Exit → Act → World → Prop} : ∀ (l : List Oper) (k : Nat), l = ops.toList.drop k → ∀ {Δ : Env} {h : Hp} {w : World} {t : Tm} {a : Act},
    WR Δ h w → TR Δ n t a → ∀ {r : Tm × Hp}, (regionC n ops.toList l).f call t h = some r → (∀ Δ' a' w', Goes Δ h w n r.1 r.2 Δ' a' w' → Q .normal a' w') →
    wpOps P0 ops Q (List.range' k l.length) a w
  | [], k, hl, Δ, h, w, t, a, hW, hT, r, hv, hQ => by
    cases hv
    exact hQ _ _ _ (.start hT hW)
  | o :: l, k, hl, Δ, h, w, t, a, hW, hT, r, hv, hQ => by
    have hk : ops[k]? = some o := by
      have : (ops.toList.drop k)[0]? = some o := by rw [← hl]; rfl
      rw [List.getElem?_drop, Nat.add_zero] at this
      simpa using this
    have hl' : l = ops.toList.drop (k + 1) := by
      rw [← List.drop_drop, ← hl]; rfl
    rw [List.length_cons, List.range'_succ, wpOps_cons]
    refine step_wp hc hk hW hT hv fun t' h' Δ' a' w' h1 h2 => ?_
    exact region_wp hc l (k + 1) hl' h2.world h2.tmps h1 fun Δ'' a'' w'' h3 => hQ _ _ _ (h2.trans h3)
end

/-! ### loops -/
def LoopWp (c : Code) (Q : Exit → Act → World → Prop) (a : Act) (w : World) : Prop :=
  ∀ (b : Frame) (k : List Item) (cs : List Frame), ∃ e a' w', Q e a' w' ∧ Arrives P0 (lone (b.at a (.code c :: .inLoop c :: k)) cs w) b k cs e a' w'
theorem LoopWp.round {c : Code} {Q : Exit → Act → World → Prop} {a : Act} {w : World} (h : c.wp P0 (Exit.then (LoopWp c Q) Q) a w) : LoopWp c Q a w := by
  intro b k cs
  obtain ⟨e, a₁, w₁, hq, harr⟩ := h b (.inLoop c :: k) cs
  cases e with
  | normal =>
    obtain ⟨e₂, a₂, w₂, hq₂, harr₂⟩ := hq b k cs
    exact ⟨e₂, a₂, w₂, hq₂, .of_steps (Steps.trans harr (.one step_inLoop)) harr₂⟩
  | exit id => exact ⟨_, a₁, w₁, hq, .pass (x := .inLoop c) rfl (by simp_all) harr⟩
  | goto l => exact ⟨_, a₁, w₁, hq, .pass (x := .inLoop c) rfl (by simp_all) harr⟩
  | ret => exact ⟨_, a₁, w₁, hq, .pass (x := .inLoop c) rfl (by simp_all) harr⟩
  | panic ch => exact ⟨_, a₁, w₁, hq, .pass (x := .inLoop c) rfl (by simp_all) harr⟩
  | outgrown => exact ⟨_, a₁, w₁, hq, .pass (x := .inLoop c) rfl (by simp_all) harr⟩
theorem LoopWp.wp {c : Code} {Q : Exit → Act → World → Prop} {a : Act} {w : World} (h : LoopWp c Q a w) : (Code.loop c).wp P0 Q a w :=
  fun b k cs => let ⟨e, a', w', q, r⟩ := h b k cs; ⟨e, a', w', q, .of_steps (.one step_loop) r⟩
end Go.Proofs.YtmpdoelanliaeaaGreatDoor.Hx
