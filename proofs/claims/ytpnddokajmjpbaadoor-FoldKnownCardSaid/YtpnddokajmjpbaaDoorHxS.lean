/- The plain machine is right: what it says of a call, the model does. -/
import Derived.Test.YtpnddokajmjpbaaDoorHxR
namespace Go.Proofs.YtpnddokajmjpbaaDoor.Hx

/-- What must be known of the program itself. -/
structure Facts (E : Nat → Ext) : Prop where
  mixed : P0.follows .mixedOrders = true
  named : ∀ (f : Nat) (fn : Func), P0.funcs[f]? = some fn → (fn.name == "runtime.NumGoroutine") = false
  ext : ∀ (f : Nat) (fn : Func), P0.funcs[f]? = some fn → fn.body = none → ∀ (Δ : Env) (args : List V) (v : V) (args' : Array Value) (w : World), extF (E f) args = some v → VsRel Δ args args'.toList →
    ∃ x, (callFunc f args').run P0 w = .ok (.value x) w ∧ VRel Δ v x

section
variable {n : Nat} {call : Call}
theorem order_its {its ws : List It} (hw : ∀ x ∈ ws, x ∈ its) : ∀ (l : List It) (k : Nat), (∀ x ∈ l, x ∈ its) → ∀ a ∈ order its ws l k, a ∈ its
  | [], k, _, a, ha => (List.mem_filter.1 ha).1
  | w :: l, k, hl, a, ha => by
    simp only [order, List.mem_append, List.mem_cons] at ha
    rcases ha with h | rfl | h
    · exact (List.mem_filter.1 h).1
    · exact hl _ (by simp)
    · exact order_its hw l (k + 1) (fun x hx => hl x (by simp [hx])) a h
theorem draw_wp (hc : CallOk call) (hmix : P0.follows .mixedOrders = true) {id : Nat} {ops : Array Oper} {Δ : Env} {h : Hp} {w : World} {t : Tr V} {a : Act} (hW : WR Δ h w) (hT : TR Δ n t a) (hd : a.defers = [])
    {r : Tr V × Hp} (hv : (drawC n ops.toList).f call t h = some r) {Q : Exit → Act → World → Prop} (hQ : ∀ Δ' a' w', Goes Δ h w n r.1 r.2 Δ' a' w' → Q .normal a' w') : (Code.region id ops true).wp P0 Q a w := by
  unfold drawC at hv
  split at hv
  · rename_i hok
    simp only [Bool.and_eq_true, drawOk] at hok
    obtain ⟨⟨⟨⟨hp, hg⟩, he⟩, hch⟩, hord⟩ := hok
    have hsub : ∀ x ∈ order (Its ops) (wsOf (Its ops)) (wsOf (Its ops)) 0, x ∈ Its ops := order_its (fun x hx => (ws_its hx).1) _ _ (fun x hx => (ws_its hx).1)
    let T0 : Tc := ⟨fun _ => false, fun _ => .undef, fun _ => .leaf, fun _ => 0, fun _ => 0, fun _ => default, fun _ => h, fun _ => h⟩
    obtain ⟨T, hTr⟩ := trace (n := n) (all := ops.toList) (its := Its ops) (ws := wsOf (Its ops)) (call := call) (t0 := t) (h0 := h) its_ix hp _ 0 0 t h [] r T0 hsub hord hv (fun a ha hx => by simp at hx)
      (fun d => (lastV_idle (fun a _ _ => by simp) _).symm) (Nat.le_refl _) (fun j hj => by omega) (Nat.zero_le _)
    have hTT : TraceOk n ops.toList (Its ops) (wsOf (Its ops)) call t h _ 0 0 h [] r T T :=
      ⟨fun i hi => by simp at hi, fun j hj => by omega, hTr.item, hTr.recs, hTr.more, hTr.chain, hTr.plow, hTr.pdist, hTr.last, hTr.temps, hTr.done, hTr.kle⟩
    refine wp_region_any hmix (inv_any (T := T) (Δ0 := Δ) (w0 := w) (h0 := h) (t0 := t) hc hp hg he hch hsub hTT hQ ops.size _ a _ 0 Δ t ?_ ⟨by simp, fun x hx hxs => ?_, Nat.zero_le _, fun q x hq => ?_, hT, fun d => ?_, (hW.heap (w' := { w with drawn := w.drawn + 1 }) rfl).onward hTr.more,
      ⟨Env.le_refl _, Nat.le_refl _, rfl, rfl, rfl, fun _ _ _ => rfl, fun _ _ h => .inl h⟩, fun _ h _ => h, hd, fun x hx h1 h2 _ _ => ?_⟩)
    · refine Nat.le_trans List.count_le_length ?_
      simp
    · simp only [Array.getD_eq_getD_getElem?, Array.getElem?_replicate] at hxs
      split at hxs <;> simp at hxs
    · constructor
      · intro hh
        simp only [Array.getD_eq_getD_getElem?, Array.getElem?_replicate] at hh
        split at hh <;> simp at hh
      · intro hh; omega
    · refine (lastV_idle (fun x _ _ => ?_) _).symm
      simp only [Array.getD_eq_getD_getElem?, Array.getElem?_replicate]
      split <;> rfl
    · have hxl : x ∈ order (Its ops) (wsOf (Its ops)) (wsOf (Its ops)) 0 := by
        rcases hTr.done x hx with h3 | h3
        · simp at h3
        · obtain ⟨b, hb, hbi⟩ := List.mem_map.1 h3
          rw [its_eq hx (hsub b hb) hbi.symm]; exact hb
      have := hTr.plow x hxl h1 h2
      cases hd' : Δ (T.pl x.i) with
      | none => rfl
      | some e => have := hW.fresh _ _ hd'; omega
  · cases hv

def X.to : X → Exit
  | .normal => .normal
  | .exit id => .exit id
  | .ret => .ret
theorem seqK_eq {r : Option (X × Tr V × Hp)} {k : Tr V → Hp → Option (X × Tr V × Hp)} {y : X × Tr V × Hp} (h : seqK r k = some y) :
    (∃ t h', r = some (.normal, t, h') ∧ k t h' = some y) ∨ (r = some y ∧ y.1 ≠ .normal) := by
  unfold seqK at h
  split at h
  · exact .inl ⟨_, _, rfl, h⟩
  · rename_i hne
    subst h
    refine .inr ⟨rfl, fun e => ?_⟩
    obtain ⟨x, t, h'⟩ := y
    simp only at e
    subst e
    exact hne t h' rfl
theorem then_ne {next : Act → World → Prop} {Q : Exit → Act → World → Prop} {x : X} (hx : x ≠ .normal) {a : Act} {w : World} (h : Q x.to a w) : Exit.then next Q x.to a w := by
  cases x with
  | normal => exact absurd rfl hx
  | exit id => exact h
  | ret => exact h
theorem code_wp (hc : CallOk call) (hmix : P0.follows .mixedOrders = true) {m : Nat} : ∀ (c : Code) {Δ : Env} {h : Hp} {w : World} {t : Tr V} {a : Act}, WR Δ h w → TR Δ n t a → a.defers = [] → ∀ {r : X × Tr V × Hp},
    (codeC n c).f call m t h = some r → ∀ {Q : Exit → Act → World → Prop}, (∀ Δ' a' w', Goes Δ h w n r.2.1 r.2.2 Δ' a' w' → Q r.1.to a' w') → c.wp P0 Q a w
  | .skip, Δ, h, w, t, a, hW, hT, hd, r, hv, Q, hQ => by cases hv; exact wp_skip (hQ _ _ _ (.start hT hW hd))
  | .seq x y, Δ, h, w, t, a, hW, hT, hd, r, hv, Q, hQ => by
    simp only [codeC] at hv
    refine wp_seq ?_
    rcases seqK_eq hv with ⟨t1, h1, e1, e2⟩ | ⟨e1, e2⟩
    · exact code_wp hc hmix x hW hT hd e1 fun Δ' a' w' hg => code_wp hc hmix y hg.world hg.tmps hg.defers e2 fun Δ'' a'' w'' hg' => hQ _ _ _ (hg.trans hg')
    · exact code_wp hc hmix x hW hT hd e1 fun Δ' a' w' hg => then_ne e2 (hQ _ _ _ hg)
  | .cond c x y, Δ, h, w, t, a, hW, hT, hd, r, hv, Q, hQ => by
    simp only [codeC, oB_eq] at hv
    obtain ⟨v, h1, h2⟩ := hv
    have hr := evO_ok hW hT h1
    split at h2
    · rename_i b
      generalize hx : a.eval c = xv at hr
      cases hr
      cases b with
      | true => exact wp_cond_true hx (code_wp hc hmix x hW hT hd h2 hQ)
      | false => exact wp_cond_false hx (code_wp hc hmix y hW hT hd h2 hQ)
    · cases h2
  | .block id c, Δ, h, w, t, a, hW, hT, hd, r, hv, Q, hQ => by
    simp only [codeC] at hv
    refine wp_block ?_
    cases hr : (codeC n c).f call m t h with
    | none => rw [hr] at hv; cases hv
    | some r' =>
      rw [hr] at hv
      refine code_wp hc hmix c hW hT hd hr fun Δ' a' w' hg => ?_
      obtain ⟨x, t', h'⟩ := r'
      cases x with
      | normal => cases hv; exact hQ _ _ _ hg
      | ret => cases hv; exact hQ _ _ _ hg
      | exit id' =>
        simp only [blockK] at hv
        show if id' = id then Q .normal a' w' else Q (.exit id') a' w'
        cases hb : Nat.beq id' id with
        | true =>
          rw [hb] at hv
          have := Nat.eq_of_beq_eq_true hb
          rw [if_pos this]
          cases hv
          exact hQ _ _ _ hg
        | false =>
          rw [hb] at hv
          have : id' ≠ id := fun e => by subst e; rw [Nat.beq_refl] at hb; cases hb
          rw [if_neg this]
          cases hv
          exact hQ _ _ _ hg
  | .loop c, Δ, h, w, t, a, hW, hT, hd, r, hv, Q, hQ => by
    simp only [codeC] at hv
    refine LoopWp.wp ?_
    have key : ∀ (k : Nat) {Δ : Env} {h : Hp} {w : World} {t : Tr V} {a : Act}, WR Δ h w → TR Δ n t a → a.defers = [] → loopN (fun t h => (codeC n c).f call m t h) k t h = some r →
        (∀ Δ' a' w', Goes Δ h w n r.2.1 r.2.2 Δ' a' w' → Q r.1.to a' w') → LoopWp c Q a w := by
      intro k
      induction k with
      | zero => intro Δ h w t a _ _ _ hv _; cases hv
      | succ k ih =>
        intro Δ h w t a hW hT hd hv hQ
        have hv' : seqK ((codeC n c).f call m t h) (loopN (fun t h => (codeC n c).f call m t h) k) = some r := hv
        refine LoopWp.round ?_
        rcases seqK_eq hv' with ⟨t1, h1, e1, e2⟩ | ⟨e1, e2⟩
        · exact code_wp hc hmix c hW hT hd e1 fun Δ' a' w' hg => ih hg.world hg.tmps hg.defers e2 fun Δ'' a'' w'' hg' => hQ _ _ _ (hg.trans hg')
        · exact code_wp hc hmix c hW hT hd e1 fun Δ' a' w' hg => then_ne e2 (hQ _ _ _ hg)
    exact key m hW hT hd hv hQ
  | .exit id, Δ, h, w, t, a, hW, hT, hd, r, hv, Q, hQ => by cases hv; exact wp_exit (hQ _ _ _ (.start hT hW hd))
  | .ret, Δ, h, w, t, a, hW, hT, hd, r, hv, Q, hQ => by cases hv; exact wp_ret (hQ _ _ _ (.start hT hW hd))
  | .region id ops false, Δ, h, w, t, a, hW, hT, hd, r, hv, Q, hQ => by
    simp only [codeC, oB_eq] at hv
    obtain ⟨r', h1, h2⟩ := hv
    cases h2
    refine wp_region ?_
    have := region_wp (Q := Q) hc ops.toList 0 rfl hW hT hd h1 hQ
    rw [List.range_eq_range']
    simpa using this
  | .region id ops true, Δ, h, w, t, a, hW, hT, hd, r, hv, Q, hQ => by
    simp only [codeC, oB_eq] at hv
    obtain ⟨r', h1, h2⟩ := hv
    cases h2
    exact draw_wp hc hmix hW hT hd h1 hQ
  | .rangeFunc .., Δ, h, w, t, a, hW, hT, hd, r, hv, Q, hQ => by cases hv
  | .scope _, Δ, h, w, t, a, hW, hT, hd, r, hv, Q, hQ => by cases hv
  | .label _, Δ, h, w, t, a, hW, hT, hd, r, hv, Q, hQ => by cases hv
  | .goto _, Δ, h, w, t, a, hW, hT, hd, r, hv, Q, hQ => by cases hv
  | .refuse _, Δ, h, w, t, a, hW, hT, hd, r, hv, Q, hQ => by cases hv

/-! ### functions -/
theorem initT_get : ∀ (args : List V) (i : Nat) (t : Tr V) (j : Nat), tget (initT args i t) j = if i ≤ j ∧ j < i + args.length then args[j - i]?.getD .undef else tget t j
  | [], i, t, j => by rw [if_neg (by simp only [List.length_nil]; omega)]; rfl
  | v :: vs, i, t, j => by
    simp only [initT]
    rw [initT_get vs (i + 1) (t.set i v) j]
    by_cases h1 : i + 1 ≤ j ∧ j < i + 1 + vs.length
    · rw [if_pos h1, if_pos (by simp only [List.length_cons]; omega)]
      have : j - i = (j - (i + 1)) + 1 := by omega
      rw [this, List.getElem?_cons_succ]
    · rw [if_neg h1, tget_set]
      by_cases h2 : i = j
      · subst h2
        rw [if_pos rfl, if_pos (by simp only [List.length_cons]; omega)]
        simp
      · rw [if_neg h2, if_neg (by simp only [List.length_cons]; omega)]
theorem start_rel {Δ : Env} {args : List V} {args' : Array Value} (ha : VsRel Δ args args'.toList) {k : Nat} (hk : args.length ≤ k) :
    TR Δ k (initT args 0 .leaf) { tmps := args' ++ Array.replicate (k - args'.size) undef, defers := [] } := by
  have hl := ha.length
  simp only [Array.length_toList] at hl
  refine ⟨by simp; omega, fun i => ?_⟩
  rw [initT_get]
  simp only [Array.getD_eq_getD_getElem?]
  by_cases h : i < args.length
  · rw [if_pos (by omega), Array.getElem?_append_left (by omega)]
    obtain ⟨x, hx, hr⟩ := ha.get i args[i] (List.getElem?_eq_getElem h)
    have hx' : args'[i]? = some x := by simpa using hx
    rw [hx', Nat.sub_zero, List.getElem?_eq_getElem h]
    exact hr
  · rw [if_neg (by omega), Array.getElem?_append_right (by omega), Array.getElem?_replicate]
    have : tget (Tr.leaf : Tr V) i = .undef := rfl
    rw [this]
    split <;> exact .undef Δ
def resM (tmps : Array Value) : ResultVar → Sem Value
  | .tmp t => pure (tmps.getD t undef)
  | .cell b ty => do loadVar ty (← asAddr (tmps.getD b undef))
theorem res_ok {Δ : Env} {h : Hp} {w : World} {t : Tr V} {a : Act} (hW : WR Δ h w) (hT : TR Δ n t a) : ∀ {l : List ResultVar} {vs : List V}, resVs t h l = some vs →
    ∃ xs, (l.mapM (resM a.tmps)).run P0 w = .ok xs w ∧ VsRel Δ vs xs
  | [], vs, hv => by simp [resVs] at hv; subst hv; exact ⟨[], by simp, .nil⟩
  | .tmp i :: l, vs, hv => by
    simp only [resVs, oB_eq] at hv
    obtain ⟨v, h1, vs', h2, h3⟩ := hv
    cases h3
    obtain ⟨xs, h4, h5⟩ := res_ok hW hT h2
    simp only [resC] at h1
    cases h1
    have hp : (resM a.tmps (.tmp i)).run P0 w = .ok (a.tmps.getD i undef) w := rfl
    exact ⟨a.tmps.getD i undef :: xs, by simp only [List.mapM_cons, Sem.run_bind, Sem.run_pure, Result.andThen_ok, hp, h4], .cons _ _ _ _ (hT.rel i) h5⟩
  | .cell b ty :: l, vs, hv => by
    simp only [resVs, oB_eq] at hv
    obtain ⟨v, h1, vs', h2, h3⟩ := hv
    cases h3
    obtain ⟨xs, h4, h5⟩ := res_ok hW hT h2
    simp only [resC] at h1
    obtain ⟨x, h6, h7⟩ := hload_ok (xv := a.tmps.getD b undef) hW (fun v hv => by cases hv; exact hT.rel b) h1
    have hptr : ∃ ad, a.tmps.getD b undef = .pointer (some ad) := by
      cases hx : a.tmps.getD b undef with
      | pointer p => cases p with
        | some ad => exact ⟨ad, rfl⟩
        | none => rw [hx] at h6; simp [Instr.loadAt, Instr.sureAddr] at h6
      | _ => rw [hx] at h6; simp [Instr.loadAt, Instr.sureAddr] at h6
    obtain ⟨ad, had⟩ := hptr
    rw [had] at h6
    have hlv : (loadVar ty ad).run P0 w = .ok x w := by simpa [Instr.loadAt, Instr.sureAddr] using h6
    have hp : (resM a.tmps (.cell b ty)).run P0 w = .ok x w := by simp only [resM, had, asAddr, Sem.run_bind, Sem.run_pure, Result.andThen_ok, hlv]
    exact ⟨x :: xs, by simp only [List.mapM_cons, Sem.run_bind, Sem.run_pure, Result.andThen_ok, hp, h4], .cons _ _ _ _ h7 h5⟩
theorem results_ok {Δ : Env} {h : Hp} {w : World} {t : Tr V} {a : Act} (hW : WR Δ h w) (hT : TR Δ n t a) {fn : Func} {vs : List V} (hv : resVs t h fn.results.toList = some vs) :
    ∃ x, (results fn a.tmps).run P0 w = .ok x w ∧ VRel Δ (tupleOf vs) x := by
  obtain ⟨xs, h1, h2⟩ := res_ok hW hT hv
  have hm : (results fn a.tmps).run P0 w = .ok (if h : xs.toArray.size = 1 then xs.toArray[0] else .tuple xs.toArray) w := by
    have h0 : results fn a.tmps = (do let vs ← fn.results.mapM (resM a.tmps); pure (if h : vs.size = 1 then vs[0] else .tuple vs)) := by
      unfold results
      congr 1
    rw [h0, Array.mapM_eq_mapM_toList]
    simp only [Sem.run_bind, map_eq_pure_bind, h1, Result.andThen_ok, Sem.run_pure]
  refine ⟨_, hm, ?_⟩
  cases h2 with
  | nil => exact .tuple _ #[] .nil
  | cons v x vs xs hvx hs =>
    cases hs with
    | nil => exact hvx
    | cons v2 x2 vs xs hv2 hs =>
      rw [dif_neg (by simp)]
      exact .tuple _ _ (.cons _ _ _ _ hvx (.cons _ _ _ _ hv2 hs))
theorem func_ok {E : Nat → Ext} (hF : Facts E) (hc : CallOk call) {m : Nat} : CallOk fun f args h => (funcC E f).f call m args h := by
  intro f args v h h' Δ w args' hv hW ha
  simp only at hv
  unfold funcC at hv
  split at hv
  · rename_i fn hf
    split at hv
    · rename_i c hb
      right
      simp only [bB_eq, oB_eq] at hv
      obtain ⟨hle, r, h1, h2⟩ := hv
      have hle' : args.length ≤ fn.ntmps := Nat.le_of_ble_eq_true hle
      refine ⟨?_, ?_⟩
      · have hn := hF.named f fn hf
        simp only [callFunc, Sem.run_bind, run_program, Result.andThen_ok, hf, hn, hb, Option.isNone_some, Bool.false_eq_true, if_false]
        rfl
      · refine calls_of_wp hf hb ?_
        refine code_wp hc hF.mixed c hW (start_rel ha hle') rfl h1 fun Δ' a' w' hg => ?_
        obtain ⟨x, t', h''⟩ := r
        have hres : ∀ vs, resVs t' h'' fn.results.toList = some vs → some (tupleOf vs, h'') = some (v, h') → a'.defers = [] ∧ ∃ y, (results fn a'.tmps).run P0 w' = .ok y w' ∧
            ∃ Δ'' z, Ending.returned y = .returned z ∧ After Δ h w v h' Δ'' z w' := by
          intro vs hvs he
          cases he
          obtain ⟨y, hy, hyr⟩ := results_ok hg.world hg.tmps hvs
          exact ⟨hg.defers, y, hy, Δ', y, rfl, hyr, hg.world, hg.frame, hg.grow⟩
        cases x with
        | exit id => cases h2
        | normal =>
          simp only [oB_eq] at h2
          obtain ⟨vs, h3, h4⟩ := h2
          exact hres vs h3 h4
        | ret =>
          simp only [oB_eq] at h2
          obtain ⟨vs, h3, h4⟩ := h2
          exact hres vs h3 h4
    · rename_i hb
      left
      simp only [oB_eq] at hv
      obtain ⟨u, h1, h2⟩ := hv
      cases h2
      obtain ⟨x, h3, h4⟩ := hF.ext f fn hf hb Δ args _ args' w h1 ha
      exact ⟨x, h3, h4, hW, .refl _ _, .refl _ _⟩
  · cases hv
/-- The plain machine is right. -/
theorem callN_ok {E : Nat → Ext} (hF : Facts E) (m : Nat) : ∀ d, CallOk (callN E m d)
  | 0 => fun f args v h h' Δ w args' hv => (nomatch hv)
  | d + 1 => func_ok hF (callN_ok hF m d)
end
end Go.Proofs.YtpnddokajmjpbaaDoor.Hx
