/- Calls that panic, on the plain machine; and a call whose one put-off function catches the panic. -/
import Derived.Test.YtmpdoelanliaeaaGreatDoorHx1
namespace Go.Proofs.YtmpdoelanliaeaaGreatDoor.Hx

abbrev chainOf (x : Value) : List PanicEntry := [{ v := x, recovered := false }]
def PanOk (pan : Call) : Prop := ∀ (f : Nat) (args : List V) (v : V) (h h' : Hp) (Δ : Env) (w : World) (args' : Array Value), pan f args h = some (v, h') → WR Δ h w → VsRel Δ args args'.toList →
  (callFunc f args').run P0 w = .ok (.enter f args') w ∧ Calls P0 f args' w fun e w' => ∃ Δ' x, e = .panicked (chainOf x) ∧ After Δ h w v h' Δ' x w'

noncomputable section
/-- What an operation panics with. -/
def panO (o : Oper) : RF := match o.op with
  | .panic x => ⟨fun _ t h => oB ((evO x).f t h) fun v => match v with
    | .iface ty u => some (.iface ty u, h)
    | _ => none⟩
  | .call _ => ⟨fun pan t h => oB ((writeC o).f t h) fun r => match r with
    | .call f args => pan f args h
    | .val _ _ => none⟩
  | _ => ⟨fun _ _ _ => none⟩
structure QF2 where
  f : Call → Call → Nat → Tm → Hp → Option (V × Tm × Hp)
def idS : SF := ⟨fun _ t h => some (t, h)⟩
def prgP (n : Nat) (all : List Oper) : List Oper → QF2
  | [] => ⟨fun _ _ _ _ _ => none⟩
  | o :: os => ⟨fun call pan m t h => match (stepC n all o idS).f call t h with
    | some r => (prgP n all os).f call pan m r.1 r.2
    | none => bB o.guard.isNone (oB ((panO o).f pan t h) fun r => some (r.1, t, r.2))⟩
def plpP (c : Tm → Hp → Option (X × Tm × Hp)) (p : Tm → Hp → Option (V × Tm × Hp)) : Nat → Tm → Hp → Option (V × Tm × Hp)
  | 0, _, _ => none
  | m + 1, t, h => match c t h with
    | some (.normal, t1, h1) => plpP c p m t1 h1
    | some _ => none
    | none => p t h
/-- Code that panics. -/
def panC (n : Nat) : Code → QF2
  | .seq a b => ⟨fun call pan m t h => match (codeC n a).f call m t h with
    | some (.normal, t1, h1) => (panC n b).f call pan m t1 h1
    | some _ => none
    | none => (panC n a).f call pan m t h⟩
  | .cond c a b => ⟨fun call pan m t h => oB ((evO c).f t h) fun v => match v with
    | .bool true => (panC n a).f call pan m t h
    | .bool false => (panC n b).f call pan m t h
    | _ => none⟩
  | .block _ c => panC n c
  | .loop c => ⟨fun call pan m t h => plpP (fun t h => (codeC n c).f call m t h) (fun t h => (panC n c).f call pan m t h) m t h⟩
  | .region _ ops false => prgP n ops.toList ops.toList
  | _ => ⟨fun _ _ _ _ _ => none⟩

end
section
variable {call pan : Call} {n : Nat}
theorem panO_wp (hp : PanOk pan) {Δ : Env} {h : Hp} {w : World} {t : Tm} {a : Act} (hW : WR Δ h w) (hT : TR Δ n t a) {o : Oper} {v : V} {h' : Hp} (hv : (panO o).f pan t h = some (v, h')) {K : Act → World → Prop} {Q : Exit → Act → World → Prop}
    (hQ : ∀ Δ' w' x, Goes Δ h w n t h' Δ' a w' → VRel Δ' v x → Q (.panic (chainOf x)) a w') : o.wp P0 a w K Q := by
  unfold panO at hv
  split at hv
  · rename_i x hop
    simp only [oB_eq] at hv
    obtain ⟨u, h1, h2⟩ := hv
    have hr := evO_ok hW hT h1
    split at h2
    · rename_i ty u
      cases h2
      unfold Oper.wp
      have hex : (execOp a.eval o).run P0 w = .halt (.panic (a.eval x)) w := by
        generalize hx : a.eval x = xv at hr
        cases hr
        unfold execOp
        rw [hop]
        simp only [Sem.run_bind, hx]
        rfl
      rw [hex, Oper.upon_panic]
      exact hQ Δ w _ (.start hT hW) hr
    · cases h2
  · simp only [oB_eq] at hv
    obtain ⟨r, h1, h2⟩ := hv
    rcases write_ok hW hT h1 with ⟨v', h'', Δ', x, w', rfl, _, _⟩ | ⟨g, l, args', rfl, h3, h4⟩
    · cases h2
    · unfold Oper.wp
      rw [h4]
      obtain ⟨h5, h6⟩ := hp g l v h h' Δ w args' h2 hW h3
      rw [h5, Oper.upon_enter]
      refine Calls.mono h6 fun e w' he => ?_
      obtain ⟨Δ', x, rfl, hA⟩ := he
      exact hQ Δ' w' x ⟨hT.mono hA.frame.le, hA.world, hA.frame, hA.grow⟩ hA.val
  · cases hv
theorem prgP_wp (hc : CallOk call) (hp : PanOk pan) {m : Nat} {ops : Array Oper} {Q : Exit → Act → World → Prop} : ∀ (l : List Oper) (k : Nat), l = ops.toList.drop k → ∀ {Δ : Env} {h : Hp} {w : World} {t : Tm} {a : Act},
    WR Δ h w → TR Δ n t a → ∀ {v : V} {t' : Tm} {h' : Hp}, (prgP n ops.toList l).f call pan m t h = some (v, t', h') → (∀ Δ' a' w' x, Goes Δ h w n t' h' Δ' a' w' → VRel Δ' v x → Q (.panic (chainOf x)) a' w') →
    wpOps P0 ops Q (List.range' k l.length) a w
  | [], k, hl, Δ, h, w, t, a, hW, hT, v, t', h', hv, hQ => by cases hv
  | o :: l, k, hl, Δ, h, w, t, a, hW, hT, v, t', h', hv, hQ => by
    have hk : ops[k]? = some o := by
      have : (ops.toList.drop k)[0]? = some o := by rw [← hl]; rfl
      rw [List.getElem?_drop, Nat.add_zero] at this
      simpa using this
    have hl' : l = ops.toList.drop (k + 1) := by
      rw [← List.drop_drop, ← hl]; rfl
    rw [List.length_cons, List.range'_succ, wpOps_cons]
    simp only [prgP] at hv
    split at hv
    · rename_i r hr
      refine step_wp hc hk hW hT hr fun t1 h1 Δ1 a1 w1 e1 g1 => ?_
      cases e1
      exact prgP_wp hc hp l (k + 1) hl' g1.world g1.tmps hv fun Δ' a' w' x g' hx => hQ _ _ _ _ (g1.trans g') hx
    · simp only [bB_eq, oB_eq] at hv
      obtain ⟨hg, ⟨u, h1⟩, e1, e2⟩ := hv
      cases e2
      unfold wpOp
      simp only [hk]
      have hw : Region.wanted o (yielded ops a.tmps) = true := want_none (n := n) (ops := ops.toList) (by
        unfold wantC
        cases hgd : o.guard with
        | none => rfl
        | some _ => rw [hgd] at hg; cases hg) _
      rw [if_pos hw]
      exact .inl (panO_wp hp hW hT e1 fun Δ' w' x g' hx => hQ _ _ _ _ g' hx)
theorem panC_wp (hc : CallOk call) (hp : PanOk pan) (hmix : P0.follows .mixedOrders = true) {m : Nat} : ∀ (c : Code) {Δ : Env} {h : Hp} {w : World} {t : Tm} {a : Act}, WR Δ h w → TR Δ n t a → ∀ {v : V} {t' : Tm} {h' : Hp},
    (panC n c).f call pan m t h = some (v, t', h') → ∀ {Q : Exit → Act → World → Prop}, (∀ Δ' a' w' x, Goes Δ h w n t' h' Δ' a' w' → VRel Δ' v x → Q (.panic (chainOf x)) a' w') → c.wp P0 Q a w
  | .seq x y, Δ, h, w, t, a, hW, hT, v, t', h', hv, Q, hQ => by
    simp only [panC] at hv
    refine wp_seq ?_
    split at hv
    · rename_i t1 h1 e1
      exact code_wp hc hmix x hW hT e1 fun Δ' a' w' hg => panC_wp hc hp hmix y hg.world hg.tmps hv fun Δ'' a'' w'' x hg' hx => hQ _ _ _ _ (hg.trans hg') hx
    · cases hv
    · exact panC_wp hc hp hmix x hW hT hv fun Δ' a' w' x hg hx => hQ _ _ _ _ hg hx
  | .cond c x y, Δ, h, w, t, a, hW, hT, v, t', h', hv, Q, hQ => by
    simp only [panC, oB_eq] at hv
    obtain ⟨u, h1, h2⟩ := hv
    have hr := evO_ok hW hT h1
    generalize hx : a.eval c = xv at hr
    split at h2
    · cases hr
      exact wp_cond_true hx (panC_wp hc hp hmix x hW hT h2 hQ)
    · cases hr
      exact wp_cond_false hx (panC_wp hc hp hmix y hW hT h2 hQ)
    · cases h2
  | .block id c, Δ, h, w, t, a, hW, hT, v, t', h', hv, Q, hQ => by
    refine wp_block ?_
    exact panC_wp hc hp hmix c hW hT hv fun Δ' a' w' x hg hx => hQ _ _ _ _ hg hx
  | .loop c, Δ, h, w, t, a, hW, hT, v, t', h', hv, Q, hQ => by
    refine LoopWp.wp ?_
    have key : ∀ (k : Nat) {Δ : Env} {h : Hp} {w : World} {t : Tm} {a : Act}, WR Δ h w → TR Δ n t a → plpP (fun t h => (codeC n c).f call m t h) (fun t h => (panC n c).f call pan m t h) k t h = some (v, t', h') →
        (∀ Δ' a' w' x, Goes Δ h w n t' h' Δ' a' w' → VRel Δ' v x → Q (.panic (chainOf x)) a' w') → LoopWp c Q a w := by
      intro k
      induction k with
      | zero => intro Δ h w t a _ _ hv _; cases hv
      | succ k ih =>
        intro Δ h w t a hW hT hv hQ
        refine LoopWp.round ?_
        simp only [plpP] at hv
        split at hv
        · rename_i t1 h1 e1
          exact code_wp hc hmix c hW hT e1 fun Δ' a' w' hg => ih hg.world hg.tmps hv fun Δ'' a'' w'' x hg' hx => hQ _ _ _ _ (hg.trans hg') hx
        · cases hv
        · exact panC_wp hc hp hmix c hW hT hv fun Δ' a' w' x hg hx => hQ _ _ _ _ hg hx
    exact key m hW hT hv hQ
  | .region id ops false, Δ, h, w, t, a, hW, hT, v, t', h', hv, Q, hQ => by
    refine wp_region ?_
    have := prgP_wp (Q := Q) hc hp ops.toList 0 rfl hW hT hv hQ
    rwa [← List.range_eq_range', Array.length_toList] at this
  | .region id ops true, Δ, h, w, t, a, hW, hT, v, t', h', hv, Q, hQ => by cases hv
  | .skip, Δ, h, w, t, a, hW, hT, v, t', h', hv, Q, hQ => by cases hv
  | .exit id, Δ, h, w, t, a, hW, hT, v, t', h', hv, Q, hQ => by cases hv
  | .ret, Δ, h, w, t, a, hW, hT, v, t', h', hv, Q, hQ => by cases hv
  | .rangeFunc .., Δ, h, w, t, a, hW, hT, v, t', h', hv, Q, hQ => by cases hv
  | .scope _, Δ, h, w, t, a, hW, hT, v, t', h', hv, Q, hQ => by cases hv
  | .label _, Δ, h, w, t, a, hW, hT, v, t', h', hv, Q, hQ => by cases hv
  | .goto _, Δ, h, w, t, a, hW, hT, v, t', h', hv, Q, hQ => by cases hv
  | .refuse _, Δ, h, w, t, a, hW, hT, v, t', h', hv, Q, hQ => by cases hv
end
noncomputable section
/-- A call that panics. -/
def pfuncC (C : Cfg) (f : Nat) (call pan : Call) (m : Nat) (args : List V) (h : Hp) : Option (V × Hp) := match P0.funcs[f]? with
  | some fn => match fn.body with
    | some c => bB (Nat.ble args.length fn.ntmps) (oB ((panC fn.ntmps c).f call pan m (C.start args) h) fun r => match r.2.1.ds with
      | [] => some (r.1, r.2.2)
      | _ :: _ => none)
    | none => none
  | none => none
def panN (C : Cfg) (m : Nat) : Nat → Call
  | 0 => fun _ _ _ => none
  | d + 1 => fun f args h => pfuncC C f (callN C m d) (panN C m d) m args h
/-- A function that was put off, and that catches a panic. -/
def catchC (C : Cfg) (g : Nat) (call : Call) (m : Nat) (l : List V) (v : V) (h : Hp) : Option Hp := match P0.funcs[g]? with
  | some fn => match fn.body with
    | some c => match recOf c with
      | some (d, rest) => bB (Nat.ble l.length fn.ntmps) (bB (Nat.blt d fn.ntmps) (oB ((codeC fn.ntmps rest).f call m ((C.start l).set d v) h) fun r => oB (dendC fn r) fun y => some y.2))
      | none => none
    | none => none
  | none => none
/-- A call whose body panics, and whose put-off function catches it. -/
def recC (C : Cfg) (f : Nat) (call pan : Call) (m : Nat) (args : List V) (h : Hp) : Option (V × Hp) := match P0.funcs[f]? with
  | some fn => match fn.body with
    | some c => bB (Nat.ble args.length fn.ntmps) (oB ((panC fn.ntmps c).f call pan m (C.start args) h) fun r => match r.2.1.ds with
      | [(g, l)] => oB (catchC C g call m l r.1 r.2.2) fun h2 => oB (resVs r.2.1 h2 fn.results.toList) fun vs => some (tupleOf vs, h2)
      | _ => none)
    | none => none
  | none => none
end
section
variable {call pan : Call}
theorem enter_run {C : Cfg} (hF : Facts C) {f : Nat} {fn : Func} {c : Code} (hf : P0.funcs[f]? = some fn) (hb : fn.body = some c) (args' : Array Value) (w : World) : (callFunc f args').run P0 w = .ok (.enter f args') w := by
  have hn := hF.named f fn hf
  simp only [callFunc, Sem.run_bind, run_program, Result.andThen_ok, hf, hn, hb, Option.isNone_some, Bool.false_eq_true, if_false]
  rfl
theorem pfunc_ok {C : Cfg} (hF : Facts C) (hc : CallOk call) (hp : PanOk pan) {m : Nat} : PanOk fun f args h => pfuncC C f call pan m args h := by
  intro f args v h h' Δ w args' hv hW ha
  simp only [pfuncC] at hv
  split at hv
  · rename_i fn hf
    split at hv
    · rename_i c hb
      refine ⟨enter_run hF hf hb args' w, ?_⟩
      simp only [bB_eq, oB_eq] at hv
      obtain ⟨hle, ⟨u, t', h2⟩, h1, h3⟩ := hv
      have hle' : args.length ≤ fn.ntmps := Nat.le_of_ble_eq_true hle
      refine calls_of_wp hf hb ?_
      refine panC_wp hc hp hF.mixed c hW (start_rel hF ha hle') h1 fun Δ' a' w' x hg hx => ?_
      simp only at h3
      split at h3
      · rename_i hds
        cases h3
        have hd := hg.tmps.ds
        rw [hds] at hd
        have hd' : a'.defers = [] := by cases hx : a'.defers with
          | nil => rfl
          | cons _ _ => rw [hx] at hd; cases hd
        exact ⟨hd', Δ', x, rfl, hx, hg.world, hg.frame, hg.grow⟩
      · cases h3
    · cases hv
  · cases hv
theorem panN_ok {C : Cfg} (hF : Facts C) (m : Nat) : ∀ d, PanOk (panN C m d)
  | 0 => fun _f _args _v _h _h' _Δ _w _args' hv => (nomatch hv)
  | d + 1 => pfunc_ok hF (callN_ok hF m d) (panN_ok hF m d)
theorem catch_ok {C : Cfg} (hF : Facts C) (hc : CallOk call) {m g : Nat} {l : List V} {v : V} {h h' : Hp} {Δ : Env} {w : World} {l' : Array Value} {x : Value} (hv : catchC C g call m l v h = some h')
    (hW : WR Δ h w) (ha : VsRel Δ l l'.toList) (hx : VRel Δ v x) : (callFunc g l').run P0 w = .ok (.enter g l') w ∧
      CallsD P0 g l' (.panicking (chainOf x)) w fun e u' w' => u' = .panicking [{ v := x, recovered := true }] ∧ ∃ Δ' y u, e = .returned y ∧ After Δ h w u h' Δ' y w' := by
  unfold catchC at hv
  split at hv
  · rename_i fn hf
    split at hv
    · rename_i c hb
      refine ⟨enter_run hF hf hb l' w, ?_⟩
      split at hv
      · rename_i d rest hrec
        simp only [bB_eq, oB_eq] at hv
        obtain ⟨hle, hd, r, h1, ⟨u, h3⟩, h2, h4⟩ := hv
        cases h4
        have hle' : l.length ≤ fn.ntmps := Nat.le_of_ble_eq_true hle
        obtain ⟨id, o, cl, rfl, hop, hcl, hgd, hdst⟩ := rec_split hrec
        refine callsD_of_wpS hf hb fun c₀ cs hc0 => ?_
        have hst := start_rel hF ha hle'
        have hdc : dstC fn.ntmps o = some ⟨fun t v => t.set d v⟩ := by unfold dstC; rw [hdst]; simp only [hd]
        have hT : TR Δ fn.ntmps ((C.start l).set d v) (({ tmps := l' ++ Array.replicate (fn.ntmps - l'.size) undef, defers := [] } : Act).put o.dst x) := put_ok hst hdc hx
        refine wpS_seq (wpS_region ?_)
        have hrange : List.range (#[o] : Array Oper).size = [0] := rfl
        rw [hrange]
        simp only [wpOpsS]
        have h0 : (#[o] : Array Oper)[0]? = some o := rfl
        simp only [h0]
        have hwant : ∀ y, Region.wanted o y = true := by grind[Region.wanted]
        rw [if_pos (hwant _), recover_run hop hcl]
        have hsome : recoverD (c₀ :: cs) = some (x, { c₀ with mode := .panicking [{ v := x, recovered := true }] } :: cs) := by simp only [recoverD, hc0]
        simp only [hsome]
        show rest.wpS P0 _ _ _ _
        refine wpS_of_wp ?_
        refine code_wp hc hF.mixed rest hW hT h1 fun Δ' a' w' hg => ?_
        obtain ⟨hx', hd', y, hy, hz⟩ := dend_ok hg h2
        obtain ⟨Δ'', z, he, hA⟩ := hz
        cases he
        rcases hx' with hx' | hx' <;> rw [hx'] <;> exact ⟨hd', _, rfl, y, hy, rfl, Δ'', y, u, rfl, hA⟩
      · cases hv
    · cases hv
  · cases hv
theorem rec_ok {C : Cfg} (hF : Facts C) (hc : CallOk call) (hp : PanOk pan) {m f : Nat} {args : List V} {v : V} {h h' : Hp} {Δ : Env} {w : World} {args' : Array Value} (hv : recC C f call pan m args h = some (v, h'))
    (hW : WR Δ h w) (ha : VsRel Δ args args'.toList) : Calls P0 f args' w fun e w' => ∃ Δ' x, e = .returned x ∧ After Δ h w v h' Δ' x w' := by
  unfold recC at hv
  split at hv
  · rename_i fn hf
    split at hv
    · rename_i c hb
      simp only [bB_eq, oB_eq] at hv
      obtain ⟨hle, ⟨u, t', h2⟩, h1, h3⟩ := hv
      have hle' : args.length ≤ fn.ntmps := Nat.le_of_ble_eq_true hle
      refine calls_of_wp_defers hf hb ?_
      refine panC_wp hc hp hF.mixed c hW (start_rel hF ha hle') h1 fun Δ' a' w' x hg hx => ?_
      simp only at h3
      split at h3
      · rename_i g l hds
        simp only [oB_eq] at h3
        obtain ⟨h4, e4, vs, e5, e6⟩ := h3
        cases e6
        have hd := hg.tmps.ds
        rw [hds] at hd
        show Leaves P0 fn a'.tmps _ a'.defers (.panicking (chainOf x)) w'
        generalize a'.defers = ds at hd
        cases hd with
        | cons _ _ cap dargs _ _ hal hnil =>
          cases hnil
          obtain ⟨g1, g2⟩ := catch_ok hF hc e4 hg.world hal hx
          refine leaves_cons (by simp) (f := g) (args := dargs ++ cap) g1 (CallsD.mono g2 fun e u' w'' he => ?_)
          obtain ⟨rfl, Δ'', y, u2, rfl, hA⟩ := he
          obtain ⟨z, hz, hzr⟩ := results_ok hA.world (hg.tmps.mono hA.frame.le) e5
          exact ⟨z, hz, Δ'', z, rfl, hzr, hA.world, hg.frame.trans hA.frame, hg.grow.trans hA.grow⟩
      · cases h3
    · cases hv
  · cases hv
/-- A call of flat arguments that panics and is caught, told beforehand. -/
theorem rec_calls {C : Cfg} (hF : Facts C) {m d n f : Nat} {l : List V} {v : V} (hn : P0.globals.size ≤ n) (hfl : v.flat = true)
    (h : isV v (recC C f (callN C m d) (panN C m d) m l { next := n, tr := .leaf }) = true) (W : World) (ht : TabOk (fun _ => none) W) (args' : Array Value) (ha : VsRel (fun _ => none) l args'.toList) :
    Calls P0 f args' W fun e W' => ∃ x, e = .returned x ∧ VRel (fun _ => none) v x ∧ Still W W' := by
  cases hr : recC C f (callN C m d) (panN C m d) m l { next := n, tr := .leaf } with
  | none => rw [hr] at h; cases h
  | some r =>
    let ⟨u, h'⟩ := r
    rw [hr] at h
    obtain rfl : u = v := V.eq_of_beq _ _ h
    refine Calls.mono (rec_ok hF (callN_ok hF m d) (panN_ok hF m d) hr (by grind[WR.start]) ha) fun e w' he => ?_
    obtain ⟨Δ', x, rfl, hA⟩ := he
    exact ⟨x, rfl, flat_rel hA.val hfl, hA.frame.still noRW⟩
end
end Go.Proofs.YtmpdoelanliaeaaGreatDoor.Hx
