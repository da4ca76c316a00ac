/- Calls, maps ranged over; and all that an operation that writes comes to. -/
import Derived.Test.YtgfdhkhcojjkjaaGreatDoorHxK
namespace Go.Proofs.YtgfdhkhcojjkjaaGreatDoor.Hx
section
variable {Δ : Env} {h : Hp} {w : World} {n : Nat} {t : Tm} {a : Act}

theorem hrange_ok (hW : WR Δ h w) {ty kt et : Nat} (hu : P0.underlying ty = some (.map kt et)) {m : V} {mv : Value} (hm : VRel Δ m mv) {r : R} (hv : hrange m h = some r) :
    ∃ v h' Δ' x w', r = .val v h' ∧ (Instr.range ty mv).run P0 w = .ok x w' ∧ After Δ h w v h' Δ' x w' := by
  unfold hrange at hv
  split at hv
  · cases hv; cases hm
    have hmade : Made Δ (.iter none 0 [] 0) (fun l => .ptr l 0) (.mapIter none 0 #[] 0) (fun b => .pointer (some ⟨b, 0, none⟩)) := fun l b hn =>
      ⟨⟨b, 0, 0, 0, 0, false, 2⟩, rfl, ⟨rfl, rfl, rfl, none, rfl, rfl⟩, VRel.ptr l 0 ⟨b, 0, 0, 0, 0, false, 2⟩ (Env.set_self _ _ _)⟩
    obtain ⟨Δ', a1, a2, a3, a4⟩ := hW.alloc hmade
    exact ⟨_, _, Δ', _, _, rfl, by simp_all[Instr.range,run_und], a2, a1, a3, a4⟩
  · rename_i l
    rw [mapAt_eq] at hv
    obtain ⟨es, c, hg, hv⟩ := hv
    cases hv
    cases hm with
    | map _ d hd =>
      obtain ⟨es', hb, he⟩ := map_ok hW hd hg
      have hmade : Made Δ (.iter (some l) c [] c) (fun l => .ptr l 0) (.mapIter (some d.b) c #[] c) (fun b => .pointer (some ⟨b, 0, none⟩)) := fun l' b hn =>
        ⟨⟨b, 0, 0, 0, 0, false, 2⟩, rfl, ⟨rfl, rfl, rfl, some d.b, rfl, d, Env.le_set hn _ _ hd, rfl⟩, VRel.ptr l' 0 ⟨b, 0, 0, 0, 0, false, 2⟩ (Env.set_self _ _ _)⟩
      obtain ⟨Δ', a1, a2, a3, a4⟩ := hW.alloc hmade
      exact ⟨_, _, Δ', _, _, rfl, by simp [Instr.range, run_und hu, run_getObj_map hb], a2, a1, a3, a4⟩
  · cases hv
theorem run_getObj_iter {r : Nat} {m : Option Nat} {s l : Nat} {seen : Array Nat} (hg : w.heap[r]? = some (.mapIter m s seen l)) : (getObj r).run P0 w = .ok (.mapIter m s seen l) w := by grind[getObj,Sem.run]
theorem filter_rel {es : List (V × V × Nat)} {es' : List MapEntry} (he : ERel Δ es es') (p : Nat → Bool) : ERel Δ (es.filter fun e => p e.2.2) (es'.filter fun e => p e.born) := by
  induction he with
  | nil => exact .nil
  | cons k v n e es es' hk hv hb _ ih =>
    subst hb
    simp only [List.filter_cons]
    by_cases hp : p e.born = true
    · simp only [hp, if_true]; exact .cons _ _ _ _ _ _ hk hv rfl ih
    simp_all
theorem all_rel {es : List (V × V × Nat)} {es' : List MapEntry} (he : ERel Δ es es') (p : Nat → Bool) : es'.all (fun e => p e.born) = es.all fun e => p e.2.2 := by
  induction he <;> grind
theorem hnext_ok (hW : WR Δ h w) {it : V} {iv : Value} {ty : Nat} (hi : VRel Δ it iv) {r : R} (hv : hnext it h = some r) :
    ∃ v h' x w', r = .val v h' ∧ (Instr.next iv false ty).run P0 w = .ok x w' ∧ After Δ h w v h' Δ x w' := by
  unfold hnext at hv
  rw [asPtr_eq] at hv
  obtain ⟨rl, off, rfl, hv⟩ := hv
  rw [bB_eq, oB_eq] at hv
  obtain ⟨h0, o, hg, hv⟩ := hv
  have h0' : off = 0 := Nat.eq_of_beq_eq_true h0
  subst h0'
  cases hi with
  | ptr _ _ d hd =>
    obtain ⟨o', ho, hr⟩ := hW.obj rl d hd
    rw [hg] at ho; cases ho
    split at hv
    · cases hv
      obtain ⟨a1, a2, a3, m', a4, a5⟩ := hr
      subst a5
      refine ⟨_, _, _, w, rfl, ?_, .tuple _ #[.bool false] (.one (.bool false)), hW, .refl _ _, .refl _ _⟩
      rw [a3]
      simp [Instr.next, run_getObj_iter a4]
    · rename_i m since seen last
      obtain ⟨a1, a2, a3, m', a4, dm, hdm, rfl⟩ := hr
      rw [mapAt_eq] at hv
      obtain ⟨es, c, hgm, hv⟩ := hv
      rw [bB_eq] at hv
      obtain ⟨hchk, hv⟩ := hv
      obtain ⟨es', hb, he⟩ := map_ok hW hdm hgm
      have hchk' : (!seen.toArray.isEmpty && !es'.isEmpty && es'.all (fun e => decide (e.born ≥ last))) = false := by
        have h1 : es'.isEmpty = es.isEmpty := by
          have := he.length
          cases es <;> cases hes : es' with | mk l => grind
        have h2 : es'.all (fun e => decide (e.born ≥ last)) = es.all (fun e => Nat.ble last e.2.2) := by
          rw [← Array.all_toList]
          have := all_rel he (fun n => Nat.ble last n)
          rw [← this]
          congr 1
          funext e
          rw [Bool.eq_iff_iff]
          simp [Nat.ble_eq]
        have h3 : seen.toArray.isEmpty = seen.isEmpty := by simp
        rw [h3, h1, h2]
        simpa only [Bool.not_eq_true'] using hchk
      have hleft := filter_rel he (fun n => !seen.contains n)
      have hl' : (es'.filter fun e => !seen.toArray.contains e.born) = Array.mk (es'.toList.filter fun e => !seen.contains e.born) := by
        apply Array.ext'
        rw [Array.toList_filter]
        simp
      rw [a3]
      split at hv
      · rename_i hf
        cases hv
        rw [hf] at hleft
        generalize (es'.toList.filter fun e => !seen.contains e.born) = L at hleft hl'
        cases hleft
        refine ⟨_, _, _, w, rfl, ?_, .tuple _ #[.bool false] (.one (.bool false)), hW, .refl _ _, .refl _ _⟩
        simp only [Instr.next, Sem.run_bind, run_getObj_iter a4, Result.andThen_ok, run_getObj_map hb, hchk', hl']
        simp [Question.forced]
      · rename_i e hf
        rw [bB_eq] at hv
        obtain ⟨hlt, hv⟩ := hv
        cases hv
        rw [hf] at hleft
        generalize (es'.toList.filter fun e => !seen.contains e.born) = L at hleft hl'
        cases hleft with
        | cons k v nb e' _ L hk hx hbn hs =>
          cases hs
          have hlt' : e'.born < since := by rw [Nat.blt_eq] at hlt; rw [hbn]; exact hlt
          have hdb := hW.blk _ _ hd
          have hother : ∀ b, b ≠ d.b → ({ w with heap := w.heap.setIfInBounds d.b (.mapIter (some dm.b) since (seen ++ [nb]).toArray c) } : World).heap[b]? = w.heap[b]? := by grind
          refine ⟨_, _, _, { w with heap := w.heap.setIfInBounds d.b (.mapIter (some dm.b) since (seen ++ [nb]).toArray c) }, rfl, ?_,
            .tuple _ #[.bool true, e'.key, e'.val] (.cons _ _ _ _ (.bool true) (.cons _ _ _ _ hk (.one hx))), ?_, FR.set hd a2 (by simp) hother rfl rfl rfl, .same (Nat.le_refl _)⟩
          · have hge : ¬ (e'.born ≥ since) := by omega
            have f1 : (Array.mk [e']).filter (fun x => decide (x.born < since)) = #[e'] := by simp [hlt']
            have f2 : (Array.mk [e']).filter (fun x => decide (x.born ≥ since)) = #[] := by simp [hge]
            simp only [Instr.next, Sem.run_bind, run_getObj_iter a4, Result.andThen_ok, run_getObj_map hb, hchk', hl', f1, f2]
            simp_all[Question.forced,setObj,Sem.run]
          · refine hW.set hd hg rfl a2 (fun h => h) ⟨a1, a2, a3, some dm.b, ?_, dm, hdm, rfl⟩ (by simp) hother
            simp_all
      · cases hv
    · cases hv
theorem find_rel {es : List (V × V × Nat)} {es' : List MapEntry} (he : ERel Δ es es') (st : Nat) {e : V × V × Nat} (hf : (es.find? fun e => Nat.beq e.2.2 st) = some e) :
    ∃ e', (es'.find? fun e => e.born == st) = some e' ∧ VRel Δ e.1 e'.key ∧ VRel Δ e.2.1 e'.val := by
  induction he with
  | nil => cases hf
  | cons k v n e0 es es' hk hv hb _ ih =>
    subst hb
    simp only [List.find?_cons] at hf ⊢
    have hbe : (e0.born == st) = Nat.beq e0.born st := by rw [Bool.eq_iff_iff]; simp
    grind
theorem hentry_ok (hW : WR Δ h w) {it : V} {iv : Value} (hi : VRel Δ it iv) {r : R} (hv : hentry it h = some r) :
    ∃ v x, r = .val v h ∧ (Instr.entry iv).run P0 w = .ok x w ∧ VRel Δ v x := by
  unfold hentry at hv
  rw [asPtr_eq] at hv
  obtain ⟨rl, off, rfl, hv⟩ := hv
  rw [bB_eq, oB_eq] at hv
  obtain ⟨h0, o, hg, hv⟩ := hv
  have h0' : off = 0 := Nat.eq_of_beq_eq_true h0
  subst h0'
  cases hi with
  | ptr _ _ d hd =>
    obtain ⟨o', ho, hr⟩ := hW.obj rl d hd
    rw [hg] at ho; cases ho
    split at hv
    · rename_i m since seen last
      obtain ⟨a1, a2, a3, m', a4, dm, hdm, rfl⟩ := hr
      rw [mapAt_eq] at hv
      obtain ⟨es, c, hgm, hv⟩ := hv
      simp only [bB_eq, oB_eq] at hv
      obtain ⟨hc, st, hst, e, he1, hv⟩ := hv
      cases hv
      obtain ⟨es', hb, he⟩ := map_ok hW hdm hgm
      obtain ⟨e', f1, f2, f3⟩ := find_rel he st he1
      refine ⟨_, .tuple #[e'.key, e'.val], rfl, ?_, .tuple _ _ (.cons _ _ _ _ f2 (.one f3))⟩
      have hcl : c = last := Nat.eq_of_beq_eq_true hc
      subst hcl
      have hback : seen.toArray.back? = some st := by rw [List.back?_toArray]; exact hst
      have hfind : (es'.find? fun e => e.born == st) = some e' := by rw [← Array.find?_toList]; exact f1
      rw [a3]
      simp only [Instr.entry, Sem.run_bind, run_getObj_iter a4, Result.andThen_ok, hback, run_getObj_map hb, bne_self_eq_false, Bool.false_eq_true, if_false, Sem.run_pure, hfind]
    · cases hv
/-! ### calls -/
theorem hcall_ok {f : V} {fv : Value} {args : List V} {argv : Array Value} {ty : Nat} {c : Go.Call} {op : Operand} (hc : c.callee = .value op) (ho : a.eval op = fv) (hav : c.args.map a.eval = argv) (hf : VRel Δ f fv) (ha : VsRel Δ args argv.toList) {r : R}
    (hv : hcall f args = some r) : ∃ g l args', r = .call g l ∧ VsRel Δ l args'.toList ∧ (do let d ← resolve a.eval c ty; invoke d.target d.args : Sem Next) = callFunc g args' := by
  unfold hcall at hv
  split at hv
  · cases hv
    cases hf with
    | func _ _ _ first' caps' h1 h2 =>
      refine ⟨_, _, first' ++ argv ++ caps', rfl, ?_, ?_⟩
      · simp only [Array.toList_append, List.append_assoc]
        exact h1.append (ha.append h2)
      · simp only [resolve, hc, ho, hav, Deferred.ofValue]
        rfl
  · cases hv
theorem hinvoke_ok (hW : WR Δ h w) {name : String} {r : V} {rv : Value} {args : List V} {argv : Array Value} {ty : Nat} {c : Go.Call} {op : Operand} (hc : c.callee = .invoke op name) (ho : a.eval op = rv) (hav : c.args.map a.eval = argv)
    (hr : VRel Δ r rv) (ha : VsRel Δ args argv.toList) {x : R} (hv : hinvoke name r args h = some x) :
    ∃ g l args', x = .call g l ∧ VsRel Δ l args'.toList ∧ (do let d ← resolve a.eval c ty; invoke d.target d.args : Sem Next).run P0 w = (callFunc g args').run P0 w := by
  unfold hinvoke at hv
  split at hv
  · rename_i t v
    cases hr with
    | iface _ _ v' hvv =>
      have hres : (do let d ← resolve a.eval c ty; invoke d.target d.args : Sem Next) = callMethod (.iface t v') name argv := by
        simp only [resolve, hc, ho, hav]
        show invoke (.fn (.method name) #[]) (#[.iface t v'] ++ argv) = _
        have h1 : (#[Value.iface t v'] ++ argv)[0]? = some (.iface t v') := by
          rw [Array.getElem?_append_left (by simp)]; rfl
        have h2 : (#[Value.iface t v'] ++ argv).extract 1 (#[Value.iface t v'] ++ argv).size = argv := by
          apply Array.ext'
          simp
        simp only [invoke, h1, h2]
      have hmeth : ∀ {f : Nat} {o : Option Nat}, methodOf t name = some (f, o) → ∃ i m b, P0.info? t = some i ∧ i.methods.find? (fun m => m.name == name) = some m ∧ m.path = #[] ∧ m.func = some (f, b) ∧
          ((∃ e, P0.underlying t = some (.pointer e) ∧ ((b = true ∧ o = none) ∨ (b = false ∧ o = some e))) ∨ (b = false ∧ o = none ∧ ∃ dd, P0.underlying t = some dd ∧ ∀ e, dd ≠ .pointer e)) := by
        intro f o hm
        unfold methodOf at hm
        rw [oB_eq] at hm
        obtain ⟨i, hi, hm⟩ := hm
        split at hm
        · rename_i m hf
          refine ⟨i, m, ?_⟩
          have hf' : i.methods.find? (fun m => m.name == name) = some m := by rw [← Array.find?_toList]; exact hf
          split at hm
          · simp_all
          · simp_all
          · simp_all
          · cases hm
        · cases hm
      obtain ⟨fuel, hm1⟩ : ∃ k, P0.types.size + Made.depth = k + 1 := ⟨P0.types.size + 99, rfl⟩
      split at hv
      · rename_i f hm
        cases hv
        obtain ⟨i, m, b, h1, h2, h3, h4, h5⟩ := hmeth hm
        refine ⟨f, _, #[v'] ++ argv, rfl, by simp only [Array.toList_append]; exact .cons _ _ _ _ hvv ha, ?_⟩
        rw [hres]
        have hrec : (receiverAt t (.val v') b (some ((name.splitOn ".").getLastD name))).run P0 w = .ok v' w := by
          rcases h5 with ⟨e, hu, ⟨rfl, _⟩ | ⟨_, h6⟩⟩ | ⟨rfl, _, dd, hu, hne⟩
          · simp_all[receiverAt,run_und,Place.get]
          · cases h6
          · simp only [receiverAt, Sem.run_bind, run_und hu, Result.andThen_ok]
            rfl
        have hmr : (method (P0.types.size + Made.depth) t v' name).run P0 w = .ok (f, v') w := by
          rw [hm1]
          simp only [method, Sem.run_bind, typeInfo, run_program, Result.andThen_ok, h1, Sem.run_pure, h2, h3, h4, follow, hrec, Array.isEmpty, Array.size_empty, if_true, decide_true]
        grind[callMethod,Sem.run_bind,run_program,Result.andThen_ok]
      · rename_i f e hm
        rw [oB_eq] at hv
        obtain ⟨y, hy, hv⟩ := hv
        cases hv
        obtain ⟨i, m, b, h1, h2, h3, h4, h5⟩ := hmeth hm
        have h5' : P0.underlying t = some (.pointer e) ∧ b = false := by
          rcases h5 with ⟨e', hu, ⟨_, h6⟩ | ⟨hb, h6⟩⟩ | ⟨_, h6, _⟩
          · cases h6
          · simp_all
          · cases h6
        obtain ⟨hu, rfl⟩ := h5'
        obtain ⟨xl, hxl, hxr⟩ := hload_ok (t := .tree .leaf []) (xv := v') hW (by simp_all) hy
        refine ⟨f, _, #[xl] ++ argv, rfl, by simp only [Array.toList_append]; exact .cons _ _ _ _ hxr ha, ?_⟩
        rw [hres]
        have hptr : ∃ ad, v' = .pointer (some ad) := by
          cases v' with
          | pointer p => cases p with
            | some ad => simp_all
            | none => simp_all[Instr.loadAt,Instr.sureAddr]
          | _ => simp_all[Instr.loadAt,Instr.sureAddr]
        obtain ⟨ad, rfl⟩ := hptr
        have hlv : (loadVar e ad).run P0 w = .ok xl w := by simpa [Instr.loadAt, Instr.sureAddr] using hxl
        have hrec : (receiverAt t (.val (.pointer (some ad))) false (some ((name.splitOn ".").getLastD name))).run P0 w = .ok xl w := by
          have hchk : ∀ s1 s2, (Builtin.ssaWrapNilChk_ #[t] t #[.pointer (some ad), strVal s1, strVal s2]).run P0 w = .ok (.pointer (some ad)) w := fun _ _ => rfl
          simp only [receiverAt, Sem.run_bind, run_und hu, Result.andThen_ok, Place.get, Sem.run_pure, hchk, asAddr, hlv]
        have hmr : (method (P0.types.size + Made.depth) t (.pointer (some ad)) name).run P0 w = .ok (f, xl) w := by
          rw [hm1]
          simp only [method, Sem.run_bind, typeInfo, run_program, Result.andThen_ok, h1, Sem.run_pure, h2, h3, h4, follow, hrec, Array.isEmpty, Array.size_empty, if_true, decide_true]
        grind[callMethod,Sem.run_bind,run_program,Result.andThen_ok]
      · cases hv
  · cases hv

/-- What an operation that writes comes to: a value (or nothing), or a call. -/
theorem write_ok (hW : WR Δ h w) (hT : TR Δ n t a) {o : Oper} {r : R} (hv : (writeC o).f t h = some r) :
    (∃ v h' Δ' x w', r = .val v h' ∧ ((execOp a.eval o).run P0 w = .ok (.value x) w' ∨ (x = undef ∧ (execOp a.eval o).run P0 w = .ok .skip w')) ∧ After Δ h w v h' Δ' x w') ∨
    (∃ g l args', r = .call g l ∧ VsRel Δ l args'.toList ∧ (execOp a.eval o).run P0 w = (callFunc g args').run P0 w) := by
  obtain ⟨dst, op, oty, pos, af, gd⟩ := o
  cases op with
  | store ty p x =>
    simp only [writeC] at hv
    split at hv
    · rename_i size hz
      simp only [oB_eq, asPtr_eq, bB_eq] at hv
      obtain ⟨pv, h1, v, h2, l, off, rfl, h3, h', h4, h5⟩ := hv
      cases h5
      obtain ⟨w', r1, r2, r3, r4⟩ := hstore_ok hW hz (evO_ok hW hT h1) (evO_ok hW hT h2) h3 h4
      exact .inl ⟨_, _, Δ, undef, w', rfl, .inr ⟨rfl, by simp_all[execOp]⟩, .undef Δ, r2, r3, r4⟩
    · cases hv
  | mapUpdate ty m k x =>
    simp only [writeC] at hv
    split at hv
    · rename_i kt et hu
      split at hv
      · rename_i d hd
        simp only [oB_eq] at hv
        obtain ⟨mv, h1, kv, h2, xv, h3, h4⟩ := hv
        obtain ⟨h', w', rfl, r1, r2, r3, r4⟩ := hput_ok hW hu hd (evO_ok hW hT h1) (evO_ok hW hT h2) (evO_ok hW hT h3) h4
        exact .inl ⟨_, _, Δ, undef, w', rfl, .inr ⟨rfl, by simp_all[execOp]⟩, .undef Δ, r2, r3, r4⟩
      · cases hv
    · cases hv
  | insert ty m k x =>
    simp only [writeC] at hv
    split at hv
    · rename_i kt et hu
      split at hv
      · rename_i d hd
        simp only [oB_eq] at hv
        obtain ⟨mv, h1, kv, h2, xv, h3, h4⟩ := hv
        obtain ⟨h', w', rfl, r1, r2, r3, r4⟩ := hput_ok hW hu hd (evO_ok hW hT h1) (evO_ok hW hT h2) (evO_ok hW hT h3) h4
        exact .inl ⟨_, _, Δ, undef, w', rfl, .inr ⟨rfl, by simp_all[execOp]⟩, .undef Δ, r2, r3, r4⟩
      · cases hv
    · cases hv
  | range ty x =>
    simp only [writeC] at hv
    split at hv
    · rename_i kt et hu
      simp only [oB_eq] at hv
      obtain ⟨mv, h1, h2⟩ := hv
      obtain ⟨v, h', Δ', y, w', rfl, r1, r2⟩ := hrange_ok hW hu (evO_ok hW hT h1) h2
      exact .inl ⟨_, _, Δ', y, w', rfl, .inl (run_v r1), r2⟩
    · cases hv
  | next x isS =>
    cases isS with
    | true => cases hv
    | false =>
      simp only [writeC, oB_eq] at hv
      obtain ⟨mv, h1, h2⟩ := hv
      obtain ⟨v, h', y, w', rfl, r1, r2⟩ := hnext_ok (ty := oty) hW (evO_ok hW hT h1) h2
      exact .inl ⟨_, _, Δ, y, w', rfl, .inl (run_v r1), r2⟩
  | entry x =>
    simp only [writeC, oB_eq] at hv
    obtain ⟨mv, h1, h2⟩ := hv
    obtain ⟨v, y, rfl, r1, r2⟩ := hentry_ok hW (evO_ok hW hT h1) h2
    exact .inl ⟨_, _, Δ, y, w, rfl, .inl (run_v r1), r2, hW, .refl _ _, .refl _ _⟩
  | convert src dst' x =>
    simp only [writeC] at hv
    split at hv
    · rename_i e hs hd
      split at hv
      · rename_i he hz
        simp only [oB_eq] at hv
        obtain ⟨xv, h1, h2⟩ := hv
        have hx := evO_ok hW hT h1
        split at h2
        · cases h2
          generalize hy : a.eval x = y at hx
          cases hx with
          | str s =>
            obtain ⟨Δ', z, w', r1, r2⟩ := hbytes_ok hW hs hd he s
            refine .inl ⟨_, _, Δ', z, w', rfl, .inl (run_v ?_), r2⟩
            simp_all
        · cases h2
      · cases hv
    · rename_i e0 e hs hd
      split at hv
      · rename_i he hb
        simp only [oB_eq] at hv
        obtain ⟨xv, h1, h2⟩ := hv
        have hx := evO_ok hW hT h1
        generalize hy : a.eval x = y at hx
        obtain ⟨v', h', w', r1, r3, r2⟩ := hmark_ok hW hx (src := src) (dst := dst') (e0 := e0) (e := e) hs hd he (Nat.eq_of_beq_eq_true hb) h2
        refine .inl ⟨v', h', Δ, y, w', r1, .inl (run_v ?_), r2⟩
        simp_all
      · cases hv
    · cases hv
  | call c =>
    obtain ⟨cal, args, tys⟩ := c
    cases cal with
    | builtin b =>
      simp only [writeC] at hv
      cases b with
      | append =>
        simp only at hv
        split at hv
        · rename_i s x sT xT hargs htys
          have ha : args = #[s, x] := by apply Array.ext'; exact hargs
          have hty : tys = #[sT, xT] := by apply Array.ext'; exact htys
          subst ha; subst hty
          split at hv
          · rename_i elem e' hs hu
            have hs' := sliceOf_eq hs
            split at hv
            · rename_i size by_ z he
              simp only [oB_eq] at hv
              obtain ⟨sv, h1, xv, h2, h3⟩ := hv
              obtain ⟨v, h', Δ', y, w', rfl, r1, r2⟩ := happend_ok (ty := oty) (xT := xT) hW hs' hu (by simp_all) he (evO_ok hW hT h1) (evO_ok hW hT h2) h3
              refine .inl ⟨_, _, Δ', y, w', rfl, .inl ?_, r2⟩
              simp only [execOp, resolve, List.map_toArray]
              exact run_v r1
            · cases hv
          · rename_i elem hs hu
            have hs' := sliceOf_eq hs
            split at hv
            · rename_i size by_ z he
              simp only [oB_eq] at hv
              obtain ⟨sv, h1, xv, h2, h3⟩ := hv
              obtain ⟨v, h', Δ', y, w', rfl, r1, r2⟩ := happend_ok (ty := oty) (xT := xT) hW hs' hu (by simp_all) he (evO_ok hW hT h1) (evO_ok hW hT h2) h3
              refine .inl ⟨_, _, Δ', y, w', rfl, .inl ?_, r2⟩
              simp only [execOp, resolve, List.map_toArray]
              exact run_v r1
            · cases hv
          · rename_i elem kx hs hu
            have hs' := sliceOf_eq hs
            split at hv
            · rename_i size by_ z he
              simp only [oB_eq] at hv
              obtain ⟨sv, h1, xv, h2, h3⟩ := hv
              obtain ⟨v, h', Δ', y, w', rfl, r1, r2⟩ := happendM_ok (ty := oty) (xT := xT) hW hs' hu he (evO_ok hW hT h1) (evO_ok hW hT h2) h3
              refine .inl ⟨_, _, Δ', y, w', rfl, .inl ?_, r2⟩
              simp only [execOp, resolve, List.map_toArray]
              exact run_v r1
            · cases hv
          · cases hv
        · cases hv
      | copy =>
        simp only at hv
        split at hv
        · rename_i d s dT rest hargs htys
          have ha : args = #[d, s] := by apply Array.ext'; exact hargs
          have hty : tys[0]? = some dT := by rw [← Array.getElem?_toList, htys]; rfl
          subst ha
          split at hv
          · rename_i elem hs
            have hs' := sliceOf_eq hs
            split at hv
            · rename_i size hz
              simp only [oB_eq] at hv
              obtain ⟨dv, h1, sv, h2, h3⟩ := hv
              obtain ⟨h', m, w', rfl, r1, r2, r3, r4⟩ := hcopy_ok (rt := oty) hW hty hs' hz (evO_ok hW hT h1) (evO_ok hW hT h2) h3
              refine .inl ⟨_, _, Δ, _, w', rfl, .inl ?_, .int _ _, r2, r3, r4⟩
              simp only [execOp, resolve, List.map_toArray]
              exact run_v r1
            · cases hv
          · cases hv
        · cases hv
      | delete =>
        simp only at hv
        split at hv
        · rename_i m k mT rest hargs htys
          have ha : args = #[m, k] := by apply Array.ext'; exact hargs
          have hty : tys[0]? = some mT := by rw [← Array.getElem?_toList, htys]; rfl
          subst ha
          split at hv
          · rename_i kt et hu
            split at hv
            · rename_i d hd
              simp only [oB_eq] at hv
              obtain ⟨mv, h1, kv, h2, h3⟩ := hv
              obtain ⟨h', w', rfl, r1, r2, r3, r4⟩ := hdelete_ok (rt := oty) hW hty hu hd (evO_ok hW hT h1) (evO_ok hW hT h2) h3
              refine .inl ⟨_, _, Δ, _, w', rfl, .inl ?_, .tuple _ #[] .nil, r2, r3, r4⟩
              simp only [execOp, resolve, List.map_toArray]
              exact run_v r1
            · cases hv
          · cases hv
        · cases hv
      | _ => cases hv
    | value f =>
      simp only [writeC, oB_eq] at hv
      obtain ⟨fv, h1, l, h2, h3⟩ := hv
      obtain ⟨g, l, args', rfl, r1, r2⟩ := hcall_ok (a := a) (c := ⟨.value f, args, tys⟩) (ty := oty) (args := l) rfl rfl rfl (evO_ok hW hT h1) (by simpa using evNs_ok hT h2) h3
      refine .inr ⟨g, l, args', rfl, r1, ?_⟩
      grind[execOp]
    | invoke rcv m =>
      simp only [writeC, oB_eq] at hv
      obtain ⟨fv, h1, l, h2, h3⟩ := hv
      obtain ⟨g, l, args', rfl, r1, r2⟩ := hinvoke_ok (a := a) (c := ⟨.invoke rcv m, args, tys⟩) (ty := oty) hW (args := l) rfl rfl rfl (evO_ok hW hT h1) (by simpa using evNs_ok hT h2) h3
      exact .inr ⟨g, l, args', rfl, r1, r2⟩
  | _ => cases hv
end
end Go.Proofs.YtgfdhkhcojjkjaaGreatDoor.Hx
/- The walk's steps: an operation, where its value goes, a region whose order is told, a loop. -/
namespace Go.Proofs.YtgfdhkhcojjkjaaGreatDoor.Hx

/-- What a call of the plain machine stands for. -/
def CallOk (call : Call) : Prop := ∀ (f : Nat) (args : List V) (v : V) (h h' : Hp) (Δ : Env) (w : World) (args' : Array Value), call f args h = some (v, h') → WR Δ h w → VsRel Δ args args'.toList →
  (∃ x, (callFunc f args').run P0 w = .ok (.value x) w ∧ After Δ h w v h' Δ x w) ∨
  ((callFunc f args').run P0 w = .ok (.enter f args') w ∧ Calls P0 f args' w fun e w' => ∃ Δ' x, e = .returned x ∧ After Δ h w v h' Δ' x w')

section
variable {Δ : Env} {h : Hp} {w : World} {n : Nat} {t : Tm} {a : Act}

theorem op_wp {call : Call} (hc : CallOk call) (hW : WR Δ h w) (hT : TR Δ n t a) {o : Oper} {v : V} {h' : Hp} (hv : (opC o).f call t h = some (v, h')) {K : Act → World → Prop} {Q : Exit → Act → World → Prop}
    (hK : ∀ Δ' x w', After Δ h w v h' Δ' x w' → K (a.put o.dst x) w') : o.wp P0 a w K Q := by
  unfold opC at hv
  split at hv
  · simp only [oB_eq] at hv
    obtain ⟨v', h1, h2⟩ := hv
    cases h2
    obtain ⟨x, h3, h4⟩ := pure_ok hW hT h1
    unfold Oper.wp
    rw [h3, Oper.upon_value]
    exact hK Δ x w ⟨h4, hW, .refl _ _, .refl _ _⟩
  · simp only [oB_eq] at hv
    obtain ⟨⟨ob, mk⟩, h1, h2⟩ := hv
    cases h2
    obtain ⟨mo, mv, h3, h4⟩ := alloc_ok hT h1
    obtain ⟨Δ', a1, a2, a3, a4⟩ := hW.alloc h4
    unfold Oper.wp
    rw [h3 w, Oper.upon_value]
    exact hK Δ' _ _ ⟨a2, a1, a3, a4⟩
  · simp only [oB_eq] at hv
    obtain ⟨r, h1, h2⟩ := hv
    rcases write_ok hW hT h1 with ⟨v', h'', Δ', x, w', rfl, h3, h4⟩ | ⟨g, l, args', rfl, h3, h4⟩
    · cases h2
      unfold Oper.wp
      rcases h3 with h3 | ⟨rfl, h3⟩
      · grind[Oper.upon_value]
      grind[Oper.upon_skip]
    · unfold Oper.wp
      rw [h4]
      rcases hc g l v h h' Δ w args' h2 hW h3 with ⟨x, h5, h6⟩ | ⟨h5, h6⟩
      · grind[Oper.upon_value]
      · rw [h5, Oper.upon_enter]
        refine Calls.mono h6 fun e w' he => ?_
        grind

theorem put_getD (a : Act) (d : Nat) (x : Value) (i : Nat) (hd : d < a.tmps.size) : (a.put (some d) x).tmps.getD i undef = if d = i then x else a.tmps.getD i undef := by
  simp only [Act.put, Array.getD_eq_getD_getElem?, Array.getElem?_setIfInBounds]
  grind
theorem put_defers (a : Act) (d : Option Tmp) (x : Value) : (a.put d x).defers = a.defers := by cases d <;> rfl
theorem put_ok (hT : TR Δ n t a) {o : Oper} {d : DF} (hd : dstC n o = some d) {v : V} {x : Value} (hv : VRel Δ v x) : TR Δ n (d.f t v) (a.put o.dst x) := by
  unfold dstC at hd
  cases ho : o.dst with
  | none => simp only [ho] at hd; cases hd; exact hT
  | some k =>
    simp only [ho] at hd
    cases hk : Nat.blt k n with
    | false => simp_all
    | true =>
      simp only [hk] at hd
      cases hd
      have hlt : k < a.tmps.size := by rw [hT.size, ← Nat.blt_eq]; exact hk
      refine ⟨by simp [Act.put, hT.size], fun i => ?_, by rw [put_defers]; show DsRel Δ (t.set k v).ds _; rw [Tm.ds_set]; exact hT.ds⟩
      rw [put_getD _ _ _ _ hlt]
      show VRel Δ (tget (t.set k v) i) _
      rw [tget_set]
      by_cases h : k = i
      · simp_all
      · rw [if_neg h, if_neg h]; exact hT.rel i
theorem want_none {n : Nat} {ops : List Oper} {o : Oper} (hw : wantC n ops o = none) (y : Nat → Option Bool) : Region.wanted o y = true := by
  grind[wantC,Region.wanted]
theorem want_some (hT : TR Δ n t a) {ops : Array Oper} {o : Oper} {g : GF} (hw : wantC n ops.toList o = some g) {b : Bool} (hb : g.f t = some b) : Region.wanted o (yielded ops a.tmps) = b := by
  unfold wantC at hw
  unfold Region.wanted
  cases hg : o.guard with
  | none => simp_all
  | some gj =>
    obtain ⟨j, wt⟩ := gj
    simp only [hg] at hw ⊢
    unfold yielded
    cases hj : ops.toList[j]? with
    | none =>
      grind
    | some oj =>
      have hj' : ops[j]? = some oj := by rw [← Array.getElem?_toList]; exact hj
      simp only [hj] at hw
      simp only [hj', Option.bind_some]
      cases hd : oj.dst with
      | none =>
        grind
      | some d =>
        simp only [hd] at hw
        simp only [Option.bind_some]
        cases hlt : Nat.blt d n with
        | false => grind
        | true =>
          simp only [hlt] at hw
          cases hw
          have hlt' : d < a.tmps.size := by rw [hT.size, ← Nat.blt_eq]; exact hlt
          have hr := hT.rel d
          have he : a.tmps[d]? = some (a.tmps.getD d undef) := by simp [hlt']
          rw [he]
          generalize a.tmps.getD d undef = x at hr
          simp only at hb
          split at hb
          · rename_i bb hbb
            cases hb
            rw [hbb] at hr
            cases hr
            cases wt <;> cases bb <;> rfl
          · rename_i hbb
            cases hb
            rw [hbb] at hr
            cases hr <;> grind
          · cases hb

/-- How far a walk has come. -/
structure Goes (Δ : Env) (h : Hp) (w : World) (n : Nat) (t' : Tm) (h' : Hp) (Δ' : Env) (a' : Act) (w' : World) : Prop where
  tmps : TR Δ' n t' a'
  world : WR Δ' h' w'
  frame : FR Δ Δ' w w'
  grow : Gr h Δ h' Δ'
theorem Goes.start (hT : TR Δ n t a) (hW : WR Δ h w) : Goes Δ h w n t h Δ a w := ⟨hT, hW, .refl _ _, .refl _ _⟩
theorem Goes.trans {Δ1 Δ2 : Env} {h1 h2 : Hp} {w1 w2 : World} {t1 t2 : Tm} {a1 a2 : Act} (x : Goes Δ h w n t1 h1 Δ1 a1 w1) (y : Goes Δ1 h1 w1 n t2 h2 Δ2 a2 w2) : Goes Δ h w n t2 h2 Δ2 a2 w2 :=
  ⟨y.tmps, y.world, x.frame.trans y.frame, x.grow.trans y.grow⟩
theorem Goes.put (hT : TR Δ n t a) {o : Oper} {d : DF} (hdst : dstC n o = some d) {v : V} {h' : Hp} {Δ' : Env} {x : Value} {w' : World} (hA : After Δ h w v h' Δ' x w') :
    Goes Δ h w n (d.f t v) h' Δ' (a.put o.dst x) w' :=
  ⟨put_ok (hT.mono hA.frame.le) hdst hA.val, hA.world, hA.frame, hA.grow⟩

theorem defer_ok (hW : WR Δ h w) (hT : TR Δ n t a) {o : Oper} {q : QF} (hq : deferC o = some q) {t' : Tm} (hv : q.f t h = some t') :
    ∃ d, (∀ w, (execOp a.eval o).run P0 w = .ok (.defer d) w) ∧ TR Δ n t' { a with defers := d :: a.defers } := by
  unfold deferC at hq
  split at hq
  · rename_i c hop
    split at hq
    · rename_i f hf
      cases hq
      simp only [oB_eq] at hv
      obtain ⟨fv, h1, args, h2, h3⟩ := hv
      have hfr := evO_ok hW hT h1
      obtain ⟨xs, hxs⟩ : ∃ xs, xs = c.args.map a.eval := ⟨_, rfl⟩
      have har := evNs_ok hT h2
      generalize hx : a.eval f = xv at hfr
      unfold hdefer at h3
      split at h3
      · rename_i g first caps
        cases h3
        cases hfr with
        | func _ _ _ a' c' ha hc =>
          refine ⟨{ target := .fn (.func g) c', args := a' ++ c.args.map a.eval }, fun w => ?_, ⟨hT.size, fun i => ?_, ?_⟩⟩
          · have hr : (resolve a.eval c o.type).run P0 w = .ok { target := .fn (.func g) c', args := a' ++ c.args.map a.eval } w := by
              unfold resolve
              rw [hf]
              simp only [hx]
              rfl
            simp_all[execOp,Result.andThen_ok]
          · rw [tget_push]; exact hT.rel i
          · rw [Tm.ds_push]
            refine .cons _ _ _ _ _ _ ?_ hT.ds
            simp only [Array.toList_append, List.append_assoc, Array.toList_map]
            exact ha.append (har.append hc)
      · cases h3
    · cases hq
  · cases hq
theorem step_wp {call : Call} (hc : CallOk call) {ops : Array Oper} {i : Nat} {o : Oper} (hi : ops[i]? = some o) {rest : SF} {K : Act → World → Prop} {Q : Exit → Act → World → Prop}
    (hW : WR Δ h w) (hT : TR Δ n t a) {r : Tm × Hp} (hv : (stepC n ops.toList o rest).f call t h = some r)
    (hK : ∀ t' h' Δ' a' w', rest.f call t' h' = some r → Goes Δ h w n t' h' Δ' a' w' → K a' w') : wpOp P0 ops Q i K a w := by
  unfold stepC at hv
  unfold wpOp
  simp only [hi]
  cases hdst : dstC n o with
  | none => simp only [hdst] at hv; cases hv
  | some d =>
    simp only [hdst] at hv
    have run : ∀ x, oB ((opC o).f call t h) (fun r => rest.f call (d.f t r.1) r.2) = some x → x = r → o.wp P0 a w K Q := by
      intro x hx hxr
      subst hxr
      rw [oB_eq] at hx
      obtain ⟨⟨v, h'⟩, h1, h2⟩ := hx
      exact op_wp hc hW hT h1 fun Δ' x w' hA => hK _ _ _ _ _ h2 (Goes.put hT hdst hA)
    cases hg : wantC n ops.toList o with
    | none =>
      simp only [hg] at hv
      rw [if_pos (want_none hg _)]
      cases hq : deferC o with
      | none => grind
      | some q =>
        simp only [hq, oB_eq] at hv
        obtain ⟨t1, h1, h2⟩ := hv
        obtain ⟨dd, h3, h4⟩ := defer_ok hW hT hq h1
        refine .inl ?_
        unfold Oper.wp
        rw [h3 w, Oper.upon_defer]
        exact hK _ _ _ _ _ h2 (Goes.put h4 hdst ⟨.undef Δ, hW, .refl _ _, .refl _ _⟩)
    | some g =>
      simp only [hg, oB_eq] at hv
      obtain ⟨b, h1, h2⟩ := hv
      rw [want_some hT hg h1]
      cases b with
      | true => simp_all
      | false => exact hK _ _ _ _ _ h2 (Goes.put hT hdst ⟨.undef Δ, hW, .refl _ _, .refl _ _⟩)
theorem region_wp {call : Call} (hc : CallOk call) {ops : Array Oper} {Q : Exit → Act → World → Prop} : ∀ (l : List Oper) (k : Nat), l = ops.toList.drop k → ∀ {Δ : Env} {h : Hp} {w : World} {t : Tm} {a : Act},
    WR Δ h w → TR Δ n t a → ∀ {r : Tm × Hp}, (regionC n ops.toList l).f call t h = some r → (∀ Δ' a' w', Goes Δ h w n r.1 r.2 Δ' a' w' → Q .normal a' w') →
    wpOps P0 ops Q (List.range' k l.length) a w
  | [], k, hl, Δ, h, w, t, a, hW, hT, r, hv, hQ => by
    cases hv
    exact hQ _ _ _ (.start hT hW)
  | o :: l, k, hl, Δ, h, w, t, a, hW, hT, r, hv, hQ => by
    have hk : ops[k]? = some o := by
      have : (ops.toList.drop k)[0]? = some o := by rw [← hl]; rfl
      rw [List.getElem?_drop, Nat.add_zero] at this
      simpa using this
    have hl' : l = ops.toList.drop (k + 1) := by
      rw [← List.drop_drop, ← hl]; rfl
    rw [List.length_cons, List.range'_succ, wpOps_cons]
    refine step_wp hc hk hW hT hv fun t' h' Δ' a' w' h1 h2 => ?_
    exact region_wp hc l (k + 1) hl' h2.world h2.tmps h1 fun Δ'' a'' w'' h3 => hQ _ _ _ (h2.trans h3)
end

/-! ### loops -/
def LoopWp (c : Code) (Q : Exit → Act → World → Prop) (a : Act) (w : World) : Prop :=
  ∀ (b : Frame) (k : List Item) (cs : List Frame), ∃ e a' w', Q e a' w' ∧ Arrives P0 (lone (b.at a (.code c :: .inLoop c :: k)) cs w) b k cs e a' w'
theorem LoopWp.round {c : Code} {Q : Exit → Act → World → Prop} {a : Act} {w : World} (h : c.wp P0 (Exit.then (LoopWp c Q) Q) a w) : LoopWp c Q a w := by
  intro b k cs
  obtain ⟨e, a₁, w₁, hq, harr⟩ := h b (.inLoop c :: k) cs
  cases e with
  | normal =>
    obtain ⟨e₂, a₂, w₂, hq₂, harr₂⟩ := hq b k cs
    exact ⟨e₂, a₂, w₂, hq₂, .of_steps (Steps.trans harr (.one step_inLoop)) harr₂⟩
  | exit id => exact ⟨_, a₁, w₁, hq, .pass (x := .inLoop c) rfl (by simp_all) harr⟩
  | goto l => exact ⟨_, a₁, w₁, hq, .pass (x := .inLoop c) rfl (by simp_all) harr⟩
  | ret => exact ⟨_, a₁, w₁, hq, .pass (x := .inLoop c) rfl (by simp_all) harr⟩
  | panic ch => exact ⟨_, a₁, w₁, hq, .pass (x := .inLoop c) rfl (by simp_all) harr⟩
  | outgrown => exact ⟨_, a₁, w₁, hq, .pass (x := .inLoop c) rfl (by simp_all) harr⟩
theorem LoopWp.wp {c : Code} {Q : Exit → Act → World → Prop} {a : Act} {w : World} (h : LoopWp c Q a w) : (Code.loop c).wp P0 Q a w :=
  fun b k cs => let ⟨e, a', w', q, r⟩ := h b k cs; ⟨e, a', w', q, .of_steps (.one step_loop) r⟩
end Go.Proofs.YtgfdhkhcojjkjaaGreatDoor.Hx
