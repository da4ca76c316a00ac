/- How the heap and the world grow together: a new block; what an operation that makes one thing comes to in the model. -/
import Derived.Test.YtmpdoelanliaeaaGreatDoorHxG
namespace Go.Proofs.YtmpdoelanliaeaaGreatDoor.Hx

/-- The blocks that may be written. -/
def RW (Δ : Env) (b : Nat) : Prop := ∃ l d, Δ l = some d ∧ d.ro = false ∧ d.b = b
structure FR (Δ Δ' : Env) (w w' : World) : Prop where
  le : Δ.le Δ'
  size : w.heap.size ≤ w'.heap.size
  os : w'.os = w.os
  tape : w'.tape = w.tape
  output : w'.output = w.output
  keep : ∀ b, b < w.heap.size → ¬ RW Δ b → w'.heap[b]? = w.heap[b]?
  new : ∀ l d, Δ' l = some d → Δ l = some d ∨ w.heap.size ≤ d.b ∨ RW Δ d.b
theorem FR.refl (Δ : Env) (w : World) : FR Δ Δ w w := ⟨Env.le_refl _, Nat.le_refl _, rfl, rfl, rfl, by simp_all, by simp_all⟩
theorem FR.trans {Δ Δ' Δ'' : Env} {w w' w'' : World} (h : FR Δ Δ' w w') (h' : FR Δ' Δ'' w' w'') : FR Δ Δ'' w w'' where
  le := Env.le_trans h.le h'.le
  size := Nat.le_trans h.size h'.size
  os := h'.os.trans h.os
  tape := h'.tape.trans h.tape
  output := h'.output.trans h.output
  keep := fun b hb hn => by
    rw [h'.keep b (Nat.lt_of_lt_of_le hb h.size) ?_, h.keep b hb hn]
    rintro ⟨l, d, hl, hr, rfl⟩
    rcases h.new l d hl with h1 | h1 | h1
    · exact hn ⟨l, d, h1, hr, rfl⟩
    · omega
    simp_all
  new := fun l d hl => by
    rcases h'.new l d hl with h1 | h1 | ⟨l', d', hl', hr', hb'⟩
    · exact h.new l d h1
    · exact .inr (.inl (Nat.le_trans h.size h1))
    · rcases h.new l' d' hl' with h2 | h2 | h2
      · exact .inr (.inr ⟨l', d', h2, hr', hb'⟩)
      · omega
      simp_all

theorem get_new (h : Hp) (o : O) (l : Nat) : (h.new o).get l = if h.next = l then some o else h.get l := by
  rw [Hp.get_eq, Hp.get_eq]
  unfold Hp.new
  simp [Tr.get_set]
  grind
theorem get_put {h : Hp} {l : Nat} (o : O) (m : Nat) (hl : l < h.next) : (h.put l o).get m = if l = m then some o else h.get m := by
  rw [Hp.get_eq, Hp.get_eq]
  unfold Hp.put
  simp [Tr.get_set]
  grind
def Env.set (Δ : Env) (l : Nat) (d : D) : Env := fun m => if m = l then some d else Δ m
theorem Env.le_set {Δ : Env} {l : Nat} {d : D} (h : Δ l = none) : Δ.le (Δ.set l d) := fun m e hm => by
  unfold Env.set
  grind
theorem Env.set_self (Δ : Env) (l : Nat) (d : D) : (Δ.set l d) l = some d := if_pos rfl
theorem Env.set_other {Δ : Env} {l m : Nat} {d e : D} (h : (Δ.set l d) m = some e) : (m = l ∧ e = d) ∨ (m ≠ l ∧ Δ m = some e) := by
  unfold Env.set at h
  grind
theorem WR.none_next {Δ : Env} {h : Hp} {w : World} (hW : WR Δ h w) : Δ h.next = none := by
  cases hd : Δ h.next with
  | none => rfl
  | some d => exact absurd (hW.fresh _ _ hd) (Nat.lt_irrefl _)
theorem heap_alloc (w : World) (ob : Obj) (b : Nat) : (w.alloc ob).heap[b]? = if b = w.heap.size then some ob else w.heap[b]? := by
  grind[World.alloc]

theorem TabOk.step {Δ Δ' : Env} {w w' : World} (h : TabOk Δ w) (hk : ∀ b, b < w.heap.size → ¬ RW Δ b → w'.heap[b]? = w.heap[b]?) (hn : ∀ l d, Δ' l = some d → d.ro = false → Δ l = some d ∨ w.heap.size ≤ d.b ∨ RW Δ d.b) : TabOk Δ' w' := by
  intro g c hm
  let ⟨⟨e, fr, h1⟩, h2⟩ := h g c hm
  grind[RW]
/-- A place that the heap already has gets its block. -/
theorem WR.lay {Δ : Env} {h : Hp} {w : World} (hW : WR Δ h w) {l : Nat} {o : O} {d : D} {ob : Obj} (hn : Δ l = none) (hl : l < h.next) (hg : h.get l = some o) (hb : d.b = w.heap.size)
    (ho : ORel (Δ.set l d) d o (some ob)) : WR (Δ.set l d) h (w.alloc ob) where
  fresh := fun m e hm => by
    rcases Env.set_other hm with ⟨rfl, rfl⟩ | ⟨_, hm⟩
    · exact hl
    · exact hW.fresh m e hm
  blk := fun m e hm => by
    simp [World.size_alloc]
    rcases Env.set_other hm with ⟨rfl, rfl⟩ | ⟨_, hm⟩
    · omega
    · have := hW.blk m e hm; omega
  obj := fun m e hm => by
    rcases Env.set_other hm with ⟨rfl, rfl⟩ | ⟨_, hm⟩
    · refine ⟨o, hg, ?_⟩
      rw [heap_alloc, if_pos hb]; exact ho
    · let ⟨o', h1, h2⟩ := hW.obj m e hm
      refine ⟨o', h1, ?_⟩
      rw [heap_alloc, if_neg (Nat.ne_of_lt (hW.blk m e hm))]
      exact h2.mono (Env.le_set hn)
  apart := fun m m' e e' p p' hm hm' hne hp hp' hlp hlp' hro => by
    rcases Env.set_other hm with ⟨h1, h2⟩ | ⟨_, h1⟩ <;> rcases Env.set_other hm' with ⟨h3, h4⟩ | ⟨_, h3⟩
    · omega
    · have := hW.blk m' e' h3; grind
    · have := hW.blk m e h1; grind
    · exact hW.apart m m' e e' p p' h1 h3 hne hp hp' hlp hlp' hro
  glob := fun g p hlt hp => by
    let ⟨e, h1, h2⟩ := hW.glob g p hlt hp
    exact ⟨e, Env.le_set hn _ _ h1, h2⟩
  gnext := hW.gnext
  tab := hW.tab.step (by simp_all[heap_alloc,Nat.ne_of_lt]) fun m e hm _ => by
    rcases Env.set_other hm with ⟨rfl, rfl⟩ | ⟨_, hm⟩
    · omega
    simp_all
/-- The heap may know of more places than the world. -/
theorem WR.more {Δ : Env} {h : Hp} {w : World} (hW : WR Δ h w) (o : O) : WR Δ (h.new o) w where
  fresh := fun l d hl => Nat.lt_succ_of_lt (hW.fresh l d hl)
  blk := hW.blk
  obj := fun l d hl => by
    let ⟨o', h1, h2⟩ := hW.obj l d hl
    refine ⟨o', ?_, h2⟩
    rw [get_new, if_neg (Nat.ne_of_gt (hW.fresh l d hl))]
    exact h1
  apart := fun m m' e e' p p' hm hm' hne hp hp' => by
    rw [get_new, if_neg (Nat.ne_of_gt (hW.fresh _ _ hm))] at hp
    rw [get_new, if_neg (Nat.ne_of_gt (hW.fresh _ _ hm'))] at hp'
    exact hW.apart m m' e e' p p' hm hm' hne hp hp'
  glob := fun g p hlt hp => by
    rw [get_new, if_neg (by have := hW.gnext; omega)] at hp
    exact hW.glob g p hlt hp
  gnext := Nat.le_succ_of_le hW.gnext
  tab := hW.tab
theorem FR.lay {Δ : Env} {w : World} {l : Nat} {d : D} {ob : Obj} (hn : Δ l = none) (hb : d.b = w.heap.size) : FR Δ (Δ.set l d) w (w.alloc ob) where
  le := Env.le_set hn
  size := by simp
  os := rfl
  tape := rfl
  output := rfl
  keep := by simp_all[heap_alloc,Nat.ne_of_lt]
  new := fun m e hm => by
    rcases Env.set_other hm with ⟨rfl, rfl⟩ | ⟨_, hm⟩
    · omega
    simp_all

/-! ### what is made -/
/-- A thing that is made, and the value that leads to it: the model lays a block, and its value leads there. -/
def Made (Δ : Env) (ob : O) (mk : Nat → V) (mo : Obj) (mv : Nat → Value) : Prop :=
  ∀ l b, Δ l = none → ∃ d, d.b = b ∧ ORel (Δ.set l d) d ob (some mo) ∧ VRel (Δ.set l d) (mk l) (mv b)
theorem cellsOk_new {Δ : Env} {d : D} {cs : List V} {c : Array Value} {e : Nat} (hs : c.size = d.asz) (hb : d.base = 0) (hl : cs.length ≤ d.asz) (hc : ∀ (i : Nat) v, cs[i]? = some v → ∃ x, c[i]? = some x ∧ VRel Δ v x) :
    CellsOk Δ d cs (some (.cells c e (0, 0))) :=
  ⟨c, e, (0, 0), rfl, hs, fun _ => .inl rfl, by omega, fun i v hi => by rw [hb, Nat.zero_add]; exact hc i v hi⟩
theorem hbox_ok {Δ : Env} {e : Nat} {v : V} {xv : Value} {ob : O} {mk : Nat → V} (hx : VRel Δ v xv) (hv : hbox e v = some (ob, mk)) :
    Made Δ ob mk (.cells xv.cells e) (fun b => .pointer (some ⟨b, 0, none⟩)) := by
  unfold hbox at hv
  rw [bB_eq] at hv
  let ⟨_, hv⟩ := hv
  cases hv
  intro l b hn
  have hc := hx.cells
  have hle := Env.le_set (d := ⟨b, 0, 1, v.cells.length, xv.cells.size, false, 0⟩) hn
  refine ⟨⟨b, 0, 1, v.cells.length, xv.cells.size, false, 0⟩, rfl, ⟨rfl, rfl, rfl, rfl, fun _ => ?_⟩, ?_⟩
  · refine cellsOk_new rfl rfl (Nat.le_of_eq (by first | (simpa using hc.length) | (simpa using hr.length))) fun i u hi => ?_
    let ⟨x, hx, hr⟩ := hc.get i u hi
    exact ⟨x, by simp_all, hr.mono hle⟩
  · exact VRel.ptr l 0 ⟨b, 0, 1, v.cells.length, xv.cells.size, false, 0⟩ (Env.set_self _ _ _)
theorem elemOf_eq {elem size by_ : Nat} {z : V} (h : elemOf elem = some (size, by_, z)) :
    szOf elem = some size ∧ byOf elem = some by_ ∧ zeroV elem = some z ∧ 0 < size ∧ z.cells.length = size ∧ allOne z.cells = true := by
  grind[elemOf,oB_eq,bB_eq,Nat.blt_eq,Nat.eq_of_beq_eq_true]
theorem sliceOf_eq {t e : Nat} (h : sliceOf t = some e) : P0.underlying t = some (.slice e) := by
  grind[sliceOf]
theorem repl_get (z : List V) : ∀ m i, (repl m z)[i]? = if i < m * z.length then z[i % z.length]? else none
  | 0, i => by simp [repl]
  | m + 1, i => by
    simp [repl, List.getElem?_append]
    by_cases h1 : i < z.length
    · rw [if_pos h1, if_pos (by grind), Nat.mod_eq_of_lt h1]
    · rw [ repl_get z m]
      have e : i % z.length = (i - z.length) % z.length := by
        rw [Nat.mod_eq_sub_mod (by omega)]
      grind
theorem repl_length (z : List V) : ∀ m, (repl m z).length = m * z.length
  | 0 => by simp [repl]
  | m + 1 => by simp [repl, repl_length z m, Nat.add_mul, Nat.add_comm]
/-- The model's row of zeros. -/
theorem repl_rel {Δ : Env} {z : List V} {zs : Array Value} (hz : VsRel Δ z zs.toList) (_h0 : 0 < z.length) (m : Nat) : VsRel Δ (repl m z) ((Array.range (m * z.length)).map fun i => zs[i % zs.size]!).toList := by
  have hlen := hz.length
  refine VsRel.of_get (by simp [repl_length]) fun i v hi => ?_
  rw [repl_get] at hi
  by_cases h : i < m * z.length
  · rw [if_pos h] at hi
    let ⟨x, hx, hr⟩ := hz.get _ _ hi
    grind
  simp_all
section
variable {Δ : Env} {h : Hp} {w : World} {n : Nat} {t : Tm} {a : Act}
theorem alloc_ok (hT : TR Δ n t a) {o : Oper} {ob : O} {mk : Nat → V} (hv : (allocC o).f t = some (ob, mk)) :
    ∃ mo mv, (∀ w, (execOp a.eval o).run P0 w = .ok (.value (mv w.heap.size)) (w.alloc mo)) ∧ Made Δ ob mk mo mv := by
  let ⟨dst, op, ty, pos, af, gd⟩ := o
  cases op with
  | alloc e =>
    simp [allocC] at hv
    split at hv
    · rename_i z hz
      let ⟨zv, hzr, hzv, _⟩ := run_zero hz
      refine ⟨_, _, fun w => run_v ?_, hbox_ok (hzv Δ) hv⟩
      simp_all[Instr.alloc,newVar,newRow]
    · cases hv
  | box e x =>
    simp [allocC, oB_eq] at hv
    let ⟨v, h1, h2⟩ := hv
    refine ⟨_, _, fun w => run_v ?_, hbox_ok (evN_ok hT h1) h2⟩
    rfl
  | buildSlice ty' len parts =>
    simp [allocC] at hv
    split at hv
    · rename_i elem hse
      have hu := sliceOf_eq hse
      split at hv
      · rename_i size by_ z he
        let ⟨hs, _, hz, hpos, hzl, _⟩ := elemOf_eq he
        let ⟨zv, hzr, hzv, _⟩ := run_zero hz
        split at hv
        · rename_i hle
          have hle' := Nat.le_of_ble_eq_true hle
          simp only [hbuildSlice, oB_eq, bB_eq] at hv
          let ⟨ps, h1, cs, h2, _, h3⟩ := hv
          cases h3
          have hzc := (hzv Δ).cells
          have hrep := repl_rel hzc (by omega) len
          have hzs : zv.cells.size = size := by have := hzc.length; simp [Array.length_toList] at this; omega
          have hzero : VsRel Δ (repl len z.cells) ((Array.range (len * size)).map fun i => (if len * size = 0 then (#[] : Array Value) else zv.cells)[i % (if len * size = 0 then (#[] : Array Value) else zv.cells).size]!).toList := by
            by_cases h0 : len * size = 0
            · simp_all
            · simp_all
          let ⟨cs', hf, hr⟩ := fill_ok (evParts_ok hT h1) hzero h2
          refine ⟨.cells cs' elem, fun b => .slice (some ⟨b, 0, none⟩) len len, fun w => run_v ?_, ?_⟩
          · have hparts : (parts.map fun x => (x.1, a.eval x.2)).toList = parts.toList.map fun x => (x.1, a.eval x.2) := by simp
            have hno : ¬ (len * size > 2 ^ 24) := by omega
            have hzr' : (if len * size = 0 then (pure #[] : Sem (Array Value)) else do pure (← zeroValue elem).cells).run P0 w = .ok (if len * size = 0 then (#[] : Array Value) else zv.cells) w := by
              by_cases h0 : len * size = 0
              · simp_all
              · simp_all
            simp only [Instr.buildSlice, Sem.run_bind, run_und hu, run_sz hs, Result.andThen_ok, Sem.run_ite]
            rw [if_neg hno]
            simp only [Sem.run_pure, Result.andThen_ok]
            by_cases h0 : len * size = 0
            · simp only [if_pos h0] at hf ⊢
              rw [hparts]
              have hf' : Instr.fill (fun i => some (i * size, size)) (Array.map (fun x => (#[] : Array Value)[x % (#[] : Array Value).size]!) (Array.range (len * size))) (List.map (fun x => (x.1, a.eval x.2)) parts.toList) = some cs' := hf
              rw [hf']
              rfl
            · simp only [if_neg h0, hzr, Result.andThen_ok] at hf ⊢
              rw [hparts]
              have hf' : Instr.fill (fun i => some (i * size, size)) (Array.map (fun x => zv.cells[x % zv.cells.size]!) (Array.range (len * size))) (List.map (fun x => (x.1, a.eval x.2)) parts.toList) = some cs' := hf
              rw [hf']
              rfl
          · intro l b hn
            have hcl := hr.length
            have hcs : cs.length = len * size := by
              have h5 : ∀ {place : Nat → Option (Nat × Nat)} {ps : List (Nat × V)} {c c' : List V}, fillV place c ps = some c' → c'.length = c.length := by
                intro place ps
                induction ps with
                | nil => grind[fillV]
                | cons p ps ih =>
                  intro c c' h
                  simp only [fillV, oB_eq, bB_eq] at h
                  let ⟨q, _, _, mid, h6, h7⟩ := h
                  rw [ih h7, (splice_eq h6).1]
              rw [h5 h2, repl_length, hzl]
            have hle := Env.le_set (d := ⟨b, 0, size, cs.length, cs'.size, false, 0⟩) hn
            refine ⟨⟨b, 0, size, cs.length, cs'.size, false, 0⟩, rfl, ⟨rfl, rfl, rfl, rfl, fun _ => ?_⟩, ?_⟩
            · refine cellsOk_new rfl rfl (by simp_all) fun i u hi => ?_
              let ⟨x, hx, hrx⟩ := hr.get i u hi
              exact ⟨x, by simp_all, hrx.mono hle⟩
            · refine VRel.slice l 0 len len 0 ⟨b, 0, size, cs.length, cs'.size, false, 0⟩ (Env.set_self _ _ _) rfl (Nat.le_refl _) (.inl ⟨rfl, ?_, ?_⟩)
              · simp_all
              simp_all
        · cases hv
      · cases hv
    · cases hv
  | makeSlice ty' m c =>
    simp [allocC] at hv
    split at hv
    · rename_i elem hse
      have hu := sliceOf_eq hse
      split at hv
      · rename_i size by_ z he
        let ⟨hs, hby, hz, hpos, hzl, _⟩ := elemOf_eq he
        let ⟨zv, hzr, hzv, i, hi, hzi⟩ := run_zero hz
        simp [oB_eq] at hv
        let ⟨mv, h1, cv, h2, h3⟩ := hv
        have hm := evN_ok hT h1
        have hc := evN_ok hT h2
        unfold hmakeSlice at h3
        split at h3
        · rename_i m' c'
          simp only [bB_eq] at h3
          let ⟨h4, h5, h6, h7⟩ := h3
          cases h7
          have h4' := Nat.le_of_ble_eq_true h4
          have h5' : c' * by_ ≤ 281474976710656 := Nat.le_of_ble_eq_true h5
          have h6' := Nat.le_of_ble_eq_true h6
          have hib : i.bytes = by_ := by
            unfold byOf at hby
            rw [oB_eq] at hby
            let ⟨i', hi', hb⟩ := hby
            rw [hi] at hi'; cases hi'; simpa using hb
          have hzc := (hzv Δ).cells
          have hrep := repl_rel hzc (by omega) c'
          rw [hzl] at hrep
          have ev1 : a.eval m = .int .i64 (m' : Int) := by
            generalize a.eval m = x at hm; cases hm; rfl
          have ev2 : a.eval c = .int .i64 (c' : Int) := by
            generalize a.eval c = x at hc; cases hc; rfl
          have wr : ∀ k : Nat, k ≤ 1099511627776 → IntKind.i64.wrap (k : Int) = k := by grind[IntKind.wrap,IntKind.bits,IntKind.signed]
          refine ⟨.cells ((Array.range (c' * size)).map fun i => zv.cells[i % zv.cells.size]!) elem, fun b => .slice (some ⟨b, 0, none⟩) m' c', fun w => run_v ?_, ?_⟩
          · rw [ev1, ev2]
            have e1 : ((i.bytes : Int) * (c' : Int) > 2 ^ 48) = False := by
              rw [hib]
              have : (by_ : Int) * (c' : Int) = ((c' * by_ : Nat) : Int) := by rw [Nat.mul_comm]; simp
              rw [this]; simp; omega
            have hzero : (if c' * size = 0 then (pure #[] : Sem (Array Value)) else do pure (← zeroValue elem).cells).run P0 w = .ok (if c' * size = 0 then (#[] : Array Value) else zv.cells) w := by
              by_cases h0 : c' * size = 0
              · simp_all
              · simp_all
            have hrow : ((Array.range (c' * size)).map fun i => (if c' * size = 0 then (#[] : Array Value) else zv.cells)[i % (if c' * size = 0 then (#[] : Array Value) else zv.cells).size]!) = ((Array.range (c' * size)).map fun i => zv.cells[i % zv.cells.size]!) := by
              by_cases h0 : c' * size = 0
              · simp_all
              · simp_all
            have c1 : ¬ ((c' : Int) < 0) := by omega
            have c2 : ¬ ((m' : Int) < 0) := by omega
            have c3 : ¬ ((m' : Int) > (c' : Int)) := by omega
            simp only [Instr.makeSlice, Sem.run_bind, run_und hu, Result.andThen_ok, asInt, asIntOf, Sem.run_pure, typeInfo, run_program, hi, wr m' (by omega), wr c' h6', e1, c1, c2, c3, decide_false, Bool.or_false, Bool.false_eq_true, if_false, run_askRoom, run_sz hs, Int.toNat_natCast]
            by_cases h0 : c' * size = 0
            · simp only [if_pos h0, newRow, run_newObj, Sem.run_bind, Sem.run_pure, Result.andThen_ok] at hrow ⊢
              rw [hrow]
              rfl
            simp_all[newRow,run_newObj,Sem.run_bind,Result.andThen_ok]
          · intro l b hn
            have hcl := hrep.length
            simp [] at hcl
            have hrl : (repl c' z.cells).length = c' * size := by rw [repl_length, hzl]
            have hle := Env.le_set (d := ⟨b, 0, size, (repl c' z.cells).length, c' * size, false, 0⟩) hn
            refine ⟨⟨b, 0, size, (repl c' z.cells).length, c' * size, false, 0⟩, rfl, ⟨rfl, rfl, rfl, rfl, fun _ => ?_⟩, ?_⟩
            · refine cellsOk_new (by simp) rfl (Nat.le_of_eq hrl) fun i u hi => ?_
              let ⟨x, hx, hrx⟩ := hrep.get i u hi
              exact ⟨x, by grind, hrx.mono hle⟩
            · refine VRel.slice l 0 m' c' 0 ⟨b, 0, size, (repl c' z.cells).length, c' * size, false, 0⟩ (Env.set_self _ _ _) rfl h4' (.inl ⟨rfl, ?_, ?_⟩)
              · simp_all
              simp_all
        · cases h3
      · cases hv
    · cases hv
  | makeMap ty' r =>
    cases r with
    | none =>
      simp [allocC] at hv
      split at hv
      · cases hv
        refine ⟨.map #[] 0, fun b => .map (some b), fun w => run_v (by simp [Instr.makeMap]), ?_⟩
        intro l b hn
        exact ⟨⟨b, 0, 0, 0, 0, false, 1⟩, rfl, ⟨rfl, rfl, rfl, #[], rfl, .nil⟩, VRel.map l ⟨b, 0, 0, 0, 0, false, 1⟩ (Env.set_self _ _ _)⟩
      · cases hv
    | some _ => cases hv
  | _ => cases hv
end
end Go.Proofs.YtmpdoelanliaeaaGreatDoor.Hx
