/- What an operation that leaves the heap alone comes to in the model: the value that the plain machine says, in the world as it was. -/
import Derived.Test.YtmpdoelanliaeaaGreatDoorHxC
import Derived.Laws.Pointers
namespace Go.Proofs.YtmpdoelanliaeaaGreatDoor.Hx

/-! ### the world -/
inductive ERel (Δ : Env) : List (V × V × Nat) → List MapEntry → Prop
  | nil : ERel Δ [] []
  | cons (k v : V) (n : Nat) (e : MapEntry) (es : List (V × V × Nat)) (es' : List MapEntry) (hk : VRel Δ k e.key) (hv : VRel Δ v e.val) (hb : e.born = n)
      (hs : ERel Δ es es') : ERel Δ ((k, v, n) :: es) (e :: es')
theorem ERel.mono {Δ Δ' : Env} (hle : Δ.le Δ') {es : List (V × V × Nat)} {es' : List MapEntry} (h : ERel Δ es es') : ERel Δ' es es' := by
  induction h with
  | nil => exact .nil
  | cons k v n e es es' hk hv hb _ ih => exact .cons k v n e es es' (hk.mono hle) (hv.mono hle) hb ih

def CellsOk (Δ : Env) (d : D) (cs : List V) (ob : Option Obj) : Prop :=
  ∃ c e fr, ob = some (.cells c e fr) ∧ c.size = d.asz ∧ (d.ro = false → fr.1 = fr.2 ∨ d.asz ≤ fr.1) ∧ d.base + cs.length ≤ d.asz ∧
    ∀ (i : Nat) (v : V), cs[i]? = some v → ∃ x, c[d.base + i]? = some x ∧ VRel Δ v x
def ORel (Δ : Env) (d : D) (o : O) (ob : Option Obj) : Prop := match o with
  | .cells _ sz live ro cs => d.kind = 0 ∧ d.sz = sz ∧ d.n = cs.length ∧ d.ro = ro ∧ (live = true → CellsOk Δ d cs ob)
  | .map es clock => d.kind = 1 ∧ d.ro = false ∧ d.base = 0 ∧ ∃ es', ob = some (.map es' clock) ∧ ERel Δ es es'.toList
  | .iter m since seen last => d.kind = 2 ∧ d.ro = false ∧ d.base = 0 ∧ ∃ m', ob = some (.mapIter m' since seen.toArray last) ∧
      (match m with
        | none => m' = none
        | some l => ∃ d', Δ l = some d' ∧ m' = some d'.b)
def O.live : O → Bool
  | .cells _ _ live _ _ => live
  | _ => true

/-- The tables are what they are, and nobody writes them. -/
def TabOk (Δ : Env) (w : World) : Prop := ∀ g c, (g, c) ∈ tabs → (∃ e fr, w.heap[g]? = some (.cells c e fr)) ∧ ∀ l d, Δ l = some d → d.ro = false → d.b ≠ g
structure WR (Δ : Env) (h : Hp) (w : World) : Prop where
  fresh : ∀ l d, Δ l = some d → l < h.next
  blk : ∀ l d, Δ l = some d → d.b < w.heap.size
  obj : ∀ l d, Δ l = some d → ∃ o, h.get l = some o ∧ ORel Δ d o w.heap[d.b]?
  apart : ∀ l l' d d' o o', Δ l = some d → Δ l' = some d' → l ≠ l' → h.get l = some o → h.get l' = some o' → o.live = true → o'.live = true →
    (d.ro = false ∨ d'.ro = false) → d.b ≠ d'.b
  glob : ∀ g o, g < P0.globals.size → h.get g = some o → ∃ d, Δ g = some d ∧ d.b = g ∧ d.base = 0
  gnext : P0.globals.size ≤ h.next
  tab : TabOk Δ w

/-- Calls that are put off. -/
inductive DsRel (Δ : Env) : List (Nat × List V) → List Deferred → Prop
  | nil : DsRel Δ [] []
  | cons (g : Nat) (args : List V) (cap args' : Array Value) (l : List (Nat × List V)) (l' : List Deferred) (ha : VsRel Δ args (args' ++ cap).toList) (hl : DsRel Δ l l') :
    DsRel Δ ((g, args) :: l) ({ target := .fn (.func g) cap, args := args' } :: l')
theorem DsRel.mono {Δ Δ' : Env} (hle : Δ.le Δ') {l : List (Nat × List V)} {l' : List Deferred} (h : DsRel Δ l l') : DsRel Δ' l l' := by
  induction h with
  | nil => exact .nil
  | cons g args cap args' l l' ha _ ih => exact .cons g args cap args' l l' (ha.mono hle) ih
structure TR (Δ : Env) (n : Nat) (t : Tm) (a : Act) : Prop where
  size : a.tmps.size = n
  rel : ∀ i, VRel Δ (tget t i) (a.tmps.getD i undef)
  ds : DsRel Δ t.ds a.defers

theorem frFree {fr : Nat × Nat} {n : Nat} (h : fr.1 = fr.2 ∨ n ≤ fr.1) : ∀ i, i < n → ¬ (fr.1 ≤ i ∧ i < fr.2) := by omega
theorem CellsOk.mono {Δ Δ' : Env} (hle : Δ.le Δ') {d : D} {cs : List V} {ob : Option Obj} (h : CellsOk Δ d cs ob) : CellsOk Δ' d cs ob := by
  obtain ⟨c, e, fr, h1, h2, h3, h5, h4⟩ := h
  exact ⟨c, e, fr, h1, h2, h3, h5, fun i v hi => let ⟨x, hx, hr⟩ := h4 i v hi; ⟨x, hx, hr.mono hle⟩⟩
theorem ORel.mono {Δ Δ' : Env} (hle : Δ.le Δ') {d : D} {o : O} {ob : Option Obj} (h : ORel Δ d o ob) : ORel Δ' d o ob := by
  cases o with
  | cells e sz live ro cs =>
    obtain ⟨h1, h2, h3, h4, h5⟩ := h
    exact ⟨h1, h2, h3, h4, fun hl => (h5 hl).mono hle⟩
  | map es clock =>
    obtain ⟨h1, h2, h3, es', h4, h5⟩ := h
    exact ⟨h1, h2, h3, es', h4, h5.mono hle⟩
  | iter m since seen last =>
    obtain ⟨h1, h2, h3, m', h4, h5⟩ := h
    refine ⟨h1, h2, h3, m', h4, ?_⟩
    cases m with
    | none => exact h5
    | some l => obtain ⟨d', hd, hm⟩ := h5; exact ⟨d', hle _ _ hd, hm⟩
theorem TR.mono {Δ Δ' : Env} (hle : Δ.le Δ') {n : Nat} {t : Tm} {a : Act} (h : TR Δ n t a) : TR Δ' n t a := ⟨h.size, fun i => (h.rel i).mono hle, h.ds.mono hle⟩

/-! ### types -/
theorem run_und {t : Nat} {d : TypeDesc} {w : World} (h : P0.underlying t = some d) : (underlying t).run P0 w = .ok d w := by simp [underlying, h]
theorem info_of_sz {t n : Nat} (h : szOf t = some n) : ∃ i, P0.info? t = some i ∧ i.size = n := by
  grind[szOf,oB_eq]
theorem run_sz {t n : Nat} {w : World} (h : szOf t = some n) : (sizeOf t).run P0 w = .ok n w := by
  obtain ⟨i, hi, rfl⟩ := info_of_sz h
  simp_all[sizeOf,typeInfo]
theorem run_agg {t : Nat} {b : Bool} {w : World} (h : aggT t = some b) : (isAgg t).run P0 w = .ok b w := by
  unfold aggT at h
  split at h
  · simp_all[isAgg,run_und]
  · simp_all[isAgg,run_und]
  · simp_all[isAgg,Sem.run_bind,run_und,Result.andThen_ok]
  · cases h
theorem run_zero {t : Nat} {z : V} (h : zeroV t = some z) : ∃ zv, (∀ w, (zeroValue t).run P0 w = .ok zv w) ∧ (∀ Δ, VRel Δ z zv) ∧ ∃ i, P0.info? t = some i ∧ i.zero = some zv := by
  unfold zeroV at h
  simp only [oB_eq] at h
  obtain ⟨i, hi, zv, hz, hv⟩ := h
  exact ⟨zv, by simp_all[zeroValue,typeInfo], by grind[ofVal_rel], i, hi, hz⟩
theorem addr_add (b o n : Nat) : (⟨b, o, none⟩ : Addr).add n = ⟨b, o + n, none⟩ := by
  grind[Addr.add]

section
variable {Δ : Env} {h : Hp} {w : World} {n : Nat} {t : Tm} {a : Act}

/-! ### operands -/
theorem evN_ok (hT : TR Δ n t a) {x : Operand} {v : V} (hv : (evN x).f t = some v) : VRel Δ v (a.eval x) := by
  cases x with
  | tmp i => simp only [evN] at hv; cases hv; exact hT.rel i
  | const c =>
    simp only [evN] at hv
    split at hv
    · rename_i y hy; cases hv; exact ofVal_rel Δ 8 c _ hy
    · cases hv
  | global g => grind[evN]
  | func f => simp only [evN] at hv; cases hv; exact .func f [] [] #[] #[] .nil .nil
theorem evO_ok (hW : WR Δ h w) (hT : TR Δ n t a) {x : Operand} {v : V} (hv : (evO x).f t h = some v) : VRel Δ v (a.eval x) := by
  cases x with
  | global g =>
    unfold evO at hv
    cases hlt : Nat.blt g P0.globals.size with
    | true =>
      simp only [hlt, oB_eq] at hv
      obtain ⟨o, ho, hv⟩ := hv
      cases hv
      have hg : g < P0.globals.size := by rw [← Nat.blt_eq]; exact hlt
      obtain ⟨d, hd, hb, hba⟩ := hW.glob g o hg ho
      have := VRel.ptr (Δ := Δ) g 0 d hd
      rw [hb, hba] at this
      exact this
    | false => simp_all
  | tmp i => exact evN_ok hT hv
  | const c => exact evN_ok hT hv
  | func f => exact evN_ok hT hv
theorem evNs_ok (hT : TR Δ n t a) : ∀ {l : List Operand} {vs : List V}, evNs t l = some vs → VsRel Δ vs (l.map a.eval)
  | [], vs, hv => by simp [evNs] at hv; subst hv; exact .nil
  | x :: l, vs, hv => by
    simp only [evNs, oB_eq] at hv
    obtain ⟨v, h1, vs', h2, h3⟩ := hv
    cases h3
    exact .cons _ _ _ _ (evN_ok hT h1) (evNs_ok hT h2)
inductive PRel (Δ : Env) : List (Nat × V) → List (Nat × Value) → Prop
  | nil : PRel Δ [] []
  | cons (i : Nat) (v : V) (v' : Value) (l : List (Nat × V)) (l' : List (Nat × Value)) (hv : VRel Δ v v') (hs : PRel Δ l l') : PRel Δ ((i, v) :: l) ((i, v') :: l')
theorem evParts_ok (hT : TR Δ n t a) : ∀ {l : List (Nat × Operand)} {vs : List (Nat × V)}, evParts t l = some vs → PRel Δ vs (l.map fun x => (x.1, a.eval x.2))
  | [], vs, hv => by simp [evParts] at hv; subst hv; exact .nil
  | x :: l, vs, hv => by
    simp only [evParts, oB_eq] at hv
    obtain ⟨v, h1, vs', h2, h3⟩ := hv
    cases h3
    exact .cons _ _ _ _ _ (evN_ok hT h1) (evParts_ok hT h2)

/-! ### reading -/
theorem cell_ok (hW : WR Δ h w) {l : Nat} {d : D} (hl : Δ l = some d) {e sz : Nat} {ro : Bool} {cs : List V} (hg : h.get l = some (.cells e sz true ro cs))
    {i : Nat} {v : V} (hi : cs[i]? = some v) : ∃ x, w.cell? ⟨d.b, d.base + i, none⟩ = some x ∧ VRel Δ v x := by
  obtain ⟨o, ho, hr⟩ := hW.obj l d hl
  rw [hg] at ho
  cases ho
  obtain ⟨_, _, _, _, hc⟩ := hr
  obtain ⟨c, e', fr, h1, _, _, _, h4⟩ := hc rfl
  grind[World.cell?]
theorem loadCells_ok (hW : WR Δ h w) {l : Nat} {d : D} (hl : Δ l = some d) {off m : Nat} {cs : List V} (hv : ldAt h l off m = some cs) :
    ∃ arr, (loadCells ⟨d.b, d.base + off, none⟩ m).run P0 w = .ok arr w ∧ VsRel Δ cs arr.toList := by
  unfold ldAt at hv
  rw [cellsAt_eq] at hv
  obtain ⟨e, sz, live, ro, all, hg, hv⟩ := hv
  rw [bB_eq] at hv
  obtain ⟨rfl, hv⟩ := hv
  obtain ⟨hlen, hget⟩ := sub_eq hv
  have key : ∀ j, j < m → ∃ x v, w.cell? ⟨d.b, d.base + off + j, none⟩ = some x ∧ cs[j]? = some v ∧ VRel Δ v x := by grind[List.getElem?_eq_getElem,cell_ok,Nat.add_assoc]
  refine ⟨_, run_loadCells w ⟨d.b, d.base + off, none⟩ m (fun j => (w.cell? ⟨d.b, d.base + off + j, none⟩).getD undef) (fun j hj => ?_), ?_⟩
  · grind[addr_add]
  grind[VsRel.of_get,List.getElem?_eq_some_iff]
theorem load1_ok (hW : WR Δ h w) {l : Nat} {d : D} (hl : Δ l = some d) {off : Nat} {v : V} (hv : ld1 h l off = some v) :
    ∃ x, w.cell? ⟨d.b, d.base + off, none⟩ = some x ∧ VRel Δ v x := by
  unfold ld1 at hv
  rw [cellsAt_eq] at hv
  obtain ⟨e, sz, live, ro, all, hg, hv⟩ := hv
  rw [bB_eq] at hv
  obtain ⟨rfl, hv⟩ := hv
  exact cell_ok hW hl hg (at1_eq hv)
theorem hload_ok (hW : WR Δ h w) {ty : Nat} {p : PF} {xv : Value} (hp : ∀ v, p.f t h = some v → VRel Δ v xv) {v : V} (hv : (hload ty p).f t h = some v) :
    ∃ x, (Instr.loadAt ty xv).run P0 w = .ok x w ∧ VRel Δ v x := by
  unfold hload at hv
  split at hv
  · rename_i ha
    split at hv
    · rename_i m hm
      simp only [oB_eq, asPtr_eq] at hv
      obtain ⟨av, h1, l, off, rfl, cs, h2, h3⟩ := hv
      cases h3
      cases hp _ h1 with
      | ptr _ _ d hd =>
        obtain ⟨arr, hr, hrel⟩ := loadCells_ok hW hd h2
        exact ⟨.agg arr, by simp_all[Instr.loadAt,Instr.sureAddr,loadVar,run_agg,run_sz], .agg _ _ hrel⟩
    · cases hv
  · rename_i ha
    simp only [oB_eq, asPtr_eq] at hv
    obtain ⟨av, h1, l, off, rfl, h2⟩ := hv
    cases hp _ h1 with
    | ptr _ _ d hd =>
      obtain ⟨x, hx, hrel⟩ := load1_ok hW hd h2
      simp_all[Instr.loadAt,Instr.sureAddr,loadVar,run_agg]
  · cases hv

/-! ### building -/
theorem placesOf_ok : ∀ (fs : List Field) (pl : List (Nat × Nat)), placesOf fs = some pl → fs.mapM (fun f => (P0.info? f.type).map fun i => (f.offset, i.size)) = some pl
  | [], pl, h => by grind[placesOf]
  | f :: fs, pl, h => by
    simp only [placesOf, oB_eq] at h
    obtain ⟨m, h1, l, h2, h3⟩ := h
    cases h3
    obtain ⟨i, hi, rfl⟩ := info_of_sz h1
    simp [List.mapM_cons, hi, placesOf_ok fs l h2]
theorem setAll_ok : ∀ (xs : List Value) (k off : Nat) (c : Array Value), off + k + xs.length ≤ c.size →
    ∀ i, ((xs.zipIdx k).foldl (fun cs (p : Value × Nat) => cs.setIfInBounds (off + p.2) p.1) c)[i]? = if off + k ≤ i ∧ i < off + k + xs.length then xs[i - (off + k)]? else c[i]?
  | [], k, off, c, _, i => by
    simp_all[if_neg,List.length_nil]
  | x :: xs, k, off, c, hle, i => by
    simp only [List.zipIdx_cons, List.foldl_cons]
    simp only [List.length_cons] at hle
    rw [setAll_ok xs (k + 1) off _ (by simp; omega)]
    grind
theorem fill_ok {place : Nat → Option (Nat × Nat)} : ∀ {ps : List (Nat × V)} {ps' : List (Nat × Value)} {cells cs : List V} {cells' : Array Value}, PRel Δ ps ps' → VsRel Δ cells cells'.toList →
    fillV place cells ps = some cs → ∃ cs', Instr.fill place cells' ps' = some cs' ∧ VsRel Δ cs cs'.toList
  | _, _, cells, cs, cells', .nil, hc, hf => by simp [fillV] at hf; subst hf; exact ⟨cells', rfl, hc⟩
  | _, _, cells, cs, cells', .cons i v v' l l' hv hs, hc, hf => by
    simp only [fillV, oB_eq, bB_eq] at hf
    obtain ⟨⟨off, size⟩, h1, h2, mid, h3, h4⟩ := hf
    obtain ⟨hl, hle, hget⟩ := splice_eq h3
    have hvc := hv.cells
    have hsz : v'.cells.size = size := by
      have := hvc.length
      rw [Nat.eq_of_beq_eq_true h2] at this
      simpa using this.symm
    have hcl := hc.length
    simp only [Array.length_toList] at hcl
    have hvl : v.cells.length = v'.cells.size := by simpa using hvc.length
    have hno : ¬ (v'.cells.size ≠ size ∨ off + v'.cells.size > cells'.size) := by
      rintro (h | h)
      · omega
      · omega
    have hmid : VsRel Δ mid (v'.cells.zipIdx.foldl (fun cs (c, j) => cs.setIfInBounds (off + j) c) cells').toList := by
      have hset := setAll_ok v'.cells.toList 0 off cells' (by simp; omega)
      have hfold : (v'.cells.zipIdx.foldl (fun cs (c, j) => cs.setIfInBounds (off + j) c) cells') = ((v'.cells.toList.zipIdx 0).foldl (fun cs (p : Value × Nat) => cs.setIfInBounds (off + p.2) p.1) cells') := by
        rw [← Array.foldl_toList]
        simp
      rw [hfold]
      generalize hF : ((v'.cells.toList.zipIdx 0).foldl (fun cs (p : Value × Nat) => cs.setIfInBounds (off + p.2) p.1) cells') = F at hset
      have hFs : F.size = cells'.size := by
        apply Nat.le_antisymm
        · rcases Nat.lt_or_ge cells'.size F.size with hlt | hge
          · have := hset cells'.size
            grind
          omega
        · rcases Nat.lt_or_ge F.size cells'.size with hlt | hge
          · have := hset F.size
            grind
          omega
      refine VsRel.of_get (by simp_all) fun j x hx => ?_
      rw [hget j] at hx
      have hsj := hset j
      simp only [Nat.add_zero, Array.length_toList] at hsj
      rw [Array.getElem?_toList, hsj]
      by_cases hin : off ≤ j ∧ j < off + v.cells.length
      · rw [if_pos hin] at hx
        rw [if_pos (by omega)]
        exact hvc.get _ _ hx
      · rw [if_neg hin] at hx
        rw [if_neg (by omega)]
        obtain ⟨y, hy, hr⟩ := hc.get _ _ hx
        simp_all
    obtain ⟨cs', hf', hr⟩ := fill_ok hs hmid h4
    simp_all[Instr.fill,if_neg]
theorem hbuild_ok (hT : TR Δ n t a) {ty : Nat} {parts : List (Nat × Operand)} {v : V} (hv : (hbuild ty parts).f t h = some v) :
    ∃ x, (Instr.build ty (parts.map fun x => (x.1, a.eval x.2)).toArray).run P0 w = .ok x w ∧ VRel Δ v x := by
  unfold hbuild at hv
  split at hv
  · rename_i z hz
    obtain ⟨zv, _, hzr, i, hi, hzi⟩ := run_zero hz
    have hzc := (hzr Δ).cells
    split at hv
    · rename_i fields hu
      split at hv
      · rename_i places hp
        simp only [oB_eq] at hv
        obtain ⟨ps, h1, cs, h2, h3⟩ := hv
        cases h3
        obtain ⟨cs', hf, hr⟩ := fill_ok (evParts_ok hT h1) hzc h2
        refine ⟨.agg cs', ?_, .agg _ _ hr⟩
        simp_all[run_build,Program.built,placesOf_ok]
      · cases hv
    · rename_i len elem hu
      split at hv
      · rename_i size hs
        obtain ⟨ie, hie, rfl⟩ := info_of_sz hs
        simp only [oB_eq] at hv
        obtain ⟨ps, h1, cs, h2, h3⟩ := hv
        cases h3
        obtain ⟨cs', hf, hr⟩ := fill_ok (evParts_ok hT h1) hzc h2
        refine ⟨.agg cs', ?_, .agg _ _ hr⟩
        simp_all[run_build,Program.built]
      · cases hv
    · cases hv
  · cases hv
end
end Go.Proofs.YtmpdoelanliaeaaGreatDoor.Hx
