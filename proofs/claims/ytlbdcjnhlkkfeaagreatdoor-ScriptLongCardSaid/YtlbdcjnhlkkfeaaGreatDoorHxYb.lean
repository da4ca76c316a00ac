/- From what a statement's arguments read as to plain values: each is laid on the plain heap as something that is but read. -/
import Derived.Test.YtlbdcjnhlkkfeaaGreatDoorHxYa
import Derived.Test.YtlbdcjnhlkkfeaaGreatDoorHxT
import Derived.ChangeArms
namespace Go.Proofs.YtlbdcjnhlkkfeaaGreatDoor.Hx

def AllRo (Δ : Env) : Prop := ∀ l d, Δ l = some d → d.ro = true
/-- Where a row is named there are cells somewhere. -/
def SlOk (w : World) (cs : List Value) : Prop := ∀ a len cap, Value.slice (some a) len cap ∈ cs → ∃ (b : Nat) (c : Array Value) (e : TypeId) (fr : Nat × Nat), w.heap[b]? = some (.cells c e fr)
theorem SlOk.sub {w : World} {cs ds : List Value} (h : SlOk w cs) (hs : ∀ x ∈ ds, x ∈ cs) : SlOk w ds := fun a len cap hm => h a len cap (hs _ hm)
/-- A heap that stands for a world, all of it but read. -/
structure Rd (Δ : Env) (h : Hp) (w : World) : Prop where
  world : WR Δ h w
  ro : AllRo Δ
def addE (Δ : Env) (l : Nat) (d : D) : Env := fun m => if m = l then some d else Δ m
/-- One row more. -/
theorem Rd.add {Δ : Env} {h : Hp} {w : World} (hR : Rd Δ h w) {b base sz ty : Nat} {c : Array Value} {e : TypeId} {fr : Nat × Nat} {cs : List V} (hb : w.heap[b]? = some (.cells c e fr)) (hs : base + cs.length ≤ c.size)
    (hc : ∀ i v, cs[i]? = some v → ∃ x, c[base + i]? = some x ∧ VRel Δ v x) :
    Rd (addE Δ h.next ⟨b, base, sz, cs.length, c.size, true, 0⟩) (h.new (.cells ty sz true true cs)) w ∧ Δ.le (addE Δ h.next ⟨b, base, sz, cs.length, c.size, true, 0⟩) := by
  have hle : Δ.le (addE Δ h.next ⟨b, base, sz, cs.length, c.size, true, 0⟩) := by
    intro l d hl
    unfold addE
    rw [if_neg (by have := hR.world.fresh l d hl; omega)]
    exact hl
  have hro : AllRo (addE Δ h.next ⟨b, base, sz, cs.length, c.size, true, 0⟩) := by
    intro l d hl
    unfold addE at hl
    split at hl
    · grind
    · exact hR.ro l d hl
  refine ⟨⟨⟨?_, ?_, ?_, ?_, ?_, ?_, hR.world.tab.step (by simp_all) fun l d hl h1 => (by rw [hro l d hl] at h1; cases h1)⟩, hro⟩, hle⟩
  · intro l d hl
    unfold addE at hl
    split at hl
    · simp_all
    · exact Nat.lt_succ_of_lt (hR.world.fresh l d hl)
  · intro l d hl
    unfold addE at hl
    split at hl
    · grind
    · exact hR.world.blk l d hl
  · intro l d hl
    unfold addE at hl
    split at hl
    · rename_i e1
      subst e1; cases hl
      exact ⟨_, get_new_self _ _, rfl, rfl, rfl, rfl, fun _ => ⟨c, e, fr, hb, rfl, by simp_all, hs, fun i v hi => let ⟨x, hx, hr⟩ := hc i v hi; ⟨x, hx, hr.mono hle⟩⟩⟩
    · let ⟨o, ho, hr⟩ := hR.world.obj l d hl
      exact ⟨o, by rw [get_new_lt _ (hR.world.fresh l d hl)]; exact ho, hr.mono hle⟩
  · intro l l' d d' o o' hl hl' _ _ _ _ _ hx
    have h1 := hro l d hl
    have h2 := hro l' d' hl'
    simp_all
  · intro g o hg ho
    have hlt := Nat.lt_of_lt_of_le hg hR.world.gnext
    rw [get_new_lt _ hlt] at ho
    let ⟨d, hd, h1, h2⟩ := hR.world.glob g o hg ho
    exact ⟨d, hle _ _ hd, h1, h2⟩
  · exact Nat.le_succ_of_le hR.world.gnext

/-- What cells were laid as. -/
def Laid {α : Type} (e : Enc α) (ok : α → Prop) (w : World) (Δ : Env) (h : Hp) (cs : List Value) : Prop :=
  ∃ x vs Δ' h', VsRel Δ' vs cs ∧ e.rel (lo h'.next) h' x vs ∧ ok x ∧ Rd Δ' h' w ∧ Δ.le Δ' ∧ Grows h h'
/-- How a type's cells are laid; fl: they name no row. -/
structure Lays {α : Type} (t : Nat) (e : Enc α) (ok : α → Prop) (fl : Bool) : Prop where
  cells : P0.cellsOf t = e.sz
  lay : ∀ {H : Type} {enc : TypeId × Value → H} {w : World} {fuel : Nat} {cs : List Value} {d : DataW H} {ps : List MemPlace} {Δ : Env} {h : Hp},
    DataW.trod enc P0 w 0 (fun _ => true) true fuel t cs = some (d, ps) → (fl = false → SlOk w cs) → Rd Δ h w → Laid e ok w Δ h cs

theorem Lays.int {t : Nat} {k : IntKind} (hu : P0.underlying t = some (.int k)) (hc : P0.cellsOf t = 1) : Lays t (eI k) (fun _ => True) true where
  cells := hc
  lay := by
    intro H enc w fuel cs d ps Δ h hd _ hR
    obtain ⟨n, rfl, _, hwf⟩ := DataW.trod_int hu hd
    refine ⟨n, [.int k n], Δ, h, .one (.int _ _), ⟨rfl, ?_⟩, trivial, hR, Env.le_refl _, .refl _ _⟩
    simp [Lit.wf, decide_eq_true_eq] at hwf
    revert hwf
    cases k <;> simp [inK, IntKind.min, IntKind.max, IntKind.signed, IntKind.bits]
theorem Lays.bool {t : Nat} (hu : P0.underlying t = some .bool) (hc : P0.cellsOf t = 1) : Lays t eB (fun _ => True) true where
  cells := hc
  lay := by
    intro H enc w fuel cs d ps Δ h hd _ hR
    obtain ⟨b, rfl, _⟩ := DataW.trod_bool hu hd
    exact ⟨b, [.bool b], Δ, h, .one (.bool _), rfl, trivial, hR, Env.le_refl _, .refl _ _⟩
theorem Lays.str {t : Nat} (hu : P0.underlying t = some .string) (hc : P0.cellsOf t = 1) : Lays t eS (fun s => s.length ≤ maxLen) true where
  cells := hc
  lay := by
    intro H enc w fuel cs d ps Δ h hd _ hR
    obtain ⟨s, rfl, _, hs⟩ := DataW.trod_string hu hd
    exact ⟨s.data.toList, [.str s.data.toList], Δ, h, .one (.str _), rfl, by simp_all, hR, Env.le_refl _, .refl _ _⟩

/-! ### records -/
/-- No fields. -/
def eU : Enc Unit where
  sz := 0
  rel _ _ _ cs := cs = []
  len h := by simp_all
  one h := by simp_all
  keep _ h := h
  mono _ h := h
/-- How fields that lie one behind the other are laid. -/
structure LaysF {α : Type} (fs : List Field) (off : Nat) (e : Enc α) (ok : α → Prop) (fl : Bool) : Prop where
  lay : ∀ {H : Type} {enc : TypeId × Value → H} {w : World} {fuel : Nat} {cs : List Value} {Δ : Env} {h : Hp}, cs.length = off + e.sz →
    (∀ f ∈ fs, ∃ x, DataW.trod enc P0 w 0 (fun _ => true) true fuel f.type ((cs.drop f.offset).take (P0.cellsOf f.type)) = some x) → (fl = false → SlOk w cs) → Rd Δ h w → Laid e ok w Δ h (cs.drop off)
theorem LaysF.nil (off : Nat) : LaysF [] off eU (fun _ => True) true where
  lay := by
    intro H enc w fuel cs Δ h hl _ _ hR
    have : cs.drop off = [] := List.drop_of_length_le (by rw [hl]; exact Nat.le_refl _)
    rw [this]
    exact ⟨(), [], Δ, h, .nil, rfl, trivial, hR, Env.le_refl _, .refl _ _⟩
theorem LaysF.cons {α β : Type} {f : Field} {fs : List Field} {off : Nat} {e : Enc α} {e' : Enc β} {ok : α → Prop} {ok' : β → Prop} {fl fl' : Bool} (hf : Lays f.type e ok fl) (ho : f.offset = off) (hfs : LaysF fs (off + e.sz) e' ok' fl') :
    LaysF (f :: fs) off (eP e e') (fun x => ok x.1 ∧ ok' x.2) (fl && fl') where
  lay := by
    intro H enc w fuel cs Δ h hl hm hs hR
    have hl' : cs.length = off + (e.sz + e'.sz) := hl
    let ⟨⟨d, p⟩, hd⟩ := hm f (.head _)
    have hys := fun g hg => hm g (.tail _ hg)
    rw [ho, hf.cells] at hd
    let ⟨x, vs, Δ1, h1, hr1, he1, hok1, hR1, hle1, hg1⟩ := hf.lay hd (by grind[SlOk.sub,List.mem_of_mem_drop]) hR
    let ⟨y, us, Δ2, h2, hr2, he2, hok2, hR2, hle2, hg2⟩ := hfs.lay (by omega) hys (by simp_all) hR1
    have hsplit : cs.drop off = (cs.drop off).take e.sz ++ cs.drop (off + e.sz) := by rw [← List.drop_drop, List.take_append_drop]
    refine ⟨(x, y), vs ++ us, Δ2, h2, ?_, ⟨vs, us, rfl, ?_, he2⟩, ⟨hok1, hok2⟩, hR2, Env.le_trans hle1 hle2, hg1.trans hg2⟩
    · rw [hsplit]; exact (hr1.mono hle2).append hr2
    · exact e.mono (lo_mono hg2.next) (e.keep (fun l hl => hg2.keep l hl (fun h => h)) he1)
theorem Lays.struct {α : Type} {t : Nat} {fs : Array Field} {e : Enc α} {ok : α → Prop} {fl : Bool} (hu : P0.underlying t = some (.struct fs)) (hc : P0.cellsOf t = e.sz) (hf : LaysF fs.toList 0 e ok fl) : Lays t e ok fl where
  cells := hc
  lay := by
    intro H enc w fuel cs d ps Δ h hd hs hR
    obtain ⟨xs, n, rfl, _, hl, hlen, hf'⟩ := DataW.trod_struct hu hd
    have := hf.lay (by omega) (fun f hfm => by
      let ⟨i, hi⟩ := List.mem_iff_getElem?.1 hfm
      have hi' : fs[i]? = some f := by simpa using hi
      have hlt : i < xs.length := by rw [hlen]; exact (Array.getElem?_eq_some_iff.1 hi').1
      exact ⟨xs[i], by rw [hf' i f hi', List.getElem?_eq_getElem hlt]⟩) hs hR
    simp_all

/-! ### rows -/
theorem cells_of {w : World} {a : Addr} {n : Nat} {l : List Value} (h : w.cells? 0 a n = some l) : l.length = n ∧ ∀ i, i < n → w.cell? (a.add i) = l[i]? := by
  unfold World.cells? at h
  rw [if_pos (Nat.zero_le _)] at h
  have key : ∀ k js l, js = List.range' k js.length → js.mapM (fun i => w.cell? (a.add i)) = some l → l.length = js.length ∧ ∀ i, i < js.length → w.cell? (a.add (k + i)) = l[i]? := by
    intro k js
    induction js generalizing k with
    | nil => simp_all
    | cons j js ih =>
      intro l hj h
      simp [ Option.bind_eq_bind, Option.bind_eq_some_iff] at h
      obtain ⟨x, hx, xs, hxs, rfl⟩ := h
      rw [List.length_cons, List.range'_succ] at hj
      grind
  grind[List.length_range,List.range_eq_range']
theorem cell_at {w : World} {a : Addr} {n : Nat} {c : Array Value} {e : TypeId} {fr : Nat × Nat} (hb : w.heap[a.block]? = some (.cells c e fr)) (hs : a.spot = none) : w.cell? (a.add n) = c[a.off + n]? := by
  let ⟨b, o, s⟩ := a
  grind[addr_add,World.cell?]
theorem add_add (a : Addr) (n m : Nat) (hs : a.spot = none) : (a.add n).add m = a.add (n + m) := by
  let ⟨b, o, s⟩ := a
  grind[addr_add,Nat.add_assoc]
/-- The elements of a row, from one on. -/
theorem lays_elems {α : Type} {t : Nat} {e : Enc α} {ok : α → Prop} {fl : Bool} (he : Lays t e ok fl) {H : Type} {enc : TypeId × Value → H} {w : World} {fuel : Nat} {a : Addr} {c : Array Value} {ty : TypeId} {fr : Nat × Nat}
    (hb : w.heap[a.block]? = some (.cells c ty fr)) (hs : a.spot = none) : ∀ k i0 {Δ : Env} {h : Hp},
    (∀ i, i0 ≤ i → i < i0 + k → ∃ y, (w.cells? 0 (a.add (i * P0.cellsOf t)) (P0.cellsOf t)).bind (DataW.trod enc P0 w 0 (fun _ => true) true fuel t) = some y) → Rd Δ h w →
    ∃ xs vs Δ' h', xs.length = k ∧ vs.length = k * e.sz ∧ (∀ j v, vs[j]? = some v → ∃ x, c[a.off + i0 * e.sz + j]? = some x ∧ VRel Δ' v x) ∧ Win e (lo h'.next) h' vs xs ∧ (∀ x ∈ xs, ok x) ∧
      Rd Δ' h' w ∧ Δ.le Δ' ∧ Grows h h'
  | 0, i0, Δ, h, _, hR => ⟨[], [], Δ, h, rfl, by simp, by simp_all, trivial, (by simp_all), hR, Env.le_refl _, Chg.refl _ _⟩
  | k + 1, i0, Δ, h, hm, hR => by
    let ⟨⟨d, p⟩, hy⟩ := hm i0 (Nat.le_refl _) (by omega)
    rw [Option.bind_eq_some_iff] at hy
    let ⟨cs, hcs, hd⟩ := hy
    let ⟨hl, hc⟩ := cells_of hcs
    rw [he.cells] at hl hc
    let ⟨x, us, Δ1, h1, hr1, he1, hok1, hR1, hle1, hg1⟩ := he.lay hd (fun _ _ _ _ _ => ⟨_, _, _, _, hb⟩) hR
    let ⟨xs, vs, Δ2, h2, hx2, hv2, hc2, hw2, hok2, hR2, hle2, hg2⟩ := lays_elems he hb hs k (i0 + 1) (fun i h1 h2 => hm i (by omega) (by omega)) hR1
    have hus := e.len he1
    refine ⟨x :: xs, us ++ vs, Δ2, h2, by simp_all, by grind, ?_, ⟨us, vs, rfl, ?_, hw2⟩, ?_, hR2, Env.le_trans hle1 hle2, hg1.trans hg2⟩
    · intro j v hv
      by_cases hj : j < us.length
      · rw [List.getElem?_append_left hj] at hv
        let ⟨y, hy, hr⟩ := hr1.get j v hv
        refine ⟨y, ?_, hr.mono hle2⟩
        have h3 := hc j (by omega)
        rw [add_add _ _ _ hs, cell_at hb hs] at h3
        grind
      grind
    · exact e.mono (lo_mono hg2.next) (e.keep (fun l hl => hg2.keep l hl (fun h => h)) he1)
    simp_all
theorem cell_some {w : World} {a : Addr} {v : Value} (h : w.cell? a = some v) : a.spot = none ∧ ∃ c e fr, w.heap[a.block]? = some (.cells c e fr) := by
  unfold World.cell? at h
  split at h
  · rename_i c e fr hb
    split at h
    · cases h
    · rename_i hs
      exact ⟨by simpa using hs, c, e, fr, hb⟩
  · cases h
theorem Lays.slice {α : Type} {t u : Nat} {e : Enc α} {ok : α → Prop} {fl : Bool} (hu : P0.underlying t = some (.slice u)) (hc : P0.cellsOf t = 1) (he : Lays u e ok fl) (hz : 0 < e.sz) : Lays t (eL e) (fun xs => xs.length ≤ maxLen ∧ ∀ x ∈ xs, ok x) false where
  cells := hc
  lay := by
    intro H enc w fuel cs d ps Δ h hd hs hR
    rcases DataW.trod_slice hu hd with ⟨rfl, _⟩ | ⟨a, len, cap, els, rest, n, rfl, rfl, _, _, hlc, hcap, hell, hels, hrest, _⟩
    · exact ⟨[], [.nilSlice], Δ, h, .one .nilSlice, ⟨_, rfl, .nil⟩, by simp_all, hR, Env.le_refl _, Chg.refl _ _⟩
    · let ⟨hrl, hrest⟩ := hrest rfl
      have hat : ∀ i, i < cap → ∃ y, (w.cells? 0 (a.add (i * P0.cellsOf u)) (P0.cellsOf u)).bind (DataW.trod enc P0 w 0 (fun _ => true) true n u) = some y := fun i hi => by
        by_cases hil : i < len
        · exact ⟨els[i]'(by omega), by rw [hels i (by omega), List.getElem?_eq_getElem (by omega)]⟩
        · have h2 := hrest (i - len) (by omega)
          rw [show len + (i - len) = i by omega] at h2
          exact ⟨rest[i - len]'(by omega), by rw [h2, List.getElem?_eq_getElem (by omega)]⟩
      rcases Nat.eq_zero_or_pos cap with rfl | hcp
      · -- an address that nothing is read from
        obtain rfl : len = 0 := by omega
        let ⟨b, c, ty, fr, hb⟩ := hs rfl a 0 0 (.head _)
        let ⟨hR2, hle2⟩ := hR.add (base := 0) (sz := e.sz) (ty := u) (cs := []) hb (by simp) (by simp)
        refine ⟨[], [.slice h.next 0 0], _, _, .one ?_, ⟨_, rfl, ?_⟩, by simp, hR2, hle2, Chg.new _ _⟩
        · exact .wild h.next 0 a ⟨b, 0, e.sz, 0, c.size, true, 0⟩ (by unfold addE; simp) rfl rfl (Nat.le_refl _)
        · exact SlR.new (xs := []) (cs := []) trivial (Nat.le_refl _)
      have hblk : a.spot = none ∧ ∃ c e fr, w.heap[a.block]? = some (.cells c e fr) := by
        let ⟨y, hy⟩ := hat 0 hcp
        rw [Option.bind_eq_some_iff] at hy
        let ⟨ds, hds, _⟩ := hy
        let ⟨h3, h4⟩ := cells_of hds
        rw [he.cells] at h3 h4
        have h5 := h4 0 (by omega)
        rw [List.getElem?_eq_getElem (by omega)] at h5
        have h6 := cell_some h5
        have e0 : (a.add (0 * e.sz)).add 0 = a := by simp [Addr.add]
        rw [e0] at h6
        exact h6
      let ⟨hsp, c, ty, fr, hb⟩ := hblk
      let ⟨xs, vs, Δ1, h1, hx1, hv1, hc1, hw1, hok1, hR1, hle1, hg1⟩ := lays_elems he hb hsp len 0 (fun i _ hi => ⟨els[i]'(by omega), by rw [hels i (by omega), List.getElem?_eq_getElem (by omega)]⟩) hR
      have hin : ∀ i, i < cap → a.off + i * e.sz + e.sz ≤ c.size := by
        intro i hi
        let ⟨y, hy⟩ := hat i hi
        rw [Option.bind_eq_some_iff] at hy
        let ⟨ds, hds, _⟩ := hy
        let ⟨h3, h4⟩ := cells_of hds
        rw [he.cells] at h3 h4
        have h5 := h4 (e.sz - 1) (by omega)
        rw [add_add _ _ _ hsp, cell_at hb hsp, List.getElem?_eq_getElem (by omega)] at h5
        have := (Array.getElem?_eq_some_iff.1 h5).1
        omega
      have hcapz : cap * e.sz = (cap - 1) * e.sz + e.sz := by rw [← Nat.succ_mul]; congr 1; omega
      have hlez : len * e.sz ≤ cap * e.sz := Nat.mul_le_mul_right _ hlc
      have hsz : a.off + vs.length ≤ c.size := by
        have := hin (cap - 1) (by omega)
        omega
      let ⟨hR2, hle2⟩ := hR1.add (sz := e.sz) (ty := u) hb hsz (by grind)
      refine ⟨xs, [.slice h1.next 0 len], _, _, .one ?_, ⟨_, rfl, ?_⟩, ⟨by omega, hok1⟩, hR2, Env.le_trans hle1 hle2, hg1.trans (Chg.new _ _)⟩
      · let ⟨ab, ao, sp⟩ := a
        subst hsp
        refine .slice h1.next 0 len cap ao ⟨ab, ao, e.sz, vs.length, c.size, true, 0⟩ (by unfold addE; simp_all) rfl hlc (.inl ?_)
        have := hin (cap - 1) (by omega)
        grind
      · rw [← hx1]
        exact SlR.new hw1 (Nat.le_refl _)
end Go.Proofs.YtlbdcjnhlkkfeaaGreatDoor.Hx
