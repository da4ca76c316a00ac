/- What the rest comes to in the model: copies, conversions, maps ranged over, calls; and all that an operation that writes comes to. -/
import Derived.Test.YtmpdoelanliaeaaGreatDoorHxK
import Derived.Laws.IdiomStrings
namespace Go.Proofs.YtmpdoelanliaeaaGreatDoor.Hx
section
variable {Δ : Env} {h : Hp} {w : World} {n : Nat} {t : Tm} {a : Act}

theorem stAt_next {l off : Nat} {new : List V} {h' : Hp} (hs : stAt h l off new = some h') : h'.next = h.next := by
  unfold stAt at hs
  rw [cellsAt_eq] at hs
  obtain ⟨e, sz, live, ro, cs, hg, hv⟩ := hs
  simp only [bB_eq, oB_eq] at hv
  obtain ⟨_, _, _, _, _, hv⟩ := hv
  cases hv; rfl
theorem bytes_take (s : ByteArray) (m : Nat) : ((s.extract 0 m).data.map fun b => Value.int .u8 b.toNat) = Array.mk ((s.data.toList.take m).map fun b => Value.int .u8 b.toNat) := by
  apply Array.ext'
  simp_all
theorem bytes_rel' (Δ : Env) (l : List UInt8) : VsRel Δ (bytesV l) (l.map fun b => Value.int .u8 b.toNat) := by
  induction l with
  | nil => exact .nil
  | cons b l ih => exact .cons _ _ _ _ (.int .u8 _) ih
theorem hcopy_ok (hW : WR Δ h w) {dT elem size rt : Nat} {tys : Array Nat} (hty : tys[0]? = some dT) (hu : P0.underlying dT = some (.slice elem)) (hz : szOf elem = some size) {d s : V} {dv sv : Value}
    (hd : VRel Δ d dv) (hs : VRel Δ s sv) {r : R} (hv : hcopy size d s h = some r) :
    ∃ h' m w', r = .val (.int .i64 (.ofNat m)) h' ∧ (Builtin.copy_ tys rt #[dv, sv]).run P0 w = .ok (.int .i64 m) w' ∧ WR Δ h' w' ∧ FR Δ Δ w w' ∧ Gr h Δ h' Δ := by
  -- nothing to copy
  have none_ : ∀ (base : Option Addr) (dLen dCap : Nat) (m : Nat), dv = .slice base dLen dCap → (Builtin.lenOf sv).run P0 w = .ok m w → Nat.min m dLen = 0 → (Builtin.firstCells size 0 sv).run P0 w = .ok #[] w →
      (Builtin.copy_ tys rt #[dv, sv]).run P0 w = .ok (.int .i64 (0 : Nat)) w := by
    intro base dLen dCap m hdv hl hm hf
    subst hdv
    have hz' := run_sz (w := w) hz
    cases base <;> simp [Builtin.copy_, hty, run_und hu, hl, hm, hz', hf, storeCells, goInt]
  have some_ : ∀ (base : Addr) (dLen dCap : Nat) (m : Nat) (xs : List Value) (w' : World), dv = .slice (some base) dLen dCap → (Builtin.lenOf sv).run P0 w = .ok m w →
      (Builtin.firstCells size (Nat.min m dLen) sv).run P0 w = .ok (Array.mk xs) w → (storeCells base xs 0).run P0 w = .ok () w' →
      (Builtin.copy_ tys rt #[dv, sv]).run P0 w = .ok (.int .i64 (Nat.min m dLen : Nat)) w' := by
    intro base dLen dCap m xs w' hdv hl hf hst
    subst hdv
    have hz' := run_sz (w := w) hz
    simp [Builtin.copy_, hty, run_und hu, hl, hz', hf, hst, goInt]
  unfold hcopy at hv
  split at hv
  · cases hd
    split at hv
    · cases hv; cases hs
      exact ⟨_, 0, w, rfl, none_ none 0 0 0 rfl rfl rfl rfl, hW, .refl _ _, .refl _ _⟩
    · cases hv
      cases hs with
      | slice l off len cap o dd hdd hk hle ho =>
        exact ⟨_, 0, w, rfl, none_ none 0 0 _ rfl rfl (Nat.min_zero _) (by simp [Builtin.firstCells, loadCells, loadCellsFrom]), hW, .refl _ _, .refl _ _⟩
    · cases hv
      cases hs with
      | str s => exact ⟨_, 0, w, rfl, none_ none 0 0 s.size rfl rfl (Nat.min_zero _) (by simp [Builtin.firstCells]), hW, .refl _ _, .refl _ _⟩
    · cases hv
  · rename_i l off len
    cases hd with
    | slice _ _ _ dcap o dd hdd hk hle ho =>
      split at hv
      · cases hv; cases hs
        exact ⟨_, 0, w, rfl, none_ _ len dcap 0 rfl rfl (Nat.zero_min _) rfl, hW, .refl _ _, .refl _ _⟩
      · rename_i l' off' len'
        cases hs with
        | slice _ _ _ scap so sd hsd hsk hsle hso =>
          cases hm : Nat.beq (min len' len) 0 with
          | true =>
            simp only [hm] at hv
            cases hv
            have hm' : Nat.min len' len = 0 := Nat.eq_of_beq_eq_true hm
            exact ⟨_, 0, w, rfl, none_ _ len dcap len' rfl rfl hm' (by simp [Builtin.firstCells, loadCells, loadCellsFrom]), hW, .refl _ _, .refl _ _⟩
          | false =>
            have hm' : 0 < min len' len := Nat.pos_of_ne_zero fun e => by simp_all
            simp only [hm, oB_eq] at hv
            obtain ⟨cs, h1, h2, h3, h4⟩ := hv
            cases h4
            rcases hso with ⟨rfl, _, _⟩ | ⟨rfl, _⟩
            · rcases ho with ⟨rfl, _, _⟩ | ⟨rfl, _⟩
              · obtain ⟨xs, c1, c2⟩ := loadCells_list hW hsd h1
                obtain ⟨w', e1, e2, e3⟩ := stAt_ok hW hdd c2 h3
                exact ⟨_, _, w', rfl, some_ _ len dcap len' xs w' rfl rfl (by grind[Builtin.firstCells]) e1, e2, e3, .same (Nat.le_of_eq (stAt_next h3).symm)⟩
              · omega
            · omega
      · rename_i b
        rw [bB_eq] at hv
        obtain ⟨h1, hv⟩ := hv
        have h1' : size = 1 := Nat.eq_of_beq_eq_true h1
        subst h1'
        cases hs with
        | str s =>
          have hsl : s.data.toList.length = s.size := by simp
          rw [hsl] at hv
          cases hm : Nat.beq (min s.size len) 0 with
          | true =>
            simp only [hm] at hv
            cases hv
            have hm' : Nat.min s.size len = 0 := Nat.eq_of_beq_eq_true hm
            exact ⟨_, 0, w, rfl, none_ _ len dcap s.size rfl rfl hm' (by simp [Builtin.firstCells]), hW, .refl _ _, .refl _ _⟩
          | false =>
            have hm' : 0 < min s.size len := Nat.pos_of_ne_zero fun e => by simp_all
            simp only [hm, oB_eq] at hv
            obtain ⟨h2, h3, h4⟩ := hv
            cases h4
            rcases ho with ⟨rfl, _, _⟩ | ⟨rfl, _⟩
            · obtain ⟨w', e1, e2, e3⟩ := stAt_ok hW hdd (bytes_rel' Δ _) h3
              refine ⟨_, _, w', rfl, some_ _ len dcap s.size _ w' rfl rfl ?_ e1, e2, e3, .same (Nat.le_of_eq (stAt_next h3).symm)⟩
              simp only [Builtin.firstCells, bytes_take]
              rfl
            · omega
      · cases hv
  · cases hv

/-! ### conversions -/
theorem cellsOk_marked {d : D} {cs : List V} {c : Array Value} {e : Nat} (hs : c.size = d.asz) (hb : d.base = 0) (hl : cs.length ≤ d.asz) (hc : ∀ (i : Nat) (v : V), cs[i]? = some v → ∃ x, c[i]? = some x ∧ VRel Δ v x) :
    CellsOk Δ d cs (some (.cells c e (c.size, c.size + 1))) :=
  ⟨c, e, (c.size, c.size + 1), rfl, hs, fun _ => .inr (Nat.le_of_eq hs.symm), by omega, fun i v hi => by rw [hb, Nat.zero_add]; exact hc i v hi⟩
theorem hbytes_ok (hW : WR Δ h w) {src dst e : Nat} (hs : P0.underlying src = some .string) (hd : P0.underlying dst = some (.slice e)) (he : P0.underlying e = some (.int .u8)) (s : ByteArray) :
    ∃ Δ' x w', (convert src dst (.string s)).run P0 w = .ok x w' ∧ After Δ h w (.slice h.next 0 s.data.toList.length) (h.new (.cells e 1 true false (bytesV s.data.toList))) Δ' x w' := by
  have hr := run_bytes_of_string (P := P0) w src dst e s hs hd he
  have hge := grownCap_ge w s.size 0 e
  generalize grownCap w s.size 0 e = cap at hr hge
  have hsl : s.data.toList.length = s.size := by simp
  have hbl : (bytesV s.data.toList).length = s.size := by simp [bytesV]
  have hrs : (bytesRow s cap).size = cap := by
    have : s.data.size = s.size := rfl
    simp [bytesRow]; omega
  have hmade : Made Δ (.cells e 1 true false (bytesV s.data.toList)) (fun l => .slice l 0 s.data.toList.length) (.cells (bytesRow s cap) e ((bytesRow s cap).size, (bytesRow s cap).size + 1))
      (fun b => .slice (some ⟨b, 0, none⟩) s.size cap) := by
    intro l b hn
    refine ⟨⟨b, 0, 1, (bytesV s.data.toList).length, cap, false, 0⟩, rfl, ⟨rfl, rfl, rfl, rfl, fun _ => ?_⟩, ?_⟩
    · refine cellsOk_marked hrs rfl (by simp_all) fun i u hi => ?_
      obtain ⟨x, hx, hrx⟩ := (bytes_rel _ s).get i u hi
      refine ⟨x, ?_, hrx⟩
      grind[List.getElem?_eq_some_iff,bytesRow,Array.getElem?_append_left]
    · rw [hsl]
      refine VRel.slice l 0 s.size cap 0 ⟨b, 0, 1, (bytesV s.data.toList).length, cap, false, 0⟩ (Env.set_self _ _ _) rfl hge (.inl ⟨rfl, ?_, ?_⟩)
      · simp_all
      simp_all
  obtain ⟨Δ', a1, a2, a3, a4⟩ := (hW.heap (w' := w.drew) rfl).alloc hmade
  exact ⟨Δ', _, _, hr, a2, a1, a3.drew, a4⟩
theorem hmark_ok (hW : WR Δ h w) {src dst e0 e : Nat} {x : V} {y : Value} (hx : VRel Δ x y) (hs : P0.underlying src = some (.slice e0)) (hd : P0.underlying dst = some (.slice e)) (he : P0.underlying e = some (.int .u8)) (hsd : src = dst)
    {r : R} (hv : hmark x h = some r) : ∃ v' h' w', r = .val v' h' ∧ (convert src dst y).run P0 w = .ok y w' ∧ After Δ h w v' h' Δ y w' := by
  unfold hmark at hv
  split at hv
  · rename_i l off n
    rw [cellsAt_eq] at hv
    obtain ⟨e1, sz, live, ro, cs, hg, hv⟩ := hv
    simp only [bB_eq] at hv
    obtain ⟨rfl, hro, hv⟩ := hv
    cases hv
    have hro' : ro = false := by simpa using hro
    subst hro'
    cases hx with
    | slice _ _ _ cap o d hl hk hle ho =>
      obtain ⟨p, hp, hr⟩ := hW.obj l d hl
      rw [hg] at hp; cases hp
      obtain ⟨a1, a2, a3, a4, a5⟩ := hr
      obtain ⟨c, e2, fr, b1, b2, b3, b5, b4⟩ := a5 rfl
      subst hsd
      obtain rfl : e0 = e := by simp_all
      obtain ⟨lo, hi⟩ := fr
      have hlt : d.b < w.heap.size := hW.blk l d hl
      have hw' : (w.freeze ⟨d.b, c.size, none⟩ 1).heap[d.b]? = some (.cells c e2 (if lo == hi then (c.size, c.size + 1) else (min lo c.size, max hi (c.size + 1)))) := by
        unfold World.freeze
        rw [if_neg (by omega)]
        simp only [Array.getElem?_modify, b1, if_true, Option.map_some]
      have hoth : ∀ b, b ≠ d.b → (w.freeze ⟨d.b, c.size, none⟩ 1).heap[b]? = w.heap[b]? := by
        intro b hb
        unfold World.freeze
        rw [if_neg (by omega)]
        simp only [Array.getElem?_modify]
        rw [if_neg (by omega)]
      have hsz : (w.freeze ⟨d.b, c.size, none⟩ 1).heap.size = w.heap.size := by
        unfold World.freeze
        rw [if_neg (by omega)]
        simp
      have hwd : ∀ b, (w.freeze b 1).os = w.os ∧ (w.freeze b 1).tape = w.tape ∧ (w.freeze b 1).output = w.output := by
        intro b
        unfold World.freeze
        rw [if_neg (by omega)]
        exact by simp_all
      refine ⟨_, _, w.freeze ⟨d.b, c.size, none⟩ 1, rfl, ?_, ⟨.slice l off n cap o d hl hk hle ho, ?_, FR.set hl a4 hsz hoth (hwd _).1 (hwd _).2.1 (hwd _).2.2, Gr.same (Nat.le_refl _)⟩⟩
      · have hshape : (Go.shape d.b).run P0 w = .ok (some (e2, c.size)) w := by
          show Result.ok (w.shape? d.b) w = _
          unfold World.shape?
          rw [b1]
        simp_all[convert,Sem.run_bind,run_und,Result.andThen_ok,markStringish,run_freeze]
      · refine hW.set hl hg rfl a4 (fun h => h) ⟨a1, a2, a3, a4, fun _ => ⟨c, e2, _, hw', b2, fun _ => ?_, b5, b4⟩⟩ hsz hoth
        grind
  · cases hv
end
end Go.Proofs.YtmpdoelanliaeaaGreatDoor.Hx
