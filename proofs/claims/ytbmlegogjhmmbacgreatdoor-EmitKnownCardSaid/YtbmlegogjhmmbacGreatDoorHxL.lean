/- What the rest comes to in the model: copies, conversions, maps ranged over, calls; and all that an operation that writes comes to. -/
import Derived.Test.YtbmlegogjhmmbacGreatDoorHxK
import Derived.Laws.IdiomStrings
namespace Go.Proofs.YtbmlegogjhmmbacGreatDoor.Hx
section
variable {Δ : Env} {h : Hp} {w : World} {n : Nat} {t : Tm} {a : Act}

theorem stAt_next {l off : Nat} {new : List V} {h' : Hp} (hs : stAt h l off new = some h') : h'.next = h.next := by
  unfold stAt at hs
  rw [cellsAt_eq] at hs
  obtain ⟨e, sz, live, ro, cs, hg, hv⟩ := hs
  simp only [bB_eq, oB_eq] at hv
  obtain ⟨_, _, _, _, _, hv⟩ := hv
  cases hv; rfl
theorem bytes_take (s : ByteArray) (m : Nat) : ((s.extract 0 m).data.map fun b => Value.int .u8 b.toNat) = Array.mk ((s.data.toList.take m).map fun b => Value.int .u8 b.toNat) := by
  apply Array.ext'
  have := extract_list s 0 m
  simp only [List.drop_zero, Nat.sub_zero] at this
  rw [Array.toList_map, this]
theorem bytes_rel' (Δ : Env) (l : List UInt8) : VsRel Δ (bytesV l) (l.map fun b => Value.int .u8 b.toNat) := by
  induction l with
  | nil => exact .nil
  | cons b l ih => exact .cons _ _ _ _ (.int .u8 _) ih
theorem hcopy_ok (hW : WR Δ h w) {dT elem size rt : Nat} {tys : Array Nat} (hty : tys[0]? = some dT) (hu : P0.underlying dT = some (.slice elem)) (hz : szOf elem = some size) {d s : V} {dv sv : Value}
    (hd : VRel Δ d dv) (hs : VRel Δ s sv) {r : R} (hv : hcopy size d s h = some r) :
    ∃ h' m w', r = .val (.int .i64 (.ofNat m)) h' ∧ (Builtin.copy_ tys rt #[dv, sv]).run P0 w = .ok (.int .i64 m) w' ∧ WR Δ h' w' ∧ FR Δ Δ w w' ∧ Gr h Δ h' Δ := by
  -- nothing to copy
  have none_ : ∀ (base : Option Addr) (dLen dCap : Nat) (m : Nat), dv = .slice base dLen dCap → (Builtin.lenOf sv).run P0 w = .ok m w → Nat.min m dLen = 0 → (Builtin.firstCells size 0 sv).run P0 w = .ok #[] w →
      (Builtin.copy_ tys rt #[dv, sv]).run P0 w = .ok (.int .i64 (0 : Nat)) w := by
    intro base dLen dCap m hdv hl hm hf
    subst hdv
    have hz' := run_sz (w := w) hz
    cases base <;> simp [Builtin.copy_, hty, run_und hu, hl, hm, hz', hf, storeCells, goInt]
  have some_ : ∀ (base : Addr) (dLen dCap : Nat) (m : Nat) (xs : List Value) (w' : World), dv = .slice (some base) dLen dCap → (Builtin.lenOf sv).run P0 w = .ok m w →
      (Builtin.firstCells size (Nat.min m dLen) sv).run P0 w = .ok (Array.mk xs) w → (storeCells base xs 0).run P0 w = .ok () w' →
      (Builtin.copy_ tys rt #[dv, sv]).run P0 w = .ok (.int .i64 (Nat.min m dLen : Nat)) w' := by
    intro base dLen dCap m xs w' hdv hl hf hst
    subst hdv
    have hz' := run_sz (w := w) hz
    simp [Builtin.copy_, hty, run_und hu, hl, hz', hf, hst, goInt]
  unfold hcopy at hv
  split at hv
  · cases hd
    split at hv
    · cases hv; cases hs
      exact ⟨_, 0, w, rfl, none_ none 0 0 0 rfl rfl rfl rfl, hW, .refl _ _, .refl _ _⟩
    · cases hv
      cases hs with
      | slice l off len cap o dd hdd hk hle ho =>
        exact ⟨_, 0, w, rfl, none_ none 0 0 _ rfl rfl (Nat.min_zero _) (by simp [Builtin.firstCells, loadCells, loadCellsFrom]), hW, .refl _ _, .refl _ _⟩
    · cases hv
      cases hs with
      | str s => exact ⟨_, 0, w, rfl, none_ none 0 0 s.size rfl rfl (Nat.min_zero _) (by simp [Builtin.firstCells]), hW, .refl _ _, .refl _ _⟩
    · cases hv
  · rename_i l off len
    cases hd with
    | slice _ _ _ dcap o dd hdd hk hle ho =>
      split at hv
      · cases hv; cases hs
        exact ⟨_, 0, w, rfl, none_ _ len dcap 0 rfl rfl (Nat.zero_min _) rfl, hW, .refl _ _, .refl _ _⟩
      · rename_i l' off' len'
        cases hs with
        | slice _ _ _ scap so sd hsd hsk hsle hso =>
          cases hm : Nat.beq (min len' len) 0 with
          | true =>
            simp only [hm] at hv
            cases hv
            have hm' : Nat.min len' len = 0 := Nat.eq_of_beq_eq_true hm
            exact ⟨_, 0, w, rfl, none_ _ len dcap len' rfl rfl hm' (by simp [Builtin.firstCells, loadCells, loadCellsFrom]), hW, .refl _ _, .refl _ _⟩
          | false =>
            have hm' : 0 < min len' len := Nat.pos_of_ne_zero fun e => by rw [e] at hm; cases hm
            simp only [hm, oB_eq] at hv
            obtain ⟨cs, h1, h2, h3, h4⟩ := hv
            cases h4
            rcases hso with ⟨rfl, _, _⟩ | ⟨rfl, _⟩
            · rcases ho with ⟨rfl, _, _⟩ | ⟨rfl, _⟩
              · obtain ⟨xs, c1, c2⟩ := loadCells_list hW hsd h1
                obtain ⟨w', e1, e2, e3⟩ := stAt_ok hW hdd c2 h3
                exact ⟨_, _, w', rfl, some_ _ len dcap len' xs w' rfl rfl (by simpa [Builtin.firstCells] using c1) e1, e2, e3, .same (Nat.le_of_eq (stAt_next h3).symm)⟩
              · omega
            · omega
      · rename_i b
        rw [bB_eq] at hv
        obtain ⟨h1, hv⟩ := hv
        have h1' : size = 1 := Nat.eq_of_beq_eq_true h1
        subst h1'
        cases hs with
        | str s =>
          have hsl : s.data.toList.length = s.size := by simp
          rw [hsl] at hv
          cases hm : Nat.beq (min s.size len) 0 with
          | true =>
            simp only [hm] at hv
            cases hv
            have hm' : Nat.min s.size len = 0 := Nat.eq_of_beq_eq_true hm
            exact ⟨_, 0, w, rfl, none_ _ len dcap s.size rfl rfl hm' (by simp [Builtin.firstCells]), hW, .refl _ _, .refl _ _⟩
          | false =>
            have hm' : 0 < min s.size len := Nat.pos_of_ne_zero fun e => by rw [e] at hm; cases hm
            simp only [hm, oB_eq] at hv
            obtain ⟨h2, h3, h4⟩ := hv
            cases h4
            rcases ho with ⟨rfl, _, _⟩ | ⟨rfl, _⟩
            · obtain ⟨w', e1, e2, e3⟩ := stAt_ok hW hdd (bytes_rel' Δ _) h3
              refine ⟨_, _, w', rfl, some_ _ len dcap s.size _ w' rfl rfl ?_ e1, e2, e3, .same (Nat.le_of_eq (stAt_next h3).symm)⟩
              simp only [Builtin.firstCells, bytes_take]
              rfl
            · omega
      · cases hv
  · cases hv

/-! ### conversions -/
theorem cellsOk_marked {d : D} {cs : List V} {c : Array Value} {e : Nat} (hs : c.size = d.asz) (hb : d.base = 0) (hl : cs.length ≤ d.asz) (hc : ∀ (i : Nat) (v : V), cs[i]? = some v → ∃ x, c[i]? = some x ∧ VRel Δ v x) :
    CellsOk Δ d cs (some (.cells c e (c.size, c.size + 1))) :=
  ⟨c, e, (c.size, c.size + 1), rfl, hs, fun i hi h => by have := h.1; simp only at this; omega, by omega, fun i v hi => by rw [hb, Nat.zero_add]; exact hc i v hi⟩
theorem hbytes_ok (hW : WR Δ h w) {src dst e : Nat} (hs : P0.underlying src = some .string) (hd : P0.underlying dst = some (.slice e)) (he : P0.underlying e = some (.int .u8)) (s : ByteArray) :
    ∃ Δ' x w', (convert src dst (.string s)).run P0 w = .ok x w' ∧ After Δ h w (.slice h.next 0 s.data.toList.length) (h.new (.cells e 1 true false (bytesV s.data.toList))) Δ' x w' := by
  have hr := run_bytes_of_string (P := P0) w src dst e s hs hd he
  have hge := grownCap_ge w s.size 0 e
  generalize grownCap w s.size 0 e = cap at hr hge
  have hsl : s.data.toList.length = s.size := by simp
  have hbl : (bytesV s.data.toList).length = s.size := by simp [bytesV]
  have hrs : (bytesRow s cap).size = cap := by
    have : s.data.size = s.size := rfl
    simp [bytesRow]; omega
  have hmade : Made Δ (.cells e 1 true false (bytesV s.data.toList)) (fun l => .slice l 0 s.data.toList.length) (.cells (bytesRow s cap) e ((bytesRow s cap).size, (bytesRow s cap).size + 1))
      (fun b => .slice (some ⟨b, 0, none⟩) s.size cap) := by
    intro l b hn
    refine ⟨⟨b, 0, 1, (bytesV s.data.toList).length, cap, false, 0⟩, rfl, ⟨rfl, rfl, rfl, rfl, fun _ => ?_⟩, ?_⟩
    · refine cellsOk_marked hrs rfl (by show (bytesV s.data.toList).length ≤ cap; omega) fun i u hi => ?_
      obtain ⟨x, hx, hrx⟩ := (bytes_rel _ s).get i u hi
      refine ⟨x, ?_, hrx⟩
      have hlt : i < (s.data.toList.map fun b => Value.int .u8 b.toNat).length := (List.getElem?_eq_some_iff.1 hx).1
      unfold bytesRow
      rw [Array.getElem?_append_left (by simpa using hlt)]
      rw [← hx]
      simp
    · rw [hsl]
      refine VRel.slice l 0 s.size cap 0 ⟨b, 0, 1, (bytesV s.data.toList).length, cap, false, 0⟩ (Env.set_self _ _ _) rfl hge (.inl ⟨rfl, ?_, ?_⟩)
      · show (bytesV s.data.toList).length ≤ 0 + cap * 1; omega
      · show 0 + 0 + cap * 1 ≤ cap; omega
  obtain ⟨Δ', a1, a2, a3, a4⟩ := (hW.heap (w' := w.drew) rfl).alloc hmade
  exact ⟨Δ', _, _, hr, a2, a1, a3.drew, a4⟩
theorem bytesOf_ok {cs : List V} {xs : List Value} {s : List UInt8} (hr : VsRel Δ cs xs) (hv : bytesOf cs = some s) : xs = (s.map fun b => (b.toNat : Int)).map (Value.int .u8) := by
  induction cs generalizing xs s with
  | nil => cases hr; simp [bytesOf] at hv; subst hv; rfl
  | cons c cs ih =>
    simp only [bytesOf, oB_eq] at hv
    obtain ⟨b, h1, l, h2, h3⟩ := hv
    cases h3
    cases hr with
    | cons _ x _ xs hx hxs =>
      rw [ih hxs h2]
      unfold byteOf at h1
      split at h1
      · rename_i m
        rw [bB_eq] at h1
        obtain ⟨h4, h5⟩ := h1
        cases h5
        cases hx
        have h4' : m < 256 := by rw [Nat.blt_eq] at h4; exact h4
        have : (UInt8.ofNat m).toNat = m := by simp; omega
        simp only [List.map_cons, this]
        rfl
      · cases h1
theorem push_bytes (l : List UInt8) : ∀ (r : ByteArray), ((l.map fun b => (b.toNat : Int)).foldl (fun r n => r.push (UInt8.ofNat n.toNat)) r).data.toList = r.data.toList ++ l := by
  induction l with
  | nil => intro r; simp
  | cons b l ih =>
    intro r
    simp only [List.map_cons, List.foldl_cons]
    rw [ih]
    simp [ByteArray.push]
theorem hstring_ok {src dst e : Nat} (hs : P0.underlying src = some (.slice e)) (hd : P0.underlying dst = some .string) (he : P0.underlying e = some (.int .u8)) {ad : Option Addr} {len cap : Nat} {cs : List V} {s : List UInt8}
    (hb : bytesOf cs = some s) (hc : ∀ b, ad = some b → ∃ xs, (loadCells b len).run P0 w = .ok (Array.mk xs) w ∧ VsRel Δ cs xs) (hn : ad = none → s = []) :
    ∃ x, (convert src dst (.slice ad len cap)).run P0 w = .ok x w ∧ VRel Δ (.str s) x := by
  cases ad with
  | none =>
    cases hn rfl
    exact ⟨.string .empty, by simp [convert, run_und hs, run_und hd, run_und he, Conv.bytesToString], .str ByteArray.empty⟩
  | some b =>
    obtain ⟨xs, h1, h2⟩ := hc b rfl
    rw [bytesOf_ok h2 hb] at h1
    have hr := run_bytesToString (P := P0) w b len cap _ h1
    generalize hB : (List.foldl (fun r n => ByteArray.push r (UInt8.ofNat n.toNat)) ByteArray.empty (List.map (fun b => (b.toNat : Int)) s)) = B at hr
    have hBl : B.data.toList = s := by rw [← hB, push_bytes]; rfl
    refine ⟨.string B, ?_, by rw [← hBl]; exact .str B⟩
    simp only [convert, Sem.run_bind, run_und hs, run_und hd, Result.andThen_ok, run_und he, hr]
end
end Go.Proofs.YtbmlegogjhmmbacGreatDoor.Hx
