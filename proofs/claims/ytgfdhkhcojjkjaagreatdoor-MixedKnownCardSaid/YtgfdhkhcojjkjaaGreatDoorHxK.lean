/- What the other operations that change the heap come to in the model: stores, map entries, copies. -/
import Derived.Test.YtgfdhkhcojjkjaaGreatDoorHxI
import Derived.Laws.IdiomStrings
namespace Go.Proofs.YtgfdhkhcojjkjaaGreatDoor.Hx
section
variable {Δ : Env} {h : Hp} {w : World} {n : Nat} {t : Tm} {a : Act}

theorem hstore_ok (hW : WR Δ h w) {ty size : Nat} (hz : szOf ty = some size) {l off : Nat} {v : V} {pv xv : Value} (hp : VRel Δ (.ptr l off) pv) (hx : VRel Δ v xv)
    (hlen : Nat.beq v.cells.length size = true) {h' : Hp} (hs : stAt h l off v.cells = some h') :
    ∃ w', (Instr.storeAt ty pv xv).run P0 w = .ok () w' ∧ WR Δ h' w' ∧ FR Δ Δ w w' ∧ Gr h Δ h' Δ := by
  cases hp with
  | ptr _ _ d hd =>
    have hc := hx.cells
    let ⟨w', h1, h2, h3⟩ := stAt_ok hW hd hc hs
    have hcl := hc.length
    have hnx : h'.next = h.next := by
      unfold stAt at hs
      rw [cellsAt_eq] at hs
      let ⟨e, sz, live, ro, cs, hg, hv⟩ := hs
      simp [bB_eq, oB_eq] at hv
      let ⟨_, _, _, _, _, hv⟩ := hv
      cases hv; rfl
    refine ⟨w', ?_, h2, h3, .same (Nat.le_of_eq hnx.symm)⟩
    simp_all[Instr.storeAt,Instr.sureAddr,storeVar,run_sz]

/-! ### maps -/
theorem ERel.length {es : List (V × V × Nat)} {es' : List MapEntry} (h : ERel Δ es es') : es.length = es'.length := by
  induction h <;> grind
theorem ERel.get {es : List (V × V × Nat)} {es' : List MapEntry} (h : ERel Δ es es') {i : Nat} {e : V × V × Nat} (hi : es[i]? = some e) :
    ∃ e', es'[i]? = some e' ∧ VRel Δ e.1 e'.key ∧ VRel Δ e.2.1 e'.val ∧ e'.born = e.2.2 := by
  induction h generalizing i <;> grind
theorem ERel.set {es : List (V × V × Nat)} {es' : List MapEntry} (h : ERel Δ es es') {i : Nat} {k v : V} {m : Nat} {e' : MapEntry} (hk : VRel Δ k e'.key) (hv : VRel Δ v e'.val) (hb : e'.born = m) :
    ERel Δ (es.set i (k, v, m)) (es'.set i e') := by
  induction h generalizing i with
  | nil => exact .nil
  | cons k0 v0 n e0 es es' hk0 hv0 hb0 hs ih =>
    cases i with
    | zero => exact .cons _ _ _ _ _ _ hk hv hb hs
    | succ i => exact .cons _ _ _ _ _ _ hk0 hv0 hb0 ih
theorem ERel.snoc {es : List (V × V × Nat)} {es' : List MapEntry} (h : ERel Δ es es') {k v : V} {m : Nat} {e' : MapEntry} (hk : VRel Δ k e'.key) (hv : VRel Δ v e'.val) (hb : e'.born = m) :
    ERel Δ (es ++ [(k, v, m)]) (es' ++ [e']) := by
  induction h with
  | nil => exact .cons _ _ _ _ _ _ hk hv hb .nil
  | cons k0 v0 n e0 es es' hk0 hv0 hb0 hs ih => exact .cons _ _ _ _ _ _ hk0 hv0 hb0 ih
theorem ERel.erase {es : List (V × V × Nat)} {es' : List MapEntry} (h : ERel Δ es es') {i : Nat} : ERel Δ (es.eraseIdx i) (es'.eraseIdx i) := by
  induction h generalizing i with
  | nil => exact .nil
  | cons k0 v0 n e0 es es' hk0 hv0 hb0 hs ih =>
    cases i with
    | zero => exact hs
    | succ i => exact .cons _ _ _ _ _ _ hk0 hv0 hb0 ih
theorem sameBits_flat {k : V} {x y : Value} (m : Nat) (hf : flatKey k = true) (hx : VRel Δ k x) (hy : VRel Δ k y) : Instr.sameBits m x y = true := by
  cases k <;> simp [flatKey] at hf
  · cases hx; cases hy; grind[Instr.sameBits]
  · cases hx; cases hy; grind[Instr.sameBits]
  · rename_i s
    cases hx with
    | str s1 => 
      generalize hs : s1.data.toList = l at hy
      cases hy with
      | str s2 =>
        have : s1 = s2 := by
          rw [ByteArray.ext_iff]
          exact Array.ext' hs
        subst this
        have hb : (s1 == s1) = true := by show (s1.data == s1.data) = true; simp
        grind[Instr.sameBits]
theorem zip_flat (m : Nat) {cs : List V} {xs ys : List Value} (hf : cs.all flatKey = true) (hx : VsRel Δ cs xs) (hy : VsRel Δ cs ys) : xs.length = ys.length ∧ (xs.zip ys).all (fun p => Instr.sameBits m p.1 p.2) = true := by
  induction cs generalizing xs ys with
  | nil => cases hx; cases hy; simp_all
  | cons c cs ih =>
    cases hx with
    | cons _ x _ xs hx hxs =>
      cases hy with
      | cons _ y _ ys hy hys =>
        simp only [List.all_cons, Bool.and_eq_true] at hf
        let ⟨h1, h2⟩ := ih hf.2 hxs hys
        exact ⟨by simp [h1], by simp [ List.all_cons]; grind[sameBits_flat]⟩
theorem sameBits_simple {k : V} {x y : Value} (m : Nat) (hf : simpleKey k = true) (hx : VRel Δ k x) (hy : VRel Δ k y) : Instr.sameBits (m + 1) x y = true := by
  cases k with
  | agg cs =>
    cases hx with | agg _ xs hx => cases hy with | agg _ ys hy =>
    let ⟨h1, h2⟩ := zip_flat m hf hx hy
    simp_all[Instr.sameBits]
  | _ => grind[sameBits_flat,simpleKey]
theorem map_set (hW : WR Δ h w) {l : Nat} {d : D} (hl : Δ l = some d) {es es2 : List (V × V × Nat)} {c c2 : Nat} (hg : h.get l = some (.map es c)) {es2' : Array MapEntry} (he : ERel Δ es2 es2'.toList) :
    (setObj d.b (.map es2' c2)).run P0 w = .ok () { w with heap := w.heap.setIfInBounds d.b (.map es2' c2) } ∧
    WR Δ (h.put l (.map es2 c2)) { w with heap := w.heap.setIfInBounds d.b (.map es2' c2) } ∧ FR Δ Δ w { w with heap := w.heap.setIfInBounds d.b (.map es2' c2) } := by
  let ⟨o, ho, hr⟩ := hW.obj l d hl
  rw [hg] at ho; cases ho
  let ⟨a1, a2, a3, es', h1, h2⟩ := hr
  have hlt := hW.blk l d hl
  have hother : ∀ b, b ≠ d.b → ({ w with heap := w.heap.setIfInBounds d.b (.map es2' c2) } : World).heap[b]? = w.heap[b]? := by grind
  refine ⟨by grind[setObj,Sem.run], hW.set hl hg rfl a2 (fun h => h) ⟨a1, a2, a3, es2', ?_, he⟩ (by simp) hother, FR.set hl a2 (by simp) hother rfl rfl rfl⟩
  simp_all
theorem hput_ok (hW : WR Δ h w) {mT kt et : Nat} (hu : P0.underlying mT = some (.map kt et)) {d : Option (List Field)} (hd : keyD kt = some d) {m k v : V} {mv kv vv : Value} (hm : VRel Δ m mv) (hk : VRel Δ k kv) (hx : VRel Δ v vv)
    {r : R} (hv : hput kt d m k v h = some r) : ∃ h' w', r = .val .undef h' ∧ (Instr.mapUpdate mT mv kv vv).run P0 w = .ok () w' ∧ WR Δ h' w' ∧ FR Δ Δ w w' ∧ Gr h Δ h' Δ := by
  unfold hput at hv
  rw [bB_eq] at hv
  let ⟨hh, hv⟩ := hv
  split at hv
  · rename_i l
    simp [mapAt_eq, oB_eq] at hv
    let ⟨es, c, hg, ob, hp, hv⟩ := hv
    cases hv
    cases hm with
    | map _ dd hl =>
      let ⟨es', hb, he⟩ := map_ok hW hl hg
      have hck := checkKey_ok (em := false) 9999 (by omega) w hd hk hh
      unfold mapPut at hp
      rw [oB_eq] at hp
      let ⟨fr, hf, hp⟩ := hp
      let ⟨fr', hf', hrel⟩ := findKey_ok hd hk w he hf
      cases fr with
      | none =>
        cases hp
        cases fr' with
        | some _ => cases hrel
        | none =>
          obtain ⟨s1, s2, s3⟩ := map_set hW hl hg (es2' := es'.push { key := kv, val := vv, born := c }) (by rw [Array.toList_push]; exact he.snoc hk hx rfl)
          refine ⟨_, _, rfl, ?_, s2, s3, .same (Nat.le_refl _)⟩
          simp [Instr.mapUpdate, Sem.run_bind, run_und hu, run_getObj_map hb, hck, hf', s1]
      | some p =>
        let ⟨i, u⟩ := p
        simp only [oB_eq, bB_eq] at hp
        let ⟨e, he1, he2, hsk, hp⟩ := hp
        cases hp
        cases fr' with
        | none => cases hrel
        | some p' =>
          let ⟨i', u'⟩ := p'
          obtain ⟨rfl, _⟩ := hrel
          let ⟨e', g1, g2, g3, g4⟩ := he.get he1
          rw [V.eq_of_beq _ _ he2] at g2
          have hsb : Instr.sameBits 10000 e'.key kv = true := by grind[sameBits_simple]
          have g1' : es'[i]? = some e' := by simpa using g1
          have hmod : (es'.modify i fun e => { e with key := kv, val := vv }).toList = es'.toList.set i { e' with key := kv, val := vv } := by
            rw [Array.toList_modify]
            rw [List.modify_eq_set]
            simp [g1']
          obtain ⟨s1, s2, s3⟩ := map_set hW hl hg (by rw [hmod]; exact he.set hk hx g4)
          refine ⟨_, _, rfl, ?_, s2, s3, .same (Nat.le_refl _)⟩
          simp [Instr.mapUpdate, Sem.run_bind, run_und hu, Result.andThen_ok, run_getObj_map hb, hck, hf', Instr.keyThatStays, g1', Option.map_some, Option.getD_some, hsb, s1]
  · cases hv
theorem hdelete_ok (hW : WR Δ h w) {mT kt et rt : Nat} {tys : Array Nat} (hty : tys[0]? = some mT) (hu : P0.underlying mT = some (.map kt et)) {d : Option (List Field)} (hd : keyD kt = some d) {m k : V} {mv kv : Value} (hm : VRel Δ m mv) (hk : VRel Δ k kv)
    {r : R} (hv : hdelete kt d m k h = some r) : ∃ h' w', r = .val (.tuple []) h' ∧ (Builtin.delete_ tys rt #[mv, kv]).run P0 w = .ok (.tuple #[]) w' ∧ WR Δ h' w' ∧ FR Δ Δ w w' ∧ Gr h Δ h' Δ := by
  unfold hdelete at hv
  rw [bB_eq] at hv
  let ⟨hh, hv⟩ := hv
  split at hv
  · cases hv; cases hm
    have hck := checkKey_ok (em := true) 9999 (by omega) w hd hk hh
    refine ⟨h, w, rfl, ?_, hW, .refl _ _, .refl _ _⟩
    simp [Builtin.delete_, hty, run_und hu, hck]
  · rename_i l
    simp [mapAt_eq, oB_eq] at hv
    let ⟨es, c, hg, fr, hf, hv⟩ := hv
    cases hm with
    | map _ dd hl =>
      let ⟨es', hb, he⟩ := map_ok hW hl hg
      have hck := checkKey_ok (em := es'.isEmpty) 9999 (by omega) w hd hk hh
      let ⟨fr', hf', hrel⟩ := findKey_ok hd hk w he hf
      cases fr with
      | none =>
        cases hv
        cases fr' with
        | some _ => cases hrel
        | none =>
          let ⟨s1, s2, s3⟩ := map_set hW hl hg (c2 := c) he
          have hsame : ({ w with heap := w.heap.setIfInBounds dd.b (.map es' c) } : World) = w := by
            have : w.heap.setIfInBounds dd.b (.map es' c) = w.heap := by
              apply Array.ext_getElem?
              intro i
              by_cases hi : dd.b = i
              · grind
              · simp_all
            rw [this]
          rw [hsame] at s1
          refine ⟨h, w, rfl, ?_, hW, .refl _ _, .refl _ _⟩
          simp [Builtin.delete_, hty, run_und hu, run_getObj_map hb, hck, hf', s1]
      | some p =>
        let ⟨i, u⟩ := p
        cases hv
        cases fr' with
        | none => cases hrel
        | some p' =>
          let ⟨i', u'⟩ := p'
          obtain ⟨rfl, _⟩ := hrel
          have her : (es'.eraseIdxIfInBounds i).toList = es'.toList.eraseIdx i := by
            rw [Array.eraseIdxIfInBounds_eq]
            split
            · rw [Array.toList_eraseIdx]
            · grind[List.eraseIdx_of_length_le]
          obtain ⟨s1, s2, s3⟩ := map_set hW hl hg (by rw [her]; exact he.erase)
          refine ⟨_, _, rfl, ?_, s2, s3, .same (Nat.le_refl _)⟩
          simp [Builtin.delete_, hty, run_und hu, run_getObj_map hb, hck, hf', s1]
  · cases hv
end
end Go.Proofs.YtgfdhkhcojjkjaaGreatDoor.Hx
/- What the rest comes to in the model: copies, conversions, maps ranged over, calls; and all that an operation that writes comes to. -/
namespace Go.Proofs.YtgfdhkhcojjkjaaGreatDoor.Hx
section
variable {Δ : Env} {h : Hp} {w : World} {n : Nat} {t : Tm} {a : Act}

theorem stAt_next {l off : Nat} {new : List V} {h' : Hp} (hs : stAt h l off new = some h') : h'.next = h.next := by
  unfold stAt at hs
  rw [cellsAt_eq] at hs
  obtain ⟨e, sz, live, ro, cs, hg, hv⟩ := hs
  simp only [bB_eq, oB_eq] at hv
  obtain ⟨_, _, _, _, _, hv⟩ := hv
  cases hv; rfl
theorem bytes_take (s : ByteArray) (m : Nat) : ((s.extract 0 m).data.map fun b => Value.int .u8 b.toNat) = Array.mk ((s.data.toList.take m).map fun b => Value.int .u8 b.toNat) := by
  apply Array.ext'
  simp_all
theorem bytes_rel' (Δ : Env) (l : List UInt8) : VsRel Δ (bytesV l) (l.map fun b => Value.int .u8 b.toNat) := by
  induction l with
  | nil => exact .nil
  | cons b l ih => exact .cons _ _ _ _ (.int .u8 _) ih
theorem hcopy_ok (hW : WR Δ h w) {dT elem size rt : Nat} {tys : Array Nat} (hty : tys[0]? = some dT) (hu : P0.underlying dT = some (.slice elem)) (hz : szOf elem = some size) {d s : V} {dv sv : Value}
    (hd : VRel Δ d dv) (hs : VRel Δ s sv) {r : R} (hv : hcopy size d s h = some r) :
    ∃ h' m w', r = .val (.int .i64 (.ofNat m)) h' ∧ (Builtin.copy_ tys rt #[dv, sv]).run P0 w = .ok (.int .i64 m) w' ∧ WR Δ h' w' ∧ FR Δ Δ w w' ∧ Gr h Δ h' Δ := by
  -- nothing to copy
  have none_ : ∀ (base : Option Addr) (dLen dCap : Nat) (m : Nat), dv = .slice base dLen dCap → (Builtin.lenOf sv).run P0 w = .ok m w → Nat.min m dLen = 0 → (Builtin.firstCells size 0 sv).run P0 w = .ok #[] w →
      (Builtin.copy_ tys rt #[dv, sv]).run P0 w = .ok (.int .i64 (0 : Nat)) w := by
    intro base dLen dCap m hdv hl hm hf
    subst hdv
    have hz' := run_sz (w := w) hz
    cases base <;> simp [Builtin.copy_, hty, run_und hu, hl, hm, hz', hf, storeCells, goInt]
  have some_ : ∀ (base : Addr) (dLen dCap : Nat) (m : Nat) (xs : List Value) (w' : World), dv = .slice (some base) dLen dCap → (Builtin.lenOf sv).run P0 w = .ok m w →
      (Builtin.firstCells size (Nat.min m dLen) sv).run P0 w = .ok (Array.mk xs) w → (storeCells base xs 0).run P0 w = .ok () w' →
      (Builtin.copy_ tys rt #[dv, sv]).run P0 w = .ok (.int .i64 (Nat.min m dLen : Nat)) w' := by
    intro base dLen dCap m xs w' hdv hl hf hst
    subst hdv
    have hz' := run_sz (w := w) hz
    simp [Builtin.copy_, hty, run_und hu, hl, hz', hf, hst, goInt]
  unfold hcopy at hv
  split at hv
  · cases hd
    split at hv
    · cases hv; cases hs
      exact ⟨_, 0, w, rfl, none_ none 0 0 0 rfl rfl rfl rfl, hW, .refl _ _, .refl _ _⟩
    · cases hv
      cases hs with
      | slice l off len cap o dd hdd hk hle ho =>
        exact ⟨_, 0, w, rfl, none_ none 0 0 _ rfl rfl (Nat.min_zero _) (by simp [Builtin.firstCells, loadCells, loadCellsFrom]), hW, .refl _ _, .refl _ _⟩
    · cases hv
      cases hs with
      | str s => exact ⟨_, 0, w, rfl, none_ none 0 0 s.size rfl rfl (Nat.min_zero _) (by simp [Builtin.firstCells]), hW, .refl _ _, .refl _ _⟩
    · cases hv
  · rename_i l off len
    cases hd with
    | slice _ _ _ dcap o dd hdd hk hle ho =>
      split at hv
      · cases hv; cases hs
        exact ⟨_, 0, w, rfl, none_ _ len dcap 0 rfl rfl (Nat.zero_min _) rfl, hW, .refl _ _, .refl _ _⟩
      · rename_i l' off' len'
        cases hs with
        | slice _ _ _ scap so sd hsd hsk hsle hso =>
          cases hm : Nat.beq (min len' len) 0 with
          | true =>
            simp only [hm] at hv
            cases hv
            have hm' : Nat.min len' len = 0 := Nat.eq_of_beq_eq_true hm
            exact ⟨_, 0, w, rfl, none_ _ len dcap len' rfl rfl hm' (by simp [Builtin.firstCells, loadCells, loadCellsFrom]), hW, .refl _ _, .refl _ _⟩
          | false =>
            have hm' : 0 < min len' len := Nat.pos_of_ne_zero fun e => by simp_all
            simp only [hm, oB_eq] at hv
            obtain ⟨cs, h1, h2, h3, h4⟩ := hv
            cases h4
            rcases hso with ⟨rfl, _, _⟩ | ⟨rfl, _⟩
            · rcases ho with ⟨rfl, _, _⟩ | ⟨rfl, _⟩
              · obtain ⟨xs, c1, c2⟩ := loadCells_list hW hsd h1
                obtain ⟨w', e1, e2, e3⟩ := stAt_ok hW hdd c2 h3
                exact ⟨_, _, w', rfl, some_ _ len dcap len' xs w' rfl rfl (by grind[Builtin.firstCells]) e1, e2, e3, .same (Nat.le_of_eq (stAt_next h3).symm)⟩
              · omega
            · omega
      · rename_i b
        rw [bB_eq] at hv
        obtain ⟨h1, hv⟩ := hv
        have h1' : size = 1 := Nat.eq_of_beq_eq_true h1
        subst h1'
        cases hs with
        | str s =>
          have hsl : s.data.toList.length = s.size := by simp
          rw [hsl] at hv
          cases hm : Nat.beq (min s.size len) 0 with
          | true =>
            simp only [hm] at hv
            cases hv
            have hm' : Nat.min s.size len = 0 := Nat.eq_of_beq_eq_true hm
            exact ⟨_, 0, w, rfl, none_ _ len dcap s.size rfl rfl hm' (by simp [Builtin.firstCells]), hW, .refl _ _, .refl _ _⟩
          | false =>
            have hm' : 0 < min s.size len := Nat.pos_of_ne_zero fun e => by simp_all
            simp only [hm, oB_eq] at hv
            obtain ⟨h2, h3, h4⟩ := hv
            cases h4
            rcases ho with ⟨rfl, _, _⟩ | ⟨rfl, _⟩
            · obtain ⟨w', e1, e2, e3⟩ := stAt_ok hW hdd (bytes_rel' Δ _) h3
              refine ⟨_, _, w', rfl, some_ _ len dcap s.size _ w' rfl rfl ?_ e1, e2, e3, .same (Nat.le_of_eq (stAt_next h3).symm)⟩
              simp only [Builtin.firstCells, bytes_take]
              rfl
            · omega
      · cases hv
  · cases hv

/-! ### conversions -/
theorem cellsOk_marked {d : D} {cs : List V} {c : Array Value} {e : Nat} (hs : c.size = d.asz) (hb : d.base = 0) (hl : cs.length ≤ d.asz) (hc : ∀ (i : Nat) (v : V), cs[i]? = some v → ∃ x, c[i]? = some x ∧ VRel Δ v x) :
    CellsOk Δ d cs (some (.cells c e (c.size, c.size + 1))) :=
  ⟨c, e, (c.size, c.size + 1), rfl, hs, fun _ => .inr (Nat.le_of_eq hs.symm), by omega, fun i v hi => by rw [hb, Nat.zero_add]; exact hc i v hi⟩
theorem hbytes_ok (hW : WR Δ h w) {src dst e : Nat} (hs : P0.underlying src = some .string) (hd : P0.underlying dst = some (.slice e)) (he : P0.underlying e = some (.int .u8)) (s : ByteArray) :
    ∃ Δ' x w', (convert src dst (.string s)).run P0 w = .ok x w' ∧ After Δ h w (.slice h.next 0 s.data.toList.length) (h.new (.cells e 1 true false (bytesV s.data.toList))) Δ' x w' := by
  have hr := run_bytes_of_string (P := P0) w src dst e s hs hd he
  have hge := grownCap_ge w s.size 0 e
  generalize grownCap w s.size 0 e = cap at hr hge
  have hsl : s.data.toList.length = s.size := by simp
  have hbl : (bytesV s.data.toList).length = s.size := by simp [bytesV]
  have hrs : (bytesRow s cap).size = cap := by
    have : s.data.size = s.size := rfl
    simp [bytesRow]; omega
  have hmade : Made Δ (.cells e 1 true false (bytesV s.data.toList)) (fun l => .slice l 0 s.data.toList.length) (.cells (bytesRow s cap) e ((bytesRow s cap).size, (bytesRow s cap).size + 1))
      (fun b => .slice (some ⟨b, 0, none⟩) s.size cap) := by
    intro l b hn
    refine ⟨⟨b, 0, 1, (bytesV s.data.toList).length, cap, false, 0⟩, rfl, ⟨rfl, rfl, rfl, rfl, fun _ => ?_⟩, ?_⟩
    · refine cellsOk_marked hrs rfl (by simp_all) fun i u hi => ?_
      obtain ⟨x, hx, hrx⟩ := (bytes_rel _ s).get i u hi
      refine ⟨x, ?_, hrx⟩
      grind[List.getElem?_eq_some_iff,bytesRow,Array.getElem?_append_left]
    · rw [hsl]
      refine VRel.slice l 0 s.size cap 0 ⟨b, 0, 1, (bytesV s.data.toList).length, cap, false, 0⟩ (Env.set_self _ _ _) rfl hge (.inl ⟨rfl, ?_, ?_⟩)
      · simp_all
      simp_all
  obtain ⟨Δ', a1, a2, a3, a4⟩ := (hW.heap (w' := w.drew) rfl).alloc hmade
  exact ⟨Δ', _, _, hr, a2, a1, a3.drew, a4⟩
theorem hmark_ok (hW : WR Δ h w) {src dst e0 e : Nat} {x : V} {y : Value} (hx : VRel Δ x y) (hs : P0.underlying src = some (.slice e0)) (hd : P0.underlying dst = some (.slice e)) (he : P0.underlying e = some (.int .u8)) (hsd : src = dst)
    {r : R} (hv : hmark x h = some r) : ∃ v' h' w', r = .val v' h' ∧ (convert src dst y).run P0 w = .ok y w' ∧ After Δ h w v' h' Δ y w' := by
  unfold hmark at hv
  split at hv
  · rename_i l off n
    rw [cellsAt_eq] at hv
    obtain ⟨e1, sz, live, ro, cs, hg, hv⟩ := hv
    simp only [bB_eq] at hv
    obtain ⟨rfl, hro, hv⟩ := hv
    cases hv
    have hro' : ro = false := by simpa using hro
    subst hro'
    cases hx with
    | slice _ _ _ cap o d hl hk hle ho =>
      obtain ⟨p, hp, hr⟩ := hW.obj l d hl
      rw [hg] at hp; cases hp
      obtain ⟨a1, a2, a3, a4, a5⟩ := hr
      obtain ⟨c, e2, fr, b1, b2, b3, b5, b4⟩ := a5 rfl
      subst hsd
      obtain rfl : e0 = e := by simp_all
      obtain ⟨lo, hi⟩ := fr
      have hlt : d.b < w.heap.size := hW.blk l d hl
      have hw' : (w.freeze ⟨d.b, c.size, none⟩ 1).heap[d.b]? = some (.cells c e2 (if lo == hi then (c.size, c.size + 1) else (min lo c.size, max hi (c.size + 1)))) := by
        unfold World.freeze
        rw [if_neg (by omega)]
        simp only [Array.getElem?_modify, b1, if_true, Option.map_some]
      have hoth : ∀ b, b ≠ d.b → (w.freeze ⟨d.b, c.size, none⟩ 1).heap[b]? = w.heap[b]? := by
        intro b hb
        unfold World.freeze
        rw [if_neg (by omega)]
        simp only [Array.getElem?_modify]
        rw [if_neg (by omega)]
      have hsz : (w.freeze ⟨d.b, c.size, none⟩ 1).heap.size = w.heap.size := by
        unfold World.freeze
        rw [if_neg (by omega)]
        simp
      have hwd : ∀ b, (w.freeze b 1).os = w.os ∧ (w.freeze b 1).tape = w.tape ∧ (w.freeze b 1).output = w.output := by
        intro b
        unfold World.freeze
        rw [if_neg (by omega)]
        exact by simp_all
      refine ⟨_, _, w.freeze ⟨d.b, c.size, none⟩ 1, rfl, ?_, ⟨.slice l off n cap o d hl hk hle ho, ?_, FR.set hl a4 hsz hoth (hwd _).1 (hwd _).2.1 (hwd _).2.2, Gr.same (Nat.le_refl _)⟩⟩
      · have hshape : (Go.shape d.b).run P0 w = .ok (some (e2, c.size)) w := by
          show Result.ok (w.shape? d.b) w = _
          unfold World.shape?
          rw [b1]
        simp_all[convert,Sem.run_bind,run_und,Result.andThen_ok,markStringish,run_freeze]
      · refine hW.set hl hg rfl a4 (fun h => h) ⟨a1, a2, a3, a4, fun _ => ⟨c, e2, _, hw', b2, fun _ => ?_, b5, b4⟩⟩ hsz hoth
        grind
  · cases hv
end
end Go.Proofs.YtgfdhkhcojjkjaaGreatDoor.Hx
