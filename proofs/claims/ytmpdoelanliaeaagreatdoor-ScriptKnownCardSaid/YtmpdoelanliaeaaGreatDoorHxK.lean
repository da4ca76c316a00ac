/- What the other operations that change the heap come to in the model: stores, map entries, copies. -/
import Derived.Test.YtmpdoelanliaeaaGreatDoorHxJ
namespace Go.Proofs.YtmpdoelanliaeaaGreatDoor.Hx
section
variable {Δ : Env} {h : Hp} {w : World} {n : Nat} {t : Tm} {a : Act}

theorem hstore_ok (hW : WR Δ h w) {ty size : Nat} (hz : szOf ty = some size) {l off : Nat} {v : V} {pv xv : Value} (hp : VRel Δ (.ptr l off) pv) (hx : VRel Δ v xv)
    (hlen : Nat.beq v.cells.length size = true) {h' : Hp} (hs : stAt h l off v.cells = some h') :
    ∃ w', (Instr.storeAt ty pv xv).run P0 w = .ok () w' ∧ WR Δ h' w' ∧ FR Δ Δ w w' ∧ Gr h Δ h' Δ := by
  cases hp with
  | ptr _ _ d hd =>
    have hc := hx.cells
    let ⟨w', h1, h2, h3⟩ := stAt_ok hW hd hc hs
    have hcl := hc.length
    have hnx : h'.next = h.next := by
      unfold stAt at hs
      rw [cellsAt_eq] at hs
      let ⟨e, sz, live, ro, cs, hg, hv⟩ := hs
      simp [bB_eq, oB_eq] at hv
      let ⟨_, _, _, _, _, hv⟩ := hv
      cases hv; rfl
    refine ⟨w', ?_, h2, h3, .same (Nat.le_of_eq hnx.symm)⟩
    simp_all[Instr.storeAt,Instr.sureAddr,storeVar,run_sz]

/-! ### maps -/
theorem ERel.length {es : List (V × V × Nat)} {es' : List MapEntry} (h : ERel Δ es es') : es.length = es'.length := by
  induction h <;> grind
theorem ERel.get {es : List (V × V × Nat)} {es' : List MapEntry} (h : ERel Δ es es') {i : Nat} {e : V × V × Nat} (hi : es[i]? = some e) :
    ∃ e', es'[i]? = some e' ∧ VRel Δ e.1 e'.key ∧ VRel Δ e.2.1 e'.val ∧ e'.born = e.2.2 := by
  induction h generalizing i <;> grind
theorem ERel.set {es : List (V × V × Nat)} {es' : List MapEntry} (h : ERel Δ es es') {i : Nat} {k v : V} {m : Nat} {e' : MapEntry} (hk : VRel Δ k e'.key) (hv : VRel Δ v e'.val) (hb : e'.born = m) :
    ERel Δ (es.set i (k, v, m)) (es'.set i e') := by
  induction h generalizing i with
  | nil => exact .nil
  | cons k0 v0 n e0 es es' hk0 hv0 hb0 hs ih =>
    cases i with
    | zero => exact .cons _ _ _ _ _ _ hk hv hb hs
    | succ i => exact .cons _ _ _ _ _ _ hk0 hv0 hb0 ih
theorem ERel.snoc {es : List (V × V × Nat)} {es' : List MapEntry} (h : ERel Δ es es') {k v : V} {m : Nat} {e' : MapEntry} (hk : VRel Δ k e'.key) (hv : VRel Δ v e'.val) (hb : e'.born = m) :
    ERel Δ (es ++ [(k, v, m)]) (es' ++ [e']) := by
  induction h with
  | nil => exact .cons _ _ _ _ _ _ hk hv hb .nil
  | cons k0 v0 n e0 es es' hk0 hv0 hb0 hs ih => exact .cons _ _ _ _ _ _ hk0 hv0 hb0 ih
theorem ERel.erase {es : List (V × V × Nat)} {es' : List MapEntry} (h : ERel Δ es es') {i : Nat} : ERel Δ (es.eraseIdx i) (es'.eraseIdx i) := by
  induction h generalizing i with
  | nil => exact .nil
  | cons k0 v0 n e0 es es' hk0 hv0 hb0 hs ih =>
    cases i with
    | zero => exact hs
    | succ i => exact .cons _ _ _ _ _ _ hk0 hv0 hb0 ih
theorem sameBits_flat {k : V} {x y : Value} (m : Nat) (hf : flatKey k = true) (hx : VRel Δ k x) (hy : VRel Δ k y) : Instr.sameBits m x y = true := by
  cases k <;> simp [flatKey] at hf
  · cases hx; cases hy; grind[Instr.sameBits]
  · cases hx; cases hy; grind[Instr.sameBits]
  · rename_i s
    cases hx with
    | str s1 => 
      generalize hs : s1.data.toList = l at hy
      cases hy with
      | str s2 =>
        have : s1 = s2 := by
          rw [ByteArray.ext_iff]
          exact Array.ext' hs
        subst this
        have hb : (s1 == s1) = true := by show (s1.data == s1.data) = true; simp
        grind[Instr.sameBits]
theorem zip_flat (m : Nat) {cs : List V} {xs ys : List Value} (hf : cs.all flatKey = true) (hx : VsRel Δ cs xs) (hy : VsRel Δ cs ys) : xs.length = ys.length ∧ (xs.zip ys).all (fun p => Instr.sameBits m p.1 p.2) = true := by
  induction cs generalizing xs ys with
  | nil => cases hx; cases hy; simp_all
  | cons c cs ih =>
    cases hx with
    | cons _ x _ xs hx hxs =>
      cases hy with
      | cons _ y _ ys hy hys =>
        simp only [List.all_cons, Bool.and_eq_true] at hf
        let ⟨h1, h2⟩ := ih hf.2 hxs hys
        exact ⟨by simp [h1], by simp [ List.all_cons]; grind[sameBits_flat]⟩
theorem sameBits_simple {k : V} {x y : Value} (m : Nat) (hf : simpleKey k = true) (hx : VRel Δ k x) (hy : VRel Δ k y) : Instr.sameBits (m + 1) x y = true := by
  cases k with
  | agg cs =>
    cases hx with | agg _ xs hx => cases hy with | agg _ ys hy =>
    let ⟨h1, h2⟩ := zip_flat m hf hx hy
    simp_all[Instr.sameBits]
  | _ => grind[sameBits_flat,simpleKey]
theorem map_set (hW : WR Δ h w) {l : Nat} {d : D} (hl : Δ l = some d) {es es2 : List (V × V × Nat)} {c c2 : Nat} (hg : h.get l = some (.map es c)) {es2' : Array MapEntry} (he : ERel Δ es2 es2'.toList) :
    (setObj d.b (.map es2' c2)).run P0 w = .ok () { w with heap := w.heap.setIfInBounds d.b (.map es2' c2) } ∧
    WR Δ (h.put l (.map es2 c2)) { w with heap := w.heap.setIfInBounds d.b (.map es2' c2) } ∧ FR Δ Δ w { w with heap := w.heap.setIfInBounds d.b (.map es2' c2) } := by
  let ⟨o, ho, hr⟩ := hW.obj l d hl
  rw [hg] at ho; cases ho
  let ⟨a1, a2, a3, es', h1, h2⟩ := hr
  have hlt := hW.blk l d hl
  have hother : ∀ b, b ≠ d.b → ({ w with heap := w.heap.setIfInBounds d.b (.map es2' c2) } : World).heap[b]? = w.heap[b]? := by grind
  refine ⟨by grind[setObj,Sem.run], hW.set hl hg rfl a2 (fun h => h) ⟨a1, a2, a3, es2', ?_, he⟩ (by simp) hother, FR.set hl a2 (by simp) hother rfl rfl rfl⟩
  simp_all
theorem hput_ok (hW : WR Δ h w) {mT kt et : Nat} (hu : P0.underlying mT = some (.map kt et)) {d : Option (List Field)} (hd : keyD kt = some d) {m k v : V} {mv kv vv : Value} (hm : VRel Δ m mv) (hk : VRel Δ k kv) (hx : VRel Δ v vv)
    {r : R} (hv : hput kt d m k v h = some r) : ∃ h' w', r = .val .undef h' ∧ (Instr.mapUpdate mT mv kv vv).run P0 w = .ok () w' ∧ WR Δ h' w' ∧ FR Δ Δ w w' ∧ Gr h Δ h' Δ := by
  unfold hput at hv
  rw [bB_eq] at hv
  let ⟨hh, hv⟩ := hv
  split at hv
  · rename_i l
    simp [mapAt_eq, oB_eq] at hv
    let ⟨es, c, hg, ob, hp, hv⟩ := hv
    cases hv
    cases hm with
    | map _ dd hl =>
      let ⟨es', hb, he⟩ := map_ok hW hl hg
      have hck := checkKey_ok (em := false) 9999 (by omega) w hd hk hh
      unfold mapPut at hp
      rw [oB_eq] at hp
      let ⟨fr, hf, hp⟩ := hp
      let ⟨fr', hf', hrel⟩ := findKey_ok hd hk w he hf
      cases fr with
      | none =>
        cases hp
        cases fr' with
        | some _ => cases hrel
        | none =>
          obtain ⟨s1, s2, s3⟩ := map_set hW hl hg (es2' := es'.push { key := kv, val := vv, born := c }) (by rw [Array.toList_push]; exact he.snoc hk hx rfl)
          refine ⟨_, _, rfl, ?_, s2, s3, .same (Nat.le_refl _)⟩
          simp [Instr.mapUpdate, Sem.run_bind, run_und hu, run_getObj_map hb, hck, hf', s1]
      | some p =>
        let ⟨i, u⟩ := p
        simp only [oB_eq, bB_eq] at hp
        let ⟨e, he1, he2, hsk, hp⟩ := hp
        cases hp
        cases fr' with
        | none => cases hrel
        | some p' =>
          let ⟨i', u'⟩ := p'
          obtain ⟨rfl, _⟩ := hrel
          let ⟨e', g1, g2, g3, g4⟩ := he.get he1
          rw [V.eq_of_beq _ _ he2] at g2
          have hsb : Instr.sameBits 10000 e'.key kv = true := by grind[sameBits_simple]
          have g1' : es'[i]? = some e' := by simpa using g1
          have hmod : (es'.modify i fun e => { e with key := kv, val := vv }).toList = es'.toList.set i { e' with key := kv, val := vv } := by
            rw [Array.toList_modify]
            rw [List.modify_eq_set]
            simp [g1']
          obtain ⟨s1, s2, s3⟩ := map_set hW hl hg (by rw [hmod]; exact he.set hk hx g4)
          refine ⟨_, _, rfl, ?_, s2, s3, .same (Nat.le_refl _)⟩
          simp [Instr.mapUpdate, Sem.run_bind, run_und hu, Result.andThen_ok, run_getObj_map hb, hck, hf', Instr.keyThatStays, g1', Option.map_some, Option.getD_some, hsb, s1]
  · cases hv
theorem hdelete_ok (hW : WR Δ h w) {mT kt et rt : Nat} {tys : Array Nat} (hty : tys[0]? = some mT) (hu : P0.underlying mT = some (.map kt et)) {d : Option (List Field)} (hd : keyD kt = some d) {m k : V} {mv kv : Value} (hm : VRel Δ m mv) (hk : VRel Δ k kv)
    {r : R} (hv : hdelete kt d m k h = some r) : ∃ h' w', r = .val (.tuple []) h' ∧ (Builtin.delete_ tys rt #[mv, kv]).run P0 w = .ok (.tuple #[]) w' ∧ WR Δ h' w' ∧ FR Δ Δ w w' ∧ Gr h Δ h' Δ := by
  unfold hdelete at hv
  rw [bB_eq] at hv
  let ⟨hh, hv⟩ := hv
  split at hv
  · cases hv; cases hm
    have hck := checkKey_ok (em := true) 9999 (by omega) w hd hk hh
    refine ⟨h, w, rfl, ?_, hW, .refl _ _, .refl _ _⟩
    simp [Builtin.delete_, hty, run_und hu, hck]
  · rename_i l
    simp [mapAt_eq, oB_eq] at hv
    let ⟨es, c, hg, fr, hf, hv⟩ := hv
    cases hm with
    | map _ dd hl =>
      let ⟨es', hb, he⟩ := map_ok hW hl hg
      have hck := checkKey_ok (em := es'.isEmpty) 9999 (by omega) w hd hk hh
      let ⟨fr', hf', hrel⟩ := findKey_ok hd hk w he hf
      cases fr with
      | none =>
        cases hv
        cases fr' with
        | some _ => cases hrel
        | none =>
          let ⟨s1, s2, s3⟩ := map_set hW hl hg (c2 := c) he
          have hsame : ({ w with heap := w.heap.setIfInBounds dd.b (.map es' c) } : World) = w := by
            have : w.heap.setIfInBounds dd.b (.map es' c) = w.heap := by
              apply Array.ext_getElem?
              intro i
              by_cases hi : dd.b = i
              · grind
              · simp_all
            rw [this]
          rw [hsame] at s1
          refine ⟨h, w, rfl, ?_, hW, .refl _ _, .refl _ _⟩
          simp [Builtin.delete_, hty, run_und hu, run_getObj_map hb, hck, hf', s1]
      | some p =>
        let ⟨i, u⟩ := p
        cases hv
        cases fr' with
        | none => cases hrel
        | some p' =>
          let ⟨i', u'⟩ := p'
          obtain ⟨rfl, _⟩ := hrel
          have her : (es'.eraseIdxIfInBounds i).toList = es'.toList.eraseIdx i := by
            rw [Array.eraseIdxIfInBounds_eq]
            split
            · rw [Array.toList_eraseIdx]
            · grind[List.eraseIdx_of_length_le]
          obtain ⟨s1, s2, s3⟩ := map_set hW hl hg (by rw [her]; exact he.erase)
          refine ⟨_, _, rfl, ?_, s2, s3, .same (Nat.le_refl _)⟩
          simp [Builtin.delete_, hty, run_und hu, run_getObj_map hb, hck, hf', s1]
  · cases hv
end
end Go.Proofs.YtmpdoelanliaeaaGreatDoor.Hx
