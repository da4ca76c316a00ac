/- What the other operations that change the heap come to in the model: stores, map entries, copies. -/
import Derived.Test.YtlbdcjnhlkkfeaaGreatDoorHxJ
namespace Go.Proofs.YtlbdcjnhlkkfeaaGreatDoor.Hx
section
variable {Δ : Env} {h : Hp} {w : World} {n : Nat} {t : Tm} {a : Act}

theorem hstore_ok (hW : WR Δ h w) {ty size : Nat} (hz : szOf ty = some size) {l off : Nat} {v : V} {pv xv : Value} (hp : VRel Δ (.ptr l off) pv) (hx : VRel Δ v xv)
    (hlen : Nat.beq v.cells.length size = true) {h' : Hp} (hs : stAt h l off v.cells = some h') :
    ∃ w', (Instr.storeAt ty pv xv).run P0 w = .ok () w' ∧ WR Δ h' w' ∧ FR Δ Δ w w' ∧ Gr h Δ h' Δ := by
  cases hp with
  | ptr _ _ d hd =>
    have hc := hx.cells
    obtain ⟨w', h1, h2, h3⟩ := stAt_ok hW hd hc hs
    have hl := Nat.eq_of_beq_eq_true hlen
    have hcl := hc.length
    simp only [Array.length_toList] at hcl
    have hnx : h'.next = h.next := by
      unfold stAt at hs
      rw [cellsAt_eq] at hs
      obtain ⟨e, sz, live, ro, cs, hg, hv⟩ := hs
      simp only [bB_eq, oB_eq] at hv
      obtain ⟨_, _, _, _, _, hv⟩ := hv
      cases hv; rfl
    refine ⟨w', ?_, h2, h3, .same (Nat.le_of_eq hnx.symm)⟩
    simp_all[Instr.storeAt,Instr.sureAddr,storeVar,run_sz]

/-! ### maps -/
theorem ERel.length {es : List (V × V × Nat)} {es' : List MapEntry} (h : ERel Δ es es') : es.length = es'.length := by
  induction h <;> grind
theorem ERel.get {es : List (V × V × Nat)} {es' : List MapEntry} (h : ERel Δ es es') {i : Nat} {e : V × V × Nat} (hi : es[i]? = some e) :
    ∃ e', es'[i]? = some e' ∧ VRel Δ e.1 e'.key ∧ VRel Δ e.2.1 e'.val ∧ e'.born = e.2.2 := by
  induction h generalizing i <;> grind
theorem ERel.set {es : List (V × V × Nat)} {es' : List MapEntry} (h : ERel Δ es es') {i : Nat} {k v : V} {m : Nat} {e' : MapEntry} (hk : VRel Δ k e'.key) (hv : VRel Δ v e'.val) (hb : e'.born = m) :
    ERel Δ (es.set i (k, v, m)) (es'.set i e') := by
  induction h generalizing i with
  | nil => exact .nil
  | cons k0 v0 n e0 es es' hk0 hv0 hb0 hs ih =>
    cases i with
    | zero => exact .cons _ _ _ _ _ _ hk hv hb hs
    | succ i => exact .cons _ _ _ _ _ _ hk0 hv0 hb0 ih
theorem ERel.snoc {es : List (V × V × Nat)} {es' : List MapEntry} (h : ERel Δ es es') {k v : V} {m : Nat} {e' : MapEntry} (hk : VRel Δ k e'.key) (hv : VRel Δ v e'.val) (hb : e'.born = m) :
    ERel Δ (es ++ [(k, v, m)]) (es' ++ [e']) := by
  induction h with
  | nil => exact .cons _ _ _ _ _ _ hk hv hb .nil
  | cons k0 v0 n e0 es es' hk0 hv0 hb0 hs ih => exact .cons _ _ _ _ _ _ hk0 hv0 hb0 ih
theorem ERel.erase {es : List (V × V × Nat)} {es' : List MapEntry} (h : ERel Δ es es') {i : Nat} : ERel Δ (es.eraseIdx i) (es'.eraseIdx i) := by
  induction h generalizing i with
  | nil => exact .nil
  | cons k0 v0 n e0 es es' hk0 hv0 hb0 hs ih =>
    cases i with
    | zero => exact hs
    | succ i => exact .cons _ _ _ _ _ _ hk0 hv0 hb0 ih
theorem sameBits_flat {k : V} {x y : Value} (m : Nat) (hf : flatKey k = true) (hx : VRel Δ k x) (hy : VRel Δ k y) : Instr.sameBits m x y = true := by
  cases k <;> simp [flatKey] at hf
  · cases hx; cases hy; grind[Instr.sameBits]
  · cases hx; cases hy; grind[Instr.sameBits]
  · rename_i s
    cases hx with
    | str s1 => 
      generalize hs : s1.data.toList = l at hy
      cases hy with
      | str s2 =>
        have : s1 = s2 := by
          rw [ByteArray.ext_iff]
          exact Array.ext' hs
        subst this
        have hb : (s1 == s1) = true := by show (s1.data == s1.data) = true; simp
        grind[Instr.sameBits]
theorem zip_flat (m : Nat) {cs : List V} {xs ys : List Value} (hf : cs.all flatKey = true) (hx : VsRel Δ cs xs) (hy : VsRel Δ cs ys) : xs.length = ys.length ∧ (xs.zip ys).all (fun p => Instr.sameBits m p.1 p.2) = true := by
  induction cs generalizing xs ys with
  | nil => cases hx; cases hy; simp_all
  | cons c cs ih =>
    cases hx with
    | cons _ x _ xs hx hxs =>
      cases hy with
      | cons _ y _ ys hy hys =>
        simp only [List.all_cons, Bool.and_eq_true] at hf
        obtain ⟨h1, h2⟩ := ih hf.2 hxs hys
        exact ⟨by simp [h1], by simp only [List.zip_cons_cons, List.all_cons, Bool.and_eq_true]; grind[sameBits_flat]⟩
theorem sameBits_simple {k : V} {x y : Value} (m : Nat) (hf : simpleKey k = true) (hx : VRel Δ k x) (hy : VRel Δ k y) : Instr.sameBits (m + 1) x y = true := by
  cases k with
  | agg cs =>
    cases hx with | agg _ xs hx => cases hy with | agg _ ys hy =>
    obtain ⟨h1, h2⟩ := zip_flat m hf hx hy
    simp_all[Instr.sameBits,Bool.and_eq_true]
  | _ => grind[sameBits_flat,simpleKey]
theorem map_put (hW : WR Δ h w) {l : Nat} {d : D} (hl : Δ l = some d) {o o2 : O} (hg : h.get l = some o) {es2' : Array MapEntry} {c2 : Nat} (ho : (∃ es c, o = .map es c) ∨ ∃ k ks, o = .bag k ks)
    (ho2 : ((∃ es, o2 = .map es c2 ∧ ERel Δ es es2'.toList ∧ BornOk es c2) ∨ ∃ k ks, o2 = .bag k ks ∧ BagR k ks es2'.toList)) :
    (setObj d.b (.map es2' c2)).run P0 w = .ok () { w with heap := w.heap.setIfInBounds d.b (.map es2' c2) } ∧
    WR Δ (h.put l o2) { w with heap := w.heap.setIfInBounds d.b (.map es2' c2) } ∧ FR Δ Δ w { w with heap := w.heap.setIfInBounds d.b (.map es2' c2) } := by
  obtain ⟨o', ho', hr⟩ := hW.obj l d hl
  rw [hg] at ho'; cases ho'
  have hlt := hW.blk l d hl
  have hother : ∀ b, b ≠ d.b → ({ w with heap := w.heap.setIfInBounds d.b (.map es2' c2) } : World).heap[b]? = w.heap[b]? := by grind
  have hx : d.kind = 1 ∧ d.ro = false ∧ d.base = 0 ∧ (∃ es' c', w.heap[d.b]? = some (.map es' c')) ∧ o.live = true := by
    rcases ho with ⟨es, c, rfl⟩ | ⟨k, ks, rfl⟩
    · obtain ⟨a1, a2, a3, es', h1, h2⟩ := hr
      exact ⟨a1, a2, a3, ⟨_, _, h1⟩, rfl⟩
    · obtain ⟨a1, a2, a3, es', c', h1, h2⟩ := hr
      exact ⟨a1, a2, a3, ⟨_, _, h1⟩, rfl⟩
  obtain ⟨a1, a2, a3, ⟨es', c', h1⟩, hlv⟩ := hx
  have hnew : ({ w with heap := w.heap.setIfInBounds d.b (.map es2' c2) } : World).heap[d.b]? = some (.map es2' c2) := by simp_all
  refine ⟨by grind[setObj,Sem.run], hW.set hl hg hlv a2 (fun _ => hlv) ?_ (by simp) hother, FR.set hl a2 (by simp) hother rfl rfl rfl⟩
  rcases ho2 with ⟨es, rfl, h2, h3⟩ | ⟨k, ks, rfl, h2⟩
  · exact ⟨a1, a2, a3, es2', hnew, h2, h3⟩
  · exact ⟨a1, a2, a3, es2', c2, hnew, h2⟩
theorem map_set (hW : WR Δ h w) {l : Nat} {d : D} (hl : Δ l = some d) {es es2 : List (V × V × Nat)} {c c2 : Nat} (hg : h.get l = some (.map es c)) {es2' : Array MapEntry} (he : ERel Δ es2 es2'.toList) (hb : BornOk es2 c2) :
    (setObj d.b (.map es2' c2)).run P0 w = .ok () { w with heap := w.heap.setIfInBounds d.b (.map es2' c2) } ∧
    WR Δ (h.put l (.map es2 c2)) { w with heap := w.heap.setIfInBounds d.b (.map es2' c2) } ∧ FR Δ Δ w { w with heap := w.heap.setIfInBounds d.b (.map es2' c2) } :=
  map_put hW hl hg (.inl ⟨_, _, rfl⟩) (.inl ⟨_, rfl, he, hb⟩)
theorem BornOk.snoc {es : List (V × V × Nat)} {c : Nat} (h : BornOk es c) (k v : V) : BornOk (es ++ [(k, v, c)]) (c + 1) := by
  refine ⟨?_, fun e he => ?_⟩
  · rw [List.map_append, List.nodup_append]
    refine ⟨h.1, by simp, fun a ha b hb => ?_⟩
    obtain ⟨e, he, rfl⟩ := List.mem_map.1 ha
    have := h.2 e he
    simp at hb
    omega
  · rcases List.mem_append.1 he with he | he
    · have := h.2 e he; omega
    · simp at he; subst he; show c < c + 1; omega
theorem BornOk.set {es : List (V × V × Nat)} {c : Nat} (h : BornOk es c) {i : Nat} {e : V × V × Nat} (hi : es[i]? = some e) (k v : V) : BornOk (es.set i (k, v, e.2.2)) c := by
  have hm : (es.set i (k, v, e.2.2)).map (fun e => e.2.2) = es.map fun e => e.2.2 := by
    rw [List.map_set]
    apply List.ext_getElem?
    intro j
    rw [List.getElem?_set]
    split
    · rename_i hj; subst hj
      split
      · simp [hi]
      · grind
    · rfl
  refine ⟨by rw [hm]; exact h.1, fun x hx => ?_⟩
  have : x.2.2 ∈ (es.set i (k, v, e.2.2)).map fun e => e.2.2 := List.mem_map.2 ⟨x, hx, rfl⟩
  rw [hm] at this
  obtain ⟨y, hy, he⟩ := List.mem_map.1 this
  rw [← he]; exact h.2 y hy
theorem BornOk.erase {es : List (V × V × Nat)} {c : Nat} (h : BornOk es c) (i : Nat) : BornOk (es.eraseIdx i) c :=
  ⟨h.1.sublist ((List.eraseIdx_sublist es i).map _), fun e he => h.2 e (List.mem_of_mem_eraseIdx he)⟩
theorem hput_ok (hW : WR Δ h w) {mT kt et : Nat} (hu : P0.underlying mT = some (.map kt et)) {d : Option (List Field)} (hd : keyD kt = some d) {m k v : V} {mv kv vv : Value} (hm : VRel Δ m mv) (hk : VRel Δ k kv) (hx : VRel Δ v vv)
    {r : R} (hv : hput kt d m k v h = some r) : ∃ h' w', r = .val .undef h' ∧ (Instr.mapUpdate mT mv kv vv).run P0 w = .ok () w' ∧ WR Δ h' w' ∧ FR Δ Δ w w' ∧ Gr h Δ h' Δ := by
  unfold hput at hv
  rw [bB_eq] at hv
  obtain ⟨hh, hv⟩ := hv
  split at hv
  · rename_i l
    simp only [mapBag_eq] at hv
    cases hm with
    | map _ dd hl =>
     rcases hv with ⟨es, c, hg, hv⟩ | ⟨kd, ks, hg, hv⟩
     · rw [oB_eq] at hv
       obtain ⟨ob, hp, hv⟩ := hv
       cases hv
       have hbn := map_born hW hl hg
       obtain ⟨es', hb, he⟩ := map_ok hW hl hg
       have hck := checkKey_ok (em := false) 9999 (by omega) w hd hk hh
       unfold mapPut at hp
       rw [oB_eq] at hp
       obtain ⟨fr, hf, hp⟩ := hp
       obtain ⟨fr', hf', hrel⟩ := findKey_ok hd hk w he hf
       cases fr with
       | none =>
         cases hp
         cases fr' with
         | some _ => cases hrel
         | none =>
           obtain ⟨s1, s2, s3⟩ := map_set hW hl hg (es2' := es'.push { key := kv, val := vv, born := c }) (c2 := c + 1) (by rw [Array.toList_push]; exact he.snoc (m := c) hk hx rfl) (hbn.snoc _ _)
           refine ⟨_, _, rfl, ?_, s2, s3, .same (Nat.le_refl _)⟩
           simp only [Instr.mapUpdate, Sem.run_bind, run_und hu, Result.andThen_ok, run_getObj_map hb, hck, hf', s1]
       | some p =>
         obtain ⟨i, u⟩ := p
         simp only [oB_eq, bB_eq] at hp
         obtain ⟨e, he1, he2, hsk, hp⟩ := hp
         cases hp
         cases fr' with
         | none => cases hrel
         | some p' =>
           obtain ⟨i', u'⟩ := p'
           obtain ⟨rfl, _⟩ := hrel
           obtain ⟨e', g1, g2, g3, g4⟩ := he.get he1
           rw [V.eq_of_beq _ _ he2] at g2
           have hsb : Instr.sameBits 10000 e'.key kv = true := by grind[sameBits_simple]
           have g1' : es'[i]? = some e' := by simpa using g1
           have hmod : (es'.modify i fun e => { e with key := kv, val := vv }).toList = es'.toList.set i { e' with key := kv, val := vv } := by
             rw [Array.toList_modify]
             rw [List.modify_eq_set]
             simp [g1']
           obtain ⟨s1, s2, s3⟩ := map_set hW hl hg (es2' := es'.modify i fun e => { e with key := kv, val := vv }) (c2 := c) (by rw [hmod]; exact he.set (i := i) (k := k) (v := v) (m := e.2.2) hk hx g4) (hbn.set he1 _ _)
           refine ⟨_, _, rfl, ?_, s2, s3, .same (Nat.le_refl _)⟩
           simp only [Instr.mapUpdate, Sem.run_bind, run_und hu, Result.andThen_ok, run_getObj_map hb, hck, hf', Instr.keyThatStays, g1', Option.map_some, Option.getD_some, hsb, if_true, Sem.run_pure, s1]
     · obtain ⟨es, es', c, hb, he, hs1, hs2⟩ := bag_open hW hl hg
       have hck := checkKey_ok (em := false) 9999 (by omega) w hd hk hh
       unfold bagPut at hv
       split at hv
       · rename_i k' n
         simp only [bB_eq] at hv
         obtain ⟨hi, hkk, hv⟩ := hv
         obtain rfl := kindEq_eq hkk
         cases hv
         cases hk
         cases hx
         obtain ⟨o', ho', hr⟩ := hW.obj _ _ hl
         rw [hg] at ho'; cases ho'
         obtain ⟨_, _, _, es1, c1, hb1, hB1, hB2⟩ := hr
         rw [hb] at hb1; cases hb1
         rcases find_bag hi k' n (es := es) 0 fun e he => ⟨(hs1 e he).1, let ⟨n, _, h⟩ := (hs1 e he).2; ⟨n, h⟩⟩ with ⟨h4, h5⟩ | ⟨j, e, h4, h5, h6⟩
         · obtain ⟨fr', hf', hrel⟩ := findKey_ok hd (.int k' n) w he h4
           cases fr' with
           | some _ => cases hrel
           | none =>
             obtain ⟨s1, s2, s3⟩ := map_put hW hl hg (o2 := .bag k' (n :: ks)) (es2' := es'.push { key := .int k' n, val := .bool true, born := c }) (c2 := c + 1) (.inr ⟨_, _, rfl⟩) (.inr ⟨_, _, rfl, by
               rw [Array.toList_push]
               refine ⟨fun e he => ?_, fun m hm => ?_⟩
               · rcases List.mem_append.1 he with he | he
                 · obtain ⟨a, m, b, c⟩ := hB1 e he
                   exact ⟨a, m, by simp [b], c⟩
                 · simp at he; subst he; exact ⟨rfl, n, by simp, rfl⟩
               · rcases List.mem_cons.1 hm with rfl | hm
                 · exact ⟨_, List.mem_append_right _ (List.mem_singleton.2 rfl), rfl⟩
                 · obtain ⟨e, he, hk⟩ := hB2 m hm
                   exact ⟨e, List.mem_append_left _ he, hk⟩⟩)
             refine ⟨_, _, rfl, ?_, s2, s3, .same (Nat.le_refl _)⟩
             simp only [Instr.mapUpdate, Sem.run_bind, run_und hu, Result.andThen_ok, run_getObj_map hb, hck, hf', s1]
         · obtain ⟨fr', hf', hrel⟩ := findKey_ok hd (.int k' n) w he h4
           cases fr' with
           | none => cases hrel
           | some p' =>
             obtain ⟨i', u'⟩ := p'
             obtain ⟨rfl, _⟩ := hrel
             rw [Nat.zero_add] at *
             obtain ⟨e', g1, g2, g3, g4⟩ := he.get h5
             rw [h6] at g2
             have hkey : e'.key = .int k' n := by cases h : e'.key <;> rw [h] at g2 <;> cases g2; rfl
             have hsb : Instr.sameBits 10000 e'.key (.int k' n) = true := by rw [hkey]; exact sameBits_simple (Δ := Δ) (k := .int k' n) 9999 rfl (.int k' n) (.int k' n)
             have g1' : es'[j]? = some e' := by simpa using g1
             have hmod : (es'.modify j fun e => { e with key := .int k' n, val := .bool true }).toList = es'.toList.set j { e' with key := .int k' n, val := .bool true } := by
               rw [Array.toList_modify]
               rw [List.modify_eq_set]
               simp [g1']
             obtain ⟨s1, s2, s3⟩ := map_put hW hl hg (o2 := .bag k' (n :: ks)) (es2' := es'.modify j fun e => { e with key := .int k' n, val := .bool true }) (c2 := c) (.inr ⟨_, _, rfl⟩) (.inr ⟨_, _, rfl, by
               rw [hmod]
               refine ⟨fun e he => ?_, fun m hm => ?_⟩
               · rcases List.mem_or_eq_of_mem_set he with he | rfl
                 · obtain ⟨a, m, b, c⟩ := hB1 e he
                   exact ⟨a, m, by simp [b], c⟩
                 · exact ⟨rfl, n, by simp, rfl⟩
               · by_cases hmn : m = n
                 · subst hmn
                   exact ⟨{ e' with key := .int k' m, val := .bool true }, by rw [List.mem_iff_getElem?]; exact ⟨j, by rw [List.getElem?_set_self (List.getElem?_eq_some_iff.1 g1).1]⟩, rfl⟩
                 · obtain ⟨e, he, hk⟩ := hB2 m ((List.mem_cons.1 hm).resolve_left hmn)
                   obtain ⟨q, hq⟩ := List.mem_iff_getElem?.1 he
                   refine ⟨e, List.mem_iff_getElem?.2 ⟨q, ?_⟩, hk⟩
                   rw [List.getElem?_set_ne (fun hj => ?_)]
                   · exact hq
                   · subst hj
                     rw [g1] at hq; cases hq
                     rw [hkey] at hk; cases hk
                     exact hmn rfl⟩)
             refine ⟨_, _, rfl, ?_, s2, s3, .same (Nat.le_refl _)⟩
             simp only [Instr.mapUpdate, Sem.run_bind, run_und hu, Result.andThen_ok, run_getObj_map hb, hck, hf', Instr.keyThatStays, g1', Option.map_some, Option.getD_some, hsb, if_true, Sem.run_pure, s1]
       · cases hv
  · cases hv
theorem hdelete_ok (hW : WR Δ h w) {mT kt et rt : Nat} {tys : Array Nat} (hty : tys[0]? = some mT) (hu : P0.underlying mT = some (.map kt et)) {d : Option (List Field)} (hd : keyD kt = some d) {m k : V} {mv kv : Value} (hm : VRel Δ m mv) (hk : VRel Δ k kv)
    {r : R} (hv : hdelete kt d m k h = some r) : ∃ h' w', r = .val (.tuple []) h' ∧ (Builtin.delete_ tys rt #[mv, kv]).run P0 w = .ok (.tuple #[]) w' ∧ WR Δ h' w' ∧ FR Δ Δ w w' ∧ Gr h Δ h' Δ := by
  unfold hdelete at hv
  rw [bB_eq] at hv
  obtain ⟨hh, hv⟩ := hv
  split at hv
  · cases hv; cases hm
    have hck := checkKey_ok (em := true) 9999 (by omega) w hd hk hh
    refine ⟨h, w, rfl, ?_, hW, .refl _ _, .refl _ _⟩
    simp only [Builtin.delete_, hty, List.getElem?_toArray, List.getElem?_cons_zero, List.getElem?_cons_succ, Sem.run_bind, run_und hu, Result.andThen_ok, hck, Sem.run_pure]
  · rename_i l
    simp only [mapAt_eq, oB_eq] at hv
    obtain ⟨es, c, hg, fr, hf, hv⟩ := hv
    cases hm with
    | map _ dd hl =>
      obtain ⟨es', hb, he⟩ := map_ok hW hl hg
      have hck := checkKey_ok (em := es'.isEmpty) 9999 (by omega) w hd hk hh
      obtain ⟨fr', hf', hrel⟩ := findKey_ok hd hk w he hf
      cases fr with
      | none =>
        cases hv
        cases fr' with
        | some _ => cases hrel
        | none =>
          obtain ⟨s1, s2, s3⟩ := map_set hW hl hg (es2' := es') (c2 := c) he (map_born hW hl hg)
          have hsame : ({ w with heap := w.heap.setIfInBounds dd.b (.map es' c) } : World) = w := by
            have : w.heap.setIfInBounds dd.b (.map es' c) = w.heap := by
              apply Array.ext_getElem?
              intro i
              by_cases hi : dd.b = i
              · grind
              · simp_all
            rw [this]
          rw [hsame] at s1
          refine ⟨h, w, rfl, ?_, hW, .refl _ _, .refl _ _⟩
          simp only [Builtin.delete_, hty, List.getElem?_toArray, List.getElem?_cons_zero, List.getElem?_cons_succ, Sem.run_bind, run_und hu, Result.andThen_ok, run_getObj_map hb, hck, hf', s1, Sem.run_pure]
      | some p =>
        obtain ⟨i, u⟩ := p
        cases hv
        cases fr' with
        | none => cases hrel
        | some p' =>
          obtain ⟨i', u'⟩ := p'
          obtain ⟨rfl, _⟩ := hrel
          have her : (es'.eraseIdxIfInBounds i).toList = es'.toList.eraseIdx i := by
            rw [Array.eraseIdxIfInBounds_eq]
            split
            · rw [Array.toList_eraseIdx]
            · grind[List.eraseIdx_of_length_le]
          obtain ⟨s1, s2, s3⟩ := map_set hW hl hg (es2' := es'.eraseIdxIfInBounds i) (c2 := c) (by rw [her]; exact he.erase) ((map_born hW hl hg).erase _)
          refine ⟨_, _, rfl, ?_, s2, s3, .same (Nat.le_refl _)⟩
          simp only [Builtin.delete_, hty, List.getElem?_toArray, List.getElem?_cons_zero, List.getElem?_cons_succ, Sem.run_bind, run_und hu, Result.andThen_ok, run_getObj_map hb, hck, hf', s1, Sem.run_pure]
  · cases hv
end
end Go.Proofs.YtlbdcjnhlkkfeaaGreatDoor.Hx
