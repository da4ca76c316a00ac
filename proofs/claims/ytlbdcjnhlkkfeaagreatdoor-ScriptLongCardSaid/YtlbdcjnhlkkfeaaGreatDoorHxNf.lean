/- A loop that puts a map's numbers into another map, in whatever order they come: what it comes to. -/
import Derived.Test.YtlbdcjnhlkkfeaaGreatDoorHxN
namespace Go.Proofs.YtlbdcjnhlkkfeaaGreatDoor.Hx
def X.to : X → Exit
  | .normal => .normal
  | .exit id => .exit id
  | .ret => .ret
section
variable {Δ : Env} {h : Hp} {w : World} {n : Nat} {t : Tm} {a : Act}
theorem WR.same (hW : WR Δ h w) {h' : Hp} (hn : h'.next = h.next) (hg : ∀ l, h'.get l = h.get l) : WR Δ h' w :=
  ⟨fun l d hl => by rw [hn]; exact hW.fresh l d hl, hW.blk, fun l d hl => by rw [hg]; exact hW.obj l d hl, fun l l' d d' o o' a b c e f => by rw [hg] at e f; exact hW.apart l l' d d' o o' a b c e f,
    fun g o hl ho => by rw [hg] at ho; exact hW.glob g o hl ho, by rw [hn]; exact hW.gnext, hW.tab⟩
theorem run_choose (q : Question) (w : World) : (choose q).run P0 w = if q.forced then .ok 0 w else .ok (q.cut (w.tape w.drawn q)) { w with drawn := w.drawn + 1 } := by
  unfold choose
  simp only [Sem.run]
theorem next_pick (hW : WR Δ h w) {r m c : Nat} {seen : List Nat} {es : List (V × V × Nat)} {iv : Value} {ty : Nat} (hi : VRel Δ (.ptr r 0) iv) (hg : h.get r = some (.iter (some m) c seen c)) (hm : h.get m = some (.map es c)) :
    ∃ x w', (Instr.next iv false ty).run P0 w = .ok x w' ∧ (((∀ e ∈ es, e.2.2 ∈ seen) ∧ x = .tuple #[.bool false] ∧ w' = w) ∨
      ∃ e ∈ es, e.2.2 ∉ seen ∧ After Δ h w (.tuple [.bool true, e.1, e.2.1]) (h.put r (.iter (some m) c (seen ++ [e.2.2]) c)) Δ x w') := by
  cases hi with
  | ptr _ _ d hd =>
    obtain ⟨o', ho, hr⟩ := hW.obj r d hd
    rw [hg] at ho; cases ho
    obtain ⟨a1, a2, a3, m', a4, dm, hdm, rfl⟩ := hr
    obtain ⟨es', hb, he⟩ := map_ok hW hdm hm
    have hborn := map_born hW hdm hm
    have hlt : ∀ e' ∈ es'.toList, e'.born < c := fun e' h' => by
      obtain ⟨i, hi⟩ := List.mem_iff_getElem?.1 h'
      have hi2 : i < es.length := by rw [he.length]; exact (List.getElem?_eq_some_iff.1 hi).1
      obtain ⟨e2, g1, _, _, g4⟩ := he.get (i := i) (List.getElem?_eq_getElem hi2)
      rw [hi] at g1; cases g1
      rw [g4]; exact hborn.2 _ (List.getElem_mem hi2)
    have hchk' : (!seen.toArray.isEmpty && !es'.isEmpty && es'.all (fun e => decide (e.born ≥ c))) = false := by
      cases hx : es'.toList with
      | nil => have : es'.isEmpty = true := by rw [← Array.isEmpty_toList, hx]; rfl
               rw [this]; simp
      | cons e l =>
        have h0 := hlt e (by rw [hx]; simp)
        have : es'.all (fun e => decide (e.born ≥ c)) = false := by
          rw [← Array.all_toList, hx, List.all_cons, decide_eq_false (by omega)]; rfl
        rw [this]; simp
    have hleft := filter_rel he (fun n => !seen.contains n)
    have hl' : (es'.filter fun e => !seen.toArray.contains e.born) = Array.mk (es'.toList.filter fun e => !seen.contains e.born) := by
      apply Array.ext'
      rw [Array.toList_filter]
      simp
    rw [a3]
    generalize hL : (es'.toList.filter fun e => !seen.contains e.born) = L at hleft hl'
    have hLm : ∀ e ∈ L, e.born < c := fun e h' => by rw [← hL] at h'; exact hlt e (List.mem_filter.1 h').1
    have f1 : (Array.mk L).filter (fun x => decide (x.born < c)) = Array.mk L := by
      apply Array.ext'
      rw [Array.toList_filter]
      exact List.filter_eq_self.2 fun e h' => decide_eq_true (hLm e h')
    have f2 : (Array.mk L).filter (fun x => decide (x.born ≥ c)) = #[] := by
      apply Array.ext'
      rw [Array.toList_filter]
      exact List.filter_eq_nil_iff.2 fun e h' => by simp; exact hLm e h'
    cases L with
    | nil =>
      refine ⟨_, w, ?_, .inl ⟨fun e h' => ?_, rfl, rfl⟩⟩
      · simp only [Instr.next, Sem.run_bind, run_getObj_iter a4, Result.andThen_ok, run_getObj_map hb, hchk', hl', f1, f2]
        simp [Question.forced]
      · cases hleft' : es.filter (fun e => !seen.contains e.2.2) with
        | nil =>
          have := List.filter_eq_nil_iff.1 hleft' e h'
          simpa using this
        | cons x y => rw [hleft'] at hleft; cases hleft
    | cons e0 L =>
      have hj : ∃ j w1, (choose (.mapNext (e0 :: L).length)).run P0 w = .ok j w1 ∧ j < (e0 :: L).length ∧ (w1 = w ∨ w1 = { w with drawn := w.drawn + 1 }) := by
        rw [run_choose]
        split
        · exact ⟨0, w, rfl, by simp, .inl rfl⟩
        · exact ⟨_, _, rfl, Nat.mod_lt _ (by simp), .inr rfl⟩
      obtain ⟨j, w1, hc, hjl, hw1⟩ := hj
      have hjs : j < (es.filter fun e => !seen.contains e.2.2).length := by rw [hleft.length]; exact hjl
      obtain ⟨e', g1, g2, g3, g4⟩ := hleft.get (i := j) (List.getElem?_eq_getElem hjs)
      generalize hee : (es.filter fun e => !seen.contains e.2.2)[j] = e at g2 g3 g4
      have hem : e ∈ es.filter fun e => !seen.contains e.2.2 := by rw [← hee]; exact List.getElem_mem hjs
      obtain ⟨hem1, hem2⟩ := List.mem_filter.1 hem
      have hdb := hW.blk _ _ hd
      have hw1h : w1.heap = w.heap := by rcases hw1 with rfl | rfl <;> rfl
      have hother : ∀ b, b ≠ d.b → ({ w1 with heap := w.heap.setIfInBounds d.b (.mapIter (some dm.b) c (seen ++ [e.2.2]).toArray c) } : World).heap[b]? = w.heap[b]? := by grind
      refine ⟨.tuple #[.bool true, e'.key, e'.val], { w1 with heap := w.heap.setIfInBounds d.b (.mapIter (some dm.b) c (seen ++ [e.2.2]).toArray c) }, ?_, .inr ⟨e, hem1, by simpa using hem2, ?_⟩⟩
      · have hcand : (((if (Array.mk (e0 :: L)).isEmpty then #[none] else #[]) ++ (Array.mk (e0 :: L) ++ #[]).map some : Array (Option MapEntry)))[j]? = some (some e') := by
          simp only [Array.isEmpty_iff, Array.append_empty]
          rw [if_neg (by simp)]
          simp only [Array.empty_append, List.map_toArray, List.getElem?_toArray, List.getElem?_map, g1, Option.map_some]
        have hsz : ((if (Array.mk (e0 :: L)).isEmpty then #[none] else #[]) ++ (Array.mk (e0 :: L) ++ #[]).map some : Array (Option MapEntry)).size = (e0 :: L).length := by simp
        simp only [Instr.next, Sem.run_bind, run_getObj_iter a4, Result.andThen_ok, run_getObj_map hb, hchk', hl', f1, f2]
        rw [if_neg (by simp), hsz]
        simp only [Sem.run_bind, hc, Result.andThen_ok, hcand]
        have hset : (setObj d.b (.mapIter (some dm.b) c (seen.toArray.push e'.born) c)).run P0 w1 = .ok () { w1 with heap := w.heap.setIfInBounds d.b (.mapIter (some dm.b) c (seen ++ [e.2.2]).toArray c) } := by
          have hgi : w1.heap[d.b]? = some (.mapIter (some dm.b) c seen.toArray c) := by rw [hw1h]; exact a4
          have hp : seen.toArray.push e'.born = (seen ++ [e.2.2]).toArray := by rw [g4]; simp
          rw [hp]
          unfold setObj
          simp only [Sem.run, hgi]
          rw [hw1h]
        simp only [Sem.run_bind, hset, Result.andThen_ok, Sem.run_pure]
      · have hos : w1.os = w.os ∧ w1.tape = w.tape ∧ w1.output = w.output := by rcases hw1 with rfl | rfl <;> exact ⟨rfl, rfl, rfl⟩
        refine ⟨.tuple _ #[.bool true, e'.key, e'.val] (.cons _ _ _ _ (.bool true) (.cons _ _ _ _ g2 (.one g3))), ?_, FR.set hd a2 (by simp) hother hos.1 hos.2.1 hos.2.2, .same (Nat.le_refl _)⟩
        refine hW.set hd hg rfl a2 (fun h => h) ⟨a1, a2, a3, some dm.b, ?_, dm, hdm, rfl⟩ (by simp) hother
        simp_all
/-! ### the shape -/
theorem and4 {a b c d : Bool} : (a && b && c && d) = true ↔ a = true ∧ b = true ∧ c = true ∧ d = true := by simp [and_assoc]
theorem fillOf_eq {n : Nat} {c : Code} {F : Fill} (h : fillOf n c = some F) : ∃ i0 r0 b i1 r1 i2 r2 o1 o2 p1 p2 p3 q1 q2 q3,
    c = .seq (.region i0 r0 false) (.seq (.cond (.tmp F.c) .skip (.exit F.x)) (.block b (.seq (.region i1 r1 false) (.region i2 r2 false)))) ∧
    r0.toList = [o1, o2] ∧ r1.toList = [p1, p2, p3] ∧ r2.toList = [q1, q2, q3] ∧ F.ok n = true ∧ F.r0 o1 o2 = true ∧ F.r1 p1 p2 p3 = true ∧ F.r2 q1 q2 q3 = true := by
  unfold fillOf at h
  split at h
  · split at h
    · rename_i e0 e1 e2
      split at h
      · split at h
        · rename_i hc
          cases h
          simp only [Bool.and_eq_true] at hc
          obtain ⟨⟨⟨⟨⟨h1, h2⟩, h3⟩, h4⟩, h5⟩, h6⟩ := hc
          rw [← Nat.eq_of_beq_eq_true h5, ← Nat.eq_of_beq_eq_true h6]
          exact ⟨_, _, _, _, _, _, _, _, _, _, _, _, _, _, _, rfl, e0, e1, e2, h1, h2, h3, h4⟩
        · cases h
      · cases h
    · cases h
  · cases h
theorem r0_eq {F : Fill} {o1 o2 : Oper} (h : F.r0 o1 o2 = true) : o1.op = .next (.tmp F.it) false ∧ o1.dst = some F.a ∧ o1.guard = none ∧ o2.op = .extract (.tmp F.a) 0 ∧ o2.dst = some F.c ∧ o2.guard = none := by
  unfold Fill.r0 at h
  split at h
  · simp only [Bool.and_eq_true, Nat.beq_eq] at h
    simp_all
  · cases h
theorem r1_eq {F : Fill} {o1 o2 o3 : Oper} (h : F.r1 o1 o2 o3 = true) : o1.op = .entry (.tmp F.it) ∧ o1.dst = some F.e0 ∧ o1.guard = none ∧ o2.op = .extract (.tmp F.e0) 0 ∧ o2.dst = some F.e1 ∧ o2.guard = none ∧
    o3.op = .assign (.tmp F.e1) ∧ o3.dst = some F.e2 ∧ o3.guard = none := by
  unfold Fill.r1 at h
  split at h
  · simp only [Bool.and_eq_true, Nat.beq_eq] at h
    simp_all
  · cases h
theorem r2_eq {F : Fill} {o1 o2 o3 : Oper} (h : F.r2 o1 o2 o3 = true) : o1.op = .move (.tmp F.u) ∧ o1.dst = some F.m0 ∧ o1.guard = none ∧ o2.op = .move (.tmp F.e2) ∧ o2.dst = some F.m1 ∧ o2.guard = none ∧
    o3.op = .mapUpdate F.ty (.tmp F.m0) (.tmp F.m1) (.const (.bool true)) ∧ o3.dst = none ∧ o3.guard = none := by
  unfold Fill.r2 at h
  split at h
  · simp only [Bool.and_eq_true, Nat.beq_eq] at h
    simp_all
  · cases h
theorem regC_cons {call : Call} {all os : List Oper} {o : Oper} {d : DF} (hg : o.guard = none) (hd : dstC n o = some d) (hq : deferC o = none) {v : V} {h' : Hp} (ho : (opC o).f call t h = some (v, h')) :
    (regionC n all (o :: os)).f call t h = (regionC n all os).f call (d.f t v) h' := by
  show (stepC n all o (regionC n all os)).f call t h = _
  have hw : wantC n all o = none := by unfold wantC; rw [hg]
  unfold stepC
  simp only [hd, hw, hq, ho]
  rfl
theorem dst_some {o : Oper} {d : Nat} (ho : o.dst = some d) (hd : Nat.blt d n = true) : dstC n o = some ⟨fun t v => t.set d v⟩ := by
  unfold dstC
  simp only [ho, hd]
theorem dst_none {o : Oper} (ho : o.dst = none) : dstC n o = some ⟨fun t _ => t⟩ := by
  unfold dstC
  simp only [ho]
theorem opC_write {call : Call} {o : Oper} (hc : cls o = 2) {v : V} {h' : Hp} (hw : (writeC o).f t h = some (.val v h')) : (opC o).f call t h = some (v, h') := by
  unfold opC
  simp only [hc, hw, oB]
theorem put_bag {kt : Nat} (hi : isIntT kt = true) {k : IntKind} {us : List (V × V × Nat)} (cu : Nat) (hu : ∀ e ∈ us, e.2.1 = .bool true ∧ ∃ n, e.1 = .int k n) (n : Int) :
    ∃ us' cu', mapPut kt none us cu (.int k n) (.bool true) = some (.map us' cu') ∧ (∀ e ∈ us', e.2.1 = .bool true ∧ (e.1 = .int k n ∨ ∃ e' ∈ us, e'.1 = e.1)) ∧ (∃ e ∈ us', e.1 = .int k n) ∧ ∀ e ∈ us, ∃ e' ∈ us', e'.1 = e.1 := by
  rcases find_bag hi k n 0 hu with ⟨h1, h2⟩ | ⟨j, e, h1, h2, h3⟩
  · refine ⟨us ++ [(.int k n, .bool true, cu)], cu + 1, by unfold mapPut; rw [h1]; rfl, fun e he => ?_, ⟨_, List.mem_append_right _ (List.mem_singleton.2 rfl), rfl⟩, fun e he => ⟨e, List.mem_append_left _ he, rfl⟩⟩
    rcases List.mem_append.1 he with he | he
    · exact ⟨(hu e he).1, .inr ⟨e, he, rfl⟩⟩
    · simp at he; subst he; exact ⟨rfl, .inl rfl⟩
  · have hj := (List.getElem?_eq_some_iff.1 h2).1
    refine ⟨us.set j (.int k n, .bool true, e.2.2), cu, ?_, fun x hx => ?_, ⟨_, List.mem_iff_getElem?.2 ⟨j, List.getElem?_set_self hj⟩, rfl⟩, fun x hx => ?_⟩
    · unfold mapPut
      rw [h1]
      simp only [oB, Nat.zero_add, h2, h3, V.beq_self]
      rfl
    · rcases List.mem_or_eq_of_mem_set hx with hx | rfl
      · exact ⟨(hu x hx).1, .inr ⟨x, hx, rfl⟩⟩
      · exact ⟨rfl, .inl rfl⟩
    · obtain ⟨q, hq⟩ := List.mem_iff_getElem?.1 hx
      by_cases hqj : j = q
      · subst hqj
        rw [h2] at hq; cases hq
        exact ⟨_, List.mem_iff_getElem?.2 ⟨j, List.getElem?_set_self hj⟩, h3.symm⟩
      · exact ⟨x, List.mem_iff_getElem?.2 ⟨q, by rw [List.getElem?_set_ne hqj]; exact hq⟩, rfl⟩
theorem find_born {es : List (V × V × Nat)} {e : V × V × Nat} (hn : (es.map fun e => e.2.2).Nodup) (he : e ∈ es) : (es.find? fun x => Nat.beq x.2.2 e.2.2) = some e := by
  induction es with
  | nil => cases he
  | cons x es ih =>
    simp only [List.map_cons, List.nodup_cons] at hn
    rcases List.mem_cons.1 he with rfl | he
    · simp
    · have hne : x.2.2 ≠ e.2.2 := fun hh => hn.1 (hh ▸ List.mem_map.2 ⟨e, he, rfl⟩)
      rw [List.find?_cons_of_neg (by simpa using hne)]
      exact ih hn.2 he
theorem keysI_eq {k : IntKind} : ∀ {es : List (V × V × Nat)} {ks : List Int}, keysI k es = some ks → (∀ e ∈ es, e.2.1 = .bool true ∧ ∃ n ∈ ks, e.1 = .int k n) ∧ ∀ n ∈ ks, ∃ e ∈ es, e.1 = .int k n
  | [], ks, hk => by cases hk; simp
  | e :: es, ks, hk => by
    simp only [keysI, oB_eq] at hk
    obtain ⟨n, h1, ns, h2, h3⟩ := hk
    cases h3
    have he : e.2.1 = .bool true ∧ e.1 = .int k n := by
      unfold keyI at h1
      split at h1
      · rw [bB_eq] at h1
        obtain ⟨h4, h5⟩ := h1
        cases h5
        rw [kindEq_eq h4]
        exact ⟨rfl, rfl⟩
      · cases h1
    obtain ⟨g1, g2⟩ := keysI_eq h2
    refine ⟨fun x hx => ?_, fun m hm => ?_⟩
    · rcases List.mem_cons.1 hx with rfl | hx
      · exact ⟨he.1, n, by simp, he.2⟩
      · obtain ⟨a, m, b, c⟩ := g1 x hx
        exact ⟨a, m, by simp [b], c⟩
    · rcases List.mem_cons.1 hm with rfl | hm
      · exact ⟨e, by simp, he.2⟩
      · obtain ⟨x, a, b⟩ := g2 m hm
        exact ⟨x, by simp [a], b⟩
/-- What holds at the loop's head. -/
structure FI (F : Fill) (r m u c : Nat) (es : List (V × V × Nat)) (h0 : Hp) (t0 : Tm) (seen : List Nat) (h : Hp) (t : Tm) : Prop where
  next : h.next = h0.next
  keep : ∀ l, l ≠ r → l ≠ u → h.get l = h0.get l
  iter : h.get r = some (.iter (some m) c seen c)
  put : ∃ us cu, h.get u = some (.map us cu) ∧ (∀ e ∈ us, e.2.1 = .bool true ∧ ∃ e' ∈ es, e'.1 = e.1) ∧ ∀ e ∈ es, e.2.2 ∈ seen → ∃ e' ∈ us, e'.1 = e.1
  ds : t.ds = t0.ds
  old : ∀ i, i ∉ F.all.drop 2 → tget t i = tget t0 i
  none : es = [] → ∀ i, i ≠ F.a → i ≠ F.c → tget t i = tget t0 i
  some : seen ≠ [] → (∃ n, tget t F.e0 = .tuple [.int F.k n, .bool true]) ∧ (∃ n, tget t F.e1 = .int F.k n) ∧ (∃ n, tget t F.e2 = .int F.k n) ∧ tget t F.m0 = .map u ∧ ∃ n, tget t F.m1 = .int F.k n
theorem apartN_eq : ∀ {l : List Nat}, apartN l = true → l.Pairwise (· ≠ ·)
  | [], _ => .nil
  | a :: l, h => by
    simp only [apartN, Bool.and_eq_true, List.all_eq_true] at h
    exact .cons (fun b hb e => by have := h.1 b hb; subst e; simp at this) (apartN_eq h.2)
theorem fill_loop {call : Call} (hc : CallOk call) {F : Fill} {cde : Code} (hF : fillOf n cde = some F) {r m u c : Nat} {es : List (V × V × Nat)} {h0 : Hp} {t0 : Tm} {w0 : World} {Δ0 : Env} {ks : List Int} (hks : keysI F.k es = some ks)
    (hru : r ≠ u) (hum : u ≠ m) (hrm : r ≠ m) (hm0 : h0.get m = some (.map es c)) (hit : tget t0 F.it = .ptr r 0) (hu0 : tget t0 F.u = .map u) {Q : Exit → Act → World → Prop}
    (hQ : ∀ Δ' a' w', Goes Δ0 h0 w0 n (F.t u es.isEmpty t0) ((h0.put r .gone).put u (.bag F.k ks)) Δ' a' w' → Q (.exit F.x) a' w') :
    ∀ (k : Nat) (seen : List Nat) {Δ : Env} {h : Hp} {w : World} {t : Tm} {a : Act}, (es.filter fun e => !seen.contains e.2.2).length ≤ k → Goes Δ0 h0 w0 n t h Δ a w → FI F r m u c es h0 t0 seen h t → LoopWp cde Q a w := by
  obtain ⟨i0, r0, b, i1, r1, i2, r2, ⟨_, _, ty1, ps1, af1, _⟩, ⟨_, _, ty2, ps2, af2, _⟩, ⟨_, _, ty3, ps3, af3, _⟩, ⟨_, _, ty4, ps4, af4, _⟩, ⟨_, _, ty5, ps5, af5, _⟩, ⟨_, _, ty6, ps6, af6, _⟩, ⟨_, _, ty7, ps7, af7, _⟩, ⟨_, _, ty8, ps8, af8, _⟩, rfl, e0, e1, e2, hok, g0, g1, g2⟩ := fillOf_eq hF
  obtain ⟨rfl, rfl, rfl, rfl, rfl, rfl⟩ := r0_eq g0
  obtain ⟨rfl, rfl, rfl, rfl, rfl, rfl, rfl, rfl, rfl⟩ := r1_eq g1
  obtain ⟨rfl, rfl, rfl, rfl, rfl, rfl, rfl, rfl, rfl⟩ := r2_eq g2
  clear g0 g1 g2 hF
  simp only [Fill.ok, Bool.and_eq_true, List.all_eq_true] at hok
  obtain ⟨⟨⟨hlt, hap⟩, hty⟩, hkt⟩ := hok
  have hne := apartN_eq hap
  simp only [Fill.all, List.pairwise_cons, List.mem_cons, List.not_mem_nil, or_false, forall_eq_or_imp, forall_eq, false_imp_iff, implies_true, List.Pairwise.nil, and_true] at hne
  have hl : ∀ d, d = F.a ∨ d = F.c ∨ d = F.e0 ∨ d = F.e1 ∨ d = F.e2 ∨ d = F.m0 ∨ d = F.m1 → Nat.blt d n = true := fun d hd => hlt d (by simp only [Fill.all, List.mem_cons]; grind)
  obtain ⟨kt, et, hu, rfl⟩ : ∃ kt et, P0.underlying F.ty = some (.map kt et) ∧ kt = F.kt := by
    split at hty
    · rename_i kt et hu; exact ⟨kt, et, hu, Nat.eq_of_beq_eq_true hty⟩
    · cases hty
  have hi : isIntT F.kt = true ∧ keyD F.kt = some none := by
    split at hkt
    · rename_i k hk
      unfold isIntT keyD
      rw [hk]
      exact ⟨rfl, rfl⟩
    · cases hkt
  obtain ⟨hi, hkd⟩ := hi
  have hr0 : List.range r0.size = [0, 1] := by
    have : r0.size = 2 := by rw [← Array.length_toList, e0]; rfl
    rw [this]; rfl
  have ho1 : r0[0]? = some ⟨some F.a, .next (.tmp F.it) false, ty1, ps1, af1, none⟩ := by rw [← Array.getElem?_toList, e0]; rfl
  have hkeys := keysI_eq hks
  intro k
  induction k using Nat.strongRecOn with
  | _ k ih =>
  intro seen Δ h w t a hk hG hI
  have itT : F.it ∉ F.all.drop 2 := by simp only [Fill.all, List.drop, List.mem_cons, List.not_mem_nil]; grind
  have uT : F.u ∉ F.all.drop 2 := by simp only [Fill.all, List.drop, List.mem_cons, List.not_mem_nil]; grind
  have hmg : h.get m = some (.map es c) := by rw [hI.keep m hrm.symm hum.symm]; exact hm0
  have hiv : VRel Δ (.ptr r 0) (a.eval (.tmp F.it)) := by
    have := hG.tmps.rel F.it
    rw [hI.old F.it itT, hit] at this
    exact this
  refine .round (wp_seq (wp_region ?_))
  rw [hr0, wpOps_cons]
  unfold wpOp
  simp only [ho1]
  rw [if_pos (want_none (n := n) (ops := r0.toList) rfl _)]
  refine .inl ?_
  unfold Oper.wp
  obtain ⟨x, w1, hx, hcase⟩ := next_pick hG.world (ty := ty1) hiv hI.iter hmg
  rw [show (execOp a.eval ⟨some F.a, .next (.tmp F.it) false, ty1, ps1, af1, none⟩).run P0 w = .ok (.value x) w1 from run_v hx, Oper.upon_value]
  have d1 := dst_some (n := n) (o := ⟨some F.a, .next (.tmp F.it) false, ty1, ps1, af1, none⟩) rfl (hl _ (by simp))
  have ext : ∀ {h : Hp} (v : V) (vs : List V), (opC ⟨some F.c, .extract (.tmp F.a) 0, ty2, ps2, af2, none⟩).f call (t.set F.a (.tuple (v :: vs))) h = some (v, h) := fun v vs => by
    show oB (oB (some (tget (t.set F.a (.tuple (v :: vs))) F.a)) fun x => match x with | .tuple vs => at1 vs 0 | _ => none) _ = _
    rw [tget_set, if_pos rfl]
    rfl
  have reg0 : ∀ {h : Hp} (v : V) (vs : List V), (regionC n r0.toList [⟨some F.c, .extract (.tmp F.a) 0, ty2, ps2, af2, none⟩]).f call (t.set F.a (.tuple (v :: vs))) h = some ((t.set F.a (.tuple (v :: vs))).set F.c v, h) := fun v vs => by
    rw [regC_cons rfl (dst_some rfl (hl F.c (by simp))) rfl (ext v vs)]
    rfl
  have after0 : ∀ {v : V} {vs : List V} {h1 : Hp} {Δ1 : Env} {Q2 : Exit → Act → World → Prop}, After Δ h w (.tuple (v :: vs)) h1 Δ1 x w1 → (∀ Δ2 a2 w2, Goes Δ0 h0 w0 n ((t.set F.a (.tuple (v :: vs))).set F.c v) h1 Δ2 a2 w2 → Q2 .normal a2 w2) →
      wpOps P0 r0 Q2 [1] (a.put (some F.a) x) w1 := fun hA hK => by
    have hP := Goes.put hG.tmps d1 hA
    exact region_wp hc (ops := r0) [⟨some F.c, .extract (.tmp F.a) 0, ty2, ps2, af2, none⟩] 1 (by rw [e0]; rfl) hP.world hP.tmps (reg0 _ _) (fun Δ2 a2 w2 h2 => hK Δ2 a2 w2 ((hG.trans hP).trans h2))
  rcases hcase with ⟨hall, rfl, rfl⟩ | ⟨e, he, hes, hA⟩
  · -- all have come
    refine after0 (v := .bool false) (vs := []) ⟨.tuple _ #[.bool false] (.one (.bool false)), hG.world, .refl _ _, .refl _ _⟩ fun Δ2 a2 w2 h2 => ?_
    have hcv : a2.eval (.tmp F.c) = .bool false := by
      have := h2.tmps.rel F.c
      rw [tget_set, if_pos rfl] at this
      cases hx : a2.eval (.tmp F.c) <;> rw [show a2.tmps.getD F.c undef = _ from hx] at this <;> cases this
      rfl
    refine wp_seq (wp_cond_false hcv (wp_exit ?_))
    have hall' : ∀ e ∈ es, e.2.2 ∈ seen := hall
    have hrel := h2.tmps.rel
    have hrd : ∃ d, Δ2 r = some d := by
      have := hrel F.it
      rw [tget_set, if_neg (by grind), tget_set, if_neg (by grind), hI.old F.it itT, hit] at this
      generalize a2.tmps.getD F.it undef = x at this
      cases this with | ptr _ _ d hd => exact ⟨d, hd⟩
    have hud : ∃ d, Δ2 u = some d := by
      have := hrel F.u
      rw [tget_set, if_neg (by grind), tget_set, if_neg (by grind), hI.old F.u uT, hu0] at this
      generalize a2.tmps.getD F.u undef = x at this
      cases this with | map _ d hd => exact ⟨d, hd⟩
    obtain ⟨us, cu, p1, p2, p3⟩ := hI.put
    refine hQ Δ2 a2 w2 ⟨⟨h2.tmps.size, fun i => ?_, ?_⟩, ?_, h2.frame, ⟨Nat.le_refl _, h2.grow.none⟩⟩
    · have hi2 := hrel i
      generalize a2.tmps.getD i undef = x at hi2
      simp only [tget_set] at hi2
      unfold Fill.t
      cases hes : es.isEmpty with
      | true =>
        simp only [tget_set]
        by_cases hc1 : F.c = i
        · rw [if_pos hc1] at hi2 ⊢; exact hi2
        · rw [if_neg hc1] at hi2 ⊢
          by_cases hc2 : F.a = i
          · rw [if_pos hc2] at hi2 ⊢; exact hi2
          · rw [if_neg hc2] at hi2 ⊢
            rw [hI.none (List.isEmpty_iff.1 hes) i (Ne.symm hc2) (Ne.symm hc1)] at hi2
            exact hi2
      | false =>
        have hse : seen ≠ [] := by
          cases es with
          | nil => cases hes
          | cons e es => intro hh; have := hall' e (by simp); rw [hh] at this; cases this
        obtain ⟨⟨k0, s0⟩, ⟨k1, s1⟩, ⟨k2, s2⟩, s3, ⟨k4, s4⟩⟩ := hI.some hse
        simp only [tget_set]
        by_cases hc1 : F.c = i
        · rw [if_pos hc1] at hi2 ⊢; exact hi2
        rw [if_neg hc1] at hi2 ⊢
        by_cases hc2 : F.a = i
        · rw [if_pos hc2] at hi2 ⊢; exact hi2
        rw [if_neg hc2] at hi2 ⊢
        by_cases hc3 : F.m1 = i
        · subst hc3
          rw [if_pos rfl]; rw [s4] at hi2; cases hi2; exact .anyI _ _
        rw [if_neg hc3]
        by_cases hc4 : F.m0 = i
        · subst hc4
          rw [if_pos rfl]; rw [s3] at hi2; exact hi2
        rw [if_neg hc4]
        by_cases hc5 : F.e2 = i
        · subst hc5
          rw [if_pos rfl]; rw [s2] at hi2; cases hi2; exact .anyI _ _
        rw [if_neg hc5]
        by_cases hc6 : F.e1 = i
        · subst hc6
          rw [if_pos rfl]; rw [s1] at hi2; cases hi2; exact .anyI _ _
        rw [if_neg hc6]
        by_cases hc7 : F.e0 = i
        · subst hc7
          rw [if_pos rfl]; rw [s0] at hi2
          cases hi2 with
          | tuple _ cs' hh =>
            refine .tuple _ cs' ?_
            generalize cs'.toList = l at hh
            cases hh with
            | cons _ _ _ _ h1 h2 => cases h1; exact .cons _ _ _ _ (.anyI _ _) h2
        rw [if_neg hc7]
        rw [hI.old i (by simp only [Fill.all, List.drop, List.mem_cons, List.not_mem_nil]; grind)] at hi2
        exact hi2
    · have hd := h2.tmps.ds
      rw [Tm.ds_set, Tm.ds_set, hI.ds] at hd
      unfold Fill.t
      rw [Tm.ds_set, Tm.ds_set]
      cases es.isEmpty with
      | true => exact hd
      | false => simp only [Tm.ds_set]; exact hd
    · obtain ⟨dr, hdr⟩ := hrd
      obtain ⟨du, hdu⟩ := hud
      have hW1 : WR Δ2 (h.put r .gone) w2 := by
        obtain ⟨o, q1, q2⟩ := h2.world.obj r dr hdr
        rw [hI.iter] at q1; cases q1
        obtain ⟨b1, b2, b3, _⟩ := q2
        exact h2.world.set hdr hI.iter rfl b2 (fun _ => rfl) ⟨b1, b2, b3⟩ rfl fun _ _ => rfl
      have hgu : (h.put r .gone).get u = some (.map us cu) := by rw [get_put _ _ (Hp.get_lt hI.iter), if_neg hru]; exact p1
      have hW2 : WR Δ2 ((h.put r .gone).put u (.bag F.k ks)) w2 := by
        obtain ⟨o, q1, q2⟩ := hW1.obj u du hdu
        rw [hgu] at q1; cases q1
        obtain ⟨b1, b2, b3, es', b4, b5, _⟩ := q2
        refine hW1.set hdu hgu rfl b2 (fun _ => rfl) ⟨b1, b2, b3, es', cu, b4, fun e' he' => ?_, fun nn hn => ?_⟩ rfl fun _ _ => rfl
        · obtain ⟨j, hj⟩ := List.mem_iff_getElem?.1 he'
          have hj2 : j < us.length := by rw [b5.length]; exact (List.getElem?_eq_some_iff.1 hj).1
          obtain ⟨x', y1, y2, y3, _⟩ := b5.get (i := j) (List.getElem?_eq_getElem hj2)
          rw [hj] at y1; cases y1
          obtain ⟨z1, e9, z2, z3⟩ := p2 _ (List.getElem_mem hj2)
          obtain ⟨_, nn, z4, z5⟩ := hkeys.1 e9 z2
          rw [← z3, z5] at y2
          rw [z1] at y3
          refine ⟨?_, nn, z4, ?_⟩
          · cases hx : e'.val <;> rw [hx] at y3 <;> cases y3; rfl
          · cases hx : e'.key <;> rw [hx] at y2 <;> cases y2; rfl
        · obtain ⟨e9, z2, z5⟩ := hkeys.2 nn hn
          obtain ⟨e8, z6, z7⟩ := p3 e9 z2 (hall' e9 z2)
          obtain ⟨j, hj⟩ := List.mem_iff_getElem?.1 z6
          obtain ⟨x', y1, y2, y3, _⟩ := b5.get (i := j) hj
          rw [z7, z5] at y2
          refine ⟨x', List.mem_iff_getElem?.2 ⟨j, y1⟩, ?_⟩
          cases hx : x'.key <;> rw [hx] at y2 <;> cases y2; rfl
      have hlr : r < h0.next := by rw [← hI.next]; exact Hp.get_lt hI.iter
      have hlu : u < h0.next := by rw [← hI.next]; exact Hp.get_lt p1
      refine hW2.same (by show h0.next = h.next; exact hI.next.symm) fun l => ?_
      rw [get_put _ _ (by show u < h0.next; exact hlu), get_put _ _ hlr, get_put _ _ (by show u < h.next; rw [hI.next]; exact hlu), get_put _ _ (by rw [hI.next]; exact hlr)]
      by_cases l1 : u = l
      · rw [if_pos l1, if_pos l1]
      · rw [if_neg l1, if_neg l1]
        by_cases l2 : r = l
        · rw [if_pos l2, if_pos l2]
        · rw [if_neg l2, if_neg l2, hI.keep l (Ne.symm l2) (Ne.symm l1)]
  · -- one more
    refine after0 (v := .bool true) (vs := [e.1, e.2.1]) hA fun Δ2 a2 w2 h2 => ?_
    have hcv : a2.eval (.tmp F.c) = .bool true := by
      have := h2.tmps.rel F.c
      rw [tget_set, if_pos rfl] at this
      cases hx : a2.eval (.tmp F.c) <;> rw [show a2.tmps.getD F.c undef = _ from hx] at this <;> cases this
      rfl
    refine wp_seq (wp_cond_true hcv (wp_skip ?_))
    refine wp_block (wp_seq (wp_region ?_))
    have hlr : r < h.next := Hp.get_lt hI.iter
    obtain ⟨us, cu, p1, p2, p3⟩ := hI.put
    have hlu : u < h.next := Hp.get_lt p1
    have hborn : BornOk es c := by
      obtain ⟨d, hd⟩ : ∃ d, Δ m = some d := by
        generalize a.eval (.tmp F.it) = x at hiv
        cases hiv with
        | ptr _ _ d hd =>
          obtain ⟨o', ho, hr⟩ := hG.world.obj r d hd
          rw [hI.iter] at ho; cases ho
          obtain ⟨_, _, _, m', a4, dm, hdm, _⟩ := hr
          exact ⟨dm, hdm⟩
      exact map_born hG.world hd hmg
    generalize hT2 : (t.set F.a (.tuple [.bool true, e.1, e.2.1])).set F.c (.bool true) = T2 at h2
    generalize hh1 : h.put r (.iter (some m) c (seen ++ [e.2.2]) c) = h1 at h2
    have gr : h1.get r = some (.iter (some m) c (seen ++ [e.2.2]) c) := by rw [← hh1, get_put _ _ hlr, if_pos rfl]
    have gm : h1.get m = some (.map es c) := by rw [← hh1, get_put _ _ hlr, if_neg hrm]; exact hmg
    have gu : h1.get u = some (.map us cu) := by rw [← hh1, get_put _ _ hlr, if_neg hru]; exact p1
    have h1n : h1.next = h.next := by rw [← hh1]; rfl
    have T2it : tget T2 F.it = .ptr r 0 := by rw [← hT2, tget_set, if_neg (by grind), tget_set, if_neg (by grind), hI.old F.it itT, hit]
    have T2u : tget T2 F.u = .map u := by rw [← hT2, tget_set, if_neg (by grind), tget_set, if_neg (by grind), hI.old F.u uT, hu0]
    obtain ⟨ev, nn, hnn, ek⟩ := hkeys.1 e he
    have hent : hentry (.ptr r 0) h1 = some (.val (.tuple [e.1, e.2.1]) h1) := by
      unfold hentry
      simp only [asPtr, Nat.beq_refl, bB, gr, oB, mapAt, gm, List.getLast?_append, List.getLast?_singleton, Option.some_or, find_born hborn.1 he]
    have reg1 : (regionC n r1.toList r1.toList).f call T2 h1 = some (((T2.set F.e0 (.tuple [e.1, e.2.1])).set F.e1 e.1).set F.e2 e.1, h1) := by
      have o1 : (opC ⟨some F.e0, .entry (.tmp F.it), ty3, ps3, af3, none⟩).f call T2 h1 = some (.tuple [e.1, e.2.1], h1) := by
        have ho : (writeC ⟨some F.e0, .entry (.tmp F.it), ty3, ps3, af3, none⟩).f T2 h1 = hentry (tget T2 F.it) h1 := rfl
        exact opC_write rfl (by rw [ho, T2it, hent])
      have o2 : ∀ T3, tget T3 F.e0 = .tuple [e.1, e.2.1] → (opC ⟨some F.e1, .extract (.tmp F.e0) 0, ty4, ps4, af4, none⟩).f call T3 h1 = some (e.1, h1) := fun T3 hh => by
        show oB (oB (some (tget T3 F.e0)) fun x => match x with | .tuple vs => at1 vs 0 | _ => none) _ = _
        rw [hh]
        rfl
      have o3 : ∀ T3, tget T3 F.e1 = e.1 → (opC ⟨some F.e2, .assign (.tmp F.e1), ty5, ps5, af5, none⟩).f call T3 h1 = some (e.1, h1) := fun T3 hh => by
        rw [← hh]; rfl
      generalize hall1 : r1.toList = all1
      rw [hall1] at e1
      rw [congrArg (regionC n all1) e1, regC_cons rfl (dst_some rfl (hl F.e0 (by simp))) rfl o1, regC_cons rfl (dst_some rfl (hl F.e1 (by simp))) rfl (o2 _ (by show tget (T2.set _ _) _ = _; rw [tget_set, if_pos rfl])),
        regC_cons rfl (dst_some rfl (hl F.e2 (by simp))) rfl (o3 _ (by show tget (Tm.set _ _ _) _ = _; rw [tget_set, if_pos rfl]))]
      rfl
    obtain ⟨us', cu', y1, y2, y3, y4⟩ := put_bag hi (k := F.k) cu (us := us) (fun e hh => ⟨(p2 e hh).1, by
      obtain ⟨_, e', q1, q2⟩ := p2 e hh
      obtain ⟨_, n', _, q3⟩ := hkeys.1 e' q1
      exact ⟨n', q2 ▸ q3⟩⟩) nn
    have reg2 : ∀ T5, tget T5 F.u = .map u → tget T5 F.e2 = e.1 → (regionC n r2.toList r2.toList).f call T5 h1 = some ((T5.set F.m0 (.map u)).set F.m1 e.1, h1.put u (.map us' cu')) := fun T5 k1 k2 => by
      have o1 : (opC ⟨some F.m0, .move (.tmp F.u), ty6, ps6, af6, none⟩).f call T5 h1 = some (.map u, h1) := by
        rw [← k1]; rfl
      have o2 : ∀ T3, tget T3 F.e2 = e.1 → (opC ⟨some F.m1, .move (.tmp F.e2), ty7, ps7, af7, none⟩).f call T3 h1 = some (e.1, h1) := fun T3 hh => by
        rw [← hh]; rfl
      have o3 : ∀ T3, tget T3 F.m0 = .map u → tget T3 F.m1 = e.1 → (opC ⟨none, .mapUpdate F.ty (.tmp F.m0) (.tmp F.m1) (.const (.bool true)), ty8, ps8, af8, none⟩).f call T3 h1 = some (.undef, h1.put u (.map us' cu')) := fun T3 hh1 hh2 => by
        have hw : (writeC ⟨none, .mapUpdate F.ty (.tmp F.m0) (.tmp F.m1) (.const (.bool true)), ty8, ps8, af8, none⟩).f T3 h1 = hput F.kt none (.map u) e.1 (.bool true) h1 := by
          unfold writeC
          simp only [hu, hkd]
          show oB (some (tget T3 F.m0)) (fun m => oB (some (tget T3 F.m1)) fun k => oB (some (.bool true)) fun v => hput F.kt none m k v h1) = _
          rw [hh1, hh2]
          rfl
        refine opC_write rfl ?_
        rw [hw, ek]
        unfold hput mapBag
        simp only [keyHas, bB, gu, oB, y1]
      generalize hall1 : r2.toList = all1
      rw [hall1] at e2
      rw [congrArg (regionC n all1) e2, regC_cons rfl (dst_some rfl (hl F.m0 (by simp))) rfl o1, regC_cons rfl (dst_some rfl (hl F.m1 (by simp))) rfl (o2 _ (by show tget (T5.set _ _) _ = _; rw [tget_set, if_neg (by grind)]; exact k2)),
        regC_cons rfl (dst_none rfl) rfl (o3 _ (by show tget (Tm.set _ _ _) _ = _; rw [tget_set, if_neg (by grind)]; show tget (T5.set _ _) _ = _; rw [tget_set, if_pos rfl]) (by show tget (Tm.set _ _ _) _ = _; rw [tget_set, if_pos rfl]))]
      rfl
    have rng : ∀ ops : Array Oper, List.range ops.size = List.range' 0 ops.toList.length := fun ops => by rw [List.range_eq_range', Array.length_toList]
    rw [rng]
    refine region_wp hc (ops := r1) r1.toList 0 rfl h2.world h2.tmps reg1 fun Δ3 a3 w3 h3 => wp_region ?_
    rw [rng]
    refine region_wp hc (ops := r2) r2.toList 0 rfl h3.world h3.tmps (reg2 _ (by simp only [tget_set]; rw [if_neg (by grind), if_neg (by grind), if_neg (by grind)]; exact T2u) (by rw [tget_set, if_pos rfl])) fun Δ4 a4 w4 h4 => ?_
    refine ih (es.filter fun x => !(seen ++ [e.2.2]).contains x.2.2).length ?_ (seen ++ [e.2.2]) (Nat.le_refl _) (h2.trans (h3.trans h4)) ?_
    · have hf : (es.filter fun x => !(seen ++ [e.2.2]).contains x.2.2) = (es.filter fun x => !seen.contains x.2.2).filter fun x => !(x.2.2 == e.2.2) := by
        rw [List.filter_filter]
        congr 1
        funext x
        rw [Bool.eq_iff_iff]
        simp
        grind
      have hm' : e ∈ es.filter fun x => !seen.contains x.2.2 := List.mem_filter.2 ⟨he, by simpa using hes⟩
      rw [hf]
      exact Nat.lt_of_lt_of_le (List.length_filter_lt_length_iff_exists.2 ⟨e, hm', by simp⟩) hk
    · refine ⟨h1n.trans hI.next, fun l l1 l2 => ?_, ?_, ⟨us', cu', by rw [get_put _ _ (by rw [h1n]; exact hlu), if_pos rfl], fun x hx => ?_, fun x hx hxs => ?_⟩, ?_, fun i hi' => ?_, fun hh => ?_, fun _ => ?_⟩
      · rw [get_put _ _ (by rw [h1n]; exact hlu), if_neg (Ne.symm l2), ← hh1, get_put _ _ hlr, if_neg (Ne.symm l1)]
        exact hI.keep l l1 l2
      · rw [get_put _ _ (by rw [h1n]; exact hlu), if_neg hru.symm]
        exact gr
      · refine ⟨(y2 x hx).1, ?_⟩
        rcases (y2 x hx).2 with hh | ⟨x', hx', hh⟩
        · exact ⟨e, he, by rw [ek, hh]⟩
        · obtain ⟨_, e', q1, q2⟩ := p2 x' hx'
          exact ⟨e', q1, by rw [q2, hh]⟩
      · rcases List.mem_append.1 hxs with hxs | hxs
        · obtain ⟨e', q1, q2⟩ := p3 x hx hxs
          obtain ⟨e'', q3, q4⟩ := y4 e' q1
          exact ⟨e'', q3, q4.trans q2⟩
        · have hb1 := find_born hborn.1 he
          have hb2 := find_born hborn.1 hx
          rw [List.mem_singleton.1 hxs, hb1] at hb2
          cases hb2
          obtain ⟨e', q1, q2⟩ := y3
          exact ⟨e', q1, by rw [q2, ek]⟩
      · simp only [Tm.ds_set]
        rw [← hT2]
        simp only [Tm.ds_set]
        exact hI.ds
      · have hi2 := hi'
        simp only [Fill.all, List.drop, List.mem_cons, List.not_mem_nil, or_false, not_or] at hi'
        simp only [tget_set]
        rw [← hT2]
        simp only [tget_set]
        rw [if_neg (by grind), if_neg (by grind), if_neg (by grind), if_neg (by grind), if_neg (by grind), if_neg (by grind), if_neg (by grind)]
        exact hI.old i hi2
      · rw [hh] at he; cases he
      · simp only [tget_set]
        refine ⟨⟨nn, ?_⟩, ⟨nn, ?_⟩, ⟨nn, ?_⟩, ?_, ⟨nn, ?_⟩⟩
        · rw [if_neg (by grind), if_neg (by grind), if_neg (by grind), if_neg (by grind), if_pos trivial, ek, ev]
        · rw [if_neg (by grind), if_neg (by grind), if_neg (by grind), if_pos trivial, ek]
        · rw [if_neg (by grind), if_neg (by grind), if_pos trivial, ek]
        · rw [if_neg (by grind), if_pos trivial]
        · rw [if_pos trivial, ek]
/-- Such a loop, by what the plain machine says of it. -/
theorem fill_wp {call : Call} (hc : CallOk call) {F : Fill} {cde : Code} (hF : fillOf n cde = some F) (hW : WR Δ h w) (hT : TR Δ n t a) {r : X × Tm × Hp} (hv : fillC F t h = some r) {Q : Exit → Act → World → Prop}
    (hQ : ∀ Δ' a' w', Goes Δ h w n r.2.1 r.2.2 Δ' a' w' → Q r.1.to a' w') : LoopWp cde Q a w := by
  unfold fillC at hv
  rw [asPtr_eq] at hv
  obtain ⟨rl, off, hit, hv⟩ := hv
  rw [bB_eq, oB_eq] at hv
  obtain ⟨h0, o, hg, hv⟩ := hv
  obtain rfl := Nat.eq_of_beq_eq_true h0
  split at hv
  · rename_i m since last
    simp only [mapAt_eq, bB_eq, oB_eq, Bool.and_eq_true] at hv
    obtain ⟨es, c, hm, ⟨h1, h2⟩, ks, hks, hv⟩ := hv
    obtain rfl := Nat.eq_of_beq_eq_true h1
    obtain rfl := Nat.eq_of_beq_eq_true h2
    split at hv
    · rename_i u hu
      simp only [bB_eq, mapAt_eq] at hv
      obtain ⟨hum, us, cu, hgu, hue, hv⟩ := hv
      cases hv
      obtain rfl := List.isEmpty_iff.1 hue
      have hru : rl ≠ u := fun e => by subst e; rw [hg] at hgu; cases hgu
      have hrm : rl ≠ m := fun e => by subst e; rw [hg] at hm; cases hm
      exact fill_loop hc hF hks hru (fun e => by subst e; simp at hum) hrm hm hit hu hQ _ [] (Nat.le_refl _) (.start hT hW)
        ⟨rfl, fun _ _ _ => rfl, hg, ⟨[], cu, hgu, by simp, by simp⟩, rfl, fun _ _ => rfl, fun _ _ _ _ => rfl, fun hh => absurd rfl hh⟩
    · cases hv
  · cases hv
end
end Go.Proofs.YtlbdcjnhlkkfeaaGreatDoor.Hx
