/- A region whose order is open: in whatever order, what the plain machine's one order says. -/
import Derived.Test.YtbmlegogjhmmbaaDoorHxQ
namespace Go.Proofs.YtbmlegogjhmmbaaDoor.Hx

theorem late_spec : ∀ (ws : List It) (a : It), late ws a < ws.length → ∃ w, ws[late ws a]? = some w ∧ w.b.testBit a.i = true
  | [], a, h => by simp [late] at h
  | w :: ws, a, h => by
    unfold late at h ⊢
    split
    · rename_i hb; exact ⟨w, rfl, hb⟩
    · rename_i hb
      simp only [hb, List.length_cons] at h
      obtain ⟨w', h1, h2⟩ := late_spec ws a (by omega)
      exact ⟨w', by simpa using h1, h2⟩
theorem chainOk_get : ∀ {l : List It}, chainOk l = true → ∀ (q : Nat) (a b : It), l[q]? = some a → l[q + 1]? = some b → b.b.testBit a.i = true
  | [], _, q, a, b, h, _ => by simp at h
  | [x], _, q, a, b, _, h => by simp at h
  | x :: y :: l, hc, 0, a, b, h1, h2 => by
    simp at h1 h2
    subst h1; subst h2
    simp only [chainOk, Bool.and_eq_true] at hc
    exact hc.1
  | x :: y :: l, hc, q + 1, a, b, h1, h2 => by
    simp only [chainOk, Bool.and_eq_true] at hc
    exact chainOk_get (l := y :: l) hc.2 q a b (by simpa using h1) (by simpa using h2)
theorem count_set : ∀ (l : List Bool) (i : Nat), l[i]? = some false → (l.set i true).count false < l.count false
  | [], i, h => by simp at h
  | b :: l, 0, h => by simp at h; subst h; simp
  | b :: l, i + 1, h => by
    have := count_set l i (by simpa using h)
    simp only [List.set_cons_succ, List.count_cons]
    omega
theorem wants_alike {n : Nat} {all : List Oper} {o : Oper} {t t' : Tm} (h : ∀ j w oj d, o.guard = some (j, w) → all[j]? = some oj → oj.dst = some d → tget t d = tget t' d) : wants n all o t = wants n all o t' := by
  unfold wants wantC
  cases hg : o.guard with
  | none => rfl
  | some gj =>
    obtain ⟨j, w⟩ := gj
    simp only
    cases hj : all[j]? with
    | none => rfl
    | some oj =>
      simp only
      cases hd : oj.dst with
      | none => rfl
      | some d =>
        simp only
        have := h j w oj d hg hj hd
        cases Nat.blt d n with
        | true => simp only [this]
        | false => rfl
theorem wants_wanted {Δ : Env} {n : Nat} {t : Tm} {a : Act} (hT : TR Δ n t a) {ops : Array Oper} {o : Oper} {b : Bool} (h : wants n ops.toList o t = some b) : Region.wanted o (yielded ops a.tmps) = b := by
  unfold wants at h
  split at h
  · rename_i hw; cases h; exact want_none hw _
  · rename_i g hw; exact want_some hT hw h

section
variable {n : Nat} {ops : Array Oper} {call : Call} {t0 : Tm} {h0 : Hp} {Δ0 : Env} {w0 : World} {T : Tc} {r : Tm × Hp} {Q : Exit → Act → World → Prop}
abbrev Its (ops : Array Oper) : List It := items ops.toList 0 []
theorem its_ix (k : Nat) (x : It) (h : (Its ops)[k]? = some x) : x.i = k := by
  have := (items_get _ _ _ _ _ h).1
  omega
theorem its_eq {x y : It} (hx : x ∈ Its ops) (hy : y ∈ Its ops) (h : x.i = y.i) : x = y := by
  obtain ⟨i, hi⟩ := List.mem_iff_getElem?.1 hx
  obtain ⟨j, hj⟩ := List.mem_iff_getElem?.1 hy
  have h1 := its_ix i x hi
  have h2 := its_ix j y hj
  have : i = j := by omega
  subst this
  rw [hi] at hj; cases hj; rfl
theorem its_op {x : It} (hx : x ∈ Its ops) : ops[x.i]? = some x.o := by
  obtain ⟨i, hi⟩ := List.mem_iff_getElem?.1 hx
  have h1 := its_ix i x hi
  have h2 := (items_get _ _ _ _ _ hi).2
  rw [h1, ← Array.getElem?_toList]; exact h2
theorem its_of {i : Nat} {o : Oper} (h : ops[i]? = some o) : ∃ a, a ∈ Its ops ∧ a.i = i ∧ a.o = o ∧ (Its ops)[i]? = some a := by
  have hlt : i < ops.size := (Array.getElem?_eq_some_iff.1 h).1
  have hlt' : i < (Its ops).length := by rw [items_length]; simpa using hlt
  have hg : (Its ops)[i]? = some (Its ops)[i] := List.getElem?_eq_getElem hlt'
  refine ⟨(Its ops)[i], List.getElem_mem hlt', its_ix _ _ hg, ?_, hg⟩
  have h2 := (items_get _ _ _ _ _ hg).2
  rw [Array.getElem?_toList, h] at h2
  cases h2; rfl
theorem ws_its {x : It} (h : x ∈ wsOf (Its ops)) : x ∈ Its ops ∧ cls x.o = 2 := by
  unfold wsOf at h
  rw [List.mem_filter] at h
  exact ⟨h.1, Nat.eq_of_beq_eq_true h.2⟩
theorem ws_sorted : (wsOf (Its ops)).Pairwise fun a b => a.i < b.i := by
  unfold wsOf
  refine List.Pairwise.filter _ ?_
  rw [List.pairwise_iff_getElem]
  intro i j hi hj hij
  have h1 := its_ix (ops := ops) i _ (List.getElem?_eq_getElem hi)
  have h2 := its_ix (ops := ops) j _ (List.getElem?_eq_getElem hj)
  omega
theorem ws_inj {q q' : Nat} {x y : It} (hq : (wsOf (Its ops))[q]? = some x) (hq' : (wsOf (Its ops))[q']? = some y) (h : x.i = y.i) : q = q' := by
  have hs := ws_sorted (ops := ops)
  rw [List.pairwise_iff_getElem] at hs
  obtain ⟨l1, e1⟩ := List.getElem?_eq_some_iff.1 hq
  obtain ⟨l2, e2⟩ := List.getElem?_eq_some_iff.1 hq'
  rcases Nat.lt_trichotomy q q' with hlt | hlt | hlt
  · have := hs q q' l1 l2 hlt; rw [e1, e2] at this; omega
  · exact hlt
  · have := hs q' q l2 l1 hlt; rw [e1, e2] at this; omega

structure Inv (n : Nat) (ops : Array Oper) (t0 : Tm) (h0 : Hp) (Δ0 : Env) (w0 : World) (T : Tc) (listed : Array Bool) (j : Nat) (Δ : Env) (t : Tm) (a : Act) (w : World) : Prop where
  size : listed.size = ops.size
  closed : Closed (Its ops) (fun i => listed.getD i false)
  jle : j ≤ (wsOf (Its ops)).length
  ahead : ∀ q x, (wsOf (Its ops))[q]? = some x → (listed.getD x.i false = true ↔ q < j)
  tmps : TR Δ n t a
  temps : ∀ d, tget t d = lastV T.val (fun i => listed.getD i false) d (Its ops) (tget t0 d)
  world : WR Δ (T.H j) w
  frame : FR Δ0 Δ w0 w
  none : ∀ l, Δ0 l = .none → l < h0.next → Δ l = .none
  defers : t.ds = t0.ds
  away : ∀ x ∈ Its ops, cls x.o = 1 → T.on x.i = true → listed.getD x.i false = false → T.ep x.i ≤ j → Δ (T.pl x.i) = .none

theorem inv_any (hc : CallOk call) (hp : pairsOk (Its ops) = true) (hgd : (Its ops).all (guardOk (Its ops)) = true) (hed : (Its ops).all edgesOk = true) (hch : chainOk (wsOf (Its ops)) = true)
    {l : List It} (hl : ∀ a ∈ l, a ∈ Its ops) (hT : TraceOk n ops.toList (Its ops) (wsOf (Its ops)) call t0 h0 l 0 0 h0 [] r T T)
    (hds : r.1.ds = t0.ds) (hQ : ∀ Δ' a' w', Goes Δ0 h0 w0 n r.1 r.2 Δ' a' w' → Q .normal a' w') :
    ∀ (fuel : Nat) (listed : Array Bool) (a : Act) (w : World) (j : Nat) (Δ : Env) (t : Tm), listed.toList.count false ≤ fuel → Inv n ops t0 h0 Δ0 w0 T listed j Δ t a w → wpAny P0 .any ops Q fuel listed a w := by
  have allDone : ∀ (listed : Array Bool), listed.size = ops.size → Region.ready .any ops listed = [] → ∀ x ∈ Its ops, listed.getD x.i false = true := by
    intro listed hsz hr
    have key : ∀ i, i < ops.size → listed.getD i false = true := by
      intro i
      induction i using Nat.strongRecOn with
      | _ i ih =>
        intro hi
        cases hb : listed.getD i false with
        | true => rfl
        | false =>
          exfalso
          have ho : ops[i]? = some ops[i] := Array.getElem?_eq_getElem hi
          obtain ⟨x, hx, hxi, hxo, _⟩ := its_of ho
          have hmem : i ∈ Region.ready .any ops listed := by
            rw [mem_ready]
            refine ⟨?_, ops[i], ho, fun e he hb' => ?_⟩
            · have : i < listed.size := by omega
              simp [this] at hb ⊢
              exact hb
            · have h1 := List.all_eq_true.1 hed x hx
              unfold edgesOk at h1
              rw [hxo, hxi] at h1
              have h2 := List.all_eq_true.1 h1 e (by simpa using he)
              rw [← binds_any, hb'] at h2
              simp only [Bool.not_true, Bool.false_or, Nat.blt_eq] at h2
              exact ih e.on h2 (by omega)
          rw [hr] at hmem
          cases hmem
    intro x hx
    exact key x.i (Array.getElem?_eq_some_iff.1 (its_op hx)).1
  have finish : ∀ (listed : Array Bool) (a : Act) (w : World) (j : Nat) (Δ : Env) (t : Tm), Inv n ops t0 h0 Δ0 w0 T listed j Δ t a w → (∀ x ∈ Its ops, listed.getD x.i false = true) → Q .normal a w := by
    intro listed a w j Δ t hI hall
    have hj : j = (wsOf (Its ops)).length := by
      rcases Nat.lt_or_ge j (wsOf (Its ops)).length with h | h
      · have hg := List.getElem?_eq_getElem h
        have := (hI.ahead j _ hg).1 (hall _ (ws_its (List.getElem_mem h)).1)
        omega
      · have := hI.jle; omega
    subst hj
    refine hQ Δ a w ⟨⟨hI.tmps.size, fun i => ?_, by rw [hds, ← hI.defers]; exact hI.tmps.ds⟩, by rw [hT.last]; exact hI.world, hI.frame, ⟨?_, hI.none⟩⟩
    · have h1 := hI.tmps.rel i
      rw [hI.temps i, lastV_congr (D' := fun _ => true) (val' := T.val) (fun x hx _ => hall x hx) (fun _ _ _ _ => rfl), ← hT.temps i] at h1
      exact h1
    · rw [hT.last]
      exact Nat.le_trans hT.more.1 (chain_le hT.chain _ _ (by rw [Nat.zero_add]) (Nat.le_refl _))
  intro fuel
  induction fuel with
  | zero =>
    intro listed a w j Δ t hcnt hI
    have hall : ∀ x ∈ Its ops, listed.getD x.i false = true := by
      intro x hx
      have hlt : x.i < listed.size := by rw [hI.size]; exact (Array.getElem?_eq_some_iff.1 (its_op hx)).1
      cases hb : listed.getD x.i false with
      | true => rfl
      | false =>
        exfalso
        have : false ∈ listed.toList := by
          have : listed[x.i] = false := by simpa [hlt] using hb
          rw [← this]; simp
        have := List.count_pos_iff.2 this
        omega
    refine ⟨?_, finish _ _ _ _ _ _ hI hall⟩
    rw [List.eq_nil_iff_forall_not_mem]
    intro i hi
    rw [mem_ready] at hi
    obtain ⟨h1, o, ho, _⟩ := hi
    obtain ⟨x, hx, hxi, _, _⟩ := its_of ho
    have := hall x hx
    rw [hxi] at this
    have hlt : i < listed.size := by rw [hI.size]; exact (Array.getElem?_eq_some_iff.1 ho).1
    simp [hlt] at h1 this
    rw [h1] at this; cases this
  | succ fuel ih =>
    intro listed act w j Δ t hcnt hI
    refine ⟨fun hr => finish _ _ _ _ _ _ hI (allDone _ hI.size hr), fun i hi => ?_⟩
    rw [mem_ready] at hi
    obtain ⟨hun, o, ho, hedges⟩ := hi
    obtain ⟨a, ha, hai, hao, hgeta⟩ := its_of ho
    have hlt : i < listed.size := by rw [hI.size]; exact (Array.getElem?_eq_some_iff.1 ho).1
    have hunl : listed.getD a.i false = false := by rw [hai]; simp [hlt] at hun ⊢; exact hun
    have hpreds : ∀ x ∈ Its ops, a.b.testBit x.i = true → listed.getD x.i false = true := by
      intro x hx hb
      obtain ⟨e, he, hbe, h1⟩ := items_pred hgeta hb
      rw [hao] at he
      have hon := hedges e (by simpa using he) (by rw [binds_any]; exact hbe)
      rcases h1 with h1 | ⟨y, hy, hyb⟩
      · rw [h1]; exact hon
      · have hyi := its_ix _ _ hy
        exact hI.closed y (List.mem_iff_getElem?.2 ⟨_, hy⟩) (by show listed.getD y.i false = true; rw [hyi]; exact hon) x hx hyb
    obtain ⟨D, hit⟩ : ∃ D, ItemOk n ops.toList (Its ops) (wsOf (Its ops)) call t0 h0 T D a := by
      rcases hT.done a ha with h1 | h1
      · simp at h1
      · obtain ⟨b, hb, hbi⟩ := List.mem_map.1 h1
        rw [its_eq ha (hl b hb) hbi.symm]
        exact hT.item b hb
    have inList : ∀ y ∈ Its ops, y ∈ l := by
      intro y hy
      rcases hT.done y hy with h1 | h1
      · simp at h1
      · obtain ⟨b, hb, hbi⟩ := List.mem_map.1 h1
        rw [its_eq hy (hl b hb) hbi.symm]
        exact hb
    have hal := inList a ha
    -- what it names stands as the plain machine had it
    have hnames : ∀ d, d ∈ namesOf a.o → tget t d = tget (T.tt a.i) d := fun d hd => by
      rw [hI.temps d, hit.temps d]
      exact names_same its_ix hp ha hI.closed hit.closed hpreds hit.preds hunl hit.fresh hd _ _
    have halike : ∀ x ∈ a.o.op.operands.toList, Alike t (T.tt a.i) x := alike_tmps fun d hd => hnames d (by simp [namesOf, hd])
    have hwants : wants n ops.toList a.o t = some (T.on a.i) := by
      rw [← hit.wants]
      refine wants_alike fun jg wg oj d hg hj hd => ?_
      have hgk := List.all_eq_true.1 hgd a ha
      unfold guardOk at hgk
      rw [hg] at hgk
      simp only at hgk
      cases hjt : (Its ops)[jg]? with
      | none => rw [hjt] at hgk; cases hgk
      | some g =>
        rw [hjt] at hgk
        simp only at hgk
        have hgo : g.o = oj := by
          have := (items_get _ _ _ _ _ hjt).2
          rw [hj] at this; cases this; rfl
        rw [hgo, hd] at hgk
        simp only [Bool.and_eq_true] at hgk
        obtain ⟨hbit, honly⟩ := hgk
        have hgi := its_ix _ _ hjt
        have hgm : g ∈ Its ops := List.mem_iff_getElem?.2 ⟨_, hjt⟩
        rw [hI.temps d, hit.temps d]
        refine lastV_congr (fun x hx hxd => ?_) (fun _ _ _ _ => rfl) _
        have h1 := List.all_eq_true.1 honly x hx
        rw [hxd] at h1
        have h2 : x.i = jg := by simpa using h1
        have h3 : x = g := its_eq hx hgm (by omega)
        subst h3
        rw [hpreds x hx (by rw [hgi]; exact hbit), hit.preds x hx (by rw [hgi]; exact hbit)]
    have hwanted : Region.wanted o (yielded ops act.tmps) = T.on a.i := by rw [← hao]; exact wants_wanted hI.tmps hwants
    obtain ⟨d, hd⟩ := hit.dst
    -- the next state of the list
    have hS' : ∀ i', (listed.setIfInBounds i true).getD i' false = (listed.getD i' false || decide (a.i = i')) := fun i' => by
      by_cases e : i = i'
      · subst e; simp [hlt, hai]
      · rw [getD_set_ne false e]
        have : ¬ a.i = i' := by rw [hai]; exact e
        simp [this]
    have hcnt' : (listed.setIfInBounds i true).toList.count false ≤ fuel := by
      have h1 : listed.toList[i]? = some false := by
        rw [Array.getElem?_toList]
        have : listed.getD a.i false = false := hunl
        rw [hai] at this
        simpa [hlt] using this
      have := count_set listed.toList i h1
      rw [Array.toList_setIfInBounds]
      omega
    have hclosed' : Closed (Its ops) (fun i' => (listed.setIfInBounds i true).getD i' false) := by
      intro x hx hxs y hy hyb
      simp only [hS', Bool.or_eq_true, decide_eq_true_eq] at hxs ⊢
      rcases hxs with hxs | hxs
      · exact .inl (hI.closed x hx hxs y hy hyb)
      · have := its_eq ha hx hxs
        subst this
        exact .inl (hpreds y hy hyb)
    have htemps' : ∀ d', tget (d.f t (T.val a.i)) d' = lastV T.val (fun i' => (listed.setIfInBounds i true).getD i' false) d' (Its ops) (tget t0 d') := fun d' => by
      rw [dstC_get hd, lastV_put its_ix hp ha hI.closed hunl hS' (val := T.val) (val' := T.val) (fun _ _ => rfl) d' (tget t0 d'), hI.temps d']
    -- the next state of it all
    have next : ∀ (j' : Nat) (Δ' : Env) (x : Value) (w' : World), VRel Δ' (T.val a.i) x → WR Δ' (T.H j') w' → FR Δ Δ' w w' → j' ≤ (wsOf (Its ops)).length →
        (∀ q y, (wsOf (Its ops))[q]? = some y → ((listed.setIfInBounds i true).getD y.i false = true ↔ q < j')) →
        (∀ y ∈ Its ops, cls y.o = 1 → T.on y.i = true → (listed.setIfInBounds i true).getD y.i false = false → T.ep y.i ≤ j' → Δ' (T.pl y.i) = none) →
        (∀ l, Δ0 l = none → l < h0.next → Δ' l = none) → wpAny P0 .any ops Q fuel (listed.setIfInBounds i true) (act.put o.dst x) w' := by
      intro j' Δ' x w' hA1 hA2 hA3 hj' hahead' haway' hnone'
      refine ih _ _ _ j' Δ' (d.f t (T.val a.i)) hcnt' ⟨by simp [hI.size], hclosed', hj', hahead', ?_, htemps', hA2, hI.frame.trans hA3, hnone', by rw [dstC_ds hd]; exact hI.defers, haway'⟩
      have := put_ok (hI.tmps.mono hA3.le) hd hA1
      rw [hao] at this
      exact this
    have h0H : h0.next ≤ (T.H j).next := Nat.le_trans hT.more.1 (chain_le hT.chain j j (by omega) hI.jle)
    have hlate : j ≤ late (wsOf (Its ops)) a := by
      rcases Nat.lt_or_ge (late (wsOf (Its ops)) a) j with h | h
      · exfalso
        obtain ⟨x, hx, hxb⟩ := late_spec (wsOf (Its ops)) a (by have := hI.jle; omega)
        have h1 := (hI.ahead _ x hx).2 h
        have := hI.closed x (ws_its (List.mem_iff_getElem?.2 ⟨_, hx⟩)).1 h1 a ha hxb
        simp only at this
        rw [hunl] at this; cases this
      · exact h
    -- what does not write leaves the number of those that wrote
    have still : cls a.o ≠ 2 → ∀ q y, (wsOf (Its ops))[q]? = some y → ((listed.setIfInBounds i true).getD y.i false = true ↔ q < j) := by
      intro hne q y hq
      rw [hS', ← hI.ahead q y hq]
      have hy := ws_its (List.mem_iff_getElem?.2 ⟨_, hq⟩)
      have : ¬ a.i = y.i := fun e => by
        have := its_eq ha hy.1 e
        subst this
        exact hne hy.2
      simp [this]
    have hep : cls a.o ≠ 2 → T.ep a.i ≤ j := by
      intro hne
      have h1 := hit.epw hne
      cases he : T.ep a.i with
      | zero => omega
      | succ e =>
        rw [he] at h1
        simp only [afterOk] at h1
        split at h1
        · rename_i x hx
          have hxm := (ws_its (List.mem_iff_getElem?.2 ⟨_, hx⟩)).1
          have := (hI.ahead _ x hx).1 (hpreds x hxm h1)
          omega
        · cases h1
    have staysNone : ∀ y ∈ Its ops, cls y.o = 1 → T.on y.i = true → (listed.setIfInBounds i true).getD y.i false = false → T.ep y.i ≤ j → Δ (T.pl y.i) = none ∧ y.i ≠ a.i := by
      intro y hy h1 h2 h3 h4
      rw [hS'] at h3
      simp only [Bool.or_eq_false_iff, decide_eq_false_iff_not] at h3
      exact ⟨hI.away y hy h1 h2 h3.1 h4, fun e => h3.2 e.symm⟩
    have placeIn : ∀ y ∈ Its ops, cls y.o = 1 → T.on y.i = true → T.ep y.i ≤ j → T.pl y.i < (T.H j).next := by
      intro y hy h1 h2 h3
      rcases hT.done y hy with h4 | h4
      · simp at h4
      · obtain ⟨b, hb, hbi⟩ := List.mem_map.1 h4
        have := its_eq hy (hl b hb) hbi.symm
        subst this
        obtain ⟨_, hity⟩ := hT.item y hb
        exact ((hity.alloc h1 h2).2.1 j h3 hI.jle).1
    -- one that writes
    have epj : cls a.o = 2 → isW (wsOf (Its ops)) a (T.ep a.i) = true → T.ep a.i = j ∧ (wsOf (Its ops))[j]? = some a := by
      intro _ hw
      unfold isW at hw
      split at hw
      · rename_i x hx
        have hxa := its_eq (ws_its (List.mem_iff_getElem?.2 ⟨_, hx⟩)).1 ha (Nat.eq_of_beq_eq_true hw)
        subst hxa
        have hge : ¬ T.ep x.i < j := fun h => by
          have := (hI.ahead _ x hx).2 h
          rw [hunl] at this; cases this
        have hle : T.ep x.i ≤ j := by
          cases he : T.ep x.i with
          | zero => omega
          | succ e =>
            rw [he] at hx
            have hlt' : e < (wsOf (Its ops)).length := by have := (List.getElem?_eq_some_iff.1 hx).1; omega
            have hg := List.getElem?_eq_getElem hlt'
            have hb := chainOk_get hch e _ x hg hx
            have := (hI.ahead e _ hg).1 (hpreds _ (ws_its (List.getElem_mem hlt')).1 hb)
            omega
        have : T.ep x.i = j := by omega
        rw [this] at hx
        exact ⟨this, hx⟩
      · cases hw
    have moved : cls a.o = 2 → isW (wsOf (Its ops)) a (T.ep a.i) = true → ∀ q y, (wsOf (Its ops))[q]? = some y → ((listed.setIfInBounds i true).getD y.i false = true ↔ q < j + 1) := by
      intro hcl hw q y hq
      obtain ⟨_, hx⟩ := epj hcl hw
      rw [hS']
      simp only [Bool.or_eq_true, decide_eq_true_eq, hI.ahead q y hq]
      constructor
      · rintro (h | h)
        · omega
        · have := ws_inj hx hq h; omega
      · intro h
        rcases Nat.lt_or_ge q j with h1 | h1
        · exact .inl h1
        · have : q = j := by omega
          subst this
          rw [hx] at hq; cases hq
          exact .inr rfl
    have awayW : cls a.o = 2 → isW (wsOf (Its ops)) a (T.ep a.i) = true → ∀ (Δ' : Env) (w' : World), WR Δ' (T.G j) w' → Gr (T.H j) Δ (T.G j) Δ' →
        ∀ y ∈ Its ops, cls y.o = 1 → T.on y.i = true → (listed.setIfInBounds i true).getD y.i false = false → T.ep y.i ≤ j + 1 → Δ' (T.pl y.i) = none := by
      intro hcl hw Δ' w' hW' hG' y hy h1 h2 h3 h4
      rcases Nat.lt_or_ge j (T.ep y.i) with h5 | h5
      · obtain ⟨_, hity⟩ := hT.item y (inList y hy)
        have hlow := (hity.alloc h1 h2).2.2.1 j h5
        cases hd' : Δ' (T.pl y.i) with
        | none => rfl
        | some e => have := hW'.fresh _ _ hd'; omega
      · exact hG'.none _ (staysNone y hy h1 h2 h3 h5).1 (placeIn y hy h1 h2 h5)
    unfold wpOp
    simp only [ho]
    rw [hwanted]
    cases hon : T.on a.i with
    | false =>
      simp only [Bool.false_eq_true, if_false]
      have hv := hit.off hon
      rcases cls_cases a.o with hcl | hcl | hcl
      · exact next j Δ undef w (by rw [hv]; exact .undef Δ) hI.world (.refl _ _) hI.jle (still (by rw [hcl]; decide)) (fun y hy h1 h2 h3 h4 => (staysNone y hy h1 h2 h3 h4).1) hI.none
      · exact next j Δ undef w (by rw [hv]; exact .undef Δ) hI.world (.refl _ _) hI.jle (still (by rw [hcl]; decide)) (fun y hy h1 h2 h3 h4 => (staysNone y hy h1 h2 h3 h4).1) hI.none
      · obtain ⟨hep', _, hoff⟩ := hit.write hcl
        obtain ⟨hej, hxj⟩ := epj hcl hep'
        have hG := hoff hon
        rw [hej] at hG
        have hjl : j < (wsOf (Its ops)).length := (List.getElem?_eq_some_iff.1 hxj).1
        obtain ⟨hm1, hm2⟩ := hT.chain j (Nat.zero_le _) hjl
        have hWG : WR Δ (T.G j) w := by rw [hG]; exact hI.world
        exact next (j + 1) Δ undef w (by rw [hv]; exact .undef Δ) (hWG.onward hm2) (.refl _ _) hjl (moved hcl hep') (awayW hcl hep' Δ w hWG (by rw [hG]; exact .refl _ _)) hI.none
    | true =>
      simp only [if_true]
      left
      rcases cls_cases a.o with hcl | hcl | hcl
      · have hpv := hit.pure hcl hon j (hep (by rw [hcl]; decide)) hI.jle hlate
        rw [← pure_alike (h := T.H j) halike] at hpv
        have hov : (opC a.o).f call t (T.H j) = some (T.val a.i, T.H j) := by
          unfold opC
          rw [hcl]
          simp only [oB_eq]
          exact ⟨_, hpv, rfl⟩
        rw [← hao]
        refine op_wp hc hI.world hI.tmps hov fun Δ' x w' hA => ?_
        rw [hao]
        exact next j Δ' x w' hA.val hA.world hA.frame hI.jle (still (by rw [hcl]; decide)) (fun y hy h1 h2 h3 h4 => hA.grow.none _ (staysNone y hy h1 h2 h3 h4).1 (placeIn y hy h1 h2 h4))
          (fun l' h1 h2 => hA.grow.none _ (hI.none l' h1 h2) (Nat.lt_of_lt_of_le h2 h0H))
      · obtain ⟨⟨mk, hav, hval⟩, hin, _, hlow⟩ := hit.alloc hcl hon
        obtain ⟨hpl, hob⟩ := hin j (hep (by rw [hcl]; decide)) hI.jle
        have hob' := hob hlate
        rw [← alloc_alike halike] at hav
        obtain ⟨mo, mv, hrun, hmade⟩ := alloc_ok hI.tmps hav
        have hnone := hI.away a ha hcl hon hunl (hep (by rw [hcl]; decide))
        obtain ⟨dd, hb, hor, hvr⟩ := hmade (T.pl a.i) w.heap.size hnone
        rw [← hao]
        unfold Oper.wp
        rw [hrun w, Oper.upon_value, hao]
        refine next j (Δ.set (T.pl a.i) dd) _ _ (by rw [hval]; exact hvr) (hI.world.lay hnone hpl hob' hb hor) (FR.lay hnone hb) hI.jle (still (by rw [hcl]; decide)) (fun y hy h1 h2 h3 h4 => ?_) (fun l' h1 h2 => ?_)
        · obtain ⟨e1, e2⟩ := staysNone y hy h1 h2 h3 h4
          have := hT.pdist y (inList y hy) a hal h1 hcl h2 hon e2
          unfold Env.set
          rw [if_neg this]; exact e1
        · have : l' ≠ T.pl a.i := by omega
          unfold Env.set
          rw [if_neg this]; exact hI.none l' h1 h2
      · obtain ⟨hep', hrun, _⟩ := hit.write hcl
        obtain ⟨hej, hxj⟩ := epj hcl hep'
        have hov := hrun hon
        rw [hej, ← op_alike (h := T.H j) halike] at hov
        have hjl : j < (wsOf (Its ops)).length := (List.getElem?_eq_some_iff.1 hxj).1
        obtain ⟨hm1, hm2⟩ := hT.chain j (Nat.zero_le _) hjl
        rw [← hao]
        refine op_wp hc hI.world hI.tmps hov fun Δ' x w' hA => ?_
        rw [hao]
        exact next (j + 1) Δ' x w' hA.val (hA.world.onward hm2) hA.frame hjl (moved hcl hep') (awayW hcl hep' Δ' w' hA.world hA.grow)
          (fun l' h1 h2 => hA.grow.none _ (hI.none l' h1 h2) (Nat.lt_of_lt_of_le h2 h0H))
end
end Go.Proofs.YtbmlegogjhmmbaaDoor.Hx
