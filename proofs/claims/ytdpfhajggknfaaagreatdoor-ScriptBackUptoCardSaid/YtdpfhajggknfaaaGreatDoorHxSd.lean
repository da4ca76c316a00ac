/- Chapter 30's text: an event is a line, or refused, by the program as by the document; the law of printed events. -/
import Derived.Test.YtdpfhajggknfaaaGreatDoorHxVP
import Derived.Test.YtdpfhajggknfaaaGreatDoorHxSc
namespace Go.Proofs.YtdpfhajggknfaaaGreatDoor.Hx
open Go.Proofs.YtdpfhajggknfaaaGreatDoor Go.Lib

/-- The numbers of a row of counts, behind those that are there. -/
theorem pI_L0 {e : Tx.Ev} {v x4 : V} {b a : Nat} {h : Hp} {l0 : List Int} {Q : V → Hp → Prop} (hb : b ≤ a) (hbn : a ≤ h.next) (hv : SlR eT b h e.ty v) (h8 : e.ty.length ≤ 8) (hown : Own 3 1 a h (intCells l0) l0.length x4) (hl0 : l0.length ≤ 4)
    (H : ∀ v' h', Chg (fun m => a ≤ m) h h' → Own 3 1 a h' (intCells (l0 ++ Tx.flat e.ty)) (l0 ++ Tx.flat e.ty).length v' → Q (.tuple [v', .bool true]) h') : J_script_ints_L0 CS Q x4 v (.int .i64 (e.ty.length : Nat)) (.int .i64 0) h := by
  refine l_script_ints_L0 (fun k x4 x51 x52 x53 h' => ∃ (t1 t2 : List (Int × Int)), e.ty = t1 ++ t2 ∧ k = t2.length ∧ x51 = v ∧ x52 = .int .i64 (e.ty.length : Nat) ∧ x53 = .int .i64 (t1.length : Nat) ∧ Chg (fun m => a ≤ m) h h' ∧ Own 3 1 a h' (intCells (l0 ++ Tx.flat t1)) (l0 ++ Tx.flat t1).length x4) ?_
    ⟨[], e.ty, rfl, rfl, rfl, rfl, rfl, Chg.refl _ _, by simpa [Tx.flat] using hown⟩
  clear hown
  rintro k x4 x51 x52 x53 h1 ⟨t1, t2, hsp, rfl, rfl, rfl, rfl, hch, hown⟩
  have hflat : ∀ (t : List (Int × Int)), (Tx.flat t).length = 2 * t.length := by
    intro t
    induction t with
    | nil => rfl
    | cons x t ih => simp only [Tx.flat, List.length_cons, ih]; omega
  have happ : ∀ (t u : List (Int × Int)), Tx.flat (t ++ u) = Tx.flat t ++ Tx.flat u := by
    intro t u
    induction t with
    | nil => rfl
    | cons x t ih => simp only [List.cons_append, Tx.flat, ih]
  unfold B_script_ints_L0
  simp only [hbin_lss, oP_some', bP_bool', decide_eq_true_eq]
  have hl : e.ty.length = t1.length + t2.length := by rw [hsp]; simp
  split
  · rename_i hlt
    obtain ⟨x, r, rfl⟩ : ∃ x r, t2 = x :: r := by
      cases t2 with
      | nil => rw [List.length_nil] at hl; omega
      | cons x r => exact ⟨x, r, rfl⟩
    have hv1 : SlR eT b h1 e.ty x51 := hv.chg hch (by omega) fun l hl => by omega
    obtain ⟨l1, o1, w1, _, p1, p2, p3, _⟩ := hv1.ix (i := t1.length) (by omega) .i64
    have hx : e.ty[t1.length]'(by omega) = x := by simp only [hsp]; simp
    rw [hx] at p3
    obtain rfl := rel_seen p3
    have p1' : pIx 2 x51 (.int .i64 (t1.length : Nat)) = some (.ptr l1 o1) := p1
    have p2' : pLdA 2 (.ptr l1 o1) h1 = some (.agg [.int .i64 x.1, .int .i64 x.2]) := p2
    have s1 := pSt_all (n := 2) (ws := [.int .i64 x.1, .int .i64 x.2]) (get_new_self h1 (.cells 60 1 true false [.int .i64 0, .int .i64 0])) rfl rfl rfl
    have l2n : h1.next < (h1.new (.cells 60 1 true false [.int .i64 0, .int .i64 0])).next := by simp
    simp only [p1', oP_some', p2', alP_some, s1, valP_some]
    have hc2 : Chg (fun m => a ≤ m) h1 ((h1.new (.cells 60 1 true false [.int .i64 0, .int .i64 0])).put h1.next (.cells 60 1 true false [.int .i64 x.1, .int .i64 x.2])) :=
      (Chg.new _ _).trans (Chg.put _ (by have := hch.next; omega) l2n)
    have hc2' : Chg (fun m => m = h1.next) h1 ((h1.new (.cells 60 1 true false [.int .i64 0, .int .i64 0])).put h1.next (.cells 60 1 true false [.int .i64 x.1, .int .i64 x.2])) :=
      (Chg.new _ _).trans (Chg.put _ rfl l2n)
    have g2 : ((h1.new (.cells 60 1 true false [.int .i64 0, .int .i64 0])).put h1.next (.cells 60 1 true false [.int .i64 x.1, .int .i64 x.2])).get h1.next = some (.cells 60 1 true false [.int .i64 x.1, .int .i64 x.2]) := get_put_self _ l2n
    generalize (h1.new (.cells 60 1 true false [.int .i64 0, .int .i64 0])).put h1.next (.cells 60 1 true false [.int .i64 x.1, .int .i64 x.2]) = h2 at *
    have g3 : pLd (.ptr h1.next 0) h2 = some (.int .i64 x.1) := pLd_get g2 rfl
    have g4 : pLd (.ptr h1.next 1) h2 = some (.int .i64 x.2) := pLd_get g2 rfl
    have hbs : pBS 3 1 2 (V.int .i64 0) [(0, V.int .i64 x.1), (1, V.int .i64 x.2)] = some (.cells 3 1 true false [.int .i64 x.1, .int .i64 x.2], fun l => .slice l 0 2) := rfl
    simp only [pFA_ptr, oP_some', Nat.zero_add, g3, g4, hbs, alP_some]
    have hown2 : Own 3 1 a h2 (intCells (l0 ++ Tx.flat t1)) (l0 ++ Tx.flat t1).length x4 := hown.chg hc2' fun m _ hm e => by omega
    have hlen : (l0 ++ Tx.flat t1).length ≤ 20 := by rw [List.length_append, hflat]; omega
    obtain ⟨v3, h3, c1, c2, c3, c4, c5⟩ := (hown2.chg (Chg.new (S := fun _ => False) h2 (.cells 3 1 true false [.int .i64 x.1, .int .i64 x.2])) fun _ _ _ h => h).append (by_ := 8) (xcells_new (k := 1) (sz := 1) (e := 3) (h := h2) (cs := [.int .i64 x.1, .int .i64 x.2]) (ro := false) rfl) (by omega) rfl (intCells_one _) rfl (by have := hch.next; have := hc2.next; simp; omega) (by omega) (by omega) (by omega)
    have w1 : wrapF .i64 ((t1.length : Nat) + 1) = ((t1.length + 1 : Nat) : Int) := by rw [wrapF_in (by simp only [inK]; omega)]; omega
    simp only [c1, valP_some, hbin_add, w1, oP_some']
    have hrow : ∀ m, x4 = .slice m 0 (l0 ++ Tx.flat t1).length → a ≤ m := fun m e9 => by
      rcases hown with ⟨h9, _⟩ | ⟨t, h9, ht, _⟩
      · rw [e9] at h9; cases h9
      · rw [e9] at h9; cases h9; exact ht
    have hfx : l0 ++ Tx.flat (t1 ++ [x]) = (l0 ++ Tx.flat t1) ++ [x.1, x.2] := by rw [happ]; simp [Tx.flat]
    refine ⟨r.length, by simp, t1 ++ [x], r, by rw [hsp]; simp, rfl, by trivial, by trivial, by rw [List.length_append]; rfl, hch.trans (hc2.trans ((Chg.new _ _).trans' c3 fun m hm e9 => hrow m e9)), ?_⟩
    rw [hfx, intCells_append]
    have : ((l0 ++ Tx.flat t1) ++ [x.1, x.2]).length = (l0 ++ Tx.flat t1).length + (1 + 1) := by simp; omega
    rw [this]
    exact c2
  · rename_i hge
    have : t2 = [] := List.eq_nil_of_length_eq_zero (by omega)
    subst this
    have he : e.ty = t1 := by rw [hsp]; simp
    rw [← he] at hown
    exact H _ _ hch hown
theorem own_new {a : Nat} {h : Hp} (l : List Int) (ha : a ≤ h.next) : Own 3 1 a (h.new (.cells 3 1 true false (intCells l))) (intCells l) l.length (.slice h.next 0 l.length) :=
  .inr ⟨h.next, rfl, ha, Nat.lt_succ_self _, get_new_self _ _, by rw [intCells_length]; omega⟩
theorem pBS_i1 (a : Int) : pBS 3 1 1 (V.int .i64 0) [(0, V.int .i64 a)] = some (.cells 3 1 true false (intCells [a]), fun l => .slice l 0 1) := rfl
theorem pBS_i2 (a b : Int) : pBS 3 1 2 (V.int .i64 0) [(0, V.int .i64 a), (1, V.int .i64 b)] = some (.cells 3 1 true false (intCells [a, b]), fun l => .slice l 0 2) := rfl
theorem pBS_i4 (a b c d : Int) : pBS 3 1 4 (V.int .i64 0) [(0, V.int .i64 a), (1, V.int .i64 b), (2, V.int .i64 c), (3, V.int .i64 d)] = some (.cells 3 1 true false (intCells [a, b, c, d]), fun l => .slice l 0 4) := rfl
/-- The loads of an event that lies at a place. -/
theorem ev_loads {e : Tx.Ev} {v : V} {l : Nat} {h : Hp} (hg : h.get l = some (.cells 26 1 true false (evCells e v))) :
    pLd (.ptr l 0) h = some (.int .i64 e.kind) ∧ pLd (.ptr l 1) h = some (.int .i64 e.f) ∧ pLd (.ptr l 2) h = some (.int .i64 e.pc) ∧ pLd (.ptr l 3) h = some (.int .i64 e.n) ∧ pLd (.ptr l 4) h = some (.int .i64 e.cf) ∧
    pLd (.ptr l 5) h = some (.int .i64 e.cpc) ∧ pLd (.ptr l 6) h = some (.int .i64 e.cy) ∧ pLd (.ptr l 7) h = some (.int .i64 e.cn) ∧ pLd (.ptr l 8) h = some v :=
  ⟨pLd_get hg rfl, pLd_get hg rfl, pLd_get hg rfl, pLd_get hg rfl, pLd_get hg rfl, pLd_get hg rfl, pLd_get hg rfl, pLd_get hg rfl, pLd_get hg rfl⟩
theorem ct_ints {e : Tx.Ev} {v : V} {b : Nat} {h : Hp} {Q : V → Hp → Prop} (hb : b ≤ h.next) (hv : SlR eT b h e.ty v) (H1 : ∀ l, Tx.intsOf e = some l → ∀ v' h', Grows h h' → Own 3 1 h.next h' (intCells l) l.length v' → Q (.tuple [v', .bool true]) h')
    (H2 : Tx.intsOf e = none → ∀ h', Grows h h' → Q (.tuple [.nilSlice, .bool false]) h') : cP CS n_script_ints [.agg (evCells e v)] h Q := by
  refine c_script_ints rfl rfl ?_
  unfold B_script_ints
  simp only [hbox_all (evCells_one e hv.one), alP_some]
  have hg1 : Grows h (h.new (.cells 26 1 true false (evCells e v))) := Chg.new _ _
  have hev := get_new_self h (.cells 26 1 true false (evCells e v))
  have hn1 : (h.new (.cells 26 1 true false (evCells e v))).next = h.next + 1 := rfl
  have hv1 := hv.ext hg1 hb
  generalize h.new (.cells 26 1 true false (evCells e v)) = h1 at *
  obtain ⟨k0, k1, k2, k3, k4, k5, k6, k7, k8⟩ := ev_loads hev
  simp only [pFA_ptr, oP_some', Nat.zero_add, k0, hbin_eql, bP_bool', beq_iff_eq]
  have q (a b : Int) : hbin .eql 3 (.int .i64 a) (.int .i64 b) = some (.bool (a == b)) := hbin_eql 3 .i64 a b
  have hrow : ∀ l, Tx.intsOf e = some l → Q (.tuple [.slice h1.next 0 l.length, .bool true]) (h1.new (.cells 3 1 true false (intCells l))) := fun l hl => H1 l hl _ _ (hg1.trans (Chg.new _ _)) (own_new l (by omega))
  -- one number
  have r4t : (e.kind = 1 ∨ e.kind = 3 ∨ e.kind = 7) → J_script_ints_R4 CS Q (.ptr h.next 0) (.int .i64 e.kind) (.bool true) h1 := by
    intro hk
    refine j_script_ints_R4 ?_
    unfold B_script_ints_R4
    simp only [bP_bool', if_true, pFA_ptr, oP_some', Nat.zero_add, k3, pBS_i1, alP_some]
    exact hrow [e.n] (by unfold Tx.intsOf; rw [if_pos hk])
  have r9t : ¬ (e.kind = 1 ∨ e.kind = 3 ∨ e.kind = 7) → (e.kind = 2 ∨ e.kind = 4) → J_script_ints_R9 CS Q (.ptr h.next 0) (.int .i64 e.kind) (.bool true) h1 := by
    intro hn hk
    refine j_script_ints_R9 ?_
    unfold B_script_ints_R9
    simp only [bP_bool', if_true, pFA_ptr, oP_some', Nat.zero_add, k1, k2, pBS_i2, alP_some]
    exact hrow [e.f, e.pc] (by unfold Tx.intsOf; rw [if_neg hn, if_pos hk])
  have r9f : ¬ (e.kind = 1 ∨ e.kind = 3 ∨ e.kind = 7) → ¬ (e.kind = 2 ∨ e.kind = 4) → J_script_ints_R9 CS Q (.ptr h.next 0) (.int .i64 e.kind) (.bool false) h1 := by
    intro hn hm
    refine j_script_ints_R9 ?_
    unfold B_script_ints_R9
    simp only [bP_bool', Bool.false_eq_true, if_false, q, oP_some', beq_iff_eq]
    split
    · rename_i h5
      simp only [pFA_ptr, oP_some', Nat.zero_add, k1, pBS_i1, alP_some]
      exact hrow [e.f] (by unfold Tx.intsOf; rw [if_neg hn, if_neg hm, if_pos h5])
    rename_i h5
    split
    · rename_i h6
      have hi : ∀ p : Prop, [Decidable p] → e.ty.length ≤ 8 → Tx.intsOf e = some (e.cf :: e.cpc :: e.cy :: e.cn :: Tx.flat e.ty) := fun _ _ h8 => by
        unfold Tx.intsOf
        rw [if_neg hn, if_neg hm, if_neg h5, if_pos h6, if_pos h8]
      have hg3 : Grows h1 (h1.new (.cells 3 1 true false (intCells [e.cf, e.cpc, e.cy, e.cn]))) := Chg.new _ _
      have m8 : pLd (.ptr h.next 8) (h1.new (.cells 3 1 true false (intCells [e.cf, e.cpc, e.cy, e.cn]))) = some v := pLd_get (by rw [hg3.keep _ (by omega) (fun h => h)]; exact hev) rfl
      have hv3 := hv1.ext hg3 (by omega)
      simp only [pFA_ptr, oP_some', Nat.zero_add, Nat.add_zero, Nat.reduceAdd, k4, k5, k6, k7, pBS_i4, alP_some, m8, hv3.len, hbin_gtr, bP_bool', decide_eq_true_eq]
      split
      · rename_i h8
        refine H2 ?_ _ (hg1.trans hg3)
        unfold Tx.intsOf
        rw [if_neg hn, if_neg hm, if_neg h5, if_pos h6, if_neg (by omega)]
      · rename_i h8
        refine pI_L0 (a := h1.next) (l0 := [e.cf, e.cpc, e.cy, e.cn]) (b := b) (by omega) (by simp) hv3 (by omega) (own_new _ (Nat.le_refl _)) (by simp) fun v' h' hc ho => ?_
        exact H1 _ (hi True (by omega)) _ _ (grows_trans (hg1.trans hg3) hc fun l hl e => by omega) (ho.low (by omega))
    · rename_i h6
      refine H2 ?_ _ hg1
      unfold Tx.intsOf
      rw [if_neg hn, if_neg hm, if_neg h5, if_neg h6]
  have r4f : ¬ (e.kind = 1 ∨ e.kind = 3 ∨ e.kind = 7) → J_script_ints_R4 CS Q (.ptr h.next 0) (.int .i64 e.kind) (.bool false) h1 := by
    intro hn
    refine j_script_ints_R4 ?_
    unfold B_script_ints_R4
    simp only [bP_bool', Bool.false_eq_true, if_false, q, oP_some', beq_iff_eq]
    split
    · rename_i h2
      have := r9t hn (.inl h2)
      rw [show (e.kind == 2) = true by simp [h2]]
      exact this
    · rename_i h2
      by_cases h4 : e.kind = 4
      · rw [show (e.kind == 4) = true by simp [h4]]
        exact r9t hn (.inr h4)
      · rw [show (e.kind == 4) = false by simp [h4]]
        exact r9f hn (by omega)
  split
  · rename_i h2
    rw [show (e.kind == 1) = true by simp [h2]]
    exact r4t (.inl h2)
  rename_i h2
  split
  · rename_i h3
    rw [show (e.kind == 3) = true by simp [h3]]
    exact r4t (.inr (.inl h3))
  rename_i h3
  by_cases h7 : e.kind = 7
  · rw [show (e.kind == 7) = true by simp [h7]]
    exact r4t (.inr (.inr h7))
  · rw [show (e.kind == 7) = false by simp [h7]]
    exact r4f (by omega)
def printR (e : Tx.Ev) : Tx.Bs × Int := match Tx.printM e with
  | some s => (s, 0)
  | none => ([], 1)
theorem nameI_len (k : Int) : (nameI k).length ≤ 10 := by
  unfold nameI
  repeat' split
  all_goals decide
theorem nameI_kind {e : Tx.Ev} {l : List Int} (h : Tx.intsOf e = some l) : nameI e.kind = Tx.nameOf e.kind.toNat := by
  have hk : e.kind = 1 ∨ e.kind = 2 ∨ e.kind = 3 ∨ e.kind = 4 ∨ e.kind = 5 ∨ e.kind = 6 ∨ e.kind = 7 := by
    unfold Tx.intsOf at h
    split at h
    · omega
    split at h
    · omega
    split at h
    · omega
    split at h
    · omega
    · cases h
  rcases hk with h | h | h | h | h | h | h <;> rw [h] <;> rfl
theorem tail_snoc (l : List Tx.Bs) (w : Tx.Bs) : Tx.tail 32 (l ++ [w]) = Tx.tail 32 l ++ (32 :: w) := by simp [Tx.tail]
theorem tail_len : ∀ (l : List Int), (∀ n ∈ l, inK .i64 n) → (Tx.tail 32 (l.map itoa)).length ≤ 22 * l.length
  | [], _ => by simp [Tx.tail]
  | n :: l, h => by
    have h1 := itoa_len (h n (by simp))
    have h2 := tail_len l fun m hm => h m (by simp [hm])
    have : Tx.tail 32 ((n :: l).map itoa) = (32 :: itoa n) ++ Tx.tail 32 (l.map itoa) := by simp [Tx.tail]
    rw [this, List.length_append, List.length_cons, List.length_cons]
    omega
theorem ct_Print {e : Tx.Ev} {v : V} {b : Nat} {h : Hp} {Q : V → Hp → Prop} (hb : b ≤ h.next) (hv : SlR eT b h e.ty v) (he : evIn e) (H : ∀ h', Grows h h' → Q (.tuple [.str (printR e).1, .int .i64 (printR e).2]) h') : cP CS n_script_Print [.agg (evCells e v)] h Q := by
  refine c_script_Print rfl rfl ?_
  unfold B_script_Print
  simp only [hbox_all (evCells_one e hv.one), alP_some]
  have hg1 : Grows h (h.new (.cells 26 1 true false (evCells e v))) := Chg.new _ _
  have hev := get_new_self h (.cells 26 1 true false (evCells e v))
  have hn1 : (h.new (.cells 26 1 true false (evCells e v))).next = h.next + 1 := rfl
  have hv1 := hv.ext hg1 hb
  generalize h.new (.cells 26 1 true false (evCells e v)) = h1 at *
  simp only [pLdA_all (n := 9) hev rfl, oP_some']
  refine ct_ints (by omega) hv1 (fun l hl v' h2 hg2 ho => ?_) (fun hno h2 hg2 => ?_)
  · obtain ⟨hin, hl20⟩ := intsOf_in he hl
    have hev2 : h2.get h.next = some (.cells 26 1 true false (evCells e v)) := by rw [hg2.keep _ (by omega) (fun h => h)]; exact hev
    obtain ⟨k0, _⟩ := ev_loads hev2
    simp only [pExt_tuple, at1_zero, at1_succ, oP_some', hun_not, Bool.not_true, bP_bool', Bool.false_eq_true, if_false, pFA_ptr, Nat.zero_add, k0]
    refine ct_name ?_
    simp only [ho.len, oP_some']
    refine l_script_Print_L0 (fun k x6 x19 x20 x21 h' => ∃ (l1 l2 : List Int), l = l1 ++ l2 ∧ k = l2.length ∧ x6 = .str (nameI e.kind ++ Tx.tail 32 (l1.map itoa)) ∧ x19 = v' ∧ x20 = .int .i64 (l.length : Nat) ∧ x21 = .int .i64 (l1.length : Nat) ∧ l1.all Tx.fits = true ∧ h' = h2) ?_
      ⟨[], l, rfl, rfl, by simp [Tx.tail], rfl, rfl, rfl, rfl, rfl⟩
    rintro k x6 x19 x20 x21 h' ⟨l1, l2, hsp, rfl, rfl, rfl, rfl, rfl, hfit, rfl⟩
    unfold B_script_Print_L0
    have hll : l.length = l1.length + l2.length := by rw [hsp]; simp
    simp only [hbin_lss, oP_some', bP_bool', decide_eq_true_eq]
    split
    · rename_i hlt
      obtain ⟨n, r, rfl⟩ : ∃ n r, l2 = n :: r := by
        cases l2 with
        | nil => rw [List.length_nil] at hll; omega
        | cons n r => exact ⟨n, r, rfl⟩
      obtain ⟨lx, ox, _, _, p1, p2⟩ := own_int ho (i := l1.length) (by omega)
      have hnx : l[l1.length]'(by omega) = n := by simp only [hsp]; simp
      rw [hnx] at p2
      simp only [p1, oP_some', p2, hbin_lss, oB_some', hbin_gtr, pOr_bool, bP_bool']
      have hni : inK .i64 n := hin n (by rw [hsp]; simp)
      split
      · rename_i hbad
        simp only [Bool.or_eq_true, decide_eq_true_eq] at hbad
        have hf : Tx.fits n = false := by
          unfold Tx.fits
          rw [Bool.and_eq_false_iff]
          simp only [decide_eq_false_iff_not]
          omega
        have hpr : printR e = ([], 1) := by
          unfold printR Tx.printM
          rw [hl]
          simp only
          rw [if_neg]
          rw [hsp]
          simp [hf]
        rw [hpr] at H
        exact H _ (hg1.trans hg2)
      · rename_i hok
        simp only [Bool.or_eq_true, decide_eq_true_eq, not_or] at hok
        have hf : Tx.fits n = true := by
          unfold Tx.fits
          rw [Bool.and_eq_true, decide_eq_true_eq, decide_eq_true_eq]
          omega
        refine ct_Itoa hni ?_
        have hi := itoa_len hni
        have ht := tail_len l1 fun m hm => hin m (by rw [hsp]; simp [hm])
        have hnm := nameI_len e.kind
        have w1 : wrapF .i64 ((l1.length : Nat) + 1) = ((l1.length + 1 : Nat) : Int) := by rw [wrapF_in (by simp only [inK]; omega)]; omega
        rw [hbin_addS (x := [32]) (y := itoa n) 9 (by rw [List.length_singleton]; omega)]
        simp only [oP_some']
        rw [hbin_addS 9 (by simp only [List.length_append, List.length_cons, List.length_nil]; omega)]
        simp only [oP_some', hbin_add, w1]
        refine ⟨r.length, by simp, l1 ++ [n], r, by rw [hsp]; simp, rfl, ?_, by trivial, by trivial, by simp, by simp [hfit, hf], by trivial⟩
        rw [List.map_append, List.map_cons, List.map_nil, tail_snoc, List.append_assoc]
        rfl
    · rename_i hge
      have : l2 = [] := List.eq_nil_of_length_eq_zero (by omega)
      subst this
      have hle : l1 = l := by rw [hsp]; simp
      subst hle
      have hpr : printR e = (nameI e.kind ++ Tx.tail 32 (l1.map itoa), 0) := by
        unfold printR Tx.printM
        rw [hl]
        simp only [hfit, if_true]
        unfold Tx.lineOf
        rw [nameI_kind hl]
      rw [hpr] at H
      exact H _ (hg1.trans hg2)
  · simp only [pExt_tuple, at1_zero, at1_succ, oP_some', hun_not, Bool.not_false, bP_bool', if_true]
    have hpr : printR e = ([], 1) := by
      unfold printR Tx.printM
      rw [hno]
    rw [hpr] at H
    exact H _ (hg1.trans hg2)
end Go.Proofs.YtdpfhajggknfaaaGreatDoor.Hx
namespace Go.Proofs.YtdpfhajggknfaaaGreatDoor.Hx
open Go.Proofs.YtdpfhajggknfaaaGreatDoor Go.Lib

theorem pP_R7 {e : Tx.Ev} {l : List Int} {a : Nat} {h0 h : Hp} {x5 : V} {Q : V → Hp → Prop} (he : evIn e) (hl : Tx.intsOf e = some l) (hg0 : Grows h0 h) (ho : Own 3 1 a h (intCells l) l.length x5) (H : ∀ h', Grows h0 h' → Q (.tuple [.str (printR e).1, .int .i64 (printR e).2]) h') :
    J_turnstoneref30_Print_R7 CS Q (.str (nameI e.kind)) x5 h := by
  obtain ⟨hin, hl20⟩ := intsOf_in he hl
  refine j_turnstoneref30_Print_R7 ?_
  unfold B_turnstoneref30_Print_R7
  refine l_turnstoneref30_Print_L0 (fun k x4 x5' x7 h' => ∃ (l1 l2 : List Int), l = l1 ++ l2 ∧ k = l2.length ∧ x4 = .str (nameI e.kind ++ Tx.tail 32 (l1.map itoa)) ∧ x5' = x5 ∧ x7 = .int .i64 (l1.length : Nat) ∧ l1.all Tx.fits = true ∧ Grows h h') ?_
    ⟨[], l, rfl, rfl, by simp [Tx.tail], rfl, rfl, rfl, Chg.refl _ _⟩
  rintro k x4 x5' x7 h' ⟨l1, l2, hsp, rfl, rfl, rfl, rfl, hfit, hg⟩
  have ho' := ho.chg hg fun _ _ _ h => h
  unfold B_turnstoneref30_Print_L0
  have hll : l.length = l1.length + l2.length := by rw [hsp]; simp
  simp only [ho'.len, hbin_lss, oP_some', bP_bool', decide_eq_true_eq]
  split
  · rename_i hlt
    obtain ⟨n, r, rfl⟩ : ∃ n r, l2 = n :: r := by
      cases l2 with
      | nil => rw [List.length_nil] at hll; omega
      | cons n r => exact ⟨n, r, rfl⟩
    obtain ⟨lx, ox, _, _, p1, p2⟩ := own_int ho' (i := l1.length) (by omega)
    have hnx : l[l1.length]'(by omega) = n := by simp only [hsp]; simp
    rw [hnx] at p2
    simp only [p1, oP_some', p2, hbin_lss, oB_some', hbin_gtr, pOr_bool, bP_bool']
    have hni : inK .i64 n := hin n (by rw [hsp]; simp)
    split
    · rename_i hbad
      simp only [Bool.or_eq_true, decide_eq_true_eq] at hbad
      have hf : Tx.fits n = false := by
        unfold Tx.fits
        rw [Bool.and_eq_false_iff]
        simp only [decide_eq_false_iff_not]
        omega
      have hpr : printR e = ([], 1) := by
        unfold printR Tx.printM
        rw [hl]
        simp only
        rw [if_neg]
        rw [hsp]
        simp [hf]
      rw [hpr] at H
      exact H _ (hg0.trans hg)
    · rename_i hok
      simp only [Bool.or_eq_true, decide_eq_true_eq, not_or] at hok
      have hf : Tx.fits n = true := by
        unfold Tx.fits
        rw [Bool.and_eq_true, decide_eq_true_eq, decide_eq_true_eq]
        omega
      have hi := itoa_len hni
      have ht := tail_len l1 fun m hm => hin m (by rw [hsp]; simp [hm])
      have hnm := nameI_len e.kind
      have w1 : wrapF .i64 ((l1.length : Nat) + 1) = ((l1.length + 1 : Nat) : Int) := by rw [wrapF_in (by simp only [inK]; omega)]; omega
      rw [hbin_addS 9 (by simp only [List.length_append, List.length_cons, List.length_nil]; omega)]
      simp only [oP_some']
      refine ct_Digits hni fun h2 hg2 => ?_
      rw [hbin_addS 9 (by simp only [List.length_append, List.length_cons, List.length_nil]; omega)]
      simp only [oP_some', hbin_add, w1]
      refine ⟨r.length, by simp, l1 ++ [n], r, by rw [hsp]; simp, rfl, ?_, by trivial, by simp, by simp [hfit, hf], hg.trans hg2⟩
      rw [List.map_append, List.map_cons, List.map_nil, tail_snoc]
      simp
  · rename_i hge
    have : l2 = [] := List.eq_nil_of_length_eq_zero (by omega)
    subst this
    have hle : l1 = l := by rw [hsp]; simp
    subst hle
    have hpr : printR e = (nameI e.kind ++ Tx.tail 32 (l1.map itoa), 0) := by
      unfold printR Tx.printM
      rw [hl]
      simp only [hfit, if_true]
      unfold Tx.lineOf
      rw [nameI_kind hl]
    rw [hpr] at H
    exact H _ (hg0.trans hg)
theorem ct_Print30 {e : Tx.Ev} {v : V} {b : Nat} {h : Hp} {Q : V → Hp → Prop} (hb : b ≤ h.next) (hv : SlR eT b h e.ty v) (he : evIn e) (H : ∀ h', Grows h h' → Q (.tuple [.str (printR e).1, .int .i64 (printR e).2]) h') : cP CS n_turnstoneref30_Print [.agg (evCells e v)] h Q := by
  refine c_turnstoneref30_Print rfl rfl ?_
  unfold B_turnstoneref30_Print
  simp only [hbox_all (evCells_one e hv.one), alP_some]
  have hg1 : Grows h (h.new (.cells 26 1 true false (evCells e v))) := Chg.new _ _
  have hev := get_new_self h (.cells 26 1 true false (evCells e v))
  have hn1 : (h.new (.cells 26 1 true false (evCells e v))).next = h.next + 1 := rfl
  have hv1 := hv.ext hg1 hb
  generalize h.new (.cells 26 1 true false (evCells e v)) = h1 at *
  obtain ⟨k0, _⟩ := ev_loads hev
  simp only [pFA_ptr, oP_some', Nat.zero_add, k0, hbin_lss, oB_some', hbin_gtr, pOr_bool, bP_bool']
  split
  · rename_i hbad
    simp only [Bool.or_eq_true, decide_eq_true_eq] at hbad
    have hno : Tx.intsOf e = none := by
      unfold Tx.intsOf
      rw [if_neg (by omega), if_neg (by omega), if_neg (by omega), if_neg (by omega)]
    have hpr : printR e = ([], 1) := by
      unfold printR Tx.printM
      rw [hno]
    rw [hpr] at H
    exact H _ hg1
  · rename_i hok
    simp only [Bool.or_eq_true, decide_eq_true_eq, not_or] at hok
    obtain ⟨K, hK⟩ : ∃ K : Nat, e.kind = ((K + 1 : Nat) : Int) := ⟨(e.kind - 1).toNat, by omega⟩
    have hK7 : K < 7 := by omega
    have w1 : wrapF .i64 (e.kind - 1) = (K : Int) := by rw [wrapF_in (by simp only [inK]; omega)]; omega
    simp only [hbin_sub, w1, oP_some']
    refine ct_Names ?_
    have hg2 : Grows h1 (h1.new (.cells 9 1 true false (strs Tx.names))) := Chg.new _ _
    have hnm := get_new_self h1 (.cells 9 1 true false (strs Tx.names))
    have hn2 : (h1.new (.cells 9 1 true false (strs Tx.names))).next = h1.next + 1 := rfl
    have hev2 : (h1.new (.cells 9 1 true false (strs Tx.names))).get h.next = some (.cells 26 1 true false (evCells e v)) := by rw [hg2.keep _ (by omega) (fun h => h)]; exact hev
    have hv2 := hv1.ext hg2 (by omega)
    refine ⟨hg2.next, ?_⟩
    generalize h1.new (.cells 9 1 true false (strs Tx.names)) = h2 at *
    obtain ⟨k0, k1, k2, k3, k4, k5, k6, k7, k8⟩ := ev_loads hev2
    have g5 : pIx 1 (.slice h1.next 0 7) (.int .i64 (K : Nat)) = some (.ptr h1.next K) := by rw [pIx_slice _ _ _ _ _ _ hK7]; simp
    have hnI : Tx.nameOf (K + 1) = nameI e.kind := by rw [hK, nameI_nat (by omega) (by omega)]
    have g6 : pLd (.ptr h1.next K) h2 = some (.str (nameI e.kind)) := pLd_get hnm (by unfold strs; rw [List.getElem?_map, names_get K hK7, hnI]; rfl)
    simp only [g5, oP_some', g6]
    refine ⟨k0, ?_⟩
    have q (a b : Int) : hbin .eql 3 (.int .i64 a) (.int .i64 b) = some (.bool (a == b)) := hbin_eql 3 .i64 a b
    simp only [pFA_ptr, oP_some', Nat.zero_add, k0, q, bP_bool', beq_iff_eq]
    have hG2 : Grows h h2 := hg1.trans hg2
    have hrow : ∀ l, Tx.intsOf e = some l → J_turnstoneref30_Print_R7 CS Q (.str (nameI e.kind)) (.slice h2.next 0 l.length) (h2.new (.cells 3 1 true false (intCells l))) :=
      fun l hl => pP_R7 he hl (hG2.trans (Chg.new _ _)) (own_new l (Nat.le_refl _)) H
    have r9t : (e.kind = 1 ∨ e.kind = 3 ∨ e.kind = 7) → J_turnstoneref30_Print_R9 CS Q (.ptr h.next 0) (.str (nameI e.kind)) (.int .i64 e.kind) (.bool true) h2 := by
      intro hk
      refine j_turnstoneref30_Print_R9 ?_
      unfold B_turnstoneref30_Print_R9
      simp only [bP_bool', if_true, pFA_ptr, oP_some', Nat.zero_add, k3, pBS_i1, alP_some]
      exact hrow [e.n] (by unfold Tx.intsOf; rw [if_pos hk])
    have r14t : ¬ (e.kind = 1 ∨ e.kind = 3 ∨ e.kind = 7) → (e.kind = 2 ∨ e.kind = 4) → J_turnstoneref30_Print_R14 CS Q (.ptr h.next 0) (.str (nameI e.kind)) (.int .i64 e.kind) (.bool true) h2 := by
      intro hn hk
      refine j_turnstoneref30_Print_R14 ?_
      unfold B_turnstoneref30_Print_R14
      simp only [bP_bool', if_true, pFA_ptr, oP_some', Nat.zero_add, k1, k2, pBS_i2, alP_some]
      exact hrow [e.f, e.pc] (by unfold Tx.intsOf; rw [if_neg hn, if_pos hk])
    have r14f : ¬ (e.kind = 1 ∨ e.kind = 3 ∨ e.kind = 7) → ¬ (e.kind = 2 ∨ e.kind = 4) → J_turnstoneref30_Print_R14 CS Q (.ptr h.next 0) (.str (nameI e.kind)) (.int .i64 e.kind) (.bool false) h2 := by
      intro hn hm
      refine j_turnstoneref30_Print_R14 ?_
      unfold B_turnstoneref30_Print_R14
      simp only [bP_bool', Bool.false_eq_true, if_false, q, oP_some', beq_iff_eq]
      split
      · rename_i h5
        simp only [pFA_ptr, oP_some', Nat.zero_add, k1, pBS_i1, alP_some]
        exact hrow [e.f] (by unfold Tx.intsOf; rw [if_neg hn, if_neg hm, if_pos h5])
      rename_i h5
      have h6 : e.kind = 6 := by omega
      simp only [pFA_ptr, oP_some', Nat.zero_add, Nat.add_zero, Nat.reduceAdd, k8, hv2.len, hbin_gtr, bP_bool', decide_eq_true_eq]
      split
      · rename_i h8
        have hno : Tx.intsOf e = none := by
          unfold Tx.intsOf
          rw [if_neg hn, if_neg hm, if_neg h5, if_pos h6, if_neg (by omega)]
        have hpr : printR e = ([], 1) := by
          unfold printR Tx.printM
          rw [hno]
        rw [hpr] at H
        exact H _ hG2
      · rename_i h8
        have h8' : e.ty.length ≤ 8 := by omega
        have hl : Tx.intsOf e = some (e.cf :: e.cpc :: e.cy :: e.cn :: Tx.flat e.ty) := by
          unfold Tx.intsOf
          rw [if_neg hn, if_neg hm, if_neg h5, if_pos h6, if_pos h8']
        simp only [k4, k5, k6, k7, pBS_i4, alP_some, oP_some']
        have hflat : ∀ (t : List (Int × Int)), (Tx.flat t).length = 2 * t.length := by
          intro t
          induction t with
          | nil => rfl
          | cons x t ih => simp only [Tx.flat, List.length_cons, ih]; omega
        have happ : ∀ (t u : List (Int × Int)), Tx.flat (t ++ u) = Tx.flat t ++ Tx.flat u := by
          intro t u
          induction t with
          | nil => rfl
          | cons x t ih => simp only [List.cons_append, Tx.flat, ih]
        have hg3 : Grows h2 (h2.new (.cells 3 1 true false (intCells [e.cf, e.cpc, e.cy, e.cn]))) := Chg.new _ _
        have hev3 : (h2.new (.cells 3 1 true false (intCells [e.cf, e.cpc, e.cy, e.cn]))).get h.next = some (.cells 26 1 true false (evCells e v)) := by rw [hg3.keep _ (by omega) (fun h => h)]; exact hev2
        have hv3 := hv2.ext hg3 (by omega)
        have ho3 := own_new (h := h2) [e.cf, e.cpc, e.cy, e.cn] (Nat.le_refl _)
        have hn3 : (h2.new (.cells 3 1 true false (intCells [e.cf, e.cpc, e.cy, e.cn]))).next = h2.next + 1 := rfl
        have hl4 : ([e.cf, e.cpc, e.cy, e.cn] : List Int).length = 4 := rfl
        rw [hl4] at ho3
        generalize h2.new (.cells 3 1 true false (intCells [e.cf, e.cpc, e.cy, e.cn])) = h3 at *
        refine l_turnstoneref30_Print_L1 (fun k x1 x4 x5 x6 h' => ∃ (t1 t2 : List (Int × Int)), e.ty = t1 ++ t2 ∧ k = t2.length ∧ x1 = .ptr h.next 0 ∧ x4 = .str (nameI e.kind) ∧ x6 = .int .i64 (t1.length : Nat) ∧ Chg (fun m => h2.next ≤ m) h3 h' ∧
          Own 3 1 h2.next h' (intCells ([e.cf, e.cpc, e.cy, e.cn] ++ Tx.flat t1)) ([e.cf, e.cpc, e.cy, e.cn] ++ Tx.flat t1).length x5) ?_ ⟨[], e.ty, rfl, rfl, rfl, rfl, rfl, Chg.refl _ _, by simpa [Tx.flat] using ho3⟩
        clear ho3
        rintro k x1 x4 x5 x6 h4 ⟨t1, t2, hsp, rfl, rfl, rfl, rfl, hch, hown⟩
        have hev4 : h4.get h.next = some (.cells 26 1 true false (evCells e v)) := by rw [hch.keep _ (by omega) (by omega)]; exact hev3
        have hv4 : SlR eT b h4 e.ty v := hv3.chg hch (by omega) fun l hl => by omega
        have j8 : pLd (.ptr h.next 8) h4 = some v := pLd_get hev4 rfl
        have hll : e.ty.length = t1.length + t2.length := by rw [hsp]; simp
        unfold B_turnstoneref30_Print_L1
        simp only [pFA_ptr, oP_some', Nat.zero_add, Nat.reduceAdd, j8, hv4.len, hbin_lss, bP_bool', decide_eq_true_eq]
        split
        · rename_i hlt
          obtain ⟨x, r, rfl⟩ : ∃ x r, t2 = x :: r := by
            cases t2 with
            | nil => rw [List.length_nil] at hll; omega
            | cons x r => exact ⟨x, r, rfl⟩
          obtain ⟨l1, o1, w1, hlb, p1, p2, p3, p4⟩ := hv4.ix (i := t1.length) (by omega) .i64
          have hx : e.ty[t1.length]'(by omega) = x := by simp only [hsp]; simp
          rw [hx] at p3
          obtain rfl := rel_seen p3
          have p1' : pIx 2 v (.int .i64 (t1.length : Nat)) = some (.ptr l1 o1) := p1
          have d0 : pLd (.ptr l1 o1) h4 = some (.int .i64 x.1) := p4 0 _ rfl
          have d1 : pLd (.ptr l1 (o1 + 1)) h4 = some (.int .i64 x.2) := p4 1 _ rfl
          have hg5 : Grows h4 (h4.new (.cells 3 1 true false (intCells [x.1, x.2]))) := Chg.new _ _
          have ev5 : (h4.new (.cells 3 1 true false (intCells [x.1, x.2]))).get h.next = some (.cells 26 1 true false (evCells e v)) := by rw [hg5.keep _ (by have := hch.next; omega) (fun h => h)]; exact hev4
          have j5 : pLd (.ptr h.next 8) (h4.new (.cells 3 1 true false (intCells [x.1, x.2]))) = some v := pLd_get ev5 rfl
          have hv5 := hv4.ext hg5 (by have := hch.next; omega)
          obtain ⟨l2, o2, w2, _, r1, r2, r3, r4⟩ := hv5.ix (i := t1.length) (by omega) .i64
          have p5 : pIx 2 v (.int .i64 (t1.length : Nat)) = some (.ptr l2 o2) := r1
          have heq : V.ptr l2 o2 = V.ptr l1 o1 := by rw [p1'] at p5; exact (Option.some.inj p5).symm
          cases heq
          rw [hx] at r3
          obtain rfl := rel_seen r3
          have f0 : pLd (.ptr l1 o1) (h4.new (.cells 3 1 true false (intCells [x.1, x.2]))) = some (.int .i64 x.1) := r4 0 _ rfl
          have f1 : pLd (.ptr l1 (o1 + 1)) (h4.new (.cells 3 1 true false (intCells [x.1, x.2]))) = some (.int .i64 x.2) := r4 1 _ rfl
          simp only [p1', oP_some', Nat.add_zero, d0, d1, pFA_ptr, pBS_i2, alO_some]
          have hlen : ([e.cf, e.cpc, e.cy, e.cn] ++ Tx.flat t1).length ≤ 20 := by rw [List.length_append, hflat]; simp; omega
          obtain ⟨v3, h6, c1, c2, c3, c4, c5⟩ := (hown.chg hg5 fun _ _ _ h => h).append (by_ := 8) (xcells_new (k := 1) (sz := 1) (e := 3) (h := h4) (cs := intCells [x.1, x.2]) (ro := false) rfl) (by omega) rfl (intCells_one _) rfl (by have := hch.next; simp; omega) (by omega) (by omega) (by omega)
          have w1 : wrapF .i64 ((t1.length : Nat) + 1) = ((t1.length + 1 : Nat) : Int) := by rw [wrapF_in (by simp only [inK]; omega)]; omega
          refine ⟨⟨get_new_self _ _, O.beq_cells _ _ _ _ _⟩, f1, j5, f0, j5, ?_⟩
          simp only [c1, valP_some]
          refine ⟨by rw [c4]; exact Nat.le_succ _, ?_⟩
          simp only [hbin_add, w1, oP_some']
          have hrow' : ∀ m, x5 = .slice m 0 ([e.cf, e.cpc, e.cy, e.cn] ++ Tx.flat t1).length → h2.next ≤ m := fun m e9 => by
            rcases hown with ⟨h9, _⟩ | ⟨t, h9, ht, _⟩
            · rw [e9] at h9; cases h9
            · rw [e9] at h9; cases h9; exact ht
          have hfx : [e.cf, e.cpc, e.cy, e.cn] ++ Tx.flat (t1 ++ [x]) = ([e.cf, e.cpc, e.cy, e.cn] ++ Tx.flat t1) ++ [x.1, x.2] := by rw [happ]; simp [Tx.flat]
          refine ⟨r.length, by simp, t1 ++ [x], r, by rw [hsp]; simp, rfl, by trivial, by trivial, by simp, hch.trans ((hg5.weak : Chg (fun m => h2.next ≤ m) _ _).trans' c3 fun m hm e9 => hrow' m e9), ?_⟩
          rw [hfx, intCells_append]
          have : (([e.cf, e.cpc, e.cy, e.cn] ++ Tx.flat t1) ++ [x.1, x.2]).length = ([e.cf, e.cpc, e.cy, e.cn] ++ Tx.flat t1).length + (1 + 1) := by simp
          rw [this]
          exact c2
        · rename_i hge
          have : t2 = [] := List.eq_nil_of_length_eq_zero (by omega)
          subst this
          have he2 : e.ty = t1 := by rw [hsp]; simp
          rw [← he2] at hown
          exact pP_R7 he hl (grows_trans (hG2.trans hg3) hch fun l hl e => by omega) hown H
    have r9f : ¬ (e.kind = 1 ∨ e.kind = 3 ∨ e.kind = 7) → J_turnstoneref30_Print_R9 CS Q (.ptr h.next 0) (.str (nameI e.kind)) (.int .i64 e.kind) (.bool false) h2 := by
      intro hn
      refine j_turnstoneref30_Print_R9 ?_
      unfold B_turnstoneref30_Print_R9
      simp only [bP_bool', Bool.false_eq_true, if_false, q, oP_some', beq_iff_eq]
      split
      · rename_i h2
        rw [show (e.kind == 2) = true by simp [h2]]
        exact r14t hn (.inl h2)
      · rename_i h2
        by_cases h4 : e.kind = 4
        · rw [show (e.kind == 4) = true by simp [h4]]
          exact r14t hn (.inr h4)
        · rw [show (e.kind == 4) = false by simp [h4]]
          exact r14f hn (by omega)
    split
    · rename_i h2
      rw [show (e.kind == 1) = true by simp [h2]]
      exact r9t (.inl h2)
    rename_i h2
    split
    · rename_i h3
      rw [show (e.kind == 3) = true by simp [h3]]
      exact r9t (.inr (.inl h3))
    rename_i h3
    by_cases h7 : e.kind = 7
    · rw [show (e.kind == 7) = true by simp [h7]]
      exact r9t (.inr (.inr h7))
    · rw [show (e.kind == 7) = false by simp [h7]]
      exact r9f (by omega)
theorem ct_ScriptPrints {e : Tx.Ev} {v : V} {near : Bool} {b : Nat} {h : Hp} {Q : V → Hp → Prop} (hb : b ≤ h.next) (hv : SlR eT b h e.ty v) (he : evIn e) (H : ∀ h', Grows h h' → Q (.bool true) h') : cP CS n_turnstonelaw30_ScriptPrints [.agg (evCells e v), .bool near] h Q := by
  refine c_turnstonelaw30_ScriptPrints rfl rfl ?_
  unfold B_turnstonelaw30_ScriptPrints
  simp only [hbox_all (evCells_one e hv.one), alP_some]
  have hg1 : Grows h (h.new (.cells 26 1 true false (evCells e v))) := Chg.new _ _
  have hev := get_new_self h (.cells 26 1 true false (evCells e v))
  have hn1 : (h.new (.cells 26 1 true false (evCells e v))).next = h.next + 1 := rfl
  have hv1 := hv.ext hg1 hb
  generalize h.new (.cells 26 1 true false (evCells e v)) = h1 at *
  have rest : ∀ (e' : Tx.Ev) (h2 : Hp), e'.ty = e.ty → evIn e' → h2.get h.next = some (.cells 26 1 true false (evCells e' v)) → Grows h h2 → h.next < h2.next → J_turnstonelaw30_ScriptPrints_R2 CS Q (.ptr h.next 0) h2 := by
    intro e' h2 hty he' hev2 hG hn2
    have hv2 : SlR eT b h2 e'.ty v := by rw [hty]; exact hv.ext hG hb
    refine j_turnstonelaw30_ScriptPrints_R2 ?_
    unfold B_turnstonelaw30_ScriptPrints_R2
    simp only [pLdA_all (n := 9) hev2 rfl, oP_some']
    refine ct_Print (by omega) hv2 he' fun h3 hg3 => ?_
    have hev3 : h3.get h.next = some (.cells 26 1 true false (evCells e' v)) := by rw [hg3.keep _ hn2 (fun h => h)]; exact hev2
    simp only [pExt_tuple, at1_zero, at1_succ, oP_some', pLdA_all (n := 9) hev3 rfl]
    have := hg3.next
    refine ct_Print30 (b := b) (by omega) (hv2.ext hg3 (by omega)) he' fun h4 hg4 => ?_
    simp only [pExt_tuple, at1_zero, at1_succ, oP_some']
    refine ct_known ?_
    simp only [oB_some', hbin_eqlS, beq_self_eq_true, pAnd_true, oP_some', eql_err]
    exact H _ ((hG.trans hg3).trans hg4)
  cases near with
  | false =>
    simp only [bP_bool', Bool.false_eq_true, if_false]
    exact rest e h1 rfl he hev hg1 (by omega)
  | true =>
    obtain ⟨k0, _⟩ := ev_loads hev
    simp only [bP_bool', if_true, pFA_ptr, oP_some', Nat.zero_add, k0]
    refine ct_Pick (by omega) (by omega) ?_
    have hp := pick_in e.kind (m := 7) (by omega)
    have hw : wrapF .i64 (1 + pick e.kind 7) = 1 + pick e.kind 7 := wrapF_in (by simp only [inK]; omega)
    have s1 := pSt_at (o := 0) (v := .int .i64 (1 + pick e.kind 7)) hev (by simp [evCells]) rfl
    rw [show (evCells e v).set 0 (.int .i64 (1 + pick e.kind 7)) = evCells { e with kind := 1 + pick e.kind 7 } v from rfl] at s1
    simp only [hbin_add, hw, oP_some', s1, valP_some]
    have hl : h.next < h1.next := by omega
    obtain ⟨_, e2, e3, e4, e5, e6, e7, e8, e9⟩ := he
    exact rest { e with kind := 1 + pick e.kind 7 } _ rfl ⟨by simp only [inK]; omega, e2, e3, e4, e5, e6, e7, e8, e9⟩ (get_put_self _ hl) (grows_trans hg1 (Chg.put (S := fun m => m = h.next) _ rfl hl) fun l hl e => by omega) hl
end Go.Proofs.YtdpfhajggknfaaaGreatDoor.Hx
