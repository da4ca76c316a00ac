/- Chapter 30's text: the state at the end of a run as a line, by the program as by the document; the law of the two. -/
import Derived.Test.YtdpfhajggknfaaaGreatDoorHxVD
import Derived.Test.YtdpfhajggknfaaaGreatDoorHxSc
namespace Go.Proofs.YtdpfhajggknfaaaGreatDoor.Hx
open Go.Proofs.YtdpfhajggknfaaaGreatDoor Go.Lib

/-! ### a result's cells -/
def rwCells (r : Tx.Rw) (v : V) : List V := [.int .i64 r.why, .int .i64 r.steps, .int .i64 r.left, .int .i64 r.state, .int .i64 r.trap, v]
def rwIn (r : Tx.Rw) : Prop := inK .i64 r.why ∧ inK .i64 r.steps ∧ inK .i64 r.left ∧ inK .i64 r.state ∧ inK .i64 r.trap ∧ tyIn r.keys
theorem rwCells_one (r : Tx.Rw) {v : V} (h : v.one = true) : allOne (rwCells r v) = true := by simp only [rwCells, allOne_cons, allOne_nil, h]; rfl
theorem rw_loads {r : Tx.Rw} {v : V} {l : Nat} {h : Hp} (hg : h.get l = some (.cells 43 1 true false (rwCells r v))) :
    pLd (.ptr l 0) h = some (.int .i64 r.why) ∧ pLd (.ptr l 1) h = some (.int .i64 r.steps) ∧ pLd (.ptr l 2) h = some (.int .i64 r.left) ∧ pLd (.ptr l 3) h = some (.int .i64 r.state) ∧ pLd (.ptr l 4) h = some (.int .i64 r.trap) ∧ pLd (.ptr l 5) h = some v :=
  ⟨pLd_get hg rfl, pLd_get hg rfl, pLd_get hg rfl, pLd_get hg rfl, pLd_get hg rfl, pLd_get hg rfl⟩
theorem tell1_len {r : Tx.Rw} (hr : rwIn r) : (Tx.tell1 r).length ≤ 30 := by
  have := itoa_len hr.1
  unfold Tx.tell1
  split
  · simp [Tx.sOk]
  · simp [Tx.sError]; omega
theorem tell2_len {r : Tx.Rw} (hr : rwIn r) : (Tx.tell2 r).length ≤ 60 := by
  have := itoa_len hr.2.1
  have := tell1_len hr
  unfold Tx.tell2
  split
  · omega
  · simp [Tx.sSteps]; omega
theorem tell3_len {r : Tx.Rw} (hr : rwIn r) : (Tx.tell3 r).length ≤ 90 := by
  have := itoa_len hr.2.2.1
  have := tell2_len hr
  unfold Tx.tell3
  split
  · omega
  · simp [Tx.sLeft]; omega
theorem keysM_snoc (l : List (Int × Int)) (x : Int × Int) : Tx.keysM (l ++ [x]) = Tx.keysM l ++ (Tx.sKey ++ (itoa x.1 ++ (32 :: itoa x.2))) := by simp [Tx.keysM]
theorem keysM_len : ∀ (l : List (Int × Int)), tyIn l → (Tx.keysM l).length ≤ 50 * l.length
  | [], _ => by simp [Tx.keysM]
  | x :: l, h => by
    have h1 := keysM_len l fun y hy => h y (.tail _ hy)
    have h2 := itoa_len (h x (.head _)).1
    have h3 := itoa_len (h x (.head _)).2
    have : Tx.keysM (x :: l) = (Tx.sKey ++ (itoa x.1 ++ (32 :: itoa x.2))) ++ Tx.keysM l := by simp [Tx.keysM]
    rw [this]
    simp [Tx.sKey]; omega
theorem ct_ended {r : Tx.Rw} {h : Hp} {Q : V → Hp → Prop} (hr : rwIn r) (H : Q (.str (Tx.endM r)) h) : cP CS n_script_ended [.int .i64 r.state, .int .i64 r.trap, .str [32]] h Q := by
  refine c_script_ended rfl rfl ?_
  unfold B_script_ended
  simp only [q3, oP_some', bP_bool', beq_iff_eq]
  unfold Tx.endM at H
  split
  · rename_i h1
    rw [if_pos h1] at H
    rw [addS (by simp)]
    exact H
  rename_i h1
  rw [if_neg h1] at H
  split
  · rename_i h2
    rw [if_pos h2] at H
    rw [addS (by simp)]
    refine ct_Itoa hr.2.2.2.2.1 ?_
    have := itoa_len hr.2.2.2.2.1
    rw [addS (by simp; omega)]
    exact H
  · rename_i h2
    rw [if_neg h2] at H
    exact H
theorem tl_L0 {r : Tx.Rw} {v : V} {b p : Nat} {h0 h : Hp} {Q : V → Hp → Prop} (hb : b ≤ h.next) (hp : p < h.next) (hv : SlR eT b h r.keys v) (hev : h.get p = some (.cells 43 1 true false (rwCells r v))) (hr : rwIn r) (hk : r.keys.length ≤ 20) (hg : Grows h0 h)
    (H : ∀ h', Grows h0 h' → Q (.str (Tx.tellM r)) h') : J_script_Tell_L0 CS Q (.ptr p 0) (.str (Tx.tell3 r)) v (.int .i64 (r.keys.length : Nat)) (.int .i64 0) h := by
  refine l_script_Tell_L0 (fun k x1 x3 x32 x33 x34 h' => ∃ (l1 l2 : List (Int × Int)), r.keys = l1 ++ l2 ∧ k = l2.length ∧ x1 = .ptr p 0 ∧ x3 = .str (Tx.tell3 r ++ Tx.keysM l1) ∧ x32 = v ∧ x33 = .int .i64 (r.keys.length : Nat) ∧ x34 = .int .i64 (l1.length : Nat) ∧ Grows h h') ?_
    ⟨[], r.keys, rfl, rfl, rfl, by simp [Tx.keysM], rfl, rfl, rfl, Chg.refl _ _⟩
  rintro k x1 x3 x32 x33 x34 h' ⟨l1, l2, hl, rfl, rfl, rfl, rfl, rfl, rfl, hg'⟩
  unfold B_script_Tell_L0
  simp only [hbin_lss, oP_some', bP_bool', decide_eq_true_eq]
  have hlen : r.keys.length = l1.length + l2.length := by rw [hl]; simp
  have hl3 := tell3_len hr
  have hin1 : tyIn l1 := fun x hx => hr.2.2.2.2.2 x (by rw [hl]; simp [hx])
  have hkl := keysM_len l1 hin1
  have hn' := hg'.next
  split
  · rename_i hlt
    cases l2 with
    | nil => exfalso; simp at hlen; omega
    | cons x l2 =>
      have hi : l1.length < r.keys.length := by omega
      obtain ⟨l, o, w, hlb, i1, i2, i3, i4⟩ := (hv.ext hg' hb).ix hi .i64
      have hx : r.keys[l1.length] = x := by simp [hl]
      rw [hx] at i3
      have hw := rel_seen i3
      subst hw
      have hxin := hr.2.2.2.2.2 x (by rw [hl]; simp)
      have e1 : eT.sz = 2 := rfl
      rw [e1] at i1 i2
      simp only [i1, oP_some', i2, alP_some]
      have s1 := pSt_all (ws := [V.int .i64 x.1, V.int .i64 x.2]) (n := 2) (get_new_self h' (.cells 74 1 true false [V.int .i64 0, V.int .i64 0])) rfl rfl rfl
      simp only [s1, valP_some, pFA_ptr, oP_some', Nat.zero_add]
      have hc1 : Grows h' (h'.new (.cells 74 1 true false [V.int .i64 0, V.int .i64 0])) := Chg.new _ _
      have hnn : (h'.new (.cells 74 1 true false [V.int .i64 0, V.int .i64 0])).next = h'.next + 1 := rfl
      have hc2 := grows_trans hc1 (Chg.put (S := fun m => m = h'.next) (.cells 74 1 true false [V.int .i64 x.1, V.int .i64 x.2]) rfl (by omega)) fun l hl e => by omega
      have g1 := get_put_self (h := h'.new (.cells 74 1 true false [V.int .i64 0, V.int .i64 0])) (.cells 74 1 true false [V.int .i64 x.1, V.int .i64 x.2]) (l := h'.next) (by omega)
      generalize Hp.put _ _ _ = h3 at *
      simp only [pLd_get (o := 0) g1 rfl, pLd_get (o := 1) g1 rfl, oP_some']
      have a1 := itoa_len hxin.1
      have a2 := itoa_len hxin.2
      refine ct_Itoa hxin.1 ⟨Nat.le_refl _, ?_⟩
      rw [addS (by simp; omega)]
      simp only [oP_some']
      rw [addS (by simp; omega)]
      simp only [oP_some', pLd_get (o := 1) g1 rfl]
      refine ⟨trivial, ct_Itoa hxin.2 ⟨Nat.le_refl _, ?_⟩⟩
      rw [addS (by simp; omega)]
      simp only [oP_some']
      rw [addS (by simp; simp only [List.length_cons] at hlen; omega)]
      have w1 : wrapF .i64 ((l1.length : Nat) + 1) = ((l1.length + 1 : Nat) : Int) := by rw [wrapF_in (by simp only [inK]; omega)]; rfl
      simp only [oP_some', hbin_add, w1]
      refine ⟨l2.length, by simp, l1 ++ [x], l2, by rw [hl]; simp, rfl, by trivial, ?_, by trivial, by trivial, by simp, hg'.trans hc2⟩
      rw [keysM_snoc]
      simp [Tx.sKey]
  · rename_i hge
    have : l2 = [] := List.eq_nil_of_length_eq_zero (by omega)
    subst this
    have he2 : r.keys = l1 := by rw [hl]; simp
    have hev' := (hg'.keep _ hp (fun h => h)).trans hev
    obtain ⟨_, _, _, k3, k4, _⟩ := rw_loads hev'
    simp only [pFA_ptr, oP_some', Nat.zero_add, k3, k4]
    refine ct_ended hr ?_
    have he : (Tx.endM r).length ≤ 40 := by
      have := itoa_len hr.2.2.2.2.1
      unfold Tx.endM
      split
      · simp [Tx.sDone]
      split
      · simp [Tx.sTrap]; omega
      · simp
    rw [addS (by simp; omega)]
    have := H h' (hg.trans hg')
    unfold Tx.tellM at this
    rw [he2] at this
    exact this
theorem tl_R7 {r : Tx.Rw} {v : V} {b p : Nat} {h0 h : Hp} {Q : V → Hp → Prop} (hb : b ≤ h.next) (hp : p < h.next) (hv : SlR eT b h r.keys v) (hev : h.get p = some (.cells 43 1 true false (rwCells r v))) (hr : rwIn r) (hk : r.keys.length ≤ 20) (hg : Grows h0 h)
    (H : ∀ h', Grows h0 h' → Q (.str (Tx.tellM r)) h') : J_script_Tell_R7 CS Q (.ptr p 0) (.str (Tx.tell3 r)) h := by
  refine j_script_Tell_R7 ?_
  unfold B_script_Tell_R7
  obtain ⟨_, _, _, _, _, k5⟩ := rw_loads hev
  simp only [pFA_ptr, oP_some', Nat.zero_add, k5, hv.len]
  exact tl_L0 hb hp hv hev hr hk hg H
theorem tl_R5 {r : Tx.Rw} {v : V} {b p : Nat} {h0 h : Hp} {Q : V → Hp → Prop} (hb : b ≤ h.next) (hp : p < h.next) (hv : SlR eT b h r.keys v) (hev : h.get p = some (.cells 43 1 true false (rwCells r v))) (hr : rwIn r) (hk : r.keys.length ≤ 20) (hg : Grows h0 h)
    (H : ∀ h', Grows h0 h' → Q (.str (Tx.tellM r)) h') : J_script_Tell_R5 CS Q (.ptr p 0) (.str (Tx.tell2 r)) h := by
  refine j_script_Tell_R5 ?_
  unfold B_script_Tell_R5
  obtain ⟨_, _, k2, _⟩ := rw_loads hev
  have R := tl_R7 hb hp hv hev hr hk hg H
  simp only [pFA_ptr, oP_some', Nat.zero_add, k2, n3, bP_bool', bne_iff_ne]
  unfold Tx.tell3 at R
  split
  · rename_i hn
    rw [if_neg hn] at R
    refine ct_Itoa hr.2.2.1 ?_
    have := itoa_len hr.2.2.1
    have := tell2_len hr
    rw [addS (by simp; omega)]
    simp only [oP_some']
    rw [addS (by simp; omega)]
    exact R
  · rename_i hn
    rw [if_pos (Decidable.not_not.1 hn)] at R
    exact R
theorem tl_R3 {r : Tx.Rw} {v : V} {b p : Nat} {h0 h : Hp} {Q : V → Hp → Prop} (hb : b ≤ h.next) (hp : p < h.next) (hv : SlR eT b h r.keys v) (hev : h.get p = some (.cells 43 1 true false (rwCells r v))) (hr : rwIn r) (hk : r.keys.length ≤ 20) (hg : Grows h0 h)
    (H : ∀ h', Grows h0 h' → Q (.str (Tx.tellM r)) h') : J_script_Tell_R3 CS Q (.ptr p 0) (.str (Tx.tell1 r)) h := by
  refine j_script_Tell_R3 ?_
  unfold B_script_Tell_R3
  obtain ⟨_, k1, _⟩ := rw_loads hev
  have R := tl_R5 hb hp hv hev hr hk hg H
  simp only [pFA_ptr, oP_some', Nat.zero_add, k1, n3, bP_bool', bne_iff_ne]
  unfold Tx.tell2 at R
  split
  · rename_i hn
    rw [if_neg hn] at R
    refine ct_Itoa hr.2.1 ?_
    have := itoa_len hr.2.1
    have := tell1_len hr
    rw [addS (by simp; omega)]
    simp only [oP_some']
    rw [addS (by simp; omega)]
    exact R
  · rename_i hn
    rw [if_pos (Decidable.not_not.1 hn)] at R
    exact R
theorem ct_Tell {r : Tx.Rw} {v : V} {b : Nat} {h : Hp} {Q : V → Hp → Prop} (hb : b ≤ h.next) (hv : SlR eT b h r.keys v) (hr : rwIn r) (hk : r.keys.length ≤ 20) (H : ∀ h', Grows h h' → Q (.str (Tx.tellM r)) h') : cP CS n_script_Tell [.agg (rwCells r v)] h Q := by
  refine c_script_Tell rfl rfl ?_
  unfold B_script_Tell
  simp only [hbox_all (rwCells_one r hv.one), alP_some]
  have hg1 : Grows h (h.new (.cells 43 1 true false (rwCells r v))) := Chg.new _ _
  have hev := get_new_self h (.cells 43 1 true false (rwCells r v))
  have hn1 : (h.new (.cells 43 1 true false (rwCells r v))).next = h.next + 1 := rfl
  have hv1 := hv.ext hg1 hb
  generalize h.new (.cells 43 1 true false (rwCells r v)) = h1 at *
  have R := tl_R3 (Q := Q) (by omega) (by omega) hv1 hev hr hk hg1 H
  obtain ⟨k0, _⟩ := rw_loads hev
  simp only [pFA_ptr, oP_some', Nat.zero_add, k0, n3, bP_bool', bne_iff_ne]
  unfold Tx.tell1 at R
  split
  · rename_i hn
    rw [if_neg hn] at R
    refine ct_Itoa hr.1 ?_
    have := itoa_len hr.1
    rw [addS (by simp; omega)]
    exact R
  · rename_i hn
    rw [if_pos (Decidable.not_not.1 hn)] at R
    exact R
end Go.Proofs.YtdpfhajggknfaaaGreatDoor.Hx
namespace Go.Proofs.YtdpfhajggknfaaaGreatDoor.Hx
open Go.Proofs.YtdpfhajggknfaaaGreatDoor Go.Lib

theorem ct_decimal {n : Int} {h : Hp} {Q : V → Hp → Prop} (hn : inK .i64 n) (H : ∀ h', Grows h h' → Q (.str (itoa n)) h') : cP CS n_turnstoneref30_decimal [.int .i64 n] h Q := by
  refine c_turnstoneref30_decimal rfl rfl ?_
  unfold B_turnstoneref30_decimal
  exact ct_Digits hn H
theorem tr_L0 {r : Tx.Rw} {v : V} {b p : Nat} {h0 h : Hp} {Q : V → Hp → Prop} (hb : b ≤ h.next) (hp : p < h.next) (hv : SlR eT b h r.keys v) (hev : h.get p = some (.cells 43 1 true false (rwCells r v))) (hr : rwIn r) (hk : r.keys.length ≤ 20) (hg : Grows h0 h)
    (H : ∀ h', Grows h0 h' → Q (.str (Tx.tellM r)) h') : J_turnstoneref30_Tell_L0 CS Q (.ptr p 0) (.str (Tx.tell3 r)) (.int .i64 0) h := by
  refine l_turnstoneref30_Tell_L0 (fun k x1 x3 x4 h' => ∃ (l1 l2 : List (Int × Int)), r.keys = l1 ++ l2 ∧ k = l2.length ∧ x1 = .ptr p 0 ∧ x3 = .str (Tx.tell3 r ++ Tx.keysM l1) ∧ x4 = .int .i64 (l1.length : Nat) ∧ Grows h h') ?_
    ⟨[], r.keys, rfl, rfl, rfl, by simp [Tx.keysM], rfl, Chg.refl _ _⟩
  rintro k x1 x3 x4 h' ⟨l1, l2, hl, rfl, rfl, rfl, rfl, hg'⟩
  unfold B_turnstoneref30_Tell_L0
  have hev' : h'.get p = some (.cells 43 1 true false (rwCells r v)) := by rw [hg'.keep _ hp (fun h => h)]; exact hev
  obtain ⟨_, _, _, k3, k4, k5⟩ := rw_loads hev'
  have hv' := hv.ext hg' hb
  simp only [pFA_ptr, Nat.zero_add, k5, hv.len, hbin_lss, oP_some', bP_bool', decide_eq_true_eq]
  have hlen : r.keys.length = l1.length + l2.length := by rw [hl]; simp
  have hl3 := tell3_len hr
  have hin1 : tyIn l1 := fun x hx => hr.2.2.2.2.2 x (by rw [hl]; simp [hx])
  have hkl := keysM_len l1 hin1
  have hn' := hg'.next
  split
  · rename_i hlt
    cases l2 with
    | nil => exfalso; simp at hlen; omega
    | cons x l2 =>
      have hi : l1.length < r.keys.length := by omega
      obtain ⟨l, o, w, hlb, i1, i2, i3, i4⟩ := hv'.ix hi .i64
      have hx : r.keys[l1.length] = x := by simp [hl]
      rw [hx] at i3
      have hw := rel_seen i3
      subst hw
      have hxin := hr.2.2.2.2.2 x (by rw [hl]; simp)
      have e1 : eT.sz = 2 := rfl
      rw [e1] at i1 i2
      have m0 := i4 0 _ rfl
      have m1 := i4 1 _ rfl
      rw [Nat.add_zero] at m0
      have a1 := itoa_len hxin.1
      have a2 := itoa_len hxin.2
      rw [addS (by simp [Tx.sKey]; omega)]
      simp only [i1, oP_some', pFA_ptr, Nat.add_zero, m0, m1]
      refine ct_decimal hxin.1 fun h1 hg1 => ⟨hg1.next, ?_⟩
      rw [addS (by simp; omega)]
      simp only [oP_some']
      rw [addS (by simp; omega)]
      have hk1 : pLd (.ptr l (o + 1)) h1 = some (.int .i64 x.2) := by
        obtain ⟨l', o', w', _, j1, _, j3, j4⟩ := (hv'.ext hg1 (by omega)).ix hi .i64
        rw [e1] at j1
        rw [j1] at i1
        cases i1
        rw [hx] at j3
        have hw' := rel_seen j3
        subst hw'
        exact j4 1 _ rfl
      have hev1 : h1.get p = some (.cells 43 1 true false (rwCells r v)) := by rw [hg1.keep _ (by omega) (fun h => h)]; exact hev'
      obtain ⟨_, _, _, _, _, k5'⟩ := rw_loads hev1
      simp only [oP_some', hk1, k5']
      refine ⟨trivial, trivial, ct_decimal hxin.2 fun h2 hg2 => ⟨hg2.next, ?_⟩⟩
      rw [addS (by simp; omega)]
      have w1 : wrapF .i64 ((l1.length : Nat) + 1) = ((l1.length + 1 : Nat) : Int) := by rw [wrapF_in (by simp only [inK]; omega)]; rfl
      simp only [oP_some', hbin_add, w1]
      refine ⟨l2.length, by simp, l1 ++ [x], l2, by rw [hl]; simp, rfl, by trivial, ?_, by simp, (hg'.trans hg1).trans hg2⟩
      rw [keysM_snoc]
      simp [Tx.sKey]
  · rename_i hge
    have : l2 = [] := List.eq_nil_of_length_eq_zero (by omega)
    subst this
    have he2 : r.keys = l1 := by rw [hl]; simp
    have R := fun (h' : Hp) (hg' : Grows h h') => H h' (hg.trans hg')
    unfold Tx.tellM Tx.endM at R
    rw [he2] at R
    have e11 : ∀ {s : List UInt8} {hx : Hp}, Q (.str s) hx → J_turnstoneref30_Tell_R11 CS Q (.str s) hx := fun H => by
      refine j_turnstoneref30_Tell_R11 ?_
      unfold B_turnstoneref30_Tell_R11
      exact H
    simp only [k3, oP_some', q3, bP_bool', beq_iff_eq]
    split
    · rename_i h1
      rw [if_pos h1] at R
      rw [addS (by simp; omega)]
      exact e11 (R _ hg')
    rename_i h1
    rw [if_neg h1] at R
    split
    · rename_i h2
      rw [if_pos h2] at R
      rw [addS (by simp; omega)]
      simp only [oP_some', k4]
      refine ct_decimal hr.2.2.2.2.1 fun h3 hg3 => ?_
      have := itoa_len hr.2.2.2.2.1
      rw [addS (by simp; omega)]
      refine e11 ?_
      have := R _ (hg'.trans hg3)
      simp only [Tx.sTrap, List.append_assoc, List.cons_append, List.nil_append] at this ⊢
      exact this
    · rename_i h2
      rw [if_neg h2] at R
      have := R _ hg'
      rw [List.append_nil] at this
      exact e11 this
theorem tr_R7 {r : Tx.Rw} {v : V} {b p : Nat} {h0 h : Hp} {Q : V → Hp → Prop} (hb : b ≤ h.next) (hp : p < h.next) (hv : SlR eT b h r.keys v) (hev : h.get p = some (.cells 43 1 true false (rwCells r v))) (hr : rwIn r) (hk : r.keys.length ≤ 20) (hg : Grows h0 h)
    (H : ∀ h', Grows h0 h' → Q (.str (Tx.tellM r)) h') : J_turnstoneref30_Tell_R7 CS Q (.ptr p 0) (.str (Tx.tell3 r)) h := by
  refine j_turnstoneref30_Tell_R7 ?_
  unfold B_turnstoneref30_Tell_R7
  exact tr_L0 hb hp hv hev hr hk hg H
theorem tr_R5 {r : Tx.Rw} {v : V} {b p : Nat} {h0 h : Hp} {Q : V → Hp → Prop} (hb : b ≤ h.next) (hp : p < h.next) (hv : SlR eT b h r.keys v) (hev : h.get p = some (.cells 43 1 true false (rwCells r v))) (hr : rwIn r) (hk : r.keys.length ≤ 20) (hg : Grows h0 h)
    (H : ∀ h', Grows h0 h' → Q (.str (Tx.tellM r)) h') : J_turnstoneref30_Tell_R5 CS Q (.ptr p 0) (.str (Tx.tell2 r)) h := by
  refine j_turnstoneref30_Tell_R5 ?_
  unfold B_turnstoneref30_Tell_R5
  obtain ⟨_, _, k2, _⟩ := rw_loads hev
  have R := fun (h1 : Hp) (hg1 : Grows h h1) => tr_R7 (h := h1) (Q := Q) (Nat.le_trans hb hg1.next) (Nat.lt_of_lt_of_le hp hg1.next) (hv.ext hg1 hb) (by rw [hg1.keep _ hp (fun h => h)]; exact hev) hr hk (hg.trans hg1) H
  simp only [pFA_ptr, oP_some', Nat.zero_add, k2, n3, bP_bool', bne_iff_ne]
  unfold Tx.tell3 at R
  split
  · rename_i hn
    rw [if_neg hn] at R
    have := itoa_len hr.2.2.1
    have := tell2_len hr
    rw [addS (by simp; omega)]
    simp only [oP_some', k2]
    refine ct_decimal hr.2.2.1 fun h1 hg1 => ?_
    rw [addS (by simp; omega)]
    have := R h1 hg1
    rw [← List.append_assoc] at this
    exact this
  · rename_i hn
    rw [if_pos (Decidable.not_not.1 hn)] at R
    exact R _ (Chg.refl _ _)
theorem tr_R3 {r : Tx.Rw} {v : V} {b p : Nat} {h0 h : Hp} {Q : V → Hp → Prop} (hb : b ≤ h.next) (hp : p < h.next) (hv : SlR eT b h r.keys v) (hev : h.get p = some (.cells 43 1 true false (rwCells r v))) (hr : rwIn r) (hk : r.keys.length ≤ 20) (hg : Grows h0 h)
    (H : ∀ h', Grows h0 h' → Q (.str (Tx.tellM r)) h') : J_turnstoneref30_Tell_R3 CS Q (.ptr p 0) (.str (Tx.tell1 r)) h := by
  refine j_turnstoneref30_Tell_R3 ?_
  unfold B_turnstoneref30_Tell_R3
  obtain ⟨_, k1, _⟩ := rw_loads hev
  have R := fun (h1 : Hp) (hg1 : Grows h h1) => tr_R5 (h := h1) (Q := Q) (Nat.le_trans hb hg1.next) (Nat.lt_of_lt_of_le hp hg1.next) (hv.ext hg1 hb) (by rw [hg1.keep _ hp (fun h => h)]; exact hev) hr hk (hg.trans hg1) H
  simp only [pFA_ptr, oP_some', Nat.zero_add, k1, n3, bP_bool', bne_iff_ne]
  unfold Tx.tell2 at R
  split
  · rename_i hn
    rw [if_neg hn] at R
    have := itoa_len hr.2.1
    have := tell1_len hr
    rw [addS (by simp; omega)]
    simp only [oP_some', k1]
    refine ct_decimal hr.2.1 fun h1 hg1 => ?_
    rw [addS (by simp; omega)]
    have := R h1 hg1
    rw [← List.append_assoc] at this
    exact this
  · rename_i hn
    rw [if_pos (Decidable.not_not.1 hn)] at R
    exact R _ (Chg.refl _ _)
theorem ct_Tell30 {r : Tx.Rw} {v : V} {b : Nat} {h : Hp} {Q : V → Hp → Prop} (hb : b ≤ h.next) (hv : SlR eT b h r.keys v) (hr : rwIn r) (hk : r.keys.length ≤ 20) (H : ∀ h', Grows h h' → Q (.str (Tx.tellM r)) h') : cP CS n_turnstoneref30_Tell [.agg (rwCells r v)] h Q := by
  refine c_turnstoneref30_Tell rfl rfl ?_
  unfold B_turnstoneref30_Tell
  simp only [hbox_all (rwCells_one r hv.one), alP_some]
  have hg1 : Grows h (h.new (.cells 43 1 true false (rwCells r v))) := Chg.new _ _
  have hev := get_new_self h (.cells 43 1 true false (rwCells r v))
  have hn1 : (h.new (.cells 43 1 true false (rwCells r v))).next = h.next + 1 := rfl
  have hv1 := hv.ext hg1 hb
  generalize h.new (.cells 43 1 true false (rwCells r v)) = h1 at *
  have R := fun (h2 : Hp) (hg2 : Grows h1 h2) => tr_R3 (h := h2) (Q := Q) (b := b) (p := h.next) (v := v) (r := r) (h0 := h) (by have := hg2.next; omega) (by have := hg2.next; omega) (hv1.ext hg2 (by omega)) (by rw [hg2.keep _ (by omega) (fun h => h)]; exact hev) hr hk (hg1.trans hg2) H
  obtain ⟨k0, _⟩ := rw_loads hev
  simp only [pFA_ptr, oP_some', Nat.zero_add, k0, n3, bP_bool', bne_iff_ne]
  unfold Tx.tell1 at R
  split
  · rename_i hn
    rw [if_neg hn] at R
    refine ct_decimal hr.1 fun h2 hg2 => ?_
    have := itoa_len hr.1
    rw [addS (by simp; omega)]
    exact R _ hg2
  · rename_i hn
    rw [if_pos (Decidable.not_not.1 hn)] at R
    exact R _ (Chg.refl _ _)
theorem ct_ScriptTells {r : Tx.Rw} {v : V} {b : Nat} {h : Hp} {Q : V → Hp → Prop} (hb : b ≤ h.next) (hv : SlR eT b h r.keys v) (hr : rwIn r) (H : ∀ h', Grows h h' → Q (.bool true) h') : cP CS n_turnstonelaw30_ScriptTells [.agg (rwCells r v)] h Q := by
  refine c_turnstonelaw30_ScriptTells rfl rfl ?_
  unfold B_turnstonelaw30_ScriptTells
  simp only [hbox_all (rwCells_one r hv.one), alP_some]
  have hg1 : Grows h (h.new (.cells 43 1 true false (rwCells r v))) := Chg.new _ _
  have hev := get_new_self h (.cells 43 1 true false (rwCells r v))
  have hn1 : (h.new (.cells 43 1 true false (rwCells r v))).next = h.next + 1 := rfl
  have hv1 := hv.ext hg1 hb
  generalize h.new (.cells 43 1 true false (rwCells r v)) = h1 at *
  obtain ⟨k0, _, _, _, _, k5⟩ := rw_loads hev
  simp only [pFA_ptr, oP_some', Nat.zero_add, k0, hmin_one, if_true]
  have s1 := pSt_at (o := 0) (v := .int .i64 (max 0 r.why)) hev (by simp [rwCells]) rfl
  simp only [s1, valP_some]
  have hg2 := grows_trans hg1 (Chg.put (S := fun m => m = h.next) (.cells 43 1 true false (rwCells { r with why := max 0 r.why } v)) rfl (by omega)) fun l hl e => by omega
  have hev2 := get_put_self (h := h1) (.cells 43 1 true false (rwCells { r with why := max 0 r.why } v)) (l := h.next) (by omega)
  have hn2 : (h1.put h.next (.cells 43 1 true false (rwCells { r with why := max 0 r.why } v))).next = h1.next := rfl
  rw [show (rwCells r v).set 0 (.int .i64 (max 0 r.why)) = rwCells { r with why := max 0 r.why } v from rfl]
  generalize h1.put h.next (.cells 43 1 true false (rwCells { r with why := max 0 r.why } v)) = h2 at *
  obtain ⟨_, _, _, _, _, j5⟩ := rw_loads hev2
  have hv2 := hv.ext hg2 hb
  simp only [j5, oP_some', hv.len, hmin_one, Bool.false_eq_true, if_false]
  have hmn : min (r.keys.length : Int) 20 = ((min r.keys.length 20 : Nat) : Int) := by omega
  rw [hmn]
  obtain ⟨v', c1, c2⟩ := hv2.cut (lo := none) (hi := some (.int .i64 ((min r.keys.length 20 : Nat) : Int))) (m := 0) (n := min r.keys.length 20) rfl (hbound_at _ _ _) (Nat.zero_le _) (by omega)
  have e1 : eT.sz = 2 := rfl
  rw [e1] at c1
  rw [List.drop_zero] at c2
  simp only [c1, oP_some']
  have s2 := pSt_at (o := 5) (v := v') hev2 (by simp [rwCells]) c2.one
  simp only [s2, valP_some]
  obtain ⟨r', hrd⟩ : ∃ r' : Tx.Rw, r' = ⟨max 0 r.why, r.steps, r.left, r.state, r.trap, r.keys.take (min r.keys.length 20)⟩ := ⟨_, rfl⟩
  have e5 : (rwCells { r with why := max 0 r.why } v).set 5 v' = rwCells r' v' := by subst hrd; rfl
  rw [e5]
  have hr' : rwIn r' := by
    subst hrd
    obtain ⟨g1, g2, g3, g4, g5, g6⟩ := hr
    refine ⟨?_, g2, g3, g4, g5, fun x hx => g6 x (List.mem_of_mem_take hx)⟩
    simp only [inK] at g1 ⊢
    omega
  have hk' : r'.keys.length ≤ 20 := by
    subst hrd
    show (r.keys.take (min r.keys.length 20)).length ≤ 20
    rw [List.length_take]; omega
  have c3 : SlR eT b h2 r'.keys v' := by subst hrd; exact c2
  have hg3 := grows_trans hg2 (Chg.put (S := fun m => m = h.next) (.cells 43 1 true false (rwCells r' v')) rfl (by omega)) fun l hl e => by omega
  have hc23 : Chg (fun m => m = h.next) h2 (h2.put h.next (.cells 43 1 true false (rwCells r' v'))) := Chg.put _ rfl (by omega)
  have hev3 := get_put_self (h := h2) (.cells 43 1 true false (rwCells r' v')) (l := h.next) (by omega)
  have hv3 := c3.chg hc23 (by omega) fun l hl e => by omega
  have hn3 : (h2.put h.next (.cells 43 1 true false (rwCells r' v'))).next = h2.next := rfl
  generalize h2.put h.next (.cells 43 1 true false (rwCells r' v')) = h3 at *
  refine ct_known ⟨Nat.le_refl _, ?_⟩
  simp only [pGd_bool, beq_self_eq_true, gV_true, gC_true, oB_some', pLdA_all (n := 6) hev3 rfl, oP_some', cgP_some]
  refine ct_Tell (by omega) hv3 hr' hk' fun h4 hg4 => ⟨hg4.next, ?_⟩
  have hev4 : h4.get h.next = some (.cells 43 1 true false (rwCells r' v')) := by rw [hg4.keep _ (by omega) (fun h => h)]; exact hev3
  have := hg4.next
  simp only [pLdA_all (n := 6) hev4 rfl, gT_true]
  refine ⟨trivial, ct_Tell30 (by omega) (hv3.ext hg4 (by omega)) hr' hk' fun h5 hg5 => ⟨hg5.next, ?_⟩⟩
  simp only [hbin_eqlS, beq_self_eq_true, pAnd_true, oP_some']
  exact H _ ((hg3.trans hg4).trans hg5)
end Go.Proofs.YtdpfhajggknfaaaGreatDoor.Hx
