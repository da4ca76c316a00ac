/- Chapter 30's text: a line is an event, or refused, by the program as by the document. -/
import Derived.Test.YtdpfhajggknfaaaGreatDoorHxS10
namespace Go.Proofs.YtdpfhajggknfaaaGreatDoor.Hx
open Go.Proofs.YtdpfhajggknfaaaGreatDoor

theorem aggEq_seen (a b c d : Int) : aggEq 60 [.int .i64 a, .int .i64 b] [.int .i64 c, .int .i64 d] = Bool.rec (motive := fun _ => Option Bool) (some false) (Bool.rec (motive := fun _ => Option Bool) (some false) (some true) (b == d)) (a == c) := by kernel_rfl
theorem neq_seen (a b : Int) : hbin .neq 60 (.agg [.int .i64 a, .int .i64 b]) (.agg [.int .i64 a, .int .i64 b]) = some (.bool false) := by
  show oB (aggEq 60 [.int .i64 a, .int .i64 b] [.int .i64 a, .int .i64 b]) (fun b => some (V.bool (Bool.rec (motive := fun _ => Bool) b (!b) true))) = _
  rw [aggEq_seen, beq_self_eq_true, beq_self_eq_true]
  rfl
theorem rel_seen {b : Nat} {h : Hp} {x : Int × Int} {w : List V} (hr : eT.rel b h x w) : w = [.int .i64 x.1, .int .i64 x.2] := by
  obtain ⟨p, q, rfl, ⟨rfl, _⟩, ⟨rfl, _⟩⟩ := hr
  rfl
/-- The cells of a count. -/
def cntCells (e : Tx.Ev) (v : V) : List V := [.int .i64 e.cf, .int .i64 e.cpc, .int .i64 e.cy, .int .i64 e.cn, v]
theorem hbox_all {e : Nat} {cs : List V} (h : allOne cs = true) : hbox e (.agg cs) = some (.cells e 1 true false cs, fun l => .ptr l 0) := by
  unfold hbox
  rw [bB_of _ (by exact h)]
  rfl
theorem ne_self_int (a : Int) : (a != a) = false := by simp
theorem ct_SameCount {e : Tx.Ev} {v v' : V} {b : Nat} {h : Hp} {Q : V → Hp → Prop} (hb : b ≤ h.next) (hv : SlR eT b h e.ty v) (hv' : SlR eT b h e.ty v') (ht : e.ty.length < 4611686018427387904) (H : ∀ h', Grows h h' → Q (.bool true) h') :
    cP CS n_turnstoneref10_SameCount [.agg (cntCells e v), .agg (cntCells e v')] h Q := by
  refine c_turnstoneref10_SameCount rfl rfl ?_
  unfold B_turnstoneref10_SameCount
  have o1 : allOne (cntCells e v) = true := by unfold cntCells; simp only [allOne_cons, hv.one, allOne_nil]; rfl
  have o2 : allOne (cntCells e v') = true := by unfold cntCells; simp only [allOne_cons, hv'.one, allOne_nil]; rfl
  simp only [hbox_all o1, hbox_all o2, alP_some]
  have hg2 : Grows h ((h.new (.cells 24 1 true false (cntCells e v))).new (.cells 24 1 true false (cntCells e v'))) := (Chg.new _ _).trans (Chg.new _ _)
  have ga : ((h.new (.cells 24 1 true false (cntCells e v))).new (.cells 24 1 true false (cntCells e v'))).get h.next = some (.cells 24 1 true false (cntCells e v)) := by rw [get_new_lt _ (by simp)]; exact get_new_self _ _
  have gb : ((h.new (.cells 24 1 true false (cntCells e v))).new (.cells 24 1 true false (cntCells e v'))).get (h.next + 1) = some (.cells 24 1 true false (cntCells e v')) := get_new_self (h.new _) _
  have hv2 := hv.ext hg2 hb
  have hv2' := hv'.ext hg2 hb
  have hnx : (h.new (.cells 24 1 true false (cntCells e v))).next = h.next + 1 := rfl
  rw [hnx]
  generalize (h.new (.cells 24 1 true false (cntCells e v))).new (.cells 24 1 true false (cntCells e v')) = h2 at *
  have a0 : pLd (.ptr h.next 0) h2 = some (.int .i64 e.cf) := pLd_get ga rfl
  have a1 : pLd (.ptr h.next 1) h2 = some (.int .i64 e.cpc) := pLd_get ga rfl
  have a2 : pLd (.ptr h.next 2) h2 = some (.int .i64 e.cy) := pLd_get ga rfl
  have a3 : pLd (.ptr h.next 3) h2 = some (.int .i64 e.cn) := pLd_get ga rfl
  have a4 : pLd (.ptr h.next 4) h2 = some v := pLd_get ga rfl
  have b0 : pLd (.ptr (h.next + 1) 0) h2 = some (.int .i64 e.cf) := pLd_get gb rfl
  have b1 : pLd (.ptr (h.next + 1) 1) h2 = some (.int .i64 e.cpc) := pLd_get gb rfl
  have b2 : pLd (.ptr (h.next + 1) 2) h2 = some (.int .i64 e.cy) := pLd_get gb rfl
  have b3 : pLd (.ptr (h.next + 1) 3) h2 = some (.int .i64 e.cn) := pLd_get gb rfl
  have b4 : pLd (.ptr (h.next + 1) 4) h2 = some v' := pLd_get gb rfl
  simp only [pFA_ptr, oP_some', Nat.zero_add, a0, a1, a2, a3, a4, b0, b1, b2, b3, b4, hbin_neq, ne_self_int, pOr_false, oB_some', hv2.len, hv2'.len, bP_bool', Bool.false_eq_true, if_false]
  refine l_turnstoneref10_SameCount_L0 (fun k x2 x3 x5 h' => ∃ i : Nat, i ≤ e.ty.length ∧ k = e.ty.length - i ∧ x2 = .ptr h.next 0 ∧ x3 = .ptr (h.next + 1) 0 ∧ x5 = .int .i64 (i : Nat) ∧ h' = h2) ?_ ⟨0, Nat.zero_le _, rfl, rfl, rfl, rfl, rfl⟩
  rintro k x2 x3 x5 h' ⟨i, hi, rfl, rfl, rfl, rfl, rfl⟩
  unfold B_turnstoneref10_SameCount_L0
  simp only [pFA_ptr, oP_some', Nat.zero_add, a4, hv2.len, hbin_lss, bP_bool', decide_eq_true_eq]
  split
  · rename_i hlt
    have hlt' : i < e.ty.length := by omega
    obtain ⟨l1, o1, w1, _, p1, p2, p3, _⟩ := hv2.ix hlt' .i64
    obtain ⟨l2, o2, w2, _, q1, q2, q3, _⟩ := hv2'.ix hlt' .i64
    have e1 := rel_seen p3
    have e2 := rel_seen q3
    subst e1 e2
    have p1' : pIx 2 v (.int .i64 (i : Nat)) = some (.ptr l1 o1) := p1
    have q1' : pIx 2 v' (.int .i64 (i : Nat)) = some (.ptr l2 o2) := q1
    have p2' : pLdA 2 (.ptr l1 o1) h' = some (.agg [.int .i64 e.ty[i].1, .int .i64 e.ty[i].2]) := p2
    have q2' : pLdA 2 (.ptr l2 o2) h' = some (.agg [.int .i64 e.ty[i].1, .int .i64 e.ty[i].2]) := q2
    have w1 : wrapF .i64 ((i : Nat) + 1) = ((i + 1 : Nat) : Int) := by rw [wrapF_in (by simp only [inK]; omega)]; omega
    simp only [p1', oP_some', p2', b4, q1', q2', neq_seen, bP_bool', Bool.false_eq_true, if_false, hbin_add, w1]
    exact ⟨e.ty.length - (i + 1), by omega, i + 1, by omega, rfl, by trivial, by trivial, by trivial, by trivial⟩
  · exact H _ hg2
theorem ct_same {e : Tx.Ev} {v v' : V} {b : Nat} {h : Hp} {Q : V → Hp → Prop} (hb : b ≤ h.next) (hv : SlR eT b h e.ty v) (hv' : SlR eT b h e.ty v') (ht : e.ty.length < 4611686018427387904) (H : ∀ h', Grows h h' → Q (.bool true) h') :
    cP CS n_turnstonelaw30_same [.agg (evCells e v), .agg (evCells e v')] h Q := by
  refine c_turnstonelaw30_same rfl rfl ?_
  unfold B_turnstonelaw30_same
  simp only [hbox_all (evCells_one e hv.one), hbox_all (evCells_one e hv'.one), alP_some]
  have hg2 : Grows h ((h.new (.cells 26 1 true false (evCells e v))).new (.cells 26 1 true false (evCells e v'))) := (Chg.new _ _).trans (Chg.new _ _)
  have ga : ((h.new (.cells 26 1 true false (evCells e v))).new (.cells 26 1 true false (evCells e v'))).get h.next = some (.cells 26 1 true false (evCells e v)) := by rw [get_new_lt _ (by simp)]; exact get_new_self _ _
  have gb : ((h.new (.cells 26 1 true false (evCells e v))).new (.cells 26 1 true false (evCells e v'))).get (h.next + 1) = some (.cells 26 1 true false (evCells e v')) := get_new_self (h.new _) _
  have hv2 := hv.ext hg2 hb
  have hv2' := hv'.ext hg2 hb
  have hnx : (h.new (.cells 26 1 true false (evCells e v))).next = h.next + 1 := rfl
  rw [hnx]
  generalize (h.new (.cells 26 1 true false (evCells e v))).new (.cells 26 1 true false (evCells e v')) = h2 at *
  have a0 : pLd (.ptr h.next 0) h2 = some (.int .i64 e.kind) := pLd_get ga rfl
  have a1 : pLd (.ptr h.next 1) h2 = some (.int .i64 e.f) := pLd_get ga rfl
  have a2 : pLd (.ptr h.next 2) h2 = some (.int .i64 e.pc) := pLd_get ga rfl
  have a3 : pLd (.ptr h.next 3) h2 = some (.int .i64 e.n) := pLd_get ga rfl
  have a4 : pLdA 5 (.ptr h.next 4) h2 = some (.agg (cntCells e v)) := by rw [pLdA_ptr ga]; rfl
  have b0 : pLd (.ptr (h.next + 1) 0) h2 = some (.int .i64 e.kind) := pLd_get gb rfl
  have b1 : pLd (.ptr (h.next + 1) 1) h2 = some (.int .i64 e.f) := pLd_get gb rfl
  have b2 : pLd (.ptr (h.next + 1) 2) h2 = some (.int .i64 e.pc) := pLd_get gb rfl
  have b3 : pLd (.ptr (h.next + 1) 3) h2 = some (.int .i64 e.n) := pLd_get gb rfl
  have b4 : pLdA 5 (.ptr (h.next + 1) 4) h2 = some (.agg (cntCells e v')) := by rw [pLdA_ptr gb]; rfl
  have hE (a : Int) : (a == a) = true := by simp
  simp only [pFA_ptr, oP_some', Nat.zero_add, a0, a1, a2, a3, a4, b0, b1, b2, b3, b4, hbin_eql, hE, pAnd_true, oB_some', pGd_bool, beq_self_eq_true, gV_true, gC_true, cgP_some]
  refine ct_SameCount (Nat.le_trans hb hg2.next) hv2 hv2' ht fun h3 hg3 => ?_
  simp only [pPick_bool, oP_some', if_true]
  exact H _ (hg2.trans hg3)
theorem eql_err (a : Int) : hbin .eql 27 (.int .i64 a) (.int .i64 a) = some (.bool true) := by rw [hbin_eql, beq_self_eq_true]
theorem ct_known {h : Hp} {Q : V → Hp → Prop} (H : Q (.bool true) h) : cP CS n_turnstonelaw30_known [] h Q := by
  obtain ⟨fn, c, hf, hb⟩ := body10
  exact cP.known hf hb rfl rfl rfl H
theorem ty_len {s : Tx.Bs} : (parseR s).1.ty.length ≤ 8 := by
  unfold parseR
  cases h : Tx.parseM s with
  | none => simp [Tx.ev0]
  | some e => exact (Tx.parse_kind h).2.2
theorem ct_ScriptParses {s : Tx.Bs} {h : Hp} {Q : V → Hp → Prop} (hs : s.length < 1000000000) (H : ∀ h', Grows h h' → Q (.bool true) h') : cP CS n_turnstonelaw30_ScriptParses [.str s] h Q := by
  refine c_turnstonelaw30_ScriptParses rfl rfl ?_
  unfold B_turnstonelaw30_ScriptParses
  refine ct_Parse hs fun v h1 hg1 hsl1 => ?_
  simp only [pExt_tuple, at1_zero, at1_succ, oP_some', alP_some]
  have s1 := pSt_all (ws := evCells (parseR s).1 v) (n := 9) (get_new_self h1 (.cells 26 1 true false [(V.int .i64 0), (V.int .i64 0), (V.int .i64 0), (V.int .i64 0), (V.int .i64 0), (V.int .i64 0), (V.int .i64 0), (V.int .i64 0), V.nilSlice])) rfl rfl (evCells_one _ hsl1.one)
  simp only [s1, valP_some]
  have l3n : h1.next < (h1.new (.cells 26 1 true false [(V.int .i64 0), (V.int .i64 0), (V.int .i64 0), (V.int .i64 0), (V.int .i64 0), (V.int .i64 0), (V.int .i64 0), (V.int .i64 0), V.nilSlice])).next := by simp
  have hg2 : Grows h1 (h1.new (.cells 26 1 true false [(V.int .i64 0), (V.int .i64 0), (V.int .i64 0), (V.int .i64 0), (V.int .i64 0), (V.int .i64 0), (V.int .i64 0), (V.int .i64 0), V.nilSlice])) := Chg.new _ _
  generalize h1.new (.cells 26 1 true false [(V.int .i64 0), (V.int .i64 0), (V.int .i64 0), (V.int .i64 0), (V.int .i64 0), (V.int .i64 0), (V.int .i64 0), (V.int .i64 0), V.nilSlice]) = h2 at *
  have hg3 : Grows h1 (h2.put h1.next (.cells 26 1 true false (evCells (parseR s).1 v))) := grows_trans hg2 (Chg.put (S := fun m => m = h1.next) _ rfl l3n) fun l hl e => by omega
  have ga : (h2.put h1.next (.cells 26 1 true false (evCells (parseR s).1 v))).get h1.next = some (.cells 26 1 true false (evCells (parseR s).1 v)) := get_put_self _ l3n
  have hn3 : h1.next < (h2.put h1.next (.cells 26 1 true false (evCells (parseR s).1 v))).next := l3n
  generalize h2.put h1.next (.cells 26 1 true false (evCells (parseR s).1 v)) = h3 at *
  refine ct_Parse30 hs fun v' h4 hg4 hsl4 => ?_
  simp only [pExt_tuple, at1_zero, at1_succ, oP_some', alP_some]
  have s2 := pSt_all (ws := evCells (parseR s).1 v') (n := 9) (get_new_self h4 (.cells 26 1 true false [(V.int .i64 0), (V.int .i64 0), (V.int .i64 0), (V.int .i64 0), (V.int .i64 0), (V.int .i64 0), (V.int .i64 0), (V.int .i64 0), V.nilSlice])) rfl rfl (evCells_one _ hsl4.one)
  simp only [s2, valP_some]
  have l5n : h4.next < (h4.new (.cells 26 1 true false [(V.int .i64 0), (V.int .i64 0), (V.int .i64 0), (V.int .i64 0), (V.int .i64 0), (V.int .i64 0), (V.int .i64 0), (V.int .i64 0), V.nilSlice])).next := by simp
  have hg5 : Grows h4 (h4.new (.cells 26 1 true false [(V.int .i64 0), (V.int .i64 0), (V.int .i64 0), (V.int .i64 0), (V.int .i64 0), (V.int .i64 0), (V.int .i64 0), (V.int .i64 0), V.nilSlice])) := Chg.new _ _
  generalize h4.new (.cells 26 1 true false [(V.int .i64 0), (V.int .i64 0), (V.int .i64 0), (V.int .i64 0), (V.int .i64 0), (V.int .i64 0), (V.int .i64 0), (V.int .i64 0), V.nilSlice]) = h5 at *
  have hg6 : Grows h4 (h5.put h4.next (.cells 26 1 true false (evCells (parseR s).1 v'))) := grows_trans hg5 (Chg.put (S := fun m => m = h4.next) _ rfl l5n) fun l hl e => by omega
  have gb : (h5.put h4.next (.cells 26 1 true false (evCells (parseR s).1 v'))).get h4.next = some (.cells 26 1 true false (evCells (parseR s).1 v')) := get_put_self _ l5n
  generalize h5.put h4.next (.cells 26 1 true false (evCells (parseR s).1 v')) = h6 at *
  refine ct_known ?_
  have hg36 : Grows h3 h6 := hg4.trans hg6
  have ga6 : h6.get h1.next = some (.cells 26 1 true false (evCells (parseR s).1 v)) := by rw [hg36.keep _ hn3 (fun h => h)]; exact ga
  have r1 := pLdA_all (n := 9) ga6 rfl
  have r2 := pLdA_all (n := 9) gb rfl
  have hn34 := hg4.next
  have hn46 := hg6.next
  simp only [oB_some', eql_err, pAnd_true, oP_some', pGd_bool, beq_self_eq_true, gV_true, r1, r2, gC_true, cgP_some]
  have hx := ((hsl1.ext hg3 (Nat.le_refl _)).ext hg36 hg3.next).mono (b' := h4.next) (by have := hg3.next; omega)
  refine ct_same (b := h4.next) (by omega) hx (hsl4.ext hg6 (Nat.le_refl _)) (by have := ty_len (s := s); omega) fun h7 hg7 => ?_
  · simp only [pPick_bool, oP_some', if_true]
    exact H _ (((hg1.trans hg3).trans hg36).trans hg7)
end Go.Proofs.YtdpfhajggknfaaaGreatDoor.Hx
