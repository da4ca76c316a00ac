/- Chapter 30's text: a drawn line is short; the law of lines that are changed by a letter. -/
import Derived.Test.YtdpfhajggknfaaaGreatDoorHxVE
import Derived.Test.YtdpfhajggknfaaaGreatDoorHxSc
namespace Go.Proofs.YtdpfhajggknfaaaGreatDoor.Hx
open Go.Proofs.YtdpfhajggknfaaaGreatDoor Go.Lib

/-! ### a drawn line's cells -/
def lnCells (kind how : Int) (vn vw : V) : List V := [.int .i64 kind, vn, vw, .int .i64 how]
theorem lnCells_one (kind how : Int) {vn vw : V} (h1 : vn.one = true) (h2 : vw.one = true) : allOne (lnCells kind how vn vw) = true := by simp only [lnCells, allOne_cons, allOne_nil, h1, h2]; rfl
theorem ln_loads {kind how : Int} {vn vw : V} {l : Nat} {h : Hp} (hg : h.get l = some (.cells 36 1 true false (lnCells kind how vn vw))) :
    pLd (.ptr l 0) h = some (.int .i64 kind) ∧ pLd (.ptr l 1) h = some vn ∧ pLd (.ptr l 2) h = some vw ∧ pLd (.ptr l 3) h = some (.int .i64 how) :=
  ⟨pLd_get hg rfl, pLd_get hg rfl, pLd_get hg rfl, pLd_get hg rfl⟩
theorem seven {k : Int} (h0 : 0 ≤ k) (h7 : k < 7) : k = 0 ∨ k = 1 ∨ k = 2 ∨ k = 3 ∨ k = 4 ∨ k = 5 ∨ k = 6 := by omega
theorem name_at {k : Int} (h0 : 0 ≤ k) (h7 : k < 7) {l : Nat} {h : Hp} (hg : h.get l = some (.cells 9 1 true false (strs Tx.names))) :
    ∃ o w, pIx 1 (.slice l 0 7) (.int .i64 k) = some (.ptr l o) ∧ pLd (.ptr l o) h = some (.str w) ∧ 1 ≤ w.length ∧ w.length ≤ 10 := by
  rcases seven h0 h7 with rfl | rfl | rfl | rfl | rfl | rfl | rfl
  · exact ⟨0, Tx.nStep, rfl, pLd_get hg rfl, by decide, by decide⟩
  · exact ⟨1, Tx.nCompile, rfl, pLd_get hg rfl, by decide, by decide⟩
  · exact ⟨2, Tx.nEnter, rfl, pLd_get hg rfl, by decide, by decide⟩
  · exact ⟨3, Tx.nEvict, rfl, pLd_get hg rfl, by decide, by decide⟩
  · exact ⟨4, Tx.nInvalidate, rfl, pLd_get hg rfl, by decide, by decide⟩
  · exact ⟨5, Tx.nCount, rfl, pLd_get hg rfl, by decide, by decide⟩
  · exact ⟨6, Tx.nAuto, rfl, pLd_get hg rfl, by decide, by decide⟩
theorem counts : pBuildA 1 [(V.int .i64 0), (V.int .i64 0), (V.int .i64 0), (V.int .i64 0), (V.int .i64 0), (V.int .i64 0), (V.int .i64 0)] [(0, (V.int .i64 1)), (1, (V.int .i64 2)), (2, (V.int .i64 1)), (3, (V.int .i64 2)), (4, (V.int .i64 1)), (5, (V.int .i64 4)), (6, (V.int .i64 1))] =
    some (.agg [(V.int .i64 1), (V.int .i64 2), (V.int .i64 1), (V.int .i64 2), (V.int .i64 1), (V.int .i64 4), (V.int .i64 1)]) := rfl
theorem count_at {k : Int} (h0 : 0 ≤ k) (h7 : k < 7) : ∃ c : Nat, c ≤ 4 ∧ pIdx 7 1 (.agg [(V.int .i64 1), (V.int .i64 2), (V.int .i64 1), (V.int .i64 2), (V.int .i64 1), (V.int .i64 4), (V.int .i64 1)]) (.int .i64 k) = some (.int .i64 (c : Nat)) := by
  rcases seven h0 h7 with rfl | rfl | rfl | rfl | rfl | rfl | rfl
  · exact ⟨1, by decide, rfl⟩
  · exact ⟨2, by decide, rfl⟩
  · exact ⟨1, by decide, rfl⟩
  · exact ⟨2, by decide, rfl⟩
  · exact ⟨1, by decide, rfl⟩
  · exact ⟨4, by decide, rfl⟩
  · exact ⟨1, by decide, rfl⟩
/-- A drawn line, laid. -/
structure Ln (b p : Nat) (h : Hp) (kind how : Int) (nums : List Int) (words : List Tx.Bs) (vn vw : V) : Prop where
  le : b ≤ h.next
  lt : p < h.next
  at_ : h.get p = some (.cells 36 1 true false (lnCells kind how vn vw))
  nums : SlR (eI .i64) b h nums vn
  words : SlR eS b h words vw
theorem Ln.grow {b p : Nat} {h h' : Hp} {kind how : Int} {nums : List Int} {words : List Tx.Bs} {vn vw : V} (hL : Ln b p h kind how nums words vn vw) (hg : Grows h h') : Ln b p h' kind how nums words vn vw :=
  ⟨Nat.le_trans hL.le hg.next, Nat.lt_of_lt_of_le hL.lt hg.next, by rw [hg.keep _ hL.lt (fun h => h)]; exact hL.at_, hL.nums.ext hg hL.le, hL.words.ext hg hL.le⟩
def LtI (p : Nat) (h : Hp) (k : Nat) (x1 x4 x5 x6 : V) (h' : Hp) : Prop :=
  ∃ (i c : Nat) (s : Tx.Bs), x1 = .ptr p 0 ∧ x4 = .str s ∧ 1 ≤ s.length ∧ s.length ≤ 10 + 22 * i ∧ x5 = .int .i64 (c : Nat) ∧ c ≤ 10 ∧ x6 = .int .i64 (i : Nat) ∧ i ≤ c ∧ k = c - i ∧ Grows h h'
section
variable {b p : Nat} {h0 h : Hp} {kind how : Int} {nums : List Int} {words : List Tx.Bs} {vn vw : V} {Q : V → Hp → Prop}
theorem lt_R19 {h' : Hp} {i c : Nat} {s w : Tx.Bs} (h1 : 1 ≤ s.length) (h2 : s.length ≤ 10 + 22 * i) (hc : c ≤ 10) (hi : i < c) (hw : w.length ≤ 21) (hg : Grows h h') :
    J_turnstonelaw30_Line_text_R19 CS Q (fun x1 x4 x5 x6 h' => ∃ k', k' < c - i ∧ LtI p h k' x1 x4 x5 x6 h') (.ptr p 0) (.str s) (.int .i64 (c : Nat)) (.int .i64 (i : Nat)) (.str w) h' := by
  refine j_turnstonelaw30_Line_text_R19 ?_
  unfold B_turnstonelaw30_Line_text_R19
  rw [addS (by simp; omega)]
  simp only [oP_some']
  rw [addS (by simp; omega)]
  have w1 : wrapF .i64 ((i : Nat) + 1) = ((i + 1 : Nat) : Int) := by rw [wrapF_in (by simp only [inK]; omega)]; rfl
  simp only [oP_some', hbin_add, w1]
  exact ⟨c - (i + 1), by omega, i + 1, c, _, rfl, rfl, by simp; omega, by simp; omega, rfl, hc, rfl, by omega, rfl, hg⟩
theorem lt_R16 {h' : Hp} {i c : Nat} {s : Tx.Bs} {n : Int} (hL : Ln b p h kind how nums words vn vw) (hn : inK .i64 n) (h1 : 1 ≤ s.length) (h2 : s.length ≤ 10 + 22 * i) (hc : c ≤ 10) (hi : i < c) (hg : Grows h h') :
    J_turnstonelaw30_Line_text_R16 CS Q (fun x1 x4 x5 x6 h' => ∃ k', k' < c - i ∧ LtI p h k' x1 x4 x5 x6 h') (.ptr p 0) (.str s) (.int .i64 (c : Nat)) (.int .i64 (i : Nat)) (.int .i64 n) h' := by
  refine j_turnstonelaw30_Line_text_R16 ?_
  unfold B_turnstonelaw30_Line_text_R16
  refine ct_Digits hn fun hh hg2 => ?_
  have hg3 := hg.trans hg2
  have hL2 := hL.grow hg3
  obtain ⟨_, _, k2, k3⟩ := ln_loads hL2.at_
  simp only [pFA_ptr, oP_some', Nat.zero_add, k2, hL2.words.len, hbin_lss, pGd_bool]
  by_cases hlt : i < words.length
  · have hlt' : ((i : Nat) : Int) < ((words.length : Nat) : Int) := by omega
    simp only [hlt', decide_true, beq_self_eq_true, gV_true, oP_some', k3, gC_true, oB_some', cgP_some]
    refine ct_Pick (by omega) (by omega) ?_
    simp only [pAnd_true, q3, oP_some', bP_bool']
    split
    · obtain ⟨l, o, u, _, i1, i2, i3⟩ := hL2.words.ix1 hlt .i64 rfl
      have hu : u = .str words[i] := by
        have : ([u] : List V) = [.str words[i]] := i3
        simpa using this
      subst hu
      simp only [pFA_ptr, Nat.zero_add, k2, i1, i2, oP_some', pLenS_str, hmin_one, Bool.false_eq_true, if_false]
      have hmn : min ((words[i].length : Nat) : Int) 20 = ((min words[i].length 20 : Nat) : Int) := by omega
      rw [hmn, hsliceS_to (by omega)]
      exact lt_R19 h1 h2 hc hi (by rw [List.length_take]; omega) hg3
    · exact lt_R19 h1 h2 hc hi (itoa_len hn) hg3
  · have hlt' : ¬ ((i : Nat) : Int) < ((words.length : Nat) : Int) := by omega
    have hb : (false == true) = false := rfl
    simp only [hlt', decide_false, hb, gV_false, oP_some', gC_false, cgP_none, pAnd_false, bP_bool', Bool.false_eq_true, if_false]
    exact lt_R19 h1 h2 hc hi (itoa_len hn) hg3
theorem lt_L0 {c : Nat} {s : Tx.Bs} (hL : Ln b p h kind how nums words vn vw) (h1 : 1 ≤ s.length) (h2 : s.length ≤ 10) (hc : c ≤ 10) (hg : Grows h0 h)
    (H : ∀ (s : Tx.Bs) h', 1 ≤ s.length → s.length ≤ 1000 → Grows h0 h' → Q (.str s) h') : J_turnstonelaw30_Line_text_L0 CS Q (.ptr p 0) (.str s) (.int .i64 (c : Nat)) (.int .i64 0) h := by
  refine l_turnstonelaw30_Line_text_L0 (LtI p h) ?_ ⟨0, c, s, rfl, rfl, h1, by omega, rfl, hc, rfl, Nat.zero_le _, rfl, Chg.refl _ _⟩
  rintro k x1 x4 x5 x6 h' ⟨i, c, s, rfl, rfl, g1, g2, rfl, hc, rfl, hi, rfl, hg'⟩
  unfold B_turnstonelaw30_Line_text_L0
  simp only [hbin_lss, oP_some', bP_bool', decide_eq_true_eq]
  split
  · rename_i hlt
    have hlt' : i < c := by omega
    have hL' := hL.grow hg'
    obtain ⟨_, k1, _, _⟩ := ln_loads hL'.at_
    simp only [pFA_ptr, oP_some', Nat.zero_add, k1, hL'.nums.len, hbin_gtr, bP_bool', decide_eq_true_eq]
    split
    · rename_i hpos
      have hpos' : 0 < nums.length := by omega
      rw [hbin_rem _ _ _ _ (by omega)]
      have e1 : ((i : Nat) : Int).tmod ((nums.length : Nat) : Int) = ((i % nums.length : Nat) : Int) := rfl
      have hlt2 : i % nums.length < nums.length := Nat.mod_lt _ hpos'
      obtain ⟨l, o, u, _, i1, i2, i3⟩ := hL'.nums.ix1 hlt2 .i64 rfl
      have hu : u = .int .i64 nums[i % nums.length] := by
        have := i3.1
        simpa using this
      subst hu
      simp only [oP_some', e1, i1, i2]
      exact lt_R16 hL i3.2 g1 g2 hc hlt' hg'
    · exact lt_R16 hL (by simp only [inK]; omega) g1 g2 hc hlt' hg'
  · exact H s h' g1 (by omega) (hg.trans hg')
theorem lt_R5 {c : Nat} {s : Tx.Bs} (hL : Ln b p h kind how nums words vn vw) (h1 : 1 ≤ s.length) (h2 : s.length ≤ 10) (hc : c ≤ 10) (hg : Grows h0 h)
    (H : ∀ (s : Tx.Bs) h', 1 ≤ s.length → s.length ≤ 1000 → Grows h0 h' → Q (.str s) h') : J_turnstonelaw30_Line_text_R5 CS Q (.ptr p 0) (.str s) (.int .i64 (c : Nat)) h := by
  refine j_turnstonelaw30_Line_text_R5 ?_
  unfold B_turnstonelaw30_Line_text_R5
  obtain ⟨_, _, _, k3⟩ := ln_loads hL.at_
  have r7 : ∀ (c : Nat), c ≤ 10 → J_turnstonelaw30_Line_text_R7 CS Q (.ptr p 0) (.str s) (.int .i64 (c : Nat)) h := fun c hc => by
    refine j_turnstonelaw30_Line_text_R7 ?_
    unfold B_turnstonelaw30_Line_text_R7
    exact lt_L0 hL h1 h2 hc hg H
  simp only [pFA_ptr, oP_some', Nat.zero_add, k3]
  refine ct_Pick (by omega) (by omega) ?_
  simp only [q3, oP_some', bP_bool']
  split
  · simp only [pFA_ptr, oP_some', Nat.zero_add, k3]
    rw [hbin_quo _ _ _ 19 (by omega)]
    simp only [oP_some']
    refine ct_Pick (by omega) (by omega) ?_
    have hp := pick_in (wrapF .i64 (how.tdiv 19)) (m := 5) (by omega)
    have := r7 (pick (wrapF .i64 (how.tdiv 19)) 5).toNat (by omega)
    rw [show (((pick (wrapF .i64 (how.tdiv 19)) 5).toNat : Nat) : Int) = pick (wrapF .i64 (how.tdiv 19)) 5 by omega] at this
    exact this
  · exact r7 c hc
end
theorem ct_text {b : Nat} {h : Hp} {kind how : Int} {nums : List Int} {words : List Tx.Bs} {vn vw : V} {Q : V → Hp → Prop} (hb : b ≤ h.next) (hn : SlR (eI .i64) b h nums vn) (hw : SlR eS b h words vw)
    (H : ∀ (s : Tx.Bs) h', 1 ≤ s.length → s.length ≤ 1000 → Grows h h' → Q (.str s) h') : cP CS n_turnstonelaw30_Line_text [.agg (lnCells kind how vn vw)] h Q := by
  refine c_turnstonelaw30_Line_text rfl rfl ?_
  unfold B_turnstonelaw30_Line_text
  simp only [hbox_all (lnCells_one kind how hn.one hw.one), alP_some]
  have hg1 : Grows h (h.new (.cells 36 1 true false (lnCells kind how vn vw))) := Chg.new _ _
  have hev := get_new_self h (.cells 36 1 true false (lnCells kind how vn vw))
  have hn1 : (h.new (.cells 36 1 true false (lnCells kind how vn vw))).next = h.next + 1 := rfl
  have hL : Ln b h.next (h.new (.cells 36 1 true false (lnCells kind how vn vw))) kind how nums words vn vw := ⟨by omega, by omega, hev, hn.ext hg1 hb, hw.ext hg1 hb⟩
  clear hev hn hw
  generalize h.new (.cells 36 1 true false (lnCells kind how vn vw)) = h1 at *
  obtain ⟨k0, _, _, _⟩ := ln_loads hL.at_
  simp only [pFA_ptr, oP_some', Nat.zero_add, k0]
  refine ct_Pick (by omega) (by omega) (ct_Names ?_)
  have hp := pick_in kind (m := 7) (by omega)
  have hg2 : Grows h1 (h1.new (.cells 9 1 true false (strs Tx.names))) := Chg.new _ _
  have hL2 := hL.grow hg2
  obtain ⟨o, w, i1, i2, i3, i4⟩ := name_at hp.1 hp.2 (get_new_self h1 (.cells 9 1 true false (strs Tx.names)))
  generalize h1.new (.cells 9 1 true false (strs Tx.names)) = h2 at *
  have hg3 := hg1.trans hg2
  obtain ⟨c, c1, c2⟩ := count_at hp.1 hp.2
  obtain ⟨_, _, _, k3⟩ := ln_loads hL2.at_
  simp only [i1, i2, oP_some', counts, c2, q3, bP_bool', k3]
  split
  · refine ct_Pick (by omega) (by omega) ?_
    have hp4 := pick_in how (m := 4) (by omega)
    have w1 : wrapF .i64 (2 * pick how 4) = 2 * pick how 4 := wrapF_in (by simp only [inK]; omega)
    have w2 : wrapF .i64 ((c : Nat) + 2 * pick how 4) = ((c + 2 * (pick how 4).toNat : Nat) : Int) := by rw [wrapF_in (by simp only [inK]; omega)]; omega
    simp only [hbin_mul, w1, hbin_add, w2, oP_some']
    exact lt_R5 hL2 i3 i4 (by omega) hg3 H
  · exact lt_R5 hL2 i3 i4 (by omega) hg3 H
/-! ### the law -/
theorem wrapF_byte (n : Int) : ∃ k : Nat, k < 256 ∧ wrapF .u8 n = (k : Nat) := by
  refine ⟨(n % 256).toNat, by omega, ?_⟩
  rw [wrapF_eq]
  simp only [IntKind.wrap, IntKind.signed, IntKind.bits, Bool.false_and, Bool.false_eq_true, if_false, Int.reducePow]
  omega
theorem bytesOf_byte {k : Nat} (h : k < 256) : bytesOf [V.int .u8 (k : Nat)] = some [UInt8.ofNat k] := by
  show oB (bB (Nat.blt k 256) (some (UInt8.ofNat k))) (fun b => oB (some []) fun l => some (b :: l)) = _
  rw [bB_of _ (by rw [Nat.blt_eq]; omega)]
  rfl
theorem ct_ScriptForms {b : Nat} {h : Hp} {kind how pos by_ : Int} {nums : List Int} {words : List Tx.Bs} {vn vw : V} {Q : V → Hp → Prop} (hb : b ≤ h.next) (hn : SlR (eI .i64) b h nums vn) (hw : SlR eS b h words vw)
    (H : ∀ h', Grows h h' → Q (.bool true) h') : cP CS n_turnstonelaw30_ScriptForms [.agg (lnCells kind how vn vw), .int .i64 pos, .int .i64 by_] h Q := by
  refine c_turnstonelaw30_ScriptForms rfl rfl ?_
  unfold B_turnstonelaw30_ScriptForms
  simp only [hbox_all (lnCells_one kind how hn.one hw.one), alP_some]
  have hg1 : Grows h (h.new (.cells 36 1 true false (lnCells kind how vn vw))) := Chg.new _ _
  have hev := get_new_self h (.cells 36 1 true false (lnCells kind how vn vw))
  have hn1 : (h.new (.cells 36 1 true false (lnCells kind how vn vw))).next = h.next + 1 := rfl
  have hn' := hn.ext hg1 hb
  have hw' := hw.ext hg1 hb
  generalize h.new (.cells 36 1 true false (lnCells kind how vn vw)) = h1 at *
  simp only [pLdA_all (n := 4) hev rfl, oP_some']
  refine ct_text (b := b) (by omega) hn' hw' fun s h2 s1 s2 hg2 => ?_
  refine ct_ScriptParses (by omega) fun h3 hg3 => ?_
  simp only [hun_not, Bool.not_true, oP_some', bP_bool', Bool.false_eq_true, if_false, pLenS_str]
  refine ct_Pick (by omega) (by omega) ?_
  have hp := pick_in pos (m := ((s.length : Nat) : Int)) (by omega)
  obtain ⟨i, hi⟩ := Int.eq_ofNat_of_zero_le hp.1
  rw [hi] at hp ⊢
  have hi' : i < s.length := by omega
  have w1 : wrapF .i64 ((i : Nat) + 1) = ((i + 1 : Nat) : Int) := by rw [wrapF_in (by simp only [inK]; omega)]; rfl
  obtain ⟨k, hk, hk2⟩ := wrapF_byte by_
  have hbs : pBS 5 1 1 (V.int .u8 0) [(0, V.int .u8 (k : Nat))] = some (.cells 5 1 true false [V.int .u8 (k : Nat)], fun l => .slice l 0 1) := rfl
  have hlen : (s.take i).length ≤ 1000 := by rw [List.length_take]; omega
  have hlen2 : (s.drop (i + 1)).length ≤ 1000 := by rw [List.length_drop]; omega
  simp only [hsliceS_to (show i ≤ s.length by omega), oP_some', pConv_int, hk2, hbs, alO_some, pB2S_row (n := 1) (get_new_self h3 (.cells 5 1 true false [V.int .u8 (k : Nat)])) rfl (bytesOf_byte hk)]
  rw [addS (by rw [List.length_singleton]; omega)]
  simp only [oP_some', hbin_add, w1, hsliceS_from (show i + 1 ≤ s.length by omega)]
  rw [addS (by rw [List.length_append, List.length_singleton]; omega)]
  have hg4 : Grows h3 (h3.new (.cells 5 1 true false [V.int .u8 (k : Nat)])) := Chg.new _ _
  refine ⟨⟨get_new_self _ _, O.beq_cells _ _ _ _ _⟩, ct_ScriptParses (by rw [List.length_append, List.length_append, List.length_singleton]; omega) fun h5 hg5 => ⟨hg5.next, ?_⟩⟩
  simp only [pGd_bool, beq_self_eq_true, gV_true, gC_true, oB_some', oP_some', hsliceS_to (show i ≤ s.length by omega), hbin_add, w1, hsliceS_from (show i + 1 ≤ s.length by omega)]
  rw [addS (by omega)]
  simp only [oP_some', cgP_some]
  refine ct_ScriptParses (by rw [List.length_append]; omega) fun h6 hg6 => ⟨hg6.next, ?_⟩
  have hpk : pPick (.bool true) (.bool true) (.bool false) = some (.bool true) := rfl
  simp only [hpk, oP_some']
  exact H _ (((((hg1.trans hg2).trans hg3).trans hg4).trans hg5).trans hg6)
end Go.Proofs.YtdpfhajggknfaaaGreatDoor.Hx
