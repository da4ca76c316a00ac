/- Chapter 30's text: names of kinds; strings.Split at one blank. -/
import Derived.Test.YtdpfhajggknfaaaGreatDoorHxS4
namespace Go.Proofs.YtdpfhajggknfaaaGreatDoor.Hx
open Go.Proofs.YtdpfhajggknfaaaGreatDoor

def nameI (k : Int) : Tx.Bs := if k = 1 then Tx.nStep else if k = 2 then Tx.nCompile else if k = 3 then Tx.nEnter else if k = 4 then Tx.nEvict else if k = 5 then Tx.nInvalidate else if k = 6 then Tx.nCount else if k = 7 then Tx.nAuto else []
theorem ct_name {k : Int} {h : Hp} {Q : V → Hp → Prop} (H : Q (.str (nameI k)) h) : cP CS n_script_name [.int .i64 k] h Q := by
  refine c_script_name rfl rfl ?_
  unfold B_script_name
  simp only [hbin_eql, oP_some', bP_bool', beq_iff_eq]
  unfold nameI at H
  split
  · rename_i h1; rw [if_pos h1] at H; exact H
  rename_i h1; rw [if_neg h1] at H
  split
  · rename_i h1; rw [if_pos h1] at H; exact H
  rename_i h1; rw [if_neg h1] at H
  split
  · rename_i h1; rw [if_pos h1] at H; exact H
  rename_i h1; rw [if_neg h1] at H
  split
  · rename_i h1; rw [if_pos h1] at H; exact H
  rename_i h1; rw [if_neg h1] at H
  split
  · rename_i h1; rw [if_pos h1] at H; exact H
  rename_i h1; rw [if_neg h1] at H
  split
  · rename_i h1; rw [if_pos h1] at H; exact H
  rename_i h1; rw [if_neg h1] at H
  split
  · rename_i h1; rw [if_pos h1] at H; exact H
  rename_i h1; rw [if_neg h1] at H
  exact H
theorem nameI_nat {k : Nat} (h1 : 1 ≤ k) (h2 : k ≤ 7) : nameI k = Tx.nameOf k := by
  have : k = 1 ∨ k = 2 ∨ k = 3 ∨ k = 4 ∨ k = 5 ∨ k = 6 ∨ k = 7 := by omega
  rcases this with h | h | h | h | h | h | h <;> subst h <;> rfl
theorem kindOf_none {s : Tx.Bs} (h : ∀ j, 1 ≤ j → j ≤ 7 → Tx.nameOf j ≠ s) : Tx.kindOf s = 0 := by
  by_cases h0 : Tx.kindOf s = 0
  · exact h0
  · exact absurd (Tx.name_kindOf s h0) (h _ (by omega) (Tx.kindOf_le s))
theorem ct_kind {s : Tx.Bs} {h : Hp} {Q : V → Hp → Prop} (H : Q (.int .i64 (Tx.kindOf s : Nat)) h) : cP CS n_script_kind [.str s] h Q := by
  refine c_script_kind rfl rfl ?_
  unfold B_script_kind
  refine l_script_kind_L0 (fun k x0 x3 h' => ∃ i : Nat, 1 ≤ i ∧ i ≤ 8 ∧ k = 8 - i ∧ x0 = .str s ∧ x3 = .int .i64 (i : Nat) ∧ (∀ j, 1 ≤ j → j < i → Tx.nameOf j ≠ s) ∧ h' = h) ?_ ⟨1, by omega, by omega, rfl, rfl, rfl, fun j _ _ => by omega, rfl⟩
  rintro k x0 x3 h' ⟨i, h1, h2, rfl, rfl, rfl, hj, rfl⟩
  unfold B_script_kind_L0
  simp only [hbin_leq, oP_some', bP_bool', decide_eq_true_eq]
  split
  · rename_i h3
    refine ct_name ?_
    rw [nameI_nat h1 (by omega)]
    simp only [hbin_eqlS, oP_some', bP_bool', beq_iff_eq]
    split
    · rename_i h4
      have := Tx.kindOf_name i h1 (by omega)
      rw [h4] at this
      rw [this] at H
      exact H
    · rename_i h4
      have hw : wrapF .i64 ((i : Nat) + 1) = ((i + 1 : Nat) : Int) := by rw [wrapF_in (by simp only [inK]; omega)]; omega
      simp only [hbin_add, oP_some', hw]
      exact ⟨8 - (i + 1), by omega, i + 1, by omega, by omega, by trivial, by trivial, by trivial, fun j hj1 hj2 => by
        by_cases e : j = i
        · subst e; exact h4
        · exact hj j hj1 (by omega), by trivial⟩
  · rename_i h3
    rw [kindOf_none (s := s) (fun j a b => hj j a (by omega))] at H
    exact H

/-! ### strings.Split -/
theorem ct_CountString {s : Tx.Bs} {h : Hp} {Q : V → Hp → Prop} (H : Q (.int .i64 (s.count 32 : Nat)) h) : cP CS n_bytealg_CountString [.str s, .int .u8 32] h Q := by
  refine cP.ext fn63 (by kernel_rfl) ?_ H
  show bB (Nat.blt 32 256) (some (V.int .i64 (.ofNat (countB 32 s 0)))) = _
  rw [countB_eq 32 (by omega)]
  show some (V.int .i64 ((0 + s.count (UInt8.ofNat 32) : Nat) : Int)) = _
  rw [Nat.zero_add]
  rfl
theorem ct_Count {s : Tx.Bs} {h : Hp} {Q : V → Hp → Prop} (H : Q (.int .i64 (s.count 32 : Nat)) h) : cP CS n_strings_Count [.str s, .str [32]] h Q := by
  refine c_strings_Count rfl rfl ?_
  unfold B_strings_Count
  have e1 : ((([32] : List UInt8).length : Int) == 0) = false := rfl
  have e2 : ((([32] : List UInt8).length : Int) == 1) = true := rfl
  simp only [pLenS_str, oP_some', hbin_eql, e1, bP_bool', Bool.false_eq_true, if_false, e2, if_true, pIdxS_zero]
  exact ct_CountString H
theorem indexB_split : ∀ (s : Tx.Bs) (n : Nat), (32 ∉ s ∧ indexB 32 s n = none) ∨ ∃ w r, s = w ++ 32 :: r ∧ 32 ∉ w ∧ indexB 32 s n = some (n + w.length)
  | [], n => .inl ⟨by simp, rfl⟩
  | c :: s, n => by
    by_cases hc : c = 32
    · subst hc
      exact .inr ⟨[], s, rfl, by simp, rfl⟩
    · have hb : Nat.beq c.toNat 32 = false := by
        rw [← Bool.not_eq_true, Nat.beq_eq]
        intro e
        exact hc (UInt8.toNat_inj.1 e)
      have hi : indexB 32 (c :: s) n = indexB 32 s (n + 1) := by
        show Bool.rec (motive := fun _ => Option Nat) (indexB 32 s (Nat.succ n)) (some n) (Nat.beq c.toNat 32) = _
        rw [hb]
      rcases indexB_split s (n + 1) with ⟨h1, h2⟩ | ⟨w, r, h1, h2, h3⟩
      · exact .inl ⟨by simp [h1]; exact fun e => hc e.symm, by rw [hi, h2]⟩
      · exact .inr ⟨c :: w, r, by rw [h1]; rfl, by simp [h2]; exact fun e => hc e.symm, by rw [hi, h3]; simp; omega⟩
noncomputable def idxI (s : Tx.Bs) : Int := match indexB 32 s 0 with
  | some i => (i : Int)
  | none => -1
theorem ct_IndexByteString {s : Tx.Bs} {h : Hp} {Q : V → Hp → Prop} (H : Q (.int .i64 (idxI s)) h) : cP CS n_bytealg_IndexByteString [.str s, .int .u8 32] h Q := by
  refine cP.ext fn148 (by kernel_rfl) ?_ H
  show bB (Nat.blt 32 256) (match indexB 32 s 0 with
    | some i => some (V.int .i64 (.ofNat i))
    | none => some (.int .i64 (-1))) = _
  unfold idxI
  cases indexB 32 s 0 <;> rfl
theorem ct_Index {s : Tx.Bs} {h : Hp} {Q : V → Hp → Prop} (H : Q (.int .i64 (idxI s)) h) : cP CS n_strings_Index [.str s, .str [32]] h Q := by
  refine c_strings_Index rfl rfl ?_
  unfold B_strings_Index
  refine c_stringslite_Index rfl rfl ?_
  unfold B_stringslite_Index
  have e1 : ((([32] : List UInt8).length : Int) == 0) = false := rfl
  have e2 : ((([32] : List UInt8).length : Int) == 1) = true := rfl
  simp only [pLenS_str, oP_some', hbin_eql, e1, bP_bool', pOr_false, oB_some', hbin_eqlS, e2, if_true, pIdxS_zero]
  split
  · rename_i hb
    have : s = [32] := by
      have := eq_of_beq hb
      exact this.symm
    subst this
    exact H
  · refine c_stringslite_IndexByte rfl rfl ?_
    unfold B_stringslite_IndexByte
    exact ct_IndexByteString H
theorem count_le (s : Tx.Bs) : s.count 32 ≤ s.length := List.count_le_length
theorem count_split {w r : Tx.Bs} (h : 32 ∉ w) : (w ++ 32 :: r).count 32 = r.count 32 + 1 := by
  rw [List.count_append, List.count_eq_zero_of_not_mem h, List.count_cons_self]; omega
theorem ne_of_not_mem {w : Tx.Bs} (h : 32 ∉ w) : ∀ x ∈ w, x ≠ 32 := fun x hx e => h (e ▸ hx)
/-- Cells that hold these words. -/
def strs (l : List Tx.Bs) : List V := l.map V.str
theorem win_strs {b : Nat} {h : Hp} : ∀ (l : List Tx.Bs), Win eS b h (strs l) l
  | [] => trivial
  | s :: l => ⟨[.str s], strs l, rfl, rfl, win_strs l⟩
theorem repl_str (n : Nat) : repl n (V.str []).cells = strs (List.replicate n []) := by
  rw [show (V.str []).cells = [V.str []] from rfl, repl_one]
  simp [strs]
theorem ct_Split {s : Tx.Bs} {h : Hp} {Q : V → Hp → Prop} (hs : s.length < 1000000000) (H : ∀ v h', Grows h h' → h'.next = h.next + 1 → SlR eS h'.next h' (Tx.split 32 s) v → Q v h') : cP CS n_strings_Split [.str s, .str [32]] h Q := by
  refine c_strings_Split rfl rfl ?_
  unfold B_strings_Split
  refine c_strings_genSplit rfl rfl ?_
  unfold B_strings_genSplit
  have e0 : ((-1 : Int) == 0) = false := rfl
  have e1 : (([32] : List UInt8) == []) = false := rfl
  have e2 : decide ((-1 : Int) < 0) = true := rfl
  simp only [hbin_eql, oP_some', bP_bool', e0, Bool.false_eq_true, if_false, hbin_eqlS, e1, hbin_lss, e2, if_true]
  refine ct_Count ?_
  have hc := count_le s
  have w1 : wrapF .i64 ((s.count 32 : Nat) + 1) = ((s.count 32 + 1 : Nat) : Int) := by rw [wrapF_in (by simp only [inK]; omega)]; omega
  have w2 : wrapF .i64 ((s.length : Nat) + 1) = ((s.length + 1 : Nat) : Int) := by rw [wrapF_in (by simp only [inK]; omega)]; omega
  simp only [hbin_add, oP_some', w1]
  refine j_strings_genSplit_R8 ?_
  unfold B_strings_genSplit_R8
  have e3 : min ((s.count 32 + 1 : Nat) : Int) ((s.length + 1 : Nat) : Int) = ((s.count 32 + 1 : Nat) : Int) := by omega
  have w3 : wrapF .i64 (((s.count 32 + 1 : Nat) : Int) - 1) = ((s.count 32 : Nat) : Int) := by rw [wrapF_in (by simp only [inK]; omega)]; omega
  simp only [pLenS_str, oP_some', hbin_add, w2, hmin_one, Bool.false_eq_true, if_false, e3, hmakeSlice_of (e := 9) (sz := 1) (by_ := 16) (n := s.count 32 + 1) (z := V.str []) (by omega) (by omega), alP_some, hbin_sub, w3, repl_str]
  generalize hN : s.count 32 = N at *
  refine l_strings_genSplit_L0 (fun k x0 x1 x2 x3 x9 x10 h' => ∃ (l : List Tx.Bs) (r : Tx.Bs), Tx.split 32 s = l ++ Tx.split 32 r ∧ l.length + r.count 32 = N ∧ r.length ≤ s.length ∧ k = r.count 32 ∧ x0 = .str r ∧ x1 = .str [32] ∧ x2 = .int .i64 0 ∧ x3 = .int .i64 (N : Nat) ∧
    x9 = .slice h.next 0 (N + 1) ∧ x10 = .int .i64 (l.length : Nat) ∧ Grows h h' ∧ h'.next = h.next + 1 ∧ h'.get h.next = some (.cells 9 1 true false (strs (l ++ List.replicate (N + 1 - l.length) [])))) ?_
    ⟨[], s, rfl, by simpa using hN, Nat.le_refl _, rfl, rfl, rfl, rfl, rfl, rfl, rfl, Chg.new _ _, rfl, get_new_self _ _⟩
  rintro k x0 x1 x2 x3 x9 x10 h' ⟨l, r, h1, h2, h3, rfl, rfl, rfl, rfl, rfl, rfl, rfl, hg, hn, hr⟩
  have hlN : l.length ≤ N := by omega
  have hlt : h.next < h'.next := by omega
  -- the last word
  have key : r.count 32 = 0 → B_strings_genSplit_R13 CS (fun v7 h1 => Q v7 h1) (.str r) (.slice h.next 0 (N + 1)) (.int .i64 (l.length : Nat)) h' := by
    intro h0
    have hr0 : Tx.split 32 r = [r] := Tx.split_last 32 r (ne_of_not_mem (List.count_eq_zero.1 h0))
    have hl : l.length = N := by omega
    have w4 : wrapF .i64 ((l.length : Nat) + 1) = ((N + 1 : Nat) : Int) := by rw [wrapF_in (by simp only [inK]; omega)]; omega
    have e4 : pIx 1 (.slice h.next 0 (N + 1)) (.int .i64 (l.length : Nat)) = some (.ptr h.next l.length) := by rw [pIx_slice _ _ _ _ _ _ (by omega)]; simp
    have e5 := pSt_at (v := .str r) hr (o := l.length) (by simp [strs]; omega) rfl
    have hset : (strs (l ++ List.replicate (N + 1 - l.length) [])).set l.length (.str r) = strs (l ++ [r]) := by
      rw [hl, show N + 1 - N = 1 by omega]
      unfold strs
      rw [List.map_append, List.map_append, List.set_append_right _ _ (by simp; omega)]
      simp [hl]
    rw [hset] at e5
    have hsl : SlR eS h'.next (h'.put h.next (.cells 9 1 true false (strs (l ++ [r])))) (l ++ [r]) (.slice h.next 0 (N + 1)) :=
      .inr ⟨h.next, 0, 9, true, false, _, by simp [hl], hlt, get_put_self _ hlt, .inr rfl, Nat.zero_le _, win_strs _⟩
    obtain ⟨v', c1, c2⟩ := hsl.cut (lo := none) (hi := some (.int .i64 ((N + 1 : Nat) : Int))) (m := 0) (n := N + 1) rfl (hbound_at _ _ _) (Nat.zero_le _) (by simp [hl])
    unfold B_strings_genSplit_R13
    have c1' : hsliceV 1 (.slice h.next 0 (N + 1)) none (some (.int .i64 ((N + 1 : Nat) : Int))) (h'.put h.next (.cells 9 1 true false (strs (l ++ [r])))) = some v' := c1
    simp only [e4, oP_some', e5, valP_some, hbin_add, w4, c1']
    refine H _ _ (hg.trans' (Chg.put (S := fun m => m = h.next) _ rfl hlt) fun m hm e => by omega) hn ?_
    rw [h1, hr0]
    have : ((l ++ [r]).take (N + 1)).drop 0 = l ++ [r] := by rw [List.drop_zero, List.take_of_length_le (by simp [hl])]
    rw [this] at c2
    exact c2
  unfold B_strings_genSplit_L0
  simp only [hbin_lss, oP_some', bP_bool', decide_eq_true_eq]
  split
  · rename_i hlt2
    refine ct_Index ?_
    rcases indexB_split r 0 with ⟨g1, g2⟩ | ⟨w, r', g1, g2, g3⟩
    · exfalso
      have := List.count_eq_zero_of_not_mem g1
      omega
    · have e6 : idxI r = (w.length : Int) := by unfold idxI; rw [g3]; simp
      have hrl : r.length = w.length + 1 + r'.length := by rw [g1]; simp; omega
      have w5 : wrapF .i64 ((w.length : Nat) + 0) = ((w.length : Nat) : Int) := by rw [wrapF_in (by simp only [inK]; omega)]; omega
      have w6 : wrapF .i64 ((w.length : Nat) + (([32] : List UInt8).length : Nat)) = ((w.length + 1 : Nat) : Int) := by
        rw [wrapF_in (by simp only [inK, List.length_cons, List.length_nil]; omega)]; simp
      have w7 : wrapF .i64 ((l.length : Nat) + 1) = ((l.length + 1 : Nat) : Int) := by rw [wrapF_in (by simp only [inK]; omega)]; omega
      have e7 : decide ((w.length : Int) < 0) = false := decide_eq_false (by omega)
      have e8 : pIx 1 (.slice h.next 0 (N + 1)) (.int .i64 (l.length : Nat)) = some (.ptr h.next l.length) := by rw [pIx_slice _ _ _ _ _ _ (by omega)]; simp
      have e9 := pSt_at (v := .str (r.take w.length)) hr (o := l.length) (by simp [strs]; omega) rfl
      have t1 : r.take w.length = w := by rw [g1]; simp
      have t2 : r.drop (w.length + 1) = r' := by rw [g1]; simp
      simp only [e6, hbin_lss, oP_some', e7, bP_bool', Bool.false_eq_true, if_false, hbin_add, w5, hsliceS_to (show w.length ≤ r.length by omega), e8, e9, valP_some, pLenS_str, w6, hsliceS_from (show w.length + 1 ≤ r.length by omega), w7]
      rw [t1, t2]
      have hcnt : r.count 32 = r'.count 32 + 1 := by rw [g1]; exact count_split g2
      refine ⟨r'.count 32, by omega, l ++ [w], r', ?_, by simp; omega, by omega, rfl, by trivial, by trivial, by trivial, by trivial, by trivial, by simp, hg.trans' (Chg.put (S := fun m => m = h.next) _ rfl hlt) (fun m hm e => by omega), hn, ?_⟩
      · rw [h1, g1, Tx.split_word 32 w r' (ne_of_not_mem g2)]; simp
      · rw [get_put_self _ hlt]
        have : N + 1 - l.length = (N + 1 - (l ++ [w]).length) + 1 := by simp; omega
        rw [this]
        unfold strs
        rw [List.map_append, List.map_append, List.set_append_right _ _ (by simp)]
        simp [List.replicate_succ]
  · rename_i hge
    exact j_strings_genSplit_R13 (key (by omega))
end Go.Proofs.YtdpfhajggknfaaaGreatDoor.Hx
