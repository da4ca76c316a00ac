/- strings.Split by newline (lines of Sa, 32 turned to 10). -/
import Derived.Test.YtlbdcjnhlkkfeaaGreatDoorHxSo
namespace Go.Proofs.YtlbdcjnhlkkfeaaGreatDoor.Hx
open Go.Proofs.YtlbdcjnhlkkfeaaGreatDoor
/-! ### strings.Split -/
theorem pIdxS_zero (c : UInt8) (r : List UInt8) (k : IntKind) : pIdxS (.str (c :: r)) (.int k 0) = some (.int .u8 (c.toNat : Nat)) := rfl
theorem ct_CountString {s : Tx.Bs} {h : Hp} {Q : V → Hp → Prop} (H : Q (.int .i64 (s.count 10 : Nat)) h) : cP CS n_bytealg_CountString [.str s, .int .u8 10] h Q := by
  refine cP.ext fn230 (by kernel_rfl) ?_ H
  show bB (Nat.blt 10 256) (some (V.int .i64 (.ofNat (countB 10 s 0)))) = _
  rw [countB_eq 10 (by omega)]
  show some (V.int .i64 ((0 + s.count (UInt8.ofNat 10) : Nat) : Int)) = _
  rw [Nat.zero_add]
  rfl
theorem ct_Count {s : Tx.Bs} {h : Hp} {Q : V → Hp → Prop} (H : Q (.int .i64 (s.count 10 : Nat)) h) : cP CS n_strings_Count [.str s, .str [10]] h Q := by
  refine c_strings_Count rfl rfl ?_
  unfold B_strings_Count
  have e1 : ((([10] : List UInt8).length : Int) == 0) = false := rfl
  have e2 : ((([10] : List UInt8).length : Int) == 1) = true := rfl
  simp only [pLenS_str, oP_some', hbin_eql, e1, bP_bool', Bool.false_eq_true, if_false, e2, if_true, pIdxS_zero]
  exact ct_CountString H
theorem indexB_split : ∀ (s : Tx.Bs) (n : Nat), (10 ∉ s ∧ indexB 10 s n = none) ∨ ∃ w r, s = w ++ 10 :: r ∧ 10 ∉ w ∧ indexB 10 s n = some (n + w.length)
  | [], n => .inl ⟨by simp, rfl⟩
  | c :: s, n => by
    by_cases hc : c = 10
    · subst hc
      exact .inr ⟨[], s, rfl, by simp, rfl⟩
    · have hb : Nat.beq c.toNat 10 = false := by
        rw [← Bool.not_eq_true, Nat.beq_eq]
        intro e
        exact hc (UInt8.toNat_inj.1 e)
      have hi : indexB 10 (c :: s) n = indexB 10 s (n + 1) := by
        show Bool.rec (motive := fun _ => Option Nat) (indexB 10 s (Nat.succ n)) (some n) (Nat.beq c.toNat 10) = _
        rw [hb]
      rcases indexB_split s (n + 1) with ⟨h1, h2⟩ | ⟨w, r, h1, h2, h3⟩
      · exact .inl ⟨by simp [h1]; exact fun e => hc e.symm, by rw [hi, h2]⟩
      · exact .inr ⟨c :: w, r, by rw [h1]; rfl, by simp [h2]; exact fun e => hc e.symm, by rw [hi, h3]; simp; omega⟩
noncomputable def idxI (s : Tx.Bs) : Int := match indexB 10 s 0 with
  | some i => (i : Int)
  | none => -1
theorem ct_IndexByteString {s : Tx.Bs} {h : Hp} {Q : V → Hp → Prop} (H : Q (.int .i64 (idxI s)) h) : cP CS n_bytealg_IndexByteString [.str s, .int .u8 10] h Q := by
  refine cP.ext fn481 (by kernel_rfl) ?_ H
  show bB (Nat.blt 10 256) (match indexB 10 s 0 with
    | some i => some (V.int .i64 (.ofNat i))
    | none => some (.int .i64 (-1))) = _
  unfold idxI
  cases indexB 10 s 0 <;> rfl
theorem ct_Index {s : Tx.Bs} {h : Hp} {Q : V → Hp → Prop} (H : Q (.int .i64 (idxI s)) h) : cP CS n_strings_Index [.str s, .str [10]] h Q := by
  refine c_strings_Index rfl rfl ?_
  unfold B_strings_Index
  refine c_stringslite_Index rfl rfl ?_
  unfold B_stringslite_Index
  have e1 : ((([10] : List UInt8).length : Int) == 0) = false := rfl
  have e2 : ((([10] : List UInt8).length : Int) == 1) = true := rfl
  simp only [pLenS_str, oP_some', hbin_eql, e1, bP_bool', pOr_false, oB_some', hbin_eqlS, e2, if_true, pIdxS_zero]
  split
  · rename_i hb
    have : s = [10] := by
      have := eq_of_beq hb
      exact this.symm
    subst this
    exact H
  · refine c_stringslite_IndexByte rfl rfl ?_
    unfold B_stringslite_IndexByte
    exact ct_IndexByteString H
theorem count_le (s : Tx.Bs) : s.count 10 ≤ s.length := List.count_le_length
theorem count_split {w r : Tx.Bs} (h : 10 ∉ w) : (w ++ 10 :: r).count 10 = r.count 10 + 1 := by
  rw [List.count_append, List.count_eq_zero_of_not_mem h, List.count_cons_self]; omega
theorem ne_of_not_mem {w : Tx.Bs} (h : 10 ∉ w) : ∀ x ∈ w, x ≠ 10 := fun x hx e => h (e ▸ hx)
/-- Cells that hold these words. -/
def strs (l : List Tx.Bs) : List V := l.map V.str
theorem win_strs {b : Nat → Prop} {h : Hp} : ∀ (l : List Tx.Bs), Win eS b h (strs l) l
  | [] => trivial
  | s :: l => ⟨[.str s], strs l, rfl, rfl, win_strs l⟩
theorem repl_str (n : Nat) : repl n (V.str []).cells = strs (List.replicate n []) := by
  rw [show (V.str []).cells = [V.str []] from rfl, repl_one]
  simp [strs]
theorem ct_Split {s : Tx.Bs} {h : Hp} {Q : V → Hp → Prop} (hs : s.length < 1000000000) (H : ∀ v h', Grows h h' → h'.next = h.next + 1 → SlR eS (lo h'.next) h' (Tx.split 10 s) v → Q v h') : cP CS n_strings_Split [.str s, .str [10]] h Q := by
  refine c_strings_Split rfl rfl ?_
  unfold B_strings_Split
  refine c_strings_genSplit rfl rfl ?_
  unfold B_strings_genSplit
  have e0 : ((-1 : Int) == 0) = false := rfl
  have e1 : (([10] : List UInt8) == []) = false := rfl
  have e2 : decide ((-1 : Int) < 0) = true := rfl
  simp only [hbin_eql, oP_some', bP_bool', e0, Bool.false_eq_true, if_false, hbin_eqlS, e1, hbin_lss, e2, if_true]
  refine ct_Count ?_
  have hc := count_le s
  have w1 : wrapF .i64 ((s.count 10 : Nat) + 1) = ((s.count 10 + 1 : Nat) : Int) := by rw [wrapF_in (by simp only [inK]; omega)]; omega
  have w2 : wrapF .i64 ((s.length : Nat) + 1) = ((s.length + 1 : Nat) : Int) := by rw [wrapF_in (by simp only [inK]; omega)]; omega
  simp only [hbin_add, oP_some', w1]
  refine j_strings_genSplit_R8 ?_
  unfold B_strings_genSplit_R8
  have e3 : min ((s.count 10 + 1 : Nat) : Int) ((s.length + 1 : Nat) : Int) = ((s.count 10 + 1 : Nat) : Int) := by omega
  have w3 : wrapF .i64 (((s.count 10 + 1 : Nat) : Int) - 1) = ((s.count 10 : Nat) : Int) := by rw [wrapF_in (by simp only [inK]; omega)]; omega
  simp only [pLenS_str, oP_some', hbin_add, w2, hmin_one, Bool.false_eq_true, if_false, e3, hmakeSlice_of (e := 9) (sz := 1) (by_ := 16) (n := s.count 10 + 1) (z := V.str []) (by omega) (by omega), alP_some, hbin_sub, w3, repl_str]
  generalize hN : s.count 10 = N at *
  let J : Nat → LP := fun k l' h' => ∃ (l : List Tx.Bs) (r : Tx.Bs), l' = [.str r, .str [10], .int .i64 0, .int .i64 (N : Nat), .slice h.next 0 (N + 1), .int .i64 (l.length : Nat)] ∧ Tx.split 10 s = l ++ Tx.split 10 r ∧ l.length + r.count 10 = N ∧ r.length ≤ s.length ∧ k = r.count 10 ∧
    Grows h h' ∧ h'.next = h.next + 1 ∧ h'.get h.next = some (.cells 9 1 true false (strs (l ++ List.replicate (N + 1 - l.length) [])))
  refine l_strings_genSplit_L0 J ?_ (k := N) ⟨[], s, rfl, rfl, by simpa using hN, Nat.le_refl _, hN.symm, Chg.new _ _, rfl, get_new_self _ _⟩
  intro k _ _ _ _ _ _ h' hi
  obtain ⟨l, r, ⟨⟩, h1, h2, h3, rfl, hg, hn, hr⟩ := hi
  have hlN : l.length ≤ N := by omega
  have hlt : h.next < h'.next := by omega
  -- the last word
  have key : r.count 10 = 0 → B_strings_genSplit_R13 CS (fun v7 h1 => Q v7 h1) (.str r) (.slice h.next 0 (N + 1)) (.int .i64 (l.length : Nat)) h' := by
    intro h0
    have hr0 : Tx.split 10 r = [r] := Tx.split_last 10 r (ne_of_not_mem (List.count_eq_zero.1 h0))
    have hl : l.length = N := by omega
    have w4 : wrapF .i64 ((l.length : Nat) + 1) = ((N + 1 : Nat) : Int) := by rw [wrapF_in (by simp only [inK]; omega)]; omega
    have e4 : pIx 1 (.slice h.next 0 (N + 1)) (.int .i64 (l.length : Nat)) = some (.ptr h.next l.length) := by rw [pIx_slice _ _ _ _ _ _ (by omega)]; simp
    have e5 := pSt_at (v := .str r) hr (o := l.length) (by simp [strs]; omega) rfl
    have hset : (strs (l ++ List.replicate (N + 1 - l.length) [])).set l.length (.str r) = strs (l ++ [r]) := by
      rw [hl, show N + 1 - N = 1 by omega]
      unfold strs
      rw [List.map_append, List.map_append, List.set_append_right _ _ (by simp; omega)]
      simp [hl]
    rw [hset] at e5
    have hsl : SlR eS (lo h'.next) (h'.put h.next (.cells 9 1 true false (strs (l ++ [r])))) (l ++ [r]) (.slice h.next 0 (N + 1)) :=
      .inr ⟨h.next, 0, 9, true, false, _, by simp [hl], hlt, get_put_self _ hlt, .inr rfl, Nat.zero_le _, win_strs _⟩
    obtain ⟨v', c1, c2⟩ := hsl.cut (lo := none) (hi := some (.int .i64 ((N + 1 : Nat) : Int))) (m := 0) (n := N + 1) rfl (hbound_at _ _ _) (Nat.zero_le _) (by simp [hl])
    unfold B_strings_genSplit_R13
    have c1' : hsliceV 1 (.slice h.next 0 (N + 1)) none (some (.int .i64 ((N + 1 : Nat) : Int))) (h'.put h.next (.cells 9 1 true false (strs (l ++ [r])))) = some v' := c1
    simp only [e4, oP_some', e5, valP_some, hbin_add, w4, c1']
    refine H _ _ (hg.trans' (Chg.put (S := fun m => m = h.next) _ rfl hlt) fun m hm e => by omega) hn ?_
    rw [h1, hr0]
    have : ((l ++ [r]).take (N + 1)).drop 0 = l ++ [r] := by rw [List.drop_zero, List.take_of_length_le (by simp [hl])]
    rw [this] at c2
    exact c2
  unfold B_strings_genSplit_L0
  simp only [hbin_lss, oP_some', bP_bool', decide_eq_true_eq]
  split
  · rename_i hlt2
    refine ct_Index ?_
    rcases indexB_split r 0 with ⟨g1, g2⟩ | ⟨w, r', g1, g2, g3⟩
    · exfalso
      have := List.count_eq_zero_of_not_mem g1
      omega
    · have e6 : idxI r = (w.length : Int) := by unfold idxI; rw [g3]; simp
      have hrl : r.length = w.length + 1 + r'.length := by rw [g1]; simp; omega
      have w5 : wrapF .i64 ((w.length : Nat) + 0) = ((w.length : Nat) : Int) := by rw [wrapF_in (by simp only [inK]; omega)]; omega
      have w6 : wrapF .i64 ((w.length : Nat) + (([10] : List UInt8).length : Nat)) = ((w.length + 1 : Nat) : Int) := by
        rw [wrapF_in (by simp only [inK, List.length_cons, List.length_nil]; omega)]; simp
      have w7 : wrapF .i64 ((l.length : Nat) + 1) = ((l.length + 1 : Nat) : Int) := by rw [wrapF_in (by simp only [inK]; omega)]; omega
      have e7 : decide ((w.length : Int) < 0) = false := decide_eq_false (by omega)
      have e8 : pIx 1 (.slice h.next 0 (N + 1)) (.int .i64 (l.length : Nat)) = some (.ptr h.next l.length) := by rw [pIx_slice _ _ _ _ _ _ (by omega)]; simp
      have e9 := pSt_at (v := .str (r.take w.length)) hr (o := l.length) (by simp [strs]; omega) rfl
      have t1 : r.take w.length = w := by rw [g1]; simp
      have t2 : r.drop (w.length + 1) = r' := by rw [g1]; simp
      simp only [e6, hbin_lss, oP_some', e7, bP_bool', Bool.false_eq_true, if_false, hbin_add, w5, hsliceS_to (show w.length ≤ r.length by omega), e8, e9, valP_some, pLenS_str, w6, hsliceS_from (show w.length + 1 ≤ r.length by omega), w7]
      rw [t1, t2]
      have hcnt : r.count 10 = r'.count 10 + 1 := by rw [g1]; exact count_split g2
      refine ⟨r'.count 10, by omega, l ++ [w], r', by simp, ?_, by simp; omega, by omega, rfl, hg.trans' (Chg.put (S := fun m => m = h.next) _ rfl hlt) (fun m hm e => by omega), hn, ?_⟩
      · rw [h1, g1, Tx.split_word 10 w r' (ne_of_not_mem g2)]; simp
      · rw [get_put_self _ hlt]
        have : N + 1 - l.length = (N + 1 - (l ++ [w]).length) + 1 := by simp; omega
        rw [this]
        unfold strs
        rw [List.map_append, List.map_append, List.set_append_right _ _ (by simp)]
        simp [List.replicate_succ]
  · rename_i hge
    exact j_strings_genSplit_R13 (key (by omega))
end Go.Proofs.YtlbdcjnhlkkfeaaGreatDoor.Hx
