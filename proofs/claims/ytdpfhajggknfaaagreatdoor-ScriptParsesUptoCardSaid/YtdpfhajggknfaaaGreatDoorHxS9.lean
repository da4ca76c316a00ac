/- Chapter 30's text: the document's words and numbers. -/
import Derived.Test.YtdpfhajggknfaaaGreatDoorHxVB
import Derived.Test.YtdpfhajggknfaaaGreatDoorHxS8
namespace Go.Proofs.YtdpfhajggknfaaaGreatDoor.Hx
open Go.Proofs.YtdpfhajggknfaaaGreatDoor

theorem strs_length (l : List Tx.Bs) : (strs l).length = l.length := by simp [strs]
theorem strs_one (l : List Tx.Bs) : allOne (strs l) = true := by
  induction l with
  | nil => rfl
  | cons x l ih => show allOne (V.str x :: strs l) = true; rw [allOne_cons, ih]; rfl
theorem ct_split30 {s : Tx.Bs} {h : Hp} {Q : V → Hp → Prop} (hs : s.length < 1000000000) (H : ∀ v h', Grows h h' → SlR eS h'.next h' (Tx.split 32 s) v → Q v h') : cP CS n_turnstoneref30_split [.str s] h Q := by
  refine c_turnstoneref30_split rfl rfl ?_
  unfold B_turnstoneref30_split
  refine l_turnstoneref30_split_L0 (fun k x0 x3 x4 x5 h' => ∃ (l : List Tx.Bs) (i fr : Nat), k = s.length + 1 - i ∧ x0 = .str s ∧ x4 = .int .i64 (fr : Nat) ∧ x5 = .int .i64 (i : Nat) ∧ Grows h h' ∧ Own 9 1 h.next h' (strs l) l.length x3 ∧ l.length ≤ i ∧
    ((i ≤ s.length ∧ fr ≤ i ∧ Tx.split 32 s = l ++ Tx.split 32 (s.drop fr) ∧ ∀ x ∈ (s.drop fr).take (i - fr), x ≠ 32) ∨ (i = s.length + 1 ∧ l = Tx.split 32 s))) ?_
    ⟨[], 0, 0, rfl, rfl, rfl, rfl, Chg.refl _ _, Own.nil, Nat.le_refl _, .inl ⟨Nat.zero_le _, Nat.le_refl _, rfl, by simp⟩⟩
  rintro k x0 x3 x4 x5 h' ⟨l, i, fr, rfl, rfl, rfl, rfl, hg, ho, hli, hst⟩
  unfold B_turnstoneref30_split_L0
  simp only [pLenS_str, oP_some', hbin_leq, bP_bool', decide_eq_true_eq]
  split
  · rename_i hle
    have hi : i ≤ s.length := by omega
    obtain ⟨_, hfi, hsp, hno⟩ := hst.resolve_right (fun h => by omega)
    have hw : wrapF .i64 ((i : Nat) + 1) = ((i + 1 : Nat) : Int) := by rw [wrapF_in (by simp only [inK]; omega)]; omega
    -- a word ends here
    have cut : ∀ (fr' : Nat), (∀ l', l' = l ++ [(s.drop fr).take (i - fr)] → ((i + 1 ≤ s.length ∧ fr' ≤ i + 1 ∧ Tx.split 32 s = l' ++ Tx.split 32 (s.drop fr') ∧ ∀ x ∈ (s.drop fr').take (i + 1 - fr'), x ≠ 32) ∨ (i + 1 = s.length + 1 ∧ l' = Tx.split 32 s))) → fr' = i + 1 →
        oP (hsliceS (.str s) (some (.int .i64 (fr : Nat))) (some (.int .i64 (i : Nat)))) fun v26 => alP (pBS 9 1 1 (V.str []) [(0, v26)]) h' fun v27 h1 => valP (happend 9 1 16 x3 v27 h1) fun v28 h2 => oP (hbin .add 3 (.int .i64 (i : Nat)) (V.int .i64 1)) fun v30 =>
          J_turnstoneref30_split_R9 CS Q (fun x0 x3 x4 x5 h_1 => ∃ k', k' < s.length + 1 - i ∧ ∃ (l : List Tx.Bs) (i fr : Nat), k' = s.length + 1 - i ∧ x0 = .str s ∧ x4 = .int .i64 (fr : Nat) ∧ x5 = .int .i64 (i : Nat) ∧ Grows h h_1 ∧ Own 9 1 h.next h_1 (strs l) l.length x3 ∧ l.length ≤ i ∧
            ((i ≤ s.length ∧ fr ≤ i ∧ Tx.split 32 s = l ++ Tx.split 32 (s.drop fr) ∧ ∀ x ∈ (s.drop fr).take (i - fr), x ≠ 32) ∨ (i = s.length + 1 ∧ l = Tx.split 32 s))) (.str s) v28 v30 (.int .i64 (i : Nat)) h2 := by
      intro fr' hnew he
      subst he
      have hb : pBS 9 1 1 (V.str []) [(0, V.str ((s.drop fr).take (i - fr)))] = some (.cells 9 1 true false [V.str ((s.drop fr).take (i - fr))], fun l => .slice l 0 1) := rfl
      simp only [hsliceS_both hfi hi, oP_some', hb, alP_some]
      have hg3 : Grows h' (h'.new (.cells 9 1 true false [V.str ((s.drop fr).take (i - fr))])) := Chg.new _ _
      obtain ⟨v3, h3, a, b, c, d, f⟩ := (ho.chg hg3 fun _ _ _ h => h).append (by_ := 16) (xcells_new (k := 0) (sz := 1) (e := 9) (h := h') (cs := [V.str ((s.drop fr).take (i - fr))]) (ro := false) rfl) (by omega) rfl (strs_one _) rfl (by have := hg.next; simp; omega) (by omega) (by omega) (by omega)
      simp only [a, valP_some, hbin_add, oP_some', hw]
      refine j_turnstoneref30_split_R9 ?_
      unfold B_turnstoneref30_split_R9
      simp only [hbin_add, oP_some', hw]
      have hty : strs (l ++ [(s.drop fr).take (i - fr)]) = strs l ++ [V.str ((s.drop fr).take (i - fr))] := by simp [strs]
      refine ⟨s.length + 1 - (i + 1), by omega, l ++ [(s.drop fr).take (i - fr)], i + 1, i + 1, rfl, by trivial, by trivial, by trivial, ?_, ?_, by simp; omega, hnew _ rfl⟩
      · refine (hg.trans hg3).trans' c fun m hm e9 => ?_
        rcases ho with ⟨rfl, _⟩ | ⟨t, rfl, ht, _⟩
        · cases e9
        · cases e9; omega
      · rw [hty]
        have : (l ++ [(s.drop fr).take (i - fr)]).length = l.length + (0 + 1) := by simp
        rw [this]
        exact b
    by_cases hil : i = s.length
    · have e1 : (((i : Nat) : Int) == (s.length : Nat)) = true := by rw [hil]; simp
      simp only [hbin_eql, oP_some', e1, pOr_true, bP_bool', if_true]
      refine cut (i + 1) (fun l' hl' => .inr ⟨by omega, ?_⟩) rfl
      rw [hl', hsp]
      have ht : (s.drop fr).take (i - fr) = s.drop fr := by rw [List.take_of_length_le]; rw [List.length_drop]; omega
      rw [ht] at hno ⊢
      rw [Tx.split_last 32 _ hno]
    · have e1 : (((i : Nat) : Int) == (s.length : Nat)) = false := by rw [beq_eq_false_iff_ne]; omega
      have hlt : i < s.length := by omega
      simp only [hbin_eql, oP_some', e1, pOr_false, oB_some', pIdxS_at hlt, bP_bool', beq_iff_eq]
      have hdr : s.drop fr = (s.drop fr).take (i - fr) ++ s[i] :: s.drop (i + 1) := by
        have h1 := List.take_append_drop (i - fr) (s.drop fr)
        rw [List.drop_drop, show fr + (i - fr) = i by omega, List.drop_eq_getElem_cons hlt] at h1
        exact h1.symm
      split
      · rename_i hc
        have hc' : s[i] = 32 := UInt8.toNat_inj.1 (by show _ = 32; omega)
        refine cut (i + 1) (fun l' hl' => .inl ⟨by omega, Nat.le_refl _, ?_, by simp⟩) rfl
        rw [hl', hsp]
        have : Tx.split 32 (s.drop fr) = (s.drop fr).take (i - fr) :: Tx.split 32 (s.drop (i + 1)) := by
          conv => lhs; rw [hdr, hc']
          exact Tx.split_word 32 _ _ hno
        rw [this]; simp
      · rename_i hc
        have hc' : s[i] ≠ 32 := fun e => hc (by rw [e]; rfl)
        refine j_turnstoneref30_split_R9 ?_
        unfold B_turnstoneref30_split_R9
        simp only [hbin_add, oP_some', hw]
        refine ⟨s.length + 1 - (i + 1), by omega, l, i + 1, fr, rfl, by trivial, by trivial, by trivial, hg, ho, by omega, .inl ⟨by omega, by omega, hsp, ?_⟩⟩
        have : (s.drop fr).take (i + 1 - fr) = (s.drop fr).take (i - fr) ++ [s[i]] := by
          rw [show i + 1 - fr = (i - fr) + 1 by omega, List.take_add_one]
          congr 1
          rw [List.getElem?_drop, show fr + (i - fr) = i by omega, List.getElem?_eq_getElem hlt]
          rfl
        rw [this]
        intro x hx
        rcases List.mem_append.1 hx with hx | hx
        · exact hno x hx
        · obtain rfl : x = s[i] := by simpa using hx
          exact hc'
  · rename_i hgt
    obtain ⟨h1, h2⟩ := hst.resolve_left (fun h => by omega)
    subst h2
    exact H _ _ hg (ho.slR (E := eS) (Nat.le_refl _) (win_strs _))

/-! ### the document's numbers -/
def sgn (m : Bool) (n : Nat) : Int := if m = true then -(n : Int) else n
theorem ct_number30_R3 {s : Tx.Bs} {m : Bool} {h : Hp} {Q : V → Hp → Prop} (hs : s.length < 4611686018427387904) (H : ∀ v : Int, (∀ n, Tx.pNat s = some n → v = sgn m n) → Q (.tuple [.int .i64 v, .bool (Tx.pNat s).isSome]) h) :
    J_turnstoneref30_number_R3 CS Q (.str s) (.bool m) h := by
  refine j_turnstoneref30_number_R3 ?_
  unfold B_turnstoneref30_number_R3
  cases s with
  | nil =>
    simp [Tx.pNat] at H ⊢
    exact H 0
  | cons c r =>
    have e0 : ((c :: r) == ([] : List UInt8)) = false := rfl
    simp only [hbin_eqlS, e0, oP_some', pOr_false, oB_some', pLenS_str, hbin_gtr, pIdxS_zero, hbin_eql, pAnd_bool, pOr_bool, bP_bool', Bool.false_or]
    split
    · rename_i hc
      have hn : Tx.pNat (c :: r) = none := by
        simp only [Bool.or_eq_true, Bool.and_eq_true, decide_eq_true_eq, beq_iff_eq] at hc
        show (bif _ then _ else _) = _
        cases hb : (!(c.toNat == 48 && !r.isEmpty) && decide ((c :: r).length ≤ 19) && (c :: r).all Tx.isDig && decide (Tx.valD (c :: r) 0 ≤ 4611686018427387904)) with
        | false => rfl
        | true =>
          exfalso
          simp only [Bool.and_eq_true, decide_eq_true_eq, Bool.not_eq_true', Bool.and_eq_false_iff, beq_eq_false_iff_ne, ne_eq, Bool.not_eq_false'] at hb
          obtain ⟨⟨⟨h1, h2⟩, _⟩, _⟩ := hb
          rcases hc with ⟨h3, h4⟩ | h3
          · rcases h1 with h1 | h1
            · exact h1 (by omega)
            · have : r = [] := by simpa using h1
              subst this
              simp at h3
          · omega
      rw [hn] at H
      exact H 0 (fun n hn => by cases hn)
    · rename_i hc
      simp only [Bool.or_eq_true, Bool.and_eq_true, decide_eq_true_eq, beq_iff_eq, not_or, not_and] at hc
      generalize hs' : c :: r = s at *
      refine l_turnstoneref30_number_L0 (fun k x0 x4 x5 x6 h' => ∃ i : Nat, i ≤ s.length ∧ k = s.length - i ∧ x0 = .str s ∧ x4 = .bool m ∧ x5 = .int .u64 (Tx.valD (s.take i) 0 : Nat) ∧ x6 = .int .i64 (i : Nat) ∧ (s.take i).all Tx.isDig = true ∧ h' = h) ?_ ⟨0, Nat.zero_le _, rfl, rfl, rfl, by simp [Tx.valD], rfl, by simp, rfl⟩
      rintro k x0 x4 x5 x6 h' ⟨i, hi, rfl, rfl, rfl, rfl, rfl, hd, rfl⟩
      have hlen : s.length ≤ 19 := by omega
      unfold B_turnstoneref30_number_L0
      simp only [pLenS_str, oP_some', hbin_lss, bP_bool', decide_eq_true_eq]
      split
      · rename_i hlt
        have hlt' : i < s.length := by omega
        have hv := valD_lt (s.take i) 0 hd
        have hp : 10 ^ (s.take i).length ≤ 10 ^ 18 := Nat.pow_le_pow_right (by omega) (by rw [List.length_take]; omega)
        simp only [pIdxS_at hlt', oP_some', hbin_lss, oB_some', hbin_gtr, pOr_bool, bP_bool']
        split
        · rename_i hb
          have hn : Tx.pNat s = none := by
            have hnd : Tx.isDig s[i] = false := by
              cases hq : Tx.isDig s[i] with
              | false => rfl
              | true =>
                have := (Tx.isDig_iff _).1 hq
                simp only [Bool.or_eq_true, decide_eq_true_eq] at hb
                omega
            have hall : s.all Tx.isDig = false := by
              rw [List.all_eq_false]
              exact ⟨s[i], List.getElem_mem hlt', by rw [hnd]; simp⟩
            subst hs'
            show (bif _ then _ else _) = _
            rw [hall]
            simp
          rw [hn] at H
          exact H 0 (fun n hn => by cases hn)
        · rename_i hb
          simp only [Bool.or_eq_true, decide_eq_true_eq, not_or] at hb
          have hdig : Tx.isDig s[i] = true := (Tx.isDig_iff _).2 (by omega)
          have hc8 := UInt8.toNat_lt s[i]
          have w1 : wrapF .u64 (10 * (Tx.valD (s.take i) 0 : Nat)) = ((10 * Tx.valD (s.take i) 0 : Nat) : Int) := by
            rw [wrapF_in (by simp only [inK]; omega)]; omega
          have w2 : wrapF .u8 ((s[i].toNat : Nat) - 48) = ((s[i].toNat - 48 : Nat) : Int) := by
            rw [wrapF_in (by simp only [inK]; omega)]; omega
          have w3 : wrapF .u64 ((s[i].toNat - 48 : Nat) : Int) = ((s[i].toNat - 48 : Nat) : Int) := wrapF_in (by simp only [inK]; omega)
          have w4 : wrapF .u64 (((10 * Tx.valD (s.take i) 0 : Nat) : Int) + ((s[i].toNat - 48 : Nat) : Int)) = (Tx.valD (s.take (i + 1)) 0 : Nat) := by
            rw [take_snoc hlt', Tx.valD_append]
            simp only [Tx.valD]
            rw [wrapF_in (by simp only [inK]; omega)]; omega
          have w5 : wrapF .i64 ((i : Nat) + 1) = ((i + 1 : Nat) : Int) := by rw [wrapF_in (by simp only [inK]; omega)]; omega
          simp only [hbin_mul, w1, oP_some', hbin_sub, w2, pConv_int, w3, hbin_add, w4, w5]
          exact ⟨s.length - (i + 1), by omega, i + 1, by omega, by trivial, by trivial, by trivial, by trivial, by trivial, by rw [take_snoc hlt', List.all_append, hd]; simp [hdig], by trivial⟩
      · rename_i hge
        have hi' : i = s.length := by omega
        subst hi'
        rw [List.take_length] at hd ⊢
        have hv := valD_lt s 0 hd
        have hp : 10 ^ s.length ≤ 10 ^ 19 := Nat.pow_le_pow_right (by omega) hlen
        have hpn : Tx.pNat s = if Tx.valD s 0 ≤ 4611686018427387904 then some (Tx.valD s 0) else none := by
          subst hs'
          show (bif _ then _ else _) = _
          have e1 : (c.toNat == 48 && !r.isEmpty) = false := by
            rw [Bool.and_eq_false_iff]
            by_cases h1 : r = []
            · right; subst h1; rfl
            · left
              have h2 : 1 < (c :: r).length := by
                cases r with
                | nil => exact absurd rfl h1
                | cons _ _ => simp
              have := hc.1 (by omega)
              simp only [beq_eq_false_iff_ne, ne_eq]
              omega
          rw [e1, hd, decide_eq_true hlen]
          by_cases h3 : Tx.valD (c :: r) 0 ≤ 4611686018427387904
          · rw [if_pos h3, decide_eq_true h3]; rfl
          · rw [if_neg h3, decide_eq_false h3]; rfl
        simp only [hbin_gtr, oP_some', bP_bool', decide_eq_true_eq]
        split
        · rename_i hbig
          rw [if_neg (by omega)] at hpn
          rw [hpn] at H
          exact H 0 (fun n hn => by cases hn)
        · rename_i hbig
          rw [if_pos (by omega)] at hpn
          rw [hpn] at H
          have w1 : wrapF .i64 ((Tx.valD s 0 : Nat) : Int) = ((Tx.valD s 0 : Nat) : Int) := wrapF_in (by simp only [inK]; omega)
          have w2 : wrapF .i64 (0 - ((Tx.valD s 0 : Nat) : Int)) = -((Tx.valD s 0 : Nat) : Int) := by rw [wrapF_in (by simp only [inK]; omega)]; omega
          simp only [pConv_int, w1, oP_some', hun_neg, w2]
          cases m with
          | true => exact H _ (fun n hn => by cases hn; rfl)
          | false => exact H _ (fun n hn => by cases hn; rfl)
theorem ct_number30 {s : Tx.Bs} {h : Hp} {Q : V → Hp → Prop} (hs : s.length < 4611686018427387904) (H : ∀ v : Int, (∀ n, Tx.pInt s = some n → v = n) → Q (.tuple [.int .i64 v, .bool (Tx.pInt s).isSome]) h) : cP CS n_turnstoneref30_number [.str s] h Q := by
  refine c_turnstoneref30_number rfl rfl ?_
  unfold B_turnstoneref30_number
  -- no minus ahead
  have plain : minus s = false ∨ s = [45] → J_turnstoneref30_number_R3 CS Q (.str s) (.bool false) h := by
    intro hm
    refine ct_number30_R3 hs fun v hv => ?_
    have hpi : Tx.pInt s = (Tx.pNat s).map (fun n : Nat => (n : Int)) := by
      rcases hm with hm | rfl
      · exact pInt_plain hm
      · rfl
    rw [hpi] at H
    rw [← Option.isSome_map (f := fun n : Nat => (n : Int))]
    refine H v fun n hn => ?_
    obtain ⟨k, h1, h2⟩ := Option.map_eq_some_iff.1 hn
    rw [hv k h1, ← h2]; rfl
  match s, hs, H, plain with
  | [], hs, H, plain =>
    have := plain (.inl rfl)
    simpa using this
  | [c], hs, H, plain =>
    have e1 : decide (1 < (([c] : Tx.Bs).length : Int)) = false := rfl
    simp only [pLenS_str, oP_some', hbin_gtr, e1, pAnd_false, bP_bool', Bool.false_eq_true, if_false]
    by_cases hc : c = 45
    · subst hc; exact plain (.inr rfl)
    · exact plain (.inl (by simp [minus, hc]))
  | c :: d :: r, hs, H, plain =>
    have e1 : decide ((1 : Int) < ((c :: d :: r).length : Nat)) = true := decide_eq_true (by simp; omega)
    simp only [pLenS_str, oP_some', hbin_gtr, e1, pAnd_true, oB_some', pIdxS_zero, hbin_eql, bP_bool', beq_iff_eq]
    split
    · rename_i hc
      obtain rfl : c = 45 := UInt8.toNat_inj.1 (by show _ = 45; omega)
      have e2 : hsliceS (.str (45 :: d :: r)) (some (.int .i64 1)) none = some (.str (d :: r)) := hsliceS_from (n := 1) (by simp)
      simp only [e2, oP_some', pIdxS_zero, hbin_eql, bP_bool', beq_iff_eq]
      split
      · rename_i hd
        obtain rfl : d = 48 := UInt8.toNat_inj.1 (by show _ = 48; omega)
        have hz : Tx.pInt (45 :: 48 :: r) = none := by
          rw [pInt_minus]
          cases hp : Tx.pNat (48 :: r) with
          | none => rfl
          | some n =>
            cases n with
            | zero => rfl
            | succ n =>
              exfalso
              obtain ⟨h1, _⟩ := Tx.dec_pNat hp
              obtain ⟨c', r', h2, h3⟩ := Tx.dec_head (n + 1) (by omega)
              rw [h1] at h2
              cases h2
              exact h3 rfl
        rw [hz] at H
        exact H 0 (fun n hn => by cases hn)
      · rename_i hd
        rw [pInt_minus] at H
        refine ct_number30_R3 (by simp at hs ⊢; omega) fun v hv => ?_
        cases hp : Tx.pNat (d :: r) with
        | none =>
          rw [hp] at H
          exact H v (fun n hn => by cases hn)
        | some n =>
          rw [hp] at H hv
          cases n with
          | zero =>
            exfalso
            obtain ⟨h1, _⟩ := Tx.dec_pNat hp
            have h5 : Go.Lib.decDigits 0 = [UInt8.ofNat (48 + 0)] := by rw [Go.Lib.decDigits, dif_pos (by omega)]
            rw [h5] at h1
            cases h1
            exact hd rfl
          | succ n =>
            refine H v fun k hk => ?_
            cases hk
            rw [hv _ rfl]
            show -(((n + 1 : Nat) : Int)) = _
            omega
    · rename_i hc
      refine plain (.inl ?_)
      simp only [minus, beq_eq_false_iff_ne, ne_eq]
      intro e
      exact hc (by rw [e]; rfl)
theorem ct_Names {h : Hp} {Q : V → Hp → Prop} (H : Q (.slice h.next 0 7) (h.new (.cells 9 1 true false (strs Tx.names)))) : cP CS n_turnstoneref30_Names [] h Q := by
  refine c_turnstoneref30_Names rfl rfl ?_
  unfold B_turnstoneref30_Names
  exact H
end Go.Proofs.YtdpfhajggknfaaaGreatDoor.Hx
