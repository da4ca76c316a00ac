/- Chapter 30's text: the document's Parse; the law of parsed lines. -/
import Derived.Test.YtdpfhajggknfaaaGreatDoorHxVB
import Derived.Test.YtdpfhajggknfaaaGreatDoorHxSa
namespace Go.Proofs.YtdpfhajggknfaaaGreatDoor.Hx
open Go.Proofs.YtdpfhajggknfaaaGreatDoor

theorem strs_length (l : List Tx.Bs) : (strs l).length = l.length := by simp [strs]
theorem strs_one (l : List Tx.Bs) : allOne (strs l) = true := by
  induction l with
  | nil => rfl
  | cons x l ih => show allOne (V.str x :: strs l) = true; rw [allOne_cons, ih]; rfl
theorem ct_split30 {s : Tx.Bs} {h : Hp} {Q : V → Hp → Prop} (hs : s.length < 1000000000) (H : ∀ v h', Grows h h' → SlR eS h'.next h' (Tx.split 32 s) v → Q v h') : cP CS n_turnstoneref30_split [.str s] h Q := by
  refine c_turnstoneref30_split rfl rfl ?_
  unfold B_turnstoneref30_split
  refine l_turnstoneref30_split_L0 (fun k x0 x3 x4 x5 h' => ∃ (l : List Tx.Bs) (i fr : Nat), k = s.length + 1 - i ∧ x0 = .str s ∧ x4 = .int .i64 (fr : Nat) ∧ x5 = .int .i64 (i : Nat) ∧ Grows h h' ∧ Own 9 1 h.next h' (strs l) l.length x3 ∧ l.length ≤ i ∧
    ((i ≤ s.length ∧ fr ≤ i ∧ Tx.split 32 s = l ++ Tx.split 32 (s.drop fr) ∧ ∀ x ∈ (s.drop fr).take (i - fr), x ≠ 32) ∨ (i = s.length + 1 ∧ l = Tx.split 32 s))) ?_
    ⟨[], 0, 0, rfl, rfl, rfl, rfl, Chg.refl _ _, Own.nil, Nat.le_refl _, .inl ⟨Nat.zero_le _, Nat.le_refl _, rfl, by simp⟩⟩
  rintro k x0 x3 x4 x5 h' ⟨l, i, fr, rfl, rfl, rfl, rfl, hg, ho, hli, hst⟩
  unfold B_turnstoneref30_split_L0
  simp only [pLenS_str, oP_some', hbin_leq, bP_bool', decide_eq_true_eq]
  split
  · rename_i hle
    have hi : i ≤ s.length := by omega
    obtain ⟨_, hfi, hsp, hno⟩ := hst.resolve_right (fun h => by omega)
    have hw : wrapF .i64 ((i : Nat) + 1) = ((i + 1 : Nat) : Int) := by rw [wrapF_in (by simp only [inK]; omega)]; omega
    -- a word ends here
    have cut : ∀ (fr' : Nat), (∀ l', l' = l ++ [(s.drop fr).take (i - fr)] → ((i + 1 ≤ s.length ∧ fr' ≤ i + 1 ∧ Tx.split 32 s = l' ++ Tx.split 32 (s.drop fr') ∧ ∀ x ∈ (s.drop fr').take (i + 1 - fr'), x ≠ 32) ∨ (i + 1 = s.length + 1 ∧ l' = Tx.split 32 s))) → fr' = i + 1 →
        oP (hsliceS (.str s) (some (.int .i64 (fr : Nat))) (some (.int .i64 (i : Nat)))) fun v26 => alP (pBS 9 1 1 (V.str []) [(0, v26)]) h' fun v27 h1 => valP (happend 9 1 16 x3 v27 h1) fun v28 h2 => oP (hbin .add 3 (.int .i64 (i : Nat)) (V.int .i64 1)) fun v30 =>
          J_turnstoneref30_split_R9 CS Q (fun x0 x3 x4 x5 h_1 => ∃ k', k' < s.length + 1 - i ∧ ∃ (l : List Tx.Bs) (i fr : Nat), k' = s.length + 1 - i ∧ x0 = .str s ∧ x4 = .int .i64 (fr : Nat) ∧ x5 = .int .i64 (i : Nat) ∧ Grows h h_1 ∧ Own 9 1 h.next h_1 (strs l) l.length x3 ∧ l.length ≤ i ∧
            ((i ≤ s.length ∧ fr ≤ i ∧ Tx.split 32 s = l ++ Tx.split 32 (s.drop fr) ∧ ∀ x ∈ (s.drop fr).take (i - fr), x ≠ 32) ∨ (i = s.length + 1 ∧ l = Tx.split 32 s))) (.str s) v28 v30 (.int .i64 (i : Nat)) h2 := by
      intro fr' hnew he
      subst he
      have hb : pBS 9 1 1 (V.str []) [(0, V.str ((s.drop fr).take (i - fr)))] = some (.cells 9 1 true false [V.str ((s.drop fr).take (i - fr))], fun l => .slice l 0 1) := rfl
      simp only [hsliceS_both hfi hi, oP_some', hb, alP_some]
      have hg3 : Grows h' (h'.new (.cells 9 1 true false [V.str ((s.drop fr).take (i - fr))])) := Chg.new _ _
      obtain ⟨v3, h3, a, b, c, d, f⟩ := (ho.chg hg3 fun _ _ _ h => h).append (by_ := 16) (xcells_new (k := 0) (sz := 1) (e := 9) (h := h') (cs := [V.str ((s.drop fr).take (i - fr))]) (ro := false) rfl) (by omega) rfl (strs_one _) rfl (by have := hg.next; simp; omega) (by omega) (by omega) (by omega)
      simp only [a, valP_some, hbin_add, oP_some', hw]
      refine j_turnstoneref30_split_R9 ?_
      unfold B_turnstoneref30_split_R9
      simp only [hbin_add, oP_some', hw]
      have hty : strs (l ++ [(s.drop fr).take (i - fr)]) = strs l ++ [V.str ((s.drop fr).take (i - fr))] := by simp [strs]
      refine ⟨s.length + 1 - (i + 1), by omega, l ++ [(s.drop fr).take (i - fr)], i + 1, i + 1, rfl, by trivial, by trivial, by trivial, ?_, ?_, by simp; omega, hnew _ rfl⟩
      · refine (hg.trans hg3).trans' c fun m hm e9 => ?_
        rcases ho with ⟨rfl, _⟩ | ⟨t, rfl, ht, _⟩
        · cases e9
        · cases e9; omega
      · rw [hty]
        have : (l ++ [(s.drop fr).take (i - fr)]).length = l.length + (0 + 1) := by simp
        rw [this]
        exact b
    by_cases hil : i = s.length
    · have e1 : (((i : Nat) : Int) == (s.length : Nat)) = true := by rw [hil]; simp
      simp only [hbin_eql, oP_some', e1, pOr_true, bP_bool', if_true]
      refine cut (i + 1) (fun l' hl' => .inr ⟨by omega, ?_⟩) rfl
      rw [hl', hsp]
      have ht : (s.drop fr).take (i - fr) = s.drop fr := by rw [List.take_of_length_le]; rw [List.length_drop]; omega
      rw [ht] at hno ⊢
      rw [Tx.split_last 32 _ hno]
    · have e1 : (((i : Nat) : Int) == (s.length : Nat)) = false := by rw [beq_eq_false_iff_ne]; omega
      have hlt : i < s.length := by omega
      simp only [hbin_eql, oP_some', e1, pOr_false, oB_some', pIdxS_at hlt, bP_bool', beq_iff_eq]
      have hdr : s.drop fr = (s.drop fr).take (i - fr) ++ s[i] :: s.drop (i + 1) := by
        have h1 := List.take_append_drop (i - fr) (s.drop fr)
        rw [List.drop_drop, show fr + (i - fr) = i by omega, List.drop_eq_getElem_cons hlt] at h1
        exact h1.symm
      split
      · rename_i hc
        have hc' : s[i] = 32 := UInt8.toNat_inj.1 (by show _ = 32; omega)
        refine cut (i + 1) (fun l' hl' => .inl ⟨by omega, Nat.le_refl _, ?_, by simp⟩) rfl
        rw [hl', hsp]
        have : Tx.split 32 (s.drop fr) = (s.drop fr).take (i - fr) :: Tx.split 32 (s.drop (i + 1)) := by
          conv => lhs; rw [hdr, hc']
          exact Tx.split_word 32 _ _ hno
        rw [this]; simp
      · rename_i hc
        have hc' : s[i] ≠ 32 := fun e => hc (by rw [e]; rfl)
        refine j_turnstoneref30_split_R9 ?_
        unfold B_turnstoneref30_split_R9
        simp only [hbin_add, oP_some', hw]
        refine ⟨s.length + 1 - (i + 1), by omega, l, i + 1, fr, rfl, by trivial, by trivial, by trivial, hg, ho, by omega, .inl ⟨by omega, by omega, hsp, ?_⟩⟩
        have : (s.drop fr).take (i + 1 - fr) = (s.drop fr).take (i - fr) ++ [s[i]] := by
          rw [show i + 1 - fr = (i - fr) + 1 by omega, List.take_add_one]
          congr 1
          rw [List.getElem?_drop, show fr + (i - fr) = i by omega, List.getElem?_eq_getElem hlt]
          rfl
        rw [this]
        intro x hx
        rcases List.mem_append.1 hx with hx | hx
        · exact hno x hx
        · obtain rfl : x = s[i] := by simpa using hx
          exact hc'
  · rename_i hgt
    obtain ⟨h1, h2⟩ := hst.resolve_left (fun h => by omega)
    subst h2
    exact H _ _ hg (ho.slR (E := eS) (Nat.le_refl _) (win_strs _))

/-! ### the document's numbers -/
def sgn (m : Bool) (n : Nat) : Int := if m = true then -(n : Int) else n
theorem ct_number30_R3 {s : Tx.Bs} {m : Bool} {h : Hp} {Q : V → Hp → Prop} (hs : s.length < 4611686018427387904) (H : ∀ v : Int, (∀ n, Tx.pNat s = some n → v = sgn m n) → Q (.tuple [.int .i64 v, .bool (Tx.pNat s).isSome]) h) :
    J_turnstoneref30_number_R3 CS Q (.str s) (.bool m) h := by
  refine j_turnstoneref30_number_R3 ?_
  unfold B_turnstoneref30_number_R3
  cases s with
  | nil =>
    simp [Tx.pNat] at H ⊢
    exact H 0
  | cons c r =>
    have e0 : ((c :: r) == ([] : List UInt8)) = false := rfl
    simp only [hbin_eqlS, e0, oP_some', pOr_false, oB_some', pLenS_str, hbin_gtr, pIdxS_zero, hbin_eql, pAnd_bool, pOr_bool, bP_bool', Bool.false_or]
    split
    · rename_i hc
      have hn : Tx.pNat (c :: r) = none := by
        simp only [Bool.or_eq_true, Bool.and_eq_true, decide_eq_true_eq, beq_iff_eq] at hc
        show (bif _ then _ else _) = _
        cases hb : (!(c.toNat == 48 && !r.isEmpty) && decide ((c :: r).length ≤ 19) && (c :: r).all Tx.isDig && decide (Tx.valD (c :: r) 0 ≤ 4611686018427387904)) with
        | false => rfl
        | true =>
          exfalso
          simp only [Bool.and_eq_true, decide_eq_true_eq, Bool.not_eq_true', Bool.and_eq_false_iff, beq_eq_false_iff_ne, ne_eq, Bool.not_eq_false'] at hb
          obtain ⟨⟨⟨h1, h2⟩, _⟩, _⟩ := hb
          rcases hc with ⟨h3, h4⟩ | h3
          · rcases h1 with h1 | h1
            · exact h1 (by omega)
            · have : r = [] := by simpa using h1
              subst this
              simp at h3
          · omega
      rw [hn] at H
      exact H 0 (fun n hn => by cases hn)
    · rename_i hc
      simp only [Bool.or_eq_true, Bool.and_eq_true, decide_eq_true_eq, beq_iff_eq, not_or, not_and] at hc
      generalize hs' : c :: r = s at *
      refine l_turnstoneref30_number_L0 (fun k x0 x4 x5 x6 h' => ∃ i : Nat, i ≤ s.length ∧ k = s.length - i ∧ x0 = .str s ∧ x4 = .bool m ∧ x5 = .int .u64 (Tx.valD (s.take i) 0 : Nat) ∧ x6 = .int .i64 (i : Nat) ∧ (s.take i).all Tx.isDig = true ∧ h' = h) ?_ ⟨0, Nat.zero_le _, rfl, rfl, rfl, by simp [Tx.valD], rfl, by simp, rfl⟩
      rintro k x0 x4 x5 x6 h' ⟨i, hi, rfl, rfl, rfl, rfl, rfl, hd, rfl⟩
      have hlen : s.length ≤ 19 := by omega
      unfold B_turnstoneref30_number_L0
      simp only [pLenS_str, oP_some', hbin_lss, bP_bool', decide_eq_true_eq]
      split
      · rename_i hlt
        have hlt' : i < s.length := by omega
        have hv := valD_lt (s.take i) 0 hd
        have hp : 10 ^ (s.take i).length ≤ 10 ^ 18 := Nat.pow_le_pow_right (by omega) (by rw [List.length_take]; omega)
        simp only [pIdxS_at hlt', oP_some', hbin_lss, oB_some', hbin_gtr, pOr_bool, bP_bool']
        split
        · rename_i hb
          have hn : Tx.pNat s = none := by
            have hnd : Tx.isDig s[i] = false := by
              cases hq : Tx.isDig s[i] with
              | false => rfl
              | true =>
                have := (Tx.isDig_iff _).1 hq
                simp only [Bool.or_eq_true, decide_eq_true_eq] at hb
                omega
            have hall : s.all Tx.isDig = false := by
              rw [List.all_eq_false]
              exact ⟨s[i], List.getElem_mem hlt', by rw [hnd]; simp⟩
            subst hs'
            show (bif _ then _ else _) = _
            rw [hall]
            simp
          rw [hn] at H
          exact H 0 (fun n hn => by cases hn)
        · rename_i hb
          simp only [Bool.or_eq_true, decide_eq_true_eq, not_or] at hb
          have hdig : Tx.isDig s[i] = true := (Tx.isDig_iff _).2 (by omega)
          have hc8 := UInt8.toNat_lt s[i]
          have w1 : wrapF .u64 (10 * (Tx.valD (s.take i) 0 : Nat)) = ((10 * Tx.valD (s.take i) 0 : Nat) : Int) := by
            rw [wrapF_in (by simp only [inK]; omega)]; omega
          have w2 : wrapF .u8 ((s[i].toNat : Nat) - 48) = ((s[i].toNat - 48 : Nat) : Int) := by
            rw [wrapF_in (by simp only [inK]; omega)]; omega
          have w3 : wrapF .u64 ((s[i].toNat - 48 : Nat) : Int) = ((s[i].toNat - 48 : Nat) : Int) := wrapF_in (by simp only [inK]; omega)
          have w4 : wrapF .u64 (((10 * Tx.valD (s.take i) 0 : Nat) : Int) + ((s[i].toNat - 48 : Nat) : Int)) = (Tx.valD (s.take (i + 1)) 0 : Nat) := by
            rw [take_snoc hlt', Tx.valD_append]
            simp only [Tx.valD]
            rw [wrapF_in (by simp only [inK]; omega)]; omega
          have w5 : wrapF .i64 ((i : Nat) + 1) = ((i + 1 : Nat) : Int) := by rw [wrapF_in (by simp only [inK]; omega)]; omega
          simp only [hbin_mul, w1, oP_some', hbin_sub, w2, pConv_int, w3, hbin_add, w4, w5]
          exact ⟨s.length - (i + 1), by omega, i + 1, by omega, by trivial, by trivial, by trivial, by trivial, by trivial, by rw [take_snoc hlt', List.all_append, hd]; simp [hdig], by trivial⟩
      · rename_i hge
        have hi' : i = s.length := by omega
        subst hi'
        rw [List.take_length] at hd ⊢
        have hv := valD_lt s 0 hd
        have hp : 10 ^ s.length ≤ 10 ^ 19 := Nat.pow_le_pow_right (by omega) hlen
        have hpn : Tx.pNat s = if Tx.valD s 0 ≤ 4611686018427387904 then some (Tx.valD s 0) else none := by
          subst hs'
          show (bif _ then _ else _) = _
          have e1 : (c.toNat == 48 && !r.isEmpty) = false := by
            rw [Bool.and_eq_false_iff]
            by_cases h1 : r = []
            · right; subst h1; rfl
            · left
              have h2 : 1 < (c :: r).length := by
                cases r with
                | nil => exact absurd rfl h1
                | cons _ _ => simp
              have := hc.1 (by omega)
              simp only [beq_eq_false_iff_ne, ne_eq]
              omega
          rw [e1, hd, decide_eq_true hlen]
          by_cases h3 : Tx.valD (c :: r) 0 ≤ 4611686018427387904
          · rw [if_pos h3, decide_eq_true h3]; rfl
          · rw [if_neg h3, decide_eq_false h3]; rfl
        simp only [hbin_gtr, oP_some', bP_bool', decide_eq_true_eq]
        split
        · rename_i hbig
          rw [if_neg (by omega)] at hpn
          rw [hpn] at H
          exact H 0 (fun n hn => by cases hn)
        · rename_i hbig
          rw [if_pos (by omega)] at hpn
          rw [hpn] at H
          have w1 : wrapF .i64 ((Tx.valD s 0 : Nat) : Int) = ((Tx.valD s 0 : Nat) : Int) := wrapF_in (by simp only [inK]; omega)
          have w2 : wrapF .i64 (0 - ((Tx.valD s 0 : Nat) : Int)) = -((Tx.valD s 0 : Nat) : Int) := by rw [wrapF_in (by simp only [inK]; omega)]; omega
          simp only [pConv_int, w1, oP_some', hun_neg, w2]
          cases m with
          | true => exact H _ (fun n hn => by cases hn; rfl)
          | false => exact H _ (fun n hn => by cases hn; rfl)
theorem ct_number30 {s : Tx.Bs} {h : Hp} {Q : V → Hp → Prop} (hs : s.length < 4611686018427387904) (H : ∀ v : Int, (∀ n, Tx.pInt s = some n → v = n) → Q (.tuple [.int .i64 v, .bool (Tx.pInt s).isSome]) h) : cP CS n_turnstoneref30_number [.str s] h Q := by
  refine c_turnstoneref30_number rfl rfl ?_
  unfold B_turnstoneref30_number
  -- no minus ahead
  have plain : minus s = false ∨ s = [45] → J_turnstoneref30_number_R3 CS Q (.str s) (.bool false) h := by
    intro hm
    refine ct_number30_R3 hs fun v hv => ?_
    have hpi : Tx.pInt s = (Tx.pNat s).map (fun n : Nat => (n : Int)) := by
      rcases hm with hm | rfl
      · exact pInt_plain hm
      · rfl
    rw [hpi] at H
    rw [← Option.isSome_map (f := fun n : Nat => (n : Int))]
    refine H v fun n hn => ?_
    obtain ⟨k, h1, h2⟩ := Option.map_eq_some_iff.1 hn
    rw [hv k h1, ← h2]; rfl
  match s, hs, H, plain with
  | [], hs, H, plain =>
    have := plain (.inl rfl)
    simpa using this
  | [c], hs, H, plain =>
    have e1 : decide (1 < (([c] : Tx.Bs).length : Int)) = false := rfl
    simp only [pLenS_str, oP_some', hbin_gtr, e1, pAnd_false, bP_bool', Bool.false_eq_true, if_false]
    by_cases hc : c = 45
    · subst hc; exact plain (.inr rfl)
    · exact plain (.inl (by simp [minus, hc]))
  | c :: d :: r, hs, H, plain =>
    have e1 : decide ((1 : Int) < ((c :: d :: r).length : Nat)) = true := decide_eq_true (by simp; omega)
    simp only [pLenS_str, oP_some', hbin_gtr, e1, pAnd_true, oB_some', pIdxS_zero, hbin_eql, bP_bool', beq_iff_eq]
    split
    · rename_i hc
      obtain rfl : c = 45 := UInt8.toNat_inj.1 (by show _ = 45; omega)
      have e2 : hsliceS (.str (45 :: d :: r)) (some (.int .i64 1)) none = some (.str (d :: r)) := hsliceS_from (n := 1) (by simp)
      simp only [e2, oP_some', pIdxS_zero, hbin_eql, bP_bool', beq_iff_eq]
      split
      · rename_i hd
        obtain rfl : d = 48 := UInt8.toNat_inj.1 (by show _ = 48; omega)
        have hz : Tx.pInt (45 :: 48 :: r) = none := by
          rw [pInt_minus]
          cases hp : Tx.pNat (48 :: r) with
          | none => rfl
          | some n =>
            cases n with
            | zero => rfl
            | succ n =>
              exfalso
              obtain ⟨h1, _⟩ := Tx.dec_pNat hp
              obtain ⟨c', r', h2, h3⟩ := Tx.dec_head (n + 1) (by omega)
              rw [h1] at h2
              cases h2
              exact h3 rfl
        rw [hz] at H
        exact H 0 (fun n hn => by cases hn)
      · rename_i hd
        rw [pInt_minus] at H
        refine ct_number30_R3 (by simp at hs ⊢; omega) fun v hv => ?_
        cases hp : Tx.pNat (d :: r) with
        | none =>
          rw [hp] at H
          exact H v (fun n hn => by cases hn)
        | some n =>
          rw [hp] at H hv
          cases n with
          | zero =>
            exfalso
            obtain ⟨h1, _⟩ := Tx.dec_pNat hp
            have h5 : Go.Lib.decDigits 0 = [UInt8.ofNat (48 + 0)] := by rw [Go.Lib.decDigits, dif_pos (by omega)]
            rw [h5] at h1
            cases h1
            exact hd rfl
          | succ n =>
            refine H v fun k hk => ?_
            cases hk
            rw [hv _ rfl]
            show -(((n + 1 : Nat) : Int)) = _
            omega
    · rename_i hc
      refine plain (.inl ?_)
      simp only [minus, beq_eq_false_iff_ne, ne_eq]
      intro e
      exact hc (by rw [e]; rfl)
theorem ct_Names {h : Hp} {Q : V → Hp → Prop} (H : Q (.slice h.next 0 7) (h.new (.cells 9 1 true false (strs Tx.names)))) : cP CS n_turnstoneref30_Names [] h Q := by
  refine c_turnstoneref30_Names rfl rfl ?_
  unfold B_turnstoneref30_Names
  exact H
end Go.Proofs.YtdpfhajggknfaaaGreatDoor.Hx
namespace Go.Proofs.YtdpfhajggknfaaaGreatDoor.Hx
open Go.Proofs.YtdpfhajggknfaaaGreatDoor

theorem hbin_rem (t : Nat) (k : IntKind) (a b : Int) (hb : b ≠ 0) : hbin .rem t (.int k a) (.int k b) = some (.int k (a.tmod b)) := by
  cases b with
  | ofNat n =>
    cases n with
    | zero => exact absurd rfl hb
    | succ n => cases k <;> rfl
  | negSucc n => cases k <;> rfl
theorem hbin_quo (t : Nat) (k : IntKind) (a b : Int) (hb : b ≠ 0) : hbin .quo t (.int k a) (.int k b) = some (.int k (wrapF k (a.tdiv b))) := by
  cases b with
  | ofNat n =>
    cases n with
    | zero => exact absurd rfl hb
    | succ n => cases k <;> rfl
  | negSucc n => cases k <;> rfl
def intCells (l : List Int) : List V := l.map fun n => V.int .i64 n
theorem intCells_one (l : List Int) : allOne (intCells l) = true := by
  induction l with
  | nil => rfl
  | cons x l ih => show allOne (V.int .i64 x :: intCells l) = true; rw [allOne_cons, ih]; rfl
/-- A number of one's own row. -/
theorem own_int {a : Nat} {h : Hp} {ns : List Int} {v : V} (ho : Own 3 1 a h (intCells ns) ns.length v) {i : Nat} (hi : i < ns.length) : ∃ l o, a ≤ l ∧ l < h.next ∧ pIx 1 v (.int .i64 (i : Nat)) = some (.ptr l o) ∧ pLd (.ptr l o) h = some (.int .i64 ns[i]) := by
  rcases ho with ⟨_, _, h0⟩ | ⟨t, rfl, h1, h2, h3, _⟩
  · omega
  · refine ⟨t, i, h1, h2, by rw [pIx_slice _ _ _ _ _ _ hi]; simp, pLd_get h3 ?_⟩
    unfold intCells
    rw [List.getElem?_map, List.getElem?_eq_getElem hi]
    rfl
/-- Where the parts of the document's Parse lie: the result, the event, its counts, the numbers. -/
structure PR (l2 l5 : Nat) (h : Hp) (e : Tx.Ev) (v : V) : Prop where
  ev : h.get l5 = some (.cells 26 1 true false (evCells e v))
  l25 : l2 < l5
  l5n : l5 < h.next
  res : ∃ cs, h.get l2 = some (.cells 26 1 true false cs) ∧ cs.length = 9
  own : Own 60 2 (l5 + 1) h (tyCells e.ty) e.ty.length v
  tin : tyIn e.ty
theorem pR_end {l2 l5 : Nat} {h : Hp} {e : Tx.Ev} {v : V} {Q : V → Hp → Prop} (hp : PR l2 l5 h e v)
    (H : ∀ v' h', Chg (fun m => m = l2) h h' → SlR eT h'.next h' e.ty v' → Q (.tuple [.agg (evCells e v'), .int .i64 0]) h') : J_turnstoneref30_Parse_R22 CS Q (.ptr l2 0) (.ptr l5 0) h := by
  obtain ⟨hev, h25, h5n, ⟨cs, hres, hcs⟩, hown, htin⟩ := hp
  refine j_turnstoneref30_Parse_R22 ?_
  unfold B_turnstoneref30_Parse_R22
  have l2n : l2 < h.next := by omega
  have r0 := pLdA_all (n := 9) hev rfl
  have s1 := pSt_all (ws := evCells e v) (n := 9) hres rfl hcs (evCells_one e hown.one)
  have r1 := pLdA_all (n := 9) (get_put_self (h := h) (.cells 26 1 true false (evCells e v)) l2n) rfl
  simp only [r0, oP_some', s1, valP_some, r1]
  have hc : Chg (fun m => m = l2) h (h.put l2 (.cells 26 1 true false (evCells e v))) := Chg.put _ rfl l2n
  exact H _ _ hc ((hown.chg hc fun m hm _ e => by omega).slR (E := eT) (Nat.le_refl _) (win_ty _ htin))
/-- The event is nothing. -/
theorem pR_bad {l2 : Nat} {h : Hp} {K : Hp → V → Prop} {cs : List V} (hres : h.get l2 = some (.cells 26 1 true false cs)) (hcs : cs.length = 9) (l2n : l2 < h.next)
    (H : ∀ h', Chg (fun m => m = l2) h h' → K h' (.agg (evCells Tx.ev0 .nilSlice))) :
    oP (pBuild [(V.int .i64 0), (V.int .i64 0), (V.int .i64 0), (V.int .i64 0), (V.int .i64 0), (V.int .i64 0), (V.int .i64 0), (V.int .i64 0), V.nilSlice] [(0, 1), (1, 1), (2, 1), (3, 1), (4, 5)] []) fun v51 =>
      valP (pSt 9 (.ptr l2 0) v51 h) fun _ h2 => oP (pLdA 9 (.ptr l2 0) h2) fun r2 => K h2 r2 := by
  have b1 : pBuild [(V.int .i64 0), (V.int .i64 0), (V.int .i64 0), (V.int .i64 0), (V.int .i64 0), (V.int .i64 0), (V.int .i64 0), (V.int .i64 0), V.nilSlice] [(0, 1), (1, 1), (2, 1), (3, 1), (4, 5)] [] = some (.agg (evCells Tx.ev0 .nilSlice)) := rfl
  have s1 := pSt_all (ws := evCells Tx.ev0 .nilSlice) (n := 9) hres rfl hcs rfl
  have r1 := pLdA_all (n := 9) (get_put_self (h := h) (.cells 26 1 true false (evCells Tx.ev0 .nilSlice)) l2n) rfl
  simp only [b1, oP_some', s1, valP_some, r1]
  exact H _ (Chg.put _ rfl l2n)
/-- A number is laid into the event. -/
theorem PR.set {l2 l5 : Nat} {h : Hp} {e e' : Tx.Ev} {v : V} (hp : PR l2 l5 h e v) (hty : e'.ty = e.ty) : PR l2 l5 (h.put l5 (.cells 26 1 true false (evCells e' v))) e' v := by
  obtain ⟨hev, h25, h5n, ⟨cs, hres, hcs⟩, hown, htin⟩ := hp
  have hc : Chg (fun m => m = l5) h (h.put l5 (.cells 26 1 true false (evCells e' v))) := Chg.put _ rfl h5n
  exact ⟨get_put_self _ h5n, h25, h5n, ⟨cs, by rw [hc.keep l2 (by omega) (by omega)]; exact hres, hcs⟩, by rw [hty]; exact hown.chg hc fun m hm _ e => by omega, by rw [hty]; exact htin⟩
theorem pR_L2 {l2 l5 b : Nat} {h : Hp} {e : Tx.Ev} {x8 : V} {ns ts : List Int} {out : Tx.Ev} {Q : V → Hp → Prop} (hp : PR l2 l5 h e .nilSlice) (hn : Own 3 1 b h (intCells (ts ++ ns)) (ts ++ ns).length x8) (hb : l5 < b) (hte : ts.length = 4) (het : e.ty = [])
    (hlen : (ts ++ ns).length ≤ 1000) (hin : ∀ n ∈ ns, inK .i64 n) (hout : ∃ ps, Tx.pairs ns = some ps ∧ out = { e with ty := e.ty ++ ps })
    (H : ∀ v' h', Chg (fun m => m = l2 ∨ l5 ≤ m) h h' → SlR eT h'.next h' out.ty v' → Q (.tuple [.agg (evCells out v'), .int .i64 0]) h') : J_turnstoneref30_Parse_L2 CS Q (.ptr l2 0) (.ptr l5 0) x8 (.int .i64 (ts.length : Nat)) h := by
  have hx8 : ∃ t8, x8 = .slice t8 0 (ts ++ ns).length ∧ b ≤ t8 ∧ t8 < h.next ∧ h.get t8 = some (.cells 3 1 true false (intCells (ts ++ ns))) := by
    rcases hn with ⟨_, _, h0⟩ | ⟨t, h1, h2, h3, h4, _⟩
    · rw [List.length_append] at h0; omega
    · exact ⟨t, h1, h2, h3, h4⟩
  obtain ⟨t8, rfl, ht8, ht8n, hg8⟩ := hx8
  refine l_turnstoneref30_Parse_L2 (fun k x2 x5 x8 x13 h' => ∃ (ts' ns' : List Int) (e' : Tx.Ev) (v' : V), k = ns'.length ∧ x2 = .ptr l2 0 ∧ x5 = .ptr l5 0 ∧ x8 = .slice t8 0 (ts ++ ns).length ∧ x13 = .int .i64 (ts'.length : Nat) ∧ ts ++ ns = ts' ++ ns' ∧ PR l2 l5 h' e' v' ∧
    h'.get t8 = some (.cells 3 1 true false (intCells (ts ++ ns))) ∧ (∀ t n, v' = .slice t 0 n → t ≠ t8) ∧ (∀ n ∈ ns', inK .i64 n) ∧ (∃ ps, Tx.pairs ns' = some ps ∧ out = { e' with ty := e'.ty ++ ps }) ∧ e'.ty.length ≤ 1000 + ts'.length ∧ Chg (fun m => m = l2 ∨ l5 ≤ m) h h') ?_
    ⟨ts, ns, e, .nilSlice, rfl, rfl, rfl, rfl, rfl, rfl, hp, hg8, (fun t n h1 => by cases h1), hin, hout, by rw [het]; simp, Chg.refl _ _⟩
  clear hout hin hg8 hp
  rintro k x2 x5 x8 x13 h1 ⟨ts', ns', e', v', rfl, rfl, rfl, rfl, rfl, hsp, hp1, hg8, hvt, hin, ⟨ps, hps, hout⟩, hle, hch⟩
  have hp1' := hp1
  obtain ⟨hev, h25, h5n, ⟨cs, hres, hcs⟩, hown, htin⟩ := hp1
  unfold B_turnstoneref30_Parse_L2
  have hl2 : (ts ++ ns).length = ts'.length + ns'.length := by rw [hsp]; simp
  simp only [pLen_slice, oP_some', hbin_lss, bP_bool', decide_eq_true_eq]
  split
  · rename_i hlt
    obtain ⟨a, b', r, rfl⟩ : ∃ a b' r, ns' = a :: b' :: r := by
      match ns', hps, hl2, hlt with
      | [], _, h1, h2 => rw [List.length_nil] at h1; omega
      | [_], h, _, _ => simp [Tx.pairs] at h
      | a :: b' :: r, _, _, _ => exact ⟨a, b', r, rfl⟩
    have gt8n : t8 < h1.next := Nat.lt_of_lt_of_le ht8n hch.next
    have g8 : pLd (.ptr l5 8) h1 = some v' := pLd_get hev rfl
    have i1 : pIx 1 (.slice t8 0 (ts ++ ns).length) (.int .i64 (ts'.length : Nat)) = some (.ptr t8 ts'.length) := by rw [pIx_slice _ _ _ _ _ _ (by omega)]; simp
    have w1 : wrapF .i64 ((ts'.length : Nat) + 1) = ((ts'.length + 1 : Nat) : Int) := by rw [wrapF_in (by simp only [inK]; omega)]; omega
    have w2 : wrapF .i64 ((ts'.length : Nat) + 2) = ((ts'.length + 2 : Nat) : Int) := by rw [wrapF_in (by simp only [inK]; omega)]; omega
    have i2 : pIx 1 (.slice t8 0 (ts ++ ns).length) (.int .i64 ((ts'.length + 1 : Nat) : Int)) = some (.ptr t8 (ts'.length + 1)) := by rw [pIx_slice _ _ _ _ _ _ (by rw [List.length_cons, List.length_cons] at hl2; omega)]; simp
    have d1 : pLd (.ptr t8 ts'.length) h1 = some (.int .i64 a) := pLd_get hg8 (by rw [hsp]; simp [intCells])
    have d2 : pLd (.ptr t8 (ts'.length + 1)) h1 = some (.int .i64 b') := pLd_get hg8 (by rw [hsp]; simp [intCells])
    have hbd : pBuild [(V.int .i64 0), (V.int .i64 0)] [(0, 1), (1, 1)] [(0, V.int .i64 a), (1, V.int .i64 b')] = some (.agg [.int .i64 a, .int .i64 b']) := rfl
    have hbs : pBS 60 2 1 (V.agg [(V.int .i64 0), (V.int .i64 0)]) [(0, V.agg [.int .i64 a, .int .i64 b'])] = some (.cells 60 2 true false [.int .i64 a, .int .i64 b'], fun l => .slice l 0 1) := rfl
    simp only [pFA_ptr, oP_some', Nat.zero_add, Nat.reduceAdd, g8, i1, d1, hbin_add, w1, i2, d2, hbd, hbs, alO_some]
    have hg3 : Grows h1 (h1.new (.cells 60 2 true false [.int .i64 a, .int .i64 b'])) := Chg.new _ _
    obtain ⟨v3, h3, c1, c2, c3, c4, c5⟩ := (hown.chg hg3 fun _ _ _ h => h).append (by_ := 16) (xcells_new (k := 0) (sz := 2) (e := 60) (h := h1) (cs := [.int .i64 a, .int .i64 b']) (ro := false) rfl) (by omega) rfl (tyCells_one _) rfl (by simp; omega) (by omega) (by omega) (by omega)
    have k8 : pLd (.ptr l5 8) (h1.new (.cells 60 2 true false [.int .i64 a, .int .i64 b'])) = some v' := pLd_get (by rw [get_new_lt _ h5n]; exact hev) rfl
    have k1 : pLd (.ptr t8 ts'.length) (h1.new (.cells 60 2 true false [.int .i64 a, .int .i64 b'])) = some (.int .i64 a) := pLd_get (by rw [get_new_lt _ gt8n]; exact hg8) (by rw [hsp]; simp [intCells])
    have k2 : pLd (.ptr t8 (ts'.length + 1)) (h1.new (.cells 60 2 true false [.int .i64 a, .int .i64 b'])) = some (.int .i64 b') := pLd_get (by rw [get_new_lt _ gt8n]; exact hg8) (by rw [hsp]; simp [intCells])
    have vne : ∀ m, v' = .slice m 0 e'.ty.length → l5 < m ∧ m ≠ t8 := fun m e9 => by
      refine ⟨?_, hvt m _ e9⟩
      rcases hown with ⟨h9, _⟩ | ⟨t, h9, ht, _⟩
      · rw [e9] at h9; cases h9
      · rw [e9] at h9; cases h9; omega
    have hev3 : h3.get l5 = some (.cells 26 1 true false (evCells e' v')) := by
      rw [c3.keep l5 (by simp; omega) (fun e9 => by have := (vne _ e9).1; omega), get_new_lt _ (by omega)]
      exact hev
    have h3g8 : h3.get t8 = some (.cells 3 1 true false (intCells (ts ++ ns))) := by
      rw [c3.keep t8 (by simp; omega) (fun e9 => (vne _ e9).2 rfl), get_new_lt _ gt8n]
      exact hg8
    have l5n3 : l5 < h3.next := by rw [c4]; simp; omega
    have s1 := pSt_at (o := 8) (v := v3) hev3 (by simp [evCells]) (by rw [c5]; rfl)
    have hset : (evCells e' v').set 8 v3 = evCells { e' with ty := e'.ty ++ [(a, b')] } v3 := rfl
    rw [hset] at s1
    have hput : Chg (fun m => m = l5) h3 (h3.put l5 (.cells 26 1 true false (evCells { e' with ty := e'.ty ++ [(a, b')] } v3))) := Chg.put _ rfl l5n3
    have hc13 : Chg (fun m => l5 ≤ m) h1 h3 := (hg3.weak : Chg (fun m => l5 ≤ m) _ _).trans' c3 fun m hm e9 => by
      have := (vne _ e9).1
      show l5 ≤ m; omega
    have hc14 := hc13.trans (hput.weak fun m _ e => by show l5 ≤ m; omega)
    have hps' : ∃ ps', Tx.pairs r = some ps' ∧ ps = (a, b') :: ps' := by
      rw [pairs_cons2] at hps
      obtain ⟨p', h1, h2⟩ := Option.map_eq_some_iff.1 hps
      exact ⟨p', h1, h2.symm⟩
    obtain ⟨ps', hp1', rfl⟩ := hps'
    refine ⟨⟨get_new_self _ _, O.beq_cells _ _ _ _ _⟩, k2, k1, k8, ?_⟩
    simp only [c1, valP_some]
    refine ⟨by rw [c4]; exact Nat.le_succ _, ?_⟩
    simp only [s1, valP_some]
    refine ⟨Nat.le_refl _, ?_⟩
    simp only [w2, oP_some']
    refine ⟨r.length, by simp only [List.length_cons]; omega, ts' ++ [a, b'], r, { e' with ty := e'.ty ++ [(a, b')] }, v3, rfl, by trivial, by trivial, by trivial, by simp, by rw [hsp]; simp, ⟨get_put_self _ l5n3, h25, l5n3, ⟨cs, ?_, hcs⟩, ?_, ?_⟩, ?_, ?_, fun n hn => hin n (by simp [hn]), ⟨ps', hp1', by rw [hout]; simp⟩, by simp; omega, hch.trans (hc14.weak fun m _ e => .inr e)⟩
    · rw [hput.keep l2 (by omega) (by omega), c3.keep l2 (by simp; omega) (fun e9 => by have := (vne _ e9).1; omega), get_new_lt _ (by omega)]
      exact hres
    · have hty : tyCells (e'.ty ++ [(a, b')]) = tyCells e'.ty ++ [.int .i64 a, .int .i64 b'] := by rw [tyCells_append]; rfl
      have hl : (e'.ty ++ [(a, b')]).length = e'.ty.length + (0 + 1) := by simp
      show Own 60 2 (l5 + 1) _ (tyCells (e'.ty ++ [(a, b')])) (e'.ty ++ [(a, b')]).length v3
      rw [hty, hl]
      exact c2.chg hput fun m hm _ e9 => by omega
    · intro x hx
      rcases List.mem_append.1 hx with hx | hx
      · exact htin x hx
      · obtain rfl : x = (a, b') := by simpa using hx
        exact ⟨hin a (by simp), hin b' (by simp)⟩
    · rw [hput.keep t8 (by rw [c4]; simp; omega) (by omega)]; exact h3g8
    · intro t n e9
      rw [c5] at e9
      cases e9
      simp; omega
  · rename_i hge
    have : ns' = [] := List.eq_nil_of_length_eq_zero (by omega)
    subst this
    have : ps = [] := by simpa [Tx.pairs] using hps.symm
    subst this
    have hoe : out = e' := by rw [hout]; simp
    subst hoe
    exact pR_end hp1' fun v2 h2 hc2 hsl => H v2 h2 (hch.trans (hc2.weak fun m _ e => .inl e)) hsl
theorem names_get : ∀ i, i < 7 → Tx.names[i]? = some (Tx.nameOf (i + 1)) := by
  intro i hi
  have : i = 0 ∨ i = 1 ∨ i = 2 ∨ i = 3 ∨ i = 4 ∨ i = 5 ∨ i = 6 := by omega
  rcases this with h | h | h | h | h | h | h <;> subst h <;> rfl
theorem readAll_cons (w : Tx.Bs) (r : List Tx.Bs) : Tx.readAll (w :: r) = (Tx.pInt w).bind fun n => (Tx.readAll r).map (n :: ·) := by
  cases h : Tx.pInt w <;> simp [Tx.readAll, h]
theorem readAll_in : ∀ {ws : List Tx.Bs} {ns : List Int}, Tx.readAll ws = some ns → ∀ n ∈ ns, inK .i64 n := by
  intro ws ns h n hn
  have := (Tx.itoa_readAll h).2
  have := List.all_eq_true.1 this n hn
  simp only [Tx.fits, Bool.and_eq_true, decide_eq_true_eq] at this
  simp only [inK]; omega
theorem pairs_odd : ∀ (l : List Int), l.length % 2 = 1 → Tx.pairs l = none
  | [], h => by simp at h
  | [_], _ => rfl
  | a :: b :: l, h => by
    have := pairs_odd l (by simp at h; omega)
    rw [pairs_cons2, this]; rfl
theorem pairs_even : ∀ (l : List Int), l.length % 2 = 0 → ∃ ps, Tx.pairs l = some ps ∧ ps.length * 2 = l.length
  | [], _ => ⟨[], rfl, rfl⟩
  | [_], h => by simp at h
  | a :: b :: l, h => by
    obtain ⟨ps, h1, h2⟩ := pairs_even l (by simp at h; omega)
    exact ⟨(a, b) :: ps, by rw [pairs_cons2, h1]; rfl, by simp; omega⟩
theorem ct_Parse30 {s : Tx.Bs} {h : Hp} {Q : V → Hp → Prop} (hs : s.length < 1000000000)
    (H : ∀ v h', Grows h h' → SlR eT h'.next h' (parseR s).1.ty v → Q (.tuple [.agg (evCells (parseR s).1 v), .int .i64 (parseR s).2]) h') : cP CS n_turnstoneref30_Parse [.str s] h Q := by
  refine c_turnstoneref30_Parse rfl rfl ?_
  unfold B_turnstoneref30_Parse
  simp only [alP_some]
  refine ct_split30 hs fun v15 h2 hg2 hsl2 => ?_
  have hn2 : h.next + 1 ≤ h2.next := hg2.next
  obtain ⟨w0, ws, hsp⟩ : ∃ w0 ws, Tx.split 32 s = w0 :: ws := by
    cases hq : Tx.split 32 s with
    | nil => exact absurd hq (Tx.split_ne 32 s)
    | cons w ws => exact ⟨w, ws, rfl⟩
  obtain ⟨hsm, hcnt⟩ := split_small (c := 32) s
  rw [hsp] at hsl2 hsm hcnt
  have hR := parseR_eq hsp
  have b3 : pBuild [(V.int .i64 0), (V.int .i64 0), (V.int .i64 0), (V.int .i64 0), (V.int .i64 0), (V.int .i64 0), (V.int .i64 0), (V.int .i64 0), V.nilSlice] [(0, 1), (1, 1), (2, 1), (3, 1), (4, 5)] [] = some (.agg (evCells Tx.ev0 .nilSlice)) := rfl
  have s1 := pSt_all (ws := evCells Tx.ev0 .nilSlice) (n := 9) (get_new_self h2 (.cells 26 1 true false [(V.int .i64 0), (V.int .i64 0), (V.int .i64 0), (V.int .i64 0), (V.int .i64 0), (V.int .i64 0), (V.int .i64 0), (V.int .i64 0), V.nilSlice])) rfl rfl rfl
  simp only [b3, oP_some', alP_some, s1, valP_some]
  have l5n : h2.next < (h2.new (.cells 26 1 true false [(V.int .i64 0), (V.int .i64 0), (V.int .i64 0), (V.int .i64 0), (V.int .i64 0), (V.int .i64 0), (V.int .i64 0), (V.int .i64 0), V.nilSlice])).next := by simp
  generalize hh3 : h2.new (.cells 26 1 true false [(V.int .i64 0), (V.int .i64 0), (V.int .i64 0), (V.int .i64 0), (V.int .i64 0), (V.int .i64 0), (V.int .i64 0), (V.int .i64 0), V.nilSlice]) = h3 at *
  have hg3 : Grows h2 h3 := by rw [← hh3]; exact Chg.new _ _
  have hn3 : h3.next = h2.next + 1 := by rw [← hh3]; rfl
  have hput : Chg (fun m => m = h2.next) h3 (h3.put h2.next (.cells 26 1 true false (evCells Tx.ev0 .nilSlice))) := Chg.put _ rfl l5n
  have hev : (h3.put h2.next (.cells 26 1 true false (evCells Tx.ev0 .nilSlice))).get h2.next = some (.cells 26 1 true false (evCells Tx.ev0 .nilSlice)) := get_put_self _ l5n
  have hn4 : (h3.put h2.next (.cells 26 1 true false (evCells Tx.ev0 .nilSlice))).next = h3.next := rfl
  generalize h3.put h2.next (.cells 26 1 true false (evCells Tx.ev0 .nilSlice)) = h4 at *
  refine ct_Names ?_
  have hg5 : Grows h4 (h4.new (.cells 9 1 true false (strs Tx.names))) := Chg.new _ _
  have hnm : (h4.new (.cells 9 1 true false (strs Tx.names))).get h4.next = some (.cells 9 1 true false (strs Tx.names)) := get_new_self _ _
  have hn5 : (h4.new (.cells 9 1 true false (strs Tx.names))).next = h4.next + 1 := rfl
  generalize h4.new (.cells 9 1 true false (strs Tx.names)) = h5 at *
  have hG : Grows h h5 := grows_trans (grows_trans (grows_trans (grows_trans (Chg.new _ _ : Grows h _) hg2 fun _ _ h => h) hg3 fun _ _ h => h) hput fun l hl e => by omega) hg5 fun _ _ h => h
  have hP : PR h.next h2.next h5 Tx.ev0 .nilSlice := by
    refine ⟨by rw [hg5.keep _ (by omega) (fun h => h)]; exact hev, by omega, by omega, ⟨[(V.int .i64 0), (V.int .i64 0), (V.int .i64 0), (V.int .i64 0), (V.int .i64 0), (V.int .i64 0), (V.int .i64 0), (V.int .i64 0), V.nilSlice], ?_, rfl⟩, Own.nil, fun x hx => by cases hx⟩
    rw [hg5.keep _ (by omega) (fun h => h), hput.keep _ (by omega) (by omega), hg3.keep _ (by omega) (fun h => h), hg2.keep _ (by simp) (fun h => h)]
    exact get_new_self _ _
  have hsl5 : SlR eS h2.next h5 (w0 :: ws) v15 := hsl2.keep fun m hm => by rw [hg5.keep m (by omega) (fun h => h), hput.keep m (by omega) (by omega), hg3.keep m (by omega) (fun h => h)]
  -- the kind
  refine l_turnstoneref30_Parse_L0 (fun k x2 x4 x5 x6 x7 h' => ∃ i : Nat, i ≤ 7 ∧ k = 7 - i ∧ x2 = .ptr h.next 0 ∧ x4 = v15 ∧ x5 = .ptr h2.next 0 ∧ x6 = .slice h4.next 0 7 ∧ x7 = .int .i64 (i : Nat) ∧ Grows h h' ∧ h'.get h4.next = some (.cells 9 1 true false (strs Tx.names)) ∧ SlR eS h2.next h' (w0 :: ws) v15 ∧ h4.next < h'.next ∧
    PR h.next h2.next h' { Tx.ev0 with kind := if Tx.kindOf w0 ≤ i then ((Tx.kindOf w0 : Nat) : Int) else 0 } .nilSlice) ?_ ⟨0, Nat.zero_le _, rfl, rfl, rfl, rfl, rfl, rfl, hG, hnm, hsl5, by omega, by
      have : (if Tx.kindOf w0 ≤ 0 then ((Tx.kindOf w0 : Nat) : Int) else 0) = 0 := by split <;> omega
      rw [this]; exact hP⟩
  clear hP hG hsl5 hnm hsl2
  rintro k x2 x4 x5 x6 x7 h6 ⟨i, hi, rfl, rfl, rfl, rfl, rfl, rfl, hG, hnm, hsl, h46, hP⟩
  unfold B_turnstoneref30_Parse_L0
  simp only [pLen_slice, oP_some', hbin_lss, bP_bool', decide_eq_true_eq]
  have hK := Tx.kindOf_le w0
  have w1 : wrapF .i64 ((i : Nat) + 1) = ((i + 1 : Nat) : Int) := by rw [wrapF_in (by simp only [inK]; omega)]; omega
  split
  · rename_i hlt
    have hi7 : i < 7 := by omega
    obtain ⟨l1, o1, u, g1, g2, g3, g4⟩ := hsl.ix1 (i := 0) (by simp) .i64 rfl
    obtain rfl : u = .str w0 := by
      have : [u] = [V.str w0] := g4
      simpa using this
    have g2' : pIx 1 x4 (.int .i64 0) = some (.ptr l1 o1) := g2
    have g5 : pIx 1 (.slice h4.next 0 7) (.int .i64 (i : Nat)) = some (.ptr h4.next i) := by rw [pIx_slice _ _ _ _ _ _ hi7]; simp
    have g6 : pLd (.ptr h4.next i) h6 = some (.str (Tx.nameOf (i + 1))) := pLd_get hnm (by unfold strs; rw [List.getElem?_map, names_get i hi7]; rfl)
    simp only [g2', oP_some', g3, g5, g6, hbin_eqlS, bP_bool', beq_iff_eq]
    split
    · rename_i he
      have hk1 : Tx.kindOf w0 = i + 1 := by rw [he]; exact Tx.kindOf_name (i + 1) (by omega) (by omega)
      have s2 := pSt_at (o := 0) (v := .int .i64 ((i + 1 : Nat) : Int)) hP.ev (by simp [evCells]) rfl
      rw [show (evCells { Tx.ev0 with kind := if Tx.kindOf w0 ≤ i then ((Tx.kindOf w0 : Nat) : Int) else 0 } .nilSlice).set 0 (.int .i64 ((i + 1 : Nat) : Int)) = evCells { Tx.ev0 with kind := ((i + 1 : Nat) : Int) } .nilSlice from rfl] at s2
      simp only [hbin_add, w1, oP_some', pFA_ptr, Nat.zero_add, s2, valP_some]
      refine j_turnstoneref30_Parse_R12 ?_
      unfold B_turnstoneref30_Parse_R12
      simp only [hbin_add, w1, oP_some']
      have hc : Chg (fun m => m = h2.next) h6 (h6.put h2.next (.cells 26 1 true false (evCells { Tx.ev0 with kind := ((i + 1 : Nat) : Int) } .nilSlice))) := Chg.put _ rfl hP.l5n
      refine ⟨7 - (i + 1), by omega, i + 1, by omega, rfl, by trivial, by trivial, by trivial, by trivial, by trivial, grows_trans hG hc fun l hl e => by have := hP.l25; omega, ?_, ?_, h46, ?_⟩
      · rw [hc.keep _ h46 (by omega)]
        exact hnm
      · exact hsl.keep fun m hm => hc.keep m (by have := hP.l5n; omega) (by omega)
      · have : (if Tx.kindOf w0 ≤ i + 1 then ((Tx.kindOf w0 : Nat) : Int) else 0) = ((i + 1 : Nat) : Int) := by rw [if_pos (by omega), hk1]
        rw [this]
        exact hP.set (e' := { Tx.ev0 with kind := ((i + 1 : Nat) : Int) }) rfl
    · rename_i he
      have hk1 : Tx.kindOf w0 ≠ i + 1 := fun e => he (by
        have := Tx.name_kindOf w0 (by omega)
        rw [e] at this; exact this.symm)
      refine j_turnstoneref30_Parse_R12 ?_
      unfold B_turnstoneref30_Parse_R12
      simp only [hbin_add, w1, oP_some']
      refine ⟨7 - (i + 1), by omega, i + 1, by omega, rfl, by trivial, by trivial, by trivial, by trivial, by trivial, hG, hnm, hsl, h46, ?_⟩
      have : (if Tx.kindOf w0 ≤ i + 1 then ((Tx.kindOf w0 : Nat) : Int) else 0) = (if Tx.kindOf w0 ≤ i then ((Tx.kindOf w0 : Nat) : Int) else 0) := by
        by_cases h1 : Tx.kindOf w0 ≤ i
        · rw [if_pos h1, if_pos (by omega)]
        · rw [if_neg h1, if_neg (by omega)]
      rw [this]
      exact hP
  · rename_i hge
    have : i = 7 := by omega
    subst this
    rw [if_pos hK] at hP
    clear hnm h46 w1 hge
    have h5n6 : h2.next < h6.next := hP.l5n
    generalize hKg : Tx.kindOf w0 = K at *
    -- the numbers
    refine l_turnstoneref30_Parse_L1 (fun k y2 y4 y5 y8 y9 h' => ∃ (a b : List Tx.Bs) (ns : List Int), w0 :: ws = a ++ b ∧ 1 ≤ a.length ∧ k = b.length ∧ y2 = .ptr h.next 0 ∧ y4 = x4 ∧ y5 = .ptr h2.next 0 ∧ y9 = .int .i64 (a.length : Nat) ∧ ns.length ≤ a.length ∧ Tx.readAll ws = (Tx.readAll b).map (ns ++ ·) ∧ Grows h h' ∧ h6.next ≤ h'.next ∧
      SlR eS h2.next h' (w0 :: ws) x4 ∧ Own 3 1 h6.next h' (intCells ns) ns.length y8 ∧ PR h.next h2.next h' { Tx.ev0 with kind := (K : Nat) } .nilSlice) ?_ ⟨[w0], ws, [], rfl, by simp, rfl, rfl, rfl, rfl, rfl, by simp, by cases Tx.readAll ws <;> simp, hG, Nat.le_refl _, hsl, Own.nil, hP⟩
    clear hP hG hsl
    rintro k y2 y4 y5 y8 y9 h7 ⟨a, b, ns, hab, ha1, rfl, rfl, rfl, rfl, rfl, hna, hrd, hG, h67, hsl, hown, hP⟩
    unfold B_turnstoneref30_Parse_L1
    have hlab : (w0 :: ws).length = a.length + b.length := by rw [hab]; simp
    simp only [hsl.len, oP_some', hbin_lss, bP_bool', decide_eq_true_eq]
    have hbound : a.length ≤ 2000000000 := by simp only [List.length_cons] at hlab hcnt; omega
    split
    · rename_i hlt
      obtain ⟨w, r, rfl⟩ : ∃ w r, b = w :: r := by
        cases b with
        | nil => rw [List.length_nil] at hlab; omega
        | cons w r => exact ⟨w, r, rfl⟩
      obtain ⟨l1, o1, u, g1, g2, g3, g4⟩ := hsl.ix1 (i := a.length) (by omega) .i64 rfl
      obtain rfl : u = .str w := by
        have h1 : [u] = [V.str (w0 :: ws)[a.length]] := g4
        have h2 : (w0 :: ws)[a.length] = w := by simp only [hab]; simp
        rw [h2] at h1
        simpa using h1
      simp only [g2, oP_some', g3]
      refine ct_number30 (by have := hsm w (by rw [hab]; simp); omega) fun v hv => ?_
      simp only [pExt_tuple, at1_zero, at1_succ, oP_some', hun_not, bP_bool']
      rw [readAll_cons] at hrd
      cases hp : Tx.pInt w with
      | none =>
        rw [hp] at hrd
        simp only [Option.isSome_none, Bool.not_false, if_true]
        obtain ⟨cs, hr1, hr2⟩ := hP.res
        refine pR_bad (K := fun h' r => Q (V.tuple [r, (V.int .i64 5)]) h') hr1 hr2 (by have := hP.l25; have := hP.l5n; omega) fun h' hc => ?_
        have hz : restR K ws = (Tx.ev0, 5) := by unfold restR; rw [hrd]; rfl
        rw [hR, hz] at H
        exact H .nilSlice _ (grows_trans hG hc fun l hl e => by omega) SlR.nil
      | some n =>
        rw [hp] at hrd hv
        obtain rfl := hv n rfl
        simp only [Option.isSome_some, Bool.not_true, Bool.false_eq_true, if_false]
        have hbs : pBS 3 1 1 (V.int .i64 0) [(0, V.int .i64 v)] = some (.cells 3 1 true false [.int .i64 v], fun l => .slice l 0 1) := rfl
        simp only [hbs, alP_some]
        have hg8 : Grows h7 (h7.new (.cells 3 1 true false [.int .i64 v])) := Chg.new _ _
        obtain ⟨v3, h8, c1, c2, c3, c4, c5⟩ := (hown.chg hg8 fun _ _ _ h => h).append (by_ := 8) (xcells_new (k := 0) (sz := 1) (e := 3) (h := h7) (cs := [.int .i64 v]) (ro := false) rfl) (by omega) rfl (intCells_one _) rfl (by simp; omega) (by omega) (by omega) (by omega)
        have w2 : wrapF .i64 ((a.length : Nat) + 1) = ((a.length + 1 : Nat) : Int) := by rw [wrapF_in (by simp only [inK]; omega)]; omega
        simp only [c1, valP_some, hbin_add, w2, oP_some']
        have hrow : ∀ m, y8 = .slice m 0 ns.length → h6.next ≤ m := fun m e9 => by
          rcases hown with ⟨h9, _⟩ | ⟨t, h9, ht, _⟩
          · rw [e9] at h9; cases h9
          · rw [e9] at h9; cases h9; exact ht
        have hc78 : Chg (fun m => h6.next ≤ m) h7 h8 := (hg8.weak : Chg (fun m => h6.next ≤ m) _ _).trans' c3 fun m hm e9 => hrow m e9
        have h25 := hP.l25
        refine ⟨r.length, by simp, a ++ [w], r, ns ++ [v], by rw [hab]; simp, by simp, rfl, by trivial, by trivial, by trivial, by simp, by simp; omega, ?_, grows_trans hG hc78 fun l hl e => by omega, by have := hc78.next; omega, hsl.keep fun m hm => hc78.keep m (by omega) (by omega), ?_, ?_⟩
        · rw [hrd]
          cases Tx.readAll r <;> simp
        · have : intCells (ns ++ [v]) = intCells ns ++ [.int .i64 v] := by simp [intCells]
          rw [this]
          have : (ns ++ [v]).length = ns.length + (0 + 1) := by simp
          rw [this]
          exact c2
        · obtain ⟨q1, q2, q3, ⟨cs, q4, q5⟩, q6, q7⟩ := hP
          exact ⟨by rw [hc78.keep _ q3 (by omega)]; exact q1, q2, by have := hc78.next; omega, ⟨cs, by rw [hc78.keep _ (by omega) (by omega)]; exact q4, q5⟩, Own.nil, fun x hx => by cases hx⟩
    · rename_i hge
      have : b = [] := List.eq_nil_of_length_eq_zero (by omega)
      subst this
      have hrs : Tx.readAll ws = some ns := by rw [hrd]; simp [Tx.readAll]
      have hRr : parseR s = toR (Tx.evOf K ns) := by rw [hR]; unfold restR; rw [hrs]; rfl
      have hsh := readAll_in hrs
      clear hrd hsl hab hlab hsm hcnt hge hbound hna ha1
      have gk : pLd (.ptr h2.next 0) h7 = some (.int .i64 (K : Nat)) := pLd_get hP.ev rfl
      have b9 : pBuildA 1 [(V.int .i64 0), (V.int .i64 0), (V.int .i64 0), (V.int .i64 0), (V.int .i64 0), (V.int .i64 0), (V.int .i64 0), (V.int .i64 0)] [(0, (V.int .i64 (-1))), (1, (V.int .i64 1)), (2, (V.int .i64 2)), (3, (V.int .i64 1)), (4, (V.int .i64 2)), (5, (V.int .i64 1)), (6, (V.int .i64 4)), (7, (V.int .i64 1))] =
        some (.agg [(V.int .i64 (-1)), (V.int .i64 1), (V.int .i64 2), (V.int .i64 1), (V.int .i64 2), (V.int .i64 1), (V.int .i64 4), (V.int .i64 1)]) := rfl
      obtain ⟨cs, hr1, hr2⟩ := hP.res
      have l2n : h.next < h7.next := by have := hP.l25; have := hP.l5n; omega
      have hbad : Tx.evOf K ns = none → oP (pBuild [(V.int .i64 0), (V.int .i64 0), (V.int .i64 0), (V.int .i64 0), (V.int .i64 0), (V.int .i64 0), (V.int .i64 0), (V.int .i64 0), V.nilSlice] [(0, 1), (1, 1), (2, 1), (3, 1), (4, 5)] []) fun v90 =>
          valP (pSt 9 (.ptr h.next 0) v90 h7) fun _ h5 => oP (pLdA 9 (.ptr h.next 0) h5) fun r2 => Q (V.tuple [r2, (V.int .i64 5)]) h5 := by
        intro hno
        refine pR_bad (K := fun h' r => Q (V.tuple [r, (V.int .i64 5)]) h') hr1 hr2 l2n fun h' hc => ?_
        rw [hRr, hno] at H
        exact H .nilSlice _ (grows_trans hG hc fun l hl e => by omega) SlR.nil
      have hgood : ∀ {h8 : Hp} {e' : Tx.Ev}, Tx.evOf K ns = some e' → Chg (fun m => m = h2.next) h7 h8 → PR h.next h2.next h8 e' .nilSlice → J_turnstoneref30_Parse_R22 CS Q (.ptr h.next 0) (.ptr h2.next 0) h8 := by
        intro h8 e' he hc hp
        refine pR_end hp fun v' h9 hc9 hsl9 => ?_
        rw [hRr, he] at H
        exact H v' h9 (grows_trans (grows_trans hG hc fun l hl e => by omega) hc9 fun l hl e => by omega) hsl9
      have q (a b : Int) : hbin .eql 3 (.int .i64 a) (.int .i64 b) = some (.bool (a == b)) := hbin_eql 3 .i64 a b
      have q2 (a b : Int) : hbin .neq 3 (.int .i64 a) (.int .i64 b) = some (.bool (a != b)) := hbin_neq 3 .i64 a b
      have hput7 : ∀ o, Chg (fun m => m = h2.next) h7 (h7.put h2.next o) := fun o => Chg.put _ rfl hP.l5n
      -- one number, at a place
      have one : ∀ (o : Nat) (e' : Tx.Ev) (a : Int), ns = [a] → o < 9 → (evCells { Tx.ev0 with kind := (K : Nat) } .nilSlice).set o (.int .i64 a) = evCells e' .nilSlice → e'.ty = [] → Tx.evOf K ns = some e' →
          oP (pIx 1 y8 (V.int .i64 0)) fun v135 => oP (pLd v135 h7) fun v136 => valP (pSt 1 (.ptr h2.next o) v136 h7) fun _ h1 => J_turnstoneref30_Parse_R22 CS Q (.ptr h.next 0) (.ptr h2.next 0) h1 := by
        intro o e' a hns ho hset hty he
        obtain ⟨l1, o1, _, _, g1, g2⟩ := own_int hown (i := 0) (by rw [hns]; simp)
        have g1' : pIx 1 y8 (V.int .i64 0) = some (.ptr l1 o1) := g1
        have hn0 : ns[0]'(by rw [hns]; simp) = a := by simp [hns]
        rw [hn0] at g2
        have s3 := pSt_at (o := o) (v := .int .i64 a) hP.ev (by simpa [evCells] using ho) rfl
        rw [hset] at s3
        simp only [g1', oP_some', g2, s3, valP_some]
        exact hgood he (hput7 _) (hP.set (e' := e') hty)
      have two : ∀ (e' : Tx.Ev) (a b : Int), ns = [a, b] → e' = { Tx.ev0 with kind := (K : Nat), f := a, pc := b } → Tx.evOf K ns = some e' →
          oP (pIx 1 y8 (V.int .i64 0)) fun v142 => oP (pLd v142 h7) fun v143 => valP (pSt 1 (.ptr h2.next 1) v143 h7) fun _ h1 => oP (pIx 1 y8 (V.int .i64 1)) fun v146 => oP (pLd v146 h1) fun v147 =>
            valP (pSt 1 (.ptr h2.next 2) v147 h1) fun _ h2_1 => J_turnstoneref30_Parse_R22 CS Q (.ptr h.next 0) (.ptr h2.next 0) h2_1 := by
        intro e' a b hns he' he
        obtain ⟨l1, o1, _, _, g1, g2⟩ := own_int hown (i := 0) (by rw [hns]; simp)
        have g1' : pIx 1 y8 (V.int .i64 0) = some (.ptr l1 o1) := g1
        have hn0 : ns[0]'(by rw [hns]; simp) = a := by simp [hns]
        rw [hn0] at g2
        have s3 := pSt_at (o := 1) (v := .int .i64 a) hP.ev (by simp [evCells]) rfl
        rw [show (evCells { Tx.ev0 with kind := (K : Nat) } .nilSlice).set 1 (.int .i64 a) = evCells { Tx.ev0 with kind := (K : Nat), f := a } .nilSlice from rfl] at s3
        have hP2 := hP.set (e' := { Tx.ev0 with kind := (K : Nat), f := a }) rfl
        have hc1 := hput7 (.cells 26 1 true false (evCells { Tx.ev0 with kind := (K : Nat), f := a } .nilSlice))
        generalize h7.put h2.next (.cells 26 1 true false (evCells { Tx.ev0 with kind := (K : Nat), f := a } .nilSlice)) = h8 at *
        have hown8 := hown.chg hc1 fun l hl _ e => by omega
        obtain ⟨l3, o3, _, _, g3, g4⟩ := own_int hown8 (i := 1) (by rw [hns]; simp)
        have g3' : pIx 1 y8 (V.int .i64 1) = some (.ptr l3 o3) := g3
        have hn1 : ns[1]'(by rw [hns]; simp) = b := by simp [hns]
        rw [hn1] at g4
        have s4 := pSt_at (o := 2) (v := .int .i64 b) hP2.ev (by simp [evCells]) rfl
        rw [show (evCells { Tx.ev0 with kind := (K : Nat), f := a } .nilSlice).set 2 (.int .i64 b) = evCells { Tx.ev0 with kind := (K : Nat), f := a, pc := b } .nilSlice from rfl] at s4
        simp only [g1', oP_some', g2, s3, valP_some, g3', g4, s4]
        subst he'
        exact hgood he (hc1.trans (Chg.put _ rfl hP2.l5n)) (hP2.set rfl)
      simp only [b9, oP_some', pFA_ptr, Nat.zero_add, gk]
      have hcase : K = 0 ∨ K = 1 ∨ K = 2 ∨ K = 3 ∨ K = 4 ∨ K = 5 ∨ K = 6 ∨ K = 7 := by omega
      clear hK hKg
      have lenNe : ∀ m : Nat, (((ns.length : Nat) : Int) != (m : Int)) = true → ns.length ≠ m := fun m hm e => by rw [e] at hm; simp at hm
      have lenEq : ∀ m : Nat, ¬ (((ns.length : Nat) : Int) != (m : Int)) = true → ns.length = m := fun m hm => by
        simp only [bne_iff_ne, ne_eq, Decidable.not_not] at hm; omega
      rcases hcase with rfl | rfl | rfl | rfl | rfl | rfl | rfl | rfl
      · have b10 : pIdx 8 1 (.agg [(V.int .i64 (-1)), (V.int .i64 1), (V.int .i64 2), (V.int .i64 1), (V.int .i64 2), (V.int .i64 1), (V.int .i64 4), (V.int .i64 1)]) (.int .i64 ((0 : Nat) : Int)) = some (.int .i64 (-1)) := rfl
        simp (config := { decide := true }) only [b10, oP_some', q, pOr_true, bP_bool', if_true]
        exact hbad (Tx.evOf_zero _)
      · have b10 : pIdx 8 1 (.agg [(V.int .i64 (-1)), (V.int .i64 1), (V.int .i64 2), (V.int .i64 1), (V.int .i64 2), (V.int .i64 1), (V.int .i64 4), (V.int .i64 1)]) (.int .i64 ((1 : Nat) : Int)) = some (.int .i64 ((1 : Nat) : Int)) := rfl
        have e0 : ((((1 : Nat) : Int)) == 0) = false := rfl
        have e6 : ((((1 : Nat) : Int)) != 6) = true := rfl
        simp (config := { decide := true }) only [b10, oP_some', q, e0, e6, pOr_false, oB_some', hown.len, q2, gk, pFA_ptr, Nat.zero_add, pOr_true, pAnd_bool, Bool.and_true, bP_bool', if_true, if_false]
        split
        · rename_i hl
          have := lenNe 1 hl
          refine hbad ?_
          match ns, this with
          | [], _ => rfl
          | [_], h => exact absurd rfl h
          | _ :: _ :: _, _ => rfl
        · rename_i hl
          have := lenEq 1 hl
          obtain ⟨a, rfl⟩ : ∃ a, ns = [a] := by
            match ns, this with
            | [a], _ => exact ⟨a, rfl⟩
          refine j_turnstoneref30_Parse_R26 ?_
          unfold B_turnstoneref30_Parse_R26
          simp only [bP_bool', if_true, pFA_ptr, oP_some', Nat.zero_add]
          exact one 3 { Tx.ev0 with kind := 1, n := a } a rfl (by omega) rfl rfl rfl
      · have b10 : pIdx 8 1 (.agg [(V.int .i64 (-1)), (V.int .i64 1), (V.int .i64 2), (V.int .i64 1), (V.int .i64 2), (V.int .i64 1), (V.int .i64 4), (V.int .i64 1)]) (.int .i64 ((2 : Nat) : Int)) = some (.int .i64 ((2 : Nat) : Int)) := rfl
        have e0 : ((((2 : Nat) : Int)) == 0) = false := rfl
        have e6 : ((((2 : Nat) : Int)) != 6) = true := rfl
        simp (config := { decide := true }) only [b10, oP_some', q, e0, e6, pOr_false, oB_some', hown.len, q2, gk, pFA_ptr, Nat.zero_add, pOr_true, pAnd_bool, Bool.and_true, bP_bool', if_true, if_false]
        split
        · rename_i hl
          have := lenNe 2 hl
          refine hbad ?_
          match ns, this with
          | [], _ => rfl
          | [_], _ => rfl
          | [_, _], h => exact absurd rfl h
          | _ :: _ :: _ :: _, _ => rfl
        · rename_i hl
          have := lenEq 2 hl
          obtain ⟨a, b, rfl⟩ : ∃ a b, ns = [a, b] := by
            match ns, this with
            | [a, b], _ => exact ⟨a, b, rfl⟩
          refine j_turnstoneref30_Parse_R26 ?_
          unfold B_turnstoneref30_Parse_R26
          simp (config := { decide := true }) only [oP_some', q, bP_bool', if_true, if_false]
          refine j_turnstoneref30_Parse_R31 ?_
          unfold B_turnstoneref30_Parse_R31
          simp only [bP_bool', if_true, pFA_ptr, oP_some', Nat.zero_add]
          exact two _ a b rfl rfl rfl
      · have b10 : pIdx 8 1 (.agg [(V.int .i64 (-1)), (V.int .i64 1), (V.int .i64 2), (V.int .i64 1), (V.int .i64 2), (V.int .i64 1), (V.int .i64 4), (V.int .i64 1)]) (.int .i64 ((3 : Nat) : Int)) = some (.int .i64 ((1 : Nat) : Int)) := rfl
        have e0 : ((((3 : Nat) : Int)) == 0) = false := rfl
        have e6 : ((((3 : Nat) : Int)) != 6) = true := rfl
        simp (config := { decide := true }) only [b10, oP_some', q, e0, e6, pOr_false, oB_some', hown.len, q2, gk, pFA_ptr, Nat.zero_add, pOr_true, pAnd_bool, Bool.and_true, bP_bool', if_true, if_false]
        split
        · rename_i hl
          have := lenNe 1 hl
          refine hbad ?_
          match ns, this with
          | [], _ => rfl
          | [_], h => exact absurd rfl h
          | _ :: _ :: _, _ => rfl
        · rename_i hl
          have := lenEq 1 hl
          obtain ⟨a, rfl⟩ : ∃ a, ns = [a] := by
            match ns, this with
            | [a], _ => exact ⟨a, rfl⟩
          refine j_turnstoneref30_Parse_R26 ?_
          unfold B_turnstoneref30_Parse_R26
          simp only [bP_bool', if_true, pFA_ptr, oP_some', Nat.zero_add]
          exact one 3 { Tx.ev0 with kind := 3, n := a } a rfl (by omega) rfl rfl rfl
      · have b10 : pIdx 8 1 (.agg [(V.int .i64 (-1)), (V.int .i64 1), (V.int .i64 2), (V.int .i64 1), (V.int .i64 2), (V.int .i64 1), (V.int .i64 4), (V.int .i64 1)]) (.int .i64 ((4 : Nat) : Int)) = some (.int .i64 ((2 : Nat) : Int)) := rfl
        have e0 : ((((4 : Nat) : Int)) == 0) = false := rfl
        have e6 : ((((4 : Nat) : Int)) != 6) = true := rfl
        simp (config := { decide := true }) only [b10, oP_some', q, e0, e6, pOr_false, oB_some', hown.len, q2, gk, pFA_ptr, Nat.zero_add, pOr_true, pAnd_bool, Bool.and_true, bP_bool', if_true, if_false]
        split
        · rename_i hl
          have := lenNe 2 hl
          refine hbad ?_
          match ns, this with
          | [], _ => rfl
          | [_], _ => rfl
          | [_, _], h => exact absurd rfl h
          | _ :: _ :: _ :: _, _ => rfl
        · rename_i hl
          have := lenEq 2 hl
          obtain ⟨a, b, rfl⟩ : ∃ a b, ns = [a, b] := by
            match ns, this with
            | [a, b], _ => exact ⟨a, b, rfl⟩
          refine j_turnstoneref30_Parse_R26 ?_
          unfold B_turnstoneref30_Parse_R26
          simp (config := { decide := true }) only [oP_some', q, bP_bool', if_true, if_false]
          refine j_turnstoneref30_Parse_R31 ?_
          unfold B_turnstoneref30_Parse_R31
          simp only [bP_bool', if_true, pFA_ptr, oP_some', Nat.zero_add]
          exact two _ a b rfl rfl rfl
      · have b10 : pIdx 8 1 (.agg [(V.int .i64 (-1)), (V.int .i64 1), (V.int .i64 2), (V.int .i64 1), (V.int .i64 2), (V.int .i64 1), (V.int .i64 4), (V.int .i64 1)]) (.int .i64 ((5 : Nat) : Int)) = some (.int .i64 ((1 : Nat) : Int)) := rfl
        have e0 : ((((5 : Nat) : Int)) == 0) = false := rfl
        have e6 : ((((5 : Nat) : Int)) != 6) = true := rfl
        simp (config := { decide := true }) only [b10, oP_some', q, e0, e6, pOr_false, oB_some', hown.len, q2, gk, pFA_ptr, Nat.zero_add, pOr_true, pAnd_bool, Bool.and_true, bP_bool', if_true, if_false]
        split
        · rename_i hl
          have := lenNe 1 hl
          refine hbad ?_
          match ns, this with
          | [], _ => rfl
          | [_], h => exact absurd rfl h
          | _ :: _ :: _, _ => rfl
        · rename_i hl
          have := lenEq 1 hl
          obtain ⟨a, rfl⟩ : ∃ a, ns = [a] := by
            match ns, this with
            | [a], _ => exact ⟨a, rfl⟩
          refine j_turnstoneref30_Parse_R26 ?_
          unfold B_turnstoneref30_Parse_R26
          simp (config := { decide := true }) only [oP_some', q, bP_bool', if_true, if_false]
          refine j_turnstoneref30_Parse_R31 ?_
          unfold B_turnstoneref30_Parse_R31
          simp (config := { decide := true }) only [oP_some', q, bP_bool', if_true, if_false, pFA_ptr, Nat.zero_add]
          exact one 1 { Tx.ev0 with kind := 5, f := a } a rfl (by omega) rfl rfl rfl
      · have b10 : pIdx 8 1 (.agg [(V.int .i64 (-1)), (V.int .i64 1), (V.int .i64 2), (V.int .i64 1), (V.int .i64 2), (V.int .i64 1), (V.int .i64 4), (V.int .i64 1)]) (.int .i64 ((6 : Nat) : Int)) = some (.int .i64 ((4 : Nat) : Int)) := rfl
        have e0 : ((((6 : Nat) : Int)) == 0) = false := rfl
        have e6 : ((((6 : Nat) : Int)) != 6) = false := rfl
        have hrem : hbin .rem 3 (.int .i64 ((ns.length : Nat) : Int)) (.int .i64 2) = some (.int .i64 ((ns.length % 2 : Nat) : Int)) := by
          rw [hbin_rem _ _ _ _ (by omega)]
          rfl
        simp (config := { decide := true }) only [b10, oP_some', q, e0, e6, pOr_false, oB_some', hown.len, q2, gk, pFA_ptr, Nat.zero_add, hbin_lss, hbin_gtr, hrem, pOr_bool, pAnd_bool, Bool.false_or, bP_bool', if_true, if_false]
        have hev6 : ∀ a b c d l, Tx.evOf 6 (a :: b :: c :: d :: l) = match Tx.pairs l with
            | some ts => if ts.length ≤ 8 then some { mkC a b c d with ty := ts } else none
            | none => none := fun _ _ _ _ _ => rfl
        split
        · rename_i hl
          refine hbad ?_
          simp only [Bool.and_eq_true, Bool.or_eq_true, decide_eq_true_eq, bne_iff_ne, ne_eq, beq_iff_eq] at hl
          match ns, hl with
          | [], _ => rfl
          | [_], _ => rfl
          | [_, _], _ => rfl
          | [_, _, _], _ => rfl
          | a :: b :: c :: d :: l, hl =>
            rw [hev6]
            have hl' : l.length % 2 = 1 ∨ (l.length % 2 = 0 ∧ 16 < l.length) := by
              simp only [List.length_cons] at hl; omega
            rcases hl' with hl' | ⟨h0, h1⟩
            · rw [pairs_odd l hl']
            · obtain ⟨ps, h2, h3⟩ := pairs_even l h0
              rw [h2]
              simp only
              rw [if_neg (by omega)]
        · rename_i hl
          simp only [Bool.and_eq_true, Bool.or_eq_true, decide_eq_true_eq, bne_iff_ne, ne_eq, beq_iff_eq] at hl
          obtain ⟨a, b, c, d, l, rfl⟩ : ∃ a b c d l, ns = a :: b :: c :: d :: l := by
            match ns, hl with
            | [], hl => exact absurd ⟨by simp, by simp⟩ hl
            | [_], hl => exact absurd ⟨by simp, by simp⟩ hl
            | [_, _], hl => exact absurd ⟨by simp, by simp⟩ hl
            | [_, _, _], hl => exact absurd ⟨by simp, by simp⟩ hl
            | a :: b :: c :: d :: l, _ => exact ⟨a, b, c, d, l, rfl⟩
          simp only [List.length_cons] at hl
          obtain ⟨ps, hps, hpl⟩ := pairs_even l (by omega)
          have hps8 : ps.length ≤ 8 := by omega
          have hev : Tx.evOf 6 (a :: b :: c :: d :: l) = some { mkC a b c d with ty := ps } := by rw [hev6, hps]; simp only; rw [if_pos hps8]
          refine j_turnstoneref30_Parse_R26 ?_
          unfold B_turnstoneref30_Parse_R26
          simp (config := { decide := true }) only [oP_some', q, bP_bool', if_true, if_false]
          refine j_turnstoneref30_Parse_R31 ?_
          unfold B_turnstoneref30_Parse_R31
          obtain ⟨l1, o1, _, _, g1, g1'⟩ := own_int hown (i := 0) (by simp)
          obtain ⟨l2, o2, _, _, g2, g2'⟩ := own_int hown (i := 1) (by simp)
          obtain ⟨l3, o3, _, _, g3, g3'⟩ := own_int hown (i := 2) (by simp)
          obtain ⟨l4, o4, _, _, g4, g4'⟩ := own_int hown (i := 3) (by simp)
          have k1 : pIx 1 y8 (V.int .i64 0) = some (.ptr l1 o1) := g1
          have k2 : pIx 1 y8 (V.int .i64 1) = some (.ptr l2 o2) := g2
          have k3 : pIx 1 y8 (V.int .i64 2) = some (.ptr l3 o3) := g3
          have k4 : pIx 1 y8 (V.int .i64 3) = some (.ptr l4 o4) := g4
          simp only [List.getElem_cons_zero, List.getElem_cons_succ] at g1' g2' g3' g4'
          have bc : pBuild [(V.int .i64 0), (V.int .i64 0), (V.int .i64 0), (V.int .i64 0), V.nilSlice] [(0, 1), (1, 1), (2, 1), (3, 1), (4, 1)] [(0, V.int .i64 a), (1, V.int .i64 b), (2, V.int .i64 c), (3, V.int .i64 d)] = some (.agg [.int .i64 a, .int .i64 b, .int .i64 c, .int .i64 d, .nilSlice]) := rfl
          have s5 := pSt_in (o := 4) (n := 5) (ws := [.int .i64 a, .int .i64 b, .int .i64 c, .int .i64 d, .nilSlice]) hP.ev rfl (by rw [evCells_len]; decide) rfl
          rw [show (evCells { Tx.ev0 with kind := ((6 : Nat) : Int) } .nilSlice).take 4 ++ [V.int .i64 a, .int .i64 b, .int .i64 c, .int .i64 d, .nilSlice] ++ (evCells { Tx.ev0 with kind := ((6 : Nat) : Int) } .nilSlice).drop (4 + 5) = evCells (mkC a b c d) .nilSlice from rfl] at s5
          simp (config := { decide := true }) only [oP_some', q, bP_bool', if_true, if_false, k1, k2, k3, k4, g1', g2', g3', g4', bc, pFA_ptr, Nat.zero_add, s5, valP_some]
          refine ⟨Nat.le_refl _, ?_⟩
          refine pR_L2 (ns := l) (ts := [a, b, c, d]) (b := h6.next) (e := mkC a b c d) (out := { mkC a b c d with ty := ps }) (hP.set rfl) (hown.chg (hput7 _) fun m hm _ e => by omega) h5n6 rfl rfl (by simp; omega) (fun n hn => hsh n (by simp [hn])) ⟨ps, hps, by simp [mkC, Tx.ev0]⟩ fun v' h9 hc9 hsl9 => ?_
          rw [hRr, hev] at H
          exact H v' h9 (grows_trans (grows_trans hG (hput7 _) fun l hl e => by omega) hc9 fun l hl e => by omega) hsl9
      · have b10 : pIdx 8 1 (.agg [(V.int .i64 (-1)), (V.int .i64 1), (V.int .i64 2), (V.int .i64 1), (V.int .i64 2), (V.int .i64 1), (V.int .i64 4), (V.int .i64 1)]) (.int .i64 ((7 : Nat) : Int)) = some (.int .i64 ((1 : Nat) : Int)) := rfl
        have e0 : ((((7 : Nat) : Int)) == 0) = false := rfl
        have e6 : ((((7 : Nat) : Int)) != 6) = true := rfl
        simp (config := { decide := true }) only [b10, oP_some', q, e0, e6, pOr_false, oB_some', hown.len, q2, gk, pFA_ptr, Nat.zero_add, pOr_true, pAnd_bool, Bool.and_true, bP_bool', if_true, if_false]
        split
        · rename_i hl
          have := lenNe 1 hl
          refine hbad ?_
          match ns, this with
          | [], _ => rfl
          | [_], h => exact absurd rfl h
          | _ :: _ :: _, _ => rfl
        · rename_i hl
          have := lenEq 1 hl
          obtain ⟨a, rfl⟩ : ∃ a, ns = [a] := by
            match ns, this with
            | [a], _ => exact ⟨a, rfl⟩
          refine j_turnstoneref30_Parse_R26 ?_
          unfold B_turnstoneref30_Parse_R26
          simp (config := { decide := true }) only [bP_bool', if_true, pFA_ptr, oP_some', Nat.zero_add]
          exact one 3 { Tx.ev0 with kind := 7, n := a } a rfl (by omega) rfl rfl rfl
end Go.Proofs.YtdpfhajggknfaaaGreatDoor.Hx
namespace Go.Proofs.YtdpfhajggknfaaaGreatDoor.Hx
open Go.Proofs.YtdpfhajggknfaaaGreatDoor

theorem aggEq_seen (a b c d : Int) : aggEq 60 [.int .i64 a, .int .i64 b] [.int .i64 c, .int .i64 d] = Bool.rec (motive := fun _ => Option Bool) (some false) (Bool.rec (motive := fun _ => Option Bool) (some false) (some true) (b == d)) (a == c) := by kernel_rfl
theorem neq_seen (a b : Int) : hbin .neq 60 (.agg [.int .i64 a, .int .i64 b]) (.agg [.int .i64 a, .int .i64 b]) = some (.bool false) := by
  show oB (aggEq 60 [.int .i64 a, .int .i64 b] [.int .i64 a, .int .i64 b]) (fun b => some (V.bool (Bool.rec (motive := fun _ => Bool) b (!b) true))) = _
  rw [aggEq_seen, beq_self_eq_true, beq_self_eq_true]
  rfl
theorem rel_seen {b : Nat} {h : Hp} {x : Int × Int} {w : List V} (hr : eT.rel b h x w) : w = [.int .i64 x.1, .int .i64 x.2] := by
  obtain ⟨p, q, rfl, ⟨rfl, _⟩, ⟨rfl, _⟩⟩ := hr
  rfl
/-- The cells of a count. -/
def cntCells (e : Tx.Ev) (v : V) : List V := [.int .i64 e.cf, .int .i64 e.cpc, .int .i64 e.cy, .int .i64 e.cn, v]
theorem hbox_all {e : Nat} {cs : List V} (h : allOne cs = true) : hbox e (.agg cs) = some (.cells e 1 true false cs, fun l => .ptr l 0) := by
  unfold hbox
  rw [bB_of _ (by exact h)]
  rfl
theorem ne_self_int (a : Int) : (a != a) = false := by simp
theorem ct_SameCount {e : Tx.Ev} {v v' : V} {b : Nat} {h : Hp} {Q : V → Hp → Prop} (hb : b ≤ h.next) (hv : SlR eT b h e.ty v) (hv' : SlR eT b h e.ty v') (ht : e.ty.length < 4611686018427387904) (H : ∀ h', Grows h h' → Q (.bool true) h') :
    cP CS n_turnstoneref10_SameCount [.agg (cntCells e v), .agg (cntCells e v')] h Q := by
  refine c_turnstoneref10_SameCount rfl rfl ?_
  unfold B_turnstoneref10_SameCount
  have o1 : allOne (cntCells e v) = true := by unfold cntCells; simp only [allOne_cons, hv.one, allOne_nil]; rfl
  have o2 : allOne (cntCells e v') = true := by unfold cntCells; simp only [allOne_cons, hv'.one, allOne_nil]; rfl
  simp only [hbox_all o1, hbox_all o2, alP_some]
  have hg2 : Grows h ((h.new (.cells 24 1 true false (cntCells e v))).new (.cells 24 1 true false (cntCells e v'))) := (Chg.new _ _).trans (Chg.new _ _)
  have ga : ((h.new (.cells 24 1 true false (cntCells e v))).new (.cells 24 1 true false (cntCells e v'))).get h.next = some (.cells 24 1 true false (cntCells e v)) := by rw [get_new_lt _ (by simp)]; exact get_new_self _ _
  have gb : ((h.new (.cells 24 1 true false (cntCells e v))).new (.cells 24 1 true false (cntCells e v'))).get (h.next + 1) = some (.cells 24 1 true false (cntCells e v')) := get_new_self (h.new _) _
  have hv2 := hv.ext hg2 hb
  have hv2' := hv'.ext hg2 hb
  have hnx : (h.new (.cells 24 1 true false (cntCells e v))).next = h.next + 1 := rfl
  rw [hnx]
  generalize (h.new (.cells 24 1 true false (cntCells e v))).new (.cells 24 1 true false (cntCells e v')) = h2 at *
  have a0 : pLd (.ptr h.next 0) h2 = some (.int .i64 e.cf) := pLd_get ga rfl
  have a1 : pLd (.ptr h.next 1) h2 = some (.int .i64 e.cpc) := pLd_get ga rfl
  have a2 : pLd (.ptr h.next 2) h2 = some (.int .i64 e.cy) := pLd_get ga rfl
  have a3 : pLd (.ptr h.next 3) h2 = some (.int .i64 e.cn) := pLd_get ga rfl
  have a4 : pLd (.ptr h.next 4) h2 = some v := pLd_get ga rfl
  have b0 : pLd (.ptr (h.next + 1) 0) h2 = some (.int .i64 e.cf) := pLd_get gb rfl
  have b1 : pLd (.ptr (h.next + 1) 1) h2 = some (.int .i64 e.cpc) := pLd_get gb rfl
  have b2 : pLd (.ptr (h.next + 1) 2) h2 = some (.int .i64 e.cy) := pLd_get gb rfl
  have b3 : pLd (.ptr (h.next + 1) 3) h2 = some (.int .i64 e.cn) := pLd_get gb rfl
  have b4 : pLd (.ptr (h.next + 1) 4) h2 = some v' := pLd_get gb rfl
  simp only [pFA_ptr, oP_some', Nat.zero_add, a0, a1, a2, a3, a4, b0, b1, b2, b3, b4, hbin_neq, ne_self_int, pOr_false, oB_some', hv2.len, hv2'.len, bP_bool', Bool.false_eq_true, if_false]
  refine l_turnstoneref10_SameCount_L0 (fun k x2 x3 x5 h' => ∃ i : Nat, i ≤ e.ty.length ∧ k = e.ty.length - i ∧ x2 = .ptr h.next 0 ∧ x3 = .ptr (h.next + 1) 0 ∧ x5 = .int .i64 (i : Nat) ∧ h' = h2) ?_ ⟨0, Nat.zero_le _, rfl, rfl, rfl, rfl, rfl⟩
  rintro k x2 x3 x5 h' ⟨i, hi, rfl, rfl, rfl, rfl, rfl⟩
  unfold B_turnstoneref10_SameCount_L0
  simp only [pFA_ptr, oP_some', Nat.zero_add, a4, hv2.len, hbin_lss, bP_bool', decide_eq_true_eq]
  split
  · rename_i hlt
    have hlt' : i < e.ty.length := by omega
    obtain ⟨l1, o1, w1, _, p1, p2, p3, _⟩ := hv2.ix hlt' .i64
    obtain ⟨l2, o2, w2, _, q1, q2, q3, _⟩ := hv2'.ix hlt' .i64
    have e1 := rel_seen p3
    have e2 := rel_seen q3
    subst e1 e2
    have p1' : pIx 2 v (.int .i64 (i : Nat)) = some (.ptr l1 o1) := p1
    have q1' : pIx 2 v' (.int .i64 (i : Nat)) = some (.ptr l2 o2) := q1
    have p2' : pLdA 2 (.ptr l1 o1) h' = some (.agg [.int .i64 e.ty[i].1, .int .i64 e.ty[i].2]) := p2
    have q2' : pLdA 2 (.ptr l2 o2) h' = some (.agg [.int .i64 e.ty[i].1, .int .i64 e.ty[i].2]) := q2
    have w1 : wrapF .i64 ((i : Nat) + 1) = ((i + 1 : Nat) : Int) := by rw [wrapF_in (by simp only [inK]; omega)]; omega
    simp only [p1', oP_some', p2', b4, q1', q2', neq_seen, bP_bool', Bool.false_eq_true, if_false, hbin_add, w1]
    exact ⟨e.ty.length - (i + 1), by omega, i + 1, by omega, rfl, by trivial, by trivial, by trivial, by trivial⟩
  · exact H _ hg2
theorem ct_same {e : Tx.Ev} {v v' : V} {b : Nat} {h : Hp} {Q : V → Hp → Prop} (hb : b ≤ h.next) (hv : SlR eT b h e.ty v) (hv' : SlR eT b h e.ty v') (ht : e.ty.length < 4611686018427387904) (H : ∀ h', Grows h h' → Q (.bool true) h') :
    cP CS n_turnstonelaw30_same [.agg (evCells e v), .agg (evCells e v')] h Q := by
  refine c_turnstonelaw30_same rfl rfl ?_
  unfold B_turnstonelaw30_same
  simp only [hbox_all (evCells_one e hv.one), hbox_all (evCells_one e hv'.one), alP_some]
  have hg2 : Grows h ((h.new (.cells 26 1 true false (evCells e v))).new (.cells 26 1 true false (evCells e v'))) := (Chg.new _ _).trans (Chg.new _ _)
  have ga : ((h.new (.cells 26 1 true false (evCells e v))).new (.cells 26 1 true false (evCells e v'))).get h.next = some (.cells 26 1 true false (evCells e v)) := by rw [get_new_lt _ (by simp)]; exact get_new_self _ _
  have gb : ((h.new (.cells 26 1 true false (evCells e v))).new (.cells 26 1 true false (evCells e v'))).get (h.next + 1) = some (.cells 26 1 true false (evCells e v')) := get_new_self (h.new _) _
  have hv2 := hv.ext hg2 hb
  have hv2' := hv'.ext hg2 hb
  have hnx : (h.new (.cells 26 1 true false (evCells e v))).next = h.next + 1 := rfl
  rw [hnx]
  generalize (h.new (.cells 26 1 true false (evCells e v))).new (.cells 26 1 true false (evCells e v')) = h2 at *
  have a0 : pLd (.ptr h.next 0) h2 = some (.int .i64 e.kind) := pLd_get ga rfl
  have a1 : pLd (.ptr h.next 1) h2 = some (.int .i64 e.f) := pLd_get ga rfl
  have a2 : pLd (.ptr h.next 2) h2 = some (.int .i64 e.pc) := pLd_get ga rfl
  have a3 : pLd (.ptr h.next 3) h2 = some (.int .i64 e.n) := pLd_get ga rfl
  have a4 : pLdA 5 (.ptr h.next 4) h2 = some (.agg (cntCells e v)) := by rw [pLdA_ptr ga]; rfl
  have b0 : pLd (.ptr (h.next + 1) 0) h2 = some (.int .i64 e.kind) := pLd_get gb rfl
  have b1 : pLd (.ptr (h.next + 1) 1) h2 = some (.int .i64 e.f) := pLd_get gb rfl
  have b2 : pLd (.ptr (h.next + 1) 2) h2 = some (.int .i64 e.pc) := pLd_get gb rfl
  have b3 : pLd (.ptr (h.next + 1) 3) h2 = some (.int .i64 e.n) := pLd_get gb rfl
  have b4 : pLdA 5 (.ptr (h.next + 1) 4) h2 = some (.agg (cntCells e v')) := by rw [pLdA_ptr gb]; rfl
  have hE (a : Int) : (a == a) = true := by simp
  simp only [pFA_ptr, oP_some', Nat.zero_add, a0, a1, a2, a3, a4, b0, b1, b2, b3, b4, hbin_eql, hE, pAnd_true, oB_some', pGd_bool, beq_self_eq_true, gV_true, gC_true, cgP_some]
  refine ct_SameCount (Nat.le_trans hb hg2.next) hv2 hv2' ht fun h3 hg3 => ?_
  simp only [pPick_bool, oP_some', if_true]
  exact H _ (hg2.trans hg3)
theorem eql_err (a : Int) : hbin .eql 27 (.int .i64 a) (.int .i64 a) = some (.bool true) := by rw [hbin_eql, beq_self_eq_true]
theorem ct_known {h : Hp} {Q : V → Hp → Prop} (H : Q (.bool true) h) : cP CS n_turnstonelaw30_known [] h Q := by
  obtain ⟨fn, c, hf, hb⟩ := body10
  exact cP.known hf hb rfl rfl rfl H
theorem ty_len {s : Tx.Bs} : (parseR s).1.ty.length ≤ 8 := by
  unfold parseR
  cases h : Tx.parseM s with
  | none => simp [Tx.ev0]
  | some e => exact (Tx.parse_kind h).2.2
theorem ct_ScriptParses {s : Tx.Bs} {h : Hp} {Q : V → Hp → Prop} (hs : s.length < 1000000000) (H : ∀ h', Grows h h' → Q (.bool true) h') : cP CS n_turnstonelaw30_ScriptParses [.str s] h Q := by
  refine c_turnstonelaw30_ScriptParses rfl rfl ?_
  unfold B_turnstonelaw30_ScriptParses
  refine ct_Parse hs fun v h1 hg1 hsl1 => ?_
  simp only [pExt_tuple, at1_zero, at1_succ, oP_some', alP_some]
  have s1 := pSt_all (ws := evCells (parseR s).1 v) (n := 9) (get_new_self h1 (.cells 26 1 true false [(V.int .i64 0), (V.int .i64 0), (V.int .i64 0), (V.int .i64 0), (V.int .i64 0), (V.int .i64 0), (V.int .i64 0), (V.int .i64 0), V.nilSlice])) rfl rfl (evCells_one _ hsl1.one)
  simp only [s1, valP_some]
  have l3n : h1.next < (h1.new (.cells 26 1 true false [(V.int .i64 0), (V.int .i64 0), (V.int .i64 0), (V.int .i64 0), (V.int .i64 0), (V.int .i64 0), (V.int .i64 0), (V.int .i64 0), V.nilSlice])).next := by simp
  have hg2 : Grows h1 (h1.new (.cells 26 1 true false [(V.int .i64 0), (V.int .i64 0), (V.int .i64 0), (V.int .i64 0), (V.int .i64 0), (V.int .i64 0), (V.int .i64 0), (V.int .i64 0), V.nilSlice])) := Chg.new _ _
  generalize h1.new (.cells 26 1 true false [(V.int .i64 0), (V.int .i64 0), (V.int .i64 0), (V.int .i64 0), (V.int .i64 0), (V.int .i64 0), (V.int .i64 0), (V.int .i64 0), V.nilSlice]) = h2 at *
  have hg3 : Grows h1 (h2.put h1.next (.cells 26 1 true false (evCells (parseR s).1 v))) := grows_trans hg2 (Chg.put (S := fun m => m = h1.next) _ rfl l3n) fun l hl e => by omega
  have ga : (h2.put h1.next (.cells 26 1 true false (evCells (parseR s).1 v))).get h1.next = some (.cells 26 1 true false (evCells (parseR s).1 v)) := get_put_self _ l3n
  have hn3 : h1.next < (h2.put h1.next (.cells 26 1 true false (evCells (parseR s).1 v))).next := l3n
  generalize h2.put h1.next (.cells 26 1 true false (evCells (parseR s).1 v)) = h3 at *
  refine ct_Parse30 hs fun v' h4 hg4 hsl4 => ?_
  simp only [pExt_tuple, at1_zero, at1_succ, oP_some', alP_some]
  have s2 := pSt_all (ws := evCells (parseR s).1 v') (n := 9) (get_new_self h4 (.cells 26 1 true false [(V.int .i64 0), (V.int .i64 0), (V.int .i64 0), (V.int .i64 0), (V.int .i64 0), (V.int .i64 0), (V.int .i64 0), (V.int .i64 0), V.nilSlice])) rfl rfl (evCells_one _ hsl4.one)
  simp only [s2, valP_some]
  have l5n : h4.next < (h4.new (.cells 26 1 true false [(V.int .i64 0), (V.int .i64 0), (V.int .i64 0), (V.int .i64 0), (V.int .i64 0), (V.int .i64 0), (V.int .i64 0), (V.int .i64 0), V.nilSlice])).next := by simp
  have hg5 : Grows h4 (h4.new (.cells 26 1 true false [(V.int .i64 0), (V.int .i64 0), (V.int .i64 0), (V.int .i64 0), (V.int .i64 0), (V.int .i64 0), (V.int .i64 0), (V.int .i64 0), V.nilSlice])) := Chg.new _ _
  generalize h4.new (.cells 26 1 true false [(V.int .i64 0), (V.int .i64 0), (V.int .i64 0), (V.int .i64 0), (V.int .i64 0), (V.int .i64 0), (V.int .i64 0), (V.int .i64 0), V.nilSlice]) = h5 at *
  have hg6 : Grows h4 (h5.put h4.next (.cells 26 1 true false (evCells (parseR s).1 v'))) := grows_trans hg5 (Chg.put (S := fun m => m = h4.next) _ rfl l5n) fun l hl e => by omega
  have gb : (h5.put h4.next (.cells 26 1 true false (evCells (parseR s).1 v'))).get h4.next = some (.cells 26 1 true false (evCells (parseR s).1 v')) := get_put_self _ l5n
  generalize h5.put h4.next (.cells 26 1 true false (evCells (parseR s).1 v')) = h6 at *
  refine ct_known ?_
  have hg36 : Grows h3 h6 := hg4.trans hg6
  have ga6 : h6.get h1.next = some (.cells 26 1 true false (evCells (parseR s).1 v)) := by rw [hg36.keep _ hn3 (fun h => h)]; exact ga
  have r1 := pLdA_all (n := 9) ga6 rfl
  have r2 := pLdA_all (n := 9) gb rfl
  have hn34 := hg4.next
  have hn46 := hg6.next
  simp only [oB_some', eql_err, pAnd_true, oP_some', pGd_bool, beq_self_eq_true, gV_true, r1, r2, gC_true, cgP_some]
  have hx := ((hsl1.ext hg3 (Nat.le_refl _)).ext hg36 hg3.next).mono (b' := h4.next) (by have := hg3.next; omega)
  refine ct_same (b := h4.next) (by omega) hx (hsl4.ext hg6 (Nat.le_refl _)) (by have := ty_len (s := s); omega) fun h7 hg7 => ?_
  · simp only [pPick_bool, oP_some', if_true]
    exact H _ (((hg1.trans hg3).trans hg36).trans hg7)
end Go.Proofs.YtdpfhajggknfaaaGreatDoor.Hx
