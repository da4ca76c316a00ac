/- Chapter 30's text: what its functions of numbers and words do over plain values. -/
import Derived.Test.YtdpfhajggknfaaaGreatDoorHxS2
import Derived.Test.YtdpfhajggknfaaaGreatDoorHxP2
namespace Go.Proofs.YtdpfhajggknfaaaGreatDoor.Hx
open Go.Proofs.YtdpfhajggknfaaaGreatDoor

/-! ### texts -/
theorem pIdxS_zero (c : UInt8) (r : List UInt8) (k : IntKind) : pIdxS (.str (c :: r)) (.int k 0) = some (.int .u8 (c.toNat : Nat)) := rfl
theorem valD_lt : ∀ (s : Tx.Bs) (n : Nat), s.all Tx.isDig = true → Tx.valD s n < (n + 1) * 10 ^ s.length
  | [], n, _ => by simp [Tx.valD]
  | c :: s, n, h => by
    simp only [List.all_cons, Bool.and_eq_true] at h
    have hc := (Tx.isDig_iff c).1 h.1
    have := valD_lt s (10 * n + (c.toNat - 48)) h.2
    rw [Tx.valD, List.length_cons, Nat.pow_succ]
    have h2 : (10 * n + (c.toNat - 48) + 1) * 10 ^ s.length ≤ ((n + 1) * 10) * 10 ^ s.length := Nat.mul_le_mul_right _ (by omega)
    have h3 : (n + 1) * (10 ^ s.length * 10) = ((n + 1) * 10) * 10 ^ s.length := by rw [Nat.mul_assoc, Nat.mul_comm 10]
    omega
theorem take_snoc {s : Tx.Bs} {i : Nat} (hi : i < s.length) : s.take (i + 1) = s.take i ++ [s[i]] := by
  rw [List.take_add_one, List.getElem?_eq_getElem hi]; rfl

/-! ### script.number -/
theorem ct_number {s : Tx.Bs} {h : Hp} {Q : V → Hp → Prop} (hs : s.length < 4611686018427387904) (H : ∀ v : Int, (∀ n, Tx.pNat s = some n → v = n) → Q (.tuple [.int .i64 v, .bool (Tx.pNat s).isSome]) h) : cP CS n_script_number [.str s] h Q := by
  refine c_script_number rfl rfl ?_
  unfold B_script_number
  cases s with
  | nil =>
    simp [Tx.pNat] at H ⊢
    exact H 0
  | cons c r =>
    have e0 : ((c :: r) == ([] : List UInt8)) = false := rfl
    simp only [hbin_eqlS, e0, oP_some', pOr_false, oB_some', pLenS_str, hbin_gtr, pIdxS_zero, hbin_eql, pAnd_bool, pOr_bool, bP_bool', Bool.false_or]
    split
    · rename_i hc
      have hn : Tx.pNat (c :: r) = none := by
        simp only [Bool.or_eq_true, Bool.and_eq_true, decide_eq_true_eq, beq_iff_eq] at hc
        show (bif _ then _ else _) = _
        cases hb : (!(c.toNat == 48 && !r.isEmpty) && decide ((c :: r).length ≤ 19) && (c :: r).all Tx.isDig && decide (Tx.valD (c :: r) 0 ≤ 4611686018427387904)) with
        | false => rfl
        | true =>
          exfalso
          simp only [Bool.and_eq_true, decide_eq_true_eq, Bool.not_eq_true', Bool.and_eq_false_iff, beq_eq_false_iff_ne, ne_eq, Bool.not_eq_false'] at hb
          obtain ⟨⟨⟨h1, h2⟩, _⟩, _⟩ := hb
          rcases hc with ⟨h3, h4⟩ | h3
          · rcases h1 with h1 | h1
            · exact h1 (by omega)
            · have : r = [] := by simpa using h1
              subst this
              simp at h3
          · omega
      rw [hn] at H
      exact H 0 (fun n hn => by cases hn)
    · rename_i hc
      simp only [Bool.or_eq_true, Bool.and_eq_true, decide_eq_true_eq, beq_iff_eq, not_or, not_and] at hc
      generalize hs' : c :: r = s at *
      refine l_script_number_L0 (fun k x0 x4 x5 h' => ∃ i : Nat, i ≤ s.length ∧ k = s.length - i ∧ x0 = .str s ∧ x4 = .int .u64 (Tx.valD (s.take i) 0 : Nat) ∧ x5 = .int .i64 (i : Nat) ∧ (s.take i).all Tx.isDig = true ∧ h' = h) ?_ ⟨0, Nat.zero_le _, rfl, rfl, by simp [Tx.valD], rfl, by simp, rfl⟩
      rintro k x0 x4 x5 h' ⟨i, hi, rfl, rfl, rfl, rfl, hd, rfl⟩
      have hlen : s.length ≤ 19 := by omega
      unfold B_script_number_L0
      simp only [pLenS_str, oP_some', hbin_lss, bP_bool', decide_eq_true_eq]
      split
      · rename_i hlt
        have hlt' : i < s.length := by omega
        have hv := valD_lt (s.take i) 0 hd
        have hp : 10 ^ (s.take i).length ≤ 10 ^ 18 := Nat.pow_le_pow_right (by omega) (by rw [List.length_take]; omega)
        simp only [pIdxS_at hlt', oP_some', hbin_lss, oB_some', hbin_gtr, pOr_bool, bP_bool']
        split
        · rename_i hb
          have hn : Tx.pNat s = none := by
            have hnd : Tx.isDig s[i] = false := by
              cases hq : Tx.isDig s[i] with
              | false => rfl
              | true =>
                have := (Tx.isDig_iff _).1 hq
                simp only [Bool.or_eq_true, decide_eq_true_eq] at hb
                omega
            have hall : s.all Tx.isDig = false := by
              rw [List.all_eq_false]
              exact ⟨s[i], List.getElem_mem hlt', by rw [hnd]; simp⟩
            subst hs'
            show (bif _ then _ else _) = _
            rw [hall]
            simp
          rw [hn] at H
          exact H 0 (fun n hn => by cases hn)
        · rename_i hb
          simp only [Bool.or_eq_true, decide_eq_true_eq, not_or] at hb
          have hdig : Tx.isDig s[i] = true := (Tx.isDig_iff _).2 (by omega)
          have hc8 := UInt8.toNat_lt s[i]
          have w1 : wrapF .u64 (10 * (Tx.valD (s.take i) 0 : Nat)) = ((10 * Tx.valD (s.take i) 0 : Nat) : Int) := by
            rw [wrapF_in (by simp only [inK]; omega)]; omega
          have w2 : wrapF .u8 ((s[i].toNat : Nat) - 48) = ((s[i].toNat - 48 : Nat) : Int) := by
            rw [wrapF_in (by simp only [inK]; omega)]; omega
          have w3 : wrapF .u64 ((s[i].toNat - 48 : Nat) : Int) = ((s[i].toNat - 48 : Nat) : Int) := wrapF_in (by simp only [inK]; omega)
          have w4 : wrapF .u64 (((10 * Tx.valD (s.take i) 0 : Nat) : Int) + ((s[i].toNat - 48 : Nat) : Int)) = (Tx.valD (s.take (i + 1)) 0 : Nat) := by
            rw [take_snoc hlt', Tx.valD_append]
            simp only [Tx.valD]
            rw [wrapF_in (by simp only [inK]; omega)]; omega
          have w5 : wrapF .i64 ((i : Nat) + 1) = ((i + 1 : Nat) : Int) := by rw [wrapF_in (by simp only [inK]; omega)]; omega
          simp only [hbin_mul, w1, oP_some', hbin_sub, w2, pConv_int, w3, hbin_add, w4, w5]
          exact ⟨s.length - (i + 1), by omega, i + 1, by omega, by trivial, by trivial, by trivial, by trivial, by rw [take_snoc hlt', List.all_append, hd]; simp [hdig], by trivial⟩
      · rename_i hge
        have hi' : i = s.length := by omega
        subst hi'
        rw [List.take_length] at hd ⊢
        have hv := valD_lt s 0 hd
        have hp : 10 ^ s.length ≤ 10 ^ 19 := Nat.pow_le_pow_right (by omega) hlen
        simp only [hmin_one, oP_some', pConv_int, hbin_leq, Bool.false_eq_true, if_false]
        have hw : wrapF .i64 (min ((Tx.valD s 0 : Nat) : Int) 4611686018427387904) = min ((Tx.valD s 0 : Nat) : Int) 4611686018427387904 := wrapF_in (by simp only [inK]; omega)
        rw [hw]
        have hpn : Tx.pNat s = if Tx.valD s 0 ≤ 4611686018427387904 then some (Tx.valD s 0) else none := by
          subst hs'
          show (bif _ then _ else _) = _
          have e1 : (c.toNat == 48 && !r.isEmpty) = false := by
            rw [Bool.and_eq_false_iff]
            by_cases h1 : r = []
            · right; subst h1; rfl
            · left
              have h2 : 1 < (c :: r).length := by
                cases r with
                | nil => exact absurd rfl h1
                | cons _ _ => simp
              have := hc.1 (by omega)
              simp only [beq_eq_false_iff_ne, ne_eq]
              omega
          rw [e1, hd, decide_eq_true hlen]
          by_cases h3 : Tx.valD (c :: r) 0 ≤ 4611686018427387904
          · rw [if_pos h3, decide_eq_true h3]; rfl
          · rw [if_neg h3, decide_eq_false h3]; rfl
        have hfin := H (min ((Tx.valD s 0 : Nat) : Int) 4611686018427387904) (fun n hn => by
          rw [hpn] at hn
          split at hn
          · cases hn; omega
          · cases hn)
        have hb : (Tx.pNat s).isSome = decide (((Tx.valD s 0 : Nat) : Int) ≤ 4611686018427387904) := by
          rw [hpn]
          split
          · rw [decide_eq_true (by omega)]; rfl
          · rw [decide_eq_false (by omega)]; rfl
        rw [hb] at hfin
        exact hfin
end Go.Proofs.YtdpfhajggknfaaaGreatDoor.Hx
