/- ScriptLong is true, for every argument. -/
import Derived.Test.YtlbdcjnhlkkfeaaGreatDoorHxSr
namespace Go.Proofs.YtlbdcjnhlkkfeaaGreatDoor.Hx
theorem hbin_rem (t : Nat) (k : IntKind) (a b : Int) (hb : b ≠ 0) : hbin .rem t (.int k a) (.int k b) = some (.int k (a.tmod b)) := by
  have h2 : hint .rem k a b = some (.int k (a.tmod b)) := by
    cases b with
    | ofNat n => cases n with
      | zero => simp_all
      | succ n => rfl
    | negSucc n => rfl
  cases k <;> exact h2
theorem ct_Pick3 {n : Int} {h : Hp} {Q : V → Hp → Prop} (H : ∀ p : Nat, p < 3 → Q (.int .i64 (p : Nat)) h) : cP CS n_turnstonehand_Pick [.int .i64 n, .int .i64 3] h Q := by
  refine c_turnstonehand_Pick rfl rfl ?_
  unfold B_turnstonehand_Pick
  have h1 : n.tmod 3 < 3 := Int.tmod_lt_of_pos n (by omega)
  have h2 : -3 < n.tmod 3 := by
    have := Int.tmod_lt_of_pos (-n) (b := 3) (by omega)
    rw [Int.neg_tmod] at this
    omega
  refine oP_mk (hbin_rem _ _ _ 3 (by decide)) ?_
  generalize n.tmod 3 = m at *
  by_cases hm : m < 0
  · refine ltT hm ?_
    rw [hbin_add, oP_some', wrapF_in (by simp only [inK]; omega)]
    have := H (m + 3).toNat (by omega)
    rw [Int.toNat_of_nonneg (by omega)] at this
    exact j_turnstonehand_Pick_R3 this
  · refine ltF hm ?_
    have := H m.toNat (by omega)
    rw [Int.toNat_of_nonneg (by omega)] at this
    exact j_turnstonehand_Pick_R3 this
theorem ct_Long {x : Int} {Q : V → Hp → Prop} (H : ∀ h, Q (.bool true) h) : cP CS n_turnstonelaw30_ScriptLong [.int .i64 x] h0 Q := by
  refine c_turnstonelaw30_ScriptLong rfl rfl ?_
  unfold B_turnstonelaw30_ScriptLong
  refine ct_Pick3 fun p hp => ?_
  rw [hbin_sub, oP_some', wrapF_in (by simp only [inK]; omega)]
  obtain ⟨n, hn⟩ : ∃ n : Nat, (n : Int) = 4000 - ((p : Int) - 1) := ⟨4001 - p, by omega⟩
  have en : hbin .sub 3 (.int .i64 4000) (.int .i64 ((p : Int) - 1)) = some (.int .i64 (n : Nat)) := by
    rw [hbin_sub, ← hn, wrapF_in (by simp only [inK]; omega)]
  let J : Nat → LP := fun k l' h' => ∃ i : Nat, l' = [.int .i64 ((p : Int) - 1), .str (Tx.many i), .int .i64 (i : Nat)] ∧ i + k = n ∧ h' = h0
  refine l_turnstonelaw30_ScriptLong_L0 J ?_ (k := n) ⟨0, rfl, by omega, rfl⟩
  intro k _ _ _ _ hi
  obtain ⟨i, ⟨⟩, hk, rfl⟩ := hi
  unfold B_turnstonelaw30_ScriptLong_L0
  refine oP_mk en ?_
  by_cases hi : i < n
  · refine ltT (by omega) ?_
    refine oP_mk (hbin_addS _ (by rw [Tx.many_len]; simp only [List.length_cons, List.length_nil]; omega)) (oP_mk (add_one (by omega)) ⟨k - 1, by omega, i + 1, ?_, by omega, rfl⟩)
    rw [Tx.many_succ]
    rfl
  obtain rfl : i = n := by omega
  refine ltF (by omega) ?_
  refine ct_Run (by omega) (fun h4 h => ?_) (fun h4 v h ho => ?_)
  · refine oP_mk rfl (oP_mk rfl (oP_mk rfl (ltT (by omega) (ct_known ?_))))
    exact H _
  · refine oP_mk rfl (oP_mk rfl (oP_mk rfl (ltF (by omega) (ct_known ?_))))
    obtain ⟨m, rfl⟩ : ∃ m, i = m + 1 := ⟨i - 1, by omega⟩
    have e1 := ho.len
    rcases ho with ⟨_, _, h6⟩ | ⟨t, rfl, _, _, h7, _⟩
    · omega
    have e2 : pIx 1 (.slice t 0 (m + 1)) (.int .i64 0) = some (.ptr t 0) := by
      have := pIx_slice 1 t 0 (m + 1) 0 .i64 (by omega)
      simpa using this
    have e3 : pLd (.ptr t 0) h = some (.str err3) := pLd_get h7 rfl
    refine oP_mk rfl ?_
    rw [oB_some', e1, oB_some', oB_some', en, oB_some']
    refine oP_mk (a := .bool true) (show pAnd (.bool true) _ = _ by rw [hbin_eql]; simp) ?_
    rw [oB_some', e2, oB_some', e3, oB_some']
    exact H _
end Go.Proofs.YtlbdcjnhlkkfeaaGreatDoor.Hx
