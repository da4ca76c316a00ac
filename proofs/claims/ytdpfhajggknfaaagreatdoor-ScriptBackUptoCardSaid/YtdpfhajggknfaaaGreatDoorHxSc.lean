/- Chapter 30's text: numbers as texts; an event as a line. -/
import Derived.Test.YtdpfhajggknfaaaGreatDoorHxVC
import Derived.Test.YtdpfhajggknfaaaGreatDoorHxSb
namespace Go.Proofs.YtdpfhajggknfaaaGreatDoor.Hx
open Go.Proofs.YtdpfhajggknfaaaGreatDoor Go.Lib

/-! ### digits -/
theorem dec_small {n : Nat} (h : n < 10) : decDigits n = [UInt8.ofNat (48 + n)] := by rw [decDigits, dif_pos h]
theorem dec_big {n : Nat} (h : ¬ n < 10) : decDigits n = decDigits (n / 10) ++ [UInt8.ofNat (48 + n % 10)] := by rw [decDigits, dif_neg h]
theorem dec_len20 {n : Nat} (h : n ≤ 9223372036854775808) : (decDigits n).length ≤ 20 := Tx.dec_len n 19 (by omega)
theorem byte_dig {k : Nat} (h : k < 10) : wrapF .u8 (wrapF .i64 (48 - (-(k : Int)))) = ((48 + k : Nat) : Int) := by
  rw [wrapF_in (k := .i64) (by simp only [inK]; omega), wrapF_in (by simp only [inK]; omega)]; omega
theorem bytesOf_one {k : Nat} (h : k < 10) : bytesOf [V.int .u8 ((48 + k : Nat) : Int)] = some [UInt8.ofNat (48 + k)] := by
  show oB (bB (Nat.blt (48 + k) 256) (some (UInt8.ofNat (48 + k)))) (fun b => oB (some []) fun l => some (b :: l)) = _
  rw [bB_of _ (by rw [Nat.blt_eq]; omega)]
  rfl
theorem pB2S_row {l e sz : Nat} {ro : Bool} {cs : List V} {n : Nat} {h : Hp} {s : List UInt8} (hg : h.get l = some (.cells e sz true ro cs)) (hn : cs.length = n) (hs : bytesOf cs = some s) : pB2S (.slice l 0 n) h = some (.str s) := by
  unfold pB2S ldAt cellsAt
  simp only [hg, oB_some', bB_true']
  rw [sub_of (by omega), List.drop_zero, List.take_of_length_le (by omega)]
  simp only [oB_some', hs]
theorem ct_below (n : Nat) : ∀ {h : Hp} {Q : V → Hp → Prop}, n ≤ 9223372036854775808 → (∀ h', Grows h h' → Q (.str (decDigits n)) h') → cP CS n_turnstoneref10_below [.int .i64 (-(n : Int))] h Q := by
  induction n using Nat.strongRecOn with
  | _ n ih =>
    intro h Q hn H
    refine c_turnstoneref10_below rfl rfl ?_
    unfold B_turnstoneref10_below
    simp only [hbin_gtr, oP_some', bP_bool', decide_eq_true_eq]
    split
    · rename_i hlt
      have h10 : n < 10 := by omega
      simp only [hbin_sub, oP_some', pConv_int, byte_dig h10]
      have hbs : pBS 5 1 1 (V.int .u8 0) [(0, V.int .u8 ((48 + n : Nat) : Int))] = some (.cells 5 1 true false [V.int .u8 ((48 + n : Nat) : Int)], fun l => .slice l 0 1) := rfl
      simp only [hbs, alP_some, pB2S_row (n := 1) (get_new_self h (.cells 5 1 true false [V.int .u8 ((48 + n : Nat) : Int)])) rfl (bytesOf_one h10), oP_some']
      rw [dec_small h10] at H
      exact H _ (Chg.new _ _)
    · rename_i hge
      have h10 : ¬ n < 10 := by omega
      have q1 : wrapF .i64 ((-(n : Int)).tdiv 10) = -((n / 10 : Nat) : Int) := by
        rw [Int.neg_tdiv, wrapF_in (by
          have : (n : Int).tdiv 10 = ((n / 10 : Nat) : Int) := rfl
          rw [this]; simp only [inK]; omega)]
        rfl
      have q2 : (-(n : Int)).tmod 10 = -((n % 10 : Nat) : Int) := by
        rw [Int.neg_tmod]; rfl
      have hm : n % 10 < 10 := Nat.mod_lt _ (by omega)
      have hbs : pBS 5 1 1 (V.int .u8 0) [(0, V.int .u8 ((48 + n % 10 : Nat) : Int))] = some (.cells 5 1 true false [V.int .u8 ((48 + n % 10 : Nat) : Int)], fun l => .slice l 0 1) := rfl
      simp only [hbin_quo _ _ _ 10 (by omega), q1, oP_some', hbin_rem _ _ _ 10 (by omega), q2, hbin_sub, pConv_int, byte_dig hm, hbs, alO_some]
      simp only [pB2S_row (n := 1) (get_new_self h (.cells 5 1 true false [V.int .u8 ((48 + n % 10 : Nat) : Int)])) rfl (bytesOf_one hm), oP_some']
      refine ⟨⟨get_new_self _ _, O.beq_cells _ _ _ _ _⟩, ?_⟩
      refine ih (n / 10) (by omega) (by omega) fun h4 hg4 => ?_
      have hg : h4.get h.next = some (.cells 5 1 true false [V.int .u8 ((48 + n % 10 : Nat) : Int)]) := by rw [hg4.keep _ (by simp) (fun h => h)]; exact get_new_self _ _
      have hlen := dec_len20 (n := n / 10) (by omega)
      refine ⟨hg4.next, ?_⟩
      rw [hbin_addS (x := decDigits (n / 10)) (y := [UInt8.ofNat (48 + n % 10)]) 9 (by rw [List.length_singleton]; omega)]
      refine ⟨pB2S_row (n := 1) hg rfl (bytesOf_one hm), ⟨hg, O.beq_cells _ _ _ _ _⟩, ?_⟩
      rw [dec_big h10] at H
      exact H _ ((Chg.new _ _ : Grows h _).trans hg4)
theorem ct_Digits {n : Int} {h : Hp} {Q : V → Hp → Prop} (hn : inK .i64 n) (H : ∀ h', Grows h h' → Q (.str (itoa n)) h') : cP CS n_turnstoneref10_Digits [.int .i64 n] h Q := by
  refine c_turnstoneref10_Digits rfl rfl ?_
  unfold B_turnstoneref10_Digits
  simp only [inK] at hn
  simp only [hbin_lss, oP_some', bP_bool', decide_eq_true_eq]
  unfold itoa at H
  split
  · rename_i hlt
    rw [if_pos hlt] at H
    have e : (n : Int) = -((n.natAbs : Nat) : Int) := by omega
    rw [show V.int .i64 n = V.int .i64 (-((n.natAbs : Nat) : Int)) by rw [← e]]
    refine ct_below _ (by omega) fun h' hg => ?_
    have hlen := dec_len20 (n := n.natAbs) (by omega)
    rw [hbin_addS (x := [45]) (y := decDigits n.natAbs) 9 (by rw [List.length_singleton]; omega)]
    exact H _ hg
  · rename_i hge
    rw [if_neg hge] at H
    have e : wrapF .i64 (0 - n) = -((n.toNat : Nat) : Int) := by rw [wrapF_in (by simp only [inK]; omega)]; omega
    simp only [hun_neg, oP_some', e]
    exact ct_below _ (by omega) fun h' hg => H _ hg
theorem itoa_len {n : Int} (hn : inK .i64 n) : (itoa n).length ≤ 21 := by
  simp only [inK] at hn
  unfold itoa
  split
  · have := dec_len20 (n := n.natAbs) (by omega)
    simp; omega
  · have := dec_len20 (n := n.toNat) (by omega)
    omega
theorem ct_Itoa {n : Int} {h : Hp} {Q : V → Hp → Prop} (hn : inK .i64 n) (H : Q (.str (itoa n)) h) : cP CS n_strconv_Itoa [.int .i64 n] h Q := by
  obtain ⟨fn, c, hf, hb⟩ := body31
  refine cP.known hf hb (v := .str (itoa n)) ?_ rfl rfl H
  show bB (decide (-9223372036854775808 ≤ n) && decide (n ≤ 9223372036854775807)) (some (V.str (itoa n))) = _
  simp only [inK] at hn
  rw [decide_eq_true hn.1, decide_eq_true hn.2]
  rfl

/-! ### events -/
def evIn (e : Tx.Ev) : Prop := inK .i64 e.kind ∧ inK .i64 e.f ∧ inK .i64 e.pc ∧ inK .i64 e.n ∧ inK .i64 e.cf ∧ inK .i64 e.cpc ∧ inK .i64 e.cy ∧ inK .i64 e.cn ∧ tyIn e.ty
theorem intsOf_in {e : Tx.Ev} (he : evIn e) {l : List Int} (h : Tx.intsOf e = some l) : (∀ n ∈ l, inK .i64 n) ∧ l.length ≤ 20 := by
  obtain ⟨h1, h2, h3, h4, h5, h6, h7, h8, h9⟩ := he
  unfold Tx.intsOf at h
  split at h
  · cases h; simp [h4]
  split at h
  · cases h; simp [h2, h3]
  split at h
  · cases h; simp [h2]
  split at h
  · split at h
    · rename_i hl
      cases h
      have key : ∀ (t : List (Int × Int)), tyIn t → (∀ n ∈ Tx.flat t, inK .i64 n) ∧ (Tx.flat t).length = 2 * t.length := by
        intro t
        induction t with
        | nil => intro _; simp [Tx.flat]
        | cons x t ih =>
          intro ht
          obtain ⟨i1, i2⟩ := ih fun y hy => ht y (by simp [hy])
          have hx := ht x (by simp)
          simp only [Tx.flat, List.mem_cons, List.length_cons]
          refine ⟨fun n hn => ?_, by omega⟩
          rcases hn with rfl | rfl | hn
          · exact hx.1
          · exact hx.2
          · exact i1 n hn
      obtain ⟨k1, k2⟩ := key _ h9
      simp only [List.mem_cons, List.length_cons]
      refine ⟨fun n hn => ?_, by omega⟩
      rcases hn with rfl | rfl | rfl | rfl | hn
      · exact h5
      · exact h6
      · exact h7
      · exact h8
      · exact k1 n hn
    · cases h
  · cases h
theorem intCells_append (a b : List Int) : intCells (a ++ b) = intCells a ++ intCells b := by simp [intCells]
theorem intCells_length (l : List Int) : (intCells l).length = l.length := by simp [intCells]
theorem addS {x y : List UInt8} {t : Nat} (h : x.length + y.length ≤ 100000) : hbin .add t (.str x) (.str y) = some (.str (x ++ y)) := hbin_addS t (by omega)
theorem q3 (a b : Int) : hbin .eql 3 (.int .i64 a) (.int .i64 b) = some (.bool (a == b)) := hbin_eql 3 .i64 a b
theorem n3 (t : Nat) (a b : Int) : hbin .neq t (.int .i64 a) (.int .i64 b) = some (.bool (a != b)) := hbin_neq t .i64 a b
/-- Any number as one of m. -/
def pick (n m : Int) : Int := if n.tmod m < 0 then n.tmod m + m else n.tmod m
theorem pick_in (n : Int) {m : Int} (hm : 0 < m) : 0 ≤ pick n m ∧ pick n m < m := by
  have h1 := Int.tmod_lt_of_pos n hm
  have h2 : -m < n.tmod m := by
    have := Int.tmod_lt_of_pos (-n) hm
    rw [Int.neg_tmod] at this
    omega
  unfold pick
  split <;> omega
theorem ct_Pick {n m : Int} {h : Hp} {Q : V → Hp → Prop} (hm : 0 < m) (hm2 : m ≤ 9223372036854775807) (H : Q (.int .i64 (pick n m)) h) : cP CS n_turnstonehand_Pick [.int .i64 n, .int .i64 m] h Q := by
  refine c_turnstonehand_Pick rfl rfl ?_
  unfold B_turnstonehand_Pick
  have hp := pick_in n hm
  simp only [hbin_rem _ _ _ m (by omega), oP_some', hbin_lss, bP_bool', decide_eq_true_eq]
  unfold pick at H hp
  split
  · rename_i hlt
    rw [if_pos hlt] at H hp
    have hw : wrapF .i64 (n.tmod m + m) = n.tmod m + m := wrapF_in (by simp only [inK]; omega)
    simp only [hbin_add, hw, oP_some']
    refine j_turnstonehand_Pick_R3 ?_
    unfold B_turnstonehand_Pick_R3
    exact H
  · rename_i hge
    rw [if_neg hge] at H
    refine j_turnstonehand_Pick_R3 ?_
    unfold B_turnstonehand_Pick_R3
    exact H
end Go.Proofs.YtdpfhajggknfaaaGreatDoor.Hx
