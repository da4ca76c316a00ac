/- Chapter 30's text: script.Parse is what the plain reading of a line is. -/
import Derived.Test.YtdpfhajggknfaaaGreatDoorHxS2
import Derived.Test.YtdpfhajggknfaaaGreatDoorHxP1
namespace Go.Proofs.YtdpfhajggknfaaaGreatDoor.Hx
open Go.Proofs.YtdpfhajggknfaaaGreatDoor

/-! ### texts -/
theorem pIdxS_zero (c : UInt8) (r : List UInt8) (k : IntKind) : pIdxS (.str (c :: r)) (.int k 0) = some (.int .u8 (c.toNat : Nat)) := rfl
theorem valD_lt : ∀ (s : Tx.Bs) (n : Nat), s.all Tx.isDig = true → Tx.valD s n < (n + 1) * 10 ^ s.length
  | [], n, _ => by simp [Tx.valD]
  | c :: s, n, h => by
    simp only [List.all_cons, Bool.and_eq_true] at h
    have hc := (Tx.isDig_iff c).1 h.1
    have := valD_lt s (10 * n + (c.toNat - 48)) h.2
    rw [Tx.valD, List.length_cons, Nat.pow_succ]
    have h2 : (10 * n + (c.toNat - 48) + 1) * 10 ^ s.length ≤ ((n + 1) * 10) * 10 ^ s.length := Nat.mul_le_mul_right _ (by omega)
    have h3 : (n + 1) * (10 ^ s.length * 10) = ((n + 1) * 10) * 10 ^ s.length := by rw [Nat.mul_assoc, Nat.mul_comm 10]
    omega
theorem take_snoc {s : Tx.Bs} {i : Nat} (hi : i < s.length) : s.take (i + 1) = s.take i ++ [s[i]] := by
  rw [List.take_add_one, List.getElem?_eq_getElem hi]; rfl

/-! ### script.number -/
theorem ct_number {s : Tx.Bs} {h : Hp} {Q : V → Hp → Prop} (hs : s.length < 4611686018427387904) (H : ∀ v : Int, (∀ n, Tx.pNat s = some n → v = n) → Q (.tuple [.int .i64 v, .bool (Tx.pNat s).isSome]) h) : cP CS n_script_number [.str s] h Q := by
  refine c_script_number rfl rfl ?_
  unfold B_script_number
  cases s with
  | nil =>
    simp [Tx.pNat] at H ⊢
    exact H 0
  | cons c r =>
    have e0 : ((c :: r) == ([] : List UInt8)) = false := rfl
    simp only [hbin_eqlS, e0, oP_some', pOr_false, oB_some', pLenS_str, hbin_gtr, pIdxS_zero, hbin_eql, pAnd_bool, pOr_bool, bP_bool', Bool.false_or]
    split
    · rename_i hc
      have hn : Tx.pNat (c :: r) = none := by
        simp only [Bool.or_eq_true, Bool.and_eq_true, decide_eq_true_eq, beq_iff_eq] at hc
        show (bif _ then _ else _) = _
        cases hb : (!(c.toNat == 48 && !r.isEmpty) && decide ((c :: r).length ≤ 19) && (c :: r).all Tx.isDig && decide (Tx.valD (c :: r) 0 ≤ 4611686018427387904)) with
        | false => rfl
        | true =>
          exfalso
          simp only [Bool.and_eq_true, decide_eq_true_eq, Bool.not_eq_true', Bool.and_eq_false_iff, beq_eq_false_iff_ne, ne_eq, Bool.not_eq_false'] at hb
          obtain ⟨⟨⟨h1, h2⟩, _⟩, _⟩ := hb
          rcases hc with ⟨h3, h4⟩ | h3
          · rcases h1 with h1 | h1
            · exact h1 (by omega)
            · have : r = [] := by simpa using h1
              subst this
              simp at h3
          · omega
      rw [hn] at H
      exact H 0 (fun n hn => by cases hn)
    · rename_i hc
      simp only [Bool.or_eq_true, Bool.and_eq_true, decide_eq_true_eq, beq_iff_eq, not_or, not_and] at hc
      generalize hs' : c :: r = s at *
      refine l_script_number_L0 (fun k x0 x4 x5 h' => ∃ i : Nat, i ≤ s.length ∧ k = s.length - i ∧ x0 = .str s ∧ x4 = .int .u64 (Tx.valD (s.take i) 0 : Nat) ∧ x5 = .int .i64 (i : Nat) ∧ (s.take i).all Tx.isDig = true ∧ h' = h) ?_ ⟨0, Nat.zero_le _, rfl, rfl, by simp [Tx.valD], rfl, by simp, rfl⟩
      rintro k x0 x4 x5 h' ⟨i, hi, rfl, rfl, rfl, rfl, hd, rfl⟩
      have hlen : s.length ≤ 19 := by omega
      unfold B_script_number_L0
      simp only [pLenS_str, oP_some', hbin_lss, bP_bool', decide_eq_true_eq]
      split
      · rename_i hlt
        have hlt' : i < s.length := by omega
        have hv := valD_lt (s.take i) 0 hd
        have hp : 10 ^ (s.take i).length ≤ 10 ^ 18 := Nat.pow_le_pow_right (by omega) (by rw [List.length_take]; omega)
        simp only [pIdxS_at hlt', oP_some', hbin_lss, oB_some', hbin_gtr, pOr_bool, bP_bool']
        split
        · rename_i hb
          have hn : Tx.pNat s = none := by
            have hnd : Tx.isDig s[i] = false := by
              cases hq : Tx.isDig s[i] with
              | false => rfl
              | true =>
                have := (Tx.isDig_iff _).1 hq
                simp only [Bool.or_eq_true, decide_eq_true_eq] at hb
                omega
            have hall : s.all Tx.isDig = false := by
              rw [List.all_eq_false]
              exact ⟨s[i], List.getElem_mem hlt', by rw [hnd]; simp⟩
            subst hs'
            show (bif _ then _ else _) = _
            rw [hall]
            simp
          rw [hn] at H
          exact H 0 (fun n hn => by cases hn)
        · rename_i hb
          simp only [Bool.or_eq_true, decide_eq_true_eq, not_or] at hb
          have hdig : Tx.isDig s[i] = true := (Tx.isDig_iff _).2 (by omega)
          have hc8 := UInt8.toNat_lt s[i]
          have w1 : wrapF .u64 (10 * (Tx.valD (s.take i) 0 : Nat)) = ((10 * Tx.valD (s.take i) 0 : Nat) : Int) := by
            rw [wrapF_in (by simp only [inK]; omega)]; omega
          have w2 : wrapF .u8 ((s[i].toNat : Nat) - 48) = ((s[i].toNat - 48 : Nat) : Int) := by
            rw [wrapF_in (by simp only [inK]; omega)]; omega
          have w3 : wrapF .u64 ((s[i].toNat - 48 : Nat) : Int) = ((s[i].toNat - 48 : Nat) : Int) := wrapF_in (by simp only [inK]; omega)
          have w4 : wrapF .u64 (((10 * Tx.valD (s.take i) 0 : Nat) : Int) + ((s[i].toNat - 48 : Nat) : Int)) = (Tx.valD (s.take (i + 1)) 0 : Nat) := by
            rw [take_snoc hlt', Tx.valD_append]
            simp only [Tx.valD]
            rw [wrapF_in (by simp only [inK]; omega)]; omega
          have w5 : wrapF .i64 ((i : Nat) + 1) = ((i + 1 : Nat) : Int) := by rw [wrapF_in (by simp only [inK]; omega)]; omega
          simp only [hbin_mul, w1, oP_some', hbin_sub, w2, pConv_int, w3, hbin_add, w4, w5]
          exact ⟨s.length - (i + 1), by omega, i + 1, by omega, by trivial, by trivial, by trivial, by trivial, by rw [take_snoc hlt', List.all_append, hd]; simp [hdig], by trivial⟩
      · rename_i hge
        have hi' : i = s.length := by omega
        subst hi'
        rw [List.take_length] at hd ⊢
        have hv := valD_lt s 0 hd
        have hp : 10 ^ s.length ≤ 10 ^ 19 := Nat.pow_le_pow_right (by omega) hlen
        simp only [hmin_one, oP_some', pConv_int, hbin_leq, Bool.false_eq_true, if_false]
        have hw : wrapF .i64 (min ((Tx.valD s 0 : Nat) : Int) 4611686018427387904) = min ((Tx.valD s 0 : Nat) : Int) 4611686018427387904 := wrapF_in (by simp only [inK]; omega)
        rw [hw]
        have hpn : Tx.pNat s = if Tx.valD s 0 ≤ 4611686018427387904 then some (Tx.valD s 0) else none := by
          subst hs'
          show (bif _ then _ else _) = _
          have e1 : (c.toNat == 48 && !r.isEmpty) = false := by
            rw [Bool.and_eq_false_iff]
            by_cases h1 : r = []
            · right; subst h1; rfl
            · left
              have h2 : 1 < (c :: r).length := by
                cases r with
                | nil => exact absurd rfl h1
                | cons _ _ => simp
              have := hc.1 (by omega)
              simp only [beq_eq_false_iff_ne, ne_eq]
              omega
          rw [e1, hd, decide_eq_true hlen]
          by_cases h3 : Tx.valD (c :: r) 0 ≤ 4611686018427387904
          · rw [if_pos h3, decide_eq_true h3]; rfl
          · rw [if_neg h3, decide_eq_false h3]; rfl
        have hfin := H (min ((Tx.valD s 0 : Nat) : Int) 4611686018427387904) (fun n hn => by
          rw [hpn] at hn
          split at hn
          · cases hn; omega
          · cases hn)
        have hb : (Tx.pNat s).isSome = decide (((Tx.valD s 0 : Nat) : Int) ≤ 4611686018427387904) := by
          rw [hpn]
          split
          · rw [decide_eq_true (by omega)]; rfl
          · rw [decide_eq_false (by omega)]; rfl
        rw [hb] at hfin
        exact hfin
end Go.Proofs.YtdpfhajggknfaaaGreatDoor.Hx
namespace Go.Proofs.YtdpfhajggknfaaaGreatDoor.Hx
open Go.Proofs.YtdpfhajggknfaaaGreatDoor

def minus (s : Tx.Bs) : Bool := match s with
  | c :: _ => c == 45
  | [] => false
theorem ct_HasPrefix {s : Tx.Bs} {h : Hp} {Q : V → Hp → Prop} (H : Q (.bool (minus s)) h) : cP CS n_strings_HasPrefix [.str s, .str [45]] h Q := by
  refine c_strings_HasPrefix rfl rfl ?_
  unfold B_strings_HasPrefix
  refine c_stringslite_HasPrefix rfl rfl ?_
  unfold B_stringslite_HasPrefix
  cases s with
  | nil => simpa [minus] using H
  | cons c r =>
    have e : hsliceS (.str (c :: r)) none (some (.int .i64 (([45] : List UInt8).length : Nat))) = some (.str [c]) := hsliceS_to (n := 1) (by simp)
    have e2 : decide ((([45] : List UInt8).length : Int) ≤ ((c :: r).length : Nat)) = true := decide_eq_true (by simp only [List.length_cons, List.length_nil]; omega)
    simp only [pLenS_str, oP_some', hbin_geq, e2, pAnd_true, oB_some', e, hbin_eqlS]
    have e3 : ([c] == [(45 : UInt8)]) = (c == 45) := by simp
    rw [e3]
    exact H
theorem pInt_minus {r : Tx.Bs} : Tx.pInt (45 :: r) = match Tx.pNat r with
    | some (n + 1) => some (-((n : Int) + 1))
    | _ => none := rfl
theorem pInt_plain {s : Tx.Bs} (h : minus s = false) : Tx.pInt s = (Tx.pNat s).map (fun n : Nat => (n : Int)) := by
  unfold Tx.pInt
  split
  · simp [minus] at h
  · cases Tx.pNat s <;> rfl
theorem pNat_le {s : Tx.Bs} {n : Nat} (h : Tx.pNat s = some n) : n ≤ 4611686018427387904 := (Tx.dec_pNat h).2
theorem ct_integer {s : Tx.Bs} {h : Hp} {Q : V → Hp → Prop} (hs : s.length < 4611686018427387904) (H : ∀ v : Int, (∀ n, Tx.pInt s = some n → v = n) → Q (.tuple [.int .i64 v, .bool (Tx.pInt s).isSome]) h) : cP CS n_script_integer [.str s] h Q := by
  refine c_script_integer rfl rfl ?_
  unfold B_script_integer
  refine ct_HasPrefix ?_
  simp only [hun_not, oP_some', bP_bool']
  cases hm : minus s with
  | false =>
    simp only [Bool.not_false, if_true]
    refine ct_number hs fun v hv => ?_
    simp only [pExt_tuple, at1_zero, at1_succ, oP_some']
    rw [pInt_plain hm] at H
    rw [← Option.isSome_map (f := fun n : Nat => (n : Int))]
    refine H v fun n hn => ?_
    obtain ⟨m, h1, h2⟩ := Option.map_eq_some_iff.1 hn
    rw [hv m h1, h2]
  | true =>
    simp only [Bool.not_true, Bool.false_eq_true, if_false]
    cases s with
    | nil => cases hm
    | cons c r =>
      obtain rfl : c = 45 := by simpa [minus] using hm
      have e : hsliceS (.str (45 :: r)) (some (.int .i64 1)) none = some (.str r) := hsliceS_from (n := 1) (by simp)
      simp only [e, oP_some']
      refine ct_number (by simp at hs; omega) fun v hv => ?_
      simp only [pExt_tuple, at1_zero, at1_succ, oP_some', hun_neg, oB_some', hbin_neq, pAnd_bool]
      rw [pInt_minus] at H
      cases hp : Tx.pNat r with
      | none =>
        rw [hp] at H
        exact H _ (fun n hn => by cases hn)
      | some m =>
        rw [hp] at H hv
        have hm2 := pNat_le hp
        obtain rfl := hv m rfl
        cases m with
        | zero => exact H _ (fun n hn => by cases hn)
        | succ m =>
          have hne : (((m + 1 : Nat) : Int) != 0) = true := by simp; omega
          rw [hne]
          have hw : wrapF .i64 (0 - ((m + 1 : Nat) : Int)) = -((m : Int) + 1) := by rw [wrapF_in (by simp only [inK]; omega)]; omega
          rw [hw]
          exact H _ (fun n hn => by cases hn; rfl)

/-! ### words -/
/-- The words of a line that are still to be read, and whether all was well. -/
def WsAt (l : Nat) (h : Hp) (ws : List Tx.Bs) (ok : Bool) : Prop := ∃ e sz v, h.get l = some (.cells e sz true false [v, .bool ok]) ∧ l < h.next ∧ SlR eS l h ws v
theorem WsAt.chg {l : Nat} {h h' : Hp} {ws : List Tx.Bs} {ok : Bool} {S : Nat → Prop} (hc : Chg S h h') (hS : ∀ m, m ≤ l → ¬ S m) (hw : WsAt l h ws ok) : WsAt l h' ws ok := by
  obtain ⟨e, sz, v, h1, h2, h3⟩ := hw
  exact ⟨e, sz, v, by rw [hc.keep l h2 (hS l (Nat.le_refl _))]; exact h1, Nat.lt_of_lt_of_le h2 hc.next, h3.keep fun m hm => hc.keep m (by omega) (hS m (Nat.le_of_lt hm))⟩
def small (ws : List Tx.Bs) : Prop := ∀ w ∈ ws, w.length < 4611686018427387904
theorem ct_next {l : Nat} {h : Hp} {ws : List Tx.Bs} {ok : Bool} {Q : V → Hp → Prop} (hw : WsAt l h ws ok)
    (H : ∀ h', Chg (fun m => m = l) h h' → h'.next = h.next → WsAt l h' ws.tail (ok && !ws.isEmpty) → Q (.str (ws.headD [])) h') : cP CS n_script_words_next [.ptr l 0] h Q := by
  obtain ⟨e, sz, v, hg, hl, hs⟩ := hw
  refine c_script_words_next rfl rfl ?_
  unfold B_script_words_next
  have g0 : pLd (.ptr l 0) h = some v := pLd_get hg rfl
  simp only [pNil_ptr, oP_some', pFA_ptr, Nat.zero_add, Nat.add_zero, g0, hs.len, hbin_eql, bP_bool']
  cases ws with
  | nil =>
    have e1 : pSt 1 (.ptr l 1) (.bool false) h = some (.val .undef (h.put l (.cells e sz true false [v, .bool false]))) := pSt_at hg (by simp) rfl
    have e0 : ((([] : List Tx.Bs).length : Int) == 0) = true := rfl
    have e9 : (ok && !([] : List Tx.Bs).isEmpty) = false := by simp
    rw [e9] at H
    simp only [e0, if_true, e1, valP_some]
    refine H _ (Chg.put _ rfl hl) rfl ⟨e, sz, v, get_put_self _ hl, hl, hs.keep fun m hm => get_put_ne _ hl (by omega)⟩
  | cons w r =>
    have e1 : (((w :: r).length : Int) == 0) = false := by
      simp only [List.length_cons, beq_eq_false_iff_ne, ne_eq]; omega
    obtain ⟨l1, o1, u, h1, h2, h3, h4⟩ := hs.ix1 (i := 0) (by simp) .i64 rfl
    have h4' : u = .str w := by
      have : [u] = [V.str w] := h4
      simpa using this
    subst h4'
    have h2' : pIx 1 v (.int .i64 0) = some (.ptr l1 o1) := h2
    obtain ⟨v', h5, h6⟩ := hs.cut (lo := some (.int .i64 1)) (hi := none) (m := 1) (n := (w :: r).length) rfl rfl (by simp) (Nat.le_refl _)
    have h5' : hsliceV 1 v (some (.int .i64 1)) none h = some v' := h5
    have e2 : pSt 1 (.ptr l 0) v' h = some (.val .undef (h.put l (.cells e sz true false [v', .bool ok]))) := pSt_at hg (by simp) h6.one
    rw [List.take_length, List.drop_succ_cons, List.drop_zero] at h6
    simp only [e1, Bool.false_eq_true, if_false, h2', oP_some', h3, h5', e2, valP_some]
    refine H _ (Chg.put _ rfl hl) rfl ⟨e, sz, v', ?_, hl, h6.keep fun m hm => get_put_ne _ hl (by omega)⟩
    rw [get_put_self _ hl]
    simp
/-- What a number read does to the words. -/
def nextM (ws : List Tx.Bs) (ok : Bool) : Int × List Tx.Bs × Bool := match ws with
  | [] => (0, [], false)
  | w :: r => ((Tx.pInt w).getD 0, r, ok && (Tx.pInt w).isSome)
theorem ct_int {l : Nat} {h : Hp} {ws : List Tx.Bs} {ok : Bool} {Q : V → Hp → Prop} (hw : WsAt l h ws ok) (hsm : small ws)
    (H : ∀ h', Chg (fun m => m = l) h h' → h'.next = h.next → WsAt l h' (nextM ws ok).2.1 (nextM ws ok).2.2 → Q (.int .i64 (nextM ws ok).1) h') : cP CS n_script_words_int [.ptr l 0] h Q := by
  refine c_script_words_int rfl rfl ?_
  unfold B_script_words_int
  refine ct_next hw fun h1 hc1 hn1 hw1 => ?_
  refine ct_integer (by cases ws with
    | nil => simp
    | cons w r => exact hsm w (by simp)) fun v hv => ?_
  obtain ⟨e, sz, u, hg, hl, hs⟩ := hw1
  have g1 : pLd (.ptr l 1) h1 = some (.bool (ok && !ws.isEmpty)) := pLd_get hg rfl
  simp only [pExt_tuple, at1_zero, at1_succ, oP_some', pNil_ptr, pFA_ptr, Nat.zero_add, g1, pAnd_bool, oB_some']
  have e1 : ∀ b, pSt 1 (.ptr l 1) (.bool b) h1 = some (.val .undef (h1.put l (.cells e sz true false [u, .bool b]))) := fun b => pSt_at hg (by simp) rfl
  simp only [e1, valP_some, hun_not, oP_some', bP_bool']
  have hH := H (h1.put l (.cells e sz true false [u, .bool (ok && !ws.isEmpty && (Tx.pInt (ws.headD [])).isSome)])) (hc1.trans (Chg.put _ rfl hl)) hn1
  cases ws with
  | nil =>
    have hp : Tx.pInt [] = none := rfl
    simp only [List.headD_nil, hp, Option.isSome_none, Bool.not_false, if_true, List.isEmpty_nil, Bool.not_true, Bool.and_false] at hH ⊢
    exact hH ⟨e, sz, u, get_put_self _ hl, hl, hs.keep fun m hm => get_put_ne _ hl (by omega)⟩
  | cons w r =>
    simp only [List.headD_cons, List.isEmpty_cons, Bool.not_false, Bool.and_true, List.tail_cons, nextM] at hH hv hs ⊢
    have hH := hH ⟨e, sz, u, get_put_self _ hl, hl, hs.keep fun m hm => get_put_ne _ hl (by omega)⟩
    cases hp : Tx.pInt w with
    | none =>
      rw [hp] at hH
      simpa using hH
    | some n =>
      rw [hp] at hH
      have := hv n hp
      subst this
      simpa using hH
/-- What a row of numbers read does to the words, and to the cells that the numbers go to. -/
def rowM : List Nat → List Tx.Bs → Bool → List V → List Tx.Bs × Bool × List V
  | [], ws, ok, cs => (ws, ok, cs)
  | o :: os, ws, ok, cs => rowM os (nextM ws ok).2.1 (nextM ws ok).2.2 (cs.set o (.int .i64 (nextM ws ok).1))
theorem rowM_length : ∀ (os : List Nat) (ws : List Tx.Bs) (ok : Bool) (cs : List V), (rowM os ws ok cs).2.2.length = cs.length
  | [], _, _, _ => rfl
  | o :: os, ws, ok, cs => by rw [rowM, rowM_length]; simp
theorem small_next {ws : List Tx.Bs} {ok : Bool} (h : small ws) : small (nextM ws ok).2.1 := by
  cases ws with
  | nil => intro w hw; cases hw
  | cons x r => exact fun w hw => h w (by simp [nextM] at hw; simp [hw])
theorem ct_row {l m p : Nat} {os : List Nat} {h : Hp} {ws : List Tx.Bs} {ok : Bool} {cs : List V} {e sz e1 sz1 : Nat} {ro : Bool} {x : V} {Q : V → Hp → Prop} (hw : WsAt l h ws ok) (hsm : small ws)
    (hm : h.get m = some (.cells e sz true false cs)) (hlm : l < m) (hmn : m < h.next) (ho : ∀ o ∈ os, o < cs.length) (h8 : os.length ≤ 8) (hp : h.get p = some (.cells e1 sz1 true ro (os.map fun o => V.ptr m o))) (hpl : p ≠ l) (hpm : p ≠ m) (hpn : p < h.next)
    (H : ∀ h', Chg (fun k => k = l ∨ k = m) h h' → h'.next = h.next → WsAt l h' (rowM os ws ok cs).1 (rowM os ws ok cs).2.1 → h'.get m = some (.cells e sz true false (rowM os ws ok cs).2.2) → Q (.tuple []) h') :
    cP CS n_script_words_row [x, .func n_script_words_int [.ptr l 0] [], .slice p 0 os.length] h Q := by
  refine c_script_words_row rfl rfl ?_
  unfold B_script_words_row
  simp only [pLen_slice, oP_some']
  refine l_script_words_row_L0 (fun k x1 x8 x9 x10 h' => ∃ (os1 os2 : List Nat) (ws' : List Tx.Bs) (ok' : Bool) (cs' : List V), os = os1 ++ os2 ∧ k = os2.length ∧ x1 = .func n_script_words_int [.ptr l 0] [] ∧ x8 = .slice p 0 os.length ∧
    x9 = .int .i64 (os.length : Nat) ∧ x10 = .int .i64 (os1.length : Nat) ∧ Chg (fun k => k = l ∨ k = m) h h' ∧ h'.next = h.next ∧ WsAt l h' ws' ok' ∧ small ws' ∧ h'.get m = some (.cells e sz true false cs') ∧ cs'.length = cs.length ∧
    rowM os2 ws' ok' cs' = rowM os ws ok cs) ?_ ⟨[], os, ws, ok, cs, rfl, rfl, rfl, rfl, rfl, rfl, Chg.refl _ _, rfl, hw, hsm, hm, rfl, rfl⟩
  rintro k x1 x8 x9 x10 h' ⟨os1, os2, ws', ok', cs', he, rfl, rfl, rfl, rfl, rfl, hc, hn, hw', hsm', hm', hlen, hrow⟩
  unfold B_script_words_row_L0
  simp only [hbin_lss, oP_some', bP_bool', decide_eq_true_eq]
  cases os2 with
  | nil =>
    have : ¬ ((os1.length : Int) < os.length) := by rw [he]; simp
    rw [if_neg this]
    have e2 : rowM os ws ok cs = (ws', ok', cs') := hrow.symm
    rw [e2] at H
    exact H h' hc hn hw' hm'
  | cons o r =>
    have hlt : os1.length < os.length := by rw [he]; simp
    rw [if_pos (by omega)]
    have hp' : h'.get p = some (.cells e1 sz1 true ro (os.map fun o => V.ptr m o)) := by rw [hc.keep p hpn (by rintro (h | h); exact hpl h; exact hpm h)]; exact hp
    have e3 : pIx 1 (.slice p 0 os.length) (.int .i64 (os1.length : Nat)) = some (.ptr p os1.length) := by rw [pIx_slice _ _ _ _ _ _ hlt]; simp
    have e4 : pLd (.ptr p os1.length) h' = some (.ptr m o) := pLd_get hp' (by rw [he]; simp)
    simp only [e3, oP_some', e4, hcall_func, calP_some, List.nil_append, List.append_nil]
    refine ct_int hw' hsm' fun h1 hc1 hn1 hw1 => ?_
    have hm1 : h1.get m = some (.cells e sz true false cs') := by rw [hc1.keep m (by omega) (by omega)]; exact hm'
    have ho1 : o < cs'.length := by rw [hlen]; exact ho o (by rw [he]; simp)
    have e5 : pSt 1 (.ptr m o) (.int .i64 (nextM ws' ok').1) h1 = some (.val .undef (h1.put m (.cells e sz true false (cs'.set o (.int .i64 (nextM ws' ok').1))))) := pSt_at hm1 ho1 rfl
    have hm1n : m < h1.next := by omega
    have hb : wrapF .i64 ((os1.length : Nat) + 1) = ((os1.length + 1 : Nat) : Int) := by rw [wrapF_in (by simp only [inK]; omega)]; omega
    simp only [pNil_ptr, oP_some', e5, valP_some, hbin_add, hb]
    refine ⟨r.length, by simp, os1 ++ [o], r, _, _, _, by rw [he]; simp, by trivial, by trivial, by trivial, by trivial, by simp, (hc.trans' (hc1.weak fun _ _ h => .inl h) fun _ _ h => h).trans (Chg.put _ (.inr rfl) hm1n), by show h1.next = _; omega,
      hw1.chg (S := fun k => k = m) (Chg.put _ rfl hm1n) (fun k hk => by omega), small_next hsm', get_put_self _ hm1n, by simp [hlen], by rw [← hrow]; rfl⟩
end Go.Proofs.YtdpfhajggknfaaaGreatDoor.Hx
namespace Go.Proofs.YtdpfhajggknfaaaGreatDoor.Hx
open Go.Proofs.YtdpfhajggknfaaaGreatDoor

def nameI (k : Int) : Tx.Bs := if k = 1 then Tx.nStep else if k = 2 then Tx.nCompile else if k = 3 then Tx.nEnter else if k = 4 then Tx.nEvict else if k = 5 then Tx.nInvalidate else if k = 6 then Tx.nCount else if k = 7 then Tx.nAuto else []
theorem ct_name {k : Int} {h : Hp} {Q : V → Hp → Prop} (H : Q (.str (nameI k)) h) : cP CS n_script_name [.int .i64 k] h Q := by
  refine c_script_name rfl rfl ?_
  unfold B_script_name
  simp only [hbin_eql, oP_some', bP_bool', beq_iff_eq]
  unfold nameI at H
  split
  · rename_i h1; rw [if_pos h1] at H; exact H
  rename_i h1; rw [if_neg h1] at H
  split
  · rename_i h1; rw [if_pos h1] at H; exact H
  rename_i h1; rw [if_neg h1] at H
  split
  · rename_i h1; rw [if_pos h1] at H; exact H
  rename_i h1; rw [if_neg h1] at H
  split
  · rename_i h1; rw [if_pos h1] at H; exact H
  rename_i h1; rw [if_neg h1] at H
  split
  · rename_i h1; rw [if_pos h1] at H; exact H
  rename_i h1; rw [if_neg h1] at H
  split
  · rename_i h1; rw [if_pos h1] at H; exact H
  rename_i h1; rw [if_neg h1] at H
  split
  · rename_i h1; rw [if_pos h1] at H; exact H
  rename_i h1; rw [if_neg h1] at H
  exact H
theorem nameI_nat {k : Nat} (h1 : 1 ≤ k) (h2 : k ≤ 7) : nameI k = Tx.nameOf k := by
  have : k = 1 ∨ k = 2 ∨ k = 3 ∨ k = 4 ∨ k = 5 ∨ k = 6 ∨ k = 7 := by omega
  rcases this with h | h | h | h | h | h | h <;> subst h <;> rfl
theorem kindOf_none {s : Tx.Bs} (h : ∀ j, 1 ≤ j → j ≤ 7 → Tx.nameOf j ≠ s) : Tx.kindOf s = 0 := by
  by_cases h0 : Tx.kindOf s = 0
  · exact h0
  · exact absurd (Tx.name_kindOf s h0) (h _ (by omega) (Tx.kindOf_le s))
theorem ct_kind {s : Tx.Bs} {h : Hp} {Q : V → Hp → Prop} (H : Q (.int .i64 (Tx.kindOf s : Nat)) h) : cP CS n_script_kind [.str s] h Q := by
  refine c_script_kind rfl rfl ?_
  unfold B_script_kind
  refine l_script_kind_L0 (fun k x0 x3 h' => ∃ i : Nat, 1 ≤ i ∧ i ≤ 8 ∧ k = 8 - i ∧ x0 = .str s ∧ x3 = .int .i64 (i : Nat) ∧ (∀ j, 1 ≤ j → j < i → Tx.nameOf j ≠ s) ∧ h' = h) ?_ ⟨1, by omega, by omega, rfl, rfl, rfl, fun j _ _ => by omega, rfl⟩
  rintro k x0 x3 h' ⟨i, h1, h2, rfl, rfl, rfl, hj, rfl⟩
  unfold B_script_kind_L0
  simp only [hbin_leq, oP_some', bP_bool', decide_eq_true_eq]
  split
  · rename_i h3
    refine ct_name ?_
    rw [nameI_nat h1 (by omega)]
    simp only [hbin_eqlS, oP_some', bP_bool', beq_iff_eq]
    split
    · rename_i h4
      have := Tx.kindOf_name i h1 (by omega)
      rw [h4] at this
      rw [this] at H
      exact H
    · rename_i h4
      have hw : wrapF .i64 ((i : Nat) + 1) = ((i + 1 : Nat) : Int) := by rw [wrapF_in (by simp only [inK]; omega)]; omega
      simp only [hbin_add, oP_some', hw]
      exact ⟨8 - (i + 1), by omega, i + 1, by omega, by omega, by trivial, by trivial, by trivial, fun j hj1 hj2 => by
        by_cases e : j = i
        · subst e; exact h4
        · exact hj j hj1 (by omega), by trivial⟩
  · rename_i h3
    rw [kindOf_none (s := s) (fun j a b => hj j a (by omega))] at H
    exact H

/-! ### strings.Split -/
theorem ct_CountString {s : Tx.Bs} {h : Hp} {Q : V → Hp → Prop} (H : Q (.int .i64 (s.count 32 : Nat)) h) : cP CS n_bytealg_CountString [.str s, .int .u8 32] h Q := by
  refine cP.ext fn63 (by kernel_rfl) ?_ H
  show bB (Nat.blt 32 256) (some (V.int .i64 (.ofNat (countB 32 s 0)))) = _
  rw [countB_eq 32 (by omega)]
  show some (V.int .i64 ((0 + s.count (UInt8.ofNat 32) : Nat) : Int)) = _
  rw [Nat.zero_add]
  rfl
theorem ct_Count {s : Tx.Bs} {h : Hp} {Q : V → Hp → Prop} (H : Q (.int .i64 (s.count 32 : Nat)) h) : cP CS n_strings_Count [.str s, .str [32]] h Q := by
  refine c_strings_Count rfl rfl ?_
  unfold B_strings_Count
  have e1 : ((([32] : List UInt8).length : Int) == 0) = false := rfl
  have e2 : ((([32] : List UInt8).length : Int) == 1) = true := rfl
  simp only [pLenS_str, oP_some', hbin_eql, e1, bP_bool', Bool.false_eq_true, if_false, e2, if_true, pIdxS_zero]
  exact ct_CountString H
theorem indexB_split : ∀ (s : Tx.Bs) (n : Nat), (32 ∉ s ∧ indexB 32 s n = none) ∨ ∃ w r, s = w ++ 32 :: r ∧ 32 ∉ w ∧ indexB 32 s n = some (n + w.length)
  | [], n => .inl ⟨by simp, rfl⟩
  | c :: s, n => by
    by_cases hc : c = 32
    · subst hc
      exact .inr ⟨[], s, rfl, by simp, rfl⟩
    · have hb : Nat.beq c.toNat 32 = false := by
        rw [← Bool.not_eq_true, Nat.beq_eq]
        intro e
        exact hc (UInt8.toNat_inj.1 e)
      have hi : indexB 32 (c :: s) n = indexB 32 s (n + 1) := by
        show Bool.rec (motive := fun _ => Option Nat) (indexB 32 s (Nat.succ n)) (some n) (Nat.beq c.toNat 32) = _
        rw [hb]
      rcases indexB_split s (n + 1) with ⟨h1, h2⟩ | ⟨w, r, h1, h2, h3⟩
      · exact .inl ⟨by simp [h1]; exact fun e => hc e.symm, by rw [hi, h2]⟩
      · exact .inr ⟨c :: w, r, by rw [h1]; rfl, by simp [h2]; exact fun e => hc e.symm, by rw [hi, h3]; simp; omega⟩
noncomputable def idxI (s : Tx.Bs) : Int := match indexB 32 s 0 with
  | some i => (i : Int)
  | none => -1
theorem ct_IndexByteString {s : Tx.Bs} {h : Hp} {Q : V → Hp → Prop} (H : Q (.int .i64 (idxI s)) h) : cP CS n_bytealg_IndexByteString [.str s, .int .u8 32] h Q := by
  refine cP.ext fn148 (by kernel_rfl) ?_ H
  show bB (Nat.blt 32 256) (match indexB 32 s 0 with
    | some i => some (V.int .i64 (.ofNat i))
    | none => some (.int .i64 (-1))) = _
  unfold idxI
  cases indexB 32 s 0 <;> rfl
theorem ct_Index {s : Tx.Bs} {h : Hp} {Q : V → Hp → Prop} (H : Q (.int .i64 (idxI s)) h) : cP CS n_strings_Index [.str s, .str [32]] h Q := by
  refine c_strings_Index rfl rfl ?_
  unfold B_strings_Index
  refine c_stringslite_Index rfl rfl ?_
  unfold B_stringslite_Index
  have e1 : ((([32] : List UInt8).length : Int) == 0) = false := rfl
  have e2 : ((([32] : List UInt8).length : Int) == 1) = true := rfl
  simp only [pLenS_str, oP_some', hbin_eql, e1, bP_bool', pOr_false, oB_some', hbin_eqlS, e2, if_true, pIdxS_zero]
  split
  · rename_i hb
    have : s = [32] := by
      have := eq_of_beq hb
      exact this.symm
    subst this
    exact H
  · refine c_stringslite_IndexByte rfl rfl ?_
    unfold B_stringslite_IndexByte
    exact ct_IndexByteString H
theorem count_le (s : Tx.Bs) : s.count 32 ≤ s.length := List.count_le_length
theorem count_split {w r : Tx.Bs} (h : 32 ∉ w) : (w ++ 32 :: r).count 32 = r.count 32 + 1 := by
  rw [List.count_append, List.count_eq_zero_of_not_mem h, List.count_cons_self]; omega
theorem ne_of_not_mem {w : Tx.Bs} (h : 32 ∉ w) : ∀ x ∈ w, x ≠ 32 := fun x hx e => h (e ▸ hx)
/-- Cells that hold these words. -/
def strs (l : List Tx.Bs) : List V := l.map V.str
theorem win_strs {b : Nat} {h : Hp} : ∀ (l : List Tx.Bs), Win eS b h (strs l) l
  | [] => trivial
  | s :: l => ⟨[.str s], strs l, rfl, rfl, win_strs l⟩
theorem repl_str (n : Nat) : repl n (V.str []).cells = strs (List.replicate n []) := by
  rw [show (V.str []).cells = [V.str []] from rfl, repl_one]
  simp [strs]
theorem ct_Split {s : Tx.Bs} {h : Hp} {Q : V → Hp → Prop} (hs : s.length < 1000000000) (H : ∀ v h', Grows h h' → h'.next = h.next + 1 → SlR eS h'.next h' (Tx.split 32 s) v → Q v h') : cP CS n_strings_Split [.str s, .str [32]] h Q := by
  refine c_strings_Split rfl rfl ?_
  unfold B_strings_Split
  refine c_strings_genSplit rfl rfl ?_
  unfold B_strings_genSplit
  have e0 : ((-1 : Int) == 0) = false := rfl
  have e1 : (([32] : List UInt8) == []) = false := rfl
  have e2 : decide ((-1 : Int) < 0) = true := rfl
  simp only [hbin_eql, oP_some', bP_bool', e0, Bool.false_eq_true, if_false, hbin_eqlS, e1, hbin_lss, e2, if_true]
  refine ct_Count ?_
  have hc := count_le s
  have w1 : wrapF .i64 ((s.count 32 : Nat) + 1) = ((s.count 32 + 1 : Nat) : Int) := by rw [wrapF_in (by simp only [inK]; omega)]; omega
  have w2 : wrapF .i64 ((s.length : Nat) + 1) = ((s.length + 1 : Nat) : Int) := by rw [wrapF_in (by simp only [inK]; omega)]; omega
  simp only [hbin_add, oP_some', w1]
  refine j_strings_genSplit_R8 ?_
  unfold B_strings_genSplit_R8
  have e3 : min ((s.count 32 + 1 : Nat) : Int) ((s.length + 1 : Nat) : Int) = ((s.count 32 + 1 : Nat) : Int) := by omega
  have w3 : wrapF .i64 (((s.count 32 + 1 : Nat) : Int) - 1) = ((s.count 32 : Nat) : Int) := by rw [wrapF_in (by simp only [inK]; omega)]; omega
  simp only [pLenS_str, oP_some', hbin_add, w2, hmin_one, Bool.false_eq_true, if_false, e3, hmakeSlice_of (e := 9) (sz := 1) (by_ := 16) (n := s.count 32 + 1) (z := V.str []) (by omega) (by omega), alP_some, hbin_sub, w3, repl_str]
  generalize hN : s.count 32 = N at *
  refine l_strings_genSplit_L0 (fun k x0 x1 x2 x3 x9 x10 h' => ∃ (l : List Tx.Bs) (r : Tx.Bs), Tx.split 32 s = l ++ Tx.split 32 r ∧ l.length + r.count 32 = N ∧ r.length ≤ s.length ∧ k = r.count 32 ∧ x0 = .str r ∧ x1 = .str [32] ∧ x2 = .int .i64 0 ∧ x3 = .int .i64 (N : Nat) ∧
    x9 = .slice h.next 0 (N + 1) ∧ x10 = .int .i64 (l.length : Nat) ∧ Grows h h' ∧ h'.next = h.next + 1 ∧ h'.get h.next = some (.cells 9 1 true false (strs (l ++ List.replicate (N + 1 - l.length) [])))) ?_
    ⟨[], s, rfl, by simpa using hN, Nat.le_refl _, rfl, rfl, rfl, rfl, rfl, rfl, rfl, Chg.new _ _, rfl, get_new_self _ _⟩
  rintro k x0 x1 x2 x3 x9 x10 h' ⟨l, r, h1, h2, h3, rfl, rfl, rfl, rfl, rfl, rfl, rfl, hg, hn, hr⟩
  have hlN : l.length ≤ N := by omega
  have hlt : h.next < h'.next := by omega
  -- the last word
  have key : r.count 32 = 0 → B_strings_genSplit_R13 CS (fun v7 h1 => Q v7 h1) (.str r) (.slice h.next 0 (N + 1)) (.int .i64 (l.length : Nat)) h' := by
    intro h0
    have hr0 : Tx.split 32 r = [r] := Tx.split_last 32 r (ne_of_not_mem (List.count_eq_zero.1 h0))
    have hl : l.length = N := by omega
    have w4 : wrapF .i64 ((l.length : Nat) + 1) = ((N + 1 : Nat) : Int) := by rw [wrapF_in (by simp only [inK]; omega)]; omega
    have e4 : pIx 1 (.slice h.next 0 (N + 1)) (.int .i64 (l.length : Nat)) = some (.ptr h.next l.length) := by rw [pIx_slice _ _ _ _ _ _ (by omega)]; simp
    have e5 := pSt_at (v := .str r) hr (o := l.length) (by simp [strs]; omega) rfl
    have hset : (strs (l ++ List.replicate (N + 1 - l.length) [])).set l.length (.str r) = strs (l ++ [r]) := by
      rw [hl, show N + 1 - N = 1 by omega]
      unfold strs
      rw [List.map_append, List.map_append, List.set_append_right _ _ (by simp; omega)]
      simp [hl]
    rw [hset] at e5
    have hsl : SlR eS h'.next (h'.put h.next (.cells 9 1 true false (strs (l ++ [r])))) (l ++ [r]) (.slice h.next 0 (N + 1)) :=
      .inr ⟨h.next, 0, 9, true, false, _, by simp [hl], hlt, get_put_self _ hlt, .inr rfl, Nat.zero_le _, win_strs _⟩
    obtain ⟨v', c1, c2⟩ := hsl.cut (lo := none) (hi := some (.int .i64 ((N + 1 : Nat) : Int))) (m := 0) (n := N + 1) rfl (hbound_at _ _ _) (Nat.zero_le _) (by simp [hl])
    unfold B_strings_genSplit_R13
    have c1' : hsliceV 1 (.slice h.next 0 (N + 1)) none (some (.int .i64 ((N + 1 : Nat) : Int))) (h'.put h.next (.cells 9 1 true false (strs (l ++ [r])))) = some v' := c1
    simp only [e4, oP_some', e5, valP_some, hbin_add, w4, c1']
    refine H _ _ (hg.trans' (Chg.put (S := fun m => m = h.next) _ rfl hlt) fun m hm e => by omega) hn ?_
    rw [h1, hr0]
    have : ((l ++ [r]).take (N + 1)).drop 0 = l ++ [r] := by rw [List.drop_zero, List.take_of_length_le (by simp [hl])]
    rw [this] at c2
    exact c2
  unfold B_strings_genSplit_L0
  simp only [hbin_lss, oP_some', bP_bool', decide_eq_true_eq]
  split
  · rename_i hlt2
    refine ct_Index ?_
    rcases indexB_split r 0 with ⟨g1, g2⟩ | ⟨w, r', g1, g2, g3⟩
    · exfalso
      have := List.count_eq_zero_of_not_mem g1
      omega
    · have e6 : idxI r = (w.length : Int) := by unfold idxI; rw [g3]; simp
      have hrl : r.length = w.length + 1 + r'.length := by rw [g1]; simp; omega
      have w5 : wrapF .i64 ((w.length : Nat) + 0) = ((w.length : Nat) : Int) := by rw [wrapF_in (by simp only [inK]; omega)]; omega
      have w6 : wrapF .i64 ((w.length : Nat) + (([32] : List UInt8).length : Nat)) = ((w.length + 1 : Nat) : Int) := by
        rw [wrapF_in (by simp only [inK, List.length_cons, List.length_nil]; omega)]; simp
      have w7 : wrapF .i64 ((l.length : Nat) + 1) = ((l.length + 1 : Nat) : Int) := by rw [wrapF_in (by simp only [inK]; omega)]; omega
      have e7 : decide ((w.length : Int) < 0) = false := decide_eq_false (by omega)
      have e8 : pIx 1 (.slice h.next 0 (N + 1)) (.int .i64 (l.length : Nat)) = some (.ptr h.next l.length) := by rw [pIx_slice _ _ _ _ _ _ (by omega)]; simp
      have e9 := pSt_at (v := .str (r.take w.length)) hr (o := l.length) (by simp [strs]; omega) rfl
      have t1 : r.take w.length = w := by rw [g1]; simp
      have t2 : r.drop (w.length + 1) = r' := by rw [g1]; simp
      simp only [e6, hbin_lss, oP_some', e7, bP_bool', Bool.false_eq_true, if_false, hbin_add, w5, hsliceS_to (show w.length ≤ r.length by omega), e8, e9, valP_some, pLenS_str, w6, hsliceS_from (show w.length + 1 ≤ r.length by omega), w7]
      rw [t1, t2]
      have hcnt : r.count 32 = r'.count 32 + 1 := by rw [g1]; exact count_split g2
      refine ⟨r'.count 32, by omega, l ++ [w], r', ?_, by simp; omega, by omega, rfl, by trivial, by trivial, by trivial, by trivial, by trivial, by simp, hg.trans' (Chg.put (S := fun m => m = h.next) _ rfl hlt) (fun m hm e => by omega), hn, ?_⟩
      · rw [h1, g1, Tx.split_word 32 w r' (ne_of_not_mem g2)]; simp
      · rw [get_put_self _ hlt]
        have : N + 1 - l.length = (N + 1 - (l ++ [w]).length) + 1 := by simp; omega
        rw [this]
        unfold strs
        rw [List.map_append, List.map_append, List.set_append_right _ _ (by simp)]
        simp [List.replicate_succ]
  · rename_i hge
    exact j_strings_genSplit_R13 (key (by omega))
end Go.Proofs.YtdpfhajggknfaaaGreatDoor.Hx
namespace Go.Proofs.YtdpfhajggknfaaaGreatDoor.Hx
open Go.Proofs.YtdpfhajggknfaaaGreatDoor

/-! ### events as cells -/
def evCells (e : Tx.Ev) (v : V) : List V := [.int .i64 e.kind, .int .i64 e.f, .int .i64 e.pc, .int .i64 e.n, .int .i64 e.cf, .int .i64 e.cpc, .int .i64 e.cy, .int .i64 e.cn, v]
def eT : Enc (Int × Int) := eP (eI .i64) (eI .i64)
def tyCells (l : List (Int × Int)) : List V := l.flatMap fun x => [.int .i64 x.1, .int .i64 x.2]
def tyIn (l : List (Int × Int)) : Prop := ∀ x ∈ l, inK .i64 x.1 ∧ inK .i64 x.2
theorem win_ty {b : Nat} {h : Hp} : ∀ (l : List (Int × Int)), tyIn l → Win eT b h (tyCells l) l
  | [], _ => trivial
  | x :: l, hi => ⟨[.int .i64 x.1, .int .i64 x.2], tyCells l, rfl, ⟨[.int .i64 x.1], [.int .i64 x.2], rfl, ⟨rfl, (hi x (by simp)).1⟩, ⟨rfl, (hi x (by simp)).2⟩⟩, win_ty l fun y hy => hi y (by simp [hy])⟩
theorem tyCells_append (l m : List (Int × Int)) : tyCells (l ++ m) = tyCells l ++ tyCells m := by simp [tyCells]
theorem tyCells_length (l : List (Int × Int)) : (tyCells l).length = l.length * 2 := by
  induction l with
  | nil => rfl
  | cons x l ih => simp only [tyCells, List.flatMap_cons, List.length_append, List.length_cons, List.length_nil] at ih ⊢; omega
theorem tyCells_one (l : List (Int × Int)) : allOne (tyCells l) = true := by
  induction l with
  | nil => rfl
  | cons x l ih =>
    have : tyCells (x :: l) = [.int .i64 x.1, .int .i64 x.2] ++ tyCells l := rfl
    rw [this, allOne_append, ih]; rfl
def parseR (s : Tx.Bs) : Tx.Ev × Int := match Tx.parseM s with
  | some e => (e, 0)
  | none => (Tx.ev0, 5)
/-- What comes of an event when all was read. -/
def fin (ws : List Tx.Bs) (ok : Bool) (e : Tx.Ev) : Tx.Ev × Int := if ok = true ∧ ws = [] ∧ e.ty.length ≤ 8 then (e, 0) else (Tx.ev0, 5)
/-- What comes of an event whose counts are still to be read. -/
def outC (ws : List Tx.Bs) (ok : Bool) (e : Tx.Ev) : Tx.Ev × Int := if ok = true then (match (Tx.readAll ws).bind Tx.pairs with
  | some ts => if (e.ty ++ ts).length ≤ 8 then ({ e with ty := e.ty ++ ts }, 0) else (Tx.ev0, 5)
  | none => (Tx.ev0, 5)) else (Tx.ev0, 5)
theorem outC_end {ws : List Tx.Bs} {ok : Bool} {e : Tx.Ev} (h : ok = false ∨ ws = []) : fin ws ok e = outC ws ok e := by
  unfold fin outC
  rcases h with rfl | rfl
  · simp
  · cases ok with
    | false => simp
    | true =>
      simp only [Tx.readAll, Option.bind_some, Tx.pairs, List.append_nil, if_true, true_and]
theorem pairs_cons2 (a b : Int) (l : List Int) : Tx.pairs (a :: b :: l) = (Tx.pairs l).map ((a, b) :: ·) := rfl
theorem outC_step {ws : List Tx.Bs} {e : Tx.Ev} (h : ws ≠ []) : outC ws true e = outC (nextM (nextM ws true).2.1 (nextM ws true).2.2).2.1 (nextM (nextM ws true).2.1 (nextM ws true).2.2).2.2 { e with ty := e.ty ++ [((nextM ws true).1, (nextM (nextM ws true).2.1 (nextM ws true).2.2).1)] } := by
  match ws, h with
  | [w], _ =>
    cases hw : Tx.pInt w <;> simp [outC, nextM, Tx.readAll, hw, Tx.pairs]
  | w :: w' :: r, _ =>
    cases hw : Tx.pInt w with
    | none => simp [outC, nextM, Tx.readAll, hw]
    | some n =>
      cases hw' : Tx.pInt w' with
      | none => simp [outC, nextM, Tx.readAll, hw, hw']
      | some n' =>
        cases hr : Tx.readAll r with
        | none => simp [outC, nextM, Tx.readAll, hw, hw', hr]
        | some ns =>
          cases hp : Tx.pairs ns with
          | none => simp [outC, nextM, Tx.readAll, hw, hw', hr, pairs_cons2, hp]
          | some ts => simp [outC, nextM, Tx.readAll, hw, hw', hr, pairs_cons2, hp]
theorem pInt_in {w : Tx.Bs} : inK .i64 ((Tx.pInt w).getD 0) := by
  cases h : Tx.pInt w with
  | none => simp [inK]
  | some n =>
    have := (Tx.itoa_pInt h).2
    simp only [Option.getD_some, inK]; omega
theorem nextM_in (ws : List Tx.Bs) (ok : Bool) : inK .i64 (nextM ws ok).1 := by
  cases ws with
  | nil => simp [nextM, inK]
  | cons w r => exact pInt_in
theorem nextM_len (ws : List Tx.Bs) (ok : Bool) : (nextM ws ok).2.1.length = ws.length - 1 := by
  cases ws <;> rfl

/-! ### the walk -/
/-- Where the parts of Parse lie: the result, the words, the event, its counts. -/
structure PSt (l2 l4 l5 : Nat) (h : Hp) (ws : List Tx.Bs) (ok : Bool) (e : Tx.Ev) (v : V) : Prop where
  words : WsAt l4 h ws ok
  sm : small ws
  ev : h.get l5 = some (.cells 26 1 true false (evCells e v))
  l24 : l2 < l4
  l45 : l4 < l5
  l5n : l5 < h.next
  res : ∃ cs, h.get l2 = some (.cells 26 1 true false cs) ∧ cs.length = 9
  own : Own 60 2 (l5 + 1) h (tyCells e.ty) e.ty.length v
  tin : tyIn e.ty
theorem evCells_len (e : Tx.Ev) (v : V) : (evCells e v).length = 9 := rfl
theorem evCells_one (e : Tx.Ev) {v : V} (h : v.one = true) : allOne (evCells e v) = true := by
  unfold evCells
  simp only [allOne_cons, h, allOne_nil, Bool.and_true]
  rfl
theorem pS_R4 {l2 l4 l5 : Nat} {h : Hp} {ws : List Tx.Bs} {ok : Bool} {e : Tx.Ev} {v : V} {Q : V → Hp → Prop} (hp : PSt l2 l4 l5 h ws ok e v)
    (H : ∀ v' h', Chg (fun m => m = l2) h h' → SlR eT h'.next h' (fin ws ok e).1.ty v' → Q (.tuple [.agg (evCells (fin ws ok e).1 v'), .int .i64 (fin ws ok e).2]) h') :
    J_script_Parse_R4 CS Q (.ptr l2 0) (.ptr l4 0) (.ptr l5 0) h := by
  obtain ⟨⟨e1, sz1, wv, hg, hl, hs⟩, hsm, hev, h24, h45, h5n, ⟨cs, hres, hcs⟩, hown, htin⟩ := hp
  refine j_script_Parse_R4 ?_
  unfold B_script_Parse_R4
  have g1 : pLd (.ptr l4 1) h = some (.bool ok) := pLd_get hg rfl
  have g0 : pLd (.ptr l4 0) h = some wv := pLd_get hg rfl
  have g8 : pLd (.ptr l5 8) h = some v := pLd_get hev rfl
  have l2n : l2 < h.next := by omega
  simp only [pNil_ptr, oP_some', pFA_ptr, Nat.zero_add, g1, hun_not, oB_some', g0, hs.len, hbin_gtr, pOr_bool, Nat.reduceAdd, g8, hown.len, bP_bool']
  split
  · rename_i hb
    have hf : fin ws ok e = (Tx.ev0, 5) := by
      unfold fin
      rw [if_neg]
      rintro ⟨rfl, rfl, h8⟩
      simp only [Bool.not_true, List.length_nil, Bool.false_or, Bool.or_eq_true, decide_eq_true_eq] at hb
      omega
    rw [hf] at H
    have b1 : pBuild [(V.int .i64 0), (V.int .i64 0), (V.int .i64 0), (V.int .i64 0), (V.int .i64 0), (V.int .i64 0), (V.int .i64 0), (V.int .i64 0), V.nilSlice] [(0, 1), (1, 1), (2, 1), (3, 1), (4, 5)] [] = some (.agg (evCells Tx.ev0 .nilSlice)) := rfl
    have s1 := pSt_all (ws := evCells Tx.ev0 .nilSlice) (n := 9) hres rfl hcs rfl
    have r1 := pLdA_all (n := 9) (get_put_self (h := h) (.cells 26 1 true false (evCells Tx.ev0 .nilSlice)) l2n) rfl
    simp only [b1, oP_some', s1, valP_some, r1]
    exact H _ _ (Chg.put _ rfl l2n) SlR.nil
  · rename_i hb
    simp only [Bool.or_eq_true, Bool.not_eq_true', decide_eq_true_eq, not_or] at hb
    have hf : fin ws ok e = (e, 0) := by
      unfold fin
      rw [if_pos]
      refine ⟨by simpa using hb.1.1, List.eq_nil_of_length_eq_zero (by omega), by omega⟩
    rw [hf] at H
    have r0 := pLdA_all (n := 9) hev rfl
    have s1 := pSt_all (ws := evCells e v) (n := 9) hres rfl hcs (evCells_one e hown.one)
    have r1 := pLdA_all (n := 9) (get_put_self (h := h) (.cells 26 1 true false (evCells e v)) l2n) rfl
    simp only [r0, oP_some', s1, valP_some, r1]
    have hc : Chg (fun m => m = l2) h (h.put l2 (.cells 26 1 true false (evCells e v))) := Chg.put _ rfl l2n
    exact H _ _ hc ((hown.chg hc fun m hm _ e => by omega).slR (E := eT) (Nat.le_refl _) (win_ty _ htin))
/-- Numbers are read into places of the event. -/
theorem pS_row {l2 l4 l5 : Nat} {h : Hp} {ws : List Tx.Bs} {ok : Bool} {e : Tx.Ev} {v : V} {os : List Nat} {Q : V → Hp → Prop} (hp : PSt l2 l4 l5 h ws ok e v) (h8 : os.length ≤ 8) (ho : ∀ o ∈ os, o < 8)
    (H : ∀ h', Chg (fun k => k = l4 ∨ k = l5) (h.new (.cells 58 1 true false (os.map fun o => V.ptr l5 o))) h' → WsAt l4 h' (rowM os ws ok (evCells e v)).1 (rowM os ws ok (evCells e v)).2.1 → h'.get l5 = some (.cells 26 1 true false (rowM os ws ok (evCells e v)).2.2) →
      (∃ cs, h'.get l2 = some (.cells 26 1 true false cs) ∧ cs.length = 9) → l5 < h'.next → Own 60 2 (l5 + 1) h' (tyCells e.ty) e.ty.length v → Q (.tuple []) h') :
    cP CS n_script_words_row [.ptr l4 0, .func n_script_words_int [.ptr l4 0] [], .slice h.next 0 os.length] (h.new (.cells 58 1 true false (os.map fun o => V.ptr l5 o))) Q := by
  obtain ⟨hw, hsm, hev, h24, h45, h5n, ⟨cs, hres, hcs⟩, hown, htin⟩ := hp
  have l4n : l4 < h.next := by omega
  have hg : Grows h (h.new (.cells 58 1 true false (os.map fun o => V.ptr l5 o))) := Chg.new _ _
  refine ct_row (p := h.next) (m := l5) (cs := evCells e v) (hw.chg hg fun _ _ h => h) hsm (by rw [get_new_lt _ h5n]; exact hev) h45 (by simp; omega) (fun o ho' => by rw [evCells_len]; have := ho o ho'; omega) h8 (get_new_self _ _) (by omega) (by omega) (by simp) fun h' hc hn hw' hm' => ?_
  refine H h' hc hw' hm' ⟨cs, ?_, hcs⟩ (by rw [hn]; simp; omega) ?_
  · rw [hc.keep l2 (by simp; omega) (by omega), get_new_lt _ (by omega)]; exact hres
  · exact (hown.chg hg fun _ _ _ h => h).chg hc fun m hm _ => by omega
theorem readAll_one (w : Tx.Bs) : Tx.readAll [w] = (Tx.pInt w).map fun n => [n] := by
  cases h : Tx.pInt w <;> simp [Tx.readAll, h]
theorem split_small {c : UInt8} : ∀ (s : Tx.Bs), (∀ w ∈ Tx.split c s, w.length ≤ s.length) ∧ (Tx.split c s).length ≤ s.length + 1
  | [] => by simp [Tx.split]
  | x :: s => by
    obtain ⟨h1, h2⟩ := split_small (c := c) s
    unfold Tx.split
    cases x == c with
    | true =>
      simp only [cond_true, List.mem_cons, List.length_cons]
      refine ⟨fun w hw => ?_, by omega⟩
      rcases hw with rfl | hw
      · simp
      · have := h1 w hw; omega
    | false =>
      simp only [cond_false]
      cases hs : Tx.split c s with
      | nil => exact absurd hs (Tx.split_ne c s)
      | cons w ws =>
        rw [hs] at h1 h2
        simp only [List.mem_cons, List.length_cons] at h1 h2 ⊢
        refine ⟨fun u hu => ?_, by omega⟩
        rcases hu with rfl | hu
        · have := h1 w (.inl rfl); simp; omega
        · have := h1 u (.inr hu); omega
end Go.Proofs.YtdpfhajggknfaaaGreatDoor.Hx
namespace Go.Proofs.YtdpfhajggknfaaaGreatDoor.Hx
open Go.Proofs.YtdpfhajggknfaaaGreatDoor

theorem grows_trans {h h' h'' : Hp} {S : Nat → Prop} (a : Grows h h') (b : Chg S h' h'') (hS : ∀ l, l < h.next → ¬ S l) : Grows h h'' := a.trans' b fun l hl hs => hS l hl hs
def toR : Option Tx.Ev → Tx.Ev × Int
  | some e => (e, 0)
  | none => (Tx.ev0, 5)
def restR (k : Nat) (ws : List Tx.Bs) : Tx.Ev × Int := toR ((Tx.readAll ws).bind (Tx.evOf k))
theorem parseR_eq {s : Tx.Bs} {w : Tx.Bs} {ws : List Tx.Bs} (h : Tx.split 32 s = w :: ws) : parseR s = restR (Tx.kindOf w) ws := by
  unfold parseR restR Tx.parseM
  rw [h]
  simp only
  cases Tx.readAll ws with
  | none => rfl
  | some ns =>
    simp only [Option.bind_some]
    cases Tx.evOf (Tx.kindOf w) ns <;> rfl
theorem finA {k : Nat} {mk : Int → Tx.Ev} (h0 : Tx.evOf k [] = none) (h1 : ∀ a, Tx.evOf k [a] = some (mk a)) (h2 : ∀ a b l, Tx.evOf k (a :: b :: l) = none) (ht : ∀ a, (mk a).ty = []) (ws : List Tx.Bs) :
    fin (nextM ws true).2.1 (nextM ws true).2.2 (mk (nextM ws true).1) = restR k ws := by
  match ws with
  | [] => simp [fin, restR, nextM, Tx.readAll, h0, toR]
  | [w] => cases hw : Tx.pInt w <;> simp [fin, restR, nextM, Tx.readAll, hw, h1, toR, ht]
  | w :: w' :: r =>
    cases hw : Tx.pInt w with
    | none => simp [fin, restR, nextM, Tx.readAll, hw, toR]
    | some n =>
      cases hw' : Tx.pInt w' with
      | none => simp [fin, restR, nextM, Tx.readAll, hw, hw', toR]
      | some n' =>
        cases hr : Tx.readAll r <;> simp [fin, restR, nextM, Tx.readAll, hw, hw', hr, toR, h2]
theorem finB {k : Nat} {mk : Int → Int → Tx.Ev} (h0 : Tx.evOf k [] = none) (h1 : ∀ a, Tx.evOf k [a] = none) (h2 : ∀ a b, Tx.evOf k [a, b] = some (mk a b)) (h3 : ∀ a b c l, Tx.evOf k (a :: b :: c :: l) = none) (ht : ∀ a b, (mk a b).ty = []) (ws : List Tx.Bs) :
    fin (nextM (nextM ws true).2.1 (nextM ws true).2.2).2.1 (nextM (nextM ws true).2.1 (nextM ws true).2.2).2.2 (mk (nextM ws true).1 (nextM (nextM ws true).2.1 (nextM ws true).2.2).1) = restR k ws := by
  match ws with
  | [] => simp [fin, restR, nextM, Tx.readAll, h0, toR]
  | [w] => cases hw : Tx.pInt w <;> simp [fin, restR, nextM, Tx.readAll, hw, h1, toR]
  | [w, w'] =>
    cases hw : Tx.pInt w <;> cases hw' : Tx.pInt w' <;> simp [fin, restR, nextM, Tx.readAll, hw, hw', h2, toR, ht]
  | w :: w' :: w'' :: r =>
    cases hw : Tx.pInt w with
    | none => simp [fin, restR, nextM, Tx.readAll, hw, toR]
    | some n =>
      cases hw' : Tx.pInt w' with
      | none => simp [fin, restR, nextM, Tx.readAll, hw, hw', toR]
      | some n' =>
        cases hw'' : Tx.pInt w'' with
        | none => simp [fin, restR, nextM, Tx.readAll, hw, hw', hw'', toR]
        | some n'' => cases hr : Tx.readAll r <;> simp [fin, restR, nextM, Tx.readAll, hw, hw', hw'', hr, toR, h3]
def mkC (a b c d : Int) : Tx.Ev := { Tx.ev0 with kind := 6, cf := a, cpc := b, cy := c, cn := d }
/-- Behind four numbers. -/
theorem outC_four (ws : List Tx.Bs) : (let r1 := nextM ws true; let r2 := nextM r1.2.1 r1.2.2; let r3 := nextM r2.2.1 r2.2.2; let r4 := nextM r3.2.1 r3.2.2; outC r4.2.1 r4.2.2 (mkC r1.1 r2.1 r3.1 r4.1)) = restR 6 ws := by
  have key : ∀ (a b c d : Int) (l : List Int), Tx.evOf 6 (a :: b :: c :: d :: l) = match Tx.pairs l with
      | some ts => if ts.length ≤ 8 then some { mkC a b c d with ty := ts } else none
      | none => none := fun _ _ _ _ _ => rfl
  match ws with
  | [] => rfl
  | [w] => cases hw : Tx.pInt w <;> simp [outC, restR, nextM, Tx.readAll, hw, Tx.evOf, toR]
  | [w, w'] => cases hw : Tx.pInt w <;> cases hw' : Tx.pInt w' <;> simp [outC, restR, nextM, Tx.readAll, hw, hw', Tx.evOf, toR]
  | [w, w', w''] => cases hw : Tx.pInt w <;> cases hw' : Tx.pInt w' <;> cases hw'' : Tx.pInt w'' <;> simp [outC, restR, nextM, Tx.readAll, hw, hw', hw'', Tx.evOf, toR]
  | w :: w' :: w'' :: u :: r =>
    cases hw : Tx.pInt w with
    | none => simp [outC, restR, nextM, Tx.readAll, hw, toR]
    | some n =>
      cases hw' : Tx.pInt w' with
      | none => simp [outC, restR, nextM, Tx.readAll, hw, hw', toR]
      | some n' =>
        cases hw'' : Tx.pInt w'' with
        | none => simp [outC, restR, nextM, Tx.readAll, hw, hw', hw'', toR]
        | some n'' =>
          cases hu : Tx.pInt u with
          | none => simp [outC, restR, nextM, Tx.readAll, hw, hw', hw'', hu, toR]
          | some m =>
            cases hr : Tx.readAll r with
            | none => simp [outC, restR, nextM, Tx.readAll, hw, hw', hw'', hu, hr, toR]
            | some ns =>
              simp only [outC, restR, nextM, Tx.readAll, hw, hw', hw'', hu, hr, Option.map_some, Option.bind_some, Option.getD_some, Option.isSome_some, Bool.and_self, if_true, key]
              cases hp : Tx.pairs ns with
              | none => rfl
              | some ts =>
                by_cases hl : ts.length ≤ 8 <;> simp [hl, toR, mkC, Tx.ev0]
theorem pS_L0 {l2 l4 l5 : Nat} {h : Hp} {ws : List Tx.Bs} {ok : Bool} {e : Tx.Ev} {v : V} {Q : V → Hp → Prop} (hp : PSt l2 l4 l5 h ws ok e v) (hb : e.ty.length + ws.length ≤ 2000000000)
    (H : ∀ v' h', Chg (fun m => m = l2 ∨ l4 ≤ m) h h' → SlR eT h'.next h' (outC ws ok e).1.ty v' → Q (.tuple [.agg (evCells (outC ws ok e).1 v'), .int .i64 (outC ws ok e).2]) h') :
    J_script_Parse_L0 CS Q (.ptr l2 0) (.ptr l4 0) (.ptr l5 0) h := by
  refine l_script_Parse_L0 (fun k x2 x4 x5 h' => ∃ ws' ok' e' v', k = ws'.length ∧ x2 = .ptr l2 0 ∧ x4 = .ptr l4 0 ∧ x5 = .ptr l5 0 ∧ PSt l2 l4 l5 h' ws' ok' e' v' ∧ e'.ty.length + ws'.length ≤ 2000000000 ∧ outC ws' ok' e' = outC ws ok e ∧ Chg (fun m => m = l2 ∨ l4 ≤ m) h h') ?_
    ⟨ws, ok, e, v, rfl, rfl, rfl, rfl, hp, hb, rfl, Chg.refl _ _⟩
  clear hp hb
  rintro k x2 x4 x5 h1 ⟨ws', ok', e', v', rfl, rfl, rfl, rfl, hp, hb, hout, hch⟩
  have hp0 := hp
  obtain ⟨⟨e1, sz1, wv, hg, hl, hs⟩, hsm, hev, h24, h45, h5n, ⟨cs, hres, hcs⟩, hown, htin⟩ := hp
  unfold B_script_Parse_L0
  have g1 : pLd (.ptr l4 1) h1 = some (.bool ok') := pLd_get hg rfl
  have g0 : pLd (.ptr l4 0) h1 = some wv := pLd_get hg rfl
  simp only [pNil_ptr, oP_some', pFA_ptr, Nat.zero_add, g1, oB_some', g0, hs.len, hbin_gtr, pAnd_bool, bP_bool']
  split
  · rename_i hc
    simp only [Bool.and_eq_true, decide_eq_true_eq] at hc
    obtain ⟨rfl, hne⟩ := hc
    have hne' : ws' ≠ [] := fun e => by subst e; simp at hne
    have hbs : pBS 58 1 2 V.nilPtr [(0, V.ptr h1.next 0), (1, V.ptr h1.next 1)] = some (.cells 58 1 true false ([0, 1].map fun o => V.ptr h1.next o), fun l => .slice l 0 2) := rfl
    simp only [alP_some, pFA_ptr, oP_some', Nat.zero_add, hbs]
    have hgA : Grows h1 (h1.new (.cells 60 1 true false [.int .i64 0, .int .i64 0])) := Chg.new _ _
    have hgB : Grows h1 ((h1.new (.cells 60 1 true false [.int .i64 0, .int .i64 0])).new (.cells 58 1 true false ([0, 1].map fun o => V.ptr h1.next o))) := hgA.trans (Chg.new _ _)
    refine ct_row (p := h1.next + 1) (os := [0, 1]) (m := h1.next) (cs := [.int .i64 0, .int .i64 0]) (hp0.words.chg hgB fun _ _ h => h) hsm (by rw [get_new_lt _ (by simp)]; exact get_new_self _ _) (by omega) (by simp; omega) (by simp) (by simp) (get_new_self (h1.new _) _) (by omega) (by omega) (by simp) fun h2 hc2 hn2 hw2 hm2 => ?_
    have hn2' : h2.next = h1.next + 2 := by rw [hn2]; rfl
    have hch2 : Chg (fun k => k = l4 ∨ k = h1.next) h1 h2 := hgB.weak.trans hc2
    have hev2 : h2.get l5 = some (.cells 26 1 true false (evCells e' v')) := by rw [hch2.keep l5 h5n (by omega)]; exact hev
    have hown2 : Own 60 2 (l5 + 1) h2 (tyCells e'.ty) e'.ty.length v' := hown.chg hch2 fun m hm _ => by omega
    have hres2 : h2.get l2 = some (.cells 26 1 true false cs) := by rw [hch2.keep l2 (by omega) (by omega)]; exact hres
    generalize hx1 : (nextM ws' true).1 = a1 at *
    have hrow : (rowM [0, 1] ws' true [V.int .i64 0, V.int .i64 0]).2.2 = [.int .i64 (nextM ws' true).1, .int .i64 (nextM (nextM ws' true).2.1 (nextM ws' true).2.2).1] := rfl
    rw [hrow, hx1] at hm2
    have g5 : pLd (.ptr l5 8) h2 = some v' := pLd_get hev2 rfl
    have gA : pLdA 2 (.ptr h1.next 0) h2 = some (.agg [.int .i64 a1, .int .i64 (nextM (nextM ws' true).2.1 (nextM ws' true).2.2).1]) := pLdA_all hm2 rfl
    generalize hx2 : (nextM (nextM ws' true).2.1 (nextM ws' true).2.2).1 = a2 at *
    have hbs2 : pBS 60 2 1 (.agg [.int .i64 0, .int .i64 0]) [(0, .agg [.int .i64 a1, .int .i64 a2])] = some (.cells 60 2 true false [.int .i64 a1, .int .i64 a2], fun l => .slice l 0 1) := rfl
    simp only [Nat.reduceAdd, g5, oP_some', gA, hbs2, alP_some]
    have hg3 : Grows h2 (h2.new (.cells 60 2 true false [.int .i64 a1, .int .i64 a2])) := Chg.new _ _
    obtain ⟨v3, h3, a, b, c, d, f⟩ := (hown2.chg hg3 fun _ _ _ h => h).append (by_ := 16) (xcells_new (k := 0) (sz := 2) (e := 60) (h := h2) (cs := [.int .i64 a1, .int .i64 a2]) (ro := false) rfl) (by omega) rfl (tyCells_one _) rfl (by simp; omega) (by omega) (by omega) (by omega)
    have hev3 : h3.get l5 = some (.cells 26 1 true false (evCells e' v')) := by
      rw [c.keep l5 (by simp; omega) (fun e9 => by
        rcases hown2 with ⟨rfl, _⟩ | ⟨t, rfl, ht, _⟩
        · cases e9
        · cases e9; omega), get_new_lt _ (by omega)]
      exact hev2
    have l5n3 : l5 < h3.next := by rw [d]; simp; omega
    have s1 := pSt_at (o := 8) (v := v3) hev3 (by simp [evCells]) (by rw [f]; rfl)
    have hset : (evCells e' v').set 8 v3 = evCells { e' with ty := e'.ty ++ [(a1, a2)] } v3 := rfl
    rw [hset] at s1
    simp only [a, valP_some, s1]
    have hput : Chg (fun m => m = l5) h3 (h3.put l5 (.cells 26 1 true false (evCells { e' with ty := e'.ty ++ [(a1, a2)] } v3))) := Chg.put _ rfl l5n3
    have hc13 : Chg (fun m => l4 ≤ m) h1 h3 := (hch2.weak fun m hm e => by omega).trans ((hg3.weak : Chg (fun m => l4 ≤ m) _ _).trans' c fun m hm e9 => by
      rcases hown2 with ⟨rfl, _⟩ | ⟨t, rfl, ht, _⟩
      · cases e9
      · cases e9; show l4 ≤ _; omega)
    have hc14 := hc13.trans (hput.weak fun m _ e => by omega)
    have hlen1 := nextM_len ws' true
    have hlen2 := nextM_len (nextM ws' true).2.1 (nextM ws' true).2.2
    have hpos : 0 < ws'.length := List.length_pos_iff.2 hne'
    refine ⟨_, ?_, (nextM (nextM ws' true).2.1 (nextM ws' true).2.2).2.1, (nextM (nextM ws' true).2.1 (nextM ws' true).2.2).2.2, _, v3, rfl, by trivial, by trivial, by trivial, ⟨?_, small_next (small_next hsm), get_put_self _ l5n3, h24, h45, l5n3, ⟨cs, ?_, hcs⟩, ?_, ?_⟩, ?_, ?_, hch.trans (hc14.weak fun m _ e => .inr e)⟩
    · omega
    · have hw3 : WsAt l4 h3 (nextM (nextM ws' true).2.1 (nextM ws' true).2.2).2.1 (nextM (nextM ws' true).2.1 (nextM ws' true).2.2).2.2 := (WsAt.chg hg3 (fun _ _ h => h) hw2).chg c fun m hm e9 => by
        rcases hown2 with ⟨rfl, _⟩ | ⟨t, rfl, ht, _⟩
        · cases e9
        · cases e9; omega
      exact hw3.chg hput fun m hm e9 => by omega
    · rw [hput.keep l2 (by omega) (by omega), c.keep l2 (by simp; omega) (fun e9 => by
        rcases hown2 with ⟨rfl, _⟩ | ⟨t, rfl, ht, _⟩
        · cases e9
        · cases e9; omega), get_new_lt _ (by omega)]
      exact hres2
    · have hty : tyCells (e'.ty ++ [(a1, a2)]) = tyCells e'.ty ++ [.int .i64 a1, .int .i64 a2] := by rw [tyCells_append]; rfl
      have hl : (e'.ty ++ [(a1, a2)]).length = e'.ty.length + (0 + 1) := by simp
      show Own 60 2 (l5 + 1) _ (tyCells (e'.ty ++ [(a1, a2)])) (e'.ty ++ [(a1, a2)]).length v3
      rw [hty, hl]
      exact b.chg hput fun m hm _ e9 => by omega
    · intro x hx
      rcases List.mem_append.1 hx with hx | hx
      · exact htin x hx
      · obtain rfl : x = (a1, a2) := by simpa using hx
        exact ⟨by rw [← hx1]; exact nextM_in _ _, by rw [← hx2]; exact nextM_in _ _⟩
    · simp; omega
    · rw [← hout, outC_step hne', hx1, hx2]
  · rename_i hc
    have hend : ok' = false ∨ ws' = [] := by
      simp only [Bool.and_eq_true, decide_eq_true_eq, not_and] at hc
      cases ok' with
      | false => exact .inl rfl
      | true =>
        right
        have := hc rfl
        exact List.eq_nil_of_length_eq_zero (by omega)
    refine pS_R4 hp0 fun v2 h2 hc2 hsl => ?_
    rw [outC_end hend, hout] at hsl ⊢
    exact H v2 h2 (hch.trans (hc2.weak fun m _ e => .inl e)) hsl
end Go.Proofs.YtdpfhajggknfaaaGreatDoor.Hx
namespace Go.Proofs.YtdpfhajggknfaaaGreatDoor.Hx
open Go.Proofs.YtdpfhajggknfaaaGreatDoor

theorem eqI (k m : Nat) : (((k : Nat) : Int) == (m : Int)) = decide (k = m) := by
  by_cases h : k = m
  · subst h; simp
  · have : ¬ ((k : Int) = m) := by omega
    simp [h, this]
theorem ct_Parse {s : Tx.Bs} {h : Hp} {Q : V → Hp → Prop} (hs : s.length < 1000000000)
    (H : ∀ v h', Grows h h' → SlR eT h'.next h' (parseR s).1.ty v → Q (.tuple [.agg (evCells (parseR s).1 v), .int .i64 (parseR s).2]) h') : cP CS n_script_Parse [.str s] h Q := by
  refine c_script_Parse rfl rfl ?_
  unfold B_script_Parse
  simp only [alP_some]
  refine ct_Split hs fun v8 h2 hg2 hn2 hsl2 => ?_
  have hn2' : h2.next = h.next + 2 := by rw [hn2]; rfl
  obtain ⟨w0, ws, hsp⟩ : ∃ w0 ws, Tx.split 32 s = w0 :: ws := by
    cases hq : Tx.split 32 s with
    | nil => exact absurd hq (Tx.split_ne 32 s)
    | cons w ws => exact ⟨w, ws, rfl⟩
  obtain ⟨hsm, hcnt⟩ := split_small (c := 32) s
  rw [hsp] at hsl2 hsm hcnt
  have hone := hsl2.one
  have b1 : pBuild [V.nilSlice, (V.bool false)] [(0, 1), (1, 1)] [(0, v8), (1, (V.bool true))] = some (.agg [v8, .bool true]) := by
    have hq := hsl2
    rcases hq with ⟨e, _⟩ | ⟨_, _, _, _, _, _, e, _⟩ <;> rw [e] <;> rfl
  have b2 : hbox 54 (.agg [v8, .bool true]) = some (.cells 54 1 true false [v8, .bool true], fun l => .ptr l 0) := by
    unfold hbox
    rw [bB_of _ (by simp only [V.cells, allOne_cons, hone, allOne_nil]; rfl)]
    rfl
  simp only [b1, oP_some', b2, alP_some]
  have hw3 : WsAt h2.next (h2.new (.cells 54 1 true false [v8, .bool true])) (w0 :: ws) true := ⟨54, 1, v8, get_new_self _ _, by simp, hsl2.keep fun m hm => get_new_lt _ hm⟩
  refine ct_next hw3 fun h4 hc4 hn4 hw4 => ?_
  have hn4' : h4.next = h.next + 3 := by rw [hn4]; simp; omega
  refine ct_kind ?_
  simp only [List.headD_cons]
  have hK := Tx.kindOf_le w0
  have hR := parseR_eq hsp
  generalize Tx.kindOf w0 = K at *
  have b3 : pBuild [(V.int .i64 0), (V.int .i64 0), (V.int .i64 0), (V.int .i64 0), (V.int .i64 0), (V.int .i64 0), (V.int .i64 0), (V.int .i64 0), V.nilSlice] [(0, 1), (1, 1), (2, 1), (3, 1), (4, 5)] [(0, V.int .i64 (K : Nat))] =
    some (.agg (evCells { Tx.ev0 with kind := (K : Nat) } .nilSlice)) := rfl
  have s1 := pSt_all (ws := evCells { Tx.ev0 with kind := (K : Nat) } .nilSlice) (n := 9) (get_new_self h4 (.cells 26 1 true false [(V.int .i64 0), (V.int .i64 0), (V.int .i64 0), (V.int .i64 0), (V.int .i64 0), (V.int .i64 0), (V.int .i64 0), (V.int .i64 0), V.nilSlice])) rfl rfl rfl
  simp only [b3, oP_some', alP_some, s1, valP_some, pFA_ptr, Nat.zero_add]
  have l5n : h4.next < (h4.new (.cells 26 1 true false [(V.int .i64 0), (V.int .i64 0), (V.int .i64 0), (V.int .i64 0), (V.int .i64 0), (V.int .i64 0), (V.int .i64 0), (V.int .i64 0), V.nilSlice])).next := by simp
  generalize hh5 : h4.new (.cells 26 1 true false [(V.int .i64 0), (V.int .i64 0), (V.int .i64 0), (V.int .i64 0), (V.int .i64 0), (V.int .i64 0), (V.int .i64 0), (V.int .i64 0), V.nilSlice]) = h5 at *
  have hg15 : Grows h4 h5 := by rw [← hh5]; exact Chg.new _ _
  have hn5 : h5.next = h.next + 4 := by rw [← hh5]; simp; omega
  have hput : Chg (fun m => m = h4.next) h5 (h5.put h4.next (.cells 26 1 true false (evCells { Tx.ev0 with kind := (K : Nat) } .nilSlice))) := Chg.put _ rfl l5n
  have hev : (h5.put h4.next (.cells 26 1 true false (evCells { Tx.ev0 with kind := (K : Nat) } .nilSlice))).get h4.next = some (.cells 26 1 true false (evCells { Tx.ev0 with kind := (K : Nat) } .nilSlice)) := get_put_self _ l5n
  have gk : pLd (.ptr h4.next 0) (h5.put h4.next (.cells 26 1 true false (evCells { Tx.ev0 with kind := (K : Nat) } .nilSlice))) = some (.int .i64 (K : Nat)) := pLd_get hev rfl
  have hn6 : (h5.put h4.next (.cells 26 1 true false (evCells { Tx.ev0 with kind := (K : Nat) } .nilSlice))).next = h.next + 4 := hn5
  generalize hh6 : h5.put h4.next (.cells 26 1 true false (evCells { Tx.ev0 with kind := (K : Nat) } .nilSlice)) = h6 at *
  have hG : Grows h h6 := by
    refine grows_trans (grows_trans (grows_trans (grows_trans ((Chg.new _ _ : Grows h _).trans hg2) (Chg.new (S := fun _ => False) h2 (.cells 54 1 true false [v8, .bool true])) (fun _ _ h => h)) hc4 fun l hl e => by omega) hg15 fun _ _ h => h) hput fun l hl e => by omega
  have hres : ∃ cs, h6.get h.next = some (.cells 26 1 true false cs) ∧ cs.length = 9 := by
    refine ⟨[(V.int .i64 0), (V.int .i64 0), (V.int .i64 0), (V.int .i64 0), (V.int .i64 0), (V.int .i64 0), (V.int .i64 0), (V.int .i64 0), V.nilSlice], ?_, rfl⟩
    rw [hput.keep _ (by omega) (by omega), hg15.keep _ (by omega) (fun h => h), hc4.keep _ (by simp; omega) (by omega), get_new_lt _ (by omega), hg2.keep _ (by simp) (fun h => h)]
    exact get_new_self _ _
  have hP : PSt h.next h2.next h4.next h6 ws true { Tx.ev0 with kind := (K : Nat) } .nilSlice :=
    ⟨by
      have := (WsAt.chg hg15 (fun _ _ h => h) hw4).chg hput fun m hm e => by omega
      simpa using this, fun w hw => by have := hsm w (by simp [hw]); omega, hev, by omega, by omega, by omega, hres, Own.nil, fun x hx => by cases hx⟩
  -- what is left behind the numbers
  have done : ∀ {os : List Nat} {e' : Tx.Ev} {ws' : List Tx.Bs} {ok' : Bool}, os.length ≤ 8 → (∀ o ∈ os, o < 8) → (rowM os ws true (evCells { Tx.ev0 with kind := (K : Nat) } .nilSlice)).2.2 = evCells e' .nilSlice → e'.ty = [] →
      fin (rowM os ws true (evCells { Tx.ev0 with kind := (K : Nat) } .nilSlice)).1 (rowM os ws true (evCells { Tx.ev0 with kind := (K : Nat) } .nilSlice)).2.1 e' = parseR s → small (rowM os ws true (evCells { Tx.ev0 with kind := (K : Nat) } .nilSlice)).1 →
      cP CS n_script_words_row [.ptr h2.next 0, .func n_script_words_int [.ptr h2.next 0] [], .slice h6.next 0 os.length] (h6.new (.cells 58 1 true false (os.map fun o => V.ptr h4.next o))) fun v27 h2_1 => J_script_Parse_R4 CS Q (.ptr h.next 0) (.ptr h2.next 0) (.ptr h4.next 0) h2_1 := by
    intro os e' _ _ h8 ho hrow hty hfin hsm'
    refine pS_row hP h8 ho fun h7 hc7 hw7 hev7 hres7 h57 hown7 => ?_
    rw [hrow] at hev7
    refine pS_R4 (ws := (rowM os ws true (evCells { Tx.ev0 with kind := (K : Nat) } .nilSlice)).1) (ok := (rowM os ws true (evCells { Tx.ev0 with kind := (K : Nat) } .nilSlice)).2.1) (e := e') (v := .nilSlice)
      ⟨hw7, hsm', hev7, by omega, by omega, h57, hres7, by rw [hty]; exact Own.nil, by rw [hty]; exact fun x hx => by cases hx⟩ fun v' h8' hc8 hsl8 => ?_
    rw [hfin] at hsl8 ⊢
    refine H v' h8' ?_ hsl8
    exact grows_trans (grows_trans (grows_trans hG (Chg.new (S := fun _ => False) h6 _) fun _ _ h => h) hc7 fun l hl e => by omega) hc8 fun l hl e => by omega
  have hsmw : small ws := hP.sm
  have hx1 : ∀ a b : V, pBS 58 1 1 V.nilPtr [(0, a)] = bB true (pBS 58 1 1 V.nilPtr [(0, a)]) := fun _ _ => rfl
  have p1 : ∀ l o, pBS 58 1 1 V.nilPtr [(0, V.ptr l o)] = some (.cells 58 1 true false ([o].map fun o => V.ptr l o), fun l => .slice l 0 1) := fun _ _ => rfl
  have p2 : ∀ l o o', pBS 58 1 2 V.nilPtr [(0, V.ptr l o), (1, V.ptr l o')] = some (.cells 58 1 true false ([o, o'].map fun o => V.ptr l o), fun l => .slice l 0 2) := fun _ _ _ => rfl
  have p4 : ∀ l a b c d, pBS 58 1 4 V.nilPtr [(0, V.ptr l a), (1, V.ptr l b), (2, V.ptr l c), (3, V.ptr l d)] = some (.cells 58 1 true false ([a, b, c, d].map fun o => V.ptr l o), fun l => .slice l 0 4) := fun _ _ _ _ _ => rfl
  have hcase : K = 0 ∨ K = 1 ∨ K = 2 ∨ K = 3 ∨ K = 4 ∨ K = 5 ∨ K = 6 ∨ K = 7 := by omega
  have q (a b : Int) : hbin .eql 3 (.int .i64 a) (.int .i64 b) = some (.bool (a == b)) := hbin_eql 3 .i64 a b
  clear hK
  rcases hcase with rfl | rfl | rfl | rfl | rfl | rfl | rfl | rfl
  · -- none
    simp (config := { decide := true }) only [gk, oP_some', q, bP_bool', if_false]
    refine j_script_Parse_R6 ?_
    unfold B_script_Parse_R6
    simp (config := { decide := true }) only [oP_some', q, bP_bool', if_false]
    refine j_script_Parse_R11 ?_
    unfold B_script_Parse_R11
    simp (config := { decide := true }) only [oP_some', q, bP_bool', if_false]
    obtain ⟨cs, hr1, hr2⟩ := hres
    have l2n : h.next < h6.next := by omega
    have s2 := pSt_all (ws := evCells Tx.ev0 .nilSlice) (n := 9) hr1 rfl hr2 rfl
    have r1 := pLdA_all (n := 9) (get_put_self (h := h6) (.cells 26 1 true false (evCells Tx.ev0 .nilSlice)) l2n) rfl
    have b9 : pBuild [(V.int .i64 0), (V.int .i64 0), (V.int .i64 0), (V.int .i64 0), (V.int .i64 0), (V.int .i64 0), (V.int .i64 0), (V.int .i64 0), V.nilSlice] [(0, 1), (1, 1), (2, 1), (3, 1), (4, 5)] [] = some (.agg (evCells Tx.ev0 .nilSlice)) := rfl
    simp only [b9, oP_some', s2, valP_some, r1]
    have hz : restR 0 ws = (Tx.ev0, 5) := by
      unfold restR
      cases Tx.readAll ws with
      | none => rfl
      | some ns => rw [Option.bind_some, Tx.evOf_zero]; rfl
    rw [hR, hz] at H
    exact H .nilSlice _ (grows_trans hG (Chg.put (S := fun m => m = h.next) _ rfl l2n) fun l hl e => by omega) SlR.nil
  · simp (config := { decide := true }) only [gk, oP_some', q, bP_bool', if_true, if_false]
    refine j_script_Parse_R6 ?_
    unfold B_script_Parse_R6
    simp only [bP_bool', if_true, pFA_ptr, oP_some', Nat.zero_add, p1, alP_some]
    exact done (os := [3]) (ws' := []) (ok' := true) (e' := { Tx.ev0 with kind := 1, n := (nextM ws true).1 }) (by simp) (by simp) rfl rfl (by rw [hR]; exact finA (k := 1) (mk := fun a => { Tx.ev0 with kind := 1, n := a }) rfl (fun _ => rfl) (fun _ _ _ => rfl) (fun _ => rfl) ws) (small_next hsmw)
  · simp (config := { decide := true }) only [gk, oP_some', q, bP_bool', if_true, if_false]
    refine j_script_Parse_R6 ?_
    unfold B_script_Parse_R6
    simp (config := { decide := true }) only [oP_some', q, bP_bool', if_true, if_false]
    refine j_script_Parse_R11 ?_
    unfold B_script_Parse_R11
    simp only [bP_bool', if_true, pFA_ptr, oP_some', Nat.zero_add, p2, alP_some]
    exact done (os := [1, 2]) (ws' := []) (ok' := true) (e' := { Tx.ev0 with kind := 2, f := (nextM ws true).1, pc := (nextM (nextM ws true).2.1 (nextM ws true).2.2).1 }) (by simp) (by simp) rfl rfl (by rw [hR]; exact finB (k := 2) (mk := fun a b => { Tx.ev0 with kind := 2, f := a, pc := b }) rfl (fun _ => rfl) (fun _ _ => rfl) (fun _ _ _ _ => rfl) (fun _ _ => rfl) ws) (small_next (small_next hsmw))
  · simp (config := { decide := true }) only [gk, oP_some', q, bP_bool', if_true, if_false]
    refine j_script_Parse_R6 ?_
    unfold B_script_Parse_R6
    simp only [bP_bool', if_true, pFA_ptr, oP_some', Nat.zero_add, p1, alP_some]
    exact done (os := [3]) (ws' := []) (ok' := true) (e' := { Tx.ev0 with kind := 3, n := (nextM ws true).1 }) (by simp) (by simp) rfl rfl (by rw [hR]; exact finA (k := 3) (mk := fun a => { Tx.ev0 with kind := 3, n := a }) rfl (fun _ => rfl) (fun _ _ _ => rfl) (fun _ => rfl) ws) (small_next hsmw)
  · simp (config := { decide := true }) only [gk, oP_some', q, bP_bool', if_true, if_false]
    refine j_script_Parse_R6 ?_
    unfold B_script_Parse_R6
    simp (config := { decide := true }) only [oP_some', q, bP_bool', if_true, if_false]
    refine j_script_Parse_R11 ?_
    unfold B_script_Parse_R11
    simp only [bP_bool', if_true, pFA_ptr, oP_some', Nat.zero_add, p2, alP_some]
    exact done (os := [1, 2]) (ws' := []) (ok' := true) (e' := { Tx.ev0 with kind := 4, f := (nextM ws true).1, pc := (nextM (nextM ws true).2.1 (nextM ws true).2.2).1 }) (by simp) (by simp) rfl rfl (by rw [hR]; exact finB (k := 4) (mk := fun a b => { Tx.ev0 with kind := 4, f := a, pc := b }) rfl (fun _ => rfl) (fun _ _ => rfl) (fun _ _ _ _ => rfl) (fun _ _ => rfl) ws) (small_next (small_next hsmw))
  · simp (config := { decide := true }) only [gk, oP_some', q, bP_bool', if_true, if_false]
    refine j_script_Parse_R6 ?_
    unfold B_script_Parse_R6
    simp (config := { decide := true }) only [oP_some', q, bP_bool', if_true, if_false]
    refine j_script_Parse_R11 ?_
    unfold B_script_Parse_R11
    simp (config := { decide := true }) only [oP_some', q, bP_bool', if_true, if_false, pFA_ptr, Nat.zero_add, p1, alP_some]
    exact done (os := [1]) (ws' := []) (ok' := true) (e' := { Tx.ev0 with kind := 5, f := (nextM ws true).1 }) (by simp) (by simp) rfl rfl (by rw [hR]; exact finA (k := 5) (mk := fun a => { Tx.ev0 with kind := 5, f := a }) rfl (fun _ => rfl) (fun _ _ _ => rfl) (fun _ => rfl) ws) (small_next hsmw)
  · simp (config := { decide := true }) only [gk, oP_some', q, bP_bool', if_true, if_false]
    refine j_script_Parse_R6 ?_
    unfold B_script_Parse_R6
    simp (config := { decide := true }) only [oP_some', q, bP_bool', if_true, if_false]
    refine j_script_Parse_R11 ?_
    unfold B_script_Parse_R11
    simp (config := { decide := true }) only [oP_some', q, bP_bool', if_true, if_false, pFA_ptr, Nat.zero_add, Nat.add_zero, Nat.reduceAdd, p4, alP_some]
    refine pS_row (os := [4, 5, 6, 7]) hP (by simp) (by simp) fun h7 hc7 hw7 hev7 hres7 h57 hown7 => ?_
    refine pS_L0 (ws := (rowM [4, 5, 6, 7] ws true (evCells { Tx.ev0 with kind := ((6 : Nat) : Int) } .nilSlice)).1) (ok := (rowM [4, 5, 6, 7] ws true (evCells { Tx.ev0 with kind := ((6 : Nat) : Int) } .nilSlice)).2.1)
      (e := mkC (nextM ws true).1 (nextM (nextM ws true).2.1 (nextM ws true).2.2).1 (nextM (nextM (nextM ws true).2.1 (nextM ws true).2.2).2.1 (nextM (nextM ws true).2.1 (nextM ws true).2.2).2.2).1
        (nextM (nextM (nextM (nextM ws true).2.1 (nextM ws true).2.2).2.1 (nextM (nextM ws true).2.1 (nextM ws true).2.2).2.2).2.1 (nextM (nextM (nextM ws true).2.1 (nextM ws true).2.2).2.1 (nextM (nextM ws true).2.1 (nextM ws true).2.2).2.2).2.2).1) (v := .nilSlice)
      ⟨hw7, small_next (small_next (small_next (small_next hsmw))), hev7, by omega, by omega, h57, hres7, Own.nil, fun x hx => by cases hx⟩ ?_ fun v' h8' hc8 hsl8 => ?_
    · have h1 := nextM_len ws true
      have h2 := nextM_len (nextM ws true).2.1 (nextM ws true).2.2
      have h3 := nextM_len (nextM (nextM ws true).2.1 (nextM ws true).2.2).2.1 (nextM (nextM ws true).2.1 (nextM ws true).2.2).2.2
      have h4 := nextM_len (nextM (nextM (nextM ws true).2.1 (nextM ws true).2.2).2.1 (nextM (nextM ws true).2.1 (nextM ws true).2.2).2.2).2.1 (nextM (nextM (nextM ws true).2.1 (nextM ws true).2.2).2.1 (nextM (nextM ws true).2.1 (nextM ws true).2.2).2.2).2.2
      simp only [rowM, mkC, Tx.ev0, List.length_nil, List.length_cons] at hcnt ⊢
      omega
    · have hfour := outC_four ws
      simp only at hfour
      have hfin : outC (rowM [4, 5, 6, 7] ws true (evCells { Tx.ev0 with kind := ((6 : Nat) : Int) } .nilSlice)).1 (rowM [4, 5, 6, 7] ws true (evCells { Tx.ev0 with kind := ((6 : Nat) : Int) } .nilSlice)).2.1 (mkC (nextM ws true).1 (nextM (nextM ws true).2.1 (nextM ws true).2.2).1 (nextM (nextM (nextM ws true).2.1 (nextM ws true).2.2).2.1 (nextM (nextM ws true).2.1 (nextM ws true).2.2).2.2).1
        (nextM (nextM (nextM (nextM ws true).2.1 (nextM ws true).2.2).2.1 (nextM (nextM ws true).2.1 (nextM ws true).2.2).2.2).2.1 (nextM (nextM (nextM ws true).2.1 (nextM ws true).2.2).2.1 (nextM (nextM ws true).2.1 (nextM ws true).2.2).2.2).2.2).1) = parseR s := by
        rw [hR]; exact hfour
      rw [hfin] at hsl8 ⊢
      refine H v' h8' ?_ hsl8
      exact grows_trans (grows_trans (grows_trans hG (Chg.new (S := fun _ => False) h6 _) fun _ _ h => h) hc7 fun l hl e => by omega) hc8 fun l hl e => by omega
  · simp (config := { decide := true }) only [gk, oP_some', q, bP_bool', if_true, if_false]
    refine j_script_Parse_R6 ?_
    unfold B_script_Parse_R6
    simp (config := { decide := true }) only [bP_bool', if_true, pFA_ptr, oP_some', Nat.zero_add, p1, alP_some]
    exact done (os := [3]) (ws' := []) (ok' := true) (e' := { Tx.ev0 with kind := 7, n := (nextM ws true).1 }) (by simp) (by simp) rfl rfl (by rw [hR]; exact finA (k := 7) (mk := fun a => { Tx.ev0 with kind := 7, n := a }) rfl (fun _ => rfl) (fun _ _ _ => rfl) (fun _ => rfl) ws) (small_next hsmw)
end Go.Proofs.YtdpfhajggknfaaaGreatDoor.Hx
