/- Chapter 30's text: integers, and the words of a line that are still to be read. -/
import Derived.Test.YtdpfhajggknfaaaGreatDoorHxS3
namespace Go.Proofs.YtdpfhajggknfaaaGreatDoor.Hx
open Go.Proofs.YtdpfhajggknfaaaGreatDoor

def minus (s : Tx.Bs) : Bool := match s with
  | c :: _ => c == 45
  | [] => false
theorem ct_HasPrefix {s : Tx.Bs} {h : Hp} {Q : V → Hp → Prop} (H : Q (.bool (minus s)) h) : cP CS n_strings_HasPrefix [.str s, .str [45]] h Q := by
  refine c_strings_HasPrefix rfl rfl ?_
  unfold B_strings_HasPrefix
  refine c_stringslite_HasPrefix rfl rfl ?_
  unfold B_stringslite_HasPrefix
  cases s with
  | nil => simpa [minus] using H
  | cons c r =>
    have e : hsliceS (.str (c :: r)) none (some (.int .i64 (([45] : List UInt8).length : Nat))) = some (.str [c]) := hsliceS_to (n := 1) (by simp)
    have e2 : decide ((([45] : List UInt8).length : Int) ≤ ((c :: r).length : Nat)) = true := decide_eq_true (by simp only [List.length_cons, List.length_nil]; omega)
    simp only [pLenS_str, oP_some', hbin_geq, e2, pAnd_true, oB_some', e, hbin_eqlS]
    have e3 : ([c] == [(45 : UInt8)]) = (c == 45) := by simp
    rw [e3]
    exact H
theorem pInt_minus {r : Tx.Bs} : Tx.pInt (45 :: r) = match Tx.pNat r with
    | some (n + 1) => some (-((n : Int) + 1))
    | _ => none := rfl
theorem pInt_plain {s : Tx.Bs} (h : minus s = false) : Tx.pInt s = (Tx.pNat s).map (fun n : Nat => (n : Int)) := by
  unfold Tx.pInt
  split
  · simp [minus] at h
  · cases Tx.pNat s <;> rfl
theorem pNat_le {s : Tx.Bs} {n : Nat} (h : Tx.pNat s = some n) : n ≤ 4611686018427387904 := (Tx.dec_pNat h).2
theorem ct_integer {s : Tx.Bs} {h : Hp} {Q : V → Hp → Prop} (hs : s.length < 4611686018427387904) (H : ∀ v : Int, (∀ n, Tx.pInt s = some n → v = n) → Q (.tuple [.int .i64 v, .bool (Tx.pInt s).isSome]) h) : cP CS n_script_integer [.str s] h Q := by
  refine c_script_integer rfl rfl ?_
  unfold B_script_integer
  refine ct_HasPrefix ?_
  simp only [hun_not, oP_some', bP_bool']
  cases hm : minus s with
  | false =>
    simp only [Bool.not_false, if_true]
    refine ct_number hs fun v hv => ?_
    simp only [pExt_tuple, at1_zero, at1_succ, oP_some']
    rw [pInt_plain hm] at H
    rw [← Option.isSome_map (f := fun n : Nat => (n : Int))]
    refine H v fun n hn => ?_
    obtain ⟨m, h1, h2⟩ := Option.map_eq_some_iff.1 hn
    rw [hv m h1, h2]
  | true =>
    simp only [Bool.not_true, Bool.false_eq_true, if_false]
    cases s with
    | nil => cases hm
    | cons c r =>
      obtain rfl : c = 45 := by simpa [minus] using hm
      have e : hsliceS (.str (45 :: r)) (some (.int .i64 1)) none = some (.str r) := hsliceS_from (n := 1) (by simp)
      simp only [e, oP_some']
      refine ct_number (by simp at hs; omega) fun v hv => ?_
      simp only [pExt_tuple, at1_zero, at1_succ, oP_some', hun_neg, oB_some', hbin_neq, pAnd_bool]
      rw [pInt_minus] at H
      cases hp : Tx.pNat r with
      | none =>
        rw [hp] at H
        exact H _ (fun n hn => by cases hn)
      | some m =>
        rw [hp] at H hv
        have hm2 := pNat_le hp
        obtain rfl := hv m rfl
        cases m with
        | zero => exact H _ (fun n hn => by cases hn)
        | succ m =>
          have hne : (((m + 1 : Nat) : Int) != 0) = true := by simp; omega
          rw [hne]
          have hw : wrapF .i64 (0 - ((m + 1 : Nat) : Int)) = -((m : Int) + 1) := by rw [wrapF_in (by simp only [inK]; omega)]; omega
          rw [hw]
          exact H _ (fun n hn => by cases hn; rfl)

/-! ### words -/
/-- The words of a line that are still to be read, and whether all was well. -/
def WsAt (l : Nat) (h : Hp) (ws : List Tx.Bs) (ok : Bool) : Prop := ∃ e sz v, h.get l = some (.cells e sz true false [v, .bool ok]) ∧ l < h.next ∧ SlR eS l h ws v
theorem WsAt.chg {l : Nat} {h h' : Hp} {ws : List Tx.Bs} {ok : Bool} {S : Nat → Prop} (hc : Chg S h h') (hS : ∀ m, m ≤ l → ¬ S m) (hw : WsAt l h ws ok) : WsAt l h' ws ok := by
  obtain ⟨e, sz, v, h1, h2, h3⟩ := hw
  exact ⟨e, sz, v, by rw [hc.keep l h2 (hS l (Nat.le_refl _))]; exact h1, Nat.lt_of_lt_of_le h2 hc.next, h3.keep fun m hm => hc.keep m (by omega) (hS m (Nat.le_of_lt hm))⟩
def small (ws : List Tx.Bs) : Prop := ∀ w ∈ ws, w.length < 4611686018427387904
theorem ct_next {l : Nat} {h : Hp} {ws : List Tx.Bs} {ok : Bool} {Q : V → Hp → Prop} (hw : WsAt l h ws ok)
    (H : ∀ h', Chg (fun m => m = l) h h' → h'.next = h.next → WsAt l h' ws.tail (ok && !ws.isEmpty) → Q (.str (ws.headD [])) h') : cP CS n_script_words_next [.ptr l 0] h Q := by
  obtain ⟨e, sz, v, hg, hl, hs⟩ := hw
  refine c_script_words_next rfl rfl ?_
  unfold B_script_words_next
  have g0 : pLd (.ptr l 0) h = some v := pLd_get hg rfl
  simp only [pNil_ptr, oP_some', pFA_ptr, Nat.zero_add, Nat.add_zero, g0, hs.len, hbin_eql, bP_bool']
  cases ws with
  | nil =>
    have e1 : pSt 1 (.ptr l 1) (.bool false) h = some (.val .undef (h.put l (.cells e sz true false [v, .bool false]))) := pSt_at hg (by simp) rfl
    have e0 : ((([] : List Tx.Bs).length : Int) == 0) = true := rfl
    have e9 : (ok && !([] : List Tx.Bs).isEmpty) = false := by simp
    rw [e9] at H
    simp only [e0, if_true, e1, valP_some]
    refine H _ (Chg.put _ rfl hl) rfl ⟨e, sz, v, get_put_self _ hl, hl, hs.keep fun m hm => get_put_ne _ hl (by omega)⟩
  | cons w r =>
    have e1 : (((w :: r).length : Int) == 0) = false := by
      simp only [List.length_cons, beq_eq_false_iff_ne, ne_eq]; omega
    obtain ⟨l1, o1, u, h1, h2, h3, h4⟩ := hs.ix1 (i := 0) (by simp) .i64 rfl
    have h4' : u = .str w := by
      have : [u] = [V.str w] := h4
      simpa using this
    subst h4'
    have h2' : pIx 1 v (.int .i64 0) = some (.ptr l1 o1) := h2
    obtain ⟨v', h5, h6⟩ := hs.cut (lo := some (.int .i64 1)) (hi := none) (m := 1) (n := (w :: r).length) rfl rfl (by simp) (Nat.le_refl _)
    have h5' : hsliceV 1 v (some (.int .i64 1)) none h = some v' := h5
    have e2 : pSt 1 (.ptr l 0) v' h = some (.val .undef (h.put l (.cells e sz true false [v', .bool ok]))) := pSt_at hg (by simp) h6.one
    rw [List.take_length, List.drop_succ_cons, List.drop_zero] at h6
    simp only [e1, Bool.false_eq_true, if_false, h2', oP_some', h3, h5', e2, valP_some]
    refine H _ (Chg.put _ rfl hl) rfl ⟨e, sz, v', ?_, hl, h6.keep fun m hm => get_put_ne _ hl (by omega)⟩
    rw [get_put_self _ hl]
    simp
/-- What a number read does to the words. -/
def nextM (ws : List Tx.Bs) (ok : Bool) : Int × List Tx.Bs × Bool := match ws with
  | [] => (0, [], false)
  | w :: r => ((Tx.pInt w).getD 0, r, ok && (Tx.pInt w).isSome)
theorem ct_int {l : Nat} {h : Hp} {ws : List Tx.Bs} {ok : Bool} {Q : V → Hp → Prop} (hw : WsAt l h ws ok) (hsm : small ws)
    (H : ∀ h', Chg (fun m => m = l) h h' → h'.next = h.next → WsAt l h' (nextM ws ok).2.1 (nextM ws ok).2.2 → Q (.int .i64 (nextM ws ok).1) h') : cP CS n_script_words_int [.ptr l 0] h Q := by
  refine c_script_words_int rfl rfl ?_
  unfold B_script_words_int
  refine ct_next hw fun h1 hc1 hn1 hw1 => ?_
  refine ct_integer (by cases ws with
    | nil => simp
    | cons w r => exact hsm w (by simp)) fun v hv => ?_
  obtain ⟨e, sz, u, hg, hl, hs⟩ := hw1
  have g1 : pLd (.ptr l 1) h1 = some (.bool (ok && !ws.isEmpty)) := pLd_get hg rfl
  simp only [pExt_tuple, at1_zero, at1_succ, oP_some', pNil_ptr, pFA_ptr, Nat.zero_add, g1, pAnd_bool, oB_some']
  have e1 : ∀ b, pSt 1 (.ptr l 1) (.bool b) h1 = some (.val .undef (h1.put l (.cells e sz true false [u, .bool b]))) := fun b => pSt_at hg (by simp) rfl
  simp only [e1, valP_some, hun_not, oP_some', bP_bool']
  have hH := H (h1.put l (.cells e sz true false [u, .bool (ok && !ws.isEmpty && (Tx.pInt (ws.headD [])).isSome)])) (hc1.trans (Chg.put _ rfl hl)) hn1
  cases ws with
  | nil =>
    have hp : Tx.pInt [] = none := rfl
    simp only [List.headD_nil, hp, Option.isSome_none, Bool.not_false, if_true, List.isEmpty_nil, Bool.not_true, Bool.and_false] at hH ⊢
    exact hH ⟨e, sz, u, get_put_self _ hl, hl, hs.keep fun m hm => get_put_ne _ hl (by omega)⟩
  | cons w r =>
    simp only [List.headD_cons, List.isEmpty_cons, Bool.not_false, Bool.and_true, List.tail_cons, nextM] at hH hv hs ⊢
    have hH := hH ⟨e, sz, u, get_put_self _ hl, hl, hs.keep fun m hm => get_put_ne _ hl (by omega)⟩
    cases hp : Tx.pInt w with
    | none =>
      rw [hp] at hH
      simpa using hH
    | some n =>
      rw [hp] at hH
      have := hv n hp
      subst this
      simpa using hH
/-- What a row of numbers read does to the words, and to the cells that the numbers go to. -/
def rowM : List Nat → List Tx.Bs → Bool → List V → List Tx.Bs × Bool × List V
  | [], ws, ok, cs => (ws, ok, cs)
  | o :: os, ws, ok, cs => rowM os (nextM ws ok).2.1 (nextM ws ok).2.2 (cs.set o (.int .i64 (nextM ws ok).1))
theorem rowM_length : ∀ (os : List Nat) (ws : List Tx.Bs) (ok : Bool) (cs : List V), (rowM os ws ok cs).2.2.length = cs.length
  | [], _, _, _ => rfl
  | o :: os, ws, ok, cs => by rw [rowM, rowM_length]; simp
theorem small_next {ws : List Tx.Bs} {ok : Bool} (h : small ws) : small (nextM ws ok).2.1 := by
  cases ws with
  | nil => intro w hw; cases hw
  | cons x r => exact fun w hw => h w (by simp [nextM] at hw; simp [hw])
theorem ct_row {l m p : Nat} {os : List Nat} {h : Hp} {ws : List Tx.Bs} {ok : Bool} {cs : List V} {e sz e1 sz1 : Nat} {ro : Bool} {x : V} {Q : V → Hp → Prop} (hw : WsAt l h ws ok) (hsm : small ws)
    (hm : h.get m = some (.cells e sz true false cs)) (hlm : l < m) (hmn : m < h.next) (ho : ∀ o ∈ os, o < cs.length) (h8 : os.length ≤ 8) (hp : h.get p = some (.cells e1 sz1 true ro (os.map fun o => V.ptr m o))) (hpl : p ≠ l) (hpm : p ≠ m) (hpn : p < h.next)
    (H : ∀ h', Chg (fun k => k = l ∨ k = m) h h' → h'.next = h.next → WsAt l h' (rowM os ws ok cs).1 (rowM os ws ok cs).2.1 → h'.get m = some (.cells e sz true false (rowM os ws ok cs).2.2) → Q (.tuple []) h') :
    cP CS n_script_words_row [x, .func n_script_words_int [.ptr l 0] [], .slice p 0 os.length] h Q := by
  refine c_script_words_row rfl rfl ?_
  unfold B_script_words_row
  simp only [pLen_slice, oP_some']
  refine l_script_words_row_L0 (fun k x1 x8 x9 x10 h' => ∃ (os1 os2 : List Nat) (ws' : List Tx.Bs) (ok' : Bool) (cs' : List V), os = os1 ++ os2 ∧ k = os2.length ∧ x1 = .func n_script_words_int [.ptr l 0] [] ∧ x8 = .slice p 0 os.length ∧
    x9 = .int .i64 (os.length : Nat) ∧ x10 = .int .i64 (os1.length : Nat) ∧ Chg (fun k => k = l ∨ k = m) h h' ∧ h'.next = h.next ∧ WsAt l h' ws' ok' ∧ small ws' ∧ h'.get m = some (.cells e sz true false cs') ∧ cs'.length = cs.length ∧
    rowM os2 ws' ok' cs' = rowM os ws ok cs) ?_ ⟨[], os, ws, ok, cs, rfl, rfl, rfl, rfl, rfl, rfl, Chg.refl _ _, rfl, hw, hsm, hm, rfl, rfl⟩
  rintro k x1 x8 x9 x10 h' ⟨os1, os2, ws', ok', cs', he, rfl, rfl, rfl, rfl, rfl, hc, hn, hw', hsm', hm', hlen, hrow⟩
  unfold B_script_words_row_L0
  simp only [hbin_lss, oP_some', bP_bool', decide_eq_true_eq]
  cases os2 with
  | nil =>
    have : ¬ ((os1.length : Int) < os.length) := by rw [he]; simp
    rw [if_neg this]
    have e2 : rowM os ws ok cs = (ws', ok', cs') := hrow.symm
    rw [e2] at H
    exact H h' hc hn hw' hm'
  | cons o r =>
    have hlt : os1.length < os.length := by rw [he]; simp
    rw [if_pos (by omega)]
    have hp' : h'.get p = some (.cells e1 sz1 true ro (os.map fun o => V.ptr m o)) := by rw [hc.keep p hpn (by rintro (h | h); exact hpl h; exact hpm h)]; exact hp
    have e3 : pIx 1 (.slice p 0 os.length) (.int .i64 (os1.length : Nat)) = some (.ptr p os1.length) := by rw [pIx_slice _ _ _ _ _ _ hlt]; simp
    have e4 : pLd (.ptr p os1.length) h' = some (.ptr m o) := pLd_get hp' (by rw [he]; simp)
    simp only [e3, oP_some', e4, hcall_func, calP_some, List.nil_append, List.append_nil]
    refine ct_int hw' hsm' fun h1 hc1 hn1 hw1 => ?_
    have hm1 : h1.get m = some (.cells e sz true false cs') := by rw [hc1.keep m (by omega) (by omega)]; exact hm'
    have ho1 : o < cs'.length := by rw [hlen]; exact ho o (by rw [he]; simp)
    have e5 : pSt 1 (.ptr m o) (.int .i64 (nextM ws' ok').1) h1 = some (.val .undef (h1.put m (.cells e sz true false (cs'.set o (.int .i64 (nextM ws' ok').1))))) := pSt_at hm1 ho1 rfl
    have hm1n : m < h1.next := by omega
    have hb : wrapF .i64 ((os1.length : Nat) + 1) = ((os1.length + 1 : Nat) : Int) := by rw [wrapF_in (by simp only [inK]; omega)]; omega
    simp only [pNil_ptr, oP_some', e5, valP_some, hbin_add, hb]
    refine ⟨r.length, by simp, os1 ++ [o], r, _, _, _, by rw [he]; simp, by trivial, by trivial, by trivial, by trivial, by simp, (hc.trans' (hc1.weak fun _ _ h => .inl h) fun _ _ h => h).trans (Chg.put _ (.inr rfl) hm1n), by show h1.next = _; omega,
      hw1.chg (S := fun k => k = m) (Chg.put _ rfl hm1n) (fun k hk => by omega), small_next hsm', get_put_self _ hm1n, by simp [hlen], by rw [← hrow]; rfl⟩
end Go.Proofs.YtdpfhajggknfaaaGreatDoor.Hx
