/- Chapter 30's text: the fields that an event's kind has; the law of lines and events there and back. -/
import Derived.Test.YtdpfhajggknfaaaGreatDoorHxVF
import Derived.Test.YtdpfhajggknfaaaGreatDoorHxSd
import Derived.Test.YtdpfhajggknfaaaGreatDoorHxSf
namespace Go.Proofs.YtdpfhajggknfaaaGreatDoor.Hx
open Go.Proofs.YtdpfhajggknfaaaGreatDoor Go.Lib

/-! ### plain facts -/
theorem printM_len {e : Tx.Ev} (he : evIn e) {s : Tx.Bs} (h : Tx.printM e = some s) : s.length ≤ 1000 := by
  unfold Tx.printM at h
  split at h
  case h_2 => cases h
  rename_i l hl
  split at h
  case isFalse => cases h
  obtain rfl := Option.some.inj h
  obtain ⟨h1, h2⟩ := intsOf_in he hl
  unfold Tx.lineOf
  rw [← nameI_kind hl, List.length_append]
  have := nameI_len e.kind
  have := tail_len l h1
  omega
theorem fits_in {n : Int} (h : Tx.fits n = true) : inK .i64 n := by
  simp only [Tx.fits, Bool.and_eq_true, decide_eq_true_eq] at h
  simp only [inK]
  omega
theorem pairs_in : ∀ {l : List Int} {ts : List (Int × Int)}, Tx.pairs l = some ts → (∀ n ∈ l, inK .i64 n) → tyIn ts
  | [], ts, h, _ => by simp [Tx.pairs] at h; subst h; exact fun x hx => by cases hx
  | [_], ts, h, _ => by simp [Tx.pairs] at h
  | a :: b :: l, ts, h, hi => by
    simp only [Tx.pairs, Option.map_eq_some_iff] at h
    obtain ⟨t, h1, rfl⟩ := h
    have ih := pairs_in h1 fun n hn => hi n (by simp [hn])
    intro x hx
    cases hx with
    | head => exact ⟨hi a (by simp), hi b (by simp)⟩
    | tail _ hx => exact ih x hx
theorem nought : inK .i64 0 := by simp only [inK]; omega
theorem parse_in {s : Tx.Bs} {e : Tx.Ev} (h : Tx.parseM s = some e) : evIn e := by
  unfold Tx.parseM at h
  split at h
  · cases h
  split at h
  case h_2 => cases h
  rename_i ns hns
  have hf := (Tx.itoa_readAll hns).2
  have hi : ∀ n ∈ ns, inK .i64 n := fun n hn => fits_in (List.all_eq_true.1 hf n hn)
  have ht : tyIn ([] : List (Int × Int)) := fun x hx => by cases hx
  have hk : ∀ k : Int, 1 ≤ k → k ≤ 7 → inK .i64 k := fun k h1 h2 => by simp only [inK]; omega
  unfold Tx.evOf at h
  split at h
  · obtain rfl := Option.some.inj h
    exact ⟨hk 1 (by decide) (by decide), nought, nought, hi _ (by simp), nought, nought, nought, nought, ht⟩
  · obtain rfl := Option.some.inj h
    exact ⟨hk 2 (by decide) (by decide), hi _ (by simp), hi _ (by simp), nought, nought, nought, nought, nought, ht⟩
  · obtain rfl := Option.some.inj h
    exact ⟨hk 3 (by decide) (by decide), nought, nought, hi _ (by simp), nought, nought, nought, nought, ht⟩
  · obtain rfl := Option.some.inj h
    exact ⟨hk 4 (by decide) (by decide), hi _ (by simp), hi _ (by simp), nought, nought, nought, nought, nought, ht⟩
  · obtain rfl := Option.some.inj h
    exact ⟨hk 5 (by decide) (by decide), hi _ (by simp), nought, nought, nought, nought, nought, nought, ht⟩
  · split at h
    · rename_i hp
      split at h
      · obtain rfl := Option.some.inj h
        exact ⟨hk 6 (by decide) (by decide), nought, nought, nought, hi _ (by simp), hi _ (by simp), hi _ (by simp), hi _ (by simp), pairs_in hp fun n hn => hi n (by simp [hn])⟩
      · cases h
    · cases h
  · obtain rfl := Option.some.inj h
    exact ⟨hk 7 (by decide) (by decide), nought, nought, hi _ (by simp), nought, nought, nought, nought, ht⟩
  · cases h

/-! ### an event laid anew -/
theorem newEv {e : Tx.Ev} {v : V} {h : Hp} {K : Hp → Prop} (hv : v.one = true) (H : ∀ h3, Grows h h3 → h.next < h3.next → h3.get h.next = some (.cells 26 1 true false (evCells e v)) → K h3) :
    valP (pSt 9 (.ptr h.next 0) (.agg (evCells e v)) (h.new (.cells 26 1 true false [(V.int .i64 0), (V.int .i64 0), (V.int .i64 0), (V.int .i64 0), (V.int .i64 0), (V.int .i64 0), (V.int .i64 0), (V.int .i64 0), V.nilSlice]))) fun _ h3 => K h3 := by
  have s1 := pSt_all (ws := evCells e v) (n := 9) (get_new_self h (.cells 26 1 true false [(V.int .i64 0), (V.int .i64 0), (V.int .i64 0), (V.int .i64 0), (V.int .i64 0), (V.int .i64 0), (V.int .i64 0), (V.int .i64 0), V.nilSlice])) rfl rfl (evCells_one _ hv)
  simp only [s1, valP_some]
  exact H _ (grows_trans (Chg.new h _) (Chg.put (S := fun m => m = h.next) _ rfl (Nat.lt_succ_self _)) fun l hl e => by omega) (Nat.lt_succ_self _) (get_put_self _ (Nat.lt_succ_self _))
structure BSt (l1 l2 l3 b : Nat) (h0 h : Hp) (e e3 : Tx.Ev) (v v3 : V) : Prop where
  a1 : h.get l1 = some (.cells 26 1 true false (evCells e v))
  a2 : ∃ cs, h.get l2 = some (.cells 26 1 true false cs) ∧ cs.length = 9
  a3 : h.get l3 = some (.cells 26 1 true false (evCells e3 v3))
  o : h0.next ≤ l1 ∧ l1 < l2 ∧ l2 < l3 ∧ l3 < h.next
  g : Grows h0 h
  s : SlR eT b h e.ty v
  s3 : SlR eT b h e3.ty v3
  bb : b ≤ h0.next
section
variable {l1 l2 l3 b : Nat} {h0 h : Hp} {e e3 : Tx.Ev} {v v3 : V} {Q : V → Hp → Prop}
theorem BSt.set (hp : BSt l1 l2 l3 b h0 h e e3 v v3) {e4 : Tx.Ev} {v4 : V} (s4 : SlR eT b h e4.ty v4) : BSt l1 l2 l3 b h0 (h.put l3 (.cells 26 1 true false (evCells e4 v4))) e e4 v v4 := by
  obtain ⟨o1, o2, o3, o4⟩ := hp.o
  have hn := hp.g.next
  have hbb := hp.bb
  have hc : Chg (fun m => m = l3) h (h.put l3 (.cells 26 1 true false (evCells e4 v4))) := Chg.put _ rfl o4
  obtain ⟨cs, c1, c2⟩ := hp.a2
  exact ⟨by rw [get_put_ne _ o4 (by omega)]; exact hp.a1, ⟨cs, by rw [get_put_ne _ o4 (by omega)]; exact c1, c2⟩, get_put_self _ o4, ⟨o1, o2, o3, o4⟩, grows_trans hp.g hc fun l hl e => by omega,
    hp.s.chg hc (by omega) fun l hl e => by omega, s4.chg hc (by omega) fun l hl e => by omega, hbb⟩
theorem br_R3 (hp : BSt l1 l2 l3 b h0 h e e3 v v3) (H : ∀ v' h', Grows h0 h' → SlR eT h'.next h' e3.ty v' → Q (.agg (evCells e3 v')) h') : J_turnstoneref30_Bare_R3 CS Q (.ptr l2 0) (.ptr l3 0) h := by
  refine j_turnstoneref30_Bare_R3 ?_
  unfold B_turnstoneref30_Bare_R3
  obtain ⟨cs, c1, c2⟩ := hp.a2
  obtain ⟨o1, o2, o3, o4⟩ := hp.o
  have hn := hp.g.next
  have hbb := hp.bb
  have hl2 : l2 < h.next := by omega
  simp only [pLdA_all (n := 9) hp.a3 rfl, oP_some', pSt_all (ws := evCells e3 v3) (n := 9) c1 rfl c2 (evCells_one _ hp.s3.one), valP_some, pLdA_all (n := 9) (get_put_self (h := h) (.cells 26 1 true false (evCells e3 v3)) hl2) rfl]
  have hc : Chg (fun m => m = l2) h (h.put l2 (.cells 26 1 true false (evCells e3 v3))) := Chg.put _ rfl hl2
  have hcn := hc.next
  exact H v3 _ (grows_trans hp.g hc fun l hl e => by omega) ((hp.s3.chg hc (by omega) fun l hl e => by omega).mono (by omega))
end
theorem ct_Bare {e : Tx.Ev} {v : V} {b : Nat} {h : Hp} {Q : V → Hp → Prop} (hb : b ≤ h.next) (hv : SlR eT b h e.ty v) (H : ∀ v' h', Grows h h' → SlR eT h'.next h' (Tx.bareM e).ty v' → Q (.agg (evCells (Tx.bareM e) v')) h') :
    cP CS n_turnstoneref30_Bare [.agg (evCells e v)] h Q := by
  refine c_turnstoneref30_Bare rfl rfl ?_
  unfold B_turnstoneref30_Bare
  simp only [hbox_all (evCells_one e hv.one), alP_some]
  have hg1 : Grows h (h.new (.cells 26 1 true false (evCells e v))) := Chg.new _ _
  have hev := get_new_self h (.cells 26 1 true false (evCells e v))
  have hn1 : (h.new (.cells 26 1 true false (evCells e v))).next = h.next + 1 := rfl
  have hv1 := hv.ext hg1 hb
  generalize h.new (.cells 26 1 true false (evCells e v)) = h1 at *
  have hg2 : Grows h1 (h1.new (.cells 26 1 true false [(V.int .i64 0), (V.int .i64 0), (V.int .i64 0), (V.int .i64 0), (V.int .i64 0), (V.int .i64 0), (V.int .i64 0), (V.int .i64 0), V.nilSlice])) := Chg.new _ _
  have hev2 := get_new_self h1 (.cells 26 1 true false [(V.int .i64 0), (V.int .i64 0), (V.int .i64 0), (V.int .i64 0), (V.int .i64 0), (V.int .i64 0), (V.int .i64 0), (V.int .i64 0), V.nilSlice])
  have hn2 : (h1.new (.cells 26 1 true false [(V.int .i64 0), (V.int .i64 0), (V.int .i64 0), (V.int .i64 0), (V.int .i64 0), (V.int .i64 0), (V.int .i64 0), (V.int .i64 0), V.nilSlice])).next = h1.next + 1 := rfl
  generalize h1.new (.cells 26 1 true false [(V.int .i64 0), (V.int .i64 0), (V.int .i64 0), (V.int .i64 0), (V.int .i64 0), (V.int .i64 0), (V.int .i64 0), (V.int .i64 0), V.nilSlice]) = h2 at *
  have hev1 : h2.get h.next = some (.cells 26 1 true false (evCells e v)) := by rw [hg2.keep _ (by omega) (fun h => h)]; exact hev
  obtain ⟨k0, _⟩ := ev_loads hev1
  have bz : pBuild [(V.int .i64 0), (V.int .i64 0), (V.int .i64 0), (V.int .i64 0), (V.int .i64 0), (V.int .i64 0), (V.int .i64 0), (V.int .i64 0), V.nilSlice] [(0, 1), (1, 1), (2, 1), (3, 1), (4, 5)] [(0, V.int .i64 e.kind)] = some (.agg (evCells { Tx.ev0 with kind := e.kind } .nilSlice)) := rfl
  simp only [pFA_ptr, oP_some', Nat.zero_add, k0, bz]
  refine newEv (e := { Tx.ev0 with kind := e.kind }) (v := .nilSlice) rfl fun h4 hg4 hn4 ga => ?_
  have hp : BSt h.next h1.next h2.next b h h4 e { Tx.ev0 with kind := e.kind } v .nilSlice :=
    ⟨by rw [hg4.keep _ (by omega) (fun h => h)]; exact hev1, ⟨_, by rw [hg4.keep _ (by omega) (fun h => h)]; exact hev2, rfl⟩, ga, by omega, (hg1.trans hg2).trans hg4, (hv1.ext hg2 (by omega)).ext hg4 (by omega), SlR.nil, hb⟩
  generalize h1.next = l2 at *
  generalize h2.next = l3 at *
  generalize h.next = l1 at *
  clear ga hn4 hg4 k0 hev1 hev2 hev hg1 hg2 hn1 hn2 hv1 bz
  obtain ⟨k0, k1, k2, k3, k4, k5, k6, k7, k8⟩ := ev_loads hp.a1
  have r9f : ¬ (e.kind = 1 ∨ e.kind = 3 ∨ e.kind = 7) → ∀ x : Bool, (x = true ↔ (e.kind = 2 ∨ e.kind = 4)) → J_turnstoneref30_Bare_R9 CS Q (.ptr l1 0) (.ptr l2 0) (.ptr l3 0) (.int .i64 e.kind) (.bool x) h4 := by
    intro hn x hx
    refine j_turnstoneref30_Bare_R9 ?_
    unfold B_turnstoneref30_Bare_R9
    unfold Tx.bareM at H
    rw [if_neg hn] at H
    simp only [bP_bool']
    split
    · rename_i h9
      rw [if_pos (hx.1 h9)] at H
      have s1 := pSt_at (o := 1) (v := .int .i64 e.f) hp.a3 (by simp [evCells]) rfl
      have hp2 := hp.set (e4 := { Tx.ev0 with kind := e.kind, f := e.f }) (v4 := .nilSlice) SlR.nil
      have j2 := (ev_loads hp2.a1).2.2.1
      have s2 := pSt_at (o := 2) (v := .int .i64 e.pc) hp2.a3 (by simp [evCells]) rfl
      have hp3 := hp2.set (e4 := { Tx.ev0 with kind := e.kind, f := e.f, pc := e.pc }) (v4 := .nilSlice) SlR.nil
      rw [show (evCells { Tx.ev0 with kind := e.kind } .nilSlice).set 1 (.int .i64 e.f) = evCells { Tx.ev0 with kind := e.kind, f := e.f } .nilSlice from rfl] at s1
      rw [show (evCells { Tx.ev0 with kind := e.kind, f := e.f } .nilSlice).set 2 (.int .i64 e.pc) = evCells { Tx.ev0 with kind := e.kind, f := e.f, pc := e.pc } .nilSlice from rfl] at s2
      simp only [pFA_ptr, oP_some', Nat.zero_add, k1, s1, valP_some, j2, s2]
      exact br_R3 hp3 H
    rename_i h9
    rw [if_neg (fun h => h9 (hx.2 h))] at H
    simp only [q3, oP_some', bP_bool', beq_iff_eq]
    split
    · rename_i h5
      rw [if_pos h5] at H
      have s1 := pSt_at (o := 1) (v := .int .i64 e.f) hp.a3 (by simp [evCells]) rfl
      have hp2 := hp.set (e4 := { Tx.ev0 with kind := e.kind, f := e.f }) (v4 := .nilSlice) SlR.nil
      rw [show (evCells { Tx.ev0 with kind := e.kind } .nilSlice).set 1 (.int .i64 e.f) = evCells { Tx.ev0 with kind := e.kind, f := e.f } .nilSlice from rfl] at s1
      simp only [pFA_ptr, oP_some', Nat.zero_add, k1, s1, valP_some]
      exact br_R3 hp2 H
    rename_i h5
    rw [if_neg h5] at H
    split
    · rename_i h6
      rw [if_pos h6] at H
      have a4 : pLdA 5 (.ptr l1 4) h4 = some (.agg (cntCells e v)) := by rw [pLdA_ptr hp.a1]; rfl
      have s1 := pSt_in (o := 4) (n := 5) (ws := cntCells e v) hp.a3 rfl (by simp [evCells]) (by have := hp.s.one; simp only [cntCells, allOne_cons, allOne_nil, this]; rfl)
      have hp2 := hp.set (e4 := { Tx.ev0 with kind := e.kind, cf := e.cf, cpc := e.cpc, cy := e.cy, cn := e.cn, ty := e.ty }) (v4 := v) hp.s
      rw [show (evCells { Tx.ev0 with kind := e.kind } .nilSlice).take 4 ++ cntCells e v ++ (evCells { Tx.ev0 with kind := e.kind } .nilSlice).drop (4 + 5) = evCells { Tx.ev0 with kind := e.kind, cf := e.cf, cpc := e.cpc, cy := e.cy, cn := e.cn, ty := e.ty } v from rfl] at s1
      simp only [pFA_ptr, oP_some', Nat.zero_add, a4, s1, valP_some]
      rw [← h6] at H
      exact br_R3 hp2 H
    · rename_i h6
      rw [if_neg h6] at H
      exact br_R3 hp H
  have r5 : ∀ x : Bool, (x = true ↔ (e.kind = 1 ∨ e.kind = 3 ∨ e.kind = 7)) → J_turnstoneref30_Bare_R5 CS Q (.ptr l1 0) (.ptr l2 0) (.ptr l3 0) (.int .i64 e.kind) (.bool x) h4 := by
    intro x hx
    refine j_turnstoneref30_Bare_R5 ?_
    unfold B_turnstoneref30_Bare_R5
    simp only [bP_bool']
    split
    · rename_i h9
      unfold Tx.bareM at H
      rw [if_pos (hx.1 h9)] at H
      have s1 := pSt_at (o := 3) (v := .int .i64 e.n) hp.a3 (by simp [evCells]) rfl
      have hp2 := hp.set (e4 := { Tx.ev0 with kind := e.kind, n := e.n }) (v4 := .nilSlice) SlR.nil
      rw [show (evCells { Tx.ev0 with kind := e.kind } .nilSlice).set 3 (.int .i64 e.n) = evCells { Tx.ev0 with kind := e.kind, n := e.n } .nilSlice from rfl] at s1
      simp only [pFA_ptr, oP_some', Nat.zero_add, k3, s1, valP_some]
      exact br_R3 hp2 H
    · rename_i h9
      have hn : ¬ (e.kind = 1 ∨ e.kind = 3 ∨ e.kind = 7) := fun h => h9 (hx.2 h)
      simp only [q3, oP_some', bP_bool', beq_iff_eq]
      split
      · rename_i h2
        exact r9f hn _ (by simp [h2])
      · rename_i h2
        exact r9f hn _ (by simp [h2])
  simp only [pFA_ptr, oP_some', Nat.zero_add, k0, q3, bP_bool', beq_iff_eq]
  split
  · rename_i h1
    exact r5 _ (by simp [h1])
  rename_i h1
  split
  · rename_i h3
    exact r5 _ (by simp [h3])
  · rename_i h3
    exact r5 _ (by simp [h1, h3])

/-! ### the law -/
theorem parseR_none {s : Tx.Bs} (h : Tx.parseM s = none) : parseR s = (Tx.ev0, 5) := by unfold parseR; rw [h]
theorem parseR_some {s : Tx.Bs} {e : Tx.Ev} (h : Tx.parseM s = some e) : parseR s = (e, 0) := by unfold parseR; rw [h]
theorem printR_none {e : Tx.Ev} (h : Tx.printM e = none) : printR e = ([], 1) := by unfold printR; rw [h]
theorem printR_some {e : Tx.Ev} {s : Tx.Bs} (h : Tx.printM e = some s) : printR e = (s, 0) := by unfold printR; rw [h]
theorem n27 (a b : Int) : hbin .neq 27 (.int .i64 a) (.int .i64 b) = some (.bool (a != b)) := hbin_neq 27 .i64 a b
theorem q27 (a b : Int) : hbin .eql 27 (.int .i64 a) (.int .i64 b) = some (.bool (a == b)) := hbin_eql 27 .i64 a b
theorem bz0 : pBuild [(V.int .i64 0), (V.int .i64 0), (V.int .i64 0), (V.int .i64 0), (V.int .i64 0), (V.int .i64 0), (V.int .i64 0), (V.int .i64 0), V.nilSlice] [(0, 1), (1, 1), (2, 1), (3, 1), (4, 5)] [] = some (.agg (evCells Tx.ev0 .nilSlice)) := rfl
theorem sb_R6 {s : Tx.Bs} {h0 h : Hp} {Q : V → Hp → Prop} (hs : s.length < 1000000000) (hg : Grows h0 h) (H : ∀ h', Grows h0 h' → Q (.bool true) h') : J_turnstonelaw30_ScriptBack_R6 CS Q (.str s) h := by
  refine j_turnstonelaw30_ScriptBack_R6 ?_
  unfold B_turnstonelaw30_ScriptBack_R6
  refine ct_Parse hs fun v h1 hg1 hsl1 => ?_
  simp only [pExt_tuple, at1_zero, at1_succ, oP_some', alP_some]
  refine newEv hsl1.one fun h3 hg3 hn3 ga => ct_known ?_
  have hv3 := (hsl1.ext hg3 (Nat.le_refl _)).mono (b' := h3.next) hg3.next
  cases hp : Tx.parseM s with
  | none =>
    rw [parseR_none hp] at ga hv3 ⊢
    have e5 : ((5 : Int) != 0) = true := rfl
    simp only [hun_not, Bool.not_true, oP_some', pOr_false, oB_some', n27, e5, bP_bool', if_true]
    refine ct_known ?_
    simp only [pGd_bool, beq_self_eq_true, gV_true, oP_some', pLdA_all (n := 9) ga rfl, bz0, gC_true, oB_some', cgP_some]
    refine ct_same (e := Tx.ev0) (b := h3.next) (Nat.le_refl _) hv3 SlR.nil (by simp [Tx.ev0]) fun h4 hg4 => ?_
    simp only [pPick_bool, oP_some', if_true]
    exact H _ (((hg.trans hg1).trans hg3).trans hg4)
  | some e =>
    rw [parseR_some hp] at ga hv3 ⊢
    have e5 : ((0 : Int) != 0) = false := rfl
    simp only [hun_not, Bool.not_true, oP_some', pOr_false, oB_some', n27, e5, bP_bool', Bool.false_eq_true, if_false, pLdA_all (n := 9) ga rfl]
    refine ct_Print (Nat.le_refl _) hv3 (parse_in hp) fun h4 hg4 => ?_
    rw [printR_some (Tx.print_parse hp)]
    simp only [pExt_tuple, at1_zero, at1_succ, oP_some', q27, beq_self_eq_true, pAnd_true, oB_some', hbin_eqlS]
    exact H _ (((hg.trans hg1).trans hg3).trans hg4)
theorem sb_R3 {s : Tx.Bs} {e : Tx.Ev} {v : V} {b p : Nat} {h0 h : Hp} {Q : V → Hp → Prop} (hs : s.length < 1000000000) (hb : b ≤ h.next) (hpn : p < h.next) (ha : h.get p = some (.cells 26 1 true false (evCells e v))) (hv : SlR eT b h e.ty v) (he : evIn e) (hg : Grows h0 h)
    (H : ∀ h', Grows h0 h' → Q (.bool true) h') : J_turnstonelaw30_ScriptBack_R3 CS Q (.str s) (.ptr p 0) h := by
  refine j_turnstonelaw30_ScriptBack_R3 ?_
  unfold B_turnstonelaw30_ScriptBack_R3
  simp only [pLdA_all (n := 9) ha rfl, oP_some']
  refine ct_Print hb hv he fun h1 hg1 => ?_
  cases hp : Tx.printM e with
  | none =>
    rw [printR_none hp]
    have e5 : ((1 : Int) == 0) = false := rfl
    simp only [pExt_tuple, at1_zero, at1_succ, oP_some', q27, e5, bP_bool', Bool.false_eq_true, if_false]
    exact sb_R6 hs (hg.trans hg1) H
  | some w =>
    rw [printR_some hp]
    simp only [pExt_tuple, at1_zero, at1_succ, oP_some', q27, beq_self_eq_true, bP_bool', if_true]
    have hwl := printM_len he hp
    refine ct_Parse (by omega) fun v2 h2 hg2 hsl2 => ?_
    rw [parseR_some (Tx.parse_print hp)] at hsl2 ⊢
    simp only [pExt_tuple, at1_zero, at1_succ, oP_some', alP_some]
    refine newEv hsl2.one fun h4 hg4 hn4 ga => ?_
    have e5 : ((0 : Int) != 0) = false := rfl
    have hg24 := (hg1.trans hg2).trans hg4
    have ha4 : h4.get p = some (.cells 26 1 true false (evCells e v)) := by rw [hg24.keep _ hpn (fun h => h)]; exact ha
    have hn24 := hg24.next
    simp only [n27, e5, oP_some', pGd_bool, beq_self_eq_true, gV_true, pLdA_all (n := 9) ga rfl, pLdA_all (n := 9) ha4 rfl, gC_true, oB_some', cgP_some]
    refine ct_Bare (b := b) (by omega) (hv.ext hg24 hb) fun v3 h5 hg5 hsl5 => ⟨hg5.next, ?_⟩
    have ga5 : h5.get h2.next = some (.cells 26 1 true false (evCells (Tx.bareM e) v2)) := by rw [hg5.keep _ hn4 (fun h => h)]; exact ga
    have hty : (Tx.bareM e).ty.length ≤ 8 := (Tx.parse_kind (Tx.parse_print hp)).2.2
    have hn45 := hg5.next
    have hn24' := hg4.next
    simp only [pLdA_all (n := 9) ga5 rfl, gT_true]
    refine ⟨trivial, ct_same (b := h5.next) (Nat.le_refl _) (((hsl2.ext hg4 (Nat.le_refl _)).ext hg5 hg4.next).mono (by omega)) hsl5 (by omega) fun h6 hg6 => ⟨hg6.next, ?_⟩⟩
    simp only [pOr_false, hun_not, Bool.not_true, oP_some', bP_bool', Bool.false_eq_true, if_false]
    exact sb_R6 hs (((hg.trans hg24).trans hg5).trans hg6) H
theorem ct_ScriptBack {e : Tx.Ev} {v : V} {b : Nat} {h : Hp} {kind how : Int} {nums : List Int} {words : List Tx.Bs} {vn vw : V} {s : Tx.Bs} {near : Bool} {Q : V → Hp → Prop} (hb : b ≤ h.next) (hv : SlR eT b h e.ty v) (he : evIn e)
    (hn : SlR (eI .i64) b h nums vn) (hw : SlR eS b h words vw) (hs : s.length < 1000000000) (H : ∀ h', Grows h h' → Q (.bool true) h') :
    cP CS n_turnstonelaw30_ScriptBack [.agg (evCells e v), .agg (lnCells kind how vn vw), .str s, .bool near] h Q := by
  refine c_turnstonelaw30_ScriptBack rfl rfl ?_
  unfold B_turnstonelaw30_ScriptBack
  simp only [hbox_all (evCells_one e hv.one), hbox_all (lnCells_one kind how hn.one hw.one), alP_some]
  have hg1 : Grows h (h.new (.cells 26 1 true false (evCells e v))) := Chg.new _ _
  have hev := get_new_self h (.cells 26 1 true false (evCells e v))
  have hn1 : (h.new (.cells 26 1 true false (evCells e v))).next = h.next + 1 := rfl
  generalize h.new (.cells 26 1 true false (evCells e v)) = h1 at *
  have hg2 : Grows h1 (h1.new (.cells 36 1 true false (lnCells kind how vn vw))) := Chg.new _ _
  have hln := get_new_self h1 (.cells 36 1 true false (lnCells kind how vn vw))
  have hn2 : (h1.new (.cells 36 1 true false (lnCells kind how vn vw))).next = h1.next + 1 := rfl
  generalize h1.new (.cells 36 1 true false (lnCells kind how vn vw)) = h2 at *
  have hev2 : h2.get h.next = some (.cells 26 1 true false (evCells e v)) := by rw [hg2.keep _ (by omega) (fun h => h)]; exact hev
  obtain ⟨k0, _⟩ := ev_loads hev2
  simp only [pFA_ptr, oP_some', Nat.zero_add, k0]
  refine ct_Pick (by omega) (by omega) ?_
  have hp := pick_in e.kind (m := 7) (by omega)
  have w1 : wrapF .i64 (1 + pick e.kind 7) = 1 + pick e.kind 7 := wrapF_in (by simp only [inK]; omega)
  have s1 := pSt_at (o := 0) (v := .int .i64 (1 + pick e.kind 7)) hev2 (by simp [evCells]) rfl
  rw [show (evCells e v).set 0 (.int .i64 (1 + pick e.kind 7)) = evCells { e with kind := 1 + pick e.kind 7 } v from rfl] at s1
  simp only [hbin_add, w1, oP_some', s1, valP_some]
  have hl : h.next < h2.next := by omega
  have hg3 := grows_trans (hg1.trans hg2) (Chg.put (S := fun m => m = h.next) (.cells 26 1 true false (evCells { e with kind := 1 + pick e.kind 7 } v)) rfl hl) fun l hl e => by omega
  have hev3 := get_put_self (h := h2) (.cells 26 1 true false (evCells { e with kind := 1 + pick e.kind 7 } v)) hl
  have hln3 : (h2.put h.next (.cells 26 1 true false (evCells { e with kind := 1 + pick e.kind 7 } v))).get h1.next = some (.cells 36 1 true false (lnCells kind how vn vw)) := by rw [get_put_ne _ hl (by omega)]; exact hln
  have hn3 : (h2.put h.next (.cells 26 1 true false (evCells { e with kind := 1 + pick e.kind 7 } v))).next = h2.next := rfl
  generalize h2.put h.next (.cells 26 1 true false (evCells { e with kind := 1 + pick e.kind 7 } v)) = h3 at *
  have he' : evIn { e with kind := 1 + pick e.kind 7 } := by
    obtain ⟨_, e2, e3, e4, e5, e6, e7, e8, e9⟩ := he
    exact ⟨by simp only [inK]; omega, e2, e3, e4, e5, e6, e7, e8, e9⟩
  have hv3 : SlR eT b h3 (Tx.Ev.ty { e with kind := 1 + pick e.kind 7 }) v := hv.ext hg3 hb
  have rest : ∀ (s : Tx.Bs) (h4 : Hp), s.length < 1000000000 → Grows h3 h4 → J_turnstonelaw30_ScriptBack_R3 CS Q (.str s) (.ptr h.next 0) h4 := fun s h4 hs hg4 => by
    have := hg4.next
    exact sb_R3 hs (by omega) (by omega) (by rw [hg4.keep _ (by omega) (fun h => h)]; exact hev3) (hv3.ext hg4 (by omega)) he' (hg3.trans hg4) H
  cases near with
  | false =>
    simp only [bP_bool', Bool.false_eq_true, if_false]
    exact rest s h3 hs (Chg.refl _ _)
  | true =>
    simp only [bP_bool', if_true, pLdA_all (n := 4) hln3 rfl, oP_some']
    exact ct_text (b := b) (by omega) (hn.ext hg3 hb) (hw.ext hg3 hb) fun s h4 _ s2 hg4 => rest s h4 (by omega) hg4
end Go.Proofs.YtdpfhajggknfaaaGreatDoor.Hx
