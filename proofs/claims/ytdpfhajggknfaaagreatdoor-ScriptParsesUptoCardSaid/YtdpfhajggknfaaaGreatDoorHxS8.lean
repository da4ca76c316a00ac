/- Chapter 30's text: script.Parse of a line. -/
import Derived.Test.YtdpfhajggknfaaaGreatDoorHxS7
namespace Go.Proofs.YtdpfhajggknfaaaGreatDoor.Hx
open Go.Proofs.YtdpfhajggknfaaaGreatDoor

theorem eqI (k m : Nat) : (((k : Nat) : Int) == (m : Int)) = decide (k = m) := by
  by_cases h : k = m
  · subst h; simp
  · have : ¬ ((k : Int) = m) := by omega
    simp [h, this]
theorem ct_Parse {s : Tx.Bs} {h : Hp} {Q : V → Hp → Prop} (hs : s.length < 1000000000)
    (H : ∀ v h', Grows h h' → SlR eT h'.next h' (parseR s).1.ty v → Q (.tuple [.agg (evCells (parseR s).1 v), .int .i64 (parseR s).2]) h') : cP CS n_script_Parse [.str s] h Q := by
  refine c_script_Parse rfl rfl ?_
  unfold B_script_Parse
  simp only [alP_some]
  refine ct_Split hs fun v8 h2 hg2 hn2 hsl2 => ?_
  have hn2' : h2.next = h.next + 2 := by rw [hn2]; rfl
  obtain ⟨w0, ws, hsp⟩ : ∃ w0 ws, Tx.split 32 s = w0 :: ws := by
    cases hq : Tx.split 32 s with
    | nil => exact absurd hq (Tx.split_ne 32 s)
    | cons w ws => exact ⟨w, ws, rfl⟩
  obtain ⟨hsm, hcnt⟩ := split_small (c := 32) s
  rw [hsp] at hsl2 hsm hcnt
  have hone := hsl2.one
  have b1 : pBuild [V.nilSlice, (V.bool false)] [(0, 1), (1, 1)] [(0, v8), (1, (V.bool true))] = some (.agg [v8, .bool true]) := by
    have hq := hsl2
    rcases hq with ⟨e, _⟩ | ⟨_, _, _, _, _, _, e, _⟩ <;> rw [e] <;> rfl
  have b2 : hbox 54 (.agg [v8, .bool true]) = some (.cells 54 1 true false [v8, .bool true], fun l => .ptr l 0) := by
    unfold hbox
    rw [bB_of _ (by simp only [V.cells, allOne_cons, hone, allOne_nil]; rfl)]
    rfl
  simp only [b1, oP_some', b2, alP_some]
  have hw3 : WsAt h2.next (h2.new (.cells 54 1 true false [v8, .bool true])) (w0 :: ws) true := ⟨54, 1, v8, get_new_self _ _, by simp, hsl2.keep fun m hm => get_new_lt _ hm⟩
  refine ct_next hw3 fun h4 hc4 hn4 hw4 => ?_
  have hn4' : h4.next = h.next + 3 := by rw [hn4]; simp; omega
  refine ct_kind ?_
  simp only [List.headD_cons]
  have hK := Tx.kindOf_le w0
  have hR := parseR_eq hsp
  generalize Tx.kindOf w0 = K at *
  have b3 : pBuild [(V.int .i64 0), (V.int .i64 0), (V.int .i64 0), (V.int .i64 0), (V.int .i64 0), (V.int .i64 0), (V.int .i64 0), (V.int .i64 0), V.nilSlice] [(0, 1), (1, 1), (2, 1), (3, 1), (4, 5)] [(0, V.int .i64 (K : Nat))] =
    some (.agg (evCells { Tx.ev0 with kind := (K : Nat) } .nilSlice)) := rfl
  have s1 := pSt_all (ws := evCells { Tx.ev0 with kind := (K : Nat) } .nilSlice) (n := 9) (get_new_self h4 (.cells 26 1 true false [(V.int .i64 0), (V.int .i64 0), (V.int .i64 0), (V.int .i64 0), (V.int .i64 0), (V.int .i64 0), (V.int .i64 0), (V.int .i64 0), V.nilSlice])) rfl rfl rfl
  simp only [b3, oP_some', alP_some, s1, valP_some, pFA_ptr, Nat.zero_add]
  have l5n : h4.next < (h4.new (.cells 26 1 true false [(V.int .i64 0), (V.int .i64 0), (V.int .i64 0), (V.int .i64 0), (V.int .i64 0), (V.int .i64 0), (V.int .i64 0), (V.int .i64 0), V.nilSlice])).next := by simp
  generalize hh5 : h4.new (.cells 26 1 true false [(V.int .i64 0), (V.int .i64 0), (V.int .i64 0), (V.int .i64 0), (V.int .i64 0), (V.int .i64 0), (V.int .i64 0), (V.int .i64 0), V.nilSlice]) = h5 at *
  have hg15 : Grows h4 h5 := by rw [← hh5]; exact Chg.new _ _
  have hn5 : h5.next = h.next + 4 := by rw [← hh5]; simp; omega
  have hput : Chg (fun m => m = h4.next) h5 (h5.put h4.next (.cells 26 1 true false (evCells { Tx.ev0 with kind := (K : Nat) } .nilSlice))) := Chg.put _ rfl l5n
  have hev : (h5.put h4.next (.cells 26 1 true false (evCells { Tx.ev0 with kind := (K : Nat) } .nilSlice))).get h4.next = some (.cells 26 1 true false (evCells { Tx.ev0 with kind := (K : Nat) } .nilSlice)) := get_put_self _ l5n
  have gk : pLd (.ptr h4.next 0) (h5.put h4.next (.cells 26 1 true false (evCells { Tx.ev0 with kind := (K : Nat) } .nilSlice))) = some (.int .i64 (K : Nat)) := pLd_get hev rfl
  have hn6 : (h5.put h4.next (.cells 26 1 true false (evCells { Tx.ev0 with kind := (K : Nat) } .nilSlice))).next = h.next + 4 := hn5
  generalize hh6 : h5.put h4.next (.cells 26 1 true false (evCells { Tx.ev0 with kind := (K : Nat) } .nilSlice)) = h6 at *
  have hG : Grows h h6 := by
    refine grows_trans (grows_trans (grows_trans (grows_trans ((Chg.new _ _ : Grows h _).trans hg2) (Chg.new (S := fun _ => False) h2 (.cells 54 1 true false [v8, .bool true])) (fun _ _ h => h)) hc4 fun l hl e => by omega) hg15 fun _ _ h => h) hput fun l hl e => by omega
  have hres : ∃ cs, h6.get h.next = some (.cells 26 1 true false cs) ∧ cs.length = 9 := by
    refine ⟨[(V.int .i64 0), (V.int .i64 0), (V.int .i64 0), (V.int .i64 0), (V.int .i64 0), (V.int .i64 0), (V.int .i64 0), (V.int .i64 0), V.nilSlice], ?_, rfl⟩
    rw [hput.keep _ (by omega) (by omega), hg15.keep _ (by omega) (fun h => h), hc4.keep _ (by simp; omega) (by omega), get_new_lt _ (by omega), hg2.keep _ (by simp) (fun h => h)]
    exact get_new_self _ _
  have hP : PSt h.next h2.next h4.next h6 ws true { Tx.ev0 with kind := (K : Nat) } .nilSlice :=
    ⟨by
      have := (WsAt.chg hg15 (fun _ _ h => h) hw4).chg hput fun m hm e => by omega
      simpa using this, fun w hw => by have := hsm w (by simp [hw]); omega, hev, by omega, by omega, by omega, hres, Own.nil, fun x hx => by cases hx⟩
  -- what is left behind the numbers
  have done : ∀ {os : List Nat} {e' : Tx.Ev} {ws' : List Tx.Bs} {ok' : Bool}, os.length ≤ 8 → (∀ o ∈ os, o < 8) → (rowM os ws true (evCells { Tx.ev0 with kind := (K : Nat) } .nilSlice)).2.2 = evCells e' .nilSlice → e'.ty = [] →
      fin (rowM os ws true (evCells { Tx.ev0 with kind := (K : Nat) } .nilSlice)).1 (rowM os ws true (evCells { Tx.ev0 with kind := (K : Nat) } .nilSlice)).2.1 e' = parseR s → small (rowM os ws true (evCells { Tx.ev0 with kind := (K : Nat) } .nilSlice)).1 →
      cP CS n_script_words_row [.ptr h2.next 0, .func n_script_words_int [.ptr h2.next 0] [], .slice h6.next 0 os.length] (h6.new (.cells 58 1 true false (os.map fun o => V.ptr h4.next o))) fun v27 h2_1 => J_script_Parse_R4 CS Q (.ptr h.next 0) (.ptr h2.next 0) (.ptr h4.next 0) h2_1 := by
    intro os e' _ _ h8 ho hrow hty hfin hsm'
    refine pS_row hP h8 ho fun h7 hc7 hw7 hev7 hres7 h57 hown7 => ?_
    rw [hrow] at hev7
    refine pS_R4 (ws := (rowM os ws true (evCells { Tx.ev0 with kind := (K : Nat) } .nilSlice)).1) (ok := (rowM os ws true (evCells { Tx.ev0 with kind := (K : Nat) } .nilSlice)).2.1) (e := e') (v := .nilSlice)
      ⟨hw7, hsm', hev7, by omega, by omega, h57, hres7, by rw [hty]; exact Own.nil, by rw [hty]; exact fun x hx => by cases hx⟩ fun v' h8' hc8 hsl8 => ?_
    rw [hfin] at hsl8 ⊢
    refine H v' h8' ?_ hsl8
    exact grows_trans (grows_trans (grows_trans hG (Chg.new (S := fun _ => False) h6 _) fun _ _ h => h) hc7 fun l hl e => by omega) hc8 fun l hl e => by omega
  have hsmw : small ws := hP.sm
  have hx1 : ∀ a b : V, pBS 58 1 1 V.nilPtr [(0, a)] = bB true (pBS 58 1 1 V.nilPtr [(0, a)]) := fun _ _ => rfl
  have p1 : ∀ l o, pBS 58 1 1 V.nilPtr [(0, V.ptr l o)] = some (.cells 58 1 true false ([o].map fun o => V.ptr l o), fun l => .slice l 0 1) := fun _ _ => rfl
  have p2 : ∀ l o o', pBS 58 1 2 V.nilPtr [(0, V.ptr l o), (1, V.ptr l o')] = some (.cells 58 1 true false ([o, o'].map fun o => V.ptr l o), fun l => .slice l 0 2) := fun _ _ _ => rfl
  have p4 : ∀ l a b c d, pBS 58 1 4 V.nilPtr [(0, V.ptr l a), (1, V.ptr l b), (2, V.ptr l c), (3, V.ptr l d)] = some (.cells 58 1 true false ([a, b, c, d].map fun o => V.ptr l o), fun l => .slice l 0 4) := fun _ _ _ _ _ => rfl
  have hcase : K = 0 ∨ K = 1 ∨ K = 2 ∨ K = 3 ∨ K = 4 ∨ K = 5 ∨ K = 6 ∨ K = 7 := by omega
  have q (a b : Int) : hbin .eql 3 (.int .i64 a) (.int .i64 b) = some (.bool (a == b)) := hbin_eql 3 .i64 a b
  clear hK
  rcases hcase with rfl | rfl | rfl | rfl | rfl | rfl | rfl | rfl
  · -- none
    simp (config := { decide := true }) only [gk, oP_some', q, bP_bool', if_false]
    refine j_script_Parse_R6 ?_
    unfold B_script_Parse_R6
    simp (config := { decide := true }) only [oP_some', q, bP_bool', if_false]
    refine j_script_Parse_R11 ?_
    unfold B_script_Parse_R11
    simp (config := { decide := true }) only [oP_some', q, bP_bool', if_false]
    obtain ⟨cs, hr1, hr2⟩ := hres
    have l2n : h.next < h6.next := by omega
    have s2 := pSt_all (ws := evCells Tx.ev0 .nilSlice) (n := 9) hr1 rfl hr2 rfl
    have r1 := pLdA_all (n := 9) (get_put_self (h := h6) (.cells 26 1 true false (evCells Tx.ev0 .nilSlice)) l2n) rfl
    have b9 : pBuild [(V.int .i64 0), (V.int .i64 0), (V.int .i64 0), (V.int .i64 0), (V.int .i64 0), (V.int .i64 0), (V.int .i64 0), (V.int .i64 0), V.nilSlice] [(0, 1), (1, 1), (2, 1), (3, 1), (4, 5)] [] = some (.agg (evCells Tx.ev0 .nilSlice)) := rfl
    simp only [b9, oP_some', s2, valP_some, r1]
    have hz : restR 0 ws = (Tx.ev0, 5) := by
      unfold restR
      cases Tx.readAll ws with
      | none => rfl
      | some ns => rw [Option.bind_some, Tx.evOf_zero]; rfl
    rw [hR, hz] at H
    exact H .nilSlice _ (grows_trans hG (Chg.put (S := fun m => m = h.next) _ rfl l2n) fun l hl e => by omega) SlR.nil
  · simp (config := { decide := true }) only [gk, oP_some', q, bP_bool', if_true, if_false]
    refine j_script_Parse_R6 ?_
    unfold B_script_Parse_R6
    simp only [bP_bool', if_true, pFA_ptr, oP_some', Nat.zero_add, p1, alP_some]
    exact done (os := [3]) (ws' := []) (ok' := true) (e' := { Tx.ev0 with kind := 1, n := (nextM ws true).1 }) (by simp) (by simp) rfl rfl (by rw [hR]; exact finA (k := 1) (mk := fun a => { Tx.ev0 with kind := 1, n := a }) rfl (fun _ => rfl) (fun _ _ _ => rfl) (fun _ => rfl) ws) (small_next hsmw)
  · simp (config := { decide := true }) only [gk, oP_some', q, bP_bool', if_true, if_false]
    refine j_script_Parse_R6 ?_
    unfold B_script_Parse_R6
    simp (config := { decide := true }) only [oP_some', q, bP_bool', if_true, if_false]
    refine j_script_Parse_R11 ?_
    unfold B_script_Parse_R11
    simp only [bP_bool', if_true, pFA_ptr, oP_some', Nat.zero_add, p2, alP_some]
    exact done (os := [1, 2]) (ws' := []) (ok' := true) (e' := { Tx.ev0 with kind := 2, f := (nextM ws true).1, pc := (nextM (nextM ws true).2.1 (nextM ws true).2.2).1 }) (by simp) (by simp) rfl rfl (by rw [hR]; exact finB (k := 2) (mk := fun a b => { Tx.ev0 with kind := 2, f := a, pc := b }) rfl (fun _ => rfl) (fun _ _ => rfl) (fun _ _ _ _ => rfl) (fun _ _ => rfl) ws) (small_next (small_next hsmw))
  · simp (config := { decide := true }) only [gk, oP_some', q, bP_bool', if_true, if_false]
    refine j_script_Parse_R6 ?_
    unfold B_script_Parse_R6
    simp only [bP_bool', if_true, pFA_ptr, oP_some', Nat.zero_add, p1, alP_some]
    exact done (os := [3]) (ws' := []) (ok' := true) (e' := { Tx.ev0 with kind := 3, n := (nextM ws true).1 }) (by simp) (by simp) rfl rfl (by rw [hR]; exact finA (k := 3) (mk := fun a => { Tx.ev0 with kind := 3, n := a }) rfl (fun _ => rfl) (fun _ _ _ => rfl) (fun _ => rfl) ws) (small_next hsmw)
  · simp (config := { decide := true }) only [gk, oP_some', q, bP_bool', if_true, if_false]
    refine j_script_Parse_R6 ?_
    unfold B_script_Parse_R6
    simp (config := { decide := true }) only [oP_some', q, bP_bool', if_true, if_false]
    refine j_script_Parse_R11 ?_
    unfold B_script_Parse_R11
    simp only [bP_bool', if_true, pFA_ptr, oP_some', Nat.zero_add, p2, alP_some]
    exact done (os := [1, 2]) (ws' := []) (ok' := true) (e' := { Tx.ev0 with kind := 4, f := (nextM ws true).1, pc := (nextM (nextM ws true).2.1 (nextM ws true).2.2).1 }) (by simp) (by simp) rfl rfl (by rw [hR]; exact finB (k := 4) (mk := fun a b => { Tx.ev0 with kind := 4, f := a, pc := b }) rfl (fun _ => rfl) (fun _ _ => rfl) (fun _ _ _ _ => rfl) (fun _ _ => rfl) ws) (small_next (small_next hsmw))
  · simp (config := { decide := true }) only [gk, oP_some', q, bP_bool', if_true, if_false]
    refine j_script_Parse_R6 ?_
    unfold B_script_Parse_R6
    simp (config := { decide := true }) only [oP_some', q, bP_bool', if_true, if_false]
    refine j_script_Parse_R11 ?_
    unfold B_script_Parse_R11
    simp (config := { decide := true }) only [oP_some', q, bP_bool', if_true, if_false, pFA_ptr, Nat.zero_add, p1, alP_some]
    exact done (os := [1]) (ws' := []) (ok' := true) (e' := { Tx.ev0 with kind := 5, f := (nextM ws true).1 }) (by simp) (by simp) rfl rfl (by rw [hR]; exact finA (k := 5) (mk := fun a => { Tx.ev0 with kind := 5, f := a }) rfl (fun _ => rfl) (fun _ _ _ => rfl) (fun _ => rfl) ws) (small_next hsmw)
  · simp (config := { decide := true }) only [gk, oP_some', q, bP_bool', if_true, if_false]
    refine j_script_Parse_R6 ?_
    unfold B_script_Parse_R6
    simp (config := { decide := true }) only [oP_some', q, bP_bool', if_true, if_false]
    refine j_script_Parse_R11 ?_
    unfold B_script_Parse_R11
    simp (config := { decide := true }) only [oP_some', q, bP_bool', if_true, if_false, pFA_ptr, Nat.zero_add, Nat.add_zero, Nat.reduceAdd, p4, alP_some]
    refine pS_row (os := [4, 5, 6, 7]) hP (by simp) (by simp) fun h7 hc7 hw7 hev7 hres7 h57 hown7 => ?_
    refine pS_L0 (ws := (rowM [4, 5, 6, 7] ws true (evCells { Tx.ev0 with kind := ((6 : Nat) : Int) } .nilSlice)).1) (ok := (rowM [4, 5, 6, 7] ws true (evCells { Tx.ev0 with kind := ((6 : Nat) : Int) } .nilSlice)).2.1)
      (e := mkC (nextM ws true).1 (nextM (nextM ws true).2.1 (nextM ws true).2.2).1 (nextM (nextM (nextM ws true).2.1 (nextM ws true).2.2).2.1 (nextM (nextM ws true).2.1 (nextM ws true).2.2).2.2).1
        (nextM (nextM (nextM (nextM ws true).2.1 (nextM ws true).2.2).2.1 (nextM (nextM ws true).2.1 (nextM ws true).2.2).2.2).2.1 (nextM (nextM (nextM ws true).2.1 (nextM ws true).2.2).2.1 (nextM (nextM ws true).2.1 (nextM ws true).2.2).2.2).2.2).1) (v := .nilSlice)
      ⟨hw7, small_next (small_next (small_next (small_next hsmw))), hev7, by omega, by omega, h57, hres7, Own.nil, fun x hx => by cases hx⟩ ?_ fun v' h8' hc8 hsl8 => ?_
    · have h1 := nextM_len ws true
      have h2 := nextM_len (nextM ws true).2.1 (nextM ws true).2.2
      have h3 := nextM_len (nextM (nextM ws true).2.1 (nextM ws true).2.2).2.1 (nextM (nextM ws true).2.1 (nextM ws true).2.2).2.2
      have h4 := nextM_len (nextM (nextM (nextM ws true).2.1 (nextM ws true).2.2).2.1 (nextM (nextM ws true).2.1 (nextM ws true).2.2).2.2).2.1 (nextM (nextM (nextM ws true).2.1 (nextM ws true).2.2).2.1 (nextM (nextM ws true).2.1 (nextM ws true).2.2).2.2).2.2
      simp only [rowM, mkC, Tx.ev0, List.length_nil, List.length_cons] at hcnt ⊢
      omega
    · have hfour := outC_four ws
      simp only at hfour
      have hfin : outC (rowM [4, 5, 6, 7] ws true (evCells { Tx.ev0 with kind := ((6 : Nat) : Int) } .nilSlice)).1 (rowM [4, 5, 6, 7] ws true (evCells { Tx.ev0 with kind := ((6 : Nat) : Int) } .nilSlice)).2.1 (mkC (nextM ws true).1 (nextM (nextM ws true).2.1 (nextM ws true).2.2).1 (nextM (nextM (nextM ws true).2.1 (nextM ws true).2.2).2.1 (nextM (nextM ws true).2.1 (nextM ws true).2.2).2.2).1
        (nextM (nextM (nextM (nextM ws true).2.1 (nextM ws true).2.2).2.1 (nextM (nextM ws true).2.1 (nextM ws true).2.2).2.2).2.1 (nextM (nextM (nextM ws true).2.1 (nextM ws true).2.2).2.1 (nextM (nextM ws true).2.1 (nextM ws true).2.2).2.2).2.2).1) = parseR s := by
        rw [hR]; exact hfour
      rw [hfin] at hsl8 ⊢
      refine H v' h8' ?_ hsl8
      exact grows_trans (grows_trans (grows_trans hG (Chg.new (S := fun _ => False) h6 _) fun _ _ h => h) hc7 fun l hl e => by omega) hc8 fun l hl e => by omega
  · simp (config := { decide := true }) only [gk, oP_some', q, bP_bool', if_true, if_false]
    refine j_script_Parse_R6 ?_
    unfold B_script_Parse_R6
    simp (config := { decide := true }) only [bP_bool', if_true, pFA_ptr, oP_some', Nat.zero_add, p1, alP_some]
    exact done (os := [3]) (ws' := []) (ok' := true) (e' := { Tx.ev0 with kind := 7, n := (nextM ws true).1 }) (by simp) (by simp) rfl rfl (by rw [hR]; exact finA (k := 7) (mk := fun a => { Tx.ev0 with kind := 7, n := a }) rfl (fun _ => rfl) (fun _ _ _ => rfl) (fun _ => rfl) ws) (small_next hsmw)
end Go.Proofs.YtdpfhajggknfaaaGreatDoor.Hx
