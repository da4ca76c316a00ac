/- script.Run over so many lines, and the law's walk. -/
import Derived.Test.YtlbdcjnhlkkfeaaGreatDoorHxSq
namespace Go.Proofs.YtlbdcjnhlkkfeaaGreatDoor.Hx
/-- The cells of so many events. -/
def evs (n : Nat) : List V := (List.replicate n evc).flatten
theorem evs_succ (n : Nat) : evs (n + 1) = evs n ++ evc := by
  unfold evs
  rw [List.replicate_succ', List.flatten_append]
  simp
theorem evs_len (n : Nat) : (evs n).length = 9 * n := by
  induction n with
  | zero => rfl
  | succ n ih =>
    rw [evs_succ, List.length_append, ih]
    rfl
theorem evs_add (m n : Nat) : evs (m + n) = evs m ++ evs n := by
  unfold evs
  rw [← List.replicate_append_replicate, List.flatten_append]
theorem evs_at {i n : Nat} (hi : i < n) : sub (evs n) (0 + i * 9) 9 = some evc := by
  rw [sub_of (by rw [evs_len]; omega)]
  obtain ⟨m, rfl⟩ : ∃ m, n = i + (1 + m) := ⟨n - i - 1, by omega⟩
  rw [evs_add, evs_add, show 0 + i * 9 = (evs i).length by rw [evs_len]; omega, List.drop_left]
  rfl
theorem evs_one : ∀ n, allOne (evs n) = true
  | 0 => rfl
  | n + 1 => by
    rw [evs_succ, allOne_append, evs_one n]
    rfl
theorem errs_one : ∀ n, allOne (List.replicate n (V.str err3)) = true
  | 0 => rfl
  | n + 1 => by
    rw [List.replicate_succ, allOne_cons, errs_one n]
    rfl
theorem Own.far {e sz a n : Nat} {h : Hp} {cs : List V} {v : V} {l m : Nat} (ho : Own e sz a h cs n v) (hv : v = .slice l 0 m) : a ≤ l := by
  rcases ho with ⟨rfl, _⟩ | ⟨t, rfl, h1, _⟩
  · cases hv
  · cases hv
    exact h1
theorem Own.at9 {a n : Nat} {h : Hp} {v : V} {i : Nat} (ho : Own 47 9 a h (evs n) n v) (hi : i < n) : ∃ t o, pIx 9 v (.int .i64 (i : Nat)) = some (.ptr t o) ∧ pLdA 9 (.ptr t o) h = some (.agg evc) := by
  rcases ho with ⟨_, _, rfl⟩ | ⟨t, rfl, _, _, h2, _⟩
  · omega
  · refine ⟨t, 0 + i * 9, pIx_slice _ _ _ _ _ _ hi, ?_⟩
    rw [pLdA_ptr h2, evs_at hi]
    rfl
theorem add_one {i : Nat} (hi : i < 1000000) : hbin .add 3 (.int .i64 (i : Nat)) (.int .i64 1) = some (.int .i64 ((i + 1 : Nat) : Int)) := by
  rw [hbin_add, wrapF_in (by simp only [inK]; omega)]
  rfl
abbrev zE : O := .cells 47 1 true false [(V.int .i64 0), (V.int .i64 0), (V.int .i64 0), (V.int .i64 0), (V.int .i64 0), (V.int .i64 0), (V.int .i64 0), (V.int .i64 0), V.nilSlice]
theorem ct_Run {n : Nat} {Q : V → Hp → Prop} (hn : n ≤ 5000) (H1 : 4000 < n → ∀ h, Q (.tuple [.nilSlice, .int .i64 6, .int .i64 0]) h)
    (H2 : n ≤ 4000 → ∀ v h, Own 9 1 0 h (List.replicate n (.str err3)) n v → Q (.tuple [v, .int .i64 0, .int .i64 0]) h) :
    cP CS n_script_Run [.str progT, .int .i64 50, .nilSlice, .int .i64 99, .str (Tx.many n)] h0 Q := by
  refine ct_pre fun h D => ct_lines hn fun v h7 g7 hs => ?_
  have D7 := D.keep g7
  have hl := hs.len
  rw [List.length_replicate] at hl
  refine oP_mk hl (oP_mk (hbin_gtr _ _ _ _) ?_)
  rw [bP_bool']
  split
  · rename_i hb
    have hb' := of_decide_eq_true hb
    exact H1 (by omega) h7
  rename_i hb
  have hn4 : n ≤ 4000 := Nat.le_of_not_lt fun hc => hb (decide_eq_true (by omega))
  refine oP_mk hl ?_
  let J0 : Nat → LP := fun k l' h' => ∃ (i : Nat) (ev : V), l' = [.ptr 327 0, ev, v, .int .i64 (n : Nat), .int .i64 (i : Nat)] ∧ i + k = n ∧ Grows h7 h' ∧ Own 47 9 h7.next h' (evs i) i ev
  refine l_script_Run_L0 J0 ?_ (k := n) ⟨0, .nilSlice, rfl, by omega, .refl _ _, Own.nil⟩
  intro k _ ev _ _ _ h8 hi
  obtain ⟨i, _, ⟨⟩, hk, g8, ho⟩ := hi
  unfold B_script_Run_L0
  by_cases hi : i < n
  · refine ltT (by omega) ?_
    obtain ⟨l, o, u, _, e1, e2, e3⟩ := (hs.ext g8 fun _ hl => hl).ix1 (i := i) (by simpa using hi) .i64 rfl
    rw [List.getElem_replicate] at e3
    have e4 : [u] = [V.str Tx.evict] := e3
    obtain ⟨rfl, _⟩ := List.cons.inj e4
    refine oP_mk e1 (oP_mk e2 (ct_Parse (oP_mk rfl (oP_mk rfl ?_))))
    rw [alP_some]
    have q9 : pSt 9 (.ptr h8.next 0) (.agg evc) (h8.new zE) = _ := pSt_all (get_new_self _ _) rfl rfl rfl
    refine valP_mk q9 ?_
    have g9 : Grows h8 ((h8.new zE).put h8.next (.cells 47 1 true false evc)) := Chg.far (Chg.new _ _) (by simp only [next_new]; omega) (Nat.le_refl _)
    have e9 : ((h8.new zE).put h8.next (.cells 47 1 true false evc)).get h8.next = some (.cells 47 1 true false evc) := get_put_self _ (by simp only [next_new]; omega)
    generalize (h8.new zE).put h8.next (.cells 47 1 true false evc) = h9 at g9 e9 ⊢
    refine oP_mk (show _ = some (V.bool false) from rfl) ?_
    rw [bP_bool', if_neg (by decide)]
    refine oP_mk (pLdA_all e9 rfl) ?_
    rw [show pBS 47 9 1 (V.agg [(V.int .i64 0), (V.int .i64 0), (V.int .i64 0), (V.int .i64 0), (V.int .i64 0), (V.int .i64 0), (V.int .i64 0), (V.int .i64 0), V.nilSlice]) [(0, .agg evc)] = some (O.cells 47 9 true false evc, fun l => .slice l 0 1) from rfl, alP_some]
    have gA : Grows h8 (h9.new (.cells 47 9 true false evc)) := g9.trans (Chg.new _ _)
    have nA := (g8.trans gA).next
    obtain ⟨ev', h11, a1, a2, a3, _, _⟩ := (ho.chg gA fun _ _ _ x => x).append (by_ := 88) (xcells_new (k := 0) (cs := evc) rfl) (by decide) rfl (evs_one i) rfl nA (by omega) (by omega) (by decide)
    refine valP_mk a1 (oP_mk (add_one (by omega)) ⟨k - 1, by omega, i + 1, ev', rfl, by omega, (g8.trans gA).trans' a3 fun l hl he => ?_, ?_⟩)
    · have := ho.far he
      omega
    · rw [evs_succ]
      exact a2
  obtain rfl : i = n := by omega
  refine ltF (by omega) ?_
  refine oP_mk ho.len ?_
  let J1 : Nat → LP := fun k l' h' => ∃ (j : Nat) (tv : V), l' = [.ptr 327 0, tv, ev, .int .i64 (i : Nat), .int .i64 (j : Nat)] ∧ j + k = i ∧ Grows h8 h' ∧ Own 9 1 h8.next h' (List.replicate j (.str err3)) j tv
  refine l_script_Run_L1 J1 ?_ (k := i) ⟨0, .nilSlice, rfl, by omega, .refl _ _, Own.nil⟩
  intro k' _ tv _ _ _ hA hj
  obtain ⟨j, _, ⟨⟩, hk', gA, oA⟩ := hj
  have DA := (D7.keep g8).keep gA
  unfold B_script_Run_L1
  by_cases hj : j < i
  · refine ltT (by omega) ?_
    obtain ⟨t, o, e1, e2⟩ := (ho.chg gA fun _ _ _ x => x).at9 hj
    refine oP_mk e1 (oP_mk e2 ?_)
    rw [alP_some]
    have q9 : pSt 9 (.ptr hA.next 0) (.agg evc) (hA.new zE) = _ := pSt_all (get_new_self _ _) rfl rfl rfl
    refine valP_mk q9 ?_
    have g9 : Grows hA ((hA.new zE).put hA.next (.cells 47 1 true false evc)) := Chg.far (Chg.new _ _) (by simp only [next_new]; omega) (Nat.le_refl _)
    have e9 : ((hA.new zE).put hA.next (.cells 47 1 true false evc)).get hA.next = some (.cells 47 1 true false evc) := get_put_self _ (by simp only [next_new]; omega)
    generalize (hA.new zE).put hA.next (.cells 47 1 true false evc) = h9 at g9 e9 ⊢
    refine oP_mk (pLdA_all e9 rfl) (ct_Play (DA.keep g9) fun h10 g10 => ct_Tell ?_)
    rw [show pBS 9 1 1 (V.str []) [(0, .str err3)] = some (O.cells 9 1 true false [.str err3], fun l => .slice l 0 1) from rfl, alP_some]
    have gB : Grows hA (h10.new (.cells 9 1 true false [.str err3])) := (g9.trans g10).trans (Chg.new _ _)
    have nB := (gA.trans gB).next
    obtain ⟨tv', h11, a1, a2, a3, _, _⟩ := (oA.chg gB fun _ _ _ x => x).append (by_ := 16) (xcells_new (k := 0) (cs := [.str err3]) rfl) (by decide) rfl (errs_one j) rfl nB (by omega) (by omega) (by decide)
    refine valP_mk a1 (oP_mk (add_one (by omega)) ⟨k' - 1, by omega, j + 1, tv', rfl, by omega, (gA.trans gB).trans' a3 fun l hl he => ?_, ?_⟩)
    · have := oA.far he
      omega
    · rw [List.replicate_succ']
      exact a2
  obtain rfl : j = i := by omega
  refine ltF (by omega) ?_
  refine ct_Machine DA (ct_World DA (ct_Trace DA fun l hT gT => ct_out ?_))
  have e : ∀ h, happend 9 1 16 tv .nilSlice h = some (.val tv h) := by
    intro h
    rcases oA with ⟨rfl, _⟩ | ⟨t, rfl, _⟩ <;> rfl
  refine valP_mk (e hT) (H2 hn4 _ _ ((oA.chg gT fun _ _ _ x => x).low (Nat.zero_le _)))
end Go.Proofs.YtlbdcjnhlkkfeaaGreatDoor.Hx
