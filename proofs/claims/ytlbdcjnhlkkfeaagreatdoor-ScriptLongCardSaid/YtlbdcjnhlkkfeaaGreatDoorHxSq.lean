/- What a line's event does to a driver that has nothing: nothing; the lines of a script; what is told of an empty trace. -/
import Derived.Test.YtlbdcjnhlkkfeaaGreatDoorHxSn
import Derived.Test.YtlbdcjnhlkkfeaaGreatDoorHxSp
namespace Go.Proofs.YtlbdcjnhlkkfeaaGreatDoor.Hx
theorem valP_mk {x : Option R} {a : V} {h' : Hp} {K : V → Hp → Prop} (e : x = some (.val a h')) (H : K a h') : valP x K := by
  subst e
  exact H
theorem eqF {t : Nat} {a b : Int} {A B : Prop} (e : (a == b) = false) (H : B) : oP (hbin .eql t (.int .i64 a) (.int .i64 b)) fun v => bP v A B := by
  rw [hbin_eql, oP_some', bP_bool', e]
  exact H
theorem eqT {t : Nat} {a b : Int} {A B : Prop} (e : (a == b) = true) (H : A) : oP (hbin .eql t (.int .i64 a) (.int .i64 b)) fun v => bP v A B := by
  rw [hbin_eql, oP_some', bP_bool', e]
  exact H
theorem ltF {t : Nat} {a b : Int} {A B : Prop} (e : ¬ a < b) (H : B) : oP (hbin .lss t (.int .i64 a) (.int .i64 b)) fun v => bP v A B := by
  rw [hbin_lss, oP_some', bP_bool', if_neg (by simpa using e)]
  exact H
theorem ltT {t : Nat} {a b : Int} {A B : Prop} (e : a < b) (H : A) : oP (hbin .lss t (.int .i64 a) (.int .i64 b)) fun v => bP v A B := by
  rw [hbin_lss, oP_some', bP_bool', if_pos (by simpa using e)]
  exact H
/-! ### the lines of a script -/
theorem ct_lines {n : Nat} {h : Hp} {Q : V → Hp → Prop} (hn : n ≤ 5000) (H : ∀ v h', Grows h h' → SlR eS (lo h'.next) h' (List.replicate n Tx.evict) v → Q v h') : cP CS n_script_lines [.str (Tx.many n)] h Q := by
  refine c_script_lines rfl rfl ?_
  unfold B_script_lines
  refine ct_Split (by rw [Tx.many_len]; omega) fun v h' hg _ hs => ?_
  rw [Tx.split_many] at hs
  have hl : (List.replicate n Tx.evict ++ [[]]).length = n + 1 := by simp
  have e1 := hs.len
  rw [hl] at e1
  have e2 : hbin .sub 3 (.int .i64 ((n + 1 : Nat) : Int)) (.int .i64 1) = some (.int .i64 (n : Nat)) := by
    rw [hbin_sub, wrapF_in (by simp only [inK]; omega)]
    congr 2
    omega
  obtain ⟨l, o, u, _, e3, e4, e5⟩ := hs.ix1 (i := n) (by omega) .i64 rfl
  have e6 : [u] = [V.str (List.replicate n Tx.evict ++ [[]])[n]] := e5
  obtain ⟨e6, _⟩ := List.cons.inj e6
  subst e6
  refine oP_mk e1 (oP_mk e2 (oP_mk e3 (oP_mk e4 ?_)))
  rw [hbin_eqlS, oP_some', bP_bool', if_pos (by simp)]
  obtain ⟨v', c1, c2⟩ := hs.cut (lo := none) (hi := some (.int .i64 (n : Nat))) (m := 0) (n := n) rfl (hbound_at _ _ _) (Nat.zero_le _) (by omega)
  refine oP_mk e1 (oP_mk e2 (oP_mk c1 (j_script_lines_R3 ?_)))
  refine H _ _ hg ?_
  rw [List.drop_zero, List.take_left' (by simp)] at c2
  exact c2
/-! ### a unit that is not there -/
theorem ct_IndexFunc {g : V} {h : Hp} {Q : V → Hp → Prop} (H : Q (.int .i64 (-1)) h) : cP CS n_slices_IndexFunc_cache_items_cache_item [.nilSlice, g] h Q := by
  refine c_slices_IndexFunc_cache_items_cache_item rfl rfl ?_
  unfold B_slices_IndexFunc_cache_items_cache_item
  refine oP_mk pLen_nil ?_
  refine l_slices_IndexFunc_cache_items_cache_item_L0 (fun _ l' h' => l' = [.nilSlice, g, .int .i64 0, .int .i64 0] ∧ h' = h) ?_ (k := 0) ⟨rfl, rfl⟩
  intro k _ _ _ _ h' hi
  obtain ⟨⟨⟩, rfl⟩ := hi
  unfold B_slices_IndexFunc_cache_items_cache_item_L0
  exact ltF (by decide) H
theorem ct_Drop {h : Hp} {Q : V → Hp → Prop} (D : Drv h) (H : ∀ h', Grows h h' → Q (.bool false) h') : cP CS n_cache_Cache_Drop [.ptr 287 0, .int .i64 0, .int .i64 0] h Q := by
  refine c_cache_Cache_Drop rfl rfl ?_
  unfold B_cache_Cache_Drop
  refine c_cache_Cache_find rfl rfl ?_
  unfold B_cache_Cache_find
  rw [show hbox 3 (V.int .i64 0) = some (O.cells 3 1 true false [.int .i64 0], fun l => .ptr l 0) from rfl, alP_some, alP_some]
  have g : Grows h ((h.new (.cells 3 1 true false [.int .i64 0])).new (.cells 3 1 true false [.int .i64 0])) := (Chg.new _ _).trans (Chg.new _ _)
  refine oP_mk (pNil_ptr _ _) (oP_mk (pFA_ptr _ _ _) (oP_mk (pLd_keep g D.a) (ct_IndexFunc ?_)))
  exact ltT (by decide) (H _ g)
theorem ct_Over {h : Hp} {Q : V → Hp → Prop} (D : Drv h) (H : Q (.tuple [.int .i64 0, .int .i64 0]) h) : cP CS n_interp_Machine_Over [.ptr 255 0] h Q := by
  refine c_interp_Machine_Over rfl rfl ?_
  unfold B_interp_Machine_Over
  exact oP_mk (pNil_ptr _ _) (oP_mk (pFA_ptr _ _ _) (oP_mk D.s (oP_mk (pNil_ptr _ _) (oP_mk (pFA_ptr _ _ _) (oP_mk D.t H)))))
/-! ### the event -/
abbrev zR : O := .cells 53 1 true false [.int .i64 0, .int .i64 0, .int .i64 0, .int .i64 0, .int .i64 0, .nilSlice]
theorem mk3 {h : Hp} {a b c : O} {f f' f'' : Nat → V} {K : V → V → V → Hp → Prop} (H : ∀ h', Grows h h' → h'.next = h.next + 3 → h'.get h.next = some a → h'.get (h.next + 1) = some b → h'.get (h.next + 2) = some c → K (f h.next) (f' (h.next + 1)) (f'' (h.next + 2)) h') :
    alP (some (a, f)) h fun v h1 => alP (some (b, f')) h1 fun v' h2 => alP (some (c, f'')) h2 fun v'' h3 => K v v' v'' h3 := by
  rw [alP_some, alP_some, alP_some]
  refine H (((h.new a).new b).new c) (((Chg.new _ _).trans (Chg.new _ _)).trans (Chg.new _ _)) rfl ?_ ?_ (get_new_self _ _)
  · rw [get_new_lt _ (by simp only [next_new]; omega), get_new_lt _ (by simp only [next_new]; omega), get_new_self]
  · rw [get_new_lt _ (by simp only [next_new]; omega)]
    exact get_new_self _ _
/-- A store into what is new. -/
theorem Chg.far {h h' : Hp} {l : Nat} {o : O} (g : Grows h h') (hl : l < h'.next) (hf : h.next ≤ l) : Grows h (h'.put l o) :=
  g.trans' (Chg.put (S := fun m => m = l) o rfl hl) fun m hm e => by omega
theorem st_new {h h' : Hp} {l o T : Nat} {cs : List V} {v : V} (g : Grows h h') (hf : h.next ≤ l) (e : h'.get l = some (.cells T 1 true false cs)) (ho : o < cs.length) (hv : v.one = true) :
    ∃ h'', pSt 1 (.ptr l o) v h' = some (.val .undef h'') ∧ Grows h h'' ∧ h''.next = h'.next ∧ h''.get l = some (.cells T 1 true false (cs.set o v)) ∧ ∀ m, m ≠ l → h''.get m = h'.get m :=
  have hl := Hp.get_lt e
  ⟨_, pSt_at e ho hv, g.far hl hf, rfl, get_put_self _ hl, fun _ hm => get_put_ne _ hl (Ne.symm hm)⟩
theorem ct_Play {h : Hp} {Q : V → Hp → Prop} (D : Drv h) (H : ∀ h', Grows h h' → Q rowV h') : cP CS n_mixed_Driver_Play [.ptr 327 0, .agg evc] h Q := by
  refine c_mixed_Driver_Play rfl rfl ?_
  unfold B_mixed_Driver_Play
  rw [show hbox 47 (.agg evc) = some (O.cells 47 1 true false evc, fun l => .ptr l 0) from rfl]
  refine mk3 fun h3 g n e3 e4 e5 => ?_
  refine oP_mk (pFA_ptr _ _ _) (oP_mk (pLd_get (u := .int .i64 4) e3 rfl) ?_)
  refine eqF (by decide) (eqF (by decide) (eqF (by decide) (eqT (by decide) ?_)))
  refine oP_mk (pNil_ptr _ _) (oP_mk (pFA_ptr _ _ _) (oP_mk (pLd_keep g D.u) (oP_mk (pFA_ptr _ _ _) (oP_mk (pLd_get (u := .int .i64 0) e3 rfl) (oP_mk (pFA_ptr _ _ _) (oP_mk (pLd_get (u := .int .i64 0) e3 rfl) ?_))))))
  refine ct_Drop (D.keep g) fun h4 g4 => ⟨g4.next, ?_⟩
  have n4 := g4.next
  refine oP_mk (hun_not _) ?_
  rw [bP_bool', if_pos (by rfl)]
  have e5' : h4.get (h.next + 2) = some zR := by rw [g4.keep _ (by omega) (fun x => x)]; exact e5
  have e4' : h4.get (h.next + 1) = some zR := by rw [g4.keep _ (by omega) (fun x => x)]; exact e4
  obtain ⟨h5, s5, g5, n5, e6, k5⟩ := st_new (o := 0) (v := .int .i64 3) (g.trans g4) (by omega) e5' (by decide) rfl
  refine oP_mk (pFA_ptr _ _ _) (valP_mk s5 (j_mixed_Driver_Play_R3 ?_))
  unfold B_mixed_Driver_Play_R3
  have DA := D.keep g5
  refine oP_mk (pNil_ptr _ _) (oP_mk (pFA_ptr _ _ _) (oP_mk DA.m (ct_Over DA (oP_mk rfl (oP_mk rfl ?_)))))
  obtain ⟨h6, s6, g6, n6, e7, k6⟩ := st_new (o := 3) (v := .int .i64 0) g5 (by omega) e6 (by decide) rfl
  refine oP_mk (pFA_ptr _ _ _) (valP_mk s6 ?_)
  obtain ⟨h7, s7, g7, n7, e8, k7⟩ := st_new (o := 4) (v := .int .i64 0) g6 (by omega) e7 (by decide) rfl
  refine oP_mk (pFA_ptr _ _ _) (valP_mk s7 (oP_mk (pLdA_all e8 rfl) ?_))
  refine valP_mk (pSt_all (by rw [k7 _ (by omega), k6 _ (by omega), k5 _ (by omega)]; exact e4') rfl rfl rfl) ?_
  exact oP_mk (pLdA_all (get_put_self _ (by omega)) rfl) (H _ (g7.far (by omega) (by omega)))
/-! ### an empty trace -/
theorem ct_out {l : Nat} {h : Hp} {Q : V → Hp → Prop} (H : Q .nilSlice h) : cP CS n_script_out [.slice l 0 0] h Q := by
  refine c_script_out rfl rfl ?_
  unfold B_script_out
  refine oP_mk (pLen_slice _ _ _) ?_
  refine l_script_out_L0 (fun _ l' h' => l' = [.nilSlice, .slice l 0 0, .int .i64 0, .int .i64 0] ∧ h' = h) ?_ (k := 0) ⟨rfl, rfl⟩
  intro k _ _ _ _ h' hi
  obtain ⟨⟨⟩, rfl⟩ := hi
  unfold B_script_out_L0
  exact ltF (by decide) H
theorem ct_Trace {h : Hp} {Q : V → Hp → Prop} (D : Drv h) (H : ∀ l h', Grows h h' → Q (.slice l 0 0) h') : cP CS n_world_World_Trace [.ptr 266 0] h Q := by
  refine c_world_World_Trace rfl rfl ?_
  unfold B_world_World_Trace
  rw [show pBS 9 1 0 (V.str []) [] = some (O.cells 9 1 true false [], fun l => .slice l 0 0) from rfl, alP_some]
  refine oP_mk (pNil_ptr _ _) (oP_mk (pFA_ptr _ _ _) (oP_mk (pLd_keep (Chg.new _ _) D.l) ?_))
  exact valP_mk rfl (H _ _ (Chg.new _ _))
theorem ct_World {h : Hp} {Q : V → Hp → Prop} (D : Drv h) (H : Q (.ptr 266 0) h) : cP CS n_interp_Machine_World [.ptr 255 0] h Q := by
  refine c_interp_Machine_World rfl rfl ?_
  unfold B_interp_Machine_World
  exact oP_mk (pNil_ptr _ _) (oP_mk (pFA_ptr _ _ _) (oP_mk D.w H))
theorem ct_Machine {h : Hp} {Q : V → Hp → Prop} (D : Drv h) (H : Q (.ptr 255 0) h) : cP CS n_mixed_Driver_Machine [.ptr 327 0] h Q := by
  refine c_mixed_Driver_Machine rfl rfl ?_
  unfold B_mixed_Driver_Machine
  exact oP_mk (pNil_ptr _ _) (oP_mk (pFA_ptr _ _ _) (oP_mk D.m H))
end Go.Proofs.YtlbdcjnhlkkfeaaGreatDoor.Hx
