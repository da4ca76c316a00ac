/- Chapter 30's text: script.Parse is what the plain reading of a line is. -/
import Derived.Test.YtdpfhajggknfaaaGreatDoorHxS5
namespace Go.Proofs.YtdpfhajggknfaaaGreatDoor.Hx
open Go.Proofs.YtdpfhajggknfaaaGreatDoor

/-! ### events as cells -/
def evCells (e : Tx.Ev) (v : V) : List V := [.int .i64 e.kind, .int .i64 e.f, .int .i64 e.pc, .int .i64 e.n, .int .i64 e.cf, .int .i64 e.cpc, .int .i64 e.cy, .int .i64 e.cn, v]
def eT : Enc (Int × Int) := eP (eI .i64) (eI .i64)
def tyCells (l : List (Int × Int)) : List V := l.flatMap fun x => [.int .i64 x.1, .int .i64 x.2]
def tyIn (l : List (Int × Int)) : Prop := ∀ x ∈ l, inK .i64 x.1 ∧ inK .i64 x.2
theorem win_ty {b : Nat} {h : Hp} : ∀ (l : List (Int × Int)), tyIn l → Win eT b h (tyCells l) l
  | [], _ => trivial
  | x :: l, hi => ⟨[.int .i64 x.1, .int .i64 x.2], tyCells l, rfl, ⟨[.int .i64 x.1], [.int .i64 x.2], rfl, ⟨rfl, (hi x (by simp)).1⟩, ⟨rfl, (hi x (by simp)).2⟩⟩, win_ty l fun y hy => hi y (by simp [hy])⟩
theorem tyCells_append (l m : List (Int × Int)) : tyCells (l ++ m) = tyCells l ++ tyCells m := by simp [tyCells]
theorem tyCells_length (l : List (Int × Int)) : (tyCells l).length = l.length * 2 := by
  induction l with
  | nil => rfl
  | cons x l ih => simp only [tyCells, List.flatMap_cons, List.length_append, List.length_cons, List.length_nil] at ih ⊢; omega
theorem tyCells_one (l : List (Int × Int)) : allOne (tyCells l) = true := by
  induction l with
  | nil => rfl
  | cons x l ih =>
    have : tyCells (x :: l) = [.int .i64 x.1, .int .i64 x.2] ++ tyCells l := rfl
    rw [this, allOne_append, ih]; rfl
def parseR (s : Tx.Bs) : Tx.Ev × Int := match Tx.parseM s with
  | some e => (e, 0)
  | none => (Tx.ev0, 5)
/-- What comes of an event when all was read. -/
def fin (ws : List Tx.Bs) (ok : Bool) (e : Tx.Ev) : Tx.Ev × Int := if ok = true ∧ ws = [] ∧ e.ty.length ≤ 8 then (e, 0) else (Tx.ev0, 5)
/-- What comes of an event whose counts are still to be read. -/
def outC (ws : List Tx.Bs) (ok : Bool) (e : Tx.Ev) : Tx.Ev × Int := if ok = true then (match (Tx.readAll ws).bind Tx.pairs with
  | some ts => if (e.ty ++ ts).length ≤ 8 then ({ e with ty := e.ty ++ ts }, 0) else (Tx.ev0, 5)
  | none => (Tx.ev0, 5)) else (Tx.ev0, 5)
theorem outC_end {ws : List Tx.Bs} {ok : Bool} {e : Tx.Ev} (h : ok = false ∨ ws = []) : fin ws ok e = outC ws ok e := by
  unfold fin outC
  rcases h with rfl | rfl
  · simp
  · cases ok with
    | false => simp
    | true =>
      simp only [Tx.readAll, Option.bind_some, Tx.pairs, List.append_nil, if_true, true_and]
theorem pairs_cons2 (a b : Int) (l : List Int) : Tx.pairs (a :: b :: l) = (Tx.pairs l).map ((a, b) :: ·) := rfl
theorem outC_step {ws : List Tx.Bs} {e : Tx.Ev} (h : ws ≠ []) : outC ws true e = outC (nextM (nextM ws true).2.1 (nextM ws true).2.2).2.1 (nextM (nextM ws true).2.1 (nextM ws true).2.2).2.2 { e with ty := e.ty ++ [((nextM ws true).1, (nextM (nextM ws true).2.1 (nextM ws true).2.2).1)] } := by
  match ws, h with
  | [w], _ =>
    cases hw : Tx.pInt w <;> simp [outC, nextM, Tx.readAll, hw, Tx.pairs]
  | w :: w' :: r, _ =>
    cases hw : Tx.pInt w with
    | none => simp [outC, nextM, Tx.readAll, hw]
    | some n =>
      cases hw' : Tx.pInt w' with
      | none => simp [outC, nextM, Tx.readAll, hw, hw']
      | some n' =>
        cases hr : Tx.readAll r with
        | none => simp [outC, nextM, Tx.readAll, hw, hw', hr]
        | some ns =>
          cases hp : Tx.pairs ns with
          | none => simp [outC, nextM, Tx.readAll, hw, hw', hr, pairs_cons2, hp]
          | some ts => simp [outC, nextM, Tx.readAll, hw, hw', hr, pairs_cons2, hp]
theorem pInt_in {w : Tx.Bs} : inK .i64 ((Tx.pInt w).getD 0) := by
  cases h : Tx.pInt w with
  | none => simp [inK]
  | some n =>
    have := (Tx.itoa_pInt h).2
    simp only [Option.getD_some, inK]; omega
theorem nextM_in (ws : List Tx.Bs) (ok : Bool) : inK .i64 (nextM ws ok).1 := by
  cases ws with
  | nil => simp [nextM, inK]
  | cons w r => exact pInt_in
theorem nextM_len (ws : List Tx.Bs) (ok : Bool) : (nextM ws ok).2.1.length = ws.length - 1 := by
  cases ws <;> rfl

/-! ### the walk -/
/-- Where the parts of Parse lie: the result, the words, the event, its counts. -/
structure PSt (l2 l4 l5 : Nat) (h : Hp) (ws : List Tx.Bs) (ok : Bool) (e : Tx.Ev) (v : V) : Prop where
  words : WsAt l4 h ws ok
  sm : small ws
  ev : h.get l5 = some (.cells 26 1 true false (evCells e v))
  l24 : l2 < l4
  l45 : l4 < l5
  l5n : l5 < h.next
  res : ∃ cs, h.get l2 = some (.cells 26 1 true false cs) ∧ cs.length = 9
  own : Own 60 2 (l5 + 1) h (tyCells e.ty) e.ty.length v
  tin : tyIn e.ty
theorem evCells_len (e : Tx.Ev) (v : V) : (evCells e v).length = 9 := rfl
theorem evCells_one (e : Tx.Ev) {v : V} (h : v.one = true) : allOne (evCells e v) = true := by
  unfold evCells
  simp only [allOne_cons, h, allOne_nil, Bool.and_true]
  rfl
theorem pS_R4 {l2 l4 l5 : Nat} {h : Hp} {ws : List Tx.Bs} {ok : Bool} {e : Tx.Ev} {v : V} {Q : V → Hp → Prop} (hp : PSt l2 l4 l5 h ws ok e v)
    (H : ∀ v' h', Chg (fun m => m = l2) h h' → SlR eT h'.next h' (fin ws ok e).1.ty v' → Q (.tuple [.agg (evCells (fin ws ok e).1 v'), .int .i64 (fin ws ok e).2]) h') :
    J_script_Parse_R4 CS Q (.ptr l2 0) (.ptr l4 0) (.ptr l5 0) h := by
  obtain ⟨⟨e1, sz1, wv, hg, hl, hs⟩, hsm, hev, h24, h45, h5n, ⟨cs, hres, hcs⟩, hown, htin⟩ := hp
  refine j_script_Parse_R4 ?_
  unfold B_script_Parse_R4
  have g1 : pLd (.ptr l4 1) h = some (.bool ok) := pLd_get hg rfl
  have g0 : pLd (.ptr l4 0) h = some wv := pLd_get hg rfl
  have g8 : pLd (.ptr l5 8) h = some v := pLd_get hev rfl
  have l2n : l2 < h.next := by omega
  simp only [pNil_ptr, oP_some', pFA_ptr, Nat.zero_add, g1, hun_not, oB_some', g0, hs.len, hbin_gtr, pOr_bool, Nat.reduceAdd, g8, hown.len, bP_bool']
  split
  · rename_i hb
    have hf : fin ws ok e = (Tx.ev0, 5) := by
      unfold fin
      rw [if_neg]
      rintro ⟨rfl, rfl, h8⟩
      simp only [Bool.not_true, List.length_nil, Bool.false_or, Bool.or_eq_true, decide_eq_true_eq] at hb
      omega
    rw [hf] at H
    have b1 : pBuild [(V.int .i64 0), (V.int .i64 0), (V.int .i64 0), (V.int .i64 0), (V.int .i64 0), (V.int .i64 0), (V.int .i64 0), (V.int .i64 0), V.nilSlice] [(0, 1), (1, 1), (2, 1), (3, 1), (4, 5)] [] = some (.agg (evCells Tx.ev0 .nilSlice)) := rfl
    have s1 := pSt_all (ws := evCells Tx.ev0 .nilSlice) (n := 9) hres rfl hcs rfl
    have r1 := pLdA_all (n := 9) (get_put_self (h := h) (.cells 26 1 true false (evCells Tx.ev0 .nilSlice)) l2n) rfl
    simp only [b1, oP_some', s1, valP_some, r1]
    exact H _ _ (Chg.put _ rfl l2n) SlR.nil
  · rename_i hb
    simp only [Bool.or_eq_true, Bool.not_eq_true', decide_eq_true_eq, not_or] at hb
    have hf : fin ws ok e = (e, 0) := by
      unfold fin
      rw [if_pos]
      refine ⟨by simpa using hb.1.1, List.eq_nil_of_length_eq_zero (by omega), by omega⟩
    rw [hf] at H
    have r0 := pLdA_all (n := 9) hev rfl
    have s1 := pSt_all (ws := evCells e v) (n := 9) hres rfl hcs (evCells_one e hown.one)
    have r1 := pLdA_all (n := 9) (get_put_self (h := h) (.cells 26 1 true false (evCells e v)) l2n) rfl
    simp only [r0, oP_some', s1, valP_some, r1]
    have hc : Chg (fun m => m = l2) h (h.put l2 (.cells 26 1 true false (evCells e v))) := Chg.put _ rfl l2n
    exact H _ _ hc ((hown.chg hc fun m hm _ e => by omega).slR (E := eT) (Nat.le_refl _) (win_ty _ htin))
/-- Numbers are read into places of the event. -/
theorem pS_row {l2 l4 l5 : Nat} {h : Hp} {ws : List Tx.Bs} {ok : Bool} {e : Tx.Ev} {v : V} {os : List Nat} {Q : V → Hp → Prop} (hp : PSt l2 l4 l5 h ws ok e v) (h8 : os.length ≤ 8) (ho : ∀ o ∈ os, o < 8)
    (H : ∀ h', Chg (fun k => k = l4 ∨ k = l5) (h.new (.cells 58 1 true false (os.map fun o => V.ptr l5 o))) h' → WsAt l4 h' (rowM os ws ok (evCells e v)).1 (rowM os ws ok (evCells e v)).2.1 → h'.get l5 = some (.cells 26 1 true false (rowM os ws ok (evCells e v)).2.2) →
      (∃ cs, h'.get l2 = some (.cells 26 1 true false cs) ∧ cs.length = 9) → l5 < h'.next → Own 60 2 (l5 + 1) h' (tyCells e.ty) e.ty.length v → Q (.tuple []) h') :
    cP CS n_script_words_row [.ptr l4 0, .func n_script_words_int [.ptr l4 0] [], .slice h.next 0 os.length] (h.new (.cells 58 1 true false (os.map fun o => V.ptr l5 o))) Q := by
  obtain ⟨hw, hsm, hev, h24, h45, h5n, ⟨cs, hres, hcs⟩, hown, htin⟩ := hp
  have l4n : l4 < h.next := by omega
  have hg : Grows h (h.new (.cells 58 1 true false (os.map fun o => V.ptr l5 o))) := Chg.new _ _
  refine ct_row (p := h.next) (m := l5) (cs := evCells e v) (hw.chg hg fun _ _ h => h) hsm (by rw [get_new_lt _ h5n]; exact hev) h45 (by simp; omega) (fun o ho' => by rw [evCells_len]; have := ho o ho'; omega) h8 (get_new_self _ _) (by omega) (by omega) (by simp) fun h' hc hn hw' hm' => ?_
  refine H h' hc hw' hm' ⟨cs, ?_, hcs⟩ (by rw [hn]; simp; omega) ?_
  · rw [hc.keep l2 (by simp; omega) (by omega), get_new_lt _ (by omega)]; exact hres
  · exact (hown.chg hg fun _ _ _ h => h).chg hc fun m hm _ => by omega
theorem readAll_one (w : Tx.Bs) : Tx.readAll [w] = (Tx.pInt w).map fun n => [n] := by
  cases h : Tx.pInt w <;> simp [Tx.readAll, h]
theorem split_small {c : UInt8} : ∀ (s : Tx.Bs), (∀ w ∈ Tx.split c s, w.length ≤ s.length) ∧ (Tx.split c s).length ≤ s.length + 1
  | [] => by simp [Tx.split]
  | x :: s => by
    obtain ⟨h1, h2⟩ := split_small (c := c) s
    unfold Tx.split
    cases x == c with
    | true =>
      simp only [cond_true, List.mem_cons, List.length_cons]
      refine ⟨fun w hw => ?_, by omega⟩
      rcases hw with rfl | hw
      · simp
      · have := h1 w hw; omega
    | false =>
      simp only [cond_false]
      cases hs : Tx.split c s with
      | nil => exact absurd hs (Tx.split_ne c s)
      | cons w ws =>
        rw [hs] at h1 h2
        simp only [List.mem_cons, List.length_cons] at h1 h2 ⊢
        refine ⟨fun u hu => ?_, by omega⟩
        rcases hu with rfl | hu
        · have := h1 w (.inl rfl); simp; omega
        · have := h1 u (.inr hu); omega
end Go.Proofs.YtdpfhajggknfaaaGreatDoor.Hx
