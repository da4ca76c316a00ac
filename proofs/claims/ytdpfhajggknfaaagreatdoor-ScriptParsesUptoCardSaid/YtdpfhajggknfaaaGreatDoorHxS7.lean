/- Chapter 30's text: script.Parse, whole. -/
import Derived.Test.YtdpfhajggknfaaaGreatDoorHxS6
namespace Go.Proofs.YtdpfhajggknfaaaGreatDoor.Hx
open Go.Proofs.YtdpfhajggknfaaaGreatDoor

theorem grows_trans {h h' h'' : Hp} {S : Nat → Prop} (a : Grows h h') (b : Chg S h' h'') (hS : ∀ l, l < h.next → ¬ S l) : Grows h h'' := a.trans' b fun l hl hs => hS l hl hs
def toR : Option Tx.Ev → Tx.Ev × Int
  | some e => (e, 0)
  | none => (Tx.ev0, 5)
def restR (k : Nat) (ws : List Tx.Bs) : Tx.Ev × Int := toR ((Tx.readAll ws).bind (Tx.evOf k))
theorem parseR_eq {s : Tx.Bs} {w : Tx.Bs} {ws : List Tx.Bs} (h : Tx.split 32 s = w :: ws) : parseR s = restR (Tx.kindOf w) ws := by
  unfold parseR restR Tx.parseM
  rw [h]
  simp only
  cases Tx.readAll ws with
  | none => rfl
  | some ns =>
    simp only [Option.bind_some]
    cases Tx.evOf (Tx.kindOf w) ns <;> rfl
theorem finA {k : Nat} {mk : Int → Tx.Ev} (h0 : Tx.evOf k [] = none) (h1 : ∀ a, Tx.evOf k [a] = some (mk a)) (h2 : ∀ a b l, Tx.evOf k (a :: b :: l) = none) (ht : ∀ a, (mk a).ty = []) (ws : List Tx.Bs) :
    fin (nextM ws true).2.1 (nextM ws true).2.2 (mk (nextM ws true).1) = restR k ws := by
  match ws with
  | [] => simp [fin, restR, nextM, Tx.readAll, h0, toR]
  | [w] => cases hw : Tx.pInt w <;> simp [fin, restR, nextM, Tx.readAll, hw, h1, toR, ht]
  | w :: w' :: r =>
    cases hw : Tx.pInt w with
    | none => simp [fin, restR, nextM, Tx.readAll, hw, toR]
    | some n =>
      cases hw' : Tx.pInt w' with
      | none => simp [fin, restR, nextM, Tx.readAll, hw, hw', toR]
      | some n' =>
        cases hr : Tx.readAll r <;> simp [fin, restR, nextM, Tx.readAll, hw, hw', hr, toR, h2]
theorem finB {k : Nat} {mk : Int → Int → Tx.Ev} (h0 : Tx.evOf k [] = none) (h1 : ∀ a, Tx.evOf k [a] = none) (h2 : ∀ a b, Tx.evOf k [a, b] = some (mk a b)) (h3 : ∀ a b c l, Tx.evOf k (a :: b :: c :: l) = none) (ht : ∀ a b, (mk a b).ty = []) (ws : List Tx.Bs) :
    fin (nextM (nextM ws true).2.1 (nextM ws true).2.2).2.1 (nextM (nextM ws true).2.1 (nextM ws true).2.2).2.2 (mk (nextM ws true).1 (nextM (nextM ws true).2.1 (nextM ws true).2.2).1) = restR k ws := by
  match ws with
  | [] => simp [fin, restR, nextM, Tx.readAll, h0, toR]
  | [w] => cases hw : Tx.pInt w <;> simp [fin, restR, nextM, Tx.readAll, hw, h1, toR]
  | [w, w'] =>
    cases hw : Tx.pInt w <;> cases hw' : Tx.pInt w' <;> simp [fin, restR, nextM, Tx.readAll, hw, hw', h2, toR, ht]
  | w :: w' :: w'' :: r =>
    cases hw : Tx.pInt w with
    | none => simp [fin, restR, nextM, Tx.readAll, hw, toR]
    | some n =>
      cases hw' : Tx.pInt w' with
      | none => simp [fin, restR, nextM, Tx.readAll, hw, hw', toR]
      | some n' =>
        cases hw'' : Tx.pInt w'' with
        | none => simp [fin, restR, nextM, Tx.readAll, hw, hw', hw'', toR]
        | some n'' => cases hr : Tx.readAll r <;> simp [fin, restR, nextM, Tx.readAll, hw, hw', hw'', hr, toR, h3]
def mkC (a b c d : Int) : Tx.Ev := { Tx.ev0 with kind := 6, cf := a, cpc := b, cy := c, cn := d }
/-- Behind four numbers. -/
theorem outC_four (ws : List Tx.Bs) : (let r1 := nextM ws true; let r2 := nextM r1.2.1 r1.2.2; let r3 := nextM r2.2.1 r2.2.2; let r4 := nextM r3.2.1 r3.2.2; outC r4.2.1 r4.2.2 (mkC r1.1 r2.1 r3.1 r4.1)) = restR 6 ws := by
  have key : ∀ (a b c d : Int) (l : List Int), Tx.evOf 6 (a :: b :: c :: d :: l) = match Tx.pairs l with
      | some ts => if ts.length ≤ 8 then some { mkC a b c d with ty := ts } else none
      | none => none := fun _ _ _ _ _ => rfl
  match ws with
  | [] => rfl
  | [w] => cases hw : Tx.pInt w <;> simp [outC, restR, nextM, Tx.readAll, hw, Tx.evOf, toR]
  | [w, w'] => cases hw : Tx.pInt w <;> cases hw' : Tx.pInt w' <;> simp [outC, restR, nextM, Tx.readAll, hw, hw', Tx.evOf, toR]
  | [w, w', w''] => cases hw : Tx.pInt w <;> cases hw' : Tx.pInt w' <;> cases hw'' : Tx.pInt w'' <;> simp [outC, restR, nextM, Tx.readAll, hw, hw', hw'', Tx.evOf, toR]
  | w :: w' :: w'' :: u :: r =>
    cases hw : Tx.pInt w with
    | none => simp [outC, restR, nextM, Tx.readAll, hw, toR]
    | some n =>
      cases hw' : Tx.pInt w' with
      | none => simp [outC, restR, nextM, Tx.readAll, hw, hw', toR]
      | some n' =>
        cases hw'' : Tx.pInt w'' with
        | none => simp [outC, restR, nextM, Tx.readAll, hw, hw', hw'', toR]
        | some n'' =>
          cases hu : Tx.pInt u with
          | none => simp [outC, restR, nextM, Tx.readAll, hw, hw', hw'', hu, toR]
          | some m =>
            cases hr : Tx.readAll r with
            | none => simp [outC, restR, nextM, Tx.readAll, hw, hw', hw'', hu, hr, toR]
            | some ns =>
              simp only [outC, restR, nextM, Tx.readAll, hw, hw', hw'', hu, hr, Option.map_some, Option.bind_some, Option.getD_some, Option.isSome_some, Bool.and_self, if_true, key]
              cases hp : Tx.pairs ns with
              | none => rfl
              | some ts =>
                by_cases hl : ts.length ≤ 8 <;> simp [hl, toR, mkC, Tx.ev0]
theorem pS_L0 {l2 l4 l5 : Nat} {h : Hp} {ws : List Tx.Bs} {ok : Bool} {e : Tx.Ev} {v : V} {Q : V → Hp → Prop} (hp : PSt l2 l4 l5 h ws ok e v) (hb : e.ty.length + ws.length ≤ 2000000000)
    (H : ∀ v' h', Chg (fun m => m = l2 ∨ l4 ≤ m) h h' → SlR eT h'.next h' (outC ws ok e).1.ty v' → Q (.tuple [.agg (evCells (outC ws ok e).1 v'), .int .i64 (outC ws ok e).2]) h') :
    J_script_Parse_L0 CS Q (.ptr l2 0) (.ptr l4 0) (.ptr l5 0) h := by
  refine l_script_Parse_L0 (fun k x2 x4 x5 h' => ∃ ws' ok' e' v', k = ws'.length ∧ x2 = .ptr l2 0 ∧ x4 = .ptr l4 0 ∧ x5 = .ptr l5 0 ∧ PSt l2 l4 l5 h' ws' ok' e' v' ∧ e'.ty.length + ws'.length ≤ 2000000000 ∧ outC ws' ok' e' = outC ws ok e ∧ Chg (fun m => m = l2 ∨ l4 ≤ m) h h') ?_
    ⟨ws, ok, e, v, rfl, rfl, rfl, rfl, hp, hb, rfl, Chg.refl _ _⟩
  clear hp hb
  rintro k x2 x4 x5 h1 ⟨ws', ok', e', v', rfl, rfl, rfl, rfl, hp, hb, hout, hch⟩
  have hp0 := hp
  obtain ⟨⟨e1, sz1, wv, hg, hl, hs⟩, hsm, hev, h24, h45, h5n, ⟨cs, hres, hcs⟩, hown, htin⟩ := hp
  unfold B_script_Parse_L0
  have g1 : pLd (.ptr l4 1) h1 = some (.bool ok') := pLd_get hg rfl
  have g0 : pLd (.ptr l4 0) h1 = some wv := pLd_get hg rfl
  simp only [pNil_ptr, oP_some', pFA_ptr, Nat.zero_add, g1, oB_some', g0, hs.len, hbin_gtr, pAnd_bool, bP_bool']
  split
  · rename_i hc
    simp only [Bool.and_eq_true, decide_eq_true_eq] at hc
    obtain ⟨rfl, hne⟩ := hc
    have hne' : ws' ≠ [] := fun e => by subst e; simp at hne
    have hbs : pBS 58 1 2 V.nilPtr [(0, V.ptr h1.next 0), (1, V.ptr h1.next 1)] = some (.cells 58 1 true false ([0, 1].map fun o => V.ptr h1.next o), fun l => .slice l 0 2) := rfl
    simp only [alP_some, pFA_ptr, oP_some', Nat.zero_add, hbs]
    have hgA : Grows h1 (h1.new (.cells 60 1 true false [.int .i64 0, .int .i64 0])) := Chg.new _ _
    have hgB : Grows h1 ((h1.new (.cells 60 1 true false [.int .i64 0, .int .i64 0])).new (.cells 58 1 true false ([0, 1].map fun o => V.ptr h1.next o))) := hgA.trans (Chg.new _ _)
    refine ct_row (p := h1.next + 1) (os := [0, 1]) (m := h1.next) (cs := [.int .i64 0, .int .i64 0]) (hp0.words.chg hgB fun _ _ h => h) hsm (by rw [get_new_lt _ (by simp)]; exact get_new_self _ _) (by omega) (by simp; omega) (by simp) (by simp) (get_new_self (h1.new _) _) (by omega) (by omega) (by simp) fun h2 hc2 hn2 hw2 hm2 => ?_
    have hn2' : h2.next = h1.next + 2 := by rw [hn2]; rfl
    have hch2 : Chg (fun k => k = l4 ∨ k = h1.next) h1 h2 := hgB.weak.trans hc2
    have hev2 : h2.get l5 = some (.cells 26 1 true false (evCells e' v')) := by rw [hch2.keep l5 h5n (by omega)]; exact hev
    have hown2 : Own 60 2 (l5 + 1) h2 (tyCells e'.ty) e'.ty.length v' := hown.chg hch2 fun m hm _ => by omega
    have hres2 : h2.get l2 = some (.cells 26 1 true false cs) := by rw [hch2.keep l2 (by omega) (by omega)]; exact hres
    generalize hx1 : (nextM ws' true).1 = a1 at *
    have hrow : (rowM [0, 1] ws' true [V.int .i64 0, V.int .i64 0]).2.2 = [.int .i64 (nextM ws' true).1, .int .i64 (nextM (nextM ws' true).2.1 (nextM ws' true).2.2).1] := rfl
    rw [hrow, hx1] at hm2
    have g5 : pLd (.ptr l5 8) h2 = some v' := pLd_get hev2 rfl
    have gA : pLdA 2 (.ptr h1.next 0) h2 = some (.agg [.int .i64 a1, .int .i64 (nextM (nextM ws' true).2.1 (nextM ws' true).2.2).1]) := pLdA_all hm2 rfl
    generalize hx2 : (nextM (nextM ws' true).2.1 (nextM ws' true).2.2).1 = a2 at *
    have hbs2 : pBS 60 2 1 (.agg [.int .i64 0, .int .i64 0]) [(0, .agg [.int .i64 a1, .int .i64 a2])] = some (.cells 60 2 true false [.int .i64 a1, .int .i64 a2], fun l => .slice l 0 1) := rfl
    simp only [Nat.reduceAdd, g5, oP_some', gA, hbs2, alP_some]
    have hg3 : Grows h2 (h2.new (.cells 60 2 true false [.int .i64 a1, .int .i64 a2])) := Chg.new _ _
    obtain ⟨v3, h3, a, b, c, d, f⟩ := (hown2.chg hg3 fun _ _ _ h => h).append (by_ := 16) (xcells_new (k := 0) (sz := 2) (e := 60) (h := h2) (cs := [.int .i64 a1, .int .i64 a2]) (ro := false) rfl) (by omega) rfl (tyCells_one _) rfl (by simp; omega) (by omega) (by omega) (by omega)
    have hev3 : h3.get l5 = some (.cells 26 1 true false (evCells e' v')) := by
      rw [c.keep l5 (by simp; omega) (fun e9 => by
        rcases hown2 with ⟨rfl, _⟩ | ⟨t, rfl, ht, _⟩
        · cases e9
        · cases e9; omega), get_new_lt _ (by omega)]
      exact hev2
    have l5n3 : l5 < h3.next := by rw [d]; simp; omega
    have s1 := pSt_at (o := 8) (v := v3) hev3 (by simp [evCells]) (by rw [f]; rfl)
    have hset : (evCells e' v').set 8 v3 = evCells { e' with ty := e'.ty ++ [(a1, a2)] } v3 := rfl
    rw [hset] at s1
    simp only [a, valP_some, s1]
    have hput : Chg (fun m => m = l5) h3 (h3.put l5 (.cells 26 1 true false (evCells { e' with ty := e'.ty ++ [(a1, a2)] } v3))) := Chg.put _ rfl l5n3
    have hc13 : Chg (fun m => l4 ≤ m) h1 h3 := (hch2.weak fun m hm e => by omega).trans ((hg3.weak : Chg (fun m => l4 ≤ m) _ _).trans' c fun m hm e9 => by
      rcases hown2 with ⟨rfl, _⟩ | ⟨t, rfl, ht, _⟩
      · cases e9
      · cases e9; show l4 ≤ _; omega)
    have hc14 := hc13.trans (hput.weak fun m _ e => by omega)
    have hlen1 := nextM_len ws' true
    have hlen2 := nextM_len (nextM ws' true).2.1 (nextM ws' true).2.2
    have hpos : 0 < ws'.length := List.length_pos_iff.2 hne'
    refine ⟨_, ?_, (nextM (nextM ws' true).2.1 (nextM ws' true).2.2).2.1, (nextM (nextM ws' true).2.1 (nextM ws' true).2.2).2.2, _, v3, rfl, by trivial, by trivial, by trivial, ⟨?_, small_next (small_next hsm), get_put_self _ l5n3, h24, h45, l5n3, ⟨cs, ?_, hcs⟩, ?_, ?_⟩, ?_, ?_, hch.trans (hc14.weak fun m _ e => .inr e)⟩
    · omega
    · have hw3 : WsAt l4 h3 (nextM (nextM ws' true).2.1 (nextM ws' true).2.2).2.1 (nextM (nextM ws' true).2.1 (nextM ws' true).2.2).2.2 := (WsAt.chg hg3 (fun _ _ h => h) hw2).chg c fun m hm e9 => by
        rcases hown2 with ⟨rfl, _⟩ | ⟨t, rfl, ht, _⟩
        · cases e9
        · cases e9; omega
      exact hw3.chg hput fun m hm e9 => by omega
    · rw [hput.keep l2 (by omega) (by omega), c.keep l2 (by simp; omega) (fun e9 => by
        rcases hown2 with ⟨rfl, _⟩ | ⟨t, rfl, ht, _⟩
        · cases e9
        · cases e9; omega), get_new_lt _ (by omega)]
      exact hres2
    · have hty : tyCells (e'.ty ++ [(a1, a2)]) = tyCells e'.ty ++ [.int .i64 a1, .int .i64 a2] := by rw [tyCells_append]; rfl
      have hl : (e'.ty ++ [(a1, a2)]).length = e'.ty.length + (0 + 1) := by simp
      show Own 60 2 (l5 + 1) _ (tyCells (e'.ty ++ [(a1, a2)])) (e'.ty ++ [(a1, a2)]).length v3
      rw [hty, hl]
      exact b.chg hput fun m hm _ e9 => by omega
    · intro x hx
      rcases List.mem_append.1 hx with hx | hx
      · exact htin x hx
      · obtain rfl : x = (a1, a2) := by simpa using hx
        exact ⟨by rw [← hx1]; exact nextM_in _ _, by rw [← hx2]; exact nextM_in _ _⟩
    · simp; omega
    · rw [← hout, outC_step hne', hx1, hx2]
  · rename_i hc
    have hend : ok' = false ∨ ws' = [] := by
      simp only [Bool.and_eq_true, decide_eq_true_eq, not_and] at hc
      cases ok' with
      | false => exact .inl rfl
      | true =>
        right
        have := hc rfl
        exact List.eq_nil_of_length_eq_zero (by omega)
    refine pS_R4 hp0 fun v2 h2 hc2 hsl => ?_
    rw [outC_end hend, hout] at hsl ⊢
    exact H v2 h2 (hch.trans (hc2.weak fun m _ e => .inl e)) hsl
end Go.Proofs.YtdpfhajggknfaaaGreatDoor.Hx
