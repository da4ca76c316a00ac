/- Rows that are cut, stored into, and grown: what the operations do to them. -/
import Derived.Test.YtlbdcjnhlkkfeaaGreatDoorHx4
namespace Go.Proofs.YtlbdcjnhlkkfeaaGreatDoor.Hx

/-! ### stores -/
theorem splice_set {cs : List V} {v : V} : ∀ {o : Nat}, o < cs.length → splice o cs [v] = some (cs.set o v) := by
  induction cs with
  | nil => simp_all
  | cons c cs ih =>
    intro o h
    cases o with
    | zero => rfl
    | succ o =>
      grind[splice,oB_some']
theorem over_of : ∀ {ws cs : List V}, ws.length ≤ cs.length → over ws cs = some (ws ++ cs.drop ws.length)
  | [], _, _ => rfl
  | w :: ws, [], h => by simp_all
  | w :: ws, c :: cs, h => by
    have := over_of (ws := ws) (cs := cs) (by simp_all)
    grind[over,oB_some']
theorem splice_of : ∀ {o : Nat} {cs ws : List V}, o + ws.length ≤ cs.length → splice o cs ws = some (cs.take o ++ ws ++ cs.drop (o + ws.length))
  | 0, cs, ws, h => by simp_all[splice,over_of]
  | o + 1, [], ws, h => by simp_all
  | o + 1, c :: cs, ws, h => by
    have := splice_of (o := o) (cs := cs) (ws := ws) (by grind)
    grind[splice,oB_some']
theorem cells_one {v : V} (h : v.one = true) : v.cells = [v] := by
  cases v <;> first | rfl | cases h
section
variable {l o e sz : Nat} {cs : List V} {h : Hp} {v : V}
theorem pSt_at (hg : h.get l = some (.cells e sz true false cs)) (ho : o < cs.length) (hv : v.one = true) : pSt 1 (.ptr l o) v h = some (.val .undef (h.put l (.cells e sz true false (cs.set o v)))) := by
  unfold pSt stAt cellsAt
  simp only [asPtr_ptr, cells_one hv, hg, oB_some', allOne_cons, hv, splice_set ho]
  rfl
theorem pSt_all {ws : List V} {n : Nat} (hg : h.get l = some (.cells e sz true false cs)) (hn : ws.length = n) (hc : cs.length = n) (hv : allOne ws = true) : pSt n (.ptr l 0) (.agg ws) h = some (.val .undef (h.put l (.cells e sz true false ws))) := by
  unfold pSt stAt cellsAt
  have hs : splice 0 cs ws = some ws := by
    rw [splice_of (by omega), List.take_zero, List.nil_append, List.drop_of_length_le (by omega), List.append_nil]
  grind[asPtr_ptr,V.cells,oB_some',bB_of,Nat.beq_refl]
theorem pSt_in {ws : List V} {n : Nat} (hg : h.get l = some (.cells e sz true false cs)) (hn : ws.length = n) (hc : o + n ≤ cs.length) (hv : allOne ws = true) :
    pSt n (.ptr l o) (.agg ws) h = some (.val .undef (h.put l (.cells e sz true false (cs.take o ++ ws ++ cs.drop (o + n))))) := by
  unfold pSt stAt cellsAt
  simp [ V.cells, hg, splice_of (show o + ws.length ≤ cs.length by omega)]
  simp_all
theorem pLd_get {u : V} {ro : Bool} (hg : h.get l = some (.cells e sz true ro cs)) (hu : cs[o]? = some u) : pLd (.ptr l o) h = some u := by rw [pLd_ptr hg, at1_get, hu]
theorem pLdA_all {n : Nat} {ro : Bool} (hg : h.get l = some (.cells e sz true ro cs)) (hn : cs.length = n) : pLdA n (.ptr l 0) h = some (.agg cs) := by
  rw [pLdA_ptr hg, sub_of (by omega), List.drop_zero, List.take_of_length_le (by omega)]; rfl
end

/-! ### rows that are cut -/
section
variable {α : Type} {e : Enc α} {b : Nat → Prop} {h : Hp}
theorem Win.drop : ∀ {xs : List α} {cs : List V} (n : Nat), Win e b h cs xs → n ≤ xs.length → Win e b h (cs.drop (n * e.sz)) (xs.drop n)
  | xs, cs, 0, hw, _ => by simp_all
  | [], cs, n + 1, _, hn => by simp_all
  | x :: xs, cs, n + 1, ⟨w, r, h1, h2, h3⟩, hn => by
    have := Win.drop n h3 (by simpa using hn)
    have hl := e.len h2
    subst h1
    rw [ Nat.add_mul, Nat.one_mul, Nat.add_comm, ← List.drop_drop]
    simp_all
theorem Win.taken : ∀ {xs : List α} {cs : List V} (n : Nat), Win e b h cs xs → Win e b h cs (xs.take n)
  | xs, cs, 0, _ => by simp; trivial
  | [], cs, n + 1, _ => by simp_all
  | x :: xs, cs, n + 1, ⟨w, r, h1, h2, h3⟩ => ⟨w, r, h1, h2, Win.taken n h3⟩
theorem hbound_at (z : Nat) (k : IntKind) (n : Nat) : hbound z (some (.int k n)) = some n := by
  rfl
theorem hbound_none (z : Nat) : hbound z none = some z := rfl
theorem SlR.cut {xs : List α} {v : V} (hs : SlR e b h xs v) {lo hi : Option V} {m n : Nat} (hlo : hbound 0 lo = some m) (hhi : hbound xs.length hi = some n) (h1 : m ≤ n) (h2 : n ≤ xs.length) :
    ∃ v', hsliceV e.sz v lo hi h = some v' ∧ SlR e b h ((xs.take n).drop m) v' := by
  rcases hs with ⟨rfl, rfl⟩ | ⟨l, off, ty, live, ro, cs, rfl, h3, h4, h5, h6, h7⟩
  · simp at h2
    subst h2
    obtain rfl : m = 0 := by omega
    refine ⟨.nilSlice, ?_, .inl ⟨rfl, by simp⟩⟩
    simp_all[hsliceV,oB_some']
  · have hw := h7.length
    have hmul : m * e.sz ≤ n * e.sz := Nat.mul_le_mul_right _ h1
    have hmul2 : n * e.sz ≤ xs.length * e.sz := Nat.mul_le_mul_right _ h2
    rw [List.length_drop] at hw
    refine ⟨.slice l (off + m * e.sz) (n - m), ?_, ?_⟩
    · grind[hsliceV,cellsAt,oB_some',bB_of,Nat.beq_refl,Nat.ble_eq_true_of_le]
    · have hlen : ((xs.take n).drop m).length = n - m := by rw [List.length_drop, List.length_take]; omega
      refine .inr ⟨l, off + m * e.sz, ty, live, ro, cs, by rw [hlen], h3, h4, ?_, by omega, ?_⟩
      · grind
      · rw [← List.drop_drop]
        exact (h7.taken n).drop m (by simp_all)
end

/-! ### rows of one's own -/
/-- A row that nobody else has: nil, or all of a block. -/
def Own (e sz a : Nat) (h : Hp) (cs : List V) (n : Nat) (v : V) : Prop :=
  (v = .nilSlice ∧ cs = [] ∧ n = 0) ∨ ∃ t, v = .slice t 0 n ∧ a ≤ t ∧ t < h.next ∧ h.get t = some (.cells e sz true false cs) ∧ cs.length = n * sz
section
variable {e sz a n : Nat} {h h' : Hp} {cs : List V} {v : V}
theorem Own.nil : Own e sz a h [] 0 .nilSlice := .inl ⟨rfl, rfl, rfl⟩
theorem Own.len (ho : Own e sz a h cs n v) : pLen v = some (.int .i64 n) := by
  rcases ho with ⟨rfl, rfl, rfl⟩ | ⟨t, rfl, _⟩ <;> rfl
theorem Own.size (ho : Own e sz a h cs n v) : cs.length = n * sz := by
  rcases ho with ⟨rfl, rfl, rfl⟩ | ⟨t, rfl, _, _, _, h1⟩
  · simp
  · exact h1
theorem Own.one (ho : Own e sz a h cs n v) : v.one = true := by
  rcases ho with ⟨rfl, rfl, rfl⟩ | ⟨t, rfl, _⟩ <;> rfl
theorem Own.chg {S : Nat → Prop} (hc : Chg S h h') (hS : ∀ l, a ≤ l → l < h.next → ¬ S l) (ho : Own e sz a h cs n v) : Own e sz a h' cs n v := by
  rcases ho with ho | ⟨t, h1, h2, h3, h4, h5⟩
  · exact .inl ho
  · exact .inr ⟨t, h1, h2, Nat.lt_of_lt_of_le h3 hc.next, by rw [hc.keep t h3 (by simp_all)]; exact h4, h5⟩
theorem Own.low {a' : Nat} (ha : a' ≤ a) (ho : Own e sz a h cs n v) : Own e sz a' h cs n v := by
  rcases ho with ho | ⟨t, h1, h2, h3⟩
  · exact .inl ho
  · exact .inr ⟨t, h1, Nat.le_trans ha h2, h3⟩
/-- A row behind one's own. -/
theorem Own.append {by_ k : Nat} {x : V} {new : List V} (ho : Own e sz a h cs n v) (hx : xcells h sz x = some (k, new)) (hk : 0 < k) (hl : new.length = k * sz) (h1 : allOne cs = true) (h2 : allOne new = true) (ha : a ≤ h.next)
    (hb : (n + k) * by_ ≤ 70368744177664) (hb2 : n + k ≤ 70368744177664) (hz : 0 < sz) :
    ∃ v' h', happend e sz by_ v x h = some (.val v' h') ∧ Own e sz a h' (cs ++ new) (n + k) v' ∧ Chg (fun l => v = .slice l 0 n) h h' ∧ h'.next = h.next + 1 ∧ v' = .slice h.next 0 (n + k) := by
  have hk0 : Nat.beq k 0 = false := by cases k with
    | zero => omega
    | succ k => rfl
  rcases ho with ⟨rfl, rfl, rfl⟩ | ⟨t, rfl, h3, h4, h5, h6⟩
  · refine ⟨.slice h.next 0 k, h.new (.cells e sz true false new), ?_, .inr ⟨h.next, by rw [Nat.zero_add], ha, Nat.lt_succ_self _, by rw [List.nil_append]; exact get_new_self _ _, by simp [hl]⟩, Chg.new _ _, rfl, by rw [Nat.zero_add]⟩
    simp_all[happend,oB_some',Nat.ble_eq_true_of_le]
  · refine ⟨.slice h.next 0 (n + k), (h.put t (.cells e sz false false cs)).new (.cells e sz true false (cs ++ new)), ?_, .inr ⟨h.next, rfl, ha, Nat.lt_succ_self _, get_new_self (h.put t _) _, by grind⟩, ?_, rfl, rfl⟩
    · unfold happend cellsAt
      have hroom : Nat.ble (Nat.add 0 (Nat.mul (Nat.add n k) sz)) cs.length = false := by
        rw [← Bool.not_eq_true, Nat.ble_eq]
        show ¬ (0 + (n + k) * sz ≤ cs.length)
        rw [ Nat.add_mul]
        have := Nat.mul_pos hk hz
        omega
      have hsub : sub cs 0 (Nat.mul n sz) = some cs := by
        show sub cs 0 (n * sz) = some cs
        rw [sub_of (by omega), List.drop_zero, List.take_of_length_le (by omega)]
      simp [ oB_some']
      simp_all[Nat.beq_refl,Nat.ble,Nat.mul,Nat.add,Nat.ble_eq_true_of_le]
    · exact (Chg.put (S := fun l => V.slice t 0 n = .slice l 0 n) (.cells e sz false false cs) rfl h4).trans (Chg.new _ _)
theorem xcells_new {e sz k : Nat} {h : Hp} {cs : List V} {ro : Bool} (hl : cs.length = (k + 1) * sz) : xcells (h.new (.cells e sz true ro cs)) sz (.slice h.next 0 (k + 1)) = some (k + 1, cs) := by
  unfold xcells ldAt cellsAt
  have : sub cs 0 (Nat.mul (Nat.succ k) sz) = some cs := by
    show sub cs 0 ((k + 1) * sz) = some cs
    rw [sub_of (by omega), List.drop_zero, List.take_of_length_le (by omega)]
  grind[get_new_self,oB_some',bB_true']
theorem Own.slR {α : Type} {E : Enc α} {xs : List α} (ho : Own e E.sz a h cs xs.length v) {b : Nat → Prop} (hb : ∀ t, v = .slice t 0 xs.length → b t) (hw : Win E b h cs xs) : SlR E b h xs v := by
  rcases ho with ⟨rfl, rfl, h0⟩ | ⟨t, rfl, _, h3, h4, h5⟩
  · exact .inl ⟨rfl, List.eq_nil_of_length_eq_zero h0⟩
  · exact .inr ⟨t, 0, e, true, false, cs, rfl, hb t rfl, h4, .inr rfl, Nat.zero_le _, by simp_all⟩
end
end Go.Proofs.YtlbdcjnhlkkfeaaGreatDoor.Hx
