/- How plain values and the plain heap stand for the model's values and its world: the relations, and what follows from them at once. -/
import Derived.Test.YtmpdoelanliaeaaGreatDoorHxB
import Derived.Orders
import Derived.Laws.CopyRow
namespace Go.Proofs.YtmpdoelanliaeaaGreatDoor.Hx

/-! ### the combinators -/
theorem oB_eq {α β : Type} {x : Option α} {k : α → Option β} {y : β} : oB x k = some y ↔ ∃ v, x = some v ∧ k v = some y := by
  cases x with
  | none => grind[oB]
  | some v => exact ⟨fun h => ⟨v, rfl, h⟩, fun ⟨_, h, h'⟩ => by grind[oB]⟩
theorem bB_eq {β : Type} {c : Bool} {k : Option β} {y : β} : bB c k = some y ↔ c = true ∧ k = some y := by
  cases c with
  | false => grind[bB]
  | true => exact ⟨fun h => ⟨rfl, h⟩, fun ⟨_, h⟩ => h⟩
theorem asPtr_eq {β : Type} {v : V} {k : Nat → Nat → Option β} {y : β} : asPtr v k = some y ↔ ∃ l o, v = .ptr l o ∧ k l o = some y := by
  constructor
  · intro h
    unfold asPtr at h
    grind
  · rintro ⟨l, o, rfl, h⟩; exact h
theorem asNat_eq {β : Type} {v : V} {k : Nat → Option β} {y : β} : asNat v k = some y ↔ ∃ kd n, v = .int kd (.ofNat n) ∧ k n = some y := by
  constructor
  · intro h
    unfold asNat at h
    split at h
    · grind
    · cases h
  · rintro ⟨kd, n, rfl, h⟩; exact h
theorem cellsAt_eq {β : Type} {h : Hp} {l : Nat} {k : Nat → Nat → Bool → Bool → List V → Option β} {y : β} :
    cellsAt h l k = some y ↔ ∃ e sz live ro cs, h.get l = some (.cells e sz live ro cs) ∧ k e sz live ro cs = some y := by
  grind[cellsAt,oB_eq]
theorem mapAt_eq {β : Type} {h : Hp} {l : Nat} {k : List (V × V × Nat) → Nat → Option β} {y : β} :
    mapAt h l k = some y ↔ ∃ es c, h.get l = some (.map es c) ∧ k es c = some y := by
  grind[mapAt,oB_eq]
theorem brec_eq {β : Type} (c : Bool) (x y : β) : Bool.rec x y c = if c = true then y else x := by cases c <;> rfl

/-! ### lists -/
theorem dropK_eq : ∀ (n : Nat) (l : List V), dropK n l = l.drop n
  | 0, _ => rfl
  | _n + 1, [] => rfl
  | n + 1, _ :: l => dropK_eq n l
theorem takeN_s (n : Nat) (v : V) (l : List V) : takeN (n + 1) (v :: l) = oB (takeN n l) fun r => some (v :: r) := rfl
theorem takeN_eq {n : Nat} {cs l : List V} (h : takeN n cs = some l) : l.length = n ∧ ∀ i, i < n → l[i]? = cs[i]? := by
  induction n generalizing cs l with
  | zero =>
    have h : some [] = some l := h
    cases h
    simp
  | succ n ih =>
    cases cs with
    | nil => cases h
    | cons v cs =>
      rw [takeN_s] at h
      grind [oB_eq]
theorem sub_eq {cs l : List V} {off n : Nat} (h : sub cs off n = some l) : l.length = n ∧ ∀ i, i < n → l[i]? = cs[off + i]? := by
  unfold sub at h
  rw [dropK_eq] at h
  grind[takeN_eq]
theorem at1_eq {cs : List V} {off : Nat} {v : V} (h : at1 cs off = some v) : cs[off]? = some v := by
  unfold at1 at h
  rw [dropK_eq] at h
  have : (cs.drop off).head? = some v := by
    cases hd : cs.drop off with
    | nil => rw [hd] at h; cases h
    | cons a l => rw [hd] at h; exact h
  rwa [List.head?_drop] at this
theorem over_eq {new cs l : List V} (h : over new cs = some l) : l.length = cs.length ∧ new.length ≤ cs.length ∧ ∀ i, l[i]? = if i < new.length then new[i]? else cs[i]? := by
  induction new generalizing cs l with
  | nil => simp [over] at h; simp_all
  | cons n ns ih =>
    cases cs <;> grind[over,oB_eq]
theorem splice_s (k : Nat) (c : V) (cs new : List V) : splice (k + 1) (c :: cs) new = oB (splice k cs new) fun r => some (c :: r) := rfl
theorem splice_eq {k : Nat} {cs new l : List V} (h : splice k cs new = some l) : l.length = cs.length ∧ k + new.length ≤ cs.length ∧
    ∀ i, l[i]? = if k ≤ i ∧ i < k + new.length then new[i - k]? else cs[i]? := by
  induction k generalizing cs l with
  | zero =>
    have h : over new cs = some l := h
    grind[over_eq]
  | succ k ih =>
    cases cs with
    | nil => cases h
    | cons c cs =>
      rw [splice_s] at h
      simp [oB_eq] at h
      grind
theorem allOne_eq {l : List V} (h : allOne l = true) : ∀ v ∈ l, v.one = true := by
  induction l <;> grind[allOne,brec_eq]

/-! ### the relations -/
/-- Where a plain place lies: the block, its first cell there, the cells of an element, how many cells are known, how many the block has; whether it is but read; whether it is a map. -/
structure D where
  b : Nat
  base : Nat
  sz : Nat
  n : Nat
  asz : Nat
  ro : Bool
  kind : Nat
abbrev Env := Nat → Option D
def Env.le (Δ Δ' : Env) : Prop := ∀ l d, Δ l = some d → Δ' l = some d
theorem Env.le_refl (Δ : Env) : Δ.le Δ := fun _ _ h => h
theorem Env.le_trans {Δ Δ' Δ'' : Env} (h : Δ.le Δ') (h' : Δ'.le Δ'') : Δ.le Δ'' := fun l d hl => h' l d (h l d hl)

mutual
inductive VRel (Δ : Env) : V → Value → Prop
  | bool (b : Bool) : VRel Δ (.bool b) (.bool b)
  | int (k : IntKind) (n : Int) : VRel Δ (.int k n) (.int k n)
  | str (s : ByteArray) : VRel Δ (.str s.data.toList) (.string s)
  | nilPtr : VRel Δ .nilPtr (.pointer none)
  | ptr (l off : Nat) (d : D) (h : Δ l = some d) : VRel Δ (.ptr l off) (.pointer (some ⟨d.b, d.base + off, none⟩))
  | nilSlice : VRel Δ .nilSlice (.slice none 0 0)
  | slice (l off len cap o : Nat) (d : D) (h : Δ l = some d) (hk : d.kind = 0) (hl : len ≤ cap)
      (ho : (o = d.base + off ∧ d.n ≤ off + cap * d.sz ∧ d.base + off + cap * d.sz ≤ d.asz) ∨ (cap = 0 ∧ d.n ≤ off)) :
      VRel Δ (.slice l off len) (.slice (some ⟨d.b, o, none⟩) len cap)
  | nilMap : VRel Δ .nilMap (.map none)
  | map (l : Nat) (d : D) (h : Δ l = some d) : VRel Δ (.map l) (.map (some d.b))
  | nilFunc : VRel Δ .nilFunc .nilFunc
  | func (f : Nat) (a c : List V) (a' c' : Array Value) (ha : VsRel Δ a a'.toList) (hc : VsRel Δ c c'.toList) : VRel Δ (.func f a c) (.func (.func f) a' c')
  | nilIface : VRel Δ .nilIface .nilIface
  | iface (t : Nat) (v : V) (v' : Value) (h : VRel Δ v v') : VRel Δ (.iface t v) (.iface t v')
  | agg (cs : List V) (cs' : Array Value) (h : VsRel Δ cs cs'.toList) : VRel Δ (.agg cs) (.agg cs')
  | tuple (cs : List V) (cs' : Array Value) (h : VsRel Δ cs cs'.toList) : VRel Δ (.tuple cs) (.tuple cs')
inductive VsRel (Δ : Env) : List V → List Value → Prop
  | nil : VsRel Δ [] []
  | cons (v : V) (v' : Value) (vs : List V) (vs' : List Value) (h : VRel Δ v v') (hs : VsRel Δ vs vs') : VsRel Δ (v :: vs) (v' :: vs')
end

mutual
theorem VRel.mono {Δ Δ' : Env} (hle : Δ.le Δ') : ∀ {v : V} {v' : Value}, VRel Δ v v' → VRel Δ' v v'
  | _, _, .bool b => .bool b
  | _, _, .int k n => .int k n
  | _, _, .str s => .str s
  | _, _, .nilPtr => .nilPtr
  | _, _, .ptr l off d h => .ptr l off d (hle _ _ h)
  | _, _, .nilSlice => .nilSlice
  | _, _, .slice l off len cap o d h hk hl ho => .slice l off len cap o d (hle _ _ h) hk hl ho
  | _, _, .nilMap => .nilMap
  | _, _, .map l d h => .map l d (hle _ _ h)
  | _, _, .nilFunc => .nilFunc
  | _, _, .func f a c a' c' ha hc => .func f a c a' c' (VsRel.mono hle ha) (VsRel.mono hle hc)
  | _, _, .nilIface => .nilIface
  | _, _, .iface t v v' h => .iface t v v' (VRel.mono hle h)
  | _, _, .agg cs cs' h => .agg cs cs' (VsRel.mono hle h)
  | _, _, .tuple cs cs' h => .tuple cs cs' (VsRel.mono hle h)
theorem VsRel.mono {Δ Δ' : Env} (hle : Δ.le Δ') : ∀ {v : List V} {v' : List Value}, VsRel Δ v v' → VsRel Δ' v v'
  | _, _, .nil => .nil
  | _, _, .cons v v' vs vs' h hs => .cons v v' vs vs' (VRel.mono hle h) (VsRel.mono hle hs)
end

theorem VsRel.length {Δ : Env} {vs : List V} {vs' : List Value} (h : VsRel Δ vs vs') : vs.length = vs'.length := by
  induction vs generalizing vs' with
  | nil => cases h; rfl
  | cons v vs ih => cases h <;> grind
theorem VsRel.get {Δ : Env} {vs : List V} {vs' : List Value} (h : VsRel Δ vs vs') (i : Nat) (v : V) (hi : vs[i]? = some v) : ∃ v', vs'[i]? = some v' ∧ VRel Δ v v' := by
  induction vs generalizing vs' i with
  | nil => simp_all
  | cons a vs ih =>
    cases h <;> grind
theorem VsRel.of_get {Δ : Env} {vs : List V} {vs' : List Value} (hl : vs.length = vs'.length) (h : ∀ (i : Nat) v, vs[i]? = some v → ∃ v', vs'[i]? = some v' ∧ VRel Δ v v') : VsRel Δ vs vs' := by
  induction vs generalizing vs' with
  | nil => cases vs' with
    | nil => exact .nil
    | cons _ _ => simp_all
  | cons a vs ih => cases vs' with
    | nil => simp_all
    | cons a' vs' =>
      let ⟨x, hx, hr⟩ := h 0 a rfl
      simp at hx; subst hx
      exact .cons _ _ _ _ hr (ih (by simp_all) fun i v hi => by simpa using h (i + 1) v (by simp_all))
theorem VsRel.append {Δ : Env} {a b : List V} {a' b' : List Value} (h : VsRel Δ a a') (h' : VsRel Δ b b') : VsRel Δ (a ++ b) (a' ++ b') := by
  induction a generalizing a' with
  | nil => cases h; exact h'
  | cons x a ih => cases h with | cons _ _ _ _ hx hs => exact .cons _ _ _ _ hx (ih hs)
theorem VsRel.one {Δ : Env} {v : V} {v' : Value} (h : VRel Δ v v') : VsRel Δ [v] [v'] := .cons _ _ _ _ h .nil
theorem VRel.undef (Δ : Env) : VRel Δ V.undef undef := .tuple [] #[] .nil
theorem VRel.cells {Δ : Env} {v : V} {v' : Value} (h : VRel Δ v v') : VsRel Δ v.cells v'.cells.toList := by
  cases h with
  | agg cs cs' h => exact h
  | bool b => exact .one (.bool b)
  | int k n => exact .one (.int k n)
  | str s => exact .one (.str s)
  | nilPtr => exact .one .nilPtr
  | ptr l off d h => exact .one (.ptr l off d h)
  | nilSlice => exact .one .nilSlice
  | slice l off len cap o d h hk hl ho => exact .one (.slice l off len cap o d h hk hl ho)
  | nilMap => exact .one .nilMap
  | map l d h => exact .one (.map l d h)
  | nilFunc => exact .one .nilFunc
  | func f a c a' c' ha hc => exact .one (.func f a c a' c' ha hc)
  | nilIface => exact .one .nilIface
  | iface t v v' h => exact .one (.iface t v v' h)
  | tuple cs cs' h => exact .one (.tuple cs cs' h)
theorem VRel.one' {Δ : Env} {v : V} {v' : Value} (h : VRel Δ v v') (h1 : v.one = true) : v'.oneCell' = true := by
  cases h <;> first | rfl | grind[V.one]
theorem VsRel.ones {Δ : Env} {vs : List V} {vs' : List Value} (h : VsRel Δ vs vs') (h1 : allOne vs = true) : ∀ x ∈ vs', x.oneCell' = true := by
  intro x hx
  obtain ⟨i, hi, rfl⟩ := List.mem_iff_getElem.1 hx
  have hi' : i < vs.length := by rw [h.length]; exact hi
  let ⟨x, hx, hr⟩ := h.get i vs[i] (by simp_all)
  rw [List.getElem?_eq_getElem hi] at hx
  cases hx
  exact hr.one' (by grind[allOne_eq,List.getElem_mem])

mutual
theorem ofVal_rel (Δ : Env) : ∀ (n : Nat) (v : Value) (x : V), ofVal n v = some x → VRel Δ x v
  | _, .bool b, x, h => by simp [ofVal] at h; subst h; exact .bool b
  | _, .int k n, x, h => by simp [ofVal] at h; subst h; exact .int k n
  | _, .string s, x, h => by simp [ofVal] at h; subst h; exact .str s
  | _, .pointer none, x, h => by simp [ofVal] at h; subst h; exact .nilPtr
  | _, .pointer (some _), x, h => by grind[ofVal]
  | _, .slice none 0 0, x, h => by simp [ofVal] at h; subst h; exact .nilSlice
  | _, .slice none 0 (_ + 1), x, h => by grind[ofVal]
  | _, .slice none (_ + 1) _, x, h => by grind[ofVal]
  | _, .slice (some _) _ _, x, h => by grind[ofVal]
  | _, .map none, x, h => by simp [ofVal] at h; subst h; exact .nilMap
  | _, .map (some _), x, h => by grind[ofVal]
  | _, .nilFunc, x, h => by simp [ofVal] at h; subst h; exact .nilFunc
  | _, .nilIface, x, h => by simp [ofVal] at h; subst h; exact .nilIface
  | 0, .iface _ _, x, h => by simp_all[ofVal]
  | 0, .agg _, x, h => by simp_all[ofVal]
  | 0, .tuple _, x, h => by simp_all[ofVal]
  | n + 1, .iface t v, x, h => by
    simp only [ofVal] at h
    split at h
    · rename_i y hy; cases h; exact .iface t _ _ (ofVal_rel Δ n v _ hy)
    · cases h
  | n + 1, .agg cs, x, h => by
    simp only [ofVal] at h
    split at h
    · rename_i y hy; cases h; exact .agg _ _ (ofVals_rel Δ n _ _ hy)
    · cases h
  | n + 1, .tuple cs, x, h => by
    simp only [ofVal] at h
    split at h
    · rename_i y hy; cases h; exact .tuple _ _ (ofVals_rel Δ n _ _ hy)
    · cases h
  | _, .float _ _, x, h => by grind[ofVal]
  | _, .complex _ _ _, x, h => by grind[ofVal]
  | _, .chan _, x, h => by grind[ofVal]
  | _, .func _ _ _, x, h => by grind[ofVal]
theorem ofVals_rel (Δ : Env) : ∀ (n : Nat) (v : List Value) (x : List V), v.mapM (ofVal n) = some x → VsRel Δ x v
  | _, [], x, h => by simp at h; subst h; exact .nil
  | n, v :: vs, x, h => by
    simp only [List.mapM_cons, Option.bind_eq_bind, Option.bind_eq_some_iff, Option.pure_def, Option.some.injEq] at h
    obtain ⟨y, hy, ys, hys, rfl⟩ := h
    exact .cons _ _ _ _ (ofVal_rel Δ n v y hy) (ofVals_rel Δ n vs ys hys)
end

end Go.Proofs.YtmpdoelanliaeaaGreatDoor.Hx
