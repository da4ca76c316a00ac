/- How plain values and the plain heap stand for the model's values and its world: the relations, and what follows from them at once. -/
import Derived.Test.YtgfdhkhcojjkjaaGreatDoorHxA
import Derived.Orders
import Derived.Laws.CopyRow
import Derived.Laws.Pointers
namespace Go.Proofs.YtgfdhkhcojjkjaaGreatDoor.Hx

/-! ### the combinators -/
theorem oB_eq {α β : Type} {x : Option α} {k : α → Option β} {y : β} : oB x k = some y ↔ ∃ v, x = some v ∧ k v = some y := by
  cases x with
  | none => grind[oB]
  | some v => exact ⟨fun h => ⟨v, rfl, h⟩, fun ⟨_, h, h'⟩ => by grind[oB]⟩
theorem bB_eq {β : Type} {c : Bool} {k : Option β} {y : β} : bB c k = some y ↔ c = true ∧ k = some y := by
  cases c with
  | false => grind[bB]
  | true => exact ⟨fun h => ⟨rfl, h⟩, fun ⟨_, h⟩ => h⟩
theorem asPtr_eq {β : Type} {v : V} {k : Nat → Nat → Option β} {y : β} : asPtr v k = some y ↔ ∃ l o, v = .ptr l o ∧ k l o = some y := by
  constructor
  · intro h
    unfold asPtr at h
    grind
  · rintro ⟨l, o, rfl, h⟩; exact h
theorem asNat_eq {β : Type} {v : V} {k : Nat → Option β} {y : β} : asNat v k = some y ↔ ∃ kd n, v = .int kd (.ofNat n) ∧ k n = some y := by
  constructor
  · intro h
    unfold asNat at h
    split at h
    · grind
    · cases h
  · rintro ⟨kd, n, rfl, h⟩; exact h
theorem cellsAt_eq {β : Type} {h : Hp} {l : Nat} {k : Nat → Nat → Bool → Bool → List V → Option β} {y : β} :
    cellsAt h l k = some y ↔ ∃ e sz live ro cs, h.get l = some (.cells e sz live ro cs) ∧ k e sz live ro cs = some y := by
  grind[cellsAt,oB_eq]
theorem mapAt_eq {β : Type} {h : Hp} {l : Nat} {k : List (V × V × Nat) → Nat → Option β} {y : β} :
    mapAt h l k = some y ↔ ∃ es c, h.get l = some (.map es c) ∧ k es c = some y := by
  grind[mapAt,oB_eq]
theorem brec_eq {β : Type} (c : Bool) (x y : β) : Bool.rec x y c = if c = true then y else x := by cases c <;> rfl

/-! ### lists -/
theorem dropK_eq : ∀ (n : Nat) (l : List V), dropK n l = l.drop n
  | 0, _ => rfl
  | _n + 1, [] => rfl
  | n + 1, _ :: l => dropK_eq n l
theorem takeN_s (n : Nat) (v : V) (l : List V) : takeN (n + 1) (v :: l) = oB (takeN n l) fun r => some (v :: r) := rfl
theorem takeN_eq {n : Nat} {cs l : List V} (h : takeN n cs = some l) : l.length = n ∧ ∀ i, i < n → l[i]? = cs[i]? := by
  induction n generalizing cs l with
  | zero =>
    have h : some [] = some l := h
    cases h
    simp
  | succ n ih =>
    cases cs with
    | nil => cases h
    | cons v cs =>
      rw [takeN_s] at h
      grind [oB_eq]
theorem sub_eq {cs l : List V} {off n : Nat} (h : sub cs off n = some l) : l.length = n ∧ ∀ i, i < n → l[i]? = cs[off + i]? := by
  unfold sub at h
  rw [dropK_eq] at h
  grind[takeN_eq]
theorem at1_eq {cs : List V} {off : Nat} {v : V} (h : at1 cs off = some v) : cs[off]? = some v := by
  unfold at1 at h
  rw [dropK_eq] at h
  have : (cs.drop off).head? = some v := by
    cases hd : cs.drop off with
    | nil => rw [hd] at h; cases h
    | cons a l => rw [hd] at h; exact h
  rwa [List.head?_drop] at this
theorem over_eq {new cs l : List V} (h : over new cs = some l) : l.length = cs.length ∧ new.length ≤ cs.length ∧ ∀ i, l[i]? = if i < new.length then new[i]? else cs[i]? := by
  induction new generalizing cs l with
  | nil => simp [over] at h; simp_all
  | cons n ns ih =>
    cases cs <;> grind[over,oB_eq]
theorem splice_s (k : Nat) (c : V) (cs new : List V) : splice (k + 1) (c :: cs) new = oB (splice k cs new) fun r => some (c :: r) := rfl
theorem splice_eq {k : Nat} {cs new l : List V} (h : splice k cs new = some l) : l.length = cs.length ∧ k + new.length ≤ cs.length ∧
    ∀ i, l[i]? = if k ≤ i ∧ i < k + new.length then new[i - k]? else cs[i]? := by
  induction k generalizing cs l with
  | zero =>
    have h : over new cs = some l := h
    grind[over_eq]
  | succ k ih =>
    cases cs with
    | nil => cases h
    | cons c cs =>
      rw [splice_s] at h
      simp [oB_eq] at h
      grind
theorem allOne_eq {l : List V} (h : allOne l = true) : ∀ v ∈ l, v.one = true := by
  induction l <;> grind[allOne,brec_eq]

/-! ### the relations -/
/-- Where a plain place lies: the block, its first cell there, the cells of an element, how many cells are known, how many the block has; whether it is but read; whether it is a map. -/
structure D where
  b : Nat
  base : Nat
  sz : Nat
  n : Nat
  asz : Nat
  ro : Bool
  kind : Nat
abbrev Env := Nat → Option D
def Env.le (Δ Δ' : Env) : Prop := ∀ l d, Δ l = some d → Δ' l = some d
theorem Env.le_refl (Δ : Env) : Δ.le Δ := fun _ _ h => h
theorem Env.le_trans {Δ Δ' Δ'' : Env} (h : Δ.le Δ') (h' : Δ'.le Δ'') : Δ.le Δ'' := fun l d hl => h' l d (h l d hl)

mutual
inductive VRel (Δ : Env) : V → Value → Prop
  | bool (b : Bool) : VRel Δ (.bool b) (.bool b)
  | int (k : IntKind) (n : Int) : VRel Δ (.int k n) (.int k n)
  | str (s : ByteArray) : VRel Δ (.str s.data.toList) (.string s)
  | nilPtr : VRel Δ .nilPtr (.pointer none)
  | ptr (l off : Nat) (d : D) (h : Δ l = some d) : VRel Δ (.ptr l off) (.pointer (some ⟨d.b, d.base + off, none⟩))
  | nilSlice : VRel Δ .nilSlice (.slice none 0 0)
  | slice (l off len cap o : Nat) (d : D) (h : Δ l = some d) (hk : d.kind = 0) (hl : len ≤ cap)
      (ho : (o = d.base + off ∧ d.n ≤ off + cap * d.sz ∧ d.base + off + cap * d.sz ≤ d.asz) ∨ (cap = 0 ∧ d.n ≤ off)) :
      VRel Δ (.slice l off len) (.slice (some ⟨d.b, o, none⟩) len cap)
  | nilMap : VRel Δ .nilMap (.map none)
  | map (l : Nat) (d : D) (h : Δ l = some d) : VRel Δ (.map l) (.map (some d.b))
  | nilFunc : VRel Δ .nilFunc .nilFunc
  | func (f : Nat) (a c : List V) (a' c' : Array Value) (ha : VsRel Δ a a'.toList) (hc : VsRel Δ c c'.toList) : VRel Δ (.func f a c) (.func (.func f) a' c')
  | nilIface : VRel Δ .nilIface .nilIface
  | iface (t : Nat) (v : V) (v' : Value) (h : VRel Δ v v') : VRel Δ (.iface t v) (.iface t v')
  | agg (cs : List V) (cs' : Array Value) (h : VsRel Δ cs cs'.toList) : VRel Δ (.agg cs) (.agg cs')
  | tuple (cs : List V) (cs' : Array Value) (h : VsRel Δ cs cs'.toList) : VRel Δ (.tuple cs) (.tuple cs')
inductive VsRel (Δ : Env) : List V → List Value → Prop
  | nil : VsRel Δ [] []
  | cons (v : V) (v' : Value) (vs : List V) (vs' : List Value) (h : VRel Δ v v') (hs : VsRel Δ vs vs') : VsRel Δ (v :: vs) (v' :: vs')
end

mutual
theorem VRel.mono {Δ Δ' : Env} (hle : Δ.le Δ') : ∀ {v : V} {v' : Value}, VRel Δ v v' → VRel Δ' v v'
  | _, _, .bool b => .bool b
  | _, _, .int k n => .int k n
  | _, _, .str s => .str s
  | _, _, .nilPtr => .nilPtr
  | _, _, .ptr l off d h => .ptr l off d (hle _ _ h)
  | _, _, .nilSlice => .nilSlice
  | _, _, .slice l off len cap o d h hk hl ho => .slice l off len cap o d (hle _ _ h) hk hl ho
  | _, _, .nilMap => .nilMap
  | _, _, .map l d h => .map l d (hle _ _ h)
  | _, _, .nilFunc => .nilFunc
  | _, _, .func f a c a' c' ha hc => .func f a c a' c' (VsRel.mono hle ha) (VsRel.mono hle hc)
  | _, _, .nilIface => .nilIface
  | _, _, .iface t v v' h => .iface t v v' (VRel.mono hle h)
  | _, _, .agg cs cs' h => .agg cs cs' (VsRel.mono hle h)
  | _, _, .tuple cs cs' h => .tuple cs cs' (VsRel.mono hle h)
theorem VsRel.mono {Δ Δ' : Env} (hle : Δ.le Δ') : ∀ {v : List V} {v' : List Value}, VsRel Δ v v' → VsRel Δ' v v'
  | _, _, .nil => .nil
  | _, _, .cons v v' vs vs' h hs => .cons v v' vs vs' (VRel.mono hle h) (VsRel.mono hle hs)
end

theorem VsRel.length {Δ : Env} {vs : List V} {vs' : List Value} (h : VsRel Δ vs vs') : vs.length = vs'.length := by
  induction vs generalizing vs' with
  | nil => cases h; rfl
  | cons v vs ih => cases h <;> grind
theorem VsRel.get {Δ : Env} {vs : List V} {vs' : List Value} (h : VsRel Δ vs vs') (i : Nat) (v : V) (hi : vs[i]? = some v) : ∃ v', vs'[i]? = some v' ∧ VRel Δ v v' := by
  induction vs generalizing vs' i with
  | nil => simp_all
  | cons a vs ih =>
    cases h <;> grind
theorem VsRel.of_get {Δ : Env} {vs : List V} {vs' : List Value} (hl : vs.length = vs'.length) (h : ∀ (i : Nat) v, vs[i]? = some v → ∃ v', vs'[i]? = some v' ∧ VRel Δ v v') : VsRel Δ vs vs' := by
  induction vs generalizing vs' with
  | nil => cases vs' with
    | nil => exact .nil
    | cons _ _ => simp_all
  | cons a vs ih => cases vs' with
    | nil => simp_all
    | cons a' vs' =>
      let ⟨x, hx, hr⟩ := h 0 a rfl
      simp at hx; subst hx
      exact .cons _ _ _ _ hr (ih (by simp_all) fun i v hi => by simpa using h (i + 1) v (by simp_all))
theorem VsRel.append {Δ : Env} {a b : List V} {a' b' : List Value} (h : VsRel Δ a a') (h' : VsRel Δ b b') : VsRel Δ (a ++ b) (a' ++ b') := by
  induction a generalizing a' with
  | nil => cases h; exact h'
  | cons x a ih => cases h with | cons _ _ _ _ hx hs => exact .cons _ _ _ _ hx (ih hs)
theorem VsRel.one {Δ : Env} {v : V} {v' : Value} (h : VRel Δ v v') : VsRel Δ [v] [v'] := .cons _ _ _ _ h .nil
theorem VRel.undef (Δ : Env) : VRel Δ V.undef undef := .tuple [] #[] .nil
theorem VRel.cells {Δ : Env} {v : V} {v' : Value} (h : VRel Δ v v') : VsRel Δ v.cells v'.cells.toList := by
  cases h with
  | agg cs cs' h => exact h
  | bool b => exact .one (.bool b)
  | int k n => exact .one (.int k n)
  | str s => exact .one (.str s)
  | nilPtr => exact .one .nilPtr
  | ptr l off d h => exact .one (.ptr l off d h)
  | nilSlice => exact .one .nilSlice
  | slice l off len cap o d h hk hl ho => exact .one (.slice l off len cap o d h hk hl ho)
  | nilMap => exact .one .nilMap
  | map l d h => exact .one (.map l d h)
  | nilFunc => exact .one .nilFunc
  | func f a c a' c' ha hc => exact .one (.func f a c a' c' ha hc)
  | nilIface => exact .one .nilIface
  | iface t v v' h => exact .one (.iface t v v' h)
  | tuple cs cs' h => exact .one (.tuple cs cs' h)
theorem VRel.one' {Δ : Env} {v : V} {v' : Value} (h : VRel Δ v v') (h1 : v.one = true) : v'.oneCell' = true := by
  cases h <;> first | rfl | grind[V.one]
theorem VsRel.ones {Δ : Env} {vs : List V} {vs' : List Value} (h : VsRel Δ vs vs') (h1 : allOne vs = true) : ∀ x ∈ vs', x.oneCell' = true := by
  intro x hx
  obtain ⟨i, hi, rfl⟩ := List.mem_iff_getElem.1 hx
  have hi' : i < vs.length := by rw [h.length]; exact hi
  let ⟨x, hx, hr⟩ := h.get i vs[i] (by simp_all)
  rw [List.getElem?_eq_getElem hi] at hx
  cases hx
  exact hr.one' (by grind[allOne_eq,List.getElem_mem])

mutual
theorem ofVal_rel (Δ : Env) : ∀ (n : Nat) (v : Value) (x : V), ofVal n v = some x → VRel Δ x v
  | _, .bool b, x, h => by simp [ofVal] at h; subst h; exact .bool b
  | _, .int k n, x, h => by simp [ofVal] at h; subst h; exact .int k n
  | _, .string s, x, h => by simp [ofVal] at h; subst h; exact .str s
  | _, .pointer none, x, h => by simp [ofVal] at h; subst h; exact .nilPtr
  | _, .pointer (some _), x, h => by grind[ofVal]
  | _, .slice none 0 0, x, h => by simp [ofVal] at h; subst h; exact .nilSlice
  | _, .slice none 0 (_ + 1), x, h => by grind[ofVal]
  | _, .slice none (_ + 1) _, x, h => by grind[ofVal]
  | _, .slice (some _) _ _, x, h => by grind[ofVal]
  | _, .map none, x, h => by simp [ofVal] at h; subst h; exact .nilMap
  | _, .map (some _), x, h => by grind[ofVal]
  | _, .nilFunc, x, h => by simp [ofVal] at h; subst h; exact .nilFunc
  | _, .nilIface, x, h => by simp [ofVal] at h; subst h; exact .nilIface
  | 0, .iface _ _, x, h => by simp_all[ofVal]
  | 0, .agg _, x, h => by simp_all[ofVal]
  | 0, .tuple _, x, h => by simp_all[ofVal]
  | n + 1, .iface t v, x, h => by
    simp only [ofVal] at h
    split at h
    · rename_i y hy; cases h; exact .iface t _ _ (ofVal_rel Δ n v _ hy)
    · cases h
  | n + 1, .agg cs, x, h => by
    simp only [ofVal] at h
    split at h
    · rename_i y hy; cases h; exact .agg _ _ (ofVals_rel Δ n _ _ hy)
    · cases h
  | n + 1, .tuple cs, x, h => by
    simp only [ofVal] at h
    split at h
    · rename_i y hy; cases h; exact .tuple _ _ (ofVals_rel Δ n _ _ hy)
    · cases h
  | _, .float _ _, x, h => by grind[ofVal]
  | _, .complex _ _ _, x, h => by grind[ofVal]
  | _, .chan _, x, h => by grind[ofVal]
  | _, .func _ _ _, x, h => by grind[ofVal]
theorem ofVals_rel (Δ : Env) : ∀ (n : Nat) (v : List Value) (x : List V), v.mapM (ofVal n) = some x → VsRel Δ x v
  | _, [], x, h => by simp at h; subst h; exact .nil
  | n, v :: vs, x, h => by
    simp only [List.mapM_cons, Option.bind_eq_bind, Option.bind_eq_some_iff, Option.pure_def, Option.some.injEq] at h
    obtain ⟨y, hy, ys, hys, rfl⟩ := h
    exact .cons _ _ _ _ (ofVal_rel Δ n v y hy) (ofVals_rel Δ n vs ys hys)
end

end Go.Proofs.YtgfdhkhcojjkjaaGreatDoor.Hx
/- What an operation that leaves the heap alone comes to in the model: the value that the plain machine says, in the world as it was. -/
namespace Go.Proofs.YtgfdhkhcojjkjaaGreatDoor.Hx

/-! ### the world -/
inductive ERel (Δ : Env) : List (V × V × Nat) → List MapEntry → Prop
  | nil : ERel Δ [] []
  | cons (k v : V) (n : Nat) (e : MapEntry) (es : List (V × V × Nat)) (es' : List MapEntry) (hk : VRel Δ k e.key) (hv : VRel Δ v e.val) (hb : e.born = n)
      (hs : ERel Δ es es') : ERel Δ ((k, v, n) :: es) (e :: es')
theorem ERel.mono {Δ Δ' : Env} (hle : Δ.le Δ') {es : List (V × V × Nat)} {es' : List MapEntry} (h : ERel Δ es es') : ERel Δ' es es' := by
  induction h with
  | nil => exact .nil
  | cons k v n e es es' hk hv hb _ ih => exact .cons k v n e es es' (hk.mono hle) (hv.mono hle) hb ih

def CellsOk (Δ : Env) (d : D) (cs : List V) (ob : Option Obj) : Prop :=
  ∃ c e fr, ob = some (.cells c e fr) ∧ c.size = d.asz ∧ (d.ro = false → fr.1 = fr.2 ∨ d.asz ≤ fr.1) ∧ d.base + cs.length ≤ d.asz ∧
    ∀ (i : Nat) (v : V), cs[i]? = some v → ∃ x, c[d.base + i]? = some x ∧ VRel Δ v x
def ORel (Δ : Env) (d : D) (o : O) (ob : Option Obj) : Prop := match o with
  | .cells _ sz live ro cs => d.kind = 0 ∧ d.sz = sz ∧ d.n = cs.length ∧ d.ro = ro ∧ (live = true → CellsOk Δ d cs ob)
  | .map es clock => d.kind = 1 ∧ d.ro = false ∧ d.base = 0 ∧ ∃ es', ob = some (.map es' clock) ∧ ERel Δ es es'.toList
  | .iter m since seen last => d.kind = 2 ∧ d.ro = false ∧ d.base = 0 ∧ ∃ m', ob = some (.mapIter m' since seen.toArray last) ∧
      (match m with
        | none => m' = none
        | some l => ∃ d', Δ l = some d' ∧ m' = some d'.b)
def O.live : O → Bool
  | .cells _ _ live _ _ => live
  | _ => true

/-- The tables are what they are, and nobody writes them. -/
def TabOk (Δ : Env) (w : World) : Prop := ∀ g c, (g, c) ∈ tabs → (∃ e fr, w.heap[g]? = some (.cells c e fr)) ∧ ∀ l d, Δ l = some d → d.ro = false → d.b ≠ g
structure WR (Δ : Env) (h : Hp) (w : World) : Prop where
  fresh : ∀ l d, Δ l = some d → l < h.next
  blk : ∀ l d, Δ l = some d → d.b < w.heap.size
  obj : ∀ l d, Δ l = some d → ∃ o, h.get l = some o ∧ ORel Δ d o w.heap[d.b]?
  apart : ∀ l l' d d' o o', Δ l = some d → Δ l' = some d' → l ≠ l' → h.get l = some o → h.get l' = some o' → o.live = true → o'.live = true →
    (d.ro = false ∨ d'.ro = false) → d.b ≠ d'.b
  glob : ∀ g o, g < P0.globals.size → h.get g = some o → ∃ d, Δ g = some d ∧ d.b = g ∧ d.base = 0
  gnext : P0.globals.size ≤ h.next
  tab : TabOk Δ w

/-- Calls that are put off. -/
inductive DsRel (Δ : Env) : List (Nat × List V) → List Deferred → Prop
  | nil : DsRel Δ [] []
  | cons (g : Nat) (args : List V) (cap args' : Array Value) (l : List (Nat × List V)) (l' : List Deferred) (ha : VsRel Δ args (args' ++ cap).toList) (hl : DsRel Δ l l') :
    DsRel Δ ((g, args) :: l) ({ target := .fn (.func g) cap, args := args' } :: l')
theorem DsRel.mono {Δ Δ' : Env} (hle : Δ.le Δ') {l : List (Nat × List V)} {l' : List Deferred} (h : DsRel Δ l l') : DsRel Δ' l l' := by
  induction h with
  | nil => exact .nil
  | cons g args cap args' l l' ha _ ih => exact .cons g args cap args' l l' (ha.mono hle) ih
structure TR (Δ : Env) (n : Nat) (t : Tm) (a : Act) : Prop where
  size : a.tmps.size = n
  rel : ∀ i, VRel Δ (tget t i) (a.tmps.getD i undef)
  ds : DsRel Δ t.ds a.defers

theorem frFree {fr : Nat × Nat} {n : Nat} (h : fr.1 = fr.2 ∨ n ≤ fr.1) : ∀ i, i < n → ¬ (fr.1 ≤ i ∧ i < fr.2) := by omega
theorem CellsOk.mono {Δ Δ' : Env} (hle : Δ.le Δ') {d : D} {cs : List V} {ob : Option Obj} (h : CellsOk Δ d cs ob) : CellsOk Δ' d cs ob := by
  obtain ⟨c, e, fr, h1, h2, h3, h5, h4⟩ := h
  exact ⟨c, e, fr, h1, h2, h3, h5, fun i v hi => let ⟨x, hx, hr⟩ := h4 i v hi; ⟨x, hx, hr.mono hle⟩⟩
theorem ORel.mono {Δ Δ' : Env} (hle : Δ.le Δ') {d : D} {o : O} {ob : Option Obj} (h : ORel Δ d o ob) : ORel Δ' d o ob := by
  cases o with
  | cells e sz live ro cs =>
    obtain ⟨h1, h2, h3, h4, h5⟩ := h
    exact ⟨h1, h2, h3, h4, fun hl => (h5 hl).mono hle⟩
  | map es clock =>
    obtain ⟨h1, h2, h3, es', h4, h5⟩ := h
    exact ⟨h1, h2, h3, es', h4, h5.mono hle⟩
  | iter m since seen last =>
    obtain ⟨h1, h2, h3, m', h4, h5⟩ := h
    refine ⟨h1, h2, h3, m', h4, ?_⟩
    cases m with
    | none => exact h5
    | some l => obtain ⟨d', hd, hm⟩ := h5; exact ⟨d', hle _ _ hd, hm⟩
theorem TR.mono {Δ Δ' : Env} (hle : Δ.le Δ') {n : Nat} {t : Tm} {a : Act} (h : TR Δ n t a) : TR Δ' n t a := ⟨h.size, fun i => (h.rel i).mono hle, h.ds.mono hle⟩

/-! ### types -/
theorem run_und {t : Nat} {d : TypeDesc} {w : World} (h : P0.underlying t = some d) : (underlying t).run P0 w = .ok d w := by simp [underlying, h]
theorem info_of_sz {t n : Nat} (h : szOf t = some n) : ∃ i, P0.info? t = some i ∧ i.size = n := by
  grind[szOf,oB_eq]
theorem run_sz {t n : Nat} {w : World} (h : szOf t = some n) : (sizeOf t).run P0 w = .ok n w := by
  obtain ⟨i, hi, rfl⟩ := info_of_sz h
  simp_all[sizeOf,typeInfo]
theorem run_agg {t : Nat} {b : Bool} {w : World} (h : aggT t = some b) : (isAgg t).run P0 w = .ok b w := by
  unfold aggT at h
  split at h
  · simp_all[isAgg,run_und]
  · simp_all[isAgg,run_und]
  · simp_all[isAgg,Sem.run_bind,run_und,Result.andThen_ok]
  · cases h
theorem run_zero {t : Nat} {z : V} (h : zeroV t = some z) : ∃ zv, (∀ w, (zeroValue t).run P0 w = .ok zv w) ∧ (∀ Δ, VRel Δ z zv) ∧ ∃ i, P0.info? t = some i ∧ i.zero = some zv := by
  unfold zeroV at h
  simp only [oB_eq] at h
  obtain ⟨i, hi, zv, hz, hv⟩ := h
  exact ⟨zv, by simp_all[zeroValue,typeInfo], by grind[ofVal_rel], i, hi, hz⟩
theorem addr_add (b o n : Nat) : (⟨b, o, none⟩ : Addr).add n = ⟨b, o + n, none⟩ := by
  grind[Addr.add]

section
variable {Δ : Env} {h : Hp} {w : World} {n : Nat} {t : Tm} {a : Act}

/-! ### operands -/
theorem evN_ok (hT : TR Δ n t a) {x : Operand} {v : V} (hv : (evN x).f t = some v) : VRel Δ v (a.eval x) := by
  cases x with
  | tmp i => simp only [evN] at hv; cases hv; exact hT.rel i
  | const c =>
    simp only [evN] at hv
    split at hv
    · rename_i y hy; cases hv; exact ofVal_rel Δ 8 c _ hy
    · cases hv
  | global g => grind[evN]
  | func f => simp only [evN] at hv; cases hv; exact .func f [] [] #[] #[] .nil .nil
theorem evO_ok (hW : WR Δ h w) (hT : TR Δ n t a) {x : Operand} {v : V} (hv : (evO x).f t h = some v) : VRel Δ v (a.eval x) := by
  cases x with
  | global g =>
    unfold evO at hv
    cases hlt : Nat.blt g P0.globals.size with
    | true =>
      simp only [hlt, oB_eq] at hv
      obtain ⟨o, ho, hv⟩ := hv
      cases hv
      have hg : g < P0.globals.size := by rw [← Nat.blt_eq]; exact hlt
      obtain ⟨d, hd, hb, hba⟩ := hW.glob g o hg ho
      have := VRel.ptr (Δ := Δ) g 0 d hd
      rw [hb, hba] at this
      exact this
    | false => simp_all
  | tmp i => exact evN_ok hT hv
  | const c => exact evN_ok hT hv
  | func f => exact evN_ok hT hv
theorem evNs_ok (hT : TR Δ n t a) : ∀ {l : List Operand} {vs : List V}, evNs t l = some vs → VsRel Δ vs (l.map a.eval)
  | [], vs, hv => by simp [evNs] at hv; subst hv; exact .nil
  | x :: l, vs, hv => by
    simp only [evNs, oB_eq] at hv
    obtain ⟨v, h1, vs', h2, h3⟩ := hv
    cases h3
    exact .cons _ _ _ _ (evN_ok hT h1) (evNs_ok hT h2)
inductive PRel (Δ : Env) : List (Nat × V) → List (Nat × Value) → Prop
  | nil : PRel Δ [] []
  | cons (i : Nat) (v : V) (v' : Value) (l : List (Nat × V)) (l' : List (Nat × Value)) (hv : VRel Δ v v') (hs : PRel Δ l l') : PRel Δ ((i, v) :: l) ((i, v') :: l')
theorem evParts_ok (hT : TR Δ n t a) : ∀ {l : List (Nat × Operand)} {vs : List (Nat × V)}, evParts t l = some vs → PRel Δ vs (l.map fun x => (x.1, a.eval x.2))
  | [], vs, hv => by simp [evParts] at hv; subst hv; exact .nil
  | x :: l, vs, hv => by
    simp only [evParts, oB_eq] at hv
    obtain ⟨v, h1, vs', h2, h3⟩ := hv
    cases h3
    exact .cons _ _ _ _ _ (evN_ok hT h1) (evParts_ok hT h2)

/-! ### reading -/
theorem cell_ok (hW : WR Δ h w) {l : Nat} {d : D} (hl : Δ l = some d) {e sz : Nat} {ro : Bool} {cs : List V} (hg : h.get l = some (.cells e sz true ro cs))
    {i : Nat} {v : V} (hi : cs[i]? = some v) : ∃ x, w.cell? ⟨d.b, d.base + i, none⟩ = some x ∧ VRel Δ v x := by
  obtain ⟨o, ho, hr⟩ := hW.obj l d hl
  rw [hg] at ho
  cases ho
  obtain ⟨_, _, _, _, hc⟩ := hr
  obtain ⟨c, e', fr, h1, _, _, _, h4⟩ := hc rfl
  grind[World.cell?]
theorem loadCells_ok (hW : WR Δ h w) {l : Nat} {d : D} (hl : Δ l = some d) {off m : Nat} {cs : List V} (hv : ldAt h l off m = some cs) :
    ∃ arr, (loadCells ⟨d.b, d.base + off, none⟩ m).run P0 w = .ok arr w ∧ VsRel Δ cs arr.toList := by
  unfold ldAt at hv
  rw [cellsAt_eq] at hv
  obtain ⟨e, sz, live, ro, all, hg, hv⟩ := hv
  rw [bB_eq] at hv
  obtain ⟨rfl, hv⟩ := hv
  obtain ⟨hlen, hget⟩ := sub_eq hv
  have key : ∀ j, j < m → ∃ x v, w.cell? ⟨d.b, d.base + off + j, none⟩ = some x ∧ cs[j]? = some v ∧ VRel Δ v x := by grind[List.getElem?_eq_getElem,cell_ok,Nat.add_assoc]
  refine ⟨_, run_loadCells w ⟨d.b, d.base + off, none⟩ m (fun j => (w.cell? ⟨d.b, d.base + off + j, none⟩).getD undef) (fun j hj => ?_), ?_⟩
  · grind[addr_add]
  grind[VsRel.of_get,List.getElem?_eq_some_iff]
theorem load1_ok (hW : WR Δ h w) {l : Nat} {d : D} (hl : Δ l = some d) {off : Nat} {v : V} (hv : ld1 h l off = some v) :
    ∃ x, w.cell? ⟨d.b, d.base + off, none⟩ = some x ∧ VRel Δ v x := by
  unfold ld1 at hv
  rw [cellsAt_eq] at hv
  obtain ⟨e, sz, live, ro, all, hg, hv⟩ := hv
  rw [bB_eq] at hv
  obtain ⟨rfl, hv⟩ := hv
  exact cell_ok hW hl hg (at1_eq hv)
theorem hload_ok (hW : WR Δ h w) {ty : Nat} {p : PF} {xv : Value} (hp : ∀ v, p.f t h = some v → VRel Δ v xv) {v : V} (hv : (hload ty p).f t h = some v) :
    ∃ x, (Instr.loadAt ty xv).run P0 w = .ok x w ∧ VRel Δ v x := by
  unfold hload at hv
  split at hv
  · rename_i ha
    split at hv
    · rename_i m hm
      simp only [oB_eq, asPtr_eq] at hv
      obtain ⟨av, h1, l, off, rfl, cs, h2, h3⟩ := hv
      cases h3
      cases hp _ h1 with
      | ptr _ _ d hd =>
        obtain ⟨arr, hr, hrel⟩ := loadCells_ok hW hd h2
        exact ⟨.agg arr, by simp_all[Instr.loadAt,Instr.sureAddr,loadVar,run_agg,run_sz], .agg _ _ hrel⟩
    · cases hv
  · rename_i ha
    simp only [oB_eq, asPtr_eq] at hv
    obtain ⟨av, h1, l, off, rfl, h2⟩ := hv
    cases hp _ h1 with
    | ptr _ _ d hd =>
      obtain ⟨x, hx, hrel⟩ := load1_ok hW hd h2
      simp_all[Instr.loadAt,Instr.sureAddr,loadVar,run_agg]
  · cases hv

/-! ### building -/
theorem placesOf_ok : ∀ (fs : List Field) (pl : List (Nat × Nat)), placesOf fs = some pl → fs.mapM (fun f => (P0.info? f.type).map fun i => (f.offset, i.size)) = some pl
  | [], pl, h => by grind[placesOf]
  | f :: fs, pl, h => by
    simp only [placesOf, oB_eq] at h
    obtain ⟨m, h1, l, h2, h3⟩ := h
    cases h3
    obtain ⟨i, hi, rfl⟩ := info_of_sz h1
    simp [List.mapM_cons, hi, placesOf_ok fs l h2]
theorem setAll_ok : ∀ (xs : List Value) (k off : Nat) (c : Array Value), off + k + xs.length ≤ c.size →
    ∀ i, ((xs.zipIdx k).foldl (fun cs (p : Value × Nat) => cs.setIfInBounds (off + p.2) p.1) c)[i]? = if off + k ≤ i ∧ i < off + k + xs.length then xs[i - (off + k)]? else c[i]?
  | [], k, off, c, _, i => by
    simp_all[if_neg,List.length_nil]
  | x :: xs, k, off, c, hle, i => by
    simp only [List.zipIdx_cons, List.foldl_cons]
    simp only [List.length_cons] at hle
    rw [setAll_ok xs (k + 1) off _ (by simp; omega)]
    grind
theorem fill_ok {place : Nat → Option (Nat × Nat)} : ∀ {ps : List (Nat × V)} {ps' : List (Nat × Value)} {cells cs : List V} {cells' : Array Value}, PRel Δ ps ps' → VsRel Δ cells cells'.toList →
    fillV place cells ps = some cs → ∃ cs', Instr.fill place cells' ps' = some cs' ∧ VsRel Δ cs cs'.toList
  | _, _, cells, cs, cells', .nil, hc, hf => by simp [fillV] at hf; subst hf; exact ⟨cells', rfl, hc⟩
  | _, _, cells, cs, cells', .cons i v v' l l' hv hs, hc, hf => by
    simp only [fillV, oB_eq, bB_eq] at hf
    obtain ⟨⟨off, size⟩, h1, h2, mid, h3, h4⟩ := hf
    obtain ⟨hl, hle, hget⟩ := splice_eq h3
    have hvc := hv.cells
    have hsz : v'.cells.size = size := by
      have := hvc.length
      rw [Nat.eq_of_beq_eq_true h2] at this
      simpa using this.symm
    have hcl := hc.length
    simp only [Array.length_toList] at hcl
    have hvl : v.cells.length = v'.cells.size := by simpa using hvc.length
    have hno : ¬ (v'.cells.size ≠ size ∨ off + v'.cells.size > cells'.size) := by
      rintro (h | h)
      · omega
      · omega
    have hmid : VsRel Δ mid (v'.cells.zipIdx.foldl (fun cs (c, j) => cs.setIfInBounds (off + j) c) cells').toList := by
      have hset := setAll_ok v'.cells.toList 0 off cells' (by simp; omega)
      have hfold : (v'.cells.zipIdx.foldl (fun cs (c, j) => cs.setIfInBounds (off + j) c) cells') = ((v'.cells.toList.zipIdx 0).foldl (fun cs (p : Value × Nat) => cs.setIfInBounds (off + p.2) p.1) cells') := by
        rw [← Array.foldl_toList]
        simp
      rw [hfold]
      generalize hF : ((v'.cells.toList.zipIdx 0).foldl (fun cs (p : Value × Nat) => cs.setIfInBounds (off + p.2) p.1) cells') = F at hset
      have hFs : F.size = cells'.size := by
        apply Nat.le_antisymm
        · rcases Nat.lt_or_ge cells'.size F.size with hlt | hge
          · have := hset cells'.size
            grind
          omega
        · rcases Nat.lt_or_ge F.size cells'.size with hlt | hge
          · have := hset F.size
            grind
          omega
      refine VsRel.of_get (by simp_all) fun j x hx => ?_
      rw [hget j] at hx
      have hsj := hset j
      simp only [Nat.add_zero, Array.length_toList] at hsj
      rw [Array.getElem?_toList, hsj]
      by_cases hin : off ≤ j ∧ j < off + v.cells.length
      · rw [if_pos hin] at hx
        rw [if_pos (by omega)]
        exact hvc.get _ _ hx
      · rw [if_neg hin] at hx
        rw [if_neg (by omega)]
        obtain ⟨y, hy, hr⟩ := hc.get _ _ hx
        simp_all
    obtain ⟨cs', hf', hr⟩ := fill_ok hs hmid h4
    simp_all[Instr.fill,if_neg]
theorem hbuild_ok (hT : TR Δ n t a) {ty : Nat} {parts : List (Nat × Operand)} {v : V} (hv : (hbuild ty parts).f t h = some v) :
    ∃ x, (Instr.build ty (parts.map fun x => (x.1, a.eval x.2)).toArray).run P0 w = .ok x w ∧ VRel Δ v x := by
  unfold hbuild at hv
  split at hv
  · rename_i z hz
    obtain ⟨zv, _, hzr, i, hi, hzi⟩ := run_zero hz
    have hzc := (hzr Δ).cells
    split at hv
    · rename_i fields hu
      split at hv
      · rename_i places hp
        simp only [oB_eq] at hv
        obtain ⟨ps, h1, cs, h2, h3⟩ := hv
        cases h3
        obtain ⟨cs', hf, hr⟩ := fill_ok (evParts_ok hT h1) hzc h2
        refine ⟨.agg cs', ?_, .agg _ _ hr⟩
        simp_all[run_build,Program.built,placesOf_ok]
      · cases hv
    · rename_i len elem hu
      split at hv
      · rename_i size hs
        obtain ⟨ie, hie, rfl⟩ := info_of_sz hs
        simp only [oB_eq] at hv
        obtain ⟨ps, h1, cs, h2, h3⟩ := hv
        cases h3
        obtain ⟨cs', hf, hr⟩ := fill_ok (evParts_ok hT h1) hzc h2
        refine ⟨.agg cs', ?_, .agg _ _ hr⟩
        simp_all[run_build,Program.built]
      · cases hv
    · cases hv
  · cases hv
end
end Go.Proofs.YtgfdhkhcojjkjaaGreatDoor.Hx
