/- The plain machine over a heap of which more is known: what it answers over a part of the heap it answers over the whole. And runs in stages: calls that are shown by runs of their own, over those things alone that matter. -/
import Derived.Test.YtgfdhkhcojjkjaaGreatDoorHx1
import Derived.Test.YtgfdhkhcojjkjaaGreatDoorHx5
namespace Go.Proofs.YtgfdhkhcojjkjaaGreatDoor.Hx

/-- More is known of the heap. -/
structure Hp.Le (h H : Hp) : Prop where
  next : h.next = H.next
  get : ∀ l o, h.get l = some o → H.get l = some o
theorem Hp.Le.refl (h : Hp) : h.Le h := ⟨rfl, fun _ _ h => h⟩
theorem Hp.Le.trans {a b c : Hp} (x : a.Le b) (y : b.Le c) : a.Le c := ⟨x.next.trans y.next, fun l o h => y.get l o (x.get l o h)⟩
/-- What is told beforehand stays told where more is known of the heap. -/
structure HK (C : Cfg) : Prop where
  flat : ∀ f a h H, C.K f a h = C.K f a H
  more : ∀ f g, C.R f = some g → ∀ a h r, g a h = some r → ∀ H : Hp, h.Le H → ∃ H', g a H = some (r.1, H') ∧ r.2.Le H'
section
variable {h H : Hp} (le : h.Le H)
include le
theorem Hp.Le.new (o : O) : (h.new o).Le (H.new o) := ⟨congrArg (· + 1) le.next, fun l o' hg => by
  rw [get_new] at hg ⊢
  rw [← le.next]
  split
  · rename_i e; rw [if_pos e] at hg; exact hg
  · rename_i e; rw [if_neg e] at hg; exact le.get l o' hg⟩
theorem Hp.Le.put {l : Nat} (hl : l < h.next) (o : O) : (h.put l o).Le (H.put l o) := ⟨le.next, fun m o' hg => by
  rw [get_put _ _ hl] at hg
  rw [get_put _ _ (by rw [← le.next]; exact hl)]
  split
  · rename_i e; rw [if_pos e] at hg; exact hg
  · rename_i e; rw [if_neg e] at hg; exact le.get m o' hg⟩
theorem cells_h {β : Type} {l : Nat} {k k' : Nat → Nat → Bool → Bool → List V → Option β} {y y' : β} (hv : cellsAt h l k = some y) (hk : ∀ e sz a r cs, l < h.next → k e sz a r cs = some y → k' e sz a r cs = some y') : cellsAt H l k' = some y' := by
  unfold cellsAt at hv ⊢
  rw [oB_eq] at hv
  obtain ⟨o, h1, h2⟩ := hv
  rw [le.get l o h1]
  show (match o with
    | .cells e sz live ro cs => k' e sz live ro cs
    | _ => none) = _
  split at h2
  · exact hk _ _ _ _ _ (Hp.get_lt h1) h2
  · cases h2
theorem map_h {β : Type} {l : Nat} {k k' : List (V × V × Nat) → Nat → Option β} {y y' : β} (hv : mapAt h l k = some y) (hk : ∀ es c, l < h.next → k es c = some y → k' es c = some y') : mapAt H l k' = some y' := by
  unfold mapAt at hv ⊢
  rw [oB_eq] at hv
  obtain ⟨o, h1, h2⟩ := hv
  rw [le.get l o h1]
  show (match o with
    | .map es c => k' es c
    | _ => none) = _
  split at h2
  · exact hk _ _ (Hp.get_lt h1) h2
  · cases h2
theorem ldAt_h {l off n : Nat} {cs : List V} (hv : ldAt h l off n = some cs) : ldAt H l off n = some cs := cells_h le hv fun _ _ _ _ _ _ h => h
theorem ld1_h {l off : Nat} {v : V} (hv : ld1 h l off = some v) : ld1 H l off = some v := cells_h le hv fun _ _ _ _ _ _ h => h
theorem stAt_h {l off : Nat} {new : List V} {h' : Hp} (hv : stAt h l off new = some h') : ∃ H', stAt H l off new = some H' ∧ h'.Le H' := by
  unfold stAt at hv
  have hv' := hv
  unfold cellsAt at hv'
  rw [oB_eq] at hv'
  obtain ⟨o, h1, h2⟩ := hv'
  split at h2
  · rename_i e sz live ro cs
    simp only [bB_eq, oB_eq] at h2
    obtain ⟨a1, a2, a3, cs', a4, a5⟩ := h2
    cases a5
    refine ⟨H.put l (.cells e sz true false cs'), ?_, le.put (Hp.get_lt h1) _⟩
    unfold stAt cellsAt
    rw [le.get _ _ h1]
    show bB live (bB (!ro) (bB (allOne new) (oB (splice off cs new) fun cs' => some (H.put l (.cells e sz true false cs'))))) = _
    rw [a1, a2, a3, a4]
    rfl
  · cases h2
omit le in
theorem asPtr_h {β γ : Type} {v : V} {k : Nat → Nat → Option β} {k' : Nat → Nat → Option γ} {y : β} {P : γ → Prop} (hv : asPtr v k = some y) (hk : ∀ l o, k l o = some y → ∃ z, k' l o = some z ∧ P z) : ∃ z, asPtr v k' = some z ∧ P z := by
  unfold asPtr at hv ⊢
  split at hv
  · exact hk _ _ hv
  · cases hv
omit le in
theorem asPtr_h1 {β : Type} {v : V} {k k' : Nat → Nat → Option β} {y : β} (hv : asPtr v k = some y) (hk : ∀ l o, k l o = some y → k' l o = some y) : asPtr v k' = some y := by
  unfold asPtr at hv ⊢
  split at hv
  · exact hk _ _ hv
  · cases hv
omit le in
theorem asNat_h1 {β : Type} {v : V} {k k' : Nat → Option β} {y : β} (hv : asNat v k = some y) (hk : ∀ l, k l = some y → k' l = some y) : asNat v k' = some y := by
  unfold asNat at hv ⊢
  split at hv
  · exact hk _ hv
  · cases hv

/-! ### operations that leave the heap alone -/
theorem evO_h {x : Operand} {t : Tm} {v : V} : (evO x).f t h = some v → (evO x).f t H = some v := by
  cases x with
  | global g =>
    unfold evO
    simp only
    cases Nat.blt g P0.globals.size with
    | true =>
      intro hv
      simp only [oB_eq] at hv ⊢
      obtain ⟨o, h1, h2⟩ := hv
      exact ⟨o, le.get _ _ h1, h2⟩
    | false => exact id
  | _ => exact id
omit le in
theorem oB_h {α β : Type} {x x' : Option α} {k k' : α → Option β} {y : β} (hx : ∀ a, x = some a → x' = some a) (hk : ∀ a, k a = some y → k' a = some y) (hv : oB x k = some y) : oB x' k' = some y := by
  rw [oB_eq] at hv ⊢
  obtain ⟨a, h1, h2⟩ := hv
  exact ⟨a, hx a h1, hk a h2⟩
omit le in
theorem bB_h {β : Type} {c : Bool} {k k' : Option β} {y : β} (hk : k = some y → k' = some y) (hv : bB c k = some y) : bB c k' = some y := by
  rw [bB_eq] at hv ⊢
  exact ⟨hv.1, hk hv.2⟩
theorem hload_h {ty : Nat} {a a' : PF} {t : Tm} {v : V} (ha : ∀ v, a.f t h = some v → a'.f t H = some v) : (hload ty a).f t h = some v → (hload ty a').f t H = some v := by
  unfold hload
  cases aggT ty with
  | none => exact id
  | some b => cases b with
    | true =>
      cases szOf ty with
      | none => exact id
      | some n => exact oB_h ha fun a h2 => asPtr_h1 h2 fun l o h3 => oB_h (fun _ h4 => ldAt_h le h4) (fun _ h5 => h5) h3
    | false => exact oB_h ha fun a h2 => asPtr_h1 h2 fun l o h3 => ld1_h le h3
theorem hconv_h {src dst : Nat} {x : Operand} {t : Tm} {v : V} : (hconv src dst (evO x)).f t h = some v → (hconv src dst (evO x)).f t H = some v := by
  unfold hconv
  cases P0.underlying src with
  | none => exact id
  | some a => cases P0.underlying dst with
    | none => cases a <;> exact id
    | some b =>
      cases a <;> cases b <;> first | exact id | exact oB_h (fun _ h => evO_h le h) (fun _ h => h) | skip
      rename_i e
      simp only
      cases P0.underlying e with
      | none => exact id
      | some d =>
        cases d with
        | int k =>
          cases k <;> first | exact id | skip
          refine oB_h (fun _ h => evO_h le h) fun y h2 => ?_
          cases y <;> first | exact h2 | exact oB_h (fun _ h3 => ldAt_h le h3) (fun _ h4 => h4) h2
        | _ => exact id
theorem optF_h {x : Option Operand} {t : Tm} {v : Option V} : optF x t h = some v → optF x t H = some v := by
  cases x with
  | none => exact id
  | some x => exact oB_h (fun _ h => evO_h le h) fun _ h => h
theorem hsliceV_h {size : Nat} {x : V} {lo hi : Option V} {v : V} : hsliceV size x lo hi h = some v → hsliceV size x lo hi H = some v := by
  cases x <;> first | exact id | exact fun hv => cells_h le hv fun _ _ _ _ _ _ h => h
theorem hslice_h {ty : Nat} {x : Operand} {lo hi : Option Operand} {t : Tm} {v : V} : (hslice ty (evO x) lo hi).f t h = some v → (hslice ty (evO x) lo hi).f t H = some v := by
  unfold hslice
  cases P0.underlying ty with
  | none => exact id
  | some d =>
    cases d with
    | string => exact oB_h (fun _ h => evO_h le h) fun _ => oB_h (fun _ h => optF_h le h) fun _ => oB_h (fun _ h => optF_h le h) fun _ h => h
    | slice e =>
      simp only
      cases szOf e with
      | none => exact id
      | some n => cases n with
        | zero => exact id
        | succ n => exact oB_h (fun _ h => evO_h le h) fun _ => oB_h (fun _ h => optF_h le h) fun _ => oB_h (fun _ h => optF_h le h) fun _ => hsliceV_h le
    | _ => exact id
theorem hlookup_h {ty : Nat} {m k : Operand} {ok : Bool} {t : Tm} {v : V} : (hlookup ty (evO m) (evO k) ok).f t h = some v → (hlookup ty (evO m) (evO k) ok).f t H = some v := by
  unfold hlookup
  cases P0.underlying ty with
  | none => exact id
  | some d =>
    cases d with
    | map kt et =>
      simp only
      cases keyD kt with
      | none => exact id
      | some d => cases zeroV et with
        | none => exact id
        | some z =>
          refine oB_h (fun _ h => evO_h le h) fun y => oB_h (fun _ h => evO_h le h) fun q => bB_h ?_
          cases y <;> first | exact id | exact fun h4 => map_h le h4 fun _ _ _ h => h
    | _ => exact id
theorem hlen_h {ty : Nat} {x : Operand} {t : Tm} {v : V} : (hlen ty (evO x)).f t h = some v → (hlen ty (evO x)).f t H = some v := by
  unfold hlen
  cases P0.underlying ty with
  | none => exact id
  | some d =>
    cases d with
    | map kt et =>
      refine oB_h (fun _ h => evO_h le h) fun y => ?_
      cases y <;> first | exact id | exact fun h4 => map_h le h4 fun _ _ _ h => h
    | _ => first | exact id | exact oB_h (fun _ h => evO_h le h) fun _ h => h
theorem pureC_h {o : Oper} {t : Tm} {v : V} : (pureC o).f t h = some v → (pureC o).f t H = some v := by
  obtain ⟨dst, op, ty, pos, af, gd⟩ := o
  unfold pureC
  cases op
  case move x => exact evO_h le
  case assign x => exact evO_h le
  case pick c a b =>
    refine oB_h (fun _ h => evO_h le h) fun y => ?_
    cases y with
    | bool b => cases b <;> exact evO_h le
    | _ => exact id
  case load ty' a => exact hload_h le (fun _ h => evO_h le h)
  case nilCheck x => exact oB_h (fun _ h => evO_h le h) fun _ h => h
  case binOp op xt x y q => exact oB_h (fun _ h => evO_h le h) fun _ => oB_h (fun _ h => evO_h le h) fun _ h => h
  case unOp op q x => exact oB_h (fun _ h => evO_h le h) fun _ h => h
  case convert src dst x => exact hconv_h le
  case build ty' parts =>
    simp only [hbuild]
    repeat' split
    all_goals exact id
  case makeFunc fn first caps => cases fn <;> exact id
  case slice ty' x lo hi mx => cases mx <;> first | exact hslice_h le | exact id
  case fieldAddr s x f =>
    simp only [hfieldAddr]
    repeat' split
    all_goals first | exact id | exact oB_h (fun _ h => evO_h le h) fun _ h => h
  case field s x f =>
    simp only [hfield]
    repeat' split
    all_goals first | exact id | exact oB_h (fun _ h => evO_h le h) fun _ h => h
  case indexAddr ty' x i =>
    simp only [hindexAddr]
    repeat' split
    all_goals first | exact id | exact oB_h (fun _ h => evO_h le h) fun _ => oB_h (fun _ h => evO_h le h) fun _ h => h
  case index ty' x i =>
    simp only [hindex]
    repeat' split
    all_goals first | exact id | exact oB_h (fun _ h => evO_h le h) fun _ => oB_h (fun _ h => evO_h le h) fun _ h => h
  case lookup ty' m k ok => exact hlookup_h le
  case extract x i => exact oB_h (fun _ h => evO_h le h) fun _ h => h
  case makeInterface ty' x =>
    simp only
    split
    all_goals first | exact id | exact oB_h (fun _ h => evO_h le h) fun _ h => h
  case typeAssert x q asserted ok =>
    simp only [hassert]
    split
    all_goals first | exact id | exact oB_h (fun _ h => evO_h le h) fun _ h => h
  case call c =>
    simp only
    split
    · split
      · exact hlen_h le
      · exact id
    all_goals exact id
  all_goals exact id

/-! ### operations that change the heap, and calls -/
def R.Le : R → R → Prop
  | .val v h, .val v' h' => v = v' ∧ h.Le h'
  | .call f a, .call f' a' => f = f' ∧ a = a'
  | _, _ => False
omit le in
theorem oB_r {α : Type} {x x' : Option α} {k k' : α → Option R} {y : R} (hx : ∀ a, x = some a → x' = some a) (hk : ∀ a, k a = some y → ∃ z, k' a = some z ∧ y.Le z) (hv : oB x k = some y) : ∃ z, oB x' k' = some z ∧ y.Le z := by
  rw [oB_eq] at hv
  obtain ⟨a, h1, h2⟩ := hv
  obtain ⟨z, h3, h4⟩ := hk a h2
  exact ⟨z, by rw [hx a h1]; exact h3, h4⟩
omit le in
theorem bB_r {c : Bool} {k k' : Option R} {y : R} (hk : k = some y → ∃ z, k' = some z ∧ y.Le z) (hv : bB c k = some y) : ∃ z, bB c k' = some z ∧ y.Le z := by
  rw [bB_eq] at hv
  obtain ⟨z, h3, h4⟩ := hk hv.2
  exact ⟨z, by rw [hv.1]; exact h3, h4⟩
theorem same_r {v : V} {y : R} (hv : some (R.val v h) = some y) : ∃ z, some (R.val v H) = some z ∧ y.Le z := by
  cases hv
  exact ⟨_, rfl, rfl, le⟩
omit le in
theorem none_r {y : R} {z : Option R} (hv : none = some y) : ∃ x, z = some x ∧ y.Le x := nomatch hv
theorem new_r {v : V} {o : O} {y : R} (hv : some (R.val v (h.new o)) = some y) : ∃ z, some (R.val v (H.new o)) = some z ∧ y.Le z := by
  cases hv
  exact ⟨_, rfl, rfl, le.new o⟩
theorem put_r {v : V} {l : Nat} {o : O} {y : R} (hl : l < h.next) (hv : some (R.val v (h.put l o)) = some y) : ∃ z, some (R.val v (H.put l o)) = some z ∧ y.Le z := by
  cases hv
  exact ⟨_, rfl, rfl, le.put hl o⟩
theorem cells_r {l : Nat} {k k' : Nat → Nat → Bool → Bool → List V → Option R} {y : R} (hk : ∀ e sz a r cs, l < h.next → k e sz a r cs = some y → ∃ z, k' e sz a r cs = some z ∧ y.Le z) (hv : cellsAt h l k = some y) : ∃ z, cellsAt H l k' = some z ∧ y.Le z := by
  unfold cellsAt at hv ⊢
  rw [oB_eq] at hv
  obtain ⟨o, h1, h2⟩ := hv
  rw [le.get l o h1]
  cases o with
  | cells e sz a r cs => exact hk _ _ _ _ _ (Hp.get_lt h1) h2
  | _ => cases h2
theorem map_r {l : Nat} {k k' : List (V × V × Nat) → Nat → Option R} {y : R} (hk : ∀ es c, l < h.next → k es c = some y → ∃ z, k' es c = some z ∧ y.Le z) (hv : mapAt h l k = some y) : ∃ z, mapAt H l k' = some z ∧ y.Le z := by
  unfold mapAt at hv ⊢
  rw [oB_eq] at hv
  obtain ⟨o, h1, h2⟩ := hv
  rw [le.get l o h1]
  cases o with
  | map es c => exact hk _ _ (Hp.get_lt h1) h2
  | _ => cases h2
theorem st_r {l off : Nat} {new : List V} {v : V} {y : R} (hv : oB (stAt h l off new) (fun h => some (R.val v h)) = some y) : ∃ z, oB (stAt H l off new) (fun h => some (R.val v h)) = some z ∧ y.Le z := by
  rw [oB_eq] at hv
  obtain ⟨h', h1, h2⟩ := hv
  cases h2
  obtain ⟨H', h3, h4⟩ := stAt_h le h1
  exact ⟨.val v H', by rw [h3]; rfl, rfl, h4⟩
theorem xcells_h {size : Nat} {x : V} {r : Nat × List V} : xcells h size x = some r → xcells H size x = some r := by
  cases x with
  | slice l off n => cases n with
    | zero => exact id
    | succ n => exact oB_h (fun _ h => ldAt_h le h) fun _ h => h
  | _ => exact id
theorem happendN_r {elem size by_ : Nat} {s : V} {nx : Nat × List V} {y : R} : happendN elem size by_ s nx h = some y → ∃ z, happendN elem size by_ s nx H = some z ∧ y.Le z := by
  unfold happendN
  cases Nat.beq nx.1 0 with
  | true =>
    cases s with
    | nilSlice => exact same_r le
    | slice l off len => exact same_r le
    | _ => exact none_r
  | false =>
    refine bB_r ?_
    cases s with
    | nilSlice =>
      refine bB_r (bB_r ?_)
      rw [← le.next]
      exact new_r le
    | slice l off len =>
      refine cells_r le fun e sz live ro cs hl => bB_r (bB_r (bB_r ?_))
      cases Nat.ble (Nat.add off (Nat.mul (Nat.add len nx.1) size)) cs.length with
      | true => exact oB_r (fun _ h => h) fun cs' => put_r le hl
      | false =>
        refine oB_r (fun _ h => h) fun old => bB_r (bB_r (bB_r ?_))
        rw [← le.next]
        exact new_r (le.put hl _)
    | _ => exact none_r
theorem happend_r {elem size by_ : Nat} {s x : V} {y : R} : happend elem size by_ s x h = some y → ∃ z, happend elem size by_ s x H = some z ∧ y.Le z :=
  oB_r (fun _ h => xcells_h le h) fun _ => happendN_r le
theorem happendM_r {elem size by_ : Nat} {z s x : V} {y : R} : happendM elem size by_ z s x h = some y → ∃ z', happendM elem size by_ z s x H = some z' ∧ y.Le z' := by
  unfold happendM
  split
  · exact bB_r (bB_r (happendN_r le))
  · exact none_r
theorem hcopy_r {size : Nat} {d s : V} {y : R} : hcopy size d s h = some y → ∃ z, hcopy size d s H = some z ∧ y.Le z := by
  cases d with
  | nilSlice => cases s <;> first | exact same_r le | exact none_r
  | slice l off len =>
    cases s with
    | nilSlice => exact same_r le
    | slice l' off' len' =>
      unfold hcopy
      simp only
      cases Nat.beq (min len' len) 0 with
      | true => exact same_r le
      | false => exact oB_r (fun _ h => ldAt_h le h) fun cs => st_r le
    | str b =>
      refine bB_r ?_
      cases Nat.beq (min b.length len) 0 with
      | true => exact same_r le
      | false => exact st_r le
    | _ => exact none_r
  | _ => exact none_r
theorem hput_r {t : Nat} {d : Option (List Field)} {m k v : V} {y : R} : hput t d m k v h = some y → ∃ z, hput t d m k v H = some z ∧ y.Le z := by
  refine bB_r ?_
  cases m with
  | map l => exact map_r le fun es c hl => oB_r (fun _ h => h) fun o => put_r le hl
  | _ => exact none_r
theorem hdelete_r {t : Nat} {d : Option (List Field)} {m k : V} {y : R} : hdelete t d m k h = some y → ∃ z, hdelete t d m k H = some z ∧ y.Le z := by
  refine bB_r ?_
  cases m with
  | nilMap => exact same_r le
  | map l =>
    refine map_r le fun es c hl => oB_r (fun _ h => h) fun r => ?_
    cases r with
    | none => exact same_r le
    | some p => exact put_r le hl
  | _ => exact none_r
theorem hmark_r {x : V} {y : R} : hmark x h = some y → ∃ z, hmark x H = some z ∧ y.Le z := by
  cases x with
  | slice l off n => exact cells_r le fun e sz live ro cs hl => bB_r (bB_r (put_r le hl))
  | _ => exact none_r
theorem hinvoke_r {name : String} {r : V} {args : List V} {y : R} : hinvoke name r args h = some y → ∃ z, hinvoke name r args H = some z ∧ y.Le z := by
  cases r with
  | iface t v =>
    unfold hinvoke
    simp only
    cases methodOf t name with
    | none => exact none_r
    | some q =>
      obtain ⟨f, e⟩ := q
      cases e with
      | none => exact fun hv => by cases hv; exact ⟨_, rfl, rfl, rfl⟩
      | some e => exact oB_r (fun _ h => hload_h le (fun _ h => h) h) fun x hv => by cases hv; exact ⟨_, rfl, rfl, rfl⟩
  | _ => exact none_r
theorem hrange_r {m : V} {y : R} : hrange m h = some y → ∃ z, hrange m H = some z ∧ y.Le z := by
  unfold hrange
  cases m with
  | nilMap => simp only; rw [← le.next]; exact new_r le
  | map l =>
    refine map_r le fun es c hl => ?_
    rw [← le.next]; exact new_r le
  | _ => exact none_r
omit le in
theorem asPtr_r {v : V} {k k' : Nat → Nat → Option R} {y : R} (hk : ∀ l o, k l o = some y → ∃ z, k' l o = some z ∧ y.Le z) (hv : asPtr v k = some y) : ∃ z, asPtr v k' = some z ∧ y.Le z := by
  cases v <;> first | exact hk _ _ hv | cases hv
theorem get_r {l : Nat} {k k' : O → Option R} {y : R} (hk : ∀ o, l < h.next → k o = some y → ∃ z, k' o = some z ∧ y.Le z) (hv : oB (h.get l) k = some y) : ∃ z, oB (H.get l) k' = some z ∧ y.Le z := by
  rw [oB_eq] at hv
  obtain ⟨o, h1, h2⟩ := hv
  rw [le.get l o h1]
  exact hk o (Hp.get_lt h1) h2
theorem hnext_r {it : V} {y : R} : hnext it h = some y → ∃ z, hnext it H = some z ∧ y.Le z := by
  refine asPtr_r fun r off => bB_r (get_r le fun o hl => ?_)
  cases o with
  | iter m since seen last => cases m with
    | none => exact same_r le
    | some m =>
      refine map_r le fun es clock _ => bB_r ?_
      cases es.filter (fun e => !seen.contains e.2.2) with
      | nil => exact same_r le
      | cons e l => cases l with
        | nil => exact bB_r (put_r le hl)
        | cons _ _ => exact none_r
  | _ => exact none_r
theorem hentry_r {it : V} {y : R} : hentry it h = some y → ∃ z, hentry it H = some z ∧ y.Le z := by
  refine asPtr_r fun r off => bB_r (get_r le fun o hl => ?_)
  cases o with
  | iter m since seen last => cases m with
    | none => exact none_r
    | some m => exact map_r le fun es clock _ => bB_r (oB_r (fun _ h => h) fun st => oB_r (fun _ h => h) fun e => same_r le)
  | _ => exact none_r
theorem writeC_r {o : Oper} {t : Tm} {y : R} : (writeC o).f t h = some y → ∃ z, (writeC o).f t H = some z ∧ y.Le z := by
  have ev : ∀ {x : Operand}, ∀ a, (evO x).f t h = some a → (evO x).f t H = some a := fun a h => evO_h le h
  obtain ⟨dst, op, ty, pos, af, gd⟩ := o
  unfold writeC
  cases op
  case store ty' a x =>
    simp only
    split
    · exact oB_r ev fun a => oB_r ev fun v => asPtr_r fun l off => bB_r (st_r le)
    · exact none_r
  case mapUpdate ty' m k x =>
    simp only
    repeat' split
    all_goals first | exact none_r | exact oB_r ev fun m => oB_r ev fun k => oB_r ev fun v => hput_r le
  case insert ty' m k x =>
    simp only
    repeat' split
    all_goals first | exact none_r | exact oB_r ev fun m => oB_r ev fun k => oB_r ev fun v => hput_r le
  case range ty' x =>
    simp only
    repeat' split
    all_goals first | exact none_r | exact oB_r ev fun m => hrange_r le
  case next x b => cases b <;> first | exact none_r | exact oB_r ev fun m => hnext_r le
  case entry x => exact oB_r ev fun m => hentry_r le
  case convert src dst' x =>
    simp only
    repeat' split
    all_goals first
      | exact none_r
      | exact oB_r ev fun x => hmark_r le
      | (refine oB_r ev fun x => ?_
         cases x <;> first | exact none_r | (simp only; rw [← le.next]; exact new_r le))
  case call c =>
    simp only
    repeat' split
    all_goals first
      | exact none_r
      | exact oB_r ev fun s => oB_r ev fun x => happend_r le
      | exact oB_r ev fun s => oB_r ev fun x => happendM_r le
      | exact oB_r ev fun d => oB_r ev fun s => hcopy_r le
      | exact oB_r ev fun m => oB_r ev fun k => hdelete_r le
      | exact oB_r ev fun f => oB_r (fun _ h => h) fun args hv => by
          refine ⟨_, hv, ?_⟩
          unfold hcall at hv
          split at hv
          · cases hv; exact ⟨rfl, rfl⟩
          · cases hv
      | exact oB_r ev fun r => oB_r (fun _ h => h) fun args => hinvoke_r le
  all_goals exact none_r
theorem holdsAt_h {r : Rec} (hv : holdsAt h r = true) : holdsAt H r = true := by
  unfold holdsAt at hv ⊢
  cases hm : r.made with
  | none =>
    rw [hm] at hv
    simp only at hv ⊢
    cases hp : (pureC r.it.o).f r.t h with
    | none => rw [hp] at hv; cases hv
    | some v => rw [hp] at hv; rw [pureC_h le hp]; exact hv
  | some p =>
    rw [hm] at hv
    simp only at hv ⊢
    cases hp : h.get p.1 with
    | none => rw [hp] at hv; cases hv
    | some v => rw [hp] at hv; rw [le.get _ _ hp]; exact hv
theorem stable_h {k : Nat} {rs : List Rec} (hv : stable k h rs = true) : stable k H rs = true := by
  unfold stable at hv ⊢
  rw [List.all_eq_true] at hv ⊢
  intro r hr
  have := hv r hr
  rw [Bool.or_eq_true] at this ⊢
  exact this.imp id (holdsAt_h le)
theorem resVs_h {t : Tm} : ∀ {l : List ResultVar} {vs : List V}, resVs t h l = some vs → resVs t H l = some vs
  | [], _, hv => hv
  | r :: rs, vs, hv => by
    refine oB_h (fun v h1 => ?_) (fun v => oB_h (fun _ h2 => resVs_h h2) fun _ h => h) hv
    cases r with
    | tmp i => exact h1
    | cell a ty => exact hload_h le (fun _ h => h) h1
end

/-! ### calls -/
/-- What one way of calling answers over a part of the heap the other answers over the whole. -/
def Call.LeH (c c' : Call) : Prop := ∀ f a h r, c f a h = some r → ∀ H, h.Le H → ∃ H', c' f a H = some (r.1, H') ∧ r.2.Le H'
section
variable {n : Nat} {c c' : Call} (hc : c.LeH c')
include hc
theorem opC_h {o : Oper} {t : Tm} {h H : Hp} (le : h.Le H) {r : V × Hp} (hv : (opC o).f c t h = some r) : ∃ H', (opC o).f c' t H = some (r.1, H') ∧ r.2.Le H' := by
  unfold opC at hv ⊢
  split
  · rename_i hk
    rw [hk] at hv
    simp only [oB_eq] at hv
    obtain ⟨v, h1, h2⟩ := hv
    cases h2
    exact ⟨H, by simp only [oB_eq]; exact ⟨v, pureC_h le h1, rfl⟩, le⟩
  · rename_i hk
    rw [hk] at hv
    simp only [oB_eq] at hv
    obtain ⟨v, h1, h2⟩ := hv
    cases h2
    exact ⟨H.new v.1, by simp only [oB_eq]; exact ⟨v, h1, by rw [← le.next]⟩, le.new _⟩
  · rename_i h0 h1
    split at hv
    · rename_i hk; exact absurd hk h0
    · rename_i hk; exact absurd hk h1
    · simp only [oB_eq] at hv
      obtain ⟨x, h2, h3⟩ := hv
      obtain ⟨z, h4, h5⟩ := writeC_r le h2
      cases x with
      | val v h' =>
        cases h3
        cases z with
        | val v' H' =>
          obtain ⟨rfl, h6⟩ := h5
          exact ⟨H', by simp only [oB_eq]; exact ⟨_, h4, rfl⟩, h6⟩
        | call f a => exact h5.elim
      | call f args =>
        cases z with
        | val v' H' => exact h5.elim
        | call f' a' =>
          obtain ⟨rfl, rfl⟩ := h5
          obtain ⟨H', h6, h7⟩ := hc _ _ _ _ h3 H le
          exact ⟨H', by simp only [oB_eq]; exact ⟨_, h4, h6⟩, h7⟩
theorem stepC_h {all : List Oper} {o : Oper} {rest : SF} (hr : ∀ t h r, rest.f c t h = some r → ∀ H, h.Le H → ∃ H', rest.f c' t H = some (r.1, H') ∧ r.2.Le H') {t : Tm} {h H : Hp} (le : h.Le H) {r : Tm × Hp} (hv : (stepC n all o rest).f c t h = some r) :
    ∃ H', (stepC n all o rest).f c' t H = some (r.1, H') ∧ r.2.Le H' := by
  unfold stepC at hv ⊢
  cases hd : dstC n o with
  | none => rw [hd] at hv; cases hv
  | some d =>
    rw [hd] at hv
    simp only at hv ⊢
    cases hw : wantC n all o with
    | none =>
      rw [hw] at hv
      simp only at hv ⊢
      cases hq : deferC o with
      | some q =>
        rw [hq] at hv
        simp only [oB_eq] at hv ⊢
        obtain ⟨x, h1, h2⟩ := hv
        obtain ⟨H', h3, h4⟩ := hr _ _ _ h2 H le
        refine ⟨H', ⟨x, ?_, h3⟩, h4⟩
        unfold deferC at hq
        split at hq
        · split at hq
          · cases hq
            exact oB_h (fun _ h => evO_h le h) (fun _ h => h) h1
          · cases hq
        · cases hq
      | none =>
        rw [hq] at hv
        simp only [oB_eq] at hv ⊢
        obtain ⟨x, h1, h2⟩ := hv
        obtain ⟨H1, h3, h4⟩ := opC_h hc le h1
        obtain ⟨H2, h5, h6⟩ := hr _ _ _ h2 H1 h4
        exact ⟨H2, ⟨_, h3, h5⟩, h6⟩
    | some g =>
      rw [hw] at hv
      simp only [oB_eq] at hv ⊢
      obtain ⟨b, h1, h2⟩ := hv
      cases b with
      | false =>
        obtain ⟨H', h3, h4⟩ := hr _ _ _ h2 H le
        exact ⟨H', ⟨_, h1, h3⟩, h4⟩
      | true =>
        simp only [oB_eq] at h2
        obtain ⟨x, h3, h4⟩ := h2
        obtain ⟨H1, h5, h6⟩ := opC_h hc le h3
        obtain ⟨H2, h7, h8⟩ := hr _ _ _ h4 H1 h6
        exact ⟨H2, ⟨_, h1, by simp only [oB_eq]; exact ⟨_, h5, h7⟩⟩, h8⟩
theorem regionC_h {all : List Oper} : ∀ (os : List Oper) {t : Tm} {h H : Hp}, h.Le H → ∀ {r : Tm × Hp}, (regionC n all os).f c t h = some r → ∃ H', (regionC n all os).f c' t H = some (r.1, H') ∧ r.2.Le H'
  | [], _, _, H, le, _, hv => by cases hv; exact ⟨H, rfl, le⟩
  | o :: os, _, _, _, le, _, hv => stepC_h hc (fun _ _ _ h _ le => regionC_h os le h) le hv
theorem seqC_h {all : List Oper} {ws : List It} : ∀ (l : List It) (k : Nat) {t : Tm} {h H : Hp}, h.Le H → ∀ {rs : List Rec} {r : Tm × Hp}, (seqC n all ws l k).f c t h rs = some r → ∃ H', (seqC n all ws l k).f c' t H rs = some (r.1, H') ∧ r.2.Le H'
  | [], k, t, h, H, le, rs, r, hv => by
    simp only [seqC, bB_eq] at hv ⊢
    obtain ⟨h1, h2⟩ := hv
    cases h2
    exact ⟨H, ⟨stable_h le h1, rfl⟩, le⟩
  | a :: l, k, t, h, H, le, rs, r, hv => by
    unfold seqC at hv ⊢
    cases hd : dstC n a.o with
    | none => rw [hd] at hv; cases hv
    | some d =>
      rw [hd] at hv
      simp only at hv ⊢
      split
      · rename_i hk
        rw [hk] at hv
        simp only [pureS, oB_eq] at hv ⊢
        obtain ⟨b, h1, h2⟩ := hv
        cases b with
        | false =>
          obtain ⟨H', h3, h4⟩ := seqC_h l k le h2
          exact ⟨H', ⟨_, h1, h3⟩, h4⟩
        | true =>
          simp only [oB_eq] at h2
          obtain ⟨v, h3, h4⟩ := h2
          obtain ⟨H', h5, h6⟩ := seqC_h l k le h4
          exact ⟨H', ⟨_, h1, by simp only [oB_eq]; exact ⟨_, pureC_h le h3, h5⟩⟩, h6⟩
      · rename_i hk
        rw [hk] at hv
        simp only [allocS, oB_eq] at hv ⊢
        obtain ⟨b, h1, h2⟩ := hv
        cases b with
        | false =>
          obtain ⟨H', h3, h4⟩ := seqC_h l k le h2
          exact ⟨H', ⟨_, h1, h3⟩, h4⟩
        | true =>
          simp only [oB_eq] at h2
          obtain ⟨v, h3, h4⟩ := h2
          obtain ⟨H', h5, h6⟩ := seqC_h l k (le.new _) h4
          rw [le.next] at h5
          exact ⟨H', ⟨_, h1, by simp only [oB_eq]; exact ⟨_, h3, h5⟩⟩, h6⟩
      · rename_i h0 h1
        split at hv
        · rename_i hk; exact absurd hk h0
        · rename_i hk; exact absurd hk h1
        · simp only [writeS, bB_eq, oB_eq] at hv ⊢
          obtain ⟨hs, b, h2, h3⟩ := hv
          cases b with
          | false =>
            obtain ⟨H', h4, h5⟩ := seqC_h l (k + 1) le h3
            exact ⟨H', ⟨stable_h le hs, _, h2, h4⟩, h5⟩
          | true =>
            simp only [oB_eq, bB_eq] at h3
            obtain ⟨x, h4, h5, h6⟩ := h3
            obtain ⟨H1, h7, h8⟩ := opC_h hc le h4
            obtain ⟨H2, h9, h10⟩ := seqC_h l (k + 1) h8 h6
            refine ⟨H2, ⟨stable_h le hs, _, h2, ?_⟩, h10⟩
            simp only [oB_eq, bB_eq]
            exact ⟨_, h7, by rw [← le.next, ← h8.next]; exact h5, h9⟩
theorem drawC_h {all : List Oper} {t : Tm} {h H : Hp} (le : h.Le H) {r : Tm × Hp} (hv : (drawC n all).f c t h = some r) : ∃ H', (drawC n all).f c' t H = some (r.1, H') ∧ r.2.Le H' := by
  unfold drawC at hv ⊢
  cases hb : drawOk (items all 0 []) (wsOf (items all 0 [])) && orderOk (items all 0 []) (wsOf (items all 0 [])) (order (items all 0 []) (wsOf (items all 0 [])) (wsOf (items all 0 [])) 0) 0 0 with
  | true => rw [hb] at hv; exact seqC_h hc _ _ le hv
  | false =>
    rw [hb] at hv
    simp only at hv ⊢
    cases hf : freePair (items all 0 []) (wsOf (items all 0 [])) with
    | none => rw [hf] at hv; cases hv
    | some p =>
      rw [hf] at hv
      cases hb2 : drawOk2 (items all 0 []) && orderOk (items all 0 []) (wsOf (items all 0 [])) (order (items all 0 []) (wsOf (items all 0 [])) (wsOf (items all 0 [])) 0) 0 0 with
      | false => rw [hb2] at hv; cases hv
      | true =>
        rw [hb2] at hv
        simp only [oB_eq, bB_eq] at hv ⊢
        obtain ⟨x, h1, h2, h3⟩ := hv
        cases h3
        obtain ⟨H', h4, h5⟩ := seqC_h hc _ _ le h1
        exact ⟨H', ⟨_, h4, h2, rfl⟩, h5⟩
theorem codeC_h {m m' : Nat} (hm : m ≤ m') : ∀ (k : Code) {t : Tm} {h H : Hp}, h.Le H → ∀ {r : X × Tm × Hp}, (codeC n k).f c m t h = some r → ∃ H', (codeC n k).f c' m' t H = some (r.1, r.2.1, H') ∧ r.2.2.Le H'
  | .skip, _, _, H, le, _, hv => by cases hv; exact ⟨H, rfl, le⟩
  | .seq x y, t, h, H, le, r, hv => by
    simp only [codeC] at hv ⊢
    rcases seqK_eq hv with ⟨t1, h1, e1, e2⟩ | ⟨e1, e2⟩
    · obtain ⟨H1, g1, g2⟩ := codeC_h hm x le e1
      rw [g1]; exact codeC_h hm y g2 e2
    · obtain ⟨H1, g1, g2⟩ := codeC_h hm x le e1
      rw [g1]
      obtain ⟨x', t', h'⟩ := r
      cases x' with
      | normal => exact absurd rfl e2
      | exit id => exact ⟨H1, rfl, g2⟩
      | ret => exact ⟨H1, rfl, g2⟩
  | .cond e x y, t, h, H, le, r, hv => by
    simp only [codeC, oB_eq] at hv ⊢
    obtain ⟨v, h1, h2⟩ := hv
    cases v with
    | bool b =>
      cases b with
      | true =>
        obtain ⟨H', g1, g2⟩ := codeC_h hm x le h2
        exact ⟨H', ⟨_, evO_h le h1, g1⟩, g2⟩
      | false =>
        obtain ⟨H', g1, g2⟩ := codeC_h hm y le h2
        exact ⟨H', ⟨_, evO_h le h1, g1⟩, g2⟩
    | _ => cases h2
  | .block id x, t, h, H, le, r, hv => by
    simp only [codeC] at hv ⊢
    cases hr : (codeC n x).f c m t h with
    | none => rw [hr] at hv; cases hv
    | some r' =>
      rw [hr] at hv
      obtain ⟨H', g1, g2⟩ := codeC_h hm x le hr
      rw [g1]
      obtain ⟨e, t', h'⟩ := r'
      cases e with
      | normal => cases hv; exact ⟨H', rfl, g2⟩
      | ret => cases hv; exact ⟨H', rfl, g2⟩
      | exit id' =>
        unfold blockK at hv ⊢
        simp only at hv ⊢
        cases hb : Nat.beq id' id with
        | true => rw [hb] at hv; cases hv; exact ⟨H', rfl, g2⟩
        | false => rw [hb] at hv; cases hv; exact ⟨H', rfl, g2⟩
  | .loop x, t, h, H, le, r, hv => by
    simp only [codeC] at hv ⊢
    have key : ∀ (k k' : Nat) (t : Tm) (h H : Hp), h.Le H → k ≤ k' → loopN (fun t h => (codeC n x).f c m t h) k t h = some r → ∃ H', loopN (fun t h => (codeC n x).f c' m' t h) k' t H = some (r.1, r.2.1, H') ∧ r.2.2.Le H' := by
      intro k
      induction k with
      | zero => intro k' t h H _ _ hv; cases hv
      | succ k ih =>
        intro k' t h H le hk hv
        obtain ⟨k', rfl⟩ : ∃ j, k' = j + 1 := ⟨k' - 1, by omega⟩
        have hv' : seqK ((codeC n x).f c m t h) (loopN (fun t h => (codeC n x).f c m t h) k) = some r := hv
        show ∃ H', seqK ((codeC n x).f c' m' t H) (loopN (fun t h => (codeC n x).f c' m' t h) k') = some (r.1, r.2.1, H') ∧ r.2.2.Le H'
        rcases seqK_eq hv' with ⟨t1, h1, e1, e2⟩ | ⟨e1, e2⟩
        · obtain ⟨H1, g1, g2⟩ := codeC_h hm x le e1
          rw [g1]; exact ih k' t1 h1 H1 g2 (by omega) e2
        · obtain ⟨H1, g1, g2⟩ := codeC_h hm x le e1
          rw [g1]
          obtain ⟨x', t', h'⟩ := r
          cases x' with
          | normal => exact absurd rfl e2
          | exit id => exact ⟨H1, rfl, g2⟩
          | ret => exact ⟨H1, rfl, g2⟩
    exact key m m' t h H le hm hv
  | .exit id, _, _, H, le, _, hv => by cases hv; exact ⟨H, rfl, le⟩
  | .ret, _, _, H, le, _, hv => by cases hv; exact ⟨H, rfl, le⟩
  | .region id ops false, t, h, H, le, r, hv => by
    simp only [codeC, oB_eq] at hv ⊢
    obtain ⟨x, h1, h2⟩ := hv
    cases h2
    obtain ⟨H', g1, g2⟩ := regionC_h hc _ le h1
    exact ⟨H', ⟨_, g1, rfl⟩, g2⟩
  | .region id ops true, t, h, H, le, r, hv => by
    simp only [codeC, oB_eq] at hv ⊢
    obtain ⟨x, h1, h2⟩ := hv
    cases h2
    obtain ⟨H', g1, g2⟩ := drawC_h hc le h1
    exact ⟨H', ⟨_, g1, rfl⟩, g2⟩
  | .rangeFunc .., _, _, _, _, _, hv => by cases hv
  | .scope _, _, _, _, _, _, hv => by cases hv
  | .label _, _, _, _, _, _, hv => by cases hv
  | .goto _, _, _, _, _, _, hv => by cases hv
  | .refuse _, _, _, _, _, _, hv => by cases hv
omit hc in
theorem dendC_h {fn : Func} {x : X} {t : Tm} {h H : Hp} (le : h.Le H) {r : V × Hp} (hv : dendC fn (x, t, h) = some r) : ∃ H', dendC fn (x, t, H) = some (r.1, H') ∧ r.2.Le H' := by
  unfold dendC at hv ⊢
  cases x with
  | exit id => cases hv
  | _ =>
    simp only at hv ⊢
    cases hd : t.ds with
    | cons _ _ => rw [hd] at hv; cases hv
    | nil =>
      rw [hd] at hv
      simp only [oB_eq] at hv ⊢
      obtain ⟨vs, h1, h2⟩ := hv
      cases h2
      exact ⟨H, ⟨vs, resVs_h le h1, rfl⟩, le⟩
theorem dfuncC_h {C : Cfg} {m m' : Nat} (hm : m ≤ m') {f : Nat} {args : List V} {h H : Hp} (le : h.Le H) {r : V × Hp} (hv : (dfuncC C f).f c m args h = some r) : ∃ H', (dfuncC C f).f c' m' args H = some (r.1, H') ∧ r.2.Le H' := by
  unfold dfuncC at hv ⊢
  cases hf : P0.funcs[f]? with
  | none => rw [hf] at hv; cases hv
  | some fn =>
    rw [hf] at hv
    simp only at hv ⊢
    cases hb : fn.body with
    | none => rw [hb] at hv; cases hv
    | some k =>
      rw [hb] at hv
      simp only at hv ⊢
      cases hr : recOf k with
      | none =>
        rw [hr] at hv
        simp only [bB_eq, oB_eq] at hv ⊢
        obtain ⟨h0, x, h1, h2⟩ := hv
        obtain ⟨H1, g1, g2⟩ := codeC_h hc hm k le h1
        obtain ⟨H2, g3, g4⟩ := dendC_h g2 h2
        exact ⟨H2, ⟨h0, _, g1, g3⟩, g4⟩
      | some y =>
        rw [hr] at hv
        simp only [bB_eq, oB_eq] at hv ⊢
        obtain ⟨h0, h3, x, h1, h2⟩ := hv
        obtain ⟨H1, g1, g2⟩ := codeC_h hc hm y.2 le h1
        obtain ⟨H2, g3, g4⟩ := dendC_h g2 h2
        exact ⟨H2, ⟨h0, h3, _, g1, g3⟩, g4⟩
theorem runD_h {C : Cfg} {m m' : Nat} (hm : m ≤ m') : ∀ (l : List (Nat × List V)) {h H h' : Hp}, h.Le H → runD C c m l h = some h' → ∃ H', runD C c' m' l H = some H' ∧ h'.Le H'
  | [], _, H, _, le, hv => by cases hv; exact ⟨H, rfl, le⟩
  | x :: l, _, _, _, le, hv => by
    simp only [runD, oB_eq] at hv ⊢
    obtain ⟨r, h1, h2⟩ := hv
    obtain ⟨H1, g1, g2⟩ := dfuncC_h hc hm le h1
    obtain ⟨H2, g3, g4⟩ := runD_h hm l g2 h2
    exact ⟨H2, ⟨_, g1, g3⟩, g4⟩
theorem funcC_h {C : Cfg} (hK : HK C) {m m' : Nat} (hm : m ≤ m') {f : Nat} {args : List V} {h H : Hp} (le : h.Le H) {r : V × Hp} (hv : (funcC C f).f c m args h = some r) : ∃ H', (funcC C f).f c' m' args H = some (r.1, H') ∧ r.2.Le H' := by
  unfold funcC at hv ⊢
  cases hf : P0.funcs[f]? with
  | none => rw [hf] at hv; cases hv
  | some fn =>
    rw [hf] at hv
    simp only at hv ⊢
    cases hb : fn.body with
    | none =>
      rw [hb] at hv
      simp only [oB_eq] at hv ⊢
      obtain ⟨v, h1, h2⟩ := hv
      cases h2
      exact ⟨H, ⟨v, h1, rfl⟩, le⟩
    | some k =>
      rw [hb] at hv
      simp only at hv ⊢
      cases hR : C.R f with
      | some g =>
        rw [hR] at hv
        exact hK.more f g hR args h r hv H le
      | none =>
      rw [hR] at hv
      simp only [orB] at hv ⊢
      rw [← hK.flat f args h H]
      cases hk : C.K f args h with
      | some u =>
        rw [hk] at hv
        simp only [orB, bB_eq] at hv ⊢
        obtain ⟨h1, h2⟩ := hv
        cases h2
        exact ⟨H, ⟨h1, rfl⟩, le⟩
      | none =>
        rw [hk] at hv
        simp only [orB, bB_eq, oB_eq] at hv ⊢
        obtain ⟨h0, x, h1, h2⟩ := hv
        obtain ⟨H1, g1, g2⟩ := codeC_h hc hm k le h1
        obtain ⟨e, t, hp⟩ := x
        have fin : oB (runD C c m t.ds hp) (fun h => oB (resVs t h fn.results.toList) fun vs => some (tupleOf vs, h)) = some r → ∃ H', oB (runD C c' m' t.ds H1) (fun h => oB (resVs t h fn.results.toList) fun vs => some (tupleOf vs, h)) = some (r.1, H') ∧ r.2.Le H' := by
          intro h2
          simp only [oB_eq] at h2 ⊢
          obtain ⟨y, h3, vs, h4, h5⟩ := h2
          obtain ⟨H2, g3, g4⟩ := runD_h hc hm _ g2 h3
          cases h5
          exact ⟨H2, ⟨H2, g3, vs, resVs_h g4 h4, rfl⟩, g4⟩
        cases e with
        | exit id => cases h2
        | normal =>
          obtain ⟨H', g5, g6⟩ := fin h2
          exact ⟨H', ⟨h0, _, g1, g5⟩, g6⟩
        | ret =>
          obtain ⟨H', g5, g6⟩ := fin h2
          exact ⟨H', ⟨h0, _, g1, g5⟩, g6⟩
end

/-! ### stages -/
/-- A call that a run of its own shows: the function, its arguments, what must lie in the heap, the answer, what lies there then. -/
structure Stage where
  f : Nat
  args : List V
  h0 : List (Nat × O)
  n0 : Nat
  v : V
  h1 : List (Nat × O)
  n1 : Nat
noncomputable def hpOf (n : Nat) (l : List (Nat × O)) : Hp := ⟨n, l.foldr (fun x t => t.set x.1 x.2) .leaf⟩
def eqE : List (V × V × Nat) → List (V × V × Nat) → Bool
  | [], [] => true
  | a :: x, b :: y => V.beq a.1 b.1 && (V.beq a.2.1 b.2.1 && (Nat.beq a.2.2 b.2.2 && eqE x y))
  | _, _ => false
theorem eqE_eq : ∀ {a b : List (V × V × Nat)}, eqE a b = true → a = b
  | [], [], _ => rfl
  | [], _ :: _, h => by cases h
  | _ :: _, [], h => by cases h
  | (a1, a2, a3) :: x, (b1, b2, b3) :: y, h => by
    simp only [eqE, Bool.and_eq_true] at h
    obtain ⟨h1, h2, h3, h4⟩ := h
    rw [V.eq_of_beq _ _ h1, V.eq_of_beq _ _ h2, Nat.eq_of_beq_eq_true h3, eqE_eq h4]
def O.eqB : O → O → Bool
  | .cells e s a r cs, .cells e' s' a' r' cs' => Nat.beq e e' && (Nat.beq s s' && (a == a' && (r == r' && V.beqs cs cs')))
  | .map es c, .map es' c' => eqE es es' && Nat.beq c c'
  | _, _ => false
theorem O.eqB_eq : ∀ {a b : O}, O.eqB a b = true → a = b
  | .cells e s a r cs, b, h => by
    cases b with
    | cells =>
      simp only [O.eqB, Bool.and_eq_true, beq_iff_eq] at h
      obtain ⟨h1, h2, h3, h4, h5⟩ := h
      rw [Nat.eq_of_beq_eq_true h1, Nat.eq_of_beq_eq_true h2, h3, h4, V.eq_of_beqs _ _ h5]
    | _ => cases h
  | .map es c, b, h => by
    cases b with
    | map =>
      simp only [O.eqB, Bool.and_eq_true] at h
      rw [eqE_eq h.1, Nat.eq_of_beq_eq_true h.2]
    | _ => cases h
  | .iter _ _ _ _, b, h => by cases b <;> cases h
/-- Do all these lie in the heap? -/
noncomputable def lies (h : Hp) : List (Nat × O) → Bool
  | [] => true
  | x :: l => Option.rec (motive := fun _ => Bool) false (fun o => Bool.rec (motive := fun _ => Bool) false (lies h l) (O.eqB o x.2)) (h.get x.1)
theorem lies_get {h : Hp} : ∀ {l : List (Nat × O)}, lies h l = true → ∀ x ∈ l, h.get x.1 = some x.2
  | [], _, _, hx => by cases hx
  | y :: l, hl, x, hx => by
    unfold lies at hl
    cases hg : h.get y.1 with
    | none => rw [hg] at hl; cases hl
    | some o =>
      rw [hg] at hl
      simp only at hl
      cases hb : O.eqB o y.2 with
      | false => rw [hb] at hl; cases hl
      | true =>
        rw [hb] at hl
        rcases List.mem_cons.1 hx with rfl | hx
        · rw [hg, O.eqB_eq hb]
        · exact lies_get hl x hx
theorem trOf_get : ∀ {l : List (Nat × O)} {m : Nat} {o : O}, (l.foldr (fun x t => Tr.set t x.1 x.2) Tr.leaf).get m = some o → (m, o) ∈ l
  | [], m, o, h => by rw [show ([] : List (Nat × O)).foldr (fun x t => Tr.set t x.1 x.2) Tr.leaf = Tr.leaf from rfl, Tr.get_leaf] at h; cases h
  | x :: l, m, o, h => by
    have h : (Tr.set (l.foldr (fun x t => Tr.set t x.1 x.2) Tr.leaf) x.1 x.2).get m = some o := h
    rw [Tr.get_set] at h
    split at h
    · rename_i e
      cases h
      subst e
      exact List.mem_cons_self ..
    · exact List.mem_cons_of_mem _ (trOf_get h)
theorem hpOf_get {n : Nat} {l : List (Nat × O)} {m : Nat} {o : O} (h : (hpOf n l).get m = some o) : (m, o) ∈ l := by
  rw [Hp.get_eq] at h
  split at h
  · exact trOf_get h
  · cases h
theorem lies_le {h : Hp} {n : Nat} {l : List (Nat × O)} (hn : n = h.next) (hl : lies h l = true) : (hpOf n l).Le h := ⟨hn, fun m o hg => lies_get hl (m, o) (hpOf_get hg)⟩
noncomputable def Stage.ask (s : Stage) (f : Nat) (args : List V) (h : Hp) : Option (V × Hp) := bB (Nat.beq s.f f) (bB (Nat.beq s.n0 h.next) (bB (V.beqs s.args args) (bB (lies h s.h0) (some (s.v, hpOf s.n1 s.h1)))))
noncomputable def askS : List Stage → Nat → List V → Hp → Option (V × Hp)
  | [], _, _, _ => none
  | s :: l, f, args, h => orB (s.ask f args h) (fun r => some r) (askS l f args h)
/-- Calls, those of some stages at once. -/
noncomputable def callS (C : Cfg) (pl : Nat → Nat → Option Plan) (l : List Stage) (m : Nat) (d : Nat) : Call :=
  Nat.rec (motive := fun _ => Call) (fun _ _ _ => none) (fun _ call f args h => orB (askS l f args h) (fun r => some r) ((funcP C pl f).f call m args h)) d
/-- What a run must come to. -/
noncomputable def Stage.met (s : Stage) (r : Option (V × Hp)) : Bool := match r with
  | some (v, h) => V.beq v s.v && (Nat.beq s.n1 h.next && lies h s.h1)
  | none => false
/-- A stage is shown. -/
def Stage.Ok (C : Cfg) (s : Stage) : Prop := ∃ m d H1, callN C m d s.f s.args (hpOf s.n0 s.h0) = some (s.v, H1) ∧ (hpOf s.n1 s.h1).Le H1
theorem callN_h {C : Cfg} (hK : HK C) {m : Nat} : ∀ (d : Nat), (callN C m d).LeH (callN C m d)
  | 0 => fun _ _ _ _ h => (nomatch h)
  | d + 1 => fun f a h r hv H le => by
    have hv' : (funcC C f).f (callN C m d) m a h = some r := hv
    exact funcC_h (callN_h hK d) hK (Nat.le_refl m) le hv'
theorem ask_ok {C : Cfg} (hK : HK C) {s : Stage} (hs : s.Ok C) {f : Nat} {args : List V} {h : Hp} {r : V × Hp} (hv : s.ask f args h = some r) : ∃ m d, ∀ H, h.Le H → ∃ H', callN C m d f args H = some (r.1, H') ∧ r.2.Le H' := by
  obtain ⟨m, d, H1, h1, h2⟩ := hs
  simp only [Stage.ask, bB_eq] at hv
  obtain ⟨e1, e2, e3, e4, e5⟩ := hv
  cases e5
  obtain rfl := Nat.eq_of_beq_eq_true e1
  obtain rfl := V.eq_of_beqs _ _ e3
  refine ⟨m, d, fun H le => ?_⟩
  obtain ⟨H', g1, g2⟩ := callN_h hK d _ _ _ _ h1 H ((lies_le (Nat.eq_of_beq_eq_true e2) e4).trans le)
  exact ⟨H', g1, h2.trans g2⟩
theorem askS_ok {C : Cfg} (hK : HK C) : ∀ {l : List Stage}, (∀ s ∈ l, s.Ok C) → ∃ m0 d0, ∀ (f : Nat) (args : List V) (h : Hp) (r : V × Hp), askS l f args h = some r → ∀ m d, m0 ≤ m → d0 ≤ d → ∀ H, h.Le H → ∃ H', callN C m d f args H = some (r.1, H') ∧ r.2.Le H'
  | [], _ => ⟨0, 0, fun _ _ _ _ hv => by cases hv⟩
  | s :: l, hl => by
    obtain ⟨m1, d1, h1⟩ := askS_ok hK fun s hs => hl s (List.mem_cons_of_mem _ hs)
    have hs := hl s (List.mem_cons_self ..)
    obtain ⟨m2, d2, H1, h2, h3⟩ := id hs
    refine ⟨max m1 m2, max d1 d2, fun f args h r hv m d hm hd H le => ?_⟩
    unfold askS at hv
    cases hq : s.ask f args h with
    | none => rw [hq] at hv; exact h1 f args h r hv m d (by omega) (by omega) H le
    | some r' =>
      rw [hq] at hv
      obtain rfl : r' = r := by simpa [orB] using hv
      simp only [Stage.ask, bB_eq] at hq
      obtain ⟨e1, e2, e3, e4, e5⟩ := hq
      cases e5
      obtain rfl := Nat.eq_of_beq_eq_true e1
      obtain rfl := V.eq_of_beqs _ _ e3
      obtain ⟨H', g1, g2⟩ := callN_h hK d2 _ _ _ _ h2 H ((lies_le (Nat.eq_of_beq_eq_true e2) e4).trans le)
      exact ⟨H', callN_mono (by omega) (by omega) _ _ _ _ g1, h3.trans g2⟩
theorem callS_h {C : Cfg} (hK : HK C) {pl : Nat → Nat → Option Plan} (hok : PlansOk pl) {l : List Stage} (hl : ∀ s ∈ l, s.Ok C) (m : Nat) : ∃ m0 d0, ∀ d, (callS C pl l m d).LeH (callN C (max m m0) (d0 + d)) := by
  obtain ⟨m0, d0, ha⟩ := askS_ok hK hl
  refine ⟨m0, d0, fun d => ?_⟩
  induction d with
  | zero => exact fun _ _ _ _ h => (nomatch h)
  | succ d ih =>
    intro f args h r hv H le
    have hv : orB (askS l f args h) (fun r => some r) ((funcP C pl f).f (callS C pl l m d) m args h) = some r := hv
    cases hq : askS l f args h with
    | some r' =>
      rw [hq] at hv
      obtain rfl : r' = r := by simpa [orB] using hv
      exact ha f args h _ hq _ _ (by omega) (by omega) H le
    | none =>
      rw [hq] at hv
      have hv : (funcP C pl f).f (callS C pl l m d) m args h = some r := hv
      exact funcC_h ih hK (show m ≤ max m m0 by omega) le (funcP_le hok hv)
/-- A stage is shown by a run, for which others are known. -/
theorem Stage.ok {C : Cfg} (hK : HK C) {pl : Nat → Nat → Option Plan} (hok : PlansOk pl) {l : List Stage} (hl : ∀ s ∈ l, s.Ok C) {m d : Nat} {s : Stage} (hv : s.met (callS C pl l m d s.f s.args (hpOf s.n0 s.h0)) = true) : s.Ok C := by
  obtain ⟨m0, d0, hS⟩ := callS_h hK hok hl m
  unfold Stage.met at hv
  split at hv
  · rename_i v h he
    simp only [Bool.and_eq_true] at hv
    obtain ⟨h1, h2, h3⟩ := hv
    obtain ⟨H', g1, g2⟩ := hS d _ _ _ _ he _ (Hp.Le.refl _)
    exact ⟨max m m0, d0 + d, H', by rw [g1, V.eq_of_beq _ _ h1], (lies_le (Nat.eq_of_beq_eq_true h2) h3).trans g2⟩
  · cases hv
/-- The last run. -/
theorem true_of_stages {C : Cfg} (hK : HK C) {pl : Nat → Nat → Option Plan} (hok : PlansOk pl) {l : List Stage} (hl : ∀ s ∈ l, s.Ok C) {m d f n : Nat} (hv : isTrue (callS C pl l m d f [] { next := n, tr := .leaf }) = true) :
    ∃ m' d', isTrue (callN C m' d' f [] { next := n, tr := .leaf }) = true := by
  obtain ⟨m0, d0, hS⟩ := callS_h hK hok hl m
  cases hr : callS C pl l m d f [] { next := n, tr := .leaf } with
  | none => rw [hr] at hv; cases hv
  | some r =>
    obtain ⟨H', g1, _⟩ := hS d _ _ _ _ hr _ (Hp.Le.refl _)
    refine ⟨max m m0, d0 + d, ?_⟩
    rw [g1]
    rw [hr] at hv
    unfold isTrue at hv ⊢
    split at hv
    · rename_i e; cases e; rfl
    · cases hv
end Go.Proofs.YtgfdhkhcojjkjaaGreatDoor.Hx
