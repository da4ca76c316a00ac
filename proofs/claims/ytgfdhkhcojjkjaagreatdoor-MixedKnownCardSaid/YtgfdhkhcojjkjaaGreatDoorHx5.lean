/- Regions whose order is open, by plans: which order the plain machine takes is told ahead, and checked once. -/
import Derived.Test.YtgfdhkhcojjkjaaGreatDoorHx1
namespace Go.Proofs.YtgfdhkhcojjkjaaGreatDoor.Hx

/-- Of each item in its turn: its number, which ones stand ahead of it, how late it may be; of two free stores at the end: where their places are. -/
structure Plan where
  es : List (Nat × Nat × Nat)
  pr : Option (Nat × Nat)
/-- An operation that does not look into the heap: what it says it says of every heap. -/
noncomputable def hf (o : Oper) : Bool := match o.op with
  | .move x | .assign x | .nilCheck x | .fieldAddr _ x _ | .unOp _ _ x | .field _ x _ | .extract x _ => noG x
  | .convert s _ x => noG x && (match P0.underlying s with
    | some (.slice _) => false
    | _ => true)
  | .indexAddr _ x i => noG x && noG i
  | .binOp _ _ x y _ => noG x && noG y
  | .pick c a b => noG c && (noG a && noG b)
  | .build _ _ => true
  | .makeFunc (.func _) _ _ => true
  | _ => false
theorem hf_eq {o : Oper} (ho : hf o = true) (t : Tm) (h h' : Hp) : (pureC o).f t h = (pureC o).f t h' := by
  obtain ⟨dst, op, ty, pos, af, gd⟩ := o
  unfold hf at ho
  unfold pureC
  cases op <;> simp only [Bool.and_eq_true] at ho ⊢
  case move x => exact evO_free ho t h h'
  case assign x => exact evO_free ho t h h'
  case pick c a b =>
    unfold hpick
    simp only [evO_free ho.1 t h h', evO_free ho.2.1 t h h', evO_free ho.2.2 t h h']
  case nilCheck x => unfold hnilCheck; simp only [evO_free ho t h h']
  case binOp => simp only [evO_free ho.1 t h h', evO_free ho.2 t h h']
  case unOp => simp only [evO_free ho t h h']
  case convert src d x =>
    unfold hconv
    split
    · simp only [evO_free ho.1 t h h']
    · simp only [evO_free ho.1 t h h']
    · rename_i e hs _
      rw [hs] at ho
      cases ho.2
    · rfl
  case build =>
    unfold hbuild
    repeat' split
    all_goals rfl
  case makeFunc fn _ _ => cases fn <;> first | rfl | (simp at ho)
  case fieldAddr =>
    unfold hfieldAddr
    repeat' split
    all_goals first | rfl | simp only [evO_free ho t h h']
  case field =>
    unfold hfield
    repeat' split
    all_goals first | rfl | simp only [evO_free ho t h h']
  case indexAddr =>
    unfold hindexAddr
    repeat' split
    all_goals first | rfl | simp only [evO_free ho.1 t h h', evO_free ho.2 t h h']
  case extract => unfold hextract; simp only [evO_free ho t h h']
  all_goals simp at ho
/-- A move of one value: which. -/
def mvOf (o : Oper) : Option Nat := match o.op with
  | .move (.tmp i) | .assign (.tmp i) => some i
  | _ => none
theorem mvOf_eq {o : Oper} {i : Nat} (h : mvOf o = some i) (t : Tm) (hp : Hp) : (pureC o).f t hp = some (tget t i) := by
  unfold mvOf at h
  split at h
  · rename_i hop; cases h; unfold pureC; rw [hop]; rfl
  · rename_i hop; cases h; unfold pureC; rw [hop]; rfl
  · cases h
noncomputable def seqP (n : Nat) (all : List Oper) : List (Nat × Nat × Nat) → Nat → LF
  | [], k => ⟨fun _ t h rs => bB (stable k h rs) (some (t, h))⟩
  | x :: l, k => match all[x.1]? with
    | none => ⟨fun _ _ _ _ => none⟩
    | some o => match dstC n o with
      | none => ⟨fun _ _ _ _ => none⟩
      | some d => match cls o with
        | 0 => match hf o with
          | true => match wantC n all o, mvOf o with
            | none, some i => ⟨fun call t h rs => (seqP n all l k).f call (d.f t (tget t i)) h rs⟩
            | none, none => ⟨fun call t h rs => oB ((pureC o).f t h) fun v => (seqP n all l k).f call (d.f t v) h rs⟩
            | _, _ => ⟨fun call t h rs => oB (wants n all o t) fun b => Bool.rec (motive := fun _ => Option (Tm × Hp))
              ((seqP n all l k).f call (d.f t .undef) h rs)
              (oB ((pureC o).f t h) fun v => (seqP n all l k).f call (d.f t v) h rs) b⟩
          | false => ⟨fun call t h rs => oB (wants n all o t) fun b => Bool.rec (motive := fun _ => Option (Tm × Hp))
              ((seqP n all l k).f call (d.f t .undef) h rs)
              (oB ((pureC o).f t h) fun v => (seqP n all l k).f call (d.f t v) h ({ it := ⟨x.1, o, x.2.1⟩, t, v, made := none, last := x.2.2 } :: rs)) b⟩
        | 1 => ⟨fun call t h rs => oB (wants n all o t) fun b => Bool.rec (motive := fun _ => Option (Tm × Hp))
            ((seqP n all l k).f call (d.f t .undef) h rs)
            (oB ((allocC o).f t) fun r => (seqP n all l k).f call (d.f t (r.2 h.next)) (h.new r.1) ({ it := ⟨x.1, o, x.2.1⟩, t, v := r.2 h.next, made := some (h.next, r.1), last := x.2.2 } :: rs)) b⟩
        | _ => writeS n all k ⟨x.1, o, x.2.1⟩ d (seqP n all l (Nat.succ k))
noncomputable def drawP (n : Nat) (all : List Oper) (p : Plan) : SF := match p.pr with
  | none => ⟨fun call t h => (seqP n all p.es 0).f call t h []⟩
  | some q => ⟨fun call t h => oB ((seqP n all p.es 0).f call t h []) fun r => bB (apartV (tget r.1 q.1) (tget r.1 q.2)) (some r)⟩
def planEq : List (Nat × Nat × Nat) → List (Nat × Nat × Nat) → Bool
  | [], [] => true
  | x :: l, y :: m => Nat.beq x.1 y.1 && Nat.beq x.2.1 y.2.1 && Nat.beq x.2.2 y.2.2 && planEq l m
  | _, _ => false
theorem planEq_eq : ∀ {l m : List (Nat × Nat × Nat)}, planEq l m = true → l = m
  | [], [], _ => rfl
  | x :: l, y :: m, h => by
    simp only [planEq, Bool.and_eq_true] at h
    obtain ⟨⟨⟨h1, h2⟩, h3⟩, h4⟩ := h
    rw [planEq_eq h4, show x = y from Prod.ext (Nat.eq_of_beq_eq_true h1) (Prod.ext (Nat.eq_of_beq_eq_true h2) (Nat.eq_of_beq_eq_true h3))]
  | [], _ :: _, h => by cases h
  | _ :: _, [], h => by cases h
noncomputable def planOf (its : List It) : List (Nat × Nat × Nat) := (order its (wsOf its) (wsOf its) 0).map fun a => (a.i, a.b, late (wsOf its) a)
noncomputable def chkI (its : List It) (p : Plan) : Bool := planEq p.es (planOf its) && (orderOk its (wsOf its) (order its (wsOf its) (wsOf its) 0) 0 0 && (match p.pr with
  | none => drawOk its (wsOf its)
  | some q => !(drawOk its (wsOf its)) && (drawOk2 its && (match freePair its (wsOf its) with
    | some r => Nat.beq r.2.2.1 q.1 && Nat.beq r.2.2.2 q.2
    | none => false))))
noncomputable def chkP (all : List Oper) (p : Plan) : Bool := chkI (items all 0 []) p
/-- The records that are kept are enough. -/
def Enough (rs rs' : List Rec) : Prop := ∀ r ∈ rs', r ∈ rs ∨ ∀ h, holdsAt h r = true
theorem Enough.stable {rs rs' : List Rec} (he : Enough rs rs') {k : Nat} {h : Hp} (hs : Hx.stable k h rs = true) : Hx.stable k h rs' = true := by
  unfold Hx.stable at hs ⊢
  rw [List.all_eq_true] at hs ⊢
  intro r hr
  rcases he r hr with h1 | h1
  · exact hs r h1
  · rw [h1 h, Bool.or_true]
theorem Enough.cons {rs rs' : List Rec} (he : Enough rs rs') (r : Rec) : Enough (r :: rs) (r :: rs') := fun x hx => by
  cases hx with
  | head => exact .inl (.head _)
  | tail _ hx => exact (he x hx).imp (.tail _) id
theorem Enough.skip {rs rs' : List Rec} (he : Enough rs rs') {r : Rec} (hr : ∀ h, holdsAt h r = true) : Enough rs (r :: rs') := fun x hx => by
  cases hx with
  | head => exact .inr hr
  | tail _ hx => exact he x hx
theorem seqP_le {n : Nat} {all : List Oper} {ws : List It} {call : Call} : ∀ (l : List It) (k : Nat), (∀ a ∈ l, all[a.i]? = some a.o) → ∀ {t : Tm} {h : Hp} {rs rs' : List Rec} {r : Tm × Hp}, Enough rs rs' →
    (seqP n all (l.map fun a => (a.i, a.b, late ws a)) k).f call t h rs = some r → (seqC n all ws l k).f call t h rs' = some r
  | [], k, _, t, h, rs, rs', r, he, hv => by
    simp only [List.map_nil, seqP, bB_eq] at hv
    simp only [seqC, bB_eq]
    exact ⟨he.stable hv.1, hv.2⟩
  | a :: l, k, hin, t, h, rs, rs', r, he, hv => by
    have h1 := hin a (by simp)
    have ih := fun k {t h rs rs' r} => seqP_le (n := n) (all := all) (ws := ws) (call := call) l k (fun x hx => hin x (by simp [hx])) (t := t) (h := h) (rs := rs) (rs' := rs') (r := r)
    simp only [List.map_cons, seqP, h1] at hv
    simp only [seqC]
    cases hd : dstC n a.o with
    | none => rw [hd] at hv; cases hv
    | some d =>
      rw [hd] at hv
      simp only at hv ⊢
      rcases cls_cases a.o with hc | hc | hc
      · rw [hc] at hv
        simp only at hv
        simp only [hc, pureS, oB_eq]
        cases hh : hf a.o with
        | true =>
          rw [hh] at hv
          have put : ∀ {v : V}, (pureC a.o).f t h = some v → (seqP n all (l.map fun a => (a.i, a.b, late ws a)) k).f call (d.f t v) h rs = some r →
              (seqC n all ws l k).f call (d.f t v) h ({ it := a, t, v, made := none, last := late ws a } :: rs') = some r := fun {v} hp hv => ih k (he.skip fun h' => by
            unfold holdsAt
            simp only
            rw [hf_eq hh t h' h, hp]
            exact V.beq_self v) hv
          cases hwc : wantC n all a.o with
          | none =>
            have hw : wants n all a.o t = some true := by unfold wants; rw [hwc]
            refine ⟨true, hw, ?_⟩
            simp only [oB_eq]
            cases hm : mvOf a.o with
            | some i =>
              rw [hwc, hm] at hv
              exact ⟨_, mvOf_eq hm t h, put (mvOf_eq hm t h) hv⟩
            | none =>
              rw [hwc, hm] at hv
              simp only [oB_eq] at hv
              obtain ⟨v, hp, hv⟩ := hv
              exact ⟨v, hp, put hp hv⟩
          | some g =>
            rw [hwc] at hv
            simp only [oB_eq] at hv
            obtain ⟨b, hw, hv⟩ := hv
            refine ⟨b, hw, ?_⟩
            cases b with
            | false => exact ih k he hv
            | true =>
              simp only [oB_eq] at hv ⊢
              obtain ⟨v, hp, hv⟩ := hv
              exact ⟨v, hp, put hp hv⟩
        | false =>
          rw [hh] at hv
          simp only [oB_eq] at hv
          obtain ⟨b, hw, hv⟩ := hv
          refine ⟨b, hw, ?_⟩
          cases b with
          | false => exact ih k he hv
          | true =>
            simp only [oB_eq] at hv ⊢
            obtain ⟨v, hp, hv⟩ := hv
            exact ⟨v, hp, ih k (he.cons _) hv⟩
      · rw [hc] at hv
        simp only [oB_eq] at hv
        simp only [hc, allocS, oB_eq]
        obtain ⟨b, hw, hv⟩ := hv
        refine ⟨b, hw, ?_⟩
        cases b with
        | false => exact ih k he hv
        | true =>
          simp only [oB_eq] at hv ⊢
          obtain ⟨v, hp, hv⟩ := hv
          exact ⟨v, hp, ih k (he.cons _) hv⟩
      · rw [hc] at hv
        simp only [writeS, oB_eq, bB_eq] at hv
        simp only [hc, writeS, oB_eq, bB_eq]
        obtain ⟨hst, b, hw, hv⟩ := hv
        refine ⟨he.stable hst, b, hw, ?_⟩
        cases b with
        | false => exact ih _ he hv
        | true =>
          simp only [oB_eq, bB_eq] at hv ⊢
          obtain ⟨x, h2, h3, hv⟩ := hv
          exact ⟨x, h2, h3, ih _ he hv⟩
theorem drawP_le {n : Nat} {all : List Oper} {p : Plan} (h : chkP all p = true) {call : Call} {t : Tm} {hp : Hp} {r : Tm × Hp} (hv : (drawP n all p).f call t hp = some r) : (drawC n all).f call t hp = some r := by
  unfold chkP chkI at h
  simp only [Bool.and_eq_true] at h
  obtain ⟨h1, h2, h3⟩ := h
  have hsub : ∀ x ∈ order (items all 0 []) (wsOf (items all 0 [])) (wsOf (items all 0 [])) 0, all[x.i]? = some x.o := by
    intro x hx
    have hm : x ∈ items all 0 [] := order_its (fun y hy => by unfold wsOf at hy; exact (List.mem_filter.1 hy).1) _ _ (fun y hy => by unfold wsOf at hy; exact (List.mem_filter.1 hy).1) x hx
    obtain ⟨k, hk⟩ := List.mem_iff_getElem?.1 hm
    obtain ⟨e1, e2⟩ := items_get _ _ _ _ _ hk
    rw [e1, Nat.zero_add]; exact e2
  have he : ∀ {r}, (seqP n all p.es 0).f call t hp [] = some r → (seqC n all (wsOf (items all 0 [])) (order (items all 0 []) (wsOf (items all 0 [])) (wsOf (items all 0 [])) 0) 0).f call t hp [] = some r := by
    intro r hr
    rw [planEq_eq h1] at hr
    exact seqP_le _ _ hsub (fun x hx => by cases hx) hr
  unfold drawP at hv
  unfold drawC
  cases hpp : p.pr with
  | none =>
    rw [hpp] at h3 hv
    simp only at h3 hv
    simp only [h3, h2, Bool.and_self]
    exact he hv
  | some q =>
    rw [hpp] at h3 hv
    simp only [Bool.and_eq_true, Bool.not_eq_true'] at h3
    obtain ⟨h4, h5, h6⟩ := h3
    cases hf : freePair (items all 0 []) (wsOf (items all 0 [])) with
    | none => rw [hf] at h6; cases h6
    | some x =>
      rw [hf] at h6
      simp only [Bool.and_eq_true] at h6
      simp only [h4, h5, h2, Bool.false_and, Bool.and_self]
      simp only [oB_eq, bB_eq] at hv ⊢
      obtain ⟨y, g1, g2, g3⟩ := hv
      refine ⟨y, he g1, ?_, g3⟩
      rw [Nat.eq_of_beq_eq_true h6.1, Nat.eq_of_beq_eq_true h6.2]
      exact g2

/-! a region whose order is told, in fewer steps -/
noncomputable def regP (n : Nat) (all : List Oper) : List Oper → SF
  | [] => ⟨fun _ t h => some (t, h)⟩
  | o :: os => match Nat.beq (cls o) 0, dstC n o, wantC n all o, deferC o with
    | true, some d, none, none => match mvOf o with
      | some i => ⟨fun call t h => (regP n all os).f call (d.f t (tget t i)) h⟩
      | none => ⟨fun call t h => oB ((pureC o).f t h) fun v => (regP n all os).f call (d.f t v) h⟩
    | _, _, _, _ => stepC n all o (regP n all os)
theorem regP_eq {n : Nat} {all : List Oper} {call : Call} : ∀ (os : List Oper) (t : Tm) (h : Hp), (regP n all os).f call t h = (regionC n all os).f call t h
  | [], _, _ => rfl
  | o :: os, t, h => by
    have ih := fun t h => regP_eq (n := n) (all := all) (call := call) os t h
    have hst : (stepC n all o (regP n all os)).f call t h = (stepC n all o (regionC n all os)).f call t h := by
      unfold stepC
      cases dstC n o with
      | none => rfl
      | some d =>
        simp only
        cases wantC n all o with
        | none =>
          simp only
          cases deferC o with
          | none => simp only [ih]
          | some q => simp only [ih]
        | some g => simp only [ih]
    have e : regP n all (o :: os) = (match Nat.beq (cls o) 0, dstC n o, wantC n all o, deferC o with
      | true, some d, none, none => (match mvOf o with
        | some i => ⟨fun call t h => (regP n all os).f call (d.f t (tget t i)) h⟩
        | none => ⟨fun call t h => oB ((pureC o).f t h) fun v => (regP n all os).f call (d.f t v) h⟩)
      | _, _, _, _ => stepC n all o (regP n all os)) := rfl
    show _ = (stepC n all o (regionC n all os)).f call t h
    rw [← hst, e]
    clear hst ih e
    generalize regP n all os = R
    split
    · rename_i d hc hd hw hq
      unfold stepC
      simp only [hd, hw, hq]
      have hc0 : cls o = 0 := Nat.eq_of_beq_eq_true hc
      have hop : (opC o).f call t h = oB ((pureC o).f t h) fun v => some (v, h) := by
        unfold opC
        rw [hc0]
        rfl
      rw [hop]
      cases hm : mvOf o with
      | some i => rw [mvOf_eq hm t h]; rfl
      | none => simp only; cases (pureC o).f t h <;> rfl
    · rfl

/-! ### code by plans -/
noncomputable def codeP (pl : Nat → Option Plan) (n : Nat) : Code → CF
  | .skip => ⟨fun _ _ t h => some (.normal, t, h)⟩
  | .seq a b => ⟨fun call m t h => seqK ((codeP pl n a).f call m t h) fun t h => (codeP pl n b).f call m t h⟩
  | .cond c a b => ⟨fun call m t h => oB ((evO c).f t h) fun v => match v with
    | .bool x => Bool.rec (motive := fun _ => Option (X × Tm × Hp)) ((codeP pl n b).f call m t h) ((codeP pl n a).f call m t h) x
    | _ => none⟩
  | .block id c => ⟨fun call m t h => blockK id ((codeP pl n c).f call m t h)⟩
  | .loop c => ⟨fun call m t h => loopN (fun t h => (codeP pl n c).f call m t h) m t h⟩
  | .exit id => ⟨fun _ _ t h => some (.exit id, t, h)⟩
  | .ret => ⟨fun _ _ t h => some (.ret, t, h)⟩
  | .region _ ops false => ⟨fun call _ t h => oB ((regP n ops.toList ops.toList).f call t h) fun r => some (.normal, r.1, r.2)⟩
  | .region id ops true => match pl id with
    | some p => ⟨fun call _ t h => oB ((drawP n ops.toList p).f call t h) fun r => some (.normal, r.1, r.2)⟩
    | none => nocf
  | _ => nocf
noncomputable def regsOk (pl : Nat → Option Plan) : Code → Bool
  | .seq a b => regsOk pl a && regsOk pl b
  | .cond _ a b => regsOk pl a && regsOk pl b
  | .block _ c => regsOk pl c
  | .loop c => regsOk pl c
  | .region id ops true => match pl id with
    | some p => chkP ops.toList p
    | none => true
  | _ => true
theorem regsOk_none : ∀ (c : Code), regsOk (fun _ => none) c = true
  | .seq a b => by simp [regsOk, regsOk_none a, regsOk_none b]
  | .cond _ a b => by simp [regsOk, regsOk_none a, regsOk_none b]
  | .block _ c => by simp [regsOk, regsOk_none c]
  | .loop c => by simp [regsOk, regsOk_none c]
  | .region _ _ true => rfl
  | .region _ _ false => rfl
  | .skip => rfl
  | .exit _ => rfl
  | .ret => rfl
  | .rangeFunc .. => rfl
  | .scope _ => rfl
  | .label _ => rfl
  | .goto _ => rfl
  | .refuse _ => rfl
theorem codeP_le {pl : Nat → Option Plan} {n : Nat} {call : Call} {m : Nat} : ∀ (c : Code), regsOk pl c = true → ∀ {t : Tm} {h : Hp} {r : X × Tm × Hp}, (codeP pl n c).f call m t h = some r → (codeC n c).f call m t h = some r
  | .skip, _, _, _, _, hv => hv
  | .seq x y, hk, t, h, r, hv => by
    simp only [regsOk, Bool.and_eq_true] at hk
    simp only [codeP] at hv
    simp only [codeC]
    rcases seqK_eq hv with ⟨t1, h1, e1, e2⟩ | ⟨e1, e2⟩
    · rw [codeP_le x hk.1 e1]; exact codeP_le y hk.2 e2
    · rw [codeP_le x hk.1 e1]
      obtain ⟨x', t', h'⟩ := r
      cases x' with
      | normal => exact absurd rfl e2
      | exit id => rfl
      | ret => rfl
  | .cond e x y, hk, t, h, r, hv => by
    simp only [regsOk, Bool.and_eq_true] at hk
    simp only [codeP, oB_eq] at hv
    simp only [codeC, oB_eq]
    obtain ⟨v, h1, h2⟩ := hv
    refine ⟨v, h1, ?_⟩
    split
    · rename_i b
      cases b with
      | true => exact codeP_le x hk.1 h2
      | false => exact codeP_le y hk.2 h2
    · rename_i hne
      split at h2
      · rename_i b; exact absurd rfl (hne b)
      · exact h2
  | .block id x, hk, t, h, r, hv => by
    simp only [regsOk] at hk
    simp only [codeP] at hv
    simp only [codeC]
    cases hr : (codeP pl n x).f call m t h with
    | none => rw [hr] at hv; cases hv
    | some r' => rw [hr] at hv; rw [codeP_le x hk hr]; exact hv
  | .loop x, hk, t, h, r, hv => by
    simp only [regsOk] at hk
    simp only [codeP] at hv
    simp only [codeC]
    have key : ∀ (k : Nat) (t : Tm) (h : Hp), loopN (fun t h => (codeP pl n x).f call m t h) k t h = some r → loopN (fun t h => (codeC n x).f call m t h) k t h = some r := by
      intro k
      induction k with
      | zero => intro t h hv; cases hv
      | succ k ih =>
        intro t h hv
        have hv' : seqK ((codeP pl n x).f call m t h) (loopN (fun t h => (codeP pl n x).f call m t h) k) = some r := hv
        show seqK ((codeC n x).f call m t h) (loopN (fun t h => (codeC n x).f call m t h) k) = some r
        rcases seqK_eq hv' with ⟨t1, h1, e1, e2⟩ | ⟨e1, e2⟩
        · rw [codeP_le x hk e1]; exact ih t1 h1 e2
        · rw [codeP_le x hk e1]
          obtain ⟨x', t', h'⟩ := r
          cases x' with
          | normal => exact absurd rfl e2
          | exit id => rfl
          | ret => rfl
    exact key m t h hv
  | .exit id, _, _, _, _, hv => hv
  | .ret, _, _, _, _, hv => hv
  | .region id ops false, _, t, h, r, hv => by
    simp only [codeP, regP_eq] at hv
    exact hv
  | .region id ops true, hk, t, h, r, hv => by
    simp only [regsOk] at hk
    simp only [codeP] at hv
    cases hp : pl id with
    | none => rw [hp] at hv; cases hv
    | some p =>
      rw [hp] at hk hv
      simp only at hk hv
      simp only [oB_eq] at hv
      simp only [codeC, oB_eq]
      obtain ⟨x, h1, h2⟩ := hv
      exact ⟨x, drawP_le hk h1, h2⟩
  | .rangeFunc .., _, _, _, _, hv => by cases hv
  | .scope _, _, _, _, _, hv => by cases hv
  | .label _, _, _, _, _, hv => by cases hv
  | .goto _, _, _, _, _, hv => by cases hv
  | .refuse _, _, _, _, _, hv => by cases hv
noncomputable def dfuncP (C : Cfg) (pl : Nat → Nat → Option Plan) (f : Nat) : FF := match P0.funcs[f]? with
  | some fn => match fn.body with
    | some c => match recOf c with
      | some (d, rest) => ⟨fun call m args h => bB (Nat.ble args.length fn.ntmps) (bB (Nat.blt d fn.ntmps) (oB ((codeP (pl f) fn.ntmps rest).f call m ((C.start args).set d .nilIface) h) fun r => dendC fn r))⟩
      | none => ⟨fun call m args h => bB (Nat.ble args.length fn.ntmps) (oB ((codeP (pl f) fn.ntmps c).f call m (C.start args) h) fun r => dendC fn r)⟩
    | none => ⟨fun _ _ _ _ => none⟩
  | none => ⟨fun _ _ _ _ => none⟩
noncomputable def runP (C : Cfg) (pl : Nat → Nat → Option Plan) (call : Call) (m : Nat) : List (Nat × List V) → Hp → Option Hp
  | [], h => some h
  | x :: l, h => oB ((dfuncP C pl x.1).f call m x.2 h) fun r => runP C pl call m l r.2
noncomputable def funcP (C : Cfg) (pl : Nat → Nat → Option Plan) (f : Nat) : FF := match P0.funcs[f]? with
  | some fn => match fn.body with
    | some c => ⟨fun call m args h => orB (C.R f) (fun g => g args h) <| orB (C.K f args h) (fun v => bB (flats args && v.flat) (some (v, h))) (bB (Nat.ble args.length fn.ntmps) (oB ((codeP (pl f) fn.ntmps c).f call m (C.start args) h) fun r => match r.1 with
      | .exit _ => none
      | _ => oB (runP C pl call m r.2.1.ds r.2.2) fun h => oB (resVs r.2.1 h fn.results.toList) fun vs => some (tupleOf vs, h)))⟩
    | none => ⟨fun _ _ args h => oB (extF (C.ext f) args) fun v => some (v, h)⟩
  | none => ⟨fun _ _ _ _ => none⟩
noncomputable def callP (C : Cfg) (pl : Nat → Nat → Option Plan) (m : Nat) (d : Nat) : Call :=
  Nat.rec (motive := fun _ => Call) (fun _ _ _ => none) (fun _ call f args h => (funcP C pl f).f call m args h) d
/-- All plans are right. -/
def PlansOk (pl : Nat → Nat → Option Plan) : Prop := ∀ (f : Nat) (fn : Func) (c : Code), P0.funcs[f]? = some fn → fn.body = some c → regsOk (pl f) c = true
section
variable {C : Cfg} {pl : Nat → Nat → Option Plan} (hok : PlansOk pl)
include hok
theorem dfuncP_le {call : Call} {m f : Nat} {args : List V} {h : Hp} {r : V × Hp} (hv : (dfuncP C pl f).f call m args h = some r) : (dfuncC C f).f call m args h = some r := by
  unfold dfuncP at hv
  unfold dfuncC
  cases hf : P0.funcs[f]? with
  | none => rw [hf] at hv; cases hv
  | some fn =>
    rw [hf] at hv
    simp only at hv ⊢
    cases hb : fn.body with
    | none => rw [hb] at hv; cases hv
    | some k =>
      have hk := hok f fn k hf hb
      rw [hb] at hv
      simp only at hv ⊢
      cases hr : recOf k with
      | none =>
        rw [hr] at hv
        simp only [bB_eq, oB_eq] at hv ⊢
        obtain ⟨h0, x, h1, h2⟩ := hv
        exact ⟨h0, x, codeP_le k hk h1, h2⟩
      | some y =>
        rw [hr] at hv
        simp only [bB_eq, oB_eq] at hv ⊢
        obtain ⟨h0, h3, x, h1, h2⟩ := hv
        obtain ⟨id, o, cl, hke, _⟩ := rec_split (d := y.1) (rest := y.2) hr
        rw [hke] at hk
        simp only [regsOk, Bool.and_eq_true] at hk
        exact ⟨h0, h3, x, codeP_le y.2 hk.2 h1, h2⟩
theorem runP_le {call : Call} {m : Nat} : ∀ (l : List (Nat × List V)) {h h' : Hp}, runP C pl call m l h = some h' → runD C call m l h = some h'
  | [], _, _, hv => hv
  | x :: l, _, _, hv => by
    simp only [runP, oB_eq] at hv
    simp only [runD, oB_eq]
    obtain ⟨r, h1, h2⟩ := hv
    exact ⟨r, dfuncP_le hok h1, runP_le l h2⟩
theorem funcP_le {call : Call} {m f : Nat} {args : List V} {h : Hp} {r : V × Hp} (hv : (funcP C pl f).f call m args h = some r) : (funcC C f).f call m args h = some r := by
  unfold funcP at hv
  unfold funcC
  cases hf : P0.funcs[f]? with
  | none => rw [hf] at hv; cases hv
  | some fn =>
    rw [hf] at hv
    simp only at hv ⊢
    cases hb : fn.body with
    | none => rw [hb] at hv; exact hv
    | some k =>
      have hkk := hok f fn k hf hb
      rw [hb] at hv
      simp only at hv ⊢
      cases hR : C.R f with
      | some u => rw [hR] at hv; exact hv
      | none =>
      rw [hR] at hv
      simp only [orB] at hv ⊢
      cases hk : C.K f args h with
      | some u => rw [hk] at hv; exact hv
      | none =>
        rw [hk] at hv
        simp only [bB_eq, oB_eq] at hv ⊢
        obtain ⟨h0, x, h1, h2⟩ := hv
        refine ⟨h0, x, codeP_le k hkk h1, ?_⟩
        obtain ⟨e, t, hp⟩ := x
        cases e with
        | exit id => exact h2
        | normal =>
          simp only [oB_eq] at h2 ⊢
          obtain ⟨y, h3, h4⟩ := h2
          exact ⟨y, runP_le hok _ h3, h4⟩
        | ret =>
          simp only [oB_eq] at h2 ⊢
          obtain ⟨y, h3, h4⟩ := h2
          exact ⟨y, runP_le hok _ h3, h4⟩
theorem callP_le {m : Nat} : ∀ (d : Nat), (callP C pl m d).Le (callN C m d)
  | 0 => fun _ _ _ _ h => (nomatch h)
  | d + 1 => fun f a hp r hv => by
    have hv' : (funcP C pl f).f (callP C pl m d) m a hp = some r := hv
    show (funcC C f).f (callN C m d) m a hp = some r
    exact funcC_mono (callP_le d) (Nat.le_refl m) (funcP_le hok hv')
theorem isV_le {m d f : Nat} {args : List V} {h : Hp} {v : V} (hv : isV v (callP C pl m d f args h) = true) : isV v (callN C m d f args h) = true := by
  cases hr : callP C pl m d f args h with
  | none => rw [hr] at hv; cases hv
  | some r => rw [callP_le hok d _ _ _ _ hr]; rw [hr] at hv; exact hv
theorem isTrue_le {m d f : Nat} {args : List V} {h : Hp} (hv : isTrue (callP C pl m d f args h) = true) : isTrue (callN C m d f args h) = true := by
  cases hr : callP C pl m d f args h with
  | none => rw [hr] at hv; cases hv
  | some r => rw [callP_le hok d _ _ _ _ hr]; rw [hr] at hv; exact hv
end

/-! ### tables of plans -/
abbrev Plans := List (Nat × List (Nat × Plan))
def lookI : List (Nat × Plan) → Nat → Option Plan
  | [], _ => none
  | x :: l, i => match Nat.beq x.1 i with
    | true => some x.2
    | false => lookI l i
def lookF : Plans → Nat → Nat → Option Plan
  | [], _ => fun _ => none
  | x :: l, f => match Nat.beq x.1 f with
    | true => lookI x.2
    | false => lookF l f
noncomputable def chkF (x : Nat × List (Nat × Plan)) : Bool := match P0.funcs[x.1]? with
  | some fn => match fn.body with
    | some c => regsOk (lookI x.2) c
    | none => true
  | none => true
theorem plansOk_of {l : Plans} (h : ∀ x ∈ l, chkF x = true) : PlansOk (lookF l) := by
  intro f fn c hf hb
  induction l with
  | nil => exact regsOk_none c
  | cons x l ih =>
    unfold lookF
    cases hx : Nat.beq x.1 f with
    | true =>
      simp only
      have := h x (.head _)
      unfold chkF at this
      rw [Nat.eq_of_beq_eq_true hx, hf] at this
      simp only [hb] at this
      exact this
    | false =>
      simp only
      exact ih fun y hy => h y (.tail _ hy)
theorem plansOk_append {l m : Plans} (h1 : (l.all chkF) = true) (h2 : ∀ x ∈ m, chkF x = true) : ∀ x ∈ l ++ m, chkF x = true := by
  intro x hx
  rcases List.mem_append.1 hx with hx | hx
  · exact List.all_eq_true.1 h1 x hx
  · exact h2 x hx
end Go.Proofs.YtgfdhkhcojjkjaaGreatDoor.Hx
