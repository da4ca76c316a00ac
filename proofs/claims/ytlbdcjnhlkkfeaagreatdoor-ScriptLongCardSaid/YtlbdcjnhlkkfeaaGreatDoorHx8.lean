/- What is left of a function's code, opened through in one piece: loops, and places where ways meet, are told by the values that live there. -/
import Derived.Test.YtlbdcjnhlkkfeaaGreatDoorHx7
namespace Go.Proofs.YtlbdcjnhlkkfeaaGreatDoor.Hx
abbrev XQ := X → Rho → Hp → Prop
abbrev QP1 := V → Hp → Prop
abbrev QP2 := V → V → Hp → Prop
abbrev QP3 := V → V → V → Hp → Prop
abbrev QP4 := V → V → V → V → Hp → Prop
abbrev QP5 := V → V → V → V → V → Hp → Prop
abbrev QP6 := V → V → V → V → V → V → Hp → Prop
abbrev QP7 := V → V → V → V → V → V → V → Hp → Prop
abbrev QP8 := V → V → V → V → V → V → V → V → Hp → Prop
abbrev QP9 := V → V → V → V → V → V → V → V → V → Hp → Prop
abbrev QP10 := V → V → V → V → V → V → V → V → V → V → Hp → Prop
abbrev QP11 := V → V → V → V → V → V → V → V → V → V → V → Hp → Prop
abbrev QP12 := V → V → V → V → V → V → V → V → V → V → V → V → Hp → Prop
abbrev QP13 := V → V → V → V → V → V → V → V → V → V → V → V → V → Hp → Prop
abbrev QP14 := V → V → V → V → V → V → V → V → V → V → V → V → V → V → Hp → Prop
abbrev QP15 := V → V → V → V → V → V → V → V → V → V → V → V → V → V → V → Hp → Prop
abbrev QP16 := V → V → V → V → V → V → V → V → V → V → V → V → V → V → V → V → Hp → Prop
abbrev QP17 := V → V → V → V → V → V → V → V → V → V → V → V → V → V → V → V → V → Hp → Prop
abbrev QP18 := V → V → V → V → V → V → V → V → V → V → V → V → V → V → V → V → V → V → Hp → Prop
abbrev QP19 := V → V → V → V → V → V → V → V → V → V → V → V → V → V → V → V → V → V → V → Hp → Prop
abbrev QP20 := V → V → V → V → V → V → V → V → V → V → V → V → V → V → V → V → V → V → V → V → Hp → Prop
/-- An operation whose value is at hand. -/
def isVal (o : Oper) : Bool := match o.op with
  | .move x | .assign x => noG x
  | .makeFunc _ _ _ => true
  | .makeInterface _ x => noG x
  | _ => false
theorem isVal_cls {o : Oper} (h : isVal o = true) : cls o = 0 := by
  grind[isVal,cls]
def opV (C : Cfg) (o : Oper) (K : V → Rho → Hp → Prop) : Rho → Hp → Prop := match isVal o with
  | true => fun ρ h => Option.rec (motive := fun _ => Prop) False (fun v => K v ρ h) ((pureC o).f (.fn ρ []) h)
  | false => opR C o K
theorem opV_eq (C : Cfg) (o : Oper) (K : V → Rho → Hp → Prop) : opV C o K = opR C o K := by
  unfold opV
  cases hv : isVal o with
  | false => rfl
  | true =>
    unfold opR
    rw [isVal_cls hv]
    rfl
def stepV (C : Cfg) (n : Nat) (all : List Oper) (o : Oper) (K : Rho → Hp → Prop) : Rho → Hp → Prop := match deferC o with
  | some _ => fun _ _ => False
  | none => match wantC n all o with
    | none => opV C o (dstR n o K)
    | some g => fun ρ h => oP (g.f (.fn ρ [])) fun b => gdR C o b (dstR n o K) ρ h
/-! ### what is asked only if -/
noncomputable section
inductive Gs where
  | last (o : Oper) (d : Nat)
  | op (o : Oper) (d : Nat) (rest : Gs)
  | nest (w : Bool) (d : Nat) (sub : Gs) (o : Oper) (dp : Nat) (rest : Gs)
  | nestLast (w : Bool) (d : Nat) (sub : Gs) (o : Oper) (dp : Nat)
def Gs.dst : Gs → Nat
  | .last _ d => d
  | .op _ _ r => r.dst
  | .nest _ _ _ _ _ r => r.dst
  | .nestLast _ _ _ _ dp => dp
def Gs.ops : Gs → List Oper
  | .last o _ => [o]
  | .op o _ r => o :: r.ops
  | .nest _ _ s o _ r => s.ops ++ o :: r.ops
  | .nestLast _ _ s o _ => s.ops ++ [o]
def gA (w : Bool) (c : V) (x : Option V) : Option V := match w with
  | true => pAnd c x
  | false => pOr c x
def totV (b : Bool) (x : Option V) : V := Bool.rec (motive := fun _ => V) V.undef (Option.rec (motive := fun _ => V) V.undef (fun v => v) x) b
def gdT (w : Bool) (v : V) : Bool := Option.rec (motive := fun _ => Bool) false (fun b => b) (pGd w v)
/-- The values behind a chain, told wholly. -/
noncomputable def finG (g : Gs) : Bool → Rho → Hp → Rho := Gs.rec (motive := fun _ => Bool → Rho → Hp → Rho)
  (fun o d b ρ h => rset ρ d (totV b ((pureC o).f (.fn ρ []) h)))
  (fun o d _ ih b ρ h => ih b (rset ρ d (totV b ((pureC o).f (.fn ρ []) h))) h)
  (fun w d _ o dp _ ihs ih b ρ h => ih b (rset (ihs (gdT w (ρ d)) ρ h) dp (totV b ((pureC o).f (.fn (ihs (gdT w (ρ d)) ρ h) []) h))) h)
  (fun w d _ o dp ihs b ρ h => rset (ihs (gdT w (ρ d)) ρ h) dp (totV b ((pureC o).f (.fn (ihs (gdT w (ρ d)) ρ h) []) h))) g
/-- A chain's value. -/
noncomputable def gE (g : Gs) : Rho → Hp → Option V := Gs.rec (motive := fun _ => Rho → Hp → Option V)
  (fun o _ ρ h => (pureC o).f (.fn ρ []) h)
  (fun o d _ ih ρ h => oB ((pureC o).f (.fn ρ []) h) fun v => ih (rset ρ d v) h)
  (fun w d sub _ dp _ ihs ih ρ h => oB (gA w (ρ d) (ihs ρ h)) fun v => ih (rset (finG sub (gdT w (ρ d)) ρ h) dp v) h)
  (fun w d _ _ _ ihs ρ h => gA w (ρ d) (ihs ρ h)) g
def isTmp (x : Operand) (d : Nat) : Bool := match x with
  | .tmp i => Nat.beq i d
  | _ => false
def isCB (x : Operand) (b : Bool) : Bool := match x with
  | .const v => match ofVal 8 v with
    | some (.bool c) => c == b
    | _ => false
  | _ => false
def pkOk (o : Oper) (w : Bool) (d x : Nat) : Bool := match o.op with
  | .pick c a b => isTmp c d && (match w with
    | true => isTmp a x && isCB b false
    | false => isTmp b x && isCB a true)
  | _ => false
def dOk (n : Nat) (o : Oper) (d : Nat) : Bool := match o.dst with
  | some d' => Nat.beq d' d && Nat.blt d n
  | none => false
def gdOk (n : Nat) (all : List Oper) (o : Oper) (w : Bool) (d : Nat) : Bool := match o.guard with
  | some (j, w') => (w' == w) && (match all[j]? with
    | some oj => dOk n oj d
    | none => false)
  | none => false
def opOk (n : Nat) (all : List Oper) (av : List Nat) (w : Bool) (d : Nat) (o : Oper) (d' : Nat) : Bool := Nat.beq (cls o) 0 && gdOk n all o w d && dOk n o d' && av.all (fun i => !(Nat.beq i d'))
def chk (n : Nat) (all : List Oper) : List Nat → Bool → Nat → List Nat → Gs → Bool
  | av, w, d, _, .last o d' => opOk n all av w d o d'
  | av, w, d, ins, .op o d' r => opOk n all av w d o d' && chk n all av w d (d' :: ins) r
  | av, w, d, ins, .nest w' d' s o dp r => ins.any (fun i => Nat.beq i d') && chk n all (d' :: av) w' d' [] s && opOk n all av w d o dp && pkOk o w' d' s.dst && chk n all av w d (dp :: ins) r
  | av, w, d, ins, .nestLast w' d' s o dp => ins.any (fun i => Nat.beq i d') && chk n all (d' :: av) w' d' [] s && opOk n all av w d o dp && pkOk o w' d' s.dst
/-- Operations carried out one behind the other, the heap left alone. -/
def Ch (n : Nat) (all : List Oper) (h : Hp) : List Oper → Rho → Rho → Prop
  | [], ρ, ρ' => ρ' = ρ
  | o :: os, ρ, ρ' => cls o = 0 ∧ ∃ d v, o.dst = some d ∧ Nat.blt d n = true ∧ ((wantC n all o = none ∧ (pureC o).f (.fn ρ []) h = some v) ∨
      ∃ g b, wantC n all o = some g ∧ g.f (.fn ρ []) = some b ∧ gV b ((pureC o).f (.fn ρ []) h) = some v) ∧ Ch n all h os (rset ρ d v) ρ'
theorem Ch.app {n : Nat} {all : List Oper} {h : Hp} : ∀ {os os' : List Oper} {ρ ρ1 ρ2 : Rho}, Ch n all h os ρ ρ1 → Ch n all h os' ρ1 ρ2 → Ch n all h (os ++ os') ρ ρ2
  | [], _, _, _, _, h1, h2 => by cases h1; exact h2
  | _ :: _, _, _, _, _, ⟨hc, d, v, h1, h2, h3, h4⟩, h5 => ⟨hc, d, v, h1, h2, h3, h4.app h5⟩
theorem rset_at (ρ : Rho) (d : Nat) (v : V) : rset ρ d v d = v := rset_self ρ d v
theorem wantC_of {n : Nat} {all : List Oper} {o : Oper} {w : Bool} {d : Nat} (hg : gdOk n all o w d = true) : ∃ g, wantC n all o = some g ∧ ∀ ρ : Rho, g.f (.fn ρ []) = pGd w (ρ d) := by
  unfold gdOk at hg
  split at hg
  · rename_i j w' hgd
    simp only [Bool.and_eq_true, beq_iff_eq] at hg
    obtain ⟨hw, hg⟩ := hg
    subst hw
    split at hg
    · rename_i oj hj
      unfold dOk at hg
      split at hg
      · rename_i d' hd
        simp only [Bool.and_eq_true] at hg
        obtain ⟨e1, e2⟩ := hg
        have e1 := Nat.eq_of_beq_eq_true e1
        subst e1
        refine ⟨_, by simp only [wantC, hgd, hj, hd, e2]; rfl, fun ρ => rfl⟩
      simp_all
    simp_all
  simp_all
theorem opOk_of {n : Nat} {all : List Oper} {av : List Nat} {w : Bool} {d : Nat} {o : Oper} {d' : Nat} (hk : opOk n all av w d o d' = true) :
    cls o = 0 ∧ (∃ g, wantC n all o = some g ∧ ∀ ρ : Rho, g.f (.fn ρ []) = pGd w (ρ d)) ∧ o.dst = some d' ∧ Nat.blt d' n = true ∧ ∀ i ∈ av, i ≠ d' := by
  unfold opOk at hk
  simp only [Bool.and_eq_true] at hk
  obtain ⟨⟨⟨h1, h2⟩, h3⟩, h4⟩ := hk
  refine ⟨Nat.eq_of_beq_eq_true h1, wantC_of h2, ?_⟩
  unfold dOk at h3
  split at h3
  · rename_i d'' hd
    simp only [Bool.and_eq_true] at h3
    grind[Nat.eq_of_beq_eq_true,List.all_eq_true,Nat.beq_refl,absurd]
  simp_all
theorem isTmp_of {x : Operand} {d : Nat} (h : isTmp x d = true) : x = .tmp d := by
  unfold isTmp at h
  grind[Nat.eq_of_beq_eq_true,absurd]
theorem isCB_of {x : Operand} {b : Bool} (hx : isCB x b = true) (t : Tm) (h : Hp) : (evO x).f t h = some (.bool b) := by
  unfold isCB at hx
  split at hx
  · rename_i v
    split at hx
    · rename_i c hc
      have e : c = b := by simpa using hx
      subst e
      show (evN (.const v)).f t = _
      grind[evN]
    simp_all
  simp_all
/-- What a pick at a chain's end comes to. -/
theorem pkOk_of {o : Oper} {w : Bool} {d x : Nat} (hp : pkOk o w d x = true) {ρ : Rho} {h : Hp} {c : Bool} (hc : ρ d = .bool c) : (pureC o).f (.fn ρ []) h = some (match w, c with
    | true, true => ρ x
    | true, false => .bool false
    | false, false => ρ x
    | false, true => .bool true) ∧ cls o = 0 := by
  unfold pkOk at hp
  split at hp
  · rename_i c' a b hop
    simp only [Bool.and_eq_true] at hp
    obtain ⟨h1, h2⟩ := hp
    have e1 := isTmp_of h1
    subst e1
    refine ⟨?_, by grind[cls]⟩
    have e0 : (evO (.tmp d)).f (.fn ρ []) h = some (.bool c) := by show some (ρ d) = _; rw [hc]
    unfold pureC
    rw [hop]
    simp only [hpick, e0, oB]
    cases w with
    | true =>
      simp only [Bool.and_eq_true] at h2
      have e2 := isTmp_of h2.1
      subst e2
      cases c with
      | true => rfl
      | false => grind[isCB_of]
    | false =>
      simp only [Bool.and_eq_true] at h2
      have e2 := isTmp_of h2.1
      subst e2
      cases c with
      | true => grind[isCB_of]
      | false => rfl
  simp_all
theorem gA_some {w : Bool} {c : V} {x : Option V} {v : V} (hg : gA w c x = some v) : ∃ b, c = .bool b ∧ pGd w c = some (b == w) ∧ ((b = w ∧ x = some v) ∨ (b ≠ w ∧ v = .bool (!w))) := by
  unfold gA at hg
  cases w with
  | true =>
    simp only [pAnd] at hg
    split at hg
    · cases hg; simp_all
    · simp_all
    · cases hg
  | false =>
    simp only [pOr] at hg
    split at hg
    · cases hg; simp_all
    · simp_all
    · cases hg
theorem rset_ne' (ρ : Rho) {d i : Nat} (v : V) (h : i ≠ d) : rset ρ d v i = ρ i := rset_ne ρ v h
/-- One operation of a chain. -/
theorem Ch.one {n : Nat} {all : List Oper} {av : List Nat} {w : Bool} {d : Nat} {o : Oper} {d' : Nat} (hk : opOk n all av w d o d' = true) {ρ : Rho} {h : Hp} {b : Bool} (hb : pGd w (ρ d) = some b) {v : V}
    (hv : gV b ((pureC o).f (.fn ρ []) h) = some v) : Ch n all h [o] ρ (rset ρ d' v) := by
  obtain ⟨h1, ⟨g, h2, h3⟩, h4, h5, h6⟩ := opOk_of hk
  exact ⟨h1, d', v, h4, h5, by grind, rfl⟩
theorem totV_of {b : Bool} {x : Option V} {v : V} (h : gV b x = some v) : totV b x = v := by
  cases b with
  | true => have h' : x = some v := h; subst h'; rfl
  | false => cases h; rfl
/-- What holds behind a chain. -/
def ChD (n : Nat) (all : List Oper) (av : List Nat) (os : List Oper) (b : Bool) (ρ ρ' : Rho) (h : Hp) (d : Nat) (x : V) : Prop :=
  Ch n all h os ρ ρ' ∧ ρ' d = x ∧ (∀ i ∈ av, ρ' i = ρ i) ∧ (b = false → ∀ i, ρ i = .undef → ρ' i = .undef)
theorem ChD.one {n : Nat} {all : List Oper} {av : List Nat} {w : Bool} {d : Nat} {o : Oper} {d' : Nat} (hk : opOk n all av w d o d' = true) {ρ : Rho} {h : Hp} {b : Bool} (hb : pGd w (ρ d) = some b) {v : V}
    (hv : gV b ((pureC o).f (.fn ρ []) h) = some v) : ChD n all av [o] b ρ (rset ρ d' v) h d' v := by
  obtain ⟨_, _, _, _, h6⟩ := opOk_of hk
  refine ⟨Ch.one hk hb hv, rset_at _ _ _, by grind[rset_ne'], fun e i hi => ?_⟩
  subst e
  cases hv
  grind[rset_at,rset_ne']
theorem ChD.trans {n : Nat} {all : List Oper} {av : List Nat} {os os' : List Oper} {b : Bool} {ρ ρ1 ρ2 : Rho} {h : Hp} {d d' : Nat} {x x' : V} (h1 : ChD n all av os b ρ ρ1 h d x) (h2 : ChD n all av os' b ρ1 ρ2 h d' x') : ChD n all av (os ++ os') b ρ ρ2 h d' x' :=
  ⟨h1.1.app h2.1, h2.2.1, fun i hi => (h2.2.2.1 i hi).trans (h1.2.2.1 i hi), fun e i hi => h2.2.2.2 e i (h1.2.2.2 e i hi)⟩
theorem undef_gd (w : Bool) : pGd w .undef = some false := rfl
theorem chainV_ok {n : Nat} {all : List Oper} : ∀ (g : Gs) {av : List Nat} {w : Bool} {d : Nat} {ins : List Nat}, chk n all av w d ins g = true → d ∈ av → ∀ {ρ : Rho} {h : Hp} {b : Bool}, pGd w (ρ d) = some b →
    (b = false → ∀ i ∈ ins, ρ i = .undef) → ∀ {x : V}, gV b (gE g ρ h) = some x → ChD n all av g.ops b ρ (finG g b ρ h) h g.dst x := by
  -- a nest: what goes on inside, and the pick behind it
  have nest : ∀ (s : Gs), (∀ {av : List Nat} {w : Bool} {d : Nat} {ins : List Nat}, chk n all av w d ins s = true → d ∈ av → ∀ {ρ : Rho} {h : Hp} {b : Bool}, pGd w (ρ d) = some b →
        (b = false → ∀ i ∈ ins, ρ i = .undef) → ∀ {x : V}, gV b (gE s ρ h) = some x → ChD n all av s.ops b ρ (finG s b ρ h) h s.dst x) →
      ∀ {av : List Nat} {w w' : Bool} {d d' dp : Nat} {ins : List Nat} {o : Oper}, ins.any (fun i => Nat.beq i d') = true → chk n all (d' :: av) w' d' [] s = true → opOk n all av w d o dp = true → pkOk o w' d' s.dst = true → d ∈ av →
      ∀ {ρ : Rho} {h : Hp} {b : Bool}, pGd w (ρ d) = some b → (b = false → ∀ i ∈ ins, ρ i = .undef) → ∀ {v : V}, gV b (gA w' (ρ d') (gE s ρ h)) = some v →
      gV b ((pureC o).f (.fn (finG s (gdT w' (ρ d')) ρ h) []) h) = some v ∧ ChD n all av (s.ops ++ [o]) b ρ (rset (finG s (gdT w' (ρ d')) ρ h) dp v) h dp v := by
    intro s ih av w w' d d' dp ins o hin hc ho hp hd ρ h b hb hi v hv
    obtain ⟨i, hi1, hi2⟩ := List.any_eq_true.1 hin
    have e := Nat.eq_of_beq_eq_true hi2
    subst e
    cases b with
    | true =>
      obtain ⟨c, e1, e2, e3⟩ := gA_some (show gA w' (ρ i) (gE s ρ h) = some v from hv)
      have eg : gdT w' (ρ i) = (c == w') := by unfold gdT; rw [e2]
      rw [eg]
      obtain ⟨y, hy⟩ : ∃ y, gV (c == w') (gE s ρ h) = some y ∧ (c = w' → y = v) := by
        rcases e3 with ⟨e4, e5⟩ | ⟨e4, e5⟩
        · simp_all
        · have : (c == w') = false := by simp [e4]
          rw [this]; simp_all
      obtain ⟨k1, k2, k3, k4⟩ := ih hc (List.mem_cons_self ..) e2 (by simp_all) hy.1
      have hd' : finG s (c == w') ρ h i = .bool c := by rw [k3 i (List.mem_cons_self ..)]; exact e1
      have hpk := (pkOk_of hp (h := h) hd').1
      have hval : (pureC o).f (.fn (finG s (c == w') ρ h) []) h = some v := by
        rw [hpk, k2]
        rcases e3 with ⟨e4, e5⟩ | ⟨e4, e5⟩
        · grind
        · grind
      refine ⟨hval, ?_⟩
      have hone := ChD.one ho (ρ := finG s (c == w') ρ h) (h := h) (b := true) (by simp_all) (v := v) hval
      refine ⟨k1.app hone.1, hone.2.1, fun j hj => (hone.2.2.1 j hj).trans (by simp_all), by simp_all⟩
    | false =>
      have e1 : ρ i = .undef := by simp_all
      have e2 : pGd w' (ρ i) = some false := by rw [e1]; rfl
      have eg : gdT w' (ρ i) = false := by unfold gdT; rw [e2]
      rw [eg]
      cases hv
      obtain ⟨k1, k2, k3, k4⟩ := ih hc (List.mem_cons_self ..) e2 (by simp_all) (x := .undef) rfl
      refine ⟨rfl, ?_⟩
      have hone := ChD.one ho (ρ := finG s false ρ h) (h := h) (b := false) (by rw [k3 d (List.mem_cons_of_mem _ hd)]; exact hb) (v := .undef) rfl
      exact ⟨k1.app hone.1, hone.2.1, fun j hj => (hone.2.2.1 j hj).trans (by simp_all), fun e j hj => hone.2.2.2 e j (by simp_all)⟩
  intro g
  induction g with
  | last o d' =>
    intro av w d ins hk hd ρ h b hb hi x hx
    have hx' : gV b ((pureC o).f (.fn ρ []) h) = some x := hx
    show ChD n all av [o] b ρ (rset ρ d' (totV b ((pureC o).f (.fn ρ []) h))) h d' x
    rw [totV_of hx']
    exact ChD.one hk hb hx'
  | op o d' r ih =>
    intro av w d ins hk hd ρ h b hb hi x hx
    simp only [chk, Bool.and_eq_true] at hk
    obtain ⟨v, hv, hx'⟩ : ∃ v, gV b ((pureC o).f (.fn ρ []) h) = some v ∧ gV b (gE r (rset ρ d' v) h) = some x := by
      cases b with
      | true =>
        obtain ⟨v, h1, h2⟩ := oB_eq.1 (show oB ((pureC o).f (.fn ρ []) h) _ = some x from hx)
        exact ⟨v, h1, h2⟩
      | false => simp_all
    have hone := ChD.one hk.1 hb hv
    show ChD n all av ([o] ++ r.ops) b ρ (finG r b (rset ρ d' (totV b ((pureC o).f (.fn ρ []) h))) h) h r.dst x
    rw [totV_of hv]
    refine hone.trans (ih hk.2 hd (by rw [hone.2.2.1 d hd]; exact hb) ?_ hx')
    intro e i hi'
    rcases List.mem_cons.1 hi' with e' | e'
    · simp_all[rset_at]
    · exact hone.2.2.2 e i (by simp_all)
  | nest w' d' s o dp r ihs ih =>
    intro av w d ins hk hd ρ h b hb hi x hx
    simp only [chk, Bool.and_eq_true] at hk
    obtain ⟨⟨⟨⟨h1, h2⟩, h3⟩, h4⟩, h5⟩ := hk
    obtain ⟨v, hv, hx'⟩ : ∃ v, gV b (gA w' (ρ d') (gE s ρ h)) = some v ∧ gV b (gE r (rset (finG s (gdT w' (ρ d')) ρ h) dp v) h) = some x := by
      cases b with
      | true =>
        obtain ⟨v, h1, h2⟩ := oB_eq.1 (show oB (gA w' (ρ d') (gE s ρ h)) _ = some x from hx)
        exact ⟨v, h1, h2⟩
      | false => simp_all
    obtain ⟨n1, n2⟩ := nest s ihs h1 h2 h3 h4 hd hb hi hv
    show ChD n all av (s.ops ++ ([o] ++ r.ops)) b ρ (finG r b (rset (finG s (gdT w' (ρ d')) ρ h) dp (totV b ((pureC o).f (.fn (finG s (gdT w' (ρ d')) ρ h) []) h))) h) h r.dst x
    rw [totV_of n1, ← List.append_assoc]
    refine n2.trans (ih h5 hd (by rw [n2.2.2.1 d hd]; exact hb) ?_ hx')
    intro e i hi'
    rcases List.mem_cons.1 hi' with e' | e'
    · simp_all[rset_at]
    · exact n2.2.2.2 e i (by simp_all)
  | nestLast w' d' s o dp ihs =>
    intro av w d ins hk hd ρ h b hb hi x hx
    simp only [chk, Bool.and_eq_true] at hk
    obtain ⟨⟨⟨h1, h2⟩, h3⟩, h4⟩ := hk
    obtain ⟨n1, n2⟩ := nest s ihs h1 h2 h3 h4 hd hb hi (show gV b (gA w' (ρ d') (gE s ρ h)) = some x from hx)
    show ChD n all av (s.ops ++ [o]) b ρ (rset (finG s (gdT w' (ρ d')) ρ h) dp (totV b ((pureC o).f (.fn (finG s (gdT w' (ρ d')) ρ h) []) h))) h dp x
    grind[totV_of]
/-! such chains, read off -/
inductive Git where
  | op (o : Oper) (d : Nat)
  | nest (w : Bool) (d : Nat) (sub : Gs) (o : Oper) (dp : Nat)
def Git.dst : Git → Nat
  | .op _ d => d
  | .nest _ _ _ _ dp => dp
def Git.ops : Git → List Oper
  | .op o _ => [o]
  | .nest _ _ s o _ => s.ops ++ [o]
def Git.one : Git → Gs
  | .op o d => .last o d
  | .nest w d s o dp => .nestLast w d s o dp
def Git.cons (r : Gs) : Git → Gs
  | .op o d => .op o d r
  | .nest w d s o dp => .nest w d s o dp r
def gOfV (all : List Oper) (o : Oper) : Option (Bool × Nat) := match o.guard with
  | some (j, w) => match all[j]? with
    | some oj => match oj.dst with
      | some d => some (w, d)
      | none => none
    | none => none
  | none => none
def gItemV (n : Nat) (all : List Oper) (gpV : Bool → Nat → List Nat → List Oper → Option (Gs × List Oper)) (w : Bool) (d : Nat) (ins : List Nat) (os : List Oper) : Option (Git × List Oper) := match os with
  | [] => none
  | o :: os' => match gdOk n all o w d && Nat.beq (cls o) 0, o.dst with
    | true, some d' => some (.op o d', os')
    | _, _ => match gOfV all o with
      | none => none
      | some (w', d') => match ins.any (fun i => Nat.beq i d') with
        | false => none
        | true => match gpV w' d' [] (o :: os') with
          | some (s, p :: os'') => match gdOk n all p w d && pkOk p w' d' s.dst, p.dst with
            | true, some dp => some (.nest w' d' s p dp, os'')
            | _, _ => none
          | _ => none
noncomputable def gpV (n : Nat) (all : List Oper) (fuel : Nat) : Bool → Nat → List Nat → List Oper → Option (Gs × List Oper) :=
  Nat.rec (motive := fun _ => Bool → Nat → List Nat → List Oper → Option (Gs × List Oper)) (fun _ _ _ _ => none) (fun _ ih w d ins os => match gItemV n all ih w d ins os with
    | none => none
    | some (it, os') => match ih w d (it.dst :: ins) os' with
      | some (g, r) => some (it.cons g, r)
      | none => some (it.one, os')) fuel
theorem gItemV_ops {n : Nat} {all : List Oper} {gpV : Bool → Nat → List Nat → List Oper → Option (Gs × List Oper)} (hgp : ∀ w d ins os g r, gpV w d ins os = some (g, r) → os = g.ops ++ r) {w : Bool} {d : Nat} {ins : List Nat} {os : List Oper} {it : Git} {r : List Oper}
    (h : gItemV n all gpV w d ins os = some (it, r)) : os = it.ops ++ r := by
  unfold gItemV at h
  split at h
  · cases h
  · split at h
    · cases h; rfl
    · split at h
      · cases h
      grind[Git.ops,List.append_assoc]
theorem gpV_ops {n : Nat} {all : List Oper} : ∀ (fuel : Nat) (w : Bool) (d : Nat) (ins : List Nat) (os : List Oper) (g : Gs) (r : List Oper), gpV n all fuel w d ins os = some (g, r) → os = g.ops ++ r
  | 0, _, _, _, _, _, _, h => by cases h
  | fuel + 1, w, d, ins, os, g, r, h => by
    have h' : (match gItemV n all (gpV n all fuel) w d ins os with
      | none => none
      | some (it, os') => match gpV n all fuel w d (it.dst :: ins) os' with
        | some (g, r) => some (it.cons g, r)
        | none => some (it.one, os')) = some (g, r) := h
    split at h'
    · cases h'
    · rename_i it os' hit
      have e1 := gItemV_ops (fun w d ins os g r hg => gpV_ops fuel w d ins os g r hg) hit
      split at h'
      · rename_i g' r' hg
        cases h'
        have e2 := gpV_ops fuel _ _ _ _ _ _ hg
        rw [e1, e2]
        cases it <;> simp [Git.ops, Git.cons, Gs.ops]
      · cases h'
        rw [e1]
        cases it <;> simp [Git.ops, Git.one, Gs.ops]
/-- A chain that begins here, and the pick behind it. -/
noncomputable def grpV (n : Nat) (all : List Oper) (os : List Oper) : Option (Bool × Nat × Gs × Nat) := match os with
  | [] => none
  | o :: _ => match o.guard with
    | none => none
    | some (j, w) => match all[j]? with
      | none => none
      | some oj => match oj.guard, oj.dst, Nat.beq (cls o) 0 with
        | none, some d, true => match gpV n all 60 w d [] os with
          | some (g, p :: _) => match p.guard, p.dst with
            | none, some dp => match pkOk p w d g.dst && Nat.blt dp n && chk n all [d] w d [] g with
              | true => some (w, d, g, dp)
              | false => none
            | _, _ => none
          | _ => none
        | _, _, _ => none
theorem grpV_of {n : Nat} {all os : List Oper} {w : Bool} {d : Nat} {g : Gs} {dp : Nat} (h : grpV n all os = some (w, d, g, dp)) : ∃ p r, os = g.ops ++ p :: r ∧ p.guard = none ∧ p.dst = some dp ∧ pkOk p w d g.dst = true ∧ Nat.blt dp n = true ∧ chk n all [d] w d [] g = true := by
  unfold grpV at h
  split at h
  · cases h
  · split at h
    · cases h
    · split at h
      · cases h
      · split at h
        · split at h
          · rename_i hg
            split at h
            · rename_i h1 h2
              split at h
              · rename_i h3
                cases h
                simp only [Bool.and_eq_true] at h3
                grind[gpV_ops]
              · cases h
            · cases h
          · cases h
        · cases h
theorem dstR_mono {n : Nat} {o : Oper} {K K' : Rho → Hp → Prop} (hK : ∀ ρ h, K ρ h → K' ρ h) {v : V} {ρ : Rho} {h : Hp} (hk : dstR n o K v ρ h) : dstR n o K' v ρ h := by
  grind[dstR,Nat.blt]
theorem oP_mono {α : Type} {x : Option α} {k k' : α → Prop} (h : oP x k) (f : ∀ a, k a → k' a) : oP x k' := by grind[oM]
theorem opR_mono {C : Cfg} {o : Oper} {K K' : V → Rho → Hp → Prop} (hK : ∀ v ρ h, K v ρ h → K' v ρ h) {ρ : Rho} {h : Hp} (hk : opR C o K ρ h) : opR C o K' ρ h := by
  unfold opR at hk ⊢
  generalize cls o = c at hk ⊢
  rcases c with _ | _ | c
  · grind[oP_mono]
  · grind[oP_mono]
  · show wrR C o K' ρ h
    have hk' : wrR C o K ρ h := hk
    unfold wrR at hk' ⊢
    cases hi : isCall o
    all_goals rw [hi] at hk'
    · grind[oP_mono]
    · exact oP_mono hk' fun x H => H.mono (by simp_all)
theorem gdR_mono {C : Cfg} {o : Oper} {b : Bool} {K K' : V → Rho → Hp → Prop} (hK : ∀ v ρ h, K v ρ h → K' v ρ h) {ρ : Rho} {h : Hp} (hk : gdR C o b K ρ h) : gdR C o b K' ρ h := by
  unfold gdR at hk ⊢
  generalize cls o = c at hk ⊢
  rcases c with _ | _ | c
  · grind[oP_mono]
  · grind[oP_mono]
  · simp only at hk ⊢
    cases hi : isCall o
    all_goals rw [hi] at hk
    · grind[oP_mono]
    · refine oP_mono hk fun x H => ?_
      cases x with
      | none => simp_all
      | some y => exact cP.mono H (by simp_all)
theorem stepR_mono {C : Cfg} {n : Nat} {all : List Oper} {o : Oper} {K K' : Rho → Hp → Prop} (hK : ∀ ρ h, K ρ h → K' ρ h) {ρ : Rho} {h : Hp} (hk : stepR C n all o K ρ h) : stepR C n all o K' ρ h := by
  unfold stepR at hk ⊢
  cases hd : deferC o with
  | some q => simp_all
  | none =>
    rw [hd] at hk
    simp only at hk ⊢
    cases hw : wantC n all o with
    | none => rw [hw] at hk; grind[opR_mono,dstR_mono]
    | some g => grind[oP_mono,gdR_mono,dstR_mono]
theorem stepV_eq (C : Cfg) (n : Nat) (all : List Oper) (o : Oper) (K : Rho → Hp → Prop) : stepV C n all o K = stepR C n all o K := by
  grind[stepV,stepR,opV_eq]
theorem cls_defer {o : Oper} (h : cls o = 0) : deferC o = none := by
  grind[deferC,cls]
theorem Ch.regR {C : Cfg} {n : Nat} {all : List Oper} {h : Hp} {K : Rho → Hp → Prop} {os' : List Oper} : ∀ {os : List Oper} {ρ ρ' : Rho}, Ch n all h os ρ ρ' → regR C n all K os' ρ' h → regR C n all K (os ++ os') ρ h
  | [], _, _, hc, hk => by cases hc; exact hk
  | o :: os, ρ, ρ', ⟨h0, d, v, h1, h2, h3, h4⟩, hk => by
    have ih := h4.regR (C := C) (K := K) hk
    have hd : dstR n o (Hx.regR C n all K (os ++ os')) v ρ h := by unfold dstR; rw [h1]; simp only [h2]; exact ih
    show stepR C n all o (Hx.regR C n all K (os ++ os')) ρ h
    grind[stepR,cls_defer,opR,oP_mk,gdR]
/-- What is left of a region: chains that are asked only if are taken together. -/
noncomputable def regV (C : Cfg) (n : Nat) (all : List Oper) (K : Rho → Hp → Prop) (os : List Oper) : Nat → Rho → Hp → Prop :=
  List.rec (motive := fun _ => Nat → Rho → Hp → Prop) (fun _ => K) (fun o os ih sk => Nat.rec (motive := fun _ => Rho → Hp → Prop)
    (match grpV n all (o :: os) with
      | some (w, d, g, dp) => fun ρ h => oP (gA w (ρ d) (gE g ρ h)) fun v => ih g.ops.length (rset (finG g (gdT w (ρ d)) ρ h) dp v) h
      | none => stepV C n all o (ih 0)) (fun k _ => ih k) sk) os
theorem regV_of {C : Cfg} {n : Nat} {all : List Oper} {K : Rho → Hp → Prop} : ∀ (os : List Oper) (sk : Nat) {ρ : Rho} {h : Hp}, regV C n all K os sk ρ h → regR C n all K (os.drop sk) ρ h
  | [], sk, ρ, h, hk => by rw [List.drop_nil]; exact hk
  | o :: os, sk + 1, ρ, h, hk => regV_of os sk hk
  | o :: os, 0, ρ, h, hk => by
    have hk' : (match grpV n all (o :: os) with
      | some (w, d, g, dp) => fun (ρ : Rho) (h : Hp) => oP (gA w (ρ d) (gE g ρ h)) fun v => regV C n all K os g.ops.length (rset (finG g (gdT w (ρ d)) ρ h) dp v) h
      | none => stepV C n all o (regV C n all K os 0) : Rho → Hp → Prop) ρ h := hk
    show regR C n all K (o :: os) ρ h
    cases hg : grpV n all (o :: os) with
    | some x =>
      obtain ⟨w, d, g, dp⟩ := x
      rw [hg] at hk'
      simp only at hk'
      obtain ⟨p, r, e1, e2, e3, e4, e5, e6⟩ := grpV_of hg
      obtain ⟨v, h1, h2⟩ := oP_eq.1 hk'
      obtain ⟨c, c1, c2, c3⟩ := gA_some h1
      have eg : gdT w (ρ d) = (c == w) := by unfold gdT; rw [c2]
      rw [eg] at h2
      obtain ⟨y, hy⟩ : ∃ y, gV (c == w) (gE g ρ h) = some y ∧ (c = w → y = v) := by
        rcases c3 with ⟨e4, e5⟩ | ⟨e4, e5⟩
        · simp_all
        · have : (c == w) = false := by simp [e4]
          rw [this]; simp_all
      obtain ⟨k1, k2, k3, k4⟩ := chainV_ok g e6 (List.mem_cons_self ..) c2 (by simp_all) hy.1
      have hd' : finG g (c == w) ρ h d = .bool c := by rw [k3 d (List.mem_cons_self ..)]; exact c1
      have hpk := pkOk_of e4 (h := h) hd'
      have hval : (pureC p).f (.fn (finG g (c == w) ρ h) []) h = some v := by
        rw [hpk.1, k2]
        rcases c3 with ⟨e4, e5⟩ | ⟨e4, e5⟩
        · grind
        · grind
      have hp1 : Ch n all h [p] (finG g (c == w) ρ h) (rset (finG g (c == w) ρ h) dp v) := ⟨hpk.2, dp, v, e3, e5, by grind[wantC], rfl⟩
      have hlen : os.drop g.ops.length = r := by
        have e7 : (o :: os).drop (g.ops.length + 1) = r := by rw [e1, List.append_cons]; exact by simp_all
        exact e7
      have h3 := regV_of os _ h2
      rw [hlen] at h3
      rw [e1, List.append_cons]
      exact (k1.app hp1).regR h3
    | none =>
      rw [hg] at hk'
      simp only [stepV_eq] at hk'
      exact stepR_mono (fun ρ h hh => by have := regV_of os 0 hh; exact this) hk'
/-! ### regions whose order is open -/
/-- An operation that does not look into the heap. -/
def hfree (o : Oper) : Bool := match o.op with
  | .move x | .assign x | .nilCheck x | .fieldAddr _ x _ | .field _ x _ | .unOp _ _ x | .extract x _ => noG x
  | .pick c a b => noG c && noG a && noG b
  | .binOp _ _ x y _ => noG x && noG y
  | .indexAddr _ x i | .index _ x i => noG x && noG i
  | .build _ _ | .makeFunc _ _ _ => true
  | .makeInterface _ x => noG x
  | .call c => match c.callee, c.args.toList, c.argTypes.toList with
    | .builtin .len, [x], ty :: _ => match P0.underlying ty with
      | some (.slice _) => noG x
      | _ => false
    | _, _, _ => false
  | _ => false
theorem hfree_of {o : Oper} (ho : hfree o = true) (t : Tm) (h h' : Hp) : (pureC o).f t h = (pureC o).f t h' := by
  unfold hfree at ho
  unfold pureC
  split at ho
  all_goals rename_i hop
  all_goals try rw [hop]
  all_goals try simp only [Bool.and_eq_true] at ho
  · grind[evO_free]
  · grind[evO_free]
  · grind[hnilCheck,evO_free]
  · grind[hfieldAddr,evO_free]
  · grind[hfield,evO_free]
  · grind[evO_free]
  · grind[hextract,evO_free]
  · grind[hpick,evO_free]
  · grind[evO_free]
  · grind[hindexAddr,evO_free]
  · grind[hindex,evO_free]
  · simp only [hbuild]; grind
  · split <;> first | rfl | simp_all
  · dsimp only; split <;> first | rfl | grind[evO_free]
  · grind[hlen,evO_free,absurd]
  simp_all
abbrev RE := Bool × Rec × Bool × Bool
/-- What was seen: what must be asked for anew. -/
def stabV (k : Nat) (h : Hp) (rs : List RE) (K : Prop) : Prop :=
  List.rec (motive := fun _ => Prop) K (fun r _ ih => Bool.rec (motive := fun _ => Prop)
    (Option.rec (motive := fun _ => Prop) (Bool.rec (motive := fun _ => Prop) ih (Bool.rec (motive := fun _ => Prop) True (holdP h r.2.1) r.1 ∧ ih) r.2.2.2)
      (fun _ => Bool.rec (motive := fun _ => Prop) True (holdP h r.2.1) r.1 ∧ ih) r.2.1.made) ih (Nat.blt r.2.1.last k)) rs
def oldsV (rs : List RE) : List RE := rs.map fun r => (r.1, r.2.1, r.2.2.1, !r.2.2.1)
def plainRs (rs : List RE) : List (Bool × Rec) := rs.map fun r => (r.1, r.2.1)
def itV (C : Cfg) (n : Nat) (all : List Oper) (ws : List It) (a : It) (ih : Nat → Rho → Hp → List RE → Prop) (k : Nat) : Rho → Hp → List RE → Prop := match cls a.o with
    | 0 => match wantC n all a.o with
      | none => match isVal a.o with
        | true => fun ρ h rs => Option.rec (motive := fun _ => Prop) False (fun v => dstR n a.o (fun ρ' h => ih k ρ' h ((true, { it := a, t := .fn ρ [], v, made := none, last := late ws a }, hfree a.o, false) :: rs)) v ρ h) ((pureC a.o).f (.fn ρ []) h)
        | false => fun ρ h rs => oP ((pureC a.o).f (.fn ρ []) h) fun v => dstR n a.o (fun ρ' h => ih k ρ' h ((true, { it := a, t := .fn ρ [], v, made := none, last := late ws a }, hfree a.o, false) :: rs)) v ρ h
      | some g => fun ρ h rs => oP (g.f (.fn ρ [])) fun b => oP (gV b ((pureC a.o).f (.fn ρ []) h)) fun v =>
          dstR n a.o (fun ρ' h => ih k ρ' h ((b, { it := a, t := .fn ρ [], v, made := none, last := late ws a }, hfree a.o, false) :: rs)) v ρ h
    | 1 => match wantC n all a.o with
      | none => fun ρ h rs => oP ((allocC a.o).f (.fn ρ [])) fun r => dstR n a.o (fun ρ' h' => ih k ρ' h' ((true, { it := a, t := .fn ρ [], v := r.2 h.next, made := some (h.next, r.1), last := late ws a }, false, false) :: oldsV rs)) (r.2 h.next) ρ (h.new r.1)
      | some _ => fun _ _ _ => False
    | _ => match wantC n all a.o with
      | none => fun ρ h rs => stabV k h rs (wrR C a.o (fun v ρ h' => h.next ≤ h'.next ∧ dstR n a.o (fun ρ h => ih (Nat.succ k) ρ h (oldsV rs)) v ρ h') ρ h)
      | some g => match isCall a.o with
        | true => fun ρ h rs => stabV k h rs (oP (g.f (.fn ρ [])) fun b => oP (gC b (oB ((writeC a.o).f (.fn ρ []) h) callOf)) fun x => cgP C x h fun v h' => h.next ≤ h'.next ∧ dstR n a.o (fun ρ h => ih (Nat.succ k) ρ h (oldsV rs)) v ρ h')
        | false => fun _ _ _ => False
def puresV (l : List It) : Bool := l.all fun a => Nat.beq (cls a.o) 0
def seqV (C : Cfg) (n : Nat) (all : List Oper) (ws : List It) (K : Rho → Hp → Prop) (l : List It) : Nat → Rho → Hp → List RE → Prop :=
  List.rec (motive := fun _ => Nat → Rho → Hp → List RE → Prop) (fun k ρ h rs => stabV k h rs (K ρ h)) (fun a l ih k => match puresV (a :: l) with
    | true => fun ρ h rs => regV C n all (fun ρ h => stabV k h rs (K ρ h)) ((a :: l).map (·.o)) 0 ρ h
    | false => itV C n all ws a ih k) l
def invV (h : Hp) (rs : List RE) : Prop := ∀ r ∈ rs, r.1 = true → r.2.1.made = none → (r.2.2.1 = true → ∀ h', holdP h' r.2.1) ∧ (r.2.2.2 = false → holdP h r.2.1)
theorem invV.old {h : Hp} {rs : List RE} (hi : invV h rs) (h' : Hp) : invV h' (oldsV rs) := by
  intro r hr hb hm
  obtain ⟨r', hr', e⟩ := List.mem_map.1 hr
  subst e
  obtain ⟨h1, _⟩ := hi r' hr' hb hm
  simp_all
theorem plain_olds (rs : List RE) : plainRs (oldsV rs) = plainRs rs := by
  simp [plainRs, oldsV]
theorem stabV_of {k : Nat} {h : Hp} : ∀ {rs : List RE} {K K' : Prop}, invV h rs → (K → K') → stabV k h rs K → stabP k h (plainRs rs) K'
  | [], _, _, _, hk, hh => hk hh
  | (b, r, f, st) :: rs, K, K', hi, hk, hh => by
    have hr : invV h rs := fun r hr => hi r (List.mem_cons_of_mem _ hr)
    have h0 := hi _ (List.mem_cons_self ..)
    have hh' : Bool.rec (motive := fun _ => Prop)
      (Option.rec (motive := fun _ => Prop) (Bool.rec (motive := fun _ => Prop) (stabV k h rs K) (Bool.rec (motive := fun _ => Prop) True (holdP h r) b ∧ stabV k h rs K) st)
      (fun _ => Bool.rec (motive := fun _ => Prop) True (holdP h r) b ∧ stabV k h rs K) r.made) (stabV k h rs K) (Nat.blt r.last k) := hh
    show Bool.rec (motive := fun _ => Prop) (Bool.rec (motive := fun _ => Prop) True (holdP h r) b ∧ stabP k h (plainRs rs) K') (stabP k h (plainRs rs) K') (Nat.blt r.last k)
    cases hb : Nat.blt r.last k with
    | true => rw [hb] at hh'; exact stabV_of hr hk hh'
    | false =>
      rw [hb] at hh'
      cases hm : r.made with
      | some x => rw [hm] at hh'; exact ⟨hh'.1, stabV_of hr hk hh'.2⟩
      | none =>
        rw [hm] at hh'
        cases st with
        | true => exact ⟨hh'.1, stabV_of hr hk hh'.2⟩
        | false =>
          refine ⟨?_, stabV_of hr hk hh'⟩
          cases b <;> grind
theorem wrR_mono {C : Cfg} {o : Oper} {K K' : V → Rho → Hp → Prop} (hK : ∀ v ρ h, K v ρ h → K' v ρ h) {ρ : Rho} {h : Hp} (hk : wrR C o K ρ h) : wrR C o K' ρ h := by
  unfold wrR at hk ⊢
  cases hi : isCall o
  all_goals rw [hi] at hk
  · grind[oP_mono]
  · exact oP_mono hk fun x H => H.mono (by simp_all)
theorem stabP_mono {k : Nat} {h : Hp} : ∀ {rs : List (Bool × Rec)} {K K' : Prop}, (K → K') → stabP k h rs K → stabP k h rs K'
  | [], _, _, hk, hh => hk hh
  | r :: rs, K, K', hk, hh => by
    simp only [stabP] at hh ⊢
    cases hb : Nat.blt r.2.last k with
    | true => rw [hb] at hh; exact stabP_mono hk hh
    | false => rw [hb] at hh; exact ⟨hh.1, stabP_mono hk hh.2⟩
theorem stabP_new {k : Nat} {h : Hp} {K : Prop} {rs : List (Bool × Rec)} : ∀ {new : List (Bool × Rec)}, (∀ r ∈ new, r.1 = true → holdP h r.2) → stabP k h rs K → stabP k h (new ++ rs) K
  | [], _, hh => hh
  | r :: new, hn, hh => by
    have ih := stabP_new (new := new) (by simp_all) hh
    show stabP k h (r :: (new ++ rs)) K
    simp only [stabP]
    cases hb : Nat.blt r.2.last k with
    | true => exact ih
    | false =>
      refine ⟨?_, ih⟩
      cases hb : r.1 <;> grind
theorem tailV_ok {C : Cfg} {n : Nat} {all : List Oper} {ws : List It} {K : Rho → Hp → Prop} {k : Nat} {rs : List (Bool × Rec)} : ∀ {l : List It} {ρ : Rho} {h : Hp} {new : List (Bool × Rec)}, puresV l = true → (∀ r ∈ new, r.1 = true → holdP h r.2) →
    regR C n all (fun ρ h => stabP k h rs (K ρ h)) (l.map (·.o)) ρ h → seqR C n all ws K l k ρ h (new ++ rs)
  | [], _, _, _, _, hn, hk => stabP_new hn hk
  | a :: l, ρ, h, new, hp, hn, hk => by
    simp only [puresV, List.all_cons, Bool.and_eq_true] at hp
    obtain ⟨hc, hp⟩ := hp
    have hc := Nat.eq_of_beq_eq_true hc
    have hk' : stepR C n all a.o (regR C n all (fun ρ h => stabP k h rs (K ρ h)) (l.map (·.o))) ρ h := hk
    show itR C n all ws a (seqR C n all ws K l) k ρ h (new ++ rs)
    have key : ∀ {b : Bool} {v : V}, (b = true → (pureC a.o).f (.fn ρ []) h = some v) → dstR n a.o (regR C n all (fun ρ h => stabP k h rs (K ρ h)) (l.map (·.o))) v ρ h →
        dstR n a.o (fun ρ' h => seqR C n all ws K l k ρ' h ((b, { it := a, t := .fn ρ [], v, made := none, last := late ws a }) :: (new ++ rs))) v ρ h := by
      intro b v hb hd
      have hnew : ∀ r ∈ (b, ({ it := a, t := .fn ρ [], v, made := none, last := late ws a } : Rec)) :: new, r.1 = true → holdP h r.2 := by
        intro r hr hr1
        rcases List.mem_cons.1 hr with e | e
        · subst e; exact hb hr1
        · grind
      unfold dstR at hd ⊢
      cases ho : a.o.dst with
      | none => rw [ho] at hd; exact tailV_ok hp hnew hd
      | some d =>
        rw [ho] at hd
        simp only at hd ⊢
        cases hb : Nat.blt d n with
        | true => rw [hb] at hd; exact tailV_ok hp hnew hd
        | false => simp_all
    unfold stepR at hk'
    rw [cls_defer hc] at hk'
    simp only at hk'
    unfold itR
    rw [hc]
    simp only
    cases hw : wantC n all a.o with
    | none =>
      rw [hw] at hk'
      simp only [opR, hc] at hk'
      obtain ⟨v, h1, h2⟩ := oP_eq.1 hk'
      simp_all
    | some g =>
      rw [hw] at hk'
      simp only [gdR, hc] at hk'
      obtain ⟨b, h0, hk'⟩ := oP_eq.1 hk'
      obtain ⟨v, h1, h2⟩ := oP_eq.1 hk'
      exact oP_mk h0 (oP_mk h1 (key (fun e => by simp_all) h2))
theorem regR_mono {C : Cfg} {n : Nat} {all : List Oper} {K K' : Rho → Hp → Prop} (hK : ∀ ρ h, K ρ h → K' ρ h) : ∀ {os : List Oper} {ρ : Rho} {h : Hp}, regR C n all K os ρ h → regR C n all K' os ρ h
  | [], _, _, hk => hK _ _ hk
  | _ :: _, _, _, hk => stepR_mono (fun _ _ H => regR_mono hK H) hk
/-- The heap of a pure row's end is that of its beginning. -/
theorem regR_pure {C : Cfg} {n : Nat} {all : List Oper} {K K' : Rho → Hp → Prop} {h : Hp} (hK : ∀ ρ, K ρ h → K' ρ h) : ∀ {l : List It} {ρ : Rho}, puresV l = true → regR C n all K (l.map (·.o)) ρ h → regR C n all K' (l.map (·.o)) ρ h
  | [], _, _, hk => hK _ hk
  | a :: l, ρ, hp, hk => by
    simp only [puresV, List.all_cons, Bool.and_eq_true] at hp
    obtain ⟨hc, hp⟩ := hp
    have hc := Nat.eq_of_beq_eq_true hc
    have hk' : stepR C n all a.o (regR C n all K (l.map (·.o))) ρ h := hk
    show stepR C n all a.o (regR C n all K' (l.map (·.o))) ρ h
    have key : ∀ {v : V}, dstR n a.o (regR C n all K (l.map (·.o))) v ρ h → dstR n a.o (regR C n all K' (l.map (·.o))) v ρ h := by
      intro v hd
      unfold dstR at hd ⊢
      cases ho : a.o.dst with
      | none => rw [ho] at hd; exact regR_pure hK hp hd
      | some d =>
        rw [ho] at hd
        simp only at hd ⊢
        cases hb : Nat.blt d n with
        | true => rw [hb] at hd; exact regR_pure hK hp hd
        | false => simp_all
    unfold stepR at hk' ⊢
    rw [cls_defer hc] at hk' ⊢
    simp only at hk' ⊢
    cases hw : wantC n all a.o with
    | none =>
      grind[opR,oP_eq,oP_mk]
    | some g =>
      rw [hw] at hk'
      grind[gdR,oP_eq,oP_mk]
theorem seqV_of {C : Cfg} {n : Nat} {all : List Oper} {ws : List It} {K : Rho → Hp → Prop} : ∀ (l : List It) {k : Nat} {ρ : Rho} {h : Hp} {rs : List RE}, invV h rs → seqV C n all ws K l k ρ h rs → seqR C n all ws K l k ρ h (plainRs rs)
  | [], _, _, _, _, hi, hk => stabV_of hi (fun x => x) hk
  | a :: l, k, ρ, h, rs, hi, hk => by
    have hk' : (match puresV (a :: l) with
      | true => fun (ρ : Rho) (h : Hp) (rs : List RE) => regV C n all (fun ρ h => stabV k h rs (K ρ h)) ((a :: l).map (·.o)) 0 ρ h
      | false => itV C n all ws a (seqV C n all ws K l) k : Rho → Hp → List RE → Prop) ρ h rs := hk
    cases hp : puresV (a :: l) with
    | true =>
      rw [hp] at hk'
      have h1 := regV_of _ 0 hk'
      exact tailV_ok (new := []) hp (by simp_all) (regR_pure (fun ρ hh => stabV_of hi (fun x => x) hh) hp h1)
    | false =>
      rw [hp] at hk'
      simp only at hk'
      show itR C n all ws a (seqR C n all ws K l) k ρ h (plainRs rs)
      have pure : ∀ {b : Bool} {v : V}, gV b ((pureC a.o).f (.fn ρ []) h) = some v → ∀ {ρ' : Rho}, seqV C n all ws K l k ρ' h ((b, { it := a, t := .fn ρ [], v, made := none, last := late ws a }, hfree a.o, false) :: rs) →
          seqR C n all ws K l k ρ' h ((b, { it := a, t := .fn ρ [], v, made := none, last := late ws a }) :: plainRs rs) := by
        intro b v hv ρ' hh
        refine seqV_of l (rs := (b, { it := a, t := .fn ρ [], v, made := none, last := late ws a }, hfree a.o, false) :: rs) ?_ hh
        intro r hr hb hm
        rcases List.mem_cons.1 hr with e | e
        · subst e
          have hb' : b = true := hb
          subst hb'
          refine ⟨fun hf h' => ?_, fun _ => hv⟩
          show (pureC a.o).f (.fn ρ []) h' = some v
          rw [hfree_of hf _ h' h]; exact hv
        · exact hi r e hb hm
      have dst : ∀ {b : Bool} {v : V}, gV b ((pureC a.o).f (.fn ρ []) h) = some v → dstR n a.o (fun ρ' h => seqV C n all ws K l k ρ' h ((b, { it := a, t := .fn ρ [], v, made := none, last := late ws a }, hfree a.o, false) :: rs)) v ρ h →
          dstR n a.o (fun ρ' h => seqR C n all ws K l k ρ' h ((b, { it := a, t := .fn ρ [], v, made := none, last := late ws a }) :: plainRs rs)) v ρ h := by
        intro b v hv hd
        unfold dstR at hd ⊢
        cases ho : a.o.dst with
        | none => grind
        | some d =>
          grind
      unfold itV at hk'
      unfold itR
      generalize hc : cls a.o = c at hk'
      rcases c with _ | _ | c
      · simp only at hk' ⊢
        cases hw : wantC n all a.o with
        | none =>
          rw [hw] at hk'
          simp only at hk' ⊢
          have hk2 : oP ((pureC a.o).f (.fn ρ []) h) fun v => dstR n a.o (fun ρ' h => seqV C n all ws K l k ρ' h ((true, { it := a, t := .fn ρ [], v, made := none, last := late ws a }, hfree a.o, false) :: rs)) v ρ h := by
            cases hv : isVal a.o <;> (rw [hv] at hk'; exact hk')
          obtain ⟨v, h1, h2⟩ := oP_eq.1 hk2
          simp_all
        | some g =>
          grind[oP_eq,oP_mk]
      · simp only at hk' ⊢
        cases hw : wantC n all a.o with
        | none =>
          rw [hw] at hk'
          refine oP_mono hk' fun r H => dstR_mono (fun ρ' h' hh => ?_) H
          have := seqV_of l (rs := (true, { it := a, t := .fn ρ [], v := r.2 h.next, made := some (h.next, r.1), last := late ws a }, false, false) :: oldsV rs) (by
            intro r' hr hb hm
            rcases List.mem_cons.1 hr with e | e
            · simp_all
            · exact hi.old h' r' e hb hm) hh
          grind[seqR,plainRs,oldsV,plain_olds]
        | some g => simp_all
      · simp only at hk' ⊢
        have nxt : ∀ {v : V} {ρ : Rho} {h' : Hp}, dstR n a.o (fun ρ h => seqV C n all ws K l (Nat.succ k) ρ h (oldsV rs)) v ρ h' → dstR n a.o (fun ρ h => seqR C n all ws K l (Nat.succ k) ρ h (plainRs rs)) v ρ h' := fun H =>
          dstR_mono (fun ρ h hh => by have := seqV_of l (hi.old h) hh; grind[plain_olds]) H
        cases hw : wantC n all a.o with
        | none =>
          grind[stabV_of,wrR_mono]
        | some g =>
          rw [hw] at hk'
          simp only at hk' ⊢
          cases hic : isCall a.o with
          | false => simp_all
          | true =>
            rw [hic] at hk'
            refine stabV_of hi (fun H => oP_mono H fun b H => oP_mono H fun x H => ?_) hk'
            cases x with
            | none => simp_all
            | some y => exact cP.mono H (by simp_all)
/-- What is left of such a region. -/
def drawV (C : Cfg) (n : Nat) (all : List Oper) (K : Rho → Hp → Prop) (ρ : Rho) (h : Hp) : Prop :=
  seqV C n all (wsOf (items all 0 [])) K (order (items all 0 []) (wsOf (items all 0 [])) (wsOf (items all 0 [])) 0) 0 ρ h []
theorem drawV_of {C : Cfg} {n : Nat} {all : List Oper} {K : Rho → Hp → Prop} {ρ : Rho} {h : Hp} (hk : drawV C n all K ρ h) : drawR C n all K ρ h := seqV_of (rs := []) _ (by intro r hr; cases hr) hk
end

/-! ### code -/
noncomputable def findJ (tb : List (Nat × List Nat)) (k : Nat) : Option (List Nat) :=
  List.rec (motive := fun _ => Option (List Nat)) none (fun x _ ih => Bool.rec (motive := fun _ => Option (List Nat)) ih (some x.2) (Nat.beq x.1 k)) tb
/-- Code that is left whole, told by the values that live. -/
noncomputable def jV (C : Cfg) (n : Nat) (live : List Nat) (c : Code) (s : XQ) (ρ : Rho) (h : Hp) : Prop :=
  ∀ ρ' : Rho, List.rec (motive := fun _ => Prop) (Wp C n c s ρ' h) (fun i _ ih => ρ' i = ρ i → ih) live
theorem jV_of {C : Cfg} {n : Nat} {live : List Nat} {c : Code} {s : XQ} {ρ : Rho} {h : Hp} (hj : jV C n live c s ρ h) : Wp C n c s ρ h := by
  have := hj ρ
  clear hj
  induction live <;> grind
/-- What is left of code. p, e: where it stands in the body, from the top, the first step told by the lowest bit; v: what follows, opened; s: the same, left whole. -/
noncomputable def codeV (C : Cfg) (n : Nat) (tb : List (Nat × List Nat)) (c : Code) : Nat → Nat → XQ → XQ → Rho → Hp → Prop :=
  Code.rec (motive := fun _ => Nat → Nat → XQ → XQ → Rho → Hp → Prop)
    (fun _ _ v _ => v .normal)
    (fun _ ops d _ _ v _ => match d with
      | false => regV C n ops.toList (fun ρ h => v .normal ρ h) ops.toList 0
      | true => match drawable ops.toList with
        | true => drawV C n ops.toList (fun ρ h => v .normal ρ h)
        | false => fun _ _ => False)
    (fun _ b iha ihb p e v s => iha p (Nat.mul 2 e) (andThen (Option.rec (motive := fun _ => Rho → Hp → Prop) (ihb (Nat.add p e) (Nat.mul 2 e) v s) (fun live => jV C n live b s) (findJ tb (Nat.mul 2 (Nat.add (Nat.add p e) (Nat.mul 2 e))))) v) (andThen (Wp C n b s) s))
    (fun c _ _ iha ihb p e v s ρ h => Option.rec (motive := fun _ => Prop) False (fun x => bP x (iha p (Nat.mul 2 e) v s ρ h) (ihb (Nat.add p e) (Nat.mul 2 e) v s ρ h)) ((evO c).f (.fn ρ []) h))
    (fun id _ ih p e v s => ih p (Nat.mul 2 e) (blockQ id v) (blockQ id s))
    (fun c _ p e _ s => Option.rec (motive := fun _ => Rho → Hp → Prop) (fun _ _ => False) (fun live => jV C n live (.loop c) s) (findJ tb (Nat.succ (Nat.mul 2 (Nat.add p e)))))
    (fun _ _ _ _ _ _ _ _ _ _ _ _ => False)
    (fun id _ _ v _ => v (.exit id))
    (fun _ _ _ _ _ _ _ _ => False)
    (fun _ _ _ _ _ _ _ => False)
    (fun _ _ _ _ _ _ _ => False)
    (fun _ _ v _ => v .ret)
    (fun _ _ _ _ _ _ _ => False) c
theorem andThen_imp {k k' : Rho → Hp → Prop} {v s : XQ} (hk : ∀ ρ h, k ρ h → k' ρ h) (hq : ∀ x ρ h, v x ρ h → s x ρ h) : ∀ x ρ h, andThen k v x ρ h → andThen k' s x ρ h
  | .normal, _, _, hh => hk _ _ hh
  | .exit _, _, _, hh => hq _ _ _ hh
  | .ret, _, _, hh => hq _ _ _ hh
theorem blockQ_imp {id : Nat} {v s : XQ} (hq : ∀ x ρ h, v x ρ h → s x ρ h) : ∀ x ρ h, blockQ id v x ρ h → blockQ id s x ρ h
  | .normal, _, _, hh => hq _ _ _ hh
  | .ret, _, _, hh => hq _ _ _ hh
  | .exit i, ρ, h, hh => by
    simp only [blockQ] at hh ⊢
    cases hb : Nat.beq i id <;> simp_all
theorem codeV_of {C : Cfg} {n : Nat} {tb : List (Nat × List Nat)} : ∀ (c : Code) {p e : Nat} {v s : XQ} {ρ : Rho} {h : Hp}, (∀ x ρ h, v x ρ h → s x ρ h) → codeV C n tb c p e v s ρ h → Wp C n c s ρ h
  | .skip, _, _, _, _, _, _, hq, hk => .skip (hq _ _ _ hk)
  | .region _ ops false, _, _, v, _, ρ, h, hq, hk => by
    have hk' : regV C n ops.toList (fun ρ h => v .normal ρ h) ops.toList 0 ρ h := hk
    exact (Wp.region (regV_of _ 0 hk')).mono hq
  | .region _ ops true, _, _, v, _, ρ, h, hq, hk => by
    have hk' : (match drawable ops.toList with
        | true => drawV C n ops.toList (fun ρ h => v .normal ρ h)
        | false => fun _ _ => False) ρ h := hk
    cases hd : drawable ops.toList with
    | true => rw [hd] at hk'; exact (Wp.draw hd (drawV_of hk')).mono hq
    | false => simp_all
  | .seq a b, p, e, v, s, ρ, h, hq, hk => by
    refine .seq (codeV_of a (andThen_imp ?_ hq) hk)
    intro ρ h hh
    cases hf : findJ tb (Nat.mul 2 (Nat.add (Nat.add p e) (Nat.mul 2 e))) with
    | none => rw [hf] at hh; exact codeV_of b hq hh
    | some live => rw [hf] at hh; exact jV_of hh
  | .cond c a b, p, e, v, s, ρ, h, hq, hk => by
    have hk' : oP ((evO c).f (.fn ρ []) h) (fun x => bP x (codeV C n tb a p (Nat.mul 2 e) v s ρ h) (codeV C n tb b (Nat.add p e) (Nat.mul 2 e) v s ρ h)) := hk
    obtain ⟨x, hv, hk'⟩ := oP_eq.1 hk'
    exact .cond (oP_mk hv (bM hk' (codeV_of a hq) (codeV_of b hq)))
  | .block id c, _, _, _, _, _, _, hq, hk => .block (codeV_of c (blockQ_imp hq) hk)
  | .loop c, p, e, v, s, ρ, h, hq, hk => by
    have hk' : (Option.rec (motive := fun _ => Rho → Hp → Prop) (fun _ _ => False) (fun live => jV C n live (.loop c) s) (findJ tb (Nat.succ (Nat.mul 2 (Nat.add p e)))) : Rho → Hp → Prop) ρ h := hk
    cases hf : findJ tb (Nat.succ (Nat.mul 2 (Nat.add p e))) with
    | none => simp_all
    | some live => rw [hf] at hk'; grind[jV_of]
  | .exit id, _, _, _, _, _, _, hq, hk => .exit (hq _ _ _ hk)
  | .ret, _, _, _, _, _, _, hq, hk => .ret (hq _ _ _ hk)
  | .rangeFunc .., _, _, _, _, _, _, _, hk => hk.elim
  | .scope _, _, _, _, _, _, _, _, hk => hk.elim
  | .label _, _, _, _, _, _, _, _, hk => hk.elim
  | .goto _, _, _, _, _, _, _, _, hk => hk.elim
  | .refuse _, _, _, _, _, _, _, _, hk => hk.elim

/-! ### places in a body -/
/-- A placeV in a function's code, and what follows there. -/
structure PlV where
  c : Code
  v : XQ
  s : XQ
  p : Nat
  e : Nat
  ks : List (Rho → Hp → Prop)
def headK (l : List (Rho → Hp → Prop)) : Rho → Hp → Prop := match l with
  | k :: _ => k
  | [] => fun _ _ => False
noncomputable def stepPl (C : Cfg) (n : Nat) (tb : List (Nat × List Nat)) (a : PlV) (b : Bool) : PlV := match a.c, b with
  | .seq x y, false => { c := x, v := andThen (Option.rec (motive := fun _ => Rho → Hp → Prop) (codeV C n tb y (Nat.add a.p a.e) (Nat.mul 2 a.e) a.v a.s) (fun live => jV C n live y a.s) (findJ tb (Nat.mul 2 (Nat.add (Nat.add a.p a.e) (Nat.mul 2 a.e))))) a.v, s := andThen (Wp C n y a.s) a.s, p := a.p, e := Nat.mul 2 a.e, ks := a.ks }
  | .seq _ y, true => { c := y, v := a.v, s := a.s, p := Nat.add a.p a.e, e := Nat.mul 2 a.e, ks := a.ks }
  | .cond _ x _, false => { c := x, v := a.v, s := a.s, p := a.p, e := Nat.mul 2 a.e, ks := a.ks }
  | .cond _ _ y, true => { c := y, v := a.v, s := a.s, p := Nat.add a.p a.e, e := Nat.mul 2 a.e, ks := a.ks }
  | .block id x, false => { c := x, v := blockQ id a.v, s := blockQ id a.s, p := a.p, e := Nat.mul 2 a.e, ks := a.ks }
  | .loop x, false => { c := x, v := andThen (headK a.ks) a.v, s := andThen (headK a.ks) a.s, p := a.p, e := Nat.mul 2 a.e, ks := a.ks.tail }
  | _, _ => a
noncomputable def goPl (C : Cfg) (n : Nat) (tb : List (Nat × List Nat)) (bs : List Bool) : PlV → PlV :=
  List.rec (motive := fun _ => PlV → PlV) (fun a => a) (fun b _ ih a => ih (stepPl C n tb a b)) bs
def bitsN (k : Nat) : List Bool := (Nat.rec (motive := fun _ => Nat → List Bool) (fun _ => []) (fun _ ih p => match Nat.ble p 1 with
  | true => []
  | false => Nat.beq (Nat.mod p 2) 1 :: ih (Nat.div p 2)) 400 : Nat → List Bool) k
/-- What a function gives. -/
def resV (Q : V → Hp → Prop) (ρ : Rho) (h : Hp) (l : List ResultVar) : List V → Prop :=
  List.rec (motive := fun _ => List V → Prop) (fun acc => Q (tupleOf acc.reverse) h) (fun r _ ih acc => match r with
    | .tmp i => ih (ρ i :: acc)
    | .cell a ty => oP ((resC (.cell a ty)).f (.fn ρ []) h) fun v => ih (v :: acc)) l
theorem resV_of {Q : V → Hp → Prop} {ρ : Rho} {h : Hp} : ∀ {l : List ResultVar} {acc : List V}, resV Q ρ h l acc → oP (resVs (.fn ρ []) h l) fun vs => Q (tupleOf (acc.reverse ++ vs)) h
  | [], acc, hh => by
    grind[tupleOf,resVs,oP_some,oP,resV]
  | .tmp i :: l, acc, hh => by
    have hh' : resV Q ρ h l (ρ i :: acc) := hh
    obtain ⟨vs, h1, h2⟩ := oP_eq.1 (resV_of hh')
    refine oP_mk (show resVs (.fn ρ []) h (.tmp i :: l) = some (ρ i :: vs) from ?_) ?_
    · show oB (some (ρ i)) _ = _
      simp_all
    simp_all
  | .cell a ty :: l, acc, hh => by
    have hh' : oP ((resC (.cell a ty)).f (.fn ρ []) h) fun v => resV Q ρ h l (v :: acc) := hh
    obtain ⟨v, h0, hh'⟩ := oP_eq.1 hh'
    obtain ⟨vs, h1, h2⟩ := oP_eq.1 (resV_of hh')
    simp_all[oP_mk,resVs,oB,resC]
def bodyV (l : List ResultVar) (Q : V → Hp → Prop) : XQ
  | .exit _, _, _ => False
  | _, ρ, h => resV Q ρ h l []
theorem bodyV_of {l : List ResultVar} {Q : V → Hp → Prop} : ∀ x ρ h, bodyV l Q x ρ h → bodyQ l Q x ρ h
  | .exit _, _, _, hh => hh
  | .normal, _, _, hh => by grind[resV_of,resV,bodyQ,retP,bodyV]
  | .ret, _, _, hh => by grind[resV_of,resV,bodyQ,retP,bodyV]
noncomputable def rootV (fn : Func) (ks : List (Rho → Hp → Prop)) (Q : V → Hp → Prop) : PlV := { c := bodyOf fn, v := bodyV fn.results.toList Q, s := bodyQ fn.results.toList Q, p := 0, e := 1, ks }
noncomputable def placeV (C : Cfg) (fn : Func) (tb : List (Nat × List Nat)) (k : Nat) (ks : List (Rho → Hp → Prop)) (Q : V → Hp → Prop) : PlV := goPl C fn.ntmps tb (bitsN k) (rootV fn ks Q)
/-- A placeV in a function's code, left whole. -/
noncomputable def WA (C : Cfg) (fn : Func) (tb : List (Nat × List Nat)) (k : Nat) (ks : List (Rho → Hp → Prop)) (Q : V → Hp → Prop) (ρ : Rho) (h : Hp) : Prop := Wp C fn.ntmps (placeV C fn tb k ks Q).c (placeV C fn tb k ks Q).s ρ h
/-- The same, opened. -/
noncomputable def VA (C : Cfg) (n : Nat) (tb : List (Nat × List Nat)) (a : PlV) (ρ : Rho) (h : Hp) : Prop := codeV C n tb a.c a.p a.e a.v a.s ρ h
def PlV.ok (a : PlV) : Prop := ∀ x ρ h, a.v x ρ h → a.s x ρ h
theorem stepPl_ok {C : Cfg} {n : Nat} {tb : List (Nat × List Nat)} {a : PlV} (ha : a.ok) (b : Bool) : (stepPl C n tb a b).ok := by
  unfold stepPl
  split
  · refine andThen_imp (fun ρ h hh => ?_) ha
    cases hf : findJ tb (Nat.mul 2 (Nat.add (Nat.add a.p a.e) (Nat.mul 2 a.e))) with
    | none => rw [hf] at hh; exact codeV_of _ ha hh
    | some live => rw [hf] at hh; exact jV_of hh
  · exact ha
  · exact ha
  · exact ha
  · exact blockQ_imp ha
  · exact andThen_imp (by simp_all) ha
  · exact ha
theorem goPl_ok {C : Cfg} {n : Nat} {tb : List (Nat × List Nat)} : ∀ {bs : List Bool} {a : PlV}, a.ok → (goPl C n tb bs a).ok
  | [], _, ha => ha
  | b :: bs, _, ha => goPl_ok (bs := bs) (stepPl_ok ha b)
theorem placeV_ok {C : Cfg} {fn : Func} {tb : List (Nat × List Nat)} {k : Nat} {ks : List (Rho → Hp → Prop)} {Q : V → Hp → Prop} : (placeV C fn tb k ks Q).ok := goPl_ok bodyV_of
theorem WA.of {C : Cfg} {fn : Func} {tb : List (Nat × List Nat)} {k : Nat} {ks : List (Rho → Hp → Prop)} {Q : V → Hp → Prop} {ρ : Rho} {h : Hp} {P : Prop}
    (e : VA C fn.ntmps tb (placeV C fn tb k ks Q) ρ h = P) (H : P) : WA C fn tb k ks Q ρ h := codeV_of _ placeV_ok (e.mpr H)
def noNext (c : Code) : Bool := match c with
  | .seq (.region _ r0 false) _ => match r0.toList with
    | o :: _ => match o.op with
      | .next _ false => false
      | _ => true
    | [] => true
  | _ => true
theorem noNext_none {n : Nat} {c : Code} (h : noNext c = true) : fillOf n c = none := by
  cases hf : fillOf n c with
  | none => rfl
  | some F =>
    obtain ⟨_, _, _, _, _, _, _, o1, _, _, _, _, _, _, _, rfl, e0, _, _, _, g0, _⟩ := fillOf_eq hf
    obtain ⟨h1, _⟩ := r0_eq g0
    simp only [noNext, e0, h1] at h
    cases h
def isLoop (c : Code) : Bool := match c with
  | .loop c => noNext c
  | _ => false
noncomputable def fillAt (n : Nat) (c : Code) : Option Fill := match c with
  | .loop c => fillOf n c
  | _ => none
/-- One round of a loop, opened. (An inductive one: so the elaborator never opens it.) -/
inductive LA (C : Cfg) (fn : Func) (tb : List (Nat × List Nat)) (k : Nat) (ks : List (Rho → Hp → Prop)) (Q : V → Hp → Prop) (K : Rho → Hp → Prop) (ρ : Rho) (h : Hp) : Prop
  | mk (hv : VA C fn.ntmps tb (stepPl C fn.ntmps tb { placeV C fn tb k ks Q with ks := [K] } false) ρ h)
theorem LA.of {C : Cfg} {fn : Func} {tb : List (Nat × List Nat)} {k : Nat} {ks : List (Rho → Hp → Prop)} {Q : V → Hp → Prop} {K : Rho → Hp → Prop} {ρ : Rho} {h : Hp} {P : Prop}
    (e : VA C fn.ntmps tb (stepPl C fn.ntmps tb { placeV C fn tb k ks Q with ks := [K] } false) ρ h = P) (H : P) : LA C fn tb k ks Q K ρ h := ⟨e.mpr H⟩
/-- A loop by what holds at its head, and by a number that falls. -/
theorem WA.loop {C : Cfg} {fn : Func} {tb : List (Nat × List Nat)} {k : Nat} {ks : List (Rho → Hp → Prop)} {Q : V → Hp → Prop} {ρ : Rho} {h : Hp} (I : Nat → Rho → Hp → Prop) {m : Nat}
    (hl : isLoop (placeV C fn tb k ks Q).c = true) (hk : (placeV C fn tb k ks Q).ks = [])
    (hI : ∀ m ρ h, I m ρ h → LA C fn tb k ks Q (fun ρ' h' => ∃ m', m' < m ∧ I m' ρ' h') ρ h) (h0 : I m ρ h) : WA C fn tb k ks Q ρ h := by
  unfold WA
  have hI := fun m ρ h hi => (hI m ρ h hi).1
  have hok : (placeV C fn tb k ks Q).ok := placeV_ok
  generalize placeV C fn tb k ks Q = a at *
  obtain ⟨c, v, s, p, e, ks'⟩ := a
  cases c <;> simp only [isLoop] at hl <;> try exact absurd hl (by decide)
  rename_i c
  refine Wp.loopI I (fun m ρ h hi => ?_) h0 (noNext_none hl)
  have := hI m ρ h hi
  exact codeV_of c (andThen_imp (fun _ _ hh => hh) hok) this
/-- A loop that fills a map, by what the plain machine says of it. -/
theorem WA.fill {C : Cfg} {fn : Func} {tb : List (Nat × List Nat)} {k : Nat} {ks : List (Rho → Hp → Prop)} {Q : V → Hp → Prop} {ρ ρ' : Rho} {h h' : Hp} {F : Fill} {x : X}
    (hl : fillAt fn.ntmps (placeV C fn tb k ks Q).c = some F) (hv : fillC F (.fn ρ []) h = some (x, .fn ρ' [], h')) (H : (placeV C fn tb k ks Q).v x ρ' h') : WA C fn tb k ks Q ρ h := by
  unfold WA
  have hok : (placeV C fn tb k ks Q).ok := placeV_ok
  generalize placeV C fn tb k ks Q = a at *
  obtain ⟨c, v, s, p, e, ks'⟩ := a
  cases c <;> simp only [fillAt] at hl <;> try cases hl
  exact Wp.fill hl hv (hok _ _ _ H)
/-- A call of a function, by its body. -/
theorem cP.vc {C : Cfg} (hs : C.start = startF) {f : Nat} {fn : Func} {tb : List (Nat × List Nat)} {args : List V} {h : Hp} {Q : V → Hp → Prop} {P : Prop} (hf : P0.funcs[f]? = some fn) (hb : fn.body = some (bodyOf fn))
    (hk : C.K f args h = none) (hle : Nat.ble args.length fn.ntmps = true) (e : VA C fn.ntmps tb (rootV fn [] Q) (argsR args) h = P) (H : P) : cP C f args h Q :=
  cP.func hs hf hb hk (Nat.le_of_ble_eq_true hle) (codeV_of _ bodyV_of (e.mpr H))
end Go.Proofs.YtlbdcjnhlkkfeaaGreatDoor.Hx
