/- What code comes to, said of the values by number: the rules by which a function of the program is walked over plain values. -/
import Derived.Test.YtlbdcjnhlkkfeaaGreatDoorHxV
namespace Go.Proofs.YtlbdcjnhlkkfeaaGreatDoor.Hx

abbrev Rho := Nat → V
/-- A call comes to a value and a heap. -/
def Ev (C : Cfg) (f : Nat) (args : List V) (h : Hp) (v : V) (h' : Hp) : Prop := ∃ m d, callN C m d f args h = some (v, h')
/-- Code comes to an end at which something holds. -/
-- (An inductive one: so the kernel never opens it.)
inductive Wp (C : Cfg) (n : Nat) (c : Code) (Q : X → Rho → Hp → Prop) (ρ : Rho) (h : Hp) : Prop
  | mk (hw : ∃ m d x ρ' h', (codeC n c).f (callN C m d) m (.fn ρ []) h = some (x, .fn ρ' [], h') ∧ Q x ρ' h')
/-- What is left of a value that may be missing. -/
def oP {α : Type} (x : Option α) (k : α → Prop) : Prop := Option.rec (motive := fun _ => Prop) False k x
theorem oP_some {α : Type} (a : α) (k : α → Prop) : oP (some a) k = k a := rfl
theorem oP_none {α : Type} (k : α → Prop) : oP none k = False := rfl
theorem oP_eq {α : Type} {x : Option α} {k : α → Prop} : oP x k ↔ ∃ a, x = some a ∧ k a := by
  cases x with
  | none => grind[oP]
  | some a => exact ⟨fun h => ⟨a, rfl, h⟩, fun ⟨_, h, h'⟩ => by grind[oP]⟩
theorem oP_mk {α : Type} {x : Option α} {k : α → Prop} {a : α} (h : x = some a) (h' : k a) : oP x k := by subst h; exact h'
/-- A call, and what is left behind it. -/
def cP (C : Cfg) (f : Nat) (args : List V) (h : Hp) (k : V → Hp → Prop) : Prop := ∃ v h', Ev C f args h v h' ∧ k v h'
def bP (v : V) (a b : Prop) : Prop := match v with
  | .bool x => Bool.rec (motive := fun _ => Prop) b a x
  | _ => False
theorem bP_bool (x : Bool) (a b : Prop) : bP (.bool x) a b = if x = true then a else b := by cases x <;> rfl

section
variable {C : Cfg} {n : Nat} {Q : X → Rho → Hp → Prop} {ρ : Rho} {h : Hp}
theorem Wp.mono {c : Code} {Q' : X → Rho → Hp → Prop} (hw : Wp C n c Q ρ h) (hq : ∀ x ρ h, Q x ρ h → Q' x ρ h) : Wp C n c Q' ρ h := by
  obtain ⟨m, d, x, ρ', h', h1, h2⟩ := hw
  exact ⟨m, d, x, ρ', h', h1, by simp_all⟩
theorem Wp.skip (hq : Q .normal ρ h) : Wp C n .skip Q ρ h := ⟨0, 0, .normal, ρ, h, rfl, hq⟩
theorem Wp.ret (hq : Q .ret ρ h) : Wp C n .ret Q ρ h := ⟨0, 0, .ret, ρ, h, rfl, hq⟩
theorem Wp.exit {id : Nat} (hq : Q (.exit id) ρ h) : Wp C n (.exit id) Q ρ h := ⟨0, 0, .exit id, ρ, h, rfl, hq⟩
/-- What follows, where nothing was left early. -/
def andThen (k : Rho → Hp → Prop) (Q : X → Rho → Hp → Prop) : X → Rho → Hp → Prop
  | .normal, ρ, h => k ρ h
  | x, ρ, h => Q x ρ h
theorem callN_lift {m d m' d' : Nat} (hm : m ≤ m') (hd : d ≤ d') {c : Code} {t : Tm} {h : Hp} {r : X × Tm × Hp} (hv : (codeC n c).f (callN C m d) m t h = some r) : (codeC n c).f (callN C m' d') m' t h = some r :=
  codeC_mono (callN_mono hm hd) hm c hv
theorem Wp.seq {a b : Code} (hw : Wp C n a (andThen (Wp C n b Q) Q) ρ h) : Wp C n (.seq a b) Q ρ h := by
  obtain ⟨m, d, x, ρ', h', h1, h2⟩ := hw
  cases x with
  | normal =>
    obtain ⟨m', d', x', ρ'', h'', h3, h4⟩ := h2
    refine ⟨max m m', max d d', x', ρ'', h'', ?_, h4⟩
    grind[codeC,callN_lift,Nat.le_max_left,seqK,Nat.le_max_right]
  | exit id => exact ⟨m, d, .exit id, ρ', h', by grind[codeC,seqK], h2⟩
  | ret => exact ⟨m, d, .ret, ρ', h', by grind[codeC,seqK], h2⟩
theorem Wp.cond {e : Operand} {a b : Code} (hw : oP ((evO e).f (.fn ρ []) h) fun v => bP v (Wp C n a Q ρ h) (Wp C n b Q ρ h)) : Wp C n (.cond e a b) Q ρ h := by
  obtain ⟨v, hv, hw⟩ := oP_eq.1 hw
  unfold bP at hw
  split at hw
  · rename_i x
    cases x with
    | true =>
      obtain ⟨m, d, x, ρ', h', h1, h2⟩ := hw
      exact ⟨m, d, x, ρ', h', by grind[codeC,oB_eq], h2⟩
    | false =>
      obtain ⟨m, d, x, ρ', h', h1, h2⟩ := hw
      exact ⟨m, d, x, ρ', h', by grind[codeC,oB_eq], h2⟩
  simp_all
/-- What follows behind a block. -/
def blockQ (id : Nat) (Q : X → Rho → Hp → Prop) : X → Rho → Hp → Prop
  | .exit i, ρ, h => Bool.rec (motive := fun _ => Prop) (Q (.exit i) ρ h) (Q .normal ρ h) (Nat.beq i id)
  | x, ρ, h => Q x ρ h
theorem Wp.block {id : Nat} {c : Code} (hw : Wp C n c (blockQ id Q) ρ h) : Wp C n (.block id c) Q ρ h := by
  obtain ⟨m, d, x, ρ', h', h1, h2⟩ := hw
  cases x with
  | normal => exact ⟨m, d, .normal, ρ', h', by grind[codeC,blockK], h2⟩
  | ret => exact ⟨m, d, .ret, ρ', h', by grind[codeC,blockK], h2⟩
  | exit i =>
    simp only [blockQ] at h2
    cases hb : Nat.beq i id with
    | true => rw [hb] at h2; exact ⟨m, d, .normal, ρ', h', by simp_all[codeC,blockK], h2⟩
    | false => rw [hb] at h2; exact ⟨m, d, .exit i, ρ', h', by simp_all[codeC,blockK], h2⟩
theorem Wp.loop {c : Code} (hf : fillOf n c = none) (hw : Wp C n c (andThen (Wp C n (.loop c) Q) Q) ρ h) : Wp C n (.loop c) Q ρ h := by
  obtain ⟨m, d, x, ρ', h', h1, h2⟩ := hw
  cases x with
  | normal =>
    obtain ⟨m', d', x', ρ'', h'', h3, h4⟩ := h2
    refine ⟨max m m' + 1, max d d', x', ρ'', h'', ?_, h4⟩
    have e1 := callN_lift (C := C) (n := n) (Nat.le_trans (Nat.le_max_left m m') (Nat.le_succ _)) (Nat.le_max_left d d') h1
    simp only [codeC, hf] at h3 ⊢
    show seqK _ _ = _
    simp only [e1, seqK]
    -- the rounds that are left
    have key : ∀ (k k' : Nat) (t : Tm) (h : Hp) (r : X × Tm × Hp), k ≤ k' → loopN (fun t h => (codeC n c).f (callN C m' d') m' t h) k t h = some r →
        loopN (fun t h => (codeC n c).f (callN C (max m m' + 1) (max d d')) (max m m' + 1) t h) k' t h = some r := by
      intro k
      induction k with
      | zero => intro k' t h r _ hv; cases hv
      | succ k ih =>
        intro k' t h r hk hv
        obtain ⟨k', rfl⟩ : ∃ j, k' = j + 1 := ⟨k' - 1, by omega⟩
        have hv' : seqK ((codeC n c).f (callN C m' d') m' t h) (loopN (fun t h => (codeC n c).f (callN C m' d') m' t h) k) = some r := hv
        show seqK ((codeC n c).f (callN C (max m m' + 1) (max d d')) (max m m' + 1) t h) (loopN (fun t h => (codeC n c).f (callN C (max m m' + 1) (max d d')) (max m m' + 1) t h) k') = some r
        have hl : ∀ {r}, (codeC n c).f (callN C m' d') m' t h = some r → (codeC n c).f (callN C (max m m' + 1) (max d d')) (max m m' + 1) t h = some r :=
          fun hr => callN_lift (by omega) (Nat.le_max_right d d') hr
        rcases seqK_eq hv' with ⟨t1, h1, e1, e2⟩ | ⟨e1, e2⟩
        · rw [hl e1]; exact ih k' t1 h1 r (by omega) e2
        · rw [hl e1]
          obtain ⟨x', t', h'⟩ := r
          cases x' with
          | normal => simp_all
          | exit id => rfl
          | ret => rfl
    exact key m' (max m m') _ _ _ (Nat.le_max_right m m') h3
  | exit id =>
    refine ⟨m + 1, d, .exit id, ρ', h', ?_, h2⟩
    have e1 := callN_lift (C := C) (n := n) (Nat.le_succ m) (Nat.le_refl d) h1
    simp only [codeC, hf]
    show seqK _ _ = _
    grind[seqK]
  | ret =>
    refine ⟨m + 1, d, .ret, ρ', h', ?_, h2⟩
    have e1 := callN_lift (C := C) (n := n) (Nat.le_succ m) (Nat.le_refl d) h1
    simp only [codeC, hf]
    show seqK _ _ = _
    grind[seqK]
/-- A loop that fills a map. -/
theorem Wp.fill {c : Code} {F : Fill} (hf : fillOf n c = some F) {x : X} {ρ' : Rho} {h' : Hp} (hv : fillC F (.fn ρ []) h = some (x, .fn ρ' [], h')) (hq : Q x ρ' h') : Wp C n (.loop c) Q ρ h :=
  ⟨0, 0, x, ρ', h', by simp only [codeC, hf]; exact hv, hq⟩
/-- A loop by what holds at its head, and by a number that falls. -/
theorem Wp.loopI {c : Code} (I : Nat → Rho → Hp → Prop) (hI : ∀ k ρ h, I k ρ h → Wp C n c (andThen (fun ρ' h' => ∃ k', k' < k ∧ I k' ρ' h') Q) ρ h) {k : Nat} (h0 : I k ρ h) (hf : fillOf n c = none := by rfl) : Wp C n (.loop c) Q ρ h := by
  induction k using Nat.strongRecOn generalizing ρ h with
  | _ k ih =>
    refine .loop hf ((hI k ρ h h0).mono fun x ρ' h' hq => ?_)
    cases x with
    | normal => obtain ⟨k', hk, hi⟩ := hq; exact ih k' hk hi
    | exit id => exact hq
    | ret => exact hq

/-! ### regions -/
def dstR (n : Nat) (o : Oper) (K : Rho → Hp → Prop) : V → Rho → Hp → Prop := match o.dst with
  | none => fun _ ρ h => K ρ h
  | some d => match Nat.blt d n with
    | true => fun v ρ h => K (rset ρ d v) h
    | false => fun _ _ _ => False
def valOf : R → Option (V × Hp)
  | .val v h => some (v, h)
  | .call _ _ => none
def callOf : R → Option (Nat × List V)
  | .call f args => some (f, args)
  | .val _ _ => none
/-- Is it a call? -/
def isCall (o : Oper) : Bool := match o.op with
  | .call c => match c.callee with
    | .value _ | .invoke _ _ => true
    | .builtin _ => false
  | _ => false
/-- An operation that changes the heap, or a call. -/
def wrR (C : Cfg) (o : Oper) (K : V → Rho → Hp → Prop) : Rho → Hp → Prop := match isCall o with
  | true => fun ρ h => oP (oB ((writeC o).f (.fn ρ []) h) callOf) fun x => cP C x.1 x.2 h fun v h' => K v ρ h'
  | false => fun ρ h => oP (oB ((writeC o).f (.fn ρ []) h) valOf) fun x => K x.1 ρ x.2
/-- An operation, and what is left behind it. -/
def opR (C : Cfg) (o : Oper) (K : V → Rho → Hp → Prop) : Rho → Hp → Prop := match cls o with
  | 0 => fun ρ h => oP ((pureC o).f (.fn ρ []) h) fun v => K v ρ h
  | 1 => fun ρ h => oP ((allocC o).f (.fn ρ [])) fun r => K (r.2 h.next) ρ (h.new r.1)
  | _ => wrR C o K
/-! an operation that is carried out only if -/
noncomputable def gV (b : Bool) (x : Option V) : Option V := Bool.rec (motive := fun _ => Option V) (some .undef) x b
noncomputable def gH (b : Bool) (h : Hp) (x : Option (V × Hp)) : Option (V × Hp) := Bool.rec (motive := fun _ => Option (V × Hp)) (some (.undef, h)) x b
noncomputable def gC (b : Bool) (x : Option (Nat × List V)) : Option (Option (Nat × List V)) := Bool.rec (motive := fun _ => Option (Option (Nat × List V))) (some none) (oB x fun y => some (some y)) b
def cgP (C : Cfg) (x : Option (Nat × List V)) (h : Hp) (K : V → Hp → Prop) : Prop := match x with
  | none => K .undef h
  | some y => cP C y.1 y.2 h K
def gdR (C : Cfg) (o : Oper) (b : Bool) (K : V → Rho → Hp → Prop) (ρ : Rho) (h : Hp) : Prop := match cls o with
  | 0 => oP (gV b ((pureC o).f (.fn ρ []) h)) fun v => K v ρ h
  | 1 => oP (gH b h (oB ((allocC o).f (.fn ρ [])) fun r => some (r.2 h.next, h.new r.1))) fun x => K x.1 ρ x.2
  | _ => match isCall o with
    | true => oP (gC b (oB ((writeC o).f (.fn ρ []) h) callOf)) fun x => cgP C x h fun v h' => K v ρ h'
    | false => oP (gH b h (oB ((writeC o).f (.fn ρ []) h) valOf)) fun x => K x.1 ρ x.2
def stepR (C : Cfg) (n : Nat) (all : List Oper) (o : Oper) (K : Rho → Hp → Prop) : Rho → Hp → Prop := match deferC o with
  | some _ => fun _ _ => False
  | none => match wantC n all o with
    | none => opR C o (dstR n o K)
    | some g => fun ρ h => oP (g.f (.fn ρ [])) fun b => gdR C o b (dstR n o K) ρ h
/-- (By the recursor itself: so the kernel opens it one operation at a time.) -/
noncomputable def regR (C : Cfg) (n : Nat) (all : List Oper) (K : Rho → Hp → Prop) (os : List Oper) : Rho → Hp → Prop :=
  List.rec (motive := fun _ => Rho → Hp → Prop) K (fun o _ ih => stepR C n all o ih) os
theorem regR_nil (C : Cfg) (n : Nat) (all : List Oper) (K : Rho → Hp → Prop) : regR C n all K [] = K := rfl
theorem regR_cons (C : Cfg) (n : Nat) (all : List Oper) (K : Rho → Hp → Prop) (o : Oper) (os : List Oper) : regR C n all K (o :: os) = stepR C n all o (regR C n all K os) := rfl
theorem dstR_of {o : Oper} {K : Rho → Hp → Prop} {v : V} (hk : dstR n o K v ρ h) : ∃ d, dstC n o = some d ∧ ∃ ρ', d.f (.fn ρ []) v = .fn ρ' [] ∧ K ρ' h := by
  unfold dstR at hk
  unfold dstC
  cases ho : o.dst with
  | none => simp_all
  | some d =>
    rw [ho] at hk
    simp only at hk ⊢
    cases hb : Nat.blt d n with
    | true => rw [hb] at hk; exact ⟨_, rfl, _, rfl, hk⟩
    | false => simp_all
/-- Some fuel is enough. -/
def OpGo (C : Cfg) (o : Oper) (K : V → Rho → Hp → Prop) (ρ : Rho) (h : Hp) : Prop := ∃ m d v h', (opC o).f (callN C m d) (.fn ρ []) h = some (v, h') ∧ K v ρ h'
theorem wrR_of {o : Oper} {K : V → Rho → Hp → Prop} (hk : wrR C o K ρ h) : (∃ v h', (writeC o).f (.fn ρ []) h = some (.val v h') ∧ K v ρ h') ∨ ∃ f args, (writeC o).f (.fn ρ []) h = some (.call f args) ∧ cP C f args h fun v h' => K v ρ h' := by
  unfold wrR at hk
  cases hb : isCall o
  all_goals rw [hb] at hk
  rotate_left
  · obtain ⟨x, h1, h2⟩ := oP_eq.1 hk
    rw [oB_eq] at h1
    obtain ⟨r, h3, h4⟩ := h1
    cases r with
    | val v h' => cases h4
    | call f args => cases h4; grind
  · obtain ⟨x, h1, h2⟩ := oP_eq.1 hk
    rw [oB_eq] at h1
    obtain ⟨r, h3, h4⟩ := h1
    cases r with
    | val v h' => cases h4; grind
    | call f args => cases h4
theorem opR_of {o : Oper} {K : V → Rho → Hp → Prop} (hk : opR C o K ρ h) : OpGo C o K ρ h := by
  by_cases hc0 : cls o = 0
  · have hk' : oP ((pureC o).f (.fn ρ []) h) (fun v => K v ρ h) := by unfold opR at hk; rw [hc0] at hk; exact hk
    obtain ⟨v, h1, h2⟩ := oP_eq.1 hk'
    exact ⟨0, 0, v, h, by simp_all[opC,oB], h2⟩
  · by_cases hc1 : cls o = 1
    · have hk' : oP ((allocC o).f (.fn ρ [])) (fun r => K (r.2 h.next) ρ (h.new r.1)) := by unfold opR at hk; rw [hc1] at hk; exact hk
      obtain ⟨r, h1, h2⟩ := oP_eq.1 hk'
      exact ⟨0, 0, _, _, by simp_all[opC,oB], h2⟩
    · have hk' : wrR C o K ρ h := by
        unfold opR at hk
        generalize cls o = c at hk hc0 hc1
        rcases c with _ | _ | c
        · omega
        · omega
        · exact hk
      have hop : ∀ call, (opC o).f call (.fn ρ []) h = oB ((writeC o).f (.fn ρ []) h) fun r => match r with
          | .val v h => some (v, h)
          | .call f args => call f args h := by
        intro call
        unfold opC
        split
        · omega
        · omega
        · rfl
      rcases wrR_of hk' with ⟨v, h', h1, h2⟩ | ⟨f, args, h1, v, h', ⟨m, d, h3⟩, h4⟩
      · exact ⟨0, 0, v, h', by simp_all[oB], h2⟩
      · exact ⟨m, d, v, h', by simp_all[oB], h4⟩
theorem gdR_of {o : Oper} {b : Bool} {K : V → Rho → Hp → Prop} (hk : gdR C o b K ρ h) : (b = true ∧ OpGo C o K ρ h) ∨ (b = false ∧ K .undef ρ h) := by
  unfold gdR at hk
  by_cases hc0 : cls o = 0
  · rw [hc0] at hk
    obtain ⟨v, h1, h2⟩ := oP_eq.1 hk
    cases b with
    | true => exact .inl ⟨rfl, opR_of (by unfold opR; rw [hc0]; exact oP_mk h1 h2)⟩
    | false => cases h1; simp_all
  · by_cases hc1 : cls o = 1
    · rw [hc1] at hk
      obtain ⟨v, h1, h2⟩ := oP_eq.1 hk
      cases b with
      | true =>
        obtain ⟨r, h3, h4⟩ := oB_eq.1 (show oB _ _ = _ from h1)
        cases h4
        exact .inl ⟨rfl, by grind[opR_of,opR,oP_mk]⟩
      | false => cases h1; simp_all
    · have hw : ∀ K, wrR C o K ρ h → opR C o K ρ h := by
        intro K hk
        unfold opR
        generalize cls o = c at hc0 hc1
        rcases c with _ | _ | c
        · omega
        · omega
        · exact hk
      have hk' : (match isCall o with
          | true => oP (gC b (oB ((writeC o).f (.fn ρ []) h) callOf)) fun x => cgP C x h fun v h' => K v ρ h'
          | false => oP (gH b h (oB ((writeC o).f (.fn ρ []) h) valOf)) fun x => K x.1 ρ x.2) := by
        generalize cls o = c at hk hc0 hc1
        rcases c with _ | _ | c
        · omega
        · omega
        · exact hk
      cases hi : isCall o with
      | true =>
        rw [hi] at hk'
        obtain ⟨x, h1, h2⟩ := oP_eq.1 hk'
        cases b with
        | true =>
          obtain ⟨y, h3, h4⟩ := oB_eq.1 (show oB _ _ = _ from h1)
          cases h4
          exact .inl ⟨rfl, opR_of (hw _ (by unfold wrR; rw [hi]; exact oP_mk h3 h2))⟩
        | false => cases h1; exact .inr ⟨rfl, h2⟩
      | false =>
        rw [hi] at hk'
        obtain ⟨x, h1, h2⟩ := oP_eq.1 hk'
        cases b with
        | true => exact .inl ⟨rfl, opR_of (hw _ (by unfold wrR; rw [hi]; exact oP_mk h1 h2))⟩
        | false => cases h1; simp_all
theorem regionC_lift {m d m' d' : Nat} (hm : m ≤ m') (hd : d ≤ d') {all os : List Oper} {t : Tm} {h : Hp} {r : Tm × Hp} (hv : (regionC n all os).f (callN C m d) t h = some r) : (regionC n all os).f (callN C m' d') t h = some r :=
  regionC_mono (callN_mono hm hd) os hv
theorem regR_of {all : List Oper} {K : Rho → Hp → Prop} : ∀ (os : List Oper) {ρ : Rho} {h : Hp}, regR C n all K os ρ h → ∃ m d ρ' h', (regionC n all os).f (callN C m d) (.fn ρ []) h = some (.fn ρ' [], h') ∧ K ρ' h'
  | [], ρ, h, hk => ⟨0, 0, ρ, h, rfl, hk⟩
  | o :: os, ρ, h, hk => by
    rw [regR_cons] at hk
    unfold stepR at hk
    cases hq : deferC o with
    | some q => simp_all
    | none =>
      rw [hq] at hk
      simp only at hk
      have run : ∀ {ρ h}, OpGo C o (dstR n o (regR C n all K os)) ρ h → ∃ d, dstC n o = some d ∧ ∃ m dd v h1, (opC o).f (callN C m dd) (.fn ρ []) h = some (v, h1) ∧ ∃ ρ1, d.f (.fn ρ []) v = .fn ρ1 [] ∧
          ∃ ρ' h', (regionC n all os).f (callN C m dd) (.fn ρ1 []) h1 = some (.fn ρ' [], h') ∧ K ρ' h' := by
        intro ρ h hk
        obtain ⟨m, dd, v, h1, h2, h3⟩ := hk
        obtain ⟨d, h4, ρ1, h5, h6⟩ := dstR_of h3
        obtain ⟨m', d', ρ', h', h7, h8⟩ := regR_of os h6
        exact ⟨d, h4, max m m', max dd d', v, h1, opC_mono (by grind[callN_mono,Nat.le_max_left]) h2, ρ1, h5, ρ', h', by grind[regionC_lift,Nat.le_max_right], h8⟩
      cases hw : wantC n all o with
      | none =>
        rw [hw] at hk
        obtain ⟨d, h4, m, dd, v, h1, h2, ρ1, h5, ρ', h', h7, h8⟩ := run (opR_of hk)
        refine ⟨m, dd, ρ', h', ?_, h8⟩
        simp_all[regionC,stepC,oB]
      | some g =>
        rw [hw] at hk
        obtain ⟨b, hb, hk⟩ := oP_eq.1 hk
        rcases gdR_of hk with ⟨hb1, hk2⟩ | ⟨hb1, hk2⟩ <;> subst hb1
        · obtain ⟨d, h4, m, dd, v, h1, h2, ρ1, h5, ρ', h', h7, h8⟩ := run hk2
          refine ⟨m, dd, ρ', h', ?_, h8⟩
          simp_all[regionC,stepC,oB]
        · obtain ⟨d, h4, ρ1, h5, h6⟩ := dstR_of hk2
          obtain ⟨m', d', ρ', h', h7, h8⟩ := regR_of os h6
          refine ⟨m', d', ρ', h', ?_, h8⟩
          simp_all[regionC,stepC,oB]
theorem Wp.region {id : Nat} {ops : Array Oper} (hw : regR C n ops.toList (fun ρ h => Q .normal ρ h) ops.toList ρ h) : Wp C n (.region id ops false) Q ρ h := by
  obtain ⟨m, d, ρ', h', h1, h2⟩ := regR_of _ hw
  exact ⟨m, d, .normal, ρ', h', by simp_all[codeC,oB], h2⟩

end
end Go.Proofs.YtlbdcjnhlkkfeaaGreatDoor.Hx
