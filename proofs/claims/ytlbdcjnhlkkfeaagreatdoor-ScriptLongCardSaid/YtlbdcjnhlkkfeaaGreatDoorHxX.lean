/- Regions whose order is open, by the rules; a function by its body. -/
import Derived.Test.YtlbdcjnhlkkfeaaGreatDoorHxW
namespace Go.Proofs.YtlbdcjnhlkkfeaaGreatDoor.Hx

section
variable {C : Cfg} {n : Nat} {Q : X → Rho → Hp → Prop} {ρ : Rho} {h : Hp}
/-- What was seen of the heap stands so still. -/
def holdP (h : Hp) (r : Rec) : Prop := match r.made with
  | none => (pureC r.it.o).f r.t h = some r.v
  | some (l, ob) => h.get l = some ob ∧ O.beq ob ob = true
/-- The same of what was carried out. -/
def stabP (k : Nat) (h : Hp) : List (Bool × Rec) → Prop → Prop
  | [], K => K
  | r :: rs, K => Bool.rec (Bool.rec True (holdP h r.2) r.1 ∧ stabP k h rs K) (stabP k h rs K) (Nat.blt r.2.last k)
def recs (rs : List (Bool × Rec)) : List Rec := (rs.filter (·.1)).map (·.2)
def itR (C : Cfg) (n : Nat) (all : List Oper) (ws : List It) (a : It) (ih : Nat → Rho → Hp → List (Bool × Rec) → Prop) (k : Nat) : Rho → Hp → List (Bool × Rec) → Prop := match cls a.o with
    | 0 => match wantC n all a.o with
      | none => fun ρ h rs => oP ((pureC a.o).f (.fn ρ []) h) fun v => dstR n a.o (fun ρ' h => ih k ρ' h ((true, { it := a, t := .fn ρ [], v, made := none, last := late ws a }) :: rs)) v ρ h
      | some g => fun ρ h rs => oP (g.f (.fn ρ [])) fun b => oP (gV b ((pureC a.o).f (.fn ρ []) h)) fun v =>
          dstR n a.o (fun ρ' h => ih k ρ' h ((b, { it := a, t := .fn ρ [], v, made := none, last := late ws a }) :: rs)) v ρ h
    | 1 => match wantC n all a.o with
      | none => fun ρ h rs => oP ((allocC a.o).f (.fn ρ [])) fun r => dstR n a.o (fun ρ' h' => ih k ρ' h' ((true, { it := a, t := .fn ρ [], v := r.2 h.next, made := some (h.next, r.1), last := late ws a }) :: rs)) (r.2 h.next) ρ (h.new r.1)
      | some _ => fun _ _ _ => False
    | _ => match wantC n all a.o with
      | none => fun ρ h rs => stabP k h rs (wrR C a.o (fun v ρ h' => h.next ≤ h'.next ∧ dstR n a.o (fun ρ h => ih (Nat.succ k) ρ h rs) v ρ h') ρ h)
      | some g => match isCall a.o with
        | true => fun ρ h rs => stabP k h rs (oP (g.f (.fn ρ [])) fun b => oP (gC b (oB ((writeC a.o).f (.fn ρ []) h) callOf)) fun x => cgP C x h fun v h' => h.next ≤ h'.next ∧ dstR n a.o (fun ρ h => ih (Nat.succ k) ρ h rs) v ρ h')
        | false => fun _ _ _ => False
noncomputable def seqR (C : Cfg) (n : Nat) (all : List Oper) (ws : List It) (K : Rho → Hp → Prop) (l : List It) : Nat → Rho → Hp → List (Bool × Rec) → Prop :=
  List.rec (fun k ρ h rs => stabP k h rs (K ρ h)) (fun a _ ih k => itR C n all ws a ih k) l
theorem seqR_nil (C : Cfg) (n : Nat) (all : List Oper) (ws : List It) (K : Rho → Hp → Prop) (k : Nat) (ρ : Rho) (h : Hp) (rs : List (Bool × Rec)) : seqR C n all ws K [] k ρ h rs = stabP k h rs (K ρ h) := rfl
theorem seqR_cons (C : Cfg) (n : Nat) (all : List Oper) (ws : List It) (K : Rho → Hp → Prop) (a : It) (l : List It) (k : Nat) : seqR C n all ws K (a :: l) k = itR C n all ws a (seqR C n all ws K l) k := rfl
theorem stabP_of {k : Nat} : ∀ {rs : List (Bool × Rec)} {K : Prop}, stabP k h rs K → stable k h (recs rs) = true ∧ K
  | [], K, hk => ⟨rfl, hk⟩
  | (b, r) :: rs, K, hk => by
    simp [stabP] at hk
    have hrest : ∀ {K : Prop}, stabP k h rs K → (b = true → (Nat.blt r.last k || holdsAt h r) = true) → stable k h (recs ((b, r) :: rs)) = true ∧ K := by
      intro K hk hb
      let ⟨h1, h2⟩ := stabP_of hk
      refine ⟨?_, h2⟩
      cases b with
      | false => exact h1
      | true =>
        show stable k h (r :: recs rs) = true
        unfold stable
        rw [List.all_cons, hb rfl]
        exact h1
    cases hb : Nat.blt r.last k with
    | true => rw [hb] at hk; grind
    | false =>
      rw [hb] at hk
      let ⟨h0, hk⟩ := hk
      refine hrest hk (fun e => ?_)
      subst e
      rw [hb, Bool.false_or]
      grind[holdP,holdsAt,V.beq_self]
theorem gV_of {b : Bool} {x : Option V} {v : V} (h : gV b x = some v) : (b = true ∧ x = some v) ∨ (b = false ∧ v = .undef) := by
  cases b with
  | true => exact .inl ⟨rfl, h⟩
  | false => cases h; simp_all
theorem dstC_of {o : Oper} {d : DF} (hd : dstC n o = some d) {K : Rho → Hp → Prop} {v : V} (hk : dstR n o K v ρ h) : ∃ ρ', d.f (.fn ρ []) v = .fn ρ' [] ∧ K ρ' h := by
  grind[dstR_of]
theorem seqC_lift {m d m' d' : Nat} (hm : m ≤ m') (hd : d ≤ d') {all : List Oper} {ws l : List It} {k : Nat} {t : Tm} {h : Hp} {rs : List Rec} {r : Tm × Hp} (hv : (seqC n all ws l k).f (callN C m d) t h rs = some r) :
    (seqC n all ws l k).f (callN C m' d') t h rs = some r := seqC_mono (callN_mono hm hd) l k hv
theorem seqR_of {all : List Oper} {ws : List It} {K : Rho → Hp → Prop} : ∀ l k {ρ : Rho} {h : Hp} {rs : List (Bool × Rec)}, seqR C n all ws K l k ρ h rs →
    ∃ m d ρ' h', (seqC n all ws l k).f (callN C m d) (.fn ρ []) h (recs rs) = some (.fn ρ' [], h') ∧ K ρ' h'
  | [], k, ρ, h, rs, hk => by
    let ⟨h1, h2⟩ := stabP_of hk
    exact ⟨0, 0, ρ, h, by simp_all[seqC,bB], h2⟩
  | a :: l, k, ρ, h, rs, hk => by
    have hsome : ∀ {K : Rho → Hp → Prop} {v : V} {ρ : Rho} {h : Hp}, dstR n a.o K v ρ h → ∃ d, dstC n a.o = some d := by grind[dstR_of]
    have hsq : ∀ {d}, dstC n a.o = some d → ∀ call t h rs, (seqC n all ws (a :: l) k).f call t h rs = (match cls a.o with
        | 0 => pureS n all ws a d (seqC n all ws l k)
        | 1 => allocS n all ws a d (seqC n all ws l k)
        | _ => writeS n all k a d (seqC n all ws l (Nat.succ k))).f call t h rs := by
      intro d hd call t h rs
      conv => lhs; unfold seqC
      rw [hd]
      simp only
      generalize cls a.o = c
      rcases c with _ | _ | c <;> rfl
    have hop2 : ∀ call t h, cls a.o ≠ 0 → cls a.o ≠ 1 → (opC a.o).f call t h = oB ((writeC a.o).f t h) fun r => match r with
        | .val v h => some (v, h)
        | .call f args => call f args h := by
      intro call t h h0 h1
      unfold opC
      split
      · omega
      · omega
      · rfl
    have hw0 : ∀ t, wantC n all a.o = none → wants n all a.o t = some true := by grind[wants]
    have hw1 : ∀ t g, wantC n all a.o = some g → wants n all a.o t = g.f t := by grind[wants]
    -- a call, or a change
    have step : ∀ {h : Hp} {ρ : Rho} {rs : List (Bool × Rec)} {c : Nat}, cls a.o = c + 2 → stable k h (recs rs) = true → wants n all a.o (.fn ρ []) = some true →
        wrR C a.o (fun v ρ h' => h.next ≤ h'.next ∧ dstR n a.o (fun ρ h => seqR C n all ws K l (Nat.succ k) ρ h rs) v ρ h') ρ h →
        ∃ m d ρ' h', (seqC n all ws (a :: l) k).f (callN C m d) (.fn ρ []) h (recs rs) = some (.fn ρ' [], h') ∧ K ρ' h' := by
      intro h ρ rs c hc hst hw hk
      have hop := fun call => hop2 call (.fn ρ []) h (by omega) (by omega)
      rcases wrR_of hk with ⟨v, h', hv, hle, hk⟩ | ⟨f, args, hv, v, h', ⟨m0, d0, hev⟩, hle, hk⟩
      · simp [ oB] at hop
        let ⟨d, hd⟩ := hsome hk
        let ⟨ρ1, h1, hk⟩ := dstC_of hd hk
        let ⟨m, dd, ρ', h'', h2, h3⟩ := seqR_of l _ hk
        exact ⟨m, dd, ρ', h'', by simp_all[writeS,bB,oB,Nat.ble_eq_true_of_le], h3⟩
      · simp [hv, oB] at hop
        let ⟨d, hd⟩ := hsome hk
        let ⟨ρ1, h1, hk⟩ := dstC_of hd hk
        let ⟨m, dd, ρ', h'', h2, h3⟩ := seqR_of l _ hk
        refine ⟨max m0 m, max d0 dd, ρ', h'', ?_, h3⟩
        have hev' := callN_mono (Nat.le_max_left m0 m) (Nat.le_max_left d0 dd) _ _ _ _ hev
        rw [hsq hd, hc]
        simp [writeS, hst, bB, hw, oB, hop, hev', h1, Nat.ble_eq_true_of_le hle]
        grind[seqC_lift,Nat.le_max_right]
    have stepN : ∀ {h : Hp} {ρ : Rho} {rs : List (Bool × Rec)} {c : Nat}, cls a.o = c + 2 → stable k h (recs rs) = true → wants n all a.o (.fn ρ []) = some false →
        dstR n a.o (fun ρ h => seqR C n all ws K l (Nat.succ k) ρ h rs) .undef ρ h →
        ∃ m d ρ' h', (seqC n all ws (a :: l) k).f (callN C m d) (.fn ρ []) h (recs rs) = some (.fn ρ' [], h') ∧ K ρ' h' := by
      intro h ρ rs c hc hst hw hk
      let ⟨d, hd⟩ := hsome hk
      let ⟨ρ1, h1, hk⟩ := dstC_of hd hk
      let ⟨m, dd, ρ', h'', h2, h3⟩ := seqR_of l _ hk
      exact ⟨m, dd, ρ', h'', by simp_all[writeS,bB,oB], h3⟩
    rw [seqR_cons] at hk
    unfold itR at hk
    generalize hc : cls a.o = c at hk
    rcases c with _ | _ | c
    · simp only at hk
      cases hwc : wantC n all a.o with
      | none =>
        rw [hwc] at hk
        let ⟨v, hv, hk⟩ := oP_eq.1 hk
        let ⟨d, hd⟩ := hsome hk
        let ⟨ρ1, h1, hk⟩ := dstC_of hd hk
        let ⟨m, dd, ρ', h', h2, h3⟩ := seqR_of l k hk
        exact ⟨m, dd, ρ', h', by rw [hsq hd, hc]; simp [pureS, hw0 _ hwc, hv, oB, h1]; exact h2, h3⟩
      | some g =>
        rw [hwc] at hk
        let ⟨b, hb, hk⟩ := oP_eq.1 hk
        let ⟨v, hv, hk⟩ := oP_eq.1 hk
        let ⟨d, hd⟩ := hsome hk
        let ⟨ρ1, h1, hk⟩ := dstC_of hd hk
        let ⟨m, dd, ρ', h', h2, h3⟩ := seqR_of l k hk
        rcases gV_of hv with ⟨e1, hv2⟩ | ⟨e1, e2⟩
        · subst e1
          exact ⟨m, dd, ρ', h', by rw [hsq hd, hc]; simp [pureS, hw1 _ _ hwc, hb, hv2, oB, h1]; exact h2, h3⟩
        · subst e1; subst e2
          exact ⟨m, dd, ρ', h', by rw [hsq hd, hc]; simp [pureS, hw1 _ _ hwc, hb, oB, h1]; exact h2, h3⟩
    · simp only at hk
      cases hwc : wantC n all a.o with
      | none =>
        rw [hwc] at hk
        let ⟨v, hv, hk⟩ := oP_eq.1 hk
        let ⟨d, hd⟩ := hsome hk
        let ⟨ρ1, h1, hk⟩ := dstC_of hd hk
        let ⟨m, dd, ρ', h', h2, h3⟩ := seqR_of l k hk
        exact ⟨m, dd, ρ', h', by rw [hsq hd, hc]; simp [allocS, hw0 _ hwc, hv, oB, h1]; exact h2, h3⟩
      | some g => simp_all
    · simp only at hk
      cases hwc : wantC n all a.o with
      | none =>
        rw [hwc] at hk
        let ⟨hst, hk⟩ := stabP_of hk
        simp_all
      | some g =>
        rw [hwc] at hk
        cases hi : isCall a.o with
        | false => simp_all
        | true =>
          rw [hi] at hk
          let ⟨hst, hk⟩ := stabP_of hk
          let ⟨b, hb, hk⟩ := oP_eq.1 hk
          let ⟨x, hx, hk⟩ := oP_eq.1 hk
          cases b with
          | true =>
            let ⟨y, h3, h4⟩ := oB_eq.1 (hx)
            cases h4
            exact step hc hst (by simp_all) (by unfold wrR; rw [hi]; exact oP_mk h3 hk)
          | false =>
            cases hx
            exact stepN hc hst (by simp_all) hk.2
/-- May a region be taken in any order? -/
noncomputable def drawable (all : List Oper) : Bool :=
  drawOk (items all 0 []) (wsOf (items all 0 [])) && orderOk (items all 0 []) (wsOf (items all 0 [])) (order (items all 0 []) (wsOf (items all 0 [])) (wsOf (items all 0 [])) 0) 0 0
/-- What is left of such a region. -/
noncomputable def drawR (C : Cfg) (n : Nat) (all : List Oper) (K : Rho → Hp → Prop) (ρ : Rho) (h : Hp) : Prop :=
  seqR C n all (wsOf (items all 0 [])) K (order (items all 0 []) (wsOf (items all 0 [])) (wsOf (items all 0 [])) 0) 0 ρ h []
theorem Wp.draw {id : Nat} {ops : Array Oper} (hok : drawable ops.toList = true) (hw : drawR C n ops.toList (fun ρ h => Q .normal ρ h) ρ h) : Wp C n (.region id ops true) Q ρ h := by
  let ⟨m, d, ρ', h', h1, h2⟩ := seqR_of _ _ hw
  have e : recs [] = [] := rfl
  rw [e] at h1
  refine ⟨m, d, .normal, ρ', h', ?_, h2⟩
  simp_all[drawable,codeC,drawC,oB]

/-! ### code -/
/-- What is left of code; a loop, and what follows, is left whole. -/
noncomputable def codeR (C : Cfg) (n : Nat) (c : Code) : (X → Rho → Hp → Prop) → Rho → Hp → Prop :=
  Code.rec
    (fun Q => Q .normal)
    (fun _ ops d Q => match d with
      | false => regR C n ops.toList (fun ρ h => Q .normal ρ h) ops.toList
      | true => match drawable ops.toList with
        | true => drawR C n ops.toList (fun ρ h => Q .normal ρ h)
        | false => fun _ _ => False)
    (fun _ b iha _ Q => iha (andThen (Wp C n b Q) Q))
    (fun c _ _ iha ihb Q ρ h => oP ((evO c).f (.fn ρ []) h) fun v => bP v (iha Q ρ h) (ihb Q ρ h))
    (fun id _ ih Q => ih (blockQ id Q))
    (fun c _ Q => Wp C n (.loop c) Q)
    (fun _ _ _ _ _ _ _ _ _ => False)
    (fun id Q => Q (.exit id))
    (fun _ _ _ _ _ => False)
    (fun _ _ _ _ => False)
    (fun _ _ _ _ => False)
    (fun Q => Q .ret)
    (fun _ _ _ _ => False) c
theorem Wp.code : ∀ c {Q : X → Rho → Hp → Prop} {ρ : Rho} {h : Hp}, codeR C n c Q ρ h → Wp C n c Q ρ h
  | .skip, _, _, _, hk => .skip hk
  | .region _ ops false, _, _, _, hk => .region hk
  | .region _ ops true, Q, ρ, h, hk => by
    have hk' : (match drawable ops.toList with
        | true => drawR C n ops.toList (fun ρ h => Q .normal ρ h)
        | false => fun _ _ => False) ρ h := hk
    cases hd : drawable ops.toList with
    | true => simp_all[draw]
    | false => simp_all
  | .seq a _, _, _, _, hk => .seq (Wp.code a hk)
  | .cond c a b, _, _, _, hk => by
    let ⟨v, hv, hk⟩ := oP_eq.1 hk
    refine .cond (oP_mk hv ?_)
    unfold bP at hk ⊢
    split at hk
    · rename_i x
      cases x with
      | true => exact Wp.code a hk
      | false => exact Wp.code b hk
    · exact hk.elim
  | .block id c, _, _, _, hk => .block (Wp.code c hk)
  | .loop c, _, _, _, hk => hk
  | .exit id, _, _, _, hk => .exit hk
  | .ret, _, _, _, hk => .ret hk
  | .rangeFunc .., _, _, _, hk => hk.elim
  | .scope _, _, _, _, hk => hk.elim
  | .label _, _, _, _, hk => hk.elim
  | .goto _, _, _, _, hk => hk.elim
  | .refuse _, _, _, _, hk => hk.elim

/-! ### functions -/
def retP (l : List ResultVar) (Q : V → Hp → Prop) (ρ : Rho) (h : Hp) : Prop := oP (resVs (.fn ρ []) h l) fun vs => Q (tupleOf vs) h
def bodyQ (l : List ResultVar) (Q : V → Hp → Prop) : X → Rho → Hp → Prop
  | .exit _, _, _ => False
  | _, ρ, h => retP l Q ρ h
def argsR (args : List V) : Rho := fun i => (args[i]?).getD .undef
/-- A function's call, by its body. -/
theorem cP.func (hs : C.start = startF) {f : Nat} {fn : Func} {c : Code} {args : List V} (hf : P0.funcs[f]? = some fn) (hb : fn.body = some c) (hk : C.K f args h = none) (hle : args.length ≤ fn.ntmps) {Q : V → Hp → Prop}
    (hw : Wp C fn.ntmps c (bodyQ fn.results.toList Q) (argsR args) h) : cP C f args h Q := by
  let ⟨m, d, x, ρ', h', h1, h2⟩ := hw
  have key : retP fn.results.toList Q ρ' h' → (∀ id, x ≠ .exit id) → cP C f args h Q := by
    intro hr hx
    let ⟨vs, h3, h4⟩ := oP_eq.1 hr
    refine ⟨_, _, ⟨m, d + 1, ?_⟩, h4⟩
    show (funcC C f).f (callN C m d) m args h = _
    unfold funcC
    rw [hf]
    simp [hb, hk, orB]
    have hle' := Nat.ble_eq_true_of_le hle
    have hst : startF args = .fn (argsR args) [] := rfl
    rw [ hle']
    cases x with
    | normal => simp_all[bB,oB,Tm.ds,runD]
    | ret => simp_all[bB,oB,Tm.ds,runD]
    | exit id => simp_all
  cases x with
  | normal => exact key h2 (by simp_all)
  | ret => exact key h2 (by simp_all)
  | exit id => exact h2.elim
theorem cP.funcN (hs : C.start = startF) {f : Nat} {fn : Func} {c : Code} {args : List V} {k : Nat} {rs : List ResultVar} (hf : P0.funcs[f]? = some fn) (hb : fn.body = some c) (hn : fn.ntmps = k) (hr : fn.results.toList = rs)
    (hk : C.K f args h = none) (hle : args.length ≤ k) {Q : V → Hp → Prop} (hw : Wp C k c (bodyQ rs Q) (argsR args) h) : cP C f args h Q := by
  grind[cP.func]
/-- A function that is known. -/
theorem cP.known {f : Nat} {fn : Func} {c : Code} {args : List V} {v : V} (hf : P0.funcs[f]? = some fn) (hb : fn.body = some c) (hk : C.K f args h = some v) (h1 : flats args = true) (h2 : v.flat = true) {Q : V → Hp → Prop} (hq : Q v h) : cP C f args h Q := by
  refine ⟨v, h, ⟨0, 1, ?_⟩, hq⟩
  show (funcC C f).f _ _ args h = _
  simp_all[funcC,orB,bB]
/-- A function without a body. -/
theorem cP.ext {f : Nat} {fn : Func} {args : List V} {v : V} (hf : P0.funcs[f]? = some fn) (hb : fn.body = none) (hx : extF (C.ext f) args = some v) {Q : V → Hp → Prop} (hq : Q v h) : cP C f args h Q := by
  refine ⟨v, h, ⟨0, 1, ?_⟩, hq⟩
  show (funcC C f).f _ _ args h = _
  simp_all[funcC,oB]
theorem cP.mono {f : Nat} {args : List V} {Q Q' : V → Hp → Prop} (hc : cP C f args h Q) (hq : ∀ v h, Q v h → Q' v h) : cP C f args h Q' := by
  let ⟨v, h', h1, h2⟩ := hc
  exact ⟨v, h', h1, hq _ _ h2⟩
end
end Go.Proofs.YtlbdcjnhlkkfeaaGreatDoor.Hx
