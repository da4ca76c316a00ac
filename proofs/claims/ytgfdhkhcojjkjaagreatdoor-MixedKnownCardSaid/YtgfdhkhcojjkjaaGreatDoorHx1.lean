/- Calls whose answers are known beforehand: tables that the plain machine looks into, each entry shown by a run of its own. -/
import Derived.Test.YtgfdhkhcojjkjaaGreatDoorHxS
import Derived.KernelRfl
namespace Go.Proofs.YtgfdhkhcojjkjaaGreatDoor.Hx

inductive KE where
  /-- Of a number that a table has the function's answer stands in the table. -/
  | names (f : Nat) (l : List (Nat × V))
  /-- The function takes nothing and returns true. -/
  | yes (f : Nat)
  /-- The function's answer to these arguments. -/
  | one (f : Nat) (args : List V) (v : V)
noncomputable def lookN : List (Nat × V) → Nat → Option V
  | [], _ => none
  | x :: l, n => Bool.rec (lookN l n) (some x.2) (Nat.beq x.1 n)
noncomputable def KE.ask (e : KE) (f : Nat) (args : List V) : Option V := match e with
  | .names g l => bB (Nat.beq f g) (match args with
    | [.int .i64 (.ofNat n)] => lookN l n
    | _ => none)
  | .yes g => bB (Nat.beq f g) (match args with
    | [] => some (.bool true)
    | _ => none)
  | .one g l v => bB (Nat.beq f g) (bB (V.beqs args l) (some v))
noncomputable def askAll : List KE → Nat → List V → Option V
  | [], _, _ => none
  | e :: es, f, args => orB (e.ask f args) (fun v => some v) (askAll es f args)
def isV (v : V) : Option (V × Hp) → Bool
  | some (u, _) => V.beq u v
  | _ => false
theorem known_flat {C : Cfg} (hF : Facts C) {m d n f : Nat} {args : List V} {v : V} (hn : P0.globals.size ≤ n) (hb : ∃ fn c, P0.funcs[f]? = some fn ∧ fn.body = some c) (hv : isV v (callN C m d f args { next := n, tr := .leaf }) = true)
    (W : World) (ht : TabOk (fun _ => none) W) (args' : Array Value) (ha : VsRel (fun _ => none) args args'.toList) :
    Calls P0 f args' W fun e W' => ∃ x, e = .returned x ∧ (v.flat = true → VRel (fun _ => none) v x) ∧ Still W W' := by
  cases hr : callN C m d f args { next := n, tr := .leaf } with
  | none => rw [hr] at hv; cases hv
  | some r =>
    let ⟨u, h'⟩ := r
    rw [hr] at hv
    obtain rfl : u = v := V.eq_of_beq _ _ hv
    rcases callN_ok hF m d f args _ _ _ (fun _ => none) W args' hr (by grind[WR.start]) ha with ⟨x, h1, _⟩ | ⟨_, h2⟩
    · exfalso
      let ⟨fn, c, hf, hbd⟩ := hb
      have hnm := hF.named f fn hf
      have : (callFunc f args').run P0 W = .ok (.enter f args') W := by
        simp only [callFunc, Sem.run_bind, run_program, Result.andThen_ok, hf, hnm, hbd, Option.isNone_some, Bool.false_eq_true, if_false]
        rfl
      simp_all
    · refine Calls.mono h2 fun e w' he => ?_
      obtain ⟨Δ', x, rfl, hA⟩ := he
      exact ⟨x, rfl, fun hfl => flat_rel hA.val hfl, hA.frame.still noRW⟩
/-- The table's answers, checked one by one. -/
noncomputable def namesOk (C : Cfg) (m d n f : Nat) : List (Nat × V) → Bool
  | [] => true
  | x :: l => Bool.rec false (namesOk C m d n f l) (isV x.2 (callN C m d f [.int .i64 (.ofNat x.1)] { next := n, tr := .leaf }))
theorem namesOk_get {C : Cfg} {m d n f : Nat} : ∀ l, namesOk C m d n f l = true → ∀ k s, lookN l k = some s → isV s (callN C m d f [.int .i64 (.ofNat k)] { next := n, tr := .leaf }) = true
  | [], _, k, s, hk => by cases hk
  | x :: l, h, k, s', hk => by
    simp only [namesOk] at h
    simp [lookN] at hk
    cases hb : isV x.2 (callN C m d f [.int .i64 (.ofNat x.1)] { next := n, tr := .leaf }) with
    | false => simp_all
    | true =>
      rw [hb] at h
      cases hx : Nat.beq x.1 k with
      | true =>
        simp_all
      | false =>
        rw [hx] at hk
        exact namesOk_get l h k s' hk
inductive KOk (C : Cfg) : KE → Prop where
  | names {m d n f l} (hn : P0.globals.size ≤ n) (hb : ∃ fn c, P0.funcs[f]? = some fn ∧ fn.body = some c) (h : namesOk C m d n f l = true) : KOk C (.names f l)
  | yes {m d n f} (hn : P0.globals.size ≤ n) (hb : ∃ fn c, P0.funcs[f]? = some fn ∧ fn.body = some c) (h : isTrue (callN C m d f [] { next := n, tr := .leaf }) = true) : KOk C (.yes f)
  | one {m d n f l v} (hn : P0.globals.size ≤ n) (hb : ∃ fn c, P0.funcs[f]? = some fn ∧ fn.body = some c) (h : isV v (callN C m d f l { next := n, tr := .leaf }) = true) : KOk C (.one f l v)
  | told {f l v} (h : ∀ (W : World), TabOk (fun _ => none) W → ∀ (args' : Array Value), VsRel (fun _ => none) l args'.toList → Calls P0 f args' W fun e W' => ∃ x, e = .returned x ∧ VRel (fun _ => none) v x ∧ Still W W') : KOk C (.one f l v)
theorem isTrue_isV {r : Option (V × Hp)} (h : isTrue r = true) : isV (.bool true) r = true := by
  unfold isTrue at h
  split at h
  · rfl
  · cases h
theorem KOk.calls {C : Cfg} (hF : Facts C) {e : KE} (he : KOk C e) {f : Nat} {args : List V} {v : V} (hv : e.ask f args = some v) (hfl : v.flat = true) (W : World) (ht : TabOk (fun _ => none) W) (args' : Array Value) (ha : VsRel (fun _ => none) args args'.toList) :
    Calls P0 f args' W fun e W' => ∃ x, e = .returned x ∧ VRel (fun _ => none) v x ∧ Still W W' := by
  cases he with
  | @names m d n g l hn hb h =>
    simp only [KE.ask, bB_eq] at hv
    obtain ⟨hfg, hv⟩ := hv
    obtain rfl := Nat.eq_of_beq_eq_true hfg
    split at hv
    · rename_i k
      have h1 := namesOk_get l h k v hv
      grind[known_flat]
    · cases hv
  | @yes m d n g hn hb h =>
    simp only [KE.ask, bB_eq] at hv
    obtain ⟨hfg, hv⟩ := hv
    obtain rfl := Nat.eq_of_beq_eq_true hfg
    split at hv
    · cases hv
      exact Calls.mono (known_flat hF hn hb (isTrue_isV h) W ht args' ha) (by simp_all)
    · cases hv
  | @one m d n g l u hn hb h =>
    simp only [KE.ask, bB_eq] at hv
    obtain ⟨hfg, ha', hv⟩ := hv
    obtain rfl := Nat.eq_of_beq_eq_true hfg
    obtain rfl := V.eq_of_beqs _ _ ha'
    cases hv
    exact Calls.mono (known_flat hF hn hb h W ht args' ha) fun e w' he => by grind
  | @told g l u h =>
    simp only [KE.ask, bB_eq] at hv
    obtain ⟨hfg, ha', hv⟩ := hv
    obtain rfl := Nat.eq_of_beq_eq_true hfg
    obtain rfl := V.eq_of_beqs _ _ ha'
    cases hv
    exact h W ht args' ha
/-- A way of calling that knows more. -/
noncomputable def Cfg.more (C : Cfg) (l : List KE) : Cfg := ⟨C.start, C.ext, fun f args h => orB (askAll l f args) (fun v => some v) (C.K f args h), C.R⟩
theorem askAll_mem : ∀ l {f : Nat} {args : List V} {v : V}, askAll l f args = some v → ∃ e ∈ l, e.ask f args = some v
  | [], _, _, _, h => by cases h
  | e :: es, f, args, v, h => by
    simp [askAll] at h
    cases hq : e.ask f args with
    | some u => rw [hq] at h; grind[orB]
    | none =>
      rw [hq] at h
      let ⟨e', hm, h'⟩ := askAll_mem es h
      grind
theorem Facts.more {C : Cfg} (hF : Facts C) {l : List KE} (hl : ∀ e ∈ l, KOk C e) : Facts (C.more l) where
  startD := hF.startD
  start := hF.start
  mixed := hF.mixed
  named := hF.named
  ext := hF.ext
  told := hF.told
  known := fun f args v h hk hf1 hf2 Δ W args' hW ha => by
    simp [Cfg.more] at hk
    cases hq : askAll l f args with
    | some u =>
      rw [hq] at hk
      have : u = v := by simpa [orB] using hk
      subst this
      let ⟨e, hm, he⟩ := askAll_mem l hq
      exact (hl e hm).calls hF he hf2 W hW.tab.none args' ha
    | none =>
      rw [hq] at hk
      exact hF.known f args v h (by grind[orB]) hf1 hf2 Δ W args' hW ha
end Go.Proofs.YtgfdhkhcojjkjaaGreatDoor.Hx
/- The program's own facts for the plain machine. -/
namespace Go.Proofs.YtgfdhkhcojjkjaaGreatDoor.Hx
def E1 : Nat → Ext
  | 546 => .countByte
  | 568 => .indexByte
  | _ => .none
theorem namedAll : (P0.funcs.toList.all fun fn => !(fn.name == "runtime.NumGoroutine")) = true := by kernel_rfl
theorem mixed : P0.follows .mixedOrders = true := by kernel_rfl
theorem globs : Nat.ble P0.globals.size 6 = true := by kernel_rfl
theorem fn546 : P0.funcs[546]? = some Tryz.f546 := by unfold P0; exact Tryz.func546
theorem fn568 : P0.funcs[568]? = some Tryz.f568 := by unfold P0; exact Tryz.func568
noncomputable def C1 : Cfg := ⟨startT, E1, fun _ _ _ => none, fun _ => none⟩
theorem facts : Facts C1 where
  startD := fun _ => rfl
  start := startT_get
  known := fun _ _ _ _ h => nomatch h
  told := fun _ _ h => nomatch h
  mixed := mixed
  named := fun f fn hf => by
    have h := List.all_eq_true.1 namedAll fn (by rw [Array.mem_toList_iff]; exact Array.mem_of_getElem? hf)
    simpa using h
  ext := fun f fn hf hb Δ args v args' w hv ha => by
    by_cases h1 : f = 546
    · subst h1
      rw [fn546] at hf
      cases hf
      exact ext_count fn546 (by kernel_rfl) (by kernel_rfl) (by kernel_rfl) (by kernel_rfl) hv ha
    · by_cases h2 : f = 568
      · subst h2
        rw [fn568] at hf
        cases hf
        exact ext_index fn568 (by kernel_rfl) (by kernel_rfl) (by kernel_rfl) (by kernel_rfl) hv ha
      · have h9 : C1.ext f = .none := by
          show E1 f = .none
          unfold E1
          split
          · exact absurd rfl h1
          · exact absurd rfl h2
          · rfl
        rw [h9] at hv
        simp [extF] at hv
end Go.Proofs.YtgfdhkhcojjkjaaGreatDoor.Hx
/- The plain machine with more fuel: what it answers once it answers always. -/
namespace Go.Proofs.YtgfdhkhcojjkjaaGreatDoor.Hx

/-- More is known of a call. -/
def Call.Le (c c' : Call) : Prop := ∀ f a h r, c f a h = some r → c' f a h = some r
theorem Call.Le.refl (c : Call) : c.Le c := fun _ _ _ _ h => h

section
variable {n : Nat} {c c' : Call} (hc : c.Le c')
include hc
theorem opC_mono {o : Oper} {t : Tm} {h : Hp} {r : V × Hp} (hv : (opC o).f c t h = some r) : (opC o).f c' t h = some r := by
  unfold opC at hv ⊢
  split
  · simp_all
  · simp_all
  · rename_i h0 h1
    split at hv
    · simp_all
    · simp_all
    · simp only [oB_eq] at hv ⊢
      obtain ⟨x, h2, h3⟩ := hv
      refine ⟨x, h2, ?_⟩
      cases x with
      | val v h' => exact h3
      | call f args => exact hc _ _ _ _ h3
theorem stepC_mono {all : List Oper} {o : Oper} {rest : SF} (hr : ∀ t h r, rest.f c t h = some r → rest.f c' t h = some r) {t : Tm} {h : Hp} {r : Tm × Hp} (hv : (stepC n all o rest).f c t h = some r) : (stepC n all o rest).f c' t h = some r := by
  unfold stepC at hv ⊢
  cases hd : dstC n o with
  | none => rw [hd] at hv; cases hv
  | some d =>
    rw [hd] at hv
    simp only at hv ⊢
    cases hw : wantC n all o with
    | none =>
      grind[deferC,oB_eq,opC_mono]
    | some g =>
      rw [hw] at hv
      simp only [oB_eq] at hv ⊢
      obtain ⟨b, h1, h2⟩ := hv
      refine ⟨b, h1, ?_⟩
      cases b <;> grind[oB_eq,opC_mono]
theorem regionC_mono {all : List Oper} : ∀ (os : List Oper) {t : Tm} {h : Hp} {r : Tm × Hp}, (regionC n all os).f c t h = some r → (regionC n all os).f c' t h = some r
  | [], _, _, _, hv => hv
  | _o :: os, _, _, _, hv => stepC_mono hc (fun _ _ _ h => regionC_mono os h) hv
omit hc in
theorem pureS_mono {all : List Oper} {ws : List It} {a : It} {d : DF} {rest : LF} (hr : ∀ t h rs r, rest.f c t h rs = some r → rest.f c' t h rs = some r) {t : Tm} {h : Hp} {rs : List Rec} {r : Tm × Hp} (hv : (pureS n all ws a d rest).f c t h rs = some r) :
    (pureS n all ws a d rest).f c' t h rs = some r := by
  unfold pureS at hv ⊢
  simp only [oB_eq] at hv ⊢
  obtain ⟨b, h1, h2⟩ := hv
  refine ⟨b, h1, ?_⟩
  cases b <;> grind[oB_eq]
omit hc in
theorem allocS_mono {all : List Oper} {ws : List It} {a : It} {d : DF} {rest : LF} (hr : ∀ t h rs r, rest.f c t h rs = some r → rest.f c' t h rs = some r) {t : Tm} {h : Hp} {rs : List Rec} {r : Tm × Hp} (hv : (allocS n all ws a d rest).f c t h rs = some r) :
    (allocS n all ws a d rest).f c' t h rs = some r := by
  unfold allocS at hv ⊢
  simp only [oB_eq] at hv ⊢
  obtain ⟨b, h1, h2⟩ := hv
  refine ⟨b, h1, ?_⟩
  cases b <;> grind[oB_eq]
theorem writeS_mono {all : List Oper} {k : Nat} {a : It} {d : DF} {rest : LF} (hr : ∀ t h rs r, rest.f c t h rs = some r → rest.f c' t h rs = some r) {t : Tm} {h : Hp} {rs : List Rec} {r : Tm × Hp} (hv : (writeS n all k a d rest).f c t h rs = some r) :
    (writeS n all k a d rest).f c' t h rs = some r := by
  unfold writeS at hv ⊢
  simp only [bB_eq, oB_eq] at hv ⊢
  obtain ⟨h0, b, h1, h2⟩ := hv
  refine ⟨h0, b, h1, ?_⟩
  cases b <;> grind[oB_eq,bB_eq,opC_mono]
theorem seqC_mono {all : List Oper} {ws : List It} : ∀ (l : List It) (k : Nat) {t : Tm} {h : Hp} {rs : List Rec} {r : Tm × Hp}, (seqC n all ws l k).f c t h rs = some r → (seqC n all ws l k).f c' t h rs = some r
  | [], _, _, _, _, _, hv => hv
  | a :: l, k, t, h, rs, r, hv => by
    unfold seqC at hv ⊢
    cases hd : dstC n a.o with
    | none => simp_all
    | some d =>
      rw [hd] at hv
      simp only at hv ⊢
      split
      · rename_i hk; rw [hk] at hv; exact pureS_mono (fun _ _ _ _ h => seqC_mono l _ h) hv
      · rename_i hk; rw [hk] at hv; exact allocS_mono (fun _ _ _ _ h => seqC_mono l _ h) hv
      · rename_i h0 h1
        split at hv
        · simp_all
        · simp_all
        · exact writeS_mono hc (fun _ _ _ _ h => seqC_mono l _ h) hv
theorem drawC_mono {all : List Oper} {t : Tm} {h : Hp} {r : Tm × Hp} (hv : (drawC n all).f c t h = some r) : (drawC n all).f c' t h = some r := by
  unfold drawC at hv ⊢
  cases hb : drawOk (items all 0 []) (wsOf (items all 0 [])) && orderOk (items all 0 []) (wsOf (items all 0 [])) (order (items all 0 []) (wsOf (items all 0 [])) (wsOf (items all 0 [])) 0) 0 0 with
  | true => grind[seqC_mono]
  | false =>
    rw [hb] at hv
    simp only at hv ⊢
    cases hf : freePair (items all 0 []) (wsOf (items all 0 [])) with
    | none => rw [hf] at hv; cases hv
    | some p =>
      rw [hf] at hv
      cases hb2 : drawOk2 (items all 0 []) && orderOk (items all 0 []) (wsOf (items all 0 [])) (order (items all 0 []) (wsOf (items all 0 [])) (wsOf (items all 0 [])) 0) 0 0 with
      | false => rw [hb2] at hv; cases hv
      | true =>
        grind[oB_eq,bB_eq,seqC_mono]
theorem codeC_mono {m m' : Nat} (hm : m ≤ m') : ∀ (k : Code) {t : Tm} {h : Hp} {r : X × Tm × Hp}, (codeC n k).f c m t h = some r → (codeC n k).f c' m' t h = some r
  | .skip, _, _, _, hv => hv
  | .seq x y, t, h, r, hv => by
    simp only [codeC] at hv ⊢
    rcases seqK_eq hv with ⟨t1, h1, e1, e2⟩ | ⟨e1, e2⟩
    · rw [codeC_mono hm x e1]; exact codeC_mono hm y e2
    · rw [codeC_mono hm x e1]
      obtain ⟨x', t', h'⟩ := r
      cases x' with
      | normal => simp_all
      | exit id => rfl
      | ret => rfl
  | .cond e x y, t, h, r, hv => by
    simp only [codeC, oB_eq] at hv ⊢
    obtain ⟨v, h1, h2⟩ := hv
    refine ⟨v, h1, ?_⟩
    split
    · rename_i b
      cases b with
      | true => exact codeC_mono hm x h2
      | false => exact codeC_mono hm y h2
    simp_all
  | .block id x, t, h, r, hv => by
    simp only [codeC] at hv ⊢
    cases hr : (codeC n x).f c m t h with
    | none => rw [hr] at hv; cases hv
    | some r' => rw [hr] at hv; rw [codeC_mono hm x hr]; exact hv
  | .loop x, t, h, r, hv => by
    simp only [codeC] at hv ⊢
    have key : ∀ (k k' : Nat) (t : Tm) (h : Hp), k ≤ k' → loopN (fun t h => (codeC n x).f c m t h) k t h = some r → loopN (fun t h => (codeC n x).f c' m' t h) k' t h = some r := by
      intro k
      induction k with
      | zero => intro k' t h _ hv; cases hv
      | succ k ih =>
        intro k' t h hk hv
        obtain ⟨k', rfl⟩ : ∃ j, k' = j + 1 := ⟨k' - 1, by omega⟩
        have hv' : seqK ((codeC n x).f c m t h) (loopN (fun t h => (codeC n x).f c m t h) k) = some r := hv
        show seqK ((codeC n x).f c' m' t h) (loopN (fun t h => (codeC n x).f c' m' t h) k') = some r
        rcases seqK_eq hv' with ⟨t1, h1, e1, e2⟩ | ⟨e1, e2⟩
        · rw [codeC_mono hm x e1]; exact ih k' t1 h1 (by omega) e2
        · rw [codeC_mono hm x e1]
          obtain ⟨x', t', h'⟩ := r
          cases x' with
          | normal => simp_all
          | exit id => rfl
          | ret => rfl
    grind
  | .exit id, _, _, _, hv => hv
  | .ret, _, _, _, hv => hv
  | .region id ops false, t, h, r, hv => by
    grind[codeC,oB_eq,regionC_mono]
  | .region id ops true, t, h, r, hv => by
    grind[codeC,oB_eq,drawC_mono]
  | .rangeFunc .., _, _, _, hv => by cases hv
  | .scope _, _, _, _, hv => by cases hv
  | .label _, _, _, _, hv => by cases hv
  | .goto _, _, _, _, hv => by cases hv
  | .refuse _, _, _, _, hv => by cases hv
theorem dfuncC_mono {C : Cfg} {m m' : Nat} (hm : m ≤ m') {f : Nat} {args : List V} {h : Hp} {r : V × Hp} (hv : (dfuncC C f).f c m args h = some r) : (dfuncC C f).f c' m' args h = some r := by
  unfold dfuncC at hv ⊢
  cases hf : P0.funcs[f]? <;> grind[recOf,bB_eq,oB_eq,codeC_mono]
theorem runD_mono {C : Cfg} {m m' : Nat} (hm : m ≤ m') : ∀ (l : List (Nat × List V)) {h h' : Hp}, runD C c m l h = some h' → runD C c' m' l h = some h'
  | [], _, _, hv => hv
  | x :: l, _, _, hv => by
    simp only [runD, oB_eq] at hv ⊢
    obtain ⟨r, h1, h2⟩ := hv
    exact ⟨r, dfuncC_mono hc hm h1, runD_mono hm l h2⟩
theorem funcC_mono {C : Cfg} {m m' : Nat} (hm : m ≤ m') {f : Nat} {args : List V} {h : Hp} {r : V × Hp} (hv : (funcC C f).f c m args h = some r) : (funcC C f).f c' m' args h = some r := by
  unfold funcC at hv ⊢
  cases hf : P0.funcs[f]? with
  | none => simp_all
  | some fn =>
    rw [hf] at hv
    simp only at hv ⊢
    cases hb : fn.body with
    | none => simp_all
    | some k =>
      rw [hb] at hv
      simp only at hv ⊢
      cases hR : C.R f with
      | some u => rw [hR] at hv; exact hv
      | none =>
      rw [hR] at hv
      simp only [orB] at hv ⊢
      cases hk : C.K f args h with
      | some u => rw [hk] at hv; exact hv
      | none =>
        rw [hk] at hv
        grind[orB,bB_eq,oB_eq,codeC_mono,id,runD_mono]
end
theorem callN_mono {C : Cfg} {m m' : Nat} (hm : m ≤ m') : ∀ {d d' : Nat}, d ≤ d' → (callN C m d).Le (callN C m' d')
  | 0, _, _ => fun _ _ _ _ h => (nomatch h)
  | d + 1, 0, h => by omega
  | d + 1, d' + 1, h => fun f a hp r hv => by
    have hv' : (funcC C f).f (callN C m d) m a hp = some r := hv
    show (funcC C f).f (callN C m' d') m' a hp = some r
    exact funcC_mono (callN_mono hm (by omega)) hm hv'
end Go.Proofs.YtgfdhkhcojjkjaaGreatDoor.Hx
/- Calls that panic, on the plain machine; and a call whose one put-off function catches the panic. -/
namespace Go.Proofs.YtgfdhkhcojjkjaaGreatDoor.Hx

abbrev chainOf (x : Value) : List PanicEntry := [{ v := x, recovered := false }]
def PanOk (pan : Call) : Prop := ∀ (f : Nat) (args : List V) (v : V) (h h' : Hp) (Δ : Env) (w : World) (args' : Array Value), pan f args h = some (v, h') → WR Δ h w → VsRel Δ args args'.toList →
  (callFunc f args').run P0 w = .ok (.enter f args') w ∧ Calls P0 f args' w fun e w' => ∃ Δ' x, e = .panicked (chainOf x) ∧ After Δ h w v h' Δ' x w'

noncomputable section
/-- What an operation panics with. -/
def panO (o : Oper) : RF := match o.op with
  | .panic x => ⟨fun _ t h => oB ((evO x).f t h) fun v => match v with
    | .iface ty u => some (.iface ty u, h)
    | _ => none⟩
  | .call _ => ⟨fun pan t h => oB ((writeC o).f t h) fun r => match r with
    | .call f args => pan f args h
    | .val _ _ => none⟩
  | _ => ⟨fun _ _ _ => none⟩
structure QF2 where
  f : Call → Call → Nat → Tm → Hp → Option (V × Tm × Hp)
def idS : SF := ⟨fun _ t h => some (t, h)⟩
def prgP (n : Nat) (all : List Oper) : List Oper → QF2
  | [] => ⟨fun _ _ _ _ _ => none⟩
  | o :: os => ⟨fun call pan m t h => match (stepC n all o idS).f call t h with
    | some r => (prgP n all os).f call pan m r.1 r.2
    | none => bB o.guard.isNone (oB ((panO o).f pan t h) fun r => some (r.1, t, r.2))⟩
def plpP (c : Tm → Hp → Option (X × Tm × Hp)) (p : Tm → Hp → Option (V × Tm × Hp)) : Nat → Tm → Hp → Option (V × Tm × Hp)
  | 0, _, _ => none
  | m + 1, t, h => match c t h with
    | some (.normal, t1, h1) => plpP c p m t1 h1
    | some _ => none
    | none => p t h
/-- Code that panics. -/
def panC (n : Nat) : Code → QF2
  | .seq a b => ⟨fun call pan m t h => match (codeC n a).f call m t h with
    | some (.normal, t1, h1) => (panC n b).f call pan m t1 h1
    | some _ => none
    | none => (panC n a).f call pan m t h⟩
  | .cond c a b => ⟨fun call pan m t h => oB ((evO c).f t h) fun v => match v with
    | .bool true => (panC n a).f call pan m t h
    | .bool false => (panC n b).f call pan m t h
    | _ => none⟩
  | .block _ c => panC n c
  | .loop c => ⟨fun call pan m t h => plpP (fun t h => (codeC n c).f call m t h) (fun t h => (panC n c).f call pan m t h) m t h⟩
  | .region _ ops false => prgP n ops.toList ops.toList
  | _ => ⟨fun _ _ _ _ _ => none⟩

end
section
variable {call pan : Call} {n : Nat}
theorem panO_wp (hp : PanOk pan) {Δ : Env} {h : Hp} {w : World} {t : Tm} {a : Act} (hW : WR Δ h w) (hT : TR Δ n t a) {o : Oper} {v : V} {h' : Hp} (hv : (panO o).f pan t h = some (v, h')) {K : Act → World → Prop} {Q : Exit → Act → World → Prop}
    (hQ : ∀ Δ' w' x, Goes Δ h w n t h' Δ' a w' → VRel Δ' v x → Q (.panic (chainOf x)) a w') : o.wp P0 a w K Q := by
  unfold panO at hv
  split at hv
  · rename_i x hop
    simp only [oB_eq] at hv
    obtain ⟨u, h1, h2⟩ := hv
    have hr := evO_ok hW hT h1
    split at h2
    · rename_i ty u
      cases h2
      unfold Oper.wp
      have hex : (execOp a.eval o).run P0 w = .halt (.panic (a.eval x)) w := by
        generalize hx : a.eval x = xv at hr
        cases hr
        unfold execOp
        rw [hop]
        simp only [Sem.run_bind, hx]
        rfl
      rw [hex, Oper.upon_panic]
      exact hQ Δ w _ (.start hT hW) hr
    · cases h2
  · simp only [oB_eq] at hv
    obtain ⟨r, h1, h2⟩ := hv
    rcases write_ok hW hT h1 with ⟨v', h'', Δ', x, w', rfl, _, _⟩ | ⟨g, l, args', rfl, h3, h4⟩
    · cases h2
    · unfold Oper.wp
      rw [h4]
      obtain ⟨h5, h6⟩ := hp g l v h h' Δ w args' h2 hW h3
      rw [h5, Oper.upon_enter]
      refine Calls.mono h6 fun e w' he => ?_
      obtain ⟨Δ', x, rfl, hA⟩ := he
      exact hQ Δ' w' x ⟨hT.mono hA.frame.le, hA.world, hA.frame, hA.grow⟩ hA.val
  · cases hv
theorem prgP_wp (hc : CallOk call) (hp : PanOk pan) {m : Nat} {ops : Array Oper} {Q : Exit → Act → World → Prop} : ∀ (l : List Oper) (k : Nat), l = ops.toList.drop k → ∀ {Δ : Env} {h : Hp} {w : World} {t : Tm} {a : Act},
    WR Δ h w → TR Δ n t a → ∀ {v : V} {t' : Tm} {h' : Hp}, (prgP n ops.toList l).f call pan m t h = some (v, t', h') → (∀ Δ' a' w' x, Goes Δ h w n t' h' Δ' a' w' → VRel Δ' v x → Q (.panic (chainOf x)) a' w') →
    wpOps P0 ops Q (List.range' k l.length) a w
  | [], k, hl, Δ, h, w, t, a, hW, hT, v, t', h', hv, hQ => by cases hv
  | o :: l, k, hl, Δ, h, w, t, a, hW, hT, v, t', h', hv, hQ => by
    have hk : ops[k]? = some o := by
      have : (ops.toList.drop k)[0]? = some o := by rw [← hl]; rfl
      rw [List.getElem?_drop, Nat.add_zero] at this
      simpa using this
    have hl' : l = ops.toList.drop (k + 1) := by
      rw [← List.drop_drop, ← hl]; rfl
    rw [List.length_cons, List.range'_succ, wpOps_cons]
    simp only [prgP] at hv
    split at hv
    · rename_i r hr
      refine step_wp hc hk hW hT hr fun t1 h1 Δ1 a1 w1 e1 g1 => ?_
      cases e1
      exact prgP_wp hc hp l (k + 1) hl' g1.world g1.tmps hv fun Δ' a' w' x g' hx => hQ _ _ _ _ (g1.trans g') hx
    · simp only [bB_eq, oB_eq] at hv
      obtain ⟨hg, ⟨u, h1⟩, e1, e2⟩ := hv
      cases e2
      unfold wpOp
      simp only [hk]
      have hw : Region.wanted o (yielded ops a.tmps) = true := want_none (n := n) (ops := ops.toList) (by
        unfold wantC
        cases hgd : o.guard with
        | none => rfl
        | some _ => rw [hgd] at hg; cases hg) _
      rw [if_pos hw]
      exact .inl (panO_wp hp hW hT e1 fun Δ' w' x g' hx => hQ _ _ _ _ g' hx)
theorem panC_wp (hc : CallOk call) (hp : PanOk pan) (hmix : P0.follows .mixedOrders = true) {m : Nat} : ∀ (c : Code) {Δ : Env} {h : Hp} {w : World} {t : Tm} {a : Act}, WR Δ h w → TR Δ n t a → ∀ {v : V} {t' : Tm} {h' : Hp},
    (panC n c).f call pan m t h = some (v, t', h') → ∀ {Q : Exit → Act → World → Prop}, (∀ Δ' a' w' x, Goes Δ h w n t' h' Δ' a' w' → VRel Δ' v x → Q (.panic (chainOf x)) a' w') → c.wp P0 Q a w
  | .seq x y, Δ, h, w, t, a, hW, hT, v, t', h', hv, Q, hQ => by
    simp only [panC] at hv
    refine wp_seq ?_
    split at hv
    · rename_i t1 h1 e1
      exact code_wp hc hmix x hW hT e1 fun Δ' a' w' hg => panC_wp hc hp hmix y hg.world hg.tmps hv fun Δ'' a'' w'' x hg' hx => hQ _ _ _ _ (hg.trans hg') hx
    · cases hv
    · exact panC_wp hc hp hmix x hW hT hv fun Δ' a' w' x hg hx => hQ _ _ _ _ hg hx
  | .cond c x y, Δ, h, w, t, a, hW, hT, v, t', h', hv, Q, hQ => by
    simp only [panC, oB_eq] at hv
    obtain ⟨u, h1, h2⟩ := hv
    have hr := evO_ok hW hT h1
    generalize hx : a.eval c = xv at hr
    split at h2
    · cases hr
      exact wp_cond_true hx (panC_wp hc hp hmix x hW hT h2 hQ)
    · cases hr
      exact wp_cond_false hx (panC_wp hc hp hmix y hW hT h2 hQ)
    · cases h2
  | .block id c, Δ, h, w, t, a, hW, hT, v, t', h', hv, Q, hQ => by
    refine wp_block ?_
    exact panC_wp hc hp hmix c hW hT hv fun Δ' a' w' x hg hx => hQ _ _ _ _ hg hx
  | .loop c, Δ, h, w, t, a, hW, hT, v, t', h', hv, Q, hQ => by
    refine LoopWp.wp ?_
    have key : ∀ (k : Nat) {Δ : Env} {h : Hp} {w : World} {t : Tm} {a : Act}, WR Δ h w → TR Δ n t a → plpP (fun t h => (codeC n c).f call m t h) (fun t h => (panC n c).f call pan m t h) k t h = some (v, t', h') →
        (∀ Δ' a' w' x, Goes Δ h w n t' h' Δ' a' w' → VRel Δ' v x → Q (.panic (chainOf x)) a' w') → LoopWp c Q a w := by
      intro k
      induction k with
      | zero => intro Δ h w t a _ _ hv _; cases hv
      | succ k ih =>
        intro Δ h w t a hW hT hv hQ
        refine LoopWp.round ?_
        simp only [plpP] at hv
        split at hv
        · rename_i t1 h1 e1
          exact code_wp hc hmix c hW hT e1 fun Δ' a' w' hg => ih hg.world hg.tmps hv fun Δ'' a'' w'' x hg' hx => hQ _ _ _ _ (hg.trans hg') hx
        · cases hv
        · exact panC_wp hc hp hmix c hW hT hv fun Δ' a' w' x hg hx => hQ _ _ _ _ hg hx
    exact key m hW hT hv hQ
  | .region id ops false, Δ, h, w, t, a, hW, hT, v, t', h', hv, Q, hQ => by
    refine wp_region ?_
    have := prgP_wp (Q := Q) hc hp ops.toList 0 rfl hW hT hv hQ
    rwa [← List.range_eq_range', Array.length_toList] at this
  | .region id ops true, Δ, h, w, t, a, hW, hT, v, t', h', hv, Q, hQ => by cases hv
  | .skip, Δ, h, w, t, a, hW, hT, v, t', h', hv, Q, hQ => by cases hv
  | .exit id, Δ, h, w, t, a, hW, hT, v, t', h', hv, Q, hQ => by cases hv
  | .ret, Δ, h, w, t, a, hW, hT, v, t', h', hv, Q, hQ => by cases hv
  | .rangeFunc .., Δ, h, w, t, a, hW, hT, v, t', h', hv, Q, hQ => by cases hv
  | .scope _, Δ, h, w, t, a, hW, hT, v, t', h', hv, Q, hQ => by cases hv
  | .label _, Δ, h, w, t, a, hW, hT, v, t', h', hv, Q, hQ => by cases hv
  | .goto _, Δ, h, w, t, a, hW, hT, v, t', h', hv, Q, hQ => by cases hv
  | .refuse _, Δ, h, w, t, a, hW, hT, v, t', h', hv, Q, hQ => by cases hv
end
noncomputable section
/-- A call that panics. -/
def pfuncC (C : Cfg) (f : Nat) (call pan : Call) (m : Nat) (args : List V) (h : Hp) : Option (V × Hp) := match P0.funcs[f]? with
  | some fn => match fn.body with
    | some c => bB (Nat.ble args.length fn.ntmps) (oB ((panC fn.ntmps c).f call pan m (C.start args) h) fun r => match r.2.1.ds with
      | [] => some (r.1, r.2.2)
      | _ :: _ => none)
    | none => none
  | none => none
def panN (C : Cfg) (m : Nat) : Nat → Call
  | 0 => fun _ _ _ => none
  | d + 1 => fun f args h => pfuncC C f (callN C m d) (panN C m d) m args h
/-- A function that was put off, and that catches a panic. -/
def catchC (C : Cfg) (g : Nat) (call : Call) (m : Nat) (l : List V) (v : V) (h : Hp) : Option Hp := match P0.funcs[g]? with
  | some fn => match fn.body with
    | some c => match recOf c with
      | some (d, rest) => bB (Nat.ble l.length fn.ntmps) (bB (Nat.blt d fn.ntmps) (oB ((codeC fn.ntmps rest).f call m ((C.start l).set d v) h) fun r => oB (dendC fn r) fun y => some y.2))
      | none => none
    | none => none
  | none => none
/-- A call whose body panics, and whose put-off function catches it. -/
def recC (C : Cfg) (f : Nat) (call pan : Call) (m : Nat) (args : List V) (h : Hp) : Option (V × Hp) := match P0.funcs[f]? with
  | some fn => match fn.body with
    | some c => bB (Nat.ble args.length fn.ntmps) (oB ((panC fn.ntmps c).f call pan m (C.start args) h) fun r => match r.2.1.ds with
      | [(g, l)] => oB (catchC C g call m l r.1 r.2.2) fun h2 => oB (resVs r.2.1 h2 fn.results.toList) fun vs => some (tupleOf vs, h2)
      | _ => none)
    | none => none
  | none => none
end
section
variable {call pan : Call}
theorem enter_run {C : Cfg} (hF : Facts C) {f : Nat} {fn : Func} {c : Code} (hf : P0.funcs[f]? = some fn) (hb : fn.body = some c) (args' : Array Value) (w : World) : (callFunc f args').run P0 w = .ok (.enter f args') w := by
  have hn := hF.named f fn hf
  simp only [callFunc, Sem.run_bind, run_program, Result.andThen_ok, hf, hn, hb, Option.isNone_some, Bool.false_eq_true, if_false]
  rfl
theorem pfunc_ok {C : Cfg} (hF : Facts C) (hc : CallOk call) (hp : PanOk pan) {m : Nat} : PanOk fun f args h => pfuncC C f call pan m args h := by
  intro f args v h h' Δ w args' hv hW ha
  simp only [pfuncC] at hv
  split at hv
  · rename_i fn hf
    split at hv
    · rename_i c hb
      refine ⟨enter_run hF hf hb args' w, ?_⟩
      simp only [bB_eq, oB_eq] at hv
      obtain ⟨hle, ⟨u, t', h2⟩, h1, h3⟩ := hv
      have hle' : args.length ≤ fn.ntmps := Nat.le_of_ble_eq_true hle
      refine calls_of_wp hf hb ?_
      refine panC_wp hc hp hF.mixed c hW (start_rel hF ha hle') h1 fun Δ' a' w' x hg hx => ?_
      simp only at h3
      split at h3
      · rename_i hds
        cases h3
        have hd := hg.tmps.ds
        rw [hds] at hd
        have hd' : a'.defers = [] := by cases hx : a'.defers with
          | nil => rfl
          | cons _ _ => rw [hx] at hd; cases hd
        exact ⟨hd', Δ', x, rfl, hx, hg.world, hg.frame, hg.grow⟩
      · cases h3
    · cases hv
  · cases hv
theorem panN_ok {C : Cfg} (hF : Facts C) (m : Nat) : ∀ d, PanOk (panN C m d)
  | 0 => fun _f _args _v _h _h' _Δ _w _args' hv => (nomatch hv)
  | d + 1 => pfunc_ok hF (callN_ok hF m d) (panN_ok hF m d)
theorem catch_ok {C : Cfg} (hF : Facts C) (hc : CallOk call) {m g : Nat} {l : List V} {v : V} {h h' : Hp} {Δ : Env} {w : World} {l' : Array Value} {x : Value} (hv : catchC C g call m l v h = some h')
    (hW : WR Δ h w) (ha : VsRel Δ l l'.toList) (hx : VRel Δ v x) : (callFunc g l').run P0 w = .ok (.enter g l') w ∧
      CallsD P0 g l' (.panicking (chainOf x)) w fun e u' w' => u' = .panicking [{ v := x, recovered := true }] ∧ ∃ Δ' y u, e = .returned y ∧ After Δ h w u h' Δ' y w' := by
  unfold catchC at hv
  split at hv
  · rename_i fn hf
    split at hv
    · rename_i c hb
      refine ⟨enter_run hF hf hb l' w, ?_⟩
      split at hv
      · rename_i d rest hrec
        simp only [bB_eq, oB_eq] at hv
        obtain ⟨hle, hd, r, h1, ⟨u, h3⟩, h2, h4⟩ := hv
        cases h4
        have hle' : l.length ≤ fn.ntmps := Nat.le_of_ble_eq_true hle
        obtain ⟨id, o, cl, rfl, hop, hcl, hgd, hdst⟩ := rec_split hrec
        refine callsD_of_wpS hf hb fun c₀ cs hc0 => ?_
        have hst := start_rel hF ha hle'
        have hdc : dstC fn.ntmps o = some ⟨fun t v => t.set d v⟩ := by unfold dstC; rw [hdst]; simp only [hd]
        have hT : TR Δ fn.ntmps ((C.start l).set d v) (({ tmps := l' ++ Array.replicate (fn.ntmps - l'.size) undef, defers := [] } : Act).put o.dst x) := put_ok hst hdc hx
        refine wpS_seq (wpS_region ?_)
        have hrange : List.range (#[o] : Array Oper).size = [0] := rfl
        rw [hrange]
        simp only [wpOpsS]
        have h0 : (#[o] : Array Oper)[0]? = some o := rfl
        simp only [h0]
        have hwant : ∀ y, Region.wanted o y = true := by grind[Region.wanted]
        rw [if_pos (hwant _), recover_run hop hcl]
        have hsome : recoverD (c₀ :: cs) = some (x, { c₀ with mode := .panicking [{ v := x, recovered := true }] } :: cs) := by simp only [recoverD, hc0]
        simp only [hsome]
        show rest.wpS P0 _ _ _ _
        refine wpS_of_wp ?_
        refine code_wp hc hF.mixed rest hW hT h1 fun Δ' a' w' hg => ?_
        obtain ⟨hx', hd', y, hy, hz⟩ := dend_ok hg h2
        obtain ⟨Δ'', z, he, hA⟩ := hz
        cases he
        rcases hx' with hx' | hx' <;> rw [hx'] <;> exact ⟨hd', _, rfl, y, hy, rfl, Δ'', y, u, rfl, hA⟩
      · cases hv
    · cases hv
  · cases hv
theorem rec_ok {C : Cfg} (hF : Facts C) (hc : CallOk call) (hp : PanOk pan) {m f : Nat} {args : List V} {v : V} {h h' : Hp} {Δ : Env} {w : World} {args' : Array Value} (hv : recC C f call pan m args h = some (v, h'))
    (hW : WR Δ h w) (ha : VsRel Δ args args'.toList) : Calls P0 f args' w fun e w' => ∃ Δ' x, e = .returned x ∧ After Δ h w v h' Δ' x w' := by
  unfold recC at hv
  split at hv
  · rename_i fn hf
    split at hv
    · rename_i c hb
      simp only [bB_eq, oB_eq] at hv
      obtain ⟨hle, ⟨u, t', h2⟩, h1, h3⟩ := hv
      have hle' : args.length ≤ fn.ntmps := Nat.le_of_ble_eq_true hle
      refine calls_of_wp_defers hf hb ?_
      refine panC_wp hc hp hF.mixed c hW (start_rel hF ha hle') h1 fun Δ' a' w' x hg hx => ?_
      simp only at h3
      split at h3
      · rename_i g l hds
        simp only [oB_eq] at h3
        obtain ⟨h4, e4, vs, e5, e6⟩ := h3
        cases e6
        have hd := hg.tmps.ds
        rw [hds] at hd
        show Leaves P0 fn a'.tmps _ a'.defers (.panicking (chainOf x)) w'
        generalize a'.defers = ds at hd
        cases hd with
        | cons _ _ cap dargs _ _ hal hnil =>
          cases hnil
          obtain ⟨g1, g2⟩ := catch_ok hF hc e4 hg.world hal hx
          refine leaves_cons (by simp) (f := g) (args := dargs ++ cap) g1 (CallsD.mono g2 fun e u' w'' he => ?_)
          obtain ⟨rfl, Δ'', y, u2, rfl, hA⟩ := he
          obtain ⟨z, hz, hzr⟩ := results_ok hA.world (hg.tmps.mono hA.frame.le) e5
          exact ⟨z, hz, Δ'', z, rfl, hzr, hA.world, hg.frame.trans hA.frame, hg.grow.trans hA.grow⟩
      · cases h3
    · cases hv
  · cases hv
/-- A call of flat arguments that panics and is caught, told beforehand. -/
theorem rec_calls {C : Cfg} (hF : Facts C) {m d n f : Nat} {l : List V} {v : V} (hn : P0.globals.size ≤ n) (hfl : v.flat = true)
    (h : isV v (recC C f (callN C m d) (panN C m d) m l { next := n, tr := .leaf }) = true) (W : World) (ht : TabOk (fun _ => none) W) (args' : Array Value) (ha : VsRel (fun _ => none) l args'.toList) :
    Calls P0 f args' W fun e W' => ∃ x, e = .returned x ∧ VRel (fun _ => none) v x ∧ Still W W' := by
  cases hr : recC C f (callN C m d) (panN C m d) m l { next := n, tr := .leaf } with
  | none => rw [hr] at h; cases h
  | some r =>
    let ⟨u, h'⟩ := r
    rw [hr] at h
    obtain rfl : u = v := V.eq_of_beq _ _ h
    refine Calls.mono (rec_ok hF (callN_ok hF m d) (panN_ok hF m d) hr (by grind[WR.start]) ha) fun e w' he => ?_
    obtain ⟨Δ', x, rfl, hA⟩ := he
    exact ⟨x, rfl, flat_rel hA.val hfl, hA.frame.still noRW⟩
end
end Go.Proofs.YtgfdhkhcojjkjaaGreatDoor.Hx
