/- Calls whose answers are known beforehand: tables that the plain machine looks into, each entry shown by a run of its own. -/
import Derived.Test.YtmpdoelanliaeaaGreatDoorHxT
namespace Go.Proofs.YtmpdoelanliaeaaGreatDoor.Hx

inductive KE where
  /-- Of a number that a table has the function's answer stands in the table. -/
  | names (f : Nat) (l : List (Nat × V))
  /-- The function takes nothing and returns true. -/
  | yes (f : Nat)
  /-- The function's answer to these arguments. -/
  | one (f : Nat) (args : List V) (v : V)
noncomputable def lookN : List (Nat × V) → Nat → Option V
  | [], _ => none
  | x :: l, n => Bool.rec (lookN l n) (some x.2) (Nat.beq x.1 n)
noncomputable def KE.ask (e : KE) (f : Nat) (args : List V) : Option V := match e with
  | .names g l => bB (Nat.beq f g) (match args with
    | [.int .i64 (.ofNat n)] => lookN l n
    | _ => none)
  | .yes g => bB (Nat.beq f g) (match args with
    | [] => some (.bool true)
    | _ => none)
  | .one g l v => bB (Nat.beq f g) (bB (V.beqs args l) (some v))
noncomputable def askAll : List KE → Nat → List V → Option V
  | [], _, _ => none
  | e :: es, f, args => orB (e.ask f args) (fun v => some v) (askAll es f args)
def isV (v : V) : Option (V × Hp) → Bool
  | some (u, _) => V.beq u v
  | _ => false
theorem known_flat {C : Cfg} (hF : Facts C) {m d n f : Nat} {args : List V} {v : V} (hn : P0.globals.size ≤ n) (hb : ∃ fn c, P0.funcs[f]? = some fn ∧ fn.body = some c) (hv : isV v (callN C m d f args { next := n, tr := .leaf }) = true)
    (W : World) (ht : TabOk (fun _ => none) W) (args' : Array Value) (ha : VsRel (fun _ => none) args args'.toList) :
    Calls P0 f args' W fun e W' => ∃ x, e = .returned x ∧ (v.flat = true → VRel (fun _ => none) v x) ∧ Still W W' := by
  cases hr : callN C m d f args { next := n, tr := .leaf } with
  | none => rw [hr] at hv; cases hv
  | some r =>
    let ⟨u, h'⟩ := r
    rw [hr] at hv
    obtain rfl : u = v := V.eq_of_beq _ _ hv
    rcases callN_ok hF m d f args _ _ _ (fun _ => none) W args' hr (by grind[WR.start]) ha with ⟨x, h1, _⟩ | ⟨_, h2⟩
    · exfalso
      let ⟨fn, c, hf, hbd⟩ := hb
      have hnm := hF.named f fn hf
      have : (callFunc f args').run P0 W = .ok (.enter f args') W := by
        simp only [callFunc, Sem.run_bind, run_program, Result.andThen_ok, hf, hnm, hbd, Option.isNone_some, Bool.false_eq_true, if_false]
        rfl
      simp_all
    · refine Calls.mono h2 fun e w' he => ?_
      obtain ⟨Δ', x, rfl, hA⟩ := he
      exact ⟨x, rfl, fun hfl => flat_rel hA.val hfl, hA.frame.still noRW⟩
/-- The table's answers, checked one by one. -/
noncomputable def namesOk (C : Cfg) (m d n f : Nat) : List (Nat × V) → Bool
  | [] => true
  | x :: l => Bool.rec false (namesOk C m d n f l) (isV x.2 (callN C m d f [.int .i64 (.ofNat x.1)] { next := n, tr := .leaf }))
theorem namesOk_get {C : Cfg} {m d n f : Nat} : ∀ l, namesOk C m d n f l = true → ∀ k s, lookN l k = some s → isV s (callN C m d f [.int .i64 (.ofNat k)] { next := n, tr := .leaf }) = true
  | [], _, k, s, hk => by cases hk
  | x :: l, h, k, s', hk => by
    simp only [namesOk] at h
    simp [lookN] at hk
    cases hb : isV x.2 (callN C m d f [.int .i64 (.ofNat x.1)] { next := n, tr := .leaf }) with
    | false => simp_all
    | true =>
      rw [hb] at h
      cases hx : Nat.beq x.1 k with
      | true =>
        simp_all
      | false =>
        rw [hx] at hk
        exact namesOk_get l h k s' hk
inductive KOk (C : Cfg) : KE → Prop where
  | names {m d n f l} (hn : P0.globals.size ≤ n) (hb : ∃ fn c, P0.funcs[f]? = some fn ∧ fn.body = some c) (h : namesOk C m d n f l = true) : KOk C (.names f l)
  | yes {m d n f} (hn : P0.globals.size ≤ n) (hb : ∃ fn c, P0.funcs[f]? = some fn ∧ fn.body = some c) (h : isTrue (callN C m d f [] { next := n, tr := .leaf }) = true) : KOk C (.yes f)
  | one {m d n f l v} (hn : P0.globals.size ≤ n) (hb : ∃ fn c, P0.funcs[f]? = some fn ∧ fn.body = some c) (h : isV v (callN C m d f l { next := n, tr := .leaf }) = true) : KOk C (.one f l v)
  | told {f l v} (h : ∀ (W : World), TabOk (fun _ => none) W → ∀ (args' : Array Value), VsRel (fun _ => none) l args'.toList → Calls P0 f args' W fun e W' => ∃ x, e = .returned x ∧ VRel (fun _ => none) v x ∧ Still W W') : KOk C (.one f l v)
theorem isTrue_isV {r : Option (V × Hp)} (h : isTrue r = true) : isV (.bool true) r = true := by
  unfold isTrue at h
  split at h
  · rfl
  · cases h
theorem KOk.calls {C : Cfg} (hF : Facts C) {e : KE} (he : KOk C e) {f : Nat} {args : List V} {v : V} (hv : e.ask f args = some v) (hfl : v.flat = true) (W : World) (ht : TabOk (fun _ => none) W) (args' : Array Value) (ha : VsRel (fun _ => none) args args'.toList) :
    Calls P0 f args' W fun e W' => ∃ x, e = .returned x ∧ VRel (fun _ => none) v x ∧ Still W W' := by
  cases he with
  | @names m d n g l hn hb h =>
    simp only [KE.ask, bB_eq] at hv
    obtain ⟨hfg, hv⟩ := hv
    obtain rfl := Nat.eq_of_beq_eq_true hfg
    split at hv
    · rename_i k
      have h1 := namesOk_get l h k v hv
      grind[known_flat]
    · cases hv
  | @yes m d n g hn hb h =>
    simp only [KE.ask, bB_eq] at hv
    obtain ⟨hfg, hv⟩ := hv
    obtain rfl := Nat.eq_of_beq_eq_true hfg
    split at hv
    · cases hv
      exact Calls.mono (known_flat hF hn hb (isTrue_isV h) W ht args' ha) (by simp_all)
    · cases hv
  | @one m d n g l u hn hb h =>
    simp only [KE.ask, bB_eq] at hv
    obtain ⟨hfg, ha', hv⟩ := hv
    obtain rfl := Nat.eq_of_beq_eq_true hfg
    obtain rfl := V.eq_of_beqs _ _ ha'
    cases hv
    exact Calls.mono (known_flat hF hn hb h W ht args' ha) fun e w' he => by grind
  | @told g l u h =>
    simp only [KE.ask, bB_eq] at hv
    obtain ⟨hfg, ha', hv⟩ := hv
    obtain rfl := Nat.eq_of_beq_eq_true hfg
    obtain rfl := V.eq_of_beqs _ _ ha'
    cases hv
    exact h W ht args' ha
/-- A way of calling that knows more. -/
noncomputable def Cfg.more (C : Cfg) (l : List KE) : Cfg := ⟨C.start, C.ext, fun f args h => orB (askAll l f args) (fun v => some v) (C.K f args h)⟩
theorem askAll_mem : ∀ l {f : Nat} {args : List V} {v : V}, askAll l f args = some v → ∃ e ∈ l, e.ask f args = some v
  | [], _, _, _, h => by cases h
  | e :: es, f, args, v, h => by
    simp [askAll] at h
    cases hq : e.ask f args with
    | some u => rw [hq] at h; grind[orB]
    | none =>
      rw [hq] at h
      let ⟨e', hm, h'⟩ := askAll_mem es h
      grind
theorem Facts.more {C : Cfg} (hF : Facts C) {l : List KE} (hl : ∀ e ∈ l, KOk C e) : Facts (C.more l) where
  startD := hF.startD
  start := hF.start
  mixed := hF.mixed
  named := hF.named
  ext := hF.ext
  known := fun f args v h hk hf1 hf2 Δ W args' hW ha => by
    simp [Cfg.more] at hk
    cases hq : askAll l f args with
    | some u =>
      rw [hq] at hk
      have : u = v := by simpa [orB] using hk
      subst this
      let ⟨e, hm, he⟩ := askAll_mem l hq
      exact (hl e hm).calls hF he hf2 W hW.tab.none args' ha
    | none =>
      rw [hq] at hk
      exact hF.known f args v h (by grind[orB]) hf1 hf2 Δ W args' hW ha
end Go.Proofs.YtmpdoelanliaeaaGreatDoor.Hx
