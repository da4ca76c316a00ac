/- Places of a body that are left whole, by lists of what is live there. -/
import Derived.Test.YtlbdcjnhlkkfeaaGreatDoorHx8
namespace Go.Proofs.YtlbdcjnhlkkfeaaGreatDoor.Hx
abbrev LP := List V → Hp → Prop
def chV (ρ : Rho) : List Nat → List V → Prop → Prop
  | i :: is, x :: xs, P => ρ i = x → chV ρ is xs P
  | _, _, P => P
def kf (is : List Nat) (K : LP) : Rho → Hp → Prop := fun ρ h => K (is.map ρ) h
/-- What holds at a place of a body, of values that are live there. -/
def JV (C : Cfg) (fn : Func) (tb : List (Nat × List Nat)) (k : Nat) (is : List Nat) (ks : List (Rho → Hp → Prop)) (Q : V → Hp → Prop) : LP := fun l h => ∀ ρ : Rho, chV ρ is l (WA C fn tb k ks Q ρ h)
theorem chV_mk {ρ : Rho} {P : Prop} : ∀ {is : List Nat} {l : List V}, is.length = l.length → (is.map ρ = l → P) → chV ρ is l P
  | [], [], _, h => h rfl
  | [], _ :: _, e, _ => by cases e
  | _ :: _, [], e, _ => by cases e
  | i :: is, x :: l, e, h => fun hx => chV_mk (is := is) (l := l) (by simp_all) (by simp_all)
/-- A rest by its values. -/
def CurV : Nat → Type
  | 0 => Hp → Prop
  | n + 1 => V → CurV n
def apL : (n : Nat) → CurV n → LP
  | 0, f, [], h => f h
  | n + 1, f, x :: l, h => apL n (f x) l h
  | _, _, _, _ => False
@[reducible] def ltI (I : Nat → LP) (k : Nat) : LP := fun l h => ∃ k', k' < k ∧ I k' l h
section
variable {C : Cfg} {fn : Func} {tb : List (Nat × List Nat)} {k m : Nat} {is : List Nat} {ks : List (Rho → Hp → Prop)} {Q : V → Hp → Prop} {h : Hp} {l : List V}
theorem JV.mk (n : Nat) (B : CurV n) (e : ∀ (ρ : Rho) (h : Hp), VA C fn.ntmps tb (placeV C fn tb k ks Q) ρ h = apL n B (is.map ρ) h) (hl : is.length = l.length) (H : apL n B l h) : JV C fn tb k is ks Q l h := fun ρ => chV_mk hl fun hm => by
  subst hm
  exact WA.of (e ρ h) H
theorem JV.loop (n : Nat) (I : Nat → LP) (B : LP → CurV n) (hl : isLoop (placeV C fn tb k ks Q).c = true) (hk : (placeV C fn tb k ks Q).ks = [])
    (e : ∀ (K : LP) (ρ : Rho) (h : Hp), VA C fn.ntmps tb (stepPl C fn.ntmps tb { placeV C fn tb k ks Q with ks := [kf is K] } false) ρ h = apL n (B K) (is.map ρ) h)
    (hI : ∀ m l h, l.length = n → I m l h → apL n (B (ltI I m)) l h) (hn : is.length = n) (hlen : is.length = l.length) (h0 : I m l h) : JV C fn tb k is ks Q l h := fun ρ => chV_mk hlen fun hm => by
  subst hm
  exact WA.loop (fun m ρ h => I m (is.map ρ) h) hl hk (fun m ρ h hi => LA.of (e (ltI I m) ρ h) (by grind)) h0
/-! ### loops that fill a map -/
noncomputable def fillP (k : IntKind) (it u : V) (h : Hp) : Option Hp := asPtr it fun r off => bB (Nat.beq off 0) (oB (h.get r) fun o => match o with
  | .iter (some m) since [] last => mapAt h m fun es clock => bB (Nat.beq since clock && Nat.beq last clock) (oB (keysI k es) fun ks => match u with
    | .map u => bB (!(Nat.beq u m)) (mapAt h u fun us _ => bB us.isEmpty (some ((h.put r .gone).put u (.bag k ks))))
    | _ => none)
  | _ => none)
theorem Fill.t_fn (F : Fill) (u : Nat) (b : Bool) (ρ : Rho) : ∃ ρ', F.t u b (.fn ρ []) = .fn ρ' [] ∧ ∀ i, i ∉ F.all.drop 2 → ρ' i = ρ i := by
  have key : ∀ i, i ∉ F.all.drop 2 → tget (F.t u b (.fn ρ [])) i = ρ i := fun i hi => by
    simp only [Fill.all, List.drop, List.mem_cons, List.not_mem_nil, or_false, not_or] at hi
    unfold Fill.t
    cases b <;> simp only [tget_set] <;> (repeat' rw [if_neg (by grind)]) <;> rfl
  cases b <;> exact ⟨_, rfl, key⟩
theorem fillC_P {F : Fill} {ρ : Rho} {h h' : Hp} (hv : fillP F.k (ρ F.it) (ρ F.u) h = some h') : ∃ ρ', fillC F (.fn ρ []) h = some (.exit F.x, .fn ρ' [], h') ∧ ∀ i, i ∉ F.all.drop 2 → ρ' i = ρ i := by
  unfold fillP at hv
  unfold fillC
  show ∃ ρ', asPtr (ρ F.it) _ = _ ∧ _
  rw [asPtr_eq] at hv
  obtain ⟨r, off, h1, hv⟩ := hv
  rw [bB_eq, oB_eq] at hv
  obtain ⟨h2, o, h3, hv⟩ := hv
  split at hv
  · simp only [mapAt_eq, bB_eq, oB_eq] at hv
    obtain ⟨es, c, h4, h5, ks, h6, hv⟩ := hv
    split at hv
    · rename_i u hu
      simp only [bB_eq, mapAt_eq] at hv
      obtain ⟨h7, us, cu, h8, h9, hv⟩ := hv
      cases hv
      obtain ⟨ρ', e1, e2⟩ := F.t_fn u es.isEmpty ρ
      refine ⟨ρ', ?_, e2⟩
      simp only [h1, asPtr, h2, bB, h3, oB, mapAt, h4, h5, h6]
      rw [show tget (.fn ρ []) F.u = .map u from hu]
      simp only [h7, h8, h9, e1]
    · cases hv
  · cases hv
theorem JV.fill {F : Fill} {k2 : Nat} {is2 : List Nat} {l2 : List V} {h' : Hp} (hl : fillAt fn.ntmps (placeV C fn tb k ks Q).c = some F)
    (e : ∀ (ρ : Rho) (h : Hp), (placeV C fn tb k ks Q).v (.exit F.x) ρ h = JV C fn tb k2 is2 ks Q (is2.map ρ) h) (hd : ∀ i ∈ is2, i ∉ F.all.drop 2) (hlen : is.length = l.length)
    (hs : ∀ ρ : Rho, is.map ρ = l → is2.map ρ = l2 ∧ fillP F.k (ρ F.it) (ρ F.u) h = some h') (H : JV C fn tb k2 is2 ks Q l2 h') : JV C fn tb k is ks Q l h := fun ρ => chV_mk hlen fun hm => by
  obtain ⟨h1, h2⟩ := hs ρ hm
  obtain ⟨ρ', h3, h4⟩ := fillC_P h2
  refine WA.fill hl h3 ?_
  rw [e, show is2.map ρ' = l2 from h1 ▸ List.map_congr_left fun i hi => h4 i (hd i hi)]
  exact H
/-! ### what is printed, folded -/
abbrev dF (k : Nat) (x : V) (h : Hp) (K : V → Prop) : Prop := oP (pFA k x) fun a => oP (pLd a h) K
abbrev dN (k : Nat) (x : V) (h : Hp) (K : V → Prop) : Prop := oP (pNil x) fun a => dF k a h K
abbrev dI (n : Nat) (x i : V) (k : Nat) (h : Hp) (K : V → Prop) : Prop := oP (pIx n x i) fun a => dF k a h K
abbrev dX (n : Nat) (x i : V) (h : Hp) (K : V → Prop) : Prop := oP (pIx n x i) fun a => oP (pLd a h) K
abbrev dG (k : Nat) (x : V) (h : Hp) (K : V → Prop) : Prop := dF k x h fun a => oP (pLen a) K
abbrev dM (k : Nat) (x : V) (h : Hp) (K : V → Prop) : Prop := dN k x h fun a => oP (pLen a) K
abbrev dJ (k : Nat) (x : V) (n : Nat) (i : V) (j : Nat) (h : Hp) (K : V → Prop) : Prop := dF k x h fun a => dI n a i j h K
abbrev dY (k : Nat) (x : V) (n : Nat) (i : V) (h : Hp) (K : V → Prop) : Prop := dF k x h fun a => dX n a i h K
abbrev bO (o : BinOp) (t : Nat) (a b : V) (A B : Prop) : Prop := oP (hbin o t a b) fun v => bP v A B
abbrev bN (a : V) (A B : Prop) : Prop := oP (hun .not a) fun v => bP v A B
theorem oF {k l o : Nat} {h : Hp} {v : V} {K : V → Prop} (a : pLd (.ptr l (o + k)) h = some v) (b : K v) : dF k (.ptr l o) h K := oP_eq.2 ⟨_, pFA_ptr _ _ _, oP_eq.2 ⟨_, a, b⟩⟩
theorem oN {k l o : Nat} {h : Hp} {v : V} {K : V → Prop} (a : pLd (.ptr l (o + k)) h = some v) (b : K v) : dN k (.ptr l o) h K := oP_eq.2 (by simp_all[pNil_ptr,oF])
theorem cP.vd {C : Cfg} {f : Nat} {fn : Func} (tb : List (Nat × List Nat)) {args : List V} {h : Hp} {Q : V → Hp → Prop} {P : Prop} (hs : C.start = startF) (hf : P0.funcs[f]? = some fn) (hk : C.K f args h = none) (H : P)
    (hb : fn.body = some (bodyOf fn) := by kernel_rfl) (hle : Nat.ble args.length fn.ntmps = true := by kernel_rfl) (e : VA C fn.ntmps tb (rootV fn [] Q) (argsR args) h = P := by kernel_rfl) : cP C f args h Q := cP.vc hs hf hb hk hle e H
abbrev S1 (I : Nat → LP) (B : LP → V → Hp → Prop) : Prop := ∀ (k : Nat) (x1 : V) (h : Hp), I k [x1] h → B (ltI I k) x1 h
abbrev R1 (B : V → Hp → Prop) (J : LP) : Prop := ∀ {x1 : V} {h : Hp}, B x1 h → J [x1] h
theorem JV.l1 (I : Nat → LP) (B : LP → V → Hp → Prop) (s : S1 I B) (i : I m l h) (g : l.length = 1) (hl : isLoop (placeV C fn tb k ks Q).c = true := by kernel_rfl) (hk : (placeV C fn tb k ks Q).ks = [] := by kernel_rfl)
    (e : ∀ (K : LP) (ρ : Rho) (h : Hp), VA C fn.ntmps tb (stepPl C fn.ntmps tb { placeV C fn tb k ks Q with ks := [kf is K] } false) ρ h = apL 1 (B K) (is.map ρ) h := by intros; kernel_rfl) (hn : is.length = 1 := by rfl) : JV C fn tb k is ks Q l h :=
  JV.loop 1 I B hl hk e (fun k l h g i => match l, g, i with | [x1], _, i => s k x1 h i) hn (hn.trans g.symm) i
theorem JV.r1 (B : V → Hp → Prop) (e : ∀ (ρ : Rho) (h : Hp), VA C fn.ntmps tb (placeV C fn tb k ks Q) ρ h = apL 1 B (is.map ρ) h := by intros; kernel_rfl) (hn : is.length = 1 := by rfl) : R1 B (JV C fn tb k is ks Q) := fun H => JV.mk 1 B e hn H
abbrev S2 (I : Nat → LP) (B : LP → V → V → Hp → Prop) : Prop := ∀ (k : Nat) (x1 x2 : V) (h : Hp), I k [x1, x2] h → B (ltI I k) x1 x2 h
abbrev R2 (B : V → V → Hp → Prop) (J : LP) : Prop := ∀ {x1 x2 : V} {h : Hp}, B x1 x2 h → J [x1, x2] h
theorem JV.l2 (I : Nat → LP) (B : LP → V → V → Hp → Prop) (s : S2 I B) (i : I m l h) (g : l.length = 2) (hl : isLoop (placeV C fn tb k ks Q).c = true := by kernel_rfl) (hk : (placeV C fn tb k ks Q).ks = [] := by kernel_rfl)
    (e : ∀ (K : LP) (ρ : Rho) (h : Hp), VA C fn.ntmps tb (stepPl C fn.ntmps tb { placeV C fn tb k ks Q with ks := [kf is K] } false) ρ h = apL 2 (B K) (is.map ρ) h := by intros; kernel_rfl) (hn : is.length = 2 := by rfl) : JV C fn tb k is ks Q l h :=
  JV.loop 2 I B hl hk e (fun k l h g i => match l, g, i with | [x1, x2], _, i => s k x1 x2 h i) hn (hn.trans g.symm) i
theorem JV.r2 (B : V → V → Hp → Prop) (e : ∀ (ρ : Rho) (h : Hp), VA C fn.ntmps tb (placeV C fn tb k ks Q) ρ h = apL 2 B (is.map ρ) h := by intros; kernel_rfl) (hn : is.length = 2 := by rfl) : R2 B (JV C fn tb k is ks Q) := fun H => JV.mk 2 B e hn H
abbrev S3 (I : Nat → LP) (B : LP → V → V → V → Hp → Prop) : Prop := ∀ (k : Nat) (x1 x2 x3 : V) (h : Hp), I k [x1, x2, x3] h → B (ltI I k) x1 x2 x3 h
abbrev R3 (B : V → V → V → Hp → Prop) (J : LP) : Prop := ∀ {x1 x2 x3 : V} {h : Hp}, B x1 x2 x3 h → J [x1, x2, x3] h
theorem JV.l3 (I : Nat → LP) (B : LP → V → V → V → Hp → Prop) (s : S3 I B) (i : I m l h) (g : l.length = 3) (hl : isLoop (placeV C fn tb k ks Q).c = true := by kernel_rfl) (hk : (placeV C fn tb k ks Q).ks = [] := by kernel_rfl)
    (e : ∀ (K : LP) (ρ : Rho) (h : Hp), VA C fn.ntmps tb (stepPl C fn.ntmps tb { placeV C fn tb k ks Q with ks := [kf is K] } false) ρ h = apL 3 (B K) (is.map ρ) h := by intros; kernel_rfl) (hn : is.length = 3 := by rfl) : JV C fn tb k is ks Q l h :=
  JV.loop 3 I B hl hk e (fun k l h g i => match l, g, i with | [x1, x2, x3], _, i => s k x1 x2 x3 h i) hn (hn.trans g.symm) i
theorem JV.r3 (B : V → V → V → Hp → Prop) (e : ∀ (ρ : Rho) (h : Hp), VA C fn.ntmps tb (placeV C fn tb k ks Q) ρ h = apL 3 B (is.map ρ) h := by intros; kernel_rfl) (hn : is.length = 3 := by rfl) : R3 B (JV C fn tb k is ks Q) := fun H => JV.mk 3 B e hn H
abbrev S4 (I : Nat → LP) (B : LP → V → V → V → V → Hp → Prop) : Prop := ∀ (k : Nat) (x1 x2 x3 x4 : V) (h : Hp), I k [x1, x2, x3, x4] h → B (ltI I k) x1 x2 x3 x4 h
abbrev R4 (B : V → V → V → V → Hp → Prop) (J : LP) : Prop := ∀ {x1 x2 x3 x4 : V} {h : Hp}, B x1 x2 x3 x4 h → J [x1, x2, x3, x4] h
theorem JV.l4 (I : Nat → LP) (B : LP → V → V → V → V → Hp → Prop) (s : S4 I B) (i : I m l h) (g : l.length = 4) (hl : isLoop (placeV C fn tb k ks Q).c = true := by kernel_rfl) (hk : (placeV C fn tb k ks Q).ks = [] := by kernel_rfl)
    (e : ∀ (K : LP) (ρ : Rho) (h : Hp), VA C fn.ntmps tb (stepPl C fn.ntmps tb { placeV C fn tb k ks Q with ks := [kf is K] } false) ρ h = apL 4 (B K) (is.map ρ) h := by intros; kernel_rfl) (hn : is.length = 4 := by rfl) : JV C fn tb k is ks Q l h :=
  JV.loop 4 I B hl hk e (fun k l h g i => match l, g, i with | [x1, x2, x3, x4], _, i => s k x1 x2 x3 x4 h i) hn (hn.trans g.symm) i
theorem JV.r4 (B : V → V → V → V → Hp → Prop) (e : ∀ (ρ : Rho) (h : Hp), VA C fn.ntmps tb (placeV C fn tb k ks Q) ρ h = apL 4 B (is.map ρ) h := by intros; kernel_rfl) (hn : is.length = 4 := by rfl) : R4 B (JV C fn tb k is ks Q) := fun H => JV.mk 4 B e hn H
abbrev S5 (I : Nat → LP) (B : LP → V → V → V → V → V → Hp → Prop) : Prop := ∀ (k : Nat) (x1 x2 x3 x4 x5 : V) (h : Hp), I k [x1, x2, x3, x4, x5] h → B (ltI I k) x1 x2 x3 x4 x5 h
abbrev R5 (B : V → V → V → V → V → Hp → Prop) (J : LP) : Prop := ∀ {x1 x2 x3 x4 x5 : V} {h : Hp}, B x1 x2 x3 x4 x5 h → J [x1, x2, x3, x4, x5] h
theorem JV.l5 (I : Nat → LP) (B : LP → V → V → V → V → V → Hp → Prop) (s : S5 I B) (i : I m l h) (g : l.length = 5) (hl : isLoop (placeV C fn tb k ks Q).c = true := by kernel_rfl) (hk : (placeV C fn tb k ks Q).ks = [] := by kernel_rfl)
    (e : ∀ (K : LP) (ρ : Rho) (h : Hp), VA C fn.ntmps tb (stepPl C fn.ntmps tb { placeV C fn tb k ks Q with ks := [kf is K] } false) ρ h = apL 5 (B K) (is.map ρ) h := by intros; kernel_rfl) (hn : is.length = 5 := by rfl) : JV C fn tb k is ks Q l h :=
  JV.loop 5 I B hl hk e (fun k l h g i => match l, g, i with | [x1, x2, x3, x4, x5], _, i => s k x1 x2 x3 x4 x5 h i) hn (hn.trans g.symm) i
theorem JV.r5 (B : V → V → V → V → V → Hp → Prop) (e : ∀ (ρ : Rho) (h : Hp), VA C fn.ntmps tb (placeV C fn tb k ks Q) ρ h = apL 5 B (is.map ρ) h := by intros; kernel_rfl) (hn : is.length = 5 := by rfl) : R5 B (JV C fn tb k is ks Q) := fun H => JV.mk 5 B e hn H
abbrev S6 (I : Nat → LP) (B : LP → V → V → V → V → V → V → Hp → Prop) : Prop := ∀ (k : Nat) (x1 x2 x3 x4 x5 x6 : V) (h : Hp), I k [x1, x2, x3, x4, x5, x6] h → B (ltI I k) x1 x2 x3 x4 x5 x6 h
abbrev R6 (B : V → V → V → V → V → V → Hp → Prop) (J : LP) : Prop := ∀ {x1 x2 x3 x4 x5 x6 : V} {h : Hp}, B x1 x2 x3 x4 x5 x6 h → J [x1, x2, x3, x4, x5, x6] h
theorem JV.l6 (I : Nat → LP) (B : LP → V → V → V → V → V → V → Hp → Prop) (s : S6 I B) (i : I m l h) (g : l.length = 6) (hl : isLoop (placeV C fn tb k ks Q).c = true := by kernel_rfl) (hk : (placeV C fn tb k ks Q).ks = [] := by kernel_rfl)
    (e : ∀ (K : LP) (ρ : Rho) (h : Hp), VA C fn.ntmps tb (stepPl C fn.ntmps tb { placeV C fn tb k ks Q with ks := [kf is K] } false) ρ h = apL 6 (B K) (is.map ρ) h := by intros; kernel_rfl) (hn : is.length = 6 := by rfl) : JV C fn tb k is ks Q l h :=
  JV.loop 6 I B hl hk e (fun k l h g i => match l, g, i with | [x1, x2, x3, x4, x5, x6], _, i => s k x1 x2 x3 x4 x5 x6 h i) hn (hn.trans g.symm) i
theorem JV.r6 (B : V → V → V → V → V → V → Hp → Prop) (e : ∀ (ρ : Rho) (h : Hp), VA C fn.ntmps tb (placeV C fn tb k ks Q) ρ h = apL 6 B (is.map ρ) h := by intros; kernel_rfl) (hn : is.length = 6 := by rfl) : R6 B (JV C fn tb k is ks Q) := fun H => JV.mk 6 B e hn H
abbrev S7 (I : Nat → LP) (B : LP → V → V → V → V → V → V → V → Hp → Prop) : Prop := ∀ (k : Nat) (x1 x2 x3 x4 x5 x6 x7 : V) (h : Hp), I k [x1, x2, x3, x4, x5, x6, x7] h → B (ltI I k) x1 x2 x3 x4 x5 x6 x7 h
abbrev R7 (B : V → V → V → V → V → V → V → Hp → Prop) (J : LP) : Prop := ∀ {x1 x2 x3 x4 x5 x6 x7 : V} {h : Hp}, B x1 x2 x3 x4 x5 x6 x7 h → J [x1, x2, x3, x4, x5, x6, x7] h
theorem JV.l7 (I : Nat → LP) (B : LP → V → V → V → V → V → V → V → Hp → Prop) (s : S7 I B) (i : I m l h) (g : l.length = 7) (hl : isLoop (placeV C fn tb k ks Q).c = true := by kernel_rfl) (hk : (placeV C fn tb k ks Q).ks = [] := by kernel_rfl)
    (e : ∀ (K : LP) (ρ : Rho) (h : Hp), VA C fn.ntmps tb (stepPl C fn.ntmps tb { placeV C fn tb k ks Q with ks := [kf is K] } false) ρ h = apL 7 (B K) (is.map ρ) h := by intros; kernel_rfl) (hn : is.length = 7 := by rfl) : JV C fn tb k is ks Q l h :=
  JV.loop 7 I B hl hk e (fun k l h g i => match l, g, i with | [x1, x2, x3, x4, x5, x6, x7], _, i => s k x1 x2 x3 x4 x5 x6 x7 h i) hn (hn.trans g.symm) i
theorem JV.r7 (B : V → V → V → V → V → V → V → Hp → Prop) (e : ∀ (ρ : Rho) (h : Hp), VA C fn.ntmps tb (placeV C fn tb k ks Q) ρ h = apL 7 B (is.map ρ) h := by intros; kernel_rfl) (hn : is.length = 7 := by rfl) : R7 B (JV C fn tb k is ks Q) := fun H => JV.mk 7 B e hn H
abbrev S8 (I : Nat → LP) (B : LP → V → V → V → V → V → V → V → V → Hp → Prop) : Prop := ∀ (k : Nat) (x1 x2 x3 x4 x5 x6 x7 x8 : V) (h : Hp), I k [x1, x2, x3, x4, x5, x6, x7, x8] h → B (ltI I k) x1 x2 x3 x4 x5 x6 x7 x8 h
abbrev R8 (B : V → V → V → V → V → V → V → V → Hp → Prop) (J : LP) : Prop := ∀ {x1 x2 x3 x4 x5 x6 x7 x8 : V} {h : Hp}, B x1 x2 x3 x4 x5 x6 x7 x8 h → J [x1, x2, x3, x4, x5, x6, x7, x8] h
theorem JV.l8 (I : Nat → LP) (B : LP → V → V → V → V → V → V → V → V → Hp → Prop) (s : S8 I B) (i : I m l h) (g : l.length = 8) (hl : isLoop (placeV C fn tb k ks Q).c = true := by kernel_rfl) (hk : (placeV C fn tb k ks Q).ks = [] := by kernel_rfl)
    (e : ∀ (K : LP) (ρ : Rho) (h : Hp), VA C fn.ntmps tb (stepPl C fn.ntmps tb { placeV C fn tb k ks Q with ks := [kf is K] } false) ρ h = apL 8 (B K) (is.map ρ) h := by intros; kernel_rfl) (hn : is.length = 8 := by rfl) : JV C fn tb k is ks Q l h :=
  JV.loop 8 I B hl hk e (fun k l h g i => match l, g, i with | [x1, x2, x3, x4, x5, x6, x7, x8], _, i => s k x1 x2 x3 x4 x5 x6 x7 x8 h i) hn (hn.trans g.symm) i
theorem JV.r8 (B : V → V → V → V → V → V → V → V → Hp → Prop) (e : ∀ (ρ : Rho) (h : Hp), VA C fn.ntmps tb (placeV C fn tb k ks Q) ρ h = apL 8 B (is.map ρ) h := by intros; kernel_rfl) (hn : is.length = 8 := by rfl) : R8 B (JV C fn tb k is ks Q) := fun H => JV.mk 8 B e hn H
abbrev S9 (I : Nat → LP) (B : LP → V → V → V → V → V → V → V → V → V → Hp → Prop) : Prop := ∀ (k : Nat) (x1 x2 x3 x4 x5 x6 x7 x8 x9 : V) (h : Hp), I k [x1, x2, x3, x4, x5, x6, x7, x8, x9] h → B (ltI I k) x1 x2 x3 x4 x5 x6 x7 x8 x9 h
abbrev R9 (B : V → V → V → V → V → V → V → V → V → Hp → Prop) (J : LP) : Prop := ∀ {x1 x2 x3 x4 x5 x6 x7 x8 x9 : V} {h : Hp}, B x1 x2 x3 x4 x5 x6 x7 x8 x9 h → J [x1, x2, x3, x4, x5, x6, x7, x8, x9] h
theorem JV.l9 (I : Nat → LP) (B : LP → V → V → V → V → V → V → V → V → V → Hp → Prop) (s : S9 I B) (i : I m l h) (g : l.length = 9) (hl : isLoop (placeV C fn tb k ks Q).c = true := by kernel_rfl) (hk : (placeV C fn tb k ks Q).ks = [] := by kernel_rfl)
    (e : ∀ (K : LP) (ρ : Rho) (h : Hp), VA C fn.ntmps tb (stepPl C fn.ntmps tb { placeV C fn tb k ks Q with ks := [kf is K] } false) ρ h = apL 9 (B K) (is.map ρ) h := by intros; kernel_rfl) (hn : is.length = 9 := by rfl) : JV C fn tb k is ks Q l h :=
  JV.loop 9 I B hl hk e (fun k l h g i => match l, g, i with | [x1, x2, x3, x4, x5, x6, x7, x8, x9], _, i => s k x1 x2 x3 x4 x5 x6 x7 x8 x9 h i) hn (hn.trans g.symm) i
theorem JV.r9 (B : V → V → V → V → V → V → V → V → V → Hp → Prop) (e : ∀ (ρ : Rho) (h : Hp), VA C fn.ntmps tb (placeV C fn tb k ks Q) ρ h = apL 9 B (is.map ρ) h := by intros; kernel_rfl) (hn : is.length = 9 := by rfl) : R9 B (JV C fn tb k is ks Q) := fun H => JV.mk 9 B e hn H
abbrev S10 (I : Nat → LP) (B : LP → V → V → V → V → V → V → V → V → V → V → Hp → Prop) : Prop := ∀ (k : Nat) (x1 x2 x3 x4 x5 x6 x7 x8 x9 x10 : V) (h : Hp), I k [x1, x2, x3, x4, x5, x6, x7, x8, x9, x10] h → B (ltI I k) x1 x2 x3 x4 x5 x6 x7 x8 x9 x10 h
abbrev R10 (B : V → V → V → V → V → V → V → V → V → V → Hp → Prop) (J : LP) : Prop := ∀ {x1 x2 x3 x4 x5 x6 x7 x8 x9 x10 : V} {h : Hp}, B x1 x2 x3 x4 x5 x6 x7 x8 x9 x10 h → J [x1, x2, x3, x4, x5, x6, x7, x8, x9, x10] h
theorem JV.l10 (I : Nat → LP) (B : LP → V → V → V → V → V → V → V → V → V → V → Hp → Prop) (s : S10 I B) (i : I m l h) (g : l.length = 10) (hl : isLoop (placeV C fn tb k ks Q).c = true := by kernel_rfl) (hk : (placeV C fn tb k ks Q).ks = [] := by kernel_rfl)
    (e : ∀ (K : LP) (ρ : Rho) (h : Hp), VA C fn.ntmps tb (stepPl C fn.ntmps tb { placeV C fn tb k ks Q with ks := [kf is K] } false) ρ h = apL 10 (B K) (is.map ρ) h := by intros; kernel_rfl) (hn : is.length = 10 := by rfl) : JV C fn tb k is ks Q l h :=
  JV.loop 10 I B hl hk e (fun k l h g i => match l, g, i with | [x1, x2, x3, x4, x5, x6, x7, x8, x9, x10], _, i => s k x1 x2 x3 x4 x5 x6 x7 x8 x9 x10 h i) hn (hn.trans g.symm) i
theorem JV.r10 (B : V → V → V → V → V → V → V → V → V → V → Hp → Prop) (e : ∀ (ρ : Rho) (h : Hp), VA C fn.ntmps tb (placeV C fn tb k ks Q) ρ h = apL 10 B (is.map ρ) h := by intros; kernel_rfl) (hn : is.length = 10 := by rfl) : R10 B (JV C fn tb k is ks Q) := fun H => JV.mk 10 B e hn H
abbrev S11 (I : Nat → LP) (B : LP → V → V → V → V → V → V → V → V → V → V → V → Hp → Prop) : Prop := ∀ (k : Nat) (x1 x2 x3 x4 x5 x6 x7 x8 x9 x10 x11 : V) (h : Hp), I k [x1, x2, x3, x4, x5, x6, x7, x8, x9, x10, x11] h → B (ltI I k) x1 x2 x3 x4 x5 x6 x7 x8 x9 x10 x11 h
abbrev R11 (B : V → V → V → V → V → V → V → V → V → V → V → Hp → Prop) (J : LP) : Prop := ∀ {x1 x2 x3 x4 x5 x6 x7 x8 x9 x10 x11 : V} {h : Hp}, B x1 x2 x3 x4 x5 x6 x7 x8 x9 x10 x11 h → J [x1, x2, x3, x4, x5, x6, x7, x8, x9, x10, x11] h
theorem JV.l11 (I : Nat → LP) (B : LP → V → V → V → V → V → V → V → V → V → V → V → Hp → Prop) (s : S11 I B) (i : I m l h) (g : l.length = 11) (hl : isLoop (placeV C fn tb k ks Q).c = true := by kernel_rfl) (hk : (placeV C fn tb k ks Q).ks = [] := by kernel_rfl)
    (e : ∀ (K : LP) (ρ : Rho) (h : Hp), VA C fn.ntmps tb (stepPl C fn.ntmps tb { placeV C fn tb k ks Q with ks := [kf is K] } false) ρ h = apL 11 (B K) (is.map ρ) h := by intros; kernel_rfl) (hn : is.length = 11 := by rfl) : JV C fn tb k is ks Q l h :=
  JV.loop 11 I B hl hk e (fun k l h g i => match l, g, i with | [x1, x2, x3, x4, x5, x6, x7, x8, x9, x10, x11], _, i => s k x1 x2 x3 x4 x5 x6 x7 x8 x9 x10 x11 h i) hn (hn.trans g.symm) i
theorem JV.r11 (B : V → V → V → V → V → V → V → V → V → V → V → Hp → Prop) (e : ∀ (ρ : Rho) (h : Hp), VA C fn.ntmps tb (placeV C fn tb k ks Q) ρ h = apL 11 B (is.map ρ) h := by intros; kernel_rfl) (hn : is.length = 11 := by rfl) : R11 B (JV C fn tb k is ks Q) := fun H => JV.mk 11 B e hn H
abbrev S12 (I : Nat → LP) (B : LP → V → V → V → V → V → V → V → V → V → V → V → V → Hp → Prop) : Prop := ∀ (k : Nat) (x1 x2 x3 x4 x5 x6 x7 x8 x9 x10 x11 x12 : V) (h : Hp), I k [x1, x2, x3, x4, x5, x6, x7, x8, x9, x10, x11, x12] h → B (ltI I k) x1 x2 x3 x4 x5 x6 x7 x8 x9 x10 x11 x12 h
abbrev R12 (B : V → V → V → V → V → V → V → V → V → V → V → V → Hp → Prop) (J : LP) : Prop := ∀ {x1 x2 x3 x4 x5 x6 x7 x8 x9 x10 x11 x12 : V} {h : Hp}, B x1 x2 x3 x4 x5 x6 x7 x8 x9 x10 x11 x12 h → J [x1, x2, x3, x4, x5, x6, x7, x8, x9, x10, x11, x12] h
theorem JV.l12 (I : Nat → LP) (B : LP → V → V → V → V → V → V → V → V → V → V → V → V → Hp → Prop) (s : S12 I B) (i : I m l h) (g : l.length = 12) (hl : isLoop (placeV C fn tb k ks Q).c = true := by kernel_rfl) (hk : (placeV C fn tb k ks Q).ks = [] := by kernel_rfl)
    (e : ∀ (K : LP) (ρ : Rho) (h : Hp), VA C fn.ntmps tb (stepPl C fn.ntmps tb { placeV C fn tb k ks Q with ks := [kf is K] } false) ρ h = apL 12 (B K) (is.map ρ) h := by intros; kernel_rfl) (hn : is.length = 12 := by rfl) : JV C fn tb k is ks Q l h :=
  JV.loop 12 I B hl hk e (fun k l h g i => match l, g, i with | [x1, x2, x3, x4, x5, x6, x7, x8, x9, x10, x11, x12], _, i => s k x1 x2 x3 x4 x5 x6 x7 x8 x9 x10 x11 x12 h i) hn (hn.trans g.symm) i
theorem JV.r12 (B : V → V → V → V → V → V → V → V → V → V → V → V → Hp → Prop) (e : ∀ (ρ : Rho) (h : Hp), VA C fn.ntmps tb (placeV C fn tb k ks Q) ρ h = apL 12 B (is.map ρ) h := by intros; kernel_rfl) (hn : is.length = 12 := by rfl) : R12 B (JV C fn tb k is ks Q) := fun H => JV.mk 12 B e hn H
abbrev S13 (I : Nat → LP) (B : LP → V → V → V → V → V → V → V → V → V → V → V → V → V → Hp → Prop) : Prop := ∀ (k : Nat) (x1 x2 x3 x4 x5 x6 x7 x8 x9 x10 x11 x12 x13 : V) (h : Hp), I k [x1, x2, x3, x4, x5, x6, x7, x8, x9, x10, x11, x12, x13] h → B (ltI I k) x1 x2 x3 x4 x5 x6 x7 x8 x9 x10 x11 x12 x13 h
abbrev R13 (B : V → V → V → V → V → V → V → V → V → V → V → V → V → Hp → Prop) (J : LP) : Prop := ∀ {x1 x2 x3 x4 x5 x6 x7 x8 x9 x10 x11 x12 x13 : V} {h : Hp}, B x1 x2 x3 x4 x5 x6 x7 x8 x9 x10 x11 x12 x13 h → J [x1, x2, x3, x4, x5, x6, x7, x8, x9, x10, x11, x12, x13] h
theorem JV.l13 (I : Nat → LP) (B : LP → V → V → V → V → V → V → V → V → V → V → V → V → V → Hp → Prop) (s : S13 I B) (i : I m l h) (g : l.length = 13) (hl : isLoop (placeV C fn tb k ks Q).c = true := by kernel_rfl) (hk : (placeV C fn tb k ks Q).ks = [] := by kernel_rfl)
    (e : ∀ (K : LP) (ρ : Rho) (h : Hp), VA C fn.ntmps tb (stepPl C fn.ntmps tb { placeV C fn tb k ks Q with ks := [kf is K] } false) ρ h = apL 13 (B K) (is.map ρ) h := by intros; kernel_rfl) (hn : is.length = 13 := by rfl) : JV C fn tb k is ks Q l h :=
  JV.loop 13 I B hl hk e (fun k l h g i => match l, g, i with | [x1, x2, x3, x4, x5, x6, x7, x8, x9, x10, x11, x12, x13], _, i => s k x1 x2 x3 x4 x5 x6 x7 x8 x9 x10 x11 x12 x13 h i) hn (hn.trans g.symm) i
theorem JV.r13 (B : V → V → V → V → V → V → V → V → V → V → V → V → V → Hp → Prop) (e : ∀ (ρ : Rho) (h : Hp), VA C fn.ntmps tb (placeV C fn tb k ks Q) ρ h = apL 13 B (is.map ρ) h := by intros; kernel_rfl) (hn : is.length = 13 := by rfl) : R13 B (JV C fn tb k is ks Q) := fun H => JV.mk 13 B e hn H
abbrev S14 (I : Nat → LP) (B : LP → V → V → V → V → V → V → V → V → V → V → V → V → V → V → Hp → Prop) : Prop := ∀ (k : Nat) (x1 x2 x3 x4 x5 x6 x7 x8 x9 x10 x11 x12 x13 x14 : V) (h : Hp), I k [x1, x2, x3, x4, x5, x6, x7, x8, x9, x10, x11, x12, x13, x14] h → B (ltI I k) x1 x2 x3 x4 x5 x6 x7 x8 x9 x10 x11 x12 x13 x14 h
abbrev R14 (B : V → V → V → V → V → V → V → V → V → V → V → V → V → V → Hp → Prop) (J : LP) : Prop := ∀ {x1 x2 x3 x4 x5 x6 x7 x8 x9 x10 x11 x12 x13 x14 : V} {h : Hp}, B x1 x2 x3 x4 x5 x6 x7 x8 x9 x10 x11 x12 x13 x14 h → J [x1, x2, x3, x4, x5, x6, x7, x8, x9, x10, x11, x12, x13, x14] h
theorem JV.l14 (I : Nat → LP) (B : LP → V → V → V → V → V → V → V → V → V → V → V → V → V → V → Hp → Prop) (s : S14 I B) (i : I m l h) (g : l.length = 14) (hl : isLoop (placeV C fn tb k ks Q).c = true := by kernel_rfl) (hk : (placeV C fn tb k ks Q).ks = [] := by kernel_rfl)
    (e : ∀ (K : LP) (ρ : Rho) (h : Hp), VA C fn.ntmps tb (stepPl C fn.ntmps tb { placeV C fn tb k ks Q with ks := [kf is K] } false) ρ h = apL 14 (B K) (is.map ρ) h := by intros; kernel_rfl) (hn : is.length = 14 := by rfl) : JV C fn tb k is ks Q l h :=
  JV.loop 14 I B hl hk e (fun k l h g i => match l, g, i with | [x1, x2, x3, x4, x5, x6, x7, x8, x9, x10, x11, x12, x13, x14], _, i => s k x1 x2 x3 x4 x5 x6 x7 x8 x9 x10 x11 x12 x13 x14 h i) hn (hn.trans g.symm) i
theorem JV.r14 (B : V → V → V → V → V → V → V → V → V → V → V → V → V → V → Hp → Prop) (e : ∀ (ρ : Rho) (h : Hp), VA C fn.ntmps tb (placeV C fn tb k ks Q) ρ h = apL 14 B (is.map ρ) h := by intros; kernel_rfl) (hn : is.length = 14 := by rfl) : R14 B (JV C fn tb k is ks Q) := fun H => JV.mk 14 B e hn H
abbrev S15 (I : Nat → LP) (B : LP → V → V → V → V → V → V → V → V → V → V → V → V → V → V → V → Hp → Prop) : Prop := ∀ (k : Nat) (x1 x2 x3 x4 x5 x6 x7 x8 x9 x10 x11 x12 x13 x14 x15 : V) (h : Hp), I k [x1, x2, x3, x4, x5, x6, x7, x8, x9, x10, x11, x12, x13, x14, x15] h → B (ltI I k) x1 x2 x3 x4 x5 x6 x7 x8 x9 x10 x11 x12 x13 x14 x15 h
abbrev R15 (B : V → V → V → V → V → V → V → V → V → V → V → V → V → V → V → Hp → Prop) (J : LP) : Prop := ∀ {x1 x2 x3 x4 x5 x6 x7 x8 x9 x10 x11 x12 x13 x14 x15 : V} {h : Hp}, B x1 x2 x3 x4 x5 x6 x7 x8 x9 x10 x11 x12 x13 x14 x15 h → J [x1, x2, x3, x4, x5, x6, x7, x8, x9, x10, x11, x12, x13, x14, x15] h
theorem JV.l15 (I : Nat → LP) (B : LP → V → V → V → V → V → V → V → V → V → V → V → V → V → V → V → Hp → Prop) (s : S15 I B) (i : I m l h) (g : l.length = 15) (hl : isLoop (placeV C fn tb k ks Q).c = true := by kernel_rfl) (hk : (placeV C fn tb k ks Q).ks = [] := by kernel_rfl)
    (e : ∀ (K : LP) (ρ : Rho) (h : Hp), VA C fn.ntmps tb (stepPl C fn.ntmps tb { placeV C fn tb k ks Q with ks := [kf is K] } false) ρ h = apL 15 (B K) (is.map ρ) h := by intros; kernel_rfl) (hn : is.length = 15 := by rfl) : JV C fn tb k is ks Q l h :=
  JV.loop 15 I B hl hk e (fun k l h g i => match l, g, i with | [x1, x2, x3, x4, x5, x6, x7, x8, x9, x10, x11, x12, x13, x14, x15], _, i => s k x1 x2 x3 x4 x5 x6 x7 x8 x9 x10 x11 x12 x13 x14 x15 h i) hn (hn.trans g.symm) i
theorem JV.r15 (B : V → V → V → V → V → V → V → V → V → V → V → V → V → V → V → Hp → Prop) (e : ∀ (ρ : Rho) (h : Hp), VA C fn.ntmps tb (placeV C fn tb k ks Q) ρ h = apL 15 B (is.map ρ) h := by intros; kernel_rfl) (hn : is.length = 15 := by rfl) : R15 B (JV C fn tb k is ks Q) := fun H => JV.mk 15 B e hn H
abbrev S17 (I : Nat → LP) (B : LP → V → V → V → V → V → V → V → V → V → V → V → V → V → V → V → V → V → Hp → Prop) : Prop := ∀ (k : Nat) (x1 x2 x3 x4 x5 x6 x7 x8 x9 x10 x11 x12 x13 x14 x15 x16 x17 : V) (h : Hp), I k [x1, x2, x3, x4, x5, x6, x7, x8, x9, x10, x11, x12, x13, x14, x15, x16, x17] h → B (ltI I k) x1 x2 x3 x4 x5 x6 x7 x8 x9 x10 x11 x12 x13 x14 x15 x16 x17 h
abbrev R17 (B : V → V → V → V → V → V → V → V → V → V → V → V → V → V → V → V → V → Hp → Prop) (J : LP) : Prop := ∀ {x1 x2 x3 x4 x5 x6 x7 x8 x9 x10 x11 x12 x13 x14 x15 x16 x17 : V} {h : Hp}, B x1 x2 x3 x4 x5 x6 x7 x8 x9 x10 x11 x12 x13 x14 x15 x16 x17 h → J [x1, x2, x3, x4, x5, x6, x7, x8, x9, x10, x11, x12, x13, x14, x15, x16, x17] h
theorem JV.l17 (I : Nat → LP) (B : LP → V → V → V → V → V → V → V → V → V → V → V → V → V → V → V → V → V → Hp → Prop) (s : S17 I B) (i : I m l h) (g : l.length = 17) (hl : isLoop (placeV C fn tb k ks Q).c = true := by kernel_rfl) (hk : (placeV C fn tb k ks Q).ks = [] := by kernel_rfl)
    (e : ∀ (K : LP) (ρ : Rho) (h : Hp), VA C fn.ntmps tb (stepPl C fn.ntmps tb { placeV C fn tb k ks Q with ks := [kf is K] } false) ρ h = apL 17 (B K) (is.map ρ) h := by intros; kernel_rfl) (hn : is.length = 17 := by rfl) : JV C fn tb k is ks Q l h :=
  JV.loop 17 I B hl hk e (fun k l h g i => match l, g, i with | [x1, x2, x3, x4, x5, x6, x7, x8, x9, x10, x11, x12, x13, x14, x15, x16, x17], _, i => s k x1 x2 x3 x4 x5 x6 x7 x8 x9 x10 x11 x12 x13 x14 x15 x16 x17 h i) hn (hn.trans g.symm) i
theorem JV.r17 (B : V → V → V → V → V → V → V → V → V → V → V → V → V → V → V → V → V → Hp → Prop) (e : ∀ (ρ : Rho) (h : Hp), VA C fn.ntmps tb (placeV C fn tb k ks Q) ρ h = apL 17 B (is.map ρ) h := by intros; kernel_rfl) (hn : is.length = 17 := by rfl) : R17 B (JV C fn tb k is ks Q) := fun H => JV.mk 17 B e hn H
abbrev S18 (I : Nat → LP) (B : LP → V → V → V → V → V → V → V → V → V → V → V → V → V → V → V → V → V → V → Hp → Prop) : Prop := ∀ (k : Nat) (x1 x2 x3 x4 x5 x6 x7 x8 x9 x10 x11 x12 x13 x14 x15 x16 x17 x18 : V) (h : Hp), I k [x1, x2, x3, x4, x5, x6, x7, x8, x9, x10, x11, x12, x13, x14, x15, x16, x17, x18] h → B (ltI I k) x1 x2 x3 x4 x5 x6 x7 x8 x9 x10 x11 x12 x13 x14 x15 x16 x17 x18 h
abbrev R18 (B : V → V → V → V → V → V → V → V → V → V → V → V → V → V → V → V → V → V → Hp → Prop) (J : LP) : Prop := ∀ {x1 x2 x3 x4 x5 x6 x7 x8 x9 x10 x11 x12 x13 x14 x15 x16 x17 x18 : V} {h : Hp}, B x1 x2 x3 x4 x5 x6 x7 x8 x9 x10 x11 x12 x13 x14 x15 x16 x17 x18 h → J [x1, x2, x3, x4, x5, x6, x7, x8, x9, x10, x11, x12, x13, x14, x15, x16, x17, x18] h
theorem JV.l18 (I : Nat → LP) (B : LP → V → V → V → V → V → V → V → V → V → V → V → V → V → V → V → V → V → V → Hp → Prop) (s : S18 I B) (i : I m l h) (g : l.length = 18) (hl : isLoop (placeV C fn tb k ks Q).c = true := by kernel_rfl) (hk : (placeV C fn tb k ks Q).ks = [] := by kernel_rfl)
    (e : ∀ (K : LP) (ρ : Rho) (h : Hp), VA C fn.ntmps tb (stepPl C fn.ntmps tb { placeV C fn tb k ks Q with ks := [kf is K] } false) ρ h = apL 18 (B K) (is.map ρ) h := by intros; kernel_rfl) (hn : is.length = 18 := by rfl) : JV C fn tb k is ks Q l h :=
  JV.loop 18 I B hl hk e (fun k l h g i => match l, g, i with | [x1, x2, x3, x4, x5, x6, x7, x8, x9, x10, x11, x12, x13, x14, x15, x16, x17, x18], _, i => s k x1 x2 x3 x4 x5 x6 x7 x8 x9 x10 x11 x12 x13 x14 x15 x16 x17 x18 h i) hn (hn.trans g.symm) i
theorem JV.r18 (B : V → V → V → V → V → V → V → V → V → V → V → V → V → V → V → V → V → V → Hp → Prop) (e : ∀ (ρ : Rho) (h : Hp), VA C fn.ntmps tb (placeV C fn tb k ks Q) ρ h = apL 18 B (is.map ρ) h := by intros; kernel_rfl) (hn : is.length = 18 := by rfl) : R18 B (JV C fn tb k is ks Q) := fun H => JV.mk 18 B e hn H
abbrev nZ : V := .int .i64 0
abbrev nO : V := .int .i64 1
abbrev nS : V := .nilSlice
abbrev bT : V := .bool true
abbrev bF : V := .bool false
abbrev zC (T : Nat) (l : List V) : Option (O × (Nat → V)) := some (.cells T 1 true false l, fun l => .ptr l 0)
abbrev P2 (I : Nat → V → V → Hp → Prop) (B : (V → V → Hp → Prop) → V → V → Hp → Prop) : Prop := ∀ (k : Nat) (x1 x2 : V) (h : Hp), I k x1 x2 h → B (fun x1 x2 h => ∃ k', k' < k ∧ I k' x1 x2 h) x1 x2 h
theorem WA.l2 {i1 i2 : Nat} {x1 x2 : V} (I : Nat → V → V → Hp → Prop) (B : (V → V → Hp → Prop) → V → V → Hp → Prop) (s : P2 I B) (g : I m x1 x2 h) (hl : isLoop (placeV C fn tb k ks Q).c = true := by kernel_rfl) (hk : (placeV C fn tb k ks Q).ks = [] := by kernel_rfl)
    (e : ∀ (K : V → V → Hp → Prop) (ρ : Rho) (h : Hp), VA C fn.ntmps tb (stepPl C fn.ntmps tb { placeV C fn tb k ks Q with ks := [fun ρ h => K (ρ i1) (ρ i2) h] } false) ρ h = B K (ρ i1) (ρ i2) h := by intros; kernel_rfl) : ∀ ρ : Rho, ρ i1 = x1 → ρ i2 = x2 → WA C fn tb k ks Q ρ h := by
  rintro ρ rfl rfl
  exact WA.loop (fun k ρ h => I k (ρ i1) (ρ i2) h) hl hk (fun k ρ h hi => LA.of (by grind) (s k (ρ i1) (ρ i2) h hi)) g
abbrev P3 (I : Nat → V → V → V → Hp → Prop) (B : (V → V → V → Hp → Prop) → V → V → V → Hp → Prop) : Prop := ∀ (k : Nat) (x1 x2 x3 : V) (h : Hp), I k x1 x2 x3 h → B (fun x1 x2 x3 h => ∃ k', k' < k ∧ I k' x1 x2 x3 h) x1 x2 x3 h
theorem WA.l3 {i1 i2 i3 : Nat} {x1 x2 x3 : V} (I : Nat → V → V → V → Hp → Prop) (B : (V → V → V → Hp → Prop) → V → V → V → Hp → Prop) (s : P3 I B) (g : I m x1 x2 x3 h) (hl : isLoop (placeV C fn tb k ks Q).c = true := by kernel_rfl) (hk : (placeV C fn tb k ks Q).ks = [] := by kernel_rfl)
    (e : ∀ (K : V → V → V → Hp → Prop) (ρ : Rho) (h : Hp), VA C fn.ntmps tb (stepPl C fn.ntmps tb { placeV C fn tb k ks Q with ks := [fun ρ h => K (ρ i1) (ρ i2) (ρ i3) h] } false) ρ h = B K (ρ i1) (ρ i2) (ρ i3) h := by intros; kernel_rfl) : ∀ ρ : Rho, ρ i1 = x1 → ρ i2 = x2 → ρ i3 = x3 → WA C fn tb k ks Q ρ h := by
  rintro ρ rfl rfl rfl
  exact WA.loop (fun k ρ h => I k (ρ i1) (ρ i2) (ρ i3) h) hl hk (fun k ρ h hi => LA.of (by grind) (s k (ρ i1) (ρ i2) (ρ i3) h hi)) g
abbrev P4 (I : Nat → V → V → V → V → Hp → Prop) (B : (V → V → V → V → Hp → Prop) → V → V → V → V → Hp → Prop) : Prop := ∀ (k : Nat) (x1 x2 x3 x4 : V) (h : Hp), I k x1 x2 x3 x4 h → B (fun x1 x2 x3 x4 h => ∃ k', k' < k ∧ I k' x1 x2 x3 x4 h) x1 x2 x3 x4 h
theorem WA.l4 {i1 i2 i3 i4 : Nat} {x1 x2 x3 x4 : V} (I : Nat → V → V → V → V → Hp → Prop) (B : (V → V → V → V → Hp → Prop) → V → V → V → V → Hp → Prop) (s : P4 I B) (g : I m x1 x2 x3 x4 h) (hl : isLoop (placeV C fn tb k ks Q).c = true := by kernel_rfl) (hk : (placeV C fn tb k ks Q).ks = [] := by kernel_rfl)
    (e : ∀ (K : V → V → V → V → Hp → Prop) (ρ : Rho) (h : Hp), VA C fn.ntmps tb (stepPl C fn.ntmps tb { placeV C fn tb k ks Q with ks := [fun ρ h => K (ρ i1) (ρ i2) (ρ i3) (ρ i4) h] } false) ρ h = B K (ρ i1) (ρ i2) (ρ i3) (ρ i4) h := by intros; kernel_rfl) : ∀ ρ : Rho, ρ i1 = x1 → ρ i2 = x2 → ρ i3 = x3 → ρ i4 = x4 → WA C fn tb k ks Q ρ h := by
  rintro ρ rfl rfl rfl rfl
  exact WA.loop (fun k ρ h => I k (ρ i1) (ρ i2) (ρ i3) (ρ i4) h) hl hk (fun k ρ h hi => LA.of (by grind) (s k (ρ i1) (ρ i2) (ρ i3) (ρ i4) h hi)) g
abbrev P5 (I : Nat → V → V → V → V → V → Hp → Prop) (B : (V → V → V → V → V → Hp → Prop) → V → V → V → V → V → Hp → Prop) : Prop := ∀ (k : Nat) (x1 x2 x3 x4 x5 : V) (h : Hp), I k x1 x2 x3 x4 x5 h → B (fun x1 x2 x3 x4 x5 h => ∃ k', k' < k ∧ I k' x1 x2 x3 x4 x5 h) x1 x2 x3 x4 x5 h
theorem WA.l5 {i1 i2 i3 i4 i5 : Nat} {x1 x2 x3 x4 x5 : V} (I : Nat → V → V → V → V → V → Hp → Prop) (B : (V → V → V → V → V → Hp → Prop) → V → V → V → V → V → Hp → Prop) (s : P5 I B) (g : I m x1 x2 x3 x4 x5 h) (hl : isLoop (placeV C fn tb k ks Q).c = true := by kernel_rfl) (hk : (placeV C fn tb k ks Q).ks = [] := by kernel_rfl)
    (e : ∀ (K : V → V → V → V → V → Hp → Prop) (ρ : Rho) (h : Hp), VA C fn.ntmps tb (stepPl C fn.ntmps tb { placeV C fn tb k ks Q with ks := [fun ρ h => K (ρ i1) (ρ i2) (ρ i3) (ρ i4) (ρ i5) h] } false) ρ h = B K (ρ i1) (ρ i2) (ρ i3) (ρ i4) (ρ i5) h := by intros; kernel_rfl) : ∀ ρ : Rho, ρ i1 = x1 → ρ i2 = x2 → ρ i3 = x3 → ρ i4 = x4 → ρ i5 = x5 → WA C fn tb k ks Q ρ h := by
  rintro ρ rfl rfl rfl rfl rfl
  exact WA.loop (fun k ρ h => I k (ρ i1) (ρ i2) (ρ i3) (ρ i4) (ρ i5) h) hl hk (fun k ρ h hi => LA.of (by grind) (s k (ρ i1) (ρ i2) (ρ i3) (ρ i4) (ρ i5) h hi)) g
abbrev P6 (I : Nat → V → V → V → V → V → V → Hp → Prop) (B : (V → V → V → V → V → V → Hp → Prop) → V → V → V → V → V → V → Hp → Prop) : Prop := ∀ (k : Nat) (x1 x2 x3 x4 x5 x6 : V) (h : Hp), I k x1 x2 x3 x4 x5 x6 h → B (fun x1 x2 x3 x4 x5 x6 h => ∃ k', k' < k ∧ I k' x1 x2 x3 x4 x5 x6 h) x1 x2 x3 x4 x5 x6 h
theorem WA.l6 {i1 i2 i3 i4 i5 i6 : Nat} {x1 x2 x3 x4 x5 x6 : V} (I : Nat → V → V → V → V → V → V → Hp → Prop) (B : (V → V → V → V → V → V → Hp → Prop) → V → V → V → V → V → V → Hp → Prop) (s : P6 I B) (g : I m x1 x2 x3 x4 x5 x6 h) (hl : isLoop (placeV C fn tb k ks Q).c = true := by kernel_rfl) (hk : (placeV C fn tb k ks Q).ks = [] := by kernel_rfl)
    (e : ∀ (K : V → V → V → V → V → V → Hp → Prop) (ρ : Rho) (h : Hp), VA C fn.ntmps tb (stepPl C fn.ntmps tb { placeV C fn tb k ks Q with ks := [fun ρ h => K (ρ i1) (ρ i2) (ρ i3) (ρ i4) (ρ i5) (ρ i6) h] } false) ρ h = B K (ρ i1) (ρ i2) (ρ i3) (ρ i4) (ρ i5) (ρ i6) h := by intros; kernel_rfl) : ∀ ρ : Rho, ρ i1 = x1 → ρ i2 = x2 → ρ i3 = x3 → ρ i4 = x4 → ρ i5 = x5 → ρ i6 = x6 → WA C fn tb k ks Q ρ h := by
  rintro ρ rfl rfl rfl rfl rfl rfl
  exact WA.loop (fun k ρ h => I k (ρ i1) (ρ i2) (ρ i3) (ρ i4) (ρ i5) (ρ i6) h) hl hk (fun k ρ h hi => LA.of (by grind) (s k (ρ i1) (ρ i2) (ρ i3) (ρ i4) (ρ i5) (ρ i6) h hi)) g
abbrev P7 (I : Nat → V → V → V → V → V → V → V → Hp → Prop) (B : (V → V → V → V → V → V → V → Hp → Prop) → V → V → V → V → V → V → V → Hp → Prop) : Prop := ∀ (k : Nat) (x1 x2 x3 x4 x5 x6 x7 : V) (h : Hp), I k x1 x2 x3 x4 x5 x6 x7 h → B (fun x1 x2 x3 x4 x5 x6 x7 h => ∃ k', k' < k ∧ I k' x1 x2 x3 x4 x5 x6 x7 h) x1 x2 x3 x4 x5 x6 x7 h
theorem WA.l7 {i1 i2 i3 i4 i5 i6 i7 : Nat} {x1 x2 x3 x4 x5 x6 x7 : V} (I : Nat → V → V → V → V → V → V → V → Hp → Prop) (B : (V → V → V → V → V → V → V → Hp → Prop) → V → V → V → V → V → V → V → Hp → Prop) (s : P7 I B) (g : I m x1 x2 x3 x4 x5 x6 x7 h) (hl : isLoop (placeV C fn tb k ks Q).c = true := by kernel_rfl) (hk : (placeV C fn tb k ks Q).ks = [] := by kernel_rfl)
    (e : ∀ (K : V → V → V → V → V → V → V → Hp → Prop) (ρ : Rho) (h : Hp), VA C fn.ntmps tb (stepPl C fn.ntmps tb { placeV C fn tb k ks Q with ks := [fun ρ h => K (ρ i1) (ρ i2) (ρ i3) (ρ i4) (ρ i5) (ρ i6) (ρ i7) h] } false) ρ h = B K (ρ i1) (ρ i2) (ρ i3) (ρ i4) (ρ i5) (ρ i6) (ρ i7) h := by intros; kernel_rfl) : ∀ ρ : Rho, ρ i1 = x1 → ρ i2 = x2 → ρ i3 = x3 → ρ i4 = x4 → ρ i5 = x5 → ρ i6 = x6 → ρ i7 = x7 → WA C fn tb k ks Q ρ h := by
  rintro ρ rfl rfl rfl rfl rfl rfl rfl
  exact WA.loop (fun k ρ h => I k (ρ i1) (ρ i2) (ρ i3) (ρ i4) (ρ i5) (ρ i6) (ρ i7) h) hl hk (fun k ρ h hi => LA.of (by grind) (s k (ρ i1) (ρ i2) (ρ i3) (ρ i4) (ρ i5) (ρ i6) (ρ i7) h hi)) g
abbrev P8 (I : Nat → V → V → V → V → V → V → V → V → Hp → Prop) (B : (V → V → V → V → V → V → V → V → Hp → Prop) → V → V → V → V → V → V → V → V → Hp → Prop) : Prop := ∀ (k : Nat) (x1 x2 x3 x4 x5 x6 x7 x8 : V) (h : Hp), I k x1 x2 x3 x4 x5 x6 x7 x8 h → B (fun x1 x2 x3 x4 x5 x6 x7 x8 h => ∃ k', k' < k ∧ I k' x1 x2 x3 x4 x5 x6 x7 x8 h) x1 x2 x3 x4 x5 x6 x7 x8 h
theorem WA.l8 {i1 i2 i3 i4 i5 i6 i7 i8 : Nat} {x1 x2 x3 x4 x5 x6 x7 x8 : V} (I : Nat → V → V → V → V → V → V → V → V → Hp → Prop) (B : (V → V → V → V → V → V → V → V → Hp → Prop) → V → V → V → V → V → V → V → V → Hp → Prop) (s : P8 I B) (g : I m x1 x2 x3 x4 x5 x6 x7 x8 h) (hl : isLoop (placeV C fn tb k ks Q).c = true := by kernel_rfl) (hk : (placeV C fn tb k ks Q).ks = [] := by kernel_rfl)
    (e : ∀ (K : V → V → V → V → V → V → V → V → Hp → Prop) (ρ : Rho) (h : Hp), VA C fn.ntmps tb (stepPl C fn.ntmps tb { placeV C fn tb k ks Q with ks := [fun ρ h => K (ρ i1) (ρ i2) (ρ i3) (ρ i4) (ρ i5) (ρ i6) (ρ i7) (ρ i8) h] } false) ρ h = B K (ρ i1) (ρ i2) (ρ i3) (ρ i4) (ρ i5) (ρ i6) (ρ i7) (ρ i8) h := by intros; kernel_rfl) : ∀ ρ : Rho, ρ i1 = x1 → ρ i2 = x2 → ρ i3 = x3 → ρ i4 = x4 → ρ i5 = x5 → ρ i6 = x6 → ρ i7 = x7 → ρ i8 = x8 → WA C fn tb k ks Q ρ h := by
  rintro ρ rfl rfl rfl rfl rfl rfl rfl rfl
  exact WA.loop (fun k ρ h => I k (ρ i1) (ρ i2) (ρ i3) (ρ i4) (ρ i5) (ρ i6) (ρ i7) (ρ i8) h) hl hk (fun k ρ h hi => LA.of (by grind) (s k (ρ i1) (ρ i2) (ρ i3) (ρ i4) (ρ i5) (ρ i6) (ρ i7) (ρ i8) h hi)) g
abbrev P9 (I : Nat → V → V → V → V → V → V → V → V → V → Hp → Prop) (B : (V → V → V → V → V → V → V → V → V → Hp → Prop) → V → V → V → V → V → V → V → V → V → Hp → Prop) : Prop := ∀ (k : Nat) (x1 x2 x3 x4 x5 x6 x7 x8 x9 : V) (h : Hp), I k x1 x2 x3 x4 x5 x6 x7 x8 x9 h → B (fun x1 x2 x3 x4 x5 x6 x7 x8 x9 h => ∃ k', k' < k ∧ I k' x1 x2 x3 x4 x5 x6 x7 x8 x9 h) x1 x2 x3 x4 x5 x6 x7 x8 x9 h
theorem WA.l9 {i1 i2 i3 i4 i5 i6 i7 i8 i9 : Nat} {x1 x2 x3 x4 x5 x6 x7 x8 x9 : V} (I : Nat → V → V → V → V → V → V → V → V → V → Hp → Prop) (B : (V → V → V → V → V → V → V → V → V → Hp → Prop) → V → V → V → V → V → V → V → V → V → Hp → Prop) (s : P9 I B) (g : I m x1 x2 x3 x4 x5 x6 x7 x8 x9 h) (hl : isLoop (placeV C fn tb k ks Q).c = true := by kernel_rfl) (hk : (placeV C fn tb k ks Q).ks = [] := by kernel_rfl)
    (e : ∀ (K : V → V → V → V → V → V → V → V → V → Hp → Prop) (ρ : Rho) (h : Hp), VA C fn.ntmps tb (stepPl C fn.ntmps tb { placeV C fn tb k ks Q with ks := [fun ρ h => K (ρ i1) (ρ i2) (ρ i3) (ρ i4) (ρ i5) (ρ i6) (ρ i7) (ρ i8) (ρ i9) h] } false) ρ h = B K (ρ i1) (ρ i2) (ρ i3) (ρ i4) (ρ i5) (ρ i6) (ρ i7) (ρ i8) (ρ i9) h := by intros; kernel_rfl) : ∀ ρ : Rho, ρ i1 = x1 → ρ i2 = x2 → ρ i3 = x3 → ρ i4 = x4 → ρ i5 = x5 → ρ i6 = x6 → ρ i7 = x7 → ρ i8 = x8 → ρ i9 = x9 → WA C fn tb k ks Q ρ h := by
  rintro ρ rfl rfl rfl rfl rfl rfl rfl rfl rfl
  exact WA.loop (fun k ρ h => I k (ρ i1) (ρ i2) (ρ i3) (ρ i4) (ρ i5) (ρ i6) (ρ i7) (ρ i8) (ρ i9) h) hl hk (fun k ρ h hi => LA.of (by grind) (s k (ρ i1) (ρ i2) (ρ i3) (ρ i4) (ρ i5) (ρ i6) (ρ i7) (ρ i8) (ρ i9) h hi)) g
abbrev P10 (I : Nat → V → V → V → V → V → V → V → V → V → V → Hp → Prop) (B : (V → V → V → V → V → V → V → V → V → V → Hp → Prop) → V → V → V → V → V → V → V → V → V → V → Hp → Prop) : Prop := ∀ (k : Nat) (x1 x2 x3 x4 x5 x6 x7 x8 x9 x10 : V) (h : Hp), I k x1 x2 x3 x4 x5 x6 x7 x8 x9 x10 h → B (fun x1 x2 x3 x4 x5 x6 x7 x8 x9 x10 h => ∃ k', k' < k ∧ I k' x1 x2 x3 x4 x5 x6 x7 x8 x9 x10 h) x1 x2 x3 x4 x5 x6 x7 x8 x9 x10 h
theorem WA.l10 {i1 i2 i3 i4 i5 i6 i7 i8 i9 i10 : Nat} {x1 x2 x3 x4 x5 x6 x7 x8 x9 x10 : V} (I : Nat → V → V → V → V → V → V → V → V → V → V → Hp → Prop) (B : (V → V → V → V → V → V → V → V → V → V → Hp → Prop) → V → V → V → V → V → V → V → V → V → V → Hp → Prop) (s : P10 I B) (g : I m x1 x2 x3 x4 x5 x6 x7 x8 x9 x10 h) (hl : isLoop (placeV C fn tb k ks Q).c = true := by kernel_rfl) (hk : (placeV C fn tb k ks Q).ks = [] := by kernel_rfl)
    (e : ∀ (K : V → V → V → V → V → V → V → V → V → V → Hp → Prop) (ρ : Rho) (h : Hp), VA C fn.ntmps tb (stepPl C fn.ntmps tb { placeV C fn tb k ks Q with ks := [fun ρ h => K (ρ i1) (ρ i2) (ρ i3) (ρ i4) (ρ i5) (ρ i6) (ρ i7) (ρ i8) (ρ i9) (ρ i10) h] } false) ρ h = B K (ρ i1) (ρ i2) (ρ i3) (ρ i4) (ρ i5) (ρ i6) (ρ i7) (ρ i8) (ρ i9) (ρ i10) h := by intros; kernel_rfl) : ∀ ρ : Rho, ρ i1 = x1 → ρ i2 = x2 → ρ i3 = x3 → ρ i4 = x4 → ρ i5 = x5 → ρ i6 = x6 → ρ i7 = x7 → ρ i8 = x8 → ρ i9 = x9 → ρ i10 = x10 → WA C fn tb k ks Q ρ h := by
  rintro ρ rfl rfl rfl rfl rfl rfl rfl rfl rfl rfl
  exact WA.loop (fun k ρ h => I k (ρ i1) (ρ i2) (ρ i3) (ρ i4) (ρ i5) (ρ i6) (ρ i7) (ρ i8) (ρ i9) (ρ i10) h) hl hk (fun k ρ h hi => LA.of (by grind) (s k (ρ i1) (ρ i2) (ρ i3) (ρ i4) (ρ i5) (ρ i6) (ρ i7) (ρ i8) (ρ i9) (ρ i10) h hi)) g
abbrev P11 (I : Nat → V → V → V → V → V → V → V → V → V → V → V → Hp → Prop) (B : (V → V → V → V → V → V → V → V → V → V → V → Hp → Prop) → V → V → V → V → V → V → V → V → V → V → V → Hp → Prop) : Prop := ∀ (k : Nat) (x1 x2 x3 x4 x5 x6 x7 x8 x9 x10 x11 : V) (h : Hp), I k x1 x2 x3 x4 x5 x6 x7 x8 x9 x10 x11 h → B (fun x1 x2 x3 x4 x5 x6 x7 x8 x9 x10 x11 h => ∃ k', k' < k ∧ I k' x1 x2 x3 x4 x5 x6 x7 x8 x9 x10 x11 h) x1 x2 x3 x4 x5 x6 x7 x8 x9 x10 x11 h
theorem WA.l11 {i1 i2 i3 i4 i5 i6 i7 i8 i9 i10 i11 : Nat} {x1 x2 x3 x4 x5 x6 x7 x8 x9 x10 x11 : V} (I : Nat → V → V → V → V → V → V → V → V → V → V → V → Hp → Prop) (B : (V → V → V → V → V → V → V → V → V → V → V → Hp → Prop) → V → V → V → V → V → V → V → V → V → V → V → Hp → Prop) (s : P11 I B) (g : I m x1 x2 x3 x4 x5 x6 x7 x8 x9 x10 x11 h) (hl : isLoop (placeV C fn tb k ks Q).c = true := by kernel_rfl) (hk : (placeV C fn tb k ks Q).ks = [] := by kernel_rfl)
    (e : ∀ (K : V → V → V → V → V → V → V → V → V → V → V → Hp → Prop) (ρ : Rho) (h : Hp), VA C fn.ntmps tb (stepPl C fn.ntmps tb { placeV C fn tb k ks Q with ks := [fun ρ h => K (ρ i1) (ρ i2) (ρ i3) (ρ i4) (ρ i5) (ρ i6) (ρ i7) (ρ i8) (ρ i9) (ρ i10) (ρ i11) h] } false) ρ h = B K (ρ i1) (ρ i2) (ρ i3) (ρ i4) (ρ i5) (ρ i6) (ρ i7) (ρ i8) (ρ i9) (ρ i10) (ρ i11) h := by intros; kernel_rfl) : ∀ ρ : Rho, ρ i1 = x1 → ρ i2 = x2 → ρ i3 = x3 → ρ i4 = x4 → ρ i5 = x5 → ρ i6 = x6 → ρ i7 = x7 → ρ i8 = x8 → ρ i9 = x9 → ρ i10 = x10 → ρ i11 = x11 → WA C fn tb k ks Q ρ h := by
  rintro ρ rfl rfl rfl rfl rfl rfl rfl rfl rfl rfl rfl
  exact WA.loop (fun k ρ h => I k (ρ i1) (ρ i2) (ρ i3) (ρ i4) (ρ i5) (ρ i6) (ρ i7) (ρ i8) (ρ i9) (ρ i10) (ρ i11) h) hl hk (fun k ρ h hi => LA.of (by grind) (s k (ρ i1) (ρ i2) (ρ i3) (ρ i4) (ρ i5) (ρ i6) (ρ i7) (ρ i8) (ρ i9) (ρ i10) (ρ i11) h hi)) g
abbrev P12 (I : Nat → V → V → V → V → V → V → V → V → V → V → V → V → Hp → Prop) (B : (V → V → V → V → V → V → V → V → V → V → V → V → Hp → Prop) → V → V → V → V → V → V → V → V → V → V → V → V → Hp → Prop) : Prop := ∀ (k : Nat) (x1 x2 x3 x4 x5 x6 x7 x8 x9 x10 x11 x12 : V) (h : Hp), I k x1 x2 x3 x4 x5 x6 x7 x8 x9 x10 x11 x12 h → B (fun x1 x2 x3 x4 x5 x6 x7 x8 x9 x10 x11 x12 h => ∃ k', k' < k ∧ I k' x1 x2 x3 x4 x5 x6 x7 x8 x9 x10 x11 x12 h) x1 x2 x3 x4 x5 x6 x7 x8 x9 x10 x11 x12 h
theorem WA.l12 {i1 i2 i3 i4 i5 i6 i7 i8 i9 i10 i11 i12 : Nat} {x1 x2 x3 x4 x5 x6 x7 x8 x9 x10 x11 x12 : V} (I : Nat → V → V → V → V → V → V → V → V → V → V → V → V → Hp → Prop) (B : (V → V → V → V → V → V → V → V → V → V → V → V → Hp → Prop) → V → V → V → V → V → V → V → V → V → V → V → V → Hp → Prop) (s : P12 I B) (g : I m x1 x2 x3 x4 x5 x6 x7 x8 x9 x10 x11 x12 h) (hl : isLoop (placeV C fn tb k ks Q).c = true := by kernel_rfl) (hk : (placeV C fn tb k ks Q).ks = [] := by kernel_rfl)
    (e : ∀ (K : V → V → V → V → V → V → V → V → V → V → V → V → Hp → Prop) (ρ : Rho) (h : Hp), VA C fn.ntmps tb (stepPl C fn.ntmps tb { placeV C fn tb k ks Q with ks := [fun ρ h => K (ρ i1) (ρ i2) (ρ i3) (ρ i4) (ρ i5) (ρ i6) (ρ i7) (ρ i8) (ρ i9) (ρ i10) (ρ i11) (ρ i12) h] } false) ρ h = B K (ρ i1) (ρ i2) (ρ i3) (ρ i4) (ρ i5) (ρ i6) (ρ i7) (ρ i8) (ρ i9) (ρ i10) (ρ i11) (ρ i12) h := by intros; kernel_rfl) : ∀ ρ : Rho, ρ i1 = x1 → ρ i2 = x2 → ρ i3 = x3 → ρ i4 = x4 → ρ i5 = x5 → ρ i6 = x6 → ρ i7 = x7 → ρ i8 = x8 → ρ i9 = x9 → ρ i10 = x10 → ρ i11 = x11 → ρ i12 = x12 → WA C fn tb k ks Q ρ h := by
  rintro ρ rfl rfl rfl rfl rfl rfl rfl rfl rfl rfl rfl rfl
  exact WA.loop (fun k ρ h => I k (ρ i1) (ρ i2) (ρ i3) (ρ i4) (ρ i5) (ρ i6) (ρ i7) (ρ i8) (ρ i9) (ρ i10) (ρ i11) (ρ i12) h) hl hk (fun k ρ h hi => LA.of (by grind) (s k (ρ i1) (ρ i2) (ρ i3) (ρ i4) (ρ i5) (ρ i6) (ρ i7) (ρ i8) (ρ i9) (ρ i10) (ρ i11) (ρ i12) h hi)) g
abbrev P13 (I : Nat → V → V → V → V → V → V → V → V → V → V → V → V → V → Hp → Prop) (B : (V → V → V → V → V → V → V → V → V → V → V → V → V → Hp → Prop) → V → V → V → V → V → V → V → V → V → V → V → V → V → Hp → Prop) : Prop := ∀ (k : Nat) (x1 x2 x3 x4 x5 x6 x7 x8 x9 x10 x11 x12 x13 : V) (h : Hp), I k x1 x2 x3 x4 x5 x6 x7 x8 x9 x10 x11 x12 x13 h → B (fun x1 x2 x3 x4 x5 x6 x7 x8 x9 x10 x11 x12 x13 h => ∃ k', k' < k ∧ I k' x1 x2 x3 x4 x5 x6 x7 x8 x9 x10 x11 x12 x13 h) x1 x2 x3 x4 x5 x6 x7 x8 x9 x10 x11 x12 x13 h
theorem WA.l13 {i1 i2 i3 i4 i5 i6 i7 i8 i9 i10 i11 i12 i13 : Nat} {x1 x2 x3 x4 x5 x6 x7 x8 x9 x10 x11 x12 x13 : V} (I : Nat → V → V → V → V → V → V → V → V → V → V → V → V → V → Hp → Prop) (B : (V → V → V → V → V → V → V → V → V → V → V → V → V → Hp → Prop) → V → V → V → V → V → V → V → V → V → V → V → V → V → Hp → Prop) (s : P13 I B) (g : I m x1 x2 x3 x4 x5 x6 x7 x8 x9 x10 x11 x12 x13 h) (hl : isLoop (placeV C fn tb k ks Q).c = true := by kernel_rfl) (hk : (placeV C fn tb k ks Q).ks = [] := by kernel_rfl)
    (e : ∀ (K : V → V → V → V → V → V → V → V → V → V → V → V → V → Hp → Prop) (ρ : Rho) (h : Hp), VA C fn.ntmps tb (stepPl C fn.ntmps tb { placeV C fn tb k ks Q with ks := [fun ρ h => K (ρ i1) (ρ i2) (ρ i3) (ρ i4) (ρ i5) (ρ i6) (ρ i7) (ρ i8) (ρ i9) (ρ i10) (ρ i11) (ρ i12) (ρ i13) h] } false) ρ h = B K (ρ i1) (ρ i2) (ρ i3) (ρ i4) (ρ i5) (ρ i6) (ρ i7) (ρ i8) (ρ i9) (ρ i10) (ρ i11) (ρ i12) (ρ i13) h := by intros; kernel_rfl) : ∀ ρ : Rho, ρ i1 = x1 → ρ i2 = x2 → ρ i3 = x3 → ρ i4 = x4 → ρ i5 = x5 → ρ i6 = x6 → ρ i7 = x7 → ρ i8 = x8 → ρ i9 = x9 → ρ i10 = x10 → ρ i11 = x11 → ρ i12 = x12 → ρ i13 = x13 → WA C fn tb k ks Q ρ h := by
  rintro ρ rfl rfl rfl rfl rfl rfl rfl rfl rfl rfl rfl rfl rfl
  exact WA.loop (fun k ρ h => I k (ρ i1) (ρ i2) (ρ i3) (ρ i4) (ρ i5) (ρ i6) (ρ i7) (ρ i8) (ρ i9) (ρ i10) (ρ i11) (ρ i12) (ρ i13) h) hl hk (fun k ρ h hi => LA.of (by grind) (s k (ρ i1) (ρ i2) (ρ i3) (ρ i4) (ρ i5) (ρ i6) (ρ i7) (ρ i8) (ρ i9) (ρ i10) (ρ i11) (ρ i12) (ρ i13) h hi)) g
abbrev P14 (I : Nat → V → V → V → V → V → V → V → V → V → V → V → V → V → V → Hp → Prop) (B : (V → V → V → V → V → V → V → V → V → V → V → V → V → V → Hp → Prop) → V → V → V → V → V → V → V → V → V → V → V → V → V → V → Hp → Prop) : Prop := ∀ (k : Nat) (x1 x2 x3 x4 x5 x6 x7 x8 x9 x10 x11 x12 x13 x14 : V) (h : Hp), I k x1 x2 x3 x4 x5 x6 x7 x8 x9 x10 x11 x12 x13 x14 h → B (fun x1 x2 x3 x4 x5 x6 x7 x8 x9 x10 x11 x12 x13 x14 h => ∃ k', k' < k ∧ I k' x1 x2 x3 x4 x5 x6 x7 x8 x9 x10 x11 x12 x13 x14 h) x1 x2 x3 x4 x5 x6 x7 x8 x9 x10 x11 x12 x13 x14 h
theorem WA.l14 {i1 i2 i3 i4 i5 i6 i7 i8 i9 i10 i11 i12 i13 i14 : Nat} {x1 x2 x3 x4 x5 x6 x7 x8 x9 x10 x11 x12 x13 x14 : V} (I : Nat → V → V → V → V → V → V → V → V → V → V → V → V → V → V → Hp → Prop) (B : (V → V → V → V → V → V → V → V → V → V → V → V → V → V → Hp → Prop) → V → V → V → V → V → V → V → V → V → V → V → V → V → V → Hp → Prop) (s : P14 I B) (g : I m x1 x2 x3 x4 x5 x6 x7 x8 x9 x10 x11 x12 x13 x14 h) (hl : isLoop (placeV C fn tb k ks Q).c = true := by kernel_rfl) (hk : (placeV C fn tb k ks Q).ks = [] := by kernel_rfl)
    (e : ∀ (K : V → V → V → V → V → V → V → V → V → V → V → V → V → V → Hp → Prop) (ρ : Rho) (h : Hp), VA C fn.ntmps tb (stepPl C fn.ntmps tb { placeV C fn tb k ks Q with ks := [fun ρ h => K (ρ i1) (ρ i2) (ρ i3) (ρ i4) (ρ i5) (ρ i6) (ρ i7) (ρ i8) (ρ i9) (ρ i10) (ρ i11) (ρ i12) (ρ i13) (ρ i14) h] } false) ρ h = B K (ρ i1) (ρ i2) (ρ i3) (ρ i4) (ρ i5) (ρ i6) (ρ i7) (ρ i8) (ρ i9) (ρ i10) (ρ i11) (ρ i12) (ρ i13) (ρ i14) h := by intros; kernel_rfl) : ∀ ρ : Rho, ρ i1 = x1 → ρ i2 = x2 → ρ i3 = x3 → ρ i4 = x4 → ρ i5 = x5 → ρ i6 = x6 → ρ i7 = x7 → ρ i8 = x8 → ρ i9 = x9 → ρ i10 = x10 → ρ i11 = x11 → ρ i12 = x12 → ρ i13 = x13 → ρ i14 = x14 → WA C fn tb k ks Q ρ h := by
  rintro ρ rfl rfl rfl rfl rfl rfl rfl rfl rfl rfl rfl rfl rfl rfl
  exact WA.loop (fun k ρ h => I k (ρ i1) (ρ i2) (ρ i3) (ρ i4) (ρ i5) (ρ i6) (ρ i7) (ρ i8) (ρ i9) (ρ i10) (ρ i11) (ρ i12) (ρ i13) (ρ i14) h) hl hk (fun k ρ h hi => LA.of (by grind) (s k (ρ i1) (ρ i2) (ρ i3) (ρ i4) (ρ i5) (ρ i6) (ρ i7) (ρ i8) (ρ i9) (ρ i10) (ρ i11) (ρ i12) (ρ i13) (ρ i14) h hi)) g
end
end Go.Proofs.YtlbdcjnhlkkfeaaGreatDoor.Hx
