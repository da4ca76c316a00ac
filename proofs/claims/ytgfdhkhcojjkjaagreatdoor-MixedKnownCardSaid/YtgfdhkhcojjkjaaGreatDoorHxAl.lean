/- All counts of a profile, and its hot ones: told beforehand, whatever order its map gives them in. -/
import Derived.Test.YtgfdhkhcojjkjaaGreatDoorHxRm
import Derived.Test.YtgfdhkhcojjkjaaGreatDoorHx1
import Derived.KernelRfl
namespace Go.Proofs.YtgfdhkhcojjkjaaGreatDoor.Hx
/-- A count: its place, how often yes (less one), how often no. -/
def cntV (x : Nat × Nat × Nat) (t : V) : List V := [.int .i64 0, .int .i64 (.ofNat x.1), .int .i64 (.ofNat x.2.1.succ), .int .i64 (.ofNat x.2.2), t]
def entV (k b : Nat) : List (Nat × Nat × Nat) → List (V × V × Nat)
  | [] => []
  | x :: l => (.agg [.int .i64 0, .int .i64 (.ofNat x.1)], .ptr k 0, b) :: entV (k + 1) (b + 1) l
def outV (k : Nat) : List (Nat × Nat × Nat) → List V
  | [] => []
  | x :: l => cntV x (.slice k 0 0) ++ outV (k + 1) l
/-- A profile of these counts; what is made of some of them. -/
def profR (l : List (Nat × Nat × Nat)) : List O := .cells 112 1 true false [.map 7] :: .map (entV 8 0 l) l.length :: l.map fun x => .cells 41 1 true false (cntV x .nilSlice)
def outR (k : Nat) (F : List (Nat × Nat × Nat)) : List O := match F with
  | [] => []
  | _ => F.map (fun _ => .cells 174 2 true false []) ++ [.cells 41 5 true false (outV k F)]
def outA (k : Nat) (F : List (Nat × Nat × Nat)) : V := match F with
  | [] => .nilSlice
  | _ => .slice (k + F.length) 0 F.length
def rAll (l : List (Nat × Nat × Nat)) : RT where
  f := 29
  g := 6
  args := [.ptr 6 0]
  hs := profR l
  v := outA (8 + l.length) l
  news := outR (8 + l.length) l
def hots (l : List (Nat × Nat × Nat)) : List (Nat × Nat × Nat) := l.filter fun x => Nat.ble 16 x.2.1.succ
def rHot (l : List (Nat × Nat × Nat)) : RT where
  f := 64
  g := 6
  args := [.ptr 6 0, .int .i64 16]
  hs := profR l
  v := outA (8 + l.length) (hots l)
  news := outR (8 + l.length) (hots l)
noncomputable def nwAll (u : V) (h : Hp) : List Nat := match u with
  | .slice l _ _ => match h.get l with
    | some (.cells _ _ _ _ cs) => (cs.filterMap fun v => match v with
      | .slice t _ _ => some t
      | _ => none) ++ [l]
    | _ => []
  | _ => []
noncomputable def allB : Code := (Tryz.f29.body).getD .skip
noncomputable def allPre : Code := ((cutM allB).map fun r => r.1).getD .skip
noncomputable def allId : Nat := ((cutM allB).map fun r => r.2.1).getD 0
noncomputable def allC : Code := ((cutM allB).map fun r => r.2.2.1).getD .skip
noncomputable def allPost : Code := ((cutM allB).map fun r => r.2.2.2).getD .skip
noncomputable def allRest : Code := ((headOf allC).map fun r => r.2.2.2).getD .skip
theorem allCut : cutM allB = some (allPre, allId, allC, allPost) := by kernel_rfl
theorem allHead : headOf allC = some (10, 11, 12, allRest) := by kernel_rfl
theorem allF : P0.funcs[29]? = some Tryz.f29 := by
  unfold P0
  exact Tryz.func29
theorem allBody : Tryz.f29.body = some allB := rfl
theorem hotBody : ∃ fn c, P0.funcs[64]? = some fn ∧ fn.body = some c := by
  unfold P0
  exact ⟨Tryz.f64, _, Tryz.func64, rfl⟩
/-- A run of each order. -/
noncomputable def chkAll (l : List (Nat × Nat × Nat)) : Bool := (rAll l).mapRun C1 1000 20 (l.length + 1) 10 11 12 allId Tryz.f29.ntmps allPre allRest allPost Tryz.f29 nwAll
theorem all_ok {l : List (Nat × Nat × Nat)} (h : chkAll l = true) : (rAll l).Ok :=
  RT.ok_map facts (Nat.le_of_ble_eq_true globs) nwAll allF allBody allCut allHead (by kernel_rfl) rfl h
noncomputable def chkHotC (C : Cfg) (l : List (Nat × Nat × Nat)) : Bool := (rHot l).wfB && (match callN C 1000 20 64 (rHot l).args (rHot l).hp with
  | some (u, h) => (rHot l).outB (nwAll u h) u h
  | none => false)
theorem hot_ok {C : Cfg} (hF : Facts C) {l : List (Nat × Nat × Nat)} (h : chkHotC C l = true) : (rHot l).Ok := by
  unfold chkHotC RT.wfB at h
  simp only [Bool.and_eq_true] at h
  exact RT.ok_run hF (M := 1000) (d := 20) ⟨Nat.le_of_ble_eq_true globs, h.1.1, lies_get h.1.2⟩ hotBody nwAll h.2
/-! ### where the counts lie -/
def cntO (o : O) : Option (Nat × Nat × Nat) := match o with
  | .cells _ _ _ _ [_, .int _ (.ofNat p), .int _ (.ofNat (y + 1)), .int _ (.ofNat n), _] => some (p, y, n)
  | _ => none
noncomputable def cntE (h : Hp) : List (V × V × Nat) → Option (List (Nat × Nat × Nat × Nat))
  | [] => some []
  | e :: l => match e.2.1 with
    | .ptr a _ => oB (h.get a) fun o => oB (cntO o) fun x => oB (cntE h l) fun r => some ((a, x) :: r)
    | _ => none
def eqL : List (Nat × Nat × Nat) → List (Nat × Nat × Nat) → Bool
  | [], [] => true
  | x :: l, y :: r => Nat.beq x.1 y.1 && (Nat.beq x.2.1 y.2.1 && (Nat.beq x.2.2 y.2.2 && eqL l r))
  | _, _ => false
theorem eqL_eq : ∀ {l r : List (Nat × Nat × Nat)}, eqL l r = true → l = r
  | [], [], _ => rfl
  | [], _ :: _, h => by cases h
  | _ :: _, [], h => by cases h
  | (a, b, c) :: l, (x, y, z) :: r, h => by
    simp only [eqL, Bool.and_eq_true] at h
    rw [Nat.eq_of_beq_eq_true h.1, Nat.eq_of_beq_eq_true h.2.1, Nat.eq_of_beq_eq_true h.2.2.1, eqL_eq h.2.2.2]
theorem cntE_h {h H : Hp} (le : h.Le H) : ∀ {es : List (V × V × Nat)} {r : List (Nat × Nat × Nat × Nat)}, cntE h es = some r → cntE H es = some r
  | [], _, hv => hv
  | e :: l, r, hv => by
    unfold cntE at hv ⊢
    cases he : e.2.1 with
    | ptr a b =>
      rw [he] at hv
      simp only [oB_eq] at hv ⊢
      obtain ⟨o, h1, x, h2, r', h3, h4⟩ := hv
      exact ⟨o, le.get _ _ h1, x, h2, r', cntE_h le h3, h4⟩
    | _ => rw [he] at hv; cases hv
/-- A profile's counts, if they are among those that are told. -/
noncomputable def profAt (L : List (List (Nat × Nat × Nat))) (p : V) (h : Hp) : Option (List (Nat × Nat × Nat) × List Nat) := match p with
  | .ptr p _ => oB (h.get p) fun o => match o with
    | .cells _ _ _ _ [.map m] => oB (h.get m) fun q => match q with
      | .map es _ => oB (cntE h es) fun xs => bB (L.any fun l => eqL l (xs.map fun x => x.2)) (some (xs.map fun x => x.2, p :: m :: xs.map fun x => x.1))
      | _ => none
    | _ => none
  | _ => none
theorem profAt_mem {L : List (List (Nat × Nat × Nat))} {p : V} {h : Hp} {l : List (Nat × Nat × Nat)} {ads : List Nat} (hv : profAt L p h = some (l, ads)) : l ∈ L := by
  unfold profAt at hv
  split at hv
  · simp only [oB_eq] at hv
    obtain ⟨o, _, hv⟩ := hv
    split at hv
    · simp only [oB_eq] at hv
      obtain ⟨q, _, hv⟩ := hv
      split at hv
      · simp only [oB_eq, bB_eq, List.any_eq_true] at hv
        obtain ⟨xs, _, ⟨l', hm, he⟩, h3⟩ := hv
        cases h3
        rw [← eqL_eq he]
        exact hm
      · cases hv
    · cases hv
  · cases hv
theorem profAt_h {L : List (List (Nat × Nat × Nat))} {p : V} {h H : Hp} (le : h.Le H) {r : List (Nat × Nat × Nat) × List Nat} (hv : profAt L p h = some r) : profAt L p H = some r := by
  unfold profAt at hv ⊢
  split at hv
  · simp only [oB_eq] at hv ⊢
    obtain ⟨o, h1, hv⟩ := hv
    refine ⟨o, le.get _ _ h1, ?_⟩
    split at hv
    · simp only [oB_eq] at hv ⊢
      obtain ⟨q, h2, hv⟩ := hv
      refine ⟨q, le.get _ _ h2, ?_⟩
      split at hv
      · simp only [oB_eq] at hv ⊢
        obtain ⟨xs, h3, h4⟩ := hv
        exact ⟨xs, cntE_h le h3, h4⟩
      · cases hv
    · cases hv
  · cases hv
noncomputable def findAll (L : List (List (Nat × Nat × Nat))) (args : List V) (h : Hp) : Option (RT × List Nat) := match args with
  | [p] => oB (profAt L p h) fun r => some (rAll r.1, r.2)
  | _ => none
noncomputable def findHot (L : List (List (Nat × Nat × Nat))) (args : List V) (h : Hp) : Option (RT × List Nat) := match args with
  | [p, .int .i64 (.ofNat 16)] => oB (profAt L p h) fun r => some (rHot r.1, r.2)
  | _ => none
theorem findAll_ok {L : List (List (Nat × Nat × Nat))} (hL : ∀ l ∈ L, chkAll l = true) : (RE.mk 29 (findAll L)).Ok where
  ok := fun args h s ads hv => by
    simp only at hv
    unfold findAll at hv
    split at hv
    · rw [oB_eq] at hv
      obtain ⟨⟨l, a⟩, h1, h2⟩ := hv
      cases h2
      exact ⟨rfl, all_ok (hL l (profAt_mem h1))⟩
    · cases hv
  more := fun args h H r le hv => by
    simp only at hv ⊢
    unfold findAll at hv ⊢
    split at hv
    · simp only [oB_eq] at hv ⊢
      obtain ⟨x, h1, h2⟩ := hv
      exact ⟨x, profAt_h le h1, h2⟩
    · cases hv
theorem findHot_ok {C : Cfg} (hF : Facts C) {L : List (List (Nat × Nat × Nat))} (hL : ∀ l ∈ L, chkHotC C l = true) : (RE.mk 64 (findHot L)).Ok where
  ok := fun args h s ads hv => by
    simp only at hv
    unfold findHot at hv
    split at hv
    · rw [oB_eq] at hv
      obtain ⟨⟨l, a⟩, h1, h2⟩ := hv
      cases h2
      exact ⟨rfl, hot_ok hF (hL l (profAt_mem h1))⟩
    · cases hv
  more := fun args h H r le hv => by
    simp only at hv ⊢
    unfold findHot at hv ⊢
    split at hv
    · simp only [oB_eq] at hv ⊢
      obtain ⟨x, h1, h2⟩ := hv
      exact ⟨x, profAt_h le h1, h2⟩
    · cases hv
end Go.Proofs.YtgfdhkhcojjkjaaGreatDoor.Hx
