/- script.Run's first calls, which hang on nothing: one run from the law's first heap. -/
import Derived.Test.YtlbdcjnhlkkfeaaGreatDoorHxSo
namespace Go.Proofs.YtlbdcjnhlkkfeaaGreatDoor.Hx
/-- "func main() { }" -/
def progT : List UInt8 := [102, 117, 110, 99, 32, 109, 97, 105, 110, 40, 41, 32, 123, 32, 125]
noncomputable def h0 : Hp := { next := 6, tr := .leaf }
def zP : O := .cells 33 1 true false [V.nilSlice, V.nilSlice, (V.int .i64 0), V.nilSlice, V.nilSlice]
def zQ : O := .cells 35 1 true false [(V.int .i64 0), (V.int .i64 0)]
def isF (x : Option V) : Bool := match x with
  | some (.bool b) => !b
  | _ => false
theorem isF_eq {x : Option V} (h : isF x = true) : x = some (.bool false) := by
  unfold isF at h
  split at h <;> simp_all
def isO (x : Option V) (v : V) : Bool := match x with
  | some u => V.beq u v
  | none => false
theorem isO_eq {x : Option V} {v : V} (h : isO x v = true) : x = some v := by
  unfold isO at h
  split at h
  · rw [V.eq_of_beq _ _ h]
  · cases h
/-- A driver that has nothing yet: its machine going, its units none, its lines none. -/
structure Drv (h : Hp) : Prop where
  m : pLd (.ptr 327 0) h = some (.ptr 255 0)
  u : pLd (.ptr 327 7) h = some (.ptr 287 0)
  a : pLd (.ptr 287 1) h = some .nilSlice
  w : pLd (.ptr 255 5) h = some (.ptr 266 0)
  s : pLd (.ptr 255 7) h = some (.int .i64 0)
  t : pLd (.ptr 255 8) h = some (.int .i64 0)
  l : pLd (.ptr 266 5) h = some .nilSlice
theorem pLd_lt {l o : Nat} {h : Hp} {v : V} (e : pLd (.ptr l o) h = some v) : l < h.next := by
  have e' : ld1 h l o = some v := e
  unfold ld1 cellsAt at e'
  cases hg : h.get l with
  | none => rw [hg] at e'; cases e'
  | some ob => exact Hp.get_lt hg
theorem pLd_keep {l o : Nat} {h h' : Hp} {v : V} (g : Grows h h') (e : pLd (.ptr l o) h = some v) : pLd (.ptr l o) h' = some v := by
  have e' : ld1 h l o = some v := e
  show ld1 h' l o = some v
  unfold ld1 cellsAt at e' ⊢
  rw [g.keep l (pLd_lt e) (fun x => x)]
  exact e'
theorem Drv.keep {h h' : Hp} (D : Drv h) (g : Grows h h') : Drv h' :=
  ⟨pLd_keep g D.m, pLd_keep g D.u, pLd_keep g D.a, pLd_keep g D.w, pLd_keep g D.s, pLd_keep g D.t, pLd_keep g D.l⟩
noncomputable def drvB (h : Hp) : Bool :=
  isO (pLd (.ptr 327 0) h) (.ptr 255 0) && (isO (pLd (.ptr 327 7) h) (.ptr 287 0) && (isO (pLd (.ptr 287 1) h) .nilSlice && (isO (pLd (.ptr 255 5) h) (.ptr 266 0) &&
  (isO (pLd (.ptr 255 7) h) (.int .i64 0) && (isO (pLd (.ptr 255 8) h) (.int .i64 0) && isO (pLd (.ptr 266 5) h) .nilSlice)))))
theorem Drv.of {h : Hp} (e : drvB h = true) : Drv h := by
  simp only [drvB, Bool.and_eq_true] at e
  obtain ⟨a, b, c, d, e, f, g⟩ := e
  exact ⟨isO_eq a, isO_eq b, isO_eq c, isO_eq d, isO_eq e, isO_eq f, isO_eq g⟩
noncomputable def preO : Option Unit :=
  oB (callN CS 100000 60 7 [.str progT] h0) fun r1 =>
  oB (pExt 0 r1.1) fun v29 => oB (pExt 1 r1.1) fun v30 => oB (pExt 2 r1.1) fun v31 =>
  oB (oB (pSt 5 (.ptr r1.2.next 0) v29 ((r1.2.new zP).new zQ)) valOf) fun y1 =>
  oB (oB (pSt 2 (.ptr (r1.2.new zP).next 0) v30 y1.2) valOf) fun y2 =>
  bB (isF (hbin .neq 24 v31 (.int .i64 0))) (
  oB (pLdA 5 (.ptr r1.2.next 0) y2.2) fun v36 =>
  oB (callN CS 100000 60 8 [v36, .int .i64 50, .nilSlice, .int .i64 99] y2.2) fun r2 =>
  bB (isO (pExt 0 r2.1) (.ptr 327 0)) (bB (isO (pExt 1 r2.1) (.int .i64 0)) (bB (drvB r2.2) (some ()))))
set_option maxRecDepth 1000000 in
theorem pre_ran : preO.isSome = true := by kernel_rfl
/-- script.Run of that program, from the law's first heap. -/
theorem ct_pre {s : V} {Q : V → Hp → Prop} (H : ∀ h, Drv h →
   cP CS n_script_lines [s] h fun v47 h7 =>
   oP (pLen v47) fun v49 =>
   oP (hbin .gtr 3 v49 (V.int .i64 4000)) fun v50 =>
   bP v50 (
   Q (V.tuple [V.nilSlice, (V.int .i64 6), (V.int .i64 0)]) h7) (
   oP (pLen v47) fun v52 =>
   J_script_Run_L0 CS Q [.ptr 327 0, V.nilSlice, v47, v52, (V.int .i64 0)] h7)) :
    cP CS n_script_Run [.str progT, .int .i64 50, .nilSlice, .int .i64 99, s] h0 Q := by
  have hp : ∃ x, preO = some x := Option.isSome_iff_exists.1 pre_ran
  obtain ⟨x, hp⟩ := hp
  unfold preO at hp
  obtain ⟨r1, e1, hp⟩ := oB_eq.1 hp
  obtain ⟨v29, e2, hp⟩ := oB_eq.1 hp
  obtain ⟨v30, e3, hp⟩ := oB_eq.1 hp
  obtain ⟨v31, e4, hp⟩ := oB_eq.1 hp
  obtain ⟨y1, e5, hp⟩ := oB_eq.1 hp
  obtain ⟨y2, e6, hp⟩ := oB_eq.1 hp
  obtain ⟨e7, hp⟩ := bB_eq.1 hp
  obtain ⟨v36, e8, hp⟩ := oB_eq.1 hp
  obtain ⟨r2, e9, hp⟩ := oB_eq.1 hp
  obtain ⟨e10, hp⟩ := bB_eq.1 hp
  obtain ⟨e11, hp⟩ := bB_eq.1 hp
  obtain ⟨e12, _⟩ := bB_eq.1 hp
  refine c_script_Run rfl rfl ?_
  unfold B_script_Run
  refine ⟨r1.1, r1.2, ⟨_, _, e1⟩, ?_⟩
  refine oP_mk e2 (oP_mk e3 (oP_mk e4 ?_))
  rw [alP_some, alP_some]
  refine oP_mk (a := y1) e5 (oP_mk (a := y2) e6 ?_)
  refine oP_mk (isF_eq e7) ?_
  rw [bP_bool', if_neg Bool.false_ne_true]
  refine oP_mk e8 ⟨r2.1, r2.2, ⟨_, _, e9⟩, ?_⟩
  refine oP_mk (isO_eq e10) (oP_mk (isO_eq e11) ?_)
  have hz : hbin .neq 24 (V.int .i64 0) (V.int .i64 0) = some (.bool false) := rfl
  refine oP_mk hz ?_
  rw [bP_bool', if_neg Bool.false_ne_true]
  exact H _ (Drv.of e12)
end Go.Proofs.YtlbdcjnhlkkfeaaGreatDoor.Hx
