/- What is left of the code of functions: printed by vc2.py, checked by computation. -/
import Derived.Test.YtdpfhajggknfaaaGreatDoorHxVC
namespace Go.Proofs.YtdpfhajggknfaaaGreatDoor.Hx
/-! ### turnstone/turnstoneref30.Bare -/
noncomputable def k_turnstoneref30_Bare : Code := bodyOf Tryz.f18
noncomputable def k_turnstoneref30_Bare_R0 : Code := k_turnstoneref30_Bare.r
noncomputable def k_turnstoneref30_Bare_R1 : Code := k_turnstoneref30_Bare.r.r
noncomputable def k_turnstoneref30_Bare_R2 : Code := k_turnstoneref30_Bare.r.r.l.r
noncomputable def k_turnstoneref30_Bare_R3 : Code := k_turnstoneref30_Bare.r.r.r
noncomputable def q_turnstoneref30_Bare_0 (C : Cfg) (Q : X → Rho → Hp → Prop) : X → Rho → Hp → Prop := andThen (Wp C 36 k_turnstoneref30_Bare_R3 Q) Q
theorem q_turnstoneref30_Bare_0_normal (C : Cfg) (Q : X → Rho → Hp → Prop) (ρ : Rho) (h : Hp) : q_turnstoneref30_Bare_0 C Q .normal ρ h = Wp C 36 k_turnstoneref30_Bare_R3 Q ρ h := rfl
theorem q_turnstoneref30_Bare_0_ret (C : Cfg) (Q : X → Rho → Hp → Prop) (ρ : Rho) (h : Hp) : q_turnstoneref30_Bare_0 C Q .ret ρ h = Q .ret ρ h := rfl
noncomputable def k_turnstoneref30_Bare_R4 : Code := k_turnstoneref30_Bare.r.r.l.r.l.l.r
noncomputable def q_turnstoneref30_Bare_2 (C : Cfg) (Q : X → Rho → Hp → Prop) : X → Rho → Hp → Prop := blockQ 0 Q
theorem q_turnstoneref30_Bare_2_normal (C : Cfg) (Q : X → Rho → Hp → Prop) (ρ : Rho) (h : Hp) : q_turnstoneref30_Bare_2 C Q .normal ρ h = Q .normal ρ h := rfl
theorem q_turnstoneref30_Bare_2_ret (C : Cfg) (Q : X → Rho → Hp → Prop) (ρ : Rho) (h : Hp) : q_turnstoneref30_Bare_2 C Q .ret ρ h = Q .ret ρ h := rfl
theorem q_turnstoneref30_Bare_2_exit0 (C : Cfg) (Q : X → Rho → Hp → Prop) (ρ : Rho) (h : Hp) : q_turnstoneref30_Bare_2 C Q (.exit 0) ρ h = Q .normal ρ h := rfl
noncomputable def k_turnstoneref30_Bare_R5 : Code := k_turnstoneref30_Bare.r.r.l.r.l.r
noncomputable def q_turnstoneref30_Bare_1 (C : Cfg) (Q : X → Rho → Hp → Prop) : X → Rho → Hp → Prop := andThen (Wp C 36 k_turnstoneref30_Bare_R5 (q_turnstoneref30_Bare_2 C Q)) (q_turnstoneref30_Bare_2 C Q)
theorem q_turnstoneref30_Bare_1_normal (C : Cfg) (Q : X → Rho → Hp → Prop) (ρ : Rho) (h : Hp) : q_turnstoneref30_Bare_1 C Q .normal ρ h = Wp C 36 k_turnstoneref30_Bare_R5 (q_turnstoneref30_Bare_2 C Q) ρ h := rfl
theorem q_turnstoneref30_Bare_1_ret (C : Cfg) (Q : X → Rho → Hp → Prop) (ρ : Rho) (h : Hp) : q_turnstoneref30_Bare_1 C Q .ret ρ h = Q .ret ρ h := rfl
theorem q_turnstoneref30_Bare_1_exit0 (C : Cfg) (Q : X → Rho → Hp → Prop) (ρ : Rho) (h : Hp) : q_turnstoneref30_Bare_1 C Q (.exit 0) ρ h = Q .normal ρ h := rfl
noncomputable def k_turnstoneref30_Bare_R6 : Code := k_turnstoneref30_Bare.r.r.r.r
noncomputable def k_turnstoneref30_Bare_R7 : Code := k_turnstoneref30_Bare.r.r.l.r.l.l.r.r.r
noncomputable def k_turnstoneref30_Bare_R8 : Code := k_turnstoneref30_Bare.r.r.l.r.l.r.r.l.r
noncomputable def k_turnstoneref30_Bare_R9 : Code := k_turnstoneref30_Bare.r.r.l.r.l.r.r.r
noncomputable def q_turnstoneref30_Bare_3 (C : Cfg) (Q : X → Rho → Hp → Prop) : X → Rho → Hp → Prop := andThen (Wp C 36 k_turnstoneref30_Bare_R9 Q) Q
theorem q_turnstoneref30_Bare_3_normal (C : Cfg) (Q : X → Rho → Hp → Prop) (ρ : Rho) (h : Hp) : q_turnstoneref30_Bare_3 C Q .normal ρ h = Wp C 36 k_turnstoneref30_Bare_R9 Q ρ h := rfl
theorem q_turnstoneref30_Bare_3_ret (C : Cfg) (Q : X → Rho → Hp → Prop) (ρ : Rho) (h : Hp) : q_turnstoneref30_Bare_3 C Q .ret ρ h = Q .ret ρ h := rfl
noncomputable def k_turnstoneref30_Bare_R10 : Code := k_turnstoneref30_Bare.r.r.l.r.l.r.r.r.l.r
noncomputable def k_turnstoneref30_Bare_R11 : Code := k_turnstoneref30_Bare.r.r.l.r.l.r.r.r.r.r
noncomputable def k_turnstoneref30_Bare_R12 : Code := k_turnstoneref30_Bare.r.r.l.r.l.r.r.r.r.r.r.r
noncomputable def q_turnstoneref30_Bare_4 (C : Cfg) (Q : X → Rho → Hp → Prop) : X → Rho → Hp → Prop := blockQ 0 (q_turnstoneref30_Bare_0 C Q)
theorem q_turnstoneref30_Bare_4_normal (C : Cfg) (Q : X → Rho → Hp → Prop) (ρ : Rho) (h : Hp) : q_turnstoneref30_Bare_4 C Q .normal ρ h = Wp C 36 k_turnstoneref30_Bare_R3 Q ρ h := rfl
theorem q_turnstoneref30_Bare_4_ret (C : Cfg) (Q : X → Rho → Hp → Prop) (ρ : Rho) (h : Hp) : q_turnstoneref30_Bare_4 C Q .ret ρ h = Q .ret ρ h := rfl
theorem q_turnstoneref30_Bare_4_exit0 (C : Cfg) (Q : X → Rho → Hp → Prop) (ρ : Rho) (h : Hp) : q_turnstoneref30_Bare_4 C Q (.exit 0) ρ h = Wp C 36 k_turnstoneref30_Bare_R3 Q ρ h := rfl
set_option maxRecDepth 100000 in
theorem e_turnstoneref30_Bare (C : Cfg) (Q : X → Rho → Hp → Prop) (ρ : Rho) (h : Hp) : codeR C 36 k_turnstoneref30_Bare Q ρ h = (
  alP (hbox 26 (ρ 0)) h fun v1 h1 =>
  alP (some (.cells 26 1 true false [(V.int .i64 0), (V.int .i64 0), (V.int .i64 0), (V.int .i64 0), (V.int .i64 0), (V.int .i64 0), (V.int .i64 0), (V.int .i64 0), V.nilSlice], fun l => .ptr l 0)) h1 fun v2 h2 =>
  Wp C 36 k_turnstoneref30_Bare_R0 Q (rset (rset ρ 1 v1) 2 v2) h2) := by kernel_rfl
set_option maxRecDepth 100000 in
theorem e_turnstoneref30_Bare_R0 (C : Cfg) (Q : X → Rho → Hp → Prop) (ρ : Rho) (h : Hp) : codeR C 36 k_turnstoneref30_Bare_R0 Q ρ h = (
  oP (pFA 0 (ρ 1)) fun v4 =>
  oP (pLd v4 h) fun v5 =>
  oP (pBuild [(V.int .i64 0), (V.int .i64 0), (V.int .i64 0), (V.int .i64 0), (V.int .i64 0), (V.int .i64 0), (V.int .i64 0), (V.int .i64 0), V.nilSlice] [(0, 1), (1, 1), (2, 1), (3, 1), (4, 5)] [(0, v5)]) fun v6 =>
  alP (some (.cells 26 1 true false [(V.int .i64 0), (V.int .i64 0), (V.int .i64 0), (V.int .i64 0), (V.int .i64 0), (V.int .i64 0), (V.int .i64 0), (V.int .i64 0), V.nilSlice], fun l => .ptr l 0)) h fun v3 h1 =>
  valP (pSt 9 v3 v6 h1) fun vu h2 =>
  Wp C 36 k_turnstoneref30_Bare_R1 Q (rset (rset (rset (rset ρ 4 v4) 5 v5) 6 v6) 3 v3) h2) := by kernel_rfl
set_option maxRecDepth 100000 in
theorem e_turnstoneref30_Bare_R1 (C : Cfg) (Q : X → Rho → Hp → Prop) (ρ : Rho) (h : Hp) : codeR C 36 k_turnstoneref30_Bare_R1 Q ρ h = (
  oP (pFA 0 (ρ 1)) fun v7 =>
  oP (pLd v7 h) fun v8 =>
  Wp C 36 k_turnstoneref30_Bare_R2 (q_turnstoneref30_Bare_0 C Q) (rset (rset ρ 7 v7) 8 v8) h) := by kernel_rfl
set_option maxRecDepth 100000 in
theorem e_turnstoneref30_Bare_R3 (C : Cfg) (Q : X → Rho → Hp → Prop) (ρ : Rho) (h : Hp) : codeR C 36 k_turnstoneref30_Bare_R3 Q ρ h = (
  oP (pLdA 9 (ρ 3) h) fun v35 =>
  valP (pSt 9 (ρ 2) v35 h) fun vu h1 =>
  Wp C 36 k_turnstoneref30_Bare_R6 Q (rset ρ 35 v35) h1) := by kernel_rfl
set_option maxRecDepth 100000 in
theorem e_turnstoneref30_Bare_R2 (C : Cfg) (Q : X → Rho → Hp → Prop) (ρ : Rho) (h : Hp) : codeR C 36 k_turnstoneref30_Bare_R2 Q ρ h = (
  oP (hbin .eql 3 (ρ 8) (V.int .i64 1)) fun v10 =>
  oP (some v10) fun v9 =>
  Wp C 36 k_turnstoneref30_Bare_R4 (q_turnstoneref30_Bare_1 C Q) (rset (rset ρ 10 v10) 9 v9) h) := by kernel_rfl
set_option maxRecDepth 100000 in
theorem e_turnstoneref30_Bare_R6 (C : Cfg) (Q : X → Rho → Hp → Prop) (ρ : Rho) (h : Hp) : codeR C 36 k_turnstoneref30_Bare_R6 Q ρ h = (
  Q .ret ρ h) := by kernel_rfl
set_option maxRecDepth 100000 in
theorem e_turnstoneref30_Bare_R5 (C : Cfg) (Q : X → Rho → Hp → Prop) (ρ : Rho) (h : Hp) : codeR C 36 k_turnstoneref30_Bare_R5 Q ρ h = (
  oP (some (ρ 9)) fun c =>
  bP c (
    oP (pFA 3 (ρ 1)) fun v13 =>
    oP (pLd v13 h) fun v14 =>
    oP (pFA 3 (ρ 3)) fun v15 =>
    valP (pSt 1 v15 v14 h) fun vu h1 =>
    Q .normal (rset (rset (rset ρ 13 v13) 14 v14) 15 v15) h1) (
    oP (hbin .eql 3 (ρ 8) (V.int .i64 2)) fun v17 =>
    oP (some v17) fun v16 =>
    Wp C 36 k_turnstoneref30_Bare_R8 (q_turnstoneref30_Bare_3 C Q) (rset (rset ρ 17 v17) 16 v16) h)) := by kernel_rfl
set_option maxRecDepth 100000 in
theorem e_turnstoneref30_Bare_R4 (C : Cfg) (Q : X → Rho → Hp → Prop) (ρ : Rho) (h : Hp) : codeR C 36 k_turnstoneref30_Bare_R4 Q ρ h = (
  oP (some (ρ 9)) fun c =>
  bP c (
    Q .normal ρ h) (
    oP (hbin .eql 3 (ρ 8) (V.int .i64 3)) fun v11 =>
    oP (some v11) fun v9 =>
    Wp C 36 k_turnstoneref30_Bare_R7 Q (rset (rset ρ 11 v11) 9 v9) h)) := by kernel_rfl
set_option maxRecDepth 100000 in
theorem e_turnstoneref30_Bare_R9 (C : Cfg) (Q : X → Rho → Hp → Prop) (ρ : Rho) (h : Hp) : codeR C 36 k_turnstoneref30_Bare_R9 Q ρ h = (
  oP (some (ρ 16)) fun c =>
  bP c (
    oP (pFA 1 (ρ 1)) fun v19 =>
    oP (pLd v19 h) fun v20 =>
    oP (pFA 1 (ρ 3)) fun v21 =>
    valP (pSt 1 v21 v20 h) fun vu h1 =>
    Wp C 36 k_turnstoneref30_Bare_R10 Q (rset (rset (rset ρ 19 v19) 20 v20) 21 v21) h1) (
    oP (hbin .eql 3 (ρ 8) (V.int .i64 5)) fun v26 =>
    oP (some v26) fun v25 =>
    Wp C 36 k_turnstoneref30_Bare_R11 Q (rset (rset ρ 26 v26) 25 v25) h)) := by kernel_rfl
set_option maxRecDepth 100000 in
theorem e_turnstoneref30_Bare_R7 (C : Cfg) (Q : X → Rho → Hp → Prop) (ρ : Rho) (h : Hp) : codeR C 36 k_turnstoneref30_Bare_R7 Q ρ h = (
  oP (some (ρ 9)) fun c =>
  bP c (
    Q .normal ρ h) (
    oP (hbin .eql 3 (ρ 8) (V.int .i64 7)) fun v12 =>
    oP (some v12) fun v9 =>
    Q .normal (rset (rset ρ 12 v12) 9 v9) h)) := by kernel_rfl
set_option maxRecDepth 100000 in
theorem e_turnstoneref30_Bare_R8 (C : Cfg) (Q : X → Rho → Hp → Prop) (ρ : Rho) (h : Hp) : codeR C 36 k_turnstoneref30_Bare_R8 Q ρ h = (
  oP (some (ρ 16)) fun c =>
  bP c (
    Q .normal ρ h) (
    oP (hbin .eql 3 (ρ 8) (V.int .i64 4)) fun v18 =>
    oP (some v18) fun v16 =>
    Q .normal (rset (rset ρ 18 v18) 16 v16) h)) := by kernel_rfl
set_option maxRecDepth 100000 in
theorem e_turnstoneref30_Bare_R10 (C : Cfg) (Q : X → Rho → Hp → Prop) (ρ : Rho) (h : Hp) : codeR C 36 k_turnstoneref30_Bare_R10 Q ρ h = (
  oP (pFA 2 (ρ 1)) fun v22 =>
  oP (pLd v22 h) fun v23 =>
  oP (pFA 2 (ρ 3)) fun v24 =>
  valP (pSt 1 v24 v23 h) fun vu h1 =>
  Q .normal (rset (rset (rset ρ 22 v22) 23 v23) 24 v24) h1) := by kernel_rfl
set_option maxRecDepth 100000 in
theorem e_turnstoneref30_Bare_R11 (C : Cfg) (Q : X → Rho → Hp → Prop) (ρ : Rho) (h : Hp) : codeR C 36 k_turnstoneref30_Bare_R11 Q ρ h = (
  oP (some (ρ 25)) fun c =>
  bP c (
    oP (pFA 1 (ρ 1)) fun v27 =>
    oP (pLd v27 h) fun v28 =>
    oP (pFA 1 (ρ 3)) fun v29 =>
    valP (pSt 1 v29 v28 h) fun vu h1 =>
    Q .normal (rset (rset (rset ρ 27 v27) 28 v28) 29 v29) h1) (
    oP (hbin .eql 3 (ρ 8) (V.int .i64 6)) fun v31 =>
    oP (some v31) fun v30 =>
    Wp C 36 k_turnstoneref30_Bare_R12 Q (rset (rset ρ 31 v31) 30 v30) h)) := by kernel_rfl
set_option maxRecDepth 100000 in
theorem e_turnstoneref30_Bare_R12 (C : Cfg) (Q : X → Rho → Hp → Prop) (ρ : Rho) (h : Hp) : codeR C 36 k_turnstoneref30_Bare_R12 Q ρ h = (
  oP (some (ρ 30)) fun c =>
  bP c (
    oP (pFA 4 (ρ 1)) fun v32 =>
    oP (pLdA 5 v32 h) fun v33 =>
    oP (pFA 4 (ρ 3)) fun v34 =>
    valP (pSt 5 v34 v33 h) fun vu h1 =>
    Q .normal (rset (rset (rset ρ 32 v32) 33 v33) 34 v34) h1) (
    Q .normal ρ h)) := by kernel_rfl
theorem f_turnstoneref30_Bare {C : Cfg} (hs : C.start = startF) (a0 : V) {h : Hp} {Q : V → Hp → Prop} (hk : C.K n_turnstoneref30_Bare [a0] h = none) (H : codeR C 36 k_turnstoneref30_Bare (bodyQ [.cell 2 26] Q) (argsR [a0]) h) : cP C n_turnstoneref30_Bare [a0] h Q :=
  cP.funcN hs (show P0.funcs[18]? = some Tryz.f18 by unfold P0; exact Tryz.func18) (by kernel_rfl) (by kernel_rfl) (by kernel_rfl) hk (Nat.le_of_ble_eq_true rfl) (Wp.code _ H)
theorem r_turnstoneref30_Bare (Q : V → Hp → Prop) (ρ : Rho) (h : Hp) : retP [.cell 2 26] Q ρ h = (oP (pLdA 9 (ρ 2) h) fun r0 => Q r0 h) := by
  have e0 : (resC (.cell 2 26)).f (.fn ρ []) h = pLdA 9 (ρ 2) h := by kernel_rfl
  unfold retP
  simp only [resVs, e0]
  cases pLdA 9 (ρ 2) h with
  | none => rfl
  | some r0 =>
  rfl
def J_turnstoneref30_Bare_R5 (C : Cfg) (Q : V → Hp → Prop) (x1 x2 x3 x8 x9 : V) (h : Hp) : Prop := ∀ ρ : Rho, ρ 1 = x1 → ρ 2 = x2 → ρ 3 = x3 → ρ 8 = x8 → ρ 9 = x9 → Wp C 36 k_turnstoneref30_Bare_R5 (q_turnstoneref30_Bare_4 C (bodyQ [.cell 2 26] Q)) ρ h
def J_turnstoneref30_Bare_R3 (C : Cfg) (Q : V → Hp → Prop) (x2 x3 : V) (h : Hp) : Prop := ∀ ρ : Rho, ρ 2 = x2 → ρ 3 = x3 → Wp C 36 k_turnstoneref30_Bare_R3 (bodyQ [.cell 2 26] Q) ρ h
def J_turnstoneref30_Bare_R9 (C : Cfg) (Q : V → Hp → Prop) (x1 x2 x3 x8 x16 : V) (h : Hp) : Prop := ∀ ρ : Rho, ρ 1 = x1 → ρ 2 = x2 → ρ 3 = x3 → ρ 8 = x8 → ρ 16 = x16 → Wp C 36 k_turnstoneref30_Bare_R9 (q_turnstoneref30_Bare_4 C (bodyQ [.cell 2 26] Q)) ρ h
def B_turnstoneref30_Bare_R5 (C : Cfg) (Q : V → Hp → Prop) (x1 x2 x3 x8 x9 : V) (h : Hp) : Prop :=
  bP x9 (
  oP (pFA 3 x1) fun v13 =>
  oP (pLd v13 h) fun v14 =>
  oP (pFA 3 x3) fun v15 =>
  valP (pSt 1 v15 v14 h) fun vu h1 =>
  J_turnstoneref30_Bare_R3 C Q x2 x3 h1) (
  oP (hbin .eql 3 x8 (V.int .i64 2)) fun v17 =>
  bP v17 (
  J_turnstoneref30_Bare_R9 C Q x1 x2 x3 x8 v17 h) (
  oP (hbin .eql 3 x8 (V.int .i64 4)) fun v18 =>
  J_turnstoneref30_Bare_R9 C Q x1 x2 x3 x8 v18 h))
set_option maxRecDepth 100000 in
theorem j_turnstoneref30_Bare_R5 {C : Cfg} {Q : V → Hp → Prop} {x1 x2 x3 x8 x9 : V} {h : Hp} (H : B_turnstoneref30_Bare_R5 C Q x1 x2 x3 x8 x9 h) : J_turnstoneref30_Bare_R5 C Q x1 x2 x3 x8 x9 h := by
  intro ρ e1 e2 e3 e8 e9
  subst e1
  subst e2
  subst e3
  subst e8
  subst e9
  unfold B_turnstoneref30_Bare_R5 at H
  exact Wp.of (e_turnstoneref30_Bare_R5 _ _ _ _) (oSm (bM H (fun H => oM H fun v13 _ H => oM H fun v14 _ H => oM H fun v15 _ H => valM H fun vu h1 H => H _ rfl rfl) (fun H => oM H fun v17 _ H => oSm (Wp.of (e_turnstoneref30_Bare_R8 _ _ _ _) (oSm (bM H (fun H => H _ rfl rfl rfl rfl rfl) (fun H => oM H fun v18 _ H => oSm (H _ rfl rfl rfl rfl rfl))))))))
def B_turnstoneref30_Bare_R3 (C : Cfg) (Q : V → Hp → Prop) (x2 x3 : V) (h : Hp) : Prop :=
  oP (pLdA 9 x3 h) fun v35 =>
  valP (pSt 9 x2 v35 h) fun vu h1 =>
  oP (pLdA 9 x2 h1) fun r2 =>
  Q r2 h1
set_option maxRecDepth 100000 in
theorem j_turnstoneref30_Bare_R3 {C : Cfg} {Q : V → Hp → Prop} {x2 x3 : V} {h : Hp} (H : B_turnstoneref30_Bare_R3 C Q x2 x3 h) : J_turnstoneref30_Bare_R3 C Q x2 x3 h := by
  intro ρ e2 e3
  subst e2
  subst e3
  unfold B_turnstoneref30_Bare_R3 at H
  exact Wp.of (e_turnstoneref30_Bare_R3 _ _ _ _) (oM H fun v35 _ H => valM H fun vu h1 H => Wp.of (e_turnstoneref30_Bare_R6 _ _ _ _) ((r_turnstoneref30_Bare _ _ _).mpr H))
def B_turnstoneref30_Bare_R9 (C : Cfg) (Q : V → Hp → Prop) (x1 x2 x3 x8 x16 : V) (h : Hp) : Prop :=
  bP x16 (
  oP (pFA 1 x1) fun v19 =>
  oP (pLd v19 h) fun v20 =>
  oP (pFA 1 x3) fun v21 =>
  valP (pSt 1 v21 v20 h) fun vu h1 =>
  oP (pFA 2 x1) fun v22 =>
  oP (pLd v22 h1) fun v23 =>
  oP (pFA 2 x3) fun v24 =>
  valP (pSt 1 v24 v23 h1) fun vu_1 h2 =>
  J_turnstoneref30_Bare_R3 C Q x2 x3 h2) (
  oP (hbin .eql 3 x8 (V.int .i64 5)) fun v26 =>
  bP v26 (
  oP (pFA 1 x1) fun v27 =>
  oP (pLd v27 h) fun v28 =>
  oP (pFA 1 x3) fun v29 =>
  valP (pSt 1 v29 v28 h) fun vu_2 h3 =>
  J_turnstoneref30_Bare_R3 C Q x2 x3 h3) (
  oP (hbin .eql 3 x8 (V.int .i64 6)) fun v31 =>
  bP v31 (
  oP (pFA 4 x1) fun v32 =>
  oP (pLdA 5 v32 h) fun v33 =>
  oP (pFA 4 x3) fun v34 =>
  valP (pSt 5 v34 v33 h) fun vu_3 h4 =>
  J_turnstoneref30_Bare_R3 C Q x2 x3 h4) (
  J_turnstoneref30_Bare_R3 C Q x2 x3 h)))
set_option maxRecDepth 100000 in
theorem j_turnstoneref30_Bare_R9 {C : Cfg} {Q : V → Hp → Prop} {x1 x2 x3 x8 x16 : V} {h : Hp} (H : B_turnstoneref30_Bare_R9 C Q x1 x2 x3 x8 x16 h) : J_turnstoneref30_Bare_R9 C Q x1 x2 x3 x8 x16 h := by
  intro ρ e1 e2 e3 e8 e16
  subst e1
  subst e2
  subst e3
  subst e8
  subst e16
  unfold B_turnstoneref30_Bare_R9 at H
  exact Wp.of (e_turnstoneref30_Bare_R9 _ _ _ _) (oSm (bM H (fun H => oM H fun v19 _ H => oM H fun v20 _ H => oM H fun v21 _ H => valM H fun vu h1 H => Wp.of (e_turnstoneref30_Bare_R10 _ _ _ _) (oM H fun v22 _ H => oM H fun v23 _ H => oM H fun v24 _ H => valM H fun vu_1 h2 H => H _ rfl rfl)) (fun H => oM H fun v26 _ H => oSm (Wp.of (e_turnstoneref30_Bare_R11 _ _ _ _) (oSm (bM H (fun H => oM H fun v27 _ H => oM H fun v28 _ H => oM H fun v29 _ H => valM H fun vu_2 h3 H => H _ rfl rfl) (fun H => oM H fun v31 _ H => oSm (Wp.of (e_turnstoneref30_Bare_R12 _ _ _ _) (oSm (bM H (fun H => oM H fun v32 _ H => oM H fun v33 _ H => oM H fun v34 _ H => valM H fun vu_3 h4 H => H _ rfl rfl) (fun H => H _ rfl rfl)))))))))))
def B_turnstoneref30_Bare (C : Cfg) (Q : V → Hp → Prop) (a0 : V) (h : Hp) : Prop :=
  alP (hbox 26 a0) h fun v1 h1 =>
  alP (some (.cells 26 1 true false [(V.int .i64 0), (V.int .i64 0), (V.int .i64 0), (V.int .i64 0), (V.int .i64 0), (V.int .i64 0), (V.int .i64 0), (V.int .i64 0), V.nilSlice], fun l => .ptr l 0)) h1 fun v2 h2 =>
  oP (pFA 0 v1) fun v4 =>
  oP (pLd v4 h2) fun v5 =>
  oP (pBuild [(V.int .i64 0), (V.int .i64 0), (V.int .i64 0), (V.int .i64 0), (V.int .i64 0), (V.int .i64 0), (V.int .i64 0), (V.int .i64 0), V.nilSlice] [(0, 1), (1, 1), (2, 1), (3, 1), (4, 5)] [(0, v5)]) fun v6 =>
  alP (some (.cells 26 1 true false [(V.int .i64 0), (V.int .i64 0), (V.int .i64 0), (V.int .i64 0), (V.int .i64 0), (V.int .i64 0), (V.int .i64 0), (V.int .i64 0), V.nilSlice], fun l => .ptr l 0)) h2 fun v3 h3 =>
  valP (pSt 9 v3 v6 h3) fun vu h4 =>
  oP (pFA 0 v1) fun v7 =>
  oP (pLd v7 h4) fun v8 =>
  oP (hbin .eql 3 v8 (V.int .i64 1)) fun v10 =>
  bP v10 (
  J_turnstoneref30_Bare_R5 C Q v1 v2 v3 v8 v10 h4) (
  oP (hbin .eql 3 v8 (V.int .i64 3)) fun v11 =>
  bP v11 (
  J_turnstoneref30_Bare_R5 C Q v1 v2 v3 v8 v11 h4) (
  oP (hbin .eql 3 v8 (V.int .i64 7)) fun v12 =>
  J_turnstoneref30_Bare_R5 C Q v1 v2 v3 v8 v12 h4))
set_option maxRecDepth 100000 in
theorem c_turnstoneref30_Bare {C : Cfg} (hs : C.start = startF) {a0 : V} {h : Hp} {Q : V → Hp → Prop} (hk : C.K n_turnstoneref30_Bare [a0] h = none) (H : B_turnstoneref30_Bare C Q a0 h) : cP C n_turnstoneref30_Bare [a0] h Q := by
  unfold B_turnstoneref30_Bare at H
  exact f_turnstoneref30_Bare hs _ hk ((e_turnstoneref30_Bare _ _ _ _).mpr (alM H fun v1 h1 H => alM H fun v2 h2 H => Wp.of (e_turnstoneref30_Bare_R0 _ _ _ _) (oM H fun v4 _ H => oM H fun v5 _ H => oM H fun v6 _ H => alM H fun v3 h3 H => valM H fun vu h4 H => Wp.of (e_turnstoneref30_Bare_R1 _ _ _ _) (oM H fun v7 _ H => oM H fun v8 _ H => Wp.of (e_turnstoneref30_Bare_R2 _ _ _ _) (oM H fun v10 _ H => oSm (Wp.of (e_turnstoneref30_Bare_R4 _ _ _ _) (oSm (bM H (fun H => H _ rfl rfl rfl rfl rfl) (fun H => oM H fun v11 _ H => oSm (Wp.of (e_turnstoneref30_Bare_R7 _ _ _ _) (oSm (bM H (fun H => H _ rfl rfl rfl rfl rfl) (fun H => oM H fun v12 _ H => oSm (H _ rfl rfl rfl rfl rfl))))))))))))))
/-! ### turnstone/turnstonelaw30.ScriptBack -/
noncomputable def k_turnstonelaw30_ScriptBack : Code := bodyOf Tryz.f7
noncomputable def k_turnstonelaw30_ScriptBack_R0 : Code := k_turnstonelaw30_ScriptBack.r
noncomputable def k_turnstonelaw30_ScriptBack_R1 : Code := k_turnstonelaw30_ScriptBack.r.r
noncomputable def k_turnstonelaw30_ScriptBack_R2 : Code := k_turnstonelaw30_ScriptBack.r.r.l.r
noncomputable def k_turnstonelaw30_ScriptBack_R3 : Code := k_turnstonelaw30_ScriptBack.r.r.r
noncomputable def q_turnstonelaw30_ScriptBack_0 (C : Cfg) (Q : X → Rho → Hp → Prop) : X → Rho → Hp → Prop := andThen (Wp C 75 k_turnstonelaw30_ScriptBack_R3 Q) Q
theorem q_turnstonelaw30_ScriptBack_0_normal (C : Cfg) (Q : X → Rho → Hp → Prop) (ρ : Rho) (h : Hp) : q_turnstonelaw30_ScriptBack_0 C Q .normal ρ h = Wp C 75 k_turnstonelaw30_ScriptBack_R3 Q ρ h := rfl
theorem q_turnstonelaw30_ScriptBack_0_ret (C : Cfg) (Q : X → Rho → Hp → Prop) (ρ : Rho) (h : Hp) : q_turnstonelaw30_ScriptBack_0 C Q .ret ρ h = Q .ret ρ h := rfl
noncomputable def k_turnstonelaw30_ScriptBack_R4 : Code := k_turnstonelaw30_ScriptBack.r.r.r.r
noncomputable def k_turnstonelaw30_ScriptBack_R5 : Code := k_turnstonelaw30_ScriptBack.r.r.r.r.l.r
noncomputable def k_turnstonelaw30_ScriptBack_R6 : Code := k_turnstonelaw30_ScriptBack.r.r.r.r.r
noncomputable def q_turnstonelaw30_ScriptBack_1 (C : Cfg) (Q : X → Rho → Hp → Prop) : X → Rho → Hp → Prop := andThen (Wp C 75 k_turnstonelaw30_ScriptBack_R6 Q) Q
theorem q_turnstonelaw30_ScriptBack_1_normal (C : Cfg) (Q : X → Rho → Hp → Prop) (ρ : Rho) (h : Hp) : q_turnstonelaw30_ScriptBack_1 C Q .normal ρ h = Wp C 75 k_turnstonelaw30_ScriptBack_R6 Q ρ h := rfl
theorem q_turnstonelaw30_ScriptBack_1_ret (C : Cfg) (Q : X → Rho → Hp → Prop) (ρ : Rho) (h : Hp) : q_turnstonelaw30_ScriptBack_1 C Q .ret ρ h = Q .ret ρ h := rfl
noncomputable def k_turnstonelaw30_ScriptBack_R7 : Code := k_turnstonelaw30_ScriptBack.r.r.r.r.l.r.l.r
noncomputable def k_turnstonelaw30_ScriptBack_R8 : Code := k_turnstonelaw30_ScriptBack.r.r.r.r.r.r
noncomputable def k_turnstonelaw30_ScriptBack_R9 : Code := k_turnstonelaw30_ScriptBack.r.r.r.r.l.r.l.r.r
noncomputable def k_turnstonelaw30_ScriptBack_R10 : Code := k_turnstonelaw30_ScriptBack.r.r.r.r.r.r.l.r
noncomputable def k_turnstonelaw30_ScriptBack_R11 : Code := k_turnstonelaw30_ScriptBack.r.r.r.r.r.r.r
noncomputable def q_turnstonelaw30_ScriptBack_2 (C : Cfg) (Q : X → Rho → Hp → Prop) : X → Rho → Hp → Prop := andThen (Wp C 75 k_turnstonelaw30_ScriptBack_R11 Q) Q
theorem q_turnstonelaw30_ScriptBack_2_normal (C : Cfg) (Q : X → Rho → Hp → Prop) (ρ : Rho) (h : Hp) : q_turnstonelaw30_ScriptBack_2 C Q .normal ρ h = Wp C 75 k_turnstonelaw30_ScriptBack_R11 Q ρ h := rfl
theorem q_turnstonelaw30_ScriptBack_2_ret (C : Cfg) (Q : X → Rho → Hp → Prop) (ρ : Rho) (h : Hp) : q_turnstonelaw30_ScriptBack_2 C Q .ret ρ h = Q .ret ρ h := rfl
noncomputable def k_turnstonelaw30_ScriptBack_R12 : Code := k_turnstonelaw30_ScriptBack.r.r.r.r.l.r.l.r.r.l.r
noncomputable def k_turnstonelaw30_ScriptBack_R13 : Code := k_turnstonelaw30_ScriptBack.r.r.r.r.r.r.l.r.l.r
noncomputable def k_turnstonelaw30_ScriptBack_R14 : Code := k_turnstonelaw30_ScriptBack.r.r.r.r.r.r.r.r
noncomputable def k_turnstonelaw30_ScriptBack_R15 : Code := k_turnstonelaw30_ScriptBack.r.r.r.r.r.r.r.r.r
set_option maxRecDepth 100000 in
theorem e_turnstonelaw30_ScriptBack (C : Cfg) (Q : X → Rho → Hp → Prop) (ρ : Rho) (h : Hp) : codeR C 75 k_turnstonelaw30_ScriptBack Q ρ h = (
  alP (hbox 26 (ρ 0)) h fun v4 h1 =>
  alP (hbox 36 (ρ 1)) h1 fun v5 h2 =>
  oP (some (V.bool false)) fun v8 =>
  Wp C 75 k_turnstonelaw30_ScriptBack_R0 Q (rset (rset (rset ρ 4 v4) 5 v5) 8 v8) h2) := by kernel_rfl
set_option maxRecDepth 100000 in
theorem e_turnstonelaw30_ScriptBack_R0 (C : Cfg) (Q : X → Rho → Hp → Prop) (ρ : Rho) (h : Hp) : codeR C 75 k_turnstonelaw30_ScriptBack_R0 Q ρ h = (
  oP (pFA 0 (ρ 4)) fun v17 =>
  oP (pLd v17 h) fun v18 =>
  dcP C n_turnstonehand_Pick [v18, (V.int .i64 7)] h fun v19 h1 =>
  oP (hbin .add 3 (V.int .i64 1) v19) fun v20 =>
  oP (pFA 0 (ρ 4)) fun v21 =>
  valP (pSt 1 v21 v20 h1) fun vu h2 =>
  Wp C 75 k_turnstonelaw30_ScriptBack_R1 Q (rset (rset (rset (rset (rset ρ 17 v17) 18 v18) 19 v19) 20 v20) 21 v21) h2) := by kernel_rfl
set_option maxRecDepth 100000 in
theorem e_turnstonelaw30_ScriptBack_R1 (C : Cfg) (Q : X → Rho → Hp → Prop) (ρ : Rho) (h : Hp) : codeR C 75 k_turnstonelaw30_ScriptBack_R1 Q ρ h = (
  oP (some (ρ 3)) fun v22 =>
  Wp C 75 k_turnstonelaw30_ScriptBack_R2 (q_turnstonelaw30_ScriptBack_0 C Q) (rset ρ 22 v22) h) := by kernel_rfl
set_option maxRecDepth 100000 in
theorem e_turnstonelaw30_ScriptBack_R3 (C : Cfg) (Q : X → Rho → Hp → Prop) (ρ : Rho) (h : Hp) : codeR C 75 k_turnstonelaw30_ScriptBack_R3 Q ρ h = (
  oP (pLdA 9 (ρ 4) h) fun v26 =>
  dcP C n_script_Print [v26] h fun v27 h1 =>
  oP (some v27) fun v25 =>
  oP (pExt 0 v25) fun v28 =>
  oP (pExt 1 v25) fun v29 =>
  oP (some v28) fun v9 =>
  oP (some v29) fun v10 =>
  Wp C 75 k_turnstonelaw30_ScriptBack_R4 Q (rset (rset (rset (rset (rset (rset (rset ρ 26 v26) 27 v27) 25 v25) 28 v28) 29 v29) 9 v9) 10 v10) h1) := by kernel_rfl
set_option maxRecDepth 100000 in
theorem e_turnstonelaw30_ScriptBack_R2 (C : Cfg) (Q : X → Rho → Hp → Prop) (ρ : Rho) (h : Hp) : codeR C 75 k_turnstonelaw30_ScriptBack_R2 Q ρ h = (
  oP (some (ρ 22)) fun c =>
  bP c (
    oP (pLdA 4 (ρ 5) h) fun v23 =>
    dcP C n_turnstonelaw30_Line_text [v23] h fun v24 h1 =>
    oP (some v24) fun v2 =>
    Q .normal (rset (rset (rset ρ 23 v23) 24 v24) 2 v2) h1) (
    Q .normal ρ h)) := by kernel_rfl
set_option maxRecDepth 100000 in
theorem e_turnstonelaw30_ScriptBack_R4 (C : Cfg) (Q : X → Rho → Hp → Prop) (ρ : Rho) (h : Hp) : codeR C 75 k_turnstonelaw30_ScriptBack_R4 Q ρ h = (
  oP (some (ρ 10)) fun v30 =>
  oP (hbin .eql 27 v30 (V.int .i64 0)) fun v31 =>
  Wp C 75 k_turnstonelaw30_ScriptBack_R5 (q_turnstonelaw30_ScriptBack_1 C Q) (rset (rset ρ 30 v30) 31 v31) h) := by kernel_rfl
set_option maxRecDepth 100000 in
theorem e_turnstonelaw30_ScriptBack_R6 (C : Cfg) (Q : X → Rho → Hp → Prop) (ρ : Rho) (h : Hp) : codeR C 75 k_turnstonelaw30_ScriptBack_R6 Q ρ h = (
  oP (some (ρ 2)) fun v47 =>
  dcP C n_script_Parse [v47] h fun v48 h1 =>
  oP (some v48) fun v46 =>
  oP (pExt 0 v46) fun v49 =>
  oP (pExt 1 v46) fun v50 =>
  alP (some (.cells 26 1 true false [(V.int .i64 0), (V.int .i64 0), (V.int .i64 0), (V.int .i64 0), (V.int .i64 0), (V.int .i64 0), (V.int .i64 0), (V.int .i64 0), V.nilSlice], fun l => .ptr l 0)) h1 fun v13 h2 =>
  valP (pSt 9 v13 v49 h2) fun vu h3 =>
  oP (some v50) fun v14 =>
  Wp C 75 k_turnstonelaw30_ScriptBack_R8 Q (rset (rset (rset (rset (rset (rset (rset ρ 47 v47) 48 v48) 46 v46) 49 v49) 50 v50) 13 v13) 14 v14) h3) := by kernel_rfl
set_option maxRecDepth 100000 in
theorem e_turnstonelaw30_ScriptBack_R5 (C : Cfg) (Q : X → Rho → Hp → Prop) (ρ : Rho) (h : Hp) : codeR C 75 k_turnstonelaw30_ScriptBack_R5 Q ρ h = (
  oP (some (ρ 31)) fun c =>
  bP c (
    oP (some (ρ 9)) fun v33 =>
    dcP C n_script_Parse [v33] h fun v34 h1 =>
    oP (some v34) fun v32 =>
    oP (pExt 0 v32) fun v35 =>
    oP (pExt 1 v32) fun v36 =>
    alP (some (.cells 26 1 true false [(V.int .i64 0), (V.int .i64 0), (V.int .i64 0), (V.int .i64 0), (V.int .i64 0), (V.int .i64 0), (V.int .i64 0), (V.int .i64 0), V.nilSlice], fun l => .ptr l 0)) h1 fun v11 h2 =>
    valP (pSt 9 v11 v35 h2) fun vu h3 =>
    oP (some v36) fun v12 =>
    Wp C 75 k_turnstonelaw30_ScriptBack_R7 Q (rset (rset (rset (rset (rset (rset (rset ρ 33 v33) 34 v34) 32 v32) 35 v35) 36 v36) 11 v11) 12 v12) h3) (
    Q .normal ρ h)) := by kernel_rfl
set_option maxRecDepth 100000 in
theorem e_turnstonelaw30_ScriptBack_R8 (C : Cfg) (Q : X → Rho → Hp → Prop) (ρ : Rho) (h : Hp) : codeR C 75 k_turnstonelaw30_ScriptBack_R8 Q ρ h = (
  dcP C n_turnstonelaw30_known [] h fun v51 h1 =>
  oP (hun .not v51) fun v52 =>
  oP (some v52) fun v53 =>
  oP (pGd false v53) fun b3 =>
  oP (gV b3 (some (ρ 14))) fun v54 =>
  oP (pGd false v53) fun b4 =>
  oP (gV b4 (hbin .neq 27 v54 (V.int .i64 0))) fun v55 =>
  oP (pPick v53 (V.bool true) v55) fun v56 =>
  Wp C 75 k_turnstonelaw30_ScriptBack_R10 (q_turnstonelaw30_ScriptBack_2 C Q) (rset (rset (rset (rset (rset (rset ρ 51 v51) 52 v52) 53 v53) 54 v54) 55 v55) 56 v56) h1) := by kernel_rfl
set_option maxRecDepth 100000 in
theorem e_turnstonelaw30_ScriptBack_R11 (C : Cfg) (Q : X → Rho → Hp → Prop) (ρ : Rho) (h : Hp) : codeR C 75 k_turnstonelaw30_ScriptBack_R11 Q ρ h = (
  oP (pLdA 9 (ρ 13) h) fun v64 =>
  dcP C n_script_Print [v64] h fun v65 h1 =>
  oP (some v65) fun v63 =>
  oP (pExt 0 v63) fun v66 =>
  oP (pExt 1 v63) fun v67 =>
  oP (some v66) fun v15 =>
  oP (some v67) fun v16 =>
  Wp C 75 k_turnstonelaw30_ScriptBack_R14 Q (rset (rset (rset (rset (rset (rset (rset ρ 64 v64) 65 v65) 63 v63) 66 v66) 67 v67) 15 v15) 16 v16) h1) := by kernel_rfl
set_option maxRecDepth 100000 in
theorem e_turnstonelaw30_ScriptBack_R7 (C : Cfg) (Q : X → Rho → Hp → Prop) (ρ : Rho) (h : Hp) : codeR C 75 k_turnstonelaw30_ScriptBack_R7 Q ρ h = (
  oP (some (ρ 12)) fun v37 =>
  oP (hbin .neq 27 v37 (V.int .i64 0)) fun v38 =>
  oP (some v38) fun v39 =>
  oP (pGd false v39) fun b3 =>
  oP (gV b3 (pLdA 9 (ρ 11) h)) fun v40 =>
  oP (pGd false v39) fun b4 =>
  oP (gV b4 (pLdA 9 (ρ 4) h)) fun v41 =>
  ((gT b4 (pLdA 9 (ρ 4) h = some v41)) ∧ 
  ((gT b3 (pLdA 9 (ρ 11) h = some v40)) ∧ 
  ((some v38 = some v39) ∧ 
  ((hbin .neq 27 v37 (V.int .i64 0) = some v38) ∧ 
  ((some (ρ 12) = some v37) ∧ 
  oP (pGd false v39) fun b5 =>
  oP (gC b5 (some (n_turnstoneref30_Bare, [v41]))) fun x5 => cgP C x5 h fun v42 h1 =>
  (h.next ≤ h1.next ∧
  ((gT b3 (pLdA 9 (ρ 11) h1 = some v40)) ∧ 
  oP (pGd false v39) fun b6 =>
  oP (gC b6 (some (n_turnstonelaw30_same, [v40, v42]))) fun x6 => cgP C x6 h1 fun v43 h2 =>
  (h1.next ≤ h2.next ∧
  oP (pGd false v39) fun b7 =>
  oP (gV b7 (hun .not v43)) fun v44 =>
  oP (pPick v39 (V.bool true) v44) fun v45 =>
  ((pPick v39 (V.bool true) v44 = some v45) ∧ 
  ((gT b7 (hun .not v43 = some v44)) ∧ 
  Wp C 75 k_turnstonelaw30_ScriptBack_R9 Q (rset (rset (rset (rset (rset (rset (rset (rset (rset ρ 37 v37) 38 v38) 39 v39) 40 v40) 41 v41) 42 v42) 43 v43) 44 v44) 45 v45) h2))))))))))) := by kernel_rfl
set_option maxRecDepth 100000 in
theorem e_turnstonelaw30_ScriptBack_R10 (C : Cfg) (Q : X → Rho → Hp → Prop) (ρ : Rho) (h : Hp) : codeR C 75 k_turnstonelaw30_ScriptBack_R10 Q ρ h = (
  oP (some (ρ 56)) fun c =>
  bP c (
    dcP C n_turnstonelaw30_known [] h fun v57 h1 =>
    oP (some v57) fun v58 =>
    oP (pGd true v58) fun b2 =>
    oP (gV b2 (pLdA 9 (ρ 13) h1)) fun v59 =>
    oP (pGd true v58) fun b3 =>
    oP (gV b3 (pBuild [(V.int .i64 0), (V.int .i64 0), (V.int .i64 0), (V.int .i64 0), (V.int .i64 0), (V.int .i64 0), (V.int .i64 0), (V.int .i64 0), V.nilSlice] [(0, 1), (1, 1), (2, 1), (3, 1), (4, 5)] [])) fun v60 =>
    oP (pGd true v58) fun b4 =>
    oP (gC b4 (some (n_turnstonelaw30_same, [v59, v60]))) fun x4 => cgP C x4 h1 fun v61 h2 =>
    oP (pPick v58 v61 (V.bool false)) fun v62 =>
    oP (some v62) fun v8 =>
    Wp C 75 k_turnstonelaw30_ScriptBack_R13 Q (rset (rset (rset (rset (rset (rset (rset ρ 57 v57) 58 v58) 59 v59) 60 v60) 61 v61) 62 v62) 8 v8) h2) (
    Q .normal ρ h)) := by kernel_rfl
set_option maxRecDepth 100000 in
theorem e_turnstonelaw30_ScriptBack_R14 (C : Cfg) (Q : X → Rho → Hp → Prop) (ρ : Rho) (h : Hp) : codeR C 75 k_turnstonelaw30_ScriptBack_R14 Q ρ h = (
  oP (some (ρ 16)) fun v68 =>
  oP (hbin .eql 27 v68 (V.int .i64 0)) fun v69 =>
  oP (some v69) fun v70 =>
  oP (pGd true v70) fun b3 =>
  oP (gV b3 (some (ρ 15))) fun v71 =>
  oP (pGd true v70) fun b4 =>
  oP (gV b4 (some (ρ 2))) fun v72 =>
  oP (pGd true v70) fun b5 =>
  oP (gV b5 (hbin .eql 9 v71 v72)) fun v73 =>
  oP (pPick v70 v73 (V.bool false)) fun v74 =>
  oP (some v74) fun v8 =>
  Wp C 75 k_turnstonelaw30_ScriptBack_R15 Q (rset (rset (rset (rset (rset (rset (rset (rset ρ 68 v68) 69 v69) 70 v70) 71 v71) 72 v72) 73 v73) 74 v74) 8 v8) h) := by kernel_rfl
set_option maxRecDepth 100000 in
theorem e_turnstonelaw30_ScriptBack_R9 (C : Cfg) (Q : X → Rho → Hp → Prop) (ρ : Rho) (h : Hp) : codeR C 75 k_turnstonelaw30_ScriptBack_R9 Q ρ h = (
  oP (some (ρ 45)) fun c =>
  bP c (
    oP (some (V.bool false)) fun v8 =>
    Wp C 75 k_turnstonelaw30_ScriptBack_R12 Q (rset ρ 8 v8) h) (
    Q .normal ρ h)) := by kernel_rfl
set_option maxRecDepth 100000 in
theorem e_turnstonelaw30_ScriptBack_R15 (C : Cfg) (Q : X → Rho → Hp → Prop) (ρ : Rho) (h : Hp) : codeR C 75 k_turnstonelaw30_ScriptBack_R15 Q ρ h = (
  Q .ret ρ h) := by kernel_rfl
set_option maxRecDepth 100000 in
theorem e_turnstonelaw30_ScriptBack_R13 (C : Cfg) (Q : X → Rho → Hp → Prop) (ρ : Rho) (h : Hp) : codeR C 75 k_turnstonelaw30_ScriptBack_R13 Q ρ h = (
  Q .ret ρ h) := by kernel_rfl
set_option maxRecDepth 100000 in
theorem e_turnstonelaw30_ScriptBack_R12 (C : Cfg) (Q : X → Rho → Hp → Prop) (ρ : Rho) (h : Hp) : codeR C 75 k_turnstonelaw30_ScriptBack_R12 Q ρ h = (
  Q .ret ρ h) := by kernel_rfl
theorem f_turnstonelaw30_ScriptBack {C : Cfg} (hs : C.start = startF) (a0 a1 a2 a3 : V) {h : Hp} {Q : V → Hp → Prop} (hk : C.K n_turnstonelaw30_ScriptBack [a0, a1, a2, a3] h = none) (H : codeR C 75 k_turnstonelaw30_ScriptBack (bodyQ [.tmp 8] Q) (argsR [a0, a1, a2, a3]) h) : cP C n_turnstonelaw30_ScriptBack [a0, a1, a2, a3] h Q :=
  cP.funcN hs (show P0.funcs[7]? = some Tryz.f7 by unfold P0; exact Tryz.func7) (by kernel_rfl) (by kernel_rfl) (by kernel_rfl) hk (Nat.le_of_ble_eq_true rfl) (Wp.code _ H)
def J_turnstonelaw30_ScriptBack_R3 (C : Cfg) (Q : V → Hp → Prop) (x2 x4 : V) (h : Hp) : Prop := ∀ ρ : Rho, ρ 2 = x2 → ρ 4 = x4 → Wp C 75 k_turnstonelaw30_ScriptBack_R3 (bodyQ [.tmp 8] Q) ρ h
def J_turnstonelaw30_ScriptBack_R6 (C : Cfg) (Q : V → Hp → Prop) (x2 : V) (h : Hp) : Prop := ∀ ρ : Rho, ρ 2 = x2 → Wp C 75 k_turnstonelaw30_ScriptBack_R6 (bodyQ [.tmp 8] Q) ρ h
def B_turnstonelaw30_ScriptBack_R3 (C : Cfg) (Q : V → Hp → Prop) (x2 x4 : V) (h : Hp) : Prop :=
  oP (pLdA 9 x4 h) fun v26 =>
  cP C n_script_Print [v26] h fun v27 h1 =>
  oP (pExt 0 v27) fun v28 =>
  oP (pExt 1 v27) fun v29 =>
  oP (hbin .eql 27 v29 (V.int .i64 0)) fun v31 =>
  bP v31 (
  cP C n_script_Parse [v28] h1 fun v34 h2 =>
  oP (pExt 0 v34) fun v35 =>
  oP (pExt 1 v34) fun v36 =>
  alP (some (.cells 26 1 true false [(V.int .i64 0), (V.int .i64 0), (V.int .i64 0), (V.int .i64 0), (V.int .i64 0), (V.int .i64 0), (V.int .i64 0), (V.int .i64 0), V.nilSlice], fun l => .ptr l 0)) h2 fun v11 h3 =>
  valP (pSt 9 v11 v35 h3) fun vu h4 =>
  oP (hbin .neq 27 v36 (V.int .i64 0)) fun v38 =>
  oP (pGd false v38) fun b3 =>
  oP (gV b3 (pLdA 9 v11 h4)) fun v40 =>
  oP (pGd false v38) fun b4 =>
  oP (gV b4 (pLdA 9 x4 h4)) fun v41 =>
  oP (pGd false v38) fun b5 =>
  oP (gC b5 (some (n_turnstoneref30_Bare, [v41]))) fun y5 => cgP C y5 h4 fun v42 h5 =>
  (h4.next ≤ h5.next ∧
  ((gT b3 (pLdA 9 v11 h5 = some v40)) ∧ 
  oP (pGd false v38) fun b6 =>
  oP (gC b6 (some (n_turnstonelaw30_same, [v40, v42]))) fun y6 => cgP C y6 h5 fun v43 h6 =>
  (h5.next ≤ h6.next ∧
  oP (pOr v38 (hun .not v43)) fun v45 =>
  bP v45 (
  Q (V.bool false) h6) (
  J_turnstonelaw30_ScriptBack_R6 C Q x2 h6))))) (
  J_turnstonelaw30_ScriptBack_R6 C Q x2 h1)
set_option maxRecDepth 100000 in
theorem j_turnstonelaw30_ScriptBack_R3 {C : Cfg} {Q : V → Hp → Prop} {x2 x4 : V} {h : Hp} (H : B_turnstonelaw30_ScriptBack_R3 C Q x2 x4 h) : J_turnstonelaw30_ScriptBack_R3 C Q x2 x4 h := by
  intro ρ e2 e4
  subst e2
  subst e4
  unfold B_turnstonelaw30_ScriptBack_R3 at H
  exact Wp.of (e_turnstonelaw30_ScriptBack_R3 _ _ _ _) (oM H fun v26 _ H => dcM H fun v27 h1 H => oSm (oM H fun v28 _ H => oM H fun v29 _ H => oSm (oSm (Wp.of (e_turnstonelaw30_ScriptBack_R4 _ _ _ _) (oSm (oM H fun v31 _ H => Wp.of (e_turnstonelaw30_ScriptBack_R5 _ _ _ _) (oSm (bM H (fun H => oSm (dcM H fun v34 h2 H => oSm (oM H fun v35 _ H => oM H fun v36 _ H => alM H fun v11 h3 H => valM H fun vu h4 H => oSm (Wp.of (e_turnstonelaw30_ScriptBack_R7 _ _ _ _) (oSm (oM H fun v38 Ev38 H => oSm (oM H fun b3 _ H => oM H fun v40 Ev40 H => oM H fun b4 _ H => oM H fun v41 Ev41 H => ⟨(gT_of Ev41), ⟨(gT_of Ev40), ⟨rfl, ⟨Ev38, ⟨rfl, oM H fun b5 _ H => oM H fun y5 _ H => cgM H fun v42 h5 H => anM H fun H => anM H fun H => oM H fun b6 _ H => oM H fun y6 _ H => cgM H fun v43 h6 H => anM H fun H => thn (or_open H) fun H => oM H fun b7 Gv44 H => oM H fun v44 Ev44 H => oM H fun v45 Ev45 H => ⟨Ev45, ⟨(gT_of Ev44), Wp.of (e_turnstonelaw30_ScriptBack_R9 _ _ _ _) (oSm (bM H (fun H => oSm (Wp.of (e_turnstonelaw30_ScriptBack_R12 _ _ _ _) (H))) (fun H => H _ rfl)))⟩⟩⟩⟩⟩⟩⟩))))))) (fun H => H _ rfl)))))))))
def B_turnstonelaw30_ScriptBack_R6 (C : Cfg) (Q : V → Hp → Prop) (x2 : V) (h : Hp) : Prop :=
  cP C n_script_Parse [x2] h fun v48 h1 =>
  oP (pExt 0 v48) fun v49 =>
  oP (pExt 1 v48) fun v50 =>
  alP (some (.cells 26 1 true false [(V.int .i64 0), (V.int .i64 0), (V.int .i64 0), (V.int .i64 0), (V.int .i64 0), (V.int .i64 0), (V.int .i64 0), (V.int .i64 0), V.nilSlice], fun l => .ptr l 0)) h1 fun v13 h2 =>
  valP (pSt 9 v13 v49 h2) fun vu h3 =>
  cP C n_turnstonelaw30_known [] h3 fun v51 h4 =>
  oP (hun .not v51) fun v52 =>
  oP (pOr v52 (oB (some v50) fun v54 => hbin .neq 27 v54 (V.int .i64 0))) fun v56 =>
  bP v56 (
  cP C n_turnstonelaw30_known [] h4 fun v57 h5 =>
  oP (pGd true v57) fun b2 =>
  oP (gV b2 (pLdA 9 v13 h5)) fun v59 =>
  oP (pGd true v57) fun b3_1 =>
  oP (gV b3_1 (pBuild [(V.int .i64 0), (V.int .i64 0), (V.int .i64 0), (V.int .i64 0), (V.int .i64 0), (V.int .i64 0), (V.int .i64 0), (V.int .i64 0), V.nilSlice] [(0, 1), (1, 1), (2, 1), (3, 1), (4, 5)] [])) fun v60 =>
  oP (pGd true v57) fun b4_1 =>
  oP (gC b4_1 (some (n_turnstonelaw30_same, [v59, v60]))) fun y4 => cgP C y4 h5 fun v61 h6 =>
  oP (pPick v57 v61 (V.bool false)) fun v62 =>
  Q v62 h6) (
  oP (pLdA 9 v13 h4) fun v64 =>
  cP C n_script_Print [v64] h4 fun v65 h7 =>
  oP (pExt 0 v65) fun v66 =>
  oP (pExt 1 v65) fun v67 =>
  oP (hbin .eql 27 v67 (V.int .i64 0)) fun v69 =>
  oP (pAnd v69 (oB (some v66) fun v71 => oB (some x2) fun v72 => hbin .eql 9 v71 v72)) fun v74 =>
  Q v74 h7)
set_option maxRecDepth 100000 in
theorem j_turnstonelaw30_ScriptBack_R6 {C : Cfg} {Q : V → Hp → Prop} {x2 : V} {h : Hp} (H : B_turnstonelaw30_ScriptBack_R6 C Q x2 h) : J_turnstonelaw30_ScriptBack_R6 C Q x2 h := by
  intro ρ e2
  subst e2
  unfold B_turnstonelaw30_ScriptBack_R6 at H
  exact Wp.of (e_turnstonelaw30_ScriptBack_R6 _ _ _ _) (oSm (dcM H fun v48 h1 H => oSm (oM H fun v49 _ H => oM H fun v50 _ H => alM H fun v13 h2 H => valM H fun vu h3 H => oSm (Wp.of (e_turnstonelaw30_ScriptBack_R8 _ _ _ _) (dcM H fun v51 h4 H => oM H fun v52 _ H => oSm (thn (or_open H) fun H => sG1 H fun b3 Gv54 v54 Ev54 H => oM H fun b4 Gv55 H => oM H fun v55 Ev55 H => oM H fun v56 Ev56 H => Wp.of (e_turnstonelaw30_ScriptBack_R10 _ _ _ _) (oSm (bM H (fun H => dcM H fun v57 h5 H => oSm (oM H fun b2 _ H => oM H fun v59 _ H => oM H fun b3_1 _ H => oM H fun v60 _ H => oM H fun b4_1 _ H => oM H fun y4 _ H => cgM H fun v61 h6 H => oM H fun v62 _ H => oSm (Wp.of (e_turnstonelaw30_ScriptBack_R13 _ _ _ _) (H)))) (fun H => Wp.of (e_turnstonelaw30_ScriptBack_R11 _ _ _ _) (oM H fun v64 _ H => dcM H fun v65 h7 H => oSm (oM H fun v66 _ H => oM H fun v67 _ H => oSm (oSm (Wp.of (e_turnstonelaw30_ScriptBack_R14 _ _ _ _) (oSm (oM H fun v69 _ H => oSm (thn (and_open H) fun H => sG1 H fun b3_2 Gv71 v71 Ev71 H => sG1 H fun b4_2 Gv72 v72 Ev72 H => oM H fun b5 Gv73 H => oM H fun v73 Ev73 H => oM H fun v74 Ev74 H => oSm (Wp.of (e_turnstonelaw30_ScriptBack_R15 _ _ _ _) (H))))))))))))))))))
def B_turnstonelaw30_ScriptBack (C : Cfg) (Q : V → Hp → Prop) (a0 a1 a2 a3 : V) (h : Hp) : Prop :=
  alP (hbox 26 a0) h fun v4 h1 =>
  alP (hbox 36 a1) h1 fun v5 h2 =>
  oP (pFA 0 v4) fun v17 =>
  oP (pLd v17 h2) fun v18 =>
  cP C n_turnstonehand_Pick [v18, (V.int .i64 7)] h2 fun v19 h3 =>
  oP (hbin .add 3 (V.int .i64 1) v19) fun v20 =>
  oP (pFA 0 v4) fun v21 =>
  valP (pSt 1 v21 v20 h3) fun vu h4 =>
  bP a3 (
  oP (pLdA 4 v5 h4) fun v23 =>
  cP C n_turnstonelaw30_Line_text [v23] h4 fun v24 h5 =>
  J_turnstonelaw30_ScriptBack_R3 C Q v24 v4 h5) (
  J_turnstonelaw30_ScriptBack_R3 C Q a2 v4 h4)
set_option maxRecDepth 100000 in
theorem c_turnstonelaw30_ScriptBack {C : Cfg} (hs : C.start = startF) {a0 a1 a2 a3 : V} {h : Hp} {Q : V → Hp → Prop} (hk : C.K n_turnstonelaw30_ScriptBack [a0, a1, a2, a3] h = none) (H : B_turnstonelaw30_ScriptBack C Q a0 a1 a2 a3 h) : cP C n_turnstonelaw30_ScriptBack [a0, a1, a2, a3] h Q := by
  unfold B_turnstonelaw30_ScriptBack at H
  exact f_turnstonelaw30_ScriptBack hs _ _ _ _ hk ((e_turnstonelaw30_ScriptBack _ _ _ _).mpr (alM H fun v4 h1 H => alM H fun v5 h2 H => oSm (Wp.of (e_turnstonelaw30_ScriptBack_R0 _ _ _ _) (oM H fun v17 _ H => oM H fun v18 _ H => dcM H fun v19 h3 H => oM H fun v20 _ H => oM H fun v21 _ H => valM H fun vu h4 H => Wp.of (e_turnstonelaw30_ScriptBack_R1 _ _ _ _) (oSm (Wp.of (e_turnstonelaw30_ScriptBack_R2 _ _ _ _) (oSm (bM H (fun H => oM H fun v23 _ H => dcM H fun v24 h5 H => oSm (H _ rfl rfl)) (fun H => H _ rfl rfl)))))))))
end Go.Proofs.YtdpfhajggknfaaaGreatDoor.Hx
