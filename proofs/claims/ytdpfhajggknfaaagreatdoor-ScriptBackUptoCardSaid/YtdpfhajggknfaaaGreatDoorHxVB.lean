/- What is left of the code of functions: printed by vc2.py, checked by computation. -/
import Derived.Test.YtdpfhajggknfaaaGreatDoorHxVA
namespace Go.Proofs.YtdpfhajggknfaaaGreatDoor.Hx
/-! ### turnstone/turnstoneref30.split -/
noncomputable def k_turnstoneref30_split : Code := bodyOf Tryz.f24
noncomputable def k_turnstoneref30_split_R0 : Code := k_turnstoneref30_split.r
noncomputable def k_turnstoneref30_split_R1 : Code := k_turnstoneref30_split.r.r
noncomputable def k_turnstoneref30_split_R2 : Code := k_turnstoneref30_split.r.r.r
noncomputable def k_turnstoneref30_split_R3 : Code := k_turnstoneref30_split.r.r.r.l.r
noncomputable def k_turnstoneref30_split_R4 : Code := k_turnstoneref30_split.r.r.r.r
noncomputable def q_turnstoneref30_split_0 (C : Cfg) (Q : X → Rho → Hp → Prop) : X → Rho → Hp → Prop := andThen (Wp C 32 k_turnstoneref30_split_R4 Q) Q
theorem q_turnstoneref30_split_0_normal (C : Cfg) (Q : X → Rho → Hp → Prop) (ρ : Rho) (h : Hp) : q_turnstoneref30_split_0 C Q .normal ρ h = Wp C 32 k_turnstoneref30_split_R4 Q ρ h := rfl
theorem q_turnstoneref30_split_0_ret (C : Cfg) (Q : X → Rho → Hp → Prop) (ρ : Rho) (h : Hp) : q_turnstoneref30_split_0 C Q .ret ρ h = Q .ret ρ h := rfl
noncomputable def k_turnstoneref30_split_L0 : Code := k_turnstoneref30_split.r.r.r.l.r.l.l
noncomputable def q_turnstoneref30_split_1 (C : Cfg) (Q : X → Rho → Hp → Prop) : X → Rho → Hp → Prop := blockQ 0 Q
theorem q_turnstoneref30_split_1_normal (C : Cfg) (Q : X → Rho → Hp → Prop) (ρ : Rho) (h : Hp) : q_turnstoneref30_split_1 C Q .normal ρ h = Q .normal ρ h := rfl
theorem q_turnstoneref30_split_1_ret (C : Cfg) (Q : X → Rho → Hp → Prop) (ρ : Rho) (h : Hp) : q_turnstoneref30_split_1 C Q .ret ρ h = Q .ret ρ h := rfl
theorem q_turnstoneref30_split_1_exit0 (C : Cfg) (Q : X → Rho → Hp → Prop) (ρ : Rho) (h : Hp) : q_turnstoneref30_split_1 C Q (.exit 0) ρ h = Q .normal ρ h := rfl
noncomputable def k_turnstoneref30_split_R5 : Code := k_turnstoneref30_split.r.r.r.r.r
noncomputable def k_turnstoneref30_split_R6 : Code := k_turnstoneref30_split.r.r.r.l.r.l.l.l.r
noncomputable def k_turnstoneref30_split_R7 : Code := k_turnstoneref30_split.r.r.r.l.r.l.l.r
noncomputable def q_turnstoneref30_split_2 (C : Cfg) (Q : X → Rho → Hp → Prop) : X → Rho → Hp → Prop := andThen (Wp C 32 k_turnstoneref30_split_R7 Q) Q
theorem q_turnstoneref30_split_2_normal (C : Cfg) (Q : X → Rho → Hp → Prop) (ρ : Rho) (h : Hp) : q_turnstoneref30_split_2 C Q .normal ρ h = Wp C 32 k_turnstoneref30_split_R7 Q ρ h := rfl
theorem q_turnstoneref30_split_2_ret (C : Cfg) (Q : X → Rho → Hp → Prop) (ρ : Rho) (h : Hp) : q_turnstoneref30_split_2 C Q .ret ρ h = Q .ret ρ h := rfl
noncomputable def k_turnstoneref30_split_R8 : Code := k_turnstoneref30_split.r.r.r.l.r.l.l.r.l.l.r
noncomputable def k_turnstoneref30_split_R9 : Code := k_turnstoneref30_split.r.r.r.l.r.l.l.r.r
noncomputable def q_turnstoneref30_split_4 (C : Cfg) (Q : X → Rho → Hp → Prop) : X → Rho → Hp → Prop := andThen (Wp C 32 k_turnstoneref30_split_R9 Q) Q
theorem q_turnstoneref30_split_4_normal (C : Cfg) (Q : X → Rho → Hp → Prop) (ρ : Rho) (h : Hp) : q_turnstoneref30_split_4 C Q .normal ρ h = Wp C 32 k_turnstoneref30_split_R9 Q ρ h := rfl
theorem q_turnstoneref30_split_4_ret (C : Cfg) (Q : X → Rho → Hp → Prop) (ρ : Rho) (h : Hp) : q_turnstoneref30_split_4 C Q .ret ρ h = Q .ret ρ h := rfl
noncomputable def q_turnstoneref30_split_3 (C : Cfg) (Q : X → Rho → Hp → Prop) : X → Rho → Hp → Prop := blockQ 1 (q_turnstoneref30_split_4 C Q)
theorem q_turnstoneref30_split_3_normal (C : Cfg) (Q : X → Rho → Hp → Prop) (ρ : Rho) (h : Hp) : q_turnstoneref30_split_3 C Q .normal ρ h = Wp C 32 k_turnstoneref30_split_R9 Q ρ h := rfl
theorem q_turnstoneref30_split_3_ret (C : Cfg) (Q : X → Rho → Hp → Prop) (ρ : Rho) (h : Hp) : q_turnstoneref30_split_3 C Q .ret ρ h = Q .ret ρ h := rfl
theorem q_turnstoneref30_split_3_exit1 (C : Cfg) (Q : X → Rho → Hp → Prop) (ρ : Rho) (h : Hp) : q_turnstoneref30_split_3 C Q (.exit 1) ρ h = Wp C 32 k_turnstoneref30_split_R9 Q ρ h := rfl
noncomputable def k_turnstoneref30_split_R10 : Code := k_turnstoneref30_split.r.r.r.l.r.l.l.r.l.l.r.l.r
noncomputable def q_turnstoneref30_split_5 (C : Cfg) (Q : X → Rho → Hp → Prop) : X → Rho → Hp → Prop := blockQ 0 (q_turnstoneref30_split_0 C Q)
theorem q_turnstoneref30_split_5_normal (C : Cfg) (Q : X → Rho → Hp → Prop) (ρ : Rho) (h : Hp) : q_turnstoneref30_split_5 C Q .normal ρ h = Wp C 32 k_turnstoneref30_split_R4 Q ρ h := rfl
theorem q_turnstoneref30_split_5_ret (C : Cfg) (Q : X → Rho → Hp → Prop) (ρ : Rho) (h : Hp) : q_turnstoneref30_split_5 C Q .ret ρ h = Q .ret ρ h := rfl
theorem q_turnstoneref30_split_5_exit0 (C : Cfg) (Q : X → Rho → Hp → Prop) (ρ : Rho) (h : Hp) : q_turnstoneref30_split_5 C Q (.exit 0) ρ h = Wp C 32 k_turnstoneref30_split_R4 Q ρ h := rfl
set_option maxRecDepth 100000 in
theorem e_turnstoneref30_split (C : Cfg) (Q : X → Rho → Hp → Prop) (ρ : Rho) (h : Hp) : codeR C 32 k_turnstoneref30_split Q ρ h = (
  oP (some V.nilSlice) fun v2 =>
  Wp C 32 k_turnstoneref30_split_R0 Q (rset ρ 2 v2) h) := by kernel_rfl
set_option maxRecDepth 100000 in
theorem e_turnstoneref30_split_R0 (C : Cfg) (Q : X → Rho → Hp → Prop) (ρ : Rho) (h : Hp) : codeR C 32 k_turnstoneref30_split_R0 Q ρ h = (
  oP (some V.nilSlice) fun v3 =>
  Wp C 32 k_turnstoneref30_split_R1 Q (rset ρ 3 v3) h) := by kernel_rfl
set_option maxRecDepth 100000 in
theorem e_turnstoneref30_split_R1 (C : Cfg) (Q : X → Rho → Hp → Prop) (ρ : Rho) (h : Hp) : codeR C 32 k_turnstoneref30_split_R1 Q ρ h = (
  oP (some (V.int .i64 0)) fun v4 =>
  Wp C 32 k_turnstoneref30_split_R2 Q (rset ρ 4 v4) h) := by kernel_rfl
set_option maxRecDepth 100000 in
theorem e_turnstoneref30_split_R2 (C : Cfg) (Q : X → Rho → Hp → Prop) (ρ : Rho) (h : Hp) : codeR C 32 k_turnstoneref30_split_R2 Q ρ h = (
  oP (some (V.int .i64 0)) fun v5 =>
  Wp C 32 k_turnstoneref30_split_R3 (q_turnstoneref30_split_0 C Q) (rset ρ 5 v5) h) := by kernel_rfl
set_option maxRecDepth 100000 in
theorem e_turnstoneref30_split_R4 (C : Cfg) (Q : X → Rho → Hp → Prop) (ρ : Rho) (h : Hp) : codeR C 32 k_turnstoneref30_split_R4 Q ρ h = (
  oP (some (ρ 3)) fun v31 =>
  oP (some v31) fun v2 =>
  Wp C 32 k_turnstoneref30_split_R5 Q (rset (rset ρ 31 v31) 2 v2) h) := by kernel_rfl
set_option maxRecDepth 100000 in
theorem e_turnstoneref30_split_R3 (C : Cfg) (Q : X → Rho → Hp → Prop) (ρ : Rho) (h : Hp) : codeR C 32 k_turnstoneref30_split_R3 Q ρ h = (
  Wp C 32 (.loop k_turnstoneref30_split_L0) (q_turnstoneref30_split_1 C Q) ρ h) := by kernel_rfl
set_option maxRecDepth 100000 in
theorem e_turnstoneref30_split_R5 (C : Cfg) (Q : X → Rho → Hp → Prop) (ρ : Rho) (h : Hp) : codeR C 32 k_turnstoneref30_split_R5 Q ρ h = (
  Q .ret ρ h) := by kernel_rfl
set_option maxRecDepth 100000 in
theorem e_turnstoneref30_split_L0 (C : Cfg) (Q : X → Rho → Hp → Prop) (ρ : Rho) (h : Hp) : codeR C 32 k_turnstoneref30_split_L0 Q ρ h = (
  oP (some (ρ 5)) fun v6 =>
  oP (some (ρ 0)) fun v7 =>
  oP (pLenS v7) fun v8 =>
  oP (hbin .leq 3 v6 v8) fun v9 =>
  Wp C 32 k_turnstoneref30_split_R6 (q_turnstoneref30_split_2 C Q) (rset (rset (rset (rset ρ 6 v6) 7 v7) 8 v8) 9 v9) h) := by kernel_rfl
set_option maxRecDepth 100000 in
theorem e_turnstoneref30_split_R7 (C : Cfg) (Q : X → Rho → Hp → Prop) (ρ : Rho) (h : Hp) : codeR C 32 k_turnstoneref30_split_R7 Q ρ h = (
  oP (some (ρ 5)) fun v12 =>
  oP (some (ρ 0)) fun v13 =>
  oP (pLenS v13) fun v14 =>
  oP (hbin .eql 3 v12 v14) fun v15 =>
  oP (some v15) fun v16 =>
  oP (pGd false v16) fun b5 =>
  oP (gV b5 (some (ρ 0))) fun v17 =>
  oP (pGd false v16) fun b6 =>
  oP (gV b6 (some (ρ 5))) fun v18 =>
  oP (pGd false v16) fun b7 =>
  oP (gV b7 (pIdxS v17 v18)) fun v19 =>
  oP (pGd false v16) fun b8 =>
  oP (gV b8 (hbin .eql 5 v19 (V.int .u8 32))) fun v20 =>
  oP (pPick v16 (V.bool true) v20) fun v21 =>
  Wp C 32 k_turnstoneref30_split_R8 (q_turnstoneref30_split_3 C Q) (rset (rset (rset (rset (rset (rset (rset (rset (rset (rset ρ 12 v12) 13 v13) 14 v14) 15 v15) 16 v16) 17 v17) 18 v18) 19 v19) 20 v20) 21 v21) h) := by kernel_rfl
set_option maxRecDepth 100000 in
theorem e_turnstoneref30_split_R6 (C : Cfg) (Q : X → Rho → Hp → Prop) (ρ : Rho) (h : Hp) : codeR C 32 k_turnstoneref30_split_R6 Q ρ h = (
  oP (some (ρ 9)) fun c =>
  bP c (
    Q .normal ρ h) (
    Q (.exit 0) ρ h)) := by kernel_rfl
set_option maxRecDepth 100000 in
theorem e_turnstoneref30_split_R9 (C : Cfg) (Q : X → Rho → Hp → Prop) (ρ : Rho) (h : Hp) : codeR C 32 k_turnstoneref30_split_R9 Q ρ h = (
  oP (some (ρ 5)) fun v10 =>
  oP (hbin .add 3 v10 (V.int .i64 1)) fun v11 =>
  oP (some v11) fun v5 =>
  Q .normal (rset (rset (rset ρ 10 v10) 11 v11) 5 v5) h) := by kernel_rfl
set_option maxRecDepth 100000 in
theorem e_turnstoneref30_split_R8 (C : Cfg) (Q : X → Rho → Hp → Prop) (ρ : Rho) (h : Hp) : codeR C 32 k_turnstoneref30_split_R8 Q ρ h = (
  oP (some (ρ 21)) fun c =>
  bP c (
    oP (some (ρ 3)) fun v22 =>
    oP (some (ρ 0)) fun v23 =>
    oP (some (ρ 4)) fun v24 =>
    oP (some (ρ 5)) fun v25 =>
    oP (hsliceS v23 (some v24) (some v25)) fun v26 =>
    alP (pBS 9 1 1 (V.str []) [(0, v26)]) h fun v27 h1 =>
    valP (happend 9 1 16 v22 v27 h1) fun v28 h2 =>
    oP (some v28) fun v3 =>
    Wp C 32 k_turnstoneref30_split_R10 Q (rset (rset (rset (rset (rset (rset (rset (rset ρ 22 v22) 23 v23) 24 v24) 25 v25) 26 v26) 27 v27) 28 v28) 3 v3) h2) (
    Q .normal ρ h)) := by kernel_rfl
set_option maxRecDepth 100000 in
theorem e_turnstoneref30_split_R10 (C : Cfg) (Q : X → Rho → Hp → Prop) (ρ : Rho) (h : Hp) : codeR C 32 k_turnstoneref30_split_R10 Q ρ h = (
  oP (some (ρ 5)) fun v29 =>
  oP (hbin .add 3 v29 (V.int .i64 1)) fun v30 =>
  oP (some v30) fun v4 =>
  Q .normal (rset (rset (rset ρ 29 v29) 30 v30) 4 v4) h) := by kernel_rfl
theorem f_turnstoneref30_split {C : Cfg} (hs : C.start = startF) (a0 : V) {h : Hp} {Q : V → Hp → Prop} (hk : C.K n_turnstoneref30_split [a0] h = none) (H : codeR C 32 k_turnstoneref30_split (bodyQ [.tmp 2] Q) (argsR [a0]) h) : cP C n_turnstoneref30_split [a0] h Q :=
  cP.funcN hs (show P0.funcs[24]? = some Tryz.f24 by unfold P0; exact Tryz.func24) (by kernel_rfl) (by kernel_rfl) (by kernel_rfl) hk (Nat.le_of_ble_eq_true rfl) (Wp.code _ H)
def J_turnstoneref30_split_L0 (C : Cfg) (Q : V → Hp → Prop) (x0 x3 x4 x5 : V) (h : Hp) : Prop := ∀ ρ : Rho, ρ 0 = x0 → ρ 3 = x3 → ρ 4 = x4 → ρ 5 = x5 → Wp C 32 (.loop k_turnstoneref30_split_L0) (q_turnstoneref30_split_5 C (bodyQ [.tmp 2] Q)) ρ h
def J_turnstoneref30_split_R9 (C : Cfg) (Q : V → Hp → Prop) (KL0 : V → V → V → V → Hp → Prop) (x0 x3 x4 x5 : V) (h : Hp) : Prop := ∀ ρ : Rho, ρ 0 = x0 → ρ 3 = x3 → ρ 4 = x4 → ρ 5 = x5 → Wp C 32 k_turnstoneref30_split_R9 (andThen (fun ρ h => KL0 (ρ 0) (ρ 3) (ρ 4) (ρ 5) h) (q_turnstoneref30_split_5 C (bodyQ [.tmp 2] Q))) ρ h
def B_turnstoneref30_split_L0 (C : Cfg) (Q : V → Hp → Prop) (KL0 : V → V → V → V → Hp → Prop) (x0 x3 x4 x5 : V) (h : Hp) : Prop :=
  oP (pLenS x0) fun v8 =>
  oP (hbin .leq 3 x5 v8) fun v9 =>
  bP v9 (
  oP (pLenS x0) fun v14 =>
  oP (hbin .eql 3 x5 v14) fun v15 =>
  oP (pOr v15 (oB (some x0) fun v17 => oB (some x5) fun v18 => oB (pIdxS v17 v18) fun v19 => hbin .eql 5 v19 (V.int .u8 32))) fun v21 =>
  bP v21 (
  oP (hsliceS x0 (some x4) (some x5)) fun v26 =>
  alP (pBS 9 1 1 (V.str []) [(0, v26)]) h fun v27 h1 =>
  valP (happend 9 1 16 x3 v27 h1) fun v28 h2 =>
  oP (hbin .add 3 x5 (V.int .i64 1)) fun v30 =>
  J_turnstoneref30_split_R9 C Q KL0 x0 v28 v30 x5 h2) (
  J_turnstoneref30_split_R9 C Q KL0 x0 x3 x4 x5 h)) (
  Q x3 h)
set_option maxRecDepth 100000 in
theorem l_turnstoneref30_split_L0 {C : Cfg} {Q : V → Hp → Prop} (I : Nat → V → V → V → V → Hp → Prop) (step : ∀ (k : Nat) (x0 x3 x4 x5 : V) (h : Hp), I k x0 x3 x4 x5 h → B_turnstoneref30_split_L0 C Q (fun x0 x3 x4 x5 h => ∃ k', k' < k ∧ I k' x0 x3 x4 x5 h) x0 x3 x4 x5 h) {k : Nat} {x0 x3 x4 x5 : V} {h : Hp} (h0 : I k x0 x3 x4 x5 h) : J_turnstoneref30_split_L0 C Q x0 x3 x4 x5 h := by
  intro ρ e0 e3 e4 e5
  subst e0
  subst e3
  subst e4
  subst e5
  refine Wp.loopI (fun k ρ h => I k (ρ 0) (ρ 3) (ρ 4) (ρ 5) h) (fun k ρ h hi => ?_) h0
  have H := step k (ρ 0) (ρ 3) (ρ 4) (ρ 5) h hi
  unfold B_turnstoneref30_split_L0 at H
  exact Wp.of (e_turnstoneref30_split_L0 _ _ _ _) (oSm (oSm (oM H fun v8 _ H => oM H fun v9 _ H => Wp.of (e_turnstoneref30_split_R6 _ _ _ _) (oSm (bM H (fun H => Wp.of (e_turnstoneref30_split_R7 _ _ _ _) (oSm (oSm (oM H fun v14 _ H => oM H fun v15 _ H => oSm (thn (or_open H) fun H => sG1 H fun b5 Gv17 v17 Ev17 H => sG1 H fun b6 Gv18 v18 Ev18 H => sG1 H fun b7 Gv19 v19 Ev19 H => oM H fun b8 Gv20 H => oM H fun v20 Ev20 H => oM H fun v21 Ev21 H => Wp.of (e_turnstoneref30_split_R8 _ _ _ _) (oSm (bM H (fun H => oSm (oSm (oSm (oSm (oM H fun v26 _ H => alM H fun v27 h1 H => valM H fun v28 h2 H => oSm (Wp.of (e_turnstoneref30_split_R10 _ _ _ _) (oSm (oM H fun v30 _ H => oSm (H _ rfl rfl rfl rfl))))))))) (fun H => H _ rfl rfl rfl rfl)))))))) (fun H => Wp.of (e_turnstoneref30_split_R4 _ _ _ _) (oSm (oSm (Wp.of (e_turnstoneref30_split_R5 _ _ _ _) (H))))))))))
def B_turnstoneref30_split_R9 (C : Cfg) (Q : V → Hp → Prop) (KL0 : V → V → V → V → Hp → Prop) (x0 x3 x4 x5 : V) (h : Hp) : Prop :=
  oP (hbin .add 3 x5 (V.int .i64 1)) fun v11 =>
  KL0 x0 x3 x4 v11 h
set_option maxRecDepth 100000 in
theorem j_turnstoneref30_split_R9 {C : Cfg} {Q : V → Hp → Prop} {KL0 : V → V → V → V → Hp → Prop} {x0 x3 x4 x5 : V} {h : Hp} (H : B_turnstoneref30_split_R9 C Q KL0 x0 x3 x4 x5 h) : J_turnstoneref30_split_R9 C Q KL0 x0 x3 x4 x5 h := by
  intro ρ e0 e3 e4 e5
  subst e0
  subst e3
  subst e4
  subst e5
  unfold B_turnstoneref30_split_R9 at H
  exact Wp.of (e_turnstoneref30_split_R9 _ _ _ _) (oSm (oM H fun v11 _ H => oSm (H)))
def B_turnstoneref30_split (C : Cfg) (Q : V → Hp → Prop) (a0 : V) (h : Hp) : Prop :=
  J_turnstoneref30_split_L0 C Q a0 V.nilSlice (V.int .i64 0) (V.int .i64 0) h
set_option maxRecDepth 100000 in
theorem c_turnstoneref30_split {C : Cfg} (hs : C.start = startF) {a0 : V} {h : Hp} {Q : V → Hp → Prop} (hk : C.K n_turnstoneref30_split [a0] h = none) (H : B_turnstoneref30_split C Q a0 h) : cP C n_turnstoneref30_split [a0] h Q := by
  unfold B_turnstoneref30_split at H
  exact f_turnstoneref30_split hs _ hk ((e_turnstoneref30_split _ _ _ _).mpr (oSm (Wp.of (e_turnstoneref30_split_R0 _ _ _ _) (oSm (Wp.of (e_turnstoneref30_split_R1 _ _ _ _) (oSm (Wp.of (e_turnstoneref30_split_R2 _ _ _ _) (oSm (Wp.of (e_turnstoneref30_split_R3 _ _ _ _) (H _ rfl rfl rfl rfl))))))))))
/-! ### turnstone/turnstoneref30.number -/
noncomputable def k_turnstoneref30_number : Code := bodyOf Tryz.f26
noncomputable def k_turnstoneref30_number_R0 : Code := k_turnstoneref30_number.r
noncomputable def k_turnstoneref30_number_R1 : Code := k_turnstoneref30_number.r.r
noncomputable def k_turnstoneref30_number_R2 : Code := k_turnstoneref30_number.r.r.l.r
noncomputable def k_turnstoneref30_number_R3 : Code := k_turnstoneref30_number.r.r.r
noncomputable def q_turnstoneref30_number_0 (C : Cfg) (Q : X → Rho → Hp → Prop) : X → Rho → Hp → Prop := andThen (Wp C 69 k_turnstoneref30_number_R3 Q) Q
theorem q_turnstoneref30_number_0_normal (C : Cfg) (Q : X → Rho → Hp → Prop) (ρ : Rho) (h : Hp) : q_turnstoneref30_number_0 C Q .normal ρ h = Wp C 69 k_turnstoneref30_number_R3 Q ρ h := rfl
theorem q_turnstoneref30_number_0_ret (C : Cfg) (Q : X → Rho → Hp → Prop) (ρ : Rho) (h : Hp) : q_turnstoneref30_number_0 C Q .ret ρ h = Q .ret ρ h := rfl
noncomputable def k_turnstoneref30_number_R4 : Code := k_turnstoneref30_number.r.r.l.r.l.r
noncomputable def k_turnstoneref30_number_R5 : Code := k_turnstoneref30_number.r.r.r.l.r
noncomputable def k_turnstoneref30_number_R6 : Code := k_turnstoneref30_number.r.r.r.r
noncomputable def q_turnstoneref30_number_1 (C : Cfg) (Q : X → Rho → Hp → Prop) : X → Rho → Hp → Prop := andThen (Wp C 69 k_turnstoneref30_number_R6 Q) Q
theorem q_turnstoneref30_number_1_normal (C : Cfg) (Q : X → Rho → Hp → Prop) (ρ : Rho) (h : Hp) : q_turnstoneref30_number_1 C Q .normal ρ h = Wp C 69 k_turnstoneref30_number_R6 Q ρ h := rfl
theorem q_turnstoneref30_number_1_ret (C : Cfg) (Q : X → Rho → Hp → Prop) (ρ : Rho) (h : Hp) : q_turnstoneref30_number_1 C Q .ret ρ h = Q .ret ρ h := rfl
noncomputable def k_turnstoneref30_number_R7 : Code := k_turnstoneref30_number.r.r.l.r.l.r.r
noncomputable def k_turnstoneref30_number_R8 : Code := k_turnstoneref30_number.r.r.r.l.r.l.r
noncomputable def k_turnstoneref30_number_R9 : Code := k_turnstoneref30_number.r.r.r.r.r
noncomputable def k_turnstoneref30_number_R10 : Code := k_turnstoneref30_number.r.r.l.r.l.r.r.r
noncomputable def k_turnstoneref30_number_R11 : Code := k_turnstoneref30_number.r.r.r.r.r.l.r
noncomputable def k_turnstoneref30_number_R12 : Code := k_turnstoneref30_number.r.r.r.r.r.r
noncomputable def q_turnstoneref30_number_2 (C : Cfg) (Q : X → Rho → Hp → Prop) : X → Rho → Hp → Prop := andThen (Wp C 69 k_turnstoneref30_number_R12 Q) Q
theorem q_turnstoneref30_number_2_normal (C : Cfg) (Q : X → Rho → Hp → Prop) (ρ : Rho) (h : Hp) : q_turnstoneref30_number_2 C Q .normal ρ h = Wp C 69 k_turnstoneref30_number_R12 Q ρ h := rfl
theorem q_turnstoneref30_number_2_ret (C : Cfg) (Q : X → Rho → Hp → Prop) (ρ : Rho) (h : Hp) : q_turnstoneref30_number_2 C Q .ret ρ h = Q .ret ρ h := rfl
noncomputable def k_turnstoneref30_number_R13 : Code := k_turnstoneref30_number.r.r.l.r.l.r.r.r.l.r
noncomputable def k_turnstoneref30_number_L0 : Code := k_turnstoneref30_number.r.r.r.r.r.l.r.l.l
noncomputable def q_turnstoneref30_number_3 (C : Cfg) (Q : X → Rho → Hp → Prop) : X → Rho → Hp → Prop := blockQ 0 Q
theorem q_turnstoneref30_number_3_normal (C : Cfg) (Q : X → Rho → Hp → Prop) (ρ : Rho) (h : Hp) : q_turnstoneref30_number_3 C Q .normal ρ h = Q .normal ρ h := rfl
theorem q_turnstoneref30_number_3_ret (C : Cfg) (Q : X → Rho → Hp → Prop) (ρ : Rho) (h : Hp) : q_turnstoneref30_number_3 C Q .ret ρ h = Q .ret ρ h := rfl
theorem q_turnstoneref30_number_3_exit0 (C : Cfg) (Q : X → Rho → Hp → Prop) (ρ : Rho) (h : Hp) : q_turnstoneref30_number_3 C Q (.exit 0) ρ h = Q .normal ρ h := rfl
noncomputable def k_turnstoneref30_number_R14 : Code := k_turnstoneref30_number.r.r.r.r.r.r.l.r
noncomputable def k_turnstoneref30_number_R15 : Code := k_turnstoneref30_number.r.r.r.r.r.r.r
noncomputable def q_turnstoneref30_number_4 (C : Cfg) (Q : X → Rho → Hp → Prop) : X → Rho → Hp → Prop := andThen (Wp C 69 k_turnstoneref30_number_R15 Q) Q
theorem q_turnstoneref30_number_4_normal (C : Cfg) (Q : X → Rho → Hp → Prop) (ρ : Rho) (h : Hp) : q_turnstoneref30_number_4 C Q .normal ρ h = Wp C 69 k_turnstoneref30_number_R15 Q ρ h := rfl
theorem q_turnstoneref30_number_4_ret (C : Cfg) (Q : X → Rho → Hp → Prop) (ρ : Rho) (h : Hp) : q_turnstoneref30_number_4 C Q .ret ρ h = Q .ret ρ h := rfl
noncomputable def k_turnstoneref30_number_R16 : Code := k_turnstoneref30_number.r.r.r.r.r.l.r.l.l.l.r
noncomputable def k_turnstoneref30_number_R17 : Code := k_turnstoneref30_number.r.r.r.r.r.l.r.l.l.r
noncomputable def q_turnstoneref30_number_5 (C : Cfg) (Q : X → Rho → Hp → Prop) : X → Rho → Hp → Prop := andThen (Wp C 69 k_turnstoneref30_number_R17 Q) Q
theorem q_turnstoneref30_number_5_normal (C : Cfg) (Q : X → Rho → Hp → Prop) (ρ : Rho) (h : Hp) : q_turnstoneref30_number_5 C Q .normal ρ h = Wp C 69 k_turnstoneref30_number_R17 Q ρ h := rfl
theorem q_turnstoneref30_number_5_ret (C : Cfg) (Q : X → Rho → Hp → Prop) (ρ : Rho) (h : Hp) : q_turnstoneref30_number_5 C Q .ret ρ h = Q .ret ρ h := rfl
noncomputable def k_turnstoneref30_number_R18 : Code := k_turnstoneref30_number.r.r.r.r.r.r.l.r.l.r
noncomputable def k_turnstoneref30_number_R19 : Code := k_turnstoneref30_number.r.r.r.r.r.r.r.l.r
noncomputable def k_turnstoneref30_number_R20 : Code := k_turnstoneref30_number.r.r.r.r.r.r.r.r
noncomputable def q_turnstoneref30_number_6 (C : Cfg) (Q : X → Rho → Hp → Prop) : X → Rho → Hp → Prop := andThen (Wp C 69 k_turnstoneref30_number_R20 Q) Q
theorem q_turnstoneref30_number_6_normal (C : Cfg) (Q : X → Rho → Hp → Prop) (ρ : Rho) (h : Hp) : q_turnstoneref30_number_6 C Q .normal ρ h = Wp C 69 k_turnstoneref30_number_R20 Q ρ h := rfl
theorem q_turnstoneref30_number_6_ret (C : Cfg) (Q : X → Rho → Hp → Prop) (ρ : Rho) (h : Hp) : q_turnstoneref30_number_6 C Q .ret ρ h = Q .ret ρ h := rfl
noncomputable def k_turnstoneref30_number_R21 : Code := k_turnstoneref30_number.r.r.r.r.r.l.r.l.l.r.l.l.l.r
noncomputable def k_turnstoneref30_number_R22 : Code := k_turnstoneref30_number.r.r.r.r.r.l.r.l.l.r.r
noncomputable def q_turnstoneref30_number_9 (C : Cfg) (Q : X → Rho → Hp → Prop) : X → Rho → Hp → Prop := andThen (Wp C 69 k_turnstoneref30_number_R22 Q) Q
theorem q_turnstoneref30_number_9_normal (C : Cfg) (Q : X → Rho → Hp → Prop) (ρ : Rho) (h : Hp) : q_turnstoneref30_number_9 C Q .normal ρ h = Wp C 69 k_turnstoneref30_number_R22 Q ρ h := rfl
theorem q_turnstoneref30_number_9_ret (C : Cfg) (Q : X → Rho → Hp → Prop) (ρ : Rho) (h : Hp) : q_turnstoneref30_number_9 C Q .ret ρ h = Q .ret ρ h := rfl
noncomputable def q_turnstoneref30_number_8 (C : Cfg) (Q : X → Rho → Hp → Prop) : X → Rho → Hp → Prop := blockQ 1 (q_turnstoneref30_number_9 C Q)
theorem q_turnstoneref30_number_8_normal (C : Cfg) (Q : X → Rho → Hp → Prop) (ρ : Rho) (h : Hp) : q_turnstoneref30_number_8 C Q .normal ρ h = Wp C 69 k_turnstoneref30_number_R22 Q ρ h := rfl
theorem q_turnstoneref30_number_8_ret (C : Cfg) (Q : X → Rho → Hp → Prop) (ρ : Rho) (h : Hp) : q_turnstoneref30_number_8 C Q .ret ρ h = Q .ret ρ h := rfl
theorem q_turnstoneref30_number_8_exit1 (C : Cfg) (Q : X → Rho → Hp → Prop) (ρ : Rho) (h : Hp) : q_turnstoneref30_number_8 C Q (.exit 1) ρ h = Wp C 69 k_turnstoneref30_number_R22 Q ρ h := rfl
noncomputable def k_turnstoneref30_number_R23 : Code := k_turnstoneref30_number.r.r.r.r.r.l.r.l.l.r.l.l.r
noncomputable def q_turnstoneref30_number_7 (C : Cfg) (Q : X → Rho → Hp → Prop) : X → Rho → Hp → Prop := andThen (Wp C 69 k_turnstoneref30_number_R23 (q_turnstoneref30_number_8 C Q)) (q_turnstoneref30_number_8 C Q)
theorem q_turnstoneref30_number_7_normal (C : Cfg) (Q : X → Rho → Hp → Prop) (ρ : Rho) (h : Hp) : q_turnstoneref30_number_7 C Q .normal ρ h = Wp C 69 k_turnstoneref30_number_R23 (q_turnstoneref30_number_8 C Q) ρ h := rfl
theorem q_turnstoneref30_number_7_ret (C : Cfg) (Q : X → Rho → Hp → Prop) (ρ : Rho) (h : Hp) : q_turnstoneref30_number_7 C Q .ret ρ h = Q .ret ρ h := rfl
theorem q_turnstoneref30_number_7_exit1 (C : Cfg) (Q : X → Rho → Hp → Prop) (ρ : Rho) (h : Hp) : q_turnstoneref30_number_7 C Q (.exit 1) ρ h = Wp C 69 k_turnstoneref30_number_R22 Q ρ h := rfl
noncomputable def k_turnstoneref30_number_R24 : Code := k_turnstoneref30_number.r.r.r.r.r.r.r.l.r.l.r
noncomputable def k_turnstoneref30_number_R25 : Code := k_turnstoneref30_number.r.r.r.r.r.r.r.r.r
noncomputable def k_turnstoneref30_number_R26 : Code := k_turnstoneref30_number.r.r.r.r.r.l.r.l.l.r.l.l.l.r.l.r
noncomputable def q_turnstoneref30_number_10 (C : Cfg) (Q : X → Rho → Hp → Prop) : X → Rho → Hp → Prop := blockQ 0 (q_turnstoneref30_number_2 C Q)
theorem q_turnstoneref30_number_10_normal (C : Cfg) (Q : X → Rho → Hp → Prop) (ρ : Rho) (h : Hp) : q_turnstoneref30_number_10 C Q .normal ρ h = Wp C 69 k_turnstoneref30_number_R12 Q ρ h := rfl
theorem q_turnstoneref30_number_10_ret (C : Cfg) (Q : X → Rho → Hp → Prop) (ρ : Rho) (h : Hp) : q_turnstoneref30_number_10 C Q .ret ρ h = Q .ret ρ h := rfl
theorem q_turnstoneref30_number_10_exit0 (C : Cfg) (Q : X → Rho → Hp → Prop) (ρ : Rho) (h : Hp) : q_turnstoneref30_number_10 C Q (.exit 0) ρ h = Wp C 69 k_turnstoneref30_number_R12 Q ρ h := rfl
set_option maxRecDepth 100000 in
theorem e_turnstoneref30_number (C : Cfg) (Q : X → Rho → Hp → Prop) (ρ : Rho) (h : Hp) : codeR C 69 k_turnstoneref30_number Q ρ h = (
  oP (some (V.int .i64 0)) fun v2 =>
  oP (some (V.bool false)) fun v3 =>
  Wp C 69 k_turnstoneref30_number_R0 Q (rset (rset ρ 2 v2) 3 v3) h) := by kernel_rfl
set_option maxRecDepth 100000 in
theorem e_turnstoneref30_number_R0 (C : Cfg) (Q : X → Rho → Hp → Prop) (ρ : Rho) (h : Hp) : codeR C 69 k_turnstoneref30_number_R0 Q ρ h = (
  oP (some (V.bool false)) fun v4 =>
  Wp C 69 k_turnstoneref30_number_R1 Q (rset ρ 4 v4) h) := by kernel_rfl
set_option maxRecDepth 100000 in
theorem e_turnstoneref30_number_R1 (C : Cfg) (Q : X → Rho → Hp → Prop) (ρ : Rho) (h : Hp) : codeR C 69 k_turnstoneref30_number_R1 Q ρ h = (
  oP (some (ρ 0)) fun v7 =>
  oP (pLenS v7) fun v8 =>
  oP (hbin .gtr 3 v8 (V.int .i64 1)) fun v9 =>
  oP (some v9) fun v10 =>
  oP (pGd true v10) fun b4 =>
  oP (gV b4 (some (ρ 0))) fun v11 =>
  oP (pGd true v10) fun b5 =>
  oP (gV b5 (pIdxS v11 (V.int .i64 0))) fun v12 =>
  oP (pGd true v10) fun b6 =>
  oP (gV b6 (hbin .eql 5 v12 (V.int .u8 45))) fun v13 =>
  oP (pPick v10 v13 (V.bool false)) fun v14 =>
  Wp C 69 k_turnstoneref30_number_R2 (q_turnstoneref30_number_0 C Q) (rset (rset (rset (rset (rset (rset (rset (rset ρ 7 v7) 8 v8) 9 v9) 10 v10) 11 v11) 12 v12) 13 v13) 14 v14) h) := by kernel_rfl
set_option maxRecDepth 100000 in
theorem e_turnstoneref30_number_R3 (C : Cfg) (Q : X → Rho → Hp → Prop) (ρ : Rho) (h : Hp) : codeR C 69 k_turnstoneref30_number_R3 Q ρ h = (
  oP (some (ρ 0)) fun v20 =>
  oP (hbin .eql 9 v20 (V.str [])) fun v21 =>
  oP (some v21) fun v22 =>
  oP (pGd false v22) fun b3 =>
  oP (gV b3 (some (ρ 0))) fun v23 =>
  oP (pGd false v22) fun b4 =>
  oP (gV b4 (pLenS v23)) fun v24 =>
  oP (pGd false v22) fun b5 =>
  oP (gV b5 (hbin .gtr 3 v24 (V.int .i64 1))) fun v25 =>
  oP (pGd false v22) fun b6 =>
  oP (gV b6 (some v25)) fun v26 =>
  oP (pGd true v26) fun b7 =>
  oP (gV b7 (some (ρ 0))) fun v27 =>
  oP (pGd true v26) fun b8 =>
  oP (gV b8 (pIdxS v27 (V.int .i64 0))) fun v28 =>
  oP (pGd true v26) fun b9 =>
  oP (gV b9 (hbin .eql 5 v28 (V.int .u8 48))) fun v29 =>
  oP (pGd false v22) fun b10 =>
  oP (gV b10 (pPick v26 v29 (V.bool false))) fun v30 =>
  oP (pPick v22 (V.bool true) v30) fun v31 =>
  oP (some v31) fun v32 =>
  oP (pGd false v32) fun b13 =>
  oP (gV b13 (some (ρ 0))) fun v33 =>
  oP (pGd false v32) fun b14 =>
  oP (gV b14 (pLenS v33)) fun v34 =>
  oP (pGd false v32) fun b15 =>
  oP (gV b15 (hbin .gtr 3 v34 (V.int .i64 19))) fun v35 =>
  oP (pPick v32 (V.bool true) v35) fun v36 =>
  Wp C 69 k_turnstoneref30_number_R5 (q_turnstoneref30_number_1 C Q) (rset (rset (rset (rset (rset (rset (rset (rset (rset (rset (rset (rset (rset (rset (rset (rset (rset ρ 20 v20) 21 v21) 22 v22) 23 v23) 24 v24) 25 v25) 26 v26) 27 v27) 28 v28) 29 v29) 30 v30) 31 v31) 32 v32) 33 v33) 34 v34) 35 v35) 36 v36) h) := by kernel_rfl
set_option maxRecDepth 100000 in
theorem e_turnstoneref30_number_R2 (C : Cfg) (Q : X → Rho → Hp → Prop) (ρ : Rho) (h : Hp) : codeR C 69 k_turnstoneref30_number_R2 Q ρ h = (
  oP (some (ρ 14)) fun c =>
  bP c (
    oP (some (V.bool true)) fun v4 =>
    Wp C 69 k_turnstoneref30_number_R4 Q (rset ρ 4 v4) h) (
    Q .normal ρ h)) := by kernel_rfl
set_option maxRecDepth 100000 in
theorem e_turnstoneref30_number_R6 (C : Cfg) (Q : X → Rho → Hp → Prop) (ρ : Rho) (h : Hp) : codeR C 69 k_turnstoneref30_number_R6 Q ρ h = (
  oP (some (V.int .u64 0)) fun v5 =>
  Wp C 69 k_turnstoneref30_number_R9 Q (rset ρ 5 v5) h) := by kernel_rfl
set_option maxRecDepth 100000 in
theorem e_turnstoneref30_number_R5 (C : Cfg) (Q : X → Rho → Hp → Prop) (ρ : Rho) (h : Hp) : codeR C 69 k_turnstoneref30_number_R5 Q ρ h = (
  oP (some (ρ 36)) fun c =>
  bP c (
    oP (some (V.int .i64 0)) fun v2 =>
    oP (some (V.bool false)) fun v3 =>
    Wp C 69 k_turnstoneref30_number_R8 Q (rset (rset ρ 2 v2) 3 v3) h) (
    Q .normal ρ h)) := by kernel_rfl
set_option maxRecDepth 100000 in
theorem e_turnstoneref30_number_R9 (C : Cfg) (Q : X → Rho → Hp → Prop) (ρ : Rho) (h : Hp) : codeR C 69 k_turnstoneref30_number_R9 Q ρ h = (
  oP (some (V.int .i64 0)) fun v6 =>
  Wp C 69 k_turnstoneref30_number_R11 (q_turnstoneref30_number_2 C Q) (rset ρ 6 v6) h) := by kernel_rfl
set_option maxRecDepth 100000 in
theorem e_turnstoneref30_number_R4 (C : Cfg) (Q : X → Rho → Hp → Prop) (ρ : Rho) (h : Hp) : codeR C 69 k_turnstoneref30_number_R4 Q ρ h = (
  oP (some (ρ 0)) fun v15 =>
  oP (hsliceS v15 (some (V.int .i64 1)) none) fun v16 =>
  oP (some v16) fun v0 =>
  Wp C 69 k_turnstoneref30_number_R7 Q (rset (rset (rset ρ 15 v15) 16 v16) 0 v0) h) := by kernel_rfl
set_option maxRecDepth 100000 in
theorem e_turnstoneref30_number_R12 (C : Cfg) (Q : X → Rho → Hp → Prop) (ρ : Rho) (h : Hp) : codeR C 69 k_turnstoneref30_number_R12 Q ρ h = (
  oP (some (ρ 5)) fun v61 =>
  oP (hbin .gtr 80 v61 (V.int .u64 4611686018427387904)) fun v62 =>
  Wp C 69 k_turnstoneref30_number_R14 (q_turnstoneref30_number_4 C Q) (rset (rset ρ 61 v61) 62 v62) h) := by kernel_rfl
set_option maxRecDepth 100000 in
theorem e_turnstoneref30_number_R7 (C : Cfg) (Q : X → Rho → Hp → Prop) (ρ : Rho) (h : Hp) : codeR C 69 k_turnstoneref30_number_R7 Q ρ h = (
  oP (some (ρ 0)) fun v17 =>
  oP (pIdxS v17 (V.int .i64 0)) fun v18 =>
  oP (hbin .eql 5 v18 (V.int .u8 48)) fun v19 =>
  Wp C 69 k_turnstoneref30_number_R10 Q (rset (rset (rset ρ 17 v17) 18 v18) 19 v19) h) := by kernel_rfl
set_option maxRecDepth 100000 in
theorem e_turnstoneref30_number_R8 (C : Cfg) (Q : X → Rho → Hp → Prop) (ρ : Rho) (h : Hp) : codeR C 69 k_turnstoneref30_number_R8 Q ρ h = (
  Q .ret ρ h) := by kernel_rfl
set_option maxRecDepth 100000 in
theorem e_turnstoneref30_number_R11 (C : Cfg) (Q : X → Rho → Hp → Prop) (ρ : Rho) (h : Hp) : codeR C 69 k_turnstoneref30_number_R11 Q ρ h = (
  Wp C 69 (.loop k_turnstoneref30_number_L0) (q_turnstoneref30_number_3 C Q) ρ h) := by kernel_rfl
set_option maxRecDepth 100000 in
theorem e_turnstoneref30_number_R15 (C : Cfg) (Q : X → Rho → Hp → Prop) (ρ : Rho) (h : Hp) : codeR C 69 k_turnstoneref30_number_R15 Q ρ h = (
  oP (some (ρ 4)) fun v63 =>
  Wp C 69 k_turnstoneref30_number_R19 (q_turnstoneref30_number_6 C Q) (rset ρ 63 v63) h) := by kernel_rfl
set_option maxRecDepth 100000 in
theorem e_turnstoneref30_number_R10 (C : Cfg) (Q : X → Rho → Hp → Prop) (ρ : Rho) (h : Hp) : codeR C 69 k_turnstoneref30_number_R10 Q ρ h = (
  oP (some (ρ 19)) fun c =>
  bP c (
    oP (some (V.int .i64 0)) fun v2 =>
    oP (some (V.bool false)) fun v3 =>
    Wp C 69 k_turnstoneref30_number_R13 Q (rset (rset ρ 2 v2) 3 v3) h) (
    Q .normal ρ h)) := by kernel_rfl
set_option maxRecDepth 100000 in
theorem e_turnstoneref30_number_R14 (C : Cfg) (Q : X → Rho → Hp → Prop) (ρ : Rho) (h : Hp) : codeR C 69 k_turnstoneref30_number_R14 Q ρ h = (
  oP (some (ρ 62)) fun c =>
  bP c (
    oP (some (V.int .i64 0)) fun v2 =>
    oP (some (V.bool false)) fun v3 =>
    Wp C 69 k_turnstoneref30_number_R18 Q (rset (rset ρ 2 v2) 3 v3) h) (
    Q .normal ρ h)) := by kernel_rfl
set_option maxRecDepth 100000 in
theorem e_turnstoneref30_number_R20 (C : Cfg) (Q : X → Rho → Hp → Prop) (ρ : Rho) (h : Hp) : codeR C 69 k_turnstoneref30_number_R20 Q ρ h = (
  oP (some (ρ 5)) fun v67 =>
  oP (pConv .i64 v67) fun v68 =>
  oP (some v68) fun v2 =>
  oP (some (V.bool true)) fun v3 =>
  Wp C 69 k_turnstoneref30_number_R25 Q (rset (rset (rset (rset ρ 67 v67) 68 v68) 2 v2) 3 v3) h) := by kernel_rfl
set_option maxRecDepth 100000 in
theorem e_turnstoneref30_number_L0 (C : Cfg) (Q : X → Rho → Hp → Prop) (ρ : Rho) (h : Hp) : codeR C 69 k_turnstoneref30_number_L0 Q ρ h = (
  oP (some (ρ 6)) fun v37 =>
  oP (some (ρ 0)) fun v38 =>
  oP (pLenS v38) fun v39 =>
  oP (hbin .lss 3 v37 v39) fun v40 =>
  Wp C 69 k_turnstoneref30_number_R16 (q_turnstoneref30_number_5 C Q) (rset (rset (rset (rset ρ 37 v37) 38 v38) 39 v39) 40 v40) h) := by kernel_rfl
set_option maxRecDepth 100000 in
theorem e_turnstoneref30_number_R19 (C : Cfg) (Q : X → Rho → Hp → Prop) (ρ : Rho) (h : Hp) : codeR C 69 k_turnstoneref30_number_R19 Q ρ h = (
  oP (some (ρ 63)) fun c =>
  bP c (
    oP (some (ρ 5)) fun v64 =>
    oP (pConv .i64 v64) fun v65 =>
    oP (hun .neg v65) fun v66 =>
    oP (some v66) fun v2 =>
    oP (some (V.bool true)) fun v3 =>
    Wp C 69 k_turnstoneref30_number_R24 Q (rset (rset (rset (rset (rset ρ 64 v64) 65 v65) 66 v66) 2 v2) 3 v3) h) (
    Q .normal ρ h)) := by kernel_rfl
set_option maxRecDepth 100000 in
theorem e_turnstoneref30_number_R25 (C : Cfg) (Q : X → Rho → Hp → Prop) (ρ : Rho) (h : Hp) : codeR C 69 k_turnstoneref30_number_R25 Q ρ h = (
  Q .ret ρ h) := by kernel_rfl
set_option maxRecDepth 100000 in
theorem e_turnstoneref30_number_R13 (C : Cfg) (Q : X → Rho → Hp → Prop) (ρ : Rho) (h : Hp) : codeR C 69 k_turnstoneref30_number_R13 Q ρ h = (
  Q .ret ρ h) := by kernel_rfl
set_option maxRecDepth 100000 in
theorem e_turnstoneref30_number_R17 (C : Cfg) (Q : X → Rho → Hp → Prop) (ρ : Rho) (h : Hp) : codeR C 69 k_turnstoneref30_number_R17 Q ρ h = (
  oP (some (ρ 0)) fun v43 =>
  oP (some (ρ 6)) fun v44 =>
  oP (pIdxS v43 v44) fun v45 =>
  oP (hbin .lss 5 v45 (V.int .u8 48)) fun v46 =>
  oP (some v46) fun v47 =>
  oP (pGd false v47) fun b5 =>
  oP (gV b5 (some (ρ 0))) fun v48 =>
  oP (pGd false v47) fun b6 =>
  oP (gV b6 (some (ρ 6))) fun v49 =>
  oP (pGd false v47) fun b7 =>
  oP (gV b7 (pIdxS v48 v49)) fun v50 =>
  oP (pGd false v47) fun b8 =>
  oP (gV b8 (hbin .gtr 5 v50 (V.int .u8 57))) fun v51 =>
  oP (pPick v47 (V.bool true) v51) fun v52 =>
  Wp C 69 k_turnstoneref30_number_R21 (q_turnstoneref30_number_7 C Q) (rset (rset (rset (rset (rset (rset (rset (rset (rset (rset ρ 43 v43) 44 v44) 45 v45) 46 v46) 47 v47) 48 v48) 49 v49) 50 v50) 51 v51) 52 v52) h) := by kernel_rfl
set_option maxRecDepth 100000 in
theorem e_turnstoneref30_number_R18 (C : Cfg) (Q : X → Rho → Hp → Prop) (ρ : Rho) (h : Hp) : codeR C 69 k_turnstoneref30_number_R18 Q ρ h = (
  Q .ret ρ h) := by kernel_rfl
set_option maxRecDepth 100000 in
theorem e_turnstoneref30_number_R16 (C : Cfg) (Q : X → Rho → Hp → Prop) (ρ : Rho) (h : Hp) : codeR C 69 k_turnstoneref30_number_R16 Q ρ h = (
  oP (some (ρ 40)) fun c =>
  bP c (
    Q .normal ρ h) (
    Q (.exit 0) ρ h)) := by kernel_rfl
set_option maxRecDepth 100000 in
theorem e_turnstoneref30_number_R22 (C : Cfg) (Q : X → Rho → Hp → Prop) (ρ : Rho) (h : Hp) : codeR C 69 k_turnstoneref30_number_R22 Q ρ h = (
  oP (some (ρ 6)) fun v41 =>
  oP (hbin .add 3 v41 (V.int .i64 1)) fun v42 =>
  oP (some v42) fun v6 =>
  Q .normal (rset (rset (rset ρ 41 v41) 42 v42) 6 v6) h) := by kernel_rfl
set_option maxRecDepth 100000 in
theorem e_turnstoneref30_number_R24 (C : Cfg) (Q : X → Rho → Hp → Prop) (ρ : Rho) (h : Hp) : codeR C 69 k_turnstoneref30_number_R24 Q ρ h = (
  Q .ret ρ h) := by kernel_rfl
set_option maxRecDepth 100000 in
theorem e_turnstoneref30_number_R23 (C : Cfg) (Q : X → Rho → Hp → Prop) (ρ : Rho) (h : Hp) : codeR C 69 k_turnstoneref30_number_R23 Q ρ h = (
  oP (some (ρ 5)) fun v53 =>
  oP (hbin .mul 80 (V.int .u64 10) v53) fun v54 =>
  oP (some (ρ 0)) fun v55 =>
  oP (some (ρ 6)) fun v56 =>
  oP (pIdxS v55 v56) fun v57 =>
  oP (hbin .sub 5 v57 (V.int .u8 48)) fun v58 =>
  oP (pConv .u64 v58) fun v59 =>
  oP (hbin .add 80 v54 v59) fun v60 =>
  oP (some v60) fun v5 =>
  Q .normal (rset (rset (rset (rset (rset (rset (rset (rset (rset ρ 53 v53) 54 v54) 55 v55) 56 v56) 57 v57) 58 v58) 59 v59) 60 v60) 5 v5) h) := by kernel_rfl
set_option maxRecDepth 100000 in
theorem e_turnstoneref30_number_R21 (C : Cfg) (Q : X → Rho → Hp → Prop) (ρ : Rho) (h : Hp) : codeR C 69 k_turnstoneref30_number_R21 Q ρ h = (
  oP (some (ρ 52)) fun c =>
  bP c (
    oP (some (V.int .i64 0)) fun v2 =>
    oP (some (V.bool false)) fun v3 =>
    Wp C 69 k_turnstoneref30_number_R26 Q (rset (rset ρ 2 v2) 3 v3) h) (
    Q .normal ρ h)) := by kernel_rfl
set_option maxRecDepth 100000 in
theorem e_turnstoneref30_number_R26 (C : Cfg) (Q : X → Rho → Hp → Prop) (ρ : Rho) (h : Hp) : codeR C 69 k_turnstoneref30_number_R26 Q ρ h = (
  Q .ret ρ h) := by kernel_rfl
theorem f_turnstoneref30_number {C : Cfg} (hs : C.start = startF) (a0 : V) {h : Hp} {Q : V → Hp → Prop} (hk : C.K n_turnstoneref30_number [a0] h = none) (H : codeR C 69 k_turnstoneref30_number (bodyQ [.tmp 2, .tmp 3] Q) (argsR [a0]) h) : cP C n_turnstoneref30_number [a0] h Q :=
  cP.funcN hs (show P0.funcs[26]? = some Tryz.f26 by unfold P0; exact Tryz.func26) (by kernel_rfl) (by kernel_rfl) (by kernel_rfl) hk (Nat.le_of_ble_eq_true rfl) (Wp.code _ H)
def J_turnstoneref30_number_R3 (C : Cfg) (Q : V → Hp → Prop) (x0 x4 : V) (h : Hp) : Prop := ∀ ρ : Rho, ρ 0 = x0 → ρ 4 = x4 → Wp C 69 k_turnstoneref30_number_R3 (bodyQ [.tmp 2, .tmp 3] Q) ρ h
def J_turnstoneref30_number_L0 (C : Cfg) (Q : V → Hp → Prop) (x0 x4 x5 x6 : V) (h : Hp) : Prop := ∀ ρ : Rho, ρ 0 = x0 → ρ 4 = x4 → ρ 5 = x5 → ρ 6 = x6 → Wp C 69 (.loop k_turnstoneref30_number_L0) (q_turnstoneref30_number_10 C (bodyQ [.tmp 2, .tmp 3] Q)) ρ h
def B_turnstoneref30_number_R3 (C : Cfg) (Q : V → Hp → Prop) (x0 x4 : V) (h : Hp) : Prop :=
  oP (hbin .eql 9 x0 (V.str [])) fun v21 =>
  oP (pOr v21 (oB (some x0) fun v23 => oB (pLenS v23) fun v24 => oB (hbin .gtr 3 v24 (V.int .i64 1)) fun v25 => oB (some v25) fun v26 => pAnd v26 (oB (some x0) fun v27 => oB (pIdxS v27 (V.int .i64 0)) fun v28 => hbin .eql 5 v28 (V.int .u8 48)))) fun v31 =>
  oP (pOr v31 (oB (some x0) fun v33 => oB (pLenS v33) fun v34 => hbin .gtr 3 v34 (V.int .i64 19))) fun v36 =>
  bP v36 (
  Q (V.tuple [(V.int .i64 0), (V.bool false)]) h) (
  J_turnstoneref30_number_L0 C Q x0 x4 (V.int .u64 0) (V.int .i64 0) h)
set_option maxRecDepth 100000 in
theorem j_turnstoneref30_number_R3 {C : Cfg} {Q : V → Hp → Prop} {x0 x4 : V} {h : Hp} (H : B_turnstoneref30_number_R3 C Q x0 x4 h) : J_turnstoneref30_number_R3 C Q x0 x4 h := by
  intro ρ e0 e4
  subst e0
  subst e4
  unfold B_turnstoneref30_number_R3 at H
  exact Wp.of (e_turnstoneref30_number_R3 _ _ _ _) (oSm (oM H fun v21 _ H => oSm (thn (or_open H) fun H => sG1 H fun b3 Gv23 v23 Ev23 H => sG1 H fun b4 Gv24 v24 Ev24 H => sG1 H fun b5 Gv25 v25 Ev25 H => sG1 H fun b6 Gv26 v26 Ev26 H => thn (sNand' Gv26 Ev26 H) fun H => sG1 H fun b7 Gv27 v27 Ev27 H => sG1 H fun b8 Gv28 v28 Ev28 H => oM H fun b9 Gv29 H => oM H fun v29 Ev29 H => oM H fun b10 Gv30 H => oM H fun v30 Ev30 H => oM H fun v31 Ev31 H => oSm (thn (or_open H) fun H => sG1 H fun b13 Gv33 v33 Ev33 H => sG1 H fun b14 Gv34 v34 Ev34 H => oM H fun b15 Gv35 H => oM H fun v35 Ev35 H => oM H fun v36 Ev36 H => Wp.of (e_turnstoneref30_number_R5 _ _ _ _) (oSm (bM H (fun H => oSm (oSm (Wp.of (e_turnstoneref30_number_R8 _ _ _ _) (H)))) (fun H => Wp.of (e_turnstoneref30_number_R6 _ _ _ _) (oSm (Wp.of (e_turnstoneref30_number_R9 _ _ _ _) (oSm (Wp.of (e_turnstoneref30_number_R11 _ _ _ _) (H _ rfl rfl rfl rfl))))))))))))
def B_turnstoneref30_number_L0 (C : Cfg) (Q : V → Hp → Prop) (KL0 : V → V → V → V → Hp → Prop) (x0 x4 x5 x6 : V) (h : Hp) : Prop :=
  oP (pLenS x0) fun v39 =>
  oP (hbin .lss 3 x6 v39) fun v40 =>
  bP v40 (
  oP (pIdxS x0 x6) fun v45 =>
  oP (hbin .lss 5 v45 (V.int .u8 48)) fun v46 =>
  oP (pOr v46 (oB (some x0) fun v48 => oB (some x6) fun v49 => oB (pIdxS v48 v49) fun v50 => hbin .gtr 5 v50 (V.int .u8 57))) fun v52 =>
  bP v52 (
  Q (V.tuple [(V.int .i64 0), (V.bool false)]) h) (
  oP (hbin .mul 80 (V.int .u64 10) x5) fun v54 =>
  oP (pIdxS x0 x6) fun v57 =>
  oP (hbin .sub 5 v57 (V.int .u8 48)) fun v58 =>
  oP (pConv .u64 v58) fun v59 =>
  oP (hbin .add 80 v54 v59) fun v60 =>
  oP (hbin .add 3 x6 (V.int .i64 1)) fun v42 =>
  KL0 x0 x4 v60 v42 h)) (
  oP (hbin .gtr 80 x5 (V.int .u64 4611686018427387904)) fun v62 =>
  bP v62 (
  Q (V.tuple [(V.int .i64 0), (V.bool false)]) h) (
  bP x4 (
  oP (pConv .i64 x5) fun v65 =>
  oP (hun .neg v65) fun v66 =>
  Q (V.tuple [v66, (V.bool true)]) h) (
  oP (pConv .i64 x5) fun v68 =>
  Q (V.tuple [v68, (V.bool true)]) h)))
set_option maxRecDepth 100000 in
theorem l_turnstoneref30_number_L0 {C : Cfg} {Q : V → Hp → Prop} (I : Nat → V → V → V → V → Hp → Prop) (step : ∀ (k : Nat) (x0 x4 x5 x6 : V) (h : Hp), I k x0 x4 x5 x6 h → B_turnstoneref30_number_L0 C Q (fun x0 x4 x5 x6 h => ∃ k', k' < k ∧ I k' x0 x4 x5 x6 h) x0 x4 x5 x6 h) {k : Nat} {x0 x4 x5 x6 : V} {h : Hp} (h0 : I k x0 x4 x5 x6 h) : J_turnstoneref30_number_L0 C Q x0 x4 x5 x6 h := by
  intro ρ e0 e4 e5 e6
  subst e0
  subst e4
  subst e5
  subst e6
  refine Wp.loopI (fun k ρ h => I k (ρ 0) (ρ 4) (ρ 5) (ρ 6) h) (fun k ρ h hi => ?_) h0
  have H := step k (ρ 0) (ρ 4) (ρ 5) (ρ 6) h hi
  unfold B_turnstoneref30_number_L0 at H
  exact Wp.of (e_turnstoneref30_number_L0 _ _ _ _) (oSm (oSm (oM H fun v39 _ H => oM H fun v40 _ H => Wp.of (e_turnstoneref30_number_R16 _ _ _ _) (oSm (bM H (fun H => Wp.of (e_turnstoneref30_number_R17 _ _ _ _) (oSm (oSm (oM H fun v45 _ H => oM H fun v46 _ H => oSm (thn (or_open H) fun H => sG1 H fun b5 Gv48 v48 Ev48 H => sG1 H fun b6 Gv49 v49 Ev49 H => sG1 H fun b7 Gv50 v50 Ev50 H => oM H fun b8 Gv51 H => oM H fun v51 Ev51 H => oM H fun v52 Ev52 H => Wp.of (e_turnstoneref30_number_R21 _ _ _ _) (oSm (bM H (fun H => oSm (oSm (Wp.of (e_turnstoneref30_number_R26 _ _ _ _) (H)))) (fun H => Wp.of (e_turnstoneref30_number_R23 _ _ _ _) (oSm (oM H fun v54 _ H => oSm (oSm (oM H fun v57 _ H => oM H fun v58 _ H => oM H fun v59 _ H => oM H fun v60 _ H => oSm (Wp.of (e_turnstoneref30_number_R22 _ _ _ _) (oSm (oM H fun v42 _ H => oSm (H)))))))))))))))) (fun H => Wp.of (e_turnstoneref30_number_R12 _ _ _ _) (oSm (oM H fun v62 _ H => Wp.of (e_turnstoneref30_number_R14 _ _ _ _) (oSm (bM H (fun H => oSm (oSm (Wp.of (e_turnstoneref30_number_R18 _ _ _ _) (H)))) (fun H => Wp.of (e_turnstoneref30_number_R15 _ _ _ _) (oSm (Wp.of (e_turnstoneref30_number_R19 _ _ _ _) (oSm (bM H (fun H => oSm (oM H fun v65 _ H => oM H fun v66 _ H => oSm (oSm (Wp.of (e_turnstoneref30_number_R24 _ _ _ _) (H))))) (fun H => Wp.of (e_turnstoneref30_number_R20 _ _ _ _) (oSm (oM H fun v68 _ H => oSm (oSm (Wp.of (e_turnstoneref30_number_R25 _ _ _ _) (H)))))))))))))))))))))
def B_turnstoneref30_number (C : Cfg) (Q : V → Hp → Prop) (a0 : V) (h : Hp) : Prop :=
  oP (pLenS a0) fun v8 =>
  oP (hbin .gtr 3 v8 (V.int .i64 1)) fun v9 =>
  oP (pAnd v9 (oB (some a0) fun v11 => oB (pIdxS v11 (V.int .i64 0)) fun v12 => hbin .eql 5 v12 (V.int .u8 45))) fun v14 =>
  bP v14 (
  oP (hsliceS a0 (some (V.int .i64 1)) none) fun v16 =>
  oP (pIdxS v16 (V.int .i64 0)) fun v18 =>
  oP (hbin .eql 5 v18 (V.int .u8 48)) fun v19 =>
  bP v19 (
  Q (V.tuple [(V.int .i64 0), (V.bool false)]) h) (
  J_turnstoneref30_number_R3 C Q v16 (V.bool true) h)) (
  J_turnstoneref30_number_R3 C Q a0 (V.bool false) h)
set_option maxRecDepth 100000 in
theorem c_turnstoneref30_number {C : Cfg} (hs : C.start = startF) {a0 : V} {h : Hp} {Q : V → Hp → Prop} (hk : C.K n_turnstoneref30_number [a0] h = none) (H : B_turnstoneref30_number C Q a0 h) : cP C n_turnstoneref30_number [a0] h Q := by
  unfold B_turnstoneref30_number at H
  exact f_turnstoneref30_number hs _ hk ((e_turnstoneref30_number _ _ _ _).mpr (oSm (oSm (Wp.of (e_turnstoneref30_number_R0 _ _ _ _) (oSm (Wp.of (e_turnstoneref30_number_R1 _ _ _ _) (oSm (oM H fun v8 _ H => oM H fun v9 _ H => oSm (thn (and_open H) fun H => sG1 H fun b4 Gv11 v11 Ev11 H => sG1 H fun b5 Gv12 v12 Ev12 H => oM H fun b6 Gv13 H => oM H fun v13 Ev13 H => oM H fun v14 Ev14 H => Wp.of (e_turnstoneref30_number_R2 _ _ _ _) (oSm (bM H (fun H => oSm (Wp.of (e_turnstoneref30_number_R4 _ _ _ _) (oSm (oM H fun v16 _ H => oSm (Wp.of (e_turnstoneref30_number_R7 _ _ _ _) (oSm (oM H fun v18 _ H => oM H fun v19 _ H => Wp.of (e_turnstoneref30_number_R10 _ _ _ _) (oSm (bM H (fun H => oSm (oSm (Wp.of (e_turnstoneref30_number_R13 _ _ _ _) (H)))) (fun H => H _ rfl rfl)))))))))) (fun H => H _ rfl rfl))))))))))))
/-! ### turnstone/turnstoneref30.Names -/
noncomputable def k_turnstoneref30_Names : Code := bodyOf Tryz.f25
noncomputable def k_turnstoneref30_Names_R0 : Code := k_turnstoneref30_Names.r
noncomputable def k_turnstoneref30_Names_R1 : Code := k_turnstoneref30_Names.r.r
set_option maxRecDepth 100000 in
theorem e_turnstoneref30_Names (C : Cfg) (Q : X → Rho → Hp → Prop) (ρ : Rho) (h : Hp) : codeR C 2 k_turnstoneref30_Names Q ρ h = (
  oP (some V.nilSlice) fun v0 =>
  Wp C 2 k_turnstoneref30_Names_R0 Q (rset ρ 0 v0) h) := by kernel_rfl
set_option maxRecDepth 100000 in
theorem e_turnstoneref30_Names_R0 (C : Cfg) (Q : X → Rho → Hp → Prop) (ρ : Rho) (h : Hp) : codeR C 2 k_turnstoneref30_Names_R0 Q ρ h = (
  alP (pBS 9 1 7 (V.str []) [(0, (V.str [115, 116, 101, 112])), (1, (V.str [99, 111, 109, 112, 105, 108, 101])), (2, (V.str [101, 110, 116, 101, 114])), (3, (V.str [101, 118, 105, 99, 116])), (4, (V.str [105, 110, 118, 97, 108, 105, 100, 97, 116, 101])), (5, (V.str [99, 111, 117, 110, 116])), (6, (V.str [97, 117, 116, 111]))]) h fun v1 h1 =>
  oP (some v1) fun v0 =>
  Wp C 2 k_turnstoneref30_Names_R1 Q (rset (rset ρ 1 v1) 0 v0) h1) := by kernel_rfl
set_option maxRecDepth 100000 in
theorem e_turnstoneref30_Names_R1 (C : Cfg) (Q : X → Rho → Hp → Prop) (ρ : Rho) (h : Hp) : codeR C 2 k_turnstoneref30_Names_R1 Q ρ h = (
  Q .ret ρ h) := by kernel_rfl
theorem f_turnstoneref30_Names {C : Cfg} (hs : C.start = startF) {h : Hp} {Q : V → Hp → Prop} (hk : C.K n_turnstoneref30_Names [] h = none) (H : codeR C 2 k_turnstoneref30_Names (bodyQ [.tmp 0] Q) (argsR []) h) : cP C n_turnstoneref30_Names [] h Q :=
  cP.funcN hs (show P0.funcs[25]? = some Tryz.f25 by unfold P0; exact Tryz.func25) (by kernel_rfl) (by kernel_rfl) (by kernel_rfl) hk (Nat.le_of_ble_eq_true rfl) (Wp.code _ H)
def B_turnstoneref30_Names (C : Cfg) (Q : V → Hp → Prop) (h : Hp) : Prop :=
  alP (pBS 9 1 7 (V.str []) [(0, (V.str [115, 116, 101, 112])), (1, (V.str [99, 111, 109, 112, 105, 108, 101])), (2, (V.str [101, 110, 116, 101, 114])), (3, (V.str [101, 118, 105, 99, 116])), (4, (V.str [105, 110, 118, 97, 108, 105, 100, 97, 116, 101])), (5, (V.str [99, 111, 117, 110, 116])), (6, (V.str [97, 117, 116, 111]))]) h fun v1 h1 =>
  Q v1 h1
set_option maxRecDepth 100000 in
theorem c_turnstoneref30_Names {C : Cfg} (hs : C.start = startF) {h : Hp} {Q : V → Hp → Prop} (hk : C.K n_turnstoneref30_Names [] h = none) (H : B_turnstoneref30_Names C Q  h) : cP C n_turnstoneref30_Names [] h Q := by
  unfold B_turnstoneref30_Names at H
  exact f_turnstoneref30_Names hs  hk ((e_turnstoneref30_Names _ _ _ _).mpr (oSm (Wp.of (e_turnstoneref30_Names_R0 _ _ _ _) (alM H fun v1 h1 H => oSm (Wp.of (e_turnstoneref30_Names_R1 _ _ _ _) (H))))))
/-! ### turnstone/turnstoneref30.Parse -/
noncomputable def k_turnstoneref30_Parse : Code := bodyOf Tryz.f9
noncomputable def k_turnstoneref30_Parse_R0 : Code := k_turnstoneref30_Parse.r
noncomputable def k_turnstoneref30_Parse_R1 : Code := k_turnstoneref30_Parse.r.r
noncomputable def k_turnstoneref30_Parse_R2 : Code := k_turnstoneref30_Parse.r.r.r
noncomputable def k_turnstoneref30_Parse_R3 : Code := k_turnstoneref30_Parse.r.r.r.r
noncomputable def k_turnstoneref30_Parse_R4 : Code := k_turnstoneref30_Parse.r.r.r.r.l.r
noncomputable def k_turnstoneref30_Parse_R5 : Code := k_turnstoneref30_Parse.r.r.r.r.r
noncomputable def q_turnstoneref30_Parse_0 (C : Cfg) (Q : X → Rho → Hp → Prop) : X → Rho → Hp → Prop := andThen (Wp C 156 k_turnstoneref30_Parse_R5 Q) Q
theorem q_turnstoneref30_Parse_0_normal (C : Cfg) (Q : X → Rho → Hp → Prop) (ρ : Rho) (h : Hp) : q_turnstoneref30_Parse_0 C Q .normal ρ h = Wp C 156 k_turnstoneref30_Parse_R5 Q ρ h := rfl
theorem q_turnstoneref30_Parse_0_ret (C : Cfg) (Q : X → Rho → Hp → Prop) (ρ : Rho) (h : Hp) : q_turnstoneref30_Parse_0 C Q .ret ρ h = Q .ret ρ h := rfl
noncomputable def k_turnstoneref30_Parse_L0 : Code := k_turnstoneref30_Parse.r.r.r.r.l.r.l.l
noncomputable def q_turnstoneref30_Parse_1 (C : Cfg) (Q : X → Rho → Hp → Prop) : X → Rho → Hp → Prop := blockQ 0 Q
theorem q_turnstoneref30_Parse_1_normal (C : Cfg) (Q : X → Rho → Hp → Prop) (ρ : Rho) (h : Hp) : q_turnstoneref30_Parse_1 C Q .normal ρ h = Q .normal ρ h := rfl
theorem q_turnstoneref30_Parse_1_ret (C : Cfg) (Q : X → Rho → Hp → Prop) (ρ : Rho) (h : Hp) : q_turnstoneref30_Parse_1 C Q .ret ρ h = Q .ret ρ h := rfl
theorem q_turnstoneref30_Parse_1_exit0 (C : Cfg) (Q : X → Rho → Hp → Prop) (ρ : Rho) (h : Hp) : q_turnstoneref30_Parse_1 C Q (.exit 0) ρ h = Q .normal ρ h := rfl
noncomputable def k_turnstoneref30_Parse_R6 : Code := k_turnstoneref30_Parse.r.r.r.r.r.r
noncomputable def k_turnstoneref30_Parse_R7 : Code := k_turnstoneref30_Parse.r.r.r.r.l.r.l.l.l.r
noncomputable def k_turnstoneref30_Parse_R8 : Code := k_turnstoneref30_Parse.r.r.r.r.l.r.l.l.r
noncomputable def q_turnstoneref30_Parse_2 (C : Cfg) (Q : X → Rho → Hp → Prop) : X → Rho → Hp → Prop := andThen (Wp C 156 k_turnstoneref30_Parse_R8 Q) Q
theorem q_turnstoneref30_Parse_2_normal (C : Cfg) (Q : X → Rho → Hp → Prop) (ρ : Rho) (h : Hp) : q_turnstoneref30_Parse_2 C Q .normal ρ h = Wp C 156 k_turnstoneref30_Parse_R8 Q ρ h := rfl
theorem q_turnstoneref30_Parse_2_ret (C : Cfg) (Q : X → Rho → Hp → Prop) (ρ : Rho) (h : Hp) : q_turnstoneref30_Parse_2 C Q .ret ρ h = Q .ret ρ h := rfl
noncomputable def k_turnstoneref30_Parse_R9 : Code := k_turnstoneref30_Parse.r.r.r.r.r.r.l.r
noncomputable def k_turnstoneref30_Parse_R10 : Code := k_turnstoneref30_Parse.r.r.r.r.r.r.r
noncomputable def q_turnstoneref30_Parse_3 (C : Cfg) (Q : X → Rho → Hp → Prop) : X → Rho → Hp → Prop := andThen (Wp C 156 k_turnstoneref30_Parse_R10 Q) Q
theorem q_turnstoneref30_Parse_3_normal (C : Cfg) (Q : X → Rho → Hp → Prop) (ρ : Rho) (h : Hp) : q_turnstoneref30_Parse_3 C Q .normal ρ h = Wp C 156 k_turnstoneref30_Parse_R10 Q ρ h := rfl
theorem q_turnstoneref30_Parse_3_ret (C : Cfg) (Q : X → Rho → Hp → Prop) (ρ : Rho) (h : Hp) : q_turnstoneref30_Parse_3 C Q .ret ρ h = Q .ret ρ h := rfl
noncomputable def k_turnstoneref30_Parse_R11 : Code := k_turnstoneref30_Parse.r.r.r.r.l.r.l.l.r.l.l.r
noncomputable def k_turnstoneref30_Parse_R12 : Code := k_turnstoneref30_Parse.r.r.r.r.l.r.l.l.r.r
noncomputable def q_turnstoneref30_Parse_5 (C : Cfg) (Q : X → Rho → Hp → Prop) : X → Rho → Hp → Prop := andThen (Wp C 156 k_turnstoneref30_Parse_R12 Q) Q
theorem q_turnstoneref30_Parse_5_normal (C : Cfg) (Q : X → Rho → Hp → Prop) (ρ : Rho) (h : Hp) : q_turnstoneref30_Parse_5 C Q .normal ρ h = Wp C 156 k_turnstoneref30_Parse_R12 Q ρ h := rfl
theorem q_turnstoneref30_Parse_5_ret (C : Cfg) (Q : X → Rho → Hp → Prop) (ρ : Rho) (h : Hp) : q_turnstoneref30_Parse_5 C Q .ret ρ h = Q .ret ρ h := rfl
noncomputable def q_turnstoneref30_Parse_4 (C : Cfg) (Q : X → Rho → Hp → Prop) : X → Rho → Hp → Prop := blockQ 1 (q_turnstoneref30_Parse_5 C Q)
theorem q_turnstoneref30_Parse_4_normal (C : Cfg) (Q : X → Rho → Hp → Prop) (ρ : Rho) (h : Hp) : q_turnstoneref30_Parse_4 C Q .normal ρ h = Wp C 156 k_turnstoneref30_Parse_R12 Q ρ h := rfl
theorem q_turnstoneref30_Parse_4_ret (C : Cfg) (Q : X → Rho → Hp → Prop) (ρ : Rho) (h : Hp) : q_turnstoneref30_Parse_4 C Q .ret ρ h = Q .ret ρ h := rfl
theorem q_turnstoneref30_Parse_4_exit1 (C : Cfg) (Q : X → Rho → Hp → Prop) (ρ : Rho) (h : Hp) : q_turnstoneref30_Parse_4 C Q (.exit 1) ρ h = Wp C 156 k_turnstoneref30_Parse_R12 Q ρ h := rfl
noncomputable def k_turnstoneref30_Parse_L1 : Code := k_turnstoneref30_Parse.r.r.r.r.r.r.l.r.l.l
noncomputable def q_turnstoneref30_Parse_6 (C : Cfg) (Q : X → Rho → Hp → Prop) : X → Rho → Hp → Prop := blockQ 2 Q
theorem q_turnstoneref30_Parse_6_normal (C : Cfg) (Q : X → Rho → Hp → Prop) (ρ : Rho) (h : Hp) : q_turnstoneref30_Parse_6 C Q .normal ρ h = Q .normal ρ h := rfl
theorem q_turnstoneref30_Parse_6_ret (C : Cfg) (Q : X → Rho → Hp → Prop) (ρ : Rho) (h : Hp) : q_turnstoneref30_Parse_6 C Q .ret ρ h = Q .ret ρ h := rfl
theorem q_turnstoneref30_Parse_6_exit2 (C : Cfg) (Q : X → Rho → Hp → Prop) (ρ : Rho) (h : Hp) : q_turnstoneref30_Parse_6 C Q (.exit 2) ρ h = Q .normal ρ h := rfl
noncomputable def k_turnstoneref30_Parse_R13 : Code := k_turnstoneref30_Parse.r.r.r.r.r.r.r.r
noncomputable def k_turnstoneref30_Parse_R14 : Code := k_turnstoneref30_Parse.r.r.r.r.r.r.l.r.l.l.l.r
noncomputable def k_turnstoneref30_Parse_R15 : Code := k_turnstoneref30_Parse.r.r.r.r.r.r.l.r.l.l.r
noncomputable def q_turnstoneref30_Parse_7 (C : Cfg) (Q : X → Rho → Hp → Prop) : X → Rho → Hp → Prop := andThen (Wp C 156 k_turnstoneref30_Parse_R15 Q) Q
theorem q_turnstoneref30_Parse_7_normal (C : Cfg) (Q : X → Rho → Hp → Prop) (ρ : Rho) (h : Hp) : q_turnstoneref30_Parse_7 C Q .normal ρ h = Wp C 156 k_turnstoneref30_Parse_R15 Q ρ h := rfl
theorem q_turnstoneref30_Parse_7_ret (C : Cfg) (Q : X → Rho → Hp → Prop) (ρ : Rho) (h : Hp) : q_turnstoneref30_Parse_7 C Q .ret ρ h = Q .ret ρ h := rfl
noncomputable def k_turnstoneref30_Parse_R16 : Code := k_turnstoneref30_Parse.r.r.r.r.r.r.r.r.l.r
noncomputable def k_turnstoneref30_Parse_R17 : Code := k_turnstoneref30_Parse.r.r.r.r.r.r.r.r.r
noncomputable def q_turnstoneref30_Parse_8 (C : Cfg) (Q : X → Rho → Hp → Prop) : X → Rho → Hp → Prop := andThen (Wp C 156 k_turnstoneref30_Parse_R17 Q) Q
theorem q_turnstoneref30_Parse_8_normal (C : Cfg) (Q : X → Rho → Hp → Prop) (ρ : Rho) (h : Hp) : q_turnstoneref30_Parse_8 C Q .normal ρ h = Wp C 156 k_turnstoneref30_Parse_R17 Q ρ h := rfl
theorem q_turnstoneref30_Parse_8_ret (C : Cfg) (Q : X → Rho → Hp → Prop) (ρ : Rho) (h : Hp) : q_turnstoneref30_Parse_8 C Q .ret ρ h = Q .ret ρ h := rfl
noncomputable def k_turnstoneref30_Parse_R18 : Code := k_turnstoneref30_Parse.r.r.r.r.r.r.l.r.l.l.r.l.l.r
noncomputable def k_turnstoneref30_Parse_R19 : Code := k_turnstoneref30_Parse.r.r.r.r.r.r.l.r.l.l.r.r
noncomputable def q_turnstoneref30_Parse_10 (C : Cfg) (Q : X → Rho → Hp → Prop) : X → Rho → Hp → Prop := andThen (Wp C 156 k_turnstoneref30_Parse_R19 Q) Q
theorem q_turnstoneref30_Parse_10_normal (C : Cfg) (Q : X → Rho → Hp → Prop) (ρ : Rho) (h : Hp) : q_turnstoneref30_Parse_10 C Q .normal ρ h = Wp C 156 k_turnstoneref30_Parse_R19 Q ρ h := rfl
theorem q_turnstoneref30_Parse_10_ret (C : Cfg) (Q : X → Rho → Hp → Prop) (ρ : Rho) (h : Hp) : q_turnstoneref30_Parse_10 C Q .ret ρ h = Q .ret ρ h := rfl
noncomputable def q_turnstoneref30_Parse_9 (C : Cfg) (Q : X → Rho → Hp → Prop) : X → Rho → Hp → Prop := blockQ 3 (q_turnstoneref30_Parse_10 C Q)
theorem q_turnstoneref30_Parse_9_normal (C : Cfg) (Q : X → Rho → Hp → Prop) (ρ : Rho) (h : Hp) : q_turnstoneref30_Parse_9 C Q .normal ρ h = Wp C 156 k_turnstoneref30_Parse_R19 Q ρ h := rfl
theorem q_turnstoneref30_Parse_9_ret (C : Cfg) (Q : X → Rho → Hp → Prop) (ρ : Rho) (h : Hp) : q_turnstoneref30_Parse_9 C Q .ret ρ h = Q .ret ρ h := rfl
theorem q_turnstoneref30_Parse_9_exit3 (C : Cfg) (Q : X → Rho → Hp → Prop) (ρ : Rho) (h : Hp) : q_turnstoneref30_Parse_9 C Q (.exit 3) ρ h = Wp C 156 k_turnstoneref30_Parse_R19 Q ρ h := rfl
noncomputable def k_turnstoneref30_Parse_R20 : Code := k_turnstoneref30_Parse.r.r.r.r.r.r.r.r.l.r.l.r
noncomputable def k_turnstoneref30_Parse_R21 : Code := k_turnstoneref30_Parse.r.r.r.r.r.r.r.r.r.l.r
noncomputable def k_turnstoneref30_Parse_R22 : Code := k_turnstoneref30_Parse.r.r.r.r.r.r.r.r.r.r
noncomputable def q_turnstoneref30_Parse_11 (C : Cfg) (Q : X → Rho → Hp → Prop) : X → Rho → Hp → Prop := andThen (Wp C 156 k_turnstoneref30_Parse_R22 Q) Q
theorem q_turnstoneref30_Parse_11_normal (C : Cfg) (Q : X → Rho → Hp → Prop) (ρ : Rho) (h : Hp) : q_turnstoneref30_Parse_11 C Q .normal ρ h = Wp C 156 k_turnstoneref30_Parse_R22 Q ρ h := rfl
theorem q_turnstoneref30_Parse_11_ret (C : Cfg) (Q : X → Rho → Hp → Prop) (ρ : Rho) (h : Hp) : q_turnstoneref30_Parse_11 C Q .ret ρ h = Q .ret ρ h := rfl
noncomputable def k_turnstoneref30_Parse_R23 : Code := k_turnstoneref30_Parse.r.r.r.r.r.r.l.r.l.l.r.l.l.r.l.r
noncomputable def k_turnstoneref30_Parse_R24 : Code := k_turnstoneref30_Parse.r.r.r.r.r.r.l.r.l.l.r.l.l.r.r
noncomputable def q_turnstoneref30_Parse_12 (C : Cfg) (Q : X → Rho → Hp → Prop) : X → Rho → Hp → Prop := andThen (Wp C 156 k_turnstoneref30_Parse_R24 Q) Q
theorem q_turnstoneref30_Parse_12_normal (C : Cfg) (Q : X → Rho → Hp → Prop) (ρ : Rho) (h : Hp) : q_turnstoneref30_Parse_12 C Q .normal ρ h = Wp C 156 k_turnstoneref30_Parse_R24 Q ρ h := rfl
theorem q_turnstoneref30_Parse_12_ret (C : Cfg) (Q : X → Rho → Hp → Prop) (ρ : Rho) (h : Hp) : q_turnstoneref30_Parse_12 C Q .ret ρ h = Q .ret ρ h := rfl
noncomputable def k_turnstoneref30_Parse_R25 : Code := k_turnstoneref30_Parse.r.r.r.r.r.r.r.r.r.l.r.l.l.r
noncomputable def q_turnstoneref30_Parse_14 (C : Cfg) (Q : X → Rho → Hp → Prop) : X → Rho → Hp → Prop := blockQ 4 Q
theorem q_turnstoneref30_Parse_14_normal (C : Cfg) (Q : X → Rho → Hp → Prop) (ρ : Rho) (h : Hp) : q_turnstoneref30_Parse_14 C Q .normal ρ h = Q .normal ρ h := rfl
theorem q_turnstoneref30_Parse_14_ret (C : Cfg) (Q : X → Rho → Hp → Prop) (ρ : Rho) (h : Hp) : q_turnstoneref30_Parse_14 C Q .ret ρ h = Q .ret ρ h := rfl
theorem q_turnstoneref30_Parse_14_exit4 (C : Cfg) (Q : X → Rho → Hp → Prop) (ρ : Rho) (h : Hp) : q_turnstoneref30_Parse_14 C Q (.exit 4) ρ h = Q .normal ρ h := rfl
noncomputable def k_turnstoneref30_Parse_R26 : Code := k_turnstoneref30_Parse.r.r.r.r.r.r.r.r.r.l.r.l.r
noncomputable def q_turnstoneref30_Parse_13 (C : Cfg) (Q : X → Rho → Hp → Prop) : X → Rho → Hp → Prop := andThen (Wp C 156 k_turnstoneref30_Parse_R26 (q_turnstoneref30_Parse_14 C Q)) (q_turnstoneref30_Parse_14 C Q)
theorem q_turnstoneref30_Parse_13_normal (C : Cfg) (Q : X → Rho → Hp → Prop) (ρ : Rho) (h : Hp) : q_turnstoneref30_Parse_13 C Q .normal ρ h = Wp C 156 k_turnstoneref30_Parse_R26 (q_turnstoneref30_Parse_14 C Q) ρ h := rfl
theorem q_turnstoneref30_Parse_13_ret (C : Cfg) (Q : X → Rho → Hp → Prop) (ρ : Rho) (h : Hp) : q_turnstoneref30_Parse_13 C Q .ret ρ h = Q .ret ρ h := rfl
theorem q_turnstoneref30_Parse_13_exit4 (C : Cfg) (Q : X → Rho → Hp → Prop) (ρ : Rho) (h : Hp) : q_turnstoneref30_Parse_13 C Q (.exit 4) ρ h = Q .normal ρ h := rfl
noncomputable def k_turnstoneref30_Parse_R27 : Code := k_turnstoneref30_Parse.r.r.r.r.r.r.r.r.r.r.r
noncomputable def k_turnstoneref30_Parse_R28 : Code := k_turnstoneref30_Parse.r.r.r.r.r.r.l.r.l.l.r.l.l.r.l.r.l.r
noncomputable def k_turnstoneref30_Parse_R29 : Code := k_turnstoneref30_Parse.r.r.r.r.r.r.r.r.r.l.r.l.l.r.r.r
noncomputable def k_turnstoneref30_Parse_R30 : Code := k_turnstoneref30_Parse.r.r.r.r.r.r.r.r.r.l.r.l.r.r.l.r
noncomputable def k_turnstoneref30_Parse_R31 : Code := k_turnstoneref30_Parse.r.r.r.r.r.r.r.r.r.l.r.l.r.r.r
noncomputable def q_turnstoneref30_Parse_15 (C : Cfg) (Q : X → Rho → Hp → Prop) : X → Rho → Hp → Prop := andThen (Wp C 156 k_turnstoneref30_Parse_R31 Q) Q
theorem q_turnstoneref30_Parse_15_normal (C : Cfg) (Q : X → Rho → Hp → Prop) (ρ : Rho) (h : Hp) : q_turnstoneref30_Parse_15 C Q .normal ρ h = Wp C 156 k_turnstoneref30_Parse_R31 Q ρ h := rfl
theorem q_turnstoneref30_Parse_15_ret (C : Cfg) (Q : X → Rho → Hp → Prop) (ρ : Rho) (h : Hp) : q_turnstoneref30_Parse_15 C Q .ret ρ h = Q .ret ρ h := rfl
noncomputable def k_turnstoneref30_Parse_R32 : Code := k_turnstoneref30_Parse.r.r.r.r.r.r.r.r.r.l.r.l.r.r.r.l.r
noncomputable def k_turnstoneref30_Parse_R33 : Code := k_turnstoneref30_Parse.r.r.r.r.r.r.r.r.r.l.r.l.r.r.r.r.r
noncomputable def k_turnstoneref30_Parse_R34 : Code := k_turnstoneref30_Parse.r.r.r.r.r.r.r.r.r.l.r.l.r.r.r.r.r.r.r
noncomputable def k_turnstoneref30_Parse_R35 : Code := k_turnstoneref30_Parse.r.r.r.r.r.r.r.r.r.l.r.l.r.r.r.r.r.r.r.r
noncomputable def k_turnstoneref30_Parse_L2 : Code := k_turnstoneref30_Parse.r.r.r.r.r.r.r.r.r.l.r.l.r.r.r.r.r.r.r.r.l.l
noncomputable def q_turnstoneref30_Parse_16 (C : Cfg) (Q : X → Rho → Hp → Prop) : X → Rho → Hp → Prop := blockQ 5 Q
theorem q_turnstoneref30_Parse_16_normal (C : Cfg) (Q : X → Rho → Hp → Prop) (ρ : Rho) (h : Hp) : q_turnstoneref30_Parse_16 C Q .normal ρ h = Q .normal ρ h := rfl
theorem q_turnstoneref30_Parse_16_ret (C : Cfg) (Q : X → Rho → Hp → Prop) (ρ : Rho) (h : Hp) : q_turnstoneref30_Parse_16 C Q .ret ρ h = Q .ret ρ h := rfl
theorem q_turnstoneref30_Parse_16_exit5 (C : Cfg) (Q : X → Rho → Hp → Prop) (ρ : Rho) (h : Hp) : q_turnstoneref30_Parse_16 C Q (.exit 5) ρ h = Q .normal ρ h := rfl
noncomputable def k_turnstoneref30_Parse_R36 : Code := k_turnstoneref30_Parse.r.r.r.r.r.r.r.r.r.l.r.l.r.r.r.r.r.r.r.r.l.l.l.r
noncomputable def k_turnstoneref30_Parse_R37 : Code := k_turnstoneref30_Parse.r.r.r.r.r.r.r.r.r.l.r.l.r.r.r.r.r.r.r.r.l.l.r
noncomputable def q_turnstoneref30_Parse_17 (C : Cfg) (Q : X → Rho → Hp → Prop) : X → Rho → Hp → Prop := andThen (Wp C 156 k_turnstoneref30_Parse_R37 Q) Q
theorem q_turnstoneref30_Parse_17_normal (C : Cfg) (Q : X → Rho → Hp → Prop) (ρ : Rho) (h : Hp) : q_turnstoneref30_Parse_17 C Q .normal ρ h = Wp C 156 k_turnstoneref30_Parse_R37 Q ρ h := rfl
theorem q_turnstoneref30_Parse_17_ret (C : Cfg) (Q : X → Rho → Hp → Prop) (ρ : Rho) (h : Hp) : q_turnstoneref30_Parse_17 C Q .ret ρ h = Q .ret ρ h := rfl
noncomputable def k_turnstoneref30_Parse_R38 : Code := k_turnstoneref30_Parse.r.r.r.r.r.r.r.r.r.l.r.l.r.r.r.r.r.r.r.r.l.l.r.r
noncomputable def q_turnstoneref30_Parse_18 (C : Cfg) (Q : X → Rho → Hp → Prop) : X → Rho → Hp → Prop := blockQ 0 (q_turnstoneref30_Parse_0 C Q)
theorem q_turnstoneref30_Parse_18_normal (C : Cfg) (Q : X → Rho → Hp → Prop) (ρ : Rho) (h : Hp) : q_turnstoneref30_Parse_18 C Q .normal ρ h = Wp C 156 k_turnstoneref30_Parse_R5 Q ρ h := rfl
theorem q_turnstoneref30_Parse_18_ret (C : Cfg) (Q : X → Rho → Hp → Prop) (ρ : Rho) (h : Hp) : q_turnstoneref30_Parse_18 C Q .ret ρ h = Q .ret ρ h := rfl
theorem q_turnstoneref30_Parse_18_exit0 (C : Cfg) (Q : X → Rho → Hp → Prop) (ρ : Rho) (h : Hp) : q_turnstoneref30_Parse_18 C Q (.exit 0) ρ h = Wp C 156 k_turnstoneref30_Parse_R5 Q ρ h := rfl
noncomputable def q_turnstoneref30_Parse_19 (C : Cfg) (Q : X → Rho → Hp → Prop) : X → Rho → Hp → Prop := blockQ 2 (q_turnstoneref30_Parse_3 C Q)
theorem q_turnstoneref30_Parse_19_normal (C : Cfg) (Q : X → Rho → Hp → Prop) (ρ : Rho) (h : Hp) : q_turnstoneref30_Parse_19 C Q .normal ρ h = Wp C 156 k_turnstoneref30_Parse_R10 Q ρ h := rfl
theorem q_turnstoneref30_Parse_19_ret (C : Cfg) (Q : X → Rho → Hp → Prop) (ρ : Rho) (h : Hp) : q_turnstoneref30_Parse_19 C Q .ret ρ h = Q .ret ρ h := rfl
theorem q_turnstoneref30_Parse_19_exit2 (C : Cfg) (Q : X → Rho → Hp → Prop) (ρ : Rho) (h : Hp) : q_turnstoneref30_Parse_19 C Q (.exit 2) ρ h = Wp C 156 k_turnstoneref30_Parse_R10 Q ρ h := rfl
noncomputable def q_turnstoneref30_Parse_20 (C : Cfg) (Q : X → Rho → Hp → Prop) : X → Rho → Hp → Prop := blockQ 4 (q_turnstoneref30_Parse_11 C Q)
theorem q_turnstoneref30_Parse_20_normal (C : Cfg) (Q : X → Rho → Hp → Prop) (ρ : Rho) (h : Hp) : q_turnstoneref30_Parse_20 C Q .normal ρ h = Wp C 156 k_turnstoneref30_Parse_R22 Q ρ h := rfl
theorem q_turnstoneref30_Parse_20_ret (C : Cfg) (Q : X → Rho → Hp → Prop) (ρ : Rho) (h : Hp) : q_turnstoneref30_Parse_20 C Q .ret ρ h = Q .ret ρ h := rfl
theorem q_turnstoneref30_Parse_20_exit4 (C : Cfg) (Q : X → Rho → Hp → Prop) (ρ : Rho) (h : Hp) : q_turnstoneref30_Parse_20 C Q (.exit 4) ρ h = Wp C 156 k_turnstoneref30_Parse_R22 Q ρ h := rfl
noncomputable def q_turnstoneref30_Parse_21 (C : Cfg) (Q : X → Rho → Hp → Prop) : X → Rho → Hp → Prop := blockQ 5 (q_turnstoneref30_Parse_20 C Q)
theorem q_turnstoneref30_Parse_21_normal (C : Cfg) (Q : X → Rho → Hp → Prop) (ρ : Rho) (h : Hp) : q_turnstoneref30_Parse_21 C Q .normal ρ h = Wp C 156 k_turnstoneref30_Parse_R22 Q ρ h := rfl
theorem q_turnstoneref30_Parse_21_ret (C : Cfg) (Q : X → Rho → Hp → Prop) (ρ : Rho) (h : Hp) : q_turnstoneref30_Parse_21 C Q .ret ρ h = Q .ret ρ h := rfl
theorem q_turnstoneref30_Parse_21_exit5 (C : Cfg) (Q : X → Rho → Hp → Prop) (ρ : Rho) (h : Hp) : q_turnstoneref30_Parse_21 C Q (.exit 5) ρ h = Wp C 156 k_turnstoneref30_Parse_R22 Q ρ h := rfl
theorem q_turnstoneref30_Parse_21_exit4 (C : Cfg) (Q : X → Rho → Hp → Prop) (ρ : Rho) (h : Hp) : q_turnstoneref30_Parse_21 C Q (.exit 4) ρ h = Wp C 156 k_turnstoneref30_Parse_R22 Q ρ h := rfl
set_option maxRecDepth 100000 in
theorem e_turnstoneref30_Parse (C : Cfg) (Q : X → Rho → Hp → Prop) (ρ : Rho) (h : Hp) : codeR C 156 k_turnstoneref30_Parse Q ρ h = (
  alP (some (.cells 26 1 true false [(V.int .i64 0), (V.int .i64 0), (V.int .i64 0), (V.int .i64 0), (V.int .i64 0), (V.int .i64 0), (V.int .i64 0), (V.int .i64 0), V.nilSlice], fun l => .ptr l 0)) h fun v2 h1 =>
  oP (some (V.int .i64 0)) fun v3 =>
  Wp C 156 k_turnstoneref30_Parse_R0 Q (rset (rset ρ 2 v2) 3 v3) h1) := by kernel_rfl
set_option maxRecDepth 100000 in
theorem e_turnstoneref30_Parse_R0 (C : Cfg) (Q : X → Rho → Hp → Prop) (ρ : Rho) (h : Hp) : codeR C 156 k_turnstoneref30_Parse_R0 Q ρ h = (
  oP (some (ρ 0)) fun v14 =>
  dcP C n_turnstoneref30_split [v14] h fun v15 h1 =>
  oP (some v15) fun v4 =>
  Wp C 156 k_turnstoneref30_Parse_R1 Q (rset (rset (rset ρ 14 v14) 15 v15) 4 v4) h1) := by kernel_rfl
set_option maxRecDepth 100000 in
theorem e_turnstoneref30_Parse_R1 (C : Cfg) (Q : X → Rho → Hp → Prop) (ρ : Rho) (h : Hp) : codeR C 156 k_turnstoneref30_Parse_R1 Q ρ h = (
  oP (pBuild [(V.int .i64 0), (V.int .i64 0), (V.int .i64 0), (V.int .i64 0), (V.int .i64 0), (V.int .i64 0), (V.int .i64 0), (V.int .i64 0), V.nilSlice] [(0, 1), (1, 1), (2, 1), (3, 1), (4, 5)] []) fun v16 =>
  alP (some (.cells 26 1 true false [(V.int .i64 0), (V.int .i64 0), (V.int .i64 0), (V.int .i64 0), (V.int .i64 0), (V.int .i64 0), (V.int .i64 0), (V.int .i64 0), V.nilSlice], fun l => .ptr l 0)) h fun v5 h1 =>
  valP (pSt 9 v5 v16 h1) fun vu h2 =>
  Wp C 156 k_turnstoneref30_Parse_R2 Q (rset (rset ρ 16 v16) 5 v5) h2) := by kernel_rfl
set_option maxRecDepth 100000 in
theorem e_turnstoneref30_Parse_R2 (C : Cfg) (Q : X → Rho → Hp → Prop) (ρ : Rho) (h : Hp) : codeR C 156 k_turnstoneref30_Parse_R2 Q ρ h = (
  dcP C n_turnstoneref30_Names [] h fun v17 h1 =>
  oP (some v17) fun v6 =>
  Wp C 156 k_turnstoneref30_Parse_R3 Q (rset (rset ρ 17 v17) 6 v6) h1) := by kernel_rfl
set_option maxRecDepth 100000 in
theorem e_turnstoneref30_Parse_R3 (C : Cfg) (Q : X → Rho → Hp → Prop) (ρ : Rho) (h : Hp) : codeR C 156 k_turnstoneref30_Parse_R3 Q ρ h = (
  oP (some (V.int .i64 0)) fun v7 =>
  Wp C 156 k_turnstoneref30_Parse_R4 (q_turnstoneref30_Parse_0 C Q) (rset ρ 7 v7) h) := by kernel_rfl
set_option maxRecDepth 100000 in
theorem e_turnstoneref30_Parse_R5 (C : Cfg) (Q : X → Rho → Hp → Prop) (ρ : Rho) (h : Hp) : codeR C 156 k_turnstoneref30_Parse_R5 Q ρ h = (
  oP (some V.nilSlice) fun v8 =>
  Wp C 156 k_turnstoneref30_Parse_R6 Q (rset ρ 8 v8) h) := by kernel_rfl
set_option maxRecDepth 100000 in
theorem e_turnstoneref30_Parse_R4 (C : Cfg) (Q : X → Rho → Hp → Prop) (ρ : Rho) (h : Hp) : codeR C 156 k_turnstoneref30_Parse_R4 Q ρ h = (
  Wp C 156 (.loop k_turnstoneref30_Parse_L0) (q_turnstoneref30_Parse_1 C Q) ρ h) := by kernel_rfl
set_option maxRecDepth 100000 in
theorem e_turnstoneref30_Parse_R6 (C : Cfg) (Q : X → Rho → Hp → Prop) (ρ : Rho) (h : Hp) : codeR C 156 k_turnstoneref30_Parse_R6 Q ρ h = (
  oP (some (V.int .i64 1)) fun v9 =>
  Wp C 156 k_turnstoneref30_Parse_R9 (q_turnstoneref30_Parse_3 C Q) (rset ρ 9 v9) h) := by kernel_rfl
set_option maxRecDepth 100000 in
theorem e_turnstoneref30_Parse_R10 (C : Cfg) (Q : X → Rho → Hp → Prop) (ρ : Rho) (h : Hp) : codeR C 156 k_turnstoneref30_Parse_R10 Q ρ h = (
  oP (pBuildA 1 [(V.int .i64 0), (V.int .i64 0), (V.int .i64 0), (V.int .i64 0), (V.int .i64 0), (V.int .i64 0), (V.int .i64 0), (V.int .i64 0)] [(0, (V.int .i64 (-1))), (1, (V.int .i64 1)), (2, (V.int .i64 2)), (3, (V.int .i64 1)), (4, (V.int .i64 2)), (5, (V.int .i64 1)), (6, (V.int .i64 4)), (7, (V.int .i64 1))]) fun v56 =>
  oP (pFA 0 (ρ 5)) fun v57 =>
  oP (pLd v57 h) fun v58 =>
  oP (pIdx 8 1 v56 v58) fun v59 =>
  oP (some v59) fun v12 =>
  Wp C 156 k_turnstoneref30_Parse_R13 Q (rset (rset (rset (rset (rset ρ 56 v56) 57 v57) 58 v58) 59 v59) 12 v12) h) := by kernel_rfl
set_option maxRecDepth 100000 in
theorem e_turnstoneref30_Parse_L0 (C : Cfg) (Q : X → Rho → Hp → Prop) (ρ : Rho) (h : Hp) : codeR C 156 k_turnstoneref30_Parse_L0 Q ρ h = (
  oP (some (ρ 7)) fun v18 =>
  oP (some (ρ 6)) fun v19 =>
  oP (pLen v19) fun v20 =>
  oP (hbin .lss 3 v18 v20) fun v21 =>
  Wp C 156 k_turnstoneref30_Parse_R7 (q_turnstoneref30_Parse_2 C Q) (rset (rset (rset (rset ρ 18 v18) 19 v19) 20 v20) 21 v21) h) := by kernel_rfl
set_option maxRecDepth 100000 in
theorem e_turnstoneref30_Parse_R9 (C : Cfg) (Q : X → Rho → Hp → Prop) (ρ : Rho) (h : Hp) : codeR C 156 k_turnstoneref30_Parse_R9 Q ρ h = (
  Wp C 156 (.loop k_turnstoneref30_Parse_L1) (q_turnstoneref30_Parse_6 C Q) ρ h) := by kernel_rfl
set_option maxRecDepth 100000 in
theorem e_turnstoneref30_Parse_R13 (C : Cfg) (Q : X → Rho → Hp → Prop) (ρ : Rho) (h : Hp) : codeR C 156 k_turnstoneref30_Parse_R13 Q ρ h = (
  oP (pFA 0 (ρ 5)) fun v60 =>
  oP (pLd v60 h) fun v61 =>
  oP (hbin .eql 3 v61 (V.int .i64 0)) fun v62 =>
  oP (some v62) fun v63 =>
  oP (pGd false v63) fun b4 =>
  oP (gV b4 (some (ρ 8))) fun v64 =>
  oP (pGd false v63) fun b5 =>
  oP (gV b5 (pLen v64)) fun v65 =>
  oP (pGd false v63) fun b6 =>
  oP (gV b6 (some (ρ 12))) fun v66 =>
  oP (pGd false v63) fun b7 =>
  oP (gV b7 (hbin .neq 3 v65 v66)) fun v67 =>
  oP (pGd false v63) fun b8 =>
  oP (gV b8 (some v67)) fun v68 =>
  oP (pGd true v68) fun b9 =>
  oP (gV b9 (pFA 0 (ρ 5))) fun v69 =>
  oP (pGd true v68) fun b10 =>
  oP (gV b10 (pLd v69 h)) fun v70 =>
  oP (pGd true v68) fun b11 =>
  oP (gV b11 (hbin .neq 3 v70 (V.int .i64 6))) fun v71 =>
  oP (pGd true v68) fun b12 =>
  oP (gV b12 (some v71)) fun v72 =>
  oP (pGd false v72) fun b13 =>
  oP (gV b13 (some (ρ 8))) fun v73 =>
  oP (pGd false v72) fun b14 =>
  oP (gV b14 (pLen v73)) fun v74 =>
  oP (pGd false v72) fun b15 =>
  oP (gV b15 (hbin .lss 3 v74 (V.int .i64 4))) fun v75 =>
  oP (pGd true v68) fun b16 =>
  oP (gV b16 (pPick v72 (V.bool true) v75)) fun v76 =>
  oP (pGd true v68) fun b17 =>
  oP (gV b17 (some v76)) fun v77 =>
  oP (pGd false v77) fun b18 =>
  oP (gV b18 (some (ρ 8))) fun v78 =>
  oP (pGd false v77) fun b19 =>
  oP (gV b19 (pLen v78)) fun v79 =>
  oP (pGd false v77) fun b20 =>
  oP (gV b20 (hbin .rem 3 v79 (V.int .i64 2))) fun v80 =>
  oP (pGd false v77) fun b21 =>
  oP (gV b21 (hbin .eql 3 v80 (V.int .i64 1))) fun v81 =>
  oP (pGd true v68) fun b22 =>
  oP (gV b22 (pPick v77 (V.bool true) v81)) fun v82 =>
  oP (pGd true v68) fun b23 =>
  oP (gV b23 (some v82)) fun v83 =>
  oP (pGd false v83) fun b24 =>
  oP (gV b24 (some (ρ 8))) fun v84 =>
  oP (pGd false v83) fun b25 =>
  oP (gV b25 (pLen v84)) fun v85 =>
  oP (pGd false v83) fun b26 =>
  oP (gV b26 (hbin .gtr 3 v85 (V.int .i64 20))) fun v86 =>
  oP (pGd true v68) fun b27 =>
  oP (gV b27 (pPick v83 (V.bool true) v86)) fun v87 =>
  oP (pGd false v63) fun b28 =>
  oP (gV b28 (pPick v68 v87 (V.bool false))) fun v88 =>
  oP (pPick v63 (V.bool true) v88) fun v89 =>
  Wp C 156 k_turnstoneref30_Parse_R16 (q_turnstoneref30_Parse_8 C Q) (rset (rset (rset (rset (rset (rset (rset (rset (rset (rset (rset (rset (rset (rset (rset (rset (rset (rset (rset (rset (rset (rset (rset (rset (rset (rset (rset (rset (rset (rset ρ 60 v60) 61 v61) 62 v62) 63 v63) 64 v64) 65 v65) 66 v66) 67 v67) 68 v68) 69 v69) 70 v70) 71 v71) 72 v72) 73 v73) 74 v74) 75 v75) 76 v76) 77 v77) 78 v78) 79 v79) 80 v80) 81 v81) 82 v82) 83 v83) 84 v84) 85 v85) 86 v86) 87 v87) 88 v88) 89 v89) h) := by kernel_rfl
set_option maxRecDepth 100000 in
theorem e_turnstoneref30_Parse_R8 (C : Cfg) (Q : X → Rho → Hp → Prop) (ρ : Rho) (h : Hp) : codeR C 156 k_turnstoneref30_Parse_R8 Q ρ h = (
  oP (some (ρ 4)) fun v24 =>
  oP (pIx 1 v24 (V.int .i64 0)) fun v25 =>
  oP (pLd v25 h) fun v26 =>
  oP (some (ρ 6)) fun v27 =>
  oP (some (ρ 7)) fun v28 =>
  oP (pIx 1 v27 v28) fun v29 =>
  oP (pLd v29 h) fun v30 =>
  oP (hbin .eql 9 v26 v30) fun v31 =>
  ((hbin .eql 9 v26 v30 = some v31) ∧ 
  ((pLd v29 h = some v30) ∧ 
  ((pIx 1 v27 v28 = some v29) ∧ 
  ((some (ρ 7) = some v28) ∧ 
  ((some (ρ 6) = some v27) ∧ 
  ((pLd v25 h = some v26) ∧ 
  ((pIx 1 v24 (V.int .i64 0) = some v25) ∧ 
  ((some (ρ 4) = some v24) ∧ 
  Wp C 156 k_turnstoneref30_Parse_R11 (q_turnstoneref30_Parse_4 C Q) (rset (rset (rset (rset (rset (rset (rset (rset ρ 24 v24) 25 v25) 26 v26) 27 v27) 28 v28) 29 v29) 30 v30) 31 v31) h))))))))) := by kernel_rfl
set_option maxRecDepth 100000 in
theorem e_turnstoneref30_Parse_R17 (C : Cfg) (Q : X → Rho → Hp → Prop) (ρ : Rho) (h : Hp) : codeR C 156 k_turnstoneref30_Parse_R17 Q ρ h = (
  oP (pFA 0 (ρ 5)) fun v91 =>
  oP (pLd v91 h) fun v92 =>
  Wp C 156 k_turnstoneref30_Parse_R21 (q_turnstoneref30_Parse_11 C Q) (rset (rset ρ 91 v91) 92 v92) h) := by kernel_rfl
set_option maxRecDepth 100000 in
theorem e_turnstoneref30_Parse_R7 (C : Cfg) (Q : X → Rho → Hp → Prop) (ρ : Rho) (h : Hp) : codeR C 156 k_turnstoneref30_Parse_R7 Q ρ h = (
  oP (some (ρ 21)) fun c =>
  bP c (
    Q .normal ρ h) (
    Q (.exit 0) ρ h)) := by kernel_rfl
set_option maxRecDepth 100000 in
theorem e_turnstoneref30_Parse_R12 (C : Cfg) (Q : X → Rho → Hp → Prop) (ρ : Rho) (h : Hp) : codeR C 156 k_turnstoneref30_Parse_R12 Q ρ h = (
  oP (some (ρ 7)) fun v22 =>
  oP (hbin .add 3 v22 (V.int .i64 1)) fun v23 =>
  oP (some v23) fun v7 =>
  Q .normal (rset (rset (rset ρ 22 v22) 23 v23) 7 v7) h) := by kernel_rfl
set_option maxRecDepth 100000 in
theorem e_turnstoneref30_Parse_L1 (C : Cfg) (Q : X → Rho → Hp → Prop) (ρ : Rho) (h : Hp) : codeR C 156 k_turnstoneref30_Parse_L1 Q ρ h = (
  oP (some (ρ 9)) fun v35 =>
  oP (some (ρ 4)) fun v36 =>
  oP (pLen v36) fun v37 =>
  oP (hbin .lss 3 v35 v37) fun v38 =>
  Wp C 156 k_turnstoneref30_Parse_R14 (q_turnstoneref30_Parse_7 C Q) (rset (rset (rset (rset ρ 35 v35) 36 v36) 37 v37) 38 v38) h) := by kernel_rfl
set_option maxRecDepth 100000 in
theorem e_turnstoneref30_Parse_R16 (C : Cfg) (Q : X → Rho → Hp → Prop) (ρ : Rho) (h : Hp) : codeR C 156 k_turnstoneref30_Parse_R16 Q ρ h = (
  oP (some (ρ 89)) fun c =>
  bP c (
    oP (pBuild [(V.int .i64 0), (V.int .i64 0), (V.int .i64 0), (V.int .i64 0), (V.int .i64 0), (V.int .i64 0), (V.int .i64 0), (V.int .i64 0), V.nilSlice] [(0, 1), (1, 1), (2, 1), (3, 1), (4, 5)] []) fun v90 =>
    valP (pSt 9 (ρ 2) v90 h) fun vu h1 =>
    oP (some (V.int .i64 5)) fun v3 =>
    Wp C 156 k_turnstoneref30_Parse_R20 Q (rset (rset ρ 90 v90) 3 v3) h1) (
    Q .normal ρ h)) := by kernel_rfl
set_option maxRecDepth 100000 in
theorem e_turnstoneref30_Parse_R22 (C : Cfg) (Q : X → Rho → Hp → Prop) (ρ : Rho) (h : Hp) : codeR C 156 k_turnstoneref30_Parse_R22 Q ρ h = (
  oP (pLdA 9 (ρ 5) h) fun v155 =>
  valP (pSt 9 (ρ 2) v155 h) fun vu h1 =>
  oP (some (V.int .i64 0)) fun v3 =>
  Wp C 156 k_turnstoneref30_Parse_R27 Q (rset (rset ρ 155 v155) 3 v3) h1) := by kernel_rfl
set_option maxRecDepth 100000 in
theorem e_turnstoneref30_Parse_R15 (C : Cfg) (Q : X → Rho → Hp → Prop) (ρ : Rho) (h : Hp) : codeR C 156 k_turnstoneref30_Parse_R15 Q ρ h = (
  oP (some (ρ 4)) fun v42 =>
  oP (some (ρ 9)) fun v43 =>
  oP (pIx 1 v42 v43) fun v44 =>
  oP (pLd v44 h) fun v45 =>
  dcP C n_turnstoneref30_number [v45] h fun v46 h1 =>
  oP (some v46) fun v41 =>
  oP (pExt 0 v41) fun v47 =>
  oP (pExt 1 v41) fun v48 =>
  oP (some v47) fun v10 =>
  oP (some v48) fun v11 =>
  Wp C 156 k_turnstoneref30_Parse_R18 (q_turnstoneref30_Parse_9 C Q) (rset (rset (rset (rset (rset (rset (rset (rset (rset (rset ρ 42 v42) 43 v43) 44 v44) 45 v45) 46 v46) 41 v41) 47 v47) 48 v48) 10 v10) 11 v11) h1) := by kernel_rfl
set_option maxRecDepth 100000 in
theorem e_turnstoneref30_Parse_R21 (C : Cfg) (Q : X → Rho → Hp → Prop) (ρ : Rho) (h : Hp) : codeR C 156 k_turnstoneref30_Parse_R21 Q ρ h = (
  oP (hbin .eql 3 (ρ 92) (V.int .i64 1)) fun v131 =>
  oP (some v131) fun v130 =>
  Wp C 156 k_turnstoneref30_Parse_R25 (q_turnstoneref30_Parse_13 C Q) (rset (rset ρ 131 v131) 130 v130) h) := by kernel_rfl
set_option maxRecDepth 100000 in
theorem e_turnstoneref30_Parse_R27 (C : Cfg) (Q : X → Rho → Hp → Prop) (ρ : Rho) (h : Hp) : codeR C 156 k_turnstoneref30_Parse_R27 Q ρ h = (
  Q .ret ρ h) := by kernel_rfl
set_option maxRecDepth 100000 in
theorem e_turnstoneref30_Parse_R11 (C : Cfg) (Q : X → Rho → Hp → Prop) (ρ : Rho) (h : Hp) : codeR C 156 k_turnstoneref30_Parse_R11 Q ρ h = (
  oP (some (ρ 31)) fun c =>
  bP c (
    oP (some (ρ 7)) fun v32 =>
    oP (hbin .add 3 v32 (V.int .i64 1)) fun v33 =>
    oP (pFA 0 (ρ 5)) fun v34 =>
    valP (pSt 1 v34 v33 h) fun vu h1 =>
    Q .normal (rset (rset (rset ρ 32 v32) 33 v33) 34 v34) h1) (
    Q .normal ρ h)) := by kernel_rfl
set_option maxRecDepth 100000 in
theorem e_turnstoneref30_Parse_R14 (C : Cfg) (Q : X → Rho → Hp → Prop) (ρ : Rho) (h : Hp) : codeR C 156 k_turnstoneref30_Parse_R14 Q ρ h = (
  oP (some (ρ 38)) fun c =>
  bP c (
    Q .normal ρ h) (
    Q (.exit 2) ρ h)) := by kernel_rfl
set_option maxRecDepth 100000 in
theorem e_turnstoneref30_Parse_R19 (C : Cfg) (Q : X → Rho → Hp → Prop) (ρ : Rho) (h : Hp) : codeR C 156 k_turnstoneref30_Parse_R19 Q ρ h = (
  oP (some (ρ 9)) fun v39 =>
  oP (hbin .add 3 v39 (V.int .i64 1)) fun v40 =>
  oP (some v40) fun v9 =>
  Q .normal (rset (rset (rset ρ 39 v39) 40 v40) 9 v9) h) := by kernel_rfl
set_option maxRecDepth 100000 in
theorem e_turnstoneref30_Parse_R20 (C : Cfg) (Q : X → Rho → Hp → Prop) (ρ : Rho) (h : Hp) : codeR C 156 k_turnstoneref30_Parse_R20 Q ρ h = (
  Q .ret ρ h) := by kernel_rfl
set_option maxRecDepth 100000 in
theorem e_turnstoneref30_Parse_R26 (C : Cfg) (Q : X → Rho → Hp → Prop) (ρ : Rho) (h : Hp) : codeR C 156 k_turnstoneref30_Parse_R26 Q ρ h = (
  oP (some (ρ 130)) fun c =>
  bP c (
    oP (some (ρ 8)) fun v134 =>
    oP (pIx 1 v134 (V.int .i64 0)) fun v135 =>
    oP (pLd v135 h) fun v136 =>
    oP (pFA 3 (ρ 5)) fun v137 =>
    valP (pSt 1 v137 v136 h) fun vu h1 =>
    Q .normal (rset (rset (rset (rset ρ 134 v134) 135 v135) 136 v136) 137 v137) h1) (
    oP (hbin .eql 3 (ρ 92) (V.int .i64 2)) fun v139 =>
    oP (some v139) fun v138 =>
    Wp C 156 k_turnstoneref30_Parse_R30 (q_turnstoneref30_Parse_15 C Q) (rset (rset ρ 139 v139) 138 v138) h)) := by kernel_rfl
set_option maxRecDepth 100000 in
theorem e_turnstoneref30_Parse_R18 (C : Cfg) (Q : X → Rho → Hp → Prop) (ρ : Rho) (h : Hp) : codeR C 156 k_turnstoneref30_Parse_R18 Q ρ h = (
  oP (some (ρ 11)) fun v49 =>
  oP (hun .not v49) fun v50 =>
  Wp C 156 k_turnstoneref30_Parse_R23 (q_turnstoneref30_Parse_12 C Q) (rset (rset ρ 49 v49) 50 v50) h) := by kernel_rfl
set_option maxRecDepth 100000 in
theorem e_turnstoneref30_Parse_R25 (C : Cfg) (Q : X → Rho → Hp → Prop) (ρ : Rho) (h : Hp) : codeR C 156 k_turnstoneref30_Parse_R25 Q ρ h = (
  oP (some (ρ 130)) fun c =>
  bP c (
    Q .normal ρ h) (
    oP (hbin .eql 3 (ρ 92) (V.int .i64 3)) fun v132 =>
    oP (some v132) fun v130 =>
    Wp C 156 k_turnstoneref30_Parse_R29 Q (rset (rset ρ 132 v132) 130 v130) h)) := by kernel_rfl
set_option maxRecDepth 100000 in
theorem e_turnstoneref30_Parse_R24 (C : Cfg) (Q : X → Rho → Hp → Prop) (ρ : Rho) (h : Hp) : codeR C 156 k_turnstoneref30_Parse_R24 Q ρ h = (
  oP (some (ρ 8)) fun v52 =>
  oP (some (ρ 10)) fun v53 =>
  alP (pBS 3 1 1 (V.int .i64 0) [(0, v53)]) h fun v54 h1 =>
  valP (happend 3 1 8 v52 v54 h1) fun v55 h2 =>
  oP (some v55) fun v8 =>
  Q .normal (rset (rset (rset (rset (rset ρ 52 v52) 53 v53) 54 v54) 55 v55) 8 v8) h2) := by kernel_rfl
set_option maxRecDepth 100000 in
theorem e_turnstoneref30_Parse_R31 (C : Cfg) (Q : X → Rho → Hp → Prop) (ρ : Rho) (h : Hp) : codeR C 156 k_turnstoneref30_Parse_R31 Q ρ h = (
  oP (some (ρ 138)) fun c =>
  bP c (
    oP (some (ρ 8)) fun v141 =>
    oP (pIx 1 v141 (V.int .i64 0)) fun v142 =>
    oP (pLd v142 h) fun v143 =>
    oP (pFA 1 (ρ 5)) fun v144 =>
    valP (pSt 1 v144 v143 h) fun vu h1 =>
    Wp C 156 k_turnstoneref30_Parse_R32 Q (rset (rset (rset (rset ρ 141 v141) 142 v142) 143 v143) 144 v144) h1) (
    oP (hbin .eql 3 (ρ 92) (V.int .i64 5)) fun v150 =>
    oP (some v150) fun v149 =>
    Wp C 156 k_turnstoneref30_Parse_R33 Q (rset (rset ρ 150 v150) 149 v149) h)) := by kernel_rfl
set_option maxRecDepth 100000 in
theorem e_turnstoneref30_Parse_R23 (C : Cfg) (Q : X → Rho → Hp → Prop) (ρ : Rho) (h : Hp) : codeR C 156 k_turnstoneref30_Parse_R23 Q ρ h = (
  oP (some (ρ 50)) fun c =>
  bP c (
    oP (pBuild [(V.int .i64 0), (V.int .i64 0), (V.int .i64 0), (V.int .i64 0), (V.int .i64 0), (V.int .i64 0), (V.int .i64 0), (V.int .i64 0), V.nilSlice] [(0, 1), (1, 1), (2, 1), (3, 1), (4, 5)] []) fun v51 =>
    valP (pSt 9 (ρ 2) v51 h) fun vu h1 =>
    oP (some (V.int .i64 5)) fun v3 =>
    Wp C 156 k_turnstoneref30_Parse_R28 Q (rset (rset ρ 51 v51) 3 v3) h1) (
    Q .normal ρ h)) := by kernel_rfl
set_option maxRecDepth 100000 in
theorem e_turnstoneref30_Parse_R29 (C : Cfg) (Q : X → Rho → Hp → Prop) (ρ : Rho) (h : Hp) : codeR C 156 k_turnstoneref30_Parse_R29 Q ρ h = (
  oP (some (ρ 130)) fun c =>
  bP c (
    Q .normal ρ h) (
    oP (hbin .eql 3 (ρ 92) (V.int .i64 7)) fun v133 =>
    oP (some v133) fun v130 =>
    Q .normal (rset (rset ρ 133 v133) 130 v130) h)) := by kernel_rfl
set_option maxRecDepth 100000 in
theorem e_turnstoneref30_Parse_R30 (C : Cfg) (Q : X → Rho → Hp → Prop) (ρ : Rho) (h : Hp) : codeR C 156 k_turnstoneref30_Parse_R30 Q ρ h = (
  oP (some (ρ 138)) fun c =>
  bP c (
    Q .normal ρ h) (
    oP (hbin .eql 3 (ρ 92) (V.int .i64 4)) fun v140 =>
    oP (some v140) fun v138 =>
    Q .normal (rset (rset ρ 140 v140) 138 v138) h)) := by kernel_rfl
set_option maxRecDepth 100000 in
theorem e_turnstoneref30_Parse_R32 (C : Cfg) (Q : X → Rho → Hp → Prop) (ρ : Rho) (h : Hp) : codeR C 156 k_turnstoneref30_Parse_R32 Q ρ h = (
  oP (some (ρ 8)) fun v145 =>
  oP (pIx 1 v145 (V.int .i64 1)) fun v146 =>
  oP (pLd v146 h) fun v147 =>
  oP (pFA 2 (ρ 5)) fun v148 =>
  valP (pSt 1 v148 v147 h) fun vu h1 =>
  Q .normal (rset (rset (rset (rset ρ 145 v145) 146 v146) 147 v147) 148 v148) h1) := by kernel_rfl
set_option maxRecDepth 100000 in
theorem e_turnstoneref30_Parse_R33 (C : Cfg) (Q : X → Rho → Hp → Prop) (ρ : Rho) (h : Hp) : codeR C 156 k_turnstoneref30_Parse_R33 Q ρ h = (
  oP (some (ρ 149)) fun c =>
  bP c (
    oP (some (ρ 8)) fun v151 =>
    oP (pIx 1 v151 (V.int .i64 0)) fun v152 =>
    oP (pLd v152 h) fun v153 =>
    oP (pFA 1 (ρ 5)) fun v154 =>
    valP (pSt 1 v154 v153 h) fun vu h1 =>
    Q .normal (rset (rset (rset (rset ρ 151 v151) 152 v152) 153 v153) 154 v154) h1) (
    oP (some (ρ 8)) fun v93 =>
    oP (pIx 1 v93 (V.int .i64 0)) fun v94 =>
    oP (pLd v94 h) fun v95 =>
    oP (some (ρ 8)) fun v96 =>
    oP (pIx 1 v96 (V.int .i64 1)) fun v97 =>
    oP (pLd v97 h) fun v98 =>
    oP (some (ρ 8)) fun v99 =>
    oP (pIx 1 v99 (V.int .i64 2)) fun v100 =>
    oP (pLd v100 h) fun v101 =>
    oP (some (ρ 8)) fun v102 =>
    oP (pIx 1 v102 (V.int .i64 3)) fun v103 =>
    oP (pLd v103 h) fun v104 =>
    oP (pBuild [(V.int .i64 0), (V.int .i64 0), (V.int .i64 0), (V.int .i64 0), V.nilSlice] [(0, 1), (1, 1), (2, 1), (3, 1), (4, 1)] [(0, v95), (1, v98), (2, v101), (3, v104)]) fun v105 =>
    oP (pFA 4 (ρ 5)) fun v106 =>
    ((pFA 4 (ρ 5) = some v106) ∧ 
    ((pBuild [(V.int .i64 0), (V.int .i64 0), (V.int .i64 0), (V.int .i64 0), V.nilSlice] [(0, 1), (1, 1), (2, 1), (3, 1), (4, 1)] [(0, v95), (1, v98), (2, v101), (3, v104)] = some v105) ∧ 
    ((pLd v103 h = some v104) ∧ 
    ((pIx 1 v102 (V.int .i64 3) = some v103) ∧ 
    ((some (ρ 8) = some v102) ∧ 
    ((pLd v100 h = some v101) ∧ 
    ((pIx 1 v99 (V.int .i64 2) = some v100) ∧ 
    ((some (ρ 8) = some v99) ∧ 
    ((pLd v97 h = some v98) ∧ 
    ((pIx 1 v96 (V.int .i64 1) = some v97) ∧ 
    ((some (ρ 8) = some v96) ∧ 
    ((pLd v94 h = some v95) ∧ 
    ((pIx 1 v93 (V.int .i64 0) = some v94) ∧ 
    ((some (ρ 8) = some v93) ∧ 
    valP (pSt 5 v106 v105 h) fun vu_1 h2 =>
    (h.next ≤ h2.next ∧
    Wp C 156 k_turnstoneref30_Parse_R34 Q (rset (rset (rset (rset (rset (rset (rset (rset (rset (rset (rset (rset (rset (rset ρ 93 v93) 94 v94) 95 v95) 96 v96) 97 v97) 98 v98) 99 v99) 100 v100) 101 v101) 102 v102) 103 v103) 104 v104) 105 v105) 106 v106) h2))))))))))))))))) := by kernel_rfl
set_option maxRecDepth 100000 in
theorem e_turnstoneref30_Parse_R28 (C : Cfg) (Q : X → Rho → Hp → Prop) (ρ : Rho) (h : Hp) : codeR C 156 k_turnstoneref30_Parse_R28 Q ρ h = (
  Q .ret ρ h) := by kernel_rfl
set_option maxRecDepth 100000 in
theorem e_turnstoneref30_Parse_R34 (C : Cfg) (Q : X → Rho → Hp → Prop) (ρ : Rho) (h : Hp) : codeR C 156 k_turnstoneref30_Parse_R34 Q ρ h = (
  oP (some (V.int .i64 4)) fun v13 =>
  Wp C 156 k_turnstoneref30_Parse_R35 Q (rset ρ 13 v13) h) := by kernel_rfl
set_option maxRecDepth 100000 in
theorem e_turnstoneref30_Parse_R35 (C : Cfg) (Q : X → Rho → Hp → Prop) (ρ : Rho) (h : Hp) : codeR C 156 k_turnstoneref30_Parse_R35 Q ρ h = (
  Wp C 156 (.loop k_turnstoneref30_Parse_L2) (q_turnstoneref30_Parse_16 C Q) ρ h) := by kernel_rfl
set_option maxRecDepth 100000 in
theorem e_turnstoneref30_Parse_L2 (C : Cfg) (Q : X → Rho → Hp → Prop) (ρ : Rho) (h : Hp) : codeR C 156 k_turnstoneref30_Parse_L2 Q ρ h = (
  oP (some (ρ 13)) fun v107 =>
  oP (some (ρ 8)) fun v108 =>
  oP (pLen v108) fun v109 =>
  oP (hbin .lss 3 v107 v109) fun v110 =>
  Wp C 156 k_turnstoneref30_Parse_R36 (q_turnstoneref30_Parse_17 C Q) (rset (rset (rset (rset ρ 107 v107) 108 v108) 109 v109) 110 v110) h) := by kernel_rfl
set_option maxRecDepth 100000 in
theorem e_turnstoneref30_Parse_R37 (C : Cfg) (Q : X → Rho → Hp → Prop) (ρ : Rho) (h : Hp) : codeR C 156 k_turnstoneref30_Parse_R37 Q ρ h = (
  oP (pFA 4 (ρ 5)) fun v113 =>
  oP (pFA 4 v113) fun v114 =>
  oP (pLd v114 h) fun v115 =>
  oP (some (ρ 8)) fun v116 =>
  oP (some (ρ 13)) fun v117 =>
  oP (pIx 1 v116 v117) fun v118 =>
  oP (pLd v118 h) fun v119 =>
  oP (some (ρ 8)) fun v120 =>
  oP (some (ρ 13)) fun v121 =>
  oP (hbin .add 3 v121 (V.int .i64 1)) fun v122 =>
  oP (pIx 1 v120 v122) fun v123 =>
  oP (pLd v123 h) fun v124 =>
  oP (pBuild [(V.int .i64 0), (V.int .i64 0)] [(0, 1), (1, 1)] [(0, v119), (1, v124)]) fun v125 =>
  alO (pBS 60 2 1 (V.agg [(V.int .i64 0), (V.int .i64 0)]) [(0, v125)]) h fun o13 v126 h1 =>
  ((h1.get (h.next) = some o13 ∧ O.beq o13 o13 = true) ∧ 
  ((pBuild [(V.int .i64 0), (V.int .i64 0)] [(0, 1), (1, 1)] [(0, v119), (1, v124)] = some v125) ∧ 
  ((pLd v123 h1 = some v124) ∧ 
  ((pIx 1 v120 v122 = some v123) ∧ 
  ((hbin .add 3 v121 (V.int .i64 1) = some v122) ∧ 
  ((some (ρ 13) = some v121) ∧ 
  ((some (ρ 8) = some v120) ∧ 
  ((pLd v118 h1 = some v119) ∧ 
  ((pIx 1 v116 v117 = some v118) ∧ 
  ((some (ρ 13) = some v117) ∧ 
  ((some (ρ 8) = some v116) ∧ 
  ((pLd v114 h1 = some v115) ∧ 
  ((pFA 4 v113 = some v114) ∧ 
  ((pFA 4 (ρ 5) = some v113) ∧ 
  valP (happend 60 2 16 v115 v126 h1) fun v127 h2 =>
  (h1.next ≤ h2.next ∧
  oP (pFA 4 (ρ 5)) fun v128 =>
  oP (pFA 4 v128) fun v129 =>
  ((pFA 4 v128 = some v129) ∧ 
  ((pFA 4 (ρ 5) = some v128) ∧ 
  valP (pSt 1 v129 v127 h2) fun vu h3 =>
  (h2.next ≤ h3.next ∧
  Wp C 156 k_turnstoneref30_Parse_R38 Q (rset (rset (rset (rset (rset (rset (rset (rset (rset (rset (rset (rset (rset (rset (rset (rset (rset ρ 113 v113) 114 v114) 115 v115) 116 v116) 117 v117) 118 v118) 119 v119) 120 v120) 121 v121) 122 v122) 123 v123) 124 v124) 125 v125) 126 v126) 127 v127) 128 v128) 129 v129) h3))))))))))))))))))) := by kernel_rfl
set_option maxRecDepth 100000 in
theorem e_turnstoneref30_Parse_R36 (C : Cfg) (Q : X → Rho → Hp → Prop) (ρ : Rho) (h : Hp) : codeR C 156 k_turnstoneref30_Parse_R36 Q ρ h = (
  oP (some (ρ 110)) fun c =>
  bP c (
    Q .normal ρ h) (
    Q (.exit 5) ρ h)) := by kernel_rfl
set_option maxRecDepth 100000 in
theorem e_turnstoneref30_Parse_R38 (C : Cfg) (Q : X → Rho → Hp → Prop) (ρ : Rho) (h : Hp) : codeR C 156 k_turnstoneref30_Parse_R38 Q ρ h = (
  oP (some (ρ 13)) fun v111 =>
  oP (hbin .add 3 v111 (V.int .i64 2)) fun v112 =>
  oP (some v112) fun v13 =>
  Q .normal (rset (rset (rset ρ 111 v111) 112 v112) 13 v13) h) := by kernel_rfl
theorem f_turnstoneref30_Parse {C : Cfg} (hs : C.start = startF) (a0 : V) {h : Hp} {Q : V → Hp → Prop} (hk : C.K n_turnstoneref30_Parse [a0] h = none) (H : codeR C 156 k_turnstoneref30_Parse (bodyQ [.cell 2 26, .tmp 3] Q) (argsR [a0]) h) : cP C n_turnstoneref30_Parse [a0] h Q :=
  cP.funcN hs (show P0.funcs[9]? = some Tryz.f9 by unfold P0; exact Tryz.func9) (by kernel_rfl) (by kernel_rfl) (by kernel_rfl) hk (Nat.le_of_ble_eq_true rfl) (Wp.code _ H)
theorem r_turnstoneref30_Parse (Q : V → Hp → Prop) (ρ : Rho) (h : Hp) : retP [.cell 2 26, .tmp 3] Q ρ h = (oP (pLdA 9 (ρ 2) h) fun r0 => Q (V.tuple [r0, (ρ 3)]) h) := by
  have e0 : (resC (.cell 2 26)).f (.fn ρ []) h = pLdA 9 (ρ 2) h := by kernel_rfl
  unfold retP
  simp only [resVs, e0]
  cases pLdA 9 (ρ 2) h with
  | none => rfl
  | some r0 =>
  rfl
def J_turnstoneref30_Parse_L0 (C : Cfg) (Q : V → Hp → Prop) (x2 x4 x5 x6 x7 : V) (h : Hp) : Prop := ∀ ρ : Rho, ρ 2 = x2 → ρ 4 = x4 → ρ 5 = x5 → ρ 6 = x6 → ρ 7 = x7 → Wp C 156 (.loop k_turnstoneref30_Parse_L0) (q_turnstoneref30_Parse_18 C (bodyQ [.cell 2 26, .tmp 3] Q)) ρ h
def J_turnstoneref30_Parse_R12 (C : Cfg) (Q : V → Hp → Prop) (KL0 : V → V → V → V → V → Hp → Prop) (x2 x4 x5 x6 x7 : V) (h : Hp) : Prop := ∀ ρ : Rho, ρ 2 = x2 → ρ 4 = x4 → ρ 5 = x5 → ρ 6 = x6 → ρ 7 = x7 → Wp C 156 k_turnstoneref30_Parse_R12 (andThen (fun ρ h => KL0 (ρ 2) (ρ 4) (ρ 5) (ρ 6) (ρ 7) h) (q_turnstoneref30_Parse_18 C (bodyQ [.cell 2 26, .tmp 3] Q))) ρ h
def J_turnstoneref30_Parse_L1 (C : Cfg) (Q : V → Hp → Prop) (x2 x4 x5 x8 x9 : V) (h : Hp) : Prop := ∀ ρ : Rho, ρ 2 = x2 → ρ 4 = x4 → ρ 5 = x5 → ρ 8 = x8 → ρ 9 = x9 → Wp C 156 (.loop k_turnstoneref30_Parse_L1) (q_turnstoneref30_Parse_19 C (bodyQ [.cell 2 26, .tmp 3] Q)) ρ h
def J_turnstoneref30_Parse_R26 (C : Cfg) (Q : V → Hp → Prop) (x2 x5 x8 x92 x130 : V) (h : Hp) : Prop := ∀ ρ : Rho, ρ 2 = x2 → ρ 5 = x5 → ρ 8 = x8 → ρ 92 = x92 → ρ 130 = x130 → Wp C 156 k_turnstoneref30_Parse_R26 (q_turnstoneref30_Parse_20 C (bodyQ [.cell 2 26, .tmp 3] Q)) ρ h
def J_turnstoneref30_Parse_R22 (C : Cfg) (Q : V → Hp → Prop) (x2 x5 : V) (h : Hp) : Prop := ∀ ρ : Rho, ρ 2 = x2 → ρ 5 = x5 → Wp C 156 k_turnstoneref30_Parse_R22 (bodyQ [.cell 2 26, .tmp 3] Q) ρ h
def J_turnstoneref30_Parse_R31 (C : Cfg) (Q : V → Hp → Prop) (x2 x5 x8 x92 x138 : V) (h : Hp) : Prop := ∀ ρ : Rho, ρ 2 = x2 → ρ 5 = x5 → ρ 8 = x8 → ρ 92 = x92 → ρ 138 = x138 → Wp C 156 k_turnstoneref30_Parse_R31 (q_turnstoneref30_Parse_20 C (bodyQ [.cell 2 26, .tmp 3] Q)) ρ h
def J_turnstoneref30_Parse_L2 (C : Cfg) (Q : V → Hp → Prop) (x2 x5 x8 x13 : V) (h : Hp) : Prop := ∀ ρ : Rho, ρ 2 = x2 → ρ 5 = x5 → ρ 8 = x8 → ρ 13 = x13 → Wp C 156 (.loop k_turnstoneref30_Parse_L2) (q_turnstoneref30_Parse_21 C (bodyQ [.cell 2 26, .tmp 3] Q)) ρ h
def B_turnstoneref30_Parse_L0 (C : Cfg) (Q : V → Hp → Prop) (KL0 : V → V → V → V → V → Hp → Prop) (x2 x4 x5 x6 x7 : V) (h : Hp) : Prop :=
  oP (pLen x6) fun v20 =>
  oP (hbin .lss 3 x7 v20) fun v21 =>
  bP v21 (
  oP (pIx 1 x4 (V.int .i64 0)) fun v25 =>
  oP (pLd v25 h) fun v26 =>
  oP (pIx 1 x6 x7) fun v29 =>
  oP (pLd v29 h) fun v30 =>
  oP (hbin .eql 9 v26 v30) fun v31 =>
  bP v31 (
  oP (hbin .add 3 x7 (V.int .i64 1)) fun v33 =>
  oP (pFA 0 x5) fun v34 =>
  valP (pSt 1 v34 v33 h) fun vu h1 =>
  J_turnstoneref30_Parse_R12 C Q KL0 x2 x4 x5 x6 x7 h1) (
  J_turnstoneref30_Parse_R12 C Q KL0 x2 x4 x5 x6 x7 h)) (
  J_turnstoneref30_Parse_L1 C Q x2 x4 x5 V.nilSlice (V.int .i64 1) h)
set_option maxRecDepth 100000 in
theorem l_turnstoneref30_Parse_L0 {C : Cfg} {Q : V → Hp → Prop} (I : Nat → V → V → V → V → V → Hp → Prop) (step : ∀ (k : Nat) (x2 x4 x5 x6 x7 : V) (h : Hp), I k x2 x4 x5 x6 x7 h → B_turnstoneref30_Parse_L0 C Q (fun x2 x4 x5 x6 x7 h => ∃ k', k' < k ∧ I k' x2 x4 x5 x6 x7 h) x2 x4 x5 x6 x7 h) {k : Nat} {x2 x4 x5 x6 x7 : V} {h : Hp} (h0 : I k x2 x4 x5 x6 x7 h) : J_turnstoneref30_Parse_L0 C Q x2 x4 x5 x6 x7 h := by
  intro ρ e2 e4 e5 e6 e7
  subst e2
  subst e4
  subst e5
  subst e6
  subst e7
  refine Wp.loopI (fun k ρ h => I k (ρ 2) (ρ 4) (ρ 5) (ρ 6) (ρ 7) h) (fun k ρ h hi => ?_) h0
  have H := step k (ρ 2) (ρ 4) (ρ 5) (ρ 6) (ρ 7) h hi
  unfold B_turnstoneref30_Parse_L0 at H
  exact Wp.of (e_turnstoneref30_Parse_L0 _ _ _ _) (oSm (oSm (oM H fun v20 _ H => oM H fun v21 _ H => Wp.of (e_turnstoneref30_Parse_R7 _ _ _ _) (oSm (bM H (fun H => Wp.of (e_turnstoneref30_Parse_R8 _ _ _ _) (oSm (oM H fun v25 Ev25 H => oM H fun v26 Ev26 H => oSm (oSm (oM H fun v29 Ev29 H => oM H fun v30 Ev30 H => oM H fun v31 Ev31 H => ⟨Ev31, ⟨Ev30, ⟨Ev29, ⟨rfl, ⟨rfl, ⟨Ev26, ⟨Ev25, ⟨rfl, Wp.of (e_turnstoneref30_Parse_R11 _ _ _ _) (oSm (bM H (fun H => oSm (oM H fun v33 _ H => oM H fun v34 _ H => valM H fun vu h1 H => H _ rfl rfl rfl rfl rfl)) (fun H => H _ rfl rfl rfl rfl rfl)))⟩⟩⟩⟩⟩⟩⟩⟩))))) (fun H => Wp.of (e_turnstoneref30_Parse_R5 _ _ _ _) (oSm (Wp.of (e_turnstoneref30_Parse_R6 _ _ _ _) (oSm (Wp.of (e_turnstoneref30_Parse_R9 _ _ _ _) (H _ rfl rfl rfl rfl rfl)))))))))))
def B_turnstoneref30_Parse_R12 (C : Cfg) (Q : V → Hp → Prop) (KL0 : V → V → V → V → V → Hp → Prop) (x2 x4 x5 x6 x7 : V) (h : Hp) : Prop :=
  oP (hbin .add 3 x7 (V.int .i64 1)) fun v23 =>
  KL0 x2 x4 x5 x6 v23 h
set_option maxRecDepth 100000 in
theorem j_turnstoneref30_Parse_R12 {C : Cfg} {Q : V → Hp → Prop} {KL0 : V → V → V → V → V → Hp → Prop} {x2 x4 x5 x6 x7 : V} {h : Hp} (H : B_turnstoneref30_Parse_R12 C Q KL0 x2 x4 x5 x6 x7 h) : J_turnstoneref30_Parse_R12 C Q KL0 x2 x4 x5 x6 x7 h := by
  intro ρ e2 e4 e5 e6 e7
  subst e2
  subst e4
  subst e5
  subst e6
  subst e7
  unfold B_turnstoneref30_Parse_R12 at H
  exact Wp.of (e_turnstoneref30_Parse_R12 _ _ _ _) (oSm (oM H fun v23 _ H => oSm (H)))
def B_turnstoneref30_Parse_L1 (C : Cfg) (Q : V → Hp → Prop) (KL1 : V → V → V → V → V → Hp → Prop) (x2 x4 x5 x8 x9 : V) (h : Hp) : Prop :=
  oP (pLen x4) fun v37 =>
  oP (hbin .lss 3 x9 v37) fun v38 =>
  bP v38 (
  oP (pIx 1 x4 x9) fun v44 =>
  oP (pLd v44 h) fun v45 =>
  cP C n_turnstoneref30_number [v45] h fun v46 h1 =>
  oP (pExt 0 v46) fun v47 =>
  oP (pExt 1 v46) fun v48 =>
  oP (hun .not v48) fun v50 =>
  bP v50 (
  oP (pBuild [(V.int .i64 0), (V.int .i64 0), (V.int .i64 0), (V.int .i64 0), (V.int .i64 0), (V.int .i64 0), (V.int .i64 0), (V.int .i64 0), V.nilSlice] [(0, 1), (1, 1), (2, 1), (3, 1), (4, 5)] []) fun v51 =>
  valP (pSt 9 x2 v51 h1) fun vu h2 =>
  oP (pLdA 9 x2 h2) fun r2 =>
  Q (V.tuple [r2, (V.int .i64 5)]) h2) (
  alP (pBS 3 1 1 (V.int .i64 0) [(0, v47)]) h1 fun v54 h3 =>
  valP (happend 3 1 8 x8 v54 h3) fun v55 h4 =>
  oP (hbin .add 3 x9 (V.int .i64 1)) fun v40 =>
  KL1 x2 x4 x5 v55 v40 h4)) (
  oP (pBuildA 1 [(V.int .i64 0), (V.int .i64 0), (V.int .i64 0), (V.int .i64 0), (V.int .i64 0), (V.int .i64 0), (V.int .i64 0), (V.int .i64 0)] [(0, (V.int .i64 (-1))), (1, (V.int .i64 1)), (2, (V.int .i64 2)), (3, (V.int .i64 1)), (4, (V.int .i64 2)), (5, (V.int .i64 1)), (6, (V.int .i64 4)), (7, (V.int .i64 1))]) fun v56 =>
  oP (pFA 0 x5) fun v57 =>
  oP (pLd v57 h) fun v58 =>
  oP (pIdx 8 1 v56 v58) fun v59 =>
  oP (pFA 0 x5) fun v60 =>
  oP (pLd v60 h) fun v61 =>
  oP (hbin .eql 3 v61 (V.int .i64 0)) fun v62 =>
  oP (pOr v62 (oB (some x8) fun v64 => oB (pLen v64) fun v65 => oB (some v59) fun v66 => oB (hbin .neq 3 v65 v66) fun v67 => oB (some v67) fun v68 => pAnd v68 (oB (pFA 0 x5) fun v69 => oB (pLd v69 h) fun v70 => oB (hbin .neq 3 v70 (V.int .i64 6)) fun v71 => oB (some v71) fun v72 => oB (pOr v72 (oB (some x8) fun v73 => oB (pLen v73) fun v74 => hbin .lss 3 v74 (V.int .i64 4))) fun v76 => oB (some v76) fun v77 => oB (pOr v77 (oB (some x8) fun v78 => oB (pLen v78) fun v79 => oB (hbin .rem 3 v79 (V.int .i64 2)) fun v80 => hbin .eql 3 v80 (V.int .i64 1))) fun v82 => oB (some v82) fun v83 => pOr v83 (oB (some x8) fun v84 => oB (pLen v84) fun v85 => hbin .gtr 3 v85 (V.int .i64 20))))) fun v89 =>
  bP v89 (
  oP (pBuild [(V.int .i64 0), (V.int .i64 0), (V.int .i64 0), (V.int .i64 0), (V.int .i64 0), (V.int .i64 0), (V.int .i64 0), (V.int .i64 0), V.nilSlice] [(0, 1), (1, 1), (2, 1), (3, 1), (4, 5)] []) fun v90 =>
  valP (pSt 9 x2 v90 h) fun vu_1 h5 =>
  oP (pLdA 9 x2 h5) fun r2_1 =>
  Q (V.tuple [r2_1, (V.int .i64 5)]) h5) (
  oP (pFA 0 x5) fun v91 =>
  oP (pLd v91 h) fun v92 =>
  oP (hbin .eql 3 v92 (V.int .i64 1)) fun v131 =>
  bP v131 (
  J_turnstoneref30_Parse_R26 C Q x2 x5 x8 v92 v131 h) (
  oP (hbin .eql 3 v92 (V.int .i64 3)) fun v132 =>
  bP v132 (
  J_turnstoneref30_Parse_R26 C Q x2 x5 x8 v92 v132 h) (
  oP (hbin .eql 3 v92 (V.int .i64 7)) fun v133 =>
  J_turnstoneref30_Parse_R26 C Q x2 x5 x8 v92 v133 h))))
set_option maxRecDepth 100000 in
theorem l_turnstoneref30_Parse_L1 {C : Cfg} {Q : V → Hp → Prop} (I : Nat → V → V → V → V → V → Hp → Prop) (step : ∀ (k : Nat) (x2 x4 x5 x8 x9 : V) (h : Hp), I k x2 x4 x5 x8 x9 h → B_turnstoneref30_Parse_L1 C Q (fun x2 x4 x5 x8 x9 h => ∃ k', k' < k ∧ I k' x2 x4 x5 x8 x9 h) x2 x4 x5 x8 x9 h) {k : Nat} {x2 x4 x5 x8 x9 : V} {h : Hp} (h0 : I k x2 x4 x5 x8 x9 h) : J_turnstoneref30_Parse_L1 C Q x2 x4 x5 x8 x9 h := by
  intro ρ e2 e4 e5 e8 e9
  subst e2
  subst e4
  subst e5
  subst e8
  subst e9
  refine Wp.loopI (fun k ρ h => I k (ρ 2) (ρ 4) (ρ 5) (ρ 8) (ρ 9) h) (fun k ρ h hi => ?_) h0
  have H := step k (ρ 2) (ρ 4) (ρ 5) (ρ 8) (ρ 9) h hi
  unfold B_turnstoneref30_Parse_L1 at H
  exact Wp.of (e_turnstoneref30_Parse_L1 _ _ _ _) (oSm (oSm (oM H fun v37 _ H => oM H fun v38 _ H => Wp.of (e_turnstoneref30_Parse_R14 _ _ _ _) (oSm (bM H (fun H => Wp.of (e_turnstoneref30_Parse_R15 _ _ _ _) (oSm (oSm (oM H fun v44 _ H => oM H fun v45 _ H => dcM H fun v46 h1 H => oSm (oM H fun v47 _ H => oM H fun v48 _ H => oSm (oSm (Wp.of (e_turnstoneref30_Parse_R18 _ _ _ _) (oSm (oM H fun v50 _ H => Wp.of (e_turnstoneref30_Parse_R23 _ _ _ _) (oSm (bM H (fun H => oM H fun v51 _ H => valM H fun vu h2 H => oSm (Wp.of (e_turnstoneref30_Parse_R28 _ _ _ _) ((r_turnstoneref30_Parse _ _ _).mpr H))) (fun H => Wp.of (e_turnstoneref30_Parse_R24 _ _ _ _) (oSm (oSm (alM H fun v54 h3 H => valM H fun v55 h4 H => oSm (Wp.of (e_turnstoneref30_Parse_R19 _ _ _ _) (oSm (oM H fun v40 _ H => oSm (H))))))))))))))))))) (fun H => Wp.of (e_turnstoneref30_Parse_R10 _ _ _ _) (oM H fun v56 _ H => oM H fun v57 _ H => oM H fun v58 _ H => oM H fun v59 _ H => oSm (Wp.of (e_turnstoneref30_Parse_R13 _ _ _ _) (oM H fun v60 _ H => oM H fun v61 _ H => oM H fun v62 _ H => oSm (thn (or_open H) fun H => sG1 H fun b4 Gv64 v64 Ev64 H => sG1 H fun b5 Gv65 v65 Ev65 H => sG1 H fun b6 Gv66 v66 Ev66 H => sG1 H fun b7 Gv67 v67 Ev67 H => sG1 H fun b8 Gv68 v68 Ev68 H => thn (sNand' Gv68 Ev68 H) fun H => sG1 H fun b9 Gv69 v69 Ev69 H => sG1 H fun b10 Gv70 v70 Ev70 H => sG1 H fun b11 Gv71 v71 Ev71 H => sG1 H fun b12 Gv72 v72 Ev72 H => thn (sNor Gv72 Ev72 H) fun H => sG1 H fun b13 Gv73 v73 Ev73 H => sG1 H fun b14 Gv74 v74 Ev74 H => oM H fun b15 Gv75 H => oM H fun v75 Ev75 H => oM H fun b16 Gv76 H => oM H fun v76 Ev76 H => sG1 H fun b17 Gv77 v77 Ev77 H => thn (sNor Gv77 Ev77 H) fun H => sG1 H fun b18 Gv78 v78 Ev78 H => sG1 H fun b19 Gv79 v79 Ev79 H => sG1 H fun b20 Gv80 v80 Ev80 H => oM H fun b21 Gv81 H => oM H fun v81 Ev81 H => oM H fun b22 Gv82 H => oM H fun v82 Ev82 H => sG1 H fun b23 Gv83 v83 Ev83 H => thn (sNor' Gv83 Ev83 H) fun H => sG1 H fun b24 Gv84 v84 Ev84 H => sG1 H fun b25 Gv85 v85 Ev85 H => oM H fun b26 Gv86 H => oM H fun v86 Ev86 H => oM H fun b27 Gv87 H => oM H fun v87 Ev87 H => oM H fun b28 Gv88 H => oM H fun v88 Ev88 H => oM H fun v89 Ev89 H => Wp.of (e_turnstoneref30_Parse_R16 _ _ _ _) (oSm (bM H (fun H => oM H fun v90 _ H => valM H fun vu_1 h5 H => oSm (Wp.of (e_turnstoneref30_Parse_R20 _ _ _ _) ((r_turnstoneref30_Parse _ _ _).mpr H))) (fun H => Wp.of (e_turnstoneref30_Parse_R17 _ _ _ _) (oM H fun v91 _ H => oM H fun v92 _ H => Wp.of (e_turnstoneref30_Parse_R21 _ _ _ _) (oM H fun v131 _ H => oSm (Wp.of (e_turnstoneref30_Parse_R25 _ _ _ _) (oSm (bM H (fun H => H _ rfl rfl rfl rfl rfl) (fun H => oM H fun v132 _ H => oSm (Wp.of (e_turnstoneref30_Parse_R29 _ _ _ _) (oSm (bM H (fun H => H _ rfl rfl rfl rfl rfl) (fun H => oM H fun v133 _ H => oSm (H _ rfl rfl rfl rfl rfl))))))))))))))))))))))))
def B_turnstoneref30_Parse_R26 (C : Cfg) (Q : V → Hp → Prop) (x2 x5 x8 x92 x130 : V) (h : Hp) : Prop :=
  bP x130 (
  oP (pIx 1 x8 (V.int .i64 0)) fun v135 =>
  oP (pLd v135 h) fun v136 =>
  oP (pFA 3 x5) fun v137 =>
  valP (pSt 1 v137 v136 h) fun vu h1 =>
  J_turnstoneref30_Parse_R22 C Q x2 x5 h1) (
  oP (hbin .eql 3 x92 (V.int .i64 2)) fun v139 =>
  bP v139 (
  J_turnstoneref30_Parse_R31 C Q x2 x5 x8 x92 v139 h) (
  oP (hbin .eql 3 x92 (V.int .i64 4)) fun v140 =>
  J_turnstoneref30_Parse_R31 C Q x2 x5 x8 x92 v140 h))
set_option maxRecDepth 100000 in
theorem j_turnstoneref30_Parse_R26 {C : Cfg} {Q : V → Hp → Prop} {x2 x5 x8 x92 x130 : V} {h : Hp} (H : B_turnstoneref30_Parse_R26 C Q x2 x5 x8 x92 x130 h) : J_turnstoneref30_Parse_R26 C Q x2 x5 x8 x92 x130 h := by
  intro ρ e2 e5 e8 e92 e130
  subst e2
  subst e5
  subst e8
  subst e92
  subst e130
  unfold B_turnstoneref30_Parse_R26 at H
  exact Wp.of (e_turnstoneref30_Parse_R26 _ _ _ _) (oSm (bM H (fun H => oSm (oM H fun v135 _ H => oM H fun v136 _ H => oM H fun v137 _ H => valM H fun vu h1 H => H _ rfl rfl)) (fun H => oM H fun v139 _ H => oSm (Wp.of (e_turnstoneref30_Parse_R30 _ _ _ _) (oSm (bM H (fun H => H _ rfl rfl rfl rfl rfl) (fun H => oM H fun v140 _ H => oSm (H _ rfl rfl rfl rfl rfl))))))))
def B_turnstoneref30_Parse_R22 (C : Cfg) (Q : V → Hp → Prop) (x2 x5 : V) (h : Hp) : Prop :=
  oP (pLdA 9 x5 h) fun v155 =>
  valP (pSt 9 x2 v155 h) fun vu h1 =>
  oP (pLdA 9 x2 h1) fun r2 =>
  Q (V.tuple [r2, (V.int .i64 0)]) h1
set_option maxRecDepth 100000 in
theorem j_turnstoneref30_Parse_R22 {C : Cfg} {Q : V → Hp → Prop} {x2 x5 : V} {h : Hp} (H : B_turnstoneref30_Parse_R22 C Q x2 x5 h) : J_turnstoneref30_Parse_R22 C Q x2 x5 h := by
  intro ρ e2 e5
  subst e2
  subst e5
  unfold B_turnstoneref30_Parse_R22 at H
  exact Wp.of (e_turnstoneref30_Parse_R22 _ _ _ _) (oM H fun v155 _ H => valM H fun vu h1 H => oSm (Wp.of (e_turnstoneref30_Parse_R27 _ _ _ _) ((r_turnstoneref30_Parse _ _ _).mpr H)))
def B_turnstoneref30_Parse_R31 (C : Cfg) (Q : V → Hp → Prop) (x2 x5 x8 x92 x138 : V) (h : Hp) : Prop :=
  bP x138 (
  oP (pIx 1 x8 (V.int .i64 0)) fun v142 =>
  oP (pLd v142 h) fun v143 =>
  oP (pFA 1 x5) fun v144 =>
  valP (pSt 1 v144 v143 h) fun vu h1 =>
  oP (pIx 1 x8 (V.int .i64 1)) fun v146 =>
  oP (pLd v146 h1) fun v147 =>
  oP (pFA 2 x5) fun v148 =>
  valP (pSt 1 v148 v147 h1) fun vu_1 h2 =>
  J_turnstoneref30_Parse_R22 C Q x2 x5 h2) (
  oP (hbin .eql 3 x92 (V.int .i64 5)) fun v150 =>
  bP v150 (
  oP (pIx 1 x8 (V.int .i64 0)) fun v152 =>
  oP (pLd v152 h) fun v153 =>
  oP (pFA 1 x5) fun v154 =>
  valP (pSt 1 v154 v153 h) fun vu_2 h3 =>
  J_turnstoneref30_Parse_R22 C Q x2 x5 h3) (
  oP (pIx 1 x8 (V.int .i64 0)) fun v94 =>
  oP (pLd v94 h) fun v95 =>
  oP (pIx 1 x8 (V.int .i64 1)) fun v97 =>
  oP (pLd v97 h) fun v98 =>
  oP (pIx 1 x8 (V.int .i64 2)) fun v100 =>
  oP (pLd v100 h) fun v101 =>
  oP (pIx 1 x8 (V.int .i64 3)) fun v103 =>
  oP (pLd v103 h) fun v104 =>
  oP (pBuild [(V.int .i64 0), (V.int .i64 0), (V.int .i64 0), (V.int .i64 0), V.nilSlice] [(0, 1), (1, 1), (2, 1), (3, 1), (4, 1)] [(0, v95), (1, v98), (2, v101), (3, v104)]) fun v105 =>
  oP (pFA 4 x5) fun v106 =>
  valP (pSt 5 v106 v105 h) fun vu_3 h4 =>
  (h.next ≤ h4.next ∧
  J_turnstoneref30_Parse_L2 C Q x2 x5 x8 (V.int .i64 4) h4)))
set_option maxRecDepth 100000 in
theorem j_turnstoneref30_Parse_R31 {C : Cfg} {Q : V → Hp → Prop} {x2 x5 x8 x92 x138 : V} {h : Hp} (H : B_turnstoneref30_Parse_R31 C Q x2 x5 x8 x92 x138 h) : J_turnstoneref30_Parse_R31 C Q x2 x5 x8 x92 x138 h := by
  intro ρ e2 e5 e8 e92 e138
  subst e2
  subst e5
  subst e8
  subst e92
  subst e138
  unfold B_turnstoneref30_Parse_R31 at H
  exact Wp.of (e_turnstoneref30_Parse_R31 _ _ _ _) (oSm (bM H (fun H => oSm (oM H fun v142 _ H => oM H fun v143 _ H => oM H fun v144 _ H => valM H fun vu h1 H => Wp.of (e_turnstoneref30_Parse_R32 _ _ _ _) (oSm (oM H fun v146 _ H => oM H fun v147 _ H => oM H fun v148 _ H => valM H fun vu_1 h2 H => H _ rfl rfl)))) (fun H => oM H fun v150 _ H => oSm (Wp.of (e_turnstoneref30_Parse_R33 _ _ _ _) (oSm (bM H (fun H => oSm (oM H fun v152 _ H => oM H fun v153 _ H => oM H fun v154 _ H => valM H fun vu_2 h3 H => H _ rfl rfl)) (fun H => oSm (oM H fun v94 Ev94 H => oM H fun v95 Ev95 H => oSm (oM H fun v97 Ev97 H => oM H fun v98 Ev98 H => oSm (oM H fun v100 Ev100 H => oM H fun v101 Ev101 H => oSm (oM H fun v103 Ev103 H => oM H fun v104 Ev104 H => oM H fun v105 Ev105 H => oM H fun v106 Ev106 H => ⟨Ev106, ⟨Ev105, ⟨Ev104, ⟨Ev103, ⟨rfl, ⟨Ev101, ⟨Ev100, ⟨rfl, ⟨Ev98, ⟨Ev97, ⟨rfl, ⟨Ev95, ⟨Ev94, ⟨rfl, valM H fun vu_3 h4 H => anM H fun H => Wp.of (e_turnstoneref30_Parse_R34 _ _ _ _) (oSm (Wp.of (e_turnstoneref30_Parse_R35 _ _ _ _) (H _ rfl rfl rfl rfl)))⟩⟩⟩⟩⟩⟩⟩⟩⟩⟩⟩⟩⟩⟩)))))))))))
def B_turnstoneref30_Parse_L2 (C : Cfg) (Q : V → Hp → Prop) (KL2 : V → V → V → V → Hp → Prop) (x2 x5 x8 x13 : V) (h : Hp) : Prop :=
  oP (pLen x8) fun v109 =>
  oP (hbin .lss 3 x13 v109) fun v110 =>
  bP v110 (
  oP (pFA 4 x5) fun v113 =>
  oP (pFA 4 v113) fun v114 =>
  oP (pLd v114 h) fun v115 =>
  oP (pIx 1 x8 x13) fun v118 =>
  oP (pLd v118 h) fun v119 =>
  oP (hbin .add 3 x13 (V.int .i64 1)) fun v122 =>
  oP (pIx 1 x8 v122) fun v123 =>
  oP (pLd v123 h) fun v124 =>
  oP (pBuild [(V.int .i64 0), (V.int .i64 0)] [(0, 1), (1, 1)] [(0, v119), (1, v124)]) fun v125 =>
  alO (pBS 60 2 1 (V.agg [(V.int .i64 0), (V.int .i64 0)]) [(0, v125)]) h fun o13 v126 h1 =>
  ((h1.get (h.next) = some o13 ∧ O.beq o13 o13 = true) ∧ 
  ((pLd v123 h1 = some v124) ∧ 
  ((pLd v118 h1 = some v119) ∧ 
  ((pLd v114 h1 = some v115) ∧ 
  valP (happend 60 2 16 v115 v126 h1) fun v127 h2 =>
  (h1.next ≤ h2.next ∧
  oP (pFA 4 x5) fun v128 =>
  oP (pFA 4 v128) fun v129 =>
  valP (pSt 1 v129 v127 h2) fun vu h3 =>
  (h2.next ≤ h3.next ∧
  oP (hbin .add 3 x13 (V.int .i64 2)) fun v112 =>
  KL2 x2 x5 x8 v112 h3))))))) (
  J_turnstoneref30_Parse_R22 C Q x2 x5 h)
set_option maxRecDepth 100000 in
theorem l_turnstoneref30_Parse_L2 {C : Cfg} {Q : V → Hp → Prop} (I : Nat → V → V → V → V → Hp → Prop) (step : ∀ (k : Nat) (x2 x5 x8 x13 : V) (h : Hp), I k x2 x5 x8 x13 h → B_turnstoneref30_Parse_L2 C Q (fun x2 x5 x8 x13 h => ∃ k', k' < k ∧ I k' x2 x5 x8 x13 h) x2 x5 x8 x13 h) {k : Nat} {x2 x5 x8 x13 : V} {h : Hp} (h0 : I k x2 x5 x8 x13 h) : J_turnstoneref30_Parse_L2 C Q x2 x5 x8 x13 h := by
  intro ρ e2 e5 e8 e13
  subst e2
  subst e5
  subst e8
  subst e13
  refine Wp.loopI (fun k ρ h => I k (ρ 2) (ρ 5) (ρ 8) (ρ 13) h) (fun k ρ h hi => ?_) h0
  have H := step k (ρ 2) (ρ 5) (ρ 8) (ρ 13) h hi
  unfold B_turnstoneref30_Parse_L2 at H
  exact Wp.of (e_turnstoneref30_Parse_L2 _ _ _ _) (oSm (oSm (oM H fun v109 _ H => oM H fun v110 _ H => Wp.of (e_turnstoneref30_Parse_R36 _ _ _ _) (oSm (bM H (fun H => Wp.of (e_turnstoneref30_Parse_R37 _ _ _ _) (oM H fun v113 Ev113 H => oM H fun v114 Ev114 H => oM H fun v115 Ev115 H => oSm (oSm (oM H fun v118 Ev118 H => oM H fun v119 Ev119 H => oSm (oSm (oM H fun v122 Ev122 H => oM H fun v123 Ev123 H => oM H fun v124 Ev124 H => oM H fun v125 Ev125 H => alOM H fun o13 v126 h1 H => anM H fun H => ⟨Ev125, anM H fun H => ⟨Ev123, ⟨Ev122, ⟨rfl, ⟨rfl, anM H fun H => ⟨Ev118, ⟨rfl, ⟨rfl, anM H fun H => ⟨Ev114, ⟨Ev113, valM H fun v127 h2 H => anM H fun H => oM H fun v128 Ev128 H => oM H fun v129 Ev129 H => ⟨Ev129, ⟨Ev128, valM H fun vu h3 H => anM H fun H => Wp.of (e_turnstoneref30_Parse_R38 _ _ _ _) (oSm (oM H fun v112 _ H => oSm (H)))⟩⟩⟩⟩⟩⟩⟩⟩⟩⟩⟩⟩)))))) (fun H => H _ rfl rfl))))))
def B_turnstoneref30_Parse (C : Cfg) (Q : V → Hp → Prop) (a0 : V) (h : Hp) : Prop :=
  alP (some (.cells 26 1 true false [(V.int .i64 0), (V.int .i64 0), (V.int .i64 0), (V.int .i64 0), (V.int .i64 0), (V.int .i64 0), (V.int .i64 0), (V.int .i64 0), V.nilSlice], fun l => .ptr l 0)) h fun v2 h1 =>
  cP C n_turnstoneref30_split [a0] h1 fun v15 h2 =>
  oP (pBuild [(V.int .i64 0), (V.int .i64 0), (V.int .i64 0), (V.int .i64 0), (V.int .i64 0), (V.int .i64 0), (V.int .i64 0), (V.int .i64 0), V.nilSlice] [(0, 1), (1, 1), (2, 1), (3, 1), (4, 5)] []) fun v16 =>
  alP (some (.cells 26 1 true false [(V.int .i64 0), (V.int .i64 0), (V.int .i64 0), (V.int .i64 0), (V.int .i64 0), (V.int .i64 0), (V.int .i64 0), (V.int .i64 0), V.nilSlice], fun l => .ptr l 0)) h2 fun v5 h3 =>
  valP (pSt 9 v5 v16 h3) fun vu h4 =>
  cP C n_turnstoneref30_Names [] h4 fun v17 h5 =>
  J_turnstoneref30_Parse_L0 C Q v2 v15 v5 v17 (V.int .i64 0) h5
set_option maxRecDepth 100000 in
theorem c_turnstoneref30_Parse {C : Cfg} (hs : C.start = startF) {a0 : V} {h : Hp} {Q : V → Hp → Prop} (hk : C.K n_turnstoneref30_Parse [a0] h = none) (H : B_turnstoneref30_Parse C Q a0 h) : cP C n_turnstoneref30_Parse [a0] h Q := by
  unfold B_turnstoneref30_Parse at H
  exact f_turnstoneref30_Parse hs _ hk ((e_turnstoneref30_Parse _ _ _ _).mpr (alM H fun v2 h1 H => oSm (Wp.of (e_turnstoneref30_Parse_R0 _ _ _ _) (oSm (dcM H fun v15 h2 H => oSm (Wp.of (e_turnstoneref30_Parse_R1 _ _ _ _) (oM H fun v16 _ H => alM H fun v5 h3 H => valM H fun vu h4 H => Wp.of (e_turnstoneref30_Parse_R2 _ _ _ _) (dcM H fun v17 h5 H => oSm (Wp.of (e_turnstoneref30_Parse_R3 _ _ _ _) (oSm (Wp.of (e_turnstoneref30_Parse_R4 _ _ _ _) (H _ rfl rfl rfl rfl rfl))))))))))))
/-! ### turnstone/turnstonelaw30.same -/
noncomputable def k_turnstonelaw30_same : Code := bodyOf Tryz.f11
noncomputable def k_turnstonelaw30_same_R0 : Code := k_turnstonelaw30_same.r
noncomputable def k_turnstonelaw30_same_R1 : Code := k_turnstonelaw30_same.r.r
set_option maxRecDepth 100000 in
theorem e_turnstonelaw30_same (C : Cfg) (Q : X → Rho → Hp → Prop) (ρ : Rho) (h : Hp) : codeR C 38 k_turnstonelaw30_same Q ρ h = (
  alP (hbox 26 (ρ 0)) h fun v2 h1 =>
  alP (hbox 26 (ρ 1)) h1 fun v3 h2 =>
  oP (some (V.bool false)) fun v4 =>
  Wp C 38 k_turnstonelaw30_same_R0 Q (rset (rset (rset ρ 2 v2) 3 v3) 4 v4) h2) := by kernel_rfl
set_option maxRecDepth 100000 in
theorem e_turnstonelaw30_same_R0 (C : Cfg) (Q : X → Rho → Hp → Prop) (ρ : Rho) (h : Hp) : codeR C 38 k_turnstonelaw30_same_R0 Q ρ h = (
  oP (pFA 0 (ρ 2)) fun v5 =>
  oP (pLd v5 h) fun v6 =>
  oP (pFA 0 (ρ 3)) fun v7 =>
  oP (pLd v7 h) fun v8 =>
  oP (hbin .eql 3 v6 v8) fun v9 =>
  oP (some v9) fun v10 =>
  oP (pGd true v10) fun b6 =>
  oP (gV b6 (pFA 1 (ρ 2))) fun v11 =>
  oP (pGd true v10) fun b7 =>
  oP (gV b7 (pLd v11 h)) fun v12 =>
  oP (pGd true v10) fun b8 =>
  oP (gV b8 (pFA 1 (ρ 3))) fun v13 =>
  oP (pGd true v10) fun b9 =>
  oP (gV b9 (pLd v13 h)) fun v14 =>
  oP (pGd true v10) fun b10 =>
  oP (gV b10 (hbin .eql 3 v12 v14)) fun v15 =>
  oP (pPick v10 v15 (V.bool false)) fun v16 =>
  oP (some v16) fun v17 =>
  oP (pGd true v17) fun b13 =>
  oP (gV b13 (pFA 2 (ρ 2))) fun v18 =>
  oP (pGd true v17) fun b14 =>
  oP (gV b14 (pLd v18 h)) fun v19 =>
  oP (pGd true v17) fun b15 =>
  oP (gV b15 (pFA 2 (ρ 3))) fun v20 =>
  oP (pGd true v17) fun b16 =>
  oP (gV b16 (pLd v20 h)) fun v21 =>
  oP (pGd true v17) fun b17 =>
  oP (gV b17 (hbin .eql 3 v19 v21)) fun v22 =>
  oP (pPick v17 v22 (V.bool false)) fun v23 =>
  oP (some v23) fun v24 =>
  oP (pGd true v24) fun b20 =>
  oP (gV b20 (pFA 3 (ρ 2))) fun v25 =>
  oP (pGd true v24) fun b21 =>
  oP (gV b21 (pLd v25 h)) fun v26 =>
  oP (pGd true v24) fun b22 =>
  oP (gV b22 (pFA 3 (ρ 3))) fun v27 =>
  oP (pGd true v24) fun b23 =>
  oP (gV b23 (pLd v27 h)) fun v28 =>
  oP (pGd true v24) fun b24 =>
  oP (gV b24 (hbin .eql 3 v26 v28)) fun v29 =>
  oP (pPick v24 v29 (V.bool false)) fun v30 =>
  oP (some v30) fun v31 =>
  oP (pGd true v31) fun b27 =>
  oP (gV b27 (pFA 4 (ρ 2))) fun v32 =>
  oP (pGd true v31) fun b28 =>
  oP (gV b28 (pLdA 5 v32 h)) fun v33 =>
  oP (pGd true v31) fun b29 =>
  oP (gV b29 (pFA 4 (ρ 3))) fun v34 =>
  oP (pGd true v31) fun b30 =>
  oP (gV b30 (pLdA 5 v34 h)) fun v35 =>
  oP (pGd true v31) fun b31 =>
  oP (gC b31 (some (n_turnstoneref10_SameCount, [v33, v35]))) fun x31 => cgP C x31 h fun v36 h1 =>
  oP (pPick v31 v36 (V.bool false)) fun v37 =>
  oP (some v37) fun v4 =>
  Wp C 38 k_turnstonelaw30_same_R1 Q (rset (rset (rset (rset (rset (rset (rset (rset (rset (rset (rset (rset (rset (rset (rset (rset (rset (rset (rset (rset (rset (rset (rset (rset (rset (rset (rset (rset (rset (rset (rset (rset (rset (rset ρ 5 v5) 6 v6) 7 v7) 8 v8) 9 v9) 10 v10) 11 v11) 12 v12) 13 v13) 14 v14) 15 v15) 16 v16) 17 v17) 18 v18) 19 v19) 20 v20) 21 v21) 22 v22) 23 v23) 24 v24) 25 v25) 26 v26) 27 v27) 28 v28) 29 v29) 30 v30) 31 v31) 32 v32) 33 v33) 34 v34) 35 v35) 36 v36) 37 v37) 4 v4) h1) := by kernel_rfl
set_option maxRecDepth 100000 in
theorem e_turnstonelaw30_same_R1 (C : Cfg) (Q : X → Rho → Hp → Prop) (ρ : Rho) (h : Hp) : codeR C 38 k_turnstonelaw30_same_R1 Q ρ h = (
  Q .ret ρ h) := by kernel_rfl
theorem f_turnstonelaw30_same {C : Cfg} (hs : C.start = startF) (a0 a1 : V) {h : Hp} {Q : V → Hp → Prop} (hk : C.K n_turnstonelaw30_same [a0, a1] h = none) (H : codeR C 38 k_turnstonelaw30_same (bodyQ [.tmp 4] Q) (argsR [a0, a1]) h) : cP C n_turnstonelaw30_same [a0, a1] h Q :=
  cP.funcN hs (show P0.funcs[11]? = some Tryz.f11 by unfold P0; exact Tryz.func11) (by kernel_rfl) (by kernel_rfl) (by kernel_rfl) hk (Nat.le_of_ble_eq_true rfl) (Wp.code _ H)
def B_turnstonelaw30_same (C : Cfg) (Q : V → Hp → Prop) (a0 a1 : V) (h : Hp) : Prop :=
  alP (hbox 26 a0) h fun v2 h1 =>
  alP (hbox 26 a1) h1 fun v3 h2 =>
  oP (pFA 0 v2) fun v5 =>
  oP (pLd v5 h2) fun v6 =>
  oP (pFA 0 v3) fun v7 =>
  oP (pLd v7 h2) fun v8 =>
  oP (hbin .eql 3 v6 v8) fun v9 =>
  oP (pAnd v9 (oB (pFA 1 v2) fun v11 => oB (pLd v11 h2) fun v12 => oB (pFA 1 v3) fun v13 => oB (pLd v13 h2) fun v14 => hbin .eql 3 v12 v14)) fun v16 =>
  oP (pAnd v16 (oB (pFA 2 v2) fun v18 => oB (pLd v18 h2) fun v19 => oB (pFA 2 v3) fun v20 => oB (pLd v20 h2) fun v21 => hbin .eql 3 v19 v21)) fun v23 =>
  oP (pAnd v23 (oB (pFA 3 v2) fun v25 => oB (pLd v25 h2) fun v26 => oB (pFA 3 v3) fun v27 => oB (pLd v27 h2) fun v28 => hbin .eql 3 v26 v28)) fun v30 =>
  oP (pGd true v30) fun b27 =>
  oP (gV b27 (pFA 4 v2)) fun v32 =>
  oP (pGd true v30) fun b28 =>
  oP (gV b28 (pLdA 5 v32 h2)) fun v33 =>
  oP (pGd true v30) fun b29 =>
  oP (gV b29 (pFA 4 v3)) fun v34 =>
  oP (pGd true v30) fun b30 =>
  oP (gV b30 (pLdA 5 v34 h2)) fun v35 =>
  oP (pGd true v30) fun b31 =>
  oP (gC b31 (some (n_turnstoneref10_SameCount, [v33, v35]))) fun y31 => cgP C y31 h2 fun v36 h3 =>
  oP (pPick v30 v36 (V.bool false)) fun v37 =>
  Q v37 h3
set_option maxRecDepth 100000 in
theorem c_turnstonelaw30_same {C : Cfg} (hs : C.start = startF) {a0 a1 : V} {h : Hp} {Q : V → Hp → Prop} (hk : C.K n_turnstonelaw30_same [a0, a1] h = none) (H : B_turnstonelaw30_same C Q a0 a1 h) : cP C n_turnstonelaw30_same [a0, a1] h Q := by
  unfold B_turnstonelaw30_same at H
  exact f_turnstonelaw30_same hs _ _ hk ((e_turnstonelaw30_same _ _ _ _).mpr (alM H fun v2 h1 H => alM H fun v3 h2 H => oSm (Wp.of (e_turnstonelaw30_same_R0 _ _ _ _) (oM H fun v5 _ H => oM H fun v6 _ H => oM H fun v7 _ H => oM H fun v8 _ H => oM H fun v9 _ H => oSm (thn (and_open H) fun H => sG1 H fun b6 Gv11 v11 Ev11 H => sG1 H fun b7 Gv12 v12 Ev12 H => sG1 H fun b8 Gv13 v13 Ev13 H => sG1 H fun b9 Gv14 v14 Ev14 H => oM H fun b10 Gv15 H => oM H fun v15 Ev15 H => oM H fun v16 Ev16 H => oSm (thn (and_open H) fun H => sG1 H fun b13 Gv18 v18 Ev18 H => sG1 H fun b14 Gv19 v19 Ev19 H => sG1 H fun b15 Gv20 v20 Ev20 H => sG1 H fun b16 Gv21 v21 Ev21 H => oM H fun b17 Gv22 H => oM H fun v22 Ev22 H => oM H fun v23 Ev23 H => oSm (thn (and_open H) fun H => sG1 H fun b20 Gv25 v25 Ev25 H => sG1 H fun b21 Gv26 v26 Ev26 H => sG1 H fun b22 Gv27 v27 Ev27 H => sG1 H fun b23 Gv28 v28 Ev28 H => oM H fun b24 Gv29 H => oM H fun v29 Ev29 H => oM H fun v30 Ev30 H => oSm (oM H fun b27 _ H => oM H fun v32 _ H => oM H fun b28 _ H => oM H fun v33 _ H => oM H fun b29 _ H => oM H fun v34 _ H => oM H fun b30 _ H => oM H fun v35 _ H => oM H fun b31 _ H => oM H fun y31 _ H => cgM H fun v36 h3 H => oM H fun v37 _ H => oSm (Wp.of (e_turnstonelaw30_same_R1 _ _ _ _) (H))))))))))
/-! ### turnstone/turnstoneref10.SameCount -/
noncomputable def k_turnstoneref10_SameCount : Code := bodyOf Tryz.f29
noncomputable def k_turnstoneref10_SameCount_R0 : Code := k_turnstoneref10_SameCount.r
noncomputable def k_turnstoneref10_SameCount_R1 : Code := k_turnstoneref10_SameCount.r.l.r
noncomputable def k_turnstoneref10_SameCount_R2 : Code := k_turnstoneref10_SameCount.r.r
noncomputable def q_turnstoneref10_SameCount_0 (C : Cfg) (Q : X → Rho → Hp → Prop) : X → Rho → Hp → Prop := andThen (Wp C 59 k_turnstoneref10_SameCount_R2 Q) Q
theorem q_turnstoneref10_SameCount_0_normal (C : Cfg) (Q : X → Rho → Hp → Prop) (ρ : Rho) (h : Hp) : q_turnstoneref10_SameCount_0 C Q .normal ρ h = Wp C 59 k_turnstoneref10_SameCount_R2 Q ρ h := rfl
theorem q_turnstoneref10_SameCount_0_ret (C : Cfg) (Q : X → Rho → Hp → Prop) (ρ : Rho) (h : Hp) : q_turnstoneref10_SameCount_0 C Q .ret ρ h = Q .ret ρ h := rfl
noncomputable def k_turnstoneref10_SameCount_R3 : Code := k_turnstoneref10_SameCount.r.l.r.l.r
noncomputable def k_turnstoneref10_SameCount_R4 : Code := k_turnstoneref10_SameCount.r.r.l.r
noncomputable def k_turnstoneref10_SameCount_R5 : Code := k_turnstoneref10_SameCount.r.r.r
noncomputable def q_turnstoneref10_SameCount_1 (C : Cfg) (Q : X → Rho → Hp → Prop) : X → Rho → Hp → Prop := andThen (Wp C 59 k_turnstoneref10_SameCount_R5 Q) Q
theorem q_turnstoneref10_SameCount_1_normal (C : Cfg) (Q : X → Rho → Hp → Prop) (ρ : Rho) (h : Hp) : q_turnstoneref10_SameCount_1 C Q .normal ρ h = Wp C 59 k_turnstoneref10_SameCount_R5 Q ρ h := rfl
theorem q_turnstoneref10_SameCount_1_ret (C : Cfg) (Q : X → Rho → Hp → Prop) (ρ : Rho) (h : Hp) : q_turnstoneref10_SameCount_1 C Q .ret ρ h = Q .ret ρ h := rfl
noncomputable def k_turnstoneref10_SameCount_L0 : Code := k_turnstoneref10_SameCount.r.r.l.r.l.l
noncomputable def q_turnstoneref10_SameCount_2 (C : Cfg) (Q : X → Rho → Hp → Prop) : X → Rho → Hp → Prop := blockQ 0 Q
theorem q_turnstoneref10_SameCount_2_normal (C : Cfg) (Q : X → Rho → Hp → Prop) (ρ : Rho) (h : Hp) : q_turnstoneref10_SameCount_2 C Q .normal ρ h = Q .normal ρ h := rfl
theorem q_turnstoneref10_SameCount_2_ret (C : Cfg) (Q : X → Rho → Hp → Prop) (ρ : Rho) (h : Hp) : q_turnstoneref10_SameCount_2 C Q .ret ρ h = Q .ret ρ h := rfl
theorem q_turnstoneref10_SameCount_2_exit0 (C : Cfg) (Q : X → Rho → Hp → Prop) (ρ : Rho) (h : Hp) : q_turnstoneref10_SameCount_2 C Q (.exit 0) ρ h = Q .normal ρ h := rfl
noncomputable def k_turnstoneref10_SameCount_R6 : Code := k_turnstoneref10_SameCount.r.r.r.r
noncomputable def k_turnstoneref10_SameCount_R7 : Code := k_turnstoneref10_SameCount.r.r.l.r.l.l.l.r
noncomputable def k_turnstoneref10_SameCount_R8 : Code := k_turnstoneref10_SameCount.r.r.l.r.l.l.r
noncomputable def q_turnstoneref10_SameCount_3 (C : Cfg) (Q : X → Rho → Hp → Prop) : X → Rho → Hp → Prop := andThen (Wp C 59 k_turnstoneref10_SameCount_R8 Q) Q
theorem q_turnstoneref10_SameCount_3_normal (C : Cfg) (Q : X → Rho → Hp → Prop) (ρ : Rho) (h : Hp) : q_turnstoneref10_SameCount_3 C Q .normal ρ h = Wp C 59 k_turnstoneref10_SameCount_R8 Q ρ h := rfl
theorem q_turnstoneref10_SameCount_3_ret (C : Cfg) (Q : X → Rho → Hp → Prop) (ρ : Rho) (h : Hp) : q_turnstoneref10_SameCount_3 C Q .ret ρ h = Q .ret ρ h := rfl
noncomputable def k_turnstoneref10_SameCount_R9 : Code := k_turnstoneref10_SameCount.r.r.l.r.l.l.r.l.l.r
noncomputable def k_turnstoneref10_SameCount_R10 : Code := k_turnstoneref10_SameCount.r.r.l.r.l.l.r.r
noncomputable def q_turnstoneref10_SameCount_5 (C : Cfg) (Q : X → Rho → Hp → Prop) : X → Rho → Hp → Prop := andThen (Wp C 59 k_turnstoneref10_SameCount_R10 Q) Q
theorem q_turnstoneref10_SameCount_5_normal (C : Cfg) (Q : X → Rho → Hp → Prop) (ρ : Rho) (h : Hp) : q_turnstoneref10_SameCount_5 C Q .normal ρ h = Wp C 59 k_turnstoneref10_SameCount_R10 Q ρ h := rfl
theorem q_turnstoneref10_SameCount_5_ret (C : Cfg) (Q : X → Rho → Hp → Prop) (ρ : Rho) (h : Hp) : q_turnstoneref10_SameCount_5 C Q .ret ρ h = Q .ret ρ h := rfl
noncomputable def q_turnstoneref10_SameCount_4 (C : Cfg) (Q : X → Rho → Hp → Prop) : X → Rho → Hp → Prop := blockQ 1 (q_turnstoneref10_SameCount_5 C Q)
theorem q_turnstoneref10_SameCount_4_normal (C : Cfg) (Q : X → Rho → Hp → Prop) (ρ : Rho) (h : Hp) : q_turnstoneref10_SameCount_4 C Q .normal ρ h = Wp C 59 k_turnstoneref10_SameCount_R10 Q ρ h := rfl
theorem q_turnstoneref10_SameCount_4_ret (C : Cfg) (Q : X → Rho → Hp → Prop) (ρ : Rho) (h : Hp) : q_turnstoneref10_SameCount_4 C Q .ret ρ h = Q .ret ρ h := rfl
theorem q_turnstoneref10_SameCount_4_exit1 (C : Cfg) (Q : X → Rho → Hp → Prop) (ρ : Rho) (h : Hp) : q_turnstoneref10_SameCount_4 C Q (.exit 1) ρ h = Wp C 59 k_turnstoneref10_SameCount_R10 Q ρ h := rfl
noncomputable def k_turnstoneref10_SameCount_R11 : Code := k_turnstoneref10_SameCount.r.r.l.r.l.l.r.l.l.r.l.r
noncomputable def q_turnstoneref10_SameCount_6 (C : Cfg) (Q : X → Rho → Hp → Prop) : X → Rho → Hp → Prop := blockQ 0 (q_turnstoneref10_SameCount_1 C Q)
theorem q_turnstoneref10_SameCount_6_normal (C : Cfg) (Q : X → Rho → Hp → Prop) (ρ : Rho) (h : Hp) : q_turnstoneref10_SameCount_6 C Q .normal ρ h = Wp C 59 k_turnstoneref10_SameCount_R5 Q ρ h := rfl
theorem q_turnstoneref10_SameCount_6_ret (C : Cfg) (Q : X → Rho → Hp → Prop) (ρ : Rho) (h : Hp) : q_turnstoneref10_SameCount_6 C Q .ret ρ h = Q .ret ρ h := rfl
theorem q_turnstoneref10_SameCount_6_exit0 (C : Cfg) (Q : X → Rho → Hp → Prop) (ρ : Rho) (h : Hp) : q_turnstoneref10_SameCount_6 C Q (.exit 0) ρ h = Wp C 59 k_turnstoneref10_SameCount_R5 Q ρ h := rfl
set_option maxRecDepth 100000 in
theorem e_turnstoneref10_SameCount (C : Cfg) (Q : X → Rho → Hp → Prop) (ρ : Rho) (h : Hp) : codeR C 59 k_turnstoneref10_SameCount Q ρ h = (
  alP (hbox 24 (ρ 0)) h fun v2 h1 =>
  alP (hbox 24 (ρ 1)) h1 fun v3 h2 =>
  oP (some (V.bool false)) fun v4 =>
  Wp C 59 k_turnstoneref10_SameCount_R0 Q (rset (rset (rset ρ 2 v2) 3 v3) 4 v4) h2) := by kernel_rfl
set_option maxRecDepth 100000 in
theorem e_turnstoneref10_SameCount_R0 (C : Cfg) (Q : X → Rho → Hp → Prop) (ρ : Rho) (h : Hp) : codeR C 59 k_turnstoneref10_SameCount_R0 Q ρ h = (
  oP (pFA 0 (ρ 2)) fun v6 =>
  oP (pLd v6 h) fun v7 =>
  oP (pFA 0 (ρ 3)) fun v8 =>
  oP (pLd v8 h) fun v9 =>
  oP (hbin .neq 3 v7 v9) fun v10 =>
  oP (some v10) fun v11 =>
  oP (pGd false v11) fun b6 =>
  oP (gV b6 (pFA 1 (ρ 2))) fun v12 =>
  oP (pGd false v11) fun b7 =>
  oP (gV b7 (pLd v12 h)) fun v13 =>
  oP (pGd false v11) fun b8 =>
  oP (gV b8 (pFA 1 (ρ 3))) fun v14 =>
  oP (pGd false v11) fun b9 =>
  oP (gV b9 (pLd v14 h)) fun v15 =>
  oP (pGd false v11) fun b10 =>
  oP (gV b10 (hbin .neq 3 v13 v15)) fun v16 =>
  oP (pPick v11 (V.bool true) v16) fun v17 =>
  oP (some v17) fun v18 =>
  oP (pGd false v18) fun b13 =>
  oP (gV b13 (pFA 2 (ρ 2))) fun v19 =>
  oP (pGd false v18) fun b14 =>
  oP (gV b14 (pLd v19 h)) fun v20 =>
  oP (pGd false v18) fun b15 =>
  oP (gV b15 (pFA 2 (ρ 3))) fun v21 =>
  oP (pGd false v18) fun b16 =>
  oP (gV b16 (pLd v21 h)) fun v22 =>
  oP (pGd false v18) fun b17 =>
  oP (gV b17 (hbin .neq 3 v20 v22)) fun v23 =>
  oP (pPick v18 (V.bool true) v23) fun v24 =>
  oP (some v24) fun v25 =>
  oP (pGd false v25) fun b20 =>
  oP (gV b20 (pFA 3 (ρ 2))) fun v26 =>
  oP (pGd false v25) fun b21 =>
  oP (gV b21 (pLd v26 h)) fun v27 =>
  oP (pGd false v25) fun b22 =>
  oP (gV b22 (pFA 3 (ρ 3))) fun v28 =>
  oP (pGd false v25) fun b23 =>
  oP (gV b23 (pLd v28 h)) fun v29 =>
  oP (pGd false v25) fun b24 =>
  oP (gV b24 (hbin .neq 3 v27 v29)) fun v30 =>
  oP (pPick v25 (V.bool true) v30) fun v31 =>
  oP (some v31) fun v32 =>
  oP (pGd false v32) fun b27 =>
  oP (gV b27 (pFA 4 (ρ 2))) fun v33 =>
  oP (pGd false v32) fun b28 =>
  oP (gV b28 (pLd v33 h)) fun v34 =>
  oP (pGd false v32) fun b29 =>
  oP (gV b29 (pLen v34)) fun v35 =>
  oP (pGd false v32) fun b30 =>
  oP (gV b30 (pFA 4 (ρ 3))) fun v36 =>
  oP (pGd false v32) fun b31 =>
  oP (gV b31 (pLd v36 h)) fun v37 =>
  oP (pGd false v32) fun b32 =>
  oP (gV b32 (pLen v37)) fun v38 =>
  oP (pGd false v32) fun b33 =>
  oP (gV b33 (hbin .neq 3 v35 v38)) fun v39 =>
  oP (pPick v32 (V.bool true) v39) fun v40 =>
  Wp C 59 k_turnstoneref10_SameCount_R1 (q_turnstoneref10_SameCount_0 C Q) (rset (rset (rset (rset (rset (rset (rset (rset (rset (rset (rset (rset (rset (rset (rset (rset (rset (rset (rset (rset (rset (rset (rset (rset (rset (rset (rset (rset (rset (rset (rset (rset (rset (rset (rset ρ 6 v6) 7 v7) 8 v8) 9 v9) 10 v10) 11 v11) 12 v12) 13 v13) 14 v14) 15 v15) 16 v16) 17 v17) 18 v18) 19 v19) 20 v20) 21 v21) 22 v22) 23 v23) 24 v24) 25 v25) 26 v26) 27 v27) 28 v28) 29 v29) 30 v30) 31 v31) 32 v32) 33 v33) 34 v34) 35 v35) 36 v36) 37 v37) 38 v38) 39 v39) 40 v40) h) := by kernel_rfl
set_option maxRecDepth 100000 in
theorem e_turnstoneref10_SameCount_R2 (C : Cfg) (Q : X → Rho → Hp → Prop) (ρ : Rho) (h : Hp) : codeR C 59 k_turnstoneref10_SameCount_R2 Q ρ h = (
  oP (some (V.int .i64 0)) fun v5 =>
  Wp C 59 k_turnstoneref10_SameCount_R4 (q_turnstoneref10_SameCount_1 C Q) (rset ρ 5 v5) h) := by kernel_rfl
set_option maxRecDepth 100000 in
theorem e_turnstoneref10_SameCount_R1 (C : Cfg) (Q : X → Rho → Hp → Prop) (ρ : Rho) (h : Hp) : codeR C 59 k_turnstoneref10_SameCount_R1 Q ρ h = (
  oP (some (ρ 40)) fun c =>
  bP c (
    oP (some (V.bool false)) fun v4 =>
    Wp C 59 k_turnstoneref10_SameCount_R3 Q (rset ρ 4 v4) h) (
    Q .normal ρ h)) := by kernel_rfl
set_option maxRecDepth 100000 in
theorem e_turnstoneref10_SameCount_R5 (C : Cfg) (Q : X → Rho → Hp → Prop) (ρ : Rho) (h : Hp) : codeR C 59 k_turnstoneref10_SameCount_R5 Q ρ h = (
  oP (some (V.bool true)) fun v4 =>
  Wp C 59 k_turnstoneref10_SameCount_R6 Q (rset ρ 4 v4) h) := by kernel_rfl
set_option maxRecDepth 100000 in
theorem e_turnstoneref10_SameCount_R4 (C : Cfg) (Q : X → Rho → Hp → Prop) (ρ : Rho) (h : Hp) : codeR C 59 k_turnstoneref10_SameCount_R4 Q ρ h = (
  Wp C 59 (.loop k_turnstoneref10_SameCount_L0) (q_turnstoneref10_SameCount_2 C Q) ρ h) := by kernel_rfl
set_option maxRecDepth 100000 in
theorem e_turnstoneref10_SameCount_R6 (C : Cfg) (Q : X → Rho → Hp → Prop) (ρ : Rho) (h : Hp) : codeR C 59 k_turnstoneref10_SameCount_R6 Q ρ h = (
  Q .ret ρ h) := by kernel_rfl
set_option maxRecDepth 100000 in
theorem e_turnstoneref10_SameCount_R3 (C : Cfg) (Q : X → Rho → Hp → Prop) (ρ : Rho) (h : Hp) : codeR C 59 k_turnstoneref10_SameCount_R3 Q ρ h = (
  Q .ret ρ h) := by kernel_rfl
set_option maxRecDepth 100000 in
theorem e_turnstoneref10_SameCount_L0 (C : Cfg) (Q : X → Rho → Hp → Prop) (ρ : Rho) (h : Hp) : codeR C 59 k_turnstoneref10_SameCount_L0 Q ρ h = (
  oP (some (ρ 5)) fun v41 =>
  oP (pFA 4 (ρ 2)) fun v42 =>
  oP (pLd v42 h) fun v43 =>
  oP (pLen v43) fun v44 =>
  oP (hbin .lss 3 v41 v44) fun v45 =>
  Wp C 59 k_turnstoneref10_SameCount_R7 (q_turnstoneref10_SameCount_3 C Q) (rset (rset (rset (rset (rset ρ 41 v41) 42 v42) 43 v43) 44 v44) 45 v45) h) := by kernel_rfl
set_option maxRecDepth 100000 in
theorem e_turnstoneref10_SameCount_R8 (C : Cfg) (Q : X → Rho → Hp → Prop) (ρ : Rho) (h : Hp) : codeR C 59 k_turnstoneref10_SameCount_R8 Q ρ h = (
  oP (pFA 4 (ρ 2)) fun v48 =>
  oP (pLd v48 h) fun v49 =>
  oP (some (ρ 5)) fun v50 =>
  oP (pIx 2 v49 v50) fun v51 =>
  oP (pLdA 2 v51 h) fun v52 =>
  oP (pFA 4 (ρ 3)) fun v53 =>
  oP (pLd v53 h) fun v54 =>
  oP (some (ρ 5)) fun v55 =>
  oP (pIx 2 v54 v55) fun v56 =>
  oP (pLdA 2 v56 h) fun v57 =>
  oP (hbin .neq 60 v52 v57) fun v58 =>
  ((hbin .neq 60 v52 v57 = some v58) ∧ 
  ((pLdA 2 v56 h = some v57) ∧ 
  ((pIx 2 v54 v55 = some v56) ∧ 
  ((some (ρ 5) = some v55) ∧ 
  ((pLd v53 h = some v54) ∧ 
  ((pFA 4 (ρ 3) = some v53) ∧ 
  ((pLdA 2 v51 h = some v52) ∧ 
  ((pIx 2 v49 v50 = some v51) ∧ 
  ((some (ρ 5) = some v50) ∧ 
  ((pLd v48 h = some v49) ∧ 
  ((pFA 4 (ρ 2) = some v48) ∧ 
  Wp C 59 k_turnstoneref10_SameCount_R9 (q_turnstoneref10_SameCount_4 C Q) (rset (rset (rset (rset (rset (rset (rset (rset (rset (rset (rset ρ 48 v48) 49 v49) 50 v50) 51 v51) 52 v52) 53 v53) 54 v54) 55 v55) 56 v56) 57 v57) 58 v58) h)))))))))))) := by kernel_rfl
set_option maxRecDepth 100000 in
theorem e_turnstoneref10_SameCount_R7 (C : Cfg) (Q : X → Rho → Hp → Prop) (ρ : Rho) (h : Hp) : codeR C 59 k_turnstoneref10_SameCount_R7 Q ρ h = (
  oP (some (ρ 45)) fun c =>
  bP c (
    Q .normal ρ h) (
    Q (.exit 0) ρ h)) := by kernel_rfl
set_option maxRecDepth 100000 in
theorem e_turnstoneref10_SameCount_R10 (C : Cfg) (Q : X → Rho → Hp → Prop) (ρ : Rho) (h : Hp) : codeR C 59 k_turnstoneref10_SameCount_R10 Q ρ h = (
  oP (some (ρ 5)) fun v46 =>
  oP (hbin .add 3 v46 (V.int .i64 1)) fun v47 =>
  oP (some v47) fun v5 =>
  Q .normal (rset (rset (rset ρ 46 v46) 47 v47) 5 v5) h) := by kernel_rfl
set_option maxRecDepth 100000 in
theorem e_turnstoneref10_SameCount_R9 (C : Cfg) (Q : X → Rho → Hp → Prop) (ρ : Rho) (h : Hp) : codeR C 59 k_turnstoneref10_SameCount_R9 Q ρ h = (
  oP (some (ρ 58)) fun c =>
  bP c (
    oP (some (V.bool false)) fun v4 =>
    Wp C 59 k_turnstoneref10_SameCount_R11 Q (rset ρ 4 v4) h) (
    Q .normal ρ h)) := by kernel_rfl
set_option maxRecDepth 100000 in
theorem e_turnstoneref10_SameCount_R11 (C : Cfg) (Q : X → Rho → Hp → Prop) (ρ : Rho) (h : Hp) : codeR C 59 k_turnstoneref10_SameCount_R11 Q ρ h = (
  Q .ret ρ h) := by kernel_rfl
theorem f_turnstoneref10_SameCount {C : Cfg} (hs : C.start = startF) (a0 a1 : V) {h : Hp} {Q : V → Hp → Prop} (hk : C.K n_turnstoneref10_SameCount [a0, a1] h = none) (H : codeR C 59 k_turnstoneref10_SameCount (bodyQ [.tmp 4] Q) (argsR [a0, a1]) h) : cP C n_turnstoneref10_SameCount [a0, a1] h Q :=
  cP.funcN hs (show P0.funcs[29]? = some Tryz.f29 by unfold P0; exact Tryz.func29) (by kernel_rfl) (by kernel_rfl) (by kernel_rfl) hk (Nat.le_of_ble_eq_true rfl) (Wp.code _ H)
def J_turnstoneref10_SameCount_L0 (C : Cfg) (Q : V → Hp → Prop) (x2 x3 x5 : V) (h : Hp) : Prop := ∀ ρ : Rho, ρ 2 = x2 → ρ 3 = x3 → ρ 5 = x5 → Wp C 59 (.loop k_turnstoneref10_SameCount_L0) (q_turnstoneref10_SameCount_6 C (bodyQ [.tmp 4] Q)) ρ h
def B_turnstoneref10_SameCount_L0 (C : Cfg) (Q : V → Hp → Prop) (KL0 : V → V → V → Hp → Prop) (x2 x3 x5 : V) (h : Hp) : Prop :=
  oP (pFA 4 x2) fun v42 =>
  oP (pLd v42 h) fun v43 =>
  oP (pLen v43) fun v44 =>
  oP (hbin .lss 3 x5 v44) fun v45 =>
  bP v45 (
  oP (pFA 4 x2) fun v48 =>
  oP (pLd v48 h) fun v49 =>
  oP (pIx 2 v49 x5) fun v51 =>
  oP (pLdA 2 v51 h) fun v52 =>
  oP (pFA 4 x3) fun v53 =>
  oP (pLd v53 h) fun v54 =>
  oP (pIx 2 v54 x5) fun v56 =>
  oP (pLdA 2 v56 h) fun v57 =>
  oP (hbin .neq 60 v52 v57) fun v58 =>
  bP v58 (
  Q (V.bool false) h) (
  oP (hbin .add 3 x5 (V.int .i64 1)) fun v47 =>
  KL0 x2 x3 v47 h)) (
  Q (V.bool true) h)
set_option maxRecDepth 100000 in
theorem l_turnstoneref10_SameCount_L0 {C : Cfg} {Q : V → Hp → Prop} (I : Nat → V → V → V → Hp → Prop) (step : ∀ (k : Nat) (x2 x3 x5 : V) (h : Hp), I k x2 x3 x5 h → B_turnstoneref10_SameCount_L0 C Q (fun x2 x3 x5 h => ∃ k', k' < k ∧ I k' x2 x3 x5 h) x2 x3 x5 h) {k : Nat} {x2 x3 x5 : V} {h : Hp} (h0 : I k x2 x3 x5 h) : J_turnstoneref10_SameCount_L0 C Q x2 x3 x5 h := by
  intro ρ e2 e3 e5
  subst e2
  subst e3
  subst e5
  refine Wp.loopI (fun k ρ h => I k (ρ 2) (ρ 3) (ρ 5) h) (fun k ρ h hi => ?_) h0
  have H := step k (ρ 2) (ρ 3) (ρ 5) h hi
  unfold B_turnstoneref10_SameCount_L0 at H
  exact Wp.of (e_turnstoneref10_SameCount_L0 _ _ _ _) (oSm (oM H fun v42 _ H => oM H fun v43 _ H => oM H fun v44 _ H => oM H fun v45 _ H => Wp.of (e_turnstoneref10_SameCount_R7 _ _ _ _) (oSm (bM H (fun H => Wp.of (e_turnstoneref10_SameCount_R8 _ _ _ _) (oM H fun v48 Ev48 H => oM H fun v49 Ev49 H => oSm (oM H fun v51 Ev51 H => oM H fun v52 Ev52 H => oM H fun v53 Ev53 H => oM H fun v54 Ev54 H => oSm (oM H fun v56 Ev56 H => oM H fun v57 Ev57 H => oM H fun v58 Ev58 H => ⟨Ev58, ⟨Ev57, ⟨Ev56, ⟨rfl, ⟨Ev54, ⟨Ev53, ⟨Ev52, ⟨Ev51, ⟨rfl, ⟨Ev49, ⟨Ev48, Wp.of (e_turnstoneref10_SameCount_R9 _ _ _ _) (oSm (bM H (fun H => oSm (Wp.of (e_turnstoneref10_SameCount_R11 _ _ _ _) (H))) (fun H => Wp.of (e_turnstoneref10_SameCount_R10 _ _ _ _) (oSm (oM H fun v47 _ H => oSm (H))))))⟩⟩⟩⟩⟩⟩⟩⟩⟩⟩⟩)))) (fun H => Wp.of (e_turnstoneref10_SameCount_R5 _ _ _ _) (oSm (Wp.of (e_turnstoneref10_SameCount_R6 _ _ _ _) (H))))))))
def B_turnstoneref10_SameCount (C : Cfg) (Q : V → Hp → Prop) (a0 a1 : V) (h : Hp) : Prop :=
  alP (hbox 24 a0) h fun v2 h1 =>
  alP (hbox 24 a1) h1 fun v3 h2 =>
  oP (pFA 0 v2) fun v6 =>
  oP (pLd v6 h2) fun v7 =>
  oP (pFA 0 v3) fun v8 =>
  oP (pLd v8 h2) fun v9 =>
  oP (hbin .neq 3 v7 v9) fun v10 =>
  oP (pOr v10 (oB (pFA 1 v2) fun v12 => oB (pLd v12 h2) fun v13 => oB (pFA 1 v3) fun v14 => oB (pLd v14 h2) fun v15 => hbin .neq 3 v13 v15)) fun v17 =>
  oP (pOr v17 (oB (pFA 2 v2) fun v19 => oB (pLd v19 h2) fun v20 => oB (pFA 2 v3) fun v21 => oB (pLd v21 h2) fun v22 => hbin .neq 3 v20 v22)) fun v24 =>
  oP (pOr v24 (oB (pFA 3 v2) fun v26 => oB (pLd v26 h2) fun v27 => oB (pFA 3 v3) fun v28 => oB (pLd v28 h2) fun v29 => hbin .neq 3 v27 v29)) fun v31 =>
  oP (pOr v31 (oB (pFA 4 v2) fun v33 => oB (pLd v33 h2) fun v34 => oB (pLen v34) fun v35 => oB (pFA 4 v3) fun v36 => oB (pLd v36 h2) fun v37 => oB (pLen v37) fun v38 => hbin .neq 3 v35 v38)) fun v40 =>
  bP v40 (
  Q (V.bool false) h2) (
  J_turnstoneref10_SameCount_L0 C Q v2 v3 (V.int .i64 0) h2)
set_option maxRecDepth 100000 in
theorem c_turnstoneref10_SameCount {C : Cfg} (hs : C.start = startF) {a0 a1 : V} {h : Hp} {Q : V → Hp → Prop} (hk : C.K n_turnstoneref10_SameCount [a0, a1] h = none) (H : B_turnstoneref10_SameCount C Q a0 a1 h) : cP C n_turnstoneref10_SameCount [a0, a1] h Q := by
  unfold B_turnstoneref10_SameCount at H
  exact f_turnstoneref10_SameCount hs _ _ hk ((e_turnstoneref10_SameCount _ _ _ _).mpr (alM H fun v2 h1 H => alM H fun v3 h2 H => oSm (Wp.of (e_turnstoneref10_SameCount_R0 _ _ _ _) (oM H fun v6 _ H => oM H fun v7 _ H => oM H fun v8 _ H => oM H fun v9 _ H => oM H fun v10 _ H => oSm (thn (or_open H) fun H => sG1 H fun b6 Gv12 v12 Ev12 H => sG1 H fun b7 Gv13 v13 Ev13 H => sG1 H fun b8 Gv14 v14 Ev14 H => sG1 H fun b9 Gv15 v15 Ev15 H => oM H fun b10 Gv16 H => oM H fun v16 Ev16 H => oM H fun v17 Ev17 H => oSm (thn (or_open H) fun H => sG1 H fun b13 Gv19 v19 Ev19 H => sG1 H fun b14 Gv20 v20 Ev20 H => sG1 H fun b15 Gv21 v21 Ev21 H => sG1 H fun b16 Gv22 v22 Ev22 H => oM H fun b17 Gv23 H => oM H fun v23 Ev23 H => oM H fun v24 Ev24 H => oSm (thn (or_open H) fun H => sG1 H fun b20 Gv26 v26 Ev26 H => sG1 H fun b21 Gv27 v27 Ev27 H => sG1 H fun b22 Gv28 v28 Ev28 H => sG1 H fun b23 Gv29 v29 Ev29 H => oM H fun b24 Gv30 H => oM H fun v30 Ev30 H => oM H fun v31 Ev31 H => oSm (thn (or_open H) fun H => sG1 H fun b27 Gv33 v33 Ev33 H => sG1 H fun b28 Gv34 v34 Ev34 H => sG1 H fun b29 Gv35 v35 Ev35 H => sG1 H fun b30 Gv36 v36 Ev36 H => sG1 H fun b31 Gv37 v37 Ev37 H => sG1 H fun b32 Gv38 v38 Ev38 H => oM H fun b33 Gv39 H => oM H fun v39 Ev39 H => oM H fun v40 Ev40 H => Wp.of (e_turnstoneref10_SameCount_R1 _ _ _ _) (oSm (bM H (fun H => oSm (Wp.of (e_turnstoneref10_SameCount_R3 _ _ _ _) (H))) (fun H => Wp.of (e_turnstoneref10_SameCount_R2 _ _ _ _) (oSm (Wp.of (e_turnstoneref10_SameCount_R4 _ _ _ _) (H _ rfl rfl rfl))))))))))))))
/-! ### turnstone/turnstonelaw30.ScriptParses -/
noncomputable def k_turnstonelaw30_ScriptParses : Code := bodyOf Tryz.f3
noncomputable def k_turnstonelaw30_ScriptParses_R0 : Code := k_turnstonelaw30_ScriptParses.r
noncomputable def k_turnstonelaw30_ScriptParses_R1 : Code := k_turnstonelaw30_ScriptParses.r.r
noncomputable def k_turnstonelaw30_ScriptParses_R2 : Code := k_turnstonelaw30_ScriptParses.r.r.r
noncomputable def k_turnstonelaw30_ScriptParses_R3 : Code := k_turnstonelaw30_ScriptParses.r.r.r.r
set_option maxRecDepth 100000 in
theorem e_turnstonelaw30_ScriptParses (C : Cfg) (Q : X → Rho → Hp → Prop) (ρ : Rho) (h : Hp) : codeR C 28 k_turnstonelaw30_ScriptParses Q ρ h = (
  oP (some (V.bool false)) fun v2 =>
  Wp C 28 k_turnstonelaw30_ScriptParses_R0 Q (rset ρ 2 v2) h) := by kernel_rfl
set_option maxRecDepth 100000 in
theorem e_turnstonelaw30_ScriptParses_R0 (C : Cfg) (Q : X → Rho → Hp → Prop) (ρ : Rho) (h : Hp) : codeR C 28 k_turnstonelaw30_ScriptParses_R0 Q ρ h = (
  oP (some (ρ 0)) fun v8 =>
  dcP C n_script_Parse [v8] h fun v9 h1 =>
  oP (some v9) fun v7 =>
  oP (pExt 0 v7) fun v10 =>
  oP (pExt 1 v7) fun v11 =>
  alP (some (.cells 26 1 true false [(V.int .i64 0), (V.int .i64 0), (V.int .i64 0), (V.int .i64 0), (V.int .i64 0), (V.int .i64 0), (V.int .i64 0), (V.int .i64 0), V.nilSlice], fun l => .ptr l 0)) h1 fun v3 h2 =>
  valP (pSt 9 v3 v10 h2) fun vu h3 =>
  oP (some v11) fun v4 =>
  Wp C 28 k_turnstonelaw30_ScriptParses_R1 Q (rset (rset (rset (rset (rset (rset (rset ρ 8 v8) 9 v9) 7 v7) 10 v10) 11 v11) 3 v3) 4 v4) h3) := by kernel_rfl
set_option maxRecDepth 100000 in
theorem e_turnstonelaw30_ScriptParses_R1 (C : Cfg) (Q : X → Rho → Hp → Prop) (ρ : Rho) (h : Hp) : codeR C 28 k_turnstonelaw30_ScriptParses_R1 Q ρ h = (
  oP (some (ρ 0)) fun v13 =>
  dcP C n_turnstoneref30_Parse [v13] h fun v14 h1 =>
  oP (some v14) fun v12 =>
  oP (pExt 0 v12) fun v15 =>
  oP (pExt 1 v12) fun v16 =>
  alP (some (.cells 26 1 true false [(V.int .i64 0), (V.int .i64 0), (V.int .i64 0), (V.int .i64 0), (V.int .i64 0), (V.int .i64 0), (V.int .i64 0), (V.int .i64 0), V.nilSlice], fun l => .ptr l 0)) h1 fun v5 h2 =>
  valP (pSt 9 v5 v15 h2) fun vu h3 =>
  oP (some v16) fun v6 =>
  Wp C 28 k_turnstonelaw30_ScriptParses_R2 Q (rset (rset (rset (rset (rset (rset (rset ρ 13 v13) 14 v14) 12 v12) 15 v15) 16 v16) 5 v5) 6 v6) h3) := by kernel_rfl
set_option maxRecDepth 100000 in
theorem e_turnstonelaw30_ScriptParses_R2 (C : Cfg) (Q : X → Rho → Hp → Prop) (ρ : Rho) (h : Hp) : codeR C 28 k_turnstonelaw30_ScriptParses_R2 Q ρ h = (
  dcP C n_turnstonelaw30_known [] h fun v17 h1 =>
  oP (some v17) fun v18 =>
  oP (pGd true v18) fun b2 =>
  oP (gV b2 (some (ρ 4))) fun v19 =>
  oP (pGd true v18) fun b3 =>
  oP (gV b3 (some (ρ 6))) fun v20 =>
  oP (pGd true v18) fun b4 =>
  oP (gV b4 (hbin .eql 27 v19 v20)) fun v21 =>
  oP (pPick v18 v21 (V.bool false)) fun v22 =>
  oP (some v22) fun v23 =>
  oP (pGd true v23) fun b7 =>
  oP (gV b7 (pLdA 9 (ρ 3) h1)) fun v24 =>
  oP (pGd true v23) fun b8 =>
  oP (gV b8 (pLdA 9 (ρ 5) h1)) fun v25 =>
  oP (pGd true v23) fun b9 =>
  oP (gC b9 (some (n_turnstonelaw30_same, [v24, v25]))) fun x9 => cgP C x9 h1 fun v26 h2 =>
  oP (pPick v23 v26 (V.bool false)) fun v27 =>
  oP (some v27) fun v2 =>
  Wp C 28 k_turnstonelaw30_ScriptParses_R3 Q (rset (rset (rset (rset (rset (rset (rset (rset (rset (rset (rset (rset ρ 17 v17) 18 v18) 19 v19) 20 v20) 21 v21) 22 v22) 23 v23) 24 v24) 25 v25) 26 v26) 27 v27) 2 v2) h2) := by kernel_rfl
set_option maxRecDepth 100000 in
theorem e_turnstonelaw30_ScriptParses_R3 (C : Cfg) (Q : X → Rho → Hp → Prop) (ρ : Rho) (h : Hp) : codeR C 28 k_turnstonelaw30_ScriptParses_R3 Q ρ h = (
  Q .ret ρ h) := by kernel_rfl
theorem f_turnstonelaw30_ScriptParses {C : Cfg} (hs : C.start = startF) (a0 : V) {h : Hp} {Q : V → Hp → Prop} (hk : C.K n_turnstonelaw30_ScriptParses [a0] h = none) (H : codeR C 28 k_turnstonelaw30_ScriptParses (bodyQ [.tmp 2] Q) (argsR [a0]) h) : cP C n_turnstonelaw30_ScriptParses [a0] h Q :=
  cP.funcN hs (show P0.funcs[3]? = some Tryz.f3 by unfold P0; exact Tryz.func3) (by kernel_rfl) (by kernel_rfl) (by kernel_rfl) hk (Nat.le_of_ble_eq_true rfl) (Wp.code _ H)
def B_turnstonelaw30_ScriptParses (C : Cfg) (Q : V → Hp → Prop) (a0 : V) (h : Hp) : Prop :=
  cP C n_script_Parse [a0] h fun v9 h1 =>
  oP (pExt 0 v9) fun v10 =>
  oP (pExt 1 v9) fun v11 =>
  alP (some (.cells 26 1 true false [(V.int .i64 0), (V.int .i64 0), (V.int .i64 0), (V.int .i64 0), (V.int .i64 0), (V.int .i64 0), (V.int .i64 0), (V.int .i64 0), V.nilSlice], fun l => .ptr l 0)) h1 fun v3 h2 =>
  valP (pSt 9 v3 v10 h2) fun vu h3 =>
  cP C n_turnstoneref30_Parse [a0] h3 fun v14 h4 =>
  oP (pExt 0 v14) fun v15 =>
  oP (pExt 1 v14) fun v16 =>
  alP (some (.cells 26 1 true false [(V.int .i64 0), (V.int .i64 0), (V.int .i64 0), (V.int .i64 0), (V.int .i64 0), (V.int .i64 0), (V.int .i64 0), (V.int .i64 0), V.nilSlice], fun l => .ptr l 0)) h4 fun v5 h5 =>
  valP (pSt 9 v5 v15 h5) fun vu_1 h6 =>
  cP C n_turnstonelaw30_known [] h6 fun v17 h7 =>
  oP (pAnd v17 (oB (some v11) fun v19 => oB (some v16) fun v20 => hbin .eql 27 v19 v20)) fun v22 =>
  oP (pGd true v22) fun b7 =>
  oP (gV b7 (pLdA 9 v3 h7)) fun v24 =>
  oP (pGd true v22) fun b8 =>
  oP (gV b8 (pLdA 9 v5 h7)) fun v25 =>
  oP (pGd true v22) fun b9 =>
  oP (gC b9 (some (n_turnstonelaw30_same, [v24, v25]))) fun y9 => cgP C y9 h7 fun v26 h8 =>
  oP (pPick v22 v26 (V.bool false)) fun v27 =>
  Q v27 h8
set_option maxRecDepth 100000 in
theorem c_turnstonelaw30_ScriptParses {C : Cfg} (hs : C.start = startF) {a0 : V} {h : Hp} {Q : V → Hp → Prop} (hk : C.K n_turnstonelaw30_ScriptParses [a0] h = none) (H : B_turnstonelaw30_ScriptParses C Q a0 h) : cP C n_turnstonelaw30_ScriptParses [a0] h Q := by
  unfold B_turnstonelaw30_ScriptParses at H
  exact f_turnstonelaw30_ScriptParses hs _ hk ((e_turnstonelaw30_ScriptParses _ _ _ _).mpr (oSm (Wp.of (e_turnstonelaw30_ScriptParses_R0 _ _ _ _) (oSm (dcM H fun v9 h1 H => oSm (oM H fun v10 _ H => oM H fun v11 _ H => alM H fun v3 h2 H => valM H fun vu h3 H => oSm (Wp.of (e_turnstonelaw30_ScriptParses_R1 _ _ _ _) (oSm (dcM H fun v14 h4 H => oSm (oM H fun v15 _ H => oM H fun v16 _ H => alM H fun v5 h5 H => valM H fun vu_1 h6 H => oSm (Wp.of (e_turnstonelaw30_ScriptParses_R2 _ _ _ _) (dcM H fun v17 h7 H => oSm (thn (and_open H) fun H => sG1 H fun b2 Gv19 v19 Ev19 H => sG1 H fun b3 Gv20 v20 Ev20 H => oM H fun b4 Gv21 H => oM H fun v21 Ev21 H => oM H fun v22 Ev22 H => oSm (oM H fun b7 _ H => oM H fun v24 _ H => oM H fun b8 _ H => oM H fun v25 _ H => oM H fun b9 _ H => oM H fun y9 _ H => cgM H fun v26 h8 H => oM H fun v27 _ H => oSm (Wp.of (e_turnstonelaw30_ScriptParses_R3 _ _ _ _) (H))))))))))))))))
end Go.Proofs.YtdpfhajggknfaaaGreatDoor.Hx
