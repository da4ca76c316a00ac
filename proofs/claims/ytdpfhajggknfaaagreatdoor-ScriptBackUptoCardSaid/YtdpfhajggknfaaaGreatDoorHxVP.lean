/- What is left of the code of functions: printed by vc2.py, checked by computation. -/
import Derived.Test.YtdpfhajggknfaaaGreatDoorHxVC
namespace Go.Proofs.YtdpfhajggknfaaaGreatDoor.Hx
/-! ### turnstone/script.Print -/
noncomputable def k_script_Print : Code := bodyOf Tryz.f16
noncomputable def k_script_Print_R0 : Code := k_script_Print.r
noncomputable def k_script_Print_R1 : Code := k_script_Print.r.r
noncomputable def k_script_Print_R2 : Code := k_script_Print.r.r.l.r
noncomputable def k_script_Print_R3 : Code := k_script_Print.r.r.r
noncomputable def q_script_Print_0 (C : Cfg) (Q : X → Rho → Hp → Prop) : X → Rho → Hp → Prop := andThen (Wp C 38 k_script_Print_R3 Q) Q
theorem q_script_Print_0_normal (C : Cfg) (Q : X → Rho → Hp → Prop) (ρ : Rho) (h : Hp) : q_script_Print_0 C Q .normal ρ h = Wp C 38 k_script_Print_R3 Q ρ h := rfl
theorem q_script_Print_0_ret (C : Cfg) (Q : X → Rho → Hp → Prop) (ρ : Rho) (h : Hp) : q_script_Print_0 C Q .ret ρ h = Q .ret ρ h := rfl
noncomputable def k_script_Print_R4 : Code := k_script_Print.r.r.l.r.l.r
noncomputable def k_script_Print_R5 : Code := k_script_Print.r.r.r.r
noncomputable def k_script_Print_R6 : Code := k_script_Print.r.r.r.r.l.r
noncomputable def k_script_Print_R7 : Code := k_script_Print.r.r.r.r.r
noncomputable def q_script_Print_1 (C : Cfg) (Q : X → Rho → Hp → Prop) : X → Rho → Hp → Prop := andThen (Wp C 38 k_script_Print_R7 Q) Q
theorem q_script_Print_1_normal (C : Cfg) (Q : X → Rho → Hp → Prop) (ρ : Rho) (h : Hp) : q_script_Print_1 C Q .normal ρ h = Wp C 38 k_script_Print_R7 Q ρ h := rfl
theorem q_script_Print_1_ret (C : Cfg) (Q : X → Rho → Hp → Prop) (ρ : Rho) (h : Hp) : q_script_Print_1 C Q .ret ρ h = Q .ret ρ h := rfl
noncomputable def k_script_Print_L0 : Code := k_script_Print.r.r.r.r.l.r.l.l
noncomputable def q_script_Print_2 (C : Cfg) (Q : X → Rho → Hp → Prop) : X → Rho → Hp → Prop := blockQ 0 Q
theorem q_script_Print_2_normal (C : Cfg) (Q : X → Rho → Hp → Prop) (ρ : Rho) (h : Hp) : q_script_Print_2 C Q .normal ρ h = Q .normal ρ h := rfl
theorem q_script_Print_2_ret (C : Cfg) (Q : X → Rho → Hp → Prop) (ρ : Rho) (h : Hp) : q_script_Print_2 C Q .ret ρ h = Q .ret ρ h := rfl
theorem q_script_Print_2_exit0 (C : Cfg) (Q : X → Rho → Hp → Prop) (ρ : Rho) (h : Hp) : q_script_Print_2 C Q (.exit 0) ρ h = Q .normal ρ h := rfl
noncomputable def k_script_Print_R8 : Code := k_script_Print.r.r.r.r.r.r
noncomputable def k_script_Print_R9 : Code := k_script_Print.r.r.r.r.l.r.l.l.r
noncomputable def k_script_Print_R10 : Code := k_script_Print.r.r.r.r.l.r.l.l.r.r
noncomputable def k_script_Print_R11 : Code := k_script_Print.r.r.r.r.l.r.l.l.r.r.l.l.r
noncomputable def k_script_Print_R12 : Code := k_script_Print.r.r.r.r.l.r.l.l.r.r.r
noncomputable def q_script_Print_4 (C : Cfg) (Q : X → Rho → Hp → Prop) : X → Rho → Hp → Prop := andThen (Wp C 38 k_script_Print_R12 Q) Q
theorem q_script_Print_4_normal (C : Cfg) (Q : X → Rho → Hp → Prop) (ρ : Rho) (h : Hp) : q_script_Print_4 C Q .normal ρ h = Wp C 38 k_script_Print_R12 Q ρ h := rfl
theorem q_script_Print_4_ret (C : Cfg) (Q : X → Rho → Hp → Prop) (ρ : Rho) (h : Hp) : q_script_Print_4 C Q .ret ρ h = Q .ret ρ h := rfl
noncomputable def q_script_Print_3 (C : Cfg) (Q : X → Rho → Hp → Prop) : X → Rho → Hp → Prop := blockQ 1 (q_script_Print_4 C Q)
theorem q_script_Print_3_normal (C : Cfg) (Q : X → Rho → Hp → Prop) (ρ : Rho) (h : Hp) : q_script_Print_3 C Q .normal ρ h = Wp C 38 k_script_Print_R12 Q ρ h := rfl
theorem q_script_Print_3_ret (C : Cfg) (Q : X → Rho → Hp → Prop) (ρ : Rho) (h : Hp) : q_script_Print_3 C Q .ret ρ h = Q .ret ρ h := rfl
theorem q_script_Print_3_exit1 (C : Cfg) (Q : X → Rho → Hp → Prop) (ρ : Rho) (h : Hp) : q_script_Print_3 C Q (.exit 1) ρ h = Wp C 38 k_script_Print_R12 Q ρ h := rfl
noncomputable def k_script_Print_R13 : Code := k_script_Print.r.r.r.r.l.r.l.l.r.r.l.l.r.l.r
noncomputable def k_script_Print_R14 : Code := k_script_Print.r.r.r.r.l.r.l.l.r.r.l.l.r.r
noncomputable def q_script_Print_5 (C : Cfg) (Q : X → Rho → Hp → Prop) : X → Rho → Hp → Prop := andThen (Wp C 38 k_script_Print_R14 Q) Q
theorem q_script_Print_5_normal (C : Cfg) (Q : X → Rho → Hp → Prop) (ρ : Rho) (h : Hp) : q_script_Print_5 C Q .normal ρ h = Wp C 38 k_script_Print_R14 Q ρ h := rfl
theorem q_script_Print_5_ret (C : Cfg) (Q : X → Rho → Hp → Prop) (ρ : Rho) (h : Hp) : q_script_Print_5 C Q .ret ρ h = Q .ret ρ h := rfl
noncomputable def k_script_Print_R15 : Code := k_script_Print.r.r.r.r.l.r.l.l.r.r.l.l.r.l.r.l.r
noncomputable def q_script_Print_6 (C : Cfg) (Q : X → Rho → Hp → Prop) : X → Rho → Hp → Prop := blockQ 0 (q_script_Print_1 C Q)
theorem q_script_Print_6_normal (C : Cfg) (Q : X → Rho → Hp → Prop) (ρ : Rho) (h : Hp) : q_script_Print_6 C Q .normal ρ h = Wp C 38 k_script_Print_R7 Q ρ h := rfl
theorem q_script_Print_6_ret (C : Cfg) (Q : X → Rho → Hp → Prop) (ρ : Rho) (h : Hp) : q_script_Print_6 C Q .ret ρ h = Q .ret ρ h := rfl
theorem q_script_Print_6_exit0 (C : Cfg) (Q : X → Rho → Hp → Prop) (ρ : Rho) (h : Hp) : q_script_Print_6 C Q (.exit 0) ρ h = Wp C 38 k_script_Print_R7 Q ρ h := rfl
set_option maxRecDepth 100000 in
theorem e_script_Print (C : Cfg) (Q : X → Rho → Hp → Prop) (ρ : Rho) (h : Hp) : codeR C 38 k_script_Print Q ρ h = (
  alP (hbox 26 (ρ 0)) h fun v1 h1 =>
  oP (some (V.str [])) fun v2 =>
  oP (some (V.int .i64 0)) fun v3 =>
  Wp C 38 k_script_Print_R0 Q (rset (rset (rset ρ 1 v1) 2 v2) 3 v3) h1) := by kernel_rfl
set_option maxRecDepth 100000 in
theorem e_script_Print_R0 (C : Cfg) (Q : X → Rho → Hp → Prop) (ρ : Rho) (h : Hp) : codeR C 38 k_script_Print_R0 Q ρ h = (
  oP (pLdA 9 (ρ 1) h) fun v10 =>
  dcP C n_script_ints [v10] h fun v11 h1 =>
  oP (some v11) fun v9 =>
  oP (pExt 0 v9) fun v12 =>
  oP (pExt 1 v9) fun v13 =>
  oP (some v12) fun v4 =>
  oP (some v13) fun v5 =>
  Wp C 38 k_script_Print_R1 Q (rset (rset (rset (rset (rset (rset (rset ρ 10 v10) 11 v11) 9 v9) 12 v12) 13 v13) 4 v4) 5 v5) h1) := by kernel_rfl
set_option maxRecDepth 100000 in
theorem e_script_Print_R1 (C : Cfg) (Q : X → Rho → Hp → Prop) (ρ : Rho) (h : Hp) : codeR C 38 k_script_Print_R1 Q ρ h = (
  oP (some (ρ 5)) fun v14 =>
  oP (hun .not v14) fun v15 =>
  Wp C 38 k_script_Print_R2 (q_script_Print_0 C Q) (rset (rset ρ 14 v14) 15 v15) h) := by kernel_rfl
set_option maxRecDepth 100000 in
theorem e_script_Print_R3 (C : Cfg) (Q : X → Rho → Hp → Prop) (ρ : Rho) (h : Hp) : codeR C 38 k_script_Print_R3 Q ρ h = (
  oP (pFA 0 (ρ 1)) fun v16 =>
  oP (pLd v16 h) fun v17 =>
  dcP C n_script_name [v17] h fun v18 h1 =>
  oP (some v18) fun v6 =>
  Wp C 38 k_script_Print_R5 Q (rset (rset (rset (rset ρ 16 v16) 17 v17) 18 v18) 6 v6) h1) := by kernel_rfl
set_option maxRecDepth 100000 in
theorem e_script_Print_R2 (C : Cfg) (Q : X → Rho → Hp → Prop) (ρ : Rho) (h : Hp) : codeR C 38 k_script_Print_R2 Q ρ h = (
  oP (some (ρ 15)) fun c =>
  bP c (
    oP (some (V.str [])) fun v2 =>
    oP (some (V.int .i64 1)) fun v3 =>
    Wp C 38 k_script_Print_R4 Q (rset (rset ρ 2 v2) 3 v3) h) (
    Q .normal ρ h)) := by kernel_rfl
set_option maxRecDepth 100000 in
theorem e_script_Print_R5 (C : Cfg) (Q : X → Rho → Hp → Prop) (ρ : Rho) (h : Hp) : codeR C 38 k_script_Print_R5 Q ρ h = (
  oP (some (ρ 4)) fun v19 =>
  oP (pLen v19) fun v20 =>
  oP (some (V.int .i64 0)) fun v21 =>
  Wp C 38 k_script_Print_R6 (q_script_Print_1 C Q) (rset (rset (rset ρ 19 v19) 20 v20) 21 v21) h) := by kernel_rfl
set_option maxRecDepth 100000 in
theorem e_script_Print_R7 (C : Cfg) (Q : X → Rho → Hp → Prop) (ρ : Rho) (h : Hp) : codeR C 38 k_script_Print_R7 Q ρ h = (
  oP (some (ρ 6)) fun v37 =>
  oP (some v37) fun v2 =>
  oP (some (V.int .i64 0)) fun v3 =>
  Wp C 38 k_script_Print_R8 Q (rset (rset (rset ρ 37 v37) 2 v2) 3 v3) h) := by kernel_rfl
set_option maxRecDepth 100000 in
theorem e_script_Print_R4 (C : Cfg) (Q : X → Rho → Hp → Prop) (ρ : Rho) (h : Hp) : codeR C 38 k_script_Print_R4 Q ρ h = (
  Q .ret ρ h) := by kernel_rfl
set_option maxRecDepth 100000 in
theorem e_script_Print_R6 (C : Cfg) (Q : X → Rho → Hp → Prop) (ρ : Rho) (h : Hp) : codeR C 38 k_script_Print_R6 Q ρ h = (
  Wp C 38 (.loop k_script_Print_L0) (q_script_Print_2 C Q) ρ h) := by kernel_rfl
set_option maxRecDepth 100000 in
theorem e_script_Print_R8 (C : Cfg) (Q : X → Rho → Hp → Prop) (ρ : Rho) (h : Hp) : codeR C 38 k_script_Print_R8 Q ρ h = (
  Q .ret ρ h) := by kernel_rfl
set_option maxRecDepth 100000 in
theorem e_script_Print_L0 (C : Cfg) (Q : X → Rho → Hp → Prop) (ρ : Rho) (h : Hp) : codeR C 38 k_script_Print_L0 Q ρ h = (
  oP (hbin .lss 3 (ρ 21) (ρ 20)) fun v22 =>
  Wp C 38 k_script_Print_R9 Q (rset ρ 22 v22) h) := by kernel_rfl
set_option maxRecDepth 100000 in
theorem e_script_Print_R9 (C : Cfg) (Q : X → Rho → Hp → Prop) (ρ : Rho) (h : Hp) : codeR C 38 k_script_Print_R9 Q ρ h = (
  oP (some (ρ 22)) fun c =>
  bP c (
    Wp C 38 k_script_Print_R10 Q ρ h) (
    Q (.exit 0) ρ h)) := by kernel_rfl
set_option maxRecDepth 100000 in
theorem e_script_Print_R10 (C : Cfg) (Q : X → Rho → Hp → Prop) (ρ : Rho) (h : Hp) : codeR C 38 k_script_Print_R10 Q ρ h = (
  oP (pIx 1 (ρ 19) (ρ 21)) fun v23 =>
  oP (pLd v23 h) fun v24 =>
  oP (some v24) fun v8 =>
  Wp C 38 k_script_Print_R11 (q_script_Print_3 C Q) (rset (rset (rset ρ 23 v23) 24 v24) 8 v8) h) := by kernel_rfl
set_option maxRecDepth 100000 in
theorem e_script_Print_R12 (C : Cfg) (Q : X → Rho → Hp → Prop) (ρ : Rho) (h : Hp) : codeR C 38 k_script_Print_R12 Q ρ h = (
  oP (hbin .add 3 (ρ 21) (V.int .i64 1)) fun v36 =>
  oP (some v36) fun v21 =>
  Q .normal (rset (rset ρ 36 v36) 21 v21) h) := by kernel_rfl
set_option maxRecDepth 100000 in
theorem e_script_Print_R11 (C : Cfg) (Q : X → Rho → Hp → Prop) (ρ : Rho) (h : Hp) : codeR C 38 k_script_Print_R11 Q ρ h = (
  oP (some (ρ 8)) fun v25 =>
  oP (hbin .lss 3 v25 (V.int .i64 (-4611686018427387904))) fun v26 =>
  oP (some v26) fun v27 =>
  oP (pGd false v27) fun b3 =>
  oP (gV b3 (some (ρ 8))) fun v28 =>
  oP (pGd false v27) fun b4 =>
  oP (gV b4 (hbin .gtr 3 v28 (V.int .i64 4611686018427387904))) fun v29 =>
  oP (pPick v27 (V.bool true) v29) fun v30 =>
  Wp C 38 k_script_Print_R13 (q_script_Print_5 C Q) (rset (rset (rset (rset (rset (rset ρ 25 v25) 26 v26) 27 v27) 28 v28) 29 v29) 30 v30) h) := by kernel_rfl
set_option maxRecDepth 100000 in
theorem e_script_Print_R14 (C : Cfg) (Q : X → Rho → Hp → Prop) (ρ : Rho) (h : Hp) : codeR C 38 k_script_Print_R14 Q ρ h = (
  oP (some (ρ 6)) fun v31 =>
  oP (some (ρ 8)) fun v32 =>
  dcP C n_strconv_Itoa [v32] h fun v33 h1 =>
  oP (hbin .add 9 (V.str [32]) v33) fun v34 =>
  oP (hbin .add 9 v31 v34) fun v35 =>
  oP (some v35) fun v6 =>
  Q .normal (rset (rset (rset (rset (rset (rset ρ 31 v31) 32 v32) 33 v33) 34 v34) 35 v35) 6 v6) h1) := by kernel_rfl
set_option maxRecDepth 100000 in
theorem e_script_Print_R13 (C : Cfg) (Q : X → Rho → Hp → Prop) (ρ : Rho) (h : Hp) : codeR C 38 k_script_Print_R13 Q ρ h = (
  oP (some (ρ 30)) fun c =>
  bP c (
    oP (some (V.str [])) fun v2 =>
    oP (some (V.int .i64 1)) fun v3 =>
    Wp C 38 k_script_Print_R15 Q (rset (rset ρ 2 v2) 3 v3) h) (
    Q .normal ρ h)) := by kernel_rfl
set_option maxRecDepth 100000 in
theorem e_script_Print_R15 (C : Cfg) (Q : X → Rho → Hp → Prop) (ρ : Rho) (h : Hp) : codeR C 38 k_script_Print_R15 Q ρ h = (
  Q .ret ρ h) := by kernel_rfl
theorem f_script_Print {C : Cfg} (hs : C.start = startF) (a0 : V) {h : Hp} {Q : V → Hp → Prop} (hk : C.K n_script_Print [a0] h = none) (H : codeR C 38 k_script_Print (bodyQ [.tmp 2, .tmp 3] Q) (argsR [a0]) h) : cP C n_script_Print [a0] h Q :=
  cP.funcN hs (show P0.funcs[16]? = some Tryz.f16 by unfold P0; exact Tryz.func16) (by kernel_rfl) (by kernel_rfl) (by kernel_rfl) hk (Nat.le_of_ble_eq_true rfl) (Wp.code _ H)
def J_script_Print_L0 (C : Cfg) (Q : V → Hp → Prop) (x6 x19 x20 x21 : V) (h : Hp) : Prop := ∀ ρ : Rho, ρ 6 = x6 → ρ 19 = x19 → ρ 20 = x20 → ρ 21 = x21 → Wp C 38 (.loop k_script_Print_L0) (q_script_Print_6 C (bodyQ [.tmp 2, .tmp 3] Q)) ρ h
def B_script_Print_L0 (C : Cfg) (Q : V → Hp → Prop) (KL0 : V → V → V → V → Hp → Prop) (x6 x19 x20 x21 : V) (h : Hp) : Prop :=
  oP (hbin .lss 3 x21 x20) fun v22 =>
  bP v22 (
  oP (pIx 1 x19 x21) fun v23 =>
  oP (pLd v23 h) fun v24 =>
  oP (hbin .lss 3 v24 (V.int .i64 (-4611686018427387904))) fun v26 =>
  oP (pOr v26 (oB (some v24) fun v28 => hbin .gtr 3 v28 (V.int .i64 4611686018427387904))) fun v30 =>
  bP v30 (
  Q (V.tuple [(V.str []), (V.int .i64 1)]) h) (
  cP C n_strconv_Itoa [v24] h fun v33 h1 =>
  oP (hbin .add 9 (V.str [32]) v33) fun v34 =>
  oP (hbin .add 9 x6 v34) fun v35 =>
  oP (hbin .add 3 x21 (V.int .i64 1)) fun v36 =>
  KL0 v35 x19 x20 v36 h1)) (
  Q (V.tuple [x6, (V.int .i64 0)]) h)
set_option maxRecDepth 100000 in
theorem l_script_Print_L0 {C : Cfg} {Q : V → Hp → Prop} (I : Nat → V → V → V → V → Hp → Prop) (step : ∀ (k : Nat) (x6 x19 x20 x21 : V) (h : Hp), I k x6 x19 x20 x21 h → B_script_Print_L0 C Q (fun x6 x19 x20 x21 h => ∃ k', k' < k ∧ I k' x6 x19 x20 x21 h) x6 x19 x20 x21 h) {k : Nat} {x6 x19 x20 x21 : V} {h : Hp} (h0 : I k x6 x19 x20 x21 h) : J_script_Print_L0 C Q x6 x19 x20 x21 h := by
  intro ρ e6 e19 e20 e21
  subst e6
  subst e19
  subst e20
  subst e21
  refine Wp.loopI (fun k ρ h => I k (ρ 6) (ρ 19) (ρ 20) (ρ 21) h) (fun k ρ h hi => ?_) h0
  have H := step k (ρ 6) (ρ 19) (ρ 20) (ρ 21) h hi
  unfold B_script_Print_L0 at H
  exact Wp.of (e_script_Print_L0 _ _ _ _) (oM H fun v22 _ H => Wp.of (e_script_Print_R9 _ _ _ _) (oSm (bM H (fun H => Wp.of (e_script_Print_R10 _ _ _ _) (oM H fun v23 _ H => oM H fun v24 _ H => oSm (Wp.of (e_script_Print_R11 _ _ _ _) (oSm (oM H fun v26 _ H => oSm (thn (or_open H) fun H => sG1 H fun b3 Gv28 v28 Ev28 H => oM H fun b4 Gv29 H => oM H fun v29 Ev29 H => oM H fun v30 Ev30 H => Wp.of (e_script_Print_R13 _ _ _ _) (oSm (bM H (fun H => oSm (oSm (Wp.of (e_script_Print_R15 _ _ _ _) (H)))) (fun H => Wp.of (e_script_Print_R14 _ _ _ _) (oSm (oSm (dcM H fun v33 h1 H => oM H fun v34 _ H => oM H fun v35 _ H => oSm (Wp.of (e_script_Print_R12 _ _ _ _) (oM H fun v36 _ H => oSm (H))))))))))))))) (fun H => Wp.of (e_script_Print_R7 _ _ _ _) (oSm (oSm (oSm (Wp.of (e_script_Print_R8 _ _ _ _) (H)))))))))
def B_script_Print (C : Cfg) (Q : V → Hp → Prop) (a0 : V) (h : Hp) : Prop :=
  alP (hbox 26 a0) h fun v1 h1 =>
  oP (pLdA 9 v1 h1) fun v10 =>
  cP C n_script_ints [v10] h1 fun v11 h2 =>
  oP (pExt 0 v11) fun v12 =>
  oP (pExt 1 v11) fun v13 =>
  oP (hun .not v13) fun v15 =>
  bP v15 (
  Q (V.tuple [(V.str []), (V.int .i64 1)]) h2) (
  oP (pFA 0 v1) fun v16 =>
  oP (pLd v16 h2) fun v17 =>
  cP C n_script_name [v17] h2 fun v18 h3 =>
  oP (pLen v12) fun v20 =>
  J_script_Print_L0 C Q v18 v12 v20 (V.int .i64 0) h3)
set_option maxRecDepth 100000 in
theorem c_script_Print {C : Cfg} (hs : C.start = startF) {a0 : V} {h : Hp} {Q : V → Hp → Prop} (hk : C.K n_script_Print [a0] h = none) (H : B_script_Print C Q a0 h) : cP C n_script_Print [a0] h Q := by
  unfold B_script_Print at H
  exact f_script_Print hs _ hk ((e_script_Print _ _ _ _).mpr (alM H fun v1 h1 H => oSm (oSm (Wp.of (e_script_Print_R0 _ _ _ _) (oM H fun v10 _ H => dcM H fun v11 h2 H => oSm (oM H fun v12 _ H => oM H fun v13 _ H => oSm (oSm (Wp.of (e_script_Print_R1 _ _ _ _) (oSm (oM H fun v15 _ H => Wp.of (e_script_Print_R2 _ _ _ _) (oSm (bM H (fun H => oSm (oSm (Wp.of (e_script_Print_R4 _ _ _ _) (H)))) (fun H => Wp.of (e_script_Print_R3 _ _ _ _) (oM H fun v16 _ H => oM H fun v17 _ H => dcM H fun v18 h3 H => oSm (Wp.of (e_script_Print_R5 _ _ _ _) (oSm (oM H fun v20 _ H => oSm (Wp.of (e_script_Print_R6 _ _ _ _) (H _ rfl rfl rfl rfl)))))))))))))))))))
/-! ### turnstone/script.ints -/
noncomputable def k_script_ints : Code := bodyOf Tryz.f34
noncomputable def k_script_ints_R0 : Code := k_script_ints.r
noncomputable def k_script_ints_R1 : Code := k_script_ints.r.l.r
noncomputable def k_script_ints_R2 : Code := k_script_ints.r.r
noncomputable def q_script_ints_0 (C : Cfg) (Q : X → Rho → Hp → Prop) : X → Rho → Hp → Prop := andThen (Wp C 66 k_script_ints_R2 Q) Q
theorem q_script_ints_0_normal (C : Cfg) (Q : X → Rho → Hp → Prop) (ρ : Rho) (h : Hp) : q_script_ints_0 C Q .normal ρ h = Wp C 66 k_script_ints_R2 Q ρ h := rfl
theorem q_script_ints_0_ret (C : Cfg) (Q : X → Rho → Hp → Prop) (ρ : Rho) (h : Hp) : q_script_ints_0 C Q .ret ρ h = Q .ret ρ h := rfl
noncomputable def k_script_ints_R3 : Code := k_script_ints.r.l.r.l.l.r
noncomputable def q_script_ints_2 (C : Cfg) (Q : X → Rho → Hp → Prop) : X → Rho → Hp → Prop := blockQ 0 Q
theorem q_script_ints_2_normal (C : Cfg) (Q : X → Rho → Hp → Prop) (ρ : Rho) (h : Hp) : q_script_ints_2 C Q .normal ρ h = Q .normal ρ h := rfl
theorem q_script_ints_2_ret (C : Cfg) (Q : X → Rho → Hp → Prop) (ρ : Rho) (h : Hp) : q_script_ints_2 C Q .ret ρ h = Q .ret ρ h := rfl
theorem q_script_ints_2_exit0 (C : Cfg) (Q : X → Rho → Hp → Prop) (ρ : Rho) (h : Hp) : q_script_ints_2 C Q (.exit 0) ρ h = Q .normal ρ h := rfl
noncomputable def k_script_ints_R4 : Code := k_script_ints.r.l.r.l.r
noncomputable def q_script_ints_1 (C : Cfg) (Q : X → Rho → Hp → Prop) : X → Rho → Hp → Prop := andThen (Wp C 66 k_script_ints_R4 (q_script_ints_2 C Q)) (q_script_ints_2 C Q)
theorem q_script_ints_1_normal (C : Cfg) (Q : X → Rho → Hp → Prop) (ρ : Rho) (h : Hp) : q_script_ints_1 C Q .normal ρ h = Wp C 66 k_script_ints_R4 (q_script_ints_2 C Q) ρ h := rfl
theorem q_script_ints_1_ret (C : Cfg) (Q : X → Rho → Hp → Prop) (ρ : Rho) (h : Hp) : q_script_ints_1 C Q .ret ρ h = Q .ret ρ h := rfl
theorem q_script_ints_1_exit0 (C : Cfg) (Q : X → Rho → Hp → Prop) (ρ : Rho) (h : Hp) : q_script_ints_1 C Q (.exit 0) ρ h = Q .normal ρ h := rfl
noncomputable def k_script_ints_R5 : Code := k_script_ints.r.r.r
noncomputable def k_script_ints_R6 : Code := k_script_ints.r.l.r.l.l.r.r.r
noncomputable def k_script_ints_R7 : Code := k_script_ints.r.l.r.l.r.l.r
noncomputable def k_script_ints_R8 : Code := k_script_ints.r.l.r.l.r.r.l.r
noncomputable def k_script_ints_R9 : Code := k_script_ints.r.l.r.l.r.r.r
noncomputable def q_script_ints_3 (C : Cfg) (Q : X → Rho → Hp → Prop) : X → Rho → Hp → Prop := andThen (Wp C 66 k_script_ints_R9 Q) Q
theorem q_script_ints_3_normal (C : Cfg) (Q : X → Rho → Hp → Prop) (ρ : Rho) (h : Hp) : q_script_ints_3 C Q .normal ρ h = Wp C 66 k_script_ints_R9 Q ρ h := rfl
theorem q_script_ints_3_ret (C : Cfg) (Q : X → Rho → Hp → Prop) (ρ : Rho) (h : Hp) : q_script_ints_3 C Q .ret ρ h = Q .ret ρ h := rfl
noncomputable def k_script_ints_R10 : Code := k_script_ints.r.l.r.l.r.r.r.l.r
noncomputable def k_script_ints_R11 : Code := k_script_ints.r.l.r.l.r.r.r.r.r
noncomputable def k_script_ints_R12 : Code := k_script_ints.r.l.r.l.r.r.r.r.r.l.r
noncomputable def k_script_ints_R13 : Code := k_script_ints.r.l.r.l.r.r.r.r.r.r.r
noncomputable def k_script_ints_R14 : Code := k_script_ints.r.l.r.l.r.r.r.r.r.r.r.l.r
noncomputable def k_script_ints_R15 : Code := k_script_ints.r.l.r.l.r.r.r.r.r.r.r.l.r.l.r
noncomputable def k_script_ints_R16 : Code := k_script_ints.r.l.r.l.r.r.r.r.r.r.r.l.r.r
noncomputable def q_script_ints_4 (C : Cfg) (Q : X → Rho → Hp → Prop) : X → Rho → Hp → Prop := andThen (Wp C 66 k_script_ints_R16 Q) Q
theorem q_script_ints_4_normal (C : Cfg) (Q : X → Rho → Hp → Prop) (ρ : Rho) (h : Hp) : q_script_ints_4 C Q .normal ρ h = Wp C 66 k_script_ints_R16 Q ρ h := rfl
theorem q_script_ints_4_ret (C : Cfg) (Q : X → Rho → Hp → Prop) (ρ : Rho) (h : Hp) : q_script_ints_4 C Q .ret ρ h = Q .ret ρ h := rfl
noncomputable def k_script_ints_R17 : Code := k_script_ints.r.l.r.l.r.r.r.r.r.r.r.l.r.l.r.l.r
noncomputable def k_script_ints_R18 : Code := k_script_ints.r.l.r.l.r.r.r.r.r.r.r.l.r.r.l.r
noncomputable def k_script_ints_R19 : Code := k_script_ints.r.l.r.l.r.r.r.r.r.r.r.l.r.r.r
noncomputable def q_script_ints_5 (C : Cfg) (Q : X → Rho → Hp → Prop) : X → Rho → Hp → Prop := andThen (Wp C 66 k_script_ints_R19 Q) Q
theorem q_script_ints_5_normal (C : Cfg) (Q : X → Rho → Hp → Prop) (ρ : Rho) (h : Hp) : q_script_ints_5 C Q .normal ρ h = Wp C 66 k_script_ints_R19 Q ρ h := rfl
theorem q_script_ints_5_ret (C : Cfg) (Q : X → Rho → Hp → Prop) (ρ : Rho) (h : Hp) : q_script_ints_5 C Q .ret ρ h = Q .ret ρ h := rfl
noncomputable def k_script_ints_L0 : Code := k_script_ints.r.l.r.l.r.r.r.r.r.r.r.l.r.r.l.r.l.l
noncomputable def q_script_ints_6 (C : Cfg) (Q : X → Rho → Hp → Prop) : X → Rho → Hp → Prop := blockQ 1 Q
theorem q_script_ints_6_normal (C : Cfg) (Q : X → Rho → Hp → Prop) (ρ : Rho) (h : Hp) : q_script_ints_6 C Q .normal ρ h = Q .normal ρ h := rfl
theorem q_script_ints_6_ret (C : Cfg) (Q : X → Rho → Hp → Prop) (ρ : Rho) (h : Hp) : q_script_ints_6 C Q .ret ρ h = Q .ret ρ h := rfl
theorem q_script_ints_6_exit1 (C : Cfg) (Q : X → Rho → Hp → Prop) (ρ : Rho) (h : Hp) : q_script_ints_6 C Q (.exit 1) ρ h = Q .normal ρ h := rfl
noncomputable def k_script_ints_R20 : Code := k_script_ints.r.l.r.l.r.r.r.r.r.r.r.l.r.r.r.r
noncomputable def k_script_ints_R21 : Code := k_script_ints.r.l.r.l.r.r.r.r.r.r.r.l.r.r.l.r.l.l.r
noncomputable def k_script_ints_R22 : Code := k_script_ints.r.l.r.l.r.r.r.r.r.r.r.l.r.r.l.r.l.l.r.r
noncomputable def k_script_ints_R23 : Code := k_script_ints.r.l.r.l.r.r.r.r.r.r.r.l.r.r.l.r.l.l.r.r.l.l.r
noncomputable def k_script_ints_R24 : Code := k_script_ints.r.l.r.l.r.r.r.r.r.r.r.l.r.r.l.r.l.l.r.r.r
noncomputable def q_script_ints_8 (C : Cfg) (Q : X → Rho → Hp → Prop) : X → Rho → Hp → Prop := andThen (Wp C 66 k_script_ints_R24 Q) Q
theorem q_script_ints_8_normal (C : Cfg) (Q : X → Rho → Hp → Prop) (ρ : Rho) (h : Hp) : q_script_ints_8 C Q .normal ρ h = Wp C 66 k_script_ints_R24 Q ρ h := rfl
theorem q_script_ints_8_ret (C : Cfg) (Q : X → Rho → Hp → Prop) (ρ : Rho) (h : Hp) : q_script_ints_8 C Q .ret ρ h = Q .ret ρ h := rfl
noncomputable def q_script_ints_7 (C : Cfg) (Q : X → Rho → Hp → Prop) : X → Rho → Hp → Prop := blockQ 2 (q_script_ints_8 C Q)
theorem q_script_ints_7_normal (C : Cfg) (Q : X → Rho → Hp → Prop) (ρ : Rho) (h : Hp) : q_script_ints_7 C Q .normal ρ h = Wp C 66 k_script_ints_R24 Q ρ h := rfl
theorem q_script_ints_7_ret (C : Cfg) (Q : X → Rho → Hp → Prop) (ρ : Rho) (h : Hp) : q_script_ints_7 C Q .ret ρ h = Q .ret ρ h := rfl
theorem q_script_ints_7_exit2 (C : Cfg) (Q : X → Rho → Hp → Prop) (ρ : Rho) (h : Hp) : q_script_ints_7 C Q (.exit 2) ρ h = Wp C 66 k_script_ints_R24 Q ρ h := rfl
noncomputable def q_script_ints_9 (C : Cfg) (Q : X → Rho → Hp → Prop) : X → Rho → Hp → Prop := blockQ 0 (q_script_ints_0 C Q)
theorem q_script_ints_9_normal (C : Cfg) (Q : X → Rho → Hp → Prop) (ρ : Rho) (h : Hp) : q_script_ints_9 C Q .normal ρ h = Wp C 66 k_script_ints_R2 Q ρ h := rfl
theorem q_script_ints_9_ret (C : Cfg) (Q : X → Rho → Hp → Prop) (ρ : Rho) (h : Hp) : q_script_ints_9 C Q .ret ρ h = Q .ret ρ h := rfl
theorem q_script_ints_9_exit0 (C : Cfg) (Q : X → Rho → Hp → Prop) (ρ : Rho) (h : Hp) : q_script_ints_9 C Q (.exit 0) ρ h = Wp C 66 k_script_ints_R2 Q ρ h := rfl
noncomputable def q_script_ints_11 (C : Cfg) (Q : X → Rho → Hp → Prop) : X → Rho → Hp → Prop := andThen (Wp C 66 k_script_ints_R19 (q_script_ints_9 C Q)) (q_script_ints_9 C Q)
theorem q_script_ints_11_normal (C : Cfg) (Q : X → Rho → Hp → Prop) (ρ : Rho) (h : Hp) : q_script_ints_11 C Q .normal ρ h = Wp C 66 k_script_ints_R19 (q_script_ints_9 C Q) ρ h := rfl
theorem q_script_ints_11_ret (C : Cfg) (Q : X → Rho → Hp → Prop) (ρ : Rho) (h : Hp) : q_script_ints_11 C Q .ret ρ h = Q .ret ρ h := rfl
theorem q_script_ints_11_exit0 (C : Cfg) (Q : X → Rho → Hp → Prop) (ρ : Rho) (h : Hp) : q_script_ints_11 C Q (.exit 0) ρ h = Wp C 66 k_script_ints_R2 Q ρ h := rfl
noncomputable def q_script_ints_10 (C : Cfg) (Q : X → Rho → Hp → Prop) : X → Rho → Hp → Prop := blockQ 1 (q_script_ints_11 C Q)
theorem q_script_ints_10_normal (C : Cfg) (Q : X → Rho → Hp → Prop) (ρ : Rho) (h : Hp) : q_script_ints_10 C Q .normal ρ h = Wp C 66 k_script_ints_R19 (q_script_ints_9 C Q) ρ h := rfl
theorem q_script_ints_10_ret (C : Cfg) (Q : X → Rho → Hp → Prop) (ρ : Rho) (h : Hp) : q_script_ints_10 C Q .ret ρ h = Q .ret ρ h := rfl
theorem q_script_ints_10_exit1 (C : Cfg) (Q : X → Rho → Hp → Prop) (ρ : Rho) (h : Hp) : q_script_ints_10 C Q (.exit 1) ρ h = Wp C 66 k_script_ints_R19 (q_script_ints_9 C Q) ρ h := rfl
theorem q_script_ints_10_exit0 (C : Cfg) (Q : X → Rho → Hp → Prop) (ρ : Rho) (h : Hp) : q_script_ints_10 C Q (.exit 0) ρ h = Wp C 66 k_script_ints_R2 Q ρ h := rfl
set_option maxRecDepth 100000 in
theorem e_script_ints (C : Cfg) (Q : X → Rho → Hp → Prop) (ρ : Rho) (h : Hp) : codeR C 66 k_script_ints Q ρ h = (
  alP (hbox 26 (ρ 0)) h fun v1 h1 =>
  oP (some V.nilSlice) fun v2 =>
  oP (some (V.bool false)) fun v3 =>
  Wp C 66 k_script_ints_R0 Q (rset (rset (rset ρ 1 v1) 2 v2) 3 v3) h1) := by kernel_rfl
set_option maxRecDepth 100000 in
theorem e_script_ints_R0 (C : Cfg) (Q : X → Rho → Hp → Prop) (ρ : Rho) (h : Hp) : codeR C 66 k_script_ints_R0 Q ρ h = (
  oP (pFA 0 (ρ 1)) fun v7 =>
  oP (pLd v7 h) fun v8 =>
  Wp C 66 k_script_ints_R1 (q_script_ints_0 C Q) (rset (rset ρ 7 v7) 8 v8) h) := by kernel_rfl
set_option maxRecDepth 100000 in
theorem e_script_ints_R2 (C : Cfg) (Q : X → Rho → Hp → Prop) (ρ : Rho) (h : Hp) : codeR C 66 k_script_ints_R2 Q ρ h = (
  oP (some V.nilSlice) fun v2 =>
  oP (some (V.bool false)) fun v3 =>
  Wp C 66 k_script_ints_R5 Q (rset (rset ρ 2 v2) 3 v3) h) := by kernel_rfl
set_option maxRecDepth 100000 in
theorem e_script_ints_R1 (C : Cfg) (Q : X → Rho → Hp → Prop) (ρ : Rho) (h : Hp) : codeR C 66 k_script_ints_R1 Q ρ h = (
  oP (hbin .eql 3 (ρ 8) (V.int .i64 1)) fun v10 =>
  oP (some v10) fun v9 =>
  Wp C 66 k_script_ints_R3 (q_script_ints_1 C Q) (rset (rset ρ 10 v10) 9 v9) h) := by kernel_rfl
set_option maxRecDepth 100000 in
theorem e_script_ints_R5 (C : Cfg) (Q : X → Rho → Hp → Prop) (ρ : Rho) (h : Hp) : codeR C 66 k_script_ints_R5 Q ρ h = (
  Q .ret ρ h) := by kernel_rfl
set_option maxRecDepth 100000 in
theorem e_script_ints_R4 (C : Cfg) (Q : X → Rho → Hp → Prop) (ρ : Rho) (h : Hp) : codeR C 66 k_script_ints_R4 Q ρ h = (
  oP (some (ρ 9)) fun c =>
  bP c (
    oP (pFA 3 (ρ 1)) fun v13 =>
    oP (pLd v13 h) fun v14 =>
    alP (pBS 3 1 1 (V.int .i64 0) [(0, v14)]) h fun v15 h1 =>
    oP (some v15) fun v2 =>
    oP (some (V.bool true)) fun v3 =>
    Wp C 66 k_script_ints_R7 Q (rset (rset (rset (rset (rset ρ 13 v13) 14 v14) 15 v15) 2 v2) 3 v3) h1) (
    oP (hbin .eql 3 (ρ 8) (V.int .i64 2)) fun v17 =>
    oP (some v17) fun v16 =>
    Wp C 66 k_script_ints_R8 (q_script_ints_3 C Q) (rset (rset ρ 17 v17) 16 v16) h)) := by kernel_rfl
set_option maxRecDepth 100000 in
theorem e_script_ints_R3 (C : Cfg) (Q : X → Rho → Hp → Prop) (ρ : Rho) (h : Hp) : codeR C 66 k_script_ints_R3 Q ρ h = (
  oP (some (ρ 9)) fun c =>
  bP c (
    Q .normal ρ h) (
    oP (hbin .eql 3 (ρ 8) (V.int .i64 3)) fun v11 =>
    oP (some v11) fun v9 =>
    Wp C 66 k_script_ints_R6 Q (rset (rset ρ 11 v11) 9 v9) h)) := by kernel_rfl
set_option maxRecDepth 100000 in
theorem e_script_ints_R7 (C : Cfg) (Q : X → Rho → Hp → Prop) (ρ : Rho) (h : Hp) : codeR C 66 k_script_ints_R7 Q ρ h = (
  Q .ret ρ h) := by kernel_rfl
set_option maxRecDepth 100000 in
theorem e_script_ints_R9 (C : Cfg) (Q : X → Rho → Hp → Prop) (ρ : Rho) (h : Hp) : codeR C 66 k_script_ints_R9 Q ρ h = (
  oP (some (ρ 16)) fun c =>
  bP c (
    oP (pFA 1 (ρ 1)) fun v19 =>
    oP (pLd v19 h) fun v20 =>
    oP (pFA 2 (ρ 1)) fun v21 =>
    oP (pLd v21 h) fun v22 =>
    alP (pBS 3 1 2 (V.int .i64 0) [(0, v20), (1, v22)]) h fun v23 h1 =>
    oP (some v23) fun v2 =>
    oP (some (V.bool true)) fun v3 =>
    Wp C 66 k_script_ints_R10 Q (rset (rset (rset (rset (rset (rset (rset ρ 19 v19) 20 v20) 21 v21) 22 v22) 23 v23) 2 v2) 3 v3) h1) (
    oP (hbin .eql 3 (ρ 8) (V.int .i64 5)) fun v25 =>
    oP (some v25) fun v24 =>
    Wp C 66 k_script_ints_R11 Q (rset (rset ρ 25 v25) 24 v24) h)) := by kernel_rfl
set_option maxRecDepth 100000 in
theorem e_script_ints_R6 (C : Cfg) (Q : X → Rho → Hp → Prop) (ρ : Rho) (h : Hp) : codeR C 66 k_script_ints_R6 Q ρ h = (
  oP (some (ρ 9)) fun c =>
  bP c (
    Q .normal ρ h) (
    oP (hbin .eql 3 (ρ 8) (V.int .i64 7)) fun v12 =>
    oP (some v12) fun v9 =>
    Q .normal (rset (rset ρ 12 v12) 9 v9) h)) := by kernel_rfl
set_option maxRecDepth 100000 in
theorem e_script_ints_R8 (C : Cfg) (Q : X → Rho → Hp → Prop) (ρ : Rho) (h : Hp) : codeR C 66 k_script_ints_R8 Q ρ h = (
  oP (some (ρ 16)) fun c =>
  bP c (
    Q .normal ρ h) (
    oP (hbin .eql 3 (ρ 8) (V.int .i64 4)) fun v18 =>
    oP (some v18) fun v16 =>
    Q .normal (rset (rset ρ 18 v18) 16 v16) h)) := by kernel_rfl
set_option maxRecDepth 100000 in
theorem e_script_ints_R10 (C : Cfg) (Q : X → Rho → Hp → Prop) (ρ : Rho) (h : Hp) : codeR C 66 k_script_ints_R10 Q ρ h = (
  Q .ret ρ h) := by kernel_rfl
set_option maxRecDepth 100000 in
theorem e_script_ints_R11 (C : Cfg) (Q : X → Rho → Hp → Prop) (ρ : Rho) (h : Hp) : codeR C 66 k_script_ints_R11 Q ρ h = (
  oP (some (ρ 24)) fun c =>
  bP c (
    oP (pFA 1 (ρ 1)) fun v26 =>
    oP (pLd v26 h) fun v27 =>
    alP (pBS 3 1 1 (V.int .i64 0) [(0, v27)]) h fun v28 h1 =>
    oP (some v28) fun v2 =>
    oP (some (V.bool true)) fun v3 =>
    Wp C 66 k_script_ints_R12 Q (rset (rset (rset (rset (rset ρ 26 v26) 27 v27) 28 v28) 2 v2) 3 v3) h1) (
    oP (hbin .eql 3 (ρ 8) (V.int .i64 6)) fun v30 =>
    oP (some v30) fun v29 =>
    Wp C 66 k_script_ints_R13 Q (rset (rset ρ 30 v30) 29 v29) h)) := by kernel_rfl
set_option maxRecDepth 100000 in
theorem e_script_ints_R12 (C : Cfg) (Q : X → Rho → Hp → Prop) (ρ : Rho) (h : Hp) : codeR C 66 k_script_ints_R12 Q ρ h = (
  Q .ret ρ h) := by kernel_rfl
set_option maxRecDepth 100000 in
theorem e_script_ints_R13 (C : Cfg) (Q : X → Rho → Hp → Prop) (ρ : Rho) (h : Hp) : codeR C 66 k_script_ints_R13 Q ρ h = (
  oP (some (ρ 29)) fun c =>
  bP c (
    oP (pFA 4 (ρ 1)) fun v31 =>
    oP (pFA 0 v31) fun v32 =>
    oP (pLd v32 h) fun v33 =>
    oP (pFA 4 (ρ 1)) fun v34 =>
    oP (pFA 1 v34) fun v35 =>
    oP (pLd v35 h) fun v36 =>
    oP (pFA 4 (ρ 1)) fun v37 =>
    oP (pFA 2 v37) fun v38 =>
    oP (pLd v38 h) fun v39 =>
    oP (pFA 4 (ρ 1)) fun v40 =>
    oP (pFA 3 v40) fun v41 =>
    oP (pLd v41 h) fun v42 =>
    alP (pBS 3 1 4 (V.int .i64 0) [(0, v33), (1, v36), (2, v39), (3, v42)]) h fun v43 h1 =>
    oP (some v43) fun v4 =>
    Wp C 66 k_script_ints_R14 Q (rset (rset (rset (rset (rset (rset (rset (rset (rset (rset (rset (rset (rset (rset ρ 31 v31) 32 v32) 33 v33) 34 v34) 35 v35) 36 v36) 37 v37) 38 v38) 39 v39) 40 v40) 41 v41) 42 v42) 43 v43) 4 v4) h1) (
    Q .normal ρ h)) := by kernel_rfl
set_option maxRecDepth 100000 in
theorem e_script_ints_R14 (C : Cfg) (Q : X → Rho → Hp → Prop) (ρ : Rho) (h : Hp) : codeR C 66 k_script_ints_R14 Q ρ h = (
  oP (pFA 4 (ρ 1)) fun v44 =>
  oP (pFA 4 v44) fun v45 =>
  oP (pLd v45 h) fun v46 =>
  oP (pLen v46) fun v47 =>
  oP (hbin .gtr 3 v47 (V.int .i64 8)) fun v48 =>
  Wp C 66 k_script_ints_R15 (q_script_ints_4 C Q) (rset (rset (rset (rset (rset ρ 44 v44) 45 v45) 46 v46) 47 v47) 48 v48) h) := by kernel_rfl
set_option maxRecDepth 100000 in
theorem e_script_ints_R16 (C : Cfg) (Q : X → Rho → Hp → Prop) (ρ : Rho) (h : Hp) : codeR C 66 k_script_ints_R16 Q ρ h = (
  oP (pFA 4 (ρ 1)) fun v49 =>
  oP (pFA 4 v49) fun v50 =>
  oP (pLd v50 h) fun v51 =>
  oP (pLen v51) fun v52 =>
  oP (some (V.int .i64 0)) fun v53 =>
  Wp C 66 k_script_ints_R18 (q_script_ints_5 C Q) (rset (rset (rset (rset (rset ρ 49 v49) 50 v50) 51 v51) 52 v52) 53 v53) h) := by kernel_rfl
set_option maxRecDepth 100000 in
theorem e_script_ints_R15 (C : Cfg) (Q : X → Rho → Hp → Prop) (ρ : Rho) (h : Hp) : codeR C 66 k_script_ints_R15 Q ρ h = (
  oP (some (ρ 48)) fun c =>
  bP c (
    oP (some V.nilSlice) fun v2 =>
    oP (some (V.bool false)) fun v3 =>
    Wp C 66 k_script_ints_R17 Q (rset (rset ρ 2 v2) 3 v3) h) (
    Q .normal ρ h)) := by kernel_rfl
set_option maxRecDepth 100000 in
theorem e_script_ints_R19 (C : Cfg) (Q : X → Rho → Hp → Prop) (ρ : Rho) (h : Hp) : codeR C 66 k_script_ints_R19 Q ρ h = (
  oP (some (ρ 4)) fun v65 =>
  oP (some v65) fun v2 =>
  oP (some (V.bool true)) fun v3 =>
  Wp C 66 k_script_ints_R20 Q (rset (rset (rset ρ 65 v65) 2 v2) 3 v3) h) := by kernel_rfl
set_option maxRecDepth 100000 in
theorem e_script_ints_R18 (C : Cfg) (Q : X → Rho → Hp → Prop) (ρ : Rho) (h : Hp) : codeR C 66 k_script_ints_R18 Q ρ h = (
  Wp C 66 (.loop k_script_ints_L0) (q_script_ints_6 C Q) ρ h) := by kernel_rfl
set_option maxRecDepth 100000 in
theorem e_script_ints_R20 (C : Cfg) (Q : X → Rho → Hp → Prop) (ρ : Rho) (h : Hp) : codeR C 66 k_script_ints_R20 Q ρ h = (
  Q .ret ρ h) := by kernel_rfl
set_option maxRecDepth 100000 in
theorem e_script_ints_R17 (C : Cfg) (Q : X → Rho → Hp → Prop) (ρ : Rho) (h : Hp) : codeR C 66 k_script_ints_R17 Q ρ h = (
  Q .ret ρ h) := by kernel_rfl
set_option maxRecDepth 100000 in
theorem e_script_ints_L0 (C : Cfg) (Q : X → Rho → Hp → Prop) (ρ : Rho) (h : Hp) : codeR C 66 k_script_ints_L0 Q ρ h = (
  oP (hbin .lss 3 (ρ 53) (ρ 52)) fun v54 =>
  Wp C 66 k_script_ints_R21 Q (rset ρ 54 v54) h) := by kernel_rfl
set_option maxRecDepth 100000 in
theorem e_script_ints_R21 (C : Cfg) (Q : X → Rho → Hp → Prop) (ρ : Rho) (h : Hp) : codeR C 66 k_script_ints_R21 Q ρ h = (
  oP (some (ρ 54)) fun c =>
  bP c (
    Wp C 66 k_script_ints_R22 Q ρ h) (
    Q (.exit 1) ρ h)) := by kernel_rfl
set_option maxRecDepth 100000 in
theorem e_script_ints_R22 (C : Cfg) (Q : X → Rho → Hp → Prop) (ρ : Rho) (h : Hp) : codeR C 66 k_script_ints_R22 Q ρ h = (
  oP (pIx 2 (ρ 51) (ρ 53)) fun v55 =>
  oP (pLdA 2 v55 h) fun v56 =>
  alP (some (.cells 60 1 true false [(V.int .i64 0), (V.int .i64 0)], fun l => .ptr l 0)) h fun v6 h1 =>
  valP (pSt 2 v6 v56 h1) fun vu h2 =>
  Wp C 66 k_script_ints_R23 (q_script_ints_7 C Q) (rset (rset (rset ρ 55 v55) 56 v56) 6 v6) h2) := by kernel_rfl
set_option maxRecDepth 100000 in
theorem e_script_ints_R24 (C : Cfg) (Q : X → Rho → Hp → Prop) (ρ : Rho) (h : Hp) : codeR C 66 k_script_ints_R24 Q ρ h = (
  oP (hbin .add 3 (ρ 53) (V.int .i64 1)) fun v64 =>
  oP (some v64) fun v53 =>
  Q .normal (rset (rset ρ 64 v64) 53 v53) h) := by kernel_rfl
set_option maxRecDepth 100000 in
theorem e_script_ints_R23 (C : Cfg) (Q : X → Rho → Hp → Prop) (ρ : Rho) (h : Hp) : codeR C 66 k_script_ints_R23 Q ρ h = (
  oP (some (ρ 4)) fun v57 =>
  oP (pFA 0 (ρ 6)) fun v58 =>
  oP (pLd v58 h) fun v59 =>
  oP (pFA 1 (ρ 6)) fun v60 =>
  oP (pLd v60 h) fun v61 =>
  alP (pBS 3 1 2 (V.int .i64 0) [(0, v59), (1, v61)]) h fun v62 h1 =>
  valP (happend 3 1 8 v57 v62 h1) fun v63 h2 =>
  oP (some v63) fun v4 =>
  Q .normal (rset (rset (rset (rset (rset (rset (rset (rset ρ 57 v57) 58 v58) 59 v59) 60 v60) 61 v61) 62 v62) 63 v63) 4 v4) h2) := by kernel_rfl
theorem f_script_ints {C : Cfg} (hs : C.start = startF) (a0 : V) {h : Hp} {Q : V → Hp → Prop} (hk : C.K n_script_ints [a0] h = none) (H : codeR C 66 k_script_ints (bodyQ [.tmp 2, .tmp 3] Q) (argsR [a0]) h) : cP C n_script_ints [a0] h Q :=
  cP.funcN hs (show P0.funcs[34]? = some Tryz.f34 by unfold P0; exact Tryz.func34) (by kernel_rfl) (by kernel_rfl) (by kernel_rfl) hk (Nat.le_of_ble_eq_true rfl) (Wp.code _ H)
def J_script_ints_R4 (C : Cfg) (Q : V → Hp → Prop) (x1 x8 x9 : V) (h : Hp) : Prop := ∀ ρ : Rho, ρ 1 = x1 → ρ 8 = x8 → ρ 9 = x9 → Wp C 66 k_script_ints_R4 (q_script_ints_9 C (bodyQ [.tmp 2, .tmp 3] Q)) ρ h
def J_script_ints_R9 (C : Cfg) (Q : V → Hp → Prop) (x1 x8 x16 : V) (h : Hp) : Prop := ∀ ρ : Rho, ρ 1 = x1 → ρ 8 = x8 → ρ 16 = x16 → Wp C 66 k_script_ints_R9 (q_script_ints_9 C (bodyQ [.tmp 2, .tmp 3] Q)) ρ h
def J_script_ints_L0 (C : Cfg) (Q : V → Hp → Prop) (x4 x51 x52 x53 : V) (h : Hp) : Prop := ∀ ρ : Rho, ρ 4 = x4 → ρ 51 = x51 → ρ 52 = x52 → ρ 53 = x53 → Wp C 66 (.loop k_script_ints_L0) (q_script_ints_10 C (bodyQ [.tmp 2, .tmp 3] Q)) ρ h
def B_script_ints_R4 (C : Cfg) (Q : V → Hp → Prop) (x1 x8 x9 : V) (h : Hp) : Prop :=
  bP x9 (
  oP (pFA 3 x1) fun v13 =>
  oP (pLd v13 h) fun v14 =>
  alP (pBS 3 1 1 (V.int .i64 0) [(0, v14)]) h fun v15 h1 =>
  Q (V.tuple [v15, (V.bool true)]) h1) (
  oP (hbin .eql 3 x8 (V.int .i64 2)) fun v17 =>
  bP v17 (
  J_script_ints_R9 C Q x1 x8 v17 h) (
  oP (hbin .eql 3 x8 (V.int .i64 4)) fun v18 =>
  J_script_ints_R9 C Q x1 x8 v18 h))
set_option maxRecDepth 100000 in
theorem j_script_ints_R4 {C : Cfg} {Q : V → Hp → Prop} {x1 x8 x9 : V} {h : Hp} (H : B_script_ints_R4 C Q x1 x8 x9 h) : J_script_ints_R4 C Q x1 x8 x9 h := by
  intro ρ e1 e8 e9
  subst e1
  subst e8
  subst e9
  unfold B_script_ints_R4 at H
  exact Wp.of (e_script_ints_R4 _ _ _ _) (oSm (bM H (fun H => oM H fun v13 _ H => oM H fun v14 _ H => alM H fun v15 h1 H => oSm (oSm (Wp.of (e_script_ints_R7 _ _ _ _) (H)))) (fun H => oM H fun v17 _ H => oSm (Wp.of (e_script_ints_R8 _ _ _ _) (oSm (bM H (fun H => H _ rfl rfl rfl) (fun H => oM H fun v18 _ H => oSm (H _ rfl rfl rfl))))))))
def B_script_ints_R9 (C : Cfg) (Q : V → Hp → Prop) (x1 x8 x16 : V) (h : Hp) : Prop :=
  bP x16 (
  oP (pFA 1 x1) fun v19 =>
  oP (pLd v19 h) fun v20 =>
  oP (pFA 2 x1) fun v21 =>
  oP (pLd v21 h) fun v22 =>
  alP (pBS 3 1 2 (V.int .i64 0) [(0, v20), (1, v22)]) h fun v23 h1 =>
  Q (V.tuple [v23, (V.bool true)]) h1) (
  oP (hbin .eql 3 x8 (V.int .i64 5)) fun v25 =>
  bP v25 (
  oP (pFA 1 x1) fun v26 =>
  oP (pLd v26 h) fun v27 =>
  alP (pBS 3 1 1 (V.int .i64 0) [(0, v27)]) h fun v28 h2 =>
  Q (V.tuple [v28, (V.bool true)]) h2) (
  oP (hbin .eql 3 x8 (V.int .i64 6)) fun v30 =>
  bP v30 (
  oP (pFA 4 x1) fun v31 =>
  oP (pFA 0 v31) fun v32 =>
  oP (pLd v32 h) fun v33 =>
  oP (pFA 4 x1) fun v34 =>
  oP (pFA 1 v34) fun v35 =>
  oP (pLd v35 h) fun v36 =>
  oP (pFA 4 x1) fun v37 =>
  oP (pFA 2 v37) fun v38 =>
  oP (pLd v38 h) fun v39 =>
  oP (pFA 4 x1) fun v40 =>
  oP (pFA 3 v40) fun v41 =>
  oP (pLd v41 h) fun v42 =>
  alP (pBS 3 1 4 (V.int .i64 0) [(0, v33), (1, v36), (2, v39), (3, v42)]) h fun v43 h3 =>
  oP (pFA 4 x1) fun v44 =>
  oP (pFA 4 v44) fun v45 =>
  oP (pLd v45 h3) fun v46 =>
  oP (pLen v46) fun v47 =>
  oP (hbin .gtr 3 v47 (V.int .i64 8)) fun v48 =>
  bP v48 (
  Q (V.tuple [V.nilSlice, (V.bool false)]) h3) (
  oP (pFA 4 x1) fun v49 =>
  oP (pFA 4 v49) fun v50 =>
  oP (pLd v50 h3) fun v51 =>
  oP (pLen v51) fun v52 =>
  J_script_ints_L0 C Q v43 v51 v52 (V.int .i64 0) h3)) (
  Q (V.tuple [V.nilSlice, (V.bool false)]) h)))
set_option maxRecDepth 100000 in
theorem j_script_ints_R9 {C : Cfg} {Q : V → Hp → Prop} {x1 x8 x16 : V} {h : Hp} (H : B_script_ints_R9 C Q x1 x8 x16 h) : J_script_ints_R9 C Q x1 x8 x16 h := by
  intro ρ e1 e8 e16
  subst e1
  subst e8
  subst e16
  unfold B_script_ints_R9 at H
  exact Wp.of (e_script_ints_R9 _ _ _ _) (oSm (bM H (fun H => oM H fun v19 _ H => oM H fun v20 _ H => oM H fun v21 _ H => oM H fun v22 _ H => alM H fun v23 h1 H => oSm (oSm (Wp.of (e_script_ints_R10 _ _ _ _) (H)))) (fun H => oM H fun v25 _ H => oSm (Wp.of (e_script_ints_R11 _ _ _ _) (oSm (bM H (fun H => oM H fun v26 _ H => oM H fun v27 _ H => alM H fun v28 h2 H => oSm (oSm (Wp.of (e_script_ints_R12 _ _ _ _) (H)))) (fun H => oM H fun v30 _ H => oSm (Wp.of (e_script_ints_R13 _ _ _ _) (oSm (bM H (fun H => oM H fun v31 _ H => oM H fun v32 _ H => oM H fun v33 _ H => oM H fun v34 _ H => oM H fun v35 _ H => oM H fun v36 _ H => oM H fun v37 _ H => oM H fun v38 _ H => oM H fun v39 _ H => oM H fun v40 _ H => oM H fun v41 _ H => oM H fun v42 _ H => alM H fun v43 h3 H => oSm (Wp.of (e_script_ints_R14 _ _ _ _) (oM H fun v44 _ H => oM H fun v45 _ H => oM H fun v46 _ H => oM H fun v47 _ H => oM H fun v48 _ H => Wp.of (e_script_ints_R15 _ _ _ _) (oSm (bM H (fun H => oSm (oSm (Wp.of (e_script_ints_R17 _ _ _ _) (H)))) (fun H => Wp.of (e_script_ints_R16 _ _ _ _) (oM H fun v49 _ H => oM H fun v50 _ H => oM H fun v51 _ H => oM H fun v52 _ H => oSm (Wp.of (e_script_ints_R18 _ _ _ _) (H _ rfl rfl rfl rfl))))))))) (fun H => Wp.of (e_script_ints_R2 _ _ _ _) (oSm (oSm (Wp.of (e_script_ints_R5 _ _ _ _) (H)))))))))))))))
def B_script_ints_L0 (C : Cfg) (Q : V → Hp → Prop) (KL0 : V → V → V → V → Hp → Prop) (x4 x51 x52 x53 : V) (h : Hp) : Prop :=
  oP (hbin .lss 3 x53 x52) fun v54 =>
  bP v54 (
  oP (pIx 2 x51 x53) fun v55 =>
  oP (pLdA 2 v55 h) fun v56 =>
  alP (some (.cells 60 1 true false [(V.int .i64 0), (V.int .i64 0)], fun l => .ptr l 0)) h fun v6 h1 =>
  valP (pSt 2 v6 v56 h1) fun vu h2 =>
  oP (pFA 0 v6) fun v58 =>
  oP (pLd v58 h2) fun v59 =>
  oP (pFA 1 v6) fun v60 =>
  oP (pLd v60 h2) fun v61 =>
  alP (pBS 3 1 2 (V.int .i64 0) [(0, v59), (1, v61)]) h2 fun v62 h3 =>
  valP (happend 3 1 8 x4 v62 h3) fun v63 h4 =>
  oP (hbin .add 3 x53 (V.int .i64 1)) fun v64 =>
  KL0 v63 x51 x52 v64 h4) (
  Q (V.tuple [x4, (V.bool true)]) h)
set_option maxRecDepth 100000 in
theorem l_script_ints_L0 {C : Cfg} {Q : V → Hp → Prop} (I : Nat → V → V → V → V → Hp → Prop) (step : ∀ (k : Nat) (x4 x51 x52 x53 : V) (h : Hp), I k x4 x51 x52 x53 h → B_script_ints_L0 C Q (fun x4 x51 x52 x53 h => ∃ k', k' < k ∧ I k' x4 x51 x52 x53 h) x4 x51 x52 x53 h) {k : Nat} {x4 x51 x52 x53 : V} {h : Hp} (h0 : I k x4 x51 x52 x53 h) : J_script_ints_L0 C Q x4 x51 x52 x53 h := by
  intro ρ e4 e51 e52 e53
  subst e4
  subst e51
  subst e52
  subst e53
  refine Wp.loopI (fun k ρ h => I k (ρ 4) (ρ 51) (ρ 52) (ρ 53) h) (fun k ρ h hi => ?_) h0
  have H := step k (ρ 4) (ρ 51) (ρ 52) (ρ 53) h hi
  unfold B_script_ints_L0 at H
  exact Wp.of (e_script_ints_L0 _ _ _ _) (oM H fun v54 _ H => Wp.of (e_script_ints_R21 _ _ _ _) (oSm (bM H (fun H => Wp.of (e_script_ints_R22 _ _ _ _) (oM H fun v55 _ H => oM H fun v56 _ H => alM H fun v6 h1 H => valM H fun vu h2 H => Wp.of (e_script_ints_R23 _ _ _ _) (oSm (oM H fun v58 _ H => oM H fun v59 _ H => oM H fun v60 _ H => oM H fun v61 _ H => alM H fun v62 h3 H => valM H fun v63 h4 H => oSm (Wp.of (e_script_ints_R24 _ _ _ _) (oM H fun v64 _ H => oSm (H))))))) (fun H => Wp.of (e_script_ints_R19 _ _ _ _) (oSm (oSm (oSm (Wp.of (e_script_ints_R20 _ _ _ _) (H)))))))))
def B_script_ints (C : Cfg) (Q : V → Hp → Prop) (a0 : V) (h : Hp) : Prop :=
  alP (hbox 26 a0) h fun v1 h1 =>
  oP (pFA 0 v1) fun v7 =>
  oP (pLd v7 h1) fun v8 =>
  oP (hbin .eql 3 v8 (V.int .i64 1)) fun v10 =>
  bP v10 (
  J_script_ints_R4 C Q v1 v8 v10 h1) (
  oP (hbin .eql 3 v8 (V.int .i64 3)) fun v11 =>
  bP v11 (
  J_script_ints_R4 C Q v1 v8 v11 h1) (
  oP (hbin .eql 3 v8 (V.int .i64 7)) fun v12 =>
  J_script_ints_R4 C Q v1 v8 v12 h1))
set_option maxRecDepth 100000 in
theorem c_script_ints {C : Cfg} (hs : C.start = startF) {a0 : V} {h : Hp} {Q : V → Hp → Prop} (hk : C.K n_script_ints [a0] h = none) (H : B_script_ints C Q a0 h) : cP C n_script_ints [a0] h Q := by
  unfold B_script_ints at H
  exact f_script_ints hs _ hk ((e_script_ints _ _ _ _).mpr (alM H fun v1 h1 H => oSm (oSm (Wp.of (e_script_ints_R0 _ _ _ _) (oM H fun v7 _ H => oM H fun v8 _ H => Wp.of (e_script_ints_R1 _ _ _ _) (oM H fun v10 _ H => oSm (Wp.of (e_script_ints_R3 _ _ _ _) (oSm (bM H (fun H => H _ rfl rfl rfl) (fun H => oM H fun v11 _ H => oSm (Wp.of (e_script_ints_R6 _ _ _ _) (oSm (bM H (fun H => H _ rfl rfl rfl) (fun H => oM H fun v12 _ H => oSm (H _ rfl rfl rfl)))))))))))))))
/-! ### turnstone/turnstoneref30.Print -/
noncomputable def k_turnstoneref30_Print : Code := bodyOf Tryz.f17
noncomputable def k_turnstoneref30_Print_R0 : Code := k_turnstoneref30_Print.r
noncomputable def k_turnstoneref30_Print_R1 : Code := k_turnstoneref30_Print.r.l.r
noncomputable def k_turnstoneref30_Print_R2 : Code := k_turnstoneref30_Print.r.r
noncomputable def q_turnstoneref30_Print_0 (C : Cfg) (Q : X → Rho → Hp → Prop) : X → Rho → Hp → Prop := andThen (Wp C 114 k_turnstoneref30_Print_R2 Q) Q
theorem q_turnstoneref30_Print_0_normal (C : Cfg) (Q : X → Rho → Hp → Prop) (ρ : Rho) (h : Hp) : q_turnstoneref30_Print_0 C Q .normal ρ h = Wp C 114 k_turnstoneref30_Print_R2 Q ρ h := rfl
theorem q_turnstoneref30_Print_0_ret (C : Cfg) (Q : X → Rho → Hp → Prop) (ρ : Rho) (h : Hp) : q_turnstoneref30_Print_0 C Q .ret ρ h = Q .ret ρ h := rfl
noncomputable def k_turnstoneref30_Print_R3 : Code := k_turnstoneref30_Print.r.l.r.l.r
noncomputable def k_turnstoneref30_Print_R4 : Code := k_turnstoneref30_Print.r.r.r
noncomputable def k_turnstoneref30_Print_R5 : Code := k_turnstoneref30_Print.r.r.r.r
noncomputable def k_turnstoneref30_Print_R6 : Code := k_turnstoneref30_Print.r.r.r.r.l.r
noncomputable def k_turnstoneref30_Print_R7 : Code := k_turnstoneref30_Print.r.r.r.r.r
noncomputable def q_turnstoneref30_Print_1 (C : Cfg) (Q : X → Rho → Hp → Prop) : X → Rho → Hp → Prop := andThen (Wp C 114 k_turnstoneref30_Print_R7 Q) Q
theorem q_turnstoneref30_Print_1_normal (C : Cfg) (Q : X → Rho → Hp → Prop) (ρ : Rho) (h : Hp) : q_turnstoneref30_Print_1 C Q .normal ρ h = Wp C 114 k_turnstoneref30_Print_R7 Q ρ h := rfl
theorem q_turnstoneref30_Print_1_ret (C : Cfg) (Q : X → Rho → Hp → Prop) (ρ : Rho) (h : Hp) : q_turnstoneref30_Print_1 C Q .ret ρ h = Q .ret ρ h := rfl
noncomputable def k_turnstoneref30_Print_R8 : Code := k_turnstoneref30_Print.r.r.r.r.l.r.l.l.r
noncomputable def q_turnstoneref30_Print_3 (C : Cfg) (Q : X → Rho → Hp → Prop) : X → Rho → Hp → Prop := blockQ 0 Q
theorem q_turnstoneref30_Print_3_normal (C : Cfg) (Q : X → Rho → Hp → Prop) (ρ : Rho) (h : Hp) : q_turnstoneref30_Print_3 C Q .normal ρ h = Q .normal ρ h := rfl
theorem q_turnstoneref30_Print_3_ret (C : Cfg) (Q : X → Rho → Hp → Prop) (ρ : Rho) (h : Hp) : q_turnstoneref30_Print_3 C Q .ret ρ h = Q .ret ρ h := rfl
theorem q_turnstoneref30_Print_3_exit0 (C : Cfg) (Q : X → Rho → Hp → Prop) (ρ : Rho) (h : Hp) : q_turnstoneref30_Print_3 C Q (.exit 0) ρ h = Q .normal ρ h := rfl
noncomputable def k_turnstoneref30_Print_R9 : Code := k_turnstoneref30_Print.r.r.r.r.l.r.l.r
noncomputable def q_turnstoneref30_Print_2 (C : Cfg) (Q : X → Rho → Hp → Prop) : X → Rho → Hp → Prop := andThen (Wp C 114 k_turnstoneref30_Print_R9 (q_turnstoneref30_Print_3 C Q)) (q_turnstoneref30_Print_3 C Q)
theorem q_turnstoneref30_Print_2_normal (C : Cfg) (Q : X → Rho → Hp → Prop) (ρ : Rho) (h : Hp) : q_turnstoneref30_Print_2 C Q .normal ρ h = Wp C 114 k_turnstoneref30_Print_R9 (q_turnstoneref30_Print_3 C Q) ρ h := rfl
theorem q_turnstoneref30_Print_2_ret (C : Cfg) (Q : X → Rho → Hp → Prop) (ρ : Rho) (h : Hp) : q_turnstoneref30_Print_2 C Q .ret ρ h = Q .ret ρ h := rfl
theorem q_turnstoneref30_Print_2_exit0 (C : Cfg) (Q : X → Rho → Hp → Prop) (ρ : Rho) (h : Hp) : q_turnstoneref30_Print_2 C Q (.exit 0) ρ h = Q .normal ρ h := rfl
noncomputable def k_turnstoneref30_Print_R10 : Code := k_turnstoneref30_Print.r.r.r.r.r.l.r
noncomputable def k_turnstoneref30_Print_R11 : Code := k_turnstoneref30_Print.r.r.r.r.r.r
noncomputable def q_turnstoneref30_Print_4 (C : Cfg) (Q : X → Rho → Hp → Prop) : X → Rho → Hp → Prop := andThen (Wp C 114 k_turnstoneref30_Print_R11 Q) Q
theorem q_turnstoneref30_Print_4_normal (C : Cfg) (Q : X → Rho → Hp → Prop) (ρ : Rho) (h : Hp) : q_turnstoneref30_Print_4 C Q .normal ρ h = Wp C 114 k_turnstoneref30_Print_R11 Q ρ h := rfl
theorem q_turnstoneref30_Print_4_ret (C : Cfg) (Q : X → Rho → Hp → Prop) (ρ : Rho) (h : Hp) : q_turnstoneref30_Print_4 C Q .ret ρ h = Q .ret ρ h := rfl
noncomputable def k_turnstoneref30_Print_R12 : Code := k_turnstoneref30_Print.r.r.r.r.l.r.l.l.r.r.r
noncomputable def k_turnstoneref30_Print_R13 : Code := k_turnstoneref30_Print.r.r.r.r.l.r.l.r.r.l.r
noncomputable def k_turnstoneref30_Print_R14 : Code := k_turnstoneref30_Print.r.r.r.r.l.r.l.r.r.r
noncomputable def q_turnstoneref30_Print_5 (C : Cfg) (Q : X → Rho → Hp → Prop) : X → Rho → Hp → Prop := andThen (Wp C 114 k_turnstoneref30_Print_R14 Q) Q
theorem q_turnstoneref30_Print_5_normal (C : Cfg) (Q : X → Rho → Hp → Prop) (ρ : Rho) (h : Hp) : q_turnstoneref30_Print_5 C Q .normal ρ h = Wp C 114 k_turnstoneref30_Print_R14 Q ρ h := rfl
theorem q_turnstoneref30_Print_5_ret (C : Cfg) (Q : X → Rho → Hp → Prop) (ρ : Rho) (h : Hp) : q_turnstoneref30_Print_5 C Q .ret ρ h = Q .ret ρ h := rfl
noncomputable def k_turnstoneref30_Print_L0 : Code := k_turnstoneref30_Print.r.r.r.r.r.l.r.l.l
noncomputable def q_turnstoneref30_Print_6 (C : Cfg) (Q : X → Rho → Hp → Prop) : X → Rho → Hp → Prop := blockQ 3 Q
theorem q_turnstoneref30_Print_6_normal (C : Cfg) (Q : X → Rho → Hp → Prop) (ρ : Rho) (h : Hp) : q_turnstoneref30_Print_6 C Q .normal ρ h = Q .normal ρ h := rfl
theorem q_turnstoneref30_Print_6_ret (C : Cfg) (Q : X → Rho → Hp → Prop) (ρ : Rho) (h : Hp) : q_turnstoneref30_Print_6 C Q .ret ρ h = Q .ret ρ h := rfl
theorem q_turnstoneref30_Print_6_exit3 (C : Cfg) (Q : X → Rho → Hp → Prop) (ρ : Rho) (h : Hp) : q_turnstoneref30_Print_6 C Q (.exit 3) ρ h = Q .normal ρ h := rfl
noncomputable def k_turnstoneref30_Print_R15 : Code := k_turnstoneref30_Print.r.r.r.r.r.r.r
noncomputable def k_turnstoneref30_Print_R16 : Code := k_turnstoneref30_Print.r.r.r.r.l.r.l.r.r.r.r.r
noncomputable def k_turnstoneref30_Print_R17 : Code := k_turnstoneref30_Print.r.r.r.r.r.l.r.l.l.l.r
noncomputable def k_turnstoneref30_Print_R18 : Code := k_turnstoneref30_Print.r.r.r.r.r.l.r.l.l.r
noncomputable def q_turnstoneref30_Print_7 (C : Cfg) (Q : X → Rho → Hp → Prop) : X → Rho → Hp → Prop := andThen (Wp C 114 k_turnstoneref30_Print_R18 Q) Q
theorem q_turnstoneref30_Print_7_normal (C : Cfg) (Q : X → Rho → Hp → Prop) (ρ : Rho) (h : Hp) : q_turnstoneref30_Print_7 C Q .normal ρ h = Wp C 114 k_turnstoneref30_Print_R18 Q ρ h := rfl
theorem q_turnstoneref30_Print_7_ret (C : Cfg) (Q : X → Rho → Hp → Prop) (ρ : Rho) (h : Hp) : q_turnstoneref30_Print_7 C Q .ret ρ h = Q .ret ρ h := rfl
noncomputable def k_turnstoneref30_Print_R19 : Code := k_turnstoneref30_Print.r.r.r.r.l.r.l.r.r.r.r.r.r.l.r
noncomputable def k_turnstoneref30_Print_R20 : Code := k_turnstoneref30_Print.r.r.r.r.l.r.l.r.r.r.r.r.r.r
noncomputable def q_turnstoneref30_Print_8 (C : Cfg) (Q : X → Rho → Hp → Prop) : X → Rho → Hp → Prop := andThen (Wp C 114 k_turnstoneref30_Print_R20 Q) Q
theorem q_turnstoneref30_Print_8_normal (C : Cfg) (Q : X → Rho → Hp → Prop) (ρ : Rho) (h : Hp) : q_turnstoneref30_Print_8 C Q .normal ρ h = Wp C 114 k_turnstoneref30_Print_R20 Q ρ h := rfl
theorem q_turnstoneref30_Print_8_ret (C : Cfg) (Q : X → Rho → Hp → Prop) (ρ : Rho) (h : Hp) : q_turnstoneref30_Print_8 C Q .ret ρ h = Q .ret ρ h := rfl
noncomputable def k_turnstoneref30_Print_R21 : Code := k_turnstoneref30_Print.r.r.r.r.r.l.r.l.l.r.l.l.l.r
noncomputable def k_turnstoneref30_Print_R22 : Code := k_turnstoneref30_Print.r.r.r.r.r.l.r.l.l.r.r
noncomputable def q_turnstoneref30_Print_11 (C : Cfg) (Q : X → Rho → Hp → Prop) : X → Rho → Hp → Prop := andThen (Wp C 114 k_turnstoneref30_Print_R22 Q) Q
theorem q_turnstoneref30_Print_11_normal (C : Cfg) (Q : X → Rho → Hp → Prop) (ρ : Rho) (h : Hp) : q_turnstoneref30_Print_11 C Q .normal ρ h = Wp C 114 k_turnstoneref30_Print_R22 Q ρ h := rfl
theorem q_turnstoneref30_Print_11_ret (C : Cfg) (Q : X → Rho → Hp → Prop) (ρ : Rho) (h : Hp) : q_turnstoneref30_Print_11 C Q .ret ρ h = Q .ret ρ h := rfl
noncomputable def q_turnstoneref30_Print_10 (C : Cfg) (Q : X → Rho → Hp → Prop) : X → Rho → Hp → Prop := blockQ 4 (q_turnstoneref30_Print_11 C Q)
theorem q_turnstoneref30_Print_10_normal (C : Cfg) (Q : X → Rho → Hp → Prop) (ρ : Rho) (h : Hp) : q_turnstoneref30_Print_10 C Q .normal ρ h = Wp C 114 k_turnstoneref30_Print_R22 Q ρ h := rfl
theorem q_turnstoneref30_Print_10_ret (C : Cfg) (Q : X → Rho → Hp → Prop) (ρ : Rho) (h : Hp) : q_turnstoneref30_Print_10 C Q .ret ρ h = Q .ret ρ h := rfl
theorem q_turnstoneref30_Print_10_exit4 (C : Cfg) (Q : X → Rho → Hp → Prop) (ρ : Rho) (h : Hp) : q_turnstoneref30_Print_10 C Q (.exit 4) ρ h = Wp C 114 k_turnstoneref30_Print_R22 Q ρ h := rfl
noncomputable def k_turnstoneref30_Print_R23 : Code := k_turnstoneref30_Print.r.r.r.r.r.l.r.l.l.r.l.l.r
noncomputable def q_turnstoneref30_Print_9 (C : Cfg) (Q : X → Rho → Hp → Prop) : X → Rho → Hp → Prop := andThen (Wp C 114 k_turnstoneref30_Print_R23 (q_turnstoneref30_Print_10 C Q)) (q_turnstoneref30_Print_10 C Q)
theorem q_turnstoneref30_Print_9_normal (C : Cfg) (Q : X → Rho → Hp → Prop) (ρ : Rho) (h : Hp) : q_turnstoneref30_Print_9 C Q .normal ρ h = Wp C 114 k_turnstoneref30_Print_R23 (q_turnstoneref30_Print_10 C Q) ρ h := rfl
theorem q_turnstoneref30_Print_9_ret (C : Cfg) (Q : X → Rho → Hp → Prop) (ρ : Rho) (h : Hp) : q_turnstoneref30_Print_9 C Q .ret ρ h = Q .ret ρ h := rfl
theorem q_turnstoneref30_Print_9_exit4 (C : Cfg) (Q : X → Rho → Hp → Prop) (ρ : Rho) (h : Hp) : q_turnstoneref30_Print_9 C Q (.exit 4) ρ h = Wp C 114 k_turnstoneref30_Print_R22 Q ρ h := rfl
noncomputable def k_turnstoneref30_Print_R24 : Code := k_turnstoneref30_Print.r.r.r.r.l.r.l.r.r.r.r.r.r.l.r.l.r
noncomputable def k_turnstoneref30_Print_R25 : Code := k_turnstoneref30_Print.r.r.r.r.l.r.l.r.r.r.r.r.r.r.r
noncomputable def k_turnstoneref30_Print_R26 : Code := k_turnstoneref30_Print.r.r.r.r.r.l.r.l.l.r.l.l.l.r.l.r
noncomputable def k_turnstoneref30_Print_R27 : Code := k_turnstoneref30_Print.r.r.r.r.l.r.l.r.r.r.r.r.r.r.r.r
noncomputable def k_turnstoneref30_Print_L1 : Code := k_turnstoneref30_Print.r.r.r.r.l.r.l.r.r.r.r.r.r.r.r.r.l.l
noncomputable def q_turnstoneref30_Print_12 (C : Cfg) (Q : X → Rho → Hp → Prop) : X → Rho → Hp → Prop := blockQ 1 Q
theorem q_turnstoneref30_Print_12_normal (C : Cfg) (Q : X → Rho → Hp → Prop) (ρ : Rho) (h : Hp) : q_turnstoneref30_Print_12 C Q .normal ρ h = Q .normal ρ h := rfl
theorem q_turnstoneref30_Print_12_ret (C : Cfg) (Q : X → Rho → Hp → Prop) (ρ : Rho) (h : Hp) : q_turnstoneref30_Print_12 C Q .ret ρ h = Q .ret ρ h := rfl
theorem q_turnstoneref30_Print_12_exit1 (C : Cfg) (Q : X → Rho → Hp → Prop) (ρ : Rho) (h : Hp) : q_turnstoneref30_Print_12 C Q (.exit 1) ρ h = Q .normal ρ h := rfl
noncomputable def k_turnstoneref30_Print_R28 : Code := k_turnstoneref30_Print.r.r.r.r.l.r.l.r.r.r.r.r.r.r.r.r.l.l.l.r
noncomputable def k_turnstoneref30_Print_R29 : Code := k_turnstoneref30_Print.r.r.r.r.l.r.l.r.r.r.r.r.r.r.r.r.l.l.r
noncomputable def q_turnstoneref30_Print_13 (C : Cfg) (Q : X → Rho → Hp → Prop) : X → Rho → Hp → Prop := andThen (Wp C 114 k_turnstoneref30_Print_R29 Q) Q
theorem q_turnstoneref30_Print_13_normal (C : Cfg) (Q : X → Rho → Hp → Prop) (ρ : Rho) (h : Hp) : q_turnstoneref30_Print_13 C Q .normal ρ h = Wp C 114 k_turnstoneref30_Print_R29 Q ρ h := rfl
theorem q_turnstoneref30_Print_13_ret (C : Cfg) (Q : X → Rho → Hp → Prop) (ρ : Rho) (h : Hp) : q_turnstoneref30_Print_13 C Q .ret ρ h = Q .ret ρ h := rfl
noncomputable def k_turnstoneref30_Print_R30 : Code := k_turnstoneref30_Print.r.r.r.r.l.r.l.r.r.r.r.r.r.r.r.r.l.l.r.r
noncomputable def q_turnstoneref30_Print_14 (C : Cfg) (Q : X → Rho → Hp → Prop) : X → Rho → Hp → Prop := blockQ 0 (q_turnstoneref30_Print_1 C Q)
theorem q_turnstoneref30_Print_14_normal (C : Cfg) (Q : X → Rho → Hp → Prop) (ρ : Rho) (h : Hp) : q_turnstoneref30_Print_14 C Q .normal ρ h = Wp C 114 k_turnstoneref30_Print_R7 Q ρ h := rfl
theorem q_turnstoneref30_Print_14_ret (C : Cfg) (Q : X → Rho → Hp → Prop) (ρ : Rho) (h : Hp) : q_turnstoneref30_Print_14 C Q .ret ρ h = Q .ret ρ h := rfl
theorem q_turnstoneref30_Print_14_exit0 (C : Cfg) (Q : X → Rho → Hp → Prop) (ρ : Rho) (h : Hp) : q_turnstoneref30_Print_14 C Q (.exit 0) ρ h = Wp C 114 k_turnstoneref30_Print_R7 Q ρ h := rfl
noncomputable def q_turnstoneref30_Print_15 (C : Cfg) (Q : X → Rho → Hp → Prop) : X → Rho → Hp → Prop := blockQ 3 (q_turnstoneref30_Print_4 C Q)
theorem q_turnstoneref30_Print_15_normal (C : Cfg) (Q : X → Rho → Hp → Prop) (ρ : Rho) (h : Hp) : q_turnstoneref30_Print_15 C Q .normal ρ h = Wp C 114 k_turnstoneref30_Print_R11 Q ρ h := rfl
theorem q_turnstoneref30_Print_15_ret (C : Cfg) (Q : X → Rho → Hp → Prop) (ρ : Rho) (h : Hp) : q_turnstoneref30_Print_15 C Q .ret ρ h = Q .ret ρ h := rfl
theorem q_turnstoneref30_Print_15_exit3 (C : Cfg) (Q : X → Rho → Hp → Prop) (ρ : Rho) (h : Hp) : q_turnstoneref30_Print_15 C Q (.exit 3) ρ h = Wp C 114 k_turnstoneref30_Print_R11 Q ρ h := rfl
noncomputable def q_turnstoneref30_Print_16 (C : Cfg) (Q : X → Rho → Hp → Prop) : X → Rho → Hp → Prop := blockQ 1 (q_turnstoneref30_Print_14 C Q)
theorem q_turnstoneref30_Print_16_normal (C : Cfg) (Q : X → Rho → Hp → Prop) (ρ : Rho) (h : Hp) : q_turnstoneref30_Print_16 C Q .normal ρ h = Wp C 114 k_turnstoneref30_Print_R7 Q ρ h := rfl
theorem q_turnstoneref30_Print_16_ret (C : Cfg) (Q : X → Rho → Hp → Prop) (ρ : Rho) (h : Hp) : q_turnstoneref30_Print_16 C Q .ret ρ h = Q .ret ρ h := rfl
theorem q_turnstoneref30_Print_16_exit1 (C : Cfg) (Q : X → Rho → Hp → Prop) (ρ : Rho) (h : Hp) : q_turnstoneref30_Print_16 C Q (.exit 1) ρ h = Wp C 114 k_turnstoneref30_Print_R7 Q ρ h := rfl
theorem q_turnstoneref30_Print_16_exit0 (C : Cfg) (Q : X → Rho → Hp → Prop) (ρ : Rho) (h : Hp) : q_turnstoneref30_Print_16 C Q (.exit 0) ρ h = Wp C 114 k_turnstoneref30_Print_R7 Q ρ h := rfl
set_option maxRecDepth 100000 in
theorem e_turnstoneref30_Print (C : Cfg) (Q : X → Rho → Hp → Prop) (ρ : Rho) (h : Hp) : codeR C 114 k_turnstoneref30_Print Q ρ h = (
  alP (hbox 26 (ρ 0)) h fun v1 h1 =>
  oP (some (V.str [])) fun v2 =>
  oP (some (V.int .i64 0)) fun v3 =>
  Wp C 114 k_turnstoneref30_Print_R0 Q (rset (rset (rset ρ 1 v1) 2 v2) 3 v3) h1) := by kernel_rfl
set_option maxRecDepth 100000 in
theorem e_turnstoneref30_Print_R0 (C : Cfg) (Q : X → Rho → Hp → Prop) (ρ : Rho) (h : Hp) : codeR C 114 k_turnstoneref30_Print_R0 Q ρ h = (
  oP (pFA 0 (ρ 1)) fun v8 =>
  oP (pLd v8 h) fun v9 =>
  oP (hbin .lss 3 v9 (V.int .i64 1)) fun v10 =>
  oP (some v10) fun v11 =>
  oP (pGd false v11) fun b4 =>
  oP (gV b4 (pFA 0 (ρ 1))) fun v12 =>
  oP (pGd false v11) fun b5 =>
  oP (gV b5 (pLd v12 h)) fun v13 =>
  oP (pGd false v11) fun b6 =>
  oP (gV b6 (hbin .gtr 3 v13 (V.int .i64 7))) fun v14 =>
  oP (pPick v11 (V.bool true) v14) fun v15 =>
  Wp C 114 k_turnstoneref30_Print_R1 (q_turnstoneref30_Print_0 C Q) (rset (rset (rset (rset (rset (rset (rset (rset ρ 8 v8) 9 v9) 10 v10) 11 v11) 12 v12) 13 v13) 14 v14) 15 v15) h) := by kernel_rfl
set_option maxRecDepth 100000 in
theorem e_turnstoneref30_Print_R2 (C : Cfg) (Q : X → Rho → Hp → Prop) (ρ : Rho) (h : Hp) : codeR C 114 k_turnstoneref30_Print_R2 Q ρ h = (
  oP (pFA 0 (ρ 1)) fun v17 =>
  oP (pLd v17 h) fun v18 =>
  oP (hbin .sub 3 v18 (V.int .i64 1)) fun v19 =>
  ((hbin .sub 3 v18 (V.int .i64 1) = some v19) ∧ 
  ((pLd v17 h = some v18) ∧ 
  ((pFA 0 (ρ 1) = some v17) ∧ 
  dcP C n_turnstoneref30_Names [] h fun v16 h1 =>
  (h.next ≤ h1.next ∧
  oP (pIx 1 v16 v19) fun v20 =>
  oP (pLd v20 h1) fun v21 =>
  oP (some v21) fun v4 =>
  ((some v21 = some v4) ∧ 
  ((pLd v20 h1 = some v21) ∧ 
  ((pIx 1 v16 v19 = some v20) ∧ 
  ((hbin .sub 3 v18 (V.int .i64 1) = some v19) ∧ 
  ((pLd v17 h1 = some v18) ∧ 
  ((pFA 0 (ρ 1) = some v17) ∧ 
  Wp C 114 k_turnstoneref30_Print_R4 Q (rset (rset (rset (rset (rset (rset (rset ρ 17 v17) 18 v18) 19 v19) 16 v16) 20 v20) 21 v21) 4 v4) h1))))))))))) := by kernel_rfl
set_option maxRecDepth 100000 in
theorem e_turnstoneref30_Print_R1 (C : Cfg) (Q : X → Rho → Hp → Prop) (ρ : Rho) (h : Hp) : codeR C 114 k_turnstoneref30_Print_R1 Q ρ h = (
  oP (some (ρ 15)) fun c =>
  bP c (
    oP (some (V.str [])) fun v2 =>
    oP (some (V.int .i64 1)) fun v3 =>
    Wp C 114 k_turnstoneref30_Print_R3 Q (rset (rset ρ 2 v2) 3 v3) h) (
    Q .normal ρ h)) := by kernel_rfl
set_option maxRecDepth 100000 in
theorem e_turnstoneref30_Print_R4 (C : Cfg) (Q : X → Rho → Hp → Prop) (ρ : Rho) (h : Hp) : codeR C 114 k_turnstoneref30_Print_R4 Q ρ h = (
  oP (some V.nilSlice) fun v5 =>
  Wp C 114 k_turnstoneref30_Print_R5 Q (rset ρ 5 v5) h) := by kernel_rfl
set_option maxRecDepth 100000 in
theorem e_turnstoneref30_Print_R5 (C : Cfg) (Q : X → Rho → Hp → Prop) (ρ : Rho) (h : Hp) : codeR C 114 k_turnstoneref30_Print_R5 Q ρ h = (
  oP (pFA 0 (ρ 1)) fun v22 =>
  oP (pLd v22 h) fun v23 =>
  Wp C 114 k_turnstoneref30_Print_R6 (q_turnstoneref30_Print_1 C Q) (rset (rset ρ 22 v22) 23 v23) h) := by kernel_rfl
set_option maxRecDepth 100000 in
theorem e_turnstoneref30_Print_R3 (C : Cfg) (Q : X → Rho → Hp → Prop) (ρ : Rho) (h : Hp) : codeR C 114 k_turnstoneref30_Print_R3 Q ρ h = (
  Q .ret ρ h) := by kernel_rfl
set_option maxRecDepth 100000 in
theorem e_turnstoneref30_Print_R7 (C : Cfg) (Q : X → Rho → Hp → Prop) (ρ : Rho) (h : Hp) : codeR C 114 k_turnstoneref30_Print_R7 Q ρ h = (
  oP (some (V.int .i64 0)) fun v7 =>
  Wp C 114 k_turnstoneref30_Print_R10 (q_turnstoneref30_Print_4 C Q) (rset ρ 7 v7) h) := by kernel_rfl
set_option maxRecDepth 100000 in
theorem e_turnstoneref30_Print_R6 (C : Cfg) (Q : X → Rho → Hp → Prop) (ρ : Rho) (h : Hp) : codeR C 114 k_turnstoneref30_Print_R6 Q ρ h = (
  oP (hbin .eql 3 (ρ 23) (V.int .i64 1)) fun v68 =>
  oP (some v68) fun v67 =>
  Wp C 114 k_turnstoneref30_Print_R8 (q_turnstoneref30_Print_2 C Q) (rset (rset ρ 68 v68) 67 v67) h) := by kernel_rfl
set_option maxRecDepth 100000 in
theorem e_turnstoneref30_Print_R11 (C : Cfg) (Q : X → Rho → Hp → Prop) (ρ : Rho) (h : Hp) : codeR C 114 k_turnstoneref30_Print_R11 Q ρ h = (
  oP (some (ρ 4)) fun v113 =>
  oP (some v113) fun v2 =>
  oP (some (V.int .i64 0)) fun v3 =>
  Wp C 114 k_turnstoneref30_Print_R15 Q (rset (rset (rset ρ 113 v113) 2 v2) 3 v3) h) := by kernel_rfl
set_option maxRecDepth 100000 in
theorem e_turnstoneref30_Print_R10 (C : Cfg) (Q : X → Rho → Hp → Prop) (ρ : Rho) (h : Hp) : codeR C 114 k_turnstoneref30_Print_R10 Q ρ h = (
  Wp C 114 (.loop k_turnstoneref30_Print_L0) (q_turnstoneref30_Print_6 C Q) ρ h) := by kernel_rfl
set_option maxRecDepth 100000 in
theorem e_turnstoneref30_Print_R15 (C : Cfg) (Q : X → Rho → Hp → Prop) (ρ : Rho) (h : Hp) : codeR C 114 k_turnstoneref30_Print_R15 Q ρ h = (
  Q .ret ρ h) := by kernel_rfl
set_option maxRecDepth 100000 in
theorem e_turnstoneref30_Print_R9 (C : Cfg) (Q : X → Rho → Hp → Prop) (ρ : Rho) (h : Hp) : codeR C 114 k_turnstoneref30_Print_R9 Q ρ h = (
  oP (some (ρ 67)) fun c =>
  bP c (
    oP (pFA 3 (ρ 1)) fun v71 =>
    oP (pLd v71 h) fun v72 =>
    alP (pBS 3 1 1 (V.int .i64 0) [(0, v72)]) h fun v73 h1 =>
    oP (some v73) fun v5 =>
    Q .normal (rset (rset (rset (rset ρ 71 v71) 72 v72) 73 v73) 5 v5) h1) (
    oP (hbin .eql 3 (ρ 23) (V.int .i64 2)) fun v75 =>
    oP (some v75) fun v74 =>
    Wp C 114 k_turnstoneref30_Print_R13 (q_turnstoneref30_Print_5 C Q) (rset (rset ρ 75 v75) 74 v74) h)) := by kernel_rfl
set_option maxRecDepth 100000 in
theorem e_turnstoneref30_Print_R8 (C : Cfg) (Q : X → Rho → Hp → Prop) (ρ : Rho) (h : Hp) : codeR C 114 k_turnstoneref30_Print_R8 Q ρ h = (
  oP (some (ρ 67)) fun c =>
  bP c (
    Q .normal ρ h) (
    oP (hbin .eql 3 (ρ 23) (V.int .i64 3)) fun v69 =>
    oP (some v69) fun v67 =>
    Wp C 114 k_turnstoneref30_Print_R12 Q (rset (rset ρ 69 v69) 67 v67) h)) := by kernel_rfl
set_option maxRecDepth 100000 in
theorem e_turnstoneref30_Print_L0 (C : Cfg) (Q : X → Rho → Hp → Prop) (ρ : Rho) (h : Hp) : codeR C 114 k_turnstoneref30_Print_L0 Q ρ h = (
  oP (some (ρ 7)) fun v87 =>
  oP (some (ρ 5)) fun v88 =>
  oP (pLen v88) fun v89 =>
  oP (hbin .lss 3 v87 v89) fun v90 =>
  Wp C 114 k_turnstoneref30_Print_R17 (q_turnstoneref30_Print_7 C Q) (rset (rset (rset (rset ρ 87 v87) 88 v88) 89 v89) 90 v90) h) := by kernel_rfl
set_option maxRecDepth 100000 in
theorem e_turnstoneref30_Print_R14 (C : Cfg) (Q : X → Rho → Hp → Prop) (ρ : Rho) (h : Hp) : codeR C 114 k_turnstoneref30_Print_R14 Q ρ h = (
  oP (some (ρ 74)) fun c =>
  bP c (
    oP (pFA 1 (ρ 1)) fun v77 =>
    oP (pLd v77 h) fun v78 =>
    oP (pFA 2 (ρ 1)) fun v79 =>
    oP (pLd v79 h) fun v80 =>
    alP (pBS 3 1 2 (V.int .i64 0) [(0, v78), (1, v80)]) h fun v81 h1 =>
    oP (some v81) fun v5 =>
    Q .normal (rset (rset (rset (rset (rset (rset ρ 77 v77) 78 v78) 79 v79) 80 v80) 81 v81) 5 v5) h1) (
    oP (hbin .eql 3 (ρ 23) (V.int .i64 5)) fun v83 =>
    oP (some v83) fun v82 =>
    Wp C 114 k_turnstoneref30_Print_R16 Q (rset (rset ρ 83 v83) 82 v82) h)) := by kernel_rfl
set_option maxRecDepth 100000 in
theorem e_turnstoneref30_Print_R18 (C : Cfg) (Q : X → Rho → Hp → Prop) (ρ : Rho) (h : Hp) : codeR C 114 k_turnstoneref30_Print_R18 Q ρ h = (
  oP (some (ρ 5)) fun v93 =>
  oP (some (ρ 7)) fun v94 =>
  oP (pIx 1 v93 v94) fun v95 =>
  oP (pLd v95 h) fun v96 =>
  oP (hbin .gtr 3 v96 (V.int .i64 4611686018427387904)) fun v97 =>
  oP (some v97) fun v98 =>
  oP (pGd false v98) fun b6 =>
  oP (gV b6 (some (ρ 5))) fun v99 =>
  oP (pGd false v98) fun b7 =>
  oP (gV b7 (some (ρ 7))) fun v100 =>
  oP (pGd false v98) fun b8 =>
  oP (gV b8 (pIx 1 v99 v100)) fun v101 =>
  oP (pGd false v98) fun b9 =>
  oP (gV b9 (pLd v101 h)) fun v102 =>
  oP (pGd false v98) fun b10 =>
  oP (gV b10 (hbin .lss 3 v102 (V.int .i64 (-4611686018427387904)))) fun v103 =>
  oP (pPick v98 (V.bool true) v103) fun v104 =>
  Wp C 114 k_turnstoneref30_Print_R21 (q_turnstoneref30_Print_9 C Q) (rset (rset (rset (rset (rset (rset (rset (rset (rset (rset (rset (rset ρ 93 v93) 94 v94) 95 v95) 96 v96) 97 v97) 98 v98) 99 v99) 100 v100) 101 v101) 102 v102) 103 v103) 104 v104) h) := by kernel_rfl
set_option maxRecDepth 100000 in
theorem e_turnstoneref30_Print_R12 (C : Cfg) (Q : X → Rho → Hp → Prop) (ρ : Rho) (h : Hp) : codeR C 114 k_turnstoneref30_Print_R12 Q ρ h = (
  oP (some (ρ 67)) fun c =>
  bP c (
    Q .normal ρ h) (
    oP (hbin .eql 3 (ρ 23) (V.int .i64 7)) fun v70 =>
    oP (some v70) fun v67 =>
    Q .normal (rset (rset ρ 70 v70) 67 v67) h)) := by kernel_rfl
set_option maxRecDepth 100000 in
theorem e_turnstoneref30_Print_R13 (C : Cfg) (Q : X → Rho → Hp → Prop) (ρ : Rho) (h : Hp) : codeR C 114 k_turnstoneref30_Print_R13 Q ρ h = (
  oP (some (ρ 74)) fun c =>
  bP c (
    Q .normal ρ h) (
    oP (hbin .eql 3 (ρ 23) (V.int .i64 4)) fun v76 =>
    oP (some v76) fun v74 =>
    Q .normal (rset (rset ρ 76 v76) 74 v74) h)) := by kernel_rfl
set_option maxRecDepth 100000 in
theorem e_turnstoneref30_Print_R17 (C : Cfg) (Q : X → Rho → Hp → Prop) (ρ : Rho) (h : Hp) : codeR C 114 k_turnstoneref30_Print_R17 Q ρ h = (
  oP (some (ρ 90)) fun c =>
  bP c (
    Q .normal ρ h) (
    Q (.exit 3) ρ h)) := by kernel_rfl
set_option maxRecDepth 100000 in
theorem e_turnstoneref30_Print_R22 (C : Cfg) (Q : X → Rho → Hp → Prop) (ρ : Rho) (h : Hp) : codeR C 114 k_turnstoneref30_Print_R22 Q ρ h = (
  oP (some (ρ 7)) fun v91 =>
  oP (hbin .add 3 v91 (V.int .i64 1)) fun v92 =>
  oP (some v92) fun v7 =>
  Q .normal (rset (rset (rset ρ 91 v91) 92 v92) 7 v7) h) := by kernel_rfl
set_option maxRecDepth 100000 in
theorem e_turnstoneref30_Print_R16 (C : Cfg) (Q : X → Rho → Hp → Prop) (ρ : Rho) (h : Hp) : codeR C 114 k_turnstoneref30_Print_R16 Q ρ h = (
  oP (some (ρ 82)) fun c =>
  bP c (
    oP (pFA 1 (ρ 1)) fun v84 =>
    oP (pLd v84 h) fun v85 =>
    alP (pBS 3 1 1 (V.int .i64 0) [(0, v85)]) h fun v86 h1 =>
    oP (some v86) fun v5 =>
    Q .normal (rset (rset (rset (rset ρ 84 v84) 85 v85) 86 v86) 5 v5) h1) (
    oP (pFA 4 (ρ 1)) fun v24 =>
    oP (pFA 4 v24) fun v25 =>
    oP (pLd v25 h) fun v26 =>
    oP (pLen v26) fun v27 =>
    oP (hbin .gtr 3 v27 (V.int .i64 8)) fun v28 =>
    Wp C 114 k_turnstoneref30_Print_R19 (q_turnstoneref30_Print_8 C Q) (rset (rset (rset (rset (rset ρ 24 v24) 25 v25) 26 v26) 27 v27) 28 v28) h)) := by kernel_rfl
set_option maxRecDepth 100000 in
theorem e_turnstoneref30_Print_R23 (C : Cfg) (Q : X → Rho → Hp → Prop) (ρ : Rho) (h : Hp) : codeR C 114 k_turnstoneref30_Print_R23 Q ρ h = (
  oP (some (ρ 4)) fun v105 =>
  oP (hbin .add 9 v105 (V.str [32])) fun v106 =>
  oP (some (ρ 5)) fun v107 =>
  oP (some (ρ 7)) fun v108 =>
  oP (pIx 1 v107 v108) fun v109 =>
  oP (pLd v109 h) fun v110 =>
  dcP C n_turnstoneref10_Digits [v110] h fun v111 h1 =>
  oP (hbin .add 9 v106 v111) fun v112 =>
  oP (some v112) fun v4 =>
  Q .normal (rset (rset (rset (rset (rset (rset (rset (rset (rset ρ 105 v105) 106 v106) 107 v107) 108 v108) 109 v109) 110 v110) 111 v111) 112 v112) 4 v4) h1) := by kernel_rfl
set_option maxRecDepth 100000 in
theorem e_turnstoneref30_Print_R20 (C : Cfg) (Q : X → Rho → Hp → Prop) (ρ : Rho) (h : Hp) : codeR C 114 k_turnstoneref30_Print_R20 Q ρ h = (
  oP (pFA 4 (ρ 1)) fun v29 =>
  oP (pFA 0 v29) fun v30 =>
  oP (pLd v30 h) fun v31 =>
  oP (pFA 4 (ρ 1)) fun v32 =>
  oP (pFA 1 v32) fun v33 =>
  oP (pLd v33 h) fun v34 =>
  oP (pFA 4 (ρ 1)) fun v35 =>
  oP (pFA 2 v35) fun v36 =>
  oP (pLd v36 h) fun v37 =>
  oP (pFA 4 (ρ 1)) fun v38 =>
  oP (pFA 3 v38) fun v39 =>
  oP (pLd v39 h) fun v40 =>
  alP (pBS 3 1 4 (V.int .i64 0) [(0, v31), (1, v34), (2, v37), (3, v40)]) h fun v41 h1 =>
  oP (some v41) fun v5 =>
  Wp C 114 k_turnstoneref30_Print_R25 Q (rset (rset (rset (rset (rset (rset (rset (rset (rset (rset (rset (rset (rset (rset ρ 29 v29) 30 v30) 31 v31) 32 v32) 33 v33) 34 v34) 35 v35) 36 v36) 37 v37) 38 v38) 39 v39) 40 v40) 41 v41) 5 v5) h1) := by kernel_rfl
set_option maxRecDepth 100000 in
theorem e_turnstoneref30_Print_R21 (C : Cfg) (Q : X → Rho → Hp → Prop) (ρ : Rho) (h : Hp) : codeR C 114 k_turnstoneref30_Print_R21 Q ρ h = (
  oP (some (ρ 104)) fun c =>
  bP c (
    oP (some (V.str [])) fun v2 =>
    oP (some (V.int .i64 1)) fun v3 =>
    Wp C 114 k_turnstoneref30_Print_R26 Q (rset (rset ρ 2 v2) 3 v3) h) (
    Q .normal ρ h)) := by kernel_rfl
set_option maxRecDepth 100000 in
theorem e_turnstoneref30_Print_R19 (C : Cfg) (Q : X → Rho → Hp → Prop) (ρ : Rho) (h : Hp) : codeR C 114 k_turnstoneref30_Print_R19 Q ρ h = (
  oP (some (ρ 28)) fun c =>
  bP c (
    oP (some (V.str [])) fun v2 =>
    oP (some (V.int .i64 1)) fun v3 =>
    Wp C 114 k_turnstoneref30_Print_R24 Q (rset (rset ρ 2 v2) 3 v3) h) (
    Q .normal ρ h)) := by kernel_rfl
set_option maxRecDepth 100000 in
theorem e_turnstoneref30_Print_R25 (C : Cfg) (Q : X → Rho → Hp → Prop) (ρ : Rho) (h : Hp) : codeR C 114 k_turnstoneref30_Print_R25 Q ρ h = (
  oP (some (V.int .i64 0)) fun v6 =>
  Wp C 114 k_turnstoneref30_Print_R27 Q (rset ρ 6 v6) h) := by kernel_rfl
set_option maxRecDepth 100000 in
theorem e_turnstoneref30_Print_R27 (C : Cfg) (Q : X → Rho → Hp → Prop) (ρ : Rho) (h : Hp) : codeR C 114 k_turnstoneref30_Print_R27 Q ρ h = (
  Wp C 114 (.loop k_turnstoneref30_Print_L1) (q_turnstoneref30_Print_12 C Q) ρ h) := by kernel_rfl
set_option maxRecDepth 100000 in
theorem e_turnstoneref30_Print_R26 (C : Cfg) (Q : X → Rho → Hp → Prop) (ρ : Rho) (h : Hp) : codeR C 114 k_turnstoneref30_Print_R26 Q ρ h = (
  Q .ret ρ h) := by kernel_rfl
set_option maxRecDepth 100000 in
theorem e_turnstoneref30_Print_R24 (C : Cfg) (Q : X → Rho → Hp → Prop) (ρ : Rho) (h : Hp) : codeR C 114 k_turnstoneref30_Print_R24 Q ρ h = (
  Q .ret ρ h) := by kernel_rfl
set_option maxRecDepth 100000 in
theorem e_turnstoneref30_Print_L1 (C : Cfg) (Q : X → Rho → Hp → Prop) (ρ : Rho) (h : Hp) : codeR C 114 k_turnstoneref30_Print_L1 Q ρ h = (
  oP (some (ρ 6)) fun v42 =>
  oP (pFA 4 (ρ 1)) fun v43 =>
  oP (pFA 4 v43) fun v44 =>
  oP (pLd v44 h) fun v45 =>
  oP (pLen v45) fun v46 =>
  oP (hbin .lss 3 v42 v46) fun v47 =>
  Wp C 114 k_turnstoneref30_Print_R28 (q_turnstoneref30_Print_13 C Q) (rset (rset (rset (rset (rset (rset ρ 42 v42) 43 v43) 44 v44) 45 v45) 46 v46) 47 v47) h) := by kernel_rfl
set_option maxRecDepth 100000 in
theorem e_turnstoneref30_Print_R29 (C : Cfg) (Q : X → Rho → Hp → Prop) (ρ : Rho) (h : Hp) : codeR C 114 k_turnstoneref30_Print_R29 Q ρ h = (
  oP (some (ρ 5)) fun v50 =>
  oP (pFA 4 (ρ 1)) fun v51 =>
  oP (pFA 4 v51) fun v52 =>
  oP (pLd v52 h) fun v53 =>
  oP (some (ρ 6)) fun v54 =>
  oP (pIx 2 v53 v54) fun v55 =>
  oP (pFA 0 v55) fun v56 =>
  oP (pLd v56 h) fun v57 =>
  oP (pFA 4 (ρ 1)) fun v58 =>
  oP (pFA 4 v58) fun v59 =>
  oP (pLd v59 h) fun v60 =>
  oP (some (ρ 6)) fun v61 =>
  oP (pIx 2 v60 v61) fun v62 =>
  oP (pFA 1 v62) fun v63 =>
  oP (pLd v63 h) fun v64 =>
  alO (pBS 3 1 2 (V.int .i64 0) [(0, v57), (1, v64)]) h fun o15 v65 h1 =>
  ((h1.get (h.next) = some o15 ∧ O.beq o15 o15 = true) ∧ 
  ((pLd v63 h1 = some v64) ∧ 
  ((pFA 1 v62 = some v63) ∧ 
  ((pIx 2 v60 v61 = some v62) ∧ 
  ((some (ρ 6) = some v61) ∧ 
  ((pLd v59 h1 = some v60) ∧ 
  ((pFA 4 v58 = some v59) ∧ 
  ((pFA 4 (ρ 1) = some v58) ∧ 
  ((pLd v56 h1 = some v57) ∧ 
  ((pFA 0 v55 = some v56) ∧ 
  ((pIx 2 v53 v54 = some v55) ∧ 
  ((some (ρ 6) = some v54) ∧ 
  ((pLd v52 h1 = some v53) ∧ 
  ((pFA 4 v51 = some v52) ∧ 
  ((pFA 4 (ρ 1) = some v51) ∧ 
  ((some (ρ 5) = some v50) ∧ 
  valP (happend 3 1 8 v50 v65 h1) fun v66 h2 =>
  (h1.next ≤ h2.next ∧
  oP (some v66) fun v5 =>
  ((some v66 = some v5) ∧ 
  Wp C 114 k_turnstoneref30_Print_R30 Q (rset (rset (rset (rset (rset (rset (rset (rset (rset (rset (rset (rset (rset (rset (rset (rset (rset (rset ρ 50 v50) 51 v51) 52 v52) 53 v53) 54 v54) 55 v55) 56 v56) 57 v57) 58 v58) 59 v59) 60 v60) 61 v61) 62 v62) 63 v63) 64 v64) 65 v65) 66 v66) 5 v5) h2))))))))))))))))))) := by kernel_rfl
set_option maxRecDepth 100000 in
theorem e_turnstoneref30_Print_R28 (C : Cfg) (Q : X → Rho → Hp → Prop) (ρ : Rho) (h : Hp) : codeR C 114 k_turnstoneref30_Print_R28 Q ρ h = (
  oP (some (ρ 47)) fun c =>
  bP c (
    Q .normal ρ h) (
    Q (.exit 1) ρ h)) := by kernel_rfl
set_option maxRecDepth 100000 in
theorem e_turnstoneref30_Print_R30 (C : Cfg) (Q : X → Rho → Hp → Prop) (ρ : Rho) (h : Hp) : codeR C 114 k_turnstoneref30_Print_R30 Q ρ h = (
  oP (some (ρ 6)) fun v48 =>
  oP (hbin .add 3 v48 (V.int .i64 1)) fun v49 =>
  oP (some v49) fun v6 =>
  Q .normal (rset (rset (rset ρ 48 v48) 49 v49) 6 v6) h) := by kernel_rfl
theorem f_turnstoneref30_Print {C : Cfg} (hs : C.start = startF) (a0 : V) {h : Hp} {Q : V → Hp → Prop} (hk : C.K n_turnstoneref30_Print [a0] h = none) (H : codeR C 114 k_turnstoneref30_Print (bodyQ [.tmp 2, .tmp 3] Q) (argsR [a0]) h) : cP C n_turnstoneref30_Print [a0] h Q :=
  cP.funcN hs (show P0.funcs[17]? = some Tryz.f17 by unfold P0; exact Tryz.func17) (by kernel_rfl) (by kernel_rfl) (by kernel_rfl) hk (Nat.le_of_ble_eq_true rfl) (Wp.code _ H)
def J_turnstoneref30_Print_R9 (C : Cfg) (Q : V → Hp → Prop) (x1 x4 x23 x67 : V) (h : Hp) : Prop := ∀ ρ : Rho, ρ 1 = x1 → ρ 4 = x4 → ρ 23 = x23 → ρ 67 = x67 → Wp C 114 k_turnstoneref30_Print_R9 (q_turnstoneref30_Print_14 C (bodyQ [.tmp 2, .tmp 3] Q)) ρ h
def J_turnstoneref30_Print_R7 (C : Cfg) (Q : V → Hp → Prop) (x4 x5 : V) (h : Hp) : Prop := ∀ ρ : Rho, ρ 4 = x4 → ρ 5 = x5 → Wp C 114 k_turnstoneref30_Print_R7 (bodyQ [.tmp 2, .tmp 3] Q) ρ h
def J_turnstoneref30_Print_R14 (C : Cfg) (Q : V → Hp → Prop) (x1 x4 x23 x74 : V) (h : Hp) : Prop := ∀ ρ : Rho, ρ 1 = x1 → ρ 4 = x4 → ρ 23 = x23 → ρ 74 = x74 → Wp C 114 k_turnstoneref30_Print_R14 (q_turnstoneref30_Print_14 C (bodyQ [.tmp 2, .tmp 3] Q)) ρ h
def J_turnstoneref30_Print_L0 (C : Cfg) (Q : V → Hp → Prop) (x4 x5 x7 : V) (h : Hp) : Prop := ∀ ρ : Rho, ρ 4 = x4 → ρ 5 = x5 → ρ 7 = x7 → Wp C 114 (.loop k_turnstoneref30_Print_L0) (q_turnstoneref30_Print_15 C (bodyQ [.tmp 2, .tmp 3] Q)) ρ h
def J_turnstoneref30_Print_L1 (C : Cfg) (Q : V → Hp → Prop) (x1 x4 x5 x6 : V) (h : Hp) : Prop := ∀ ρ : Rho, ρ 1 = x1 → ρ 4 = x4 → ρ 5 = x5 → ρ 6 = x6 → Wp C 114 (.loop k_turnstoneref30_Print_L1) (q_turnstoneref30_Print_16 C (bodyQ [.tmp 2, .tmp 3] Q)) ρ h
def B_turnstoneref30_Print_R9 (C : Cfg) (Q : V → Hp → Prop) (x1 x4 x23 x67 : V) (h : Hp) : Prop :=
  bP x67 (
  oP (pFA 3 x1) fun v71 =>
  oP (pLd v71 h) fun v72 =>
  alP (pBS 3 1 1 (V.int .i64 0) [(0, v72)]) h fun v73 h1 =>
  J_turnstoneref30_Print_R7 C Q x4 v73 h1) (
  oP (hbin .eql 3 x23 (V.int .i64 2)) fun v75 =>
  bP v75 (
  J_turnstoneref30_Print_R14 C Q x1 x4 x23 v75 h) (
  oP (hbin .eql 3 x23 (V.int .i64 4)) fun v76 =>
  J_turnstoneref30_Print_R14 C Q x1 x4 x23 v76 h))
set_option maxRecDepth 100000 in
theorem j_turnstoneref30_Print_R9 {C : Cfg} {Q : V → Hp → Prop} {x1 x4 x23 x67 : V} {h : Hp} (H : B_turnstoneref30_Print_R9 C Q x1 x4 x23 x67 h) : J_turnstoneref30_Print_R9 C Q x1 x4 x23 x67 h := by
  intro ρ e1 e4 e23 e67
  subst e1
  subst e4
  subst e23
  subst e67
  unfold B_turnstoneref30_Print_R9 at H
  exact Wp.of (e_turnstoneref30_Print_R9 _ _ _ _) (oSm (bM H (fun H => oM H fun v71 _ H => oM H fun v72 _ H => alM H fun v73 h1 H => oSm (H _ rfl rfl)) (fun H => oM H fun v75 _ H => oSm (Wp.of (e_turnstoneref30_Print_R13 _ _ _ _) (oSm (bM H (fun H => H _ rfl rfl rfl rfl) (fun H => oM H fun v76 _ H => oSm (H _ rfl rfl rfl rfl))))))))
def B_turnstoneref30_Print_R7 (C : Cfg) (Q : V → Hp → Prop) (x4 x5 : V) (h : Hp) : Prop :=
  J_turnstoneref30_Print_L0 C Q x4 x5 (V.int .i64 0) h
set_option maxRecDepth 100000 in
theorem j_turnstoneref30_Print_R7 {C : Cfg} {Q : V → Hp → Prop} {x4 x5 : V} {h : Hp} (H : B_turnstoneref30_Print_R7 C Q x4 x5 h) : J_turnstoneref30_Print_R7 C Q x4 x5 h := by
  intro ρ e4 e5
  subst e4
  subst e5
  unfold B_turnstoneref30_Print_R7 at H
  exact Wp.of (e_turnstoneref30_Print_R7 _ _ _ _) (oSm (Wp.of (e_turnstoneref30_Print_R10 _ _ _ _) (H _ rfl rfl rfl)))
def B_turnstoneref30_Print_R14 (C : Cfg) (Q : V → Hp → Prop) (x1 x4 x23 x74 : V) (h : Hp) : Prop :=
  bP x74 (
  oP (pFA 1 x1) fun v77 =>
  oP (pLd v77 h) fun v78 =>
  oP (pFA 2 x1) fun v79 =>
  oP (pLd v79 h) fun v80 =>
  alP (pBS 3 1 2 (V.int .i64 0) [(0, v78), (1, v80)]) h fun v81 h1 =>
  J_turnstoneref30_Print_R7 C Q x4 v81 h1) (
  oP (hbin .eql 3 x23 (V.int .i64 5)) fun v83 =>
  bP v83 (
  oP (pFA 1 x1) fun v84 =>
  oP (pLd v84 h) fun v85 =>
  alP (pBS 3 1 1 (V.int .i64 0) [(0, v85)]) h fun v86 h2 =>
  J_turnstoneref30_Print_R7 C Q x4 v86 h2) (
  oP (pFA 4 x1) fun v24 =>
  oP (pFA 4 v24) fun v25 =>
  oP (pLd v25 h) fun v26 =>
  oP (pLen v26) fun v27 =>
  oP (hbin .gtr 3 v27 (V.int .i64 8)) fun v28 =>
  bP v28 (
  Q (V.tuple [(V.str []), (V.int .i64 1)]) h) (
  oP (pFA 4 x1) fun v29 =>
  oP (pFA 0 v29) fun v30 =>
  oP (pLd v30 h) fun v31 =>
  oP (pFA 4 x1) fun v32 =>
  oP (pFA 1 v32) fun v33 =>
  oP (pLd v33 h) fun v34 =>
  oP (pFA 4 x1) fun v35 =>
  oP (pFA 2 v35) fun v36 =>
  oP (pLd v36 h) fun v37 =>
  oP (pFA 4 x1) fun v38 =>
  oP (pFA 3 v38) fun v39 =>
  oP (pLd v39 h) fun v40 =>
  alP (pBS 3 1 4 (V.int .i64 0) [(0, v31), (1, v34), (2, v37), (3, v40)]) h fun v41 h3 =>
  J_turnstoneref30_Print_L1 C Q x1 x4 v41 (V.int .i64 0) h3)))
set_option maxRecDepth 100000 in
theorem j_turnstoneref30_Print_R14 {C : Cfg} {Q : V → Hp → Prop} {x1 x4 x23 x74 : V} {h : Hp} (H : B_turnstoneref30_Print_R14 C Q x1 x4 x23 x74 h) : J_turnstoneref30_Print_R14 C Q x1 x4 x23 x74 h := by
  intro ρ e1 e4 e23 e74
  subst e1
  subst e4
  subst e23
  subst e74
  unfold B_turnstoneref30_Print_R14 at H
  exact Wp.of (e_turnstoneref30_Print_R14 _ _ _ _) (oSm (bM H (fun H => oM H fun v77 _ H => oM H fun v78 _ H => oM H fun v79 _ H => oM H fun v80 _ H => alM H fun v81 h1 H => oSm (H _ rfl rfl)) (fun H => oM H fun v83 _ H => oSm (Wp.of (e_turnstoneref30_Print_R16 _ _ _ _) (oSm (bM H (fun H => oM H fun v84 _ H => oM H fun v85 _ H => alM H fun v86 h2 H => oSm (H _ rfl rfl)) (fun H => oM H fun v24 _ H => oM H fun v25 _ H => oM H fun v26 _ H => oM H fun v27 _ H => oM H fun v28 _ H => Wp.of (e_turnstoneref30_Print_R19 _ _ _ _) (oSm (bM H (fun H => oSm (oSm (Wp.of (e_turnstoneref30_Print_R24 _ _ _ _) (H)))) (fun H => Wp.of (e_turnstoneref30_Print_R20 _ _ _ _) (oM H fun v29 _ H => oM H fun v30 _ H => oM H fun v31 _ H => oM H fun v32 _ H => oM H fun v33 _ H => oM H fun v34 _ H => oM H fun v35 _ H => oM H fun v36 _ H => oM H fun v37 _ H => oM H fun v38 _ H => oM H fun v39 _ H => oM H fun v40 _ H => alM H fun v41 h3 H => oSm (Wp.of (e_turnstoneref30_Print_R25 _ _ _ _) (oSm (Wp.of (e_turnstoneref30_Print_R27 _ _ _ _) (H _ rfl rfl rfl rfl)))))))))))))))
def B_turnstoneref30_Print_L0 (C : Cfg) (Q : V → Hp → Prop) (KL0 : V → V → V → Hp → Prop) (x4 x5 x7 : V) (h : Hp) : Prop :=
  oP (pLen x5) fun v89 =>
  oP (hbin .lss 3 x7 v89) fun v90 =>
  bP v90 (
  oP (pIx 1 x5 x7) fun v95 =>
  oP (pLd v95 h) fun v96 =>
  oP (hbin .gtr 3 v96 (V.int .i64 4611686018427387904)) fun v97 =>
  oP (pOr v97 (oB (some x5) fun v99 => oB (some x7) fun v100 => oB (pIx 1 v99 v100) fun v101 => oB (pLd v101 h) fun v102 => hbin .lss 3 v102 (V.int .i64 (-4611686018427387904)))) fun v104 =>
  bP v104 (
  Q (V.tuple [(V.str []), (V.int .i64 1)]) h) (
  oP (hbin .add 9 x4 (V.str [32])) fun v106 =>
  oP (pIx 1 x5 x7) fun v109 =>
  oP (pLd v109 h) fun v110 =>
  cP C n_turnstoneref10_Digits [v110] h fun v111 h1 =>
  oP (hbin .add 9 v106 v111) fun v112 =>
  oP (hbin .add 3 x7 (V.int .i64 1)) fun v92 =>
  KL0 v112 x5 v92 h1)) (
  Q (V.tuple [x4, (V.int .i64 0)]) h)
set_option maxRecDepth 100000 in
theorem l_turnstoneref30_Print_L0 {C : Cfg} {Q : V → Hp → Prop} (I : Nat → V → V → V → Hp → Prop) (step : ∀ (k : Nat) (x4 x5 x7 : V) (h : Hp), I k x4 x5 x7 h → B_turnstoneref30_Print_L0 C Q (fun x4 x5 x7 h => ∃ k', k' < k ∧ I k' x4 x5 x7 h) x4 x5 x7 h) {k : Nat} {x4 x5 x7 : V} {h : Hp} (h0 : I k x4 x5 x7 h) : J_turnstoneref30_Print_L0 C Q x4 x5 x7 h := by
  intro ρ e4 e5 e7
  subst e4
  subst e5
  subst e7
  refine Wp.loopI (fun k ρ h => I k (ρ 4) (ρ 5) (ρ 7) h) (fun k ρ h hi => ?_) h0
  have H := step k (ρ 4) (ρ 5) (ρ 7) h hi
  unfold B_turnstoneref30_Print_L0 at H
  exact Wp.of (e_turnstoneref30_Print_L0 _ _ _ _) (oSm (oSm (oM H fun v89 _ H => oM H fun v90 _ H => Wp.of (e_turnstoneref30_Print_R17 _ _ _ _) (oSm (bM H (fun H => Wp.of (e_turnstoneref30_Print_R18 _ _ _ _) (oSm (oSm (oM H fun v95 _ H => oM H fun v96 _ H => oM H fun v97 _ H => oSm (thn (or_open H) fun H => sG1 H fun b6 Gv99 v99 Ev99 H => sG1 H fun b7 Gv100 v100 Ev100 H => sG1 H fun b8 Gv101 v101 Ev101 H => sG1 H fun b9 Gv102 v102 Ev102 H => oM H fun b10 Gv103 H => oM H fun v103 Ev103 H => oM H fun v104 Ev104 H => Wp.of (e_turnstoneref30_Print_R21 _ _ _ _) (oSm (bM H (fun H => oSm (oSm (Wp.of (e_turnstoneref30_Print_R26 _ _ _ _) (H)))) (fun H => Wp.of (e_turnstoneref30_Print_R23 _ _ _ _) (oSm (oM H fun v106 _ H => oSm (oSm (oM H fun v109 _ H => oM H fun v110 _ H => dcM H fun v111 h1 H => oM H fun v112 _ H => oSm (Wp.of (e_turnstoneref30_Print_R22 _ _ _ _) (oSm (oM H fun v92 _ H => oSm (H)))))))))))))))) (fun H => Wp.of (e_turnstoneref30_Print_R11 _ _ _ _) (oSm (oSm (oSm (Wp.of (e_turnstoneref30_Print_R15 _ _ _ _) (H)))))))))))
def B_turnstoneref30_Print_L1 (C : Cfg) (Q : V → Hp → Prop) (KL1 : V → V → V → V → Hp → Prop) (x1 x4 x5 x6 : V) (h : Hp) : Prop :=
  oP (pFA 4 x1) fun v43 =>
  oP (pFA 4 v43) fun v44 =>
  oP (pLd v44 h) fun v45 =>
  oP (pLen v45) fun v46 =>
  oP (hbin .lss 3 x6 v46) fun v47 =>
  bP v47 (
  oP (pFA 4 x1) fun v51 =>
  oP (pFA 4 v51) fun v52 =>
  oP (pLd v52 h) fun v53 =>
  oP (pIx 2 v53 x6) fun v55 =>
  oP (pFA 0 v55) fun v56 =>
  oP (pLd v56 h) fun v57 =>
  oP (pFA 4 x1) fun v58 =>
  oP (pFA 4 v58) fun v59 =>
  oP (pLd v59 h) fun v60 =>
  oP (pIx 2 v60 x6) fun v62 =>
  oP (pFA 1 v62) fun v63 =>
  oP (pLd v63 h) fun v64 =>
  alO (pBS 3 1 2 (V.int .i64 0) [(0, v57), (1, v64)]) h fun o15 v65 h1 =>
  ((h1.get (h.next) = some o15 ∧ O.beq o15 o15 = true) ∧ 
  ((pLd v63 h1 = some v64) ∧ 
  ((pLd v59 h1 = some v60) ∧ 
  ((pLd v56 h1 = some v57) ∧ 
  ((pLd v52 h1 = some v53) ∧ 
  valP (happend 3 1 8 x5 v65 h1) fun v66 h2 =>
  (h1.next ≤ h2.next ∧
  oP (hbin .add 3 x6 (V.int .i64 1)) fun v49 =>
  KL1 x1 x4 v66 v49 h2))))))) (
  J_turnstoneref30_Print_R7 C Q x4 x5 h)
set_option maxRecDepth 100000 in
theorem l_turnstoneref30_Print_L1 {C : Cfg} {Q : V → Hp → Prop} (I : Nat → V → V → V → V → Hp → Prop) (step : ∀ (k : Nat) (x1 x4 x5 x6 : V) (h : Hp), I k x1 x4 x5 x6 h → B_turnstoneref30_Print_L1 C Q (fun x1 x4 x5 x6 h => ∃ k', k' < k ∧ I k' x1 x4 x5 x6 h) x1 x4 x5 x6 h) {k : Nat} {x1 x4 x5 x6 : V} {h : Hp} (h0 : I k x1 x4 x5 x6 h) : J_turnstoneref30_Print_L1 C Q x1 x4 x5 x6 h := by
  intro ρ e1 e4 e5 e6
  subst e1
  subst e4
  subst e5
  subst e6
  refine Wp.loopI (fun k ρ h => I k (ρ 1) (ρ 4) (ρ 5) (ρ 6) h) (fun k ρ h hi => ?_) h0
  have H := step k (ρ 1) (ρ 4) (ρ 5) (ρ 6) h hi
  unfold B_turnstoneref30_Print_L1 at H
  exact Wp.of (e_turnstoneref30_Print_L1 _ _ _ _) (oSm (oM H fun v43 _ H => oM H fun v44 _ H => oM H fun v45 _ H => oM H fun v46 _ H => oM H fun v47 _ H => Wp.of (e_turnstoneref30_Print_R28 _ _ _ _) (oSm (bM H (fun H => Wp.of (e_turnstoneref30_Print_R29 _ _ _ _) (oSm (oM H fun v51 Ev51 H => oM H fun v52 Ev52 H => oM H fun v53 Ev53 H => oSm (oM H fun v55 Ev55 H => oM H fun v56 Ev56 H => oM H fun v57 Ev57 H => oM H fun v58 Ev58 H => oM H fun v59 Ev59 H => oM H fun v60 Ev60 H => oSm (oM H fun v62 Ev62 H => oM H fun v63 Ev63 H => oM H fun v64 Ev64 H => alOM H fun o15 v65 h1 H => anM H fun H => anM H fun H => ⟨Ev63, ⟨Ev62, ⟨rfl, anM H fun H => ⟨Ev59, ⟨Ev58, anM H fun H => ⟨Ev56, ⟨Ev55, ⟨rfl, anM H fun H => ⟨Ev52, ⟨Ev51, ⟨rfl, valM H fun v66 h2 H => anM H fun H => oSm (⟨rfl, Wp.of (e_turnstoneref30_Print_R30 _ _ _ _) (oSm (oM H fun v49 _ H => oSm (H)))⟩)⟩⟩⟩⟩⟩⟩⟩⟩⟩⟩⟩))))) (fun H => H _ rfl rfl)))))
def B_turnstoneref30_Print (C : Cfg) (Q : V → Hp → Prop) (a0 : V) (h : Hp) : Prop :=
  alP (hbox 26 a0) h fun v1 h1 =>
  oP (pFA 0 v1) fun v8 =>
  oP (pLd v8 h1) fun v9 =>
  oP (hbin .lss 3 v9 (V.int .i64 1)) fun v10 =>
  oP (pOr v10 (oB (pFA 0 v1) fun v12 => oB (pLd v12 h1) fun v13 => hbin .gtr 3 v13 (V.int .i64 7))) fun v15 =>
  bP v15 (
  Q (V.tuple [(V.str []), (V.int .i64 1)]) h1) (
  oP (pFA 0 v1) fun v17 =>
  oP (pLd v17 h1) fun v18 =>
  oP (hbin .sub 3 v18 (V.int .i64 1)) fun v19 =>
  cP C n_turnstoneref30_Names [] h1 fun v16 h2 =>
  (h1.next ≤ h2.next ∧
  oP (pIx 1 v16 v19) fun v20 =>
  oP (pLd v20 h2) fun v21 =>
  ((pLd v17 h2 = some v18) ∧ 
  oP (pFA 0 v1) fun v22 =>
  oP (pLd v22 h2) fun v23 =>
  oP (hbin .eql 3 v23 (V.int .i64 1)) fun v68 =>
  bP v68 (
  J_turnstoneref30_Print_R9 C Q v1 v21 v23 v68 h2) (
  oP (hbin .eql 3 v23 (V.int .i64 3)) fun v69 =>
  bP v69 (
  J_turnstoneref30_Print_R9 C Q v1 v21 v23 v69 h2) (
  oP (hbin .eql 3 v23 (V.int .i64 7)) fun v70 =>
  J_turnstoneref30_Print_R9 C Q v1 v21 v23 v70 h2)))))
set_option maxRecDepth 100000 in
theorem c_turnstoneref30_Print {C : Cfg} (hs : C.start = startF) {a0 : V} {h : Hp} {Q : V → Hp → Prop} (hk : C.K n_turnstoneref30_Print [a0] h = none) (H : B_turnstoneref30_Print C Q a0 h) : cP C n_turnstoneref30_Print [a0] h Q := by
  unfold B_turnstoneref30_Print at H
  exact f_turnstoneref30_Print hs _ hk ((e_turnstoneref30_Print _ _ _ _).mpr (alM H fun v1 h1 H => oSm (oSm (Wp.of (e_turnstoneref30_Print_R0 _ _ _ _) (oM H fun v8 _ H => oM H fun v9 _ H => oM H fun v10 _ H => oSm (thn (or_open H) fun H => sG1 H fun b4 Gv12 v12 Ev12 H => sG1 H fun b5 Gv13 v13 Ev13 H => oM H fun b6 Gv14 H => oM H fun v14 Ev14 H => oM H fun v15 Ev15 H => Wp.of (e_turnstoneref30_Print_R1 _ _ _ _) (oSm (bM H (fun H => oSm (oSm (Wp.of (e_turnstoneref30_Print_R3 _ _ _ _) (H)))) (fun H => Wp.of (e_turnstoneref30_Print_R2 _ _ _ _) (oM H fun v17 Ev17 H => oM H fun v18 Ev18 H => oM H fun v19 Ev19 H => ⟨Ev19, ⟨Ev18, ⟨Ev17, dcM H fun v16 h2 H => anM H fun H => oM H fun v20 Ev20 H => oM H fun v21 Ev21 H => oSm (⟨rfl, ⟨Ev21, ⟨Ev20, ⟨Ev19, anM H fun H => ⟨Ev17, Wp.of (e_turnstoneref30_Print_R4 _ _ _ _) (oSm (Wp.of (e_turnstoneref30_Print_R5 _ _ _ _) (oM H fun v22 _ H => oM H fun v23 _ H => Wp.of (e_turnstoneref30_Print_R6 _ _ _ _) (oM H fun v68 _ H => oSm (Wp.of (e_turnstoneref30_Print_R8 _ _ _ _) (oSm (bM H (fun H => H _ rfl rfl rfl rfl) (fun H => oM H fun v69 _ H => oSm (Wp.of (e_turnstoneref30_Print_R12 _ _ _ _) (oSm (bM H (fun H => H _ rfl rfl rfl rfl) (fun H => oM H fun v70 _ H => oSm (H _ rfl rfl rfl rfl)))))))))))))⟩⟩⟩⟩⟩)⟩⟩⟩))))))))))
/-! ### turnstone/turnstonelaw30.ScriptPrints -/
noncomputable def k_turnstonelaw30_ScriptPrints : Code := bodyOf Tryz.f6
noncomputable def k_turnstonelaw30_ScriptPrints_R0 : Code := k_turnstonelaw30_ScriptPrints.r
noncomputable def k_turnstonelaw30_ScriptPrints_R1 : Code := k_turnstonelaw30_ScriptPrints.r.l.r
noncomputable def k_turnstonelaw30_ScriptPrints_R2 : Code := k_turnstonelaw30_ScriptPrints.r.r
noncomputable def q_turnstonelaw30_ScriptPrints_0 (C : Cfg) (Q : X → Rho → Hp → Prop) : X → Rho → Hp → Prop := andThen (Wp C 36 k_turnstonelaw30_ScriptPrints_R2 Q) Q
theorem q_turnstonelaw30_ScriptPrints_0_normal (C : Cfg) (Q : X → Rho → Hp → Prop) (ρ : Rho) (h : Hp) : q_turnstonelaw30_ScriptPrints_0 C Q .normal ρ h = Wp C 36 k_turnstonelaw30_ScriptPrints_R2 Q ρ h := rfl
theorem q_turnstonelaw30_ScriptPrints_0_ret (C : Cfg) (Q : X → Rho → Hp → Prop) (ρ : Rho) (h : Hp) : q_turnstonelaw30_ScriptPrints_0 C Q .ret ρ h = Q .ret ρ h := rfl
noncomputable def k_turnstonelaw30_ScriptPrints_R3 : Code := k_turnstonelaw30_ScriptPrints.r.r.r
noncomputable def k_turnstonelaw30_ScriptPrints_R4 : Code := k_turnstonelaw30_ScriptPrints.r.r.r.r
noncomputable def k_turnstonelaw30_ScriptPrints_R5 : Code := k_turnstonelaw30_ScriptPrints.r.r.r.r.r
set_option maxRecDepth 100000 in
theorem e_turnstonelaw30_ScriptPrints (C : Cfg) (Q : X → Rho → Hp → Prop) (ρ : Rho) (h : Hp) : codeR C 36 k_turnstonelaw30_ScriptPrints Q ρ h = (
  alP (hbox 26 (ρ 0)) h fun v2 h1 =>
  oP (some (V.bool false)) fun v4 =>
  Wp C 36 k_turnstonelaw30_ScriptPrints_R0 Q (rset (rset ρ 2 v2) 4 v4) h1) := by kernel_rfl
set_option maxRecDepth 100000 in
theorem e_turnstonelaw30_ScriptPrints_R0 (C : Cfg) (Q : X → Rho → Hp → Prop) (ρ : Rho) (h : Hp) : codeR C 36 k_turnstonelaw30_ScriptPrints_R0 Q ρ h = (
  oP (some (ρ 1)) fun v9 =>
  Wp C 36 k_turnstonelaw30_ScriptPrints_R1 (q_turnstonelaw30_ScriptPrints_0 C Q) (rset ρ 9 v9) h) := by kernel_rfl
set_option maxRecDepth 100000 in
theorem e_turnstonelaw30_ScriptPrints_R2 (C : Cfg) (Q : X → Rho → Hp → Prop) (ρ : Rho) (h : Hp) : codeR C 36 k_turnstonelaw30_ScriptPrints_R2 Q ρ h = (
  oP (pLdA 9 (ρ 2) h) fun v16 =>
  dcP C n_script_Print [v16] h fun v17 h1 =>
  oP (some v17) fun v15 =>
  oP (pExt 0 v15) fun v18 =>
  oP (pExt 1 v15) fun v19 =>
  oP (some v18) fun v5 =>
  oP (some v19) fun v6 =>
  Wp C 36 k_turnstonelaw30_ScriptPrints_R3 Q (rset (rset (rset (rset (rset (rset (rset ρ 16 v16) 17 v17) 15 v15) 18 v18) 19 v19) 5 v5) 6 v6) h1) := by kernel_rfl
set_option maxRecDepth 100000 in
theorem e_turnstonelaw30_ScriptPrints_R1 (C : Cfg) (Q : X → Rho → Hp → Prop) (ρ : Rho) (h : Hp) : codeR C 36 k_turnstonelaw30_ScriptPrints_R1 Q ρ h = (
  oP (some (ρ 9)) fun c =>
  bP c (
    oP (pFA 0 (ρ 2)) fun v10 =>
    oP (pLd v10 h) fun v11 =>
    dcP C n_turnstonehand_Pick [v11, (V.int .i64 7)] h fun v12 h1 =>
    oP (hbin .add 3 (V.int .i64 1) v12) fun v13 =>
    oP (pFA 0 (ρ 2)) fun v14 =>
    valP (pSt 1 v14 v13 h1) fun vu h2 =>
    Q .normal (rset (rset (rset (rset (rset ρ 10 v10) 11 v11) 12 v12) 13 v13) 14 v14) h2) (
    Q .normal ρ h)) := by kernel_rfl
set_option maxRecDepth 100000 in
theorem e_turnstonelaw30_ScriptPrints_R3 (C : Cfg) (Q : X → Rho → Hp → Prop) (ρ : Rho) (h : Hp) : codeR C 36 k_turnstonelaw30_ScriptPrints_R3 Q ρ h = (
  oP (pLdA 9 (ρ 2) h) fun v21 =>
  dcP C n_turnstoneref30_Print [v21] h fun v22 h1 =>
  oP (some v22) fun v20 =>
  oP (pExt 0 v20) fun v23 =>
  oP (pExt 1 v20) fun v24 =>
  oP (some v23) fun v7 =>
  oP (some v24) fun v8 =>
  Wp C 36 k_turnstonelaw30_ScriptPrints_R4 Q (rset (rset (rset (rset (rset (rset (rset ρ 21 v21) 22 v22) 20 v20) 23 v23) 24 v24) 7 v7) 8 v8) h1) := by kernel_rfl
set_option maxRecDepth 100000 in
theorem e_turnstonelaw30_ScriptPrints_R4 (C : Cfg) (Q : X → Rho → Hp → Prop) (ρ : Rho) (h : Hp) : codeR C 36 k_turnstonelaw30_ScriptPrints_R4 Q ρ h = (
  dcP C n_turnstonelaw30_known [] h fun v25 h1 =>
  oP (some v25) fun v26 =>
  oP (pGd true v26) fun b2 =>
  oP (gV b2 (some (ρ 5))) fun v27 =>
  oP (pGd true v26) fun b3 =>
  oP (gV b3 (some (ρ 7))) fun v28 =>
  oP (pGd true v26) fun b4 =>
  oP (gV b4 (hbin .eql 9 v27 v28)) fun v29 =>
  oP (pPick v26 v29 (V.bool false)) fun v30 =>
  oP (some v30) fun v31 =>
  oP (pGd true v31) fun b7 =>
  oP (gV b7 (some (ρ 6))) fun v32 =>
  oP (pGd true v31) fun b8 =>
  oP (gV b8 (some (ρ 8))) fun v33 =>
  oP (pGd true v31) fun b9 =>
  oP (gV b9 (hbin .eql 27 v32 v33)) fun v34 =>
  oP (pPick v31 v34 (V.bool false)) fun v35 =>
  oP (some v35) fun v4 =>
  Wp C 36 k_turnstonelaw30_ScriptPrints_R5 Q (rset (rset (rset (rset (rset (rset (rset (rset (rset (rset (rset (rset ρ 25 v25) 26 v26) 27 v27) 28 v28) 29 v29) 30 v30) 31 v31) 32 v32) 33 v33) 34 v34) 35 v35) 4 v4) h1) := by kernel_rfl
set_option maxRecDepth 100000 in
theorem e_turnstonelaw30_ScriptPrints_R5 (C : Cfg) (Q : X → Rho → Hp → Prop) (ρ : Rho) (h : Hp) : codeR C 36 k_turnstonelaw30_ScriptPrints_R5 Q ρ h = (
  Q .ret ρ h) := by kernel_rfl
theorem f_turnstonelaw30_ScriptPrints {C : Cfg} (hs : C.start = startF) (a0 a1 : V) {h : Hp} {Q : V → Hp → Prop} (hk : C.K n_turnstonelaw30_ScriptPrints [a0, a1] h = none) (H : codeR C 36 k_turnstonelaw30_ScriptPrints (bodyQ [.tmp 4] Q) (argsR [a0, a1]) h) : cP C n_turnstonelaw30_ScriptPrints [a0, a1] h Q :=
  cP.funcN hs (show P0.funcs[6]? = some Tryz.f6 by unfold P0; exact Tryz.func6) (by kernel_rfl) (by kernel_rfl) (by kernel_rfl) hk (Nat.le_of_ble_eq_true rfl) (Wp.code _ H)
def J_turnstonelaw30_ScriptPrints_R2 (C : Cfg) (Q : V → Hp → Prop) (x2 : V) (h : Hp) : Prop := ∀ ρ : Rho, ρ 2 = x2 → Wp C 36 k_turnstonelaw30_ScriptPrints_R2 (bodyQ [.tmp 4] Q) ρ h
def B_turnstonelaw30_ScriptPrints_R2 (C : Cfg) (Q : V → Hp → Prop) (x2 : V) (h : Hp) : Prop :=
  oP (pLdA 9 x2 h) fun v16 =>
  cP C n_script_Print [v16] h fun v17 h1 =>
  oP (pExt 0 v17) fun v18 =>
  oP (pExt 1 v17) fun v19 =>
  oP (pLdA 9 x2 h1) fun v21 =>
  cP C n_turnstoneref30_Print [v21] h1 fun v22 h2 =>
  oP (pExt 0 v22) fun v23 =>
  oP (pExt 1 v22) fun v24 =>
  cP C n_turnstonelaw30_known [] h2 fun v25 h3 =>
  oP (pAnd v25 (oB (some v18) fun v27 => oB (some v23) fun v28 => hbin .eql 9 v27 v28)) fun v30 =>
  oP (pAnd v30 (oB (some v19) fun v32 => oB (some v24) fun v33 => hbin .eql 27 v32 v33)) fun v35 =>
  Q v35 h3
set_option maxRecDepth 100000 in
theorem j_turnstonelaw30_ScriptPrints_R2 {C : Cfg} {Q : V → Hp → Prop} {x2 : V} {h : Hp} (H : B_turnstonelaw30_ScriptPrints_R2 C Q x2 h) : J_turnstonelaw30_ScriptPrints_R2 C Q x2 h := by
  intro ρ e2
  subst e2
  unfold B_turnstonelaw30_ScriptPrints_R2 at H
  exact Wp.of (e_turnstonelaw30_ScriptPrints_R2 _ _ _ _) (oM H fun v16 _ H => dcM H fun v17 h1 H => oSm (oM H fun v18 _ H => oM H fun v19 _ H => oSm (oSm (Wp.of (e_turnstonelaw30_ScriptPrints_R3 _ _ _ _) (oM H fun v21 _ H => dcM H fun v22 h2 H => oSm (oM H fun v23 _ H => oM H fun v24 _ H => oSm (oSm (Wp.of (e_turnstonelaw30_ScriptPrints_R4 _ _ _ _) (dcM H fun v25 h3 H => oSm (thn (and_open H) fun H => sG1 H fun b2 Gv27 v27 Ev27 H => sG1 H fun b3 Gv28 v28 Ev28 H => oM H fun b4 Gv29 H => oM H fun v29 Ev29 H => oM H fun v30 Ev30 H => oSm (thn (and_open H) fun H => sG1 H fun b7 Gv32 v32 Ev32 H => sG1 H fun b8 Gv33 v33 Ev33 H => oM H fun b9 Gv34 H => oM H fun v34 Ev34 H => oM H fun v35 Ev35 H => oSm (Wp.of (e_turnstonelaw30_ScriptPrints_R5 _ _ _ _) (H)))))))))))))
def B_turnstonelaw30_ScriptPrints (C : Cfg) (Q : V → Hp → Prop) (a0 a1 : V) (h : Hp) : Prop :=
  alP (hbox 26 a0) h fun v2 h1 =>
  bP a1 (
  oP (pFA 0 v2) fun v10 =>
  oP (pLd v10 h1) fun v11 =>
  cP C n_turnstonehand_Pick [v11, (V.int .i64 7)] h1 fun v12 h2 =>
  oP (hbin .add 3 (V.int .i64 1) v12) fun v13 =>
  oP (pFA 0 v2) fun v14 =>
  valP (pSt 1 v14 v13 h2) fun vu h3 =>
  J_turnstonelaw30_ScriptPrints_R2 C Q v2 h3) (
  J_turnstonelaw30_ScriptPrints_R2 C Q v2 h1)
set_option maxRecDepth 100000 in
theorem c_turnstonelaw30_ScriptPrints {C : Cfg} (hs : C.start = startF) {a0 a1 : V} {h : Hp} {Q : V → Hp → Prop} (hk : C.K n_turnstonelaw30_ScriptPrints [a0, a1] h = none) (H : B_turnstonelaw30_ScriptPrints C Q a0 a1 h) : cP C n_turnstonelaw30_ScriptPrints [a0, a1] h Q := by
  unfold B_turnstonelaw30_ScriptPrints at H
  exact f_turnstonelaw30_ScriptPrints hs _ _ hk ((e_turnstonelaw30_ScriptPrints _ _ _ _).mpr (alM H fun v2 h1 H => oSm (Wp.of (e_turnstonelaw30_ScriptPrints_R0 _ _ _ _) (oSm (Wp.of (e_turnstonelaw30_ScriptPrints_R1 _ _ _ _) (oSm (bM H (fun H => oM H fun v10 _ H => oM H fun v11 _ H => dcM H fun v12 h2 H => oM H fun v13 _ H => oM H fun v14 _ H => valM H fun vu h3 H => H _ rfl) (fun H => H _ rfl))))))))
end Go.Proofs.YtdpfhajggknfaaaGreatDoor.Hx
