/- What is left of the code of functions: printed by vc2.py, checked by computation. -/
import Derived.Test.YtdpfhajggknfaaaGreatDoorHxVC
namespace Go.Proofs.YtdpfhajggknfaaaGreatDoor.Hx
/-! ### (turnstone/turnstonelaw30.Line).text -/
noncomputable def k_turnstonelaw30_Line_text : Code := bodyOf Tryz.f12
noncomputable def k_turnstonelaw30_Line_text_R0 : Code := k_turnstonelaw30_Line_text.r
noncomputable def k_turnstonelaw30_Line_text_R1 : Code := k_turnstonelaw30_Line_text.r.r
noncomputable def k_turnstonelaw30_Line_text_R2 : Code := k_turnstonelaw30_Line_text.r.r.r
noncomputable def k_turnstonelaw30_Line_text_R3 : Code := k_turnstonelaw30_Line_text.r.r.r.r
noncomputable def k_turnstonelaw30_Line_text_R4 : Code := k_turnstonelaw30_Line_text.r.r.r.r.l.r
noncomputable def k_turnstonelaw30_Line_text_R5 : Code := k_turnstonelaw30_Line_text.r.r.r.r.r
noncomputable def q_turnstonelaw30_Line_text_0 (C : Cfg) (Q : X → Rho → Hp → Prop) : X → Rho → Hp → Prop := andThen (Wp C 84 k_turnstonelaw30_Line_text_R5 Q) Q
theorem q_turnstonelaw30_Line_text_0_normal (C : Cfg) (Q : X → Rho → Hp → Prop) (ρ : Rho) (h : Hp) : q_turnstonelaw30_Line_text_0 C Q .normal ρ h = Wp C 84 k_turnstonelaw30_Line_text_R5 Q ρ h := rfl
theorem q_turnstonelaw30_Line_text_0_ret (C : Cfg) (Q : X → Rho → Hp → Prop) (ρ : Rho) (h : Hp) : q_turnstonelaw30_Line_text_0 C Q .ret ρ h = Q .ret ρ h := rfl
noncomputable def k_turnstonelaw30_Line_text_R6 : Code := k_turnstonelaw30_Line_text.r.r.r.r.r.l.r
noncomputable def k_turnstonelaw30_Line_text_R7 : Code := k_turnstonelaw30_Line_text.r.r.r.r.r.r
noncomputable def q_turnstonelaw30_Line_text_1 (C : Cfg) (Q : X → Rho → Hp → Prop) : X → Rho → Hp → Prop := andThen (Wp C 84 k_turnstonelaw30_Line_text_R7 Q) Q
theorem q_turnstonelaw30_Line_text_1_normal (C : Cfg) (Q : X → Rho → Hp → Prop) (ρ : Rho) (h : Hp) : q_turnstonelaw30_Line_text_1 C Q .normal ρ h = Wp C 84 k_turnstonelaw30_Line_text_R7 Q ρ h := rfl
theorem q_turnstonelaw30_Line_text_1_ret (C : Cfg) (Q : X → Rho → Hp → Prop) (ρ : Rho) (h : Hp) : q_turnstonelaw30_Line_text_1 C Q .ret ρ h = Q .ret ρ h := rfl
noncomputable def k_turnstonelaw30_Line_text_R8 : Code := k_turnstonelaw30_Line_text.r.r.r.r.r.r.l.r
noncomputable def k_turnstonelaw30_Line_text_R9 : Code := k_turnstonelaw30_Line_text.r.r.r.r.r.r.r
noncomputable def q_turnstonelaw30_Line_text_2 (C : Cfg) (Q : X → Rho → Hp → Prop) : X → Rho → Hp → Prop := andThen (Wp C 84 k_turnstonelaw30_Line_text_R9 Q) Q
theorem q_turnstonelaw30_Line_text_2_normal (C : Cfg) (Q : X → Rho → Hp → Prop) (ρ : Rho) (h : Hp) : q_turnstonelaw30_Line_text_2 C Q .normal ρ h = Wp C 84 k_turnstonelaw30_Line_text_R9 Q ρ h := rfl
theorem q_turnstonelaw30_Line_text_2_ret (C : Cfg) (Q : X → Rho → Hp → Prop) (ρ : Rho) (h : Hp) : q_turnstonelaw30_Line_text_2 C Q .ret ρ h = Q .ret ρ h := rfl
noncomputable def k_turnstonelaw30_Line_text_L0 : Code := k_turnstonelaw30_Line_text.r.r.r.r.r.r.l.r.l.l
noncomputable def q_turnstonelaw30_Line_text_3 (C : Cfg) (Q : X → Rho → Hp → Prop) : X → Rho → Hp → Prop := blockQ 0 Q
theorem q_turnstonelaw30_Line_text_3_normal (C : Cfg) (Q : X → Rho → Hp → Prop) (ρ : Rho) (h : Hp) : q_turnstonelaw30_Line_text_3 C Q .normal ρ h = Q .normal ρ h := rfl
theorem q_turnstonelaw30_Line_text_3_ret (C : Cfg) (Q : X → Rho → Hp → Prop) (ρ : Rho) (h : Hp) : q_turnstonelaw30_Line_text_3 C Q .ret ρ h = Q .ret ρ h := rfl
theorem q_turnstonelaw30_Line_text_3_exit0 (C : Cfg) (Q : X → Rho → Hp → Prop) (ρ : Rho) (h : Hp) : q_turnstonelaw30_Line_text_3 C Q (.exit 0) ρ h = Q .normal ρ h := rfl
noncomputable def k_turnstonelaw30_Line_text_R10 : Code := k_turnstonelaw30_Line_text.r.r.r.r.r.r.r.r
noncomputable def k_turnstonelaw30_Line_text_R11 : Code := k_turnstonelaw30_Line_text.r.r.r.r.r.r.l.r.l.l.l.r
noncomputable def k_turnstonelaw30_Line_text_R12 : Code := k_turnstonelaw30_Line_text.r.r.r.r.r.r.l.r.l.l.r
noncomputable def q_turnstonelaw30_Line_text_4 (C : Cfg) (Q : X → Rho → Hp → Prop) : X → Rho → Hp → Prop := andThen (Wp C 84 k_turnstonelaw30_Line_text_R12 Q) Q
theorem q_turnstonelaw30_Line_text_4_normal (C : Cfg) (Q : X → Rho → Hp → Prop) (ρ : Rho) (h : Hp) : q_turnstonelaw30_Line_text_4 C Q .normal ρ h = Wp C 84 k_turnstonelaw30_Line_text_R12 Q ρ h := rfl
theorem q_turnstonelaw30_Line_text_4_ret (C : Cfg) (Q : X → Rho → Hp → Prop) (ρ : Rho) (h : Hp) : q_turnstonelaw30_Line_text_4 C Q .ret ρ h = Q .ret ρ h := rfl
noncomputable def k_turnstonelaw30_Line_text_R13 : Code := k_turnstonelaw30_Line_text.r.r.r.r.r.r.l.r.l.l.r.l.l.r
noncomputable def k_turnstonelaw30_Line_text_R14 : Code := k_turnstonelaw30_Line_text.r.r.r.r.r.r.l.r.l.l.r.r
noncomputable def q_turnstonelaw30_Line_text_6 (C : Cfg) (Q : X → Rho → Hp → Prop) : X → Rho → Hp → Prop := andThen (Wp C 84 k_turnstonelaw30_Line_text_R14 Q) Q
theorem q_turnstonelaw30_Line_text_6_normal (C : Cfg) (Q : X → Rho → Hp → Prop) (ρ : Rho) (h : Hp) : q_turnstonelaw30_Line_text_6 C Q .normal ρ h = Wp C 84 k_turnstonelaw30_Line_text_R14 Q ρ h := rfl
theorem q_turnstonelaw30_Line_text_6_ret (C : Cfg) (Q : X → Rho → Hp → Prop) (ρ : Rho) (h : Hp) : q_turnstonelaw30_Line_text_6 C Q .ret ρ h = Q .ret ρ h := rfl
noncomputable def q_turnstonelaw30_Line_text_5 (C : Cfg) (Q : X → Rho → Hp → Prop) : X → Rho → Hp → Prop := blockQ 1 (q_turnstonelaw30_Line_text_6 C Q)
theorem q_turnstonelaw30_Line_text_5_normal (C : Cfg) (Q : X → Rho → Hp → Prop) (ρ : Rho) (h : Hp) : q_turnstonelaw30_Line_text_5 C Q .normal ρ h = Wp C 84 k_turnstonelaw30_Line_text_R14 Q ρ h := rfl
theorem q_turnstonelaw30_Line_text_5_ret (C : Cfg) (Q : X → Rho → Hp → Prop) (ρ : Rho) (h : Hp) : q_turnstonelaw30_Line_text_5 C Q .ret ρ h = Q .ret ρ h := rfl
theorem q_turnstonelaw30_Line_text_5_exit1 (C : Cfg) (Q : X → Rho → Hp → Prop) (ρ : Rho) (h : Hp) : q_turnstonelaw30_Line_text_5 C Q (.exit 1) ρ h = Wp C 84 k_turnstonelaw30_Line_text_R14 Q ρ h := rfl
noncomputable def k_turnstonelaw30_Line_text_R15 : Code := k_turnstonelaw30_Line_text.r.r.r.r.r.r.l.r.l.l.r.l.l.r.l.r
noncomputable def k_turnstonelaw30_Line_text_R16 : Code := k_turnstonelaw30_Line_text.r.r.r.r.r.r.l.r.l.l.r.l.l.r.r
noncomputable def q_turnstonelaw30_Line_text_7 (C : Cfg) (Q : X → Rho → Hp → Prop) : X → Rho → Hp → Prop := andThen (Wp C 84 k_turnstonelaw30_Line_text_R16 Q) Q
theorem q_turnstonelaw30_Line_text_7_normal (C : Cfg) (Q : X → Rho → Hp → Prop) (ρ : Rho) (h : Hp) : q_turnstonelaw30_Line_text_7 C Q .normal ρ h = Wp C 84 k_turnstonelaw30_Line_text_R16 Q ρ h := rfl
theorem q_turnstonelaw30_Line_text_7_ret (C : Cfg) (Q : X → Rho → Hp → Prop) (ρ : Rho) (h : Hp) : q_turnstonelaw30_Line_text_7 C Q .ret ρ h = Q .ret ρ h := rfl
noncomputable def k_turnstonelaw30_Line_text_R17 : Code := k_turnstonelaw30_Line_text.r.r.r.r.r.r.l.r.l.l.r.l.l.r.r.r
noncomputable def k_turnstonelaw30_Line_text_R18 : Code := k_turnstonelaw30_Line_text.r.r.r.r.r.r.l.r.l.l.r.l.l.r.r.r.l.r
noncomputable def k_turnstonelaw30_Line_text_R19 : Code := k_turnstonelaw30_Line_text.r.r.r.r.r.r.l.r.l.l.r.l.l.r.r.r.r
noncomputable def q_turnstonelaw30_Line_text_8 (C : Cfg) (Q : X → Rho → Hp → Prop) : X → Rho → Hp → Prop := andThen (Wp C 84 k_turnstonelaw30_Line_text_R19 Q) Q
theorem q_turnstonelaw30_Line_text_8_normal (C : Cfg) (Q : X → Rho → Hp → Prop) (ρ : Rho) (h : Hp) : q_turnstonelaw30_Line_text_8 C Q .normal ρ h = Wp C 84 k_turnstonelaw30_Line_text_R19 Q ρ h := rfl
theorem q_turnstonelaw30_Line_text_8_ret (C : Cfg) (Q : X → Rho → Hp → Prop) (ρ : Rho) (h : Hp) : q_turnstonelaw30_Line_text_8 C Q .ret ρ h = Q .ret ρ h := rfl
noncomputable def q_turnstonelaw30_Line_text_9 (C : Cfg) (Q : X → Rho → Hp → Prop) : X → Rho → Hp → Prop := blockQ 0 (q_turnstonelaw30_Line_text_2 C Q)
theorem q_turnstonelaw30_Line_text_9_normal (C : Cfg) (Q : X → Rho → Hp → Prop) (ρ : Rho) (h : Hp) : q_turnstonelaw30_Line_text_9 C Q .normal ρ h = Wp C 84 k_turnstonelaw30_Line_text_R9 Q ρ h := rfl
theorem q_turnstonelaw30_Line_text_9_ret (C : Cfg) (Q : X → Rho → Hp → Prop) (ρ : Rho) (h : Hp) : q_turnstonelaw30_Line_text_9 C Q .ret ρ h = Q .ret ρ h := rfl
theorem q_turnstonelaw30_Line_text_9_exit0 (C : Cfg) (Q : X → Rho → Hp → Prop) (ρ : Rho) (h : Hp) : q_turnstonelaw30_Line_text_9 C Q (.exit 0) ρ h = Wp C 84 k_turnstonelaw30_Line_text_R9 Q ρ h := rfl
set_option maxRecDepth 100000 in
theorem e_turnstonelaw30_Line_text (C : Cfg) (Q : X → Rho → Hp → Prop) (ρ : Rho) (h : Hp) : codeR C 84 k_turnstonelaw30_Line_text Q ρ h = (
  alP (hbox 36 (ρ 0)) h fun v1 h1 =>
  oP (some (V.str [])) fun v2 =>
  Wp C 84 k_turnstonelaw30_Line_text_R0 Q (rset (rset ρ 1 v1) 2 v2) h1) := by kernel_rfl
set_option maxRecDepth 100000 in
theorem e_turnstonelaw30_Line_text_R0 (C : Cfg) (Q : X → Rho → Hp → Prop) (ρ : Rho) (h : Hp) : codeR C 84 k_turnstonelaw30_Line_text_R0 Q ρ h = (
  oP (pFA 0 (ρ 1)) fun v9 =>
  oP (pLd v9 h) fun v10 =>
  dcP C n_turnstonehand_Pick [v10, (V.int .i64 7)] h fun v11 h1 =>
  oP (some v11) fun v3 =>
  Wp C 84 k_turnstonelaw30_Line_text_R1 Q (rset (rset (rset (rset ρ 9 v9) 10 v10) 11 v11) 3 v3) h1) := by kernel_rfl
set_option maxRecDepth 100000 in
theorem e_turnstonelaw30_Line_text_R1 (C : Cfg) (Q : X → Rho → Hp → Prop) (ρ : Rho) (h : Hp) : codeR C 84 k_turnstonelaw30_Line_text_R1 Q ρ h = (
  dcP C n_turnstoneref30_Names [] h fun v12 h1 =>
  oP (some (ρ 3)) fun v13 =>
  oP (pIx 1 v12 v13) fun v14 =>
  oP (pLd v14 h1) fun v15 =>
  oP (some v15) fun v4 =>
  Wp C 84 k_turnstonelaw30_Line_text_R2 Q (rset (rset (rset (rset (rset ρ 12 v12) 13 v13) 14 v14) 15 v15) 4 v4) h1) := by kernel_rfl
set_option maxRecDepth 100000 in
theorem e_turnstonelaw30_Line_text_R2 (C : Cfg) (Q : X → Rho → Hp → Prop) (ρ : Rho) (h : Hp) : codeR C 84 k_turnstonelaw30_Line_text_R2 Q ρ h = (
  oP (pBuildA 1 [(V.int .i64 0), (V.int .i64 0), (V.int .i64 0), (V.int .i64 0), (V.int .i64 0), (V.int .i64 0), (V.int .i64 0)] [(0, (V.int .i64 1)), (1, (V.int .i64 2)), (2, (V.int .i64 1)), (3, (V.int .i64 2)), (4, (V.int .i64 1)), (5, (V.int .i64 4)), (6, (V.int .i64 1))]) fun v16 =>
  oP (some (ρ 3)) fun v17 =>
  oP (pIdx 7 1 v16 v17) fun v18 =>
  oP (some v18) fun v5 =>
  Wp C 84 k_turnstonelaw30_Line_text_R3 Q (rset (rset (rset (rset ρ 16 v16) 17 v17) 18 v18) 5 v5) h) := by kernel_rfl
set_option maxRecDepth 100000 in
theorem e_turnstonelaw30_Line_text_R3 (C : Cfg) (Q : X → Rho → Hp → Prop) (ρ : Rho) (h : Hp) : codeR C 84 k_turnstonelaw30_Line_text_R3 Q ρ h = (
  oP (some (ρ 3)) fun v19 =>
  oP (hbin .eql 3 v19 (V.int .i64 5)) fun v20 =>
  Wp C 84 k_turnstonelaw30_Line_text_R4 (q_turnstonelaw30_Line_text_0 C Q) (rset (rset ρ 19 v19) 20 v20) h) := by kernel_rfl
set_option maxRecDepth 100000 in
theorem e_turnstonelaw30_Line_text_R5 (C : Cfg) (Q : X → Rho → Hp → Prop) (ρ : Rho) (h : Hp) : codeR C 84 k_turnstonelaw30_Line_text_R5 Q ρ h = (
  oP (pFA 3 (ρ 1)) fun v27 =>
  oP (pLd v27 h) fun v28 =>
  dcP C n_turnstonehand_Pick [v28, (V.int .i64 19)] h fun v29 h1 =>
  oP (hbin .eql 3 v29 (V.int .i64 1)) fun v30 =>
  Wp C 84 k_turnstonelaw30_Line_text_R6 (q_turnstonelaw30_Line_text_1 C Q) (rset (rset (rset (rset ρ 27 v27) 28 v28) 29 v29) 30 v30) h1) := by kernel_rfl
set_option maxRecDepth 100000 in
theorem e_turnstonelaw30_Line_text_R4 (C : Cfg) (Q : X → Rho → Hp → Prop) (ρ : Rho) (h : Hp) : codeR C 84 k_turnstonelaw30_Line_text_R4 Q ρ h = (
  oP (some (ρ 20)) fun c =>
  bP c (
    oP (some (ρ 5)) fun v21 =>
    oP (pFA 3 (ρ 1)) fun v22 =>
    oP (pLd v22 h) fun v23 =>
    dcP C n_turnstonehand_Pick [v23, (V.int .i64 4)] h fun v24 h1 =>
    oP (hbin .mul 3 (V.int .i64 2) v24) fun v25 =>
    oP (hbin .add 3 v21 v25) fun v26 =>
    oP (some v26) fun v5 =>
    Q .normal (rset (rset (rset (rset (rset (rset (rset ρ 21 v21) 22 v22) 23 v23) 24 v24) 25 v25) 26 v26) 5 v5) h1) (
    Q .normal ρ h)) := by kernel_rfl
set_option maxRecDepth 100000 in
theorem e_turnstonelaw30_Line_text_R7 (C : Cfg) (Q : X → Rho → Hp → Prop) (ρ : Rho) (h : Hp) : codeR C 84 k_turnstonelaw30_Line_text_R7 Q ρ h = (
  oP (some (V.int .i64 0)) fun v6 =>
  Wp C 84 k_turnstonelaw30_Line_text_R8 (q_turnstonelaw30_Line_text_2 C Q) (rset ρ 6 v6) h) := by kernel_rfl
set_option maxRecDepth 100000 in
theorem e_turnstonelaw30_Line_text_R6 (C : Cfg) (Q : X → Rho → Hp → Prop) (ρ : Rho) (h : Hp) : codeR C 84 k_turnstonelaw30_Line_text_R6 Q ρ h = (
  oP (some (ρ 30)) fun c =>
  bP c (
    oP (pFA 3 (ρ 1)) fun v31 =>
    oP (pLd v31 h) fun v32 =>
    oP (hbin .quo 3 v32 (V.int .i64 19)) fun v33 =>
    dcP C n_turnstonehand_Pick [v33, (V.int .i64 5)] h fun v34 h1 =>
    oP (some v34) fun v5 =>
    Q .normal (rset (rset (rset (rset (rset ρ 31 v31) 32 v32) 33 v33) 34 v34) 5 v5) h1) (
    Q .normal ρ h)) := by kernel_rfl
set_option maxRecDepth 100000 in
theorem e_turnstonelaw30_Line_text_R9 (C : Cfg) (Q : X → Rho → Hp → Prop) (ρ : Rho) (h : Hp) : codeR C 84 k_turnstonelaw30_Line_text_R9 Q ρ h = (
  oP (some (ρ 4)) fun v83 =>
  oP (some v83) fun v2 =>
  Wp C 84 k_turnstonelaw30_Line_text_R10 Q (rset (rset ρ 83 v83) 2 v2) h) := by kernel_rfl
set_option maxRecDepth 100000 in
theorem e_turnstonelaw30_Line_text_R8 (C : Cfg) (Q : X → Rho → Hp → Prop) (ρ : Rho) (h : Hp) : codeR C 84 k_turnstonelaw30_Line_text_R8 Q ρ h = (
  Wp C 84 (.loop k_turnstonelaw30_Line_text_L0) (q_turnstonelaw30_Line_text_3 C Q) ρ h) := by kernel_rfl
set_option maxRecDepth 100000 in
theorem e_turnstonelaw30_Line_text_R10 (C : Cfg) (Q : X → Rho → Hp → Prop) (ρ : Rho) (h : Hp) : codeR C 84 k_turnstonelaw30_Line_text_R10 Q ρ h = (
  Q .ret ρ h) := by kernel_rfl
set_option maxRecDepth 100000 in
theorem e_turnstonelaw30_Line_text_L0 (C : Cfg) (Q : X → Rho → Hp → Prop) (ρ : Rho) (h : Hp) : codeR C 84 k_turnstonelaw30_Line_text_L0 Q ρ h = (
  oP (some (ρ 6)) fun v35 =>
  oP (some (ρ 5)) fun v36 =>
  oP (hbin .lss 3 v35 v36) fun v37 =>
  Wp C 84 k_turnstonelaw30_Line_text_R11 (q_turnstonelaw30_Line_text_4 C Q) (rset (rset (rset ρ 35 v35) 36 v36) 37 v37) h) := by kernel_rfl
set_option maxRecDepth 100000 in
theorem e_turnstonelaw30_Line_text_R12 (C : Cfg) (Q : X → Rho → Hp → Prop) (ρ : Rho) (h : Hp) : codeR C 84 k_turnstonelaw30_Line_text_R12 Q ρ h = (
  oP (some (V.int .i64 0)) fun v7 =>
  Wp C 84 k_turnstonelaw30_Line_text_R13 (q_turnstonelaw30_Line_text_5 C Q) (rset ρ 7 v7) h) := by kernel_rfl
set_option maxRecDepth 100000 in
theorem e_turnstonelaw30_Line_text_R11 (C : Cfg) (Q : X → Rho → Hp → Prop) (ρ : Rho) (h : Hp) : codeR C 84 k_turnstonelaw30_Line_text_R11 Q ρ h = (
  oP (some (ρ 37)) fun c =>
  bP c (
    Q .normal ρ h) (
    Q (.exit 0) ρ h)) := by kernel_rfl
set_option maxRecDepth 100000 in
theorem e_turnstonelaw30_Line_text_R14 (C : Cfg) (Q : X → Rho → Hp → Prop) (ρ : Rho) (h : Hp) : codeR C 84 k_turnstonelaw30_Line_text_R14 Q ρ h = (
  oP (some (ρ 6)) fun v38 =>
  oP (hbin .add 3 v38 (V.int .i64 1)) fun v39 =>
  oP (some v39) fun v6 =>
  Q .normal (rset (rset (rset ρ 38 v38) 39 v39) 6 v6) h) := by kernel_rfl
set_option maxRecDepth 100000 in
theorem e_turnstonelaw30_Line_text_R13 (C : Cfg) (Q : X → Rho → Hp → Prop) (ρ : Rho) (h : Hp) : codeR C 84 k_turnstonelaw30_Line_text_R13 Q ρ h = (
  oP (pFA 1 (ρ 1)) fun v40 =>
  oP (pLd v40 h) fun v41 =>
  oP (pLen v41) fun v42 =>
  oP (hbin .gtr 3 v42 (V.int .i64 0)) fun v43 =>
  Wp C 84 k_turnstonelaw30_Line_text_R15 (q_turnstonelaw30_Line_text_7 C Q) (rset (rset (rset (rset ρ 40 v40) 41 v41) 42 v42) 43 v43) h) := by kernel_rfl
set_option maxRecDepth 100000 in
theorem e_turnstonelaw30_Line_text_R16 (C : Cfg) (Q : X → Rho → Hp → Prop) (ρ : Rho) (h : Hp) : codeR C 84 k_turnstonelaw30_Line_text_R16 Q ρ h = (
  oP (some (ρ 7)) fun v53 =>
  dcP C n_turnstoneref10_Digits [v53] h fun v54 h1 =>
  oP (some v54) fun v8 =>
  Wp C 84 k_turnstonelaw30_Line_text_R17 Q (rset (rset (rset ρ 53 v53) 54 v54) 8 v8) h1) := by kernel_rfl
set_option maxRecDepth 100000 in
theorem e_turnstonelaw30_Line_text_R15 (C : Cfg) (Q : X → Rho → Hp → Prop) (ρ : Rho) (h : Hp) : codeR C 84 k_turnstonelaw30_Line_text_R15 Q ρ h = (
  oP (some (ρ 43)) fun c =>
  bP c (
    oP (pFA 1 (ρ 1)) fun v44 =>
    oP (pLd v44 h) fun v45 =>
    oP (some (ρ 6)) fun v46 =>
    oP (pFA 1 (ρ 1)) fun v47 =>
    oP (pLd v47 h) fun v48 =>
    oP (pLen v48) fun v49 =>
    oP (hbin .rem 3 v46 v49) fun v50 =>
    oP (pIx 1 v45 v50) fun v51 =>
    oP (pLd v51 h) fun v52 =>
    oP (some v52) fun v7 =>
    ((some v52 = some v7) ∧ 
    ((pLd v51 h = some v52) ∧ 
    ((pIx 1 v45 v50 = some v51) ∧ 
    ((hbin .rem 3 v46 v49 = some v50) ∧ 
    ((pLen v48 = some v49) ∧ 
    ((pLd v47 h = some v48) ∧ 
    ((pFA 1 (ρ 1) = some v47) ∧ 
    ((some (ρ 6) = some v46) ∧ 
    ((pLd v44 h = some v45) ∧ 
    ((pFA 1 (ρ 1) = some v44) ∧ 
    Q .normal (rset (rset (rset (rset (rset (rset (rset (rset (rset (rset ρ 44 v44) 45 v45) 46 v46) 47 v47) 48 v48) 49 v49) 50 v50) 51 v51) 52 v52) 7 v7) h))))))))))) (
    Q .normal ρ h)) := by kernel_rfl
set_option maxRecDepth 100000 in
theorem e_turnstonelaw30_Line_text_R17 (C : Cfg) (Q : X → Rho → Hp → Prop) (ρ : Rho) (h : Hp) : codeR C 84 k_turnstonelaw30_Line_text_R17 Q ρ h = (
  oP (some (ρ 6)) fun v55 =>
  oP (pFA 2 (ρ 1)) fun v56 =>
  oP (pLd v56 h) fun v57 =>
  oP (pLen v57) fun v58 =>
  oP (hbin .lss 3 v55 v58) fun v59 =>
  oP (some v59) fun v60 =>
  oP (pGd true v60) fun b6 =>
  oP (gV b6 (pFA 3 (ρ 1))) fun v61 =>
  oP (pGd true v60) fun b7 =>
  oP (gV b7 (pLd v61 h)) fun v62 =>
  oP (pGd true v60) fun b8 =>
  oP (gC b8 (some (n_turnstonehand_Pick, [v62, (V.int .i64 7)]))) fun x8 => cgP C x8 h fun v63 h1 =>
  oP (pGd true v60) fun b9 =>
  oP (gV b9 (hbin .eql 3 v63 (V.int .i64 2))) fun v64 =>
  oP (pPick v60 v64 (V.bool false)) fun v65 =>
  Wp C 84 k_turnstonelaw30_Line_text_R18 (q_turnstonelaw30_Line_text_8 C Q) (rset (rset (rset (rset (rset (rset (rset (rset (rset (rset (rset ρ 55 v55) 56 v56) 57 v57) 58 v58) 59 v59) 60 v60) 61 v61) 62 v62) 63 v63) 64 v64) 65 v65) h1) := by kernel_rfl
set_option maxRecDepth 100000 in
theorem e_turnstonelaw30_Line_text_R19 (C : Cfg) (Q : X → Rho → Hp → Prop) (ρ : Rho) (h : Hp) : codeR C 84 k_turnstonelaw30_Line_text_R19 Q ρ h = (
  oP (some (ρ 4)) fun v79 =>
  oP (hbin .add 9 v79 (V.str [32])) fun v80 =>
  oP (some (ρ 8)) fun v81 =>
  oP (hbin .add 9 v80 v81) fun v82 =>
  oP (some v82) fun v4 =>
  Q .normal (rset (rset (rset (rset (rset ρ 79 v79) 80 v80) 81 v81) 82 v82) 4 v4) h) := by kernel_rfl
set_option maxRecDepth 100000 in
theorem e_turnstonelaw30_Line_text_R18 (C : Cfg) (Q : X → Rho → Hp → Prop) (ρ : Rho) (h : Hp) : codeR C 84 k_turnstonelaw30_Line_text_R18 Q ρ h = (
  oP (some (ρ 65)) fun c =>
  bP c (
    oP (pFA 2 (ρ 1)) fun v66 =>
    oP (pLd v66 h) fun v67 =>
    oP (some (ρ 6)) fun v68 =>
    oP (pIx 1 v67 v68) fun v69 =>
    oP (pLd v69 h) fun v70 =>
    oP (pFA 2 (ρ 1)) fun v71 =>
    oP (pLd v71 h) fun v72 =>
    oP (some (ρ 6)) fun v73 =>
    oP (pIx 1 v72 v73) fun v74 =>
    oP (pLd v74 h) fun v75 =>
    oP (pLenS v75) fun v76 =>
    oP (hmin false v76 [(V.int .i64 20)]) fun v77 =>
    oP (hsliceS v70 none (some v77)) fun v78 =>
    oP (some v78) fun v8 =>
    ((some v78 = some v8) ∧ 
    ((hsliceS v70 none (some v77) = some v78) ∧ 
    ((hmin false v76 [(V.int .i64 20)] = some v77) ∧ 
    ((pLenS v75 = some v76) ∧ 
    ((pLd v74 h = some v75) ∧ 
    ((pIx 1 v72 v73 = some v74) ∧ 
    ((some (ρ 6) = some v73) ∧ 
    ((pLd v71 h = some v72) ∧ 
    ((pFA 2 (ρ 1) = some v71) ∧ 
    ((pLd v69 h = some v70) ∧ 
    ((pIx 1 v67 v68 = some v69) ∧ 
    ((some (ρ 6) = some v68) ∧ 
    ((pLd v66 h = some v67) ∧ 
    ((pFA 2 (ρ 1) = some v66) ∧ 
    Q .normal (rset (rset (rset (rset (rset (rset (rset (rset (rset (rset (rset (rset (rset (rset ρ 66 v66) 67 v67) 68 v68) 69 v69) 70 v70) 71 v71) 72 v72) 73 v73) 74 v74) 75 v75) 76 v76) 77 v77) 78 v78) 8 v8) h))))))))))))))) (
    Q .normal ρ h)) := by kernel_rfl
theorem f_turnstonelaw30_Line_text {C : Cfg} (hs : C.start = startF) (a0 : V) {h : Hp} {Q : V → Hp → Prop} (hk : C.K n_turnstonelaw30_Line_text [a0] h = none) (H : codeR C 84 k_turnstonelaw30_Line_text (bodyQ [.tmp 2] Q) (argsR [a0]) h) : cP C n_turnstonelaw30_Line_text [a0] h Q :=
  cP.funcN hs (show P0.funcs[12]? = some Tryz.f12 by unfold P0; exact Tryz.func12) (by kernel_rfl) (by kernel_rfl) (by kernel_rfl) hk (Nat.le_of_ble_eq_true rfl) (Wp.code _ H)
def J_turnstonelaw30_Line_text_R5 (C : Cfg) (Q : V → Hp → Prop) (x1 x4 x5 : V) (h : Hp) : Prop := ∀ ρ : Rho, ρ 1 = x1 → ρ 4 = x4 → ρ 5 = x5 → Wp C 84 k_turnstonelaw30_Line_text_R5 (bodyQ [.tmp 2] Q) ρ h
def J_turnstonelaw30_Line_text_R7 (C : Cfg) (Q : V → Hp → Prop) (x1 x4 x5 : V) (h : Hp) : Prop := ∀ ρ : Rho, ρ 1 = x1 → ρ 4 = x4 → ρ 5 = x5 → Wp C 84 k_turnstonelaw30_Line_text_R7 (bodyQ [.tmp 2] Q) ρ h
def J_turnstonelaw30_Line_text_L0 (C : Cfg) (Q : V → Hp → Prop) (x1 x4 x5 x6 : V) (h : Hp) : Prop := ∀ ρ : Rho, ρ 1 = x1 → ρ 4 = x4 → ρ 5 = x5 → ρ 6 = x6 → Wp C 84 (.loop k_turnstonelaw30_Line_text_L0) (q_turnstonelaw30_Line_text_9 C (bodyQ [.tmp 2] Q)) ρ h
def J_turnstonelaw30_Line_text_R16 (C : Cfg) (Q : V → Hp → Prop) (KL0 : V → V → V → V → Hp → Prop) (x1 x4 x5 x6 x7 : V) (h : Hp) : Prop := ∀ ρ : Rho, ρ 1 = x1 → ρ 4 = x4 → ρ 5 = x5 → ρ 6 = x6 → ρ 7 = x7 → Wp C 84 k_turnstonelaw30_Line_text_R16 (q_turnstonelaw30_Line_text_5 C (andThen (fun ρ h => KL0 (ρ 1) (ρ 4) (ρ 5) (ρ 6) h) (q_turnstonelaw30_Line_text_9 C (bodyQ [.tmp 2] Q)))) ρ h
def J_turnstonelaw30_Line_text_R19 (C : Cfg) (Q : V → Hp → Prop) (KL0 : V → V → V → V → Hp → Prop) (x1 x4 x5 x6 x8 : V) (h : Hp) : Prop := ∀ ρ : Rho, ρ 1 = x1 → ρ 4 = x4 → ρ 5 = x5 → ρ 6 = x6 → ρ 8 = x8 → Wp C 84 k_turnstonelaw30_Line_text_R19 (q_turnstonelaw30_Line_text_5 C (andThen (fun ρ h => KL0 (ρ 1) (ρ 4) (ρ 5) (ρ 6) h) (q_turnstonelaw30_Line_text_9 C (bodyQ [.tmp 2] Q)))) ρ h
def B_turnstonelaw30_Line_text_R5 (C : Cfg) (Q : V → Hp → Prop) (x1 x4 x5 : V) (h : Hp) : Prop :=
  oP (pFA 3 x1) fun v27 =>
  oP (pLd v27 h) fun v28 =>
  cP C n_turnstonehand_Pick [v28, (V.int .i64 19)] h fun v29 h1 =>
  oP (hbin .eql 3 v29 (V.int .i64 1)) fun v30 =>
  bP v30 (
  oP (pFA 3 x1) fun v31 =>
  oP (pLd v31 h1) fun v32 =>
  oP (hbin .quo 3 v32 (V.int .i64 19)) fun v33 =>
  cP C n_turnstonehand_Pick [v33, (V.int .i64 5)] h1 fun v34 h2 =>
  J_turnstonelaw30_Line_text_R7 C Q x1 x4 v34 h2) (
  J_turnstonelaw30_Line_text_R7 C Q x1 x4 x5 h1)
set_option maxRecDepth 100000 in
theorem j_turnstonelaw30_Line_text_R5 {C : Cfg} {Q : V → Hp → Prop} {x1 x4 x5 : V} {h : Hp} (H : B_turnstonelaw30_Line_text_R5 C Q x1 x4 x5 h) : J_turnstonelaw30_Line_text_R5 C Q x1 x4 x5 h := by
  intro ρ e1 e4 e5
  subst e1
  subst e4
  subst e5
  unfold B_turnstonelaw30_Line_text_R5 at H
  exact Wp.of (e_turnstonelaw30_Line_text_R5 _ _ _ _) (oM H fun v27 _ H => oM H fun v28 _ H => dcM H fun v29 h1 H => oM H fun v30 _ H => Wp.of (e_turnstonelaw30_Line_text_R6 _ _ _ _) (oSm (bM H (fun H => oM H fun v31 _ H => oM H fun v32 _ H => oM H fun v33 _ H => dcM H fun v34 h2 H => oSm (H _ rfl rfl rfl)) (fun H => H _ rfl rfl rfl))))
def B_turnstonelaw30_Line_text_R7 (C : Cfg) (Q : V → Hp → Prop) (x1 x4 x5 : V) (h : Hp) : Prop :=
  J_turnstonelaw30_Line_text_L0 C Q x1 x4 x5 (V.int .i64 0) h
set_option maxRecDepth 100000 in
theorem j_turnstonelaw30_Line_text_R7 {C : Cfg} {Q : V → Hp → Prop} {x1 x4 x5 : V} {h : Hp} (H : B_turnstonelaw30_Line_text_R7 C Q x1 x4 x5 h) : J_turnstonelaw30_Line_text_R7 C Q x1 x4 x5 h := by
  intro ρ e1 e4 e5
  subst e1
  subst e4
  subst e5
  unfold B_turnstonelaw30_Line_text_R7 at H
  exact Wp.of (e_turnstonelaw30_Line_text_R7 _ _ _ _) (oSm (Wp.of (e_turnstonelaw30_Line_text_R8 _ _ _ _) (H _ rfl rfl rfl rfl)))
def B_turnstonelaw30_Line_text_L0 (C : Cfg) (Q : V → Hp → Prop) (KL0 : V → V → V → V → Hp → Prop) (x1 x4 x5 x6 : V) (h : Hp) : Prop :=
  oP (hbin .lss 3 x6 x5) fun v37 =>
  bP v37 (
  oP (pFA 1 x1) fun v40 =>
  oP (pLd v40 h) fun v41 =>
  oP (pLen v41) fun v42 =>
  oP (hbin .gtr 3 v42 (V.int .i64 0)) fun v43 =>
  bP v43 (
  oP (pFA 1 x1) fun v44 =>
  oP (pLd v44 h) fun v45 =>
  oP (pFA 1 x1) fun v47 =>
  oP (pLd v47 h) fun v48 =>
  oP (pLen v48) fun v49 =>
  oP (hbin .rem 3 x6 v49) fun v50 =>
  oP (pIx 1 v45 v50) fun v51 =>
  oP (pLd v51 h) fun v52 =>
  J_turnstonelaw30_Line_text_R16 C Q KL0 x1 x4 x5 x6 v52 h) (
  J_turnstonelaw30_Line_text_R16 C Q KL0 x1 x4 x5 x6 (V.int .i64 0) h)) (
  Q x4 h)
set_option maxRecDepth 100000 in
theorem l_turnstonelaw30_Line_text_L0 {C : Cfg} {Q : V → Hp → Prop} (I : Nat → V → V → V → V → Hp → Prop) (step : ∀ (k : Nat) (x1 x4 x5 x6 : V) (h : Hp), I k x1 x4 x5 x6 h → B_turnstonelaw30_Line_text_L0 C Q (fun x1 x4 x5 x6 h => ∃ k', k' < k ∧ I k' x1 x4 x5 x6 h) x1 x4 x5 x6 h) {k : Nat} {x1 x4 x5 x6 : V} {h : Hp} (h0 : I k x1 x4 x5 x6 h) : J_turnstonelaw30_Line_text_L0 C Q x1 x4 x5 x6 h := by
  intro ρ e1 e4 e5 e6
  subst e1
  subst e4
  subst e5
  subst e6
  refine Wp.loopI (fun k ρ h => I k (ρ 1) (ρ 4) (ρ 5) (ρ 6) h) (fun k ρ h hi => ?_) h0
  have H := step k (ρ 1) (ρ 4) (ρ 5) (ρ 6) h hi
  unfold B_turnstonelaw30_Line_text_L0 at H
  exact Wp.of (e_turnstonelaw30_Line_text_L0 _ _ _ _) (oSm (oSm (oM H fun v37 _ H => Wp.of (e_turnstonelaw30_Line_text_R11 _ _ _ _) (oSm (bM H (fun H => Wp.of (e_turnstonelaw30_Line_text_R12 _ _ _ _) (oSm (Wp.of (e_turnstonelaw30_Line_text_R13 _ _ _ _) (oM H fun v40 _ H => oM H fun v41 _ H => oM H fun v42 _ H => oM H fun v43 _ H => Wp.of (e_turnstonelaw30_Line_text_R15 _ _ _ _) (oSm (bM H (fun H => oM H fun v44 Ev44 H => oM H fun v45 Ev45 H => oSm (oM H fun v47 Ev47 H => oM H fun v48 Ev48 H => oM H fun v49 Ev49 H => oM H fun v50 Ev50 H => oM H fun v51 Ev51 H => oM H fun v52 Ev52 H => oSm (⟨rfl, ⟨Ev52, ⟨Ev51, ⟨Ev50, ⟨Ev49, ⟨Ev48, ⟨Ev47, ⟨rfl, ⟨Ev45, ⟨Ev44, H _ rfl rfl rfl rfl rfl⟩⟩⟩⟩⟩⟩⟩⟩⟩⟩))) (fun H => H _ rfl rfl rfl rfl rfl))))))) (fun H => Wp.of (e_turnstonelaw30_Line_text_R9 _ _ _ _) (oSm (oSm (Wp.of (e_turnstonelaw30_Line_text_R10 _ _ _ _) (H))))))))))
def B_turnstonelaw30_Line_text_R16 (C : Cfg) (Q : V → Hp → Prop) (KL0 : V → V → V → V → Hp → Prop) (x1 x4 x5 x6 x7 : V) (h : Hp) : Prop :=
  cP C n_turnstoneref10_Digits [x7] h fun v54 h1 =>
  oP (pFA 2 x1) fun v56 =>
  oP (pLd v56 h1) fun v57 =>
  oP (pLen v57) fun v58 =>
  oP (hbin .lss 3 x6 v58) fun v59 =>
  oP (pGd true v59) fun b6 =>
  oP (gV b6 (pFA 3 x1)) fun v61 =>
  oP (pGd true v59) fun b7 =>
  oP (gV b7 (pLd v61 h1)) fun v62 =>
  oP (pGd true v59) fun b8 =>
  oP (gC b8 (some (n_turnstonehand_Pick, [v62, (V.int .i64 7)]))) fun y8 => cgP C y8 h1 fun v63 h2 =>
  oP (pAnd v59 (hbin .eql 3 v63 (V.int .i64 2))) fun v65 =>
  bP v65 (
  oP (pFA 2 x1) fun v66 =>
  oP (pLd v66 h2) fun v67 =>
  oP (pIx 1 v67 x6) fun v69 =>
  oP (pLd v69 h2) fun v70 =>
  oP (pFA 2 x1) fun v71 =>
  oP (pLd v71 h2) fun v72 =>
  oP (pIx 1 v72 x6) fun v74 =>
  oP (pLd v74 h2) fun v75 =>
  oP (pLenS v75) fun v76 =>
  oP (hmin false v76 [(V.int .i64 20)]) fun v77 =>
  oP (hsliceS v70 none (some v77)) fun v78 =>
  J_turnstonelaw30_Line_text_R19 C Q KL0 x1 x4 x5 x6 v78 h2) (
  J_turnstonelaw30_Line_text_R19 C Q KL0 x1 x4 x5 x6 v54 h2)
set_option maxRecDepth 100000 in
theorem j_turnstonelaw30_Line_text_R16 {C : Cfg} {Q : V → Hp → Prop} {KL0 : V → V → V → V → Hp → Prop} {x1 x4 x5 x6 x7 : V} {h : Hp} (H : B_turnstonelaw30_Line_text_R16 C Q KL0 x1 x4 x5 x6 x7 h) : J_turnstonelaw30_Line_text_R16 C Q KL0 x1 x4 x5 x6 x7 h := by
  intro ρ e1 e4 e5 e6 e7
  subst e1
  subst e4
  subst e5
  subst e6
  subst e7
  unfold B_turnstonelaw30_Line_text_R16 at H
  exact Wp.of (e_turnstonelaw30_Line_text_R16 _ _ _ _) (oSm (dcM H fun v54 h1 H => oSm (Wp.of (e_turnstonelaw30_Line_text_R17 _ _ _ _) (oSm (oM H fun v56 _ H => oM H fun v57 _ H => oM H fun v58 _ H => oM H fun v59 _ H => oSm (oM H fun b6 _ H => oM H fun v61 _ H => oM H fun b7 _ H => oM H fun v62 _ H => oM H fun b8 _ H => oM H fun y8 _ H => cgM H fun v63 h2 H => thn (and_open H) fun H => oM H fun b9 Gv64 H => oM H fun v64 Ev64 H => oM H fun v65 Ev65 H => Wp.of (e_turnstonelaw30_Line_text_R18 _ _ _ _) (oSm (bM H (fun H => oM H fun v66 Ev66 H => oM H fun v67 Ev67 H => oSm (oM H fun v69 Ev69 H => oM H fun v70 Ev70 H => oM H fun v71 Ev71 H => oM H fun v72 Ev72 H => oSm (oM H fun v74 Ev74 H => oM H fun v75 Ev75 H => oM H fun v76 Ev76 H => oM H fun v77 Ev77 H => oM H fun v78 Ev78 H => oSm (⟨rfl, ⟨Ev78, ⟨Ev77, ⟨Ev76, ⟨Ev75, ⟨Ev74, ⟨rfl, ⟨Ev72, ⟨Ev71, ⟨Ev70, ⟨Ev69, ⟨rfl, ⟨Ev67, ⟨Ev66, H _ rfl rfl rfl rfl rfl⟩⟩⟩⟩⟩⟩⟩⟩⟩⟩⟩⟩⟩⟩)))) (fun H => H _ rfl rfl rfl rfl rfl)))))))))
def B_turnstonelaw30_Line_text_R19 (C : Cfg) (Q : V → Hp → Prop) (KL0 : V → V → V → V → Hp → Prop) (x1 x4 x5 x6 x8 : V) (h : Hp) : Prop :=
  oP (hbin .add 9 x4 (V.str [32])) fun v80 =>
  oP (hbin .add 9 v80 x8) fun v82 =>
  oP (hbin .add 3 x6 (V.int .i64 1)) fun v39 =>
  KL0 x1 v82 x5 v39 h
set_option maxRecDepth 100000 in
theorem j_turnstonelaw30_Line_text_R19 {C : Cfg} {Q : V → Hp → Prop} {KL0 : V → V → V → V → Hp → Prop} {x1 x4 x5 x6 x8 : V} {h : Hp} (H : B_turnstonelaw30_Line_text_R19 C Q KL0 x1 x4 x5 x6 x8 h) : J_turnstonelaw30_Line_text_R19 C Q KL0 x1 x4 x5 x6 x8 h := by
  intro ρ e1 e4 e5 e6 e8
  subst e1
  subst e4
  subst e5
  subst e6
  subst e8
  unfold B_turnstonelaw30_Line_text_R19 at H
  exact Wp.of (e_turnstonelaw30_Line_text_R19 _ _ _ _) (oSm (oM H fun v80 _ H => oSm (oM H fun v82 _ H => oSm (Wp.of (e_turnstonelaw30_Line_text_R14 _ _ _ _) (oSm (oM H fun v39 _ H => oSm (H)))))))
def B_turnstonelaw30_Line_text (C : Cfg) (Q : V → Hp → Prop) (a0 : V) (h : Hp) : Prop :=
  alP (hbox 36 a0) h fun v1 h1 =>
  oP (pFA 0 v1) fun v9 =>
  oP (pLd v9 h1) fun v10 =>
  cP C n_turnstonehand_Pick [v10, (V.int .i64 7)] h1 fun v11 h2 =>
  cP C n_turnstoneref30_Names [] h2 fun v12 h3 =>
  oP (pIx 1 v12 v11) fun v14 =>
  oP (pLd v14 h3) fun v15 =>
  oP (pBuildA 1 [(V.int .i64 0), (V.int .i64 0), (V.int .i64 0), (V.int .i64 0), (V.int .i64 0), (V.int .i64 0), (V.int .i64 0)] [(0, (V.int .i64 1)), (1, (V.int .i64 2)), (2, (V.int .i64 1)), (3, (V.int .i64 2)), (4, (V.int .i64 1)), (5, (V.int .i64 4)), (6, (V.int .i64 1))]) fun v16 =>
  oP (pIdx 7 1 v16 v11) fun v18 =>
  oP (hbin .eql 3 v11 (V.int .i64 5)) fun v20 =>
  bP v20 (
  oP (pFA 3 v1) fun v22 =>
  oP (pLd v22 h3) fun v23 =>
  cP C n_turnstonehand_Pick [v23, (V.int .i64 4)] h3 fun v24 h4 =>
  oP (hbin .mul 3 (V.int .i64 2) v24) fun v25 =>
  oP (hbin .add 3 v18 v25) fun v26 =>
  J_turnstonelaw30_Line_text_R5 C Q v1 v15 v26 h4) (
  J_turnstonelaw30_Line_text_R5 C Q v1 v15 v18 h3)
set_option maxRecDepth 100000 in
theorem c_turnstonelaw30_Line_text {C : Cfg} (hs : C.start = startF) {a0 : V} {h : Hp} {Q : V → Hp → Prop} (hk : C.K n_turnstonelaw30_Line_text [a0] h = none) (H : B_turnstonelaw30_Line_text C Q a0 h) : cP C n_turnstonelaw30_Line_text [a0] h Q := by
  unfold B_turnstonelaw30_Line_text at H
  exact f_turnstonelaw30_Line_text hs _ hk ((e_turnstonelaw30_Line_text _ _ _ _).mpr (alM H fun v1 h1 H => oSm (Wp.of (e_turnstonelaw30_Line_text_R0 _ _ _ _) (oM H fun v9 _ H => oM H fun v10 _ H => dcM H fun v11 h2 H => oSm (Wp.of (e_turnstonelaw30_Line_text_R1 _ _ _ _) (dcM H fun v12 h3 H => oSm (oM H fun v14 _ H => oM H fun v15 _ H => oSm (Wp.of (e_turnstonelaw30_Line_text_R2 _ _ _ _) (oM H fun v16 _ H => oSm (oM H fun v18 _ H => oSm (Wp.of (e_turnstonelaw30_Line_text_R3 _ _ _ _) (oSm (oM H fun v20 _ H => Wp.of (e_turnstonelaw30_Line_text_R4 _ _ _ _) (oSm (bM H (fun H => oSm (oM H fun v22 _ H => oM H fun v23 _ H => dcM H fun v24 h4 H => oM H fun v25 _ H => oM H fun v26 _ H => oSm (H _ rfl rfl rfl))) (fun H => H _ rfl rfl rfl))))))))))))))))
/-! ### turnstone/turnstonelaw30.ScriptForms -/
noncomputable def k_turnstonelaw30_ScriptForms : Code := bodyOf Tryz.f4
noncomputable def k_turnstonelaw30_ScriptForms_R0 : Code := k_turnstonelaw30_ScriptForms.r
noncomputable def k_turnstonelaw30_ScriptForms_R1 : Code := k_turnstonelaw30_ScriptForms.r.r
noncomputable def k_turnstonelaw30_ScriptForms_R2 : Code := k_turnstonelaw30_ScriptForms.r.r.l.r
noncomputable def k_turnstonelaw30_ScriptForms_R3 : Code := k_turnstonelaw30_ScriptForms.r.r.r
noncomputable def q_turnstonelaw30_ScriptForms_0 (C : Cfg) (Q : X → Rho → Hp → Prop) : X → Rho → Hp → Prop := andThen (Wp C 43 k_turnstonelaw30_ScriptForms_R3 Q) Q
theorem q_turnstonelaw30_ScriptForms_0_normal (C : Cfg) (Q : X → Rho → Hp → Prop) (ρ : Rho) (h : Hp) : q_turnstonelaw30_ScriptForms_0 C Q .normal ρ h = Wp C 43 k_turnstonelaw30_ScriptForms_R3 Q ρ h := rfl
theorem q_turnstonelaw30_ScriptForms_0_ret (C : Cfg) (Q : X → Rho → Hp → Prop) (ρ : Rho) (h : Hp) : q_turnstonelaw30_ScriptForms_0 C Q .ret ρ h = Q .ret ρ h := rfl
noncomputable def k_turnstonelaw30_ScriptForms_R4 : Code := k_turnstonelaw30_ScriptForms.r.r.l.r.l.r
noncomputable def k_turnstonelaw30_ScriptForms_R5 : Code := k_turnstonelaw30_ScriptForms.r.r.r.r
noncomputable def k_turnstonelaw30_ScriptForms_R6 : Code := k_turnstonelaw30_ScriptForms.r.r.r.r.r
set_option maxRecDepth 100000 in
theorem e_turnstonelaw30_ScriptForms (C : Cfg) (Q : X → Rho → Hp → Prop) (ρ : Rho) (h : Hp) : codeR C 43 k_turnstonelaw30_ScriptForms Q ρ h = (
  alP (hbox 36 (ρ 0)) h fun v3 h1 =>
  oP (some (V.bool false)) fun v6 =>
  Wp C 43 k_turnstonelaw30_ScriptForms_R0 Q (rset (rset ρ 3 v3) 6 v6) h1) := by kernel_rfl
set_option maxRecDepth 100000 in
theorem e_turnstonelaw30_ScriptForms_R0 (C : Cfg) (Q : X → Rho → Hp → Prop) (ρ : Rho) (h : Hp) : codeR C 43 k_turnstonelaw30_ScriptForms_R0 Q ρ h = (
  oP (pLdA 4 (ρ 3) h) fun v9 =>
  dcP C n_turnstonelaw30_Line_text [v9] h fun v10 h1 =>
  oP (some v10) fun v7 =>
  Wp C 43 k_turnstonelaw30_ScriptForms_R1 Q (rset (rset (rset ρ 9 v9) 10 v10) 7 v7) h1) := by kernel_rfl
set_option maxRecDepth 100000 in
theorem e_turnstonelaw30_ScriptForms_R1 (C : Cfg) (Q : X → Rho → Hp → Prop) (ρ : Rho) (h : Hp) : codeR C 43 k_turnstonelaw30_ScriptForms_R1 Q ρ h = (
  oP (some (ρ 7)) fun v11 =>
  dcP C n_turnstonelaw30_ScriptParses [v11] h fun v12 h1 =>
  oP (hun .not v12) fun v13 =>
  Wp C 43 k_turnstonelaw30_ScriptForms_R2 (q_turnstonelaw30_ScriptForms_0 C Q) (rset (rset (rset ρ 11 v11) 12 v12) 13 v13) h1) := by kernel_rfl
set_option maxRecDepth 100000 in
theorem e_turnstonelaw30_ScriptForms_R3 (C : Cfg) (Q : X → Rho → Hp → Prop) (ρ : Rho) (h : Hp) : codeR C 43 k_turnstonelaw30_ScriptForms_R3 Q ρ h = (
  oP (some (ρ 1)) fun v14 =>
  oP (some (ρ 7)) fun v15 =>
  oP (pLenS v15) fun v16 =>
  dcP C n_turnstonehand_Pick [v14, v16] h fun v17 h1 =>
  oP (some v17) fun v8 =>
  Wp C 43 k_turnstonelaw30_ScriptForms_R5 Q (rset (rset (rset (rset (rset ρ 14 v14) 15 v15) 16 v16) 17 v17) 8 v8) h1) := by kernel_rfl
set_option maxRecDepth 100000 in
theorem e_turnstonelaw30_ScriptForms_R2 (C : Cfg) (Q : X → Rho → Hp → Prop) (ρ : Rho) (h : Hp) : codeR C 43 k_turnstonelaw30_ScriptForms_R2 Q ρ h = (
  oP (some (ρ 13)) fun c =>
  bP c (
    oP (some (V.bool false)) fun v6 =>
    Wp C 43 k_turnstonelaw30_ScriptForms_R4 Q (rset ρ 6 v6) h) (
    Q .normal ρ h)) := by kernel_rfl
set_option maxRecDepth 100000 in
theorem e_turnstonelaw30_ScriptForms_R5 (C : Cfg) (Q : X → Rho → Hp → Prop) (ρ : Rho) (h : Hp) : codeR C 43 k_turnstonelaw30_ScriptForms_R5 Q ρ h = (
  oP (some (ρ 7)) fun v18 =>
  oP (some (ρ 8)) fun v19 =>
  oP (hsliceS v18 none (some v19)) fun v20 =>
  oP (some (ρ 2)) fun v21 =>
  oP (pConv .u8 v21) fun v22 =>
  alO (pBS 5 1 1 (V.int .u8 0) [(0, v22)]) h fun o5 v23 h1 =>
  oP (pB2S v23 h1) fun v24 =>
  oP (hbin .add 9 v20 v24) fun v25 =>
  oP (some (ρ 7)) fun v26 =>
  oP (some (ρ 8)) fun v27 =>
  oP (hbin .add 3 v27 (V.int .i64 1)) fun v28 =>
  oP (hsliceS v26 (some v28) none) fun v29 =>
  oP (hbin .add 9 v25 v29) fun v30 =>
  ((hbin .add 9 v25 v29 = some v30) ∧ 
  ((hsliceS v26 (some v28) none = some v29) ∧ 
  ((hbin .add 3 v27 (V.int .i64 1) = some v28) ∧ 
  ((some (ρ 8) = some v27) ∧ 
  ((some (ρ 7) = some v26) ∧ 
  ((hbin .add 9 v20 v24 = some v25) ∧ 
  ((pB2S v23 h1 = some v24) ∧ 
  ((h1.get (h.next) = some o5 ∧ O.beq o5 o5 = true) ∧ 
  ((pConv .u8 v21 = some v22) ∧ 
  ((some (ρ 2) = some v21) ∧ 
  ((hsliceS v18 none (some v19) = some v20) ∧ 
  ((some (ρ 8) = some v19) ∧ 
  ((some (ρ 7) = some v18) ∧ 
  dcP C n_turnstonelaw30_ScriptParses [v30] h1 fun v31 h2 =>
  (h1.next ≤ h2.next ∧
  oP (some v31) fun v32 =>
  oP (pGd true v32) fun b15 =>
  oP (gV b15 (some (ρ 7))) fun v33 =>
  oP (pGd true v32) fun b16 =>
  oP (gV b16 (some (ρ 8))) fun v34 =>
  oP (pGd true v32) fun b17 =>
  oP (gV b17 (hsliceS v33 none (some v34))) fun v35 =>
  oP (pGd true v32) fun b18 =>
  oP (gV b18 (some (ρ 7))) fun v36 =>
  oP (pGd true v32) fun b19 =>
  oP (gV b19 (some (ρ 8))) fun v37 =>
  oP (pGd true v32) fun b20 =>
  oP (gV b20 (hbin .add 3 v37 (V.int .i64 1))) fun v38 =>
  oP (pGd true v32) fun b21 =>
  oP (gV b21 (hsliceS v36 (some v38) none)) fun v39 =>
  oP (pGd true v32) fun b22 =>
  oP (gV b22 (hbin .add 9 v35 v39)) fun v40 =>
  ((gT b22 (hbin .add 9 v35 v39 = some v40)) ∧ 
  ((gT b21 (hsliceS v36 (some v38) none = some v39)) ∧ 
  ((gT b20 (hbin .add 3 v37 (V.int .i64 1) = some v38)) ∧ 
  ((gT b19 (some (ρ 8) = some v37)) ∧ 
  ((gT b18 (some (ρ 7) = some v36)) ∧ 
  ((gT b17 (hsliceS v33 none (some v34) = some v35)) ∧ 
  ((gT b16 (some (ρ 8) = some v34)) ∧ 
  ((gT b15 (some (ρ 7) = some v33)) ∧ 
  ((some v31 = some v32) ∧ 
  oP (pGd true v32) fun b23 =>
  oP (gC b23 (some (n_turnstonelaw30_ScriptParses, [v40]))) fun x23 => cgP C x23 h2 fun v41 h3 =>
  (h2.next ≤ h3.next ∧
  oP (pPick v32 v41 (V.bool false)) fun v42 =>
  oP (some v42) fun v6 =>
  ((some v42 = some v6) ∧ 
  ((pPick v32 v41 (V.bool false) = some v42) ∧ 
  Wp C 43 k_turnstonelaw30_ScriptForms_R6 Q (rset (rset (rset (rset (rset (rset (rset (rset (rset (rset (rset (rset (rset (rset (rset (rset (rset (rset (rset (rset (rset (rset (rset (rset (rset (rset ρ 18 v18) 19 v19) 20 v20) 21 v21) 22 v22) 23 v23) 24 v24) 25 v25) 26 v26) 27 v27) 28 v28) 29 v29) 30 v30) 31 v31) 32 v32) 33 v33) 34 v34) 35 v35) 36 v36) 37 v37) 38 v38) 39 v39) 40 v40) 41 v41) 42 v42) 6 v6) h3))))))))))))))))))))))))))) := by kernel_rfl
set_option maxRecDepth 100000 in
theorem e_turnstonelaw30_ScriptForms_R6 (C : Cfg) (Q : X → Rho → Hp → Prop) (ρ : Rho) (h : Hp) : codeR C 43 k_turnstonelaw30_ScriptForms_R6 Q ρ h = (
  Q .ret ρ h) := by kernel_rfl
set_option maxRecDepth 100000 in
theorem e_turnstonelaw30_ScriptForms_R4 (C : Cfg) (Q : X → Rho → Hp → Prop) (ρ : Rho) (h : Hp) : codeR C 43 k_turnstonelaw30_ScriptForms_R4 Q ρ h = (
  Q .ret ρ h) := by kernel_rfl
theorem f_turnstonelaw30_ScriptForms {C : Cfg} (hs : C.start = startF) (a0 a1 a2 : V) {h : Hp} {Q : V → Hp → Prop} (hk : C.K n_turnstonelaw30_ScriptForms [a0, a1, a2] h = none) (H : codeR C 43 k_turnstonelaw30_ScriptForms (bodyQ [.tmp 6] Q) (argsR [a0, a1, a2]) h) : cP C n_turnstonelaw30_ScriptForms [a0, a1, a2] h Q :=
  cP.funcN hs (show P0.funcs[4]? = some Tryz.f4 by unfold P0; exact Tryz.func4) (by kernel_rfl) (by kernel_rfl) (by kernel_rfl) hk (Nat.le_of_ble_eq_true rfl) (Wp.code _ H)
def B_turnstonelaw30_ScriptForms (C : Cfg) (Q : V → Hp → Prop) (a0 a1 a2 : V) (h : Hp) : Prop :=
  alP (hbox 36 a0) h fun v3 h1 =>
  oP (pLdA 4 v3 h1) fun v9 =>
  cP C n_turnstonelaw30_Line_text [v9] h1 fun v10 h2 =>
  cP C n_turnstonelaw30_ScriptParses [v10] h2 fun v12 h3 =>
  oP (hun .not v12) fun v13 =>
  bP v13 (
  Q (V.bool false) h3) (
  oP (pLenS v10) fun v16 =>
  cP C n_turnstonehand_Pick [a1, v16] h3 fun v17 h4 =>
  oP (hsliceS v10 none (some v17)) fun v20 =>
  oP (pConv .u8 a2) fun v22 =>
  alO (pBS 5 1 1 (V.int .u8 0) [(0, v22)]) h4 fun o5 v23 h5 =>
  oP (pB2S v23 h5) fun v24 =>
  oP (hbin .add 9 v20 v24) fun v25 =>
  oP (hbin .add 3 v17 (V.int .i64 1)) fun v28 =>
  oP (hsliceS v10 (some v28) none) fun v29 =>
  oP (hbin .add 9 v25 v29) fun v30 =>
  ((h5.get (h4.next) = some o5 ∧ O.beq o5 o5 = true) ∧ 
  cP C n_turnstonelaw30_ScriptParses [v30] h5 fun v31 h6 =>
  (h5.next ≤ h6.next ∧
  oP (pGd true v31) fun b15 =>
  oP (gV b15 (some v10)) fun v33 =>
  oP (pGd true v31) fun b16 =>
  oP (gV b16 (some v17)) fun v34 =>
  oP (pGd true v31) fun b17 =>
  oP (gV b17 (hsliceS v33 none (some v34))) fun v35 =>
  oP (pGd true v31) fun b18 =>
  oP (gV b18 (some v10)) fun v36 =>
  oP (pGd true v31) fun b19 =>
  oP (gV b19 (some v17)) fun v37 =>
  oP (pGd true v31) fun b20 =>
  oP (gV b20 (hbin .add 3 v37 (V.int .i64 1))) fun v38 =>
  oP (pGd true v31) fun b21 =>
  oP (gV b21 (hsliceS v36 (some v38) none)) fun v39 =>
  oP (pGd true v31) fun b22 =>
  oP (gV b22 (hbin .add 9 v35 v39)) fun v40 =>
  oP (pGd true v31) fun b23 =>
  oP (gC b23 (some (n_turnstonelaw30_ScriptParses, [v40]))) fun y23 => cgP C y23 h6 fun v41 h7 =>
  (h6.next ≤ h7.next ∧
  oP (pPick v31 v41 (V.bool false)) fun v42 =>
  Q v42 h7))))
set_option maxRecDepth 100000 in
theorem c_turnstonelaw30_ScriptForms {C : Cfg} (hs : C.start = startF) {a0 a1 a2 : V} {h : Hp} {Q : V → Hp → Prop} (hk : C.K n_turnstonelaw30_ScriptForms [a0, a1, a2] h = none) (H : B_turnstonelaw30_ScriptForms C Q a0 a1 a2 h) : cP C n_turnstonelaw30_ScriptForms [a0, a1, a2] h Q := by
  unfold B_turnstonelaw30_ScriptForms at H
  exact f_turnstonelaw30_ScriptForms hs _ _ _ hk ((e_turnstonelaw30_ScriptForms _ _ _ _).mpr (alM H fun v3 h1 H => oSm (Wp.of (e_turnstonelaw30_ScriptForms_R0 _ _ _ _) (oM H fun v9 _ H => dcM H fun v10 h2 H => oSm (Wp.of (e_turnstonelaw30_ScriptForms_R1 _ _ _ _) (oSm (dcM H fun v12 h3 H => oM H fun v13 _ H => Wp.of (e_turnstonelaw30_ScriptForms_R2 _ _ _ _) (oSm (bM H (fun H => oSm (Wp.of (e_turnstonelaw30_ScriptForms_R4 _ _ _ _) (H))) (fun H => Wp.of (e_turnstonelaw30_ScriptForms_R3 _ _ _ _) (oSm (oSm (oM H fun v16 _ H => dcM H fun v17 h4 H => oSm (Wp.of (e_turnstonelaw30_ScriptForms_R5 _ _ _ _) (oSm (oSm (oM H fun v20 Ev20 H => oSm (oM H fun v22 Ev22 H => alOM H fun o5 v23 h5 H => oM H fun v24 Ev24 H => oM H fun v25 Ev25 H => oSm (oSm (oM H fun v28 Ev28 H => oM H fun v29 Ev29 H => oM H fun v30 Ev30 H => ⟨Ev30, ⟨Ev29, ⟨Ev28, ⟨rfl, ⟨rfl, ⟨Ev25, ⟨Ev24, anM H fun H => ⟨Ev22, ⟨rfl, ⟨Ev20, ⟨rfl, ⟨rfl, dcM H fun v31 h6 H => anM H fun H => oSm (oM H fun b15 _ H => oM H fun v33 Ev33 H => oM H fun b16 _ H => oM H fun v34 Ev34 H => oM H fun b17 _ H => oM H fun v35 Ev35 H => oM H fun b18 _ H => oM H fun v36 Ev36 H => oM H fun b19 _ H => oM H fun v37 Ev37 H => oM H fun b20 _ H => oM H fun v38 Ev38 H => oM H fun b21 _ H => oM H fun v39 Ev39 H => oM H fun b22 _ H => oM H fun v40 Ev40 H => ⟨(gT_of Ev40), ⟨(gT_of Ev39), ⟨(gT_of Ev38), ⟨(gT_of Ev37), ⟨(gT_of Ev36), ⟨(gT_of Ev35), ⟨(gT_of Ev34), ⟨(gT_of Ev33), ⟨rfl, oM H fun b23 _ H => oM H fun y23 _ H => cgM H fun v41 h7 H => anM H fun H => oM H fun v42 Ev42 H => oSm (⟨rfl, ⟨Ev42, Wp.of (e_turnstonelaw30_ScriptForms_R6 _ _ _ _) (H)⟩⟩)⟩⟩⟩⟩⟩⟩⟩⟩⟩)⟩⟩⟩⟩⟩⟩⟩⟩⟩⟩⟩⟩))))))))))))))))))))
end Go.Proofs.YtdpfhajggknfaaaGreatDoor.Hx
