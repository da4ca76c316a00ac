/- What is left of the code of functions: printed by vc2.py, checked by computation. -/
import Derived.Test.YtdpfhajggknfaaaGreatDoorHxVC
namespace Go.Proofs.YtdpfhajggknfaaaGreatDoor.Hx
/-! ### turnstone/script.Tell -/
noncomputable def k_script_Tell : Code := bodyOf Tryz.f14
noncomputable def k_script_Tell_R0 : Code := k_script_Tell.r
noncomputable def k_script_Tell_R1 : Code := k_script_Tell.r.r
noncomputable def k_script_Tell_R2 : Code := k_script_Tell.r.r.l.r
noncomputable def k_script_Tell_R3 : Code := k_script_Tell.r.r.r
noncomputable def q_script_Tell_0 (C : Cfg) (Q : X → Rho → Hp → Prop) : X → Rho → Hp → Prop := andThen (Wp C 57 k_script_Tell_R3 Q) Q
theorem q_script_Tell_0_normal (C : Cfg) (Q : X → Rho → Hp → Prop) (ρ : Rho) (h : Hp) : q_script_Tell_0 C Q .normal ρ h = Wp C 57 k_script_Tell_R3 Q ρ h := rfl
theorem q_script_Tell_0_ret (C : Cfg) (Q : X → Rho → Hp → Prop) (ρ : Rho) (h : Hp) : q_script_Tell_0 C Q .ret ρ h = Q .ret ρ h := rfl
noncomputable def k_script_Tell_R4 : Code := k_script_Tell.r.r.r.l.r
noncomputable def k_script_Tell_R5 : Code := k_script_Tell.r.r.r.r
noncomputable def q_script_Tell_1 (C : Cfg) (Q : X → Rho → Hp → Prop) : X → Rho → Hp → Prop := andThen (Wp C 57 k_script_Tell_R5 Q) Q
theorem q_script_Tell_1_normal (C : Cfg) (Q : X → Rho → Hp → Prop) (ρ : Rho) (h : Hp) : q_script_Tell_1 C Q .normal ρ h = Wp C 57 k_script_Tell_R5 Q ρ h := rfl
theorem q_script_Tell_1_ret (C : Cfg) (Q : X → Rho → Hp → Prop) (ρ : Rho) (h : Hp) : q_script_Tell_1 C Q .ret ρ h = Q .ret ρ h := rfl
noncomputable def k_script_Tell_R6 : Code := k_script_Tell.r.r.r.r.l.r
noncomputable def k_script_Tell_R7 : Code := k_script_Tell.r.r.r.r.r
noncomputable def q_script_Tell_2 (C : Cfg) (Q : X → Rho → Hp → Prop) : X → Rho → Hp → Prop := andThen (Wp C 57 k_script_Tell_R7 Q) Q
theorem q_script_Tell_2_normal (C : Cfg) (Q : X → Rho → Hp → Prop) (ρ : Rho) (h : Hp) : q_script_Tell_2 C Q .normal ρ h = Wp C 57 k_script_Tell_R7 Q ρ h := rfl
theorem q_script_Tell_2_ret (C : Cfg) (Q : X → Rho → Hp → Prop) (ρ : Rho) (h : Hp) : q_script_Tell_2 C Q .ret ρ h = Q .ret ρ h := rfl
noncomputable def k_script_Tell_R8 : Code := k_script_Tell.r.r.r.r.r.l.r
noncomputable def k_script_Tell_R9 : Code := k_script_Tell.r.r.r.r.r.r
noncomputable def q_script_Tell_3 (C : Cfg) (Q : X → Rho → Hp → Prop) : X → Rho → Hp → Prop := andThen (Wp C 57 k_script_Tell_R9 Q) Q
theorem q_script_Tell_3_normal (C : Cfg) (Q : X → Rho → Hp → Prop) (ρ : Rho) (h : Hp) : q_script_Tell_3 C Q .normal ρ h = Wp C 57 k_script_Tell_R9 Q ρ h := rfl
theorem q_script_Tell_3_ret (C : Cfg) (Q : X → Rho → Hp → Prop) (ρ : Rho) (h : Hp) : q_script_Tell_3 C Q .ret ρ h = Q .ret ρ h := rfl
noncomputable def k_script_Tell_L0 : Code := k_script_Tell.r.r.r.r.r.l.r.l.l
noncomputable def q_script_Tell_4 (C : Cfg) (Q : X → Rho → Hp → Prop) : X → Rho → Hp → Prop := blockQ 0 Q
theorem q_script_Tell_4_normal (C : Cfg) (Q : X → Rho → Hp → Prop) (ρ : Rho) (h : Hp) : q_script_Tell_4 C Q .normal ρ h = Q .normal ρ h := rfl
theorem q_script_Tell_4_ret (C : Cfg) (Q : X → Rho → Hp → Prop) (ρ : Rho) (h : Hp) : q_script_Tell_4 C Q .ret ρ h = Q .ret ρ h := rfl
theorem q_script_Tell_4_exit0 (C : Cfg) (Q : X → Rho → Hp → Prop) (ρ : Rho) (h : Hp) : q_script_Tell_4 C Q (.exit 0) ρ h = Q .normal ρ h := rfl
noncomputable def k_script_Tell_R10 : Code := k_script_Tell.r.r.r.r.r.r.r
noncomputable def k_script_Tell_R11 : Code := k_script_Tell.r.r.r.r.r.l.r.l.l.r
noncomputable def k_script_Tell_R12 : Code := k_script_Tell.r.r.r.r.r.l.r.l.l.r.r
noncomputable def k_script_Tell_R13 : Code := k_script_Tell.r.r.r.r.r.l.r.l.l.r.r.l.l.r
noncomputable def k_script_Tell_R14 : Code := k_script_Tell.r.r.r.r.r.l.r.l.l.r.r.r
noncomputable def q_script_Tell_6 (C : Cfg) (Q : X → Rho → Hp → Prop) : X → Rho → Hp → Prop := andThen (Wp C 57 k_script_Tell_R14 Q) Q
theorem q_script_Tell_6_normal (C : Cfg) (Q : X → Rho → Hp → Prop) (ρ : Rho) (h : Hp) : q_script_Tell_6 C Q .normal ρ h = Wp C 57 k_script_Tell_R14 Q ρ h := rfl
theorem q_script_Tell_6_ret (C : Cfg) (Q : X → Rho → Hp → Prop) (ρ : Rho) (h : Hp) : q_script_Tell_6 C Q .ret ρ h = Q .ret ρ h := rfl
noncomputable def q_script_Tell_5 (C : Cfg) (Q : X → Rho → Hp → Prop) : X → Rho → Hp → Prop := blockQ 1 (q_script_Tell_6 C Q)
theorem q_script_Tell_5_normal (C : Cfg) (Q : X → Rho → Hp → Prop) (ρ : Rho) (h : Hp) : q_script_Tell_5 C Q .normal ρ h = Wp C 57 k_script_Tell_R14 Q ρ h := rfl
theorem q_script_Tell_5_ret (C : Cfg) (Q : X → Rho → Hp → Prop) (ρ : Rho) (h : Hp) : q_script_Tell_5 C Q .ret ρ h = Q .ret ρ h := rfl
theorem q_script_Tell_5_exit1 (C : Cfg) (Q : X → Rho → Hp → Prop) (ρ : Rho) (h : Hp) : q_script_Tell_5 C Q (.exit 1) ρ h = Wp C 57 k_script_Tell_R14 Q ρ h := rfl
noncomputable def q_script_Tell_7 (C : Cfg) (Q : X → Rho → Hp → Prop) : X → Rho → Hp → Prop := blockQ 0 (q_script_Tell_3 C Q)
theorem q_script_Tell_7_normal (C : Cfg) (Q : X → Rho → Hp → Prop) (ρ : Rho) (h : Hp) : q_script_Tell_7 C Q .normal ρ h = Wp C 57 k_script_Tell_R9 Q ρ h := rfl
theorem q_script_Tell_7_ret (C : Cfg) (Q : X → Rho → Hp → Prop) (ρ : Rho) (h : Hp) : q_script_Tell_7 C Q .ret ρ h = Q .ret ρ h := rfl
theorem q_script_Tell_7_exit0 (C : Cfg) (Q : X → Rho → Hp → Prop) (ρ : Rho) (h : Hp) : q_script_Tell_7 C Q (.exit 0) ρ h = Wp C 57 k_script_Tell_R9 Q ρ h := rfl
set_option maxRecDepth 100000 in
theorem e_script_Tell (C : Cfg) (Q : X → Rho → Hp → Prop) (ρ : Rho) (h : Hp) : codeR C 57 k_script_Tell Q ρ h = (
  alP (hbox 43 (ρ 0)) h fun v1 h1 =>
  oP (some (V.str [])) fun v2 =>
  Wp C 57 k_script_Tell_R0 Q (rset (rset ρ 1 v1) 2 v2) h1) := by kernel_rfl
set_option maxRecDepth 100000 in
theorem e_script_Tell_R0 (C : Cfg) (Q : X → Rho → Hp → Prop) (ρ : Rho) (h : Hp) : codeR C 57 k_script_Tell_R0 Q ρ h = (
  oP (some (V.str [111, 107])) fun v3 =>
  Wp C 57 k_script_Tell_R1 Q (rset ρ 3 v3) h) := by kernel_rfl
set_option maxRecDepth 100000 in
theorem e_script_Tell_R1 (C : Cfg) (Q : X → Rho → Hp → Prop) (ρ : Rho) (h : Hp) : codeR C 57 k_script_Tell_R1 Q ρ h = (
  oP (pFA 0 (ρ 1)) fun v6 =>
  oP (pLd v6 h) fun v7 =>
  oP (hbin .neq 27 v7 (V.int .i64 0)) fun v8 =>
  Wp C 57 k_script_Tell_R2 (q_script_Tell_0 C Q) (rset (rset (rset ρ 6 v6) 7 v7) 8 v8) h) := by kernel_rfl
set_option maxRecDepth 100000 in
theorem e_script_Tell_R3 (C : Cfg) (Q : X → Rho → Hp → Prop) (ρ : Rho) (h : Hp) : codeR C 57 k_script_Tell_R3 Q ρ h = (
  oP (pFA 1 (ρ 1)) fun v13 =>
  oP (pLd v13 h) fun v14 =>
  oP (hbin .neq 3 v14 (V.int .i64 0)) fun v15 =>
  Wp C 57 k_script_Tell_R4 (q_script_Tell_1 C Q) (rset (rset (rset ρ 13 v13) 14 v14) 15 v15) h) := by kernel_rfl
set_option maxRecDepth 100000 in
theorem e_script_Tell_R2 (C : Cfg) (Q : X → Rho → Hp → Prop) (ρ : Rho) (h : Hp) : codeR C 57 k_script_Tell_R2 Q ρ h = (
  oP (some (ρ 8)) fun c =>
  bP c (
    oP (pFA 0 (ρ 1)) fun v9 =>
    oP (pLd v9 h) fun v10 =>
    dcP C n_strconv_Itoa [v10] h fun v11 h1 =>
    oP (hbin .add 9 (V.str [101, 114, 114, 111, 114, 32]) v11) fun v12 =>
    oP (some v12) fun v3 =>
    Q .normal (rset (rset (rset (rset (rset ρ 9 v9) 10 v10) 11 v11) 12 v12) 3 v3) h1) (
    Q .normal ρ h)) := by kernel_rfl
set_option maxRecDepth 100000 in
theorem e_script_Tell_R5 (C : Cfg) (Q : X → Rho → Hp → Prop) (ρ : Rho) (h : Hp) : codeR C 57 k_script_Tell_R5 Q ρ h = (
  oP (pFA 2 (ρ 1)) fun v22 =>
  oP (pLd v22 h) fun v23 =>
  oP (hbin .neq 3 v23 (V.int .i64 0)) fun v24 =>
  Wp C 57 k_script_Tell_R6 (q_script_Tell_2 C Q) (rset (rset (rset ρ 22 v22) 23 v23) 24 v24) h) := by kernel_rfl
set_option maxRecDepth 100000 in
theorem e_script_Tell_R4 (C : Cfg) (Q : X → Rho → Hp → Prop) (ρ : Rho) (h : Hp) : codeR C 57 k_script_Tell_R4 Q ρ h = (
  oP (some (ρ 15)) fun c =>
  bP c (
    oP (some (ρ 3)) fun v16 =>
    oP (pFA 1 (ρ 1)) fun v17 =>
    oP (pLd v17 h) fun v18 =>
    dcP C n_strconv_Itoa [v18] h fun v19 h1 =>
    oP (hbin .add 9 (V.str [32, 115, 116, 101, 112, 115, 32]) v19) fun v20 =>
    oP (hbin .add 9 v16 v20) fun v21 =>
    oP (some v21) fun v3 =>
    Q .normal (rset (rset (rset (rset (rset (rset (rset ρ 16 v16) 17 v17) 18 v18) 19 v19) 20 v20) 21 v21) 3 v3) h1) (
    Q .normal ρ h)) := by kernel_rfl
set_option maxRecDepth 100000 in
theorem e_script_Tell_R7 (C : Cfg) (Q : X → Rho → Hp → Prop) (ρ : Rho) (h : Hp) : codeR C 57 k_script_Tell_R7 Q ρ h = (
  oP (pFA 5 (ρ 1)) fun v31 =>
  oP (pLd v31 h) fun v32 =>
  oP (pLen v32) fun v33 =>
  oP (some (V.int .i64 0)) fun v34 =>
  Wp C 57 k_script_Tell_R8 (q_script_Tell_3 C Q) (rset (rset (rset (rset ρ 31 v31) 32 v32) 33 v33) 34 v34) h) := by kernel_rfl
set_option maxRecDepth 100000 in
theorem e_script_Tell_R6 (C : Cfg) (Q : X → Rho → Hp → Prop) (ρ : Rho) (h : Hp) : codeR C 57 k_script_Tell_R6 Q ρ h = (
  oP (some (ρ 24)) fun c =>
  bP c (
    oP (some (ρ 3)) fun v25 =>
    oP (pFA 2 (ρ 1)) fun v26 =>
    oP (pLd v26 h) fun v27 =>
    dcP C n_strconv_Itoa [v27] h fun v28 h1 =>
    oP (hbin .add 9 (V.str [32, 108, 101, 102, 116, 32]) v28) fun v29 =>
    oP (hbin .add 9 v25 v29) fun v30 =>
    oP (some v30) fun v3 =>
    Q .normal (rset (rset (rset (rset (rset (rset (rset ρ 25 v25) 26 v26) 27 v27) 28 v28) 29 v29) 30 v30) 3 v3) h1) (
    Q .normal ρ h)) := by kernel_rfl
set_option maxRecDepth 100000 in
theorem e_script_Tell_R9 (C : Cfg) (Q : X → Rho → Hp → Prop) (ρ : Rho) (h : Hp) : codeR C 57 k_script_Tell_R9 Q ρ h = (
  oP (some (ρ 3)) fun v50 =>
  oP (pFA 3 (ρ 1)) fun v51 =>
  oP (pLd v51 h) fun v52 =>
  oP (pFA 4 (ρ 1)) fun v53 =>
  oP (pLd v53 h) fun v54 =>
  dcP C n_script_ended [v52, v54, (V.str [32])] h fun v55 h1 =>
  oP (hbin .add 9 v50 v55) fun v56 =>
  oP (some v56) fun v2 =>
  Wp C 57 k_script_Tell_R10 Q (rset (rset (rset (rset (rset (rset (rset (rset ρ 50 v50) 51 v51) 52 v52) 53 v53) 54 v54) 55 v55) 56 v56) 2 v2) h1) := by kernel_rfl
set_option maxRecDepth 100000 in
theorem e_script_Tell_R8 (C : Cfg) (Q : X → Rho → Hp → Prop) (ρ : Rho) (h : Hp) : codeR C 57 k_script_Tell_R8 Q ρ h = (
  Wp C 57 (.loop k_script_Tell_L0) (q_script_Tell_4 C Q) ρ h) := by kernel_rfl
set_option maxRecDepth 100000 in
theorem e_script_Tell_R10 (C : Cfg) (Q : X → Rho → Hp → Prop) (ρ : Rho) (h : Hp) : codeR C 57 k_script_Tell_R10 Q ρ h = (
  Q .ret ρ h) := by kernel_rfl
set_option maxRecDepth 100000 in
theorem e_script_Tell_L0 (C : Cfg) (Q : X → Rho → Hp → Prop) (ρ : Rho) (h : Hp) : codeR C 57 k_script_Tell_L0 Q ρ h = (
  oP (hbin .lss 3 (ρ 34) (ρ 33)) fun v35 =>
  Wp C 57 k_script_Tell_R11 Q (rset ρ 35 v35) h) := by kernel_rfl
set_option maxRecDepth 100000 in
theorem e_script_Tell_R11 (C : Cfg) (Q : X → Rho → Hp → Prop) (ρ : Rho) (h : Hp) : codeR C 57 k_script_Tell_R11 Q ρ h = (
  oP (some (ρ 35)) fun c =>
  bP c (
    Wp C 57 k_script_Tell_R12 Q ρ h) (
    Q (.exit 0) ρ h)) := by kernel_rfl
set_option maxRecDepth 100000 in
theorem e_script_Tell_R12 (C : Cfg) (Q : X → Rho → Hp → Prop) (ρ : Rho) (h : Hp) : codeR C 57 k_script_Tell_R12 Q ρ h = (
  oP (pIx 2 (ρ 32) (ρ 34)) fun v36 =>
  oP (pLdA 2 v36 h) fun v37 =>
  alP (some (.cells 74 1 true false [(V.int .i64 0), (V.int .i64 0)], fun l => .ptr l 0)) h fun v5 h1 =>
  valP (pSt 2 v5 v37 h1) fun vu h2 =>
  Wp C 57 k_script_Tell_R13 (q_script_Tell_5 C Q) (rset (rset (rset ρ 36 v36) 37 v37) 5 v5) h2) := by kernel_rfl
set_option maxRecDepth 100000 in
theorem e_script_Tell_R14 (C : Cfg) (Q : X → Rho → Hp → Prop) (ρ : Rho) (h : Hp) : codeR C 57 k_script_Tell_R14 Q ρ h = (
  oP (hbin .add 3 (ρ 34) (V.int .i64 1)) fun v49 =>
  oP (some v49) fun v34 =>
  Q .normal (rset (rset ρ 49 v49) 34 v34) h) := by kernel_rfl
set_option maxRecDepth 100000 in
theorem e_script_Tell_R13 (C : Cfg) (Q : X → Rho → Hp → Prop) (ρ : Rho) (h : Hp) : codeR C 57 k_script_Tell_R13 Q ρ h = (
  oP (some (ρ 3)) fun v38 =>
  oP (pFA 0 (ρ 5)) fun v39 =>
  oP (pLd v39 h) fun v40 =>
  oP (pFA 1 (ρ 5)) fun v44 =>
  oP (pLd v44 h) fun v45 =>
  ((pLd v44 h = some v45) ∧ 
  ((pFA 1 (ρ 5) = some v44) ∧ 
  ((pLd v39 h = some v40) ∧ 
  ((pFA 0 (ρ 5) = some v39) ∧ 
  ((some (ρ 3) = some v38) ∧ 
  dcP C n_strconv_Itoa [v40] h fun v41 h1 =>
  (h.next ≤ h1.next ∧
  oP (hbin .add 9 (V.str [32, 107, 101, 121, 32]) v41) fun v42 =>
  oP (hbin .add 9 v42 (V.str [32])) fun v43 =>
  ((hbin .add 9 v42 (V.str [32]) = some v43) ∧ 
  ((hbin .add 9 (V.str [32, 107, 101, 121, 32]) v41 = some v42) ∧ 
  ((pLd v44 h1 = some v45) ∧ 
  ((pFA 1 (ρ 5) = some v44) ∧ 
  ((some (ρ 3) = some v38) ∧ 
  dcP C n_strconv_Itoa [v45] h1 fun v46 h2 =>
  (h1.next ≤ h2.next ∧
  oP (hbin .add 9 v43 v46) fun v47 =>
  oP (hbin .add 9 v38 v47) fun v48 =>
  oP (some v48) fun v3 =>
  ((some v48 = some v3) ∧ 
  ((hbin .add 9 v38 v47 = some v48) ∧ 
  ((hbin .add 9 v43 v46 = some v47) ∧ 
  ((hbin .add 9 v42 (V.str [32]) = some v43) ∧ 
  ((hbin .add 9 (V.str [32, 107, 101, 121, 32]) v41 = some v42) ∧ 
  ((some (ρ 3) = some v38) ∧ 
  Q .normal (rset (rset (rset (rset (rset (rset (rset (rset (rset (rset (rset (rset ρ 38 v38) 39 v39) 40 v40) 44 v44) 45 v45) 41 v41) 42 v42) 43 v43) 46 v46) 47 v47) 48 v48) 3 v3) h2))))))))))))))))))) := by kernel_rfl
theorem f_script_Tell {C : Cfg} (hs : C.start = startF) (a0 : V) {h : Hp} {Q : V → Hp → Prop} (hk : C.K n_script_Tell [a0] h = none) (H : codeR C 57 k_script_Tell (bodyQ [.tmp 2] Q) (argsR [a0]) h) : cP C n_script_Tell [a0] h Q :=
  cP.funcN hs (show P0.funcs[14]? = some Tryz.f14 by unfold P0; exact Tryz.func14) (by kernel_rfl) (by kernel_rfl) (by kernel_rfl) hk (Nat.le_of_ble_eq_true rfl) (Wp.code _ H)
def J_script_Tell_R3 (C : Cfg) (Q : V → Hp → Prop) (x1 x3 : V) (h : Hp) : Prop := ∀ ρ : Rho, ρ 1 = x1 → ρ 3 = x3 → Wp C 57 k_script_Tell_R3 (bodyQ [.tmp 2] Q) ρ h
def J_script_Tell_R5 (C : Cfg) (Q : V → Hp → Prop) (x1 x3 : V) (h : Hp) : Prop := ∀ ρ : Rho, ρ 1 = x1 → ρ 3 = x3 → Wp C 57 k_script_Tell_R5 (bodyQ [.tmp 2] Q) ρ h
def J_script_Tell_R7 (C : Cfg) (Q : V → Hp → Prop) (x1 x3 : V) (h : Hp) : Prop := ∀ ρ : Rho, ρ 1 = x1 → ρ 3 = x3 → Wp C 57 k_script_Tell_R7 (bodyQ [.tmp 2] Q) ρ h
def J_script_Tell_L0 (C : Cfg) (Q : V → Hp → Prop) (x1 x3 x32 x33 x34 : V) (h : Hp) : Prop := ∀ ρ : Rho, ρ 1 = x1 → ρ 3 = x3 → ρ 32 = x32 → ρ 33 = x33 → ρ 34 = x34 → Wp C 57 (.loop k_script_Tell_L0) (q_script_Tell_7 C (bodyQ [.tmp 2] Q)) ρ h
def B_script_Tell_R3 (C : Cfg) (Q : V → Hp → Prop) (x1 x3 : V) (h : Hp) : Prop :=
  oP (pFA 1 x1) fun v13 =>
  oP (pLd v13 h) fun v14 =>
  oP (hbin .neq 3 v14 (V.int .i64 0)) fun v15 =>
  bP v15 (
  oP (pFA 1 x1) fun v17 =>
  oP (pLd v17 h) fun v18 =>
  cP C n_strconv_Itoa [v18] h fun v19 h1 =>
  oP (hbin .add 9 (V.str [32, 115, 116, 101, 112, 115, 32]) v19) fun v20 =>
  oP (hbin .add 9 x3 v20) fun v21 =>
  J_script_Tell_R5 C Q x1 v21 h1) (
  J_script_Tell_R5 C Q x1 x3 h)
set_option maxRecDepth 100000 in
theorem j_script_Tell_R3 {C : Cfg} {Q : V → Hp → Prop} {x1 x3 : V} {h : Hp} (H : B_script_Tell_R3 C Q x1 x3 h) : J_script_Tell_R3 C Q x1 x3 h := by
  intro ρ e1 e3
  subst e1
  subst e3
  unfold B_script_Tell_R3 at H
  exact Wp.of (e_script_Tell_R3 _ _ _ _) (oM H fun v13 _ H => oM H fun v14 _ H => oM H fun v15 _ H => Wp.of (e_script_Tell_R4 _ _ _ _) (oSm (bM H (fun H => oSm (oM H fun v17 _ H => oM H fun v18 _ H => dcM H fun v19 h1 H => oM H fun v20 _ H => oM H fun v21 _ H => oSm (H _ rfl rfl))) (fun H => H _ rfl rfl))))
def B_script_Tell_R5 (C : Cfg) (Q : V → Hp → Prop) (x1 x3 : V) (h : Hp) : Prop :=
  oP (pFA 2 x1) fun v22 =>
  oP (pLd v22 h) fun v23 =>
  oP (hbin .neq 3 v23 (V.int .i64 0)) fun v24 =>
  bP v24 (
  oP (pFA 2 x1) fun v26 =>
  oP (pLd v26 h) fun v27 =>
  cP C n_strconv_Itoa [v27] h fun v28 h1 =>
  oP (hbin .add 9 (V.str [32, 108, 101, 102, 116, 32]) v28) fun v29 =>
  oP (hbin .add 9 x3 v29) fun v30 =>
  J_script_Tell_R7 C Q x1 v30 h1) (
  J_script_Tell_R7 C Q x1 x3 h)
set_option maxRecDepth 100000 in
theorem j_script_Tell_R5 {C : Cfg} {Q : V → Hp → Prop} {x1 x3 : V} {h : Hp} (H : B_script_Tell_R5 C Q x1 x3 h) : J_script_Tell_R5 C Q x1 x3 h := by
  intro ρ e1 e3
  subst e1
  subst e3
  unfold B_script_Tell_R5 at H
  exact Wp.of (e_script_Tell_R5 _ _ _ _) (oM H fun v22 _ H => oM H fun v23 _ H => oM H fun v24 _ H => Wp.of (e_script_Tell_R6 _ _ _ _) (oSm (bM H (fun H => oSm (oM H fun v26 _ H => oM H fun v27 _ H => dcM H fun v28 h1 H => oM H fun v29 _ H => oM H fun v30 _ H => oSm (H _ rfl rfl))) (fun H => H _ rfl rfl))))
def B_script_Tell_R7 (C : Cfg) (Q : V → Hp → Prop) (x1 x3 : V) (h : Hp) : Prop :=
  oP (pFA 5 x1) fun v31 =>
  oP (pLd v31 h) fun v32 =>
  oP (pLen v32) fun v33 =>
  J_script_Tell_L0 C Q x1 x3 v32 v33 (V.int .i64 0) h
set_option maxRecDepth 100000 in
theorem j_script_Tell_R7 {C : Cfg} {Q : V → Hp → Prop} {x1 x3 : V} {h : Hp} (H : B_script_Tell_R7 C Q x1 x3 h) : J_script_Tell_R7 C Q x1 x3 h := by
  intro ρ e1 e3
  subst e1
  subst e3
  unfold B_script_Tell_R7 at H
  exact Wp.of (e_script_Tell_R7 _ _ _ _) (oM H fun v31 _ H => oM H fun v32 _ H => oM H fun v33 _ H => oSm (Wp.of (e_script_Tell_R8 _ _ _ _) (H _ rfl rfl rfl rfl rfl)))
def B_script_Tell_L0 (C : Cfg) (Q : V → Hp → Prop) (KL0 : V → V → V → V → V → Hp → Prop) (x1 x3 x32 x33 x34 : V) (h : Hp) : Prop :=
  oP (hbin .lss 3 x34 x33) fun v35 =>
  bP v35 (
  oP (pIx 2 x32 x34) fun v36 =>
  oP (pLdA 2 v36 h) fun v37 =>
  alP (some (.cells 74 1 true false [(V.int .i64 0), (V.int .i64 0)], fun l => .ptr l 0)) h fun v5 h1 =>
  valP (pSt 2 v5 v37 h1) fun vu h2 =>
  oP (pFA 0 v5) fun v39 =>
  oP (pLd v39 h2) fun v40 =>
  oP (pFA 1 v5) fun v44 =>
  oP (pLd v44 h2) fun v45 =>
  cP C n_strconv_Itoa [v40] h2 fun v41 h3 =>
  (h2.next ≤ h3.next ∧
  oP (hbin .add 9 (V.str [32, 107, 101, 121, 32]) v41) fun v42 =>
  oP (hbin .add 9 v42 (V.str [32])) fun v43 =>
  ((pLd v44 h3 = some v45) ∧ 
  cP C n_strconv_Itoa [v45] h3 fun v46 h4 =>
  (h3.next ≤ h4.next ∧
  oP (hbin .add 9 v43 v46) fun v47 =>
  oP (hbin .add 9 x3 v47) fun v48 =>
  oP (hbin .add 3 x34 (V.int .i64 1)) fun v49 =>
  KL0 x1 v48 x32 x33 v49 h4)))) (
  oP (pFA 3 x1) fun v51 =>
  oP (pLd v51 h) fun v52 =>
  oP (pFA 4 x1) fun v53 =>
  oP (pLd v53 h) fun v54 =>
  cP C n_script_ended [v52, v54, (V.str [32])] h fun v55 h5 =>
  oP (hbin .add 9 x3 v55) fun v56 =>
  Q v56 h5)
set_option maxRecDepth 100000 in
theorem l_script_Tell_L0 {C : Cfg} {Q : V → Hp → Prop} (I : Nat → V → V → V → V → V → Hp → Prop) (step : ∀ (k : Nat) (x1 x3 x32 x33 x34 : V) (h : Hp), I k x1 x3 x32 x33 x34 h → B_script_Tell_L0 C Q (fun x1 x3 x32 x33 x34 h => ∃ k', k' < k ∧ I k' x1 x3 x32 x33 x34 h) x1 x3 x32 x33 x34 h) {k : Nat} {x1 x3 x32 x33 x34 : V} {h : Hp} (h0 : I k x1 x3 x32 x33 x34 h) : J_script_Tell_L0 C Q x1 x3 x32 x33 x34 h := by
  intro ρ e1 e3 e32 e33 e34
  subst e1
  subst e3
  subst e32
  subst e33
  subst e34
  refine Wp.loopI (fun k ρ h => I k (ρ 1) (ρ 3) (ρ 32) (ρ 33) (ρ 34) h) (fun k ρ h hi => ?_) h0
  have H := step k (ρ 1) (ρ 3) (ρ 32) (ρ 33) (ρ 34) h hi
  unfold B_script_Tell_L0 at H
  exact Wp.of (e_script_Tell_L0 _ _ _ _) (oM H fun v35 _ H => Wp.of (e_script_Tell_R11 _ _ _ _) (oSm (bM H (fun H => Wp.of (e_script_Tell_R12 _ _ _ _) (oM H fun v36 _ H => oM H fun v37 _ H => alM H fun v5 h1 H => valM H fun vu h2 H => Wp.of (e_script_Tell_R13 _ _ _ _) (oSm (oM H fun v39 Ev39 H => oM H fun v40 Ev40 H => oM H fun v44 Ev44 H => oM H fun v45 Ev45 H => ⟨Ev45, ⟨Ev44, ⟨Ev40, ⟨Ev39, ⟨rfl, dcM H fun v41 h3 H => anM H fun H => oM H fun v42 Ev42 H => oM H fun v43 Ev43 H => ⟨Ev43, ⟨Ev42, anM H fun H => ⟨Ev44, ⟨rfl, dcM H fun v46 h4 H => anM H fun H => oM H fun v47 Ev47 H => oM H fun v48 Ev48 H => oSm (⟨rfl, ⟨Ev48, ⟨Ev47, ⟨Ev43, ⟨Ev42, ⟨rfl, Wp.of (e_script_Tell_R14 _ _ _ _) (oM H fun v49 _ H => oSm (H))⟩⟩⟩⟩⟩⟩)⟩⟩⟩⟩⟩⟩⟩⟩⟩)))) (fun H => Wp.of (e_script_Tell_R9 _ _ _ _) (oSm (oM H fun v51 _ H => oM H fun v52 _ H => oM H fun v53 _ H => oM H fun v54 _ H => dcM H fun v55 h5 H => oM H fun v56 _ H => oSm (Wp.of (e_script_Tell_R10 _ _ _ _) (H))))))))
def B_script_Tell (C : Cfg) (Q : V → Hp → Prop) (a0 : V) (h : Hp) : Prop :=
  alP (hbox 43 a0) h fun v1 h1 =>
  oP (pFA 0 v1) fun v6 =>
  oP (pLd v6 h1) fun v7 =>
  oP (hbin .neq 27 v7 (V.int .i64 0)) fun v8 =>
  bP v8 (
  oP (pFA 0 v1) fun v9 =>
  oP (pLd v9 h1) fun v10 =>
  cP C n_strconv_Itoa [v10] h1 fun v11 h2 =>
  oP (hbin .add 9 (V.str [101, 114, 114, 111, 114, 32]) v11) fun v12 =>
  J_script_Tell_R3 C Q v1 v12 h2) (
  J_script_Tell_R3 C Q v1 (V.str [111, 107]) h1)
set_option maxRecDepth 100000 in
theorem c_script_Tell {C : Cfg} (hs : C.start = startF) {a0 : V} {h : Hp} {Q : V → Hp → Prop} (hk : C.K n_script_Tell [a0] h = none) (H : B_script_Tell C Q a0 h) : cP C n_script_Tell [a0] h Q := by
  unfold B_script_Tell at H
  exact f_script_Tell hs _ hk ((e_script_Tell _ _ _ _).mpr (alM H fun v1 h1 H => oSm (Wp.of (e_script_Tell_R0 _ _ _ _) (oSm (Wp.of (e_script_Tell_R1 _ _ _ _) (oM H fun v6 _ H => oM H fun v7 _ H => oM H fun v8 _ H => Wp.of (e_script_Tell_R2 _ _ _ _) (oSm (bM H (fun H => oM H fun v9 _ H => oM H fun v10 _ H => dcM H fun v11 h2 H => oM H fun v12 _ H => oSm (H _ rfl rfl)) (fun H => H _ rfl rfl)))))))))
/-! ### turnstone/script.ended -/
noncomputable def k_script_ended : Code := bodyOf Tryz.f32
noncomputable def k_script_ended_R0 : Code := k_script_ended.r
noncomputable def k_script_ended_R1 : Code := k_script_ended.r.l.r
noncomputable def k_script_ended_R2 : Code := k_script_ended.r.r
noncomputable def q_script_ended_0 (C : Cfg) (Q : X → Rho → Hp → Prop) : X → Rho → Hp → Prop := andThen (Wp C 19 k_script_ended_R2 Q) Q
theorem q_script_ended_0_normal (C : Cfg) (Q : X → Rho → Hp → Prop) (ρ : Rho) (h : Hp) : q_script_ended_0 C Q .normal ρ h = Wp C 19 k_script_ended_R2 Q ρ h := rfl
theorem q_script_ended_0_ret (C : Cfg) (Q : X → Rho → Hp → Prop) (ρ : Rho) (h : Hp) : q_script_ended_0 C Q .ret ρ h = Q .ret ρ h := rfl
noncomputable def k_script_ended_R3 : Code := k_script_ended.r.l.r.l.r
noncomputable def q_script_ended_1 (C : Cfg) (Q : X → Rho → Hp → Prop) : X → Rho → Hp → Prop := blockQ 0 Q
theorem q_script_ended_1_normal (C : Cfg) (Q : X → Rho → Hp → Prop) (ρ : Rho) (h : Hp) : q_script_ended_1 C Q .normal ρ h = Q .normal ρ h := rfl
theorem q_script_ended_1_ret (C : Cfg) (Q : X → Rho → Hp → Prop) (ρ : Rho) (h : Hp) : q_script_ended_1 C Q .ret ρ h = Q .ret ρ h := rfl
theorem q_script_ended_1_exit0 (C : Cfg) (Q : X → Rho → Hp → Prop) (ρ : Rho) (h : Hp) : q_script_ended_1 C Q (.exit 0) ρ h = Q .normal ρ h := rfl
noncomputable def k_script_ended_R4 : Code := k_script_ended.r.r.r
noncomputable def k_script_ended_R5 : Code := k_script_ended.r.l.r.l.r.l.r
noncomputable def k_script_ended_R6 : Code := k_script_ended.r.l.r.l.r.r.r
noncomputable def k_script_ended_R7 : Code := k_script_ended.r.l.r.l.r.r.r.l.r
set_option maxRecDepth 100000 in
theorem e_script_ended (C : Cfg) (Q : X → Rho → Hp → Prop) (ρ : Rho) (h : Hp) : codeR C 19 k_script_ended Q ρ h = (
  oP (some (V.str [])) fun v6 =>
  Wp C 19 k_script_ended_R0 Q (rset ρ 6 v6) h) := by kernel_rfl
set_option maxRecDepth 100000 in
theorem e_script_ended_R0 (C : Cfg) (Q : X → Rho → Hp → Prop) (ρ : Rho) (h : Hp) : codeR C 19 k_script_ended_R0 Q ρ h = (
  oP (some (ρ 0)) fun v7 =>
  Wp C 19 k_script_ended_R1 (q_script_ended_0 C Q) (rset ρ 7 v7) h) := by kernel_rfl
set_option maxRecDepth 100000 in
theorem e_script_ended_R2 (C : Cfg) (Q : X → Rho → Hp → Prop) (ρ : Rho) (h : Hp) : codeR C 19 k_script_ended_R2 Q ρ h = (
  oP (some (V.str [])) fun v6 =>
  Wp C 19 k_script_ended_R4 Q (rset ρ 6 v6) h) := by kernel_rfl
set_option maxRecDepth 100000 in
theorem e_script_ended_R1 (C : Cfg) (Q : X → Rho → Hp → Prop) (ρ : Rho) (h : Hp) : codeR C 19 k_script_ended_R1 Q ρ h = (
  oP (hbin .eql 3 (ρ 7) (V.int .i64 1)) fun v9 =>
  oP (some v9) fun v8 =>
  Wp C 19 k_script_ended_R3 (q_script_ended_1 C Q) (rset (rset ρ 9 v9) 8 v8) h) := by kernel_rfl
set_option maxRecDepth 100000 in
theorem e_script_ended_R4 (C : Cfg) (Q : X → Rho → Hp → Prop) (ρ : Rho) (h : Hp) : codeR C 19 k_script_ended_R4 Q ρ h = (
  Q .ret ρ h) := by kernel_rfl
set_option maxRecDepth 100000 in
theorem e_script_ended_R3 (C : Cfg) (Q : X → Rho → Hp → Prop) (ρ : Rho) (h : Hp) : codeR C 19 k_script_ended_R3 Q ρ h = (
  oP (some (ρ 8)) fun c =>
  bP c (
    oP (some (ρ 2)) fun v10 =>
    oP (hbin .add 9 v10 (V.str [100, 111, 110, 101])) fun v11 =>
    oP (some v11) fun v6 =>
    Wp C 19 k_script_ended_R5 Q (rset (rset (rset ρ 10 v10) 11 v11) 6 v6) h) (
    oP (hbin .eql 3 (ρ 7) (V.int .i64 2)) fun v13 =>
    oP (some v13) fun v12 =>
    Wp C 19 k_script_ended_R6 Q (rset (rset ρ 13 v13) 12 v12) h)) := by kernel_rfl
set_option maxRecDepth 100000 in
theorem e_script_ended_R5 (C : Cfg) (Q : X → Rho → Hp → Prop) (ρ : Rho) (h : Hp) : codeR C 19 k_script_ended_R5 Q ρ h = (
  Q .ret ρ h) := by kernel_rfl
set_option maxRecDepth 100000 in
theorem e_script_ended_R6 (C : Cfg) (Q : X → Rho → Hp → Prop) (ρ : Rho) (h : Hp) : codeR C 19 k_script_ended_R6 Q ρ h = (
  oP (some (ρ 12)) fun c =>
  bP c (
    oP (some (ρ 2)) fun v14 =>
    oP (hbin .add 9 v14 (V.str [116, 114, 97, 112, 32])) fun v15 =>
    oP (some (ρ 1)) fun v16 =>
    dcP C n_strconv_Itoa [v16] h fun v17 h1 =>
    oP (hbin .add 9 v15 v17) fun v18 =>
    oP (some v18) fun v6 =>
    Wp C 19 k_script_ended_R7 Q (rset (rset (rset (rset (rset (rset ρ 14 v14) 15 v15) 16 v16) 17 v17) 18 v18) 6 v6) h1) (
    Q .normal ρ h)) := by kernel_rfl
set_option maxRecDepth 100000 in
theorem e_script_ended_R7 (C : Cfg) (Q : X → Rho → Hp → Prop) (ρ : Rho) (h : Hp) : codeR C 19 k_script_ended_R7 Q ρ h = (
  Q .ret ρ h) := by kernel_rfl
theorem f_script_ended {C : Cfg} (hs : C.start = startF) (a0 a1 a2 : V) {h : Hp} {Q : V → Hp → Prop} (hk : C.K n_script_ended [a0, a1, a2] h = none) (H : codeR C 19 k_script_ended (bodyQ [.tmp 6] Q) (argsR [a0, a1, a2]) h) : cP C n_script_ended [a0, a1, a2] h Q :=
  cP.funcN hs (show P0.funcs[32]? = some Tryz.f32 by unfold P0; exact Tryz.func32) (by kernel_rfl) (by kernel_rfl) (by kernel_rfl) hk (Nat.le_of_ble_eq_true rfl) (Wp.code _ H)
def B_script_ended (C : Cfg) (Q : V → Hp → Prop) (a0 a1 a2 : V) (h : Hp) : Prop :=
  oP (hbin .eql 3 a0 (V.int .i64 1)) fun v9 =>
  bP v9 (
  oP (hbin .add 9 a2 (V.str [100, 111, 110, 101])) fun v11 =>
  Q v11 h) (
  oP (hbin .eql 3 a0 (V.int .i64 2)) fun v13 =>
  bP v13 (
  oP (hbin .add 9 a2 (V.str [116, 114, 97, 112, 32])) fun v15 =>
  cP C n_strconv_Itoa [a1] h fun v17 h1 =>
  oP (hbin .add 9 v15 v17) fun v18 =>
  Q v18 h1) (
  Q (V.str []) h))
set_option maxRecDepth 100000 in
theorem c_script_ended {C : Cfg} (hs : C.start = startF) {a0 a1 a2 : V} {h : Hp} {Q : V → Hp → Prop} (hk : C.K n_script_ended [a0, a1, a2] h = none) (H : B_script_ended C Q a0 a1 a2 h) : cP C n_script_ended [a0, a1, a2] h Q := by
  unfold B_script_ended at H
  exact f_script_ended hs _ _ _ hk ((e_script_ended _ _ _ _).mpr (oSm (Wp.of (e_script_ended_R0 _ _ _ _) (oSm (Wp.of (e_script_ended_R1 _ _ _ _) (oM H fun v9 _ H => oSm (Wp.of (e_script_ended_R3 _ _ _ _) (oSm (bM H (fun H => oSm (oM H fun v11 _ H => oSm (Wp.of (e_script_ended_R5 _ _ _ _) (H)))) (fun H => oM H fun v13 _ H => oSm (Wp.of (e_script_ended_R6 _ _ _ _) (oSm (bM H (fun H => oSm (oM H fun v15 _ H => oSm (dcM H fun v17 h1 H => oM H fun v18 _ H => oSm (Wp.of (e_script_ended_R7 _ _ _ _) (H))))) (fun H => Wp.of (e_script_ended_R2 _ _ _ _) (oSm (Wp.of (e_script_ended_R4 _ _ _ _) (H)))))))))))))))))
/-! ### turnstone/turnstoneref30.decimal -/
noncomputable def k_turnstoneref30_decimal : Code := bodyOf Tryz.f33
noncomputable def k_turnstoneref30_decimal_R0 : Code := k_turnstoneref30_decimal.r
noncomputable def k_turnstoneref30_decimal_R1 : Code := k_turnstoneref30_decimal.r.r
set_option maxRecDepth 100000 in
theorem e_turnstoneref30_decimal (C : Cfg) (Q : X → Rho → Hp → Prop) (ρ : Rho) (h : Hp) : codeR C 5 k_turnstoneref30_decimal Q ρ h = (
  oP (some (V.str [])) fun v2 =>
  Wp C 5 k_turnstoneref30_decimal_R0 Q (rset ρ 2 v2) h) := by kernel_rfl
set_option maxRecDepth 100000 in
theorem e_turnstoneref30_decimal_R0 (C : Cfg) (Q : X → Rho → Hp → Prop) (ρ : Rho) (h : Hp) : codeR C 5 k_turnstoneref30_decimal_R0 Q ρ h = (
  oP (some (ρ 0)) fun v3 =>
  dcP C n_turnstoneref10_Digits [v3] h fun v4 h1 =>
  oP (some v4) fun v2 =>
  Wp C 5 k_turnstoneref30_decimal_R1 Q (rset (rset (rset ρ 3 v3) 4 v4) 2 v2) h1) := by kernel_rfl
set_option maxRecDepth 100000 in
theorem e_turnstoneref30_decimal_R1 (C : Cfg) (Q : X → Rho → Hp → Prop) (ρ : Rho) (h : Hp) : codeR C 5 k_turnstoneref30_decimal_R1 Q ρ h = (
  Q .ret ρ h) := by kernel_rfl
theorem f_turnstoneref30_decimal {C : Cfg} (hs : C.start = startF) (a0 : V) {h : Hp} {Q : V → Hp → Prop} (hk : C.K n_turnstoneref30_decimal [a0] h = none) (H : codeR C 5 k_turnstoneref30_decimal (bodyQ [.tmp 2] Q) (argsR [a0]) h) : cP C n_turnstoneref30_decimal [a0] h Q :=
  cP.funcN hs (show P0.funcs[33]? = some Tryz.f33 by unfold P0; exact Tryz.func33) (by kernel_rfl) (by kernel_rfl) (by kernel_rfl) hk (Nat.le_of_ble_eq_true rfl) (Wp.code _ H)
def B_turnstoneref30_decimal (C : Cfg) (Q : V → Hp → Prop) (a0 : V) (h : Hp) : Prop :=
  cP C n_turnstoneref10_Digits [a0] h fun v4 h1 =>
  Q v4 h1
set_option maxRecDepth 100000 in
theorem c_turnstoneref30_decimal {C : Cfg} (hs : C.start = startF) {a0 : V} {h : Hp} {Q : V → Hp → Prop} (hk : C.K n_turnstoneref30_decimal [a0] h = none) (H : B_turnstoneref30_decimal C Q a0 h) : cP C n_turnstoneref30_decimal [a0] h Q := by
  unfold B_turnstoneref30_decimal at H
  exact f_turnstoneref30_decimal hs _ hk ((e_turnstoneref30_decimal _ _ _ _).mpr (oSm (Wp.of (e_turnstoneref30_decimal_R0 _ _ _ _) (oSm (dcM H fun v4 h1 H => oSm (Wp.of (e_turnstoneref30_decimal_R1 _ _ _ _) (H)))))))
/-! ### turnstone/turnstoneref30.Tell -/
noncomputable def k_turnstoneref30_Tell : Code := bodyOf Tryz.f15
noncomputable def k_turnstoneref30_Tell_R0 : Code := k_turnstoneref30_Tell.r
noncomputable def k_turnstoneref30_Tell_R1 : Code := k_turnstoneref30_Tell.r.r
noncomputable def k_turnstoneref30_Tell_R2 : Code := k_turnstoneref30_Tell.r.r.l.r
noncomputable def k_turnstoneref30_Tell_R3 : Code := k_turnstoneref30_Tell.r.r.r
noncomputable def q_turnstoneref30_Tell_0 (C : Cfg) (Q : X → Rho → Hp → Prop) : X → Rho → Hp → Prop := andThen (Wp C 71 k_turnstoneref30_Tell_R3 Q) Q
theorem q_turnstoneref30_Tell_0_normal (C : Cfg) (Q : X → Rho → Hp → Prop) (ρ : Rho) (h : Hp) : q_turnstoneref30_Tell_0 C Q .normal ρ h = Wp C 71 k_turnstoneref30_Tell_R3 Q ρ h := rfl
theorem q_turnstoneref30_Tell_0_ret (C : Cfg) (Q : X → Rho → Hp → Prop) (ρ : Rho) (h : Hp) : q_turnstoneref30_Tell_0 C Q .ret ρ h = Q .ret ρ h := rfl
noncomputable def k_turnstoneref30_Tell_R4 : Code := k_turnstoneref30_Tell.r.r.r.l.r
noncomputable def k_turnstoneref30_Tell_R5 : Code := k_turnstoneref30_Tell.r.r.r.r
noncomputable def q_turnstoneref30_Tell_1 (C : Cfg) (Q : X → Rho → Hp → Prop) : X → Rho → Hp → Prop := andThen (Wp C 71 k_turnstoneref30_Tell_R5 Q) Q
theorem q_turnstoneref30_Tell_1_normal (C : Cfg) (Q : X → Rho → Hp → Prop) (ρ : Rho) (h : Hp) : q_turnstoneref30_Tell_1 C Q .normal ρ h = Wp C 71 k_turnstoneref30_Tell_R5 Q ρ h := rfl
theorem q_turnstoneref30_Tell_1_ret (C : Cfg) (Q : X → Rho → Hp → Prop) (ρ : Rho) (h : Hp) : q_turnstoneref30_Tell_1 C Q .ret ρ h = Q .ret ρ h := rfl
noncomputable def k_turnstoneref30_Tell_R6 : Code := k_turnstoneref30_Tell.r.r.r.r.l.r
noncomputable def k_turnstoneref30_Tell_R7 : Code := k_turnstoneref30_Tell.r.r.r.r.r
noncomputable def q_turnstoneref30_Tell_2 (C : Cfg) (Q : X → Rho → Hp → Prop) : X → Rho → Hp → Prop := andThen (Wp C 71 k_turnstoneref30_Tell_R7 Q) Q
theorem q_turnstoneref30_Tell_2_normal (C : Cfg) (Q : X → Rho → Hp → Prop) (ρ : Rho) (h : Hp) : q_turnstoneref30_Tell_2 C Q .normal ρ h = Wp C 71 k_turnstoneref30_Tell_R7 Q ρ h := rfl
theorem q_turnstoneref30_Tell_2_ret (C : Cfg) (Q : X → Rho → Hp → Prop) (ρ : Rho) (h : Hp) : q_turnstoneref30_Tell_2 C Q .ret ρ h = Q .ret ρ h := rfl
noncomputable def k_turnstoneref30_Tell_R8 : Code := k_turnstoneref30_Tell.r.r.r.r.r.l.r
noncomputable def k_turnstoneref30_Tell_R9 : Code := k_turnstoneref30_Tell.r.r.r.r.r.r
noncomputable def q_turnstoneref30_Tell_3 (C : Cfg) (Q : X → Rho → Hp → Prop) : X → Rho → Hp → Prop := andThen (Wp C 71 k_turnstoneref30_Tell_R9 Q) Q
theorem q_turnstoneref30_Tell_3_normal (C : Cfg) (Q : X → Rho → Hp → Prop) (ρ : Rho) (h : Hp) : q_turnstoneref30_Tell_3 C Q .normal ρ h = Wp C 71 k_turnstoneref30_Tell_R9 Q ρ h := rfl
theorem q_turnstoneref30_Tell_3_ret (C : Cfg) (Q : X → Rho → Hp → Prop) (ρ : Rho) (h : Hp) : q_turnstoneref30_Tell_3 C Q .ret ρ h = Q .ret ρ h := rfl
noncomputable def k_turnstoneref30_Tell_L0 : Code := k_turnstoneref30_Tell.r.r.r.r.r.l.r.l.l
noncomputable def q_turnstoneref30_Tell_4 (C : Cfg) (Q : X → Rho → Hp → Prop) : X → Rho → Hp → Prop := blockQ 0 Q
theorem q_turnstoneref30_Tell_4_normal (C : Cfg) (Q : X → Rho → Hp → Prop) (ρ : Rho) (h : Hp) : q_turnstoneref30_Tell_4 C Q .normal ρ h = Q .normal ρ h := rfl
theorem q_turnstoneref30_Tell_4_ret (C : Cfg) (Q : X → Rho → Hp → Prop) (ρ : Rho) (h : Hp) : q_turnstoneref30_Tell_4 C Q .ret ρ h = Q .ret ρ h := rfl
theorem q_turnstoneref30_Tell_4_exit0 (C : Cfg) (Q : X → Rho → Hp → Prop) (ρ : Rho) (h : Hp) : q_turnstoneref30_Tell_4 C Q (.exit 0) ρ h = Q .normal ρ h := rfl
noncomputable def k_turnstoneref30_Tell_R10 : Code := k_turnstoneref30_Tell.r.r.r.r.r.r.l.r
noncomputable def k_turnstoneref30_Tell_R11 : Code := k_turnstoneref30_Tell.r.r.r.r.r.r.r
noncomputable def q_turnstoneref30_Tell_5 (C : Cfg) (Q : X → Rho → Hp → Prop) : X → Rho → Hp → Prop := andThen (Wp C 71 k_turnstoneref30_Tell_R11 Q) Q
theorem q_turnstoneref30_Tell_5_normal (C : Cfg) (Q : X → Rho → Hp → Prop) (ρ : Rho) (h : Hp) : q_turnstoneref30_Tell_5 C Q .normal ρ h = Wp C 71 k_turnstoneref30_Tell_R11 Q ρ h := rfl
theorem q_turnstoneref30_Tell_5_ret (C : Cfg) (Q : X → Rho → Hp → Prop) (ρ : Rho) (h : Hp) : q_turnstoneref30_Tell_5 C Q .ret ρ h = Q .ret ρ h := rfl
noncomputable def k_turnstoneref30_Tell_R12 : Code := k_turnstoneref30_Tell.r.r.r.r.r.l.r.l.l.l.r
noncomputable def k_turnstoneref30_Tell_R13 : Code := k_turnstoneref30_Tell.r.r.r.r.r.l.r.l.l.r
noncomputable def q_turnstoneref30_Tell_6 (C : Cfg) (Q : X → Rho → Hp → Prop) : X → Rho → Hp → Prop := andThen (Wp C 71 k_turnstoneref30_Tell_R13 Q) Q
theorem q_turnstoneref30_Tell_6_normal (C : Cfg) (Q : X → Rho → Hp → Prop) (ρ : Rho) (h : Hp) : q_turnstoneref30_Tell_6 C Q .normal ρ h = Wp C 71 k_turnstoneref30_Tell_R13 Q ρ h := rfl
theorem q_turnstoneref30_Tell_6_ret (C : Cfg) (Q : X → Rho → Hp → Prop) (ρ : Rho) (h : Hp) : q_turnstoneref30_Tell_6 C Q .ret ρ h = Q .ret ρ h := rfl
noncomputable def k_turnstoneref30_Tell_R14 : Code := k_turnstoneref30_Tell.r.r.r.r.r.r.l.r.l.r
noncomputable def q_turnstoneref30_Tell_7 (C : Cfg) (Q : X → Rho → Hp → Prop) : X → Rho → Hp → Prop := blockQ 2 Q
theorem q_turnstoneref30_Tell_7_normal (C : Cfg) (Q : X → Rho → Hp → Prop) (ρ : Rho) (h : Hp) : q_turnstoneref30_Tell_7 C Q .normal ρ h = Q .normal ρ h := rfl
theorem q_turnstoneref30_Tell_7_ret (C : Cfg) (Q : X → Rho → Hp → Prop) (ρ : Rho) (h : Hp) : q_turnstoneref30_Tell_7 C Q .ret ρ h = Q .ret ρ h := rfl
theorem q_turnstoneref30_Tell_7_exit2 (C : Cfg) (Q : X → Rho → Hp → Prop) (ρ : Rho) (h : Hp) : q_turnstoneref30_Tell_7 C Q (.exit 2) ρ h = Q .normal ρ h := rfl
noncomputable def k_turnstoneref30_Tell_R15 : Code := k_turnstoneref30_Tell.r.r.r.r.r.r.r.r
noncomputable def k_turnstoneref30_Tell_R16 : Code := k_turnstoneref30_Tell.r.r.r.r.r.l.r.l.l.r.r
noncomputable def k_turnstoneref30_Tell_R17 : Code := k_turnstoneref30_Tell.r.r.r.r.r.r.l.r.l.r.r.r
noncomputable def q_turnstoneref30_Tell_8 (C : Cfg) (Q : X → Rho → Hp → Prop) : X → Rho → Hp → Prop := blockQ 0 (q_turnstoneref30_Tell_3 C Q)
theorem q_turnstoneref30_Tell_8_normal (C : Cfg) (Q : X → Rho → Hp → Prop) (ρ : Rho) (h : Hp) : q_turnstoneref30_Tell_8 C Q .normal ρ h = Wp C 71 k_turnstoneref30_Tell_R9 Q ρ h := rfl
theorem q_turnstoneref30_Tell_8_ret (C : Cfg) (Q : X → Rho → Hp → Prop) (ρ : Rho) (h : Hp) : q_turnstoneref30_Tell_8 C Q .ret ρ h = Q .ret ρ h := rfl
theorem q_turnstoneref30_Tell_8_exit0 (C : Cfg) (Q : X → Rho → Hp → Prop) (ρ : Rho) (h : Hp) : q_turnstoneref30_Tell_8 C Q (.exit 0) ρ h = Wp C 71 k_turnstoneref30_Tell_R9 Q ρ h := rfl
set_option maxRecDepth 100000 in
theorem e_turnstoneref30_Tell (C : Cfg) (Q : X → Rho → Hp → Prop) (ρ : Rho) (h : Hp) : codeR C 71 k_turnstoneref30_Tell Q ρ h = (
  alP (hbox 43 (ρ 0)) h fun v1 h1 =>
  oP (some (V.str [])) fun v2 =>
  Wp C 71 k_turnstoneref30_Tell_R0 Q (rset (rset ρ 1 v1) 2 v2) h1) := by kernel_rfl
set_option maxRecDepth 100000 in
theorem e_turnstoneref30_Tell_R0 (C : Cfg) (Q : X → Rho → Hp → Prop) (ρ : Rho) (h : Hp) : codeR C 71 k_turnstoneref30_Tell_R0 Q ρ h = (
  oP (some (V.str [111, 107])) fun v3 =>
  Wp C 71 k_turnstoneref30_Tell_R1 Q (rset ρ 3 v3) h) := by kernel_rfl
set_option maxRecDepth 100000 in
theorem e_turnstoneref30_Tell_R1 (C : Cfg) (Q : X → Rho → Hp → Prop) (ρ : Rho) (h : Hp) : codeR C 71 k_turnstoneref30_Tell_R1 Q ρ h = (
  oP (pFA 0 (ρ 1)) fun v5 =>
  oP (pLd v5 h) fun v6 =>
  oP (hbin .neq 27 v6 (V.int .i64 0)) fun v7 =>
  Wp C 71 k_turnstoneref30_Tell_R2 (q_turnstoneref30_Tell_0 C Q) (rset (rset (rset ρ 5 v5) 6 v6) 7 v7) h) := by kernel_rfl
set_option maxRecDepth 100000 in
theorem e_turnstoneref30_Tell_R3 (C : Cfg) (Q : X → Rho → Hp → Prop) (ρ : Rho) (h : Hp) : codeR C 71 k_turnstoneref30_Tell_R3 Q ρ h = (
  oP (pFA 1 (ρ 1)) fun v12 =>
  oP (pLd v12 h) fun v13 =>
  oP (hbin .neq 3 v13 (V.int .i64 0)) fun v14 =>
  Wp C 71 k_turnstoneref30_Tell_R4 (q_turnstoneref30_Tell_1 C Q) (rset (rset (rset ρ 12 v12) 13 v13) 14 v14) h) := by kernel_rfl
set_option maxRecDepth 100000 in
theorem e_turnstoneref30_Tell_R2 (C : Cfg) (Q : X → Rho → Hp → Prop) (ρ : Rho) (h : Hp) : codeR C 71 k_turnstoneref30_Tell_R2 Q ρ h = (
  oP (some (ρ 7)) fun c =>
  bP c (
    oP (pFA 0 (ρ 1)) fun v8 =>
    oP (pLd v8 h) fun v9 =>
    dcP C n_turnstoneref30_decimal [v9] h fun v10 h1 =>
    oP (hbin .add 9 (V.str [101, 114, 114, 111, 114, 32]) v10) fun v11 =>
    oP (some v11) fun v3 =>
    Q .normal (rset (rset (rset (rset (rset ρ 8 v8) 9 v9) 10 v10) 11 v11) 3 v3) h1) (
    Q .normal ρ h)) := by kernel_rfl
set_option maxRecDepth 100000 in
theorem e_turnstoneref30_Tell_R5 (C : Cfg) (Q : X → Rho → Hp → Prop) (ρ : Rho) (h : Hp) : codeR C 71 k_turnstoneref30_Tell_R5 Q ρ h = (
  oP (pFA 2 (ρ 1)) fun v21 =>
  oP (pLd v21 h) fun v22 =>
  oP (hbin .neq 3 v22 (V.int .i64 0)) fun v23 =>
  Wp C 71 k_turnstoneref30_Tell_R6 (q_turnstoneref30_Tell_2 C Q) (rset (rset (rset ρ 21 v21) 22 v22) 23 v23) h) := by kernel_rfl
set_option maxRecDepth 100000 in
theorem e_turnstoneref30_Tell_R4 (C : Cfg) (Q : X → Rho → Hp → Prop) (ρ : Rho) (h : Hp) : codeR C 71 k_turnstoneref30_Tell_R4 Q ρ h = (
  oP (some (ρ 14)) fun c =>
  bP c (
    oP (some (ρ 3)) fun v15 =>
    oP (hbin .add 9 v15 (V.str [32, 115, 116, 101, 112, 115, 32])) fun v16 =>
    oP (pFA 1 (ρ 1)) fun v17 =>
    oP (pLd v17 h) fun v18 =>
    dcP C n_turnstoneref30_decimal [v18] h fun v19 h1 =>
    oP (hbin .add 9 v16 v19) fun v20 =>
    oP (some v20) fun v3 =>
    Q .normal (rset (rset (rset (rset (rset (rset (rset ρ 15 v15) 16 v16) 17 v17) 18 v18) 19 v19) 20 v20) 3 v3) h1) (
    Q .normal ρ h)) := by kernel_rfl
set_option maxRecDepth 100000 in
theorem e_turnstoneref30_Tell_R7 (C : Cfg) (Q : X → Rho → Hp → Prop) (ρ : Rho) (h : Hp) : codeR C 71 k_turnstoneref30_Tell_R7 Q ρ h = (
  oP (some (V.int .i64 0)) fun v4 =>
  Wp C 71 k_turnstoneref30_Tell_R8 (q_turnstoneref30_Tell_3 C Q) (rset ρ 4 v4) h) := by kernel_rfl
set_option maxRecDepth 100000 in
theorem e_turnstoneref30_Tell_R6 (C : Cfg) (Q : X → Rho → Hp → Prop) (ρ : Rho) (h : Hp) : codeR C 71 k_turnstoneref30_Tell_R6 Q ρ h = (
  oP (some (ρ 23)) fun c =>
  bP c (
    oP (some (ρ 3)) fun v24 =>
    oP (hbin .add 9 v24 (V.str [32, 108, 101, 102, 116, 32])) fun v25 =>
    oP (pFA 2 (ρ 1)) fun v26 =>
    oP (pLd v26 h) fun v27 =>
    dcP C n_turnstoneref30_decimal [v27] h fun v28 h1 =>
    oP (hbin .add 9 v25 v28) fun v29 =>
    oP (some v29) fun v3 =>
    Q .normal (rset (rset (rset (rset (rset (rset (rset ρ 24 v24) 25 v25) 26 v26) 27 v27) 28 v28) 29 v29) 3 v3) h1) (
    Q .normal ρ h)) := by kernel_rfl
set_option maxRecDepth 100000 in
theorem e_turnstoneref30_Tell_R9 (C : Cfg) (Q : X → Rho → Hp → Prop) (ρ : Rho) (h : Hp) : codeR C 71 k_turnstoneref30_Tell_R9 Q ρ h = (
  oP (pFA 3 (ρ 1)) fun v56 =>
  oP (pLd v56 h) fun v57 =>
  Wp C 71 k_turnstoneref30_Tell_R10 (q_turnstoneref30_Tell_5 C Q) (rset (rset ρ 56 v56) 57 v57) h) := by kernel_rfl
set_option maxRecDepth 100000 in
theorem e_turnstoneref30_Tell_R8 (C : Cfg) (Q : X → Rho → Hp → Prop) (ρ : Rho) (h : Hp) : codeR C 71 k_turnstoneref30_Tell_R8 Q ρ h = (
  Wp C 71 (.loop k_turnstoneref30_Tell_L0) (q_turnstoneref30_Tell_4 C Q) ρ h) := by kernel_rfl
set_option maxRecDepth 100000 in
theorem e_turnstoneref30_Tell_R11 (C : Cfg) (Q : X → Rho → Hp → Prop) (ρ : Rho) (h : Hp) : codeR C 71 k_turnstoneref30_Tell_R11 Q ρ h = (
  oP (some (ρ 3)) fun v70 =>
  oP (some v70) fun v2 =>
  Wp C 71 k_turnstoneref30_Tell_R15 Q (rset (rset ρ 70 v70) 2 v2) h) := by kernel_rfl
set_option maxRecDepth 100000 in
theorem e_turnstoneref30_Tell_R10 (C : Cfg) (Q : X → Rho → Hp → Prop) (ρ : Rho) (h : Hp) : codeR C 71 k_turnstoneref30_Tell_R10 Q ρ h = (
  oP (hbin .eql 3 (ρ 57) (V.int .i64 1)) fun v59 =>
  oP (some v59) fun v58 =>
  Wp C 71 k_turnstoneref30_Tell_R14 (q_turnstoneref30_Tell_7 C Q) (rset (rset ρ 59 v59) 58 v58) h) := by kernel_rfl
set_option maxRecDepth 100000 in
theorem e_turnstoneref30_Tell_R15 (C : Cfg) (Q : X → Rho → Hp → Prop) (ρ : Rho) (h : Hp) : codeR C 71 k_turnstoneref30_Tell_R15 Q ρ h = (
  Q .ret ρ h) := by kernel_rfl
set_option maxRecDepth 100000 in
theorem e_turnstoneref30_Tell_L0 (C : Cfg) (Q : X → Rho → Hp → Prop) (ρ : Rho) (h : Hp) : codeR C 71 k_turnstoneref30_Tell_L0 Q ρ h = (
  oP (some (ρ 4)) fun v30 =>
  oP (pFA 5 (ρ 1)) fun v31 =>
  oP (pLd v31 h) fun v32 =>
  oP (pLen v32) fun v33 =>
  oP (hbin .lss 3 v30 v33) fun v34 =>
  Wp C 71 k_turnstoneref30_Tell_R12 (q_turnstoneref30_Tell_6 C Q) (rset (rset (rset (rset (rset ρ 30 v30) 31 v31) 32 v32) 33 v33) 34 v34) h) := by kernel_rfl
set_option maxRecDepth 100000 in
theorem e_turnstoneref30_Tell_R13 (C : Cfg) (Q : X → Rho → Hp → Prop) (ρ : Rho) (h : Hp) : codeR C 71 k_turnstoneref30_Tell_R13 Q ρ h = (
  oP (some (ρ 3)) fun v37 =>
  oP (hbin .add 9 v37 (V.str [32, 107, 101, 121, 32])) fun v38 =>
  oP (pFA 5 (ρ 1)) fun v39 =>
  oP (pLd v39 h) fun v40 =>
  oP (some (ρ 4)) fun v41 =>
  oP (pIx 2 v40 v41) fun v42 =>
  oP (pFA 0 v42) fun v43 =>
  oP (pLd v43 h) fun v44 =>
  oP (pFA 5 (ρ 1)) fun v48 =>
  oP (pLd v48 h) fun v49 =>
  oP (some (ρ 4)) fun v50 =>
  oP (pIx 2 v49 v50) fun v51 =>
  oP (pFA 1 v51) fun v52 =>
  oP (pLd v52 h) fun v53 =>
  ((pLd v52 h = some v53) ∧ 
  ((pFA 1 v51 = some v52) ∧ 
  ((pIx 2 v49 v50 = some v51) ∧ 
  ((some (ρ 4) = some v50) ∧ 
  ((pLd v48 h = some v49) ∧ 
  ((pFA 5 (ρ 1) = some v48) ∧ 
  ((pLd v43 h = some v44) ∧ 
  ((pFA 0 v42 = some v43) ∧ 
  ((pIx 2 v40 v41 = some v42) ∧ 
  ((some (ρ 4) = some v41) ∧ 
  ((pLd v39 h = some v40) ∧ 
  ((pFA 5 (ρ 1) = some v39) ∧ 
  ((hbin .add 9 v37 (V.str [32, 107, 101, 121, 32]) = some v38) ∧ 
  ((some (ρ 3) = some v37) ∧ 
  dcP C n_turnstoneref30_decimal [v44] h fun v45 h1 =>
  (h.next ≤ h1.next ∧
  oP (hbin .add 9 v38 v45) fun v46 =>
  oP (hbin .add 9 v46 (V.str [32])) fun v47 =>
  ((hbin .add 9 v46 (V.str [32]) = some v47) ∧ 
  ((hbin .add 9 v38 v45 = some v46) ∧ 
  ((pLd v52 h1 = some v53) ∧ 
  ((pFA 1 v51 = some v52) ∧ 
  ((pIx 2 v49 v50 = some v51) ∧ 
  ((some (ρ 4) = some v50) ∧ 
  ((pLd v48 h1 = some v49) ∧ 
  ((pFA 5 (ρ 1) = some v48) ∧ 
  ((hbin .add 9 v37 (V.str [32, 107, 101, 121, 32]) = some v38) ∧ 
  ((some (ρ 3) = some v37) ∧ 
  dcP C n_turnstoneref30_decimal [v53] h1 fun v54 h2 =>
  (h1.next ≤ h2.next ∧
  oP (hbin .add 9 v47 v54) fun v55 =>
  oP (some v55) fun v3 =>
  ((some v55 = some v3) ∧ 
  ((hbin .add 9 v47 v54 = some v55) ∧ 
  ((hbin .add 9 v46 (V.str [32]) = some v47) ∧ 
  ((hbin .add 9 v38 v45 = some v46) ∧ 
  ((hbin .add 9 v37 (V.str [32, 107, 101, 121, 32]) = some v38) ∧ 
  ((some (ρ 3) = some v37) ∧ 
  Wp C 71 k_turnstoneref30_Tell_R16 Q (rset (rset (rset (rset (rset (rset (rset (rset (rset (rset (rset (rset (rset (rset (rset (rset (rset (rset (rset (rset ρ 37 v37) 38 v38) 39 v39) 40 v40) 41 v41) 42 v42) 43 v43) 44 v44) 48 v48) 49 v49) 50 v50) 51 v51) 52 v52) 53 v53) 45 v45) 46 v46) 47 v47) 54 v54) 55 v55) 3 v3) h2))))))))))))))))))))))))))))))))) := by kernel_rfl
set_option maxRecDepth 100000 in
theorem e_turnstoneref30_Tell_R14 (C : Cfg) (Q : X → Rho → Hp → Prop) (ρ : Rho) (h : Hp) : codeR C 71 k_turnstoneref30_Tell_R14 Q ρ h = (
  oP (some (ρ 58)) fun c =>
  bP c (
    oP (some (ρ 3)) fun v60 =>
    oP (hbin .add 9 v60 (V.str [32, 100, 111, 110, 101])) fun v61 =>
    oP (some v61) fun v3 =>
    Q .normal (rset (rset (rset ρ 60 v60) 61 v61) 3 v3) h) (
    oP (hbin .eql 3 (ρ 57) (V.int .i64 2)) fun v63 =>
    oP (some v63) fun v62 =>
    Wp C 71 k_turnstoneref30_Tell_R17 Q (rset (rset ρ 63 v63) 62 v62) h)) := by kernel_rfl
set_option maxRecDepth 100000 in
theorem e_turnstoneref30_Tell_R12 (C : Cfg) (Q : X → Rho → Hp → Prop) (ρ : Rho) (h : Hp) : codeR C 71 k_turnstoneref30_Tell_R12 Q ρ h = (
  oP (some (ρ 34)) fun c =>
  bP c (
    Q .normal ρ h) (
    Q (.exit 0) ρ h)) := by kernel_rfl
set_option maxRecDepth 100000 in
theorem e_turnstoneref30_Tell_R16 (C : Cfg) (Q : X → Rho → Hp → Prop) (ρ : Rho) (h : Hp) : codeR C 71 k_turnstoneref30_Tell_R16 Q ρ h = (
  oP (some (ρ 4)) fun v35 =>
  oP (hbin .add 3 v35 (V.int .i64 1)) fun v36 =>
  oP (some v36) fun v4 =>
  Q .normal (rset (rset (rset ρ 35 v35) 36 v36) 4 v4) h) := by kernel_rfl
set_option maxRecDepth 100000 in
theorem e_turnstoneref30_Tell_R17 (C : Cfg) (Q : X → Rho → Hp → Prop) (ρ : Rho) (h : Hp) : codeR C 71 k_turnstoneref30_Tell_R17 Q ρ h = (
  oP (some (ρ 62)) fun c =>
  bP c (
    oP (some (ρ 3)) fun v64 =>
    oP (hbin .add 9 v64 (V.str [32, 116, 114, 97, 112, 32])) fun v65 =>
    oP (pFA 4 (ρ 1)) fun v66 =>
    oP (pLd v66 h) fun v67 =>
    dcP C n_turnstoneref30_decimal [v67] h fun v68 h1 =>
    oP (hbin .add 9 v65 v68) fun v69 =>
    oP (some v69) fun v3 =>
    Q .normal (rset (rset (rset (rset (rset (rset (rset ρ 64 v64) 65 v65) 66 v66) 67 v67) 68 v68) 69 v69) 3 v3) h1) (
    Q .normal ρ h)) := by kernel_rfl
theorem f_turnstoneref30_Tell {C : Cfg} (hs : C.start = startF) (a0 : V) {h : Hp} {Q : V → Hp → Prop} (hk : C.K n_turnstoneref30_Tell [a0] h = none) (H : codeR C 71 k_turnstoneref30_Tell (bodyQ [.tmp 2] Q) (argsR [a0]) h) : cP C n_turnstoneref30_Tell [a0] h Q :=
  cP.funcN hs (show P0.funcs[15]? = some Tryz.f15 by unfold P0; exact Tryz.func15) (by kernel_rfl) (by kernel_rfl) (by kernel_rfl) hk (Nat.le_of_ble_eq_true rfl) (Wp.code _ H)
def J_turnstoneref30_Tell_R3 (C : Cfg) (Q : V → Hp → Prop) (x1 x3 : V) (h : Hp) : Prop := ∀ ρ : Rho, ρ 1 = x1 → ρ 3 = x3 → Wp C 71 k_turnstoneref30_Tell_R3 (bodyQ [.tmp 2] Q) ρ h
def J_turnstoneref30_Tell_R5 (C : Cfg) (Q : V → Hp → Prop) (x1 x3 : V) (h : Hp) : Prop := ∀ ρ : Rho, ρ 1 = x1 → ρ 3 = x3 → Wp C 71 k_turnstoneref30_Tell_R5 (bodyQ [.tmp 2] Q) ρ h
def J_turnstoneref30_Tell_R7 (C : Cfg) (Q : V → Hp → Prop) (x1 x3 : V) (h : Hp) : Prop := ∀ ρ : Rho, ρ 1 = x1 → ρ 3 = x3 → Wp C 71 k_turnstoneref30_Tell_R7 (bodyQ [.tmp 2] Q) ρ h
def J_turnstoneref30_Tell_L0 (C : Cfg) (Q : V → Hp → Prop) (x1 x3 x4 : V) (h : Hp) : Prop := ∀ ρ : Rho, ρ 1 = x1 → ρ 3 = x3 → ρ 4 = x4 → Wp C 71 (.loop k_turnstoneref30_Tell_L0) (q_turnstoneref30_Tell_8 C (bodyQ [.tmp 2] Q)) ρ h
def J_turnstoneref30_Tell_R11 (C : Cfg) (Q : V → Hp → Prop) (x3 : V) (h : Hp) : Prop := ∀ ρ : Rho, ρ 3 = x3 → Wp C 71 k_turnstoneref30_Tell_R11 (bodyQ [.tmp 2] Q) ρ h
def B_turnstoneref30_Tell_R3 (C : Cfg) (Q : V → Hp → Prop) (x1 x3 : V) (h : Hp) : Prop :=
  oP (pFA 1 x1) fun v12 =>
  oP (pLd v12 h) fun v13 =>
  oP (hbin .neq 3 v13 (V.int .i64 0)) fun v14 =>
  bP v14 (
  oP (hbin .add 9 x3 (V.str [32, 115, 116, 101, 112, 115, 32])) fun v16 =>
  oP (pFA 1 x1) fun v17 =>
  oP (pLd v17 h) fun v18 =>
  cP C n_turnstoneref30_decimal [v18] h fun v19 h1 =>
  oP (hbin .add 9 v16 v19) fun v20 =>
  J_turnstoneref30_Tell_R5 C Q x1 v20 h1) (
  J_turnstoneref30_Tell_R5 C Q x1 x3 h)
set_option maxRecDepth 100000 in
theorem j_turnstoneref30_Tell_R3 {C : Cfg} {Q : V → Hp → Prop} {x1 x3 : V} {h : Hp} (H : B_turnstoneref30_Tell_R3 C Q x1 x3 h) : J_turnstoneref30_Tell_R3 C Q x1 x3 h := by
  intro ρ e1 e3
  subst e1
  subst e3
  unfold B_turnstoneref30_Tell_R3 at H
  exact Wp.of (e_turnstoneref30_Tell_R3 _ _ _ _) (oM H fun v12 _ H => oM H fun v13 _ H => oM H fun v14 _ H => Wp.of (e_turnstoneref30_Tell_R4 _ _ _ _) (oSm (bM H (fun H => oSm (oM H fun v16 _ H => oM H fun v17 _ H => oM H fun v18 _ H => dcM H fun v19 h1 H => oM H fun v20 _ H => oSm (H _ rfl rfl))) (fun H => H _ rfl rfl))))
def B_turnstoneref30_Tell_R5 (C : Cfg) (Q : V → Hp → Prop) (x1 x3 : V) (h : Hp) : Prop :=
  oP (pFA 2 x1) fun v21 =>
  oP (pLd v21 h) fun v22 =>
  oP (hbin .neq 3 v22 (V.int .i64 0)) fun v23 =>
  bP v23 (
  oP (hbin .add 9 x3 (V.str [32, 108, 101, 102, 116, 32])) fun v25 =>
  oP (pFA 2 x1) fun v26 =>
  oP (pLd v26 h) fun v27 =>
  cP C n_turnstoneref30_decimal [v27] h fun v28 h1 =>
  oP (hbin .add 9 v25 v28) fun v29 =>
  J_turnstoneref30_Tell_R7 C Q x1 v29 h1) (
  J_turnstoneref30_Tell_R7 C Q x1 x3 h)
set_option maxRecDepth 100000 in
theorem j_turnstoneref30_Tell_R5 {C : Cfg} {Q : V → Hp → Prop} {x1 x3 : V} {h : Hp} (H : B_turnstoneref30_Tell_R5 C Q x1 x3 h) : J_turnstoneref30_Tell_R5 C Q x1 x3 h := by
  intro ρ e1 e3
  subst e1
  subst e3
  unfold B_turnstoneref30_Tell_R5 at H
  exact Wp.of (e_turnstoneref30_Tell_R5 _ _ _ _) (oM H fun v21 _ H => oM H fun v22 _ H => oM H fun v23 _ H => Wp.of (e_turnstoneref30_Tell_R6 _ _ _ _) (oSm (bM H (fun H => oSm (oM H fun v25 _ H => oM H fun v26 _ H => oM H fun v27 _ H => dcM H fun v28 h1 H => oM H fun v29 _ H => oSm (H _ rfl rfl))) (fun H => H _ rfl rfl))))
def B_turnstoneref30_Tell_R7 (C : Cfg) (Q : V → Hp → Prop) (x1 x3 : V) (h : Hp) : Prop :=
  J_turnstoneref30_Tell_L0 C Q x1 x3 (V.int .i64 0) h
set_option maxRecDepth 100000 in
theorem j_turnstoneref30_Tell_R7 {C : Cfg} {Q : V → Hp → Prop} {x1 x3 : V} {h : Hp} (H : B_turnstoneref30_Tell_R7 C Q x1 x3 h) : J_turnstoneref30_Tell_R7 C Q x1 x3 h := by
  intro ρ e1 e3
  subst e1
  subst e3
  unfold B_turnstoneref30_Tell_R7 at H
  exact Wp.of (e_turnstoneref30_Tell_R7 _ _ _ _) (oSm (Wp.of (e_turnstoneref30_Tell_R8 _ _ _ _) (H _ rfl rfl rfl)))
def B_turnstoneref30_Tell_L0 (C : Cfg) (Q : V → Hp → Prop) (KL0 : V → V → V → Hp → Prop) (x1 x3 x4 : V) (h : Hp) : Prop :=
  oP (pFA 5 x1) fun v31 =>
  oP (pLd v31 h) fun v32 =>
  oP (pLen v32) fun v33 =>
  oP (hbin .lss 3 x4 v33) fun v34 =>
  bP v34 (
  oP (hbin .add 9 x3 (V.str [32, 107, 101, 121, 32])) fun v38 =>
  oP (pFA 5 x1) fun v39 =>
  oP (pLd v39 h) fun v40 =>
  oP (pIx 2 v40 x4) fun v42 =>
  oP (pFA 0 v42) fun v43 =>
  oP (pLd v43 h) fun v44 =>
  oP (pFA 5 x1) fun v48 =>
  oP (pLd v48 h) fun v49 =>
  oP (pIx 2 v49 x4) fun v51 =>
  oP (pFA 1 v51) fun v52 =>
  oP (pLd v52 h) fun v53 =>
  cP C n_turnstoneref30_decimal [v44] h fun v45 h1 =>
  (h.next ≤ h1.next ∧
  oP (hbin .add 9 v38 v45) fun v46 =>
  oP (hbin .add 9 v46 (V.str [32])) fun v47 =>
  ((pLd v52 h1 = some v53) ∧ 
  ((pLd v48 h1 = some v49) ∧ 
  cP C n_turnstoneref30_decimal [v53] h1 fun v54 h2 =>
  (h1.next ≤ h2.next ∧
  oP (hbin .add 9 v47 v54) fun v55 =>
  oP (hbin .add 3 x4 (V.int .i64 1)) fun v36 =>
  KL0 x1 v55 v36 h2))))) (
  oP (pFA 3 x1) fun v56 =>
  oP (pLd v56 h) fun v57 =>
  oP (hbin .eql 3 v57 (V.int .i64 1)) fun v59 =>
  bP v59 (
  oP (hbin .add 9 x3 (V.str [32, 100, 111, 110, 101])) fun v61 =>
  J_turnstoneref30_Tell_R11 C Q v61 h) (
  oP (hbin .eql 3 v57 (V.int .i64 2)) fun v63 =>
  bP v63 (
  oP (hbin .add 9 x3 (V.str [32, 116, 114, 97, 112, 32])) fun v65 =>
  oP (pFA 4 x1) fun v66 =>
  oP (pLd v66 h) fun v67 =>
  cP C n_turnstoneref30_decimal [v67] h fun v68 h3 =>
  oP (hbin .add 9 v65 v68) fun v69 =>
  J_turnstoneref30_Tell_R11 C Q v69 h3) (
  J_turnstoneref30_Tell_R11 C Q x3 h)))
set_option maxRecDepth 100000 in
theorem l_turnstoneref30_Tell_L0 {C : Cfg} {Q : V → Hp → Prop} (I : Nat → V → V → V → Hp → Prop) (step : ∀ (k : Nat) (x1 x3 x4 : V) (h : Hp), I k x1 x3 x4 h → B_turnstoneref30_Tell_L0 C Q (fun x1 x3 x4 h => ∃ k', k' < k ∧ I k' x1 x3 x4 h) x1 x3 x4 h) {k : Nat} {x1 x3 x4 : V} {h : Hp} (h0 : I k x1 x3 x4 h) : J_turnstoneref30_Tell_L0 C Q x1 x3 x4 h := by
  intro ρ e1 e3 e4
  subst e1
  subst e3
  subst e4
  refine Wp.loopI (fun k ρ h => I k (ρ 1) (ρ 3) (ρ 4) h) (fun k ρ h hi => ?_) h0
  have H := step k (ρ 1) (ρ 3) (ρ 4) h hi
  unfold B_turnstoneref30_Tell_L0 at H
  exact Wp.of (e_turnstoneref30_Tell_L0 _ _ _ _) (oSm (oM H fun v31 _ H => oM H fun v32 _ H => oM H fun v33 _ H => oM H fun v34 _ H => Wp.of (e_turnstoneref30_Tell_R12 _ _ _ _) (oSm (bM H (fun H => Wp.of (e_turnstoneref30_Tell_R13 _ _ _ _) (oSm (oM H fun v38 Ev38 H => oM H fun v39 Ev39 H => oM H fun v40 Ev40 H => oSm (oM H fun v42 Ev42 H => oM H fun v43 Ev43 H => oM H fun v44 Ev44 H => oM H fun v48 Ev48 H => oM H fun v49 Ev49 H => oSm (oM H fun v51 Ev51 H => oM H fun v52 Ev52 H => oM H fun v53 Ev53 H => ⟨Ev53, ⟨Ev52, ⟨Ev51, ⟨rfl, ⟨Ev49, ⟨Ev48, ⟨Ev44, ⟨Ev43, ⟨Ev42, ⟨rfl, ⟨Ev40, ⟨Ev39, ⟨Ev38, ⟨rfl, dcM H fun v45 h1 H => anM H fun H => oM H fun v46 Ev46 H => oM H fun v47 Ev47 H => ⟨Ev47, ⟨Ev46, anM H fun H => ⟨Ev52, ⟨Ev51, ⟨rfl, anM H fun H => ⟨Ev48, ⟨Ev38, ⟨rfl, dcM H fun v54 h2 H => anM H fun H => oM H fun v55 Ev55 H => oSm (⟨rfl, ⟨Ev55, ⟨Ev47, ⟨Ev46, ⟨Ev38, ⟨rfl, Wp.of (e_turnstoneref30_Tell_R16 _ _ _ _) (oSm (oM H fun v36 _ H => oSm (H)))⟩⟩⟩⟩⟩⟩)⟩⟩⟩⟩⟩⟩⟩⟩⟩⟩⟩⟩⟩⟩⟩⟩⟩⟩⟩⟩⟩⟩))))) (fun H => Wp.of (e_turnstoneref30_Tell_R9 _ _ _ _) (oM H fun v56 _ H => oM H fun v57 _ H => Wp.of (e_turnstoneref30_Tell_R10 _ _ _ _) (oM H fun v59 _ H => oSm (Wp.of (e_turnstoneref30_Tell_R14 _ _ _ _) (oSm (bM H (fun H => oSm (oM H fun v61 _ H => oSm (H _ rfl))) (fun H => oM H fun v63 _ H => oSm (Wp.of (e_turnstoneref30_Tell_R17 _ _ _ _) (oSm (bM H (fun H => oSm (oM H fun v65 _ H => oM H fun v66 _ H => oM H fun v67 _ H => dcM H fun v68 h3 H => oM H fun v69 _ H => oSm (H _ rfl))) (fun H => H _ rfl)))))))))))))))
def B_turnstoneref30_Tell_R11 (C : Cfg) (Q : V → Hp → Prop) (x3 : V) (h : Hp) : Prop :=
  Q x3 h
set_option maxRecDepth 100000 in
theorem j_turnstoneref30_Tell_R11 {C : Cfg} {Q : V → Hp → Prop} {x3 : V} {h : Hp} (H : B_turnstoneref30_Tell_R11 C Q x3 h) : J_turnstoneref30_Tell_R11 C Q x3 h := by
  intro ρ e3
  subst e3
  unfold B_turnstoneref30_Tell_R11 at H
  exact Wp.of (e_turnstoneref30_Tell_R11 _ _ _ _) (oSm (oSm (Wp.of (e_turnstoneref30_Tell_R15 _ _ _ _) (H))))
def B_turnstoneref30_Tell (C : Cfg) (Q : V → Hp → Prop) (a0 : V) (h : Hp) : Prop :=
  alP (hbox 43 a0) h fun v1 h1 =>
  oP (pFA 0 v1) fun v5 =>
  oP (pLd v5 h1) fun v6 =>
  oP (hbin .neq 27 v6 (V.int .i64 0)) fun v7 =>
  bP v7 (
  oP (pFA 0 v1) fun v8 =>
  oP (pLd v8 h1) fun v9 =>
  cP C n_turnstoneref30_decimal [v9] h1 fun v10 h2 =>
  oP (hbin .add 9 (V.str [101, 114, 114, 111, 114, 32]) v10) fun v11 =>
  J_turnstoneref30_Tell_R3 C Q v1 v11 h2) (
  J_turnstoneref30_Tell_R3 C Q v1 (V.str [111, 107]) h1)
set_option maxRecDepth 100000 in
theorem c_turnstoneref30_Tell {C : Cfg} (hs : C.start = startF) {a0 : V} {h : Hp} {Q : V → Hp → Prop} (hk : C.K n_turnstoneref30_Tell [a0] h = none) (H : B_turnstoneref30_Tell C Q a0 h) : cP C n_turnstoneref30_Tell [a0] h Q := by
  unfold B_turnstoneref30_Tell at H
  exact f_turnstoneref30_Tell hs _ hk ((e_turnstoneref30_Tell _ _ _ _).mpr (alM H fun v1 h1 H => oSm (Wp.of (e_turnstoneref30_Tell_R0 _ _ _ _) (oSm (Wp.of (e_turnstoneref30_Tell_R1 _ _ _ _) (oM H fun v5 _ H => oM H fun v6 _ H => oM H fun v7 _ H => Wp.of (e_turnstoneref30_Tell_R2 _ _ _ _) (oSm (bM H (fun H => oM H fun v8 _ H => oM H fun v9 _ H => dcM H fun v10 h2 H => oM H fun v11 _ H => oSm (H _ rfl rfl)) (fun H => H _ rfl rfl)))))))))
/-! ### turnstone/turnstonelaw30.ScriptTells -/
noncomputable def k_turnstonelaw30_ScriptTells : Code := bodyOf Tryz.f5
noncomputable def k_turnstonelaw30_ScriptTells_R0 : Code := k_turnstonelaw30_ScriptTells.r
noncomputable def k_turnstonelaw30_ScriptTells_R1 : Code := k_turnstonelaw30_ScriptTells.r.r
noncomputable def k_turnstonelaw30_ScriptTells_R2 : Code := k_turnstonelaw30_ScriptTells.r.r.r
noncomputable def k_turnstonelaw30_ScriptTells_R3 : Code := k_turnstonelaw30_ScriptTells.r.r.r.r
set_option maxRecDepth 100000 in
theorem e_turnstonelaw30_ScriptTells (C : Cfg) (Q : X → Rho → Hp → Prop) (ρ : Rho) (h : Hp) : codeR C 23 k_turnstonelaw30_ScriptTells Q ρ h = (
  alP (hbox 43 (ρ 0)) h fun v1 h1 =>
  oP (some (V.bool false)) fun v2 =>
  Wp C 23 k_turnstonelaw30_ScriptTells_R0 Q (rset (rset ρ 1 v1) 2 v2) h1) := by kernel_rfl
set_option maxRecDepth 100000 in
theorem e_turnstonelaw30_ScriptTells_R0 (C : Cfg) (Q : X → Rho → Hp → Prop) (ρ : Rho) (h : Hp) : codeR C 23 k_turnstonelaw30_ScriptTells_R0 Q ρ h = (
  oP (pFA 0 (ρ 1)) fun v3 =>
  oP (pLd v3 h) fun v4 =>
  oP (hmin true (V.int .i64 0) [v4]) fun v5 =>
  oP (pFA 0 (ρ 1)) fun v6 =>
  valP (pSt 1 v6 v5 h) fun vu h1 =>
  Wp C 23 k_turnstonelaw30_ScriptTells_R1 Q (rset (rset (rset (rset ρ 3 v3) 4 v4) 5 v5) 6 v6) h1) := by kernel_rfl
set_option maxRecDepth 100000 in
theorem e_turnstonelaw30_ScriptTells_R1 (C : Cfg) (Q : X → Rho → Hp → Prop) (ρ : Rho) (h : Hp) : codeR C 23 k_turnstonelaw30_ScriptTells_R1 Q ρ h = (
  oP (pFA 5 (ρ 1)) fun v7 =>
  oP (pLd v7 h) fun v8 =>
  oP (pFA 5 (ρ 1)) fun v9 =>
  oP (pLd v9 h) fun v10 =>
  oP (pLen v10) fun v11 =>
  oP (hmin false v11 [(V.int .i64 20)]) fun v12 =>
  oP (hsliceV 2 v8 none (some v12) h) fun v13 =>
  oP (pFA 5 (ρ 1)) fun v14 =>
  valP (pSt 1 v14 v13 h) fun vu h1 =>
  Wp C 23 k_turnstonelaw30_ScriptTells_R2 Q (rset (rset (rset (rset (rset (rset (rset (rset ρ 7 v7) 8 v8) 9 v9) 10 v10) 11 v11) 12 v12) 13 v13) 14 v14) h1) := by kernel_rfl
set_option maxRecDepth 100000 in
theorem e_turnstonelaw30_ScriptTells_R2 (C : Cfg) (Q : X → Rho → Hp → Prop) (ρ : Rho) (h : Hp) : codeR C 23 k_turnstonelaw30_ScriptTells_R2 Q ρ h = (
  dcP C n_turnstonelaw30_known [] h fun v15 h1 =>
  (h.next ≤ h1.next ∧
  oP (some v15) fun v16 =>
  oP (pGd true v16) fun b2 =>
  oP (gV b2 (pLdA 6 (ρ 1) h1)) fun v17 =>
  oP (pGd true v16) fun b4 =>
  oP (gV b4 (pLdA 6 (ρ 1) h1)) fun v19 =>
  ((gT b4 (pLdA 6 (ρ 1) h1 = some v19)) ∧ 
  ((gT b2 (pLdA 6 (ρ 1) h1 = some v17)) ∧ 
  ((some v15 = some v16) ∧ 
  oP (pGd true v16) fun b3 =>
  oP (gC b3 (some (n_script_Tell, [v17]))) fun x3 => cgP C x3 h1 fun v18 h2 =>
  (h1.next ≤ h2.next ∧
  ((gT b4 (pLdA 6 (ρ 1) h2 = some v19)) ∧ 
  oP (pGd true v16) fun b5 =>
  oP (gC b5 (some (n_turnstoneref30_Tell, [v19]))) fun x5 => cgP C x5 h2 fun v20 h3 =>
  (h2.next ≤ h3.next ∧
  oP (pGd true v16) fun b6 =>
  oP (gV b6 (hbin .eql 9 v18 v20)) fun v21 =>
  oP (pPick v16 v21 (V.bool false)) fun v22 =>
  oP (some v22) fun v2 =>
  ((some v22 = some v2) ∧ 
  ((pPick v16 v21 (V.bool false) = some v22) ∧ 
  ((gT b6 (hbin .eql 9 v18 v20 = some v21)) ∧ 
  Wp C 23 k_turnstonelaw30_ScriptTells_R3 Q (rset (rset (rset (rset (rset (rset (rset (rset (rset ρ 15 v15) 16 v16) 17 v17) 19 v19) 18 v18) 20 v20) 21 v21) 22 v22) 2 v2) h3))))))))))) := by kernel_rfl
set_option maxRecDepth 100000 in
theorem e_turnstonelaw30_ScriptTells_R3 (C : Cfg) (Q : X → Rho → Hp → Prop) (ρ : Rho) (h : Hp) : codeR C 23 k_turnstonelaw30_ScriptTells_R3 Q ρ h = (
  Q .ret ρ h) := by kernel_rfl
theorem f_turnstonelaw30_ScriptTells {C : Cfg} (hs : C.start = startF) (a0 : V) {h : Hp} {Q : V → Hp → Prop} (hk : C.K n_turnstonelaw30_ScriptTells [a0] h = none) (H : codeR C 23 k_turnstonelaw30_ScriptTells (bodyQ [.tmp 2] Q) (argsR [a0]) h) : cP C n_turnstonelaw30_ScriptTells [a0] h Q :=
  cP.funcN hs (show P0.funcs[5]? = some Tryz.f5 by unfold P0; exact Tryz.func5) (by kernel_rfl) (by kernel_rfl) (by kernel_rfl) hk (Nat.le_of_ble_eq_true rfl) (Wp.code _ H)
def B_turnstonelaw30_ScriptTells (C : Cfg) (Q : V → Hp → Prop) (a0 : V) (h : Hp) : Prop :=
  alP (hbox 43 a0) h fun v1 h1 =>
  oP (pFA 0 v1) fun v3 =>
  oP (pLd v3 h1) fun v4 =>
  oP (hmin true (V.int .i64 0) [v4]) fun v5 =>
  oP (pFA 0 v1) fun v6 =>
  valP (pSt 1 v6 v5 h1) fun vu h2 =>
  oP (pFA 5 v1) fun v7 =>
  oP (pLd v7 h2) fun v8 =>
  oP (pFA 5 v1) fun v9 =>
  oP (pLd v9 h2) fun v10 =>
  oP (pLen v10) fun v11 =>
  oP (hmin false v11 [(V.int .i64 20)]) fun v12 =>
  oP (hsliceV 2 v8 none (some v12) h2) fun v13 =>
  oP (pFA 5 v1) fun v14 =>
  valP (pSt 1 v14 v13 h2) fun vu_1 h3 =>
  cP C n_turnstonelaw30_known [] h3 fun v15 h4 =>
  (h3.next ≤ h4.next ∧
  oP (pGd true v15) fun b2 =>
  oP (gV b2 (pLdA 6 v1 h4)) fun v17 =>
  oP (pGd true v15) fun b4 =>
  oP (gV b4 (pLdA 6 v1 h4)) fun v19 =>
  oP (pGd true v15) fun b3 =>
  oP (gC b3 (some (n_script_Tell, [v17]))) fun y3 => cgP C y3 h4 fun v18 h5 =>
  (h4.next ≤ h5.next ∧
  ((gT b4 (pLdA 6 v1 h5 = some v19)) ∧ 
  oP (pGd true v15) fun b5 =>
  oP (gC b5 (some (n_turnstoneref30_Tell, [v19]))) fun y5 => cgP C y5 h5 fun v20 h6 =>
  (h5.next ≤ h6.next ∧
  oP (pAnd v15 (hbin .eql 9 v18 v20)) fun v22 =>
  Q v22 h6))))
set_option maxRecDepth 100000 in
theorem c_turnstonelaw30_ScriptTells {C : Cfg} (hs : C.start = startF) {a0 : V} {h : Hp} {Q : V → Hp → Prop} (hk : C.K n_turnstonelaw30_ScriptTells [a0] h = none) (H : B_turnstonelaw30_ScriptTells C Q a0 h) : cP C n_turnstonelaw30_ScriptTells [a0] h Q := by
  unfold B_turnstonelaw30_ScriptTells at H
  exact f_turnstonelaw30_ScriptTells hs _ hk ((e_turnstonelaw30_ScriptTells _ _ _ _).mpr (alM H fun v1 h1 H => oSm (Wp.of (e_turnstonelaw30_ScriptTells_R0 _ _ _ _) (oM H fun v3 _ H => oM H fun v4 _ H => oM H fun v5 _ H => oM H fun v6 _ H => valM H fun vu h2 H => Wp.of (e_turnstonelaw30_ScriptTells_R1 _ _ _ _) (oM H fun v7 _ H => oM H fun v8 _ H => oM H fun v9 _ H => oM H fun v10 _ H => oM H fun v11 _ H => oM H fun v12 _ H => oM H fun v13 _ H => oM H fun v14 _ H => valM H fun vu_1 h3 H => Wp.of (e_turnstonelaw30_ScriptTells_R2 _ _ _ _) (dcM H fun v15 h4 H => anM H fun H => oSm (oM H fun b2 _ H => oM H fun v17 Ev17 H => oM H fun b4 _ H => oM H fun v19 Ev19 H => ⟨(gT_of Ev19), ⟨(gT_of Ev17), ⟨rfl, oM H fun b3 _ H => oM H fun y3 _ H => cgM H fun v18 h5 H => anM H fun H => anM H fun H => oM H fun b5 _ H => oM H fun y5 _ H => cgM H fun v20 h6 H => anM H fun H => thn (and_open H) fun H => oM H fun b6 Gv21 H => oM H fun v21 Ev21 H => oM H fun v22 Ev22 H => oSm (⟨rfl, ⟨Ev22, ⟨(gT_of Ev21), Wp.of (e_turnstonelaw30_ScriptTells_R3 _ _ _ _) (H)⟩⟩⟩)⟩⟩⟩)))))))
end Go.Proofs.YtdpfhajggknfaaaGreatDoor.Hx
