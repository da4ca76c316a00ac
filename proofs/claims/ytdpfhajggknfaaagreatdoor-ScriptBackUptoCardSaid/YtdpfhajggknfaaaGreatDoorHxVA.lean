/- What is left of the code of functions, segment by segment, and laid together: printed by vc2.py, checked by computation. -/
import Derived.Test.YtdpfhajggknfaaaGreatDoorHx7
namespace Go.Proofs.YtdpfhajggknfaaaGreatDoor.Hx
abbrev n_turnstonelaw30_ScriptParses : Nat := 3
abbrev n_turnstonelaw30_ScriptForms : Nat := 4
abbrev n_turnstonelaw30_ScriptTells : Nat := 5
abbrev n_turnstonelaw30_ScriptPrints : Nat := 6
abbrev n_turnstonelaw30_ScriptBack : Nat := 7
abbrev n_script_Parse : Nat := 8
abbrev n_turnstoneref30_Parse : Nat := 9
abbrev n_turnstonelaw30_known : Nat := 10
abbrev n_turnstonelaw30_same : Nat := 11
abbrev n_turnstonelaw30_Line_text : Nat := 12
abbrev n_turnstonehand_Pick : Nat := 13
abbrev n_script_Tell : Nat := 14
abbrev n_turnstoneref30_Tell : Nat := 15
abbrev n_script_Print : Nat := 16
abbrev n_turnstoneref30_Print : Nat := 17
abbrev n_turnstoneref30_Bare : Nat := 18
abbrev n_strings_Split : Nat := 19
abbrev n_script_kind : Nat := 20
abbrev n_script_words_next : Nat := 21
abbrev n_script_words_row : Nat := 22
abbrev n_script_words_int : Nat := 23
abbrev n_turnstoneref30_split : Nat := 24
abbrev n_turnstoneref30_Names : Nat := 25
abbrev n_turnstoneref30_number : Nat := 26
abbrev n_turnstoneref10_SameCount : Nat := 29
abbrev n_turnstoneref10_Digits : Nat := 30
abbrev n_strconv_Itoa : Nat := 31
abbrev n_script_ended : Nat := 32
abbrev n_turnstoneref30_decimal : Nat := 33
abbrev n_script_ints : Nat := 34
abbrev n_script_name : Nat := 35
abbrev n_strings_genSplit : Nat := 36
abbrev n_script_integer : Nat := 37
abbrev n_turnstoneref10_below : Nat := 45
abbrev n_strings_explode : Nat := 47
abbrev n_strings_Count : Nat := 48
abbrev n_strings_Index : Nat := 49
abbrev n_strings_HasPrefix : Nat := 50
abbrev n_script_number : Nat := 51
abbrev n_utf8_RuneCountInString : Nat := 61
abbrev n_bytealg_CountString : Nat := 63
abbrev n_stringslite_Index : Nat := 64
abbrev n_stringslite_HasPrefix : Nat := 65
abbrev n_stringslite_IndexByte : Nat := 89
abbrev n_bytealg_IndexString : Nat := 90
abbrev n_bytealg_Cutover : Nat := 91
abbrev n_bytealg_IndexRabinKarp_string : Nat := 92
abbrev n_bytealg_IndexByteString : Nat := 148
/-! ### turnstone/script.number -/
noncomputable def k_script_number : Code := bodyOf Tryz.f51
noncomputable def k_script_number_R0 : Code := k_script_number.r
noncomputable def k_script_number_R1 : Code := k_script_number.r.l.r
noncomputable def k_script_number_R2 : Code := k_script_number.r.r
noncomputable def q_script_number_0 (C : Cfg) (Q : X → Rho → Hp → Prop) : X → Rho → Hp → Prop := andThen (Wp C 52 k_script_number_R2 Q) Q
theorem q_script_number_0_normal (C : Cfg) (Q : X → Rho → Hp → Prop) (ρ : Rho) (h : Hp) : q_script_number_0 C Q .normal ρ h = Wp C 52 k_script_number_R2 Q ρ h := rfl
theorem q_script_number_0_ret (C : Cfg) (Q : X → Rho → Hp → Prop) (ρ : Rho) (h : Hp) : q_script_number_0 C Q .ret ρ h = Q .ret ρ h := rfl
noncomputable def k_script_number_R3 : Code := k_script_number.r.l.r.l.r
noncomputable def k_script_number_R4 : Code := k_script_number.r.r.r
noncomputable def k_script_number_R5 : Code := k_script_number.r.r.r.l.r
noncomputable def k_script_number_R6 : Code := k_script_number.r.r.r.r
noncomputable def q_script_number_1 (C : Cfg) (Q : X → Rho → Hp → Prop) : X → Rho → Hp → Prop := andThen (Wp C 52 k_script_number_R6 Q) Q
theorem q_script_number_1_normal (C : Cfg) (Q : X → Rho → Hp → Prop) (ρ : Rho) (h : Hp) : q_script_number_1 C Q .normal ρ h = Wp C 52 k_script_number_R6 Q ρ h := rfl
theorem q_script_number_1_ret (C : Cfg) (Q : X → Rho → Hp → Prop) (ρ : Rho) (h : Hp) : q_script_number_1 C Q .ret ρ h = Q .ret ρ h := rfl
noncomputable def k_script_number_L0 : Code := k_script_number.r.r.r.l.r.l.l
noncomputable def q_script_number_2 (C : Cfg) (Q : X → Rho → Hp → Prop) : X → Rho → Hp → Prop := blockQ 0 Q
theorem q_script_number_2_normal (C : Cfg) (Q : X → Rho → Hp → Prop) (ρ : Rho) (h : Hp) : q_script_number_2 C Q .normal ρ h = Q .normal ρ h := rfl
theorem q_script_number_2_ret (C : Cfg) (Q : X → Rho → Hp → Prop) (ρ : Rho) (h : Hp) : q_script_number_2 C Q .ret ρ h = Q .ret ρ h := rfl
theorem q_script_number_2_exit0 (C : Cfg) (Q : X → Rho → Hp → Prop) (ρ : Rho) (h : Hp) : q_script_number_2 C Q (.exit 0) ρ h = Q .normal ρ h := rfl
noncomputable def k_script_number_R7 : Code := k_script_number.r.r.r.r.r
noncomputable def k_script_number_R8 : Code := k_script_number.r.r.r.l.r.l.l.l.r
noncomputable def k_script_number_R9 : Code := k_script_number.r.r.r.l.r.l.l.r
noncomputable def q_script_number_3 (C : Cfg) (Q : X → Rho → Hp → Prop) : X → Rho → Hp → Prop := andThen (Wp C 52 k_script_number_R9 Q) Q
theorem q_script_number_3_normal (C : Cfg) (Q : X → Rho → Hp → Prop) (ρ : Rho) (h : Hp) : q_script_number_3 C Q .normal ρ h = Wp C 52 k_script_number_R9 Q ρ h := rfl
theorem q_script_number_3_ret (C : Cfg) (Q : X → Rho → Hp → Prop) (ρ : Rho) (h : Hp) : q_script_number_3 C Q .ret ρ h = Q .ret ρ h := rfl
noncomputable def k_script_number_R10 : Code := k_script_number.r.r.r.l.r.l.l.r.l.l.l.r
noncomputable def k_script_number_R11 : Code := k_script_number.r.r.r.l.r.l.l.r.r
noncomputable def q_script_number_6 (C : Cfg) (Q : X → Rho → Hp → Prop) : X → Rho → Hp → Prop := andThen (Wp C 52 k_script_number_R11 Q) Q
theorem q_script_number_6_normal (C : Cfg) (Q : X → Rho → Hp → Prop) (ρ : Rho) (h : Hp) : q_script_number_6 C Q .normal ρ h = Wp C 52 k_script_number_R11 Q ρ h := rfl
theorem q_script_number_6_ret (C : Cfg) (Q : X → Rho → Hp → Prop) (ρ : Rho) (h : Hp) : q_script_number_6 C Q .ret ρ h = Q .ret ρ h := rfl
noncomputable def q_script_number_5 (C : Cfg) (Q : X → Rho → Hp → Prop) : X → Rho → Hp → Prop := blockQ 1 (q_script_number_6 C Q)
theorem q_script_number_5_normal (C : Cfg) (Q : X → Rho → Hp → Prop) (ρ : Rho) (h : Hp) : q_script_number_5 C Q .normal ρ h = Wp C 52 k_script_number_R11 Q ρ h := rfl
theorem q_script_number_5_ret (C : Cfg) (Q : X → Rho → Hp → Prop) (ρ : Rho) (h : Hp) : q_script_number_5 C Q .ret ρ h = Q .ret ρ h := rfl
theorem q_script_number_5_exit1 (C : Cfg) (Q : X → Rho → Hp → Prop) (ρ : Rho) (h : Hp) : q_script_number_5 C Q (.exit 1) ρ h = Wp C 52 k_script_number_R11 Q ρ h := rfl
noncomputable def k_script_number_R12 : Code := k_script_number.r.r.r.l.r.l.l.r.l.l.r
noncomputable def q_script_number_4 (C : Cfg) (Q : X → Rho → Hp → Prop) : X → Rho → Hp → Prop := andThen (Wp C 52 k_script_number_R12 (q_script_number_5 C Q)) (q_script_number_5 C Q)
theorem q_script_number_4_normal (C : Cfg) (Q : X → Rho → Hp → Prop) (ρ : Rho) (h : Hp) : q_script_number_4 C Q .normal ρ h = Wp C 52 k_script_number_R12 (q_script_number_5 C Q) ρ h := rfl
theorem q_script_number_4_ret (C : Cfg) (Q : X → Rho → Hp → Prop) (ρ : Rho) (h : Hp) : q_script_number_4 C Q .ret ρ h = Q .ret ρ h := rfl
theorem q_script_number_4_exit1 (C : Cfg) (Q : X → Rho → Hp → Prop) (ρ : Rho) (h : Hp) : q_script_number_4 C Q (.exit 1) ρ h = Wp C 52 k_script_number_R11 Q ρ h := rfl
noncomputable def k_script_number_R13 : Code := k_script_number.r.r.r.l.r.l.l.r.l.l.l.r.l.r
noncomputable def q_script_number_7 (C : Cfg) (Q : X → Rho → Hp → Prop) : X → Rho → Hp → Prop := blockQ 0 (q_script_number_1 C Q)
theorem q_script_number_7_normal (C : Cfg) (Q : X → Rho → Hp → Prop) (ρ : Rho) (h : Hp) : q_script_number_7 C Q .normal ρ h = Wp C 52 k_script_number_R6 Q ρ h := rfl
theorem q_script_number_7_ret (C : Cfg) (Q : X → Rho → Hp → Prop) (ρ : Rho) (h : Hp) : q_script_number_7 C Q .ret ρ h = Q .ret ρ h := rfl
theorem q_script_number_7_exit0 (C : Cfg) (Q : X → Rho → Hp → Prop) (ρ : Rho) (h : Hp) : q_script_number_7 C Q (.exit 0) ρ h = Wp C 52 k_script_number_R6 Q ρ h := rfl
set_option maxRecDepth 100000 in
theorem e_script_number (C : Cfg) (Q : X → Rho → Hp → Prop) (ρ : Rho) (h : Hp) : codeR C 52 k_script_number Q ρ h = (
  oP (some (V.int .i64 0)) fun v2 =>
  oP (some (V.bool false)) fun v3 =>
  Wp C 52 k_script_number_R0 Q (rset (rset ρ 2 v2) 3 v3) h) := by kernel_rfl
set_option maxRecDepth 100000 in
theorem e_script_number_R0 (C : Cfg) (Q : X → Rho → Hp → Prop) (ρ : Rho) (h : Hp) : codeR C 52 k_script_number_R0 Q ρ h = (
  oP (some (ρ 0)) fun v6 =>
  oP (hbin .eql 9 v6 (V.str [])) fun v7 =>
  oP (some v7) fun v8 =>
  oP (pGd false v8) fun b3 =>
  oP (gV b3 (some (ρ 0))) fun v9 =>
  oP (pGd false v8) fun b4 =>
  oP (gV b4 (pLenS v9)) fun v10 =>
  oP (pGd false v8) fun b5 =>
  oP (gV b5 (hbin .gtr 3 v10 (V.int .i64 1))) fun v11 =>
  oP (pGd false v8) fun b6 =>
  oP (gV b6 (some v11)) fun v12 =>
  oP (pGd true v12) fun b7 =>
  oP (gV b7 (some (ρ 0))) fun v13 =>
  oP (pGd true v12) fun b8 =>
  oP (gV b8 (pIdxS v13 (V.int .i64 0))) fun v14 =>
  oP (pGd true v12) fun b9 =>
  oP (gV b9 (hbin .eql 5 v14 (V.int .u8 48))) fun v15 =>
  oP (pGd false v8) fun b10 =>
  oP (gV b10 (pPick v12 v15 (V.bool false))) fun v16 =>
  oP (pPick v8 (V.bool true) v16) fun v17 =>
  oP (some v17) fun v18 =>
  oP (pGd false v18) fun b13 =>
  oP (gV b13 (some (ρ 0))) fun v19 =>
  oP (pGd false v18) fun b14 =>
  oP (gV b14 (pLenS v19)) fun v20 =>
  oP (pGd false v18) fun b15 =>
  oP (gV b15 (hbin .gtr 3 v20 (V.int .i64 19))) fun v21 =>
  oP (pPick v18 (V.bool true) v21) fun v22 =>
  Wp C 52 k_script_number_R1 (q_script_number_0 C Q) (rset (rset (rset (rset (rset (rset (rset (rset (rset (rset (rset (rset (rset (rset (rset (rset (rset ρ 6 v6) 7 v7) 8 v8) 9 v9) 10 v10) 11 v11) 12 v12) 13 v13) 14 v14) 15 v15) 16 v16) 17 v17) 18 v18) 19 v19) 20 v20) 21 v21) 22 v22) h) := by kernel_rfl
set_option maxRecDepth 100000 in
theorem e_script_number_R2 (C : Cfg) (Q : X → Rho → Hp → Prop) (ρ : Rho) (h : Hp) : codeR C 52 k_script_number_R2 Q ρ h = (
  oP (some (V.int .u64 0)) fun v4 =>
  Wp C 52 k_script_number_R4 Q (rset ρ 4 v4) h) := by kernel_rfl
set_option maxRecDepth 100000 in
theorem e_script_number_R1 (C : Cfg) (Q : X → Rho → Hp → Prop) (ρ : Rho) (h : Hp) : codeR C 52 k_script_number_R1 Q ρ h = (
  oP (some (ρ 22)) fun c =>
  bP c (
    oP (some (V.int .i64 0)) fun v2 =>
    oP (some (V.bool false)) fun v3 =>
    Wp C 52 k_script_number_R3 Q (rset (rset ρ 2 v2) 3 v3) h) (
    Q .normal ρ h)) := by kernel_rfl
set_option maxRecDepth 100000 in
theorem e_script_number_R4 (C : Cfg) (Q : X → Rho → Hp → Prop) (ρ : Rho) (h : Hp) : codeR C 52 k_script_number_R4 Q ρ h = (
  oP (some (V.int .i64 0)) fun v5 =>
  Wp C 52 k_script_number_R5 (q_script_number_1 C Q) (rset ρ 5 v5) h) := by kernel_rfl
set_option maxRecDepth 100000 in
theorem e_script_number_R6 (C : Cfg) (Q : X → Rho → Hp → Prop) (ρ : Rho) (h : Hp) : codeR C 52 k_script_number_R6 Q ρ h = (
  oP (some (ρ 4)) fun v47 =>
  oP (hmin false v47 [(V.int .u64 4611686018427387904)]) fun v48 =>
  oP (pConv .i64 v48) fun v49 =>
  oP (some (ρ 4)) fun v50 =>
  oP (hbin .leq 80 v50 (V.int .u64 4611686018427387904)) fun v51 =>
  oP (some v49) fun v2 =>
  oP (some v51) fun v3 =>
  Wp C 52 k_script_number_R7 Q (rset (rset (rset (rset (rset (rset (rset ρ 47 v47) 48 v48) 49 v49) 50 v50) 51 v51) 2 v2) 3 v3) h) := by kernel_rfl
set_option maxRecDepth 100000 in
theorem e_script_number_R3 (C : Cfg) (Q : X → Rho → Hp → Prop) (ρ : Rho) (h : Hp) : codeR C 52 k_script_number_R3 Q ρ h = (
  Q .ret ρ h) := by kernel_rfl
set_option maxRecDepth 100000 in
theorem e_script_number_R5 (C : Cfg) (Q : X → Rho → Hp → Prop) (ρ : Rho) (h : Hp) : codeR C 52 k_script_number_R5 Q ρ h = (
  Wp C 52 (.loop k_script_number_L0) (q_script_number_2 C Q) ρ h) := by kernel_rfl
set_option maxRecDepth 100000 in
theorem e_script_number_R7 (C : Cfg) (Q : X → Rho → Hp → Prop) (ρ : Rho) (h : Hp) : codeR C 52 k_script_number_R7 Q ρ h = (
  Q .ret ρ h) := by kernel_rfl
set_option maxRecDepth 100000 in
theorem e_script_number_L0 (C : Cfg) (Q : X → Rho → Hp → Prop) (ρ : Rho) (h : Hp) : codeR C 52 k_script_number_L0 Q ρ h = (
  oP (some (ρ 5)) fun v23 =>
  oP (some (ρ 0)) fun v24 =>
  oP (pLenS v24) fun v25 =>
  oP (hbin .lss 3 v23 v25) fun v26 =>
  Wp C 52 k_script_number_R8 (q_script_number_3 C Q) (rset (rset (rset (rset ρ 23 v23) 24 v24) 25 v25) 26 v26) h) := by kernel_rfl
set_option maxRecDepth 100000 in
theorem e_script_number_R9 (C : Cfg) (Q : X → Rho → Hp → Prop) (ρ : Rho) (h : Hp) : codeR C 52 k_script_number_R9 Q ρ h = (
  oP (some (ρ 0)) fun v29 =>
  oP (some (ρ 5)) fun v30 =>
  oP (pIdxS v29 v30) fun v31 =>
  oP (hbin .lss 5 v31 (V.int .u8 48)) fun v32 =>
  oP (some v32) fun v33 =>
  oP (pGd false v33) fun b5 =>
  oP (gV b5 (some (ρ 0))) fun v34 =>
  oP (pGd false v33) fun b6 =>
  oP (gV b6 (some (ρ 5))) fun v35 =>
  oP (pGd false v33) fun b7 =>
  oP (gV b7 (pIdxS v34 v35)) fun v36 =>
  oP (pGd false v33) fun b8 =>
  oP (gV b8 (hbin .gtr 5 v36 (V.int .u8 57))) fun v37 =>
  oP (pPick v33 (V.bool true) v37) fun v38 =>
  Wp C 52 k_script_number_R10 (q_script_number_4 C Q) (rset (rset (rset (rset (rset (rset (rset (rset (rset (rset ρ 29 v29) 30 v30) 31 v31) 32 v32) 33 v33) 34 v34) 35 v35) 36 v36) 37 v37) 38 v38) h) := by kernel_rfl
set_option maxRecDepth 100000 in
theorem e_script_number_R8 (C : Cfg) (Q : X → Rho → Hp → Prop) (ρ : Rho) (h : Hp) : codeR C 52 k_script_number_R8 Q ρ h = (
  oP (some (ρ 26)) fun c =>
  bP c (
    Q .normal ρ h) (
    Q (.exit 0) ρ h)) := by kernel_rfl
set_option maxRecDepth 100000 in
theorem e_script_number_R11 (C : Cfg) (Q : X → Rho → Hp → Prop) (ρ : Rho) (h : Hp) : codeR C 52 k_script_number_R11 Q ρ h = (
  oP (some (ρ 5)) fun v27 =>
  oP (hbin .add 3 v27 (V.int .i64 1)) fun v28 =>
  oP (some v28) fun v5 =>
  Q .normal (rset (rset (rset ρ 27 v27) 28 v28) 5 v5) h) := by kernel_rfl
set_option maxRecDepth 100000 in
theorem e_script_number_R12 (C : Cfg) (Q : X → Rho → Hp → Prop) (ρ : Rho) (h : Hp) : codeR C 52 k_script_number_R12 Q ρ h = (
  oP (some (ρ 4)) fun v39 =>
  oP (hbin .mul 80 (V.int .u64 10) v39) fun v40 =>
  oP (some (ρ 0)) fun v41 =>
  oP (some (ρ 5)) fun v42 =>
  oP (pIdxS v41 v42) fun v43 =>
  oP (hbin .sub 5 v43 (V.int .u8 48)) fun v44 =>
  oP (pConv .u64 v44) fun v45 =>
  oP (hbin .add 80 v40 v45) fun v46 =>
  oP (some v46) fun v4 =>
  Q .normal (rset (rset (rset (rset (rset (rset (rset (rset (rset ρ 39 v39) 40 v40) 41 v41) 42 v42) 43 v43) 44 v44) 45 v45) 46 v46) 4 v4) h) := by kernel_rfl
set_option maxRecDepth 100000 in
theorem e_script_number_R10 (C : Cfg) (Q : X → Rho → Hp → Prop) (ρ : Rho) (h : Hp) : codeR C 52 k_script_number_R10 Q ρ h = (
  oP (some (ρ 38)) fun c =>
  bP c (
    oP (some (V.int .i64 0)) fun v2 =>
    oP (some (V.bool false)) fun v3 =>
    Wp C 52 k_script_number_R13 Q (rset (rset ρ 2 v2) 3 v3) h) (
    Q .normal ρ h)) := by kernel_rfl
set_option maxRecDepth 100000 in
theorem e_script_number_R13 (C : Cfg) (Q : X → Rho → Hp → Prop) (ρ : Rho) (h : Hp) : codeR C 52 k_script_number_R13 Q ρ h = (
  Q .ret ρ h) := by kernel_rfl
theorem f_script_number {C : Cfg} (hs : C.start = startF) (a0 : V) {h : Hp} {Q : V → Hp → Prop} (hk : C.K n_script_number [a0] h = none) (H : codeR C 52 k_script_number (bodyQ [.tmp 2, .tmp 3] Q) (argsR [a0]) h) : cP C n_script_number [a0] h Q :=
  cP.funcN hs (show P0.funcs[51]? = some Tryz.f51 by unfold P0; exact Tryz.func51) (by kernel_rfl) (by kernel_rfl) (by kernel_rfl) hk (Nat.le_of_ble_eq_true rfl) (Wp.code _ H)
def J_script_number_L0 (C : Cfg) (Q : V → Hp → Prop) (x0 x4 x5 : V) (h : Hp) : Prop := ∀ ρ : Rho, ρ 0 = x0 → ρ 4 = x4 → ρ 5 = x5 → Wp C 52 (.loop k_script_number_L0) (q_script_number_7 C (bodyQ [.tmp 2, .tmp 3] Q)) ρ h
def B_script_number_L0 (C : Cfg) (Q : V → Hp → Prop) (KL0 : V → V → V → Hp → Prop) (x0 x4 x5 : V) (h : Hp) : Prop :=
  oP (pLenS x0) fun v25 =>
  oP (hbin .lss 3 x5 v25) fun v26 =>
  bP v26 (
  oP (pIdxS x0 x5) fun v31 =>
  oP (hbin .lss 5 v31 (V.int .u8 48)) fun v32 =>
  oP (pOr v32 (oB (some x0) fun v34 => oB (some x5) fun v35 => oB (pIdxS v34 v35) fun v36 => hbin .gtr 5 v36 (V.int .u8 57))) fun v38 =>
  bP v38 (
  Q (V.tuple [(V.int .i64 0), (V.bool false)]) h) (
  oP (hbin .mul 80 (V.int .u64 10) x4) fun v40 =>
  oP (pIdxS x0 x5) fun v43 =>
  oP (hbin .sub 5 v43 (V.int .u8 48)) fun v44 =>
  oP (pConv .u64 v44) fun v45 =>
  oP (hbin .add 80 v40 v45) fun v46 =>
  oP (hbin .add 3 x5 (V.int .i64 1)) fun v28 =>
  KL0 x0 v46 v28 h)) (
  oP (hmin false x4 [(V.int .u64 4611686018427387904)]) fun v48 =>
  oP (pConv .i64 v48) fun v49 =>
  oP (hbin .leq 80 x4 (V.int .u64 4611686018427387904)) fun v51 =>
  Q (V.tuple [v49, v51]) h)
set_option maxRecDepth 100000 in
theorem l_script_number_L0 {C : Cfg} {Q : V → Hp → Prop} (I : Nat → V → V → V → Hp → Prop) (step : ∀ (k : Nat) (x0 x4 x5 : V) (h : Hp), I k x0 x4 x5 h → B_script_number_L0 C Q (fun x0 x4 x5 h => ∃ k', k' < k ∧ I k' x0 x4 x5 h) x0 x4 x5 h) {k : Nat} {x0 x4 x5 : V} {h : Hp} (h0 : I k x0 x4 x5 h) : J_script_number_L0 C Q x0 x4 x5 h := by
  intro ρ e0 e4 e5
  subst e0
  subst e4
  subst e5
  refine Wp.loopI (fun k ρ h => I k (ρ 0) (ρ 4) (ρ 5) h) (fun k ρ h hi => ?_) h0
  have H := step k (ρ 0) (ρ 4) (ρ 5) h hi
  unfold B_script_number_L0 at H
  exact Wp.of (e_script_number_L0 _ _ _ _) (oSm (oSm (oM H fun v25 _ H => oM H fun v26 _ H => Wp.of (e_script_number_R8 _ _ _ _) (oSm (bM H (fun H => Wp.of (e_script_number_R9 _ _ _ _) (oSm (oSm (oM H fun v31 _ H => oM H fun v32 _ H => oSm (thn (or_open H) fun H => sG1 H fun b5 Gv34 v34 Ev34 H => sG1 H fun b6 Gv35 v35 Ev35 H => sG1 H fun b7 Gv36 v36 Ev36 H => oM H fun b8 Gv37 H => oM H fun v37 Ev37 H => oM H fun v38 Ev38 H => Wp.of (e_script_number_R10 _ _ _ _) (oSm (bM H (fun H => oSm (oSm (Wp.of (e_script_number_R13 _ _ _ _) (H)))) (fun H => Wp.of (e_script_number_R12 _ _ _ _) (oSm (oM H fun v40 _ H => oSm (oSm (oM H fun v43 _ H => oM H fun v44 _ H => oM H fun v45 _ H => oM H fun v46 _ H => oSm (Wp.of (e_script_number_R11 _ _ _ _) (oSm (oM H fun v28 _ H => oSm (H)))))))))))))))) (fun H => Wp.of (e_script_number_R6 _ _ _ _) (oSm (oM H fun v48 _ H => oM H fun v49 _ H => oSm (oM H fun v51 _ H => oSm (oSm (Wp.of (e_script_number_R7 _ _ _ _) (H))))))))))))
def B_script_number (C : Cfg) (Q : V → Hp → Prop) (a0 : V) (h : Hp) : Prop :=
  oP (hbin .eql 9 a0 (V.str [])) fun v7 =>
  oP (pOr v7 (oB (some a0) fun v9 => oB (pLenS v9) fun v10 => oB (hbin .gtr 3 v10 (V.int .i64 1)) fun v11 => oB (some v11) fun v12 => pAnd v12 (oB (some a0) fun v13 => oB (pIdxS v13 (V.int .i64 0)) fun v14 => hbin .eql 5 v14 (V.int .u8 48)))) fun v17 =>
  oP (pOr v17 (oB (some a0) fun v19 => oB (pLenS v19) fun v20 => hbin .gtr 3 v20 (V.int .i64 19))) fun v22 =>
  bP v22 (
  Q (V.tuple [(V.int .i64 0), (V.bool false)]) h) (
  J_script_number_L0 C Q a0 (V.int .u64 0) (V.int .i64 0) h)
set_option maxRecDepth 100000 in
theorem c_script_number {C : Cfg} (hs : C.start = startF) {a0 : V} {h : Hp} {Q : V → Hp → Prop} (hk : C.K n_script_number [a0] h = none) (H : B_script_number C Q a0 h) : cP C n_script_number [a0] h Q := by
  unfold B_script_number at H
  exact f_script_number hs _ hk ((e_script_number _ _ _ _).mpr (oSm (oSm (Wp.of (e_script_number_R0 _ _ _ _) (oSm (oM H fun v7 _ H => oSm (thn (or_open H) fun H => sG1 H fun b3 Gv9 v9 Ev9 H => sG1 H fun b4 Gv10 v10 Ev10 H => sG1 H fun b5 Gv11 v11 Ev11 H => sG1 H fun b6 Gv12 v12 Ev12 H => thn (sNand' Gv12 Ev12 H) fun H => sG1 H fun b7 Gv13 v13 Ev13 H => sG1 H fun b8 Gv14 v14 Ev14 H => oM H fun b9 Gv15 H => oM H fun v15 Ev15 H => oM H fun b10 Gv16 H => oM H fun v16 Ev16 H => oM H fun v17 Ev17 H => oSm (thn (or_open H) fun H => sG1 H fun b13 Gv19 v19 Ev19 H => sG1 H fun b14 Gv20 v20 Ev20 H => oM H fun b15 Gv21 H => oM H fun v21 Ev21 H => oM H fun v22 Ev22 H => Wp.of (e_script_number_R1 _ _ _ _) (oSm (bM H (fun H => oSm (oSm (Wp.of (e_script_number_R3 _ _ _ _) (H)))) (fun H => Wp.of (e_script_number_R2 _ _ _ _) (oSm (Wp.of (e_script_number_R4 _ _ _ _) (oSm (Wp.of (e_script_number_R5 _ _ _ _) (H _ rfl rfl rfl))))))))))))))))
/-! ### turnstone/script.integer -/
noncomputable def k_script_integer : Code := bodyOf Tryz.f37
noncomputable def k_script_integer_R0 : Code := k_script_integer.r
noncomputable def k_script_integer_R1 : Code := k_script_integer.r.l.r
noncomputable def k_script_integer_R2 : Code := k_script_integer.r.r
noncomputable def q_script_integer_0 (C : Cfg) (Q : X → Rho → Hp → Prop) : X → Rho → Hp → Prop := andThen (Wp C 26 k_script_integer_R2 Q) Q
theorem q_script_integer_0_normal (C : Cfg) (Q : X → Rho → Hp → Prop) (ρ : Rho) (h : Hp) : q_script_integer_0 C Q .normal ρ h = Wp C 26 k_script_integer_R2 Q ρ h := rfl
theorem q_script_integer_0_ret (C : Cfg) (Q : X → Rho → Hp → Prop) (ρ : Rho) (h : Hp) : q_script_integer_0 C Q .ret ρ h = Q .ret ρ h := rfl
noncomputable def k_script_integer_R3 : Code := k_script_integer.r.l.r.l.r
noncomputable def k_script_integer_R4 : Code := k_script_integer.r.r.r
noncomputable def k_script_integer_R5 : Code := k_script_integer.r.r.r.r
set_option maxRecDepth 100000 in
theorem e_script_integer (C : Cfg) (Q : X → Rho → Hp → Prop) (ρ : Rho) (h : Hp) : codeR C 26 k_script_integer Q ρ h = (
  oP (some (V.int .i64 0)) fun v2 =>
  oP (some (V.bool false)) fun v3 =>
  Wp C 26 k_script_integer_R0 Q (rset (rset ρ 2 v2) 3 v3) h) := by kernel_rfl
set_option maxRecDepth 100000 in
theorem e_script_integer_R0 (C : Cfg) (Q : X → Rho → Hp → Prop) (ρ : Rho) (h : Hp) : codeR C 26 k_script_integer_R0 Q ρ h = (
  oP (some (ρ 0)) fun v6 =>
  dcP C n_strings_HasPrefix [v6, (V.str [45])] h fun v7 h1 =>
  oP (hun .not v7) fun v8 =>
  Wp C 26 k_script_integer_R1 (q_script_integer_0 C Q) (rset (rset (rset ρ 6 v6) 7 v7) 8 v8) h1) := by kernel_rfl
set_option maxRecDepth 100000 in
theorem e_script_integer_R2 (C : Cfg) (Q : X → Rho → Hp → Prop) (ρ : Rho) (h : Hp) : codeR C 26 k_script_integer_R2 Q ρ h = (
  oP (some (ρ 0)) fun v14 =>
  oP (hsliceS v14 (some (V.int .i64 1)) none) fun v15 =>
  dcP C n_script_number [v15] h fun v16 h1 =>
  oP (some v16) fun v13 =>
  oP (pExt 0 v13) fun v17 =>
  oP (pExt 1 v13) fun v18 =>
  oP (some v17) fun v4 =>
  oP (some v18) fun v5 =>
  Wp C 26 k_script_integer_R4 Q (rset (rset (rset (rset (rset (rset (rset (rset ρ 14 v14) 15 v15) 16 v16) 13 v13) 17 v17) 18 v18) 4 v4) 5 v5) h1) := by kernel_rfl
set_option maxRecDepth 100000 in
theorem e_script_integer_R1 (C : Cfg) (Q : X → Rho → Hp → Prop) (ρ : Rho) (h : Hp) : codeR C 26 k_script_integer_R1 Q ρ h = (
  oP (some (ρ 8)) fun c =>
  bP c (
    oP (some (ρ 0)) fun v9 =>
    dcP C n_script_number [v9] h fun v10 h1 =>
    oP (pExt 0 v10) fun v11 =>
    oP (pExt 1 v10) fun v12 =>
    oP (some v11) fun v2 =>
    oP (some v12) fun v3 =>
    Wp C 26 k_script_integer_R3 Q (rset (rset (rset (rset (rset (rset ρ 9 v9) 10 v10) 11 v11) 12 v12) 2 v2) 3 v3) h1) (
    Q .normal ρ h)) := by kernel_rfl
set_option maxRecDepth 100000 in
theorem e_script_integer_R4 (C : Cfg) (Q : X → Rho → Hp → Prop) (ρ : Rho) (h : Hp) : codeR C 26 k_script_integer_R4 Q ρ h = (
  oP (some (ρ 4)) fun v19 =>
  oP (hun .neg v19) fun v20 =>
  oP (some (ρ 5)) fun v21 =>
  oP (some v21) fun v22 =>
  oP (pGd true v22) fun b4 =>
  oP (gV b4 (some (ρ 4))) fun v23 =>
  oP (pGd true v22) fun b5 =>
  oP (gV b5 (hbin .neq 3 v23 (V.int .i64 0))) fun v24 =>
  oP (pPick v22 v24 (V.bool false)) fun v25 =>
  oP (some v20) fun v2 =>
  oP (some v25) fun v3 =>
  Wp C 26 k_script_integer_R5 Q (rset (rset (rset (rset (rset (rset (rset (rset (rset ρ 19 v19) 20 v20) 21 v21) 22 v22) 23 v23) 24 v24) 25 v25) 2 v2) 3 v3) h) := by kernel_rfl
set_option maxRecDepth 100000 in
theorem e_script_integer_R5 (C : Cfg) (Q : X → Rho → Hp → Prop) (ρ : Rho) (h : Hp) : codeR C 26 k_script_integer_R5 Q ρ h = (
  Q .ret ρ h) := by kernel_rfl
set_option maxRecDepth 100000 in
theorem e_script_integer_R3 (C : Cfg) (Q : X → Rho → Hp → Prop) (ρ : Rho) (h : Hp) : codeR C 26 k_script_integer_R3 Q ρ h = (
  Q .ret ρ h) := by kernel_rfl
theorem f_script_integer {C : Cfg} (hs : C.start = startF) (a0 : V) {h : Hp} {Q : V → Hp → Prop} (hk : C.K n_script_integer [a0] h = none) (H : codeR C 26 k_script_integer (bodyQ [.tmp 2, .tmp 3] Q) (argsR [a0]) h) : cP C n_script_integer [a0] h Q :=
  cP.funcN hs (show P0.funcs[37]? = some Tryz.f37 by unfold P0; exact Tryz.func37) (by kernel_rfl) (by kernel_rfl) (by kernel_rfl) hk (Nat.le_of_ble_eq_true rfl) (Wp.code _ H)
def B_script_integer (C : Cfg) (Q : V → Hp → Prop) (a0 : V) (h : Hp) : Prop :=
  cP C n_strings_HasPrefix [a0, (V.str [45])] h fun v7 h1 =>
  oP (hun .not v7) fun v8 =>
  bP v8 (
  cP C n_script_number [a0] h1 fun v10 h2 =>
  oP (pExt 0 v10) fun v11 =>
  oP (pExt 1 v10) fun v12 =>
  Q (V.tuple [v11, v12]) h2) (
  oP (hsliceS a0 (some (V.int .i64 1)) none) fun v15 =>
  cP C n_script_number [v15] h1 fun v16 h3 =>
  oP (pExt 0 v16) fun v17 =>
  oP (pExt 1 v16) fun v18 =>
  oP (hun .neg v17) fun v20 =>
  oP (pAnd v18 (oB (some v17) fun v23 => hbin .neq 3 v23 (V.int .i64 0))) fun v25 =>
  Q (V.tuple [v20, v25]) h3)
set_option maxRecDepth 100000 in
theorem c_script_integer {C : Cfg} (hs : C.start = startF) {a0 : V} {h : Hp} {Q : V → Hp → Prop} (hk : C.K n_script_integer [a0] h = none) (H : B_script_integer C Q a0 h) : cP C n_script_integer [a0] h Q := by
  unfold B_script_integer at H
  exact f_script_integer hs _ hk ((e_script_integer _ _ _ _).mpr (oSm (oSm (Wp.of (e_script_integer_R0 _ _ _ _) (oSm (dcM H fun v7 h1 H => oM H fun v8 _ H => Wp.of (e_script_integer_R1 _ _ _ _) (oSm (bM H (fun H => oSm (dcM H fun v10 h2 H => oM H fun v11 _ H => oM H fun v12 _ H => oSm (oSm (Wp.of (e_script_integer_R3 _ _ _ _) (H))))) (fun H => Wp.of (e_script_integer_R2 _ _ _ _) (oSm (oM H fun v15 _ H => dcM H fun v16 h3 H => oSm (oM H fun v17 _ H => oM H fun v18 _ H => oSm (oSm (Wp.of (e_script_integer_R4 _ _ _ _) (oSm (oM H fun v20 _ H => oSm (oSm (thn (and_open H) fun H => sG1 H fun b4 Gv23 v23 Ev23 H => oM H fun b5 Gv24 H => oM H fun v24 Ev24 H => oM H fun v25 Ev25 H => oSm (oSm (Wp.of (e_script_integer_R5 _ _ _ _) (H)))))))))))))))))))))
/-! ### turnstone/script.kind -/
noncomputable def k_script_kind : Code := bodyOf Tryz.f20
noncomputable def k_script_kind_R0 : Code := k_script_kind.r
noncomputable def k_script_kind_R1 : Code := k_script_kind.r.l.r
noncomputable def k_script_kind_R2 : Code := k_script_kind.r.r
noncomputable def q_script_kind_0 (C : Cfg) (Q : X → Rho → Hp → Prop) : X → Rho → Hp → Prop := andThen (Wp C 13 k_script_kind_R2 Q) Q
theorem q_script_kind_0_normal (C : Cfg) (Q : X → Rho → Hp → Prop) (ρ : Rho) (h : Hp) : q_script_kind_0 C Q .normal ρ h = Wp C 13 k_script_kind_R2 Q ρ h := rfl
theorem q_script_kind_0_ret (C : Cfg) (Q : X → Rho → Hp → Prop) (ρ : Rho) (h : Hp) : q_script_kind_0 C Q .ret ρ h = Q .ret ρ h := rfl
noncomputable def k_script_kind_L0 : Code := k_script_kind.r.l.r.l.l
noncomputable def q_script_kind_1 (C : Cfg) (Q : X → Rho → Hp → Prop) : X → Rho → Hp → Prop := blockQ 0 Q
theorem q_script_kind_1_normal (C : Cfg) (Q : X → Rho → Hp → Prop) (ρ : Rho) (h : Hp) : q_script_kind_1 C Q .normal ρ h = Q .normal ρ h := rfl
theorem q_script_kind_1_ret (C : Cfg) (Q : X → Rho → Hp → Prop) (ρ : Rho) (h : Hp) : q_script_kind_1 C Q .ret ρ h = Q .ret ρ h := rfl
theorem q_script_kind_1_exit0 (C : Cfg) (Q : X → Rho → Hp → Prop) (ρ : Rho) (h : Hp) : q_script_kind_1 C Q (.exit 0) ρ h = Q .normal ρ h := rfl
noncomputable def k_script_kind_R3 : Code := k_script_kind.r.r.r
noncomputable def k_script_kind_R4 : Code := k_script_kind.r.l.r.l.l.l.r
noncomputable def k_script_kind_R5 : Code := k_script_kind.r.l.r.l.l.r
noncomputable def q_script_kind_2 (C : Cfg) (Q : X → Rho → Hp → Prop) : X → Rho → Hp → Prop := andThen (Wp C 13 k_script_kind_R5 Q) Q
theorem q_script_kind_2_normal (C : Cfg) (Q : X → Rho → Hp → Prop) (ρ : Rho) (h : Hp) : q_script_kind_2 C Q .normal ρ h = Wp C 13 k_script_kind_R5 Q ρ h := rfl
theorem q_script_kind_2_ret (C : Cfg) (Q : X → Rho → Hp → Prop) (ρ : Rho) (h : Hp) : q_script_kind_2 C Q .ret ρ h = Q .ret ρ h := rfl
noncomputable def k_script_kind_R6 : Code := k_script_kind.r.l.r.l.l.r.l.l.r
noncomputable def k_script_kind_R7 : Code := k_script_kind.r.l.r.l.l.r.r
noncomputable def q_script_kind_4 (C : Cfg) (Q : X → Rho → Hp → Prop) : X → Rho → Hp → Prop := andThen (Wp C 13 k_script_kind_R7 Q) Q
theorem q_script_kind_4_normal (C : Cfg) (Q : X → Rho → Hp → Prop) (ρ : Rho) (h : Hp) : q_script_kind_4 C Q .normal ρ h = Wp C 13 k_script_kind_R7 Q ρ h := rfl
theorem q_script_kind_4_ret (C : Cfg) (Q : X → Rho → Hp → Prop) (ρ : Rho) (h : Hp) : q_script_kind_4 C Q .ret ρ h = Q .ret ρ h := rfl
noncomputable def q_script_kind_3 (C : Cfg) (Q : X → Rho → Hp → Prop) : X → Rho → Hp → Prop := blockQ 1 (q_script_kind_4 C Q)
theorem q_script_kind_3_normal (C : Cfg) (Q : X → Rho → Hp → Prop) (ρ : Rho) (h : Hp) : q_script_kind_3 C Q .normal ρ h = Wp C 13 k_script_kind_R7 Q ρ h := rfl
theorem q_script_kind_3_ret (C : Cfg) (Q : X → Rho → Hp → Prop) (ρ : Rho) (h : Hp) : q_script_kind_3 C Q .ret ρ h = Q .ret ρ h := rfl
theorem q_script_kind_3_exit1 (C : Cfg) (Q : X → Rho → Hp → Prop) (ρ : Rho) (h : Hp) : q_script_kind_3 C Q (.exit 1) ρ h = Wp C 13 k_script_kind_R7 Q ρ h := rfl
noncomputable def k_script_kind_R8 : Code := k_script_kind.r.l.r.l.l.r.l.l.r.l.r
noncomputable def q_script_kind_5 (C : Cfg) (Q : X → Rho → Hp → Prop) : X → Rho → Hp → Prop := blockQ 0 (q_script_kind_0 C Q)
theorem q_script_kind_5_normal (C : Cfg) (Q : X → Rho → Hp → Prop) (ρ : Rho) (h : Hp) : q_script_kind_5 C Q .normal ρ h = Wp C 13 k_script_kind_R2 Q ρ h := rfl
theorem q_script_kind_5_ret (C : Cfg) (Q : X → Rho → Hp → Prop) (ρ : Rho) (h : Hp) : q_script_kind_5 C Q .ret ρ h = Q .ret ρ h := rfl
theorem q_script_kind_5_exit0 (C : Cfg) (Q : X → Rho → Hp → Prop) (ρ : Rho) (h : Hp) : q_script_kind_5 C Q (.exit 0) ρ h = Wp C 13 k_script_kind_R2 Q ρ h := rfl
set_option maxRecDepth 100000 in
theorem e_script_kind (C : Cfg) (Q : X → Rho → Hp → Prop) (ρ : Rho) (h : Hp) : codeR C 13 k_script_kind Q ρ h = (
  oP (some (V.int .i64 0)) fun v2 =>
  Wp C 13 k_script_kind_R0 Q (rset ρ 2 v2) h) := by kernel_rfl
set_option maxRecDepth 100000 in
theorem e_script_kind_R0 (C : Cfg) (Q : X → Rho → Hp → Prop) (ρ : Rho) (h : Hp) : codeR C 13 k_script_kind_R0 Q ρ h = (
  oP (some (V.int .i64 1)) fun v3 =>
  Wp C 13 k_script_kind_R1 (q_script_kind_0 C Q) (rset ρ 3 v3) h) := by kernel_rfl
set_option maxRecDepth 100000 in
theorem e_script_kind_R2 (C : Cfg) (Q : X → Rho → Hp → Prop) (ρ : Rho) (h : Hp) : codeR C 13 k_script_kind_R2 Q ρ h = (
  oP (some (V.int .i64 0)) fun v2 =>
  Wp C 13 k_script_kind_R3 Q (rset ρ 2 v2) h) := by kernel_rfl
set_option maxRecDepth 100000 in
theorem e_script_kind_R1 (C : Cfg) (Q : X → Rho → Hp → Prop) (ρ : Rho) (h : Hp) : codeR C 13 k_script_kind_R1 Q ρ h = (
  Wp C 13 (.loop k_script_kind_L0) (q_script_kind_1 C Q) ρ h) := by kernel_rfl
set_option maxRecDepth 100000 in
theorem e_script_kind_R3 (C : Cfg) (Q : X → Rho → Hp → Prop) (ρ : Rho) (h : Hp) : codeR C 13 k_script_kind_R3 Q ρ h = (
  Q .ret ρ h) := by kernel_rfl
set_option maxRecDepth 100000 in
theorem e_script_kind_L0 (C : Cfg) (Q : X → Rho → Hp → Prop) (ρ : Rho) (h : Hp) : codeR C 13 k_script_kind_L0 Q ρ h = (
  oP (some (ρ 3)) fun v4 =>
  oP (hbin .leq 3 v4 (V.int .i64 7)) fun v5 =>
  Wp C 13 k_script_kind_R4 (q_script_kind_2 C Q) (rset (rset ρ 4 v4) 5 v5) h) := by kernel_rfl
set_option maxRecDepth 100000 in
theorem e_script_kind_R5 (C : Cfg) (Q : X → Rho → Hp → Prop) (ρ : Rho) (h : Hp) : codeR C 13 k_script_kind_R5 Q ρ h = (
  oP (some (ρ 3)) fun v8 =>
  dcP C n_script_name [v8] h fun v9 h1 =>
  oP (some (ρ 0)) fun v10 =>
  oP (hbin .eql 9 v9 v10) fun v11 =>
  Wp C 13 k_script_kind_R6 (q_script_kind_3 C Q) (rset (rset (rset (rset ρ 8 v8) 9 v9) 10 v10) 11 v11) h1) := by kernel_rfl
set_option maxRecDepth 100000 in
theorem e_script_kind_R4 (C : Cfg) (Q : X → Rho → Hp → Prop) (ρ : Rho) (h : Hp) : codeR C 13 k_script_kind_R4 Q ρ h = (
  oP (some (ρ 5)) fun c =>
  bP c (
    Q .normal ρ h) (
    Q (.exit 0) ρ h)) := by kernel_rfl
set_option maxRecDepth 100000 in
theorem e_script_kind_R7 (C : Cfg) (Q : X → Rho → Hp → Prop) (ρ : Rho) (h : Hp) : codeR C 13 k_script_kind_R7 Q ρ h = (
  oP (some (ρ 3)) fun v6 =>
  oP (hbin .add 3 v6 (V.int .i64 1)) fun v7 =>
  oP (some v7) fun v3 =>
  Q .normal (rset (rset (rset ρ 6 v6) 7 v7) 3 v3) h) := by kernel_rfl
set_option maxRecDepth 100000 in
theorem e_script_kind_R6 (C : Cfg) (Q : X → Rho → Hp → Prop) (ρ : Rho) (h : Hp) : codeR C 13 k_script_kind_R6 Q ρ h = (
  oP (some (ρ 11)) fun c =>
  bP c (
    oP (some (ρ 3)) fun v12 =>
    oP (some v12) fun v2 =>
    Wp C 13 k_script_kind_R8 Q (rset (rset ρ 12 v12) 2 v2) h) (
    Q .normal ρ h)) := by kernel_rfl
set_option maxRecDepth 100000 in
theorem e_script_kind_R8 (C : Cfg) (Q : X → Rho → Hp → Prop) (ρ : Rho) (h : Hp) : codeR C 13 k_script_kind_R8 Q ρ h = (
  Q .ret ρ h) := by kernel_rfl
theorem f_script_kind {C : Cfg} (hs : C.start = startF) (a0 : V) {h : Hp} {Q : V → Hp → Prop} (hk : C.K n_script_kind [a0] h = none) (H : codeR C 13 k_script_kind (bodyQ [.tmp 2] Q) (argsR [a0]) h) : cP C n_script_kind [a0] h Q :=
  cP.funcN hs (show P0.funcs[20]? = some Tryz.f20 by unfold P0; exact Tryz.func20) (by kernel_rfl) (by kernel_rfl) (by kernel_rfl) hk (Nat.le_of_ble_eq_true rfl) (Wp.code _ H)
def J_script_kind_L0 (C : Cfg) (Q : V → Hp → Prop) (x0 x3 : V) (h : Hp) : Prop := ∀ ρ : Rho, ρ 0 = x0 → ρ 3 = x3 → Wp C 13 (.loop k_script_kind_L0) (q_script_kind_5 C (bodyQ [.tmp 2] Q)) ρ h
def B_script_kind_L0 (C : Cfg) (Q : V → Hp → Prop) (KL0 : V → V → Hp → Prop) (x0 x3 : V) (h : Hp) : Prop :=
  oP (hbin .leq 3 x3 (V.int .i64 7)) fun v5 =>
  bP v5 (
  cP C n_script_name [x3] h fun v9 h1 =>
  oP (hbin .eql 9 v9 x0) fun v11 =>
  bP v11 (
  Q x3 h1) (
  oP (hbin .add 3 x3 (V.int .i64 1)) fun v7 =>
  KL0 x0 v7 h1)) (
  Q (V.int .i64 0) h)
set_option maxRecDepth 100000 in
theorem l_script_kind_L0 {C : Cfg} {Q : V → Hp → Prop} (I : Nat → V → V → Hp → Prop) (step : ∀ (k : Nat) (x0 x3 : V) (h : Hp), I k x0 x3 h → B_script_kind_L0 C Q (fun x0 x3 h => ∃ k', k' < k ∧ I k' x0 x3 h) x0 x3 h) {k : Nat} {x0 x3 : V} {h : Hp} (h0 : I k x0 x3 h) : J_script_kind_L0 C Q x0 x3 h := by
  intro ρ e0 e3
  subst e0
  subst e3
  refine Wp.loopI (fun k ρ h => I k (ρ 0) (ρ 3) h) (fun k ρ h hi => ?_) h0
  have H := step k (ρ 0) (ρ 3) h hi
  unfold B_script_kind_L0 at H
  exact Wp.of (e_script_kind_L0 _ _ _ _) (oSm (oM H fun v5 _ H => Wp.of (e_script_kind_R4 _ _ _ _) (oSm (bM H (fun H => Wp.of (e_script_kind_R5 _ _ _ _) (oSm (dcM H fun v9 h1 H => oSm (oM H fun v11 _ H => Wp.of (e_script_kind_R6 _ _ _ _) (oSm (bM H (fun H => oSm (oSm (Wp.of (e_script_kind_R8 _ _ _ _) (H)))) (fun H => Wp.of (e_script_kind_R7 _ _ _ _) (oSm (oM H fun v7 _ H => oSm (H)))))))))) (fun H => Wp.of (e_script_kind_R2 _ _ _ _) (oSm (Wp.of (e_script_kind_R3 _ _ _ _) (H))))))))
def B_script_kind (C : Cfg) (Q : V → Hp → Prop) (a0 : V) (h : Hp) : Prop :=
  J_script_kind_L0 C Q a0 (V.int .i64 1) h
set_option maxRecDepth 100000 in
theorem c_script_kind {C : Cfg} (hs : C.start = startF) {a0 : V} {h : Hp} {Q : V → Hp → Prop} (hk : C.K n_script_kind [a0] h = none) (H : B_script_kind C Q a0 h) : cP C n_script_kind [a0] h Q := by
  unfold B_script_kind at H
  exact f_script_kind hs _ hk ((e_script_kind _ _ _ _).mpr (oSm (Wp.of (e_script_kind_R0 _ _ _ _) (oSm (Wp.of (e_script_kind_R1 _ _ _ _) (H _ rfl rfl))))))
/-! ### turnstone/script.name -/
noncomputable def k_script_name : Code := bodyOf Tryz.f35
noncomputable def k_script_name_R0 : Code := k_script_name.r
noncomputable def k_script_name_R1 : Code := k_script_name.r.l.r
noncomputable def k_script_name_R2 : Code := k_script_name.r.r
noncomputable def q_script_name_0 (C : Cfg) (Q : X → Rho → Hp → Prop) : X → Rho → Hp → Prop := andThen (Wp C 18 k_script_name_R2 Q) Q
theorem q_script_name_0_normal (C : Cfg) (Q : X → Rho → Hp → Prop) (ρ : Rho) (h : Hp) : q_script_name_0 C Q .normal ρ h = Wp C 18 k_script_name_R2 Q ρ h := rfl
theorem q_script_name_0_ret (C : Cfg) (Q : X → Rho → Hp → Prop) (ρ : Rho) (h : Hp) : q_script_name_0 C Q .ret ρ h = Q .ret ρ h := rfl
noncomputable def k_script_name_R3 : Code := k_script_name.r.l.r.l.r
noncomputable def q_script_name_1 (C : Cfg) (Q : X → Rho → Hp → Prop) : X → Rho → Hp → Prop := blockQ 0 Q
theorem q_script_name_1_normal (C : Cfg) (Q : X → Rho → Hp → Prop) (ρ : Rho) (h : Hp) : q_script_name_1 C Q .normal ρ h = Q .normal ρ h := rfl
theorem q_script_name_1_ret (C : Cfg) (Q : X → Rho → Hp → Prop) (ρ : Rho) (h : Hp) : q_script_name_1 C Q .ret ρ h = Q .ret ρ h := rfl
theorem q_script_name_1_exit0 (C : Cfg) (Q : X → Rho → Hp → Prop) (ρ : Rho) (h : Hp) : q_script_name_1 C Q (.exit 0) ρ h = Q .normal ρ h := rfl
noncomputable def k_script_name_R4 : Code := k_script_name.r.r.r
noncomputable def k_script_name_R5 : Code := k_script_name.r.l.r.l.r.l.r
noncomputable def k_script_name_R6 : Code := k_script_name.r.l.r.l.r.r.r
noncomputable def k_script_name_R7 : Code := k_script_name.r.l.r.l.r.r.r.l.r
noncomputable def k_script_name_R8 : Code := k_script_name.r.l.r.l.r.r.r.r.r
noncomputable def k_script_name_R9 : Code := k_script_name.r.l.r.l.r.r.r.r.r.l.r
noncomputable def k_script_name_R10 : Code := k_script_name.r.l.r.l.r.r.r.r.r.r.r
noncomputable def k_script_name_R11 : Code := k_script_name.r.l.r.l.r.r.r.r.r.r.r.l.r
noncomputable def k_script_name_R12 : Code := k_script_name.r.l.r.l.r.r.r.r.r.r.r.r.r
noncomputable def k_script_name_R13 : Code := k_script_name.r.l.r.l.r.r.r.r.r.r.r.r.r.l.r
noncomputable def k_script_name_R14 : Code := k_script_name.r.l.r.l.r.r.r.r.r.r.r.r.r.r.r
noncomputable def k_script_name_R15 : Code := k_script_name.r.l.r.l.r.r.r.r.r.r.r.r.r.r.r.l.r
noncomputable def k_script_name_R16 : Code := k_script_name.r.l.r.l.r.r.r.r.r.r.r.r.r.r.r.r.r
noncomputable def k_script_name_R17 : Code := k_script_name.r.l.r.l.r.r.r.r.r.r.r.r.r.r.r.r.r.l.r
set_option maxRecDepth 100000 in
theorem e_script_name (C : Cfg) (Q : X → Rho → Hp → Prop) (ρ : Rho) (h : Hp) : codeR C 18 k_script_name Q ρ h = (
  oP (some (V.str [])) fun v2 =>
  Wp C 18 k_script_name_R0 Q (rset ρ 2 v2) h) := by kernel_rfl
set_option maxRecDepth 100000 in
theorem e_script_name_R0 (C : Cfg) (Q : X → Rho → Hp → Prop) (ρ : Rho) (h : Hp) : codeR C 18 k_script_name_R0 Q ρ h = (
  oP (some (ρ 0)) fun v3 =>
  Wp C 18 k_script_name_R1 (q_script_name_0 C Q) (rset ρ 3 v3) h) := by kernel_rfl
set_option maxRecDepth 100000 in
theorem e_script_name_R2 (C : Cfg) (Q : X → Rho → Hp → Prop) (ρ : Rho) (h : Hp) : codeR C 18 k_script_name_R2 Q ρ h = (
  oP (some (V.str [])) fun v2 =>
  Wp C 18 k_script_name_R4 Q (rset ρ 2 v2) h) := by kernel_rfl
set_option maxRecDepth 100000 in
theorem e_script_name_R1 (C : Cfg) (Q : X → Rho → Hp → Prop) (ρ : Rho) (h : Hp) : codeR C 18 k_script_name_R1 Q ρ h = (
  oP (hbin .eql 3 (ρ 3) (V.int .i64 1)) fun v5 =>
  oP (some v5) fun v4 =>
  Wp C 18 k_script_name_R3 (q_script_name_1 C Q) (rset (rset ρ 5 v5) 4 v4) h) := by kernel_rfl
set_option maxRecDepth 100000 in
theorem e_script_name_R4 (C : Cfg) (Q : X → Rho → Hp → Prop) (ρ : Rho) (h : Hp) : codeR C 18 k_script_name_R4 Q ρ h = (
  Q .ret ρ h) := by kernel_rfl
set_option maxRecDepth 100000 in
theorem e_script_name_R3 (C : Cfg) (Q : X → Rho → Hp → Prop) (ρ : Rho) (h : Hp) : codeR C 18 k_script_name_R3 Q ρ h = (
  oP (some (ρ 4)) fun c =>
  bP c (
    oP (some (V.str [115, 116, 101, 112])) fun v2 =>
    Wp C 18 k_script_name_R5 Q (rset ρ 2 v2) h) (
    oP (hbin .eql 3 (ρ 3) (V.int .i64 2)) fun v7 =>
    oP (some v7) fun v6 =>
    Wp C 18 k_script_name_R6 Q (rset (rset ρ 7 v7) 6 v6) h)) := by kernel_rfl
set_option maxRecDepth 100000 in
theorem e_script_name_R5 (C : Cfg) (Q : X → Rho → Hp → Prop) (ρ : Rho) (h : Hp) : codeR C 18 k_script_name_R5 Q ρ h = (
  Q .ret ρ h) := by kernel_rfl
set_option maxRecDepth 100000 in
theorem e_script_name_R6 (C : Cfg) (Q : X → Rho → Hp → Prop) (ρ : Rho) (h : Hp) : codeR C 18 k_script_name_R6 Q ρ h = (
  oP (some (ρ 6)) fun c =>
  bP c (
    oP (some (V.str [99, 111, 109, 112, 105, 108, 101])) fun v2 =>
    Wp C 18 k_script_name_R7 Q (rset ρ 2 v2) h) (
    oP (hbin .eql 3 (ρ 3) (V.int .i64 3)) fun v9 =>
    oP (some v9) fun v8 =>
    Wp C 18 k_script_name_R8 Q (rset (rset ρ 9 v9) 8 v8) h)) := by kernel_rfl
set_option maxRecDepth 100000 in
theorem e_script_name_R7 (C : Cfg) (Q : X → Rho → Hp → Prop) (ρ : Rho) (h : Hp) : codeR C 18 k_script_name_R7 Q ρ h = (
  Q .ret ρ h) := by kernel_rfl
set_option maxRecDepth 100000 in
theorem e_script_name_R8 (C : Cfg) (Q : X → Rho → Hp → Prop) (ρ : Rho) (h : Hp) : codeR C 18 k_script_name_R8 Q ρ h = (
  oP (some (ρ 8)) fun c =>
  bP c (
    oP (some (V.str [101, 110, 116, 101, 114])) fun v2 =>
    Wp C 18 k_script_name_R9 Q (rset ρ 2 v2) h) (
    oP (hbin .eql 3 (ρ 3) (V.int .i64 4)) fun v11 =>
    oP (some v11) fun v10 =>
    Wp C 18 k_script_name_R10 Q (rset (rset ρ 11 v11) 10 v10) h)) := by kernel_rfl
set_option maxRecDepth 100000 in
theorem e_script_name_R9 (C : Cfg) (Q : X → Rho → Hp → Prop) (ρ : Rho) (h : Hp) : codeR C 18 k_script_name_R9 Q ρ h = (
  Q .ret ρ h) := by kernel_rfl
set_option maxRecDepth 100000 in
theorem e_script_name_R10 (C : Cfg) (Q : X → Rho → Hp → Prop) (ρ : Rho) (h : Hp) : codeR C 18 k_script_name_R10 Q ρ h = (
  oP (some (ρ 10)) fun c =>
  bP c (
    oP (some (V.str [101, 118, 105, 99, 116])) fun v2 =>
    Wp C 18 k_script_name_R11 Q (rset ρ 2 v2) h) (
    oP (hbin .eql 3 (ρ 3) (V.int .i64 5)) fun v13 =>
    oP (some v13) fun v12 =>
    Wp C 18 k_script_name_R12 Q (rset (rset ρ 13 v13) 12 v12) h)) := by kernel_rfl
set_option maxRecDepth 100000 in
theorem e_script_name_R11 (C : Cfg) (Q : X → Rho → Hp → Prop) (ρ : Rho) (h : Hp) : codeR C 18 k_script_name_R11 Q ρ h = (
  Q .ret ρ h) := by kernel_rfl
set_option maxRecDepth 100000 in
theorem e_script_name_R12 (C : Cfg) (Q : X → Rho → Hp → Prop) (ρ : Rho) (h : Hp) : codeR C 18 k_script_name_R12 Q ρ h = (
  oP (some (ρ 12)) fun c =>
  bP c (
    oP (some (V.str [105, 110, 118, 97, 108, 105, 100, 97, 116, 101])) fun v2 =>
    Wp C 18 k_script_name_R13 Q (rset ρ 2 v2) h) (
    oP (hbin .eql 3 (ρ 3) (V.int .i64 6)) fun v15 =>
    oP (some v15) fun v14 =>
    Wp C 18 k_script_name_R14 Q (rset (rset ρ 15 v15) 14 v14) h)) := by kernel_rfl
set_option maxRecDepth 100000 in
theorem e_script_name_R13 (C : Cfg) (Q : X → Rho → Hp → Prop) (ρ : Rho) (h : Hp) : codeR C 18 k_script_name_R13 Q ρ h = (
  Q .ret ρ h) := by kernel_rfl
set_option maxRecDepth 100000 in
theorem e_script_name_R14 (C : Cfg) (Q : X → Rho → Hp → Prop) (ρ : Rho) (h : Hp) : codeR C 18 k_script_name_R14 Q ρ h = (
  oP (some (ρ 14)) fun c =>
  bP c (
    oP (some (V.str [99, 111, 117, 110, 116])) fun v2 =>
    Wp C 18 k_script_name_R15 Q (rset ρ 2 v2) h) (
    oP (hbin .eql 3 (ρ 3) (V.int .i64 7)) fun v17 =>
    oP (some v17) fun v16 =>
    Wp C 18 k_script_name_R16 Q (rset (rset ρ 17 v17) 16 v16) h)) := by kernel_rfl
set_option maxRecDepth 100000 in
theorem e_script_name_R15 (C : Cfg) (Q : X → Rho → Hp → Prop) (ρ : Rho) (h : Hp) : codeR C 18 k_script_name_R15 Q ρ h = (
  Q .ret ρ h) := by kernel_rfl
set_option maxRecDepth 100000 in
theorem e_script_name_R16 (C : Cfg) (Q : X → Rho → Hp → Prop) (ρ : Rho) (h : Hp) : codeR C 18 k_script_name_R16 Q ρ h = (
  oP (some (ρ 16)) fun c =>
  bP c (
    oP (some (V.str [97, 117, 116, 111])) fun v2 =>
    Wp C 18 k_script_name_R17 Q (rset ρ 2 v2) h) (
    Q .normal ρ h)) := by kernel_rfl
set_option maxRecDepth 100000 in
theorem e_script_name_R17 (C : Cfg) (Q : X → Rho → Hp → Prop) (ρ : Rho) (h : Hp) : codeR C 18 k_script_name_R17 Q ρ h = (
  Q .ret ρ h) := by kernel_rfl
theorem f_script_name {C : Cfg} (hs : C.start = startF) (a0 : V) {h : Hp} {Q : V → Hp → Prop} (hk : C.K n_script_name [a0] h = none) (H : codeR C 18 k_script_name (bodyQ [.tmp 2] Q) (argsR [a0]) h) : cP C n_script_name [a0] h Q :=
  cP.funcN hs (show P0.funcs[35]? = some Tryz.f35 by unfold P0; exact Tryz.func35) (by kernel_rfl) (by kernel_rfl) (by kernel_rfl) hk (Nat.le_of_ble_eq_true rfl) (Wp.code _ H)
def B_script_name (C : Cfg) (Q : V → Hp → Prop) (a0 : V) (h : Hp) : Prop :=
  oP (hbin .eql 3 a0 (V.int .i64 1)) fun v5 =>
  bP v5 (
  Q (V.str [115, 116, 101, 112]) h) (
  oP (hbin .eql 3 a0 (V.int .i64 2)) fun v7 =>
  bP v7 (
  Q (V.str [99, 111, 109, 112, 105, 108, 101]) h) (
  oP (hbin .eql 3 a0 (V.int .i64 3)) fun v9 =>
  bP v9 (
  Q (V.str [101, 110, 116, 101, 114]) h) (
  oP (hbin .eql 3 a0 (V.int .i64 4)) fun v11 =>
  bP v11 (
  Q (V.str [101, 118, 105, 99, 116]) h) (
  oP (hbin .eql 3 a0 (V.int .i64 5)) fun v13 =>
  bP v13 (
  Q (V.str [105, 110, 118, 97, 108, 105, 100, 97, 116, 101]) h) (
  oP (hbin .eql 3 a0 (V.int .i64 6)) fun v15 =>
  bP v15 (
  Q (V.str [99, 111, 117, 110, 116]) h) (
  oP (hbin .eql 3 a0 (V.int .i64 7)) fun v17 =>
  bP v17 (
  Q (V.str [97, 117, 116, 111]) h) (
  Q (V.str []) h)))))))
set_option maxRecDepth 100000 in
theorem c_script_name {C : Cfg} (hs : C.start = startF) {a0 : V} {h : Hp} {Q : V → Hp → Prop} (hk : C.K n_script_name [a0] h = none) (H : B_script_name C Q a0 h) : cP C n_script_name [a0] h Q := by
  unfold B_script_name at H
  exact f_script_name hs _ hk ((e_script_name _ _ _ _).mpr (oSm (Wp.of (e_script_name_R0 _ _ _ _) (oSm (Wp.of (e_script_name_R1 _ _ _ _) (oM H fun v5 _ H => oSm (Wp.of (e_script_name_R3 _ _ _ _) (oSm (bM H (fun H => oSm (Wp.of (e_script_name_R5 _ _ _ _) (H))) (fun H => oM H fun v7 _ H => oSm (Wp.of (e_script_name_R6 _ _ _ _) (oSm (bM H (fun H => oSm (Wp.of (e_script_name_R7 _ _ _ _) (H))) (fun H => oM H fun v9 _ H => oSm (Wp.of (e_script_name_R8 _ _ _ _) (oSm (bM H (fun H => oSm (Wp.of (e_script_name_R9 _ _ _ _) (H))) (fun H => oM H fun v11 _ H => oSm (Wp.of (e_script_name_R10 _ _ _ _) (oSm (bM H (fun H => oSm (Wp.of (e_script_name_R11 _ _ _ _) (H))) (fun H => oM H fun v13 _ H => oSm (Wp.of (e_script_name_R12 _ _ _ _) (oSm (bM H (fun H => oSm (Wp.of (e_script_name_R13 _ _ _ _) (H))) (fun H => oM H fun v15 _ H => oSm (Wp.of (e_script_name_R14 _ _ _ _) (oSm (bM H (fun H => oSm (Wp.of (e_script_name_R15 _ _ _ _) (H))) (fun H => oM H fun v17 _ H => oSm (Wp.of (e_script_name_R16 _ _ _ _) (oSm (bM H (fun H => oSm (Wp.of (e_script_name_R17 _ _ _ _) (H))) (fun H => Wp.of (e_script_name_R2 _ _ _ _) (oSm (Wp.of (e_script_name_R4 _ _ _ _) (H)))))))))))))))))))))))))))))))))))))
/-! ### (turnstone/script.words).next -/
noncomputable def k_script_words_next : Code := bodyOf Tryz.f21
noncomputable def k_script_words_next_R0 : Code := k_script_words_next.r
noncomputable def k_script_words_next_R1 : Code := k_script_words_next.r.l.r
noncomputable def k_script_words_next_R2 : Code := k_script_words_next.r.r
noncomputable def q_script_words_next_0 (C : Cfg) (Q : X → Rho → Hp → Prop) : X → Rho → Hp → Prop := andThen (Wp C 28 k_script_words_next_R2 Q) Q
theorem q_script_words_next_0_normal (C : Cfg) (Q : X → Rho → Hp → Prop) (ρ : Rho) (h : Hp) : q_script_words_next_0 C Q .normal ρ h = Wp C 28 k_script_words_next_R2 Q ρ h := rfl
theorem q_script_words_next_0_ret (C : Cfg) (Q : X → Rho → Hp → Prop) (ρ : Rho) (h : Hp) : q_script_words_next_0 C Q .ret ρ h = Q .ret ρ h := rfl
noncomputable def k_script_words_next_R3 : Code := k_script_words_next.r.l.r.l.r
noncomputable def k_script_words_next_R4 : Code := k_script_words_next.r.r.r
noncomputable def k_script_words_next_R5 : Code := k_script_words_next.r.l.r.l.r.r
noncomputable def k_script_words_next_R6 : Code := k_script_words_next.r.r.r.r
noncomputable def k_script_words_next_R7 : Code := k_script_words_next.r.r.r.r.r
set_option maxRecDepth 100000 in
theorem e_script_words_next (C : Cfg) (Q : X → Rho → Hp → Prop) (ρ : Rho) (h : Hp) : codeR C 28 k_script_words_next Q ρ h = (
  oP (some (V.str [])) fun v2 =>
  Wp C 28 k_script_words_next_R0 Q (rset ρ 2 v2) h) := by kernel_rfl
set_option maxRecDepth 100000 in
theorem e_script_words_next_R0 (C : Cfg) (Q : X → Rho → Hp → Prop) (ρ : Rho) (h : Hp) : codeR C 28 k_script_words_next_R0 Q ρ h = (
  oP (some (ρ 0)) fun v4 =>
  oP (pNil v4) fun v5 =>
  oP (pFA 0 v5) fun v6 =>
  oP (pLd v6 h) fun v7 =>
  oP (pLen v7) fun v8 =>
  oP (hbin .eql 3 v8 (V.int .i64 0)) fun v9 =>
  Wp C 28 k_script_words_next_R1 (q_script_words_next_0 C Q) (rset (rset (rset (rset (rset (rset ρ 4 v4) 5 v5) 6 v6) 7 v7) 8 v8) 9 v9) h) := by kernel_rfl
set_option maxRecDepth 100000 in
theorem e_script_words_next_R2 (C : Cfg) (Q : X → Rho → Hp → Prop) (ρ : Rho) (h : Hp) : codeR C 28 k_script_words_next_R2 Q ρ h = (
  oP (some (ρ 0)) fun v13 =>
  oP (pNil v13) fun v14 =>
  oP (pFA 0 v14) fun v15 =>
  oP (pLd v15 h) fun v16 =>
  oP (pIx 1 v16 (V.int .i64 0)) fun v17 =>
  oP (pLd v17 h) fun v18 =>
  oP (some v18) fun v3 =>
  Wp C 28 k_script_words_next_R4 Q (rset (rset (rset (rset (rset (rset (rset ρ 13 v13) 14 v14) 15 v15) 16 v16) 17 v17) 18 v18) 3 v3) h) := by kernel_rfl
set_option maxRecDepth 100000 in
theorem e_script_words_next_R1 (C : Cfg) (Q : X → Rho → Hp → Prop) (ρ : Rho) (h : Hp) : codeR C 28 k_script_words_next_R1 Q ρ h = (
  oP (some (ρ 9)) fun c =>
  bP c (
    oP (some (ρ 0)) fun v10 =>
    oP (pNil v10) fun v11 =>
    oP (pFA 1 v11) fun v12 =>
    valP (pSt 1 v12 (V.bool false) h) fun vu h1 =>
    Wp C 28 k_script_words_next_R3 Q (rset (rset (rset ρ 10 v10) 11 v11) 12 v12) h1) (
    Q .normal ρ h)) := by kernel_rfl
set_option maxRecDepth 100000 in
theorem e_script_words_next_R4 (C : Cfg) (Q : X → Rho → Hp → Prop) (ρ : Rho) (h : Hp) : codeR C 28 k_script_words_next_R4 Q ρ h = (
  oP (some (ρ 0)) fun v19 =>
  oP (some (ρ 0)) fun v20 =>
  oP (pNil v20) fun v21 =>
  oP (pFA 0 v21) fun v22 =>
  oP (pLd v22 h) fun v23 =>
  oP (hsliceV 1 v23 (some (V.int .i64 1)) none h) fun v24 =>
  oP (pNil v19) fun v25 =>
  oP (pFA 0 v25) fun v26 =>
  valP (pSt 1 v26 v24 h) fun vu h1 =>
  Wp C 28 k_script_words_next_R6 Q (rset (rset (rset (rset (rset (rset (rset (rset ρ 19 v19) 20 v20) 21 v21) 22 v22) 23 v23) 24 v24) 25 v25) 26 v26) h1) := by kernel_rfl
set_option maxRecDepth 100000 in
theorem e_script_words_next_R6 (C : Cfg) (Q : X → Rho → Hp → Prop) (ρ : Rho) (h : Hp) : codeR C 28 k_script_words_next_R6 Q ρ h = (
  oP (some (ρ 3)) fun v27 =>
  oP (some v27) fun v2 =>
  Wp C 28 k_script_words_next_R7 Q (rset (rset ρ 27 v27) 2 v2) h) := by kernel_rfl
set_option maxRecDepth 100000 in
theorem e_script_words_next_R3 (C : Cfg) (Q : X → Rho → Hp → Prop) (ρ : Rho) (h : Hp) : codeR C 28 k_script_words_next_R3 Q ρ h = (
  oP (some (V.str [])) fun v2 =>
  Wp C 28 k_script_words_next_R5 Q (rset ρ 2 v2) h) := by kernel_rfl
set_option maxRecDepth 100000 in
theorem e_script_words_next_R7 (C : Cfg) (Q : X → Rho → Hp → Prop) (ρ : Rho) (h : Hp) : codeR C 28 k_script_words_next_R7 Q ρ h = (
  Q .ret ρ h) := by kernel_rfl
set_option maxRecDepth 100000 in
theorem e_script_words_next_R5 (C : Cfg) (Q : X → Rho → Hp → Prop) (ρ : Rho) (h : Hp) : codeR C 28 k_script_words_next_R5 Q ρ h = (
  Q .ret ρ h) := by kernel_rfl
theorem f_script_words_next {C : Cfg} (hs : C.start = startF) (a0 : V) {h : Hp} {Q : V → Hp → Prop} (hk : C.K n_script_words_next [a0] h = none) (H : codeR C 28 k_script_words_next (bodyQ [.tmp 2] Q) (argsR [a0]) h) : cP C n_script_words_next [a0] h Q :=
  cP.funcN hs (show P0.funcs[21]? = some Tryz.f21 by unfold P0; exact Tryz.func21) (by kernel_rfl) (by kernel_rfl) (by kernel_rfl) hk (Nat.le_of_ble_eq_true rfl) (Wp.code _ H)
def B_script_words_next (C : Cfg) (Q : V → Hp → Prop) (a0 : V) (h : Hp) : Prop :=
  oP (pNil a0) fun v5 =>
  oP (pFA 0 v5) fun v6 =>
  oP (pLd v6 h) fun v7 =>
  oP (pLen v7) fun v8 =>
  oP (hbin .eql 3 v8 (V.int .i64 0)) fun v9 =>
  bP v9 (
  oP (pNil a0) fun v11 =>
  oP (pFA 1 v11) fun v12 =>
  valP (pSt 1 v12 (V.bool false) h) fun vu h1 =>
  Q (V.str []) h1) (
  oP (pNil a0) fun v14 =>
  oP (pFA 0 v14) fun v15 =>
  oP (pLd v15 h) fun v16 =>
  oP (pIx 1 v16 (V.int .i64 0)) fun v17 =>
  oP (pLd v17 h) fun v18 =>
  oP (pNil a0) fun v21 =>
  oP (pFA 0 v21) fun v22 =>
  oP (pLd v22 h) fun v23 =>
  oP (hsliceV 1 v23 (some (V.int .i64 1)) none h) fun v24 =>
  oP (pNil a0) fun v25 =>
  oP (pFA 0 v25) fun v26 =>
  valP (pSt 1 v26 v24 h) fun vu_1 h2 =>
  Q v18 h2)
set_option maxRecDepth 100000 in
theorem c_script_words_next {C : Cfg} (hs : C.start = startF) {a0 : V} {h : Hp} {Q : V → Hp → Prop} (hk : C.K n_script_words_next [a0] h = none) (H : B_script_words_next C Q a0 h) : cP C n_script_words_next [a0] h Q := by
  unfold B_script_words_next at H
  exact f_script_words_next hs _ hk ((e_script_words_next _ _ _ _).mpr (oSm (Wp.of (e_script_words_next_R0 _ _ _ _) (oSm (oM H fun v5 _ H => oM H fun v6 _ H => oM H fun v7 _ H => oM H fun v8 _ H => oM H fun v9 _ H => Wp.of (e_script_words_next_R1 _ _ _ _) (oSm (bM H (fun H => oSm (oM H fun v11 _ H => oM H fun v12 _ H => valM H fun vu h1 H => Wp.of (e_script_words_next_R3 _ _ _ _) (oSm (Wp.of (e_script_words_next_R5 _ _ _ _) (H))))) (fun H => Wp.of (e_script_words_next_R2 _ _ _ _) (oSm (oM H fun v14 _ H => oM H fun v15 _ H => oM H fun v16 _ H => oM H fun v17 _ H => oM H fun v18 _ H => oSm (Wp.of (e_script_words_next_R4 _ _ _ _) (oSm (oSm (oM H fun v21 _ H => oM H fun v22 _ H => oM H fun v23 _ H => oM H fun v24 _ H => oM H fun v25 _ H => oM H fun v26 _ H => valM H fun vu_1 h2 H => Wp.of (e_script_words_next_R6 _ _ _ _) (oSm (oSm (Wp.of (e_script_words_next_R7 _ _ _ _) (H))))))))))))))))))
/-! ### (turnstone/script.words).int -/
noncomputable def k_script_words_int : Code := bodyOf Tryz.f23
noncomputable def k_script_words_int_R0 : Code := k_script_words_int.r
noncomputable def k_script_words_int_R1 : Code := k_script_words_int.r.r
noncomputable def k_script_words_int_R2 : Code := k_script_words_int.r.r.r
noncomputable def k_script_words_int_R3 : Code := k_script_words_int.r.r.r.l.r
noncomputable def k_script_words_int_R4 : Code := k_script_words_int.r.r.r.r
noncomputable def q_script_words_int_0 (C : Cfg) (Q : X → Rho → Hp → Prop) : X → Rho → Hp → Prop := andThen (Wp C 24 k_script_words_int_R4 Q) Q
theorem q_script_words_int_0_normal (C : Cfg) (Q : X → Rho → Hp → Prop) (ρ : Rho) (h : Hp) : q_script_words_int_0 C Q .normal ρ h = Wp C 24 k_script_words_int_R4 Q ρ h := rfl
theorem q_script_words_int_0_ret (C : Cfg) (Q : X → Rho → Hp → Prop) (ρ : Rho) (h : Hp) : q_script_words_int_0 C Q .ret ρ h = Q .ret ρ h := rfl
noncomputable def k_script_words_int_R5 : Code := k_script_words_int.r.r.r.l.r.l.r
noncomputable def k_script_words_int_R6 : Code := k_script_words_int.r.r.r.r.r
set_option maxRecDepth 100000 in
theorem e_script_words_int (C : Cfg) (Q : X → Rho → Hp → Prop) (ρ : Rho) (h : Hp) : codeR C 24 k_script_words_int Q ρ h = (
  oP (some (V.int .i64 0)) fun v2 =>
  Wp C 24 k_script_words_int_R0 Q (rset ρ 2 v2) h) := by kernel_rfl
set_option maxRecDepth 100000 in
theorem e_script_words_int_R0 (C : Cfg) (Q : X → Rho → Hp → Prop) (ρ : Rho) (h : Hp) : codeR C 24 k_script_words_int_R0 Q ρ h = (
  oP (some (ρ 0)) fun v6 =>
  dcP C n_script_words_next [v6] h fun v7 h1 =>
  dcP C n_script_integer [v7] h1 fun v8 h2 =>
  oP (some v8) fun v5 =>
  oP (pExt 0 v5) fun v9 =>
  oP (pExt 1 v5) fun v10 =>
  oP (some v9) fun v3 =>
  oP (some v10) fun v4 =>
  Wp C 24 k_script_words_int_R1 Q (rset (rset (rset (rset (rset (rset (rset (rset ρ 6 v6) 7 v7) 8 v8) 5 v5) 9 v9) 10 v10) 3 v3) 4 v4) h2) := by kernel_rfl
set_option maxRecDepth 100000 in
theorem e_script_words_int_R1 (C : Cfg) (Q : X → Rho → Hp → Prop) (ρ : Rho) (h : Hp) : codeR C 24 k_script_words_int_R1 Q ρ h = (
  oP (some (ρ 0)) fun v11 =>
  oP (some (ρ 0)) fun v12 =>
  oP (pNil v12) fun v13 =>
  oP (pFA 1 v13) fun v14 =>
  oP (pLd v14 h) fun v15 =>
  oP (some v15) fun v16 =>
  oP (pGd true v16) fun b6 =>
  oP (gV b6 (some (ρ 4))) fun v17 =>
  oP (pPick v16 v17 (V.bool false)) fun v18 =>
  oP (pNil v11) fun v19 =>
  oP (pFA 1 v19) fun v20 =>
  valP (pSt 1 v20 v18 h) fun vu h1 =>
  Wp C 24 k_script_words_int_R2 Q (rset (rset (rset (rset (rset (rset (rset (rset (rset (rset ρ 11 v11) 12 v12) 13 v13) 14 v14) 15 v15) 16 v16) 17 v17) 18 v18) 19 v19) 20 v20) h1) := by kernel_rfl
set_option maxRecDepth 100000 in
theorem e_script_words_int_R2 (C : Cfg) (Q : X → Rho → Hp → Prop) (ρ : Rho) (h : Hp) : codeR C 24 k_script_words_int_R2 Q ρ h = (
  oP (some (ρ 4)) fun v21 =>
  oP (hun .not v21) fun v22 =>
  Wp C 24 k_script_words_int_R3 (q_script_words_int_0 C Q) (rset (rset ρ 21 v21) 22 v22) h) := by kernel_rfl
set_option maxRecDepth 100000 in
theorem e_script_words_int_R4 (C : Cfg) (Q : X → Rho → Hp → Prop) (ρ : Rho) (h : Hp) : codeR C 24 k_script_words_int_R4 Q ρ h = (
  oP (some (ρ 3)) fun v23 =>
  oP (some v23) fun v2 =>
  Wp C 24 k_script_words_int_R6 Q (rset (rset ρ 23 v23) 2 v2) h) := by kernel_rfl
set_option maxRecDepth 100000 in
theorem e_script_words_int_R3 (C : Cfg) (Q : X → Rho → Hp → Prop) (ρ : Rho) (h : Hp) : codeR C 24 k_script_words_int_R3 Q ρ h = (
  oP (some (ρ 22)) fun c =>
  bP c (
    oP (some (V.int .i64 0)) fun v2 =>
    Wp C 24 k_script_words_int_R5 Q (rset ρ 2 v2) h) (
    Q .normal ρ h)) := by kernel_rfl
set_option maxRecDepth 100000 in
theorem e_script_words_int_R6 (C : Cfg) (Q : X → Rho → Hp → Prop) (ρ : Rho) (h : Hp) : codeR C 24 k_script_words_int_R6 Q ρ h = (
  Q .ret ρ h) := by kernel_rfl
set_option maxRecDepth 100000 in
theorem e_script_words_int_R5 (C : Cfg) (Q : X → Rho → Hp → Prop) (ρ : Rho) (h : Hp) : codeR C 24 k_script_words_int_R5 Q ρ h = (
  Q .ret ρ h) := by kernel_rfl
theorem f_script_words_int {C : Cfg} (hs : C.start = startF) (a0 : V) {h : Hp} {Q : V → Hp → Prop} (hk : C.K n_script_words_int [a0] h = none) (H : codeR C 24 k_script_words_int (bodyQ [.tmp 2] Q) (argsR [a0]) h) : cP C n_script_words_int [a0] h Q :=
  cP.funcN hs (show P0.funcs[23]? = some Tryz.f23 by unfold P0; exact Tryz.func23) (by kernel_rfl) (by kernel_rfl) (by kernel_rfl) hk (Nat.le_of_ble_eq_true rfl) (Wp.code _ H)
def B_script_words_int (C : Cfg) (Q : V → Hp → Prop) (a0 : V) (h : Hp) : Prop :=
  cP C n_script_words_next [a0] h fun v7 h1 =>
  cP C n_script_integer [v7] h1 fun v8 h2 =>
  oP (pExt 0 v8) fun v9 =>
  oP (pExt 1 v8) fun v10 =>
  oP (pNil a0) fun v13 =>
  oP (pFA 1 v13) fun v14 =>
  oP (pLd v14 h2) fun v15 =>
  oP (pAnd v15 (some v10)) fun v18 =>
  oP (pNil a0) fun v19 =>
  oP (pFA 1 v19) fun v20 =>
  valP (pSt 1 v20 v18 h2) fun vu h3 =>
  oP (hun .not v10) fun v22 =>
  bP v22 (
  Q (V.int .i64 0) h3) (
  Q v9 h3)
set_option maxRecDepth 100000 in
theorem c_script_words_int {C : Cfg} (hs : C.start = startF) {a0 : V} {h : Hp} {Q : V → Hp → Prop} (hk : C.K n_script_words_int [a0] h = none) (H : B_script_words_int C Q a0 h) : cP C n_script_words_int [a0] h Q := by
  unfold B_script_words_int at H
  exact f_script_words_int hs _ hk ((e_script_words_int _ _ _ _).mpr (oSm (Wp.of (e_script_words_int_R0 _ _ _ _) (oSm (dcM H fun v7 h1 H => dcM H fun v8 h2 H => oSm (oM H fun v9 _ H => oM H fun v10 _ H => oSm (oSm (Wp.of (e_script_words_int_R1 _ _ _ _) (oSm (oSm (oM H fun v13 _ H => oM H fun v14 _ H => oM H fun v15 _ H => oSm (thn (and_open H) fun H => oM H fun b6 Gv17 H => oM H fun v17 Ev17 H => oM H fun v18 Ev18 H => oM H fun v19 _ H => oM H fun v20 _ H => valM H fun vu h3 H => Wp.of (e_script_words_int_R2 _ _ _ _) (oSm (oM H fun v22 _ H => Wp.of (e_script_words_int_R3 _ _ _ _) (oSm (bM H (fun H => oSm (Wp.of (e_script_words_int_R5 _ _ _ _) (H))) (fun H => Wp.of (e_script_words_int_R4 _ _ _ _) (oSm (oSm (Wp.of (e_script_words_int_R6 _ _ _ _) (H)))))))))))))))))))))
/-! ### (turnstone/script.words).row -/
noncomputable def k_script_words_row : Code := bodyOf Tryz.f22
noncomputable def k_script_words_row_R0 : Code := k_script_words_row.r
noncomputable def k_script_words_row_L0 : Code := k_script_words_row.r.l.l
noncomputable def q_script_words_row_0 (C : Cfg) (Q : X → Rho → Hp → Prop) : X → Rho → Hp → Prop := blockQ 0 Q
theorem q_script_words_row_0_normal (C : Cfg) (Q : X → Rho → Hp → Prop) (ρ : Rho) (h : Hp) : q_script_words_row_0 C Q .normal ρ h = Q .normal ρ h := rfl
theorem q_script_words_row_0_ret (C : Cfg) (Q : X → Rho → Hp → Prop) (ρ : Rho) (h : Hp) : q_script_words_row_0 C Q .ret ρ h = Q .ret ρ h := rfl
theorem q_script_words_row_0_exit0 (C : Cfg) (Q : X → Rho → Hp → Prop) (ρ : Rho) (h : Hp) : q_script_words_row_0 C Q (.exit 0) ρ h = Q .normal ρ h := rfl
noncomputable def k_script_words_row_R1 : Code := k_script_words_row.r.l.l.r
noncomputable def k_script_words_row_R2 : Code := k_script_words_row.r.l.l.r.r
noncomputable def k_script_words_row_R3 : Code := k_script_words_row.r.l.l.r.r.l.l.r
noncomputable def k_script_words_row_R4 : Code := k_script_words_row.r.l.l.r.r.r
noncomputable def q_script_words_row_2 (C : Cfg) (Q : X → Rho → Hp → Prop) : X → Rho → Hp → Prop := andThen (Wp C 19 k_script_words_row_R4 Q) Q
theorem q_script_words_row_2_normal (C : Cfg) (Q : X → Rho → Hp → Prop) (ρ : Rho) (h : Hp) : q_script_words_row_2 C Q .normal ρ h = Wp C 19 k_script_words_row_R4 Q ρ h := rfl
theorem q_script_words_row_2_ret (C : Cfg) (Q : X → Rho → Hp → Prop) (ρ : Rho) (h : Hp) : q_script_words_row_2 C Q .ret ρ h = Q .ret ρ h := rfl
noncomputable def q_script_words_row_1 (C : Cfg) (Q : X → Rho → Hp → Prop) : X → Rho → Hp → Prop := blockQ 1 (q_script_words_row_2 C Q)
theorem q_script_words_row_1_normal (C : Cfg) (Q : X → Rho → Hp → Prop) (ρ : Rho) (h : Hp) : q_script_words_row_1 C Q .normal ρ h = Wp C 19 k_script_words_row_R4 Q ρ h := rfl
theorem q_script_words_row_1_ret (C : Cfg) (Q : X → Rho → Hp → Prop) (ρ : Rho) (h : Hp) : q_script_words_row_1 C Q .ret ρ h = Q .ret ρ h := rfl
theorem q_script_words_row_1_exit1 (C : Cfg) (Q : X → Rho → Hp → Prop) (ρ : Rho) (h : Hp) : q_script_words_row_1 C Q (.exit 1) ρ h = Wp C 19 k_script_words_row_R4 Q ρ h := rfl
set_option maxRecDepth 100000 in
theorem e_script_words_row (C : Cfg) (Q : X → Rho → Hp → Prop) (ρ : Rho) (h : Hp) : codeR C 19 k_script_words_row Q ρ h = (
  oP (some (ρ 2)) fun v8 =>
  oP (pLen v8) fun v9 =>
  oP (some (V.int .i64 0)) fun v10 =>
  Wp C 19 k_script_words_row_R0 Q (rset (rset (rset ρ 8 v8) 9 v9) 10 v10) h) := by kernel_rfl
set_option maxRecDepth 100000 in
theorem e_script_words_row_R0 (C : Cfg) (Q : X → Rho → Hp → Prop) (ρ : Rho) (h : Hp) : codeR C 19 k_script_words_row_R0 Q ρ h = (
  Wp C 19 (.loop k_script_words_row_L0) (q_script_words_row_0 C Q) ρ h) := by kernel_rfl
set_option maxRecDepth 100000 in
theorem e_script_words_row_L0 (C : Cfg) (Q : X → Rho → Hp → Prop) (ρ : Rho) (h : Hp) : codeR C 19 k_script_words_row_L0 Q ρ h = (
  oP (hbin .lss 3 (ρ 10) (ρ 9)) fun v11 =>
  Wp C 19 k_script_words_row_R1 Q (rset ρ 11 v11) h) := by kernel_rfl
set_option maxRecDepth 100000 in
theorem e_script_words_row_R1 (C : Cfg) (Q : X → Rho → Hp → Prop) (ρ : Rho) (h : Hp) : codeR C 19 k_script_words_row_R1 Q ρ h = (
  oP (some (ρ 11)) fun c =>
  bP c (
    Wp C 19 k_script_words_row_R2 Q ρ h) (
    Q (.exit 0) ρ h)) := by kernel_rfl
set_option maxRecDepth 100000 in
theorem e_script_words_row_R2 (C : Cfg) (Q : X → Rho → Hp → Prop) (ρ : Rho) (h : Hp) : codeR C 19 k_script_words_row_R2 Q ρ h = (
  oP (pIx 1 (ρ 8) (ρ 10)) fun v12 =>
  oP (pLd v12 h) fun v13 =>
  oP (some v13) fun v7 =>
  Wp C 19 k_script_words_row_R3 (q_script_words_row_1 C Q) (rset (rset (rset ρ 12 v12) 13 v13) 7 v7) h) := by kernel_rfl
set_option maxRecDepth 100000 in
theorem e_script_words_row_R4 (C : Cfg) (Q : X → Rho → Hp → Prop) (ρ : Rho) (h : Hp) : codeR C 19 k_script_words_row_R4 Q ρ h = (
  oP (hbin .add 3 (ρ 10) (V.int .i64 1)) fun v18 =>
  oP (some v18) fun v10 =>
  Q .normal (rset (rset ρ 18 v18) 10 v10) h) := by kernel_rfl
set_option maxRecDepth 100000 in
theorem e_script_words_row_R3 (C : Cfg) (Q : X → Rho → Hp → Prop) (ρ : Rho) (h : Hp) : codeR C 19 k_script_words_row_R3 Q ρ h = (
  oP (some (ρ 7)) fun v14 =>
  oP (some (ρ 1)) fun v15 =>
  calP C (hcall v15 []) h fun v16 h1 =>
  oP (pNil v14) fun v17 =>
  valP (pSt 1 v17 v16 h1) fun vu h2 =>
  Q .normal (rset (rset (rset (rset ρ 14 v14) 15 v15) 16 v16) 17 v17) h2) := by kernel_rfl
theorem f_script_words_row {C : Cfg} (hs : C.start = startF) (a0 a1 a2 : V) {h : Hp} {Q : V → Hp → Prop} (hk : C.K n_script_words_row [a0, a1, a2] h = none) (H : codeR C 19 k_script_words_row (bodyQ [] Q) (argsR [a0, a1, a2]) h) : cP C n_script_words_row [a0, a1, a2] h Q :=
  cP.funcN hs (show P0.funcs[22]? = some Tryz.f22 by unfold P0; exact Tryz.func22) (by kernel_rfl) (by kernel_rfl) (by kernel_rfl) hk (Nat.le_of_ble_eq_true rfl) (Wp.code _ H)
def J_script_words_row_L0 (C : Cfg) (Q : V → Hp → Prop) (x1 x8 x9 x10 : V) (h : Hp) : Prop := ∀ ρ : Rho, ρ 1 = x1 → ρ 8 = x8 → ρ 9 = x9 → ρ 10 = x10 → Wp C 19 (.loop k_script_words_row_L0) (q_script_words_row_0 C (bodyQ [] Q)) ρ h
def B_script_words_row_L0 (C : Cfg) (Q : V → Hp → Prop) (KL0 : V → V → V → V → Hp → Prop) (x1 x8 x9 x10 : V) (h : Hp) : Prop :=
  oP (hbin .lss 3 x10 x9) fun v11 =>
  bP v11 (
  oP (pIx 1 x8 x10) fun v12 =>
  oP (pLd v12 h) fun v13 =>
  calP C (hcall x1 []) h fun v16 h1 =>
  oP (pNil v13) fun v17 =>
  valP (pSt 1 v17 v16 h1) fun vu h2 =>
  oP (hbin .add 3 x10 (V.int .i64 1)) fun v18 =>
  KL0 x1 x8 x9 v18 h2) (
  Q (V.tuple []) h)
set_option maxRecDepth 100000 in
theorem l_script_words_row_L0 {C : Cfg} {Q : V → Hp → Prop} (I : Nat → V → V → V → V → Hp → Prop) (step : ∀ (k : Nat) (x1 x8 x9 x10 : V) (h : Hp), I k x1 x8 x9 x10 h → B_script_words_row_L0 C Q (fun x1 x8 x9 x10 h => ∃ k', k' < k ∧ I k' x1 x8 x9 x10 h) x1 x8 x9 x10 h) {k : Nat} {x1 x8 x9 x10 : V} {h : Hp} (h0 : I k x1 x8 x9 x10 h) : J_script_words_row_L0 C Q x1 x8 x9 x10 h := by
  intro ρ e1 e8 e9 e10
  subst e1
  subst e8
  subst e9
  subst e10
  refine Wp.loopI (fun k ρ h => I k (ρ 1) (ρ 8) (ρ 9) (ρ 10) h) (fun k ρ h hi => ?_) h0
  have H := step k (ρ 1) (ρ 8) (ρ 9) (ρ 10) h hi
  unfold B_script_words_row_L0 at H
  exact Wp.of (e_script_words_row_L0 _ _ _ _) (oM H fun v11 _ H => Wp.of (e_script_words_row_R1 _ _ _ _) (oSm (bM H (fun H => Wp.of (e_script_words_row_R2 _ _ _ _) (oM H fun v12 _ H => oM H fun v13 _ H => oSm (Wp.of (e_script_words_row_R3 _ _ _ _) (oSm (oSm (calM H fun v16 h1 H => oM H fun v17 _ H => valM H fun vu h2 H => Wp.of (e_script_words_row_R4 _ _ _ _) (oM H fun v18 _ H => oSm (H)))))))) (fun H => H))))
def B_script_words_row (C : Cfg) (Q : V → Hp → Prop) (a0 a1 a2 : V) (h : Hp) : Prop :=
  oP (pLen a2) fun v9 =>
  J_script_words_row_L0 C Q a1 a2 v9 (V.int .i64 0) h
set_option maxRecDepth 100000 in
theorem c_script_words_row {C : Cfg} (hs : C.start = startF) {a0 a1 a2 : V} {h : Hp} {Q : V → Hp → Prop} (hk : C.K n_script_words_row [a0, a1, a2] h = none) (H : B_script_words_row C Q a0 a1 a2 h) : cP C n_script_words_row [a0, a1, a2] h Q := by
  unfold B_script_words_row at H
  exact f_script_words_row hs _ _ _ hk ((e_script_words_row _ _ _ _).mpr (oSm (oM H fun v9 _ H => oSm (Wp.of (e_script_words_row_R0 _ _ _ _) (H _ rfl rfl rfl rfl)))))
/-! ### turnstone/script.Parse -/
noncomputable def k_script_Parse : Code := bodyOf Tryz.f8
noncomputable def k_script_Parse_R0 : Code := k_script_Parse.r
noncomputable def k_script_Parse_R1 : Code := k_script_Parse.r.r
noncomputable def k_script_Parse_R2 : Code := k_script_Parse.r.r.r
noncomputable def k_script_Parse_R3 : Code := k_script_Parse.r.r.r.l.r
noncomputable def k_script_Parse_R4 : Code := k_script_Parse.r.r.r.r
noncomputable def q_script_Parse_0 (C : Cfg) (Q : X → Rho → Hp → Prop) : X → Rho → Hp → Prop := andThen (Wp C 110 k_script_Parse_R4 Q) Q
theorem q_script_Parse_0_normal (C : Cfg) (Q : X → Rho → Hp → Prop) (ρ : Rho) (h : Hp) : q_script_Parse_0 C Q .normal ρ h = Wp C 110 k_script_Parse_R4 Q ρ h := rfl
theorem q_script_Parse_0_ret (C : Cfg) (Q : X → Rho → Hp → Prop) (ρ : Rho) (h : Hp) : q_script_Parse_0 C Q .ret ρ h = Q .ret ρ h := rfl
noncomputable def k_script_Parse_R5 : Code := k_script_Parse.r.r.r.l.r.l.l.r
noncomputable def q_script_Parse_2 (C : Cfg) (Q : X → Rho → Hp → Prop) : X → Rho → Hp → Prop := blockQ 0 Q
theorem q_script_Parse_2_normal (C : Cfg) (Q : X → Rho → Hp → Prop) (ρ : Rho) (h : Hp) : q_script_Parse_2 C Q .normal ρ h = Q .normal ρ h := rfl
theorem q_script_Parse_2_ret (C : Cfg) (Q : X → Rho → Hp → Prop) (ρ : Rho) (h : Hp) : q_script_Parse_2 C Q .ret ρ h = Q .ret ρ h := rfl
theorem q_script_Parse_2_exit0 (C : Cfg) (Q : X → Rho → Hp → Prop) (ρ : Rho) (h : Hp) : q_script_Parse_2 C Q (.exit 0) ρ h = Q .normal ρ h := rfl
noncomputable def k_script_Parse_R6 : Code := k_script_Parse.r.r.r.l.r.l.r
noncomputable def q_script_Parse_1 (C : Cfg) (Q : X → Rho → Hp → Prop) : X → Rho → Hp → Prop := andThen (Wp C 110 k_script_Parse_R6 (q_script_Parse_2 C Q)) (q_script_Parse_2 C Q)
theorem q_script_Parse_1_normal (C : Cfg) (Q : X → Rho → Hp → Prop) (ρ : Rho) (h : Hp) : q_script_Parse_1 C Q .normal ρ h = Wp C 110 k_script_Parse_R6 (q_script_Parse_2 C Q) ρ h := rfl
theorem q_script_Parse_1_ret (C : Cfg) (Q : X → Rho → Hp → Prop) (ρ : Rho) (h : Hp) : q_script_Parse_1 C Q .ret ρ h = Q .ret ρ h := rfl
theorem q_script_Parse_1_exit0 (C : Cfg) (Q : X → Rho → Hp → Prop) (ρ : Rho) (h : Hp) : q_script_Parse_1 C Q (.exit 0) ρ h = Q .normal ρ h := rfl
noncomputable def k_script_Parse_R7 : Code := k_script_Parse.r.r.r.r.l.r
noncomputable def k_script_Parse_R8 : Code := k_script_Parse.r.r.r.r.r
noncomputable def q_script_Parse_3 (C : Cfg) (Q : X → Rho → Hp → Prop) : X → Rho → Hp → Prop := andThen (Wp C 110 k_script_Parse_R8 Q) Q
theorem q_script_Parse_3_normal (C : Cfg) (Q : X → Rho → Hp → Prop) (ρ : Rho) (h : Hp) : q_script_Parse_3 C Q .normal ρ h = Wp C 110 k_script_Parse_R8 Q ρ h := rfl
theorem q_script_Parse_3_ret (C : Cfg) (Q : X → Rho → Hp → Prop) (ρ : Rho) (h : Hp) : q_script_Parse_3 C Q .ret ρ h = Q .ret ρ h := rfl
noncomputable def k_script_Parse_R9 : Code := k_script_Parse.r.r.r.l.r.l.l.r.r.r
noncomputable def k_script_Parse_R10 : Code := k_script_Parse.r.r.r.l.r.l.r.r.l.r
noncomputable def k_script_Parse_R11 : Code := k_script_Parse.r.r.r.l.r.l.r.r.r
noncomputable def q_script_Parse_4 (C : Cfg) (Q : X → Rho → Hp → Prop) : X → Rho → Hp → Prop := andThen (Wp C 110 k_script_Parse_R11 Q) Q
theorem q_script_Parse_4_normal (C : Cfg) (Q : X → Rho → Hp → Prop) (ρ : Rho) (h : Hp) : q_script_Parse_4 C Q .normal ρ h = Wp C 110 k_script_Parse_R11 Q ρ h := rfl
theorem q_script_Parse_4_ret (C : Cfg) (Q : X → Rho → Hp → Prop) (ρ : Rho) (h : Hp) : q_script_Parse_4 C Q .ret ρ h = Q .ret ρ h := rfl
noncomputable def k_script_Parse_R12 : Code := k_script_Parse.r.r.r.r.l.r.l.r
noncomputable def k_script_Parse_R13 : Code := k_script_Parse.r.r.r.r.r.r
noncomputable def k_script_Parse_R14 : Code := k_script_Parse.r.r.r.l.r.l.r.r.r.r.r
noncomputable def k_script_Parse_R15 : Code := k_script_Parse.r.r.r.l.r.l.r.r.r.r.r.r.r
noncomputable def k_script_Parse_R16 : Code := k_script_Parse.r.r.r.l.r.l.r.r.r.r.r.r.r.l.r
noncomputable def k_script_Parse_R17 : Code := k_script_Parse.r.r.r.l.r.l.r.r.r.r.r.r.r.r.r
noncomputable def k_script_Parse_L0 : Code := k_script_Parse.r.r.r.l.r.l.r.r.r.r.r.r.r.l.r.l.l
noncomputable def q_script_Parse_5 (C : Cfg) (Q : X → Rho → Hp → Prop) : X → Rho → Hp → Prop := blockQ 1 Q
theorem q_script_Parse_5_normal (C : Cfg) (Q : X → Rho → Hp → Prop) (ρ : Rho) (h : Hp) : q_script_Parse_5 C Q .normal ρ h = Q .normal ρ h := rfl
theorem q_script_Parse_5_ret (C : Cfg) (Q : X → Rho → Hp → Prop) (ρ : Rho) (h : Hp) : q_script_Parse_5 C Q .ret ρ h = Q .ret ρ h := rfl
theorem q_script_Parse_5_exit1 (C : Cfg) (Q : X → Rho → Hp → Prop) (ρ : Rho) (h : Hp) : q_script_Parse_5 C Q (.exit 1) ρ h = Q .normal ρ h := rfl
noncomputable def k_script_Parse_R18 : Code := k_script_Parse.r.r.r.l.r.l.r.r.r.r.r.r.r.l.r.l.l.l.r
noncomputable def k_script_Parse_R19 : Code := k_script_Parse.r.r.r.l.r.l.r.r.r.r.r.r.r.l.r.l.l.r
noncomputable def q_script_Parse_6 (C : Cfg) (Q : X → Rho → Hp → Prop) : X → Rho → Hp → Prop := andThen (Wp C 110 k_script_Parse_R19 Q) Q
theorem q_script_Parse_6_normal (C : Cfg) (Q : X → Rho → Hp → Prop) (ρ : Rho) (h : Hp) : q_script_Parse_6 C Q .normal ρ h = Wp C 110 k_script_Parse_R19 Q ρ h := rfl
theorem q_script_Parse_6_ret (C : Cfg) (Q : X → Rho → Hp → Prop) (ρ : Rho) (h : Hp) : q_script_Parse_6 C Q .ret ρ h = Q .ret ρ h := rfl
noncomputable def k_script_Parse_R20 : Code := k_script_Parse.r.r.r.l.r.l.r.r.r.r.r.r.r.l.r.l.l.r.l.r
noncomputable def q_script_Parse_7 (C : Cfg) (Q : X → Rho → Hp → Prop) : X → Rho → Hp → Prop := blockQ 2 Q
theorem q_script_Parse_7_normal (C : Cfg) (Q : X → Rho → Hp → Prop) (ρ : Rho) (h : Hp) : q_script_Parse_7 C Q .normal ρ h = Q .normal ρ h := rfl
theorem q_script_Parse_7_ret (C : Cfg) (Q : X → Rho → Hp → Prop) (ρ : Rho) (h : Hp) : q_script_Parse_7 C Q .ret ρ h = Q .ret ρ h := rfl
theorem q_script_Parse_7_exit2 (C : Cfg) (Q : X → Rho → Hp → Prop) (ρ : Rho) (h : Hp) : q_script_Parse_7 C Q (.exit 2) ρ h = Q .normal ρ h := rfl
noncomputable def k_script_Parse_R21 : Code := k_script_Parse.r.r.r.l.r.l.r.r.r.r.r.r.r.l.r.l.l.r.l.r.r
noncomputable def q_script_Parse_8 (C : Cfg) (Q : X → Rho → Hp → Prop) : X → Rho → Hp → Prop := blockQ 0 (q_script_Parse_0 C Q)
theorem q_script_Parse_8_normal (C : Cfg) (Q : X → Rho → Hp → Prop) (ρ : Rho) (h : Hp) : q_script_Parse_8 C Q .normal ρ h = Wp C 110 k_script_Parse_R4 Q ρ h := rfl
theorem q_script_Parse_8_ret (C : Cfg) (Q : X → Rho → Hp → Prop) (ρ : Rho) (h : Hp) : q_script_Parse_8 C Q .ret ρ h = Q .ret ρ h := rfl
theorem q_script_Parse_8_exit0 (C : Cfg) (Q : X → Rho → Hp → Prop) (ρ : Rho) (h : Hp) : q_script_Parse_8 C Q (.exit 0) ρ h = Wp C 110 k_script_Parse_R4 Q ρ h := rfl
noncomputable def q_script_Parse_9 (C : Cfg) (Q : X → Rho → Hp → Prop) : X → Rho → Hp → Prop := blockQ 1 (q_script_Parse_8 C Q)
theorem q_script_Parse_9_normal (C : Cfg) (Q : X → Rho → Hp → Prop) (ρ : Rho) (h : Hp) : q_script_Parse_9 C Q .normal ρ h = Wp C 110 k_script_Parse_R4 Q ρ h := rfl
theorem q_script_Parse_9_ret (C : Cfg) (Q : X → Rho → Hp → Prop) (ρ : Rho) (h : Hp) : q_script_Parse_9 C Q .ret ρ h = Q .ret ρ h := rfl
theorem q_script_Parse_9_exit1 (C : Cfg) (Q : X → Rho → Hp → Prop) (ρ : Rho) (h : Hp) : q_script_Parse_9 C Q (.exit 1) ρ h = Wp C 110 k_script_Parse_R4 Q ρ h := rfl
theorem q_script_Parse_9_exit0 (C : Cfg) (Q : X → Rho → Hp → Prop) (ρ : Rho) (h : Hp) : q_script_Parse_9 C Q (.exit 0) ρ h = Wp C 110 k_script_Parse_R4 Q ρ h := rfl
set_option maxRecDepth 100000 in
theorem e_script_Parse (C : Cfg) (Q : X → Rho → Hp → Prop) (ρ : Rho) (h : Hp) : codeR C 110 k_script_Parse Q ρ h = (
  alP (some (.cells 26 1 true false [(V.int .i64 0), (V.int .i64 0), (V.int .i64 0), (V.int .i64 0), (V.int .i64 0), (V.int .i64 0), (V.int .i64 0), (V.int .i64 0), V.nilSlice], fun l => .ptr l 0)) h fun v2 h1 =>
  oP (some (V.int .i64 0)) fun v3 =>
  Wp C 110 k_script_Parse_R0 Q (rset (rset ρ 2 v2) 3 v3) h1) := by kernel_rfl
set_option maxRecDepth 100000 in
theorem e_script_Parse_R0 (C : Cfg) (Q : X → Rho → Hp → Prop) (ρ : Rho) (h : Hp) : codeR C 110 k_script_Parse_R0 Q ρ h = (
  oP (some (ρ 0)) fun v7 =>
  dcP C n_strings_Split [v7, (V.str [32])] h fun v8 h1 =>
  oP (pBuild [V.nilSlice, (V.bool false)] [(0, 1), (1, 1)] [(0, v8), (1, (V.bool true))]) fun v9 =>
  alP (hbox 54 v9) h1 fun v10 h2 =>
  oP (some v10) fun v4 =>
  Wp C 110 k_script_Parse_R1 Q (rset (rset (rset (rset (rset ρ 7 v7) 8 v8) 9 v9) 10 v10) 4 v4) h2) := by kernel_rfl
set_option maxRecDepth 100000 in
theorem e_script_Parse_R1 (C : Cfg) (Q : X → Rho → Hp → Prop) (ρ : Rho) (h : Hp) : codeR C 110 k_script_Parse_R1 Q ρ h = (
  oP (some (ρ 4)) fun v11 =>
  dcP C n_script_words_next [v11] h fun v12 h1 =>
  dcP C n_script_kind [v12] h1 fun v13 h2 =>
  oP (pBuild [(V.int .i64 0), (V.int .i64 0), (V.int .i64 0), (V.int .i64 0), (V.int .i64 0), (V.int .i64 0), (V.int .i64 0), (V.int .i64 0), V.nilSlice] [(0, 1), (1, 1), (2, 1), (3, 1), (4, 5)] [(0, v13)]) fun v14 =>
  alP (some (.cells 26 1 true false [(V.int .i64 0), (V.int .i64 0), (V.int .i64 0), (V.int .i64 0), (V.int .i64 0), (V.int .i64 0), (V.int .i64 0), (V.int .i64 0), V.nilSlice], fun l => .ptr l 0)) h2 fun v5 h3 =>
  valP (pSt 9 v5 v14 h3) fun vu h4 =>
  Wp C 110 k_script_Parse_R2 Q (rset (rset (rset (rset (rset ρ 11 v11) 12 v12) 13 v13) 14 v14) 5 v5) h4) := by kernel_rfl
set_option maxRecDepth 100000 in
theorem e_script_Parse_R2 (C : Cfg) (Q : X → Rho → Hp → Prop) (ρ : Rho) (h : Hp) : codeR C 110 k_script_Parse_R2 Q ρ h = (
  oP (pFA 0 (ρ 5)) fun v15 =>
  oP (pLd v15 h) fun v16 =>
  Wp C 110 k_script_Parse_R3 (q_script_Parse_0 C Q) (rset (rset ρ 15 v15) 16 v16) h) := by kernel_rfl
set_option maxRecDepth 100000 in
theorem e_script_Parse_R4 (C : Cfg) (Q : X → Rho → Hp → Prop) (ρ : Rho) (h : Hp) : codeR C 110 k_script_Parse_R4 Q ρ h = (
  oP (some (ρ 4)) fun v88 =>
  oP (pNil v88) fun v89 =>
  oP (pFA 1 v89) fun v90 =>
  oP (pLd v90 h) fun v91 =>
  oP (hun .not v91) fun v92 =>
  oP (some v92) fun v93 =>
  oP (pGd false v93) fun b6 =>
  oP (gV b6 (some (ρ 4))) fun v94 =>
  oP (pGd false v93) fun b7 =>
  oP (gV b7 (pNil v94)) fun v95 =>
  oP (pGd false v93) fun b8 =>
  oP (gV b8 (pFA 0 v95)) fun v96 =>
  oP (pGd false v93) fun b9 =>
  oP (gV b9 (pLd v96 h)) fun v97 =>
  oP (pGd false v93) fun b10 =>
  oP (gV b10 (pLen v97)) fun v98 =>
  oP (pGd false v93) fun b11 =>
  oP (gV b11 (hbin .gtr 3 v98 (V.int .i64 0))) fun v99 =>
  oP (pPick v93 (V.bool true) v99) fun v100 =>
  oP (some v100) fun v101 =>
  oP (pGd false v101) fun b14 =>
  oP (gV b14 (pFA 4 (ρ 5))) fun v102 =>
  oP (pGd false v101) fun b15 =>
  oP (gV b15 (pFA 4 v102)) fun v103 =>
  oP (pGd false v101) fun b16 =>
  oP (gV b16 (pLd v103 h)) fun v104 =>
  oP (pGd false v101) fun b17 =>
  oP (gV b17 (pLen v104)) fun v105 =>
  oP (pGd false v101) fun b18 =>
  oP (gV b18 (hbin .gtr 3 v105 (V.int .i64 8))) fun v106 =>
  oP (pPick v101 (V.bool true) v106) fun v107 =>
  Wp C 110 k_script_Parse_R7 (q_script_Parse_3 C Q) (rset (rset (rset (rset (rset (rset (rset (rset (rset (rset (rset (rset (rset (rset (rset (rset (rset (rset (rset (rset ρ 88 v88) 89 v89) 90 v90) 91 v91) 92 v92) 93 v93) 94 v94) 95 v95) 96 v96) 97 v97) 98 v98) 99 v99) 100 v100) 101 v101) 102 v102) 103 v103) 104 v104) 105 v105) 106 v106) 107 v107) h) := by kernel_rfl
set_option maxRecDepth 100000 in
theorem e_script_Parse_R3 (C : Cfg) (Q : X → Rho → Hp → Prop) (ρ : Rho) (h : Hp) : codeR C 110 k_script_Parse_R3 Q ρ h = (
  oP (hbin .eql 3 (ρ 16) (V.int .i64 1)) fun v19 =>
  oP (some v19) fun v18 =>
  Wp C 110 k_script_Parse_R5 (q_script_Parse_1 C Q) (rset (rset ρ 19 v19) 18 v18) h) := by kernel_rfl
set_option maxRecDepth 100000 in
theorem e_script_Parse_R8 (C : Cfg) (Q : X → Rho → Hp → Prop) (ρ : Rho) (h : Hp) : codeR C 110 k_script_Parse_R8 Q ρ h = (
  oP (pLdA 9 (ρ 5) h) fun v109 =>
  valP (pSt 9 (ρ 2) v109 h) fun vu h1 =>
  oP (some (V.int .i64 0)) fun v3 =>
  Wp C 110 k_script_Parse_R13 Q (rset (rset ρ 109 v109) 3 v3) h1) := by kernel_rfl
set_option maxRecDepth 100000 in
theorem e_script_Parse_R7 (C : Cfg) (Q : X → Rho → Hp → Prop) (ρ : Rho) (h : Hp) : codeR C 110 k_script_Parse_R7 Q ρ h = (
  oP (some (ρ 107)) fun c =>
  bP c (
    oP (pBuild [(V.int .i64 0), (V.int .i64 0), (V.int .i64 0), (V.int .i64 0), (V.int .i64 0), (V.int .i64 0), (V.int .i64 0), (V.int .i64 0), V.nilSlice] [(0, 1), (1, 1), (2, 1), (3, 1), (4, 5)] []) fun v108 =>
    valP (pSt 9 (ρ 2) v108 h) fun vu h1 =>
    oP (some (V.int .i64 5)) fun v3 =>
    Wp C 110 k_script_Parse_R12 Q (rset (rset ρ 108 v108) 3 v3) h1) (
    Q .normal ρ h)) := by kernel_rfl
set_option maxRecDepth 100000 in
theorem e_script_Parse_R13 (C : Cfg) (Q : X → Rho → Hp → Prop) (ρ : Rho) (h : Hp) : codeR C 110 k_script_Parse_R13 Q ρ h = (
  Q .ret ρ h) := by kernel_rfl
set_option maxRecDepth 100000 in
theorem e_script_Parse_R6 (C : Cfg) (Q : X → Rho → Hp → Prop) (ρ : Rho) (h : Hp) : codeR C 110 k_script_Parse_R6 Q ρ h = (
  oP (some (ρ 18)) fun c =>
  bP c (
    oP (some (ρ 4)) fun v22 =>
    oP (some (ρ 4)) fun v23 =>
    oP (some (V.func n_script_words_int [v23] [])) fun v24 =>
    oP (pFA 3 (ρ 5)) fun v25 =>
    alP (pBS 58 1 1 V.nilPtr [(0, v25)]) h fun v26 h1 =>
    dcP C n_script_words_row [v22, v24, v26] h1 fun v27 h2 =>
    Q .normal (rset (rset (rset (rset (rset (rset ρ 22 v22) 23 v23) 24 v24) 25 v25) 26 v26) 27 v27) h2) (
    oP (hbin .eql 3 (ρ 16) (V.int .i64 2)) fun v29 =>
    oP (some v29) fun v28 =>
    Wp C 110 k_script_Parse_R10 (q_script_Parse_4 C Q) (rset (rset ρ 29 v29) 28 v28) h)) := by kernel_rfl
set_option maxRecDepth 100000 in
theorem e_script_Parse_R5 (C : Cfg) (Q : X → Rho → Hp → Prop) (ρ : Rho) (h : Hp) : codeR C 110 k_script_Parse_R5 Q ρ h = (
  oP (some (ρ 18)) fun c =>
  bP c (
    Q .normal ρ h) (
    oP (hbin .eql 3 (ρ 16) (V.int .i64 3)) fun v20 =>
    oP (some v20) fun v18 =>
    Wp C 110 k_script_Parse_R9 Q (rset (rset ρ 20 v20) 18 v18) h)) := by kernel_rfl
set_option maxRecDepth 100000 in
theorem e_script_Parse_R12 (C : Cfg) (Q : X → Rho → Hp → Prop) (ρ : Rho) (h : Hp) : codeR C 110 k_script_Parse_R12 Q ρ h = (
  Q .ret ρ h) := by kernel_rfl
set_option maxRecDepth 100000 in
theorem e_script_Parse_R11 (C : Cfg) (Q : X → Rho → Hp → Prop) (ρ : Rho) (h : Hp) : codeR C 110 k_script_Parse_R11 Q ρ h = (
  oP (some (ρ 28)) fun c =>
  bP c (
    oP (some (ρ 4)) fun v31 =>
    oP (some (ρ 4)) fun v32 =>
    oP (some (V.func n_script_words_int [v32] [])) fun v33 =>
    oP (pFA 1 (ρ 5)) fun v34 =>
    oP (pFA 2 (ρ 5)) fun v35 =>
    alP (pBS 58 1 2 V.nilPtr [(0, v34), (1, v35)]) h fun v36 h1 =>
    dcP C n_script_words_row [v31, v33, v36] h1 fun v37 h2 =>
    Q .normal (rset (rset (rset (rset (rset (rset (rset ρ 31 v31) 32 v32) 33 v33) 34 v34) 35 v35) 36 v36) 37 v37) h2) (
    oP (hbin .eql 3 (ρ 16) (V.int .i64 5)) fun v39 =>
    oP (some v39) fun v38 =>
    Wp C 110 k_script_Parse_R14 Q (rset (rset ρ 39 v39) 38 v38) h)) := by kernel_rfl
set_option maxRecDepth 100000 in
theorem e_script_Parse_R9 (C : Cfg) (Q : X → Rho → Hp → Prop) (ρ : Rho) (h : Hp) : codeR C 110 k_script_Parse_R9 Q ρ h = (
  oP (some (ρ 18)) fun c =>
  bP c (
    Q .normal ρ h) (
    oP (hbin .eql 3 (ρ 16) (V.int .i64 7)) fun v21 =>
    oP (some v21) fun v18 =>
    Q .normal (rset (rset ρ 21 v21) 18 v18) h)) := by kernel_rfl
set_option maxRecDepth 100000 in
theorem e_script_Parse_R10 (C : Cfg) (Q : X → Rho → Hp → Prop) (ρ : Rho) (h : Hp) : codeR C 110 k_script_Parse_R10 Q ρ h = (
  oP (some (ρ 28)) fun c =>
  bP c (
    Q .normal ρ h) (
    oP (hbin .eql 3 (ρ 16) (V.int .i64 4)) fun v30 =>
    oP (some v30) fun v28 =>
    Q .normal (rset (rset ρ 30 v30) 28 v28) h)) := by kernel_rfl
set_option maxRecDepth 100000 in
theorem e_script_Parse_R14 (C : Cfg) (Q : X → Rho → Hp → Prop) (ρ : Rho) (h : Hp) : codeR C 110 k_script_Parse_R14 Q ρ h = (
  oP (some (ρ 38)) fun c =>
  bP c (
    oP (some (ρ 4)) fun v40 =>
    oP (some (ρ 4)) fun v41 =>
    oP (some (V.func n_script_words_int [v41] [])) fun v42 =>
    oP (pFA 1 (ρ 5)) fun v43 =>
    alP (pBS 58 1 1 V.nilPtr [(0, v43)]) h fun v44 h1 =>
    dcP C n_script_words_row [v40, v42, v44] h1 fun v45 h2 =>
    Q .normal (rset (rset (rset (rset (rset (rset ρ 40 v40) 41 v41) 42 v42) 43 v43) 44 v44) 45 v45) h2) (
    oP (hbin .eql 3 (ρ 16) (V.int .i64 6)) fun v47 =>
    oP (some v47) fun v46 =>
    Wp C 110 k_script_Parse_R15 Q (rset (rset ρ 47 v47) 46 v46) h)) := by kernel_rfl
set_option maxRecDepth 100000 in
theorem e_script_Parse_R15 (C : Cfg) (Q : X → Rho → Hp → Prop) (ρ : Rho) (h : Hp) : codeR C 110 k_script_Parse_R15 Q ρ h = (
  oP (some (ρ 46)) fun c =>
  bP c (
    oP (some (ρ 4)) fun v48 =>
    oP (some (ρ 4)) fun v49 =>
    oP (some (V.func n_script_words_int [v49] [])) fun v50 =>
    oP (pFA 4 (ρ 5)) fun v51 =>
    oP (pFA 0 v51) fun v52 =>
    oP (pFA 4 (ρ 5)) fun v53 =>
    oP (pFA 1 v53) fun v54 =>
    oP (pFA 4 (ρ 5)) fun v55 =>
    oP (pFA 2 v55) fun v56 =>
    oP (pFA 4 (ρ 5)) fun v57 =>
    oP (pFA 3 v57) fun v58 =>
    alP (pBS 58 1 4 V.nilPtr [(0, v52), (1, v54), (2, v56), (3, v58)]) h fun v59 h1 =>
    dcP C n_script_words_row [v48, v50, v59] h1 fun v60 h2 =>
    Wp C 110 k_script_Parse_R16 Q (rset (rset (rset (rset (rset (rset (rset (rset (rset (rset (rset (rset (rset ρ 48 v48) 49 v49) 50 v50) 51 v51) 52 v52) 53 v53) 54 v54) 55 v55) 56 v56) 57 v57) 58 v58) 59 v59) 60 v60) h2) (
    oP (pBuild [(V.int .i64 0), (V.int .i64 0), (V.int .i64 0), (V.int .i64 0), (V.int .i64 0), (V.int .i64 0), (V.int .i64 0), (V.int .i64 0), V.nilSlice] [(0, 1), (1, 1), (2, 1), (3, 1), (4, 5)] []) fun v17 =>
    valP (pSt 9 (ρ 2) v17 h) fun vu h3 =>
    oP (some (V.int .i64 5)) fun v3 =>
    Wp C 110 k_script_Parse_R17 Q (rset (rset ρ 17 v17) 3 v3) h3)) := by kernel_rfl
set_option maxRecDepth 100000 in
theorem e_script_Parse_R16 (C : Cfg) (Q : X → Rho → Hp → Prop) (ρ : Rho) (h : Hp) : codeR C 110 k_script_Parse_R16 Q ρ h = (
  Wp C 110 (.loop k_script_Parse_L0) (q_script_Parse_5 C Q) ρ h) := by kernel_rfl
set_option maxRecDepth 100000 in
theorem e_script_Parse_R17 (C : Cfg) (Q : X → Rho → Hp → Prop) (ρ : Rho) (h : Hp) : codeR C 110 k_script_Parse_R17 Q ρ h = (
  Q .ret ρ h) := by kernel_rfl
set_option maxRecDepth 100000 in
theorem e_script_Parse_L0 (C : Cfg) (Q : X → Rho → Hp → Prop) (ρ : Rho) (h : Hp) : codeR C 110 k_script_Parse_L0 Q ρ h = (
  oP (some (ρ 4)) fun v61 =>
  oP (pNil v61) fun v62 =>
  oP (pFA 1 v62) fun v63 =>
  oP (pLd v63 h) fun v64 =>
  oP (some v64) fun v65 =>
  oP (pGd true v65) fun b5 =>
  oP (gV b5 (some (ρ 4))) fun v66 =>
  oP (pGd true v65) fun b6 =>
  oP (gV b6 (pNil v66)) fun v67 =>
  oP (pGd true v65) fun b7 =>
  oP (gV b7 (pFA 0 v67)) fun v68 =>
  oP (pGd true v65) fun b8 =>
  oP (gV b8 (pLd v68 h)) fun v69 =>
  oP (pGd true v65) fun b9 =>
  oP (gV b9 (pLen v69)) fun v70 =>
  oP (pGd true v65) fun b10 =>
  oP (gV b10 (hbin .gtr 3 v70 (V.int .i64 0))) fun v71 =>
  oP (pPick v65 v71 (V.bool false)) fun v72 =>
  Wp C 110 k_script_Parse_R18 (q_script_Parse_6 C Q) (rset (rset (rset (rset (rset (rset (rset (rset (rset (rset (rset (rset ρ 61 v61) 62 v62) 63 v63) 64 v64) 65 v65) 66 v66) 67 v67) 68 v68) 69 v69) 70 v70) 71 v71) 72 v72) h) := by kernel_rfl
set_option maxRecDepth 100000 in
theorem e_script_Parse_R19 (C : Cfg) (Q : X → Rho → Hp → Prop) (ρ : Rho) (h : Hp) : codeR C 110 k_script_Parse_R19 Q ρ h = (
  alP (some (.cells 60 1 true false [(V.int .i64 0), (V.int .i64 0)], fun l => .ptr l 0)) h fun v6 h1 =>
  Wp C 110 k_script_Parse_R20 (q_script_Parse_7 C Q) (rset ρ 6 v6) h1) := by kernel_rfl
set_option maxRecDepth 100000 in
theorem e_script_Parse_R18 (C : Cfg) (Q : X → Rho → Hp → Prop) (ρ : Rho) (h : Hp) : codeR C 110 k_script_Parse_R18 Q ρ h = (
  oP (some (ρ 72)) fun c =>
  bP c (
    Q .normal ρ h) (
    Q (.exit 1) ρ h)) := by kernel_rfl
set_option maxRecDepth 100000 in
theorem e_script_Parse_R20 (C : Cfg) (Q : X → Rho → Hp → Prop) (ρ : Rho) (h : Hp) : codeR C 110 k_script_Parse_R20 Q ρ h = (
  oP (some (ρ 4)) fun v73 =>
  oP (some (ρ 4)) fun v74 =>
  oP (some (V.func n_script_words_int [v74] [])) fun v75 =>
  oP (pFA 0 (ρ 6)) fun v76 =>
  oP (pFA 1 (ρ 6)) fun v77 =>
  alP (pBS 58 1 2 V.nilPtr [(0, v76), (1, v77)]) h fun v78 h1 =>
  dcP C n_script_words_row [v73, v75, v78] h1 fun v79 h2 =>
  Wp C 110 k_script_Parse_R21 Q (rset (rset (rset (rset (rset (rset (rset ρ 73 v73) 74 v74) 75 v75) 76 v76) 77 v77) 78 v78) 79 v79) h2) := by kernel_rfl
set_option maxRecDepth 100000 in
theorem e_script_Parse_R21 (C : Cfg) (Q : X → Rho → Hp → Prop) (ρ : Rho) (h : Hp) : codeR C 110 k_script_Parse_R21 Q ρ h = (
  oP (pFA 4 (ρ 5)) fun v80 =>
  oP (pFA 4 v80) fun v81 =>
  oP (pLd v81 h) fun v82 =>
  oP (pLdA 2 (ρ 6) h) fun v83 =>
  alP (pBS 60 2 1 (V.agg [(V.int .i64 0), (V.int .i64 0)]) [(0, v83)]) h fun v84 h1 =>
  valP (happend 60 2 16 v82 v84 h1) fun v85 h2 =>
  oP (pFA 4 (ρ 5)) fun v86 =>
  oP (pFA 4 v86) fun v87 =>
  valP (pSt 1 v87 v85 h2) fun vu h3 =>
  Q .normal (rset (rset (rset (rset (rset (rset (rset (rset ρ 80 v80) 81 v81) 82 v82) 83 v83) 84 v84) 85 v85) 86 v86) 87 v87) h3) := by kernel_rfl
theorem f_script_Parse {C : Cfg} (hs : C.start = startF) (a0 : V) {h : Hp} {Q : V → Hp → Prop} (hk : C.K n_script_Parse [a0] h = none) (H : codeR C 110 k_script_Parse (bodyQ [.cell 2 26, .tmp 3] Q) (argsR [a0]) h) : cP C n_script_Parse [a0] h Q :=
  cP.funcN hs (show P0.funcs[8]? = some Tryz.f8 by unfold P0; exact Tryz.func8) (by kernel_rfl) (by kernel_rfl) (by kernel_rfl) hk (Nat.le_of_ble_eq_true rfl) (Wp.code _ H)
theorem r_script_Parse (Q : V → Hp → Prop) (ρ : Rho) (h : Hp) : retP [.cell 2 26, .tmp 3] Q ρ h = (oP (pLdA 9 (ρ 2) h) fun r0 => Q (V.tuple [r0, (ρ 3)]) h) := by
  have e0 : (resC (.cell 2 26)).f (.fn ρ []) h = pLdA 9 (ρ 2) h := by kernel_rfl
  unfold retP
  simp only [resVs, e0]
  cases pLdA 9 (ρ 2) h with
  | none => rfl
  | some r0 =>
  rfl
def J_script_Parse_R6 (C : Cfg) (Q : V → Hp → Prop) (x2 x4 x5 x16 x18 : V) (h : Hp) : Prop := ∀ ρ : Rho, ρ 2 = x2 → ρ 4 = x4 → ρ 5 = x5 → ρ 16 = x16 → ρ 18 = x18 → Wp C 110 k_script_Parse_R6 (q_script_Parse_8 C (bodyQ [.cell 2 26, .tmp 3] Q)) ρ h
def J_script_Parse_R4 (C : Cfg) (Q : V → Hp → Prop) (x2 x4 x5 : V) (h : Hp) : Prop := ∀ ρ : Rho, ρ 2 = x2 → ρ 4 = x4 → ρ 5 = x5 → Wp C 110 k_script_Parse_R4 (bodyQ [.cell 2 26, .tmp 3] Q) ρ h
def J_script_Parse_R11 (C : Cfg) (Q : V → Hp → Prop) (x2 x4 x5 x16 x28 : V) (h : Hp) : Prop := ∀ ρ : Rho, ρ 2 = x2 → ρ 4 = x4 → ρ 5 = x5 → ρ 16 = x16 → ρ 28 = x28 → Wp C 110 k_script_Parse_R11 (q_script_Parse_8 C (bodyQ [.cell 2 26, .tmp 3] Q)) ρ h
def J_script_Parse_L0 (C : Cfg) (Q : V → Hp → Prop) (x2 x4 x5 : V) (h : Hp) : Prop := ∀ ρ : Rho, ρ 2 = x2 → ρ 4 = x4 → ρ 5 = x5 → Wp C 110 (.loop k_script_Parse_L0) (q_script_Parse_9 C (bodyQ [.cell 2 26, .tmp 3] Q)) ρ h
def B_script_Parse_R6 (C : Cfg) (Q : V → Hp → Prop) (x2 x4 x5 x16 x18 : V) (h : Hp) : Prop :=
  bP x18 (
  oP (pFA 3 x5) fun v25 =>
  alP (pBS 58 1 1 V.nilPtr [(0, v25)]) h fun v26 h1 =>
  cP C n_script_words_row [x4, (V.func n_script_words_int [x4] []), v26] h1 fun v27 h2 =>
  J_script_Parse_R4 C Q x2 x4 x5 h2) (
  oP (hbin .eql 3 x16 (V.int .i64 2)) fun v29 =>
  bP v29 (
  J_script_Parse_R11 C Q x2 x4 x5 x16 v29 h) (
  oP (hbin .eql 3 x16 (V.int .i64 4)) fun v30 =>
  J_script_Parse_R11 C Q x2 x4 x5 x16 v30 h))
set_option maxRecDepth 100000 in
theorem j_script_Parse_R6 {C : Cfg} {Q : V → Hp → Prop} {x2 x4 x5 x16 x18 : V} {h : Hp} (H : B_script_Parse_R6 C Q x2 x4 x5 x16 x18 h) : J_script_Parse_R6 C Q x2 x4 x5 x16 x18 h := by
  intro ρ e2 e4 e5 e16 e18
  subst e2
  subst e4
  subst e5
  subst e16
  subst e18
  unfold B_script_Parse_R6 at H
  exact Wp.of (e_script_Parse_R6 _ _ _ _) (oSm (bM H (fun H => oSm (oSm (oSm (oM H fun v25 _ H => alM H fun v26 h1 H => dcM H fun v27 h2 H => H _ rfl rfl rfl)))) (fun H => oM H fun v29 _ H => oSm (Wp.of (e_script_Parse_R10 _ _ _ _) (oSm (bM H (fun H => H _ rfl rfl rfl rfl rfl) (fun H => oM H fun v30 _ H => oSm (H _ rfl rfl rfl rfl rfl))))))))
def B_script_Parse_R4 (C : Cfg) (Q : V → Hp → Prop) (x2 x4 x5 : V) (h : Hp) : Prop :=
  oP (pNil x4) fun v89 =>
  oP (pFA 1 v89) fun v90 =>
  oP (pLd v90 h) fun v91 =>
  oP (hun .not v91) fun v92 =>
  oP (pOr v92 (oB (some x4) fun v94 => oB (pNil v94) fun v95 => oB (pFA 0 v95) fun v96 => oB (pLd v96 h) fun v97 => oB (pLen v97) fun v98 => hbin .gtr 3 v98 (V.int .i64 0))) fun v100 =>
  oP (pOr v100 (oB (pFA 4 x5) fun v102 => oB (pFA 4 v102) fun v103 => oB (pLd v103 h) fun v104 => oB (pLen v104) fun v105 => hbin .gtr 3 v105 (V.int .i64 8))) fun v107 =>
  bP v107 (
  oP (pBuild [(V.int .i64 0), (V.int .i64 0), (V.int .i64 0), (V.int .i64 0), (V.int .i64 0), (V.int .i64 0), (V.int .i64 0), (V.int .i64 0), V.nilSlice] [(0, 1), (1, 1), (2, 1), (3, 1), (4, 5)] []) fun v108 =>
  valP (pSt 9 x2 v108 h) fun vu h1 =>
  oP (pLdA 9 x2 h1) fun r2 =>
  Q (V.tuple [r2, (V.int .i64 5)]) h1) (
  oP (pLdA 9 x5 h) fun v109 =>
  valP (pSt 9 x2 v109 h) fun vu_1 h2 =>
  oP (pLdA 9 x2 h2) fun r2_1 =>
  Q (V.tuple [r2_1, (V.int .i64 0)]) h2)
set_option maxRecDepth 100000 in
theorem j_script_Parse_R4 {C : Cfg} {Q : V → Hp → Prop} {x2 x4 x5 : V} {h : Hp} (H : B_script_Parse_R4 C Q x2 x4 x5 h) : J_script_Parse_R4 C Q x2 x4 x5 h := by
  intro ρ e2 e4 e5
  subst e2
  subst e4
  subst e5
  unfold B_script_Parse_R4 at H
  exact Wp.of (e_script_Parse_R4 _ _ _ _) (oSm (oM H fun v89 _ H => oM H fun v90 _ H => oM H fun v91 _ H => oM H fun v92 _ H => oSm (thn (or_open H) fun H => sG1 H fun b6 Gv94 v94 Ev94 H => sG1 H fun b7 Gv95 v95 Ev95 H => sG1 H fun b8 Gv96 v96 Ev96 H => sG1 H fun b9 Gv97 v97 Ev97 H => sG1 H fun b10 Gv98 v98 Ev98 H => oM H fun b11 Gv99 H => oM H fun v99 Ev99 H => oM H fun v100 Ev100 H => oSm (thn (or_open H) fun H => sG1 H fun b14 Gv102 v102 Ev102 H => sG1 H fun b15 Gv103 v103 Ev103 H => sG1 H fun b16 Gv104 v104 Ev104 H => sG1 H fun b17 Gv105 v105 Ev105 H => oM H fun b18 Gv106 H => oM H fun v106 Ev106 H => oM H fun v107 Ev107 H => Wp.of (e_script_Parse_R7 _ _ _ _) (oSm (bM H (fun H => oM H fun v108 _ H => valM H fun vu h1 H => oSm (Wp.of (e_script_Parse_R12 _ _ _ _) ((r_script_Parse _ _ _).mpr H))) (fun H => Wp.of (e_script_Parse_R8 _ _ _ _) (oM H fun v109 _ H => valM H fun vu_1 h2 H => oSm (Wp.of (e_script_Parse_R13 _ _ _ _) ((r_script_Parse _ _ _).mpr H))))))))))
def B_script_Parse_R11 (C : Cfg) (Q : V → Hp → Prop) (x2 x4 x5 x16 x28 : V) (h : Hp) : Prop :=
  bP x28 (
  oP (pFA 1 x5) fun v34 =>
  oP (pFA 2 x5) fun v35 =>
  alP (pBS 58 1 2 V.nilPtr [(0, v34), (1, v35)]) h fun v36 h1 =>
  cP C n_script_words_row [x4, (V.func n_script_words_int [x4] []), v36] h1 fun v37 h2 =>
  J_script_Parse_R4 C Q x2 x4 x5 h2) (
  oP (hbin .eql 3 x16 (V.int .i64 5)) fun v39 =>
  bP v39 (
  oP (pFA 1 x5) fun v43 =>
  alP (pBS 58 1 1 V.nilPtr [(0, v43)]) h fun v44 h3 =>
  cP C n_script_words_row [x4, (V.func n_script_words_int [x4] []), v44] h3 fun v45 h4 =>
  J_script_Parse_R4 C Q x2 x4 x5 h4) (
  oP (hbin .eql 3 x16 (V.int .i64 6)) fun v47 =>
  bP v47 (
  oP (pFA 4 x5) fun v51 =>
  oP (pFA 0 v51) fun v52 =>
  oP (pFA 4 x5) fun v53 =>
  oP (pFA 1 v53) fun v54 =>
  oP (pFA 4 x5) fun v55 =>
  oP (pFA 2 v55) fun v56 =>
  oP (pFA 4 x5) fun v57 =>
  oP (pFA 3 v57) fun v58 =>
  alP (pBS 58 1 4 V.nilPtr [(0, v52), (1, v54), (2, v56), (3, v58)]) h fun v59 h5 =>
  cP C n_script_words_row [x4, (V.func n_script_words_int [x4] []), v59] h5 fun v60 h6 =>
  J_script_Parse_L0 C Q x2 x4 x5 h6) (
  oP (pBuild [(V.int .i64 0), (V.int .i64 0), (V.int .i64 0), (V.int .i64 0), (V.int .i64 0), (V.int .i64 0), (V.int .i64 0), (V.int .i64 0), V.nilSlice] [(0, 1), (1, 1), (2, 1), (3, 1), (4, 5)] []) fun v17 =>
  valP (pSt 9 x2 v17 h) fun vu h7 =>
  oP (pLdA 9 x2 h7) fun r2 =>
  Q (V.tuple [r2, (V.int .i64 5)]) h7)))
set_option maxRecDepth 100000 in
theorem j_script_Parse_R11 {C : Cfg} {Q : V → Hp → Prop} {x2 x4 x5 x16 x28 : V} {h : Hp} (H : B_script_Parse_R11 C Q x2 x4 x5 x16 x28 h) : J_script_Parse_R11 C Q x2 x4 x5 x16 x28 h := by
  intro ρ e2 e4 e5 e16 e28
  subst e2
  subst e4
  subst e5
  subst e16
  subst e28
  unfold B_script_Parse_R11 at H
  exact Wp.of (e_script_Parse_R11 _ _ _ _) (oSm (bM H (fun H => oSm (oSm (oSm (oM H fun v34 _ H => oM H fun v35 _ H => alM H fun v36 h1 H => dcM H fun v37 h2 H => H _ rfl rfl rfl)))) (fun H => oM H fun v39 _ H => oSm (Wp.of (e_script_Parse_R14 _ _ _ _) (oSm (bM H (fun H => oSm (oSm (oSm (oM H fun v43 _ H => alM H fun v44 h3 H => dcM H fun v45 h4 H => H _ rfl rfl rfl)))) (fun H => oM H fun v47 _ H => oSm (Wp.of (e_script_Parse_R15 _ _ _ _) (oSm (bM H (fun H => oSm (oSm (oSm (oM H fun v51 _ H => oM H fun v52 _ H => oM H fun v53 _ H => oM H fun v54 _ H => oM H fun v55 _ H => oM H fun v56 _ H => oM H fun v57 _ H => oM H fun v58 _ H => alM H fun v59 h5 H => dcM H fun v60 h6 H => Wp.of (e_script_Parse_R16 _ _ _ _) (H _ rfl rfl rfl))))) (fun H => oM H fun v17 _ H => valM H fun vu h7 H => oSm (Wp.of (e_script_Parse_R17 _ _ _ _) ((r_script_Parse _ _ _).mpr H)))))))))))))
def B_script_Parse_L0 (C : Cfg) (Q : V → Hp → Prop) (KL0 : V → V → V → Hp → Prop) (x2 x4 x5 : V) (h : Hp) : Prop :=
  oP (pNil x4) fun v62 =>
  oP (pFA 1 v62) fun v63 =>
  oP (pLd v63 h) fun v64 =>
  oP (pAnd v64 (oB (some x4) fun v66 => oB (pNil v66) fun v67 => oB (pFA 0 v67) fun v68 => oB (pLd v68 h) fun v69 => oB (pLen v69) fun v70 => hbin .gtr 3 v70 (V.int .i64 0))) fun v72 =>
  bP v72 (
  alP (some (.cells 60 1 true false [(V.int .i64 0), (V.int .i64 0)], fun l => .ptr l 0)) h fun v6 h1 =>
  oP (pFA 0 v6) fun v76 =>
  oP (pFA 1 v6) fun v77 =>
  alP (pBS 58 1 2 V.nilPtr [(0, v76), (1, v77)]) h1 fun v78 h2 =>
  cP C n_script_words_row [x4, (V.func n_script_words_int [x4] []), v78] h2 fun v79 h3 =>
  oP (pFA 4 x5) fun v80 =>
  oP (pFA 4 v80) fun v81 =>
  oP (pLd v81 h3) fun v82 =>
  oP (pLdA 2 v6 h3) fun v83 =>
  alP (pBS 60 2 1 (V.agg [(V.int .i64 0), (V.int .i64 0)]) [(0, v83)]) h3 fun v84 h4 =>
  valP (happend 60 2 16 v82 v84 h4) fun v85 h5 =>
  oP (pFA 4 x5) fun v86 =>
  oP (pFA 4 v86) fun v87 =>
  valP (pSt 1 v87 v85 h5) fun vu h6 =>
  KL0 x2 x4 x5 h6) (
  J_script_Parse_R4 C Q x2 x4 x5 h)
set_option maxRecDepth 100000 in
theorem l_script_Parse_L0 {C : Cfg} {Q : V → Hp → Prop} (I : Nat → V → V → V → Hp → Prop) (step : ∀ (k : Nat) (x2 x4 x5 : V) (h : Hp), I k x2 x4 x5 h → B_script_Parse_L0 C Q (fun x2 x4 x5 h => ∃ k', k' < k ∧ I k' x2 x4 x5 h) x2 x4 x5 h) {k : Nat} {x2 x4 x5 : V} {h : Hp} (h0 : I k x2 x4 x5 h) : J_script_Parse_L0 C Q x2 x4 x5 h := by
  intro ρ e2 e4 e5
  subst e2
  subst e4
  subst e5
  refine Wp.loopI (fun k ρ h => I k (ρ 2) (ρ 4) (ρ 5) h) (fun k ρ h hi => ?_) h0
  have H := step k (ρ 2) (ρ 4) (ρ 5) h hi
  unfold B_script_Parse_L0 at H
  exact Wp.of (e_script_Parse_L0 _ _ _ _) (oSm (oM H fun v62 _ H => oM H fun v63 _ H => oM H fun v64 _ H => oSm (thn (and_open H) fun H => sG1 H fun b5 Gv66 v66 Ev66 H => sG1 H fun b6 Gv67 v67 Ev67 H => sG1 H fun b7 Gv68 v68 Ev68 H => sG1 H fun b8 Gv69 v69 Ev69 H => sG1 H fun b9 Gv70 v70 Ev70 H => oM H fun b10 Gv71 H => oM H fun v71 Ev71 H => oM H fun v72 Ev72 H => Wp.of (e_script_Parse_R18 _ _ _ _) (oSm (bM H (fun H => Wp.of (e_script_Parse_R19 _ _ _ _) (alM H fun v6 h1 H => Wp.of (e_script_Parse_R20 _ _ _ _) (oSm (oSm (oSm (oM H fun v76 _ H => oM H fun v77 _ H => alM H fun v78 h2 H => dcM H fun v79 h3 H => Wp.of (e_script_Parse_R21 _ _ _ _) (oM H fun v80 _ H => oM H fun v81 _ H => oM H fun v82 _ H => oM H fun v83 _ H => alM H fun v84 h4 H => valM H fun v85 h5 H => oM H fun v86 _ H => oM H fun v87 _ H => valM H fun vu h6 H => H))))))) (fun H => H _ rfl rfl rfl))))))
def B_script_Parse (C : Cfg) (Q : V → Hp → Prop) (a0 : V) (h : Hp) : Prop :=
  alP (some (.cells 26 1 true false [(V.int .i64 0), (V.int .i64 0), (V.int .i64 0), (V.int .i64 0), (V.int .i64 0), (V.int .i64 0), (V.int .i64 0), (V.int .i64 0), V.nilSlice], fun l => .ptr l 0)) h fun v2 h1 =>
  cP C n_strings_Split [a0, (V.str [32])] h1 fun v8 h2 =>
  oP (pBuild [V.nilSlice, (V.bool false)] [(0, 1), (1, 1)] [(0, v8), (1, (V.bool true))]) fun v9 =>
  alP (hbox 54 v9) h2 fun v10 h3 =>
  cP C n_script_words_next [v10] h3 fun v12 h4 =>
  cP C n_script_kind [v12] h4 fun v13 h5 =>
  oP (pBuild [(V.int .i64 0), (V.int .i64 0), (V.int .i64 0), (V.int .i64 0), (V.int .i64 0), (V.int .i64 0), (V.int .i64 0), (V.int .i64 0), V.nilSlice] [(0, 1), (1, 1), (2, 1), (3, 1), (4, 5)] [(0, v13)]) fun v14 =>
  alP (some (.cells 26 1 true false [(V.int .i64 0), (V.int .i64 0), (V.int .i64 0), (V.int .i64 0), (V.int .i64 0), (V.int .i64 0), (V.int .i64 0), (V.int .i64 0), V.nilSlice], fun l => .ptr l 0)) h5 fun v5 h6 =>
  valP (pSt 9 v5 v14 h6) fun vu h7 =>
  oP (pFA 0 v5) fun v15 =>
  oP (pLd v15 h7) fun v16 =>
  oP (hbin .eql 3 v16 (V.int .i64 1)) fun v19 =>
  bP v19 (
  J_script_Parse_R6 C Q v2 v10 v5 v16 v19 h7) (
  oP (hbin .eql 3 v16 (V.int .i64 3)) fun v20 =>
  bP v20 (
  J_script_Parse_R6 C Q v2 v10 v5 v16 v20 h7) (
  oP (hbin .eql 3 v16 (V.int .i64 7)) fun v21 =>
  J_script_Parse_R6 C Q v2 v10 v5 v16 v21 h7))
set_option maxRecDepth 100000 in
theorem c_script_Parse {C : Cfg} (hs : C.start = startF) {a0 : V} {h : Hp} {Q : V → Hp → Prop} (hk : C.K n_script_Parse [a0] h = none) (H : B_script_Parse C Q a0 h) : cP C n_script_Parse [a0] h Q := by
  unfold B_script_Parse at H
  exact f_script_Parse hs _ hk ((e_script_Parse _ _ _ _).mpr (alM H fun v2 h1 H => oSm (Wp.of (e_script_Parse_R0 _ _ _ _) (oSm (dcM H fun v8 h2 H => oM H fun v9 _ H => alM H fun v10 h3 H => oSm (Wp.of (e_script_Parse_R1 _ _ _ _) (oSm (dcM H fun v12 h4 H => dcM H fun v13 h5 H => oM H fun v14 _ H => alM H fun v5 h6 H => valM H fun vu h7 H => Wp.of (e_script_Parse_R2 _ _ _ _) (oM H fun v15 _ H => oM H fun v16 _ H => Wp.of (e_script_Parse_R3 _ _ _ _) (oM H fun v19 _ H => oSm (Wp.of (e_script_Parse_R5 _ _ _ _) (oSm (bM H (fun H => H _ rfl rfl rfl rfl rfl) (fun H => oM H fun v20 _ H => oSm (Wp.of (e_script_Parse_R9 _ _ _ _) (oSm (bM H (fun H => H _ rfl rfl rfl rfl rfl) (fun H => oM H fun v21 _ H => oSm (H _ rfl rfl rfl rfl rfl)))))))))))))))))))
/-! ### strings.HasPrefix -/
noncomputable def k_strings_HasPrefix : Code := bodyOf Tryz.f50
noncomputable def k_strings_HasPrefix_R0 : Code := k_strings_HasPrefix.r
noncomputable def k_strings_HasPrefix_R1 : Code := k_strings_HasPrefix.r.r
set_option maxRecDepth 100000 in
theorem e_strings_HasPrefix (C : Cfg) (Q : X → Rho → Hp → Prop) (ρ : Rho) (h : Hp) : codeR C 8 k_strings_HasPrefix Q ρ h = (
  oP (some (V.bool false)) fun v4 =>
  Wp C 8 k_strings_HasPrefix_R0 Q (rset ρ 4 v4) h) := by kernel_rfl
set_option maxRecDepth 100000 in
theorem e_strings_HasPrefix_R0 (C : Cfg) (Q : X → Rho → Hp → Prop) (ρ : Rho) (h : Hp) : codeR C 8 k_strings_HasPrefix_R0 Q ρ h = (
  oP (some (ρ 0)) fun v5 =>
  oP (some (ρ 1)) fun v6 =>
  dcP C n_stringslite_HasPrefix [v5, v6] h fun v7 h1 =>
  oP (some v7) fun v4 =>
  Wp C 8 k_strings_HasPrefix_R1 Q (rset (rset (rset (rset ρ 5 v5) 6 v6) 7 v7) 4 v4) h1) := by kernel_rfl
set_option maxRecDepth 100000 in
theorem e_strings_HasPrefix_R1 (C : Cfg) (Q : X → Rho → Hp → Prop) (ρ : Rho) (h : Hp) : codeR C 8 k_strings_HasPrefix_R1 Q ρ h = (
  Q .ret ρ h) := by kernel_rfl
theorem f_strings_HasPrefix {C : Cfg} (hs : C.start = startF) (a0 a1 : V) {h : Hp} {Q : V → Hp → Prop} (hk : C.K n_strings_HasPrefix [a0, a1] h = none) (H : codeR C 8 k_strings_HasPrefix (bodyQ [.tmp 4] Q) (argsR [a0, a1]) h) : cP C n_strings_HasPrefix [a0, a1] h Q :=
  cP.funcN hs (show P0.funcs[50]? = some Tryz.f50 by unfold P0; exact Tryz.func50) (by kernel_rfl) (by kernel_rfl) (by kernel_rfl) hk (Nat.le_of_ble_eq_true rfl) (Wp.code _ H)
def B_strings_HasPrefix (C : Cfg) (Q : V → Hp → Prop) (a0 a1 : V) (h : Hp) : Prop :=
  cP C n_stringslite_HasPrefix [a0, a1] h fun v7 h1 =>
  Q v7 h1
set_option maxRecDepth 100000 in
theorem c_strings_HasPrefix {C : Cfg} (hs : C.start = startF) {a0 a1 : V} {h : Hp} {Q : V → Hp → Prop} (hk : C.K n_strings_HasPrefix [a0, a1] h = none) (H : B_strings_HasPrefix C Q a0 a1 h) : cP C n_strings_HasPrefix [a0, a1] h Q := by
  unfold B_strings_HasPrefix at H
  exact f_strings_HasPrefix hs _ _ hk ((e_strings_HasPrefix _ _ _ _).mpr (oSm (Wp.of (e_strings_HasPrefix_R0 _ _ _ _) (oSm (oSm (dcM H fun v7 h1 H => oSm (Wp.of (e_strings_HasPrefix_R1 _ _ _ _) (H))))))))
/-! ### internal/stringslite.HasPrefix -/
noncomputable def k_stringslite_HasPrefix : Code := bodyOf Tryz.f65
noncomputable def k_stringslite_HasPrefix_R0 : Code := k_stringslite_HasPrefix.r
noncomputable def k_stringslite_HasPrefix_R1 : Code := k_stringslite_HasPrefix.r.r
set_option maxRecDepth 100000 in
theorem e_stringslite_HasPrefix (C : Cfg) (Q : X → Rho → Hp → Prop) (ρ : Rho) (h : Hp) : codeR C 18 k_stringslite_HasPrefix Q ρ h = (
  oP (some (V.bool false)) fun v4 =>
  Wp C 18 k_stringslite_HasPrefix_R0 Q (rset ρ 4 v4) h) := by kernel_rfl
set_option maxRecDepth 100000 in
theorem e_stringslite_HasPrefix_R0 (C : Cfg) (Q : X → Rho → Hp → Prop) (ρ : Rho) (h : Hp) : codeR C 18 k_stringslite_HasPrefix_R0 Q ρ h = (
  oP (some (ρ 0)) fun v5 =>
  oP (pLenS v5) fun v6 =>
  oP (some (ρ 1)) fun v7 =>
  oP (pLenS v7) fun v8 =>
  oP (hbin .geq 3 v6 v8) fun v9 =>
  oP (some v9) fun v10 =>
  oP (pGd true v10) fun b6 =>
  oP (gV b6 (some (ρ 0))) fun v11 =>
  oP (pGd true v10) fun b7 =>
  oP (gV b7 (some (ρ 1))) fun v12 =>
  oP (pGd true v10) fun b8 =>
  oP (gV b8 (pLenS v12)) fun v13 =>
  oP (pGd true v10) fun b9 =>
  oP (gV b9 (hsliceS v11 none (some v13))) fun v14 =>
  oP (pGd true v10) fun b10 =>
  oP (gV b10 (some (ρ 1))) fun v15 =>
  oP (pGd true v10) fun b11 =>
  oP (gV b11 (hbin .eql 9 v14 v15)) fun v16 =>
  oP (pPick v10 v16 (V.bool false)) fun v17 =>
  oP (some v17) fun v4 =>
  Wp C 18 k_stringslite_HasPrefix_R1 Q (rset (rset (rset (rset (rset (rset (rset (rset (rset (rset (rset (rset (rset (rset ρ 5 v5) 6 v6) 7 v7) 8 v8) 9 v9) 10 v10) 11 v11) 12 v12) 13 v13) 14 v14) 15 v15) 16 v16) 17 v17) 4 v4) h) := by kernel_rfl
set_option maxRecDepth 100000 in
theorem e_stringslite_HasPrefix_R1 (C : Cfg) (Q : X → Rho → Hp → Prop) (ρ : Rho) (h : Hp) : codeR C 18 k_stringslite_HasPrefix_R1 Q ρ h = (
  Q .ret ρ h) := by kernel_rfl
theorem f_stringslite_HasPrefix {C : Cfg} (hs : C.start = startF) (a0 a1 : V) {h : Hp} {Q : V → Hp → Prop} (hk : C.K n_stringslite_HasPrefix [a0, a1] h = none) (H : codeR C 18 k_stringslite_HasPrefix (bodyQ [.tmp 4] Q) (argsR [a0, a1]) h) : cP C n_stringslite_HasPrefix [a0, a1] h Q :=
  cP.funcN hs (show P0.funcs[65]? = some Tryz.f65 by unfold P0; exact Tryz.func65) (by kernel_rfl) (by kernel_rfl) (by kernel_rfl) hk (Nat.le_of_ble_eq_true rfl) (Wp.code _ H)
def B_stringslite_HasPrefix (C : Cfg) (Q : V → Hp → Prop) (a0 a1 : V) (h : Hp) : Prop :=
  oP (pLenS a0) fun v6 =>
  oP (pLenS a1) fun v8 =>
  oP (hbin .geq 3 v6 v8) fun v9 =>
  oP (pAnd v9 (oB (some a0) fun v11 => oB (some a1) fun v12 => oB (pLenS v12) fun v13 => oB (hsliceS v11 none (some v13)) fun v14 => oB (some a1) fun v15 => hbin .eql 9 v14 v15)) fun v17 =>
  Q v17 h
set_option maxRecDepth 100000 in
theorem c_stringslite_HasPrefix {C : Cfg} (hs : C.start = startF) {a0 a1 : V} {h : Hp} {Q : V → Hp → Prop} (hk : C.K n_stringslite_HasPrefix [a0, a1] h = none) (H : B_stringslite_HasPrefix C Q a0 a1 h) : cP C n_stringslite_HasPrefix [a0, a1] h Q := by
  unfold B_stringslite_HasPrefix at H
  exact f_stringslite_HasPrefix hs _ _ hk ((e_stringslite_HasPrefix _ _ _ _).mpr (oSm (Wp.of (e_stringslite_HasPrefix_R0 _ _ _ _) (oSm (oM H fun v6 _ H => oSm (oM H fun v8 _ H => oM H fun v9 _ H => oSm (thn (and_open H) fun H => sG1 H fun b6 Gv11 v11 Ev11 H => sG1 H fun b7 Gv12 v12 Ev12 H => sG1 H fun b8 Gv13 v13 Ev13 H => sG1 H fun b9 Gv14 v14 Ev14 H => sG1 H fun b10 Gv15 v15 Ev15 H => oM H fun b11 Gv16 H => oM H fun v16 Ev16 H => oM H fun v17 Ev17 H => oSm (Wp.of (e_stringslite_HasPrefix_R1 _ _ _ _) (H)))))))))
/-! ### strings.Split -/
noncomputable def k_strings_Split : Code := bodyOf Tryz.f19
noncomputable def k_strings_Split_R0 : Code := k_strings_Split.r
noncomputable def k_strings_Split_R1 : Code := k_strings_Split.r.r
set_option maxRecDepth 100000 in
theorem e_strings_Split (C : Cfg) (Q : X → Rho → Hp → Prop) (ρ : Rho) (h : Hp) : codeR C 8 k_strings_Split Q ρ h = (
  oP (some V.nilSlice) fun v4 =>
  Wp C 8 k_strings_Split_R0 Q (rset ρ 4 v4) h) := by kernel_rfl
set_option maxRecDepth 100000 in
theorem e_strings_Split_R0 (C : Cfg) (Q : X → Rho → Hp → Prop) (ρ : Rho) (h : Hp) : codeR C 8 k_strings_Split_R0 Q ρ h = (
  oP (some (ρ 0)) fun v5 =>
  oP (some (ρ 1)) fun v6 =>
  dcP C n_strings_genSplit [v5, v6, (V.int .i64 0), (V.int .i64 (-1))] h fun v7 h1 =>
  oP (some v7) fun v4 =>
  Wp C 8 k_strings_Split_R1 Q (rset (rset (rset (rset ρ 5 v5) 6 v6) 7 v7) 4 v4) h1) := by kernel_rfl
set_option maxRecDepth 100000 in
theorem e_strings_Split_R1 (C : Cfg) (Q : X → Rho → Hp → Prop) (ρ : Rho) (h : Hp) : codeR C 8 k_strings_Split_R1 Q ρ h = (
  Q .ret ρ h) := by kernel_rfl
theorem f_strings_Split {C : Cfg} (hs : C.start = startF) (a0 a1 : V) {h : Hp} {Q : V → Hp → Prop} (hk : C.K n_strings_Split [a0, a1] h = none) (H : codeR C 8 k_strings_Split (bodyQ [.tmp 4] Q) (argsR [a0, a1]) h) : cP C n_strings_Split [a0, a1] h Q :=
  cP.funcN hs (show P0.funcs[19]? = some Tryz.f19 by unfold P0; exact Tryz.func19) (by kernel_rfl) (by kernel_rfl) (by kernel_rfl) hk (Nat.le_of_ble_eq_true rfl) (Wp.code _ H)
def B_strings_Split (C : Cfg) (Q : V → Hp → Prop) (a0 a1 : V) (h : Hp) : Prop :=
  cP C n_strings_genSplit [a0, a1, (V.int .i64 0), (V.int .i64 (-1))] h fun v7 h1 =>
  Q v7 h1
set_option maxRecDepth 100000 in
theorem c_strings_Split {C : Cfg} (hs : C.start = startF) {a0 a1 : V} {h : Hp} {Q : V → Hp → Prop} (hk : C.K n_strings_Split [a0, a1] h = none) (H : B_strings_Split C Q a0 a1 h) : cP C n_strings_Split [a0, a1] h Q := by
  unfold B_strings_Split at H
  exact f_strings_Split hs _ _ hk ((e_strings_Split _ _ _ _).mpr (oSm (Wp.of (e_strings_Split_R0 _ _ _ _) (oSm (oSm (dcM H fun v7 h1 H => oSm (Wp.of (e_strings_Split_R1 _ _ _ _) (H))))))))
/-! ### strings.genSplit -/
noncomputable def k_strings_genSplit : Code := bodyOf Tryz.f36
noncomputable def k_strings_genSplit_R0 : Code := k_strings_genSplit.r
noncomputable def k_strings_genSplit_R1 : Code := k_strings_genSplit.r.l.r
noncomputable def k_strings_genSplit_R2 : Code := k_strings_genSplit.r.r
noncomputable def q_strings_genSplit_0 (C : Cfg) (Q : X → Rho → Hp → Prop) : X → Rho → Hp → Prop := andThen (Wp C 66 k_strings_genSplit_R2 Q) Q
theorem q_strings_genSplit_0_normal (C : Cfg) (Q : X → Rho → Hp → Prop) (ρ : Rho) (h : Hp) : q_strings_genSplit_0 C Q .normal ρ h = Wp C 66 k_strings_genSplit_R2 Q ρ h := rfl
theorem q_strings_genSplit_0_ret (C : Cfg) (Q : X → Rho → Hp → Prop) (ρ : Rho) (h : Hp) : q_strings_genSplit_0 C Q .ret ρ h = Q .ret ρ h := rfl
noncomputable def k_strings_genSplit_R3 : Code := k_strings_genSplit.r.l.r.l.r
noncomputable def k_strings_genSplit_R4 : Code := k_strings_genSplit.r.r.l.r
noncomputable def k_strings_genSplit_R5 : Code := k_strings_genSplit.r.r.r
noncomputable def q_strings_genSplit_1 (C : Cfg) (Q : X → Rho → Hp → Prop) : X → Rho → Hp → Prop := andThen (Wp C 66 k_strings_genSplit_R5 Q) Q
theorem q_strings_genSplit_1_normal (C : Cfg) (Q : X → Rho → Hp → Prop) (ρ : Rho) (h : Hp) : q_strings_genSplit_1 C Q .normal ρ h = Wp C 66 k_strings_genSplit_R5 Q ρ h := rfl
theorem q_strings_genSplit_1_ret (C : Cfg) (Q : X → Rho → Hp → Prop) (ρ : Rho) (h : Hp) : q_strings_genSplit_1 C Q .ret ρ h = Q .ret ρ h := rfl
noncomputable def k_strings_genSplit_R6 : Code := k_strings_genSplit.r.r.l.r.l.r
noncomputable def k_strings_genSplit_R7 : Code := k_strings_genSplit.r.r.r.l.r
noncomputable def k_strings_genSplit_R8 : Code := k_strings_genSplit.r.r.r.r
noncomputable def q_strings_genSplit_2 (C : Cfg) (Q : X → Rho → Hp → Prop) : X → Rho → Hp → Prop := andThen (Wp C 66 k_strings_genSplit_R8 Q) Q
theorem q_strings_genSplit_2_normal (C : Cfg) (Q : X → Rho → Hp → Prop) (ρ : Rho) (h : Hp) : q_strings_genSplit_2 C Q .normal ρ h = Wp C 66 k_strings_genSplit_R8 Q ρ h := rfl
theorem q_strings_genSplit_2_ret (C : Cfg) (Q : X → Rho → Hp → Prop) (ρ : Rho) (h : Hp) : q_strings_genSplit_2 C Q .ret ρ h = Q .ret ρ h := rfl
noncomputable def k_strings_genSplit_R9 : Code := k_strings_genSplit.r.r.r.r.r
noncomputable def k_strings_genSplit_R10 : Code := k_strings_genSplit.r.r.r.r.r.r
noncomputable def k_strings_genSplit_R11 : Code := k_strings_genSplit.r.r.r.r.r.r.r
noncomputable def k_strings_genSplit_R12 : Code := k_strings_genSplit.r.r.r.r.r.r.r.r
noncomputable def k_strings_genSplit_L0 : Code := k_strings_genSplit.r.r.r.r.r.r.r.r.l.l.l
noncomputable def k_strings_genSplit_R13 : Code := k_strings_genSplit.r.r.r.r.r.r.r.r.r
noncomputable def q_strings_genSplit_4 (C : Cfg) (Q : X → Rho → Hp → Prop) : X → Rho → Hp → Prop := andThen (Wp C 66 k_strings_genSplit_R13 Q) Q
theorem q_strings_genSplit_4_normal (C : Cfg) (Q : X → Rho → Hp → Prop) (ρ : Rho) (h : Hp) : q_strings_genSplit_4 C Q .normal ρ h = Wp C 66 k_strings_genSplit_R13 Q ρ h := rfl
theorem q_strings_genSplit_4_ret (C : Cfg) (Q : X → Rho → Hp → Prop) (ρ : Rho) (h : Hp) : q_strings_genSplit_4 C Q .ret ρ h = Q .ret ρ h := rfl
noncomputable def q_strings_genSplit_3 (C : Cfg) (Q : X → Rho → Hp → Prop) : X → Rho → Hp → Prop := blockQ 0 (q_strings_genSplit_4 C Q)
theorem q_strings_genSplit_3_normal (C : Cfg) (Q : X → Rho → Hp → Prop) (ρ : Rho) (h : Hp) : q_strings_genSplit_3 C Q .normal ρ h = Wp C 66 k_strings_genSplit_R13 Q ρ h := rfl
theorem q_strings_genSplit_3_ret (C : Cfg) (Q : X → Rho → Hp → Prop) (ρ : Rho) (h : Hp) : q_strings_genSplit_3 C Q .ret ρ h = Q .ret ρ h := rfl
theorem q_strings_genSplit_3_exit0 (C : Cfg) (Q : X → Rho → Hp → Prop) (ρ : Rho) (h : Hp) : q_strings_genSplit_3 C Q (.exit 0) ρ h = Wp C 66 k_strings_genSplit_R13 Q ρ h := rfl
noncomputable def k_strings_genSplit_R14 : Code := k_strings_genSplit.r.r.r.r.r.r.r.r.l.l.l.l.r
noncomputable def k_strings_genSplit_R15 : Code := k_strings_genSplit.r.r.r.r.r.r.r.r.l.l.l.r
noncomputable def q_strings_genSplit_5 (C : Cfg) (Q : X → Rho → Hp → Prop) : X → Rho → Hp → Prop := andThen (Wp C 66 k_strings_genSplit_R15 Q) Q
theorem q_strings_genSplit_5_normal (C : Cfg) (Q : X → Rho → Hp → Prop) (ρ : Rho) (h : Hp) : q_strings_genSplit_5 C Q .normal ρ h = Wp C 66 k_strings_genSplit_R15 Q ρ h := rfl
theorem q_strings_genSplit_5_ret (C : Cfg) (Q : X → Rho → Hp → Prop) (ρ : Rho) (h : Hp) : q_strings_genSplit_5 C Q .ret ρ h = Q .ret ρ h := rfl
noncomputable def k_strings_genSplit_R16 : Code := k_strings_genSplit.r.r.r.r.r.r.r.r.r.r
noncomputable def k_strings_genSplit_R17 : Code := k_strings_genSplit.r.r.r.r.r.r.r.r.l.l.l.r.l.r
noncomputable def q_strings_genSplit_6 (C : Cfg) (Q : X → Rho → Hp → Prop) : X → Rho → Hp → Prop := blockQ 1 Q
theorem q_strings_genSplit_6_normal (C : Cfg) (Q : X → Rho → Hp → Prop) (ρ : Rho) (h : Hp) : q_strings_genSplit_6 C Q .normal ρ h = Q .normal ρ h := rfl
theorem q_strings_genSplit_6_ret (C : Cfg) (Q : X → Rho → Hp → Prop) (ρ : Rho) (h : Hp) : q_strings_genSplit_6 C Q .ret ρ h = Q .ret ρ h := rfl
theorem q_strings_genSplit_6_exit1 (C : Cfg) (Q : X → Rho → Hp → Prop) (ρ : Rho) (h : Hp) : q_strings_genSplit_6 C Q (.exit 1) ρ h = Q .normal ρ h := rfl
noncomputable def k_strings_genSplit_R18 : Code := k_strings_genSplit.r.r.r.r.r.r.r.r.r.r.r
noncomputable def k_strings_genSplit_R19 : Code := k_strings_genSplit.r.r.r.r.r.r.r.r.l.l.l.r.l.r.l.r
noncomputable def k_strings_genSplit_R20 : Code := k_strings_genSplit.r.r.r.r.r.r.r.r.l.l.l.r.l.r.r
noncomputable def q_strings_genSplit_7 (C : Cfg) (Q : X → Rho → Hp → Prop) : X → Rho → Hp → Prop := andThen (Wp C 66 k_strings_genSplit_R20 Q) Q
theorem q_strings_genSplit_7_normal (C : Cfg) (Q : X → Rho → Hp → Prop) (ρ : Rho) (h : Hp) : q_strings_genSplit_7 C Q .normal ρ h = Wp C 66 k_strings_genSplit_R20 Q ρ h := rfl
theorem q_strings_genSplit_7_ret (C : Cfg) (Q : X → Rho → Hp → Prop) (ρ : Rho) (h : Hp) : q_strings_genSplit_7 C Q .ret ρ h = Q .ret ρ h := rfl
noncomputable def k_strings_genSplit_R21 : Code := k_strings_genSplit.r.r.r.r.r.r.r.r.l.l.l.r.l.r.r.r
noncomputable def k_strings_genSplit_R22 : Code := k_strings_genSplit.r.r.r.r.r.r.r.r.l.l.l.r.l.r.r.r.r
set_option maxRecDepth 100000 in
theorem e_strings_genSplit (C : Cfg) (Q : X → Rho → Hp → Prop) (ρ : Rho) (h : Hp) : codeR C 66 k_strings_genSplit Q ρ h = (
  oP (some V.nilSlice) fun v8 =>
  Wp C 66 k_strings_genSplit_R0 Q (rset ρ 8 v8) h) := by kernel_rfl
set_option maxRecDepth 100000 in
theorem e_strings_genSplit_R0 (C : Cfg) (Q : X → Rho → Hp → Prop) (ρ : Rho) (h : Hp) : codeR C 66 k_strings_genSplit_R0 Q ρ h = (
  oP (some (ρ 3)) fun v12 =>
  oP (hbin .eql 3 v12 (V.int .i64 0)) fun v13 =>
  Wp C 66 k_strings_genSplit_R1 (q_strings_genSplit_0 C Q) (rset (rset ρ 12 v12) 13 v13) h) := by kernel_rfl
set_option maxRecDepth 100000 in
theorem e_strings_genSplit_R2 (C : Cfg) (Q : X → Rho → Hp → Prop) (ρ : Rho) (h : Hp) : codeR C 66 k_strings_genSplit_R2 Q ρ h = (
  oP (some (ρ 1)) fun v14 =>
  oP (hbin .eql 9 v14 (V.str [])) fun v15 =>
  Wp C 66 k_strings_genSplit_R4 (q_strings_genSplit_1 C Q) (rset (rset ρ 14 v14) 15 v15) h) := by kernel_rfl
set_option maxRecDepth 100000 in
theorem e_strings_genSplit_R1 (C : Cfg) (Q : X → Rho → Hp → Prop) (ρ : Rho) (h : Hp) : codeR C 66 k_strings_genSplit_R1 Q ρ h = (
  oP (some (ρ 13)) fun c =>
  bP c (
    oP (some V.nilSlice) fun v8 =>
    Wp C 66 k_strings_genSplit_R3 Q (rset ρ 8 v8) h) (
    Q .normal ρ h)) := by kernel_rfl
set_option maxRecDepth 100000 in
theorem e_strings_genSplit_R5 (C : Cfg) (Q : X → Rho → Hp → Prop) (ρ : Rho) (h : Hp) : codeR C 66 k_strings_genSplit_R5 Q ρ h = (
  oP (some (ρ 3)) fun v19 =>
  oP (hbin .lss 3 v19 (V.int .i64 0)) fun v20 =>
  Wp C 66 k_strings_genSplit_R7 (q_strings_genSplit_2 C Q) (rset (rset ρ 19 v19) 20 v20) h) := by kernel_rfl
set_option maxRecDepth 100000 in
theorem e_strings_genSplit_R4 (C : Cfg) (Q : X → Rho → Hp → Prop) (ρ : Rho) (h : Hp) : codeR C 66 k_strings_genSplit_R4 Q ρ h = (
  oP (some (ρ 15)) fun c =>
  bP c (
    oP (some (ρ 0)) fun v16 =>
    oP (some (ρ 3)) fun v17 =>
    dcP C n_strings_explode [v16, v17] h fun v18 h1 =>
    oP (some v18) fun v8 =>
    Wp C 66 k_strings_genSplit_R6 Q (rset (rset (rset (rset ρ 16 v16) 17 v17) 18 v18) 8 v8) h1) (
    Q .normal ρ h)) := by kernel_rfl
set_option maxRecDepth 100000 in
theorem e_strings_genSplit_R8 (C : Cfg) (Q : X → Rho → Hp → Prop) (ρ : Rho) (h : Hp) : codeR C 66 k_strings_genSplit_R8 Q ρ h = (
  oP (some (ρ 3)) fun v25 =>
  oP (some (ρ 0)) fun v26 =>
  oP (pLenS v26) fun v27 =>
  oP (hbin .add 3 v27 (V.int .i64 1)) fun v28 =>
  oP (hmin false v25 [v28]) fun v29 =>
  oP (some v29) fun v3 =>
  Wp C 66 k_strings_genSplit_R9 Q (rset (rset (rset (rset (rset (rset ρ 25 v25) 26 v26) 27 v27) 28 v28) 29 v29) 3 v3) h) := by kernel_rfl
set_option maxRecDepth 100000 in
theorem e_strings_genSplit_R3 (C : Cfg) (Q : X → Rho → Hp → Prop) (ρ : Rho) (h : Hp) : codeR C 66 k_strings_genSplit_R3 Q ρ h = (
  Q .ret ρ h) := by kernel_rfl
set_option maxRecDepth 100000 in
theorem e_strings_genSplit_R7 (C : Cfg) (Q : X → Rho → Hp → Prop) (ρ : Rho) (h : Hp) : codeR C 66 k_strings_genSplit_R7 Q ρ h = (
  oP (some (ρ 20)) fun c =>
  bP c (
    oP (some (ρ 0)) fun v21 =>
    oP (some (ρ 1)) fun v22 =>
    dcP C n_strings_Count [v21, v22] h fun v23 h1 =>
    oP (hbin .add 3 v23 (V.int .i64 1)) fun v24 =>
    oP (some v24) fun v3 =>
    Q .normal (rset (rset (rset (rset (rset ρ 21 v21) 22 v22) 23 v23) 24 v24) 3 v3) h1) (
    Q .normal ρ h)) := by kernel_rfl
set_option maxRecDepth 100000 in
theorem e_strings_genSplit_R9 (C : Cfg) (Q : X → Rho → Hp → Prop) (ρ : Rho) (h : Hp) : codeR C 66 k_strings_genSplit_R9 Q ρ h = (
  oP (some (ρ 3)) fun v30 =>
  alP (hmakeSlice 9 1 16 (V.str []) v30 v30) h fun v31 h1 =>
  oP (some v31) fun v9 =>
  Wp C 66 k_strings_genSplit_R10 Q (rset (rset (rset ρ 30 v30) 31 v31) 9 v9) h1) := by kernel_rfl
set_option maxRecDepth 100000 in
theorem e_strings_genSplit_R6 (C : Cfg) (Q : X → Rho → Hp → Prop) (ρ : Rho) (h : Hp) : codeR C 66 k_strings_genSplit_R6 Q ρ h = (
  Q .ret ρ h) := by kernel_rfl
set_option maxRecDepth 100000 in
theorem e_strings_genSplit_R10 (C : Cfg) (Q : X → Rho → Hp → Prop) (ρ : Rho) (h : Hp) : codeR C 66 k_strings_genSplit_R10 Q ρ h = (
  oP (some (ρ 3)) fun v32 =>
  oP (hbin .sub 3 v32 (V.int .i64 1)) fun v33 =>
  oP (some v33) fun v3 =>
  Wp C 66 k_strings_genSplit_R11 Q (rset (rset (rset ρ 32 v32) 33 v33) 3 v3) h) := by kernel_rfl
set_option maxRecDepth 100000 in
theorem e_strings_genSplit_R11 (C : Cfg) (Q : X → Rho → Hp → Prop) (ρ : Rho) (h : Hp) : codeR C 66 k_strings_genSplit_R11 Q ρ h = (
  oP (some (V.int .i64 0)) fun v10 =>
  Wp C 66 k_strings_genSplit_R12 Q (rset ρ 10 v10) h) := by kernel_rfl
set_option maxRecDepth 100000 in
theorem e_strings_genSplit_R12 (C : Cfg) (Q : X → Rho → Hp → Prop) (ρ : Rho) (h : Hp) : codeR C 66 k_strings_genSplit_R12 Q ρ h = (
  Wp C 66 (.loop k_strings_genSplit_L0) (q_strings_genSplit_3 C Q) ρ h) := by kernel_rfl
set_option maxRecDepth 100000 in
theorem e_strings_genSplit_R13 (C : Cfg) (Q : X → Rho → Hp → Prop) (ρ : Rho) (h : Hp) : codeR C 66 k_strings_genSplit_R13 Q ρ h = (
  oP (some (ρ 9)) fun v58 =>
  oP (some (ρ 10)) fun v59 =>
  oP (some (ρ 0)) fun v60 =>
  oP (pIx 1 v58 v59) fun v61 =>
  valP (pSt 1 v61 v60 h) fun vu h1 =>
  Wp C 66 k_strings_genSplit_R16 Q (rset (rset (rset (rset ρ 58 v58) 59 v59) 60 v60) 61 v61) h1) := by kernel_rfl
set_option maxRecDepth 100000 in
theorem e_strings_genSplit_R16 (C : Cfg) (Q : X → Rho → Hp → Prop) (ρ : Rho) (h : Hp) : codeR C 66 k_strings_genSplit_R16 Q ρ h = (
  oP (some (ρ 9)) fun v62 =>
  oP (some (ρ 10)) fun v63 =>
  oP (hbin .add 3 v63 (V.int .i64 1)) fun v64 =>
  oP (hsliceV 1 v62 none (some v64) h) fun v65 =>
  oP (some v65) fun v8 =>
  Wp C 66 k_strings_genSplit_R18 Q (rset (rset (rset (rset (rset ρ 62 v62) 63 v63) 64 v64) 65 v65) 8 v8) h) := by kernel_rfl
set_option maxRecDepth 100000 in
theorem e_strings_genSplit_L0 (C : Cfg) (Q : X → Rho → Hp → Prop) (ρ : Rho) (h : Hp) : codeR C 66 k_strings_genSplit_L0 Q ρ h = (
  oP (some (ρ 10)) fun v34 =>
  oP (some (ρ 3)) fun v35 =>
  oP (hbin .lss 3 v34 v35) fun v36 =>
  Wp C 66 k_strings_genSplit_R14 (q_strings_genSplit_5 C Q) (rset (rset (rset ρ 34 v34) 35 v35) 36 v36) h) := by kernel_rfl
set_option maxRecDepth 100000 in
theorem e_strings_genSplit_R18 (C : Cfg) (Q : X → Rho → Hp → Prop) (ρ : Rho) (h : Hp) : codeR C 66 k_strings_genSplit_R18 Q ρ h = (
  Q .ret ρ h) := by kernel_rfl
set_option maxRecDepth 100000 in
theorem e_strings_genSplit_R15 (C : Cfg) (Q : X → Rho → Hp → Prop) (ρ : Rho) (h : Hp) : codeR C 66 k_strings_genSplit_R15 Q ρ h = (
  oP (some (ρ 0)) fun v37 =>
  oP (some (ρ 1)) fun v38 =>
  dcP C n_strings_Index [v37, v38] h fun v39 h1 =>
  oP (some v39) fun v11 =>
  Wp C 66 k_strings_genSplit_R17 (q_strings_genSplit_6 C Q) (rset (rset (rset (rset ρ 37 v37) 38 v38) 39 v39) 11 v11) h1) := by kernel_rfl
set_option maxRecDepth 100000 in
theorem e_strings_genSplit_R14 (C : Cfg) (Q : X → Rho → Hp → Prop) (ρ : Rho) (h : Hp) : codeR C 66 k_strings_genSplit_R14 Q ρ h = (
  oP (some (ρ 36)) fun c =>
  bP c (
    Q .normal ρ h) (
    Q (.exit 0) ρ h)) := by kernel_rfl
set_option maxRecDepth 100000 in
theorem e_strings_genSplit_R17 (C : Cfg) (Q : X → Rho → Hp → Prop) (ρ : Rho) (h : Hp) : codeR C 66 k_strings_genSplit_R17 Q ρ h = (
  oP (some (ρ 11)) fun v40 =>
  oP (hbin .lss 3 v40 (V.int .i64 0)) fun v41 =>
  Wp C 66 k_strings_genSplit_R19 (q_strings_genSplit_7 C Q) (rset (rset ρ 40 v40) 41 v41) h) := by kernel_rfl
set_option maxRecDepth 100000 in
theorem e_strings_genSplit_R20 (C : Cfg) (Q : X → Rho → Hp → Prop) (ρ : Rho) (h : Hp) : codeR C 66 k_strings_genSplit_R20 Q ρ h = (
  oP (some (ρ 9)) fun v42 =>
  oP (some (ρ 10)) fun v43 =>
  oP (some (ρ 0)) fun v44 =>
  oP (some (ρ 11)) fun v45 =>
  oP (some (ρ 2)) fun v46 =>
  oP (hbin .add 3 v45 v46) fun v47 =>
  oP (hsliceS v44 none (some v47)) fun v48 =>
  oP (pIx 1 v42 v43) fun v49 =>
  valP (pSt 1 v49 v48 h) fun vu h1 =>
  Wp C 66 k_strings_genSplit_R21 Q (rset (rset (rset (rset (rset (rset (rset (rset ρ 42 v42) 43 v43) 44 v44) 45 v45) 46 v46) 47 v47) 48 v48) 49 v49) h1) := by kernel_rfl
set_option maxRecDepth 100000 in
theorem e_strings_genSplit_R19 (C : Cfg) (Q : X → Rho → Hp → Prop) (ρ : Rho) (h : Hp) : codeR C 66 k_strings_genSplit_R19 Q ρ h = (
  oP (some (ρ 41)) fun c =>
  bP c (
    Q (.exit 0) ρ h) (
    Q .normal ρ h)) := by kernel_rfl
set_option maxRecDepth 100000 in
theorem e_strings_genSplit_R21 (C : Cfg) (Q : X → Rho → Hp → Prop) (ρ : Rho) (h : Hp) : codeR C 66 k_strings_genSplit_R21 Q ρ h = (
  oP (some (ρ 0)) fun v50 =>
  oP (some (ρ 11)) fun v51 =>
  oP (some (ρ 1)) fun v52 =>
  oP (pLenS v52) fun v53 =>
  oP (hbin .add 3 v51 v53) fun v54 =>
  oP (hsliceS v50 (some v54) none) fun v55 =>
  oP (some v55) fun v0 =>
  Wp C 66 k_strings_genSplit_R22 Q (rset (rset (rset (rset (rset (rset (rset ρ 50 v50) 51 v51) 52 v52) 53 v53) 54 v54) 55 v55) 0 v0) h) := by kernel_rfl
set_option maxRecDepth 100000 in
theorem e_strings_genSplit_R22 (C : Cfg) (Q : X → Rho → Hp → Prop) (ρ : Rho) (h : Hp) : codeR C 66 k_strings_genSplit_R22 Q ρ h = (
  oP (some (ρ 10)) fun v56 =>
  oP (hbin .add 3 v56 (V.int .i64 1)) fun v57 =>
  oP (some v57) fun v10 =>
  Q .normal (rset (rset (rset ρ 56 v56) 57 v57) 10 v10) h) := by kernel_rfl
theorem f_strings_genSplit {C : Cfg} (hs : C.start = startF) (a0 a1 a2 a3 : V) {h : Hp} {Q : V → Hp → Prop} (hk : C.K n_strings_genSplit [a0, a1, a2, a3] h = none) (H : codeR C 66 k_strings_genSplit (bodyQ [.tmp 8] Q) (argsR [a0, a1, a2, a3]) h) : cP C n_strings_genSplit [a0, a1, a2, a3] h Q :=
  cP.funcN hs (show P0.funcs[36]? = some Tryz.f36 by unfold P0; exact Tryz.func36) (by kernel_rfl) (by kernel_rfl) (by kernel_rfl) hk (Nat.le_of_ble_eq_true rfl) (Wp.code _ H)
def J_strings_genSplit_R8 (C : Cfg) (Q : V → Hp → Prop) (x0 x1 x2 x3 : V) (h : Hp) : Prop := ∀ ρ : Rho, ρ 0 = x0 → ρ 1 = x1 → ρ 2 = x2 → ρ 3 = x3 → Wp C 66 k_strings_genSplit_R8 (bodyQ [.tmp 8] Q) ρ h
def J_strings_genSplit_L0 (C : Cfg) (Q : V → Hp → Prop) (x0 x1 x2 x3 x9 x10 : V) (h : Hp) : Prop := ∀ ρ : Rho, ρ 0 = x0 → ρ 1 = x1 → ρ 2 = x2 → ρ 3 = x3 → ρ 9 = x9 → ρ 10 = x10 → Wp C 66 (.loop k_strings_genSplit_L0) (q_strings_genSplit_3 C (bodyQ [.tmp 8] Q)) ρ h
def J_strings_genSplit_R13 (C : Cfg) (Q : V → Hp → Prop) (x0 x9 x10 : V) (h : Hp) : Prop := ∀ ρ : Rho, ρ 0 = x0 → ρ 9 = x9 → ρ 10 = x10 → Wp C 66 k_strings_genSplit_R13 (bodyQ [.tmp 8] Q) ρ h
def B_strings_genSplit_R8 (C : Cfg) (Q : V → Hp → Prop) (x0 x1 x2 x3 : V) (h : Hp) : Prop :=
  oP (pLenS x0) fun v27 =>
  oP (hbin .add 3 v27 (V.int .i64 1)) fun v28 =>
  oP (hmin false x3 [v28]) fun v29 =>
  alP (hmakeSlice 9 1 16 (V.str []) v29 v29) h fun v31 h1 =>
  oP (hbin .sub 3 v29 (V.int .i64 1)) fun v33 =>
  J_strings_genSplit_L0 C Q x0 x1 x2 v33 v31 (V.int .i64 0) h1
set_option maxRecDepth 100000 in
theorem j_strings_genSplit_R8 {C : Cfg} {Q : V → Hp → Prop} {x0 x1 x2 x3 : V} {h : Hp} (H : B_strings_genSplit_R8 C Q x0 x1 x2 x3 h) : J_strings_genSplit_R8 C Q x0 x1 x2 x3 h := by
  intro ρ e0 e1 e2 e3
  subst e0
  subst e1
  subst e2
  subst e3
  unfold B_strings_genSplit_R8 at H
  exact Wp.of (e_strings_genSplit_R8 _ _ _ _) (oSm (oSm (oM H fun v27 _ H => oM H fun v28 _ H => oM H fun v29 _ H => oSm (Wp.of (e_strings_genSplit_R9 _ _ _ _) (oSm (alM H fun v31 h1 H => oSm (Wp.of (e_strings_genSplit_R10 _ _ _ _) (oSm (oM H fun v33 _ H => oSm (Wp.of (e_strings_genSplit_R11 _ _ _ _) (oSm (Wp.of (e_strings_genSplit_R12 _ _ _ _) (H _ rfl rfl rfl rfl rfl rfl)))))))))))))
def B_strings_genSplit_L0 (C : Cfg) (Q : V → Hp → Prop) (KL0 : V → V → V → V → V → V → Hp → Prop) (x0 x1 x2 x3 x9 x10 : V) (h : Hp) : Prop :=
  oP (hbin .lss 3 x10 x3) fun v36 =>
  bP v36 (
  cP C n_strings_Index [x0, x1] h fun v39 h1 =>
  oP (hbin .lss 3 v39 (V.int .i64 0)) fun v41 =>
  bP v41 (
  J_strings_genSplit_R13 C Q x0 x9 x10 h1) (
  oP (hbin .add 3 v39 x2) fun v47 =>
  oP (hsliceS x0 none (some v47)) fun v48 =>
  oP (pIx 1 x9 x10) fun v49 =>
  valP (pSt 1 v49 v48 h1) fun vu h2 =>
  oP (pLenS x1) fun v53 =>
  oP (hbin .add 3 v39 v53) fun v54 =>
  oP (hsliceS x0 (some v54) none) fun v55 =>
  oP (hbin .add 3 x10 (V.int .i64 1)) fun v57 =>
  KL0 v55 x1 x2 x3 x9 v57 h2)) (
  J_strings_genSplit_R13 C Q x0 x9 x10 h)
set_option maxRecDepth 100000 in
theorem l_strings_genSplit_L0 {C : Cfg} {Q : V → Hp → Prop} (I : Nat → V → V → V → V → V → V → Hp → Prop) (step : ∀ (k : Nat) (x0 x1 x2 x3 x9 x10 : V) (h : Hp), I k x0 x1 x2 x3 x9 x10 h → B_strings_genSplit_L0 C Q (fun x0 x1 x2 x3 x9 x10 h => ∃ k', k' < k ∧ I k' x0 x1 x2 x3 x9 x10 h) x0 x1 x2 x3 x9 x10 h) {k : Nat} {x0 x1 x2 x3 x9 x10 : V} {h : Hp} (h0 : I k x0 x1 x2 x3 x9 x10 h) : J_strings_genSplit_L0 C Q x0 x1 x2 x3 x9 x10 h := by
  intro ρ e0 e1 e2 e3 e9 e10
  subst e0
  subst e1
  subst e2
  subst e3
  subst e9
  subst e10
  refine Wp.loopI (fun k ρ h => I k (ρ 0) (ρ 1) (ρ 2) (ρ 3) (ρ 9) (ρ 10) h) (fun k ρ h hi => ?_) h0
  have H := step k (ρ 0) (ρ 1) (ρ 2) (ρ 3) (ρ 9) (ρ 10) h hi
  unfold B_strings_genSplit_L0 at H
  exact Wp.of (e_strings_genSplit_L0 _ _ _ _) (oSm (oSm (oM H fun v36 _ H => Wp.of (e_strings_genSplit_R14 _ _ _ _) (oSm (bM H (fun H => Wp.of (e_strings_genSplit_R15 _ _ _ _) (oSm (oSm (dcM H fun v39 h1 H => oSm (Wp.of (e_strings_genSplit_R17 _ _ _ _) (oSm (oM H fun v41 _ H => Wp.of (e_strings_genSplit_R19 _ _ _ _) (oSm (bM H (fun H => H _ rfl rfl rfl) (fun H => Wp.of (e_strings_genSplit_R20 _ _ _ _) (oSm (oSm (oSm (oSm (oSm (oM H fun v47 _ H => oM H fun v48 _ H => oM H fun v49 _ H => valM H fun vu h2 H => Wp.of (e_strings_genSplit_R21 _ _ _ _) (oSm (oSm (oSm (oM H fun v53 _ H => oM H fun v54 _ H => oM H fun v55 _ H => oSm (Wp.of (e_strings_genSplit_R22 _ _ _ _) (oSm (oM H fun v57 _ H => oSm (H)))))))))))))))))))))))) (fun H => H _ rfl rfl rfl))))))
def B_strings_genSplit_R13 (C : Cfg) (Q : V → Hp → Prop) (x0 x9 x10 : V) (h : Hp) : Prop :=
  oP (pIx 1 x9 x10) fun v61 =>
  valP (pSt 1 v61 x0 h) fun vu h1 =>
  oP (hbin .add 3 x10 (V.int .i64 1)) fun v64 =>
  oP (hsliceV 1 x9 none (some v64) h1) fun v65 =>
  Q v65 h1
set_option maxRecDepth 100000 in
theorem j_strings_genSplit_R13 {C : Cfg} {Q : V → Hp → Prop} {x0 x9 x10 : V} {h : Hp} (H : B_strings_genSplit_R13 C Q x0 x9 x10 h) : J_strings_genSplit_R13 C Q x0 x9 x10 h := by
  intro ρ e0 e9 e10
  subst e0
  subst e9
  subst e10
  unfold B_strings_genSplit_R13 at H
  exact Wp.of (e_strings_genSplit_R13 _ _ _ _) (oSm (oSm (oSm (oM H fun v61 _ H => valM H fun vu h1 H => Wp.of (e_strings_genSplit_R16 _ _ _ _) (oSm (oSm (oM H fun v64 _ H => oM H fun v65 _ H => oSm (Wp.of (e_strings_genSplit_R18 _ _ _ _) (H)))))))))
def B_strings_genSplit (C : Cfg) (Q : V → Hp → Prop) (a0 a1 a2 a3 : V) (h : Hp) : Prop :=
  oP (hbin .eql 3 a3 (V.int .i64 0)) fun v13 =>
  bP v13 (
  Q V.nilSlice h) (
  oP (hbin .eql 9 a1 (V.str [])) fun v15 =>
  bP v15 (
  cP C n_strings_explode [a0, a3] h fun v18 h1 =>
  Q v18 h1) (
  oP (hbin .lss 3 a3 (V.int .i64 0)) fun v20 =>
  bP v20 (
  cP C n_strings_Count [a0, a1] h fun v23 h2 =>
  oP (hbin .add 3 v23 (V.int .i64 1)) fun v24 =>
  J_strings_genSplit_R8 C Q a0 a1 a2 v24 h2) (
  J_strings_genSplit_R8 C Q a0 a1 a2 a3 h)))
set_option maxRecDepth 100000 in
theorem c_strings_genSplit {C : Cfg} (hs : C.start = startF) {a0 a1 a2 a3 : V} {h : Hp} {Q : V → Hp → Prop} (hk : C.K n_strings_genSplit [a0, a1, a2, a3] h = none) (H : B_strings_genSplit C Q a0 a1 a2 a3 h) : cP C n_strings_genSplit [a0, a1, a2, a3] h Q := by
  unfold B_strings_genSplit at H
  exact f_strings_genSplit hs _ _ _ _ hk ((e_strings_genSplit _ _ _ _).mpr (oSm (Wp.of (e_strings_genSplit_R0 _ _ _ _) (oSm (oM H fun v13 _ H => Wp.of (e_strings_genSplit_R1 _ _ _ _) (oSm (bM H (fun H => oSm (Wp.of (e_strings_genSplit_R3 _ _ _ _) (H))) (fun H => Wp.of (e_strings_genSplit_R2 _ _ _ _) (oSm (oM H fun v15 _ H => Wp.of (e_strings_genSplit_R4 _ _ _ _) (oSm (bM H (fun H => oSm (oSm (dcM H fun v18 h1 H => oSm (Wp.of (e_strings_genSplit_R6 _ _ _ _) (H))))) (fun H => Wp.of (e_strings_genSplit_R5 _ _ _ _) (oSm (oM H fun v20 _ H => Wp.of (e_strings_genSplit_R7 _ _ _ _) (oSm (bM H (fun H => oSm (oSm (dcM H fun v23 h2 H => oM H fun v24 _ H => oSm (H _ rfl rfl rfl rfl)))) (fun H => H _ rfl rfl rfl rfl))))))))))))))))))
/-! ### strings.Count -/
noncomputable def k_strings_Count : Code := bodyOf Tryz.f48
noncomputable def k_strings_Count_R0 : Code := k_strings_Count.r
noncomputable def k_strings_Count_R1 : Code := k_strings_Count.r.l.r
noncomputable def k_strings_Count_R2 : Code := k_strings_Count.r.r
noncomputable def q_strings_Count_0 (C : Cfg) (Q : X → Rho → Hp → Prop) : X → Rho → Hp → Prop := andThen (Wp C 34 k_strings_Count_R2 Q) Q
theorem q_strings_Count_0_normal (C : Cfg) (Q : X → Rho → Hp → Prop) (ρ : Rho) (h : Hp) : q_strings_Count_0 C Q .normal ρ h = Wp C 34 k_strings_Count_R2 Q ρ h := rfl
theorem q_strings_Count_0_ret (C : Cfg) (Q : X → Rho → Hp → Prop) (ρ : Rho) (h : Hp) : q_strings_Count_0 C Q .ret ρ h = Q .ret ρ h := rfl
noncomputable def k_strings_Count_R3 : Code := k_strings_Count.r.l.r.l.r
noncomputable def k_strings_Count_R4 : Code := k_strings_Count.r.r.l.r
noncomputable def k_strings_Count_R5 : Code := k_strings_Count.r.r.r
noncomputable def q_strings_Count_1 (C : Cfg) (Q : X → Rho → Hp → Prop) : X → Rho → Hp → Prop := andThen (Wp C 34 k_strings_Count_R5 Q) Q
theorem q_strings_Count_1_normal (C : Cfg) (Q : X → Rho → Hp → Prop) (ρ : Rho) (h : Hp) : q_strings_Count_1 C Q .normal ρ h = Wp C 34 k_strings_Count_R5 Q ρ h := rfl
theorem q_strings_Count_1_ret (C : Cfg) (Q : X → Rho → Hp → Prop) (ρ : Rho) (h : Hp) : q_strings_Count_1 C Q .ret ρ h = Q .ret ρ h := rfl
noncomputable def k_strings_Count_R6 : Code := k_strings_Count.r.r.l.r.l.r
noncomputable def k_strings_Count_R7 : Code := k_strings_Count.r.r.r.r
noncomputable def k_strings_Count_L0 : Code := k_strings_Count.r.r.r.r.l.l
noncomputable def q_strings_Count_2 (C : Cfg) (Q : X → Rho → Hp → Prop) : X → Rho → Hp → Prop := blockQ 0 Q
theorem q_strings_Count_2_normal (C : Cfg) (Q : X → Rho → Hp → Prop) (ρ : Rho) (h : Hp) : q_strings_Count_2 C Q .normal ρ h = Q .normal ρ h := rfl
theorem q_strings_Count_2_ret (C : Cfg) (Q : X → Rho → Hp → Prop) (ρ : Rho) (h : Hp) : q_strings_Count_2 C Q .ret ρ h = Q .ret ρ h := rfl
theorem q_strings_Count_2_exit0 (C : Cfg) (Q : X → Rho → Hp → Prop) (ρ : Rho) (h : Hp) : q_strings_Count_2 C Q (.exit 0) ρ h = Q .normal ρ h := rfl
noncomputable def k_strings_Count_R8 : Code := k_strings_Count.r.r.r.r.l.l.l.r
noncomputable def q_strings_Count_3 (C : Cfg) (Q : X → Rho → Hp → Prop) : X → Rho → Hp → Prop := blockQ 1 Q
theorem q_strings_Count_3_normal (C : Cfg) (Q : X → Rho → Hp → Prop) (ρ : Rho) (h : Hp) : q_strings_Count_3 C Q .normal ρ h = Q .normal ρ h := rfl
theorem q_strings_Count_3_ret (C : Cfg) (Q : X → Rho → Hp → Prop) (ρ : Rho) (h : Hp) : q_strings_Count_3 C Q .ret ρ h = Q .ret ρ h := rfl
theorem q_strings_Count_3_exit1 (C : Cfg) (Q : X → Rho → Hp → Prop) (ρ : Rho) (h : Hp) : q_strings_Count_3 C Q (.exit 1) ρ h = Q .normal ρ h := rfl
noncomputable def k_strings_Count_R9 : Code := k_strings_Count.r.r.r.r.l.l.l.r.l.r
noncomputable def k_strings_Count_R10 : Code := k_strings_Count.r.r.r.r.l.l.l.r.r
noncomputable def q_strings_Count_4 (C : Cfg) (Q : X → Rho → Hp → Prop) : X → Rho → Hp → Prop := andThen (Wp C 34 k_strings_Count_R10 Q) Q
theorem q_strings_Count_4_normal (C : Cfg) (Q : X → Rho → Hp → Prop) (ρ : Rho) (h : Hp) : q_strings_Count_4 C Q .normal ρ h = Wp C 34 k_strings_Count_R10 Q ρ h := rfl
theorem q_strings_Count_4_ret (C : Cfg) (Q : X → Rho → Hp → Prop) (ρ : Rho) (h : Hp) : q_strings_Count_4 C Q .ret ρ h = Q .ret ρ h := rfl
noncomputable def k_strings_Count_R11 : Code := k_strings_Count.r.r.r.r.l.l.l.r.l.r.l.r
noncomputable def k_strings_Count_R12 : Code := k_strings_Count.r.r.r.r.l.l.l.r.r.r
set_option maxRecDepth 100000 in
theorem e_strings_Count (C : Cfg) (Q : X → Rho → Hp → Prop) (ρ : Rho) (h : Hp) : codeR C 34 k_strings_Count Q ρ h = (
  oP (some (V.int .i64 0)) fun v4 =>
  Wp C 34 k_strings_Count_R0 Q (rset ρ 4 v4) h) := by kernel_rfl
set_option maxRecDepth 100000 in
theorem e_strings_Count_R0 (C : Cfg) (Q : X → Rho → Hp → Prop) (ρ : Rho) (h : Hp) : codeR C 34 k_strings_Count_R0 Q ρ h = (
  oP (some (ρ 1)) fun v7 =>
  oP (pLenS v7) fun v8 =>
  oP (hbin .eql 3 v8 (V.int .i64 0)) fun v9 =>
  Wp C 34 k_strings_Count_R1 (q_strings_Count_0 C Q) (rset (rset (rset ρ 7 v7) 8 v8) 9 v9) h) := by kernel_rfl
set_option maxRecDepth 100000 in
theorem e_strings_Count_R2 (C : Cfg) (Q : X → Rho → Hp → Prop) (ρ : Rho) (h : Hp) : codeR C 34 k_strings_Count_R2 Q ρ h = (
  oP (some (ρ 1)) fun v13 =>
  oP (pLenS v13) fun v14 =>
  oP (hbin .eql 3 v14 (V.int .i64 1)) fun v15 =>
  Wp C 34 k_strings_Count_R4 (q_strings_Count_1 C Q) (rset (rset (rset ρ 13 v13) 14 v14) 15 v15) h) := by kernel_rfl
set_option maxRecDepth 100000 in
theorem e_strings_Count_R1 (C : Cfg) (Q : X → Rho → Hp → Prop) (ρ : Rho) (h : Hp) : codeR C 34 k_strings_Count_R1 Q ρ h = (
  oP (some (ρ 9)) fun c =>
  bP c (
    oP (some (ρ 0)) fun v10 =>
    dcP C n_utf8_RuneCountInString [v10] h fun v11 h1 =>
    oP (hbin .add 3 v11 (V.int .i64 1)) fun v12 =>
    oP (some v12) fun v4 =>
    Wp C 34 k_strings_Count_R3 Q (rset (rset (rset (rset ρ 10 v10) 11 v11) 12 v12) 4 v4) h1) (
    Q .normal ρ h)) := by kernel_rfl
set_option maxRecDepth 100000 in
theorem e_strings_Count_R5 (C : Cfg) (Q : X → Rho → Hp → Prop) (ρ : Rho) (h : Hp) : codeR C 34 k_strings_Count_R5 Q ρ h = (
  oP (some (V.int .i64 0)) fun v5 =>
  Wp C 34 k_strings_Count_R7 Q (rset ρ 5 v5) h) := by kernel_rfl
set_option maxRecDepth 100000 in
theorem e_strings_Count_R4 (C : Cfg) (Q : X → Rho → Hp → Prop) (ρ : Rho) (h : Hp) : codeR C 34 k_strings_Count_R4 Q ρ h = (
  oP (some (ρ 15)) fun c =>
  bP c (
    oP (some (ρ 0)) fun v16 =>
    oP (some (ρ 1)) fun v17 =>
    oP (pIdxS v17 (V.int .i64 0)) fun v18 =>
    dcP C n_bytealg_CountString [v16, v18] h fun v19 h1 =>
    oP (some v19) fun v4 =>
    Wp C 34 k_strings_Count_R6 Q (rset (rset (rset (rset (rset ρ 16 v16) 17 v17) 18 v18) 19 v19) 4 v4) h1) (
    Q .normal ρ h)) := by kernel_rfl
set_option maxRecDepth 100000 in
theorem e_strings_Count_R7 (C : Cfg) (Q : X → Rho → Hp → Prop) (ρ : Rho) (h : Hp) : codeR C 34 k_strings_Count_R7 Q ρ h = (
  Wp C 34 (.loop k_strings_Count_L0) (q_strings_Count_2 C Q) ρ h) := by kernel_rfl
set_option maxRecDepth 100000 in
theorem e_strings_Count_R3 (C : Cfg) (Q : X → Rho → Hp → Prop) (ρ : Rho) (h : Hp) : codeR C 34 k_strings_Count_R3 Q ρ h = (
  Q .ret ρ h) := by kernel_rfl
set_option maxRecDepth 100000 in
theorem e_strings_Count_R6 (C : Cfg) (Q : X → Rho → Hp → Prop) (ρ : Rho) (h : Hp) : codeR C 34 k_strings_Count_R6 Q ρ h = (
  Q .ret ρ h) := by kernel_rfl
set_option maxRecDepth 100000 in
theorem e_strings_Count_L0 (C : Cfg) (Q : X → Rho → Hp → Prop) (ρ : Rho) (h : Hp) : codeR C 34 k_strings_Count_L0 Q ρ h = (
  oP (some (ρ 0)) fun v20 =>
  oP (some (ρ 1)) fun v21 =>
  dcP C n_strings_Index [v20, v21] h fun v22 h1 =>
  oP (some v22) fun v6 =>
  Wp C 34 k_strings_Count_R8 (q_strings_Count_3 C Q) (rset (rset (rset (rset ρ 20 v20) 21 v21) 22 v22) 6 v6) h1) := by kernel_rfl
set_option maxRecDepth 100000 in
theorem e_strings_Count_R8 (C : Cfg) (Q : X → Rho → Hp → Prop) (ρ : Rho) (h : Hp) : codeR C 34 k_strings_Count_R8 Q ρ h = (
  oP (some (ρ 6)) fun v23 =>
  oP (hbin .eql 3 v23 (V.int .i64 (-1))) fun v24 =>
  Wp C 34 k_strings_Count_R9 (q_strings_Count_4 C Q) (rset (rset ρ 23 v23) 24 v24) h) := by kernel_rfl
set_option maxRecDepth 100000 in
theorem e_strings_Count_R10 (C : Cfg) (Q : X → Rho → Hp → Prop) (ρ : Rho) (h : Hp) : codeR C 34 k_strings_Count_R10 Q ρ h = (
  oP (some (ρ 5)) fun v26 =>
  oP (hbin .add 3 v26 (V.int .i64 1)) fun v27 =>
  oP (some v27) fun v5 =>
  Wp C 34 k_strings_Count_R12 Q (rset (rset (rset ρ 26 v26) 27 v27) 5 v5) h) := by kernel_rfl
set_option maxRecDepth 100000 in
theorem e_strings_Count_R9 (C : Cfg) (Q : X → Rho → Hp → Prop) (ρ : Rho) (h : Hp) : codeR C 34 k_strings_Count_R9 Q ρ h = (
  oP (some (ρ 24)) fun c =>
  bP c (
    oP (some (ρ 5)) fun v25 =>
    oP (some v25) fun v4 =>
    Wp C 34 k_strings_Count_R11 Q (rset (rset ρ 25 v25) 4 v4) h) (
    Q .normal ρ h)) := by kernel_rfl
set_option maxRecDepth 100000 in
theorem e_strings_Count_R12 (C : Cfg) (Q : X → Rho → Hp → Prop) (ρ : Rho) (h : Hp) : codeR C 34 k_strings_Count_R12 Q ρ h = (
  oP (some (ρ 0)) fun v28 =>
  oP (some (ρ 6)) fun v29 =>
  oP (some (ρ 1)) fun v30 =>
  oP (pLenS v30) fun v31 =>
  oP (hbin .add 3 v29 v31) fun v32 =>
  oP (hsliceS v28 (some v32) none) fun v33 =>
  oP (some v33) fun v0 =>
  Q .normal (rset (rset (rset (rset (rset (rset (rset ρ 28 v28) 29 v29) 30 v30) 31 v31) 32 v32) 33 v33) 0 v0) h) := by kernel_rfl
set_option maxRecDepth 100000 in
theorem e_strings_Count_R11 (C : Cfg) (Q : X → Rho → Hp → Prop) (ρ : Rho) (h : Hp) : codeR C 34 k_strings_Count_R11 Q ρ h = (
  Q .ret ρ h) := by kernel_rfl
theorem f_strings_Count {C : Cfg} (hs : C.start = startF) (a0 a1 : V) {h : Hp} {Q : V → Hp → Prop} (hk : C.K n_strings_Count [a0, a1] h = none) (H : codeR C 34 k_strings_Count (bodyQ [.tmp 4] Q) (argsR [a0, a1]) h) : cP C n_strings_Count [a0, a1] h Q :=
  cP.funcN hs (show P0.funcs[48]? = some Tryz.f48 by unfold P0; exact Tryz.func48) (by kernel_rfl) (by kernel_rfl) (by kernel_rfl) hk (Nat.le_of_ble_eq_true rfl) (Wp.code _ H)
def J_strings_Count_L0 (C : Cfg) (Q : V → Hp → Prop) (x0 x1 x5 : V) (h : Hp) : Prop := ∀ ρ : Rho, ρ 0 = x0 → ρ 1 = x1 → ρ 5 = x5 → Wp C 34 (.loop k_strings_Count_L0) (q_strings_Count_2 C (bodyQ [.tmp 4] Q)) ρ h
def B_strings_Count_L0 (C : Cfg) (Q : V → Hp → Prop) (KL0 : V → V → V → Hp → Prop) (x0 x1 x5 : V) (h : Hp) : Prop :=
  cP C n_strings_Index [x0, x1] h fun v22 h1 =>
  oP (hbin .eql 3 v22 (V.int .i64 (-1))) fun v24 =>
  bP v24 (
  Q x5 h1) (
  oP (hbin .add 3 x5 (V.int .i64 1)) fun v27 =>
  oP (pLenS x1) fun v31 =>
  oP (hbin .add 3 v22 v31) fun v32 =>
  oP (hsliceS x0 (some v32) none) fun v33 =>
  KL0 v33 x1 v27 h1)
set_option maxRecDepth 100000 in
theorem l_strings_Count_L0 {C : Cfg} {Q : V → Hp → Prop} (I : Nat → V → V → V → Hp → Prop) (step : ∀ (k : Nat) (x0 x1 x5 : V) (h : Hp), I k x0 x1 x5 h → B_strings_Count_L0 C Q (fun x0 x1 x5 h => ∃ k', k' < k ∧ I k' x0 x1 x5 h) x0 x1 x5 h) {k : Nat} {x0 x1 x5 : V} {h : Hp} (h0 : I k x0 x1 x5 h) : J_strings_Count_L0 C Q x0 x1 x5 h := by
  intro ρ e0 e1 e5
  subst e0
  subst e1
  subst e5
  refine Wp.loopI (fun k ρ h => I k (ρ 0) (ρ 1) (ρ 5) h) (fun k ρ h hi => ?_) h0
  have H := step k (ρ 0) (ρ 1) (ρ 5) h hi
  unfold B_strings_Count_L0 at H
  exact Wp.of (e_strings_Count_L0 _ _ _ _) (oSm (oSm (dcM H fun v22 h1 H => oSm (Wp.of (e_strings_Count_R8 _ _ _ _) (oSm (oM H fun v24 _ H => Wp.of (e_strings_Count_R9 _ _ _ _) (oSm (bM H (fun H => oSm (oSm (Wp.of (e_strings_Count_R11 _ _ _ _) (H)))) (fun H => Wp.of (e_strings_Count_R10 _ _ _ _) (oSm (oM H fun v27 _ H => oSm (Wp.of (e_strings_Count_R12 _ _ _ _) (oSm (oSm (oSm (oM H fun v31 _ H => oM H fun v32 _ H => oM H fun v33 _ H => oSm (H)))))))))))))))))
def B_strings_Count (C : Cfg) (Q : V → Hp → Prop) (a0 a1 : V) (h : Hp) : Prop :=
  oP (pLenS a1) fun v8 =>
  oP (hbin .eql 3 v8 (V.int .i64 0)) fun v9 =>
  bP v9 (
  cP C n_utf8_RuneCountInString [a0] h fun v11 h1 =>
  oP (hbin .add 3 v11 (V.int .i64 1)) fun v12 =>
  Q v12 h1) (
  oP (pLenS a1) fun v14 =>
  oP (hbin .eql 3 v14 (V.int .i64 1)) fun v15 =>
  bP v15 (
  oP (pIdxS a1 (V.int .i64 0)) fun v18 =>
  cP C n_bytealg_CountString [a0, v18] h fun v19 h2 =>
  Q v19 h2) (
  J_strings_Count_L0 C Q a0 a1 (V.int .i64 0) h))
set_option maxRecDepth 100000 in
theorem c_strings_Count {C : Cfg} (hs : C.start = startF) {a0 a1 : V} {h : Hp} {Q : V → Hp → Prop} (hk : C.K n_strings_Count [a0, a1] h = none) (H : B_strings_Count C Q a0 a1 h) : cP C n_strings_Count [a0, a1] h Q := by
  unfold B_strings_Count at H
  exact f_strings_Count hs _ _ hk ((e_strings_Count _ _ _ _).mpr (oSm (Wp.of (e_strings_Count_R0 _ _ _ _) (oSm (oM H fun v8 _ H => oM H fun v9 _ H => Wp.of (e_strings_Count_R1 _ _ _ _) (oSm (bM H (fun H => oSm (dcM H fun v11 h1 H => oM H fun v12 _ H => oSm (Wp.of (e_strings_Count_R3 _ _ _ _) (H)))) (fun H => Wp.of (e_strings_Count_R2 _ _ _ _) (oSm (oM H fun v14 _ H => oM H fun v15 _ H => Wp.of (e_strings_Count_R4 _ _ _ _) (oSm (bM H (fun H => oSm (oSm (oM H fun v18 _ H => dcM H fun v19 h2 H => oSm (Wp.of (e_strings_Count_R6 _ _ _ _) (H))))) (fun H => Wp.of (e_strings_Count_R5 _ _ _ _) (oSm (Wp.of (e_strings_Count_R7 _ _ _ _) (H _ rfl rfl rfl))))))))))))))))
/-! ### strings.Index -/
noncomputable def k_strings_Index : Code := bodyOf Tryz.f49
noncomputable def k_strings_Index_R0 : Code := k_strings_Index.r
noncomputable def k_strings_Index_R1 : Code := k_strings_Index.r.r
set_option maxRecDepth 100000 in
theorem e_strings_Index (C : Cfg) (Q : X → Rho → Hp → Prop) (ρ : Rho) (h : Hp) : codeR C 8 k_strings_Index Q ρ h = (
  oP (some (V.int .i64 0)) fun v4 =>
  Wp C 8 k_strings_Index_R0 Q (rset ρ 4 v4) h) := by kernel_rfl
set_option maxRecDepth 100000 in
theorem e_strings_Index_R0 (C : Cfg) (Q : X → Rho → Hp → Prop) (ρ : Rho) (h : Hp) : codeR C 8 k_strings_Index_R0 Q ρ h = (
  oP (some (ρ 0)) fun v5 =>
  oP (some (ρ 1)) fun v6 =>
  dcP C n_stringslite_Index [v5, v6] h fun v7 h1 =>
  oP (some v7) fun v4 =>
  Wp C 8 k_strings_Index_R1 Q (rset (rset (rset (rset ρ 5 v5) 6 v6) 7 v7) 4 v4) h1) := by kernel_rfl
set_option maxRecDepth 100000 in
theorem e_strings_Index_R1 (C : Cfg) (Q : X → Rho → Hp → Prop) (ρ : Rho) (h : Hp) : codeR C 8 k_strings_Index_R1 Q ρ h = (
  Q .ret ρ h) := by kernel_rfl
theorem f_strings_Index {C : Cfg} (hs : C.start = startF) (a0 a1 : V) {h : Hp} {Q : V → Hp → Prop} (hk : C.K n_strings_Index [a0, a1] h = none) (H : codeR C 8 k_strings_Index (bodyQ [.tmp 4] Q) (argsR [a0, a1]) h) : cP C n_strings_Index [a0, a1] h Q :=
  cP.funcN hs (show P0.funcs[49]? = some Tryz.f49 by unfold P0; exact Tryz.func49) (by kernel_rfl) (by kernel_rfl) (by kernel_rfl) hk (Nat.le_of_ble_eq_true rfl) (Wp.code _ H)
def B_strings_Index (C : Cfg) (Q : V → Hp → Prop) (a0 a1 : V) (h : Hp) : Prop :=
  cP C n_stringslite_Index [a0, a1] h fun v7 h1 =>
  Q v7 h1
set_option maxRecDepth 100000 in
theorem c_strings_Index {C : Cfg} (hs : C.start = startF) {a0 a1 : V} {h : Hp} {Q : V → Hp → Prop} (hk : C.K n_strings_Index [a0, a1] h = none) (H : B_strings_Index C Q a0 a1 h) : cP C n_strings_Index [a0, a1] h Q := by
  unfold B_strings_Index at H
  exact f_strings_Index hs _ _ hk ((e_strings_Index _ _ _ _).mpr (oSm (Wp.of (e_strings_Index_R0 _ _ _ _) (oSm (oSm (dcM H fun v7 h1 H => oSm (Wp.of (e_strings_Index_R1 _ _ _ _) (H))))))))
/-! ### internal/stringslite.Index -/
noncomputable def k_stringslite_Index : Code := bodyOf Tryz.f64
noncomputable def k_stringslite_Index_R0 : Code := k_stringslite_Index.r
noncomputable def k_stringslite_Index_R1 : Code := k_stringslite_Index.r.r
noncomputable def k_stringslite_Index_R2 : Code := k_stringslite_Index.r.r.l.l.r
noncomputable def k_stringslite_Index_R3 : Code := k_stringslite_Index.r.r.r
noncomputable def q_stringslite_Index_1 (C : Cfg) (Q : X → Rho → Hp → Prop) : X → Rho → Hp → Prop := andThen (Wp C 143 k_stringslite_Index_R3 Q) Q
theorem q_stringslite_Index_1_normal (C : Cfg) (Q : X → Rho → Hp → Prop) (ρ : Rho) (h : Hp) : q_stringslite_Index_1 C Q .normal ρ h = Wp C 143 k_stringslite_Index_R3 Q ρ h := rfl
theorem q_stringslite_Index_1_ret (C : Cfg) (Q : X → Rho → Hp → Prop) (ρ : Rho) (h : Hp) : q_stringslite_Index_1 C Q .ret ρ h = Q .ret ρ h := rfl
noncomputable def q_stringslite_Index_0 (C : Cfg) (Q : X → Rho → Hp → Prop) : X → Rho → Hp → Prop := blockQ 0 (q_stringslite_Index_1 C Q)
theorem q_stringslite_Index_0_normal (C : Cfg) (Q : X → Rho → Hp → Prop) (ρ : Rho) (h : Hp) : q_stringslite_Index_0 C Q .normal ρ h = Wp C 143 k_stringslite_Index_R3 Q ρ h := rfl
theorem q_stringslite_Index_0_ret (C : Cfg) (Q : X → Rho → Hp → Prop) (ρ : Rho) (h : Hp) : q_stringslite_Index_0 C Q .ret ρ h = Q .ret ρ h := rfl
theorem q_stringslite_Index_0_exit0 (C : Cfg) (Q : X → Rho → Hp → Prop) (ρ : Rho) (h : Hp) : q_stringslite_Index_0 C Q (.exit 0) ρ h = Wp C 143 k_stringslite_Index_R3 Q ρ h := rfl
noncomputable def k_stringslite_Index_R4 : Code := k_stringslite_Index.r.r.l.l.r.l.r
noncomputable def k_stringslite_Index_R5 : Code := k_stringslite_Index.r.r.l.l.r.r.r
noncomputable def k_stringslite_Index_R6 : Code := k_stringslite_Index.r.r.r.r
noncomputable def k_stringslite_Index_R7 : Code := k_stringslite_Index.r.r.l.l.r.r.r.l.r
noncomputable def k_stringslite_Index_R8 : Code := k_stringslite_Index.r.r.l.l.r.r.r.r.r
noncomputable def k_stringslite_Index_R9 : Code := k_stringslite_Index.r.r.r.r.r
noncomputable def k_stringslite_Index_R10 : Code := k_stringslite_Index.r.r.l.l.r.r.r.r.r.l.r
noncomputable def k_stringslite_Index_R11 : Code := k_stringslite_Index.r.r.l.l.r.r.r.r.r.r.r
noncomputable def k_stringslite_Index_R12 : Code := k_stringslite_Index.r.r.r.r.r.r
noncomputable def k_stringslite_Index_R13 : Code := k_stringslite_Index.r.r.l.l.r.r.r.r.r.r.r.l.r
noncomputable def k_stringslite_Index_R14 : Code := k_stringslite_Index.r.r.r.r.r.r.r
noncomputable def k_stringslite_Index_R15 : Code := k_stringslite_Index.r.r.r.r.r.r.r.r
noncomputable def k_stringslite_Index_L0 : Code := k_stringslite_Index.r.r.r.r.r.r.r.r.l.l.l
noncomputable def k_stringslite_Index_R16 : Code := k_stringslite_Index.r.r.r.r.r.r.r.r.r
noncomputable def q_stringslite_Index_3 (C : Cfg) (Q : X → Rho → Hp → Prop) : X → Rho → Hp → Prop := andThen (Wp C 143 k_stringslite_Index_R16 Q) Q
theorem q_stringslite_Index_3_normal (C : Cfg) (Q : X → Rho → Hp → Prop) (ρ : Rho) (h : Hp) : q_stringslite_Index_3 C Q .normal ρ h = Wp C 143 k_stringslite_Index_R16 Q ρ h := rfl
theorem q_stringslite_Index_3_ret (C : Cfg) (Q : X → Rho → Hp → Prop) (ρ : Rho) (h : Hp) : q_stringslite_Index_3 C Q .ret ρ h = Q .ret ρ h := rfl
noncomputable def q_stringslite_Index_2 (C : Cfg) (Q : X → Rho → Hp → Prop) : X → Rho → Hp → Prop := blockQ 1 (q_stringslite_Index_3 C Q)
theorem q_stringslite_Index_2_normal (C : Cfg) (Q : X → Rho → Hp → Prop) (ρ : Rho) (h : Hp) : q_stringslite_Index_2 C Q .normal ρ h = Wp C 143 k_stringslite_Index_R16 Q ρ h := rfl
theorem q_stringslite_Index_2_ret (C : Cfg) (Q : X → Rho → Hp → Prop) (ρ : Rho) (h : Hp) : q_stringslite_Index_2 C Q .ret ρ h = Q .ret ρ h := rfl
theorem q_stringslite_Index_2_exit1 (C : Cfg) (Q : X → Rho → Hp → Prop) (ρ : Rho) (h : Hp) : q_stringslite_Index_2 C Q (.exit 1) ρ h = Wp C 143 k_stringslite_Index_R16 Q ρ h := rfl
noncomputable def k_stringslite_Index_R17 : Code := k_stringslite_Index.r.r.r.r.r.r.r.r.l.l.l.l.r
noncomputable def k_stringslite_Index_R18 : Code := k_stringslite_Index.r.r.r.r.r.r.r.r.l.l.l.r
noncomputable def q_stringslite_Index_4 (C : Cfg) (Q : X → Rho → Hp → Prop) : X → Rho → Hp → Prop := andThen (Wp C 143 k_stringslite_Index_R18 Q) Q
theorem q_stringslite_Index_4_normal (C : Cfg) (Q : X → Rho → Hp → Prop) (ρ : Rho) (h : Hp) : q_stringslite_Index_4 C Q .normal ρ h = Wp C 143 k_stringslite_Index_R18 Q ρ h := rfl
theorem q_stringslite_Index_4_ret (C : Cfg) (Q : X → Rho → Hp → Prop) (ρ : Rho) (h : Hp) : q_stringslite_Index_4 C Q .ret ρ h = Q .ret ρ h := rfl
noncomputable def k_stringslite_Index_R19 : Code := k_stringslite_Index.r.r.r.r.r.r.r.r.r.r
noncomputable def k_stringslite_Index_R20 : Code := k_stringslite_Index.r.r.r.r.r.r.r.r.l.l.l.r.l.l.r
noncomputable def q_stringslite_Index_6 (C : Cfg) (Q : X → Rho → Hp → Prop) : X → Rho → Hp → Prop := blockQ 2 Q
theorem q_stringslite_Index_6_normal (C : Cfg) (Q : X → Rho → Hp → Prop) (ρ : Rho) (h : Hp) : q_stringslite_Index_6 C Q .normal ρ h = Q .normal ρ h := rfl
theorem q_stringslite_Index_6_ret (C : Cfg) (Q : X → Rho → Hp → Prop) (ρ : Rho) (h : Hp) : q_stringslite_Index_6 C Q .ret ρ h = Q .ret ρ h := rfl
theorem q_stringslite_Index_6_exit2 (C : Cfg) (Q : X → Rho → Hp → Prop) (ρ : Rho) (h : Hp) : q_stringslite_Index_6 C Q (.exit 2) ρ h = Q .normal ρ h := rfl
noncomputable def k_stringslite_Index_R21 : Code := k_stringslite_Index.r.r.r.r.r.r.r.r.l.l.l.r.l.r
noncomputable def q_stringslite_Index_5 (C : Cfg) (Q : X → Rho → Hp → Prop) : X → Rho → Hp → Prop := andThen (Wp C 143 k_stringslite_Index_R21 (q_stringslite_Index_6 C Q)) (q_stringslite_Index_6 C Q)
theorem q_stringslite_Index_5_normal (C : Cfg) (Q : X → Rho → Hp → Prop) (ρ : Rho) (h : Hp) : q_stringslite_Index_5 C Q .normal ρ h = Wp C 143 k_stringslite_Index_R21 (q_stringslite_Index_6 C Q) ρ h := rfl
theorem q_stringslite_Index_5_ret (C : Cfg) (Q : X → Rho → Hp → Prop) (ρ : Rho) (h : Hp) : q_stringslite_Index_5 C Q .ret ρ h = Q .ret ρ h := rfl
theorem q_stringslite_Index_5_exit2 (C : Cfg) (Q : X → Rho → Hp → Prop) (ρ : Rho) (h : Hp) : q_stringslite_Index_5 C Q (.exit 2) ρ h = Q .normal ρ h := rfl
noncomputable def k_stringslite_Index_R22 : Code := k_stringslite_Index.r.r.r.r.r.r.r.r.l.l.l.r.l.l.r.l.r
noncomputable def k_stringslite_Index_R23 : Code := k_stringslite_Index.r.r.r.r.r.r.r.r.l.l.l.r.l.r.l.r
noncomputable def k_stringslite_Index_R24 : Code := k_stringslite_Index.r.r.r.r.r.r.r.r.l.l.l.r.l.r.r
noncomputable def q_stringslite_Index_7 (C : Cfg) (Q : X → Rho → Hp → Prop) : X → Rho → Hp → Prop := andThen (Wp C 143 k_stringslite_Index_R24 Q) Q
theorem q_stringslite_Index_7_normal (C : Cfg) (Q : X → Rho → Hp → Prop) (ρ : Rho) (h : Hp) : q_stringslite_Index_7 C Q .normal ρ h = Wp C 143 k_stringslite_Index_R24 Q ρ h := rfl
theorem q_stringslite_Index_7_ret (C : Cfg) (Q : X → Rho → Hp → Prop) (ρ : Rho) (h : Hp) : q_stringslite_Index_7 C Q .ret ρ h = Q .ret ρ h := rfl
noncomputable def k_stringslite_Index_R25 : Code := k_stringslite_Index.r.r.r.r.r.r.r.r.l.l.l.r.l.l.r.l.r.l.r
noncomputable def k_stringslite_Index_R26 : Code := k_stringslite_Index.r.r.r.r.r.r.r.r.l.l.l.r.l.l.r.l.r.r
noncomputable def q_stringslite_Index_8 (C : Cfg) (Q : X → Rho → Hp → Prop) : X → Rho → Hp → Prop := andThen (Wp C 143 k_stringslite_Index_R26 Q) Q
theorem q_stringslite_Index_8_normal (C : Cfg) (Q : X → Rho → Hp → Prop) (ρ : Rho) (h : Hp) : q_stringslite_Index_8 C Q .normal ρ h = Wp C 143 k_stringslite_Index_R26 Q ρ h := rfl
theorem q_stringslite_Index_8_ret (C : Cfg) (Q : X → Rho → Hp → Prop) (ρ : Rho) (h : Hp) : q_stringslite_Index_8 C Q .ret ρ h = Q .ret ρ h := rfl
noncomputable def k_stringslite_Index_R27 : Code := k_stringslite_Index.r.r.r.r.r.r.r.r.l.l.l.r.l.r.l.r.l.r
noncomputable def k_stringslite_Index_R28 : Code := k_stringslite_Index.r.r.r.r.r.r.r.r.l.l.l.r.l.r.r.r
noncomputable def k_stringslite_Index_R29 : Code := k_stringslite_Index.r.r.r.r.r.r.r.r.l.l.l.r.l.l.r.l.r.l.r.l.r
noncomputable def k_stringslite_Index_R30 : Code := k_stringslite_Index.r.r.r.r.r.r.r.r.l.l.l.r.l.r.r.r.r
noncomputable def k_stringslite_Index_R31 : Code := k_stringslite_Index.r.r.r.r.r.r.r.r.l.l.l.r.l.r.r.r.r.r
noncomputable def k_stringslite_Index_R32 : Code := k_stringslite_Index.r.r.r.r.r.r.r.r.l.l.l.r.l.r.r.r.r.r.l.r
noncomputable def k_stringslite_Index_R33 : Code := k_stringslite_Index.r.r.r.r.r.r.r.r.l.l.l.r.l.r.r.r.r.r.r.r
noncomputable def k_stringslite_Index_R34 : Code := k_stringslite_Index.r.r.r.r.r.r.r.r.l.l.l.r.l.r.r.r.r.r.l.r.l.r
noncomputable def k_stringslite_Index_R35 : Code := k_stringslite_Index.r.r.r.r.r.r.r.r.l.l.l.r.l.r.r.r.r.r.l.r.r
noncomputable def q_stringslite_Index_9 (C : Cfg) (Q : X → Rho → Hp → Prop) : X → Rho → Hp → Prop := andThen (Wp C 143 k_stringslite_Index_R35 Q) Q
theorem q_stringslite_Index_9_normal (C : Cfg) (Q : X → Rho → Hp → Prop) (ρ : Rho) (h : Hp) : q_stringslite_Index_9 C Q .normal ρ h = Wp C 143 k_stringslite_Index_R35 Q ρ h := rfl
theorem q_stringslite_Index_9_ret (C : Cfg) (Q : X → Rho → Hp → Prop) (ρ : Rho) (h : Hp) : q_stringslite_Index_9 C Q .ret ρ h = Q .ret ρ h := rfl
noncomputable def k_stringslite_Index_R36 : Code := k_stringslite_Index.r.r.r.r.r.r.r.r.l.l.l.r.l.r.r.r.r.r.r.r.l.r
noncomputable def k_stringslite_Index_R37 : Code := k_stringslite_Index.r.r.r.r.r.r.r.r.l.l.l.r.l.r.r.r.r.r.l.r.l.r.l.r
noncomputable def k_stringslite_Index_R38 : Code := k_stringslite_Index.r.r.r.r.r.r.r.r.l.l.l.r.l.r.r.r.r.r.l.r.r.r
noncomputable def k_stringslite_Index_R39 : Code := k_stringslite_Index.r.r.r.r.r.r.r.r.l.l.l.r.l.r.r.r.r.r.r.r.l.r.l.r
noncomputable def k_stringslite_Index_R40 : Code := k_stringslite_Index.r.r.r.r.r.r.r.r.l.l.l.r.l.r.r.r.r.r.r.r.l.r.r
noncomputable def q_stringslite_Index_10 (C : Cfg) (Q : X → Rho → Hp → Prop) : X → Rho → Hp → Prop := andThen (Wp C 143 k_stringslite_Index_R40 Q) Q
theorem q_stringslite_Index_10_normal (C : Cfg) (Q : X → Rho → Hp → Prop) (ρ : Rho) (h : Hp) : q_stringslite_Index_10 C Q .normal ρ h = Wp C 143 k_stringslite_Index_R40 Q ρ h := rfl
theorem q_stringslite_Index_10_ret (C : Cfg) (Q : X → Rho → Hp → Prop) (ρ : Rho) (h : Hp) : q_stringslite_Index_10 C Q .ret ρ h = Q .ret ρ h := rfl
noncomputable def k_stringslite_Index_R41 : Code := k_stringslite_Index.r.r.r.r.r.r.r.r.l.l.l.r.l.r.r.r.r.r.r.r.l.r.l.r.l.r
noncomputable def k_stringslite_Index_R42 : Code := k_stringslite_Index.r.r.r.r.r.r.r.r.l.l.l.r.l.r.r.r.r.r.r.r.l.r.r.r
set_option maxRecDepth 100000 in
theorem e_stringslite_Index (C : Cfg) (Q : X → Rho → Hp → Prop) (ρ : Rho) (h : Hp) : codeR C 143 k_stringslite_Index Q ρ h = (
  oP (some (V.int .i64 0)) fun v4 =>
  Wp C 143 k_stringslite_Index_R0 Q (rset ρ 4 v4) h) := by kernel_rfl
set_option maxRecDepth 100000 in
theorem e_stringslite_Index_R0 (C : Cfg) (Q : X → Rho → Hp → Prop) (ρ : Rho) (h : Hp) : codeR C 143 k_stringslite_Index_R0 Q ρ h = (
  oP (some (ρ 1)) fun v14 =>
  oP (pLenS v14) fun v15 =>
  oP (some v15) fun v5 =>
  Wp C 143 k_stringslite_Index_R1 Q (rset (rset (rset ρ 14 v14) 15 v15) 5 v5) h) := by kernel_rfl
set_option maxRecDepth 100000 in
theorem e_stringslite_Index_R1 (C : Cfg) (Q : X → Rho → Hp → Prop) (ρ : Rho) (h : Hp) : codeR C 143 k_stringslite_Index_R1 Q ρ h = (
  oP (some (ρ 5)) fun v17 =>
  oP (hbin .eql 3 v17 (V.int .i64 0)) fun v18 =>
  oP (some v18) fun v19 =>
  oP (pGd false v19) fun b3 =>
  oP (gV b3 (some (ρ 1))) fun v20 =>
  oP (pGd false v19) fun b4 =>
  oP (gV b4 (some (ρ 0))) fun v21 =>
  oP (pGd false v19) fun b5 =>
  oP (gV b5 (hbin .eql 9 v20 v21)) fun v22 =>
  oP (pPick v19 (V.bool true) v22) fun v23 =>
  oP (some v23) fun v16 =>
  Wp C 143 k_stringslite_Index_R2 (q_stringslite_Index_0 C Q) (rset (rset (rset (rset (rset (rset (rset (rset ρ 17 v17) 18 v18) 19 v19) 20 v20) 21 v21) 22 v22) 23 v23) 16 v16) h) := by kernel_rfl
set_option maxRecDepth 100000 in
theorem e_stringslite_Index_R3 (C : Cfg) (Q : X → Rho → Hp → Prop) (ρ : Rho) (h : Hp) : codeR C 143 k_stringslite_Index_R3 Q ρ h = (
  oP (some (ρ 1)) fun v48 =>
  oP (pIdxS v48 (V.int .i64 0)) fun v49 =>
  oP (some v49) fun v6 =>
  Wp C 143 k_stringslite_Index_R6 Q (rset (rset (rset ρ 48 v48) 49 v49) 6 v6) h) := by kernel_rfl
set_option maxRecDepth 100000 in
theorem e_stringslite_Index_R6 (C : Cfg) (Q : X → Rho → Hp → Prop) (ρ : Rho) (h : Hp) : codeR C 143 k_stringslite_Index_R6 Q ρ h = (
  oP (some (ρ 1)) fun v50 =>
  oP (pIdxS v50 (V.int .i64 1)) fun v51 =>
  oP (some v51) fun v7 =>
  Wp C 143 k_stringslite_Index_R9 Q (rset (rset (rset ρ 50 v50) 51 v51) 7 v7) h) := by kernel_rfl
set_option maxRecDepth 100000 in
theorem e_stringslite_Index_R2 (C : Cfg) (Q : X → Rho → Hp → Prop) (ρ : Rho) (h : Hp) : codeR C 143 k_stringslite_Index_R2 Q ρ h = (
  oP (some (ρ 16)) fun c =>
  bP c (
    oP (some (V.int .i64 0)) fun v4 =>
    Wp C 143 k_stringslite_Index_R4 Q (rset ρ 4 v4) h) (
    oP (some (ρ 5)) fun v25 =>
    oP (hbin .eql 3 v25 (V.int .i64 1)) fun v26 =>
    oP (some v26) fun v24 =>
    Wp C 143 k_stringslite_Index_R5 Q (rset (rset (rset ρ 25 v25) 26 v26) 24 v24) h)) := by kernel_rfl
set_option maxRecDepth 100000 in
theorem e_stringslite_Index_R9 (C : Cfg) (Q : X → Rho → Hp → Prop) (ρ : Rho) (h : Hp) : codeR C 143 k_stringslite_Index_R9 Q ρ h = (
  oP (some (V.int .i64 0)) fun v8 =>
  Wp C 143 k_stringslite_Index_R12 Q (rset ρ 8 v8) h) := by kernel_rfl
set_option maxRecDepth 100000 in
theorem e_stringslite_Index_R12 (C : Cfg) (Q : X → Rho → Hp → Prop) (ρ : Rho) (h : Hp) : codeR C 143 k_stringslite_Index_R12 Q ρ h = (
  oP (some (ρ 0)) fun v52 =>
  oP (pLenS v52) fun v53 =>
  oP (some (ρ 5)) fun v54 =>
  oP (hbin .sub 3 v53 v54) fun v55 =>
  oP (hbin .add 3 v55 (V.int .i64 1)) fun v56 =>
  oP (some v56) fun v9 =>
  Wp C 143 k_stringslite_Index_R14 Q (rset (rset (rset (rset (rset (rset ρ 52 v52) 53 v53) 54 v54) 55 v55) 56 v56) 9 v9) h) := by kernel_rfl
set_option maxRecDepth 100000 in
theorem e_stringslite_Index_R4 (C : Cfg) (Q : X → Rho → Hp → Prop) (ρ : Rho) (h : Hp) : codeR C 143 k_stringslite_Index_R4 Q ρ h = (
  Q .ret ρ h) := by kernel_rfl
set_option maxRecDepth 100000 in
theorem e_stringslite_Index_R5 (C : Cfg) (Q : X → Rho → Hp → Prop) (ρ : Rho) (h : Hp) : codeR C 143 k_stringslite_Index_R5 Q ρ h = (
  oP (some (ρ 24)) fun c =>
  bP c (
    oP (some (ρ 0)) fun v27 =>
    oP (some (ρ 1)) fun v28 =>
    oP (pIdxS v28 (V.int .i64 0)) fun v29 =>
    dcP C n_stringslite_IndexByte [v27, v29] h fun v30 h1 =>
    oP (some v30) fun v4 =>
    Wp C 143 k_stringslite_Index_R7 Q (rset (rset (rset (rset (rset ρ 27 v27) 28 v28) 29 v29) 30 v30) 4 v4) h1) (
    oP (some (ρ 5)) fun v32 =>
    oP (some (ρ 0)) fun v33 =>
    oP (pLenS v33) fun v34 =>
    oP (hbin .geq 3 v32 v34) fun v35 =>
    oP (some v35) fun v31 =>
    Wp C 143 k_stringslite_Index_R8 Q (rset (rset (rset (rset (rset ρ 32 v32) 33 v33) 34 v34) 35 v35) 31 v31) h)) := by kernel_rfl
set_option maxRecDepth 100000 in
theorem e_stringslite_Index_R14 (C : Cfg) (Q : X → Rho → Hp → Prop) (ρ : Rho) (h : Hp) : codeR C 143 k_stringslite_Index_R14 Q ρ h = (
  oP (some (V.int .i64 0)) fun v10 =>
  Wp C 143 k_stringslite_Index_R15 Q (rset ρ 10 v10) h) := by kernel_rfl
set_option maxRecDepth 100000 in
theorem e_stringslite_Index_R15 (C : Cfg) (Q : X → Rho → Hp → Prop) (ρ : Rho) (h : Hp) : codeR C 143 k_stringslite_Index_R15 Q ρ h = (
  Wp C 143 (.loop k_stringslite_Index_L0) (q_stringslite_Index_2 C Q) ρ h) := by kernel_rfl
set_option maxRecDepth 100000 in
theorem e_stringslite_Index_R7 (C : Cfg) (Q : X → Rho → Hp → Prop) (ρ : Rho) (h : Hp) : codeR C 143 k_stringslite_Index_R7 Q ρ h = (
  Q .ret ρ h) := by kernel_rfl
set_option maxRecDepth 100000 in
theorem e_stringslite_Index_R8 (C : Cfg) (Q : X → Rho → Hp → Prop) (ρ : Rho) (h : Hp) : codeR C 143 k_stringslite_Index_R8 Q ρ h = (
  oP (some (ρ 31)) fun c =>
  bP c (
    oP (some (V.int .i64 (-1))) fun v4 =>
    Wp C 143 k_stringslite_Index_R10 Q (rset ρ 4 v4) h) (
    oP (some (ρ 5)) fun v37 =>
    oP (oB (oB (h.get 0) fun _ => some (V.ptr 0 0)) fun g0_ => pLd g0_ h) fun v38 =>
    oP (hbin .leq 3 v37 v38) fun v39 =>
    oP (some v39) fun v40 =>
    oP (pGd true v40) fun b4 =>
    oP (gV b4 (some (ρ 0))) fun v41 =>
    oP (pGd true v40) fun b5 =>
    oP (gV b5 (pLenS v41)) fun v42 =>
    oP (pGd true v40) fun b6 =>
    oP (gV b6 (hbin .leq 3 v42 (V.int .i64 64))) fun v43 =>
    oP (pPick v40 v43 (V.bool false)) fun v44 =>
    oP (some v44) fun v36 =>
    Wp C 143 k_stringslite_Index_R11 Q (rset (rset (rset (rset (rset (rset (rset (rset (rset ρ 37 v37) 38 v38) 39 v39) 40 v40) 41 v41) 42 v42) 43 v43) 44 v44) 36 v36) h)) := by kernel_rfl
set_option maxRecDepth 100000 in
theorem e_stringslite_Index_R16 (C : Cfg) (Q : X → Rho → Hp → Prop) (ρ : Rho) (h : Hp) : codeR C 143 k_stringslite_Index_R16 Q ρ h = (
  oP (some (V.int .i64 (-1))) fun v4 =>
  Wp C 143 k_stringslite_Index_R19 Q (rset ρ 4 v4) h) := by kernel_rfl
set_option maxRecDepth 100000 in
theorem e_stringslite_Index_R19 (C : Cfg) (Q : X → Rho → Hp → Prop) (ρ : Rho) (h : Hp) : codeR C 143 k_stringslite_Index_R19 Q ρ h = (
  Q .ret ρ h) := by kernel_rfl
set_option maxRecDepth 100000 in
theorem e_stringslite_Index_R10 (C : Cfg) (Q : X → Rho → Hp → Prop) (ρ : Rho) (h : Hp) : codeR C 143 k_stringslite_Index_R10 Q ρ h = (
  Q .ret ρ h) := by kernel_rfl
set_option maxRecDepth 100000 in
theorem e_stringslite_Index_R11 (C : Cfg) (Q : X → Rho → Hp → Prop) (ρ : Rho) (h : Hp) : codeR C 143 k_stringslite_Index_R11 Q ρ h = (
  oP (some (ρ 36)) fun c =>
  bP c (
    oP (some (ρ 0)) fun v45 =>
    oP (some (ρ 1)) fun v46 =>
    dcP C n_bytealg_IndexString [v45, v46] h fun v47 h1 =>
    oP (some v47) fun v4 =>
    Wp C 143 k_stringslite_Index_R13 Q (rset (rset (rset (rset ρ 45 v45) 46 v46) 47 v47) 4 v4) h1) (
    Q .normal ρ h)) := by kernel_rfl
set_option maxRecDepth 100000 in
theorem e_stringslite_Index_L0 (C : Cfg) (Q : X → Rho → Hp → Prop) (ρ : Rho) (h : Hp) : codeR C 143 k_stringslite_Index_L0 Q ρ h = (
  oP (some (ρ 8)) fun v57 =>
  oP (some (ρ 9)) fun v58 =>
  oP (hbin .lss 3 v57 v58) fun v59 =>
  Wp C 143 k_stringslite_Index_R17 (q_stringslite_Index_4 C Q) (rset (rset (rset ρ 57 v57) 58 v58) 59 v59) h) := by kernel_rfl
set_option maxRecDepth 100000 in
theorem e_stringslite_Index_R18 (C : Cfg) (Q : X → Rho → Hp → Prop) (ρ : Rho) (h : Hp) : codeR C 143 k_stringslite_Index_R18 Q ρ h = (
  oP (some (ρ 0)) fun v60 =>
  oP (some (ρ 8)) fun v61 =>
  oP (pIdxS v60 v61) fun v62 =>
  oP (some (ρ 6)) fun v63 =>
  oP (hbin .neq 5 v62 v63) fun v64 =>
  Wp C 143 k_stringslite_Index_R20 (q_stringslite_Index_5 C Q) (rset (rset (rset (rset (rset ρ 60 v60) 61 v61) 62 v62) 63 v63) 64 v64) h) := by kernel_rfl
set_option maxRecDepth 100000 in
theorem e_stringslite_Index_R13 (C : Cfg) (Q : X → Rho → Hp → Prop) (ρ : Rho) (h : Hp) : codeR C 143 k_stringslite_Index_R13 Q ρ h = (
  Q .ret ρ h) := by kernel_rfl
set_option maxRecDepth 100000 in
theorem e_stringslite_Index_R17 (C : Cfg) (Q : X → Rho → Hp → Prop) (ρ : Rho) (h : Hp) : codeR C 143 k_stringslite_Index_R17 Q ρ h = (
  oP (some (ρ 59)) fun c =>
  bP c (
    Q .normal ρ h) (
    Q (.exit 1) ρ h)) := by kernel_rfl
set_option maxRecDepth 100000 in
theorem e_stringslite_Index_R21 (C : Cfg) (Q : X → Rho → Hp → Prop) (ρ : Rho) (h : Hp) : codeR C 143 k_stringslite_Index_R21 Q ρ h = (
  oP (some (ρ 0)) fun v78 =>
  oP (some (ρ 8)) fun v79 =>
  oP (hbin .add 3 v79 (V.int .i64 1)) fun v80 =>
  oP (pIdxS v78 v80) fun v81 =>
  oP (some (ρ 7)) fun v82 =>
  oP (hbin .eql 5 v81 v82) fun v83 =>
  oP (some v83) fun v84 =>
  oP (pGd true v84) fun b7 =>
  oP (gV b7 (some (ρ 0))) fun v85 =>
  oP (pGd true v84) fun b8 =>
  oP (gV b8 (some (ρ 8))) fun v86 =>
  oP (pGd true v84) fun b9 =>
  oP (gV b9 (some (ρ 8))) fun v87 =>
  oP (pGd true v84) fun b10 =>
  oP (gV b10 (some (ρ 5))) fun v88 =>
  oP (pGd true v84) fun b11 =>
  oP (gV b11 (hbin .add 3 v87 v88)) fun v89 =>
  oP (pGd true v84) fun b12 =>
  oP (gV b12 (hsliceS v85 (some v86) (some v89))) fun v90 =>
  oP (pGd true v84) fun b13 =>
  oP (gV b13 (some (ρ 1))) fun v91 =>
  oP (pGd true v84) fun b14 =>
  oP (gV b14 (hbin .eql 9 v90 v91)) fun v92 =>
  oP (pPick v84 v92 (V.bool false)) fun v93 =>
  Wp C 143 k_stringslite_Index_R23 (q_stringslite_Index_7 C Q) (rset (rset (rset (rset (rset (rset (rset (rset (rset (rset (rset (rset (rset (rset (rset (rset ρ 78 v78) 79 v79) 80 v80) 81 v81) 82 v82) 83 v83) 84 v84) 85 v85) 86 v86) 87 v87) 88 v88) 89 v89) 90 v90) 91 v91) 92 v92) 93 v93) h) := by kernel_rfl
set_option maxRecDepth 100000 in
theorem e_stringslite_Index_R20 (C : Cfg) (Q : X → Rho → Hp → Prop) (ρ : Rho) (h : Hp) : codeR C 143 k_stringslite_Index_R20 Q ρ h = (
  oP (some (ρ 64)) fun c =>
  bP c (
    oP (some (ρ 0)) fun v65 =>
    oP (some (ρ 8)) fun v66 =>
    oP (hbin .add 3 v66 (V.int .i64 1)) fun v67 =>
    oP (some (ρ 9)) fun v68 =>
    oP (hsliceS v65 (some v67) (some v68)) fun v69 =>
    oP (some (ρ 6)) fun v70 =>
    dcP C n_stringslite_IndexByte [v69, v70] h fun v71 h1 =>
    oP (some v71) fun v11 =>
    Wp C 143 k_stringslite_Index_R22 Q (rset (rset (rset (rset (rset (rset (rset (rset ρ 65 v65) 66 v66) 67 v67) 68 v68) 69 v69) 70 v70) 71 v71) 11 v11) h1) (
    Q .normal ρ h)) := by kernel_rfl
set_option maxRecDepth 100000 in
theorem e_stringslite_Index_R24 (C : Cfg) (Q : X → Rho → Hp → Prop) (ρ : Rho) (h : Hp) : codeR C 143 k_stringslite_Index_R24 Q ρ h = (
  oP (some (ρ 8)) fun v95 =>
  oP (hbin .add 3 v95 (V.int .i64 1)) fun v96 =>
  oP (some v96) fun v8 =>
  Wp C 143 k_stringslite_Index_R28 Q (rset (rset (rset ρ 95 v95) 96 v96) 8 v8) h) := by kernel_rfl
set_option maxRecDepth 100000 in
theorem e_stringslite_Index_R23 (C : Cfg) (Q : X → Rho → Hp → Prop) (ρ : Rho) (h : Hp) : codeR C 143 k_stringslite_Index_R23 Q ρ h = (
  oP (some (ρ 93)) fun c =>
  bP c (
    oP (some (ρ 8)) fun v94 =>
    oP (some v94) fun v4 =>
    Wp C 143 k_stringslite_Index_R27 Q (rset (rset ρ 94 v94) 4 v4) h) (
    Q .normal ρ h)) := by kernel_rfl
set_option maxRecDepth 100000 in
theorem e_stringslite_Index_R28 (C : Cfg) (Q : X → Rho → Hp → Prop) (ρ : Rho) (h : Hp) : codeR C 143 k_stringslite_Index_R28 Q ρ h = (
  oP (some (ρ 10)) fun v97 =>
  oP (hbin .add 3 v97 (V.int .i64 1)) fun v98 =>
  oP (some v98) fun v10 =>
  Wp C 143 k_stringslite_Index_R30 Q (rset (rset (rset ρ 97 v97) 98 v98) 10 v10) h) := by kernel_rfl
set_option maxRecDepth 100000 in
theorem e_stringslite_Index_R22 (C : Cfg) (Q : X → Rho → Hp → Prop) (ρ : Rho) (h : Hp) : codeR C 143 k_stringslite_Index_R22 Q ρ h = (
  oP (some (ρ 11)) fun v72 =>
  oP (hbin .lss 3 v72 (V.int .i64 0)) fun v73 =>
  Wp C 143 k_stringslite_Index_R25 (q_stringslite_Index_8 C Q) (rset (rset ρ 72 v72) 73 v73) h) := by kernel_rfl
set_option maxRecDepth 100000 in
theorem e_stringslite_Index_R30 (C : Cfg) (Q : X → Rho → Hp → Prop) (ρ : Rho) (h : Hp) : codeR C 143 k_stringslite_Index_R30 Q ρ h = (
  oP (some (ρ 5)) fun v99 =>
  oP (oB (oB (h.get 0) fun _ => some (V.ptr 0 0)) fun g0_ => pLd g0_ h) fun v100 =>
  oP (hbin .leq 3 v99 v100) fun v101 =>
  oP (some v101) fun v102 =>
  oP (pGd true v102) fun b4 =>
  oP (gV b4 (some (ρ 10))) fun v103 =>
  oP (pGd true v102) fun b5 =>
  oP (gV b5 (some (ρ 8))) fun v104 =>
  oP (pGd true v102) fun b6 =>
  oP (gC b6 (some (n_bytealg_Cutover, [v104]))) fun x6 => cgP C x6 h fun v105 h1 =>
  oP (pGd true v102) fun b7 =>
  oP (gV b7 (hbin .gtr 3 v103 v105)) fun v106 =>
  oP (pPick v102 v106 (V.bool false)) fun v107 =>
  Wp C 143 k_stringslite_Index_R31 Q (rset (rset (rset (rset (rset (rset (rset (rset (rset ρ 99 v99) 100 v100) 101 v101) 102 v102) 103 v103) 104 v104) 105 v105) 106 v106) 107 v107) h1) := by kernel_rfl
set_option maxRecDepth 100000 in
theorem e_stringslite_Index_R26 (C : Cfg) (Q : X → Rho → Hp → Prop) (ρ : Rho) (h : Hp) : codeR C 143 k_stringslite_Index_R26 Q ρ h = (
  oP (some (ρ 8)) fun v74 =>
  oP (some (ρ 11)) fun v75 =>
  oP (hbin .add 3 v75 (V.int .i64 1)) fun v76 =>
  oP (hbin .add 3 v74 v76) fun v77 =>
  oP (some v77) fun v8 =>
  Q .normal (rset (rset (rset (rset (rset ρ 74 v74) 75 v75) 76 v76) 77 v77) 8 v8) h) := by kernel_rfl
set_option maxRecDepth 100000 in
theorem e_stringslite_Index_R27 (C : Cfg) (Q : X → Rho → Hp → Prop) (ρ : Rho) (h : Hp) : codeR C 143 k_stringslite_Index_R27 Q ρ h = (
  Q .ret ρ h) := by kernel_rfl
set_option maxRecDepth 100000 in
theorem e_stringslite_Index_R31 (C : Cfg) (Q : X → Rho → Hp → Prop) (ρ : Rho) (h : Hp) : codeR C 143 k_stringslite_Index_R31 Q ρ h = (
  oP (some (ρ 107)) fun c =>
  bP c (
    oP (some (ρ 0)) fun v108 =>
    oP (some (ρ 8)) fun v109 =>
    oP (hsliceS v108 (some v109) none) fun v110 =>
    oP (some (ρ 1)) fun v111 =>
    dcP C n_bytealg_IndexString [v110, v111] h fun v112 h1 =>
    oP (some v112) fun v12 =>
    Wp C 143 k_stringslite_Index_R32 Q (rset (rset (rset (rset (rset (rset ρ 108 v108) 109 v109) 110 v110) 111 v111) 112 v112) 12 v12) h1) (
    oP (some (ρ 5)) fun v118 =>
    oP (oB (oB (h.get 0) fun _ => some (V.ptr 0 0)) fun g0_ => pLd g0_ h) fun v119 =>
    oP (hbin .gtr 3 v118 v119) fun v120 =>
    oP (some v120) fun v121 =>
    oP (pGd true v121) fun b4 =>
    oP (gV b4 (some (ρ 10))) fun v122 =>
    oP (pGd true v121) fun b5 =>
    oP (gV b5 (some (ρ 8))) fun v123 =>
    oP (pGd true v121) fun b6 =>
    oP (gV b6 (hbin .shr 3 v123 (V.int .u64 4))) fun v124 =>
    oP (pGd true v121) fun b7 =>
    oP (gV b7 (hbin .add 3 (V.int .i64 4) v124)) fun v125 =>
    oP (pGd true v121) fun b8 =>
    oP (gV b8 (hbin .geq 3 v122 v125)) fun v126 =>
    oP (pPick v121 v126 (V.bool false)) fun v127 =>
    oP (some v127) fun v128 =>
    oP (pGd true v128) fun b11 =>
    oP (gV b11 (some (ρ 8))) fun v129 =>
    oP (pGd true v128) fun b12 =>
    oP (gV b12 (some (ρ 9))) fun v130 =>
    oP (pGd true v128) fun b13 =>
    oP (gV b13 (hbin .lss 3 v129 v130)) fun v131 =>
    oP (pPick v128 v131 (V.bool false)) fun v132 =>
    Wp C 143 k_stringslite_Index_R33 Q (rset (rset (rset (rset (rset (rset (rset (rset (rset (rset (rset (rset (rset (rset (rset ρ 118 v118) 119 v119) 120 v120) 121 v121) 122 v122) 123 v123) 124 v124) 125 v125) 126 v126) 127 v127) 128 v128) 129 v129) 130 v130) 131 v131) 132 v132) h)) := by kernel_rfl
set_option maxRecDepth 100000 in
theorem e_stringslite_Index_R25 (C : Cfg) (Q : X → Rho → Hp → Prop) (ρ : Rho) (h : Hp) : codeR C 143 k_stringslite_Index_R25 Q ρ h = (
  oP (some (ρ 73)) fun c =>
  bP c (
    oP (some (V.int .i64 (-1))) fun v4 =>
    Wp C 143 k_stringslite_Index_R29 Q (rset ρ 4 v4) h) (
    Q .normal ρ h)) := by kernel_rfl
set_option maxRecDepth 100000 in
theorem e_stringslite_Index_R32 (C : Cfg) (Q : X → Rho → Hp → Prop) (ρ : Rho) (h : Hp) : codeR C 143 k_stringslite_Index_R32 Q ρ h = (
  oP (some (ρ 12)) fun v113 =>
  oP (hbin .geq 3 v113 (V.int .i64 0)) fun v114 =>
  Wp C 143 k_stringslite_Index_R34 (q_stringslite_Index_9 C Q) (rset (rset ρ 113 v113) 114 v114) h) := by kernel_rfl
set_option maxRecDepth 100000 in
theorem e_stringslite_Index_R33 (C : Cfg) (Q : X → Rho → Hp → Prop) (ρ : Rho) (h : Hp) : codeR C 143 k_stringslite_Index_R33 Q ρ h = (
  oP (some (ρ 132)) fun c =>
  bP c (
    oP (some (ρ 0)) fun v133 =>
    oP (some (ρ 8)) fun v134 =>
    oP (hsliceS v133 (some v134) none) fun v135 =>
    oP (some (ρ 1)) fun v136 =>
    dcP C n_bytealg_IndexRabinKarp_string [v135, v136] h fun v137 h1 =>
    oP (some v137) fun v13 =>
    Wp C 143 k_stringslite_Index_R36 Q (rset (rset (rset (rset (rset (rset ρ 133 v133) 134 v134) 135 v135) 136 v136) 137 v137) 13 v13) h1) (
    Q .normal ρ h)) := by kernel_rfl
set_option maxRecDepth 100000 in
theorem e_stringslite_Index_R29 (C : Cfg) (Q : X → Rho → Hp → Prop) (ρ : Rho) (h : Hp) : codeR C 143 k_stringslite_Index_R29 Q ρ h = (
  Q .ret ρ h) := by kernel_rfl
set_option maxRecDepth 100000 in
theorem e_stringslite_Index_R35 (C : Cfg) (Q : X → Rho → Hp → Prop) (ρ : Rho) (h : Hp) : codeR C 143 k_stringslite_Index_R35 Q ρ h = (
  oP (some (V.int .i64 (-1))) fun v4 =>
  Wp C 143 k_stringslite_Index_R38 Q (rset ρ 4 v4) h) := by kernel_rfl
set_option maxRecDepth 100000 in
theorem e_stringslite_Index_R34 (C : Cfg) (Q : X → Rho → Hp → Prop) (ρ : Rho) (h : Hp) : codeR C 143 k_stringslite_Index_R34 Q ρ h = (
  oP (some (ρ 114)) fun c =>
  bP c (
    oP (some (ρ 12)) fun v115 =>
    oP (some (ρ 8)) fun v116 =>
    oP (hbin .add 3 v115 v116) fun v117 =>
    oP (some v117) fun v4 =>
    Wp C 143 k_stringslite_Index_R37 Q (rset (rset (rset (rset ρ 115 v115) 116 v116) 117 v117) 4 v4) h) (
    Q .normal ρ h)) := by kernel_rfl
set_option maxRecDepth 100000 in
theorem e_stringslite_Index_R38 (C : Cfg) (Q : X → Rho → Hp → Prop) (ρ : Rho) (h : Hp) : codeR C 143 k_stringslite_Index_R38 Q ρ h = (
  Q .ret ρ h) := by kernel_rfl
set_option maxRecDepth 100000 in
theorem e_stringslite_Index_R36 (C : Cfg) (Q : X → Rho → Hp → Prop) (ρ : Rho) (h : Hp) : codeR C 143 k_stringslite_Index_R36 Q ρ h = (
  oP (some (ρ 13)) fun v138 =>
  oP (hbin .lss 3 v138 (V.int .i64 0)) fun v139 =>
  Wp C 143 k_stringslite_Index_R39 (q_stringslite_Index_10 C Q) (rset (rset ρ 138 v138) 139 v139) h) := by kernel_rfl
set_option maxRecDepth 100000 in
theorem e_stringslite_Index_R40 (C : Cfg) (Q : X → Rho → Hp → Prop) (ρ : Rho) (h : Hp) : codeR C 143 k_stringslite_Index_R40 Q ρ h = (
  oP (some (ρ 8)) fun v140 =>
  oP (some (ρ 13)) fun v141 =>
  oP (hbin .add 3 v140 v141) fun v142 =>
  oP (some v142) fun v4 =>
  Wp C 143 k_stringslite_Index_R42 Q (rset (rset (rset (rset ρ 140 v140) 141 v141) 142 v142) 4 v4) h) := by kernel_rfl
set_option maxRecDepth 100000 in
theorem e_stringslite_Index_R37 (C : Cfg) (Q : X → Rho → Hp → Prop) (ρ : Rho) (h : Hp) : codeR C 143 k_stringslite_Index_R37 Q ρ h = (
  Q .ret ρ h) := by kernel_rfl
set_option maxRecDepth 100000 in
theorem e_stringslite_Index_R39 (C : Cfg) (Q : X → Rho → Hp → Prop) (ρ : Rho) (h : Hp) : codeR C 143 k_stringslite_Index_R39 Q ρ h = (
  oP (some (ρ 139)) fun c =>
  bP c (
    oP (some (V.int .i64 (-1))) fun v4 =>
    Wp C 143 k_stringslite_Index_R41 Q (rset ρ 4 v4) h) (
    Q .normal ρ h)) := by kernel_rfl
set_option maxRecDepth 100000 in
theorem e_stringslite_Index_R42 (C : Cfg) (Q : X → Rho → Hp → Prop) (ρ : Rho) (h : Hp) : codeR C 143 k_stringslite_Index_R42 Q ρ h = (
  Q .ret ρ h) := by kernel_rfl
set_option maxRecDepth 100000 in
theorem e_stringslite_Index_R41 (C : Cfg) (Q : X → Rho → Hp → Prop) (ρ : Rho) (h : Hp) : codeR C 143 k_stringslite_Index_R41 Q ρ h = (
  Q .ret ρ h) := by kernel_rfl
theorem f_stringslite_Index {C : Cfg} (hs : C.start = startF) (a0 a1 : V) {h : Hp} {Q : V → Hp → Prop} (hk : C.K n_stringslite_Index [a0, a1] h = none) (H : codeR C 143 k_stringslite_Index (bodyQ [.tmp 4] Q) (argsR [a0, a1]) h) : cP C n_stringslite_Index [a0, a1] h Q :=
  cP.funcN hs (show P0.funcs[64]? = some Tryz.f64 by unfold P0; exact Tryz.func64) (by kernel_rfl) (by kernel_rfl) (by kernel_rfl) hk (Nat.le_of_ble_eq_true rfl) (Wp.code _ H)
def J_stringslite_Index_L0 (C : Cfg) (Q : V → Hp → Prop) (x0 x1 x5 x6 x7 x8 x9 x10 : V) (h : Hp) : Prop := ∀ ρ : Rho, ρ 0 = x0 → ρ 1 = x1 → ρ 5 = x5 → ρ 6 = x6 → ρ 7 = x7 → ρ 8 = x8 → ρ 9 = x9 → ρ 10 = x10 → Wp C 143 (.loop k_stringslite_Index_L0) (q_stringslite_Index_2 C (bodyQ [.tmp 4] Q)) ρ h
def J_stringslite_Index_R21 (C : Cfg) (Q : V → Hp → Prop) (KL0 : V → V → V → V → V → V → V → V → Hp → Prop) (x0 x1 x5 x6 x7 x8 x9 x10 : V) (h : Hp) : Prop := ∀ ρ : Rho, ρ 0 = x0 → ρ 1 = x1 → ρ 5 = x5 → ρ 6 = x6 → ρ 7 = x7 → ρ 8 = x8 → ρ 9 = x9 → ρ 10 = x10 → Wp C 143 k_stringslite_Index_R21 (q_stringslite_Index_6 C (andThen (fun ρ h => KL0 (ρ 0) (ρ 1) (ρ 5) (ρ 6) (ρ 7) (ρ 8) (ρ 9) (ρ 10) h) (q_stringslite_Index_2 C (bodyQ [.tmp 4] Q)))) ρ h
def B_stringslite_Index_L0 (C : Cfg) (Q : V → Hp → Prop) (KL0 : V → V → V → V → V → V → V → V → Hp → Prop) (x0 x1 x5 x6 x7 x8 x9 x10 : V) (h : Hp) : Prop :=
  oP (hbin .lss 3 x8 x9) fun v59 =>
  bP v59 (
  oP (pIdxS x0 x8) fun v62 =>
  oP (hbin .neq 5 v62 x6) fun v64 =>
  bP v64 (
  oP (hbin .add 3 x8 (V.int .i64 1)) fun v67 =>
  oP (hsliceS x0 (some v67) (some x9)) fun v69 =>
  cP C n_stringslite_IndexByte [v69, x6] h fun v71 h1 =>
  oP (hbin .lss 3 v71 (V.int .i64 0)) fun v73 =>
  bP v73 (
  Q (V.int .i64 (-1)) h1) (
  oP (hbin .add 3 v71 (V.int .i64 1)) fun v76 =>
  oP (hbin .add 3 x8 v76) fun v77 =>
  J_stringslite_Index_R21 C Q KL0 x0 x1 x5 x6 x7 v77 x9 x10 h1)) (
  J_stringslite_Index_R21 C Q KL0 x0 x1 x5 x6 x7 x8 x9 x10 h)) (
  Q (V.int .i64 (-1)) h)
set_option maxRecDepth 100000 in
theorem l_stringslite_Index_L0 {C : Cfg} {Q : V → Hp → Prop} (I : Nat → V → V → V → V → V → V → V → V → Hp → Prop) (step : ∀ (k : Nat) (x0 x1 x5 x6 x7 x8 x9 x10 : V) (h : Hp), I k x0 x1 x5 x6 x7 x8 x9 x10 h → B_stringslite_Index_L0 C Q (fun x0 x1 x5 x6 x7 x8 x9 x10 h => ∃ k', k' < k ∧ I k' x0 x1 x5 x6 x7 x8 x9 x10 h) x0 x1 x5 x6 x7 x8 x9 x10 h) {k : Nat} {x0 x1 x5 x6 x7 x8 x9 x10 : V} {h : Hp} (h0 : I k x0 x1 x5 x6 x7 x8 x9 x10 h) : J_stringslite_Index_L0 C Q x0 x1 x5 x6 x7 x8 x9 x10 h := by
  intro ρ e0 e1 e5 e6 e7 e8 e9 e10
  subst e0
  subst e1
  subst e5
  subst e6
  subst e7
  subst e8
  subst e9
  subst e10
  refine Wp.loopI (fun k ρ h => I k (ρ 0) (ρ 1) (ρ 5) (ρ 6) (ρ 7) (ρ 8) (ρ 9) (ρ 10) h) (fun k ρ h hi => ?_) h0
  have H := step k (ρ 0) (ρ 1) (ρ 5) (ρ 6) (ρ 7) (ρ 8) (ρ 9) (ρ 10) h hi
  unfold B_stringslite_Index_L0 at H
  exact Wp.of (e_stringslite_Index_L0 _ _ _ _) (oSm (oSm (oM H fun v59 _ H => Wp.of (e_stringslite_Index_R17 _ _ _ _) (oSm (bM H (fun H => Wp.of (e_stringslite_Index_R18 _ _ _ _) (oSm (oSm (oM H fun v62 _ H => oSm (oM H fun v64 _ H => Wp.of (e_stringslite_Index_R20 _ _ _ _) (oSm (bM H (fun H => oSm (oSm (oM H fun v67 _ H => oSm (oM H fun v69 _ H => oSm (dcM H fun v71 h1 H => oSm (Wp.of (e_stringslite_Index_R22 _ _ _ _) (oSm (oM H fun v73 _ H => Wp.of (e_stringslite_Index_R25 _ _ _ _) (oSm (bM H (fun H => oSm (Wp.of (e_stringslite_Index_R29 _ _ _ _) (H))) (fun H => Wp.of (e_stringslite_Index_R26 _ _ _ _) (oSm (oSm (oM H fun v76 _ H => oM H fun v77 _ H => oSm (H _ rfl rfl rfl rfl rfl rfl rfl rfl))))))))))))))) (fun H => H _ rfl rfl rfl rfl rfl rfl rfl rfl)))))))) (fun H => Wp.of (e_stringslite_Index_R16 _ _ _ _) (oSm (Wp.of (e_stringslite_Index_R19 _ _ _ _) (H)))))))))
def B_stringslite_Index_R21 (C : Cfg) (Q : V → Hp → Prop) (KL0 : V → V → V → V → V → V → V → V → Hp → Prop) (x0 x1 x5 x6 x7 x8 x9 x10 : V) (h : Hp) : Prop :=
  oP (hbin .add 3 x8 (V.int .i64 1)) fun v80 =>
  oP (pIdxS x0 v80) fun v81 =>
  oP (hbin .eql 5 v81 x7) fun v83 =>
  oP (pAnd v83 (oB (some x0) fun v85 => oB (some x8) fun v86 => oB (some x8) fun v87 => oB (some x5) fun v88 => oB (hbin .add 3 v87 v88) fun v89 => oB (hsliceS v85 (some v86) (some v89)) fun v90 => oB (some x1) fun v91 => hbin .eql 9 v90 v91)) fun v93 =>
  bP v93 (
  Q x8 h) (
  oP (hbin .add 3 x8 (V.int .i64 1)) fun v96 =>
  oP (hbin .add 3 x10 (V.int .i64 1)) fun v98 =>
  oP (oB (oB (h.get 0) fun _ => some (V.ptr 0 0)) fun g0_ => pLd g0_ h) fun v100 =>
  oP (hbin .leq 3 x5 v100) fun v101 =>
  oP (pGd true v101) fun b4 =>
  oP (gV b4 (some v98)) fun v103 =>
  oP (pGd true v101) fun b5 =>
  oP (gV b5 (some v96)) fun v104 =>
  oP (pGd true v101) fun b6 =>
  oP (gC b6 (some (n_bytealg_Cutover, [v104]))) fun y6 => cgP C y6 h fun v105 h1 =>
  oP (pAnd v101 (hbin .gtr 3 v103 v105)) fun v107 =>
  bP v107 (
  oP (hsliceS x0 (some v96) none) fun v110 =>
  cP C n_bytealg_IndexString [v110, x1] h1 fun v112 h2 =>
  oP (hbin .geq 3 v112 (V.int .i64 0)) fun v114 =>
  bP v114 (
  oP (hbin .add 3 v112 v96) fun v117 =>
  Q v117 h2) (
  Q (V.int .i64 (-1)) h2)) (
  oP (oB (oB (h1.get 0) fun _ => some (V.ptr 0 0)) fun g0_ => pLd g0_ h1) fun v119 =>
  oP (hbin .gtr 3 x5 v119) fun v120 =>
  oP (pAnd v120 (oB (some v98) fun v122 => oB (some v96) fun v123 => oB (hbin .shr 3 v123 (V.int .u64 4)) fun v124 => oB (hbin .add 3 (V.int .i64 4) v124) fun v125 => hbin .geq 3 v122 v125)) fun v127 =>
  oP (pAnd v127 (oB (some v96) fun v129 => oB (some x9) fun v130 => hbin .lss 3 v129 v130)) fun v132 =>
  bP v132 (
  oP (hsliceS x0 (some v96) none) fun v135 =>
  cP C n_bytealg_IndexRabinKarp_string [v135, x1] h1 fun v137 h3 =>
  oP (hbin .lss 3 v137 (V.int .i64 0)) fun v139 =>
  bP v139 (
  Q (V.int .i64 (-1)) h3) (
  oP (hbin .add 3 v96 v137) fun v142 =>
  Q v142 h3)) (
  KL0 x0 x1 x5 x6 x7 v96 x9 v98 h1)))
set_option maxRecDepth 100000 in
theorem j_stringslite_Index_R21 {C : Cfg} {Q : V → Hp → Prop} {KL0 : V → V → V → V → V → V → V → V → Hp → Prop} {x0 x1 x5 x6 x7 x8 x9 x10 : V} {h : Hp} (H : B_stringslite_Index_R21 C Q KL0 x0 x1 x5 x6 x7 x8 x9 x10 h) : J_stringslite_Index_R21 C Q KL0 x0 x1 x5 x6 x7 x8 x9 x10 h := by
  intro ρ e0 e1 e5 e6 e7 e8 e9 e10
  subst e0
  subst e1
  subst e5
  subst e6
  subst e7
  subst e8
  subst e9
  subst e10
  unfold B_stringslite_Index_R21 at H
  exact Wp.of (e_stringslite_Index_R21 _ _ _ _) (oSm (oSm (oM H fun v80 _ H => oM H fun v81 _ H => oSm (oM H fun v83 _ H => oSm (thn (and_open H) fun H => sG1 H fun b7 Gv85 v85 Ev85 H => sG1 H fun b8 Gv86 v86 Ev86 H => sG1 H fun b9 Gv87 v87 Ev87 H => sG1 H fun b10 Gv88 v88 Ev88 H => sG1 H fun b11 Gv89 v89 Ev89 H => sG1 H fun b12 Gv90 v90 Ev90 H => sG1 H fun b13 Gv91 v91 Ev91 H => oM H fun b14 Gv92 H => oM H fun v92 Ev92 H => oM H fun v93 Ev93 H => Wp.of (e_stringslite_Index_R23 _ _ _ _) (oSm (bM H (fun H => oSm (oSm (Wp.of (e_stringslite_Index_R27 _ _ _ _) (H)))) (fun H => Wp.of (e_stringslite_Index_R24 _ _ _ _) (oSm (oM H fun v96 _ H => oSm (Wp.of (e_stringslite_Index_R28 _ _ _ _) (oSm (oM H fun v98 _ H => oSm (Wp.of (e_stringslite_Index_R30 _ _ _ _) (oSm (oM H fun v100 _ H => oM H fun v101 _ H => oSm (oM H fun b4 _ H => oM H fun v103 _ H => oM H fun b5 _ H => oM H fun v104 _ H => oM H fun b6 _ H => oM H fun y6 _ H => cgM H fun v105 h1 H => thn (and_open H) fun H => oM H fun b7_1 Gv106 H => oM H fun v106 Ev106 H => oM H fun v107 Ev107 H => Wp.of (e_stringslite_Index_R31 _ _ _ _) (oSm (bM H (fun H => oSm (oSm (oM H fun v110 _ H => oSm (dcM H fun v112 h2 H => oSm (Wp.of (e_stringslite_Index_R32 _ _ _ _) (oSm (oM H fun v114 _ H => Wp.of (e_stringslite_Index_R34 _ _ _ _) (oSm (bM H (fun H => oSm (oSm (oM H fun v117 _ H => oSm (Wp.of (e_stringslite_Index_R37 _ _ _ _) (H))))) (fun H => Wp.of (e_stringslite_Index_R35 _ _ _ _) (oSm (Wp.of (e_stringslite_Index_R38 _ _ _ _) (H))))))))))))) (fun H => oSm (oM H fun v119 _ H => oM H fun v120 _ H => oSm (thn (and_open H) fun H => sG1 H fun b4_1 Gv122 v122 Ev122 H => sG1 H fun b5_1 Gv123 v123 Ev123 H => sG1 H fun b6_1 Gv124 v124 Ev124 H => sG1 H fun b7_2 Gv125 v125 Ev125 H => oM H fun b8_1 Gv126 H => oM H fun v126 Ev126 H => oM H fun v127 Ev127 H => oSm (thn (and_open H) fun H => sG1 H fun b11_1 Gv129 v129 Ev129 H => sG1 H fun b12_1 Gv130 v130 Ev130 H => oM H fun b13_1 Gv131 H => oM H fun v131 Ev131 H => oM H fun v132 Ev132 H => Wp.of (e_stringslite_Index_R33 _ _ _ _) (oSm (bM H (fun H => oSm (oSm (oM H fun v135 _ H => oSm (dcM H fun v137 h3 H => oSm (Wp.of (e_stringslite_Index_R36 _ _ _ _) (oSm (oM H fun v139 _ H => Wp.of (e_stringslite_Index_R39 _ _ _ _) (oSm (bM H (fun H => oSm (Wp.of (e_stringslite_Index_R41 _ _ _ _) (H))) (fun H => Wp.of (e_stringslite_Index_R40 _ _ _ _) (oSm (oSm (oM H fun v142 _ H => oSm (Wp.of (e_stringslite_Index_R42 _ _ _ _) (H))))))))))))))) (fun H => H))))))))))))))))))))))))))
def B_stringslite_Index (C : Cfg) (Q : V → Hp → Prop) (a0 a1 : V) (h : Hp) : Prop :=
  oP (pLenS a1) fun v15 =>
  oP (hbin .eql 3 v15 (V.int .i64 0)) fun v18 =>
  oP (pOr v18 (oB (some a1) fun v20 => oB (some a0) fun v21 => hbin .eql 9 v20 v21)) fun v23 =>
  bP v23 (
  Q (V.int .i64 0) h) (
  oP (hbin .eql 3 v15 (V.int .i64 1)) fun v26 =>
  bP v26 (
  oP (pIdxS a1 (V.int .i64 0)) fun v29 =>
  cP C n_stringslite_IndexByte [a0, v29] h fun v30 h1 =>
  Q v30 h1) (
  oP (pLenS a0) fun v34 =>
  oP (hbin .geq 3 v15 v34) fun v35 =>
  bP v35 (
  Q (V.int .i64 (-1)) h) (
  oP (oB (oB (h.get 0) fun _ => some (V.ptr 0 0)) fun g0_ => pLd g0_ h) fun v38 =>
  oP (hbin .leq 3 v15 v38) fun v39 =>
  oP (pAnd v39 (oB (some a0) fun v41 => oB (pLenS v41) fun v42 => hbin .leq 3 v42 (V.int .i64 64))) fun v44 =>
  bP v44 (
  cP C n_bytealg_IndexString [a0, a1] h fun v47 h2 =>
  Q v47 h2) (
  oP (pIdxS a1 (V.int .i64 0)) fun v49 =>
  oP (pIdxS a1 (V.int .i64 1)) fun v51 =>
  oP (pLenS a0) fun v53 =>
  oP (hbin .sub 3 v53 v15) fun v55 =>
  oP (hbin .add 3 v55 (V.int .i64 1)) fun v56 =>
  J_stringslite_Index_L0 C Q a0 a1 v15 v49 v51 (V.int .i64 0) v56 (V.int .i64 0) h))))
set_option maxRecDepth 100000 in
theorem c_stringslite_Index {C : Cfg} (hs : C.start = startF) {a0 a1 : V} {h : Hp} {Q : V → Hp → Prop} (hk : C.K n_stringslite_Index [a0, a1] h = none) (H : B_stringslite_Index C Q a0 a1 h) : cP C n_stringslite_Index [a0, a1] h Q := by
  unfold B_stringslite_Index at H
  exact f_stringslite_Index hs _ _ hk ((e_stringslite_Index _ _ _ _).mpr (oSm (Wp.of (e_stringslite_Index_R0 _ _ _ _) (oSm (oM H fun v15 _ H => oSm (Wp.of (e_stringslite_Index_R1 _ _ _ _) (oSm (oM H fun v18 _ H => oSm (thn (or_open H) fun H => sG1 H fun b3 Gv20 v20 Ev20 H => sG1 H fun b4 Gv21 v21 Ev21 H => oM H fun b5 Gv22 H => oM H fun v22 Ev22 H => oM H fun v23 Ev23 H => oSm (Wp.of (e_stringslite_Index_R2 _ _ _ _) (oSm (bM H (fun H => oSm (Wp.of (e_stringslite_Index_R4 _ _ _ _) (H))) (fun H => oSm (oM H fun v26 _ H => oSm (Wp.of (e_stringslite_Index_R5 _ _ _ _) (oSm (bM H (fun H => oSm (oSm (oM H fun v29 _ H => dcM H fun v30 h1 H => oSm (Wp.of (e_stringslite_Index_R7 _ _ _ _) (H))))) (fun H => oSm (oSm (oM H fun v34 _ H => oM H fun v35 _ H => oSm (Wp.of (e_stringslite_Index_R8 _ _ _ _) (oSm (bM H (fun H => oSm (Wp.of (e_stringslite_Index_R10 _ _ _ _) (H))) (fun H => oSm (oM H fun v38 _ H => oM H fun v39 _ H => oSm (thn (and_open H) fun H => sG1 H fun b4_1 Gv41 v41 Ev41 H => sG1 H fun b5_1 Gv42 v42 Ev42 H => oM H fun b6 Gv43 H => oM H fun v43 Ev43 H => oM H fun v44 Ev44 H => oSm (Wp.of (e_stringslite_Index_R11 _ _ _ _) (oSm (bM H (fun H => oSm (oSm (dcM H fun v47 h2 H => oSm (Wp.of (e_stringslite_Index_R13 _ _ _ _) (H))))) (fun H => Wp.of (e_stringslite_Index_R3 _ _ _ _) (oSm (oM H fun v49 _ H => oSm (Wp.of (e_stringslite_Index_R6 _ _ _ _) (oSm (oM H fun v51 _ H => oSm (Wp.of (e_stringslite_Index_R9 _ _ _ _) (oSm (Wp.of (e_stringslite_Index_R12 _ _ _ _) (oSm (oM H fun v53 _ H => oSm (oM H fun v55 _ H => oM H fun v56 _ H => oSm (Wp.of (e_stringslite_Index_R14 _ _ _ _) (oSm (Wp.of (e_stringslite_Index_R15 _ _ _ _) (H _ rfl rfl rfl rfl rfl rfl rfl rfl)))))))))))))))))))))))))))))))))))))))))))))
/-! ### internal/stringslite.IndexByte -/
noncomputable def k_stringslite_IndexByte : Code := bodyOf Tryz.f89
noncomputable def k_stringslite_IndexByte_R0 : Code := k_stringslite_IndexByte.r
noncomputable def k_stringslite_IndexByte_R1 : Code := k_stringslite_IndexByte.r.r
set_option maxRecDepth 100000 in
theorem e_stringslite_IndexByte (C : Cfg) (Q : X → Rho → Hp → Prop) (ρ : Rho) (h : Hp) : codeR C 8 k_stringslite_IndexByte Q ρ h = (
  oP (some (V.int .i64 0)) fun v4 =>
  Wp C 8 k_stringslite_IndexByte_R0 Q (rset ρ 4 v4) h) := by kernel_rfl
set_option maxRecDepth 100000 in
theorem e_stringslite_IndexByte_R0 (C : Cfg) (Q : X → Rho → Hp → Prop) (ρ : Rho) (h : Hp) : codeR C 8 k_stringslite_IndexByte_R0 Q ρ h = (
  oP (some (ρ 0)) fun v5 =>
  oP (some (ρ 1)) fun v6 =>
  dcP C n_bytealg_IndexByteString [v5, v6] h fun v7 h1 =>
  oP (some v7) fun v4 =>
  Wp C 8 k_stringslite_IndexByte_R1 Q (rset (rset (rset (rset ρ 5 v5) 6 v6) 7 v7) 4 v4) h1) := by kernel_rfl
set_option maxRecDepth 100000 in
theorem e_stringslite_IndexByte_R1 (C : Cfg) (Q : X → Rho → Hp → Prop) (ρ : Rho) (h : Hp) : codeR C 8 k_stringslite_IndexByte_R1 Q ρ h = (
  Q .ret ρ h) := by kernel_rfl
theorem f_stringslite_IndexByte {C : Cfg} (hs : C.start = startF) (a0 a1 : V) {h : Hp} {Q : V → Hp → Prop} (hk : C.K n_stringslite_IndexByte [a0, a1] h = none) (H : codeR C 8 k_stringslite_IndexByte (bodyQ [.tmp 4] Q) (argsR [a0, a1]) h) : cP C n_stringslite_IndexByte [a0, a1] h Q :=
  cP.funcN hs (show P0.funcs[89]? = some Tryz.f89 by unfold P0; exact Tryz.func89) (by kernel_rfl) (by kernel_rfl) (by kernel_rfl) hk (Nat.le_of_ble_eq_true rfl) (Wp.code _ H)
def B_stringslite_IndexByte (C : Cfg) (Q : V → Hp → Prop) (a0 a1 : V) (h : Hp) : Prop :=
  cP C n_bytealg_IndexByteString [a0, a1] h fun v7 h1 =>
  Q v7 h1
set_option maxRecDepth 100000 in
theorem c_stringslite_IndexByte {C : Cfg} (hs : C.start = startF) {a0 a1 : V} {h : Hp} {Q : V → Hp → Prop} (hk : C.K n_stringslite_IndexByte [a0, a1] h = none) (H : B_stringslite_IndexByte C Q a0 a1 h) : cP C n_stringslite_IndexByte [a0, a1] h Q := by
  unfold B_stringslite_IndexByte at H
  exact f_stringslite_IndexByte hs _ _ hk ((e_stringslite_IndexByte _ _ _ _).mpr (oSm (Wp.of (e_stringslite_IndexByte_R0 _ _ _ _) (oSm (oSm (dcM H fun v7 h1 H => oSm (Wp.of (e_stringslite_IndexByte_R1 _ _ _ _) (H))))))))
end Go.Proofs.YtdpfhajggknfaaaGreatDoor.Hx
