/- What is left of the code of functions: printed by vc2.py, checked by computation. -/
import Derived.Test.YtdpfhajggknfaaaGreatDoorHxVA
namespace Go.Proofs.YtdpfhajggknfaaaGreatDoor.Hx
/-! ### turnstone/turnstoneref10.Digits -/
noncomputable def k_turnstoneref10_Digits : Code := bodyOf Tryz.f30
noncomputable def k_turnstoneref10_Digits_R0 : Code := k_turnstoneref10_Digits.r
noncomputable def k_turnstoneref10_Digits_R1 : Code := k_turnstoneref10_Digits.r.l.r
noncomputable def k_turnstoneref10_Digits_R2 : Code := k_turnstoneref10_Digits.r.r
noncomputable def q_turnstoneref10_Digits_0 (C : Cfg) (Q : X → Rho → Hp → Prop) : X → Rho → Hp → Prop := andThen (Wp C 11 k_turnstoneref10_Digits_R2 Q) Q
theorem q_turnstoneref10_Digits_0_normal (C : Cfg) (Q : X → Rho → Hp → Prop) (ρ : Rho) (h : Hp) : q_turnstoneref10_Digits_0 C Q .normal ρ h = Wp C 11 k_turnstoneref10_Digits_R2 Q ρ h := rfl
theorem q_turnstoneref10_Digits_0_ret (C : Cfg) (Q : X → Rho → Hp → Prop) (ρ : Rho) (h : Hp) : q_turnstoneref10_Digits_0 C Q .ret ρ h = Q .ret ρ h := rfl
noncomputable def k_turnstoneref10_Digits_R3 : Code := k_turnstoneref10_Digits.r.l.r.l.r
noncomputable def k_turnstoneref10_Digits_R4 : Code := k_turnstoneref10_Digits.r.r.r
set_option maxRecDepth 100000 in
theorem e_turnstoneref10_Digits (C : Cfg) (Q : X → Rho → Hp → Prop) (ρ : Rho) (h : Hp) : codeR C 11 k_turnstoneref10_Digits Q ρ h = (
  oP (some (V.str [])) fun v2 =>
  Wp C 11 k_turnstoneref10_Digits_R0 Q (rset ρ 2 v2) h) := by kernel_rfl
set_option maxRecDepth 100000 in
theorem e_turnstoneref10_Digits_R0 (C : Cfg) (Q : X → Rho → Hp → Prop) (ρ : Rho) (h : Hp) : codeR C 11 k_turnstoneref10_Digits_R0 Q ρ h = (
  oP (some (ρ 0)) fun v3 =>
  oP (hbin .lss 2 v3 (V.int .i64 0)) fun v4 =>
  Wp C 11 k_turnstoneref10_Digits_R1 (q_turnstoneref10_Digits_0 C Q) (rset (rset ρ 3 v3) 4 v4) h) := by kernel_rfl
set_option maxRecDepth 100000 in
theorem e_turnstoneref10_Digits_R2 (C : Cfg) (Q : X → Rho → Hp → Prop) (ρ : Rho) (h : Hp) : codeR C 11 k_turnstoneref10_Digits_R2 Q ρ h = (
  oP (some (ρ 0)) fun v8 =>
  oP (hun .neg v8) fun v9 =>
  dcP C n_turnstoneref10_below [v9] h fun v10 h1 =>
  oP (some v10) fun v2 =>
  Wp C 11 k_turnstoneref10_Digits_R4 Q (rset (rset (rset (rset ρ 8 v8) 9 v9) 10 v10) 2 v2) h1) := by kernel_rfl
set_option maxRecDepth 100000 in
theorem e_turnstoneref10_Digits_R1 (C : Cfg) (Q : X → Rho → Hp → Prop) (ρ : Rho) (h : Hp) : codeR C 11 k_turnstoneref10_Digits_R1 Q ρ h = (
  oP (some (ρ 4)) fun c =>
  bP c (
    oP (some (ρ 0)) fun v5 =>
    dcP C n_turnstoneref10_below [v5] h fun v6 h1 =>
    oP (hbin .add 9 (V.str [45]) v6) fun v7 =>
    oP (some v7) fun v2 =>
    Wp C 11 k_turnstoneref10_Digits_R3 Q (rset (rset (rset (rset ρ 5 v5) 6 v6) 7 v7) 2 v2) h1) (
    Q .normal ρ h)) := by kernel_rfl
set_option maxRecDepth 100000 in
theorem e_turnstoneref10_Digits_R4 (C : Cfg) (Q : X → Rho → Hp → Prop) (ρ : Rho) (h : Hp) : codeR C 11 k_turnstoneref10_Digits_R4 Q ρ h = (
  Q .ret ρ h) := by kernel_rfl
set_option maxRecDepth 100000 in
theorem e_turnstoneref10_Digits_R3 (C : Cfg) (Q : X → Rho → Hp → Prop) (ρ : Rho) (h : Hp) : codeR C 11 k_turnstoneref10_Digits_R3 Q ρ h = (
  Q .ret ρ h) := by kernel_rfl
theorem f_turnstoneref10_Digits {C : Cfg} (hs : C.start = startF) (a0 : V) {h : Hp} {Q : V → Hp → Prop} (hk : C.K n_turnstoneref10_Digits [a0] h = none) (H : codeR C 11 k_turnstoneref10_Digits (bodyQ [.tmp 2] Q) (argsR [a0]) h) : cP C n_turnstoneref10_Digits [a0] h Q :=
  cP.funcN hs (show P0.funcs[30]? = some Tryz.f30 by unfold P0; exact Tryz.func30) (by kernel_rfl) (by kernel_rfl) (by kernel_rfl) hk (Nat.le_of_ble_eq_true rfl) (Wp.code _ H)
def B_turnstoneref10_Digits (C : Cfg) (Q : V → Hp → Prop) (a0 : V) (h : Hp) : Prop :=
  oP (hbin .lss 2 a0 (V.int .i64 0)) fun v4 =>
  bP v4 (
  cP C n_turnstoneref10_below [a0] h fun v6 h1 =>
  oP (hbin .add 9 (V.str [45]) v6) fun v7 =>
  Q v7 h1) (
  oP (hun .neg a0) fun v9 =>
  cP C n_turnstoneref10_below [v9] h fun v10 h2 =>
  Q v10 h2)
set_option maxRecDepth 100000 in
theorem c_turnstoneref10_Digits {C : Cfg} (hs : C.start = startF) {a0 : V} {h : Hp} {Q : V → Hp → Prop} (hk : C.K n_turnstoneref10_Digits [a0] h = none) (H : B_turnstoneref10_Digits C Q a0 h) : cP C n_turnstoneref10_Digits [a0] h Q := by
  unfold B_turnstoneref10_Digits at H
  exact f_turnstoneref10_Digits hs _ hk ((e_turnstoneref10_Digits _ _ _ _).mpr (oSm (Wp.of (e_turnstoneref10_Digits_R0 _ _ _ _) (oSm (oM H fun v4 _ H => Wp.of (e_turnstoneref10_Digits_R1 _ _ _ _) (oSm (bM H (fun H => oSm (dcM H fun v6 h1 H => oM H fun v7 _ H => oSm (Wp.of (e_turnstoneref10_Digits_R3 _ _ _ _) (H)))) (fun H => Wp.of (e_turnstoneref10_Digits_R2 _ _ _ _) (oSm (oM H fun v9 _ H => dcM H fun v10 h2 H => oSm (Wp.of (e_turnstoneref10_Digits_R4 _ _ _ _) (H))))))))))))
/-! ### turnstone/turnstoneref10.below -/
noncomputable def k_turnstoneref10_below : Code := bodyOf Tryz.f45
noncomputable def k_turnstoneref10_below_R0 : Code := k_turnstoneref10_below.r
noncomputable def k_turnstoneref10_below_R1 : Code := k_turnstoneref10_below.r.l.r
noncomputable def k_turnstoneref10_below_R2 : Code := k_turnstoneref10_below.r.r
noncomputable def q_turnstoneref10_below_0 (C : Cfg) (Q : X → Rho → Hp → Prop) : X → Rho → Hp → Prop := andThen (Wp C 20 k_turnstoneref10_below_R2 Q) Q
theorem q_turnstoneref10_below_0_normal (C : Cfg) (Q : X → Rho → Hp → Prop) (ρ : Rho) (h : Hp) : q_turnstoneref10_below_0 C Q .normal ρ h = Wp C 20 k_turnstoneref10_below_R2 Q ρ h := rfl
theorem q_turnstoneref10_below_0_ret (C : Cfg) (Q : X → Rho → Hp → Prop) (ρ : Rho) (h : Hp) : q_turnstoneref10_below_0 C Q .ret ρ h = Q .ret ρ h := rfl
noncomputable def k_turnstoneref10_below_R3 : Code := k_turnstoneref10_below.r.l.r.l.r
noncomputable def k_turnstoneref10_below_R4 : Code := k_turnstoneref10_below.r.r.r
set_option maxRecDepth 100000 in
theorem e_turnstoneref10_below (C : Cfg) (Q : X → Rho → Hp → Prop) (ρ : Rho) (h : Hp) : codeR C 20 k_turnstoneref10_below Q ρ h = (
  oP (some (V.str [])) fun v2 =>
  Wp C 20 k_turnstoneref10_below_R0 Q (rset ρ 2 v2) h) := by kernel_rfl
set_option maxRecDepth 100000 in
theorem e_turnstoneref10_below_R0 (C : Cfg) (Q : X → Rho → Hp → Prop) (ρ : Rho) (h : Hp) : codeR C 20 k_turnstoneref10_below_R0 Q ρ h = (
  oP (some (ρ 0)) fun v3 =>
  oP (hbin .gtr 2 v3 (V.int .i64 (-10))) fun v4 =>
  Wp C 20 k_turnstoneref10_below_R1 (q_turnstoneref10_below_0 C Q) (rset (rset ρ 3 v3) 4 v4) h) := by kernel_rfl
set_option maxRecDepth 100000 in
theorem e_turnstoneref10_below_R2 (C : Cfg) (Q : X → Rho → Hp → Prop) (ρ : Rho) (h : Hp) : codeR C 20 k_turnstoneref10_below_R2 Q ρ h = (
  oP (some (ρ 0)) fun v10 =>
  oP (hbin .quo 2 v10 (V.int .i64 10)) fun v11 =>
  oP (some (ρ 0)) fun v13 =>
  oP (hbin .rem 2 v13 (V.int .i64 10)) fun v14 =>
  oP (hbin .sub 2 (V.int .i64 48) v14) fun v15 =>
  oP (pConv .u8 v15) fun v16 =>
  alO (pBS 5 1 1 (V.int .u8 0) [(0, v16)]) h fun o7 v17 h1 =>
  oP (pB2S v17 h1) fun v18 =>
  ((pB2S v17 h1 = some v18) ∧ 
  ((h1.get (h.next) = some o7 ∧ O.beq o7 o7 = true) ∧ 
  ((pConv .u8 v15 = some v16) ∧ 
  ((hbin .sub 2 (V.int .i64 48) v14 = some v15) ∧ 
  ((hbin .rem 2 v13 (V.int .i64 10) = some v14) ∧ 
  ((some (ρ 0) = some v13) ∧ 
  ((hbin .quo 2 v10 (V.int .i64 10) = some v11) ∧ 
  ((some (ρ 0) = some v10) ∧ 
  dcP C n_turnstoneref10_below [v11] h1 fun v12 h2 =>
  (h1.next ≤ h2.next ∧
  oP (hbin .add 9 v12 v18) fun v19 =>
  oP (some v19) fun v2 =>
  ((some v19 = some v2) ∧ 
  ((hbin .add 9 v12 v18 = some v19) ∧ 
  ((pB2S v17 h2 = some v18) ∧ 
  ((h2.get (h.next) = some o7 ∧ O.beq o7 o7 = true) ∧ 
  ((pConv .u8 v15 = some v16) ∧ 
  ((hbin .sub 2 (V.int .i64 48) v14 = some v15) ∧ 
  ((hbin .rem 2 v13 (V.int .i64 10) = some v14) ∧ 
  ((some (ρ 0) = some v13) ∧ 
  Wp C 20 k_turnstoneref10_below_R4 Q (rset (rset (rset (rset (rset (rset (rset (rset (rset (rset (rset ρ 10 v10) 11 v11) 13 v13) 14 v14) 15 v15) 16 v16) 17 v17) 18 v18) 12 v12) 19 v19) 2 v2) h2)))))))))))))))))) := by kernel_rfl
set_option maxRecDepth 100000 in
theorem e_turnstoneref10_below_R1 (C : Cfg) (Q : X → Rho → Hp → Prop) (ρ : Rho) (h : Hp) : codeR C 20 k_turnstoneref10_below_R1 Q ρ h = (
  oP (some (ρ 4)) fun c =>
  bP c (
    oP (some (ρ 0)) fun v5 =>
    oP (hbin .sub 2 (V.int .i64 48) v5) fun v6 =>
    oP (pConv .u8 v6) fun v7 =>
    alP (pBS 5 1 1 (V.int .u8 0) [(0, v7)]) h fun v8 h1 =>
    oP (pB2S v8 h1) fun v9 =>
    oP (some v9) fun v2 =>
    Wp C 20 k_turnstoneref10_below_R3 Q (rset (rset (rset (rset (rset (rset ρ 5 v5) 6 v6) 7 v7) 8 v8) 9 v9) 2 v2) h1) (
    Q .normal ρ h)) := by kernel_rfl
set_option maxRecDepth 100000 in
theorem e_turnstoneref10_below_R4 (C : Cfg) (Q : X → Rho → Hp → Prop) (ρ : Rho) (h : Hp) : codeR C 20 k_turnstoneref10_below_R4 Q ρ h = (
  Q .ret ρ h) := by kernel_rfl
set_option maxRecDepth 100000 in
theorem e_turnstoneref10_below_R3 (C : Cfg) (Q : X → Rho → Hp → Prop) (ρ : Rho) (h : Hp) : codeR C 20 k_turnstoneref10_below_R3 Q ρ h = (
  Q .ret ρ h) := by kernel_rfl
theorem f_turnstoneref10_below {C : Cfg} (hs : C.start = startF) (a0 : V) {h : Hp} {Q : V → Hp → Prop} (hk : C.K n_turnstoneref10_below [a0] h = none) (H : codeR C 20 k_turnstoneref10_below (bodyQ [.tmp 2] Q) (argsR [a0]) h) : cP C n_turnstoneref10_below [a0] h Q :=
  cP.funcN hs (show P0.funcs[45]? = some Tryz.f45 by unfold P0; exact Tryz.func45) (by kernel_rfl) (by kernel_rfl) (by kernel_rfl) hk (Nat.le_of_ble_eq_true rfl) (Wp.code _ H)
def B_turnstoneref10_below (C : Cfg) (Q : V → Hp → Prop) (a0 : V) (h : Hp) : Prop :=
  oP (hbin .gtr 2 a0 (V.int .i64 (-10))) fun v4 =>
  bP v4 (
  oP (hbin .sub 2 (V.int .i64 48) a0) fun v6 =>
  oP (pConv .u8 v6) fun v7 =>
  alP (pBS 5 1 1 (V.int .u8 0) [(0, v7)]) h fun v8 h1 =>
  oP (pB2S v8 h1) fun v9 =>
  Q v9 h1) (
  oP (hbin .quo 2 a0 (V.int .i64 10)) fun v11 =>
  oP (hbin .rem 2 a0 (V.int .i64 10)) fun v14 =>
  oP (hbin .sub 2 (V.int .i64 48) v14) fun v15 =>
  oP (pConv .u8 v15) fun v16 =>
  alO (pBS 5 1 1 (V.int .u8 0) [(0, v16)]) h fun o7 v17 h2 =>
  oP (pB2S v17 h2) fun v18 =>
  ((h2.get (h.next) = some o7 ∧ O.beq o7 o7 = true) ∧ 
  cP C n_turnstoneref10_below [v11] h2 fun v12 h3 =>
  (h2.next ≤ h3.next ∧
  oP (hbin .add 9 v12 v18) fun v19 =>
  ((pB2S v17 h3 = some v18) ∧ 
  ((h3.get (h.next) = some o7 ∧ O.beq o7 o7 = true) ∧ 
  Q v19 h3)))))
set_option maxRecDepth 100000 in
theorem c_turnstoneref10_below {C : Cfg} (hs : C.start = startF) {a0 : V} {h : Hp} {Q : V → Hp → Prop} (hk : C.K n_turnstoneref10_below [a0] h = none) (H : B_turnstoneref10_below C Q a0 h) : cP C n_turnstoneref10_below [a0] h Q := by
  unfold B_turnstoneref10_below at H
  exact f_turnstoneref10_below hs _ hk ((e_turnstoneref10_below _ _ _ _).mpr (oSm (Wp.of (e_turnstoneref10_below_R0 _ _ _ _) (oSm (oM H fun v4 _ H => Wp.of (e_turnstoneref10_below_R1 _ _ _ _) (oSm (bM H (fun H => oSm (oM H fun v6 _ H => oM H fun v7 _ H => alM H fun v8 h1 H => oM H fun v9 _ H => oSm (Wp.of (e_turnstoneref10_below_R3 _ _ _ _) (H)))) (fun H => Wp.of (e_turnstoneref10_below_R2 _ _ _ _) (oSm (oM H fun v11 Ev11 H => oSm (oM H fun v14 Ev14 H => oM H fun v15 Ev15 H => oM H fun v16 Ev16 H => alOM H fun o7 v17 h2 H => oM H fun v18 Ev18 H => ⟨Ev18, anM H fun H => ⟨Ev16, ⟨Ev15, ⟨Ev14, ⟨rfl, ⟨Ev11, ⟨rfl, dcM H fun v12 h3 H => anM H fun H => oM H fun v19 Ev19 H => oSm (⟨rfl, ⟨Ev19, anM H fun H => anM H fun H => ⟨Ev16, ⟨Ev15, ⟨Ev14, ⟨rfl, Wp.of (e_turnstoneref10_below_R4 _ _ _ _) (H)⟩⟩⟩⟩⟩⟩)⟩⟩⟩⟩⟩⟩⟩)))))))))))
/-! ### turnstone/turnstonehand.Pick -/
noncomputable def k_turnstonehand_Pick : Code := bodyOf Tryz.f13
noncomputable def k_turnstonehand_Pick_R0 : Code := k_turnstonehand_Pick.r
noncomputable def k_turnstonehand_Pick_R1 : Code := k_turnstonehand_Pick.r.r
noncomputable def k_turnstonehand_Pick_R2 : Code := k_turnstonehand_Pick.r.r.l.r
noncomputable def k_turnstonehand_Pick_R3 : Code := k_turnstonehand_Pick.r.r.r
noncomputable def q_turnstonehand_Pick_0 (C : Cfg) (Q : X → Rho → Hp → Prop) : X → Rho → Hp → Prop := andThen (Wp C 14 k_turnstonehand_Pick_R3 Q) Q
theorem q_turnstonehand_Pick_0_normal (C : Cfg) (Q : X → Rho → Hp → Prop) (ρ : Rho) (h : Hp) : q_turnstonehand_Pick_0 C Q .normal ρ h = Wp C 14 k_turnstonehand_Pick_R3 Q ρ h := rfl
theorem q_turnstonehand_Pick_0_ret (C : Cfg) (Q : X → Rho → Hp → Prop) (ρ : Rho) (h : Hp) : q_turnstonehand_Pick_0 C Q .ret ρ h = Q .ret ρ h := rfl
noncomputable def k_turnstonehand_Pick_R4 : Code := k_turnstonehand_Pick.r.r.r.r
set_option maxRecDepth 100000 in
theorem e_turnstonehand_Pick (C : Cfg) (Q : X → Rho → Hp → Prop) (ρ : Rho) (h : Hp) : codeR C 14 k_turnstonehand_Pick Q ρ h = (
  oP (some (V.int .i64 0)) fun v4 =>
  Wp C 14 k_turnstonehand_Pick_R0 Q (rset ρ 4 v4) h) := by kernel_rfl
set_option maxRecDepth 100000 in
theorem e_turnstonehand_Pick_R0 (C : Cfg) (Q : X → Rho → Hp → Prop) (ρ : Rho) (h : Hp) : codeR C 14 k_turnstonehand_Pick_R0 Q ρ h = (
  oP (some (ρ 0)) fun v5 =>
  oP (some (ρ 1)) fun v6 =>
  oP (hbin .rem 3 v5 v6) fun v7 =>
  oP (some v7) fun v0 =>
  Wp C 14 k_turnstonehand_Pick_R1 Q (rset (rset (rset (rset ρ 5 v5) 6 v6) 7 v7) 0 v0) h) := by kernel_rfl
set_option maxRecDepth 100000 in
theorem e_turnstonehand_Pick_R1 (C : Cfg) (Q : X → Rho → Hp → Prop) (ρ : Rho) (h : Hp) : codeR C 14 k_turnstonehand_Pick_R1 Q ρ h = (
  oP (some (ρ 0)) fun v8 =>
  oP (hbin .lss 3 v8 (V.int .i64 0)) fun v9 =>
  Wp C 14 k_turnstonehand_Pick_R2 (q_turnstonehand_Pick_0 C Q) (rset (rset ρ 8 v8) 9 v9) h) := by kernel_rfl
set_option maxRecDepth 100000 in
theorem e_turnstonehand_Pick_R3 (C : Cfg) (Q : X → Rho → Hp → Prop) (ρ : Rho) (h : Hp) : codeR C 14 k_turnstonehand_Pick_R3 Q ρ h = (
  oP (some (ρ 0)) fun v13 =>
  oP (some v13) fun v4 =>
  Wp C 14 k_turnstonehand_Pick_R4 Q (rset (rset ρ 13 v13) 4 v4) h) := by kernel_rfl
set_option maxRecDepth 100000 in
theorem e_turnstonehand_Pick_R2 (C : Cfg) (Q : X → Rho → Hp → Prop) (ρ : Rho) (h : Hp) : codeR C 14 k_turnstonehand_Pick_R2 Q ρ h = (
  oP (some (ρ 9)) fun c =>
  bP c (
    oP (some (ρ 0)) fun v10 =>
    oP (some (ρ 1)) fun v11 =>
    oP (hbin .add 3 v10 v11) fun v12 =>
    oP (some v12) fun v0 =>
    Q .normal (rset (rset (rset (rset ρ 10 v10) 11 v11) 12 v12) 0 v0) h) (
    Q .normal ρ h)) := by kernel_rfl
set_option maxRecDepth 100000 in
theorem e_turnstonehand_Pick_R4 (C : Cfg) (Q : X → Rho → Hp → Prop) (ρ : Rho) (h : Hp) : codeR C 14 k_turnstonehand_Pick_R4 Q ρ h = (
  Q .ret ρ h) := by kernel_rfl
theorem f_turnstonehand_Pick {C : Cfg} (hs : C.start = startF) (a0 a1 : V) {h : Hp} {Q : V → Hp → Prop} (hk : C.K n_turnstonehand_Pick [a0, a1] h = none) (H : codeR C 14 k_turnstonehand_Pick (bodyQ [.tmp 4] Q) (argsR [a0, a1]) h) : cP C n_turnstonehand_Pick [a0, a1] h Q :=
  cP.funcN hs (show P0.funcs[13]? = some Tryz.f13 by unfold P0; exact Tryz.func13) (by kernel_rfl) (by kernel_rfl) (by kernel_rfl) hk (Nat.le_of_ble_eq_true rfl) (Wp.code _ H)
def J_turnstonehand_Pick_R3 (C : Cfg) (Q : V → Hp → Prop) (x0 : V) (h : Hp) : Prop := ∀ ρ : Rho, ρ 0 = x0 → Wp C 14 k_turnstonehand_Pick_R3 (bodyQ [.tmp 4] Q) ρ h
def B_turnstonehand_Pick_R3 (C : Cfg) (Q : V → Hp → Prop) (x0 : V) (h : Hp) : Prop :=
  Q x0 h
set_option maxRecDepth 100000 in
theorem j_turnstonehand_Pick_R3 {C : Cfg} {Q : V → Hp → Prop} {x0 : V} {h : Hp} (H : B_turnstonehand_Pick_R3 C Q x0 h) : J_turnstonehand_Pick_R3 C Q x0 h := by
  intro ρ e0
  subst e0
  unfold B_turnstonehand_Pick_R3 at H
  exact Wp.of (e_turnstonehand_Pick_R3 _ _ _ _) (oSm (oSm (Wp.of (e_turnstonehand_Pick_R4 _ _ _ _) (H))))
def B_turnstonehand_Pick (C : Cfg) (Q : V → Hp → Prop) (a0 a1 : V) (h : Hp) : Prop :=
  oP (hbin .rem 3 a0 a1) fun v7 =>
  oP (hbin .lss 3 v7 (V.int .i64 0)) fun v9 =>
  bP v9 (
  oP (hbin .add 3 v7 a1) fun v12 =>
  J_turnstonehand_Pick_R3 C Q v12 h) (
  J_turnstonehand_Pick_R3 C Q v7 h)
set_option maxRecDepth 100000 in
theorem c_turnstonehand_Pick {C : Cfg} (hs : C.start = startF) {a0 a1 : V} {h : Hp} {Q : V → Hp → Prop} (hk : C.K n_turnstonehand_Pick [a0, a1] h = none) (H : B_turnstonehand_Pick C Q a0 a1 h) : cP C n_turnstonehand_Pick [a0, a1] h Q := by
  unfold B_turnstonehand_Pick at H
  exact f_turnstonehand_Pick hs _ _ hk ((e_turnstonehand_Pick _ _ _ _).mpr (oSm (Wp.of (e_turnstonehand_Pick_R0 _ _ _ _) (oSm (oSm (oM H fun v7 _ H => oSm (Wp.of (e_turnstonehand_Pick_R1 _ _ _ _) (oSm (oM H fun v9 _ H => Wp.of (e_turnstonehand_Pick_R2 _ _ _ _) (oSm (bM H (fun H => oSm (oSm (oM H fun v12 _ H => oSm (H _ rfl)))) (fun H => H _ rfl))))))))))))
end Go.Proofs.YtdpfhajggknfaaaGreatDoor.Hx
