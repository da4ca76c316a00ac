/- What is left of the code of functions, opened in one piece: printed by vc3.py, checked by computation. -/
import Derived.Test.YtlbdcjnhlkkfeaaGreatDoorHxVA
namespace Go.Proofs.YtlbdcjnhlkkfeaaGreatDoor.Hx
set_option maxRecDepth 100000
noncomputable section
/-! ### strings.Split -/
def t25 : List (Nat × List Nat) := []
def B_strings_Split (C : Cfg) (Q : V → Hp → Prop) (a0 a1 : V) (h : Hp) : Prop :=
 cP C n_strings_genSplit [a0, a1, (V.int .i64 0), (V.int .i64 (-1))] h fun v7 h1 =>
 Q v7 h1
theorem c_strings_Split {C : Cfg} (hs : C.start = startF) {a0 a1 : V} {h : Hp} {Q : V → Hp → Prop} (hk : C.K n_strings_Split [a0, a1] h = none) (H : B_strings_Split C Q a0 a1 h) : cP C n_strings_Split [a0, a1] h Q :=
 cP.vc (tb := t25) hs (by unfold P0; exact Tryz.func25) (by kernel_rfl) hk (by kernel_rfl) (by kernel_rfl) H
/-! ### strings.genSplit -/
def t52 : List (Nat × List Nat) := [(62, [0, 1, 2, 3]), (2559, [0, 1, 2, 3, 9, 10]), (2046, [0, 9, 10])]
def J_strings_genSplit_R8 (C : Cfg) (Q : V → Hp → Prop) : LP := JV C Tryz.f52 t52 31 [0, 1, 2, 3] [] Q
def J_strings_genSplit_L0 (C : Cfg) (Q : V → Hp → Prop) : LP := JV C Tryz.f52 t52 1279 [0, 1, 2, 3, 9, 10] [] Q
def J_strings_genSplit_R13 (C : Cfg) (Q : V → Hp → Prop) : LP := JV C Tryz.f52 t52 1023 [0, 9, 10] [] Q
def B_strings_genSplit_R8 (C : Cfg) (Q : V → Hp → Prop) (x0 x1 x2 x3 : V) (h : Hp) : Prop :=
 oP (pLenS x0) fun v27 =>
 oP (hbin .add 3 v27 (V.int .i64 1)) fun v28 =>
 oP (hmin false x3 [v28]) fun v29 =>
 alP (hmakeSlice 9 1 16 (V.str []) v29 v29) h fun v31 h1 =>
 oP (hbin .sub 3 v29 (V.int .i64 1)) fun v33 =>
 J_strings_genSplit_L0 C Q [x0, x1, x2, v33, v31, (V.int .i64 0)] h1
theorem j_strings_genSplit_R8 {C : Cfg} {Q : V → Hp → Prop} {x0 x1 x2 x3 : V} {h : Hp} (H : B_strings_genSplit_R8 C Q x0 x1 x2 x3 h) : J_strings_genSplit_R8 C Q [x0, x1, x2, x3] h := JV.mk 4 (B_strings_genSplit_R8 C Q) (fun _ _ => by kernel_rfl) rfl H
def B_strings_genSplit_L0 (C : Cfg) (Q : V → Hp → Prop) (KL0 : LP) (x0 x1 x2 x3 x9 x10 : V) (h : Hp) : Prop :=
 oP (hbin .lss 3 x10 x3) fun v36 =>
 bP v36 (
 cP C n_strings_Index [x0, x1] h fun v39 h1 =>
 oP (hbin .lss 3 v39 (V.int .i64 0)) fun v41 =>
 bP v41 (
 J_strings_genSplit_R13 C Q [x0, x9, x10] h1) (
 oP (hbin .add 3 v39 x2) fun v47 =>
 oP (hsliceS x0 none (some v47)) fun v48 =>
 oP (pIx 1 x9 x10) fun v49 =>
 valP (pSt 1 v49 v48 h1) fun vu h2 =>
 oP (pLenS x1) fun v53 =>
 oP (hbin .add 3 v39 v53) fun v54 =>
 oP (hsliceS x0 (some v54) none) fun v55 =>
 oP (hbin .add 3 x10 (V.int .i64 1)) fun v57 =>
 KL0 [v55, x1, x2, x3, x9, v57] h2)) (
 J_strings_genSplit_R13 C Q [x0, x9, x10] h)
theorem l_strings_genSplit_L0 {C : Cfg} {Q : V → Hp → Prop} (I : Nat → LP) (step : ∀ (k : Nat) (x0 x1 x2 x3 x9 x10 : V) (h : Hp), I k [x0, x1, x2, x3, x9, x10] h → B_strings_genSplit_L0 C Q (ltI I k) x0 x1 x2 x3 x9 x10 h) {k : Nat} {x0 x1 x2 x3 x9 x10 : V} {h : Hp} (h0 : I k [x0, x1, x2, x3, x9, x10] h) : J_strings_genSplit_L0 C Q [x0, x1, x2, x3, x9, x10] h := JV.loop 6 I (B_strings_genSplit_L0 C Q) (by kernel_rfl) (by kernel_rfl) (fun _ _ _ => by kernel_rfl) (fun k l h hl hi => match l, hl, hi with
 | [x0, x1, x2, x3, x9, x10], _, hi => step k _ _ _ _ _ _ h hi) rfl rfl h0
def B_strings_genSplit_R13 (C : Cfg) (Q : V → Hp → Prop) (x0 x9 x10 : V) (h : Hp) : Prop :=
 oP (pIx 1 x9 x10) fun v61 =>
 valP (pSt 1 v61 x0 h) fun vu h1 =>
 oP (hbin .add 3 x10 (V.int .i64 1)) fun v64 =>
 oP (hsliceV 1 x9 none (some v64) h1) fun v65 =>
 Q v65 h1
theorem j_strings_genSplit_R13 {C : Cfg} {Q : V → Hp → Prop} {x0 x9 x10 : V} {h : Hp} (H : B_strings_genSplit_R13 C Q x0 x9 x10 h) : J_strings_genSplit_R13 C Q [x0, x9, x10] h := JV.mk 3 (B_strings_genSplit_R13 C Q) (fun _ _ => by kernel_rfl) rfl H
def B_strings_genSplit (C : Cfg) (Q : V → Hp → Prop) (a0 a1 a2 a3 : V) (h : Hp) : Prop :=
 oP (hbin .eql 3 a3 (V.int .i64 0)) fun v13 =>
 bP v13 (
 Q V.nilSlice h) (
 oP (hbin .eql 9 a1 (V.str [])) fun v15 =>
 bP v15 (
 cP C n_strings_explode [a0, a3] h fun v18 h1 =>
 Q v18 h1) (
 oP (hbin .lss 3 a3 (V.int .i64 0)) fun v20 =>
 bP v20 (
 cP C n_strings_Count [a0, a1] h fun v23 h2 =>
 oP (hbin .add 3 v23 (V.int .i64 1)) fun v24 =>
 J_strings_genSplit_R8 C Q [a0, a1, a2, v24] h2) (
 J_strings_genSplit_R8 C Q [a0, a1, a2, a3] h)))
theorem c_strings_genSplit {C : Cfg} (hs : C.start = startF) {a0 a1 a2 a3 : V} {h : Hp} {Q : V → Hp → Prop} (hk : C.K n_strings_genSplit [a0, a1, a2, a3] h = none) (H : B_strings_genSplit C Q a0 a1 a2 a3 h) : cP C n_strings_genSplit [a0, a1, a2, a3] h Q :=
 cP.vc (tb := t52) hs (by unfold P0; exact Tryz.func52) (by kernel_rfl) hk (by kernel_rfl) (by kernel_rfl) H
/-! ### strings.Count -/
def t118 : List (Nat × List Nat) := [(95, [0, 1, 5])]
def J_strings_Count_L0 (C : Cfg) (Q : V → Hp → Prop) : LP := JV C Tryz.f118 t118 47 [0, 1, 5] [] Q
def B_strings_Count_L0 (C : Cfg) (Q : V → Hp → Prop) (KL0 : LP) (x0 x1 x5 : V) (h : Hp) : Prop :=
 cP C n_strings_Index [x0, x1] h fun v22 h1 =>
 oP (hbin .eql 3 v22 (V.int .i64 (-1))) fun v24 =>
 bP v24 (
 Q x5 h1) (
 oP (hbin .add 3 x5 (V.int .i64 1)) fun v27 =>
 oP (pLenS x1) fun v31 =>
 oP (hbin .add 3 v22 v31) fun v32 =>
 oP (hsliceS x0 (some v32) none) fun v33 =>
 KL0 [v33, x1, v27] h1)
theorem l_strings_Count_L0 {C : Cfg} {Q : V → Hp → Prop} (I : Nat → LP) (step : ∀ (k : Nat) (x0 x1 x5 : V) (h : Hp), I k [x0, x1, x5] h → B_strings_Count_L0 C Q (ltI I k) x0 x1 x5 h) {k : Nat} {x0 x1 x5 : V} {h : Hp} (h0 : I k [x0, x1, x5] h) : J_strings_Count_L0 C Q [x0, x1, x5] h := JV.loop 3 I (B_strings_Count_L0 C Q) (by kernel_rfl) (by kernel_rfl) (fun _ _ _ => by kernel_rfl) (fun k l h hl hi => match l, hl, hi with
 | [x0, x1, x5], _, hi => step k _ _ _ h hi) rfl rfl h0
def B_strings_Count (C : Cfg) (Q : V → Hp → Prop) (a0 a1 : V) (h : Hp) : Prop :=
 oP (pLenS a1) fun v8 =>
 oP (hbin .eql 3 v8 (V.int .i64 0)) fun v9 =>
 bP v9 (
 cP C n_utf8_RuneCountInString [a0] h fun v11 h1 =>
 oP (hbin .add 3 v11 (V.int .i64 1)) fun v12 =>
 Q v12 h1) (
 oP (pLenS a1) fun v14 =>
 oP (hbin .eql 3 v14 (V.int .i64 1)) fun v15 =>
 bP v15 (
 oP (pIdxS a1 (V.int .i64 0)) fun v18 =>
 cP C n_bytealg_CountString [a0, v18] h fun v19 h2 =>
 Q v19 h2) (
 J_strings_Count_L0 C Q [a0, a1, (V.int .i64 0)] h))
theorem c_strings_Count {C : Cfg} (hs : C.start = startF) {a0 a1 : V} {h : Hp} {Q : V → Hp → Prop} (hk : C.K n_strings_Count [a0, a1] h = none) (H : B_strings_Count C Q a0 a1 h) : cP C n_strings_Count [a0, a1] h Q :=
 cP.vc (tb := t118) hs (by unfold P0; exact Tryz.func118) (by kernel_rfl) hk (by kernel_rfl) (by kernel_rfl) H
/-! ### strings.Index -/
def t119 : List (Nat × List Nat) := []
def B_strings_Index (C : Cfg) (Q : V → Hp → Prop) (a0 a1 : V) (h : Hp) : Prop :=
 cP C n_stringslite_Index [a0, a1] h fun v7 h1 =>
 Q v7 h1
theorem c_strings_Index {C : Cfg} (hs : C.start = startF) {a0 a1 : V} {h : Hp} {Q : V → Hp → Prop} (hk : C.K n_strings_Index [a0, a1] h = none) (H : B_strings_Index C Q a0 a1 h) : cP C n_strings_Index [a0, a1] h Q :=
 cP.vc (tb := t119) hs (by unfold P0; exact Tryz.func119) (by kernel_rfl) hk (by kernel_rfl) (by kernel_rfl) H
/-! ### internal/stringslite.Index -/
def t231 : List (Nat × List Nat) := [(2559, [0, 1, 5, 6, 7, 8, 9, 10]), (53758, [0, 1, 5, 6, 7, 8, 9, 10])]
def J_stringslite_Index_L0 (C : Cfg) (Q : V → Hp → Prop) : LP := JV C Tryz.f231 t231 1279 [0, 1, 5, 6, 7, 8, 9, 10] [] Q
def J_stringslite_Index_R21 (C : Cfg) (Q : V → Hp → Prop) (KL0 : LP) : LP := JV C Tryz.f231 t231 26879 [0, 1, 5, 6, 7, 8, 9, 10] [kf [0, 1, 5, 6, 7, 8, 9, 10] KL0] Q
def B_stringslite_Index_L0 (C : Cfg) (Q : V → Hp → Prop) (KL0 : LP) (x0 x1 x5 x6 x7 x8 x9 x10 : V) (h : Hp) : Prop :=
 oP (hbin .lss 3 x8 x9) fun v59 =>
 bP v59 (
 oP (pIdxS x0 x8) fun v62 =>
 oP (hbin .neq 5 v62 x6) fun v64 =>
 bP v64 (
 oP (hbin .add 3 x8 (V.int .i64 1)) fun v67 =>
 oP (hsliceS x0 (some v67) (some x9)) fun v69 =>
 cP C n_stringslite_IndexByte [v69, x6] h fun v71 h1 =>
 oP (hbin .lss 3 v71 (V.int .i64 0)) fun v73 =>
 bP v73 (
 Q (V.int .i64 (-1)) h1) (
 oP (hbin .add 3 v71 (V.int .i64 1)) fun v76 =>
 oP (hbin .add 3 x8 v76) fun v77 =>
 J_stringslite_Index_R21 C Q KL0 [x0, x1, x5, x6, x7, v77, x9, x10] h1)) (
 J_stringslite_Index_R21 C Q KL0 [x0, x1, x5, x6, x7, x8, x9, x10] h)) (
 Q (V.int .i64 (-1)) h)
theorem l_stringslite_Index_L0 {C : Cfg} {Q : V → Hp → Prop} (I : Nat → LP) (step : ∀ (k : Nat) (x0 x1 x5 x6 x7 x8 x9 x10 : V) (h : Hp), I k [x0, x1, x5, x6, x7, x8, x9, x10] h → B_stringslite_Index_L0 C Q (ltI I k) x0 x1 x5 x6 x7 x8 x9 x10 h) {k : Nat} {x0 x1 x5 x6 x7 x8 x9 x10 : V} {h : Hp} (h0 : I k [x0, x1, x5, x6, x7, x8, x9, x10] h) : J_stringslite_Index_L0 C Q [x0, x1, x5, x6, x7, x8, x9, x10] h := JV.loop 8 I (B_stringslite_Index_L0 C Q) (by kernel_rfl) (by kernel_rfl) (fun _ _ _ => by kernel_rfl) (fun k l h hl hi => match l, hl, hi with
 | [x0, x1, x5, x6, x7, x8, x9, x10], _, hi => step k _ _ _ _ _ _ _ _ h hi) rfl rfl h0
def B_stringslite_Index_R21 (C : Cfg) (Q : V → Hp → Prop) (KL0 : LP) (x0 x1 x5 x6 x7 x8 x9 x10 : V) (h : Hp) : Prop :=
 oP (hbin .add 3 x8 (V.int .i64 1)) fun v80 =>
 oP (pIdxS x0 v80) fun v81 =>
 oP (hbin .eql 5 v81 x7) fun v83 =>
 oP (pAnd v83 (oB (some x0) fun v85 => oB (some x8) fun v86 => oB (some x8) fun v87 => oB (some x5) fun v88 => oB (hbin .add 3 v87 v88) fun v89 => oB (hsliceS v85 (some v86) (some v89)) fun v90 => oB (some x1) fun v91 => hbin .eql 9 v90 v91)) fun v93 =>
 bP v93 (
 Q x8 h) (
 oP (hbin .add 3 x8 (V.int .i64 1)) fun v96 =>
 oP (hbin .add 3 x10 (V.int .i64 1)) fun v98 =>
 oP (oB (oB (h.get 0) fun _ => some (V.ptr 0 0)) fun g0_ => pLd g0_ h) fun v100 =>
 oP (hbin .leq 3 x5 v100) fun v101 =>
 oP (pGd true v101) fun b4 =>
 oP (gV b4 (some v98)) fun v103 =>
 oP (pGd true v101) fun b5 =>
 oP (gV b5 (some v96)) fun v104 =>
 oP (pGd true v101) fun b6 =>
 oP (gC b6 (some (n_bytealg_Cutover, [v104]))) fun y6 => cgP C y6 h fun v105 h1 =>
 oP (pAnd v101 (hbin .gtr 3 v103 v105)) fun v107 =>
 bP v107 (
 oP (hsliceS x0 (some v96) none) fun v110 =>
 cP C n_bytealg_IndexString [v110, x1] h1 fun v112 h2 =>
 oP (hbin .geq 3 v112 (V.int .i64 0)) fun v114 =>
 bP v114 (
 oP (hbin .add 3 v112 v96) fun v117 =>
 Q v117 h2) (
 Q (V.int .i64 (-1)) h2)) (
 oP (oB (oB (h1.get 0) fun _ => some (V.ptr 0 0)) fun g0_ => pLd g0_ h1) fun v119 =>
 oP (hbin .gtr 3 x5 v119) fun v120 =>
 oP (pAnd v120 (oB (some v98) fun v122 => oB (some v96) fun v123 => oB (hbin .shr 3 v123 (V.int .u64 4)) fun v124 => oB (hbin .add 3 (V.int .i64 4) v124) fun v125 => hbin .geq 3 v122 v125)) fun v127 =>
 oP (pAnd v127 (oB (some v96) fun v129 => oB (some x9) fun v130 => hbin .lss 3 v129 v130)) fun v132 =>
 bP v132 (
 oP (hsliceS x0 (some v96) none) fun v135 =>
 cP C n_bytealg_IndexRabinKarp_string [v135, x1] h1 fun v137 h3 =>
 oP (hbin .lss 3 v137 (V.int .i64 0)) fun v139 =>
 bP v139 (
 Q (V.int .i64 (-1)) h3) (
 oP (hbin .add 3 v96 v137) fun v142 =>
 Q v142 h3)) (
 KL0 [x0, x1, x5, x6, x7, v96, x9, v98] h1)))
theorem j_stringslite_Index_R21 {C : Cfg} {Q : V → Hp → Prop} {KL0 : LP} {x0 x1 x5 x6 x7 x8 x9 x10 : V} {h : Hp} (H : B_stringslite_Index_R21 C Q KL0 x0 x1 x5 x6 x7 x8 x9 x10 h) : J_stringslite_Index_R21 C Q KL0 [x0, x1, x5, x6, x7, x8, x9, x10] h := JV.mk 8 (B_stringslite_Index_R21 C Q KL0) (fun _ _ => by kernel_rfl) rfl H
def B_stringslite_Index (C : Cfg) (Q : V → Hp → Prop) (a0 a1 : V) (h : Hp) : Prop :=
 oP (pLenS a1) fun v15 =>
 oP (hbin .eql 3 v15 (V.int .i64 0)) fun v18 =>
 oP (pOr v18 (oB (some a1) fun v20 => oB (some a0) fun v21 => hbin .eql 9 v20 v21)) fun v23 =>
 bP v23 (
 Q (V.int .i64 0) h) (
 oP (hbin .eql 3 v15 (V.int .i64 1)) fun v26 =>
 bP v26 (
 oP (pIdxS a1 (V.int .i64 0)) fun v29 =>
 cP C n_stringslite_IndexByte [a0, v29] h fun v30 h1 =>
 Q v30 h1) (
 oP (pLenS a0) fun v34 =>
 oP (hbin .geq 3 v15 v34) fun v35 =>
 bP v35 (
 Q (V.int .i64 (-1)) h) (
 oP (oB (oB (h.get 0) fun _ => some (V.ptr 0 0)) fun g0_ => pLd g0_ h) fun v38 =>
 oP (hbin .leq 3 v15 v38) fun v39 =>
 oP (pAnd v39 (oB (some a0) fun v41 => oB (pLenS v41) fun v42 => hbin .leq 3 v42 (V.int .i64 64))) fun v44 =>
 bP v44 (
 cP C n_bytealg_IndexString [a0, a1] h fun v47 h2 =>
 Q v47 h2) (
 oP (pIdxS a1 (V.int .i64 0)) fun v49 =>
 oP (pIdxS a1 (V.int .i64 1)) fun v51 =>
 oP (pLenS a0) fun v53 =>
 oP (hbin .sub 3 v53 v15) fun v55 =>
 oP (hbin .add 3 v55 (V.int .i64 1)) fun v56 =>
 J_stringslite_Index_L0 C Q [a0, a1, v15, v49, v51, (V.int .i64 0), v56, (V.int .i64 0)] h))))
theorem c_stringslite_Index {C : Cfg} (hs : C.start = startF) {a0 a1 : V} {h : Hp} {Q : V → Hp → Prop} (hk : C.K n_stringslite_Index [a0, a1] h = none) (H : B_stringslite_Index C Q a0 a1 h) : cP C n_stringslite_Index [a0, a1] h Q :=
 cP.vc (tb := t231) hs (by unfold P0; exact Tryz.func231) (by kernel_rfl) hk (by kernel_rfl) (by kernel_rfl) H
/-! ### internal/stringslite.IndexByte -/
def t349 : List (Nat × List Nat) := []
def B_stringslite_IndexByte (C : Cfg) (Q : V → Hp → Prop) (a0 a1 : V) (h : Hp) : Prop :=
 cP C n_bytealg_IndexByteString [a0, a1] h fun v7 h1 =>
 Q v7 h1
theorem c_stringslite_IndexByte {C : Cfg} (hs : C.start = startF) {a0 a1 : V} {h : Hp} {Q : V → Hp → Prop} (hk : C.K n_stringslite_IndexByte [a0, a1] h = none) (H : B_stringslite_IndexByte C Q a0 a1 h) : cP C n_stringslite_IndexByte [a0, a1] h Q :=
 cP.vc (tb := t349) hs (by unfold P0; exact Tryz.func349) (by kernel_rfl) hk (by kernel_rfl) (by kernel_rfl) H
end
end Go.Proofs.YtlbdcjnhlkkfeaaGreatDoor.Hx
