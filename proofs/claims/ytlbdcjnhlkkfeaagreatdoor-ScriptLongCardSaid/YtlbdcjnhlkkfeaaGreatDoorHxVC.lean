/- What is left of the code of functions, opened in one piece: printed by vc3.py, checked by computation. -/
import Derived.Test.YtlbdcjnhlkkfeaaGreatDoorHxVB
namespace Go.Proofs.YtlbdcjnhlkkfeaaGreatDoor.Hx
set_option maxRecDepth 100000
noncomputable section
/-! ### turnstone/script.lines -/
def t9 : List (Nat × List Nat) := [(30, [3])]
def J_script_lines_R3 (C : Cfg) (Q : V → Hp → Prop) : LP := JV C Tryz.f9 t9 15 [3] [] Q
def B_script_lines_R3 (C : Cfg) (Q : V → Hp → Prop) (x3 : V) (h : Hp) : Prop :=
 Q x3 h
theorem j_script_lines_R3 {C : Cfg} {Q : V → Hp → Prop} {x3 : V} {h : Hp} (H : B_script_lines_R3 C Q x3 h) : J_script_lines_R3 C Q [x3] h := JV.mk 1 (B_script_lines_R3 C Q) (fun _ _ => by kernel_rfl) rfl H
def B_script_lines (C : Cfg) (Q : V → Hp → Prop) (a0 : V) (h : Hp) : Prop :=
 cP C n_strings_Split [a0, (V.str [10])] h fun v5 h1 =>
 oP (pLen v5) fun v8 =>
 oP (hbin .sub 3 v8 (V.int .i64 1)) fun v9 =>
 oP (pIx 1 v5 v9) fun v10 =>
 oP (pLd v10 h1) fun v11 =>
 oP (hbin .eql 9 v11 (V.str [])) fun v12 =>
 bP v12 (
 oP (pLen v5) fun v15 =>
 oP (hbin .sub 3 v15 (V.int .i64 1)) fun v16 =>
 oP (hsliceV 1 v5 none (some v16) h1) fun v17 =>
 J_script_lines_R3 C Q [v17] h1) (
 J_script_lines_R3 C Q [v5] h1)
theorem c_script_lines {C : Cfg} (hs : C.start = startF) {a0 : V} {h : Hp} {Q : V → Hp → Prop} (hk : C.K n_script_lines [a0] h = none) (H : B_script_lines C Q a0 h) : cP C n_script_lines [a0] h Q :=
 cP.vc (tb := t9) hs (by unfold P0; exact Tryz.func9) (by kernel_rfl) hk (by kernel_rfl) (by kernel_rfl) H
/-! ### turnstone/script.out -/
def t13 : List (Nat × List Nat) := [(87, [3, 9, 10, 11]), (88471, [3, 5, 6, 7, 9, 10, 11]), (940438, [3, 5, 6, 7, 9, 10, 11])]
def J_script_out_L0 (C : Cfg) (Q : V → Hp → Prop) : LP := JV C Tryz.f13 t13 43 [3, 9, 10, 11] [] Q
def J_script_out_L1 (C : Cfg) (Q : V → Hp → Prop) (KL0 : LP) : LP := JV C Tryz.f13 t13 44235 [3, 5, 6, 7, 9, 10, 11] [kf [3, 9, 10, 11] KL0] Q
def J_script_out_R15 (C : Cfg) (Q : V → Hp → Prop) (KL0 : LP) (KL1 : LP) : LP := JV C Tryz.f13 t13 470219 [3, 5, 6, 7, 9, 10, 11] [kf [3, 9, 10, 11] KL0, kf [3, 5, 6, 7, 9, 10, 11] KL1] Q
def B_script_out_L0 (C : Cfg) (Q : V → Hp → Prop) (KL0 : LP) (x3 x9 x10 x11 : V) (h : Hp) : Prop :=
 oP (hbin .lss 3 x11 x10) fun v12 =>
 bP v12 (
 oP (pIx 1 x9 x11) fun v13 =>
 oP (pLd v13 h) fun v14 =>
 alP (pBS 5 1 4 (V.int .u8 0) [(0, (V.int .u8 111)), (1, (V.int .u8 117)), (2, (V.int .u8 116)), (3, (V.int .u8 32))]) h fun v15 h1 =>
 valP (pS2S v15 h1) fun v16 h2 =>
 J_script_out_L1 C Q KL0 [x3, v14, v16, (V.int .i64 0), x9, x10, x11] h2) (
 Q x3 h)
theorem l_script_out_L0 {C : Cfg} {Q : V → Hp → Prop} (I : Nat → LP) (step : ∀ (k : Nat) (x3 x9 x10 x11 : V) (h : Hp), I k [x3, x9, x10, x11] h → B_script_out_L0 C Q (ltI I k) x3 x9 x10 x11 h) {k : Nat} {x3 x9 x10 x11 : V} {h : Hp} (h0 : I k [x3, x9, x10, x11] h) : J_script_out_L0 C Q [x3, x9, x10, x11] h := JV.loop 4 I (B_script_out_L0 C Q) (by kernel_rfl) (by kernel_rfl) (fun _ _ _ => by kernel_rfl) (fun k l h hl hi => match l, hl, hi with
 | [x3, x9, x10, x11], _, hi => step k _ _ _ _ h hi) rfl rfl h0
def B_script_out_L1 (C : Cfg) (Q : V → Hp → Prop) (KL0 : LP) (KL1 : LP) (x3 x5 x6 x7 x9 x10 x11 : V) (h : Hp) : Prop :=
 oP (pLenS x5) fun v19 =>
 oP (hbin .lss 3 x7 v19) fun v20 =>
 bP v20 (
 oP (pIdxS x5 x7) fun v25 =>
 oP (hbin .lss 5 v25 (V.int .u8 32)) fun v27 =>
 oP (pOr v27 (oB (some v25) fun v29 => hbin .gtr 5 v29 (V.int .u8 126))) fun v31 =>
 oP (pOr v31 (oB (some v25) fun v33 => hbin .eql 5 v33 (V.int .u8 92))) fun v35 =>
 bP v35 (
 oP (hbin .quo 5 v25 (V.int .u8 100)) fun v38 =>
 oP (hbin .add 5 (V.int .u8 48) v38) fun v39 =>
 oP (hbin .quo 5 v25 (V.int .u8 10)) fun v41 =>
 oP (hbin .rem 5 v41 (V.int .u8 10)) fun v42 =>
 oP (hbin .add 5 (V.int .u8 48) v42) fun v43 =>
 oP (hbin .rem 5 v25 (V.int .u8 10)) fun v45 =>
 oP (hbin .add 5 (V.int .u8 48) v45) fun v46 =>
 alP (pBS 5 1 4 (V.int .u8 0) [(0, (V.int .u8 92)), (1, v39), (2, v43), (3, v46)]) h fun v47 h1 =>
 valP (happend 5 1 1 x6 v47 h1) fun v48 h2 =>
 J_script_out_R15 C Q KL0 KL1 [x3, x5, v48, x7, x9, x10, x11] h2) (
 alP (pBS 5 1 1 (V.int .u8 0) [(0, v25)]) h fun v51 h3 =>
 valP (happend 5 1 1 x6 v51 h3) fun v52 h4 =>
 J_script_out_R15 C Q KL0 KL1 [x3, x5, v52, x7, x9, x10, x11] h4)) (
 oP (pB2S x6 h) fun v55 =>
 alP (pBS 9 1 1 (V.str []) [(0, v55)]) h fun v56 h5 =>
 valP (happend 9 1 16 x3 v56 h5) fun v57 h6 =>
 oP (hbin .add 3 x11 (V.int .i64 1)) fun v58 =>
 KL0 [v57, x9, x10, v58] h6)
theorem l_script_out_L1 {C : Cfg} {Q : V → Hp → Prop} {KL0 : LP} (I : Nat → LP) (step : ∀ (k : Nat) (x3 x5 x6 x7 x9 x10 x11 : V) (h : Hp), I k [x3, x5, x6, x7, x9, x10, x11] h → B_script_out_L1 C Q KL0 (ltI I k) x3 x5 x6 x7 x9 x10 x11 h) {k : Nat} {x3 x5 x6 x7 x9 x10 x11 : V} {h : Hp} (h0 : I k [x3, x5, x6, x7, x9, x10, x11] h) : J_script_out_L1 C Q KL0 [x3, x5, x6, x7, x9, x10, x11] h := JV.loop 7 I (B_script_out_L1 C Q KL0) (by kernel_rfl) (by kernel_rfl) (fun _ _ _ => by kernel_rfl) (fun k l h hl hi => match l, hl, hi with
 | [x3, x5, x6, x7, x9, x10, x11], _, hi => step k _ _ _ _ _ _ _ h hi) rfl rfl h0
def B_script_out_R15 (C : Cfg) (Q : V → Hp → Prop) (KL0 : LP) (KL1 : LP) (x3 x5 x6 x7 x9 x10 x11 : V) (h : Hp) : Prop :=
 oP (hbin .add 3 x7 (V.int .i64 1)) fun v22 =>
 KL1 [x3, x5, x6, v22, x9, x10, x11] h
theorem j_script_out_R15 {C : Cfg} {Q : V → Hp → Prop} {KL0 : LP} {KL1 : LP} {x3 x5 x6 x7 x9 x10 x11 : V} {h : Hp} (H : B_script_out_R15 C Q KL0 KL1 x3 x5 x6 x7 x9 x10 x11 h) : J_script_out_R15 C Q KL0 KL1 [x3, x5, x6, x7, x9, x10, x11] h := JV.mk 7 (B_script_out_R15 C Q KL0 KL1) (fun _ _ => by kernel_rfl) rfl H
def B_script_out (C : Cfg) (Q : V → Hp → Prop) (a0 : V) (h : Hp) : Prop :=
 oP (pLen a0) fun v10 =>
 J_script_out_L0 C Q [V.nilSlice, a0, v10, (V.int .i64 0)] h
theorem c_script_out {C : Cfg} (hs : C.start = startF) {a0 : V} {h : Hp} {Q : V → Hp → Prop} (hk : C.K n_script_out [a0] h = none) (H : B_script_out C Q a0 h) : cP C n_script_out [a0] h Q :=
 cP.vc (tb := t13) hs (by unfold P0; exact Tryz.func13) (by kernel_rfl) hk (by kernel_rfl) (by kernel_rfl) H
/-! ### slices.IndexFunc[turnstone/cache.items,turnstone/cache.item] -/
def t175 : List (Nat × List Nat) := [(43, [0, 1, 7, 8])]
def J_slices_IndexFunc_cache_items_cache_item_L0 (C : Cfg) (Q : V → Hp → Prop) : LP := JV C Tryz.f175 t175 21 [0, 1, 7, 8] [] Q
def B_slices_IndexFunc_cache_items_cache_item_L0 (C : Cfg) (Q : V → Hp → Prop) (KL0 : LP) (x0 x1 x7 x8 : V) (h : Hp) : Prop :=
 oP (hbin .lss 3 x8 x7) fun v9 =>
 bP v9 (
 oP (pIx 1 x0 x8) fun v14 =>
 oP (pLd v14 h) fun v15 =>
 calP C (hcall x1 [v15]) h fun v16 h1 =>
 bP v16 (
 Q x8 h1) (
 oP (hbin .add 3 x8 (V.int .i64 1)) fun v18 =>
 KL0 [x0, x1, x7, v18] h1)) (
 Q (V.int .i64 (-1)) h)
theorem l_slices_IndexFunc_cache_items_cache_item_L0 {C : Cfg} {Q : V → Hp → Prop} (I : Nat → LP) (step : ∀ (k : Nat) (x0 x1 x7 x8 : V) (h : Hp), I k [x0, x1, x7, x8] h → B_slices_IndexFunc_cache_items_cache_item_L0 C Q (ltI I k) x0 x1 x7 x8 h) {k : Nat} {x0 x1 x7 x8 : V} {h : Hp} (h0 : I k [x0, x1, x7, x8] h) : J_slices_IndexFunc_cache_items_cache_item_L0 C Q [x0, x1, x7, x8] h := JV.loop 4 I (B_slices_IndexFunc_cache_items_cache_item_L0 C Q) (by kernel_rfl) (by kernel_rfl) (fun _ _ _ => by kernel_rfl) (fun k l h hl hi => match l, hl, hi with
 | [x0, x1, x7, x8], _, hi => step k _ _ _ _ h hi) rfl rfl h0
def B_slices_IndexFunc_cache_items_cache_item (C : Cfg) (Q : V → Hp → Prop) (a0 a1 : V) (h : Hp) : Prop :=
 oP (pLen a0) fun v7 =>
 J_slices_IndexFunc_cache_items_cache_item_L0 C Q [a0, a1, v7, (V.int .i64 0)] h
theorem c_slices_IndexFunc_cache_items_cache_item {C : Cfg} (hs : C.start = startF) {a0 a1 : V} {h : Hp} {Q : V → Hp → Prop} (hk : C.K n_slices_IndexFunc_cache_items_cache_item [a0, a1] h = none) (H : B_slices_IndexFunc_cache_items_cache_item C Q a0 a1 h) : cP C n_slices_IndexFunc_cache_items_cache_item [a0, a1] h Q :=
 cP.vc (tb := t175) hs (by unfold P0; exact Tryz.func175) (by kernel_rfl) hk (by kernel_rfl) (by kernel_rfl) H
/-! ### (turnstone/cache.Cache).find -/
def t74 : List (Nat × List Nat) := []
def B_cache_Cache_find (C : Cfg) (Q : V → Hp → Prop) (a0 a1 a2 : V) (h : Hp) : Prop :=
 alP (hbox 3 a1) h fun v4 h1 =>
 alP (hbox 3 a2) h1 fun v5 h2 =>
 oP (pNil a0) fun v8 =>
 oP (pFA 1 v8) fun v9 =>
 oP (pLd v9 h2) fun v10 =>
 cP C n_slices_IndexFunc_cache_items_cache_item [v10, (V.func n_cache_Cache_find_1 [] [v4, v5])] h2 fun v12 h3 =>
 Q v12 h3
theorem c_cache_Cache_find {C : Cfg} (hs : C.start = startF) {a0 a1 a2 : V} {h : Hp} {Q : V → Hp → Prop} (hk : C.K n_cache_Cache_find [a0, a1, a2] h = none) (H : B_cache_Cache_find C Q a0 a1 a2 h) : cP C n_cache_Cache_find [a0, a1, a2] h Q :=
 cP.vc (tb := t74) hs (by unfold P0; exact Tryz.func74) (by kernel_rfl) hk (by kernel_rfl) (by kernel_rfl) H
/-! ### (turnstone/cache.Cache).Drop -/
def t35 : List (Nat × List Nat) := []
def B_cache_Cache_Drop (C : Cfg) (Q : V → Hp → Prop) (a0 a1 a2 : V) (h : Hp) : Prop :=
 cP C n_cache_Cache_find [a0, a1, a2] h fun v11 h1 =>
 oP (hbin .lss 3 v11 (V.int .i64 0)) fun v13 =>
 bP v13 (
 Q (V.bool false) h1) (
 oP (pNil a0) fun v15 =>
 oP (pFA 1 v15) fun v16 =>
 cP C n_container_heap_Remove [(V.iface 216 v16), v11] h1 fun v19 h2 =>
 Q (V.bool true) h2)
theorem c_cache_Cache_Drop {C : Cfg} (hs : C.start = startF) {a0 a1 a2 : V} {h : Hp} {Q : V → Hp → Prop} (hk : C.K n_cache_Cache_Drop [a0, a1, a2] h = none) (H : B_cache_Cache_Drop C Q a0 a1 a2 h) : cP C n_cache_Cache_Drop [a0, a1, a2] h Q :=
 cP.vc (tb := t35) hs (by unfold P0; exact Tryz.func35) (by kernel_rfl) hk (by kernel_rfl) (by kernel_rfl) H
/-! ### (turnstone/interp.Machine).Over -/
def t39 : List (Nat × List Nat) := []
def B_interp_Machine_Over (C : Cfg) (Q : V → Hp → Prop) (a0 : V) (h : Hp) : Prop :=
 oP (pNil a0) fun v5 =>
 oP (pFA 7 v5) fun v6 =>
 oP (pLd v6 h) fun v7 =>
 oP (pNil a0) fun v9 =>
 oP (pFA 8 v9) fun v10 =>
 oP (pLd v10 h) fun v11 =>
 Q (V.tuple [v7, v11]) h
theorem c_interp_Machine_Over {C : Cfg} (hs : C.start = startF) {a0 : V} {h : Hp} {Q : V → Hp → Prop} (hk : C.K n_interp_Machine_Over [a0] h = none) (H : B_interp_Machine_Over C Q a0 h) : cP C n_interp_Machine_Over [a0] h Q :=
 cP.vc (tb := t39) hs (by unfold P0; exact Tryz.func39) (by kernel_rfl) hk (by kernel_rfl) (by kernel_rfl) H
/-! ### (turnstone/mixed.Driver).Machine -/
def t14 : List (Nat × List Nat) := []
def B_mixed_Driver_Machine (C : Cfg) (Q : V → Hp → Prop) (a0 : V) (h : Hp) : Prop :=
 oP (pNil a0) fun v4 =>
 oP (pFA 0 v4) fun v5 =>
 oP (pLd v5 h) fun v6 =>
 Q v6 h
theorem c_mixed_Driver_Machine {C : Cfg} (hs : C.start = startF) {a0 : V} {h : Hp} {Q : V → Hp → Prop} (hk : C.K n_mixed_Driver_Machine [a0] h = none) (H : B_mixed_Driver_Machine C Q a0 h) : cP C n_mixed_Driver_Machine [a0] h Q :=
 cP.vc (tb := t14) hs (by unfold P0; exact Tryz.func14) (by kernel_rfl) hk (by kernel_rfl) (by kernel_rfl) H
/-! ### (turnstone/mixed.Driver).Play -/
def t12 : List (Nat × List Nat) := [(30, [0, 4, 5])]
def J_mixed_Driver_Play_R3 (C : Cfg) (Q : V → Hp → Prop) : LP := JV C Tryz.f12 t12 15 [0, 4, 5] [] Q
def B_mixed_Driver_Play_R3 (C : Cfg) (Q : V → Hp → Prop) (x0 x4 x5 : V) (h : Hp) : Prop :=
 oP (pNil x0) fun v71 =>
 oP (pFA 0 v71) fun v72 =>
 oP (pLd v72 h) fun v73 =>
 cP C n_interp_Machine_Over [v73] h fun v74 h1 =>
 oP (pExt 0 v74) fun v75 =>
 oP (pExt 1 v74) fun v76 =>
 oP (pFA 3 x5) fun v77 =>
 valP (pSt 1 v77 v75 h1) fun vu h2 =>
 oP (pFA 4 x5) fun v78 =>
 valP (pSt 1 v78 v76 h2) fun vu_1 h3 =>
 oP (pLdA 6 x5 h3) fun v79 =>
 valP (pSt 6 x4 v79 h3) fun vu_2 h4 =>
 oP (pLdA 6 x4 h4) fun r4 =>
 Q r4 h4
theorem j_mixed_Driver_Play_R3 {C : Cfg} {Q : V → Hp → Prop} {x0 x4 x5 : V} {h : Hp} (H : B_mixed_Driver_Play_R3 C Q x0 x4 x5 h) : J_mixed_Driver_Play_R3 C Q [x0, x4, x5] h := JV.mk 3 (B_mixed_Driver_Play_R3 C Q) (fun _ _ => by kernel_rfl) rfl H
def B_mixed_Driver_Play (C : Cfg) (Q : V → Hp → Prop) (a0 a1 : V) (h : Hp) : Prop :=
 alP (hbox 47 a1) h fun v3 h1 =>
 alP (some (.cells 53 1 true false [(V.int .i64 0), (V.int .i64 0), (V.int .i64 0), (V.int .i64 0), (V.int .i64 0), V.nilSlice], fun l => .ptr l 0)) h1 fun v4 h2 =>
 alP (some (.cells 53 1 true false [(V.int .i64 0), (V.int .i64 0), (V.int .i64 0), (V.int .i64 0), (V.int .i64 0), V.nilSlice], fun l => .ptr l 0)) h2 fun v5 h3 =>
 oP (pFA 0 v3) fun v6 =>
 oP (pLd v6 h3) fun v7 =>
 oP (hbin .eql 3 v7 (V.int .i64 1)) fun v10 =>
 bP v10 (
 oP (pFA 3 v3) fun v12 =>
 oP (pLd v12 h3) fun v13 =>
 cP C n_mixed_Driver_interpret [a0, v13] h3 fun v14 h4 =>
 valP (pSt 6 v5 v14 h4) fun vu h5 =>
 J_mixed_Driver_Play_R3 C Q [a0, v4, v5] h5) (
 oP (hbin .eql 3 v7 (V.int .i64 2)) fun v16 =>
 bP v16 (
 oP (pFA 1 v3) fun v18 =>
 oP (pLd v18 h3) fun v19 =>
 oP (pFA 2 v3) fun v20 =>
 oP (pLd v20 h3) fun v21 =>
 cP C n_mixed_Driver_compile [a0, v19, v21] h3 fun v22 h6 =>
 valP (pSt 6 v5 v22 h6) fun vu_1 h7 =>
 J_mixed_Driver_Play_R3 C Q [a0, v4, v5] h7) (
 oP (hbin .eql 3 v7 (V.int .i64 3)) fun v24 =>
 bP v24 (
 oP (pFA 3 v3) fun v26 =>
 oP (pLd v26 h3) fun v27 =>
 cP C n_mixed_Driver_enter [a0, v27] h3 fun v28 h8 =>
 valP (pSt 6 v5 v28 h8) fun vu_2 h9 =>
 J_mixed_Driver_Play_R3 C Q [a0, v4, v5] h9) (
 oP (hbin .eql 3 v7 (V.int .i64 4)) fun v30 =>
 bP v30 (
 oP (pNil a0) fun v32 =>
 oP (pFA 7 v32) fun v33 =>
 oP (pLd v33 h3) fun v34 =>
 oP (pFA 1 v3) fun v35 =>
 oP (pLd v35 h3) fun v36 =>
 oP (pFA 2 v3) fun v37 =>
 oP (pLd v37 h3) fun v38 =>
 cP C n_cache_Cache_Drop [v34, v36, v38] h3 fun v39 h10 =>
 (h3.next ≤ h10.next ∧
 oP (hun .not v39) fun v40 =>
 bP v40 (
 oP (pFA 0 v5) fun v41 =>
 valP (pSt 1 v41 (V.int .i64 3) h10) fun vu_3 h11 =>
 J_mixed_Driver_Play_R3 C Q [a0, v4, v5] h11) (
 J_mixed_Driver_Play_R3 C Q [a0, v4, v5] h10))) (
 oP (hbin .eql 3 v7 (V.int .i64 5)) fun v43 =>
 bP v43 (
 oP (pNil a0) fun v45 =>
 oP (pFA 7 v45) fun v46 =>
 oP (pLd v46 h3) fun v47 =>
 oP (pFA 1 v3) fun v48 =>
 oP (pLd v48 h3) fun v49 =>
 cP C n_cache_Cache_Invalidate [v47, v49] h3 fun v50 h12 =>
 (h3.next ≤ h12.next ∧
 oP (pFA 5 v5) fun v51 =>
 valP (pSt 1 v51 v50 h12) fun vu_4 h13 =>
 (h12.next ≤ h13.next ∧
 J_mixed_Driver_Play_R3 C Q [a0, v4, v5] h13))) (
 oP (hbin .eql 3 v7 (V.int .i64 6)) fun v53 =>
 bP v53 (
 oP (pNil a0) fun v55 =>
 oP (pFA 6 v55) fun v56 =>
 oP (pLd v56 h3) fun v57 =>
 oP (pFA 4 v3) fun v58 =>
 oP (pLdA 5 v58 h3) fun v59 =>
 cP C n_prof_Profile_Add [v57, v59] h3 fun v60 h14 =>
 (h3.next ≤ h14.next ∧
 oP (hun .not v60) fun v61 =>
 bP v61 (
 oP (pFA 0 v5) fun v62 =>
 valP (pSt 1 v62 (V.int .i64 1) h14) fun vu_5 h15 =>
 J_mixed_Driver_Play_R3 C Q [a0, v4, v5] h15) (
 J_mixed_Driver_Play_R3 C Q [a0, v4, v5] h14))) (
 oP (hbin .eql 3 v7 (V.int .i64 7)) fun v64 =>
 bP v64 (
 oP (pFA 3 v3) fun v66 =>
 oP (pLd v66 h3) fun v67 =>
 cP C n_mixed_Driver_auto [a0, v67] h3 fun v68 h16 =>
 valP (pSt 6 v5 v68 h16) fun vu_6 h17 =>
 J_mixed_Driver_Play_R3 C Q [a0, v4, v5] h17) (
 oP (pFA 0 v5) fun v8 =>
 valP (pSt 1 v8 (V.int .i64 1) h3) fun vu_7 h18 =>
 J_mixed_Driver_Play_R3 C Q [a0, v4, v5] h18)))))))
theorem c_mixed_Driver_Play {C : Cfg} (hs : C.start = startF) {a0 a1 : V} {h : Hp} {Q : V → Hp → Prop} (hk : C.K n_mixed_Driver_Play [a0, a1] h = none) (H : B_mixed_Driver_Play C Q a0 a1 h) : cP C n_mixed_Driver_Play [a0, a1] h Q :=
 cP.vc (tb := t12) hs (by unfold P0; exact Tryz.func12) (by kernel_rfl) hk (by kernel_rfl) (by kernel_rfl) H
/-! ### (turnstone/interp.Machine).World -/
def t15 : List (Nat × List Nat) := []
def B_interp_Machine_World (C : Cfg) (Q : V → Hp → Prop) (a0 : V) (h : Hp) : Prop :=
 oP (pNil a0) fun v4 =>
 oP (pFA 5 v4) fun v5 =>
 oP (pLd v5 h) fun v6 =>
 Q v6 h
theorem c_interp_Machine_World {C : Cfg} (hs : C.start = startF) {a0 : V} {h : Hp} {Q : V → Hp → Prop} (hk : C.K n_interp_Machine_World [a0] h = none) (H : B_interp_Machine_World C Q a0 h) : cP C n_interp_Machine_World [a0] h Q :=
 cP.vc (tb := t15) hs (by unfold P0; exact Tryz.func15) (by kernel_rfl) hk (by kernel_rfl) (by kernel_rfl) H
/-! ### (turnstone/world.World).Trace -/
def t16 : List (Nat × List Nat) := []
def B_world_World_Trace (C : Cfg) (Q : V → Hp → Prop) (a0 : V) (h : Hp) : Prop :=
 alP (pBS 9 1 0 (V.str []) []) h fun v3 h1 =>
 oP (pNil a0) fun v5 =>
 oP (pFA 5 v5) fun v6 =>
 oP (pLd v6 h1) fun v7 =>
 valP (happend 9 1 16 v3 v7 h1) fun v8 h2 =>
 Q v8 h2
theorem c_world_World_Trace {C : Cfg} (hs : C.start = startF) {a0 : V} {h : Hp} {Q : V → Hp → Prop} (hk : C.K n_world_World_Trace [a0] h = none) (H : B_world_World_Trace C Q a0 h) : cP C n_world_World_Trace [a0] h Q :=
 cP.vc (tb := t16) hs (by unfold P0; exact Tryz.func16) (by kernel_rfl) hk (by kernel_rfl) (by kernel_rfl) H
/-! ### turnstone/script.Run -/
def t5 : List (Nat × List Nat) := [(5631, [16, 18, 51, 52, 53]), (22527, [16, 23, 73, 74, 75])]
def J_script_Run_L0 (C : Cfg) (Q : V → Hp → Prop) : LP := JV C Tryz.f5 t5 2815 [16, 18, 51, 52, 53] [] Q
def J_script_Run_L1 (C : Cfg) (Q : V → Hp → Prop) : LP := JV C Tryz.f5 t5 11263 [16, 23, 73, 74, 75] [] Q
def B_script_Run_L0 (C : Cfg) (Q : V → Hp → Prop) (KL0 : LP) (x16 x18 x51 x52 x53 : V) (h : Hp) : Prop :=
 oP (hbin .lss 3 x53 x52) fun v54 =>
 bP v54 (
 oP (pIx 1 x51 x53) fun v56 =>
 oP (pLd v56 h) fun v57 =>
 cP C n_script_Parse [v57] h fun v60 h1 =>
 oP (pExt 0 v60) fun v61 =>
 oP (pExt 1 v60) fun v62 =>
 alP (some (.cells 47 1 true false [(V.int .i64 0), (V.int .i64 0), (V.int .i64 0), (V.int .i64 0), (V.int .i64 0), (V.int .i64 0), (V.int .i64 0), (V.int .i64 0), V.nilSlice], fun l => .ptr l 0)) h1 fun v21 h2 =>
 valP (pSt 9 v21 v61 h2) fun vu h3 =>
 oP (hbin .neq 24 v62 (V.int .i64 0)) fun v64 =>
 bP v64 (
 oP (hbin .add 3 x53 (V.int .i64 1)) fun v67 =>
 Q (V.tuple [V.nilSlice, v62, v67]) h3) (
 oP (pLdA 9 v21 h3) fun v69 =>
 alP (pBS 47 9 1 (V.agg [(V.int .i64 0), (V.int .i64 0), (V.int .i64 0), (V.int .i64 0), (V.int .i64 0), (V.int .i64 0), (V.int .i64 0), (V.int .i64 0), V.nilSlice]) [(0, v69)]) h3 fun v70 h4 =>
 valP (happend 47 9 88 x18 v70 h4) fun v71 h5 =>
 oP (hbin .add 3 x53 (V.int .i64 1)) fun v72 =>
 KL0 [x16, v71, x51, x52, v72] h5)) (
 oP (pLen x18) fun v74 =>
 J_script_Run_L1 C Q [x16, V.nilSlice, x18, v74, (V.int .i64 0)] h)
theorem l_script_Run_L0 {C : Cfg} {Q : V → Hp → Prop} (I : Nat → LP) (step : ∀ (k : Nat) (x16 x18 x51 x52 x53 : V) (h : Hp), I k [x16, x18, x51, x52, x53] h → B_script_Run_L0 C Q (ltI I k) x16 x18 x51 x52 x53 h) {k : Nat} {x16 x18 x51 x52 x53 : V} {h : Hp} (h0 : I k [x16, x18, x51, x52, x53] h) : J_script_Run_L0 C Q [x16, x18, x51, x52, x53] h := JV.loop 5 I (B_script_Run_L0 C Q) (by kernel_rfl) (by kernel_rfl) (fun _ _ _ => by kernel_rfl) (fun k l h hl hi => match l, hl, hi with
 | [x16, x18, x51, x52, x53], _, hi => step k _ _ _ _ _ h hi) rfl rfl h0
def B_script_Run_L1 (C : Cfg) (Q : V → Hp → Prop) (KL1 : LP) (x16 x23 x73 x74 x75 : V) (h : Hp) : Prop :=
 oP (hbin .lss 3 x75 x74) fun v76 =>
 bP v76 (
 oP (pIx 9 x73 x75) fun v77 =>
 oP (pLdA 9 v77 h) fun v78 =>
 alP (some (.cells 47 1 true false [(V.int .i64 0), (V.int .i64 0), (V.int .i64 0), (V.int .i64 0), (V.int .i64 0), (V.int .i64 0), (V.int .i64 0), (V.int .i64 0), V.nilSlice], fun l => .ptr l 0)) h fun v25 h1 =>
 valP (pSt 9 v25 v78 h1) fun vu h2 =>
 oP (pLdA 9 v25 h2) fun v81 =>
 cP C n_mixed_Driver_Play [x16, v81] h2 fun v82 h3 =>
 cP C n_script_Tell [v82] h3 fun v83 h4 =>
 alP (pBS 9 1 1 (V.str []) [(0, v83)]) h4 fun v84 h5 =>
 valP (happend 9 1 16 x23 v84 h5) fun v85 h6 =>
 oP (hbin .add 3 x75 (V.int .i64 1)) fun v86 =>
 KL1 [x16, v85, x73, x74, v86] h6) (
 cP C n_mixed_Driver_Machine [x16] h fun v89 h7 =>
 cP C n_interp_Machine_World [v89] h7 fun v90 h8 =>
 cP C n_world_World_Trace [v90] h8 fun v91 h9 =>
 cP C n_script_out [v91] h9 fun v92 h10 =>
 valP (happend 9 1 16 x23 v92 h10) fun v93 h11 =>
 Q (V.tuple [v93, (V.int .i64 0), (V.int .i64 0)]) h11)
theorem l_script_Run_L1 {C : Cfg} {Q : V → Hp → Prop} (I : Nat → LP) (step : ∀ (k : Nat) (x16 x23 x73 x74 x75 : V) (h : Hp), I k [x16, x23, x73, x74, x75] h → B_script_Run_L1 C Q (ltI I k) x16 x23 x73 x74 x75 h) {k : Nat} {x16 x23 x73 x74 x75 : V} {h : Hp} (h0 : I k [x16, x23, x73, x74, x75] h) : J_script_Run_L1 C Q [x16, x23, x73, x74, x75] h := JV.loop 5 I (B_script_Run_L1 C Q) (by kernel_rfl) (by kernel_rfl) (fun _ _ _ => by kernel_rfl) (fun k l h hl hi => match l, hl, hi with
 | [x16, x23, x73, x74, x75], _, hi => step k _ _ _ _ _ h hi) rfl rfl h0
def B_script_Run (C : Cfg) (Q : V → Hp → Prop) (a0 a1 a2 a3 a4 : V) (h : Hp) : Prop :=
 cP C n_compile_Text [a0] h fun v28 h1 =>
 oP (pExt 0 v28) fun v29 =>
 oP (pExt 1 v28) fun v30 =>
 oP (pExt 2 v28) fun v31 =>
 alP (some (.cells 33 1 true false [V.nilSlice, V.nilSlice, (V.int .i64 0), V.nilSlice, V.nilSlice], fun l => .ptr l 0)) h1 fun v13 h2 =>
 alP (some (.cells 35 1 true false [(V.int .i64 0), (V.int .i64 0)], fun l => .ptr l 0)) h2 fun v14 h3 =>
 valP (pSt 5 v13 v29 h3) fun vu h4 =>
 valP (pSt 2 v14 v30 h4) fun vu_1 h5 =>
 oP (hbin .neq 24 v31 (V.int .i64 0)) fun v33 =>
 bP v33 (
 Q (V.tuple [V.nilSlice, v31, (V.int .i64 0)]) h5) (
 oP (pLdA 5 v13 h5) fun v36 =>
 cP C n_mixed_New [v36, a1, a2, a3] h5 fun v40 h6 =>
 oP (pExt 0 v40) fun v41 =>
 oP (pExt 1 v40) fun v42 =>
 oP (hbin .neq 24 v42 (V.int .i64 0)) fun v44 =>
 bP v44 (
 Q (V.tuple [V.nilSlice, v42, (V.int .i64 0)]) h6) (
 cP C n_script_lines [a4] h6 fun v47 h7 =>
 oP (pLen v47) fun v49 =>
 oP (hbin .gtr 3 v49 (V.int .i64 4000)) fun v50 =>
 bP v50 (
 Q (V.tuple [V.nilSlice, (V.int .i64 6), (V.int .i64 0)]) h7) (
 oP (pLen v47) fun v52 =>
 J_script_Run_L0 C Q [v41, V.nilSlice, v47, v52, (V.int .i64 0)] h7)))
theorem c_script_Run {C : Cfg} (hs : C.start = startF) {a0 a1 a2 a3 a4 : V} {h : Hp} {Q : V → Hp → Prop} (hk : C.K n_script_Run [a0, a1, a2, a3, a4] h = none) (H : B_script_Run C Q a0 a1 a2 a3 a4 h) : cP C n_script_Run [a0, a1, a2, a3, a4] h Q :=
 cP.vc (tb := t5) hs (by unfold P0; exact Tryz.func5) (by kernel_rfl) hk (by kernel_rfl) (by kernel_rfl) H
/-! ### turnstone/turnstonelaw30.ScriptLong -/
def t3 : List (Nat × List Nat) := [(175, [0, 3, 4])]
def J_turnstonelaw30_ScriptLong_L0 (C : Cfg) (Q : V → Hp → Prop) : LP := JV C Tryz.f3 t3 87 [0, 3, 4] [] Q
def B_turnstonelaw30_ScriptLong_L0 (C : Cfg) (Q : V → Hp → Prop) (KL0 : LP) (x0 x3 x4 : V) (h : Hp) : Prop :=
 oP (hbin .sub 3 (V.int .i64 4000) x0) fun v13 =>
 oP (hbin .lss 3 x4 v13) fun v14 =>
 bP v14 (
 oP (hbin .add 9 x3 (V.str [101, 118, 105, 99, 116, 32, 48, 32, 48, 10])) fun v18 =>
 oP (hbin .add 3 x4 (V.int .i64 1)) fun v16 =>
 KL0 [x0, v18, v16] h) (
 cP C n_script_Run [(V.str [102, 117, 110, 99, 32, 109, 97, 105, 110, 40, 41, 32, 123, 32, 125]), (V.int .i64 50), V.nilSlice, (V.int .i64 99), x3] h fun v21 h1 =>
 oP (pExt 0 v21) fun v22 =>
 oP (pExt 1 v21) fun v23 =>
 oP (pExt 2 v21) fun v24 =>
 oP (hbin .lss 3 x0 (V.int .i64 0)) fun v26 =>
 bP v26 (
 cP C n_turnstonelaw30_known [] h1 fun v27 h2 =>
 oP (pAnd v27 (oB (some v23) fun v29 => hbin .eql 24 v29 (V.int .i64 6))) fun v31 =>
 oP (pAnd v31 (oB (some v24) fun v33 => hbin .eql 3 v33 (V.int .i64 0))) fun v35 =>
 oP (pAnd v35 (oB (some v22) fun v37 => oB (pLen v37) fun v38 => hbin .eql 3 v38 (V.int .i64 0))) fun v40 =>
 Q v40 h2) (
 cP C n_turnstonelaw30_known [] h1 fun v41 h3 =>
 oP (pAnd v41 (oB (some v23) fun v43 => hbin .eql 24 v43 (V.int .i64 0))) fun v45 =>
 oP (pAnd v45 (oB (some v22) fun v47 => oB (pLen v47) fun v48 => oB (some x0) fun v49 => oB (hbin .sub 3 (V.int .i64 4000) v49) fun v50 => hbin .eql 3 v48 v50)) fun v52 =>
 oP (pAnd v52 (oB (some v22) fun v54 => oB (pIx 1 v54 (V.int .i64 0)) fun v55 => oB (pLd v55 h3) fun v56 => hbin .eql 9 v56 (V.str [101, 114, 114, 111, 114, 32, 51]))) fun v58 =>
 Q v58 h3))
theorem l_turnstonelaw30_ScriptLong_L0 {C : Cfg} {Q : V → Hp → Prop} (I : Nat → LP) (step : ∀ (k : Nat) (x0 x3 x4 : V) (h : Hp), I k [x0, x3, x4] h → B_turnstonelaw30_ScriptLong_L0 C Q (ltI I k) x0 x3 x4 h) {k : Nat} {x0 x3 x4 : V} {h : Hp} (h0 : I k [x0, x3, x4] h) : J_turnstonelaw30_ScriptLong_L0 C Q [x0, x3, x4] h := JV.loop 3 I (B_turnstonelaw30_ScriptLong_L0 C Q) (by kernel_rfl) (by kernel_rfl) (fun _ _ _ => by kernel_rfl) (fun k l h hl hi => match l, hl, hi with
 | [x0, x3, x4], _, hi => step k _ _ _ h hi) rfl rfl h0
def B_turnstonelaw30_ScriptLong (C : Cfg) (Q : V → Hp → Prop) (a0 : V) (h : Hp) : Prop :=
 cP C n_turnstonehand_Pick [a0, (V.int .i64 3)] h fun v9 h1 =>
 oP (hbin .sub 3 v9 (V.int .i64 1)) fun v10 =>
 J_turnstonelaw30_ScriptLong_L0 C Q [v10, (V.str []), (V.int .i64 0)] h1
theorem c_turnstonelaw30_ScriptLong {C : Cfg} (hs : C.start = startF) {a0 : V} {h : Hp} {Q : V → Hp → Prop} (hk : C.K n_turnstonelaw30_ScriptLong [a0] h = none) (H : B_turnstonelaw30_ScriptLong C Q a0 h) : cP C n_turnstonelaw30_ScriptLong [a0] h Q :=
 cP.vc (tb := t3) hs (by unfold P0; exact Tryz.func3) (by kernel_rfl) hk (by kernel_rfl) (by kernel_rfl) H
end
end Go.Proofs.YtlbdcjnhlkkfeaaGreatDoor.Hx
