/- Parts of the proof. -/
import Derived.Test.YtiepamfpilhcjaaDoorM14
namespace Go.Proofs.YtiepamfpilhcjaaDoor.Hx
set_option maxRecDepth 100000
noncomputable section
def t31:List (Nat×List Nat):=[(126,[1,3,4,5]),(319,[1,3,4,5])]
def J_ssa_Order_R5 (C:Cfg)(Q:QP1)(x1 x3 x4 x5:V)(h:Hp):Prop:=∀ρ:Rho,ρ 1=x1→ρ 3=x3→ρ 4=x4→ρ 5=x5→WA C Tryd.f31 t31 63 [] Q ρ h
def J_ssa_Order_L0 (C:Cfg)(Q:QP1)(x1 x3 x4 x5:V)(h:Hp):Prop:=∀ρ:Rho,ρ 1=x1→ρ 3=x3→ρ 4=x4→ρ 5=x5→WA C Tryd.f31 t31 159 [] Q ρ h
def B_ssa_Order_R5 (C:Cfg)(Q:QP1)(x1 x3 x4 x5:V)(h:Hp):Prop:=
 J_ssa_Order_L0 C Q x1 x3 x4 x5 h
theorem j_ssa_Order_R5 {C:Cfg}{Q:QP1}{x1 x3 x4 x5:V}{h:Hp}(H:B_ssa_Order_R5 C Q x1 x3 x4 x5 h):J_ssa_Order_R5 C Q x1 x3 x4 x5 h:=by
 rintro ρ rfl rfl rfl rfl
 exact WA.of (by kernel_rfl) H
def B_ssa_Order_L0 (C:Cfg)(Q:QP1)(KL0:QP4)(x1 x3 x4 x5:V)(h:Hp):Prop:=
 oP (pLen x5) fun v24=>
 oP (hbin .gtr 3 v24 (V.int .i64 0)) fun v25=>
 bP v25 (
 oP (pLen x5) fun v28=>
 oP (hbin .sub 3 v28 (V.int .i64 1)) fun v29=>
 oP (pIx 2 x5 v29) fun v30=>
 oP (pFA 3 x1) fun v31=>
 oP (pLd v31 h) fun v32=>
 oP (pNil v30) fun v34=>
 oP (pFA 0 v34) fun v35=>
 oP (pLd v35 h) fun v36=>
 oP (pIx 6 v32 v36) fun v37=>
 oP (pFA 3 v37) fun v38=>
 oP (pLd v38 h) fun v39=>
 oP (pNil v30) fun v41=>
 oP (pFA 1 v41) fun v42=>
 oP (pLd v42 h) fun v43=>
 oP (pLen v39) fun v45=>
 oP (hbin .eql 3 v43 v45) fun v46=>
 bP v46 (
 oP (pNil v30) fun v49=>
 oP (pFA 0 v49) fun v50=>
 oP (pLd v50 h) fun v51=>
 alP (pBS 3 1 1 (V.int .i64 0) [(0,v51)]) h fun v52 h1=>
 valP (happend 3 1 8 x4 v52 h1) fun v53 h2=>
 oP (pLen x5) fun v56=>
 oP (hbin .sub 3 v56 (V.int .i64 1)) fun v57=>
 oP (hsliceV 2 x5 none (some v57) h2) fun v58=>
 KL0 x1 x3 v53 v58 h2) (
 oP (pNil v30) fun v61=>
 oP (pFA 1 v61) fun v62=>
 oP (pLd v62 h) fun v63=>
 oP (pIx 1 v39 v63) fun v64=>
 oP (pLd v64 h) fun v65=>
 oP (pNil v30) fun v67=>
 oP (pFA 1 v67) fun v68=>
 oP (pLd v68 h) fun v69=>
 oP (hbin .add 3 v69 (V.int .i64 1)) fun v70=>
 oP (pNil v30) fun v71=>
 oP (pFA 1 v71) fun v72=>
 valP (pSt 1 v72 v70 h) fun vu h3=>
 oP (pLen x3) fun v75=>
 cP C n_ssa_below [v65,v75] h3 fun v76 h4=>
 oP (pAnd v76 (oB (some x3) fun v78=>oB (some v65) fun v79=>oB (pIx 1 v78 v79) fun v80=>oB (pLd v80 h4) fun v81=>hun .not v81)) fun v83=>
 bP v83 (
 oP (pIx 1 x3 v65) fun v86=>
 valP (pSt 1 v86 (V.bool true) h4) fun vu_1 h5=>
 oP (pBuild [(V.int .i64 0),(V.int .i64 0)] [(0,1),(1,1)] [(0,v65),(1,(V.int .i64 0))]) fun v89=>
 alP (pBS 86 2 1 (V.agg [(V.int .i64 0),(V.int .i64 0)]) [(0,v89)]) h5 fun v90 h6=>
 valP (happend 86 2 16 x5 v90 h6) fun v91 h7=>
 KL0 x1 x3 x4 v91 h7) (
 KL0 x1 x3 x4 x5 h4))) (
 cP C n_slices_Reverse_int_int [x4] h fun v93 h8=>
 Q x4 h8)
theorem l_ssa_Order_L0 {C:Cfg}{Q:QP1}(I:Nat→QP4)(step:∀(k:Nat)(x1 x3 x4 x5:V)(h:Hp),I k x1 x3 x4 x5 h→B_ssa_Order_L0 C Q (fun x1 x3 x4 x5 h=>∃k',k' < k∧I k' x1 x3 x4 x5 h) x1 x3 x4 x5 h){k:Nat}{x1 x3 x4 x5:V}{h:Hp}(h0:I k x1 x3 x4 x5 h):J_ssa_Order_L0 C Q x1 x3 x4 x5 h:=by
 rintro ρ rfl rfl rfl rfl
 exact WA.loop (fun k ρ h=>I k (ρ 1) (ρ 3) (ρ 4) (ρ 5) h) (by kernel_rfl) (by kernel_rfl) (fun k ρ h hi=>LA.of (by kernel_rfl) (step k (ρ 1) (ρ 3) (ρ 4) (ρ 5) h hi)) h0
def B_ssa_Order (C:Cfg)(Q:QP1)(a0:V)(h:Hp):Prop:=
 alP (hbox 29 a0) h fun v1 h1=>
 oP (pFA 3 v1) fun v9=>
 oP (pLd v9 h1) fun v10=>
 oP (pLen v10) fun v11=>
 alP (hmakeSlice 4 1 1 (V.bool false) v11 v11) h1 fun v12 h2=>
 oP (pFA 3 v1) fun v13=>
 oP (pLd v13 h2) fun v14=>
 oP (pLen v14) fun v15=>
 oP (hbin .gtr 3 v15 (V.int .i64 0)) fun v16=>
 bP v16 (
 oP (pBuild [(V.int .i64 0),(V.int .i64 0)] [(0,1),(1,1)] []) fun v19=>
 alP (pBS 86 2 1 (V.agg [(V.int .i64 0),(V.int .i64 0)]) [(0,v19)]) h2 fun v20 h3=>
 valP (happend 86 2 16 V.nilSlice v20 h3) fun v21 h4=>
 oP (pIx 1 v12 (V.int .i64 0)) fun v22=>
 valP (pSt 1 v22 (V.bool true) h4) fun vu h5=>
 J_ssa_Order_R5 C Q v1 v12 V.nilSlice v21 h5) (
 J_ssa_Order_R5 C Q v1 v12 V.nilSlice V.nilSlice h2)
theorem c_ssa_Order {C:Cfg}(hs:C.start=startF){a0:V}{h:Hp}{Q:QP1}(hk:C.K n_ssa_Order [a0] h=none)(H:B_ssa_Order C Q a0 h):cP C n_ssa_Order [a0] h Q:=
 cP.vc (tb:=t31) hs (by unfold P0;exact Tryd.func31) (by kernel_rfl) hk (by kernel_rfl) (by kernel_rfl) H
def t56:List (Nat×List Nat):=[(87,[3,13,14,15]),(22935,[3,4,13,14,15,21,22,23]),(498070,[3,4,13,14,15,21,22,23])]
def J_ssa_Ahead_L0 (C:Cfg)(Q:QP1)(x3 x13 x14 x15:V)(h:Hp):Prop:=∀ρ:Rho,ρ 3=x3→ρ 13=x13→ρ 14=x14→ρ 15=x15→WA C Tryd.f56 t56 43 [] Q ρ h
def J_ssa_Ahead_L1 (C:Cfg)(Q:QP1)(KL0:QP4)(x3 x4 x13 x14 x15 x21 x22 x23:V)(h:Hp):Prop:=∀ρ:Rho,ρ 3=x3→ρ 4=x4→ρ 13=x13→ρ 14=x14→ρ 15=x15→ρ 21=x21→ρ 22=x22→ρ 23=x23→WA C Tryd.f56 t56 11467 [fun ρ h=>KL0 (ρ 3) (ρ 13) (ρ 14) (ρ 15) h] Q ρ h
def J_ssa_Ahead_R13 (C:Cfg)(Q:QP1)(KL0:QP4)(KL1:QP8)(x3 x4 x13 x14 x15 x21 x22 x23:V)(h:Hp):Prop:=∀ρ:Rho,ρ 3=x3→ρ 4=x4→ρ 13=x13→ρ 14=x14→ρ 15=x15→ρ 21=x21→ρ 22=x22→ρ 23=x23→WA C Tryd.f56 t56 249035 [fun ρ h=>KL0 (ρ 3) (ρ 13) (ρ 14) (ρ 15) h,fun ρ h=>KL1 (ρ 3) (ρ 4) (ρ 13) (ρ 14) (ρ 15) (ρ 21) (ρ 22) (ρ 23) h] Q ρ h
def B_ssa_Ahead_L0 (C:Cfg)(Q:QP1)(KL0:QP4)(x3 x13 x14 x15:V)(h:Hp):Prop:=
 oP (hbin .lss 3 x15 x14) fun v16=>
 bP v16 (
 oP (pIx 6 x13 x15) fun v18=>
 oP (pLdA 6 v18 h) fun v19=>
 alP (some (.cells 36 1 true false [V.nilSlice,(V.int .i64 0),(V.int .i64 0),V.nilSlice,V.nilSlice,(V.int .i64 0)],fun l=> .ptr l 0)) h fun v5 h1=>
 valP (pSt 6 v5 v19 h1) fun vu h2=>
 oP (pFA 3 v5) fun v20=>
 oP (pLd v20 h2) fun v21=>
 oP (pLen v21) fun v22=>
 J_ssa_Ahead_L1 C Q KL0 x3 x15 x13 x14 x15 v21 v22 (V.int .i64 0) h2) (
 Q x3 h)
theorem l_ssa_Ahead_L0 {C:Cfg}{Q:QP1}(I:Nat→QP4)(step:∀(k:Nat)(x3 x13 x14 x15:V)(h:Hp),I k x3 x13 x14 x15 h→B_ssa_Ahead_L0 C Q (fun x3 x13 x14 x15 h=>∃k',k' < k∧I k' x3 x13 x14 x15 h) x3 x13 x14 x15 h){k:Nat}{x3 x13 x14 x15:V}{h:Hp}(h0:I k x3 x13 x14 x15 h):J_ssa_Ahead_L0 C Q x3 x13 x14 x15 h:=by
 rintro ρ rfl rfl rfl rfl
 exact WA.loop (fun k ρ h=>I k (ρ 3) (ρ 13) (ρ 14) (ρ 15) h) (by kernel_rfl) (by kernel_rfl) (fun k ρ h hi=>LA.of (by kernel_rfl) (step k (ρ 3) (ρ 13) (ρ 14) (ρ 15) h hi)) h0
def B_ssa_Ahead_L1 (C:Cfg)(Q:QP1)(KL0:QP4)(KL1:QP8)(x3 x4 x13 x14 x15 x21 x22 x23:V)(h:Hp):Prop:=
 oP (hbin .lss 3 x23 x22) fun v24=>
 bP v24 (
 oP (pIx 1 x21 x23) fun v25=>
 oP (pLd v25 h) fun v26=>
 oP (pLen x3) fun v29=>
 cP C n_ssa_below [v26,v29] h fun v30 h1=>
 bP v30 (
 oP (pIx 1 x3 v26) fun v35=>
 oP (pLd v35 h1) fun v36=>
 alP (pBS 3 1 1 (V.int .i64 0) [(0,x4)]) h1 fun v38 h2=>
 valP (happend 3 1 8 v36 v38 h2) fun v39 h3=>
 oP (pIx 1 x3 v26) fun v40=>
 valP (pSt 1 v40 v39 h3) fun vu h4=>
 J_ssa_Ahead_R13 C Q KL0 KL1 x3 x4 x13 x14 x15 x21 x22 x23 h4) (
 J_ssa_Ahead_R13 C Q KL0 KL1 x3 x4 x13 x14 x15 x21 x22 x23 h1)) (
 oP (hbin .add 3 x15 (V.int .i64 1)) fun v42=>
 KL0 x3 x13 x14 v42 h)
theorem l_ssa_Ahead_L1 {C:Cfg}{Q:QP1}{KL0:QP4}(I:Nat→QP8)(step:∀(k:Nat)(x3 x4 x13 x14 x15 x21 x22 x23:V)(h:Hp),I k x3 x4 x13 x14 x15 x21 x22 x23 h→B_ssa_Ahead_L1 C Q KL0 (fun x3 x4 x13 x14 x15 x21 x22 x23 h=>∃k',k' < k∧I k' x3 x4 x13 x14 x15 x21 x22 x23 h) x3 x4 x13 x14 x15 x21 x22 x23 h){k:Nat}{x3 x4 x13 x14 x15 x21 x22 x23:V}{h:Hp}(h0:I k x3 x4 x13 x14 x15 x21 x22 x23 h):J_ssa_Ahead_L1 C Q KL0 x3 x4 x13 x14 x15 x21 x22 x23 h:=by
 rintro ρ rfl rfl rfl rfl rfl rfl rfl rfl
 exact WA.loop (fun k ρ h=>I k (ρ 3) (ρ 4) (ρ 13) (ρ 14) (ρ 15) (ρ 21) (ρ 22) (ρ 23) h) (by kernel_rfl) (by kernel_rfl) (fun k ρ h hi=>LA.of (by kernel_rfl) (step k (ρ 3) (ρ 4) (ρ 13) (ρ 14) (ρ 15) (ρ 21) (ρ 22) (ρ 23) h hi)) h0
def B_ssa_Ahead_R13 (C:Cfg)(Q:QP1)(KL0:QP4)(KL1:QP8)(x3 x4 x13 x14 x15 x21 x22 x23:V)(h:Hp):Prop:=
 oP (hbin .add 3 x23 (V.int .i64 1)) fun v41=>
 KL1 x3 x4 x13 x14 x15 x21 x22 v41 h
theorem j_ssa_Ahead_R13 {C:Cfg}{Q:QP1}{KL0:QP4}{KL1:QP8}{x3 x4 x13 x14 x15 x21 x22 x23:V}{h:Hp}(H:B_ssa_Ahead_R13 C Q KL0 KL1 x3 x4 x13 x14 x15 x21 x22 x23 h):J_ssa_Ahead_R13 C Q KL0 KL1 x3 x4 x13 x14 x15 x21 x22 x23 h:=by
 rintro ρ rfl rfl rfl rfl rfl rfl rfl rfl
 exact WA.of (by kernel_rfl) H
def B_ssa_Ahead (C:Cfg)(Q:QP1)(a0:V)(h:Hp):Prop:=
 alP (hbox 29 a0) h fun v1 h1=>
 oP (pFA 3 v1) fun v8=>
 oP (pLd v8 h1) fun v9=>
 oP (pLen v9) fun v10=>
 alP (hmakeSlice 22 1 24 V.nilSlice v10 v10) h1 fun v11 h2=>
 oP (pFA 3 v1) fun v12=>
 oP (pLd v12 h2) fun v13=>
 oP (pLen v13) fun v14=>
 J_ssa_Ahead_L0 C Q v11 v13 v14 (V.int .i64 0) h2
theorem c_ssa_Ahead {C:Cfg}(hs:C.start=startF){a0:V}{h:Hp}{Q:QP1}(hk:C.K n_ssa_Ahead [a0] h=none)(H:B_ssa_Ahead C Q a0 h):cP C n_ssa_Ahead [a0] h Q:=
 cP.vc (tb:=t56) hs (by unfold P0;exact Tryd.func56) (by kernel_rfl) hk (by kernel_rfl) (by kernel_rfl) H
def t42:List (Nat×List Nat):=[(175,[3,4,5,6,30,31]),(351,[3,4,5,6,38,39,40]),(5631,[3,4,5,10,11]),(370175,[3,4,5,10,11,59,60,61]),(362391039,[3,4,5,10,11,13,14,59,60,61,68,69,70]),(8147019262,[3,4,5,10,11,13,14,59,60,61,68,69,70]),(7972350,[3,4,5,10,11,59,60,61])]
def J_ssa_Dominators_L0 (C:Cfg)(Q:QP1)(x3 x4 x5 x6 x30 x31:V)(h:Hp):Prop:=∀ρ:Rho,ρ 3=x3→ρ 4=x4→ρ 5=x5→ρ 6=x6→ρ 30=x30→ρ 31=x31→WA C Tryd.f42 t42 87 [] Q ρ h
def J_ssa_Dominators_L1 (C:Cfg)(Q:QP1)(x3 x4 x5 x6 x38 x39 x40:V)(h:Hp):Prop:=∀ρ:Rho,ρ 3=x3→ρ 4=x4→ρ 5=x5→ρ 6=x6→ρ 38=x38→ρ 39=x39→ρ 40=x40→WA C Tryd.f42 t42 175 [] Q ρ h
def J_ssa_Dominators_L2 (C:Cfg)(Q:QP1)(x3 x4 x5 x10 x11:V)(h:Hp):Prop:=∀ρ:Rho,ρ 3=x3→ρ 4=x4→ρ 5=x5→ρ 10=x10→ρ 11=x11→WA C Tryd.f42 t42 2815 [] Q ρ h
def J_ssa_Dominators_L3 (C:Cfg)(Q:QP1)(KL2:QP5)(x3 x4 x5 x10 x11 x59 x60 x61:V)(h:Hp):Prop:=∀ρ:Rho,ρ 3=x3→ρ 4=x4→ρ 5=x5→ρ 10=x10→ρ 11=x11→ρ 59=x59→ρ 60=x60→ρ 61=x61→WA C Tryd.f42 t42 185087 [fun ρ h=>KL2 (ρ 3) (ρ 4) (ρ 5) (ρ 10) (ρ 11) h] Q ρ h
def J_ssa_Dominators_L4 (C:Cfg)(Q:QP1)(KL2:QP5)(KL3:QP8)(x3 x4 x5 x10 x11 x13 x14 x59 x60 x61 x68 x69 x70:V)(h:Hp):Prop:=∀ρ:Rho,ρ 3=x3→ρ 4=x4→ρ 5=x5→ρ 10=x10→ρ 11=x11→ρ 13=x13→ρ 14=x14→ρ 59=x59→ρ 60=x60→ρ 61=x61→ρ 68=x68→ρ 69=x69→ρ 70=x70→WA C Tryd.f42 t42 181195519 [fun ρ h=>KL2 (ρ 3) (ρ 4) (ρ 5) (ρ 10) (ρ 11) h,fun ρ h=>KL3 (ρ 3) (ρ 4) (ρ 5) (ρ 10) (ρ 11) (ρ 59) (ρ 60) (ρ 61) h] Q ρ h
def J_ssa_Dominators_R39 (C:Cfg)(Q:QP1)(KL2:QP5)(KL3:QP8)(KL4:QP13)(x3 x4 x5 x10 x11 x13 x14 x59 x60 x61 x68 x69 x70:V)(h:Hp):Prop:=∀ρ:Rho,ρ 3=x3→ρ 4=x4→ρ 5=x5→ρ 10=x10→ρ 11=x11→ρ 13=x13→ρ 14=x14→ρ 59=x59→ρ 60=x60→ρ 61=x61→ρ 68=x68→ρ 69=x69→ρ 70=x70→WA C Tryd.f42 t42 4073509631 [fun ρ h=>KL2 (ρ 3) (ρ 4) (ρ 5) (ρ 10) (ρ 11) h,fun ρ h=>KL3 (ρ 3) (ρ 4) (ρ 5) (ρ 10) (ρ 11) (ρ 59) (ρ 60) (ρ 61) h,fun ρ h=>KL4 (ρ 3) (ρ 4) (ρ 5) (ρ 10) (ρ 11) (ρ 13) (ρ 14) (ρ 59) (ρ 60) (ρ 61) (ρ 68) (ρ 69) (ρ 70) h] Q ρ h
def J_ssa_Dominators_R31 (C:Cfg)(Q:QP1)(KL2:QP5)(KL3:QP8)(x3 x4 x5 x10 x11 x59 x60 x61:V)(h:Hp):Prop:=∀ρ:Rho,ρ 3=x3→ρ 4=x4→ρ 5=x5→ρ 10=x10→ρ 11=x11→ρ 59=x59→ρ 60=x60→ρ 61=x61→WA C Tryd.f42 t42 3986175 [fun ρ h=>KL2 (ρ 3) (ρ 4) (ρ 5) (ρ 10) (ρ 11) h,fun ρ h=>KL3 (ρ 3) (ρ 4) (ρ 5) (ρ 10) (ρ 11) (ρ 59) (ρ 60) (ρ 61) h] Q ρ h
def B_ssa_Dominators_L0 (C:Cfg)(Q:QP1)(KL0:QP6)(x3 x4 x5 x6 x30 x31:V)(h:Hp):Prop:=
 oP (hbin .lss 3 x31 x30) fun v32=>
 bP v32 (
 oP (pLd x5 h) fun v34=>
 oP (pIx 1 v34 x31) fun v36=>
 valP (pSt 1 v36 (V.int .i64 (-1)) h) fun vu h1=>
 oP (hbin .add 3 x31 (V.int .i64 1)) fun v37=>
 KL0 x3 x4 x5 x6 x30 v37 h1) (
 oP (pLen x3) fun v39=>
 J_ssa_Dominators_L1 C Q x3 x4 x5 x6 x3 v39 (V.int .i64 0) h)
theorem l_ssa_Dominators_L0 {C:Cfg}{Q:QP1}(I:Nat→QP6)(step:∀(k:Nat)(x3 x4 x5 x6 x30 x31:V)(h:Hp),I k x3 x4 x5 x6 x30 x31 h→B_ssa_Dominators_L0 C Q (fun x3 x4 x5 x6 x30 x31 h=>∃k',k' < k∧I k' x3 x4 x5 x6 x30 x31 h) x3 x4 x5 x6 x30 x31 h){k:Nat}{x3 x4 x5 x6 x30 x31:V}{h:Hp}(h0:I k x3 x4 x5 x6 x30 x31 h):J_ssa_Dominators_L0 C Q x3 x4 x5 x6 x30 x31 h:=by
 rintro ρ rfl rfl rfl rfl rfl rfl
 exact WA.loop (fun k ρ h=>I k (ρ 3) (ρ 4) (ρ 5) (ρ 6) (ρ 30) (ρ 31) h) (by kernel_rfl) (by kernel_rfl) (fun k ρ h hi=>LA.of (by kernel_rfl) (step k (ρ 3) (ρ 4) (ρ 5) (ρ 6) (ρ 30) (ρ 31) h hi)) h0
def B_ssa_Dominators_L1 (C:Cfg)(Q:QP1)(KL1:QP7)(x3 x4 x5 x6 x38 x39 x40:V)(h:Hp):Prop:=
 oP (hbin .lss 3 x40 x39) fun v41=>
 bP v41 (
 oP (pIx 1 x38 x40) fun v43=>
 oP (pLd v43 h) fun v44=>
 oP (pLd x6 h) fun v45=>
 oP (pIx 1 v45 v44) fun v48=>
 valP (pSt 1 v48 x40 h) fun vu h1=>
 oP (hbin .add 3 x40 (V.int .i64 1)) fun v49=>
 KL1 x3 x4 x5 x6 x38 x39 v49 h1) (
 oP (pLen x3) fun v51=>
 oP (hbin .eql 3 v51 (V.int .i64 0)) fun v52=>
 bP v52 (
 oP (pLd x5 h) fun v53=>
 Q v53 h) (
 oP (pLd x5 h) fun v54=>
 oP (pIx 1 v54 (V.int .i64 0)) fun v55=>
 valP (pSt 1 v55 (V.int .i64 0) h) fun vu_1 h2=>
 J_ssa_Dominators_L2 C Q x3 x4 x5 (V.func n_ssa_Dominators_1 [] [x6,x5]) (V.bool true) h2))
theorem l_ssa_Dominators_L1 {C:Cfg}{Q:QP1}(I:Nat→QP7)(step:∀(k:Nat)(x3 x4 x5 x6 x38 x39 x40:V)(h:Hp),I k x3 x4 x5 x6 x38 x39 x40 h→B_ssa_Dominators_L1 C Q (fun x3 x4 x5 x6 x38 x39 x40 h=>∃k',k' < k∧I k' x3 x4 x5 x6 x38 x39 x40 h) x3 x4 x5 x6 x38 x39 x40 h){k:Nat}{x3 x4 x5 x6 x38 x39 x40:V}{h:Hp}(h0:I k x3 x4 x5 x6 x38 x39 x40 h):J_ssa_Dominators_L1 C Q x3 x4 x5 x6 x38 x39 x40 h:=by
 rintro ρ rfl rfl rfl rfl rfl rfl rfl
 exact WA.loop (fun k ρ h=>I k (ρ 3) (ρ 4) (ρ 5) (ρ 6) (ρ 38) (ρ 39) (ρ 40) h) (by kernel_rfl) (by kernel_rfl) (fun k ρ h hi=>LA.of (by kernel_rfl) (step k (ρ 3) (ρ 4) (ρ 5) (ρ 6) (ρ 38) (ρ 39) (ρ 40) h hi)) h0
def B_ssa_Dominators_L2 (C:Cfg)(Q:QP1)(KL2:QP5)(x3 x4 x5 x10 x11:V)(h:Hp):Prop:=
 bP x11 (
 oP (hsliceV 1 x3 (some (V.int .i64 1)) none h) fun v59=>
 oP (pLen v59) fun v60=>
 J_ssa_Dominators_L3 C Q KL2 x3 x4 x5 x10 (V.bool false) v59 v60 (V.int .i64 0) h) (
 oP (pLd x5 h) fun v100=>
 oP (pIx 1 v100 (V.int .i64 0)) fun v101=>
 valP (pSt 1 v101 (V.int .i64 (-1)) h) fun vu h1=>
 oP (pLd x5 h1) fun v102=>
 Q v102 h1)
theorem l_ssa_Dominators_L2 {C:Cfg}{Q:QP1}(I:Nat→QP5)(step:∀(k:Nat)(x3 x4 x5 x10 x11:V)(h:Hp),I k x3 x4 x5 x10 x11 h→B_ssa_Dominators_L2 C Q (fun x3 x4 x5 x10 x11 h=>∃k',k' < k∧I k' x3 x4 x5 x10 x11 h) x3 x4 x5 x10 x11 h){k:Nat}{x3 x4 x5 x10 x11:V}{h:Hp}(h0:I k x3 x4 x5 x10 x11 h):J_ssa_Dominators_L2 C Q x3 x4 x5 x10 x11 h:=by
 rintro ρ rfl rfl rfl rfl rfl
 exact WA.loop (fun k ρ h=>I k (ρ 3) (ρ 4) (ρ 5) (ρ 10) (ρ 11) h) (by kernel_rfl) (by kernel_rfl) (fun k ρ h hi=>LA.of (by kernel_rfl) (step k (ρ 3) (ρ 4) (ρ 5) (ρ 10) (ρ 11) h hi)) h0
def B_ssa_Dominators_L3 (C:Cfg)(Q:QP1)(KL2:QP5)(KL3:QP8)(x3 x4 x5 x10 x11 x59 x60 x61:V)(h:Hp):Prop:=
 oP (hbin .lss 3 x61 x60) fun v62=>
 bP v62 (
 oP (pIx 1 x59 x61) fun v63=>
 oP (pLd v63 h) fun v64=>
 oP (pIx 1 x4 v64) fun v67=>
 oP (pLd v67 h) fun v68=>
 oP (pLen v68) fun v69=>
 J_ssa_Dominators_L4 C Q KL2 KL3 x3 x4 x5 x10 x11 v64 (V.int .i64 (-1)) x59 x60 x61 v68 v69 (V.int .i64 0) h) (
 KL2 x3 x4 x5 x10 x11 h)
theorem l_ssa_Dominators_L3 {C:Cfg}{Q:QP1}{KL2:QP5}(I:Nat→QP8)(step:∀(k:Nat)(x3 x4 x5 x10 x11 x59 x60 x61:V)(h:Hp),I k x3 x4 x5 x10 x11 x59 x60 x61 h→B_ssa_Dominators_L3 C Q KL2 (fun x3 x4 x5 x10 x11 x59 x60 x61 h=>∃k',k' < k∧I k' x3 x4 x5 x10 x11 x59 x60 x61 h) x3 x4 x5 x10 x11 x59 x60 x61 h){k:Nat}{x3 x4 x5 x10 x11 x59 x60 x61:V}{h:Hp}(h0:I k x3 x4 x5 x10 x11 x59 x60 x61 h):J_ssa_Dominators_L3 C Q KL2 x3 x4 x5 x10 x11 x59 x60 x61 h:=by
 rintro ρ rfl rfl rfl rfl rfl rfl rfl rfl
 exact WA.loop (fun k ρ h=>I k (ρ 3) (ρ 4) (ρ 5) (ρ 10) (ρ 11) (ρ 59) (ρ 60) (ρ 61) h) (by kernel_rfl) (by kernel_rfl) (fun k ρ h hi=>LA.of (by kernel_rfl) (step k (ρ 3) (ρ 4) (ρ 5) (ρ 10) (ρ 11) (ρ 59) (ρ 60) (ρ 61) h hi)) h0
def B_ssa_Dominators_L4 (C:Cfg)(Q:QP1)(KL2:QP5)(KL3:QP8)(KL4:QP13)(x3 x4 x5 x10 x11 x13 x14 x59 x60 x61 x68 x69 x70:V)(h:Hp):Prop:=
 oP (hbin .lss 3 x70 x69) fun v71=>
 bP v71 (
 oP (pIx 1 x68 x70) fun v72=>
 oP (pLd v72 h) fun v73=>
 oP (pLd x5 h) fun v79=>
 oP (pIx 1 v79 v73) fun v81=>
 oP (pLd v81 h) fun v82=>
 oP (hbin .lss 3 v82 (V.int .i64 0)) fun v83=>
 bP v83 (
 J_ssa_Dominators_R39 C Q KL2 KL3 KL4 x3 x4 x5 x10 x11 x13 x14 x59 x60 x61 x68 x69 x70 h) (
 oP (hbin .lss 3 x14 (V.int .i64 0)) fun v86=>
 bP v86 (
 J_ssa_Dominators_R39 C Q KL2 KL3 KL4 x3 x4 x5 x10 x11 x13 v73 x59 x60 x61 x68 x69 x70 h) (
 calP C (hcall x10 [x14,v73]) h fun v77 h1=>
 J_ssa_Dominators_R39 C Q KL2 KL3 KL4 x3 x4 x5 x10 x11 x13 v77 x59 x60 x61 x68 x69 x70 h1))) (
 oP (pLd x5 h) fun v89=>
 oP (pIx 1 v89 x13) fun v91=>
 oP (pLd v91 h) fun v92=>
 oP (hbin .neq 3 v92 x14) fun v94=>
 bP v94 (
 oP (pLd x5 h) fun v95=>
 oP (pIx 1 v95 x13) fun v98=>
 valP (pSt 1 v98 x14 h) fun vu h2=>
 J_ssa_Dominators_R31 C Q KL2 KL3 x3 x4 x5 x10 (V.bool true) x59 x60 x61 h2) (
 J_ssa_Dominators_R31 C Q KL2 KL3 x3 x4 x5 x10 x11 x59 x60 x61 h))
theorem l_ssa_Dominators_L4 {C:Cfg}{Q:QP1}{KL2:QP5}{KL3:QP8}(I:Nat→QP13)(step:∀(k:Nat)(x3 x4 x5 x10 x11 x13 x14 x59 x60 x61 x68 x69 x70:V)(h:Hp),I k x3 x4 x5 x10 x11 x13 x14 x59 x60 x61 x68 x69 x70 h→B_ssa_Dominators_L4 C Q KL2 KL3 (fun x3 x4 x5 x10 x11 x13 x14 x59 x60 x61 x68 x69 x70 h=>∃k',k' < k∧I k' x3 x4 x5 x10 x11 x13 x14 x59 x60 x61 x68 x69 x70 h) x3 x4 x5 x10 x11 x13 x14 x59 x60 x61 x68 x69 x70 h){k:Nat}{x3 x4 x5 x10 x11 x13 x14 x59 x60 x61 x68 x69 x70:V}{h:Hp}(h0:I k x3 x4 x5 x10 x11 x13 x14 x59 x60 x61 x68 x69 x70 h):J_ssa_Dominators_L4 C Q KL2 KL3 x3 x4 x5 x10 x11 x13 x14 x59 x60 x61 x68 x69 x70 h:=by
 rintro ρ rfl rfl rfl rfl rfl rfl rfl rfl rfl rfl rfl rfl rfl
 exact WA.loop (fun k ρ h=>I k (ρ 3) (ρ 4) (ρ 5) (ρ 10) (ρ 11) (ρ 13) (ρ 14) (ρ 59) (ρ 60) (ρ 61) (ρ 68) (ρ 69) (ρ 70) h) (by kernel_rfl) (by kernel_rfl) (fun k ρ h hi=>LA.of (by kernel_rfl) (step k (ρ 3) (ρ 4) (ρ 5) (ρ 10) (ρ 11) (ρ 13) (ρ 14) (ρ 59) (ρ 60) (ρ 61) (ρ 68) (ρ 69) (ρ 70) h hi)) h0
def B_ssa_Dominators_R39 (C:Cfg)(Q:QP1)(KL2:QP5)(KL3:QP8)(KL4:QP13)(x3 x4 x5 x10 x11 x13 x14 x59 x60 x61 x68 x69 x70:V)(h:Hp):Prop:=
 oP (hbin .add 3 x70 (V.int .i64 1)) fun v88=>
 KL4 x3 x4 x5 x10 x11 x13 x14 x59 x60 x61 x68 x69 v88 h
theorem j_ssa_Dominators_R39 {C:Cfg}{Q:QP1}{KL2:QP5}{KL3:QP8}{KL4:QP13}{x3 x4 x5 x10 x11 x13 x14 x59 x60 x61 x68 x69 x70:V}{h:Hp}(H:B_ssa_Dominators_R39 C Q KL2 KL3 KL4 x3 x4 x5 x10 x11 x13 x14 x59 x60 x61 x68 x69 x70 h):J_ssa_Dominators_R39 C Q KL2 KL3 KL4 x3 x4 x5 x10 x11 x13 x14 x59 x60 x61 x68 x69 x70 h:=by
 rintro ρ rfl rfl rfl rfl rfl rfl rfl rfl rfl rfl rfl rfl rfl
 exact WA.of (by kernel_rfl) H
def B_ssa_Dominators_R31 (C:Cfg)(Q:QP1)(KL2:QP5)(KL3:QP8)(x3 x4 x5 x10 x11 x59 x60 x61:V)(h:Hp):Prop:=
 oP (hbin .add 3 x61 (V.int .i64 1)) fun v99=>
 KL3 x3 x4 x5 x10 x11 x59 x60 v99 h
theorem j_ssa_Dominators_R31 {C:Cfg}{Q:QP1}{KL2:QP5}{KL3:QP8}{x3 x4 x5 x10 x11 x59 x60 x61:V}{h:Hp}(H:B_ssa_Dominators_R31 C Q KL2 KL3 x3 x4 x5 x10 x11 x59 x60 x61 h):J_ssa_Dominators_R31 C Q KL2 KL3 x3 x4 x5 x10 x11 x59 x60 x61 h:=by
 rintro ρ rfl rfl rfl rfl rfl rfl rfl rfl
 exact WA.of (by kernel_rfl) H
def B_ssa_Dominators (C:Cfg)(Q:QP1)(a0:V)(h:Hp):Prop:=
 alP (hbox 29 a0) h fun v1 h1=>
 oP (pLdA 5 v1 h1) fun v17=>
 oP (pLdA 5 v1 h1) fun v19=>
 cP C n_ssa_Order [v17] h1 fun v18 h2=>
 (h1.next≤h2.next∧
 ((pLdA 5 v1 h2=some v19)∧
 cP C n_ssa_Ahead [v19] h2 fun v20 h3=>
 (h2.next≤h3.next∧
 oP (pFA 3 v1) fun v21=>
 oP (pLd v21 h3) fun v22=>
 oP (pLen v22) fun v23=>
 alO (hmakeSlice 3 1 8 (V.int .i64 0) v23 v23) h3 fun o3 v24 h4=>
 oP (pFA 3 v1) fun v25=>
 oP (pLd v25 h4) fun v26=>
 oP (pLen v26) fun v27=>
 alO (hmakeSlice 3 1 8 (V.int .i64 0) v27 v27) h4 fun o7 v28 h5=>
 alO (some (.cells 22 1 true false [V.nilSlice],fun l=> .ptr l 0)) h5 fun o8 v5 h6=>
 alO (some (.cells 22 1 true false [V.nilSlice],fun l=> .ptr l 0)) h6 fun o9 v6 h7=>
 ((h7.get (h6.next)=some o9∧O.beq o9 o9=true)∧
 ((h7.get (h5.next)=some o8∧O.beq o8 o8=true)∧
 ((h7.get (h4.next)=some o7∧O.beq o7 o7=true)∧
 ((pLd v25 h7=some v26)∧
 ((h7.get (h3.next)=some o3∧O.beq o3 o3=true)∧
 ((pLd v21 h7=some v22)∧
 valP (pSt 1 v5 v24 h7) fun vu h8=>
 (h7.next≤h8.next∧
 ((h8.get (h4.next)=some o7∧O.beq o7 o7=true)∧
 ((pLd v25 h8=some v26)∧
 valP (pSt 1 v6 v28 h8) fun vu_1 h9=>
 (h8.next≤h9.next∧
 oP (pLd v5 h9) fun v29=>
 oP (pLen v29) fun v30=>
 J_ssa_Dominators_L0 C Q v18 v20 v5 v6 v30 (V.int .i64 0) h9)))))))))))))
theorem c_ssa_Dominators {C:Cfg}(hs:C.start=startF){a0:V}{h:Hp}{Q:QP1}(hk:C.K n_ssa_Dominators [a0] h=none)(H:B_ssa_Dominators C Q a0 h):cP C n_ssa_Dominators [a0] h Q:=
 cP.vc (tb:=t42) hs (by unfold P0;exact Tryd.func42) (by kernel_rfl) hk (by kernel_rfl) (by kernel_rfl) H
def t58:List (Nat×List Nat):=[(19,[0,1,2,3])]
def J_ssa_Dominators_1_L0 (C:Cfg)(Q:QP1)(x0 x1 x2 x3:V)(h:Hp):Prop:=∀ρ:Rho,ρ 0=x0→ρ 1=x1→ρ 2=x2→ρ 3=x3→WA C Tryd.f58 t58 9 [] Q ρ h
def B_ssa_Dominators_1_L0 (C:Cfg)(Q:QP1)(KL0:QP4)(x0 x1 x2 x3:V)(h:Hp):Prop:=
 oP (hbin .neq 3 x0 x1) fun v9=>
 bP v9 (
 oP (pLd x2 h) fun v10=>
 oP (pIx 1 v10 x0) fun v12=>
 oP (pLd v12 h) fun v13=>
 oP (pLd x2 h) fun v14=>
 oP (pIx 1 v14 x1) fun v16=>
 oP (pLd v16 h) fun v17=>
 oP (hbin .gtr 3 v13 v17) fun v18=>
 bP v18 (
 oP (pLd x3 h) fun v19=>
 oP (pIx 1 v19 x0) fun v21=>
 oP (pLd v21 h) fun v22=>
 KL0 v22 x1 x2 x3 h) (
 oP (pLd x3 h) fun v23=>
 oP (pIx 1 v23 x1) fun v25=>
 oP (pLd v25 h) fun v26=>
 KL0 x0 v26 x2 x3 h)) (
 Q x0 h)
theorem l_ssa_Dominators_1_L0 {C:Cfg}{Q:QP1}(I:Nat→QP4)(step:∀(k:Nat)(x0 x1 x2 x3:V)(h:Hp),I k x0 x1 x2 x3 h→B_ssa_Dominators_1_L0 C Q (fun x0 x1 x2 x3 h=>∃k',k' < k∧I k' x0 x1 x2 x3 h) x0 x1 x2 x3 h){k:Nat}{x0 x1 x2 x3:V}{h:Hp}(h0:I k x0 x1 x2 x3 h):J_ssa_Dominators_1_L0 C Q x0 x1 x2 x3 h:=by
 rintro ρ rfl rfl rfl rfl
 exact WA.loop (fun k ρ h=>I k (ρ 0) (ρ 1) (ρ 2) (ρ 3) h) (by kernel_rfl) (by kernel_rfl) (fun k ρ h hi=>LA.of (by kernel_rfl) (step k (ρ 0) (ρ 1) (ρ 2) (ρ 3) h hi)) h0
def B_ssa_Dominators_1 (C:Cfg)(Q:QP1)(a0 a1 a2 a3:V)(h:Hp):Prop:=
 J_ssa_Dominators_1_L0 C Q a0 a1 a2 a3 h
theorem c_ssa_Dominators_1 {C:Cfg}(hs:C.start=startF){a0 a1 a2 a3:V}{h:Hp}{Q:QP1}(hk:C.K n_ssa_Dominators_1 [a0,a1,a2,a3] h=none)(H:B_ssa_Dominators_1 C Q a0 a1 a2 a3 h):cP C n_ssa_Dominators_1 [a0,a1,a2,a3] h Q:=
 cP.vc (tb:=t58) hs (by unfold P0;exact Tryd.func58) (by kernel_rfl) hk (by kernel_rfl) (by kernel_rfl) H
def t35:List (Nat×List Nat):=[(43,[1,2,7])]
def J_ssa_checker_all_L0 (C:Cfg)(Q:QP1)(x1 x2 x7:V)(h:Hp):Prop:=∀ρ:Rho,ρ 1=x1→ρ 2=x2→ρ 7=x7→WA C Tryd.f35 t35 21 [] Q ρ h
def B_ssa_checker_all_L0 (C:Cfg)(Q:QP1)(KL0:QP3)(x1 x2 x7:V)(h:Hp):Prop:=
 oP (hbin .lss 3 x7 x1) fun v10=>
 bP v10 (
 calP C (hcall x2 [x7]) h fun v15 h1=>
 oP (hun .not v15) fun v16=>
 bP v16 (
 Q (V.bool false) h1) (
 oP (hbin .add 3 x7 (V.int .i64 1)) fun v12=>
 KL0 x1 x2 v12 h1)) (
 Q (V.bool true) h)
theorem l_ssa_checker_all_L0 {C:Cfg}{Q:QP1}(I:Nat→QP3)(step:∀(k:Nat)(x1 x2 x7:V)(h:Hp),I k x1 x2 x7 h→B_ssa_checker_all_L0 C Q (fun x1 x2 x7 h=>∃k',k' < k∧I k' x1 x2 x7 h) x1 x2 x7 h){k:Nat}{x1 x2 x7:V}{h:Hp}(h0:I k x1 x2 x7 h):J_ssa_checker_all_L0 C Q x1 x2 x7 h:=by
 rintro ρ rfl rfl rfl
 exact WA.loop (fun k ρ h=>I k (ρ 1) (ρ 2) (ρ 7) h) (by kernel_rfl) (by kernel_rfl) (fun k ρ h hi=>LA.of (by kernel_rfl) (step k (ρ 1) (ρ 2) (ρ 7) h hi)) h0
def B_ssa_checker_all (C:Cfg)(Q:QP1)(a0 a1 a2:V)(h:Hp):Prop:=
 J_ssa_checker_all_L0 C Q a1 a2 (V.int .i64 0) h
theorem c_ssa_checker_all {C:Cfg}(hs:C.start=startF){a0 a1 a2:V}{h:Hp}{Q:QP1}(hk:C.K n_ssa_checker_all [a0,a1,a2] h=none)(H:B_ssa_checker_all C Q a0 a1 a2 h):cP C n_ssa_checker_all [a0,a1,a2] h Q:=
 cP.vc (tb:=t35) hs (by unfold P0;exact Tryd.func35) (by kernel_rfl) hk (by kernel_rfl) (by kernel_rfl) H
def t50:List (Nat×List Nat):=[(43,[0,7,8,9]),(56522,[0,7,8,9,31])]
def J_ssa_checker_there_L0 (C:Cfg)(Q:QP1)(x0 x7 x8 x9:V)(h:Hp):Prop:=∀ρ:Rho,ρ 0=x0→ρ 7=x7→ρ 8=x8→ρ 9=x9→WA C Tryd.f50 t50 21 [] Q ρ h
def J_ssa_checker_there_R13 (C:Cfg)(Q:QP1)(KL0:QP4)(x0 x7 x8 x9 x31:V)(h:Hp):Prop:=∀ρ:Rho,ρ 0=x0→ρ 7=x7→ρ 8=x8→ρ 9=x9→ρ 31=x31→WA C Tryd.f50 t50 28261 [fun ρ h=>KL0 (ρ 0) (ρ 7) (ρ 8) (ρ 9) h] Q ρ h
def B_ssa_checker_there_L0 (C:Cfg)(Q:QP1)(KL0:QP4)(x0 x7 x8 x9:V)(h:Hp):Prop:=
 oP (hbin .lss 3 x9 x8) fun v10=>
 bP v10 (
 oP (pIx 1 x7 x9) fun v11=>
 oP (pLd v11 h) fun v12=>
 oP (pNil x0) fun v15=>
 oP (pFA 0 v15) fun v16=>
 oP (pFA 2 v16) fun v17=>
 oP (pLd v17 h) fun v18=>
 oP (pLen v18) fun v19=>
 cP C n_ssa_below [v12,v19] h fun v20 h1=>
 oP (hun .not v20) fun v21=>
 bP v21 (
 Q (V.bool false) h1) (
 oP (pNil x0) fun v23=>
 oP (pFA 0 v23) fun v24=>
 oP (pFA 2 v24) fun v25=>
 oP (pLd v25 h1) fun v26=>
 oP (pIx 6 v26 v12) fun v28=>
 oP (pFA 0 v28) fun v29=>
 oP (pLd v29 h1) fun v30=>
 oP (hbin .eql 3 v30 (V.int .i64 19)) fun v32=>
 bP v32 (
 J_ssa_checker_there_R13 C Q KL0 x0 x7 x8 x9 v32 h1) (
 oP (hbin .eql 3 v30 (V.int .i64 20)) fun v33=>
 bP v33 (
 J_ssa_checker_there_R13 C Q KL0 x0 x7 x8 x9 v33 h1) (
 oP (hbin .eql 3 v30 (V.int .i64 22)) fun v34=>
 bP v34 (
 J_ssa_checker_there_R13 C Q KL0 x0 x7 x8 x9 v34 h1) (
 oP (hbin .eql 3 v30 (V.int .i64 23)) fun v35=>
 J_ssa_checker_there_R13 C Q KL0 x0 x7 x8 x9 v35 h1))))) (
 Q (V.bool true) h)
theorem l_ssa_checker_there_L0 {C:Cfg}{Q:QP1}(I:Nat→QP4)(step:∀(k:Nat)(x0 x7 x8 x9:V)(h:Hp),I k x0 x7 x8 x9 h→B_ssa_checker_there_L0 C Q (fun x0 x7 x8 x9 h=>∃k',k' < k∧I k' x0 x7 x8 x9 h) x0 x7 x8 x9 h){k:Nat}{x0 x7 x8 x9:V}{h:Hp}(h0:I k x0 x7 x8 x9 h):J_ssa_checker_there_L0 C Q x0 x7 x8 x9 h:=by
 rintro ρ rfl rfl rfl rfl
 exact WA.loop (fun k ρ h=>I k (ρ 0) (ρ 7) (ρ 8) (ρ 9) h) (by kernel_rfl) (by kernel_rfl) (fun k ρ h hi=>LA.of (by kernel_rfl) (step k (ρ 0) (ρ 7) (ρ 8) (ρ 9) h hi)) h0
def B_ssa_checker_there_R13 (C:Cfg)(Q:QP1)(KL0:QP4)(x0 x7 x8 x9 x31:V)(h:Hp):Prop:=
 bP x31 (
 Q (V.bool false) h) (
 oP (hbin .add 3 x9 (V.int .i64 1)) fun v36=>
 KL0 x0 x7 x8 v36 h)
theorem j_ssa_checker_there_R13 {C:Cfg}{Q:QP1}{KL0:QP4}{x0 x7 x8 x9 x31:V}{h:Hp}(H:B_ssa_checker_there_R13 C Q KL0 x0 x7 x8 x9 x31 h):J_ssa_checker_there_R13 C Q KL0 x0 x7 x8 x9 x31 h:=by
 rintro ρ rfl rfl rfl rfl rfl
 exact WA.of (by kernel_rfl) H
def B_ssa_checker_there (C:Cfg)(Q:QP1)(a0 a1:V)(h:Hp):Prop:=
 oP (pLen a1) fun v8=>
 J_ssa_checker_there_L0 C Q a0 a1 v8 (V.int .i64 0) h
theorem c_ssa_checker_there {C:Cfg}(hs:C.start=startF){a0 a1:V}{h:Hp}{Q:QP1}(hk:C.K n_ssa_checker_there [a0,a1] h=none)(H:B_ssa_checker_there C Q a0 a1 h):cP C n_ssa_checker_there [a0,a1] h Q:=
 cP.vc (tb:=t50) hs (by unfold P0;exact Tryd.func50) (by kernel_rfl) hk (by kernel_rfl) (by kernel_rfl) H
def t36:List (Nat×List Nat):=[(175,[0,27,28,29])]
def J_ssa_checker_state_L0 (C:Cfg)(Q:QP1)(x0 x27 x28 x29:V)(h:Hp):Prop:=∀ρ:Rho,ρ 0=x0→ρ 27=x27→ρ 28=x28→ρ 29=x29→WA C Tryd.f36 t36 87 [] Q ρ h
def B_ssa_checker_state_L0 (C:Cfg)(Q:QP1)(KL0:QP4)(x0 x27 x28 x29:V)(h:Hp):Prop:=
 oP (hbin .lss 3 x29 x28) fun v30=>
 bP v30 (
 oP (pIx 4 x27 x29) fun v31=>
 oP (pLdA 4 v31 h) fun v32=>
 alP (some (.cells 57 1 true false [(V.int .i64 0),(V.int .i64 0),V.nilSlice,V.nilSlice],fun l=> .ptr l 0)) h fun v7 h1=>
 valP (pSt 4 v7 v32 h1) fun vu h2=>
 oP (pFA 2 v7) fun v33=>
 oP (pLd v33 h2) fun v34=>
 oP (pLen v34) fun v35=>
 oP (hbin .gtr 3 v35 (V.int .i64 40)) fun v36=>
 oP (pOr v36 (oB (pFA 3 v7) fun v38=>oB (pLd v38 h2) fun v39=>oB (pLen v39) fun v40=>hbin .gtr 3 v40 (V.int .i64 60))) fun v42=>
 oP (pGd false v42) fun b11=>
 oP (gV b11 (some x0)) fun v44=>
 oP (pGd false v42) fun b12=>
 oP (gV b12 (pFA 2 v7)) fun v45=>
 oP (pGd false v42) fun b13=>
 oP (gV b13 (pLd v45 h2)) fun v46=>
 oP (pGd false v42) fun b14=>
 oP (gC b14 (some (n_ssa_checker_there,[v44,v46]))) fun y14=>cgP C y14 h2 fun v47 h3=>
 oP (pOr v42 (hun .not v47)) fun v49=>
 oP (pGd false v49) fun b18=>
 oP (gV b18 (some x0)) fun v51=>
 oP (pGd false v49) fun b19=>
 oP (gV b19 (pFA 3 v7)) fun v52=>
 oP (pGd false v49) fun b20=>
 oP (gV b20 (pLd v52 h3)) fun v53=>
 oP (pGd false v49) fun b21=>
 oP (gC b21 (some (n_ssa_checker_there,[v51,v53]))) fun y21=>cgP C y21 h3 fun v54 h4=>
 oP (pOr v49 (hun .not v54)) fun v56=>
 bP v56 (
 Q (V.bool false) h4) (
 oP (hbin .add 3 x29 (V.int .i64 1)) fun v57=>
 KL0 x0 x27 x28 v57 h4)) (
 Q (V.bool true) h)
theorem l_ssa_checker_state_L0 {C:Cfg}{Q:QP1}(I:Nat→QP4)(step:∀(k:Nat)(x0 x27 x28 x29:V)(h:Hp),I k x0 x27 x28 x29 h→B_ssa_checker_state_L0 C Q (fun x0 x27 x28 x29 h=>∃k',k' < k∧I k' x0 x27 x28 x29 h) x0 x27 x28 x29 h){k:Nat}{x0 x27 x28 x29:V}{h:Hp}(h0:I k x0 x27 x28 x29 h):J_ssa_checker_state_L0 C Q x0 x27 x28 x29 h:=by
 rintro ρ rfl rfl rfl rfl
 exact WA.loop (fun k ρ h=>I k (ρ 0) (ρ 27) (ρ 28) (ρ 29) h) (by kernel_rfl) (by kernel_rfl) (fun k ρ h hi=>LA.of (by kernel_rfl) (step k (ρ 0) (ρ 27) (ρ 28) (ρ 29) h hi)) h0
def B_ssa_checker_state (C:Cfg)(Q:QP1)(a0 a1:V)(h:Hp):Prop:=
 oP (pNil a0) fun v9=>
 oP (pFA 0 v9) fun v10=>
 oP (pFA 4 v10) fun v11=>
 oP (pLd v11 h) fun v12=>
 oP (pIx 1 v12 a1) fun v14=>
 oP (pLdA 1 v14 h) fun v15=>
 alP (some (.cells 60 1 true false [V.nilSlice],fun l=> .ptr l 0)) h fun v5 h1=>
 valP (pSt 1 v5 v15 h1) fun vu h2=>
 oP (pFA 0 v5) fun v16=>
 oP (pLd v16 h2) fun v17=>
 oP (pLen v17) fun v18=>
 oP (hbin .eql 3 v18 (V.int .i64 0)) fun v19=>
 oP (pOr v19 (oB (pFA 0 v5) fun v21=>oB (pLd v21 h2) fun v22=>oB (pLen v22) fun v23=>hbin .gtr 3 v23 (V.int .i64 30))) fun v25=>
 bP v25 (
 Q (V.bool false) h2) (
 oP (pFA 0 v5) fun v26=>
 oP (pLd v26 h2) fun v27=>
 oP (pLen v27) fun v28=>
 J_ssa_checker_state_L0 C Q a0 v27 v28 (V.int .i64 0) h2)
theorem c_ssa_checker_state {C:Cfg}(hs:C.start=startF){a0 a1:V}{h:Hp}{Q:QP1}(hk:C.K n_ssa_checker_state [a0,a1] h=none)(H:B_ssa_checker_state C Q a0 a1 h):cP C n_ssa_checker_state [a0,a1] h Q:=
 cP.vc (tb:=t36) hs (by unfold P0;exact Tryd.func36) (by kernel_rfl) hk (by kernel_rfl) (by kernel_rfl) H
def t37:List (Nat×List Nat):=[(87,[0,36,37]),(351,[0,4,51,52,53]),(190047,[0,4,5,7,51,52,53,59,60,61])]
def J_ssa_checker_stand_L0 (C:Cfg)(Q:QP1)(x0 x36 x37:V)(h:Hp):Prop:=∀ρ:Rho,ρ 0=x0→ρ 36=x36→ρ 37=x37→WA C Tryd.f37 t37 43 [] Q ρ h
def J_ssa_checker_stand_L1 (C:Cfg)(Q:QP1)(x0 x4 x51 x52 x53:V)(h:Hp):Prop:=∀ρ:Rho,ρ 0=x0→ρ 4=x4→ρ 51=x51→ρ 52=x52→ρ 53=x53→WA C Tryd.f37 t37 175 [] Q ρ h
def J_ssa_checker_stand_L2 (C:Cfg)(Q:QP1)(KL1:QP5)(x0 x4 x5 x7 x51 x52 x53 x59 x60 x61:V)(h:Hp):Prop:=∀ρ:Rho,ρ 0=x0→ρ 4=x4→ρ 5=x5→ρ 7=x7→ρ 51=x51→ρ 52=x52→ρ 53=x53→ρ 59=x59→ρ 60=x60→ρ 61=x61→WA C Tryd.f37 t37 95023 [fun ρ h=>KL1 (ρ 0) (ρ 4) (ρ 51) (ρ 52) (ρ 53) h] Q ρ h
def B_ssa_checker_stand_L0 (C:Cfg)(Q:QP1)(KL0:QP3)(x0 x36 x37:V)(h:Hp):Prop:=
 oP (hbin .lss 3 x37 x36) fun v38=>
 bP v38 (
 oP (pNil x0) fun v41=>
 oP (pFA 5 v41) fun v42=>
 oP (pLd v42 h) fun v43=>
 oP (pIx 1 v43 x37) fun v45=>
 valP (pSt 1 v45 (V.int .i64 (-1)) h) fun vu h1=>
 oP (hbin .add 3 x37 (V.int .i64 1)) fun v46=>
 KL0 x0 x36 v46 h1) (
 oP (pNil x0) fun v48=>
 oP (pFA 0 v48) fun v49=>
 oP (pFA 3 v49) fun v50=>
 oP (pLd v50 h) fun v51=>
 oP (pLen v51) fun v52=>
 J_ssa_checker_stand_L1 C Q x0 (V.int .i64 0) v51 v52 (V.int .i64 0) h)
theorem l_ssa_checker_stand_L0 {C:Cfg}{Q:QP1}(I:Nat→QP3)(step:∀(k:Nat)(x0 x36 x37:V)(h:Hp),I k x0 x36 x37 h→B_ssa_checker_stand_L0 C Q (fun x0 x36 x37 h=>∃k',k' < k∧I k' x0 x36 x37 h) x0 x36 x37 h){k:Nat}{x0 x36 x37:V}{h:Hp}(h0:I k x0 x36 x37 h):J_ssa_checker_stand_L0 C Q x0 x36 x37 h:=by
 rintro ρ rfl rfl rfl
 exact WA.loop (fun k ρ h=>I k (ρ 0) (ρ 36) (ρ 37) h) (by kernel_rfl) (by kernel_rfl) (fun k ρ h hi=>LA.of (by kernel_rfl) (step k (ρ 0) (ρ 36) (ρ 37) h hi)) h0
def B_ssa_checker_stand_L1 (C:Cfg)(Q:QP1)(KL1:QP5)(x0 x4 x51 x52 x53:V)(h:Hp):Prop:=
 oP (hbin .lss 3 x53 x52) fun v54=>
 bP v54 (
 oP (pIx 6 x51 x53) fun v56=>
 oP (pLdA 6 v56 h) fun v57=>
 alP (some (.cells 36 1 true false [V.nilSlice,(V.int .i64 0),(V.int .i64 0),V.nilSlice,V.nilSlice,(V.int .i64 0)],fun l=> .ptr l 0)) h fun v6 h1=>
 valP (pSt 6 v6 v57 h1) fun vu h2=>
 oP (pFA 0 v6) fun v58=>
 oP (pLd v58 h2) fun v59=>
 oP (pLen v59) fun v60=>
 J_ssa_checker_stand_L2 C Q KL1 x0 x4 x53 (V.bool true) x51 x52 x53 v59 v60 (V.int .i64 0) h2) (
 oP (pNil x0) fun v136=>
 oP (pFA 0 v136) fun v137=>
 oP (pFA 2 v137) fun v138=>
 oP (pLd v138 h) fun v139=>
 oP (pLen v139) fun v140=>
 oP (hbin .eql 3 x4 v140) fun v141=>
 Q v141 h)
theorem l_ssa_checker_stand_L1 {C:Cfg}{Q:QP1}(I:Nat→QP5)(step:∀(k:Nat)(x0 x4 x51 x52 x53:V)(h:Hp),I k x0 x4 x51 x52 x53 h→B_ssa_checker_stand_L1 C Q (fun x0 x4 x51 x52 x53 h=>∃k',k' < k∧I k' x0 x4 x51 x52 x53 h) x0 x4 x51 x52 x53 h){k:Nat}{x0 x4 x51 x52 x53:V}{h:Hp}(h0:I k x0 x4 x51 x52 x53 h):J_ssa_checker_stand_L1 C Q x0 x4 x51 x52 x53 h:=by
 rintro ρ rfl rfl rfl rfl rfl
 exact WA.loop (fun k ρ h=>I k (ρ 0) (ρ 4) (ρ 51) (ρ 52) (ρ 53) h) (by kernel_rfl) (by kernel_rfl) (fun k ρ h hi=>LA.of (by kernel_rfl) (step k (ρ 0) (ρ 4) (ρ 51) (ρ 52) (ρ 53) h hi)) h0
def B_ssa_checker_stand_L2 (C:Cfg)(Q:QP1)(KL1:QP5)(KL2:QP10)(x0 x4 x5 x7 x51 x52 x53 x59 x60 x61:V)(h:Hp):Prop:=
 oP (hbin .lss 3 x61 x60) fun v62=>
 bP v62 (
 oP (pIx 1 x59 x61) fun v64=>
 oP (pLd v64 h) fun v65=>
 oP (pNil x0) fun v68=>
 oP (pFA 0 v68) fun v69=>
 oP (pFA 2 v69) fun v70=>
 oP (pLd v70 h) fun v71=>
 oP (pLen v71) fun v72=>
 cP C n_ssa_below [v65,v72] h fun v73 h1=>
 oP (hun .not v73) fun v74=>
 oP (pOr v74 (oB (some x0) fun v76=>oB (pNil v76) fun v77=>oB (pFA 5 v77) fun v78=>oB (pLd v78 h1) fun v79=>oB (some v65) fun v80=>oB (pIx 1 v79 v80) fun v81=>oB (pLd v81 h1) fun v82=>hbin .geq 3 v82 (V.int .i64 0))) fun v84=>
 bP v84 (
 Q (V.bool false) h1) (
 oP (pNil x0) fun v86=>
 oP (pFA 0 v86) fun v87=>
 oP (pFA 2 v87) fun v88=>
 oP (pLd v88 h1) fun v89=>
 oP (pIx 6 v89 v65) fun v91=>
 oP (pFA 0 v91) fun v92=>
 oP (pLd v92 h1) fun v93=>
 oP (hbin .eql 3 v93 (V.int .i64 21)) fun v95=>
 oP (pOr v95 (oB (some v93) fun v97=>hbin .eql 3 v97 (V.int .i64 1))) fun v99=>
 oP (pAnd v99 (oB (some x7) fun v102=>hun .not v102)) fun v104=>
 oP (pOr v104 (oB (some v93) fun v106=>oB (hbin .eql 3 v106 (V.int .i64 1)) fun v107=>oB (some x5) fun v108=>oB (hbin .eql 3 v108 (V.int .i64 0)) fun v109=>oB (hbin .neq 4 v107 v109) fun v110=>oB (some v110) fun v111=>pAnd v111 (some v99))) fun v114=>
 bP v114 (
 Q (V.bool false) h1) (
 oP (pNil x0) fun v117=>
 oP (pFA 5 v117) fun v118=>
 oP (pLd v118 h1) fun v119=>
 oP (pNil x0) fun v122=>
 oP (pFA 6 v122) fun v123=>
 oP (pLd v123 h1) fun v124=>
 oP (pIx 1 v119 v65) fun v128=>
 valP (pSt 1 v128 x5 h1) fun vu h2=>
 (h1.next≤h2.next∧
 oP (pIx 1 v124 v65) fun v129=>
 valP (pSt 1 v129 x61 h2) fun vu_1 h3=>
 (h2.next≤h3.next∧
 oP (hbin .add 3 x4 (V.int .i64 1)) fun v131=>
 oP (hbin .add 3 x61 (V.int .i64 1)) fun v132=>
 KL2 x0 v131 x5 v99 x51 x52 x53 x59 x60 v132 h3))))) (
 oP (hbin .add 3 x53 (V.int .i64 1)) fun v133=>
 KL1 x0 x4 x51 x52 v133 h)
theorem l_ssa_checker_stand_L2 {C:Cfg}{Q:QP1}{KL1:QP5}(I:Nat→QP10)(step:∀(k:Nat)(x0 x4 x5 x7 x51 x52 x53 x59 x60 x61:V)(h:Hp),I k x0 x4 x5 x7 x51 x52 x53 x59 x60 x61 h→B_ssa_checker_stand_L2 C Q KL1 (fun x0 x4 x5 x7 x51 x52 x53 x59 x60 x61 h=>∃k',k' < k∧I k' x0 x4 x5 x7 x51 x52 x53 x59 x60 x61 h) x0 x4 x5 x7 x51 x52 x53 x59 x60 x61 h){k:Nat}{x0 x4 x5 x7 x51 x52 x53 x59 x60 x61:V}{h:Hp}(h0:I k x0 x4 x5 x7 x51 x52 x53 x59 x60 x61 h):J_ssa_checker_stand_L2 C Q KL1 x0 x4 x5 x7 x51 x52 x53 x59 x60 x61 h:=by
 rintro ρ rfl rfl rfl rfl rfl rfl rfl rfl rfl rfl
 exact WA.loop (fun k ρ h=>I k (ρ 0) (ρ 4) (ρ 5) (ρ 7) (ρ 51) (ρ 52) (ρ 53) (ρ 59) (ρ 60) (ρ 61) h) (by kernel_rfl) (by kernel_rfl) (fun k ρ h hi=>LA.of (by kernel_rfl) (step k (ρ 0) (ρ 4) (ρ 5) (ρ 7) (ρ 51) (ρ 52) (ρ 53) (ρ 59) (ρ 60) (ρ 61) h hi)) h0
def B_ssa_checker_stand (C:Cfg)(Q:QP1)(a0:V)(h:Hp):Prop:=
 oP (pNil a0) fun v15=>
 oP (pFA 0 v15) fun v16=>
 oP (pFA 2 v16) fun v17=>
 oP (pLd v17 h) fun v18=>
 oP (pLen v18) fun v19=>
 alO (hmakeSlice 3 1 8 (V.int .i64 0) v19 v19) h fun o8 v20 h1=>
 oP (pNil a0) fun v22=>
 oP (pFA 0 v22) fun v23=>
 oP (pFA 2 v23) fun v24=>
 oP (pLd v24 h1) fun v25=>
 oP (pLen v25) fun v26=>
 alO (hmakeSlice 3 1 8 (V.int .i64 0) v26 v26) h1 fun o15 v27 h2=>
 oP (pNil a0) fun v28=>
 oP (pFA 5 v28) fun v29=>
 ((h2.get (h1.next)=some o15∧O.beq o15 o15=true)∧
 ((pLd v24 h2=some v25)∧
 ((h2.get (h.next)=some o8∧O.beq o8 o8=true)∧
 ((pLd v17 h2=some v18)∧
 valP (pSt 1 v29 v20 h2) fun vu h3=>
 (h2.next≤h3.next∧
 oP (pNil a0) fun v30=>
 oP (pFA 6 v30) fun v31=>
 ((h3.get (h1.next)=some o15∧O.beq o15 o15=true)∧
 valP (pSt 1 v31 v27 h3) fun vu_1 h4=>
 (h3.next≤h4.next∧
 oP (pNil a0) fun v33=>
 oP (pFA 5 v33) fun v34=>
 oP (pLd v34 h4) fun v35=>
 oP (pLen v35) fun v36=>
 J_ssa_checker_stand_L0 C Q a0 v36 (V.int .i64 0) h4)))))))
theorem c_ssa_checker_stand {C:Cfg}(hs:C.start=startF){a0:V}{h:Hp}{Q:QP1}(hk:C.K n_ssa_checker_stand [a0] h=none)(H:B_ssa_checker_stand C Q a0 h):cP C n_ssa_checker_stand [a0] h Q:=
 cP.vc (tb:=t37) hs (by unfold P0;exact Tryd.func37) (by kernel_rfl) hk (by kernel_rfl) (by kernel_rfl) H
section
variable (C:Cfg) (Q:X→Rho→Hp→Prop) (ρ:Rho) (h:Hp)
def k38:=bodyOf Tryd.f38
def k38R0:=k38.r
def k38R1:=k38.r.r
def k38R2:=k38.r.r.l.r
def k38R3:=k38.r.r.r
def q38_0:=andThen (Wp C 94 k38R3 Q) Q
def k38R4:=k38.r.r.l.r.l.r
def k38R5:=k38.r.r.r.l.r
def k38R6:=k38.r.r.r.r
def q55:=andThen (Wp C 94 k38R6 Q) Q
def k38R7:=k38.r.r.r.l.r.l.r
def q38_2 (C:Cfg)(Q:XQ):XQ:=blockQ 0 Q
def k38R8:=k38.r.r.r.r.r
def k38R9:=k38.r.r.r.l.r.l.r.l.r
def k38R10:=k38.r.r.r.l.r.l.r.r.r
def k38R11:=k38.r.r.r.l.r.l.r.r.r.l.r
def k38R12:=k38.r.r.r.l.r.l.r.r.r.r.r
def k38R13:=k38.r.r.r.l.r.l.r.r.r.r.r.l.r
theorem e38:codeR C 94 k38 Q ρ h=(oP (some (V.bool false)) fun v4=>
 Wp C 94 k38R0 Q (rset ρ 4 v4) h):=by kernel_rfl
theorem e38R0:codeR C 94 k38R0 Q ρ h=(oP (some (ρ 0)) fun v6=>
 oP (pNil v6) fun v7=>
 oP (pFA 0 v7) fun v8=>
 oP (pFA 2 v8) fun v9=>
 oP (pLd v9 h) fun v10=>
 oP (some (ρ 1)) fun v11=>
 oP (pIx 6 v10 v11) fun v12=>
 oP (pLdA 6 v12 h) fun v13=>
 alP (some (.cells 39 1 true false [(V.int .i64 0),(V.int .i64 0),(V.int .i64 0),(V.int .i64 0),V.nilSlice,(V.int .i64 0)],fun l=> .ptr l 0)) h fun v5 h1=>
 valP (pSt 6 v5 v13 h1) fun vu h2=>
 Wp C 94 k38R1 Q (rset (rset (rset (rset (rset (rset (rset (rset (rset ρ 6 v6) 7 v7) 8 v8) 9 v9) 10 v10) 11 v11) 12 v12) 13 v13) 5 v5) h2):=by kernel_rfl
theorem e38R1:codeR C 94 k38R1 Q ρ h=(oP (pFA 0 (ρ 5)) fun v14=>
 oP (pLd v14 h) fun v15=>
 ((pLd v14 h=some v15)∧
 ((pFA 0 (ρ 5)=some v14)∧
 dcP C n_ssa_Name [v15] h fun v16 h1=>
 (h.next≤h1.next∧
 oP (hbin .eql 9 v16 (V.str [])) fun v17=>
 oP (some v17) fun v18=>
 oP (pGd false v18) fun b5=>
 oP (gV b5 (some (ρ 0))) fun v19=>
 oP (pGd false v18) fun b6=>
 oP (gV b6 (pLdA 6 (ρ 5) h1)) fun v20=>
 ((gT b6 (pLdA 6 (ρ 5) h1=some v20))∧
 ((gT b5 (some (ρ 0)=some v19))∧
 ((some v17=some v18)∧
 ((hbin .eql 9 v16 (V.str [])=some v17)∧
 oP (pGd false v18) fun b7=>
 oP (gC b7 (some (n_ssa_Uses,[v20]))) fun x7=>cgP C x7 h1 fun v21 h2=>
 (h1.next≤h2.next∧
 ((gT b5 (some (ρ 0)=some v19))∧
 oP (pGd false v18) fun b8=>
 oP (gC b8 (some (n_ssa_checker_there,[v19,v21]))) fun x8=>cgP C x8 h2 fun v22 h3=>
 (h2.next≤h3.next∧
 oP (pGd false v18) fun b9=>
 oP (gV b9 (hun .not v22)) fun v23=>
 oP (pPick v18 (V.bool true) v23) fun v24=>
 oP (some v24) fun v25=>
 oP (pGd false v25) fun b12=>
 oP (gV b12 (pFA 0 (ρ 5))) fun v26=>
 oP (pGd false v25) fun b13=>
 oP (gV b13 (pLd v26 h3)) fun v27=>
 ((gT b13 (pLd v26 h3=some v27))∧
 ((gT b12 (pFA 0 (ρ 5)=some v26))∧
 ((some v24=some v25)∧
 ((pPick v18 (V.bool true) v23=some v24)∧
 ((gT b9 (hun .not v22=some v23))∧
 oP (pGd false v25) fun b14=>
 oP (gC b14 (some (n_ssa_leaves,[v27]))) fun x14=>cgP C x14 h3 fun v28 h4=>
 (h3.next≤h4.next∧
 oP (pGd false v25) fun b15=>
 oP (gV b15 (some v28)) fun v29=>
 oP (pGd true v29) fun b16=>
 oP (gV b16 (pFA 5 (ρ 5))) fun v30=>
 oP (pGd true v29) fun b17=>
 oP (gV b17 (pLd v30 h4)) fun v31=>
 oP (pGd true v29) fun b18=>
 oP (gV b18 (some (ρ 0))) fun v32=>
 oP (pGd true v29) fun b19=>
 oP (gV b19 (pNil v32)) fun v33=>
 oP (pGd true v29) fun b20=>
 oP (gV b20 (pFA 0 v33)) fun v34=>
 oP (pGd true v29) fun b21=>
 oP (gV b21 (pFA 4 v34)) fun v35=>
 oP (pGd true v29) fun b22=>
 oP (gV b22 (pLd v35 h4)) fun v36=>
 oP (pGd true v29) fun b23=>
 oP (gV b23 (pLen v36)) fun v37=>
 ((gT b23 (pLen v36=some v37))∧
 ((gT b22 (pLd v35 h4=some v36))∧
 ((gT b21 (pFA 4 v34=some v35))∧
 ((gT b20 (pFA 0 v33=some v34))∧
 ((gT b19 (pNil v32=some v33))∧
 ((gT b18 (some (ρ 0)=some v32))∧
 ((gT b17 (pLd v30 h4=some v31))∧
 ((gT b16 (pFA 5 (ρ 5)=some v30))∧
 ((gT b15 (some v28=some v29))∧
 oP (pGd true v29) fun b24=>
 oP (gC b24 (some (n_ssa_below,[v31,v37]))) fun x24=>cgP C x24 h4 fun v38 h5=>
 (h4.next≤h5.next∧
 oP (pGd true v29) fun b25=>
 oP (gV b25 (hun .not v38)) fun v39=>
 oP (pGd false v25) fun b26=>
 oP (gV b26 (pPick v29 v39 (V.bool false))) fun v40=>
 oP (pPick v25 (V.bool true) v40) fun v41=>
 ((pPick v25 (V.bool true) v40=some v41)∧
 ((gT b26 (pPick v29 v39 (V.bool false)=some v40))∧
 ((gT b25 (hun .not v38=some v39))∧
 Wp C 94 k38R2 (q38_0 C Q) (rset (rset (rset (rset (rset (rset (rset (rset (rset (rset (rset (rset (rset (rset (rset (rset (rset (rset (rset (rset (rset (rset (rset (rset (rset (rset (rset (rset ρ 14 v14) 15 v15) 16 v16) 17 v17) 18 v18) 19 v19) 20 v20) 21 v21) 22 v22) 23 v23) 24 v24) 25 v25) 26 v26) 27 v27) 28 v28) 29 v29) 30 v30) 31 v31) 32 v32) 33 v33) 34 v34) 35 v35) 36 v36) 37 v37) 38 v38) 39 v39) 40 v40) 41 v41) h5)))))))))))))))))))))))))))))):=by kernel_rfl
theorem e38R3:codeR C 94 k38R3 Q ρ h=(oP (pFA 0 (ρ 5)) fun v42=>
 oP (pLd v42 h) fun v43=>
 Wp C 94 k38R5 (q55 C Q) (rset (rset ρ 42 v42) 43 v43) h):=by kernel_rfl
theorem e38R2:codeR C 94 k38R2 Q ρ h=(oP (some (ρ 41)) fun c=>
 bP c (
 oP (some (V.bool false)) fun v4=>
 Wp C 94 k38R4 Q (rset ρ 4 v4) h) (
 Q .normal ρ h)):=by kernel_rfl
theorem e38R6:codeR C 94 k38R6 Q ρ h=(oP (some (V.bool true)) fun v4=>
 Wp C 94 k38R8 Q (rset ρ 4 v4) h):=by kernel_rfl
theorem e38R5:codeR C 94 k38R5 Q ρ h=(oP (hbin .eql 3 (ρ 43) (V.int .i64 20)) fun v45=>
 oP (some v45) fun v44=>
 Wp C 94 k38R7 (q38_2 C Q) (rset (rset ρ 45 v45) 44 v44) h):=by kernel_rfl
theorem e38R8:codeR C 94 k38R8 Q ρ h=(Q .ret ρ h):=by kernel_rfl
theorem e38R4:codeR C 94 k38R4 Q ρ h=(Q .ret ρ h):=by kernel_rfl
theorem e38R7:codeR C 94 k38R7 Q ρ h=(oP (some (ρ 44)) fun c=>
 bP c (
 oP (pFA 4 (ρ 5)) fun v46=>
 oP (pLd v46 h) fun v47=>
 oP (pLen v47) fun v48=>
 oP (hbin .eql 3 v48 (V.int .i64 1)) fun v49=>
 oP (some v49) fun v4=>
 Wp C 94 k38R9 Q (rset (rset (rset (rset (rset ρ 46 v46) 47 v47) 48 v48) 49 v49) 4 v4) h) (
 oP (hbin .eql 3 (ρ 43) (V.int .i64 21)) fun v51=>
 oP (some v51) fun v50=>
 Wp C 94 k38R10 Q (rset (rset ρ 51 v51) 50 v50) h)):=by kernel_rfl
theorem e38R9:codeR C 94 k38R9 Q ρ h=(Q .ret ρ h):=by kernel_rfl
theorem e38R10:codeR C 94 k38R10 Q ρ h=(oP (some (ρ 50)) fun c=>
 bP c (
 oP (pFA 4 (ρ 5)) fun v52=>
 oP (pLd v52 h) fun v53=>
 oP (pLen v53) fun v54=>
 oP (some (ρ 0)) fun v55=>
 oP (pNil v55) fun v56=>
 oP (pFA 0 v56) fun v57=>
 oP (pFA 3 v57) fun v58=>
 oP (pLd v58 h) fun v59=>
 oP (some (ρ 0)) fun v60=>
 oP (pNil v60) fun v61=>
 oP (pFA 5 v61) fun v62=>
 oP (pLd v62 h) fun v63=>
 oP (some (ρ 1)) fun v64=>
 oP (pIx 1 v63 v64) fun v65=>
 oP (pLd v65 h) fun v66=>
 oP (pIx 6 v59 v66) fun v67=>
 oP (pFA 4 v67) fun v68=>
 oP (pLd v68 h) fun v69=>
 oP (pLen v69) fun v70=>
 oP (hbin .eql 3 v54 v70) fun v71=>
 oP (some v71) fun v4=>
 ((some v71=some v4)∧
 ((hbin .eql 3 v54 v70=some v71)∧
 ((pLen v69=some v70)∧
 ((pLd v68 h=some v69)∧
 ((pFA 4 v67=some v68)∧
 ((pIx 6 v59 v66=some v67)∧
 ((pLd v65 h=some v66)∧
 ((pIx 1 v63 v64=some v65)∧
 ((some (ρ 1)=some v64)∧
 ((pLd v62 h=some v63)∧
 ((pFA 5 v61=some v62)∧
 ((pNil v60=some v61)∧
 ((some (ρ 0)=some v60)∧
 ((pLd v58 h=some v59)∧
 ((pFA 3 v57=some v58)∧
 ((pFA 0 v56=some v57)∧
 ((pNil v55=some v56)∧
 ((some (ρ 0)=some v55)∧
 ((pLen v53=some v54)∧
 ((pLd v52 h=some v53)∧
 ((pFA 4 (ρ 5)=some v52)∧
 Wp C 94 k38R11 Q (rset (rset (rset (rset (rset (rset (rset (rset (rset (rset (rset (rset (rset (rset (rset (rset (rset (rset (rset (rset (rset ρ 52 v52) 53 v53) 54 v54) 55 v55) 56 v56) 57 v57) 58 v58) 59 v59) 60 v60) 61 v61) 62 v62) 63 v63) 64 v64) 65 v65) 66 v66) 67 v67) 68 v68) 69 v69) 70 v70) 71 v71) 4 v4) h)))))))))))))))))))))) (
 oP (hbin .eql 3 (ρ 43) (V.int .i64 1)) fun v73=>
 oP (some v73) fun v72=>
 Wp C 94 k38R12 Q (rset (rset ρ 73 v73) 72 v72) h)):=by kernel_rfl
theorem e38R11:codeR C 94 k38R11 Q ρ h=(Q .ret ρ h):=by kernel_rfl
theorem e38R12:codeR C 94 k38R12 Q ρ h=(oP (some (ρ 72)) fun c=>
 bP c (
 oP (pFA 3 (ρ 5)) fun v74=>
 oP (pLd v74 h) fun v75=>
 oP (hbin .geq 2 v75 (V.int .i64 0)) fun v76=>
 oP (some v76) fun v77=>
 oP (pGd true v77) fun b4=>
 oP (gV b4 (pFA 3 (ρ 5))) fun v78=>
 oP (pGd true v77) fun b5=>
 oP (gV b5 (pLd v78 h)) fun v79=>
 oP (pGd true v77) fun b6=>
 oP (gV b6 (hbin .lss 2 v79 (V.int .i64 40))) fun v80=>
 oP (pPick v77 v80 (V.bool false)) fun v81=>
 oP (some v81) fun v82=>
 oP (pGd true v82) fun b9=>
 oP (gV b9 (some (ρ 0))) fun v83=>
 oP (pGd true v82) fun b10=>
 oP (gV b10 (pNil v83)) fun v84=>
 oP (pGd true v82) fun b11=>
 oP (gV b11 (pFA 0 v84)) fun v85=>
 oP (pGd true v82) fun b12=>
 oP (gV b12 (pFA 2 v85)) fun v86=>
 oP (pGd true v82) fun b13=>
 oP (gV b13 (pLd v86 h)) fun v87=>
 oP (pGd true v82) fun b14=>
 oP (gV b14 (some (ρ 1))) fun v88=>
 oP (pGd true v82) fun b15=>
 oP (gV b15 (hsliceV 6 v87 none (some v88) h)) fun v89=>
 oP (pGd true v82) fun b16=>
 oP (gV b16 (some (V.func n_ssa_checker_val_1 [] [(ρ 5)]))) fun v90=>
 oP (pGd true v82) fun b17=>
 oP (gC b17 (some (n_slices_ContainsFunc_ssa_Val_ssa_Val,[v89,v90]))) fun x17=>cgP C x17 h fun v91 h1=>
 oP (pGd true v82) fun b18=>
 oP (gV b18 (hun .not v91)) fun v92=>
 oP (pPick v82 v92 (V.bool false)) fun v93=>
 oP (some v93) fun v4=>
 Wp C 94 k38R13 Q (rset (rset (rset (rset (rset (rset (rset (rset (rset (rset (rset (rset (rset (rset (rset (rset (rset (rset (rset (rset (rset ρ 74 v74) 75 v75) 76 v76) 77 v77) 78 v78) 79 v79) 80 v80) 81 v81) 82 v82) 83 v83) 84 v84) 85 v85) 86 v86) 87 v87) 88 v88) 89 v89) 90 v90) 91 v91) 92 v92) 93 v93) 4 v4) h1) (
 Q .normal ρ h)):=by kernel_rfl
theorem e38R13:codeR C 94 k38R13 Q ρ h=(Q .ret ρ h):=by kernel_rfl
theorem g38 {C:Cfg}(hs:C.start=startF)(a0 a1:V){h:Hp}{Q:QP1}(hk:C.K n_ssa_checker_val [a0,a1] h=none)(H:codeR C 94 k38 (bodyQ [.tmp 4] Q) (argsR [a0,a1]) h):cP C n_ssa_checker_val [a0,a1] h Q:=
 cP.funcN hs (show P0.funcs[38]? = some Tryd.f38 by unfold P0;exact Tryd.func38) (by kernel_rfl) (by kernel_rfl) (by kernel_rfl) hk (Nat.le_of_ble_eq_true rfl) (Wp.code _ H)
def B_ssa_checker_val (C:Cfg)(Q:QP1)(a0 a1:V)(h:Hp):Prop:=
 oP (pNil a0) fun v7=>
 oP (pFA 0 v7) fun v8=>
 oP (pFA 2 v8) fun v9=>
 oP (pLd v9 h) fun v10=>
 oP (pIx 6 v10 a1) fun v12=>
 oP (pLdA 6 v12 h) fun v13=>
 alP (some (.cells 39 1 true false [(V.int .i64 0),(V.int .i64 0),(V.int .i64 0),(V.int .i64 0),V.nilSlice,(V.int .i64 0)],fun l=> .ptr l 0)) h fun v5 h1=>
 valP (pSt 6 v5 v13 h1) fun vu h2=>
 oP (pFA 0 v5) fun v14=>
 oP (pLd v14 h2) fun v15=>
 cP C n_ssa_Name [v15] h2 fun v16 h3=>
 (h2.next≤h3.next∧
 oP (hbin .eql 9 v16 (V.str [])) fun v17=>
 oP (pGd false v17) fun b5=>
 oP (gV b5 (some a0)) fun v19=>
 oP (pGd false v17) fun b6=>
 oP (gV b6 (pLdA 6 v5 h3)) fun v20=>
 oP (pGd false v17) fun b7=>
 oP (gC b7 (some (n_ssa_Uses,[v20]))) fun y7=>cgP C y7 h3 fun v21 h4=>
 (h3.next≤h4.next∧
 oP (pGd false v17) fun b8=>
 oP (gC b8 (some (n_ssa_checker_there,[v19,v21]))) fun y8=>cgP C y8 h4 fun v22 h5=>
 (h4.next≤h5.next∧
 oP (pOr v17 (hun .not v22)) fun v24=>
 oP (pGd false v24) fun b12=>
 oP (gV b12 (pFA 0 v5)) fun v26=>
 oP (pGd false v24) fun b13=>
 oP (gV b13 (pLd v26 h5)) fun v27=>
 oP (pGd false v24) fun b14=>
 oP (gC b14 (some (n_ssa_leaves,[v27]))) fun y14=>cgP C y14 h5 fun v28 h6=>
 (h5.next≤h6.next∧
 oP (pGd false v24) fun b15=>
 oP (gV b15 (some v28)) fun v29=>
 oP (pGd true v29) fun b16=>
 oP (gV b16 (pFA 5 v5)) fun v30=>
 oP (pGd true v29) fun b17=>
 oP (gV b17 (pLd v30 h6)) fun v31=>
 oP (pGd true v29) fun b18=>
 oP (gV b18 (some a0)) fun v32=>
 oP (pGd true v29) fun b19=>
 oP (gV b19 (pNil v32)) fun v33=>
 oP (pGd true v29) fun b20=>
 oP (gV b20 (pFA 0 v33)) fun v34=>
 oP (pGd true v29) fun b21=>
 oP (gV b21 (pFA 4 v34)) fun v35=>
 oP (pGd true v29) fun b22=>
 oP (gV b22 (pLd v35 h6)) fun v36=>
 oP (pGd true v29) fun b23=>
 oP (gV b23 (pLen v36)) fun v37=>
 oP (pGd true v29) fun b24=>
 oP (gC b24 (some (n_ssa_below,[v31,v37]))) fun y24=>cgP C y24 h6 fun v38 h7=>
 (h6.next≤h7.next∧
 oP (pGd true v29) fun b25=>
 oP (gV b25 (hun .not v38)) fun v39=>
 oP (pOr v24 (pPick v29 v39 (V.bool false))) fun v41=>
 bP v41 (
 Q (V.bool false) h7) (
 oP (pFA 0 v5) fun v42=>
 oP (pLd v42 h7) fun v43=>
 oP (hbin .eql 3 v43 (V.int .i64 20)) fun v45=>
 bP v45 (
 oP (pFA 4 v5) fun v46=>
 oP (pLd v46 h7) fun v47=>
 oP (pLen v47) fun v48=>
 oP (hbin .eql 3 v48 (V.int .i64 1)) fun v49=>
 Q v49 h7) (
 oP (hbin .eql 3 v43 (V.int .i64 21)) fun v51=>
 bP v51 (
 oP (pFA 4 v5) fun v52=>
 oP (pLd v52 h7) fun v53=>
 oP (pLen v53) fun v54=>
 oP (pNil a0) fun v56=>
 oP (pFA 0 v56) fun v57=>
 oP (pFA 3 v57) fun v58=>
 oP (pLd v58 h7) fun v59=>
 oP (pNil a0) fun v61=>
 oP (pFA 5 v61) fun v62=>
 oP (pLd v62 h7) fun v63=>
 oP (pIx 1 v63 a1) fun v65=>
 oP (pLd v65 h7) fun v66=>
 oP (pIx 6 v59 v66) fun v67=>
 oP (pFA 4 v67) fun v68=>
 oP (pLd v68 h7) fun v69=>
 oP (pLen v69) fun v70=>
 oP (hbin .eql 3 v54 v70) fun v71=>
 Q v71 h7) (
 oP (hbin .eql 3 v43 (V.int .i64 1)) fun v73=>
 bP v73 (
 oP (pFA 3 v5) fun v74=>
 oP (pLd v74 h7) fun v75=>
 oP (hbin .geq 2 v75 (V.int .i64 0)) fun v76=>
 oP (pAnd v76 (oB (pFA 3 v5) fun v78=>oB (pLd v78 h7) fun v79=>hbin .lss 2 v79 (V.int .i64 40))) fun v81=>
 oP (pGd true v81) fun b9_1=>
 oP (gV b9_1 (some a0)) fun v83=>
 oP (pGd true v81) fun b10=>
 oP (gV b10 (pNil v83)) fun v84=>
 oP (pGd true v81) fun b11=>
 oP (gV b11 (pFA 0 v84)) fun v85=>
 oP (pGd true v81) fun b12_1=>
 oP (gV b12_1 (pFA 2 v85)) fun v86=>
 oP (pGd true v81) fun b13_1=>
 oP (gV b13_1 (pLd v86 h7)) fun v87=>
 oP (pGd true v81) fun b14_1=>
 oP (gV b14_1 (some a1)) fun v88=>
 oP (pGd true v81) fun b15_1=>
 oP (gV b15_1 (hsliceV 6 v87 none (some v88) h7)) fun v89=>
 oP (pGd true v81) fun b16_1=>
 oP (gV b16_1 (some (V.func n_ssa_checker_val_1 [] [v5]))) fun v90=>
 oP (pGd true v81) fun b17_1=>
 oP (gC b17_1 (some (n_slices_ContainsFunc_ssa_Val_ssa_Val,[v89,v90]))) fun y17=>cgP C y17 h7 fun v91 h8=>
 oP (pAnd v81 (hun .not v91)) fun v93=>
 Q v93 h8) (
 Q (V.bool true) h7)))))))))
theorem c_ssa_checker_val {C:Cfg}(hs:C.start=startF){a0 a1:V}{h:Hp}{Q:QP1}(hk:C.K n_ssa_checker_val [a0,a1] h=none)(H:B_ssa_checker_val C Q a0 a1 h):cP C n_ssa_checker_val [a0,a1] h Q:=by
 unfold B_ssa_checker_val at H
 exact g38 hs _ _ hk ((e38 _ _ _ _).mpr (oSm (Wp.of (e38R0 _ _ _ _) (oSm (oM H fun v7 _ H=>oM H fun v8 _ H=>oM H fun v9 _ H=>oM H fun v10 _ H=>oSm (oM H fun v12 _ H=>oM H fun v13 _ H=>alM H fun v5 h1 H=>valM H fun vu h2 H=>Wp.of (e38R1 _ _ _ _) (oM H fun v14 Ev14 H=>oM H fun v15 Ev15 H=>⟨Ev15,⟨Ev14,dcM H fun v16 h3 H=>anM H fun H=>oM H fun v17 Ev17 H=>oSm (oM H fun b5 _ H=>oM H fun v19 Ev19 H=>oM H fun b6 _ H=>oM H fun v20 Ev20 H=>⟨(gT_of Ev20),⟨(gT_of Ev19),⟨rfl,⟨Ev17,oM H fun b7 _ H=>oM H fun y7 _ H=>cgM H fun v21 h4 H=>anM H fun H=>⟨(gT_of Ev19),oM H fun b8 _ H=>oM H fun y8 _ H=>cgM H fun v22 h5 H=>anM H fun H=>thn (or_open H) fun H=>oM H fun b9 Gv23 H=>oM H fun v23 Ev23 H=>oM H fun v24 Ev24 H=>oSm (oM H fun b12 _ H=>oM H fun v26 Ev26 H=>oM H fun b13 _ H=>oM H fun v27 Ev27 H=>⟨(gT_of Ev27),⟨(gT_of Ev26),⟨rfl,⟨Ev24,⟨(gT_of Ev23),oM H fun b14 _ H=>oM H fun y14 _ H=>cgM H fun v28 h6 H=>anM H fun H=>oM H fun b15 _ H=>oM H fun v29 Ev29 H=>oM H fun b16 _ H=>oM H fun v30 Ev30 H=>oM H fun b17 _ H=>oM H fun v31 Ev31 H=>oM H fun b18 _ H=>oM H fun v32 Ev32 H=>oM H fun b19 _ H=>oM H fun v33 Ev33 H=>oM H fun b20 _ H=>oM H fun v34 Ev34 H=>oM H fun b21 _ H=>oM H fun v35 Ev35 H=>oM H fun b22 _ H=>oM H fun v36 Ev36 H=>oM H fun b23 _ H=>oM H fun v37 Ev37 H=>⟨(gT_of Ev37),⟨(gT_of Ev36),⟨(gT_of Ev35),⟨(gT_of Ev34),⟨(gT_of Ev33),⟨(gT_of Ev32),⟨(gT_of Ev31),⟨(gT_of Ev30),⟨(gT_of Ev29),oM H fun b24 _ H=>oM H fun y24 _ H=>cgM H fun v38 h7 H=>anM H fun H=>oM H fun b25 _ H=>oM H fun v39 Ev39 H=>thn (or_open H) fun H=>oM H fun b26 Gv40 H=>oM H fun v40 Ev40 H=>oM H fun v41 Ev41 H=>⟨Ev41,⟨(gT_of Ev40),⟨(gT_of Ev39),Wp.of (e38R2 _ _ _ _) (oSm (bM H (fun H=>oSm (Wp.of (e38R4 _ _ _ _) (H))) (fun H=>Wp.of (e38R3 _ _ _ _) (oM H fun v42 _ H=>oM H fun v43 _ H=>Wp.of (e38R5 _ _ _ _) (oM H fun v45 _ H=>oSm (Wp.of (e38R7 _ _ _ _) (oSm (bM H (fun H=>oM H fun v46 _ H=>oM H fun v47 _ H=>oM H fun v48 _ H=>oM H fun v49 _ H=>oSm (Wp.of (e38R9 _ _ _ _) (H))) (fun H=>oM H fun v51 _ H=>oSm (Wp.of (e38R10 _ _ _ _) (oSm (bM H (fun H=>oM H fun v52 Ev52 H=>oM H fun v53 Ev53 H=>oM H fun v54 Ev54 H=>oSm (oM H fun v56 Ev56 H=>oM H fun v57 Ev57 H=>oM H fun v58 Ev58 H=>oM H fun v59 Ev59 H=>oSm (oM H fun v61 Ev61 H=>oM H fun v62 Ev62 H=>oM H fun v63 Ev63 H=>oSm (oM H fun v65 Ev65 H=>oM H fun v66 Ev66 H=>oM H fun v67 Ev67 H=>oM H fun v68 Ev68 H=>oM H fun v69 Ev69 H=>oM H fun v70 Ev70 H=>oM H fun v71 Ev71 H=>oSm (⟨rfl,⟨Ev71,⟨Ev70,⟨Ev69,⟨Ev68,⟨Ev67,⟨Ev66,⟨Ev65,⟨rfl,⟨Ev63,⟨Ev62,⟨Ev61,⟨rfl,⟨Ev59,⟨Ev58,⟨Ev57,⟨Ev56,⟨rfl,⟨Ev54,⟨Ev53,⟨Ev52,Wp.of (e38R11 _ _ _ _) (H)⟩⟩⟩⟩⟩⟩⟩⟩⟩⟩⟩⟩⟩⟩⟩⟩⟩⟩⟩⟩⟩))))) (fun H=>oM H fun v73 _ H=>oSm (Wp.of (e38R12 _ _ _ _) (oSm (bM H (fun H=>oM H fun v74 _ H=>oM H fun v75 _ H=>oM H fun v76 _ H=>oSm (thn (and_open H) fun H=>sG1 H fun b4 Gv78 v78 Ev78 H=>sG1 H fun b5_1 Gv79 v79 Ev79 H=>oM H fun b6_1 Gv80 H=>oM H fun v80 Ev80 H=>oM H fun v81 Ev81 H=>oSm (oM H fun b9_1 _ H=>oM H fun v83 _ H=>oM H fun b10 _ H=>oM H fun v84 _ H=>oM H fun b11 _ H=>oM H fun v85 _ H=>oM H fun b12_1 _ H=>oM H fun v86 _ H=>oM H fun b13_1 _ H=>oM H fun v87 _ H=>oM H fun b14_1 _ H=>oM H fun v88 _ H=>oM H fun b15_1 _ H=>oM H fun v89 _ H=>oM H fun b16_1 _ H=>oM H fun v90 _ H=>oM H fun b17_1 _ H=>oM H fun y17 _ H=>cgM H fun v91 h8 H=>thn (and_open H) fun H=>oM H fun b18_1 Gv92 H=>oM H fun v92 Ev92 H=>oM H fun v93 Ev93 H=>oSm (Wp.of (e38R13 _ _ _ _) (H))))) (fun H=>Wp.of (e38R6 _ _ _ _) (oSm (Wp.of (e38R8 _ _ _ _) (H))))))))))))))))))))⟩⟩⟩⟩⟩⟩⟩⟩⟩⟩⟩⟩⟩⟩⟩⟩⟩)⟩⟩⟩⟩⟩)⟩⟩)))))))
end
def t39:List (Nat×List Nat):=[(87,[0,5,17,18,19])]
def J_ssa_checker_ends_L0 (C:Cfg)(Q:QP1)(x0 x5 x17 x18 x19:V)(h:Hp):Prop:=∀ρ:Rho,ρ 0=x0→ρ 5=x5→ρ 17=x17→ρ 18=x18→ρ 19=x19→WA C Tryd.f39 t39 43 [] Q ρ h
def B_ssa_checker_ends_L0 (C:Cfg)(Q:QP1)(KL0:QP5)(x0 x5 x17 x18 x19:V)(h:Hp):Prop:=
 oP (hbin .lss 3 x19 x18) fun v20=>
 bP v20 (
 oP (pIx 1 x17 x19) fun v21=>
 oP (pLd v21 h) fun v22=>
 oP (pNil x0) fun v25=>
 oP (pFA 0 v25) fun v26=>
 oP (pFA 3 v26) fun v27=>
 oP (pLd v27 h) fun v28=>
 oP (pLen v28) fun v29=>
 cP C n_ssa_below [v22,v29] h fun v30 h1=>
 oP (hun .not v30) fun v31=>
 bP v31 (
 Q (V.bool false) h1) (
 oP (hbin .add 3 x19 (V.int .i64 1)) fun v32=>
 KL0 x0 x5 x17 x18 v32 h1)) (
 oP (pFA 1 x5) fun v33=>
 oP (pLd v33 h) fun v34=>
 oP (hbin .eql 3 v34 (V.int .i64 1)) fun v36=>
 bP v36 (
 oP (pFA 3 x5) fun v37=>
 oP (pLd v37 h) fun v38=>
 oP (pLen v38) fun v39=>
 oP (hbin .eql 3 v39 (V.int .i64 1)) fun v40=>
 Q v40 h) (
 oP (hbin .eql 3 v34 (V.int .i64 2)) fun v42=>
 bP v42 (
 oP (pFA 3 x5) fun v43=>
 oP (pLd v43 h) fun v44=>
 oP (pLen v44) fun v45=>
 oP (hbin .eql 3 v45 (V.int .i64 2)) fun v46=>
 oP (pGd true v46) fun b5=>
 oP (gV b5 (some x0)) fun v48=>
 oP (pGd true v46) fun b6=>
 oP (gV b6 (pFA 2 x5)) fun v49=>
 oP (pGd true v46) fun b7=>
 oP (gV b7 (pLd v49 h)) fun v50=>
 oP (pGd true v46) fun b8=>
 ghP b8 h (oB (pBS 3 1 1 (V.int .i64 0) [(0,v50)]) fun r=>some (r.2 h.next,h.new r.1)) fun v51 h2=>
 oP (pGd true v46) fun b9=>
 oP (gC b9 (some (n_ssa_checker_there,[v48,v51]))) fun y9=>cgP C y9 h2 fun v52 h3=>
 oP (pPick v46 v52 (V.bool false)) fun v53=>
 Q v53 h3) (
 oP (hbin .eql 3 v34 (V.int .i64 3)) fun v55=>
 bP v55 (
 oP (pFA 3 x5) fun v56=>
 oP (pLd v56 h) fun v57=>
 oP (pLen v57) fun v58=>
 oP (hbin .eql 3 v58 (V.int .i64 0)) fun v59=>
 oP (pGd true v59) fun b5_1=>
 oP (gV b5_1 (pFA 5 x5)) fun v61=>
 oP (pGd true v59) fun b6_1=>
 oP (gV b6_1 (pLd v61 h)) fun v62=>
 oP (pGd true v59) fun b7_1=>
 oP (gV b7_1 (some x0)) fun v63=>
 oP (pGd true v59) fun b8_1=>
 oP (gV b8_1 (pNil v63)) fun v64=>
 oP (pGd true v59) fun b9_1=>
 oP (gV b9_1 (pFA 0 v64)) fun v65=>
 oP (pGd true v59) fun b10=>
 oP (gV b10 (pFA 4 v65)) fun v66=>
 oP (pGd true v59) fun b11=>
 oP (gV b11 (pLd v66 h)) fun v67=>
 oP (pGd true v59) fun b12=>
 oP (gV b12 (pLen v67)) fun v68=>
 oP (pGd true v59) fun b13=>
 oP (gC b13 (some (n_ssa_below,[v62,v68]))) fun y13=>cgP C y13 h fun v69 h4=>
 (h.next≤h4.next∧
 oP (pPick v59 v69 (V.bool false)) fun v70=>
 Q v70 h4)) (
 Q (V.bool false) h))))
theorem l_ssa_checker_ends_L0 {C:Cfg}{Q:QP1}(I:Nat→QP5)(step:∀(k:Nat)(x0 x5 x17 x18 x19:V)(h:Hp),I k x0 x5 x17 x18 x19 h→B_ssa_checker_ends_L0 C Q (fun x0 x5 x17 x18 x19 h=>∃k',k' < k∧I k' x0 x5 x17 x18 x19 h) x0 x5 x17 x18 x19 h){k:Nat}{x0 x5 x17 x18 x19:V}{h:Hp}(h0:I k x0 x5 x17 x18 x19 h):J_ssa_checker_ends_L0 C Q x0 x5 x17 x18 x19 h:=by
 rintro ρ rfl rfl rfl rfl rfl
 exact WA.loop (fun k ρ h=>I k (ρ 0) (ρ 5) (ρ 17) (ρ 18) (ρ 19) h) (by kernel_rfl) (by kernel_rfl) (fun k ρ h hi=>LA.of (by kernel_rfl) (step k (ρ 0) (ρ 5) (ρ 17) (ρ 18) (ρ 19) h hi)) h0
def B_ssa_checker_ends (C:Cfg)(Q:QP1)(a0 a1:V)(h:Hp):Prop:=
 oP (pNil a0) fun v9=>
 oP (pFA 0 v9) fun v10=>
 oP (pFA 3 v10) fun v11=>
 oP (pLd v11 h) fun v12=>
 oP (pIx 6 v12 a1) fun v14=>
 oP (pLdA 6 v14 h) fun v15=>
 alP (some (.cells 36 1 true false [V.nilSlice,(V.int .i64 0),(V.int .i64 0),V.nilSlice,V.nilSlice,(V.int .i64 0)],fun l=> .ptr l 0)) h fun v5 h1=>
 valP (pSt 6 v5 v15 h1) fun vu h2=>
 oP (pFA 3 v5) fun v16=>
 oP (pLd v16 h2) fun v17=>
 oP (pLen v17) fun v18=>
 J_ssa_checker_ends_L0 C Q a0 v5 v17 v18 (V.int .i64 0) h2
theorem c_ssa_checker_ends {C:Cfg}(hs:C.start=startF){a0 a1:V}{h:Hp}{Q:QP1}(hk:C.K n_ssa_checker_ends [a0,a1] h=none)(H:B_ssa_checker_ends C Q a0 a1 h):cP C n_ssa_checker_ends [a0,a1] h Q:=
 cP.vc (tb:=t39) hs (by unfold P0;exact Tryd.func39) (by kernel_rfl) hk (by kernel_rfl) (by kernel_rfl) H
def t40:List (Nat×List Nat):=[(171,[0,1,16,17,18]),(14,[0,1]),(175,[0,7,54,55,56])]
def J_ssa_checker_led_L0 (C:Cfg)(Q:QP1)(x0 x1 x16 x17 x18:V)(h:Hp):Prop:=∀ρ:Rho,ρ 0=x0→ρ 1=x1→ρ 16=x16→ρ 17=x17→ρ 18=x18→WA C Tryd.f40 t40 85 [] Q ρ h
def J_ssa_checker_led_R2 (C:Cfg)(Q:QP1)(x0 x1:V)(h:Hp):Prop:=∀ρ:Rho,ρ 0=x0→ρ 1=x1→WA C Tryd.f40 t40 7 [] Q ρ h
def J_ssa_checker_led_L1 (C:Cfg)(Q:QP1)(x0 x7 x54 x55 x56:V)(h:Hp):Prop:=∀ρ:Rho,ρ 0=x0→ρ 7=x7→ρ 54=x54→ρ 55=x55→ρ 56=x56→WA C Tryd.f40 t40 87 [] Q ρ h
def B_ssa_checker_led_L0 (C:Cfg)(Q:QP1)(KL0:QP5)(x0 x1 x16 x17 x18:V)(h:Hp):Prop:=
 oP (hbin .lss 3 x18 x17) fun v19=>
 bP v19 (
 oP (pIx 1 x16 x18) fun v21=>
 oP (pLd v21 h) fun v22=>
 oP (pNil x0) fun v25=>
 oP (pFA 0 v25) fun v26=>
 oP (pFA 3 v26) fun v27=>
 oP (pLd v27 h) fun v28=>
 oP (pIx 6 v28 x18) fun v30=>
 oP (pFA 4 v30) fun v31=>
 oP (pLd v31 h) fun v32=>
 cP C n_slices_Equal_int_int [v22,v32] h fun v33 h1=>
 oP (hun .not v33) fun v34=>
 oP (pOr v34 (oB (some x18) fun v36=>oB (hbin .eql 3 v36 (V.int .i64 0)) fun v37=>oB (some v37) fun v38=>pAnd v38 (oB (some v22) fun v39=>oB (pLen v39) fun v40=>hbin .gtr 3 v40 (V.int .i64 0)))) fun v43=>
 bP v43 (
 Q (V.bool false) h1) (
 oP (hbin .add 3 x18 (V.int .i64 1)) fun v44=>
 KL0 x0 x1 x16 x17 v44 h1)) (
 J_ssa_checker_led_R2 C Q x0 x1 h)
theorem l_ssa_checker_led_L0 {C:Cfg}{Q:QP1}(I:Nat→QP5)(step:∀(k:Nat)(x0 x1 x16 x17 x18:V)(h:Hp),I k x0 x1 x16 x17 x18 h→B_ssa_checker_led_L0 C Q (fun x0 x1 x16 x17 x18 h=>∃k',k' < k∧I k' x0 x1 x16 x17 x18 h) x0 x1 x16 x17 x18 h){k:Nat}{x0 x1 x16 x17 x18:V}{h:Hp}(h0:I k x0 x1 x16 x17 x18 h):J_ssa_checker_led_L0 C Q x0 x1 x16 x17 x18 h:=by
 rintro ρ rfl rfl rfl rfl rfl
 exact WA.loop (fun k ρ h=>I k (ρ 0) (ρ 1) (ρ 16) (ρ 17) (ρ 18) h) (by kernel_rfl) (by kernel_rfl) (fun k ρ h hi=>LA.of (by kernel_rfl) (step k (ρ 0) (ρ 1) (ρ 16) (ρ 17) (ρ 18) h hi)) h0
def B_ssa_checker_led_R2 (C:Cfg)(Q:QP1)(x0 x1:V)(h:Hp):Prop:=
 oP (pNil x0) fun v46=>
 oP (pFA 0 v46) fun v47=>
 oP (pFA 3 v47) fun v48=>
 oP (pLd v48 h) fun v49=>
 oP (pIx 6 v49 x1) fun v51=>
 oP (pLdA 6 v51 h) fun v52=>
 alP (some (.cells 36 1 true false [V.nilSlice,(V.int .i64 0),(V.int .i64 0),V.nilSlice,V.nilSlice,(V.int .i64 0)],fun l=> .ptr l 0)) h fun v7 h1=>
 valP (pSt 6 v7 v52 h1) fun vu h2=>
 oP (pFA 3 v7) fun v53=>
 oP (pLd v53 h2) fun v54=>
 oP (pLen v54) fun v55=>
 J_ssa_checker_led_L1 C Q x0 v7 v54 v55 (V.int .i64 0) h2
theorem j_ssa_checker_led_R2 {C:Cfg}{Q:QP1}{x0 x1:V}{h:Hp}(H:B_ssa_checker_led_R2 C Q x0 x1 h):J_ssa_checker_led_R2 C Q x0 x1 h:=by
 rintro ρ rfl rfl
 exact WA.of (by kernel_rfl) H
def B_ssa_checker_led_L1 (C:Cfg)(Q:QP1)(KL1:QP5)(x0 x7 x54 x55 x56:V)(h:Hp):Prop:=
 oP (hbin .lss 3 x56 x55) fun v57=>
 bP v57 (
 oP (pIx 1 x54 x56) fun v58=>
 oP (pLd v58 h) fun v59=>
 oP (pFA 1 x7) fun v60=>
 oP (pLd v60 h) fun v61=>
 oP (hbin .eql 3 v61 (V.int .i64 2)) fun v62=>
 oP (pAnd v62 (oB (some x0) fun v64=>oB (pNil v64) fun v65=>oB (pFA 0 v65) fun v66=>oB (pFA 3 v66) fun v67=>oB (pLd v67 h) fun v68=>oB (some v59) fun v69=>oB (pIx 6 v68 v69) fun v70=>oB (pFA 4 v70) fun v71=>oB (pLd v71 h) fun v72=>oB (pLen v72) fun v73=>hbin .neq 3 v73 (V.int .i64 1))) fun v75=>
 bP v75 (
 Q (V.bool false) h) (
 oP (hbin .add 3 x56 (V.int .i64 1)) fun v76=>
 KL1 x0 x7 x54 x55 v76 h)) (
 Q (V.bool true) h)
theorem l_ssa_checker_led_L1 {C:Cfg}{Q:QP1}(I:Nat→QP5)(step:∀(k:Nat)(x0 x7 x54 x55 x56:V)(h:Hp),I k x0 x7 x54 x55 x56 h→B_ssa_checker_led_L1 C Q (fun x0 x7 x54 x55 x56 h=>∃k',k' < k∧I k' x0 x7 x54 x55 x56 h) x0 x7 x54 x55 x56 h){k:Nat}{x0 x7 x54 x55 x56:V}{h:Hp}(h0:I k x0 x7 x54 x55 x56 h):J_ssa_checker_led_L1 C Q x0 x7 x54 x55 x56 h:=by
 rintro ρ rfl rfl rfl rfl rfl
 exact WA.loop (fun k ρ h=>I k (ρ 0) (ρ 7) (ρ 54) (ρ 55) (ρ 56) h) (by kernel_rfl) (by kernel_rfl) (fun k ρ h hi=>LA.of (by kernel_rfl) (step k (ρ 0) (ρ 7) (ρ 54) (ρ 55) (ρ 56) h hi)) h0
def B_ssa_checker_led (C:Cfg)(Q:QP1)(a0 a1:V)(h:Hp):Prop:=
 oP (hbin .eql 3 a1 (V.int .i64 0)) fun v11=>
 bP v11 (
 oP (pNil a0) fun v13=>
 oP (pFA 0 v13) fun v14=>
 oP (pLdA 5 v14 h) fun v15=>
 cP C n_ssa_Ahead [v15] h fun v16 h1=>
 oP (pLen v16) fun v17=>
 J_ssa_checker_led_L0 C Q a0 a1 v16 v17 (V.int .i64 0) h1) (
 J_ssa_checker_led_R2 C Q a0 a1 h)
theorem c_ssa_checker_led {C:Cfg}(hs:C.start=startF){a0 a1:V}{h:Hp}{Q:QP1}(hk:C.K n_ssa_checker_led [a0,a1] h=none)(H:B_ssa_checker_led C Q a0 a1 h):cP C n_ssa_checker_led [a0,a1] h Q:=
 cP.vc (tb:=t40) hs (by unfold P0;exact Tryd.func40) (by kernel_rfl) hk (by kernel_rfl) (by kernel_rfl) H
def t41:List (Nat×List Nat):=[]
def B_ssa_checker_order (C:Cfg)(Q:QP1)(a0:V)(h:Hp):Prop:=
 oP (pNil a0) fun v4=>
 oP (pFA 0 v4) fun v5=>
 oP (pLdA 5 v5 h) fun v6=>
 cP C n_ssa_Order [v6] h fun v7 h1=>
 Q v7 h1
theorem c_ssa_checker_order {C:Cfg}(hs:C.start=startF){a0:V}{h:Hp}{Q:QP1}(hk:C.K n_ssa_checker_order [a0] h=none)(H:B_ssa_checker_order C Q a0 h):cP C n_ssa_checker_order [a0] h Q:=
 cP.vc (tb:=t41) hs (by unfold P0;exact Tryd.func41) (by kernel_rfl) hk (by kernel_rfl) (by kernel_rfl) H
def t69:List (Nat×List Nat):=[(19,[0,1,2])]
def J_ssa_checker_dominates_L0 (C:Cfg)(Q:QP1)(x0 x1 x2:V)(h:Hp):Prop:=∀ρ:Rho,ρ 0=x0→ρ 1=x1→ρ 2=x2→WA C Tryd.f69 t69 9 [] Q ρ h
def B_ssa_checker_dominates_L0 (C:Cfg)(Q:QP1)(KL0:QP3)(x0 x1 x2:V)(h:Hp):Prop:=
 oP (hbin .geq 3 x2 (V.int .i64 0)) fun v8=>
 bP v8 (
 oP (hbin .eql 3 x1 x2) fun v11=>
 bP v11 (
 Q (V.bool true) h) (
 oP (pNil x0) fun v13=>
 oP (pFA 7 v13) fun v14=>
 oP (pLd v14 h) fun v15=>
 oP (pIx 1 v15 x2) fun v17=>
 oP (pLd v17 h) fun v18=>
 KL0 x0 x1 v18 h)) (
 Q (V.bool false) h)
theorem l_ssa_checker_dominates_L0 {C:Cfg}{Q:QP1}(I:Nat→QP3)(step:∀(k:Nat)(x0 x1 x2:V)(h:Hp),I k x0 x1 x2 h→B_ssa_checker_dominates_L0 C Q (fun x0 x1 x2 h=>∃k',k' < k∧I k' x0 x1 x2 h) x0 x1 x2 h){k:Nat}{x0 x1 x2:V}{h:Hp}(h0:I k x0 x1 x2 h):J_ssa_checker_dominates_L0 C Q x0 x1 x2 h:=by
 rintro ρ rfl rfl rfl
 exact WA.loop (fun k ρ h=>I k (ρ 0) (ρ 1) (ρ 2) h) (by kernel_rfl) (by kernel_rfl) (fun k ρ h hi=>LA.of (by kernel_rfl) (step k (ρ 0) (ρ 1) (ρ 2) h hi)) h0
def B_ssa_checker_dominates (C:Cfg)(Q:QP1)(a0 a1 a2:V)(h:Hp):Prop:=
 J_ssa_checker_dominates_L0 C Q a0 a1 a2 h
theorem c_ssa_checker_dominates {C:Cfg}(hs:C.start=startF){a0 a1 a2:V}{h:Hp}{Q:QP1}(hk:C.K n_ssa_checker_dominates [a0,a1,a2] h=none)(H:B_ssa_checker_dominates C Q a0 a1 a2 h):cP C n_ssa_checker_dominates [a0,a1,a2] h Q:=
 cP.vc (tb:=t69) hs (by unfold P0;exact Tryd.func69) (by kernel_rfl) hk (by kernel_rfl) (by kernel_rfl) H
def t59:List (Nat×List Nat):=[(43,[0,2,3,11,12,13])]
def J_ssa_checker_seen_L0 (C:Cfg)(Q:QP1)(x0 x2 x3 x11 x12 x13:V)(h:Hp):Prop:=∀ρ:Rho,ρ 0=x0→ρ 2=x2→ρ 3=x3→ρ 11=x11→ρ 12=x12→ρ 13=x13→WA C Tryd.f59 t59 21 [] Q ρ h
def B_ssa_checker_seen_L0 (C:Cfg)(Q:QP1)(KL0:QP6)(x0 x2 x3 x11 x12 x13:V)(h:Hp):Prop:=
 oP (hbin .lss 3 x13 x12) fun v14=>
 bP v14 (
 oP (pIx 1 x11 x13) fun v15=>
 oP (pLd v15 h) fun v16=>
 oP (pNil x0) fun v18=>
 oP (pFA 5 v18) fun v19=>
 oP (pLd v19 h) fun v20=>
 oP (pIx 1 v20 v16) fun v22=>
 oP (pLd v22 h) fun v23=>
 oP (hbin .eql 3 v23 x2) fun v25=>
 oP (pAnd v25 (oB (some x0) fun v27=>oB (pNil v27) fun v28=>oB (pFA 6 v28) fun v29=>oB (pLd v29 h) fun v30=>oB (some v16) fun v31=>oB (pIx 1 v30 v31) fun v32=>oB (pLd v32 h) fun v33=>oB (some x3) fun v34=>hbin .geq 3 v33 v34)) fun v36=>
 oP (pGd false v36) fun b21=>
 oP (gV b21 (some x0)) fun v38=>
 oP (pGd false v36) fun b22=>
 oP (gV b22 (some x0)) fun v39=>
 oP (pGd false v36) fun b23=>
 oP (gV b23 (pNil v39)) fun v40=>
 oP (pGd false v36) fun b24=>
 oP (gV b24 (pFA 5 v40)) fun v41=>
 oP (pGd false v36) fun b25=>
 oP (gV b25 (pLd v41 h)) fun v42=>
 oP (pGd false v36) fun b26=>
 oP (gV b26 (some v16)) fun v43=>
 oP (pGd false v36) fun b27=>
 oP (gV b27 (pIx 1 v42 v43)) fun v44=>
 oP (pGd false v36) fun b28=>
 oP (gV b28 (pLd v44 h)) fun v45=>
 oP (pGd false v36) fun b29=>
 oP (gV b29 (some x2)) fun v46=>
 oP (pGd false v36) fun b30=>
 oP (gC b30 (some (n_ssa_checker_dominates,[v38,v45,v46]))) fun y30=>cgP C y30 h fun v47 h1=>
 oP (pOr v36 (hun .not v47)) fun v49=>
 bP v49 (
 Q (V.bool false) h1) (
 oP (hbin .add 3 x13 (V.int .i64 1)) fun v50=>
 KL0 x0 x2 x3 x11 x12 v50 h1)) (
 Q (V.bool true) h)
theorem l_ssa_checker_seen_L0 {C:Cfg}{Q:QP1}(I:Nat→QP6)(step:∀(k:Nat)(x0 x2 x3 x11 x12 x13:V)(h:Hp),I k x0 x2 x3 x11 x12 x13 h→B_ssa_checker_seen_L0 C Q (fun x0 x2 x3 x11 x12 x13 h=>∃k',k' < k∧I k' x0 x2 x3 x11 x12 x13 h) x0 x2 x3 x11 x12 x13 h){k:Nat}{x0 x2 x3 x11 x12 x13:V}{h:Hp}(h0:I k x0 x2 x3 x11 x12 x13 h):J_ssa_checker_seen_L0 C Q x0 x2 x3 x11 x12 x13 h:=by
 rintro ρ rfl rfl rfl rfl rfl rfl
 exact WA.loop (fun k ρ h=>I k (ρ 0) (ρ 2) (ρ 3) (ρ 11) (ρ 12) (ρ 13) h) (by kernel_rfl) (by kernel_rfl) (fun k ρ h hi=>LA.of (by kernel_rfl) (step k (ρ 0) (ρ 2) (ρ 3) (ρ 11) (ρ 12) (ρ 13) h hi)) h0
def B_ssa_checker_seen (C:Cfg)(Q:QP1)(a0 a1 a2 a3:V)(h:Hp):Prop:=
 oP (pLen a1) fun v12=>
 J_ssa_checker_seen_L0 C Q a0 a2 a3 a1 v12 (V.int .i64 0) h
theorem c_ssa_checker_seen {C:Cfg}(hs:C.start=startF){a0 a1 a2 a3:V}{h:Hp}{Q:QP1}(hk:C.K n_ssa_checker_seen [a0,a1,a2,a3] h=none)(H:B_ssa_checker_seen C Q a0 a1 a2 a3 h):cP C n_ssa_checker_seen [a0,a1,a2,a3] h Q:=
 cP.vc (tb:=t59) hs (by unfold P0;exact Tryd.func59) (by kernel_rfl) hk (by kernel_rfl) (by kernel_rfl) H
def t60:List (Nat×List Nat):=[(43,[0,2,3,19,20,21])]
def J_ssa_checker_seenState_L0 (C:Cfg)(Q:QP1)(x0 x2 x3 x19 x20 x21:V)(h:Hp):Prop:=∀ρ:Rho,ρ 0=x0→ρ 2=x2→ρ 3=x3→ρ 19=x19→ρ 20=x20→ρ 21=x21→WA C Tryd.f60 t60 21 [] Q ρ h
def B_ssa_checker_seenState_L0 (C:Cfg)(Q:QP1)(KL0:QP6)(x0 x2 x3 x19 x20 x21:V)(h:Hp):Prop:=
 oP (hbin .lss 3 x21 x20) fun v22=>
 bP v22 (
 oP (pIx 4 x19 x21) fun v23=>
 oP (pLdA 4 v23 h) fun v24=>
 alP (some (.cells 57 1 true false [(V.int .i64 0),(V.int .i64 0),V.nilSlice,V.nilSlice],fun l=> .ptr l 0)) h fun v10 h1=>
 valP (pSt 4 v10 v24 h1) fun vu h2=>
 oP (pFA 2 v10) fun v26=>
 oP (pLd v26 h2) fun v27=>
 cP C n_ssa_checker_seen [x0,v27,x2,x3] h2 fun v30 h3=>
 oP (hun .not v30) fun v31=>
 oP (pGd false v31) fun b8=>
 oP (gV b8 (some x0)) fun v33=>
 oP (pGd false v31) fun b9=>
 oP (gV b9 (pFA 3 v10)) fun v34=>
 oP (pGd false v31) fun b10=>
 oP (gV b10 (pLd v34 h3)) fun v35=>
 oP (pGd false v31) fun b11=>
 oP (gV b11 (some x2)) fun v36=>
 oP (pGd false v31) fun b12=>
 oP (gV b12 (some x3)) fun v37=>
 oP (pGd false v31) fun b13=>
 oP (gC b13 (some (n_ssa_checker_seen,[v33,v35,v36,v37]))) fun y13=>cgP C y13 h3 fun v38 h4=>
 oP (pOr v31 (hun .not v38)) fun v40=>
 bP v40 (
 Q (V.bool false) h4) (
 oP (hbin .add 3 x21 (V.int .i64 1)) fun v41=>
 KL0 x0 x2 x3 x19 x20 v41 h4)) (
 Q (V.bool true) h)
theorem l_ssa_checker_seenState_L0 {C:Cfg}{Q:QP1}(I:Nat→QP6)(step:∀(k:Nat)(x0 x2 x3 x19 x20 x21:V)(h:Hp),I k x0 x2 x3 x19 x20 x21 h→B_ssa_checker_seenState_L0 C Q (fun x0 x2 x3 x19 x20 x21 h=>∃k',k' < k∧I k' x0 x2 x3 x19 x20 x21 h) x0 x2 x3 x19 x20 x21 h){k:Nat}{x0 x2 x3 x19 x20 x21:V}{h:Hp}(h0:I k x0 x2 x3 x19 x20 x21 h):J_ssa_checker_seenState_L0 C Q x0 x2 x3 x19 x20 x21 h:=by
 rintro ρ rfl rfl rfl rfl rfl rfl
 exact WA.loop (fun k ρ h=>I k (ρ 0) (ρ 2) (ρ 3) (ρ 19) (ρ 20) (ρ 21) h) (by kernel_rfl) (by kernel_rfl) (fun k ρ h hi=>LA.of (by kernel_rfl) (step k (ρ 0) (ρ 2) (ρ 3) (ρ 19) (ρ 20) (ρ 21) h hi)) h0
def B_ssa_checker_seenState (C:Cfg)(Q:QP1)(a0 a1 a2 a3:V)(h:Hp):Prop:=
 oP (pNil a0) fun v12=>
 oP (pFA 0 v12) fun v13=>
 oP (pFA 4 v13) fun v14=>
 oP (pLd v14 h) fun v15=>
 oP (pIx 1 v15 a1) fun v17=>
 oP (pFA 0 v17) fun v18=>
 oP (pLd v18 h) fun v19=>
 oP (pLen v19) fun v20=>
 J_ssa_checker_seenState_L0 C Q a0 a2 a3 v19 v20 (V.int .i64 0) h
theorem c_ssa_checker_seenState {C:Cfg}(hs:C.start=startF){a0 a1 a2 a3:V}{h:Hp}{Q:QP1}(hk:C.K n_ssa_checker_seenState [a0,a1,a2,a3] h=none)(H:B_ssa_checker_seenState C Q a0 a1 a2 a3 h):cP C n_ssa_checker_seenState [a0,a1,a2,a3] h Q:=
 cP.vc (tb:=t60) hs (by unfold P0;exact Tryd.func60) (by kernel_rfl) hk (by kernel_rfl) (by kernel_rfl) H
def t43:List (Nat×List Nat):=[(175,[0,1,5,6,24,25,26]),(1356591,[0,1,5,6,24,25,26,43,44,45]),(3886,[0,1,5,6,24,25,26])]
def J_ssa_checker_taken_L0 (C:Cfg)(Q:QP1)(x0 x1 x5 x6 x24 x25 x26:V)(h:Hp):Prop:=∀ρ:Rho,ρ 0=x0→ρ 1=x1→ρ 5=x5→ρ 6=x6→ρ 24=x24→ρ 25=x25→ρ 26=x26→WA C Tryd.f43 t43 87 [] Q ρ h
def J_ssa_checker_taken_L1 (C:Cfg)(Q:QP1)(KL0:QP7)(x0 x1 x5 x6 x24 x25 x26 x43 x44 x45:V)(h:Hp):Prop:=∀ρ:Rho,ρ 0=x0→ρ 1=x1→ρ 5=x5→ρ 6=x6→ρ 24=x24→ρ 25=x25→ρ 26=x26→ρ 43=x43→ρ 44=x44→ρ 45=x45→WA C Tryd.f43 t43 678295 [fun ρ h=>KL0 (ρ 0) (ρ 1) (ρ 5) (ρ 6) (ρ 24) (ρ 25) (ρ 26) h] Q ρ h
def J_ssa_checker_taken_R14 (C:Cfg)(Q:QP1)(KL0:QP7)(x0 x1 x5 x6 x24 x25 x26:V)(h:Hp):Prop:=∀ρ:Rho,ρ 0=x0→ρ 1=x1→ρ 5=x5→ρ 6=x6→ρ 24=x24→ρ 25=x25→ρ 26=x26→WA C Tryd.f43 t43 1943 [fun ρ h=>KL0 (ρ 0) (ρ 1) (ρ 5) (ρ 6) (ρ 24) (ρ 25) (ρ 26) h] Q ρ h
def B_ssa_checker_taken_L0 (C:Cfg)(Q:QP1)(KL0:QP7)(x0 x1 x5 x6 x24 x25 x26:V)(h:Hp):Prop:=
 oP (hbin .lss 3 x26 x25) fun v27=>
 bP v27 (
 oP (pIx 1 x24 x26) fun v29=>
 oP (pLd v29 h) fun v30=>
 oP (pNil x0) fun v32=>
 oP (pFA 0 v32) fun v33=>
 oP (pFA 2 v33) fun v34=>
 oP (pLd v34 h) fun v35=>
 oP (pIx 6 v35 v30) fun v37=>
 oP (pLdA 6 v37 h) fun v38=>
 alP (some (.cells 39 1 true false [(V.int .i64 0),(V.int .i64 0),(V.int .i64 0),(V.int .i64 0),V.nilSlice,(V.int .i64 0)],fun l=> .ptr l 0)) h fun v9 h1=>
 valP (pSt 6 v9 v38 h1) fun vu h2=>
 oP (pFA 0 v9) fun v39=>
 oP (pLd v39 h2) fun v40=>
 oP (hbin .eql 3 v40 (V.int .i64 21)) fun v41=>
 bP v41 (
 oP (pFA 4 v9) fun v42=>
 oP (pLd v42 h2) fun v43=>
 oP (pLen v43) fun v44=>
 J_ssa_checker_taken_L1 C Q KL0 x0 x1 x5 x6 x24 x25 x26 v43 v44 (V.int .i64 0) h2) (
 oP (pLdA 6 v9 h2) fun v76=>
 cP C n_ssa_Uses [v76] h2 fun v77 h3=>
 cP C n_ssa_checker_seen [x0,v77,x1,x26] h3 fun v80 h4=>
 oP (hun .not v80) fun v81=>
 oP (pGd false v81) fun b8=>
 oP (gV b8 (pFA 0 v9)) fun v83=>
 oP (pGd false v81) fun b9=>
 oP (gV b9 (pLd v83 h4)) fun v84=>
 oP (pGd false v81) fun b10=>
 oP (gC b10 (some (n_ssa_leaves,[v84]))) fun y10=>cgP C y10 h4 fun v85 h5=>
 oP (pGd false v81) fun b11=>
 oP (gV b11 (some v85)) fun v86=>
 oP (pGd true v86) fun b12=>
 oP (gV b12 (some x0)) fun v87=>
 oP (pGd true v86) fun b13=>
 oP (gV b13 (pFA 5 v9)) fun v88=>
 oP (pGd true v86) fun b14=>
 oP (gV b14 (pLd v88 h5)) fun v89=>
 oP (pGd true v86) fun b15=>
 oP (gV b15 (some x1)) fun v90=>
 oP (pGd true v86) fun b16=>
 oP (gV b16 (some x26)) fun v91=>
 oP (pGd true v86) fun b17=>
 oP (gC b17 (some (n_ssa_checker_seenState,[v87,v89,v90,v91]))) fun y17=>cgP C y17 h5 fun v92 h6=>
 oP (pGd true v86) fun b18=>
 oP (gV b18 (hun .not v92)) fun v93=>
 oP (pOr v81 (pPick v86 v93 (V.bool false))) fun v95=>
 bP v95 (
 Q (V.bool false) h6) (
 J_ssa_checker_taken_R14 C Q KL0 x0 x1 x5 x6 x24 x25 x26 h6))) (
 oP (pFA 1 x5) fun v97=>
 oP (pLd v97 h) fun v98=>
 oP (hbin .eql 3 v98 (V.int .i64 2)) fun v100=>
 bP v100 (
 oP (pFA 2 x5) fun v102=>
 oP (pLd v102 h) fun v103=>
 alP (pBS 3 1 1 (V.int .i64 0) [(0,v103)]) h fun v104 h7=>
 cP C n_ssa_checker_seen [x0,v104,x1,x6] h7 fun v107 h8=>
 Q v107 h8) (
 oP (hbin .eql 3 v98 (V.int .i64 3)) fun v109=>
 bP v109 (
 oP (pFA 5 x5) fun v111=>
 oP (pLd v111 h) fun v112=>
 cP C n_ssa_checker_seenState [x0,v112,x1,x6] h fun v115 h9=>
 Q v115 h9) (
 Q (V.bool true) h)))
theorem l_ssa_checker_taken_L0 {C:Cfg}{Q:QP1}(I:Nat→QP7)(step:∀(k:Nat)(x0 x1 x5 x6 x24 x25 x26:V)(h:Hp),I k x0 x1 x5 x6 x24 x25 x26 h→B_ssa_checker_taken_L0 C Q (fun x0 x1 x5 x6 x24 x25 x26 h=>∃k',k' < k∧I k' x0 x1 x5 x6 x24 x25 x26 h) x0 x1 x5 x6 x24 x25 x26 h){k:Nat}{x0 x1 x5 x6 x24 x25 x26:V}{h:Hp}(h0:I k x0 x1 x5 x6 x24 x25 x26 h):J_ssa_checker_taken_L0 C Q x0 x1 x5 x6 x24 x25 x26 h:=by
 rintro ρ rfl rfl rfl rfl rfl rfl rfl
 exact WA.loop (fun k ρ h=>I k (ρ 0) (ρ 1) (ρ 5) (ρ 6) (ρ 24) (ρ 25) (ρ 26) h) (by kernel_rfl) (by kernel_rfl) (fun k ρ h hi=>LA.of (by kernel_rfl) (step k (ρ 0) (ρ 1) (ρ 5) (ρ 6) (ρ 24) (ρ 25) (ρ 26) h hi)) h0
def B_ssa_checker_taken_L1 (C:Cfg)(Q:QP1)(KL0:QP7)(KL1:QP10)(x0 x1 x5 x6 x24 x25 x26 x43 x44 x45:V)(h:Hp):Prop:=
 oP (hbin .lss 3 x45 x44) fun v46=>
 bP v46 (
 oP (pIx 1 x43 x45) fun v48=>
 oP (pLd v48 h) fun v49=>
 alO (pBS 3 1 1 (V.int .i64 0) [(0,v49)]) h fun o2 v52 h1=>
 oP (pFA 4 x5) fun v53=>
 oP (pLd v53 h1) fun v54=>
 oP (pIx 1 v54 x45) fun v56=>
 oP (pLd v56 h1) fun v57=>
 oP (pNil x0) fun v59=>
 oP (pFA 0 v59) fun v60=>
 oP (pFA 3 v60) fun v61=>
 oP (pLd v61 h1) fun v62=>
 oP (pFA 4 x5) fun v63=>
 oP (pLd v63 h1) fun v64=>
 oP (pIx 1 v64 x45) fun v66=>
 oP (pLd v66 h1) fun v67=>
 oP (pIx 6 v62 v67) fun v68=>
 oP (pFA 0 v68) fun v69=>
 oP (pLd v69 h1) fun v70=>
 oP (pLen v70) fun v71=>
 ((h1.get (h.next)=some o2∧O.beq o2 o2=true)∧
 cP C n_ssa_checker_seen [x0,v52,v57,v71] h1 fun v72 h2=>
 (h1.next≤h2.next∧
 oP (hun .not v72) fun v73=>
 bP v73 (
 Q (V.bool false) h2) (
 oP (hbin .add 3 x45 (V.int .i64 1)) fun v74=>
 KL1 x0 x1 x5 x6 x24 x25 x26 x43 x44 v74 h2)))) (
 J_ssa_checker_taken_R14 C Q KL0 x0 x1 x5 x6 x24 x25 x26 h)
theorem l_ssa_checker_taken_L1 {C:Cfg}{Q:QP1}{KL0:QP7}(I:Nat→QP10)(step:∀(k:Nat)(x0 x1 x5 x6 x24 x25 x26 x43 x44 x45:V)(h:Hp),I k x0 x1 x5 x6 x24 x25 x26 x43 x44 x45 h→B_ssa_checker_taken_L1 C Q KL0 (fun x0 x1 x5 x6 x24 x25 x26 x43 x44 x45 h=>∃k',k' < k∧I k' x0 x1 x5 x6 x24 x25 x26 x43 x44 x45 h) x0 x1 x5 x6 x24 x25 x26 x43 x44 x45 h){k:Nat}{x0 x1 x5 x6 x24 x25 x26 x43 x44 x45:V}{h:Hp}(h0:I k x0 x1 x5 x6 x24 x25 x26 x43 x44 x45 h):J_ssa_checker_taken_L1 C Q KL0 x0 x1 x5 x6 x24 x25 x26 x43 x44 x45 h:=by
 rintro ρ rfl rfl rfl rfl rfl rfl rfl rfl rfl rfl
 exact WA.loop (fun k ρ h=>I k (ρ 0) (ρ 1) (ρ 5) (ρ 6) (ρ 24) (ρ 25) (ρ 26) (ρ 43) (ρ 44) (ρ 45) h) (by kernel_rfl) (by kernel_rfl) (fun k ρ h hi=>LA.of (by kernel_rfl) (step k (ρ 0) (ρ 1) (ρ 5) (ρ 6) (ρ 24) (ρ 25) (ρ 26) (ρ 43) (ρ 44) (ρ 45) h hi)) h0
def B_ssa_checker_taken_R14 (C:Cfg)(Q:QP1)(KL0:QP7)(x0 x1 x5 x6 x24 x25 x26:V)(h:Hp):Prop:=
 oP (hbin .add 3 x26 (V.int .i64 1)) fun v96=>
 KL0 x0 x1 x5 x6 x24 x25 v96 h
theorem j_ssa_checker_taken_R14 {C:Cfg}{Q:QP1}{KL0:QP7}{x0 x1 x5 x6 x24 x25 x26:V}{h:Hp}(H:B_ssa_checker_taken_R14 C Q KL0 x0 x1 x5 x6 x24 x25 x26 h):J_ssa_checker_taken_R14 C Q KL0 x0 x1 x5 x6 x24 x25 x26 h:=by
 rintro ρ rfl rfl rfl rfl rfl rfl rfl
 exact WA.of (by kernel_rfl) H
def B_ssa_checker_taken (C:Cfg)(Q:QP1)(a0 a1:V)(h:Hp):Prop:=
 oP (pNil a0) fun v13=>
 oP (pFA 0 v13) fun v14=>
 oP (pFA 3 v14) fun v15=>
 oP (pLd v15 h) fun v16=>
 oP (pIx 6 v16 a1) fun v18=>
 oP (pLdA 6 v18 h) fun v19=>
 alP (some (.cells 36 1 true false [V.nilSlice,(V.int .i64 0),(V.int .i64 0),V.nilSlice,V.nilSlice,(V.int .i64 0)],fun l=> .ptr l 0)) h fun v5 h1=>
 valP (pSt 6 v5 v19 h1) fun vu h2=>
 oP (pFA 0 v5) fun v20=>
 oP (pLd v20 h2) fun v21=>
 oP (pLen v21) fun v22=>
 oP (pFA 0 v5) fun v23=>
 oP (pLd v23 h2) fun v24=>
 oP (pLen v24) fun v25=>
 J_ssa_checker_taken_L0 C Q a0 a1 v5 v22 v24 v25 (V.int .i64 0) h2
theorem c_ssa_checker_taken {C:Cfg}(hs:C.start=startF){a0 a1:V}{h:Hp}{Q:QP1}(hk:C.K n_ssa_checker_taken [a0,a1] h=none)(H:B_ssa_checker_taken C Q a0 a1 h):cP C n_ssa_checker_taken [a0,a1] h Q:=
 cP.vc (tb:=t43) hs (by unfold P0;exact Tryd.func43) (by kernel_rfl) hk (by kernel_rfl) (by kernel_rfl) H
def t24:List (Nat×List Nat):=[]
def B_ssa_Check (C:Cfg)(Q:QP1)(a0:V)(h:Hp):Prop:=
 alP (hbox 29 a0) h fun v1 h1=>
 oP (pFA 2 v1) fun v5=>
 oP (pLd v5 h1) fun v6=>
 oP (pLen v6) fun v7=>
 oP (hbin .gtr 3 v7 (V.int .i64 3000)) fun v8=>
 oP (pOr v8 (oB (pFA 3 v1) fun v10=>oB (pLd v10 h1) fun v11=>oB (pLen v11) fun v12=>hbin .gtr 3 v12 (V.int .i64 300))) fun v14=>
 oP (pOr v14 (oB (pFA 4 v1) fun v16=>oB (pLd v16 h1) fun v17=>oB (pLen v17) fun v18=>hbin .gtr 3 v18 (V.int .i64 1000))) fun v20=>
 oP (pOr v20 (oB (pFA 3 v1) fun v22=>oB (pLd v22 h1) fun v23=>oB (pLen v23) fun v24=>hbin .eql 3 v24 (V.int .i64 0))) fun v26=>
 bP v26 (
 Q (V.bool false) h1) (
 oP (pLdA 5 v1 h1) fun v27=>
 oP (pBuild [(V.int .i64 0),(V.int .i64 0),V.nilSlice,V.nilSlice,V.nilSlice,V.nilSlice,V.nilSlice,V.nilSlice] [(0,5),(5,1),(6,1),(7,1)] [(0,v27)]) fun v28=>
 alP (hbox 80 v28) h1 fun v29 h2=>
 oP (pFA 4 v1) fun v31=>
 oP (pLd v31 h2) fun v32=>
 oP (pLen v32) fun v33=>
 cP C n_ssa_checker_all [v29,v33,(V.func n_ssa_checker_state [v29] [])] h2 fun v36 h3=>
 oP (hun .not v36) fun v37=>
 oP (pGd false v37) fun b9=>
 oP (gV b9 (some v29)) fun v39=>
 oP (pGd false v37) fun b10=>
 oP (gC b10 (some (n_ssa_checker_stand,[v39]))) fun y10=>cgP C y10 h3 fun v40 h4=>
 oP (pOr v37 (hun .not v40)) fun v42=>
 oP (pGd false v42) fun b14_1=>
 oP (gV b14_1 (some v29)) fun v44=>
 oP (pGd false v42) fun b15=>
 oP (gV b15 (pFA 2 v1)) fun v45=>
 oP (pGd false v42) fun b16=>
 oP (gV b16 (pLd v45 h4)) fun v46=>
 oP (pGd false v42) fun b17_1=>
 oP (gV b17_1 (pLen v46)) fun v47=>
 oP (pGd false v42) fun b18_1=>
 oP (gV b18_1 (some v29)) fun v48=>
 oP (pGd false v42) fun b19_1=>
 oP (gV b19_1 (some (V.func n_ssa_checker_val [v48] []))) fun v49=>
 oP (pGd false v42) fun b20_1=>
 oP (gC b20_1 (some (n_ssa_checker_all,[v44,v47,v49]))) fun y20=>cgP C y20 h4 fun v50 h5=>
 oP (pOr v42 (hun .not v50)) fun v52=>
 oP (pGd false v52) fun b24=>
 oP (gV b24 (some v29)) fun v54=>
 oP (pGd false v52) fun b25=>
 oP (gV b25 (pFA 3 v1)) fun v55=>
 oP (pGd false v52) fun b26=>
 oP (gV b26 (pLd v55 h5)) fun v56=>
 oP (pGd false v52) fun b27=>
 oP (gV b27 (pLen v56)) fun v57=>
 oP (pGd false v52) fun b28=>
 oP (gV b28 (some v29)) fun v58=>
 oP (pGd false v52) fun b29=>
 oP (gV b29 (some (V.func n_ssa_checker_ends [v58] []))) fun v59=>
 oP (pGd false v52) fun b30=>
 oP (gC b30 (some (n_ssa_checker_all,[v54,v57,v59]))) fun y30=>cgP C y30 h5 fun v60 h6=>
 oP (pOr v52 (hun .not v60)) fun v62=>
 oP (pGd false v62) fun b34=>
 oP (gV b34 (some v29)) fun v64=>
 oP (pGd false v62) fun b35=>
 oP (gV b35 (pFA 3 v1)) fun v65=>
 oP (pGd false v62) fun b36=>
 oP (gV b36 (pLd v65 h6)) fun v66=>
 oP (pGd false v62) fun b37=>
 oP (gV b37 (pLen v66)) fun v67=>
 oP (pGd false v62) fun b38=>
 oP (gV b38 (some v29)) fun v68=>
 oP (pGd false v62) fun b39=>
 oP (gV b39 (some (V.func n_ssa_checker_led [v68] []))) fun v69=>
 oP (pGd false v62) fun b40=>
 oP (gC b40 (some (n_ssa_checker_all,[v64,v67,v69]))) fun y40=>cgP C y40 h6 fun v70 h7=>
 oP (pOr v62 (hun .not v70)) fun v72=>
 bP v72 (
 Q (V.bool false) h7) (
 cP C n_ssa_checker_order [v29] h7 fun v74 h8=>
 oP (pLen v74) fun v76=>
 oP (pFA 3 v1) fun v77=>
 oP (pLd v77 h8) fun v78=>
 oP (pLen v78) fun v79=>
 oP (hbin .neq 3 v76 v79) fun v80=>
 bP v80 (
 Q (V.bool false) h8) (
 oP (pLdA 5 v1 h8) fun v82=>
 cP C n_ssa_Dominators [v82] h8 fun v83 h9=>
 oP (pNil v29) fun v84=>
 oP (pFA 7 v84) fun v85=>
 valP (pSt 1 v85 v83 h9) fun vu h10=>
 oP (pFA 3 v1) fun v87=>
 oP (pLd v87 h10) fun v88=>
 oP (pLen v88) fun v89=>
 cP C n_ssa_checker_all [v29,v89,(V.func n_ssa_checker_taken [v29] [])] h10 fun v92 h11=>
 Q v92 h11)))
theorem c_ssa_Check {C:Cfg}(hs:C.start=startF){a0:V}{h:Hp}{Q:QP1}(hk:C.K n_ssa_Check [a0] h=none)(H:B_ssa_Check C Q a0 h):cP C n_ssa_Check [a0] h Q:=
 cP.vc (tb:=t24) hs (by unfold P0;exact Tryd.func24) (by kernel_rfl) hk (by kernel_rfl) (by kernel_rfl) H
end
end Go.Proofs.YtiepamfpilhcjaaDoor.Hx
