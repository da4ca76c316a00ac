/- Parts of the proof. -/
import Derived.Test.YtiepamfpilhcjaaDoorM14
namespace Go.Proofs.YtiepamfpilhcjaaDoor.Hx
set_option maxRecDepth 100000
noncomputable section
def t25:List (Nat×List Nat):=[(87,[1,3,12,13]),(351,[3,4,5]),(23135,[3,4,5,6])]
def J_alloc_live_L0 (C:Cfg)(Q:QP1)(x1 x3 x12 x13:V)(h:Hp):Prop:=∀ρ:Rho,ρ 1=x1→ρ 3=x3→ρ 12=x12→ρ 13=x13→WA C Tryd.f25 t25 43 [] Q ρ h
def J_alloc_live_L1 (C:Cfg)(Q:QP1)(x3 x4 x5:V)(h:Hp):Prop:=∀ρ:Rho,ρ 3=x3→ρ 4=x4→ρ 5=x5→WA C Tryd.f25 t25 175 [] Q ρ h
def J_alloc_live_L2 (C:Cfg)(Q:QP1)(KL1:QP3)(x3 x4 x5 x6:V)(h:Hp):Prop:=∀ρ:Rho,ρ 3=x3→ρ 4=x4→ρ 5=x5→ρ 6=x6→WA C Tryd.f25 t25 11567 [fun ρ h=>KL1 (ρ 3) (ρ 4) (ρ 5) h] Q ρ h
def B_alloc_live_L0 (C:Cfg)(Q:QP1)(KL0:QP4)(x1 x3 x12 x13:V)(h:Hp):Prop:=
 oP (hbin .lss 3 x13 x12) fun v14=>
 bP v14 (
 oP (pNil x3) fun v18=>
 oP (pFA 5 v18) fun v19=>
 oP (pLd v19 h) fun v20=>
 oP (pFA 2 x1) fun v21=>
 oP (pLd v21 h) fun v22=>
 oP (pLen v22) fun v23=>
 alO (hmakeSlice 4 1 1 (V.bool false) v23 v23) h fun o9 v24 h1=>
 alO (pBS 37 1 1 V.nilSlice [(0,v24)]) h1 fun o10 v25 h2=>
 oP (pNil x3) fun v28=>
 oP (pFA 6 v28) fun v29=>
 oP (pLd v29 h2) fun v30=>
 oP (pFA 2 x1) fun v31=>
 oP (pLd v31 h2) fun v32=>
 oP (pLen v32) fun v33=>
 alO (hmakeSlice 4 1 1 (V.bool false) v33 v33) h2 fun o19 v34 h3=>
 alO (pBS 37 1 1 V.nilSlice [(0,v34)]) h3 fun o20 v35 h4=>
 ((h4.get (h3.next)=some o20∧O.beq o20 o20=true)∧
 ((h4.get (h2.next)=some o19∧O.beq o19 o19=true)∧
 ((pLd v31 h4=some v32)∧
 ((pLd v29 h4=some v30)∧
 ((h4.get (h1.next)=some o10∧O.beq o10 o10=true)∧
 ((h4.get (h.next)=some o9∧O.beq o9 o9=true)∧
 ((pLd v21 h4=some v22)∧
 ((pLd v19 h4=some v20)∧
 valP (happend 37 1 24 v20 v25 h4) fun v26 h5=>
 (h4.next≤h5.next∧
 ((h5.get (h3.next)=some o20∧O.beq o20 o20=true)∧
 ((h5.get (h2.next)=some o19∧O.beq o19 o19=true)∧
 ((pLd v31 h5=some v32)∧
 ((pLd v29 h5=some v30)∧
 valP (happend 37 1 24 v30 v35 h5) fun v36 h6=>
 (h5.next≤h6.next∧
 oP (pNil x3) fun v37=>
 oP (pFA 5 v37) fun v38=>
 valP (pSt 1 v38 v26 h6) fun vu h7=>
 (h6.next≤h7.next∧
 oP (pNil x3) fun v39=>
 oP (pFA 6 v39) fun v40=>
 valP (pSt 1 v40 v36 h7) fun vu_1 h8=>
 (h7.next≤h8.next∧
 oP (hbin .add 3 x13 (V.int .i64 1)) fun v41=>
 KL0 x1 x3 x12 v41 h8))))))))))))))))) (
 oP (pLdA 5 x1 h) fun v42=>
 cP C n_ssa_Order [v42] h fun v43 h9=>
 J_alloc_live_L1 C Q x3 v43 (V.bool true) h9)
theorem l_alloc_live_L0 {C:Cfg}{Q:QP1}(I:Nat→QP4)(step:∀(k:Nat)(x1 x3 x12 x13:V)(h:Hp),I k x1 x3 x12 x13 h→B_alloc_live_L0 C Q (fun x1 x3 x12 x13 h=>∃k',k' < k∧I k' x1 x3 x12 x13 h) x1 x3 x12 x13 h){k:Nat}{x1 x3 x12 x13:V}{h:Hp}(h0:I k x1 x3 x12 x13 h):J_alloc_live_L0 C Q x1 x3 x12 x13 h:=by
 rintro ρ rfl rfl rfl rfl
 exact WA.loop (fun k ρ h=>I k (ρ 1) (ρ 3) (ρ 12) (ρ 13) h) (by kernel_rfl) (by kernel_rfl) (fun k ρ h hi=>LA.of (by kernel_rfl) (step k (ρ 1) (ρ 3) (ρ 12) (ρ 13) h hi)) h0
def B_alloc_live_L1 (C:Cfg)(Q:QP1)(KL1:QP3)(x3 x4 x5:V)(h:Hp):Prop:=
 bP x5 (
 oP (pLen x4) fun v46=>
 oP (hbin .sub 3 v46 (V.int .i64 1)) fun v47=>
 J_alloc_live_L2 C Q KL1 x3 x4 (V.bool false) v47 h) (
 Q x3 h)
theorem l_alloc_live_L1 {C:Cfg}{Q:QP1}(I:Nat→QP3)(step:∀(k:Nat)(x3 x4 x5:V)(h:Hp),I k x3 x4 x5 h→B_alloc_live_L1 C Q (fun x3 x4 x5 h=>∃k',k' < k∧I k' x3 x4 x5 h) x3 x4 x5 h){k:Nat}{x3 x4 x5:V}{h:Hp}(h0:I k x3 x4 x5 h):J_alloc_live_L1 C Q x3 x4 x5 h:=by
 rintro ρ rfl rfl rfl
 exact WA.loop (fun k ρ h=>I k (ρ 3) (ρ 4) (ρ 5) h) (by kernel_rfl) (by kernel_rfl) (fun k ρ h hi=>LA.of (by kernel_rfl) (step k (ρ 3) (ρ 4) (ρ 5) h hi)) h0
def B_alloc_live_L2 (C:Cfg)(Q:QP1)(KL1:QP3)(KL2:QP4)(x3 x4 x5 x6:V)(h:Hp):Prop:=
 oP (hbin .geq 3 x6 (V.int .i64 0)) fun v49=>
 bP v49 (
 oP (pIx 1 x4 x6) fun v55=>
 oP (pLd v55 h) fun v56=>
 cP C n_alloc_liver_block [x3,v56] h fun v57 h1=>
 oP (pOr v57 (some x5)) fun v60=>
 oP (hbin .sub 3 x6 (V.int .i64 1)) fun v51=>
 KL2 x3 x4 v60 v51 h1) (
 KL1 x3 x4 x5 h)
theorem l_alloc_live_L2 {C:Cfg}{Q:QP1}{KL1:QP3}(I:Nat→QP4)(step:∀(k:Nat)(x3 x4 x5 x6:V)(h:Hp),I k x3 x4 x5 x6 h→B_alloc_live_L2 C Q KL1 (fun x3 x4 x5 x6 h=>∃k',k' < k∧I k' x3 x4 x5 x6 h) x3 x4 x5 x6 h){k:Nat}{x3 x4 x5 x6:V}{h:Hp}(h0:I k x3 x4 x5 x6 h):J_alloc_live_L2 C Q KL1 x3 x4 x5 x6 h:=by
 rintro ρ rfl rfl rfl rfl
 exact WA.loop (fun k ρ h=>I k (ρ 3) (ρ 4) (ρ 5) (ρ 6) h) (by kernel_rfl) (by kernel_rfl) (fun k ρ h hi=>LA.of (by kernel_rfl) (step k (ρ 3) (ρ 4) (ρ 5) (ρ 6) h hi)) h0
def B_alloc_live (C:Cfg)(Q:QP1)(a0:V)(h:Hp):Prop:=
 alP (hbox 29 a0) h fun v1 h1=>
 oP (pLdA 5 v1 h1) fun v7=>
 oP (pBuild [(V.int .i64 0),(V.int .i64 0),V.nilSlice,V.nilSlice,V.nilSlice,V.nilSlice,V.nilSlice] [(0,5),(5,1),(6,1)] [(0,v7)]) fun v8=>
 alP (hbox 67 v8) h1 fun v9 h2=>
 oP (pFA 3 v1) fun v10=>
 oP (pLd v10 h2) fun v11=>
 oP (pLen v11) fun v12=>
 J_alloc_live_L0 C Q v1 v9 v12 (V.int .i64 0) h2
theorem c_alloc_live {C:Cfg}(hs:C.start=startF){a0:V}{h:Hp}{Q:QP1}(hk:C.K n_alloc_live [a0] h=none)(H:B_alloc_live C Q a0 h):cP C n_alloc_live [a0] h Q:=
 cP.vc (tb:=t25) hs (by unfold P0;exact Tryd.func25) (by kernel_rfl) hk (by kernel_rfl) (by kernel_rfl) H
def t44:List (Nat×List Nat):=[(351,[0,1,5,6,7]),(1407,[0,1,5,8,55,56,57])]
def J_alloc_liver_block_L0 (C:Cfg)(Q:QP1)(x0 x1 x5 x6 x7:V)(h:Hp):Prop:=∀ρ:Rho,ρ 0=x0→ρ 1=x1→ρ 5=x5→ρ 6=x6→ρ 7=x7→WA C Tryd.f44 t44 175 [] Q ρ h
def J_alloc_liver_block_L1 (C:Cfg)(Q:QP1)(x0 x1 x5 x8 x55 x56 x57:V)(h:Hp):Prop:=∀ρ:Rho,ρ 0=x0→ρ 1=x1→ρ 5=x5→ρ 8=x8→ρ 55=x55→ρ 56=x56→ρ 57=x57→WA C Tryd.f44 t44 703 [] Q ρ h
def B_alloc_liver_block_L0 (C:Cfg)(Q:QP1)(KL0:QP5)(x0 x1 x5 x6 x7:V)(h:Hp):Prop:=
 oP (hbin .geq 3 x7 (V.int .i64 0)) fun v36=>
 oP (pGd true v36) fun b3=>
 oP (gV b3 (some x0)) fun v38=>
 oP (pGd true v36) fun b4=>
 oP (gV b4 (some x6)) fun v39=>
 oP (pGd true v36) fun b5=>
 oP (gV b5 (some x7)) fun v40=>
 oP (pGd true v36) fun b6=>
 oP (gV b6 (pIx 1 v39 v40)) fun v41=>
 oP (pGd true v36) fun b7=>
 oP (gV b7 (pLd v41 h)) fun v42=>
 oP (pGd true v36) fun b8=>
 oP (gC b8 (some (n_alloc_liver_head,[v38,v42]))) fun y8=>cgP C y8 h fun v43 h1=>
 oP (pAnd v36 (hun .not v43)) fun v45=>
 bP v45 (
 oP (pIx 1 x6 x7) fun v52=>
 oP (pLd v52 h1) fun v53=>
 cP C n_alloc_liver_ahead [x0,x5,v53] h1 fun v54 h2=>
 oP (hbin .sub 3 x7 (V.int .i64 1)) fun v47=>
 KL0 x0 x1 x5 x6 v47 h2) (
 oP (pLen x5) fun v56=>
 J_alloc_liver_block_L1 C Q x0 x1 x5 (V.bool false) x5 v56 (V.int .i64 0) h1)
theorem l_alloc_liver_block_L0 {C:Cfg}{Q:QP1}(I:Nat→QP5)(step:∀(k:Nat)(x0 x1 x5 x6 x7:V)(h:Hp),I k x0 x1 x5 x6 x7 h→B_alloc_liver_block_L0 C Q (fun x0 x1 x5 x6 x7 h=>∃k',k' < k∧I k' x0 x1 x5 x6 x7 h) x0 x1 x5 x6 x7 h){k:Nat}{x0 x1 x5 x6 x7:V}{h:Hp}(h0:I k x0 x1 x5 x6 x7 h):J_alloc_liver_block_L0 C Q x0 x1 x5 x6 x7 h:=by
 rintro ρ rfl rfl rfl rfl rfl
 exact WA.loop (fun k ρ h=>I k (ρ 0) (ρ 1) (ρ 5) (ρ 6) (ρ 7) h) (by kernel_rfl) (by kernel_rfl) (fun k ρ h hi=>LA.of (by kernel_rfl) (step k (ρ 0) (ρ 1) (ρ 5) (ρ 6) (ρ 7) h hi)) h0
def B_alloc_liver_block_L1 (C:Cfg)(Q:QP1)(KL1:QP7)(x0 x1 x5 x8 x55 x56 x57:V)(h:Hp):Prop:=
 oP (hbin .lss 3 x57 x56) fun v58=>
 bP v58 (
 oP (pIx 1 x55 x57) fun v60=>
 oP (pLd v60 h) fun v61=>
 oP (pOr x8 (oB (some v61) fun v64=>oB (some x0) fun v65=>oB (pNil v65) fun v66=>oB (pFA 5 v66) fun v67=>oB (pLd v67 h) fun v68=>oB (some x1) fun v69=>oB (pIx 1 v68 v69) fun v70=>oB (pLd v70 h) fun v71=>oB (some x57) fun v72=>oB (pIx 1 v71 v72) fun v73=>oB (pLd v73 h) fun v74=>hbin .neq 4 v64 v74)) fun v76=>
 oP (hbin .add 3 x57 (V.int .i64 1)) fun v77=>
 KL1 x0 x1 x5 v76 x55 x56 v77 h) (
 oP (pNil x0) fun v79=>
 oP (pFA 5 v79) fun v80=>
 oP (pLd v80 h) fun v81=>
 oP (pIx 1 v81 x1) fun v84=>
 valP (pSt 1 v84 x5 h) fun vu h1=>
 Q x8 h1)
theorem l_alloc_liver_block_L1 {C:Cfg}{Q:QP1}(I:Nat→QP7)(step:∀(k:Nat)(x0 x1 x5 x8 x55 x56 x57:V)(h:Hp),I k x0 x1 x5 x8 x55 x56 x57 h→B_alloc_liver_block_L1 C Q (fun x0 x1 x5 x8 x55 x56 x57 h=>∃k',k' < k∧I k' x0 x1 x5 x8 x55 x56 x57 h) x0 x1 x5 x8 x55 x56 x57 h){k:Nat}{x0 x1 x5 x8 x55 x56 x57:V}{h:Hp}(h0:I k x0 x1 x5 x8 x55 x56 x57 h):J_alloc_liver_block_L1 C Q x0 x1 x5 x8 x55 x56 x57 h:=by
 rintro ρ rfl rfl rfl rfl rfl rfl rfl
 exact WA.loop (fun k ρ h=>I k (ρ 0) (ρ 1) (ρ 5) (ρ 8) (ρ 55) (ρ 56) (ρ 57) h) (by kernel_rfl) (by kernel_rfl) (fun k ρ h hi=>LA.of (by kernel_rfl) (step k (ρ 0) (ρ 1) (ρ 5) (ρ 8) (ρ 55) (ρ 56) (ρ 57) h hi)) h0
def B_alloc_liver_block (C:Cfg)(Q:QP1)(a0 a1:V)(h:Hp):Prop:=
 cP C n_alloc_liver_end [a0,a1] h fun v13 h1=>
 oP (pNil a0) fun v15=>
 oP (pFA 6 v15) fun v16=>
 oP (pLd v16 h1) fun v17=>
 alO (pBS 4 1 0 (V.bool false) []) h1 fun o5 v19 h2=>
 ((h2.get (h1.next)=some o5∧O.beq o5 o5=true)∧
 ((pLd v16 h2=some v17)∧
 valP (happend 4 1 1 v19 v13 h2) fun v21 h3=>
 (h2.next≤h3.next∧
 oP (pIx 1 v17 a1) fun v22=>
 ((pLd v16 h3=some v17)∧
 valP (pSt 1 v22 v21 h3) fun vu h4=>
 (h3.next≤h4.next∧
 oP (pNil a0) fun v24=>
 oP (pFA 0 v24) fun v25=>
 oP (pFA 3 v25) fun v26=>
 oP (pLd v26 h4) fun v27=>
 oP (pIx 6 v27 a1) fun v29=>
 oP (pFA 0 v29) fun v30=>
 oP (pLd v30 h4) fun v31=>
 oP (pLen v31) fun v33=>
 oP (hbin .sub 3 v33 (V.int .i64 1)) fun v34=>
 J_alloc_liver_block_L0 C Q a0 a1 v13 v31 v34 h4)))))
theorem c_alloc_liver_block {C:Cfg}(hs:C.start=startF){a0 a1:V}{h:Hp}{Q:QP1}(hk:C.K n_alloc_liver_block [a0,a1] h=none)(H:B_alloc_liver_block C Q a0 a1 h):cP C n_alloc_liver_block [a0,a1] h Q:=
 cP.vc (tb:=t44) hs (by unfold P0;exact Tryd.func44) (by kernel_rfl) hk (by kernel_rfl) (by kernel_rfl) H
def t61:List (Nat×List Nat):=[(175,[0,1,5,6,37,38,39]),(176943,[0,1,5,6,9,37,38,39,57,58,59]),(351,[0,1,5,6,91,92,93]),(193327,[0,1,5,6,37,38,39,76,77,78]),(190047,[0,1,5,6,16,91,92,93,106,107,108]),(254,[5]),(3994414,[0,1,5,6,37,38,39,76,77,78]),(46982751,[0,1,5,6,16,17,18,91,92,93,106,107,108,114,115,116]),(1020061278,[0,1,5,6,16,17,18,91,92,93,106,107,108,114,115,116])]
def J_alloc_liver_end_L0 (C:Cfg)(Q:QP1)(x0 x1 x5 x6 x37 x38 x39:V)(h:Hp):Prop:=∀ρ:Rho,ρ 0=x0→ρ 1=x1→ρ 5=x5→ρ 6=x6→ρ 37=x37→ρ 38=x38→ρ 39=x39→WA C Tryd.f61 t61 87 [] Q ρ h
def J_alloc_liver_end_L2 (C:Cfg)(Q:QP1)(KL0:QP7)(x0 x1 x5 x6 x9 x37 x38 x39 x57 x58 x59:V)(h:Hp):Prop:=∀ρ:Rho,ρ 0=x0→ρ 1=x1→ρ 5=x5→ρ 6=x6→ρ 9=x9→ρ 37=x37→ρ 38=x38→ρ 39=x39→ρ 57=x57→ρ 58=x58→ρ 59=x59→WA C Tryd.f61 t61 88471 [fun ρ h=>KL0 (ρ 0) (ρ 1) (ρ 5) (ρ 6) (ρ 37) (ρ 38) (ρ 39) h] Q ρ h
def J_alloc_liver_end_L1 (C:Cfg)(Q:QP1)(x0 x1 x5 x6 x91 x92 x93:V)(h:Hp):Prop:=∀ρ:Rho,ρ 0=x0→ρ 1=x1→ρ 5=x5→ρ 6=x6→ρ 91=x91→ρ 92=x92→ρ 93=x93→WA C Tryd.f61 t61 175 [] Q ρ h
def J_alloc_liver_end_L3 (C:Cfg)(Q:QP1)(KL0:QP7)(x0 x1 x5 x6 x37 x38 x39 x76 x77 x78:V)(h:Hp):Prop:=∀ρ:Rho,ρ 0=x0→ρ 1=x1→ρ 5=x5→ρ 6=x6→ρ 37=x37→ρ 38=x38→ρ 39=x39→ρ 76=x76→ρ 77=x77→ρ 78=x78→WA C Tryd.f61 t61 96663 [fun ρ h=>KL0 (ρ 0) (ρ 1) (ρ 5) (ρ 6) (ρ 37) (ρ 38) (ρ 39) h] Q ρ h
def J_alloc_liver_end_L4 (C:Cfg)(Q:QP1)(KL1:QP7)(x0 x1 x5 x6 x16 x91 x92 x93 x106 x107 x108:V)(h:Hp):Prop:=∀ρ:Rho,ρ 0=x0→ρ 1=x1→ρ 5=x5→ρ 6=x6→ρ 16=x16→ρ 91=x91→ρ 92=x92→ρ 93=x93→ρ 106=x106→ρ 107=x107→ρ 108=x108→WA C Tryd.f61 t61 95023 [fun ρ h=>KL1 (ρ 0) (ρ 1) (ρ 5) (ρ 6) (ρ 91) (ρ 92) (ρ 93) h] Q ρ h
def J_alloc_liver_end_R9 (C:Cfg)(Q:QP1)(x5:V)(h:Hp):Prop:=∀ρ:Rho,ρ 5=x5→WA C Tryd.f61 t61 127 [] Q ρ h
def J_alloc_liver_end_R35 (C:Cfg)(Q:QP1)(KL0:QP7)(KL3:QP10)(x0 x1 x5 x6 x37 x38 x39 x76 x77 x78:V)(h:Hp):Prop:=∀ρ:Rho,ρ 0=x0→ρ 1=x1→ρ 5=x5→ρ 6=x6→ρ 37=x37→ρ 38=x38→ρ 39=x39→ρ 76=x76→ρ 77=x77→ρ 78=x78→WA C Tryd.f61 t61 1997207 [fun ρ h=>KL0 (ρ 0) (ρ 1) (ρ 5) (ρ 6) (ρ 37) (ρ 38) (ρ 39) h,fun ρ h=>KL3 (ρ 0) (ρ 1) (ρ 5) (ρ 6) (ρ 37) (ρ 38) (ρ 39) (ρ 76) (ρ 77) (ρ 78) h] Q ρ h
def J_alloc_liver_end_L5 (C:Cfg)(Q:QP1)(KL1:QP7)(KL4:QP11)(x0 x1 x5 x6 x16 x17 x18 x91 x92 x93 x106 x107 x108 x114 x115 x116:V)(h:Hp):Prop:=∀ρ:Rho,ρ 0=x0→ρ 1=x1→ρ 5=x5→ρ 6=x6→ρ 16=x16→ρ 17=x17→ρ 18=x18→ρ 91=x91→ρ 92=x92→ρ 93=x93→ρ 106=x106→ρ 107=x107→ρ 108=x108→ρ 114=x114→ρ 115=x115→ρ 116=x116→WA C Tryd.f61 t61 23491375 [fun ρ h=>KL1 (ρ 0) (ρ 1) (ρ 5) (ρ 6) (ρ 91) (ρ 92) (ρ 93) h,fun ρ h=>KL4 (ρ 0) (ρ 1) (ρ 5) (ρ 6) (ρ 16) (ρ 91) (ρ 92) (ρ 93) (ρ 106) (ρ 107) (ρ 108) h] Q ρ h
def J_alloc_liver_end_R43 (C:Cfg)(Q:QP1)(KL1:QP7)(KL4:QP11)(KL5:QP16)(x0 x1 x5 x6 x16 x17 x18 x91 x92 x93 x106 x107 x108 x114 x115 x116:V)(h:Hp):Prop:=∀ρ:Rho,ρ 0=x0→ρ 1=x1→ρ 5=x5→ρ 6=x6→ρ 16=x16→ρ 17=x17→ρ 18=x18→ρ 91=x91→ρ 92=x92→ρ 93=x93→ρ 106=x106→ρ 107=x107→ρ 108=x108→ρ 114=x114→ρ 115=x115→ρ 116=x116→WA C Tryd.f61 t61 510030639 [fun ρ h=>KL1 (ρ 0) (ρ 1) (ρ 5) (ρ 6) (ρ 91) (ρ 92) (ρ 93) h,fun ρ h=>KL4 (ρ 0) (ρ 1) (ρ 5) (ρ 6) (ρ 16) (ρ 91) (ρ 92) (ρ 93) (ρ 106) (ρ 107) (ρ 108) h,fun ρ h=>KL5 (ρ 0) (ρ 1) (ρ 5) (ρ 6) (ρ 16) (ρ 17) (ρ 18) (ρ 91) (ρ 92) (ρ 93) (ρ 106) (ρ 107) (ρ 108) (ρ 114) (ρ 115) (ρ 116) h] Q ρ h
def B_alloc_liver_end_L0 (C:Cfg)(Q:QP1)(KL0:QP7)(x0 x1 x5 x6 x37 x38 x39:V)(h:Hp):Prop:=
 oP (hbin .lss 3 x39 x38) fun v40=>
 bP v40 (
 oP (pIx 1 x37 x39) fun v41=>
 oP (pLd v41 h) fun v42=>
 oP (pNil x0) fun v44=>
 oP (pFA 0 v44) fun v45=>
 oP (pFA 3 v45) fun v46=>
 oP (pLd v46 h) fun v47=>
 oP (pIx 6 v47 v42) fun v49=>
 oP (pLdA 6 v49 h) fun v50=>
 alP (some (.cells 36 1 true false [V.nilSlice,(V.int .i64 0),(V.int .i64 0),V.nilSlice,V.nilSlice,(V.int .i64 0)],fun l=> .ptr l 0)) h fun v9 h1=>
 valP (pSt 6 v9 v50 h1) fun vu h2=>
 oP (pNil x0) fun v52=>
 oP (pFA 5 v52) fun v53=>
 oP (pLd v53 h2) fun v54=>
 oP (pIx 1 v54 v42) fun v56=>
 oP (pLd v56 h2) fun v57=>
 oP (pLen v57) fun v58=>
 J_alloc_liver_end_L2 C Q KL0 x0 x1 x5 x6 v9 x37 x38 x39 v57 v58 (V.int .i64 0) h2) (
 oP (pFA 3 x6) fun v90=>
 oP (pLd v90 h) fun v91=>
 oP (pLen v91) fun v92=>
 J_alloc_liver_end_L1 C Q x0 x1 x5 x6 v91 v92 (V.int .i64 0) h)
theorem l_alloc_liver_end_L0 {C:Cfg}{Q:QP1}(I:Nat→QP7)(step:∀(k:Nat)(x0 x1 x5 x6 x37 x38 x39:V)(h:Hp),I k x0 x1 x5 x6 x37 x38 x39 h→B_alloc_liver_end_L0 C Q (fun x0 x1 x5 x6 x37 x38 x39 h=>∃k',k' < k∧I k' x0 x1 x5 x6 x37 x38 x39 h) x0 x1 x5 x6 x37 x38 x39 h){k:Nat}{x0 x1 x5 x6 x37 x38 x39:V}{h:Hp}(h0:I k x0 x1 x5 x6 x37 x38 x39 h):J_alloc_liver_end_L0 C Q x0 x1 x5 x6 x37 x38 x39 h:=by
 rintro ρ rfl rfl rfl rfl rfl rfl rfl
 exact WA.loop (fun k ρ h=>I k (ρ 0) (ρ 1) (ρ 5) (ρ 6) (ρ 37) (ρ 38) (ρ 39) h) (by kernel_rfl) (by kernel_rfl) (fun k ρ h hi=>LA.of (by kernel_rfl) (step k (ρ 0) (ρ 1) (ρ 5) (ρ 6) (ρ 37) (ρ 38) (ρ 39) h hi)) h0
def B_alloc_liver_end_L2 (C:Cfg)(Q:QP1)(KL0:QP7)(KL2:QP11)(x0 x1 x5 x6 x9 x37 x38 x39 x57 x58 x59:V)(h:Hp):Prop:=
 oP (hbin .lss 3 x59 x58) fun v60=>
 bP v60 (
 oP (pIx 1 x57 x59) fun v62=>
 oP (pLd v62 h) fun v63=>
 oP (pIx 1 x5 x59) fun v68=>
 oP (pLd v68 h) fun v69=>
 oP (pOr v69 (some v63)) fun v72=>
 oP (pIx 1 x5 x59) fun v73=>
 valP (pSt 1 v73 v72 h) fun vu h1=>
 oP (hbin .add 3 x59 (V.int .i64 1)) fun v74=>
 KL2 x0 x1 x5 x6 x9 x37 x38 x39 x57 x58 v74 h1) (
 oP (pFA 0 x9) fun v75=>
 oP (pLd v75 h) fun v76=>
 oP (pLen v76) fun v77=>
 J_alloc_liver_end_L3 C Q KL0 x0 x1 x5 x6 x37 x38 x39 v76 v77 (V.int .i64 0) h)
theorem l_alloc_liver_end_L2 {C:Cfg}{Q:QP1}{KL0:QP7}(I:Nat→QP11)(step:∀(k:Nat)(x0 x1 x5 x6 x9 x37 x38 x39 x57 x58 x59:V)(h:Hp),I k x0 x1 x5 x6 x9 x37 x38 x39 x57 x58 x59 h→B_alloc_liver_end_L2 C Q KL0 (fun x0 x1 x5 x6 x9 x37 x38 x39 x57 x58 x59 h=>∃k',k' < k∧I k' x0 x1 x5 x6 x9 x37 x38 x39 x57 x58 x59 h) x0 x1 x5 x6 x9 x37 x38 x39 x57 x58 x59 h){k:Nat}{x0 x1 x5 x6 x9 x37 x38 x39 x57 x58 x59:V}{h:Hp}(h0:I k x0 x1 x5 x6 x9 x37 x38 x39 x57 x58 x59 h):J_alloc_liver_end_L2 C Q KL0 x0 x1 x5 x6 x9 x37 x38 x39 x57 x58 x59 h:=by
 rintro ρ rfl rfl rfl rfl rfl rfl rfl rfl rfl rfl rfl
 exact WA.loop (fun k ρ h=>I k (ρ 0) (ρ 1) (ρ 5) (ρ 6) (ρ 9) (ρ 37) (ρ 38) (ρ 39) (ρ 57) (ρ 58) (ρ 59) h) (by kernel_rfl) (by kernel_rfl) (fun k ρ h hi=>LA.of (by kernel_rfl) (step k (ρ 0) (ρ 1) (ρ 5) (ρ 6) (ρ 9) (ρ 37) (ρ 38) (ρ 39) (ρ 57) (ρ 58) (ρ 59) h hi)) h0
def B_alloc_liver_end_L1 (C:Cfg)(Q:QP1)(KL1:QP7)(x0 x1 x5 x6 x91 x92 x93:V)(h:Hp):Prop:=
 oP (hbin .lss 3 x93 x92) fun v94=>
 bP v94 (
 oP (pIx 1 x91 x93) fun v95=>
 oP (pLd v95 h) fun v96=>
 oP (pNil x0) fun v98=>
 oP (pFA 0 v98) fun v99=>
 oP (pFA 3 v99) fun v100=>
 oP (pLd v100 h) fun v101=>
 oP (pIx 6 v101 v96) fun v103=>
 oP (pLdA 6 v103 h) fun v104=>
 alP (some (.cells 36 1 true false [V.nilSlice,(V.int .i64 0),(V.int .i64 0),V.nilSlice,V.nilSlice,(V.int .i64 0)],fun l=> .ptr l 0)) h fun v16 h1=>
 valP (pSt 6 v16 v104 h1) fun vu h2=>
 oP (pFA 4 v16) fun v105=>
 oP (pLd v105 h2) fun v106=>
 oP (pLen v106) fun v107=>
 J_alloc_liver_end_L4 C Q KL1 x0 x1 x5 x6 v16 x91 x92 x93 v106 v107 (V.int .i64 0) h2) (
 oP (pFA 1 x6) fun v152=>
 oP (pLd v152 h) fun v153=>
 oP (hbin .eql 3 v153 (V.int .i64 2)) fun v155=>
 bP v155 (
 oP (pFA 2 x6) fun v157=>
 oP (pLd v157 h) fun v158=>
 oP (pIx 1 x5 v158) fun v159=>
 valP (pSt 1 v159 (V.bool true) h) fun vu_1 h3=>
 J_alloc_liver_end_R9 C Q x5 h3) (
 oP (hbin .eql 3 v153 (V.int .i64 3)) fun v161=>
 bP v161 (
 oP (pFA 5 x6) fun v164=>
 oP (pLd v164 h) fun v165=>
 cP C n_alloc_liver_state [x0,x5,v165] h fun v166 h4=>
 J_alloc_liver_end_R9 C Q x5 h4) (
 J_alloc_liver_end_R9 C Q x5 h)))
theorem l_alloc_liver_end_L1 {C:Cfg}{Q:QP1}(I:Nat→QP7)(step:∀(k:Nat)(x0 x1 x5 x6 x91 x92 x93:V)(h:Hp),I k x0 x1 x5 x6 x91 x92 x93 h→B_alloc_liver_end_L1 C Q (fun x0 x1 x5 x6 x91 x92 x93 h=>∃k',k' < k∧I k' x0 x1 x5 x6 x91 x92 x93 h) x0 x1 x5 x6 x91 x92 x93 h){k:Nat}{x0 x1 x5 x6 x91 x92 x93:V}{h:Hp}(h0:I k x0 x1 x5 x6 x91 x92 x93 h):J_alloc_liver_end_L1 C Q x0 x1 x5 x6 x91 x92 x93 h:=by
 rintro ρ rfl rfl rfl rfl rfl rfl rfl
 exact WA.loop (fun k ρ h=>I k (ρ 0) (ρ 1) (ρ 5) (ρ 6) (ρ 91) (ρ 92) (ρ 93) h) (by kernel_rfl) (by kernel_rfl) (fun k ρ h hi=>LA.of (by kernel_rfl) (step k (ρ 0) (ρ 1) (ρ 5) (ρ 6) (ρ 91) (ρ 92) (ρ 93) h hi)) h0
def B_alloc_liver_end_L3 (C:Cfg)(Q:QP1)(KL0:QP7)(KL3:QP10)(x0 x1 x5 x6 x37 x38 x39 x76 x77 x78:V)(h:Hp):Prop:=
 oP (hbin .lss 3 x78 x77) fun v79=>
 bP v79 (
 oP (pIx 1 x76 x78) fun v80=>
 oP (pLd v80 h) fun v81=>
 cP C n_alloc_liver_head [x0,v81] h fun v84 h1=>
 bP v84 (
 oP (pIx 1 x5 v81) fun v87=>
 valP (pSt 1 v87 (V.bool false) h1) fun vu h2=>
 J_alloc_liver_end_R35 C Q KL0 KL3 x0 x1 x5 x6 x37 x38 x39 x76 x77 x78 h2) (
 J_alloc_liver_end_R35 C Q KL0 KL3 x0 x1 x5 x6 x37 x38 x39 x76 x77 x78 h1)) (
 oP (hbin .add 3 x39 (V.int .i64 1)) fun v89=>
 KL0 x0 x1 x5 x6 x37 x38 v89 h)
theorem l_alloc_liver_end_L3 {C:Cfg}{Q:QP1}{KL0:QP7}(I:Nat→QP10)(step:∀(k:Nat)(x0 x1 x5 x6 x37 x38 x39 x76 x77 x78:V)(h:Hp),I k x0 x1 x5 x6 x37 x38 x39 x76 x77 x78 h→B_alloc_liver_end_L3 C Q KL0 (fun x0 x1 x5 x6 x37 x38 x39 x76 x77 x78 h=>∃k',k' < k∧I k' x0 x1 x5 x6 x37 x38 x39 x76 x77 x78 h) x0 x1 x5 x6 x37 x38 x39 x76 x77 x78 h){k:Nat}{x0 x1 x5 x6 x37 x38 x39 x76 x77 x78:V}{h:Hp}(h0:I k x0 x1 x5 x6 x37 x38 x39 x76 x77 x78 h):J_alloc_liver_end_L3 C Q KL0 x0 x1 x5 x6 x37 x38 x39 x76 x77 x78 h:=by
 rintro ρ rfl rfl rfl rfl rfl rfl rfl rfl rfl rfl
 exact WA.loop (fun k ρ h=>I k (ρ 0) (ρ 1) (ρ 5) (ρ 6) (ρ 37) (ρ 38) (ρ 39) (ρ 76) (ρ 77) (ρ 78) h) (by kernel_rfl) (by kernel_rfl) (fun k ρ h hi=>LA.of (by kernel_rfl) (step k (ρ 0) (ρ 1) (ρ 5) (ρ 6) (ρ 37) (ρ 38) (ρ 39) (ρ 76) (ρ 77) (ρ 78) h hi)) h0
def B_alloc_liver_end_L4 (C:Cfg)(Q:QP1)(KL1:QP7)(KL4:QP11)(x0 x1 x5 x6 x16 x91 x92 x93 x106 x107 x108:V)(h:Hp):Prop:=
 oP (hbin .lss 3 x108 x107) fun v109=>
 bP v109 (
 oP (pIx 1 x106 x108) fun v111=>
 oP (pLd v111 h) fun v112=>
 oP (pFA 0 x16) fun v113=>
 oP (pLd v113 h) fun v114=>
 oP (pLen v114) fun v115=>
 J_alloc_liver_end_L5 C Q KL1 KL4 x0 x1 x5 x6 x16 x108 v112 x91 x92 x93 x106 x107 x108 v114 v115 (V.int .i64 0) h) (
 oP (hbin .add 3 x93 (V.int .i64 1)) fun v151=>
 KL1 x0 x1 x5 x6 x91 x92 v151 h)
theorem l_alloc_liver_end_L4 {C:Cfg}{Q:QP1}{KL1:QP7}(I:Nat→QP11)(step:∀(k:Nat)(x0 x1 x5 x6 x16 x91 x92 x93 x106 x107 x108:V)(h:Hp),I k x0 x1 x5 x6 x16 x91 x92 x93 x106 x107 x108 h→B_alloc_liver_end_L4 C Q KL1 (fun x0 x1 x5 x6 x16 x91 x92 x93 x106 x107 x108 h=>∃k',k' < k∧I k' x0 x1 x5 x6 x16 x91 x92 x93 x106 x107 x108 h) x0 x1 x5 x6 x16 x91 x92 x93 x106 x107 x108 h){k:Nat}{x0 x1 x5 x6 x16 x91 x92 x93 x106 x107 x108:V}{h:Hp}(h0:I k x0 x1 x5 x6 x16 x91 x92 x93 x106 x107 x108 h):J_alloc_liver_end_L4 C Q KL1 x0 x1 x5 x6 x16 x91 x92 x93 x106 x107 x108 h:=by
 rintro ρ rfl rfl rfl rfl rfl rfl rfl rfl rfl rfl rfl
 exact WA.loop (fun k ρ h=>I k (ρ 0) (ρ 1) (ρ 5) (ρ 6) (ρ 16) (ρ 91) (ρ 92) (ρ 93) (ρ 106) (ρ 107) (ρ 108) h) (by kernel_rfl) (by kernel_rfl) (fun k ρ h hi=>LA.of (by kernel_rfl) (step k (ρ 0) (ρ 1) (ρ 5) (ρ 6) (ρ 16) (ρ 91) (ρ 92) (ρ 93) (ρ 106) (ρ 107) (ρ 108) h hi)) h0
def B_alloc_liver_end_R9 (C:Cfg)(Q:QP1)(x5:V)(h:Hp):Prop:=
 Q x5 h
theorem j_alloc_liver_end_R9 {C:Cfg}{Q:QP1}{x5:V}{h:Hp}(H:B_alloc_liver_end_R9 C Q x5 h):J_alloc_liver_end_R9 C Q x5 h:=by
 rintro ρ rfl
 exact WA.of (by kernel_rfl) H
def B_alloc_liver_end_R35 (C:Cfg)(Q:QP1)(KL0:QP7)(KL3:QP10)(x0 x1 x5 x6 x37 x38 x39 x76 x77 x78:V)(h:Hp):Prop:=
 oP (hbin .add 3 x78 (V.int .i64 1)) fun v88=>
 KL3 x0 x1 x5 x6 x37 x38 x39 x76 x77 v88 h
theorem j_alloc_liver_end_R35 {C:Cfg}{Q:QP1}{KL0:QP7}{KL3:QP10}{x0 x1 x5 x6 x37 x38 x39 x76 x77 x78:V}{h:Hp}(H:B_alloc_liver_end_R35 C Q KL0 KL3 x0 x1 x5 x6 x37 x38 x39 x76 x77 x78 h):J_alloc_liver_end_R35 C Q KL0 KL3 x0 x1 x5 x6 x37 x38 x39 x76 x77 x78 h:=by
 rintro ρ rfl rfl rfl rfl rfl rfl rfl rfl rfl rfl
 exact WA.of (by kernel_rfl) H
def B_alloc_liver_end_L5 (C:Cfg)(Q:QP1)(KL1:QP7)(KL4:QP11)(KL5:QP16)(x0 x1 x5 x6 x16 x17 x18 x91 x92 x93 x106 x107 x108 x114 x115 x116:V)(h:Hp):Prop:=
 oP (hbin .lss 3 x116 x115) fun v117=>
 bP v117 (
 oP (pIx 1 x114 x116) fun v118=>
 oP (pLd v118 h) fun v119=>
 oP (hbin .eql 3 x18 x1) fun v122=>
 oP (pAnd v122 (oB (some x0) fun v124=>oB (pNil v124) fun v125=>oB (pFA 0 v125) fun v126=>oB (pFA 2 v126) fun v127=>oB (pLd v127 h) fun v128=>oB (some v119) fun v129=>oB (pIx 6 v128 v129) fun v130=>oB (pFA 0 v130) fun v131=>oB (pLd v131 h) fun v132=>hbin .eql 3 v132 (V.int .i64 21))) fun v134=>
 bP v134 (
 oP (pNil x0) fun v137=>
 oP (pFA 0 v137) fun v138=>
 oP (pFA 2 v138) fun v139=>
 oP (pLd v139 h) fun v140=>
 oP (pIx 6 v140 v119) fun v142=>
 oP (pFA 4 v142) fun v143=>
 oP (pLd v143 h) fun v144=>
 oP (pIx 1 v144 x17) fun v146=>
 oP (pLd v146 h) fun v147=>
 oP (pIx 1 x5 v147) fun v148=>
 valP (pSt 1 v148 (V.bool true) h) fun vu h1=>
 J_alloc_liver_end_R43 C Q KL1 KL4 KL5 x0 x1 x5 x6 x16 x17 x18 x91 x92 x93 x106 x107 x108 x114 x115 x116 h1) (
 J_alloc_liver_end_R43 C Q KL1 KL4 KL5 x0 x1 x5 x6 x16 x17 x18 x91 x92 x93 x106 x107 x108 x114 x115 x116 h)) (
 oP (hbin .add 3 x108 (V.int .i64 1)) fun v150=>
 KL4 x0 x1 x5 x6 x16 x91 x92 x93 x106 x107 v150 h)
theorem l_alloc_liver_end_L5 {C:Cfg}{Q:QP1}{KL1:QP7}{KL4:QP11}(I:Nat→QP16)(step:∀(k:Nat)(x0 x1 x5 x6 x16 x17 x18 x91 x92 x93 x106 x107 x108 x114 x115 x116:V)(h:Hp),I k x0 x1 x5 x6 x16 x17 x18 x91 x92 x93 x106 x107 x108 x114 x115 x116 h→B_alloc_liver_end_L5 C Q KL1 KL4 (fun x0 x1 x5 x6 x16 x17 x18 x91 x92 x93 x106 x107 x108 x114 x115 x116 h=>∃k',k' < k∧I k' x0 x1 x5 x6 x16 x17 x18 x91 x92 x93 x106 x107 x108 x114 x115 x116 h) x0 x1 x5 x6 x16 x17 x18 x91 x92 x93 x106 x107 x108 x114 x115 x116 h){k:Nat}{x0 x1 x5 x6 x16 x17 x18 x91 x92 x93 x106 x107 x108 x114 x115 x116:V}{h:Hp}(h0:I k x0 x1 x5 x6 x16 x17 x18 x91 x92 x93 x106 x107 x108 x114 x115 x116 h):J_alloc_liver_end_L5 C Q KL1 KL4 x0 x1 x5 x6 x16 x17 x18 x91 x92 x93 x106 x107 x108 x114 x115 x116 h:=by
 rintro ρ rfl rfl rfl rfl rfl rfl rfl rfl rfl rfl rfl rfl rfl rfl rfl rfl
 exact WA.loop (fun k ρ h=>I k (ρ 0) (ρ 1) (ρ 5) (ρ 6) (ρ 16) (ρ 17) (ρ 18) (ρ 91) (ρ 92) (ρ 93) (ρ 106) (ρ 107) (ρ 108) (ρ 114) (ρ 115) (ρ 116) h) (by kernel_rfl) (by kernel_rfl) (fun k ρ h hi=>LA.of (by kernel_rfl) (step k (ρ 0) (ρ 1) (ρ 5) (ρ 6) (ρ 16) (ρ 17) (ρ 18) (ρ 91) (ρ 92) (ρ 93) (ρ 106) (ρ 107) (ρ 108) (ρ 114) (ρ 115) (ρ 116) h hi)) h0
def B_alloc_liver_end_R43 (C:Cfg)(Q:QP1)(KL1:QP7)(KL4:QP11)(KL5:QP16)(x0 x1 x5 x6 x16 x17 x18 x91 x92 x93 x106 x107 x108 x114 x115 x116:V)(h:Hp):Prop:=
 oP (hbin .add 3 x116 (V.int .i64 1)) fun v149=>
 KL5 x0 x1 x5 x6 x16 x17 x18 x91 x92 x93 x106 x107 x108 x114 x115 v149 h
theorem j_alloc_liver_end_R43 {C:Cfg}{Q:QP1}{KL1:QP7}{KL4:QP11}{KL5:QP16}{x0 x1 x5 x6 x16 x17 x18 x91 x92 x93 x106 x107 x108 x114 x115 x116:V}{h:Hp}(H:B_alloc_liver_end_R43 C Q KL1 KL4 KL5 x0 x1 x5 x6 x16 x17 x18 x91 x92 x93 x106 x107 x108 x114 x115 x116 h):J_alloc_liver_end_R43 C Q KL1 KL4 KL5 x0 x1 x5 x6 x16 x17 x18 x91 x92 x93 x106 x107 x108 x114 x115 x116 h:=by
 rintro ρ rfl rfl rfl rfl rfl rfl rfl rfl rfl rfl rfl rfl rfl rfl rfl rfl
 exact WA.of (by kernel_rfl) H
def B_alloc_liver_end (C:Cfg)(Q:QP1)(a0 a1:V)(h:Hp):Prop:=
 oP (pNil a0) fun v22=>
 oP (pFA 0 v22) fun v23=>
 oP (pFA 2 v23) fun v24=>
 oP (pLd v24 h) fun v25=>
 oP (pLen v25) fun v26=>
 alP (hmakeSlice 4 1 1 (V.bool false) v26 v26) h fun v27 h1=>
 oP (pNil a0) fun v29=>
 oP (pFA 0 v29) fun v30=>
 oP (pFA 3 v30) fun v31=>
 oP (pLd v31 h1) fun v32=>
 oP (pIx 6 v32 a1) fun v34=>
 oP (pLdA 6 v34 h1) fun v35=>
 alP (some (.cells 36 1 true false [V.nilSlice,(V.int .i64 0),(V.int .i64 0),V.nilSlice,V.nilSlice,(V.int .i64 0)],fun l=> .ptr l 0)) h1 fun v6 h2=>
 valP (pSt 6 v6 v35 h2) fun vu h3=>
 oP (pFA 3 v6) fun v36=>
 oP (pLd v36 h3) fun v37=>
 oP (pLen v37) fun v38=>
 J_alloc_liver_end_L0 C Q a0 a1 v27 v6 v37 v38 (V.int .i64 0) h3
theorem c_alloc_liver_end {C:Cfg}(hs:C.start=startF){a0 a1:V}{h:Hp}{Q:QP1}(hk:C.K n_alloc_liver_end [a0,a1] h=none)(H:B_alloc_liver_end C Q a0 a1 h):cP C n_alloc_liver_end [a0,a1] h Q:=
 cP.vc (tb:=t61) hs (by unfold P0;exact Tryd.func61) (by kernel_rfl) hk (by kernel_rfl) (by kernel_rfl) H
def t45:List (Nat×List Nat):=[]
def B_alloc_liver_ahead (C:Cfg)(Q:QP1)(a0 a1 a2:V)(h:Hp):Prop:=
 oP (pNil a0) fun v8=>
 oP (pFA 0 v8) fun v9=>
 oP (pFA 2 v9) fun v10=>
 oP (pLd v10 h) fun v11=>
 oP (pIx 6 v11 a2) fun v13=>
 oP (pLdA 6 v13 h) fun v14=>
 alP (some (.cells 39 1 true false [(V.int .i64 0),(V.int .i64 0),(V.int .i64 0),(V.int .i64 0),V.nilSlice,(V.int .i64 0)],fun l=> .ptr l 0)) h fun v6 h1=>
 valP (pSt 6 v6 v14 h1) fun vu h2=>
 oP (pIx 1 a1 a2) fun v17=>
 valP (pSt 1 v17 (V.bool false) h2) fun vu_1 h3=>
 oP (pLdA 6 v6 h3) fun v19=>
 cP C n_ssa_Uses [v19] h3 fun v20 h4=>
 cP C n_alloc_take [a1,v20] h4 fun v21 h5=>
 oP (pFA 0 v6) fun v22=>
 oP (pLd v22 h5) fun v23=>
 oP (hbin .eql 3 v23 (V.int .i64 22)) fun v24=>
 oP (pOr v24 (oB (pFA 0 v6) fun v26=>oB (pLd v26 h5) fun v27=>hbin .eql 3 v27 (V.int .i64 23))) fun v29=>
 bP v29 (
 oP (pFA 5 v6) fun v32=>
 oP (pLd v32 h5) fun v33=>
 cP C n_alloc_liver_state [a0,a1,v33] h5 fun v34 h6=>
 Q (V.tuple []) h6) (
 Q (V.tuple []) h5)
theorem c_alloc_liver_ahead {C:Cfg}(hs:C.start=startF){a0 a1 a2:V}{h:Hp}{Q:QP1}(hk:C.K n_alloc_liver_ahead [a0,a1,a2] h=none)(H:B_alloc_liver_ahead C Q a0 a1 a2 h):cP C n_alloc_liver_ahead [a0,a1,a2] h Q:=
 cP.vc (tb:=t45) hs (by unfold P0;exact Tryd.func45) (by kernel_rfl) hk (by kernel_rfl) (by kernel_rfl) H
def t63:List (Nat×List Nat):=[(11,[1,16,17,18])]
def J_alloc_liver_state_L0 (C:Cfg)(Q:QP1)(x1 x16 x17 x18:V)(h:Hp):Prop:=∀ρ:Rho,ρ 1=x1→ρ 16=x16→ρ 17=x17→ρ 18=x18→WA C Tryd.f63 t63 5 [] Q ρ h
def B_alloc_liver_state_L0 (C:Cfg)(Q:QP1)(KL0:QP4)(x1 x16 x17 x18:V)(h:Hp):Prop:=
 oP (hbin .lss 3 x18 x17) fun v19=>
 bP v19 (
 oP (pIx 4 x16 x18) fun v20=>
 oP (pLdA 4 v20 h) fun v21=>
 alP (some (.cells 57 1 true false [(V.int .i64 0),(V.int .i64 0),V.nilSlice,V.nilSlice],fun l=> .ptr l 0)) h fun v7 h1=>
 valP (pSt 4 v7 v21 h1) fun vu h2=>
 oP (pFA 2 v7) fun v23=>
 oP (pLd v23 h2) fun v24=>
 cP C n_alloc_take [x1,v24] h2 fun v25 h3=>
 oP (pFA 3 v7) fun v27=>
 oP (pLd v27 h3) fun v28=>
 cP C n_alloc_take [x1,v28] h3 fun v29 h4=>
 oP (hbin .add 3 x18 (V.int .i64 1)) fun v30=>
 KL0 x1 x16 x17 v30 h4) (
 Q (V.tuple []) h)
theorem l_alloc_liver_state_L0 {C:Cfg}{Q:QP1}(I:Nat→QP4)(step:∀(k:Nat)(x1 x16 x17 x18:V)(h:Hp),I k x1 x16 x17 x18 h→B_alloc_liver_state_L0 C Q (fun x1 x16 x17 x18 h=>∃k',k' < k∧I k' x1 x16 x17 x18 h) x1 x16 x17 x18 h){k:Nat}{x1 x16 x17 x18:V}{h:Hp}(h0:I k x1 x16 x17 x18 h):J_alloc_liver_state_L0 C Q x1 x16 x17 x18 h:=by
 rintro ρ rfl rfl rfl rfl
 exact WA.loop (fun k ρ h=>I k (ρ 1) (ρ 16) (ρ 17) (ρ 18) h) (by kernel_rfl) (by kernel_rfl) (fun k ρ h hi=>LA.of (by kernel_rfl) (step k (ρ 1) (ρ 16) (ρ 17) (ρ 18) h hi)) h0
def B_alloc_liver_state (C:Cfg)(Q:QP1)(a0 a1 a2:V)(h:Hp):Prop:=
 oP (pNil a0) fun v9=>
 oP (pFA 0 v9) fun v10=>
 oP (pFA 4 v10) fun v11=>
 oP (pLd v11 h) fun v12=>
 oP (pIx 1 v12 a2) fun v14=>
 oP (pFA 0 v14) fun v15=>
 oP (pLd v15 h) fun v16=>
 oP (pLen v16) fun v17=>
 J_alloc_liver_state_L0 C Q a1 v16 v17 (V.int .i64 0) h
theorem c_alloc_liver_state {C:Cfg}(hs:C.start=startF){a0 a1 a2:V}{h:Hp}{Q:QP1}(hk:C.K n_alloc_liver_state [a0,a1,a2] h=none)(H:B_alloc_liver_state C Q a0 a1 a2 h):cP C n_alloc_liver_state [a0,a1,a2] h Q:=
 cP.vc (tb:=t63) hs (by unfold P0;exact Tryd.func63) (by kernel_rfl) hk (by kernel_rfl) (by kernel_rfl) H
def t30:List (Nat×List Nat):=[]
def B_alloc_liver_head (C:Cfg)(Q:QP1)(a0 a1:V)(h:Hp):Prop:=
 oP (pNil a0) fun v7=>
 oP (pFA 0 v7) fun v8=>
 oP (pFA 2 v8) fun v9=>
 oP (pLd v9 h) fun v10=>
 oP (pIx 6 v10 a1) fun v12=>
 oP (pFA 0 v12) fun v13=>
 oP (pLd v13 h) fun v14=>
 oP (hbin .eql 3 v14 (V.int .i64 21)) fun v16=>
 oP (pOr v16 (oB (some v14) fun v18=>hbin .eql 3 v18 (V.int .i64 1))) fun v20=>
 Q v20 h
theorem c_alloc_liver_head {C:Cfg}(hs:C.start=startF){a0 a1:V}{h:Hp}{Q:QP1}(hk:C.K n_alloc_liver_head [a0,a1] h=none)(H:B_alloc_liver_head C Q a0 a1 h):cP C n_alloc_liver_head [a0,a1] h Q:=
 cP.vc (tb:=t30) hs (by unfold P0;exact Tryd.func30) (by kernel_rfl) hk (by kernel_rfl) (by kernel_rfl) H
def t62:List (Nat×List Nat):=[(11,[0,6,7,8])]
def J_alloc_take_L0 (C:Cfg)(Q:QP1)(x0 x6 x7 x8:V)(h:Hp):Prop:=∀ρ:Rho,ρ 0=x0→ρ 6=x6→ρ 7=x7→ρ 8=x8→WA C Tryd.f62 t62 5 [] Q ρ h
def B_alloc_take_L0 (C:Cfg)(Q:QP1)(KL0:QP4)(x0 x6 x7 x8:V)(h:Hp):Prop:=
 oP (hbin .lss 3 x8 x7) fun v9=>
 bP v9 (
 oP (pIx 1 x6 x8) fun v10=>
 oP (pLd v10 h) fun v11=>
 oP (pIx 1 x0 v11) fun v14=>
 valP (pSt 1 v14 (V.bool true) h) fun vu h1=>
 oP (hbin .add 3 x8 (V.int .i64 1)) fun v15=>
 KL0 x0 x6 x7 v15 h1) (
 Q (V.tuple []) h)
theorem l_alloc_take_L0 {C:Cfg}{Q:QP1}(I:Nat→QP4)(step:∀(k:Nat)(x0 x6 x7 x8:V)(h:Hp),I k x0 x6 x7 x8 h→B_alloc_take_L0 C Q (fun x0 x6 x7 x8 h=>∃k',k' < k∧I k' x0 x6 x7 x8 h) x0 x6 x7 x8 h){k:Nat}{x0 x6 x7 x8:V}{h:Hp}(h0:I k x0 x6 x7 x8 h):J_alloc_take_L0 C Q x0 x6 x7 x8 h:=by
 rintro ρ rfl rfl rfl rfl
 exact WA.loop (fun k ρ h=>I k (ρ 0) (ρ 6) (ρ 7) (ρ 8) h) (by kernel_rfl) (by kernel_rfl) (fun k ρ h hi=>LA.of (by kernel_rfl) (step k (ρ 0) (ρ 6) (ρ 7) (ρ 8) h hi)) h0
def B_alloc_take (C:Cfg)(Q:QP1)(a0 a1:V)(h:Hp):Prop:=
 oP (pLen a1) fun v7=>
 J_alloc_take_L0 C Q a0 a1 v7 (V.int .i64 0) h
theorem c_alloc_take {C:Cfg}(hs:C.start=startF){a0 a1:V}{h:Hp}{Q:QP1}(hk:C.K n_alloc_take [a0,a1] h=none)(H:B_alloc_take C Q a0 a1 h):cP C n_alloc_take [a0,a1] h Q:=
 cP.vc (tb:=t62) hs (by unfold P0;exact Tryd.func62) (by kernel_rfl) hk (by kernel_rfl) (by kernel_rfl) H
end
end Go.Proofs.YtiepamfpilhcjaaDoor.Hx
namespace Go.Proofs.YtiepamfpilhcjaaDoor.Hx
set_option maxRecDepth 100000
noncomputable section
def t29:List (Nat×List Nat):=[(351,[0,5,6,7,8]),(3678,[0,5,6,7,8])]
def J_alloc_liver_behind_L0 (C:Cfg)(Q:QP1)(x0 x5 x6 x7 x8:V)(h:Hp):Prop:=∀ρ:Rho,ρ 0=x0→ρ 5=x5→ρ 6=x6→ρ 7=x7→ρ 8=x8→WA C Tryd.f29 t29 175 [] Q ρ h
def J_alloc_liver_behind_R10 (C:Cfg)(Q:QP1)(KL0:QP5)(x0 x5 x6 x7 x8:V)(h:Hp):Prop:=∀ρ:Rho,ρ 0=x0→ρ 5=x5→ρ 6=x6→ρ 7=x7→ρ 8=x8→WA C Tryd.f29 t29 1839 [fun ρ h=>KL0 (ρ 0) (ρ 5) (ρ 6) (ρ 7) (ρ 8) h] Q ρ h
def B_alloc_liver_behind_L0 (C:Cfg)(Q:QP1)(KL0:QP5)(x0 x5 x6 x7 x8:V)(h:Hp):Prop:=
 oP (hbin .geq 3 x8 (V.int .i64 0)) fun v34=>
 bP v34 (
 alP (pBS 4 1 0 (V.bool false) []) h fun v39 h1=>
 valP (happend 4 1 1 v39 x7 h1) fun v41 h2=>
 oP (pIx 1 x6 x8) fun v42=>
 valP (pSt 1 v42 v41 h2) fun vu h3=>
 oP (pIx 1 x5 x8) fun v46=>
 oP (pLd v46 h3) fun v47=>
 cP C n_alloc_liver_head [x0,v47] h3 fun v48 h4=>
 oP (hun .not v48) fun v49=>
 bP v49 (
 oP (pIx 1 x5 x8) fun v54=>
 oP (pLd v54 h4) fun v55=>
 cP C n_alloc_liver_ahead [x0,x7,v55] h4 fun v56 h5=>
 J_alloc_liver_behind_R10 C Q KL0 x0 x5 x6 x7 x8 h5) (
 J_alloc_liver_behind_R10 C Q KL0 x0 x5 x6 x7 x8 h4)) (
 Q x6 h)
theorem l_alloc_liver_behind_L0 {C:Cfg}{Q:QP1}(I:Nat→QP5)(step:∀(k:Nat)(x0 x5 x6 x7 x8:V)(h:Hp),I k x0 x5 x6 x7 x8 h→B_alloc_liver_behind_L0 C Q (fun x0 x5 x6 x7 x8 h=>∃k',k' < k∧I k' x0 x5 x6 x7 x8 h) x0 x5 x6 x7 x8 h){k:Nat}{x0 x5 x6 x7 x8:V}{h:Hp}(h0:I k x0 x5 x6 x7 x8 h):J_alloc_liver_behind_L0 C Q x0 x5 x6 x7 x8 h:=by
 rintro ρ rfl rfl rfl rfl rfl
 exact WA.loop (fun k ρ h=>I k (ρ 0) (ρ 5) (ρ 6) (ρ 7) (ρ 8) h) (by kernel_rfl) (by kernel_rfl) (fun k ρ h hi=>LA.of (by kernel_rfl) (step k (ρ 0) (ρ 5) (ρ 6) (ρ 7) (ρ 8) h hi)) h0
def B_alloc_liver_behind_R10 (C:Cfg)(Q:QP1)(KL0:QP5)(x0 x5 x6 x7 x8:V)(h:Hp):Prop:=
 oP (hbin .sub 3 x8 (V.int .i64 1)) fun v36=>
 KL0 x0 x5 x6 x7 v36 h
theorem j_alloc_liver_behind_R10 {C:Cfg}{Q:QP1}{KL0:QP5}{x0 x5 x6 x7 x8:V}{h:Hp}(H:B_alloc_liver_behind_R10 C Q KL0 x0 x5 x6 x7 x8 h):J_alloc_liver_behind_R10 C Q KL0 x0 x5 x6 x7 x8 h:=by
 rintro ρ rfl rfl rfl rfl rfl
 exact WA.of (by kernel_rfl) H
def B_alloc_liver_behind (C:Cfg)(Q:QP1)(a0 a1:V)(h:Hp):Prop:=
 oP (pNil a0) fun v10=>
 oP (pFA 0 v10) fun v11=>
 oP (pFA 3 v11) fun v12=>
 oP (pLd v12 h) fun v13=>
 oP (pIx 6 v13 a1) fun v15=>
 oP (pFA 0 v15) fun v16=>
 oP (pLd v16 h) fun v17=>
 oP (pLen v17) fun v19=>
 alP (hmakeSlice 37 1 24 V.nilSlice v19 v19) h fun v20 h1=>
 alP (pBS 4 1 0 (V.bool false) []) h1 fun v21 h2=>
 oP (pNil a0) fun v23=>
 oP (pFA 6 v23) fun v24=>
 oP (pLd v24 h2) fun v25=>
 oP (pIx 1 v25 a1) fun v27=>
 oP (pLd v27 h2) fun v28=>
 valP (happend 4 1 1 v21 v28 h2) fun v29 h3=>
 oP (pLen v17) fun v31=>
 oP (hbin .sub 3 v31 (V.int .i64 1)) fun v32=>
 J_alloc_liver_behind_L0 C Q a0 v17 v20 v29 v32 h3
theorem c_alloc_liver_behind {C:Cfg}(hs:C.start=startF){a0 a1:V}{h:Hp}{Q:QP1}(hk:C.K n_alloc_liver_behind [a0,a1] h=none)(H:B_alloc_liver_behind C Q a0 a1 h):cP C n_alloc_liver_behind [a0,a1] h Q:=
 cP.vc (tb:=t29) hs (by unfold P0;exact Tryd.func29) (by kernel_rfl) hk (by kernel_rfl) (by kernel_rfl) H
def t14:List (Nat×List Nat):=[(87,[2,3,39,40,41]),(351,[3,7,66,67,68]),(190047,[3,7,9,10,66,67,68,76,77,78]),(130868830,[3,7,9,10,12,13,66,67,68,76,77,78]),(399304287,[3,7,9,10,13,66,67,68,76,77,78,109,110,111])]
def J_alloc_Right_L0 (C:Cfg)(Q:QP1)(x2 x3 x39 x40 x41:V)(h:Hp):Prop:=∀ρ:Rho,ρ 2=x2→ρ 3=x3→ρ 39=x39→ρ 40=x40→ρ 41=x41→WA C Tryd.f14 t14 43 [] Q ρ h
def J_alloc_Right_L1 (C:Cfg)(Q:QP1)(x3 x7 x66 x67 x68:V)(h:Hp):Prop:=∀ρ:Rho,ρ 3=x3→ρ 7=x7→ρ 66=x66→ρ 67=x67→ρ 68=x68→WA C Tryd.f14 t14 175 [] Q ρ h
def J_alloc_Right_L2 (C:Cfg)(Q:QP1)(KL1:QP5)(x3 x7 x9 x10 x66 x67 x68 x76 x77 x78:V)(h:Hp):Prop:=∀ρ:Rho,ρ 3=x3→ρ 7=x7→ρ 9=x9→ρ 10=x10→ρ 66=x66→ρ 67=x67→ρ 68=x68→ρ 76=x76→ρ 77=x77→ρ 78=x78→WA C Tryd.f14 t14 95023 [fun ρ h=>KL1 (ρ 3) (ρ 7) (ρ 66) (ρ 67) (ρ 68) h] Q ρ h
def J_alloc_Right_R31 (C:Cfg)(Q:QP1)(KL1:QP5)(KL2:QP10)(x3 x7 x9 x10 x12 x13 x66 x67 x68 x76 x77 x78:V)(h:Hp):Prop:=∀ρ:Rho,ρ 3=x3→ρ 7=x7→ρ 9=x9→ρ 10=x10→ρ 12=x12→ρ 13=x13→ρ 66=x66→ρ 67=x67→ρ 68=x68→ρ 76=x76→ρ 77=x77→ρ 78=x78→WA C Tryd.f14 t14 65434415 [fun ρ h=>KL1 (ρ 3) (ρ 7) (ρ 66) (ρ 67) (ρ 68) h,fun ρ h=>KL2 (ρ 3) (ρ 7) (ρ 9) (ρ 10) (ρ 66) (ρ 67) (ρ 68) (ρ 76) (ρ 77) (ρ 78) h] Q ρ h
def J_alloc_Right_L3 (C:Cfg)(Q:QP1)(KL1:QP5)(KL2:QP10)(x3 x7 x9 x10 x13 x66 x67 x68 x76 x77 x78 x109 x110 x111:V)(h:Hp):Prop:=∀ρ:Rho,ρ 3=x3→ρ 7=x7→ρ 9=x9→ρ 10=x10→ρ 13=x13→ρ 66=x66→ρ 67=x67→ρ 68=x68→ρ 76=x76→ρ 77=x77→ρ 78=x78→ρ 109=x109→ρ 110=x110→ρ 111=x111→WA C Tryd.f14 t14 199652143 [fun ρ h=>KL1 (ρ 3) (ρ 7) (ρ 66) (ρ 67) (ρ 68) h,fun ρ h=>KL2 (ρ 3) (ρ 7) (ρ 9) (ρ 10) (ρ 66) (ρ 67) (ρ 68) (ρ 76) (ρ 77) (ρ 78) h] Q ρ h
def B_alloc_Right_L0 (C:Cfg)(Q:QP1)(KL0:QP5)(x2 x3 x39 x40 x41:V)(h:Hp):Prop:=
 oP (hbin .lss 3 x41 x40) fun v42=>
 bP v42 (
 oP (pIx 1 x39 x41) fun v43=>
 oP (pLd v43 h) fun v44=>
 oP (hbin .lss 3 v44 (V.int .i64 0)) fun v46=>
 oP (pOr v46 (oB (some v44) fun v48=>hbin .geq 3 v48 (V.int .i64 12))) fun v50=>
 oP (pAnd v50 (oB (some v44) fun v52=>oB (hbin .lss 3 v52 (V.int .i64 16)) fun v53=>oB (some v53) fun v54=>pOr v54 (oB (some v44) fun v55=>oB (pFA 1 x3) fun v56=>oB (pLd v56 h) fun v57=>oB (hbin .add 3 (V.int .i64 16) v57) fun v58=>hbin .geq 3 v55 v58))) fun v61=>
 bP v61 (
 Q (V.bool false) h) (
 oP (hbin .add 3 x41 (V.int .i64 1)) fun v62=>
 KL0 x2 x3 x39 x40 v62 h)) (
 oP (pLdA 5 x2 h) fun v63=>
 cP C n_alloc_live [v63] h fun v64 h1=>
 oP (pFA 3 x2) fun v65=>
 oP (pLd v65 h1) fun v66=>
 oP (pLen v66) fun v67=>
 J_alloc_Right_L1 C Q x3 v64 v66 v67 (V.int .i64 0) h1)
theorem l_alloc_Right_L0 {C:Cfg}{Q:QP1}(I:Nat→QP5)(step:∀(k:Nat)(x2 x3 x39 x40 x41:V)(h:Hp),I k x2 x3 x39 x40 x41 h→B_alloc_Right_L0 C Q (fun x2 x3 x39 x40 x41 h=>∃k',k' < k∧I k' x2 x3 x39 x40 x41 h) x2 x3 x39 x40 x41 h){k:Nat}{x2 x3 x39 x40 x41:V}{h:Hp}(h0:I k x2 x3 x39 x40 x41 h):J_alloc_Right_L0 C Q x2 x3 x39 x40 x41 h:=by
 rintro ρ rfl rfl rfl rfl rfl
 exact WA.loop (fun k ρ h=>I k (ρ 2) (ρ 3) (ρ 39) (ρ 40) (ρ 41) h) (by kernel_rfl) (by kernel_rfl) (fun k ρ h hi=>LA.of (by kernel_rfl) (step k (ρ 2) (ρ 3) (ρ 39) (ρ 40) (ρ 41) h hi)) h0
def B_alloc_Right_L1 (C:Cfg)(Q:QP1)(KL1:QP5)(x3 x7 x66 x67 x68:V)(h:Hp):Prop:=
 oP (hbin .lss 3 x68 x67) fun v69=>
 bP v69 (
 oP (pIx 6 x66 x68) fun v71=>
 oP (pLdA 6 v71 h) fun v72=>
 alP (some (.cells 36 1 true false [V.nilSlice,(V.int .i64 0),(V.int .i64 0),V.nilSlice,V.nilSlice,(V.int .i64 0)],fun l=> .ptr l 0)) h fun v9 h1=>
 valP (pSt 6 v9 v72 h1) fun vu h2=>
 alP (some (.map [] 0,fun l=> .map l)) h2 fun v73 h3=>
 cP C n_alloc_liver_behind [x7,x68] h3 fun v76 h4=>
 oP (pLen v76) fun v77=>
 J_alloc_Right_L2 C Q KL1 x3 x7 v9 v73 x66 x67 x68 v76 v77 (V.int .i64 0) h4) (
 Q (V.bool true) h)
theorem l_alloc_Right_L1 {C:Cfg}{Q:QP1}(I:Nat→QP5)(step:∀(k:Nat)(x3 x7 x66 x67 x68:V)(h:Hp),I k x3 x7 x66 x67 x68 h→B_alloc_Right_L1 C Q (fun x3 x7 x66 x67 x68 h=>∃k',k' < k∧I k' x3 x7 x66 x67 x68 h) x3 x7 x66 x67 x68 h){k:Nat}{x3 x7 x66 x67 x68:V}{h:Hp}(h0:I k x3 x7 x66 x67 x68 h):J_alloc_Right_L1 C Q x3 x7 x66 x67 x68 h:=by
 rintro ρ rfl rfl rfl rfl rfl
 exact WA.loop (fun k ρ h=>I k (ρ 3) (ρ 7) (ρ 66) (ρ 67) (ρ 68) h) (by kernel_rfl) (by kernel_rfl) (fun k ρ h hi=>LA.of (by kernel_rfl) (step k (ρ 3) (ρ 7) (ρ 66) (ρ 67) (ρ 68) h hi)) h0
def B_alloc_Right_L2 (C:Cfg)(Q:QP1)(KL1:QP5)(KL2:QP10)(x3 x7 x9 x10 x66 x67 x68 x76 x77 x78:V)(h:Hp):Prop:=
 oP (hbin .lss 3 x78 x77) fun v79=>
 bP v79 (
 oP (pIx 1 x76 x78) fun v81=>
 oP (pLd v81 h) fun v82=>
 oP (pFA 0 x9) fun v83=>
 oP (pLd v83 h) fun v84=>
 oP (pIx 1 v84 x78) fun v86=>
 oP (pLd v86 h) fun v87=>
 cP C n_alloc_liver_head [x7,v87] h fun v90 h1=>
 oP (pAnd v90 (oB (some x10) fun v92=>oB (pFA 0 x3) fun v93=>oB (pLd v93 h1) fun v94=>oB (some v87) fun v95=>oB (pIx 1 v94 v95) fun v96=>oB (pLd v96 h1) fun v97=>pLook 3 none (V.bool false) false v92 v97 h1)) fun v99=>
 bP v99 (
 Q (V.bool false) h1) (
 cP C n_alloc_liver_head [x7,v87] h1 fun v102 h2=>
 bP v102 (
 oP (pFA 0 x3) fun v104=>
 oP (pLd v104 h2) fun v105=>
 oP (pIx 1 v105 v87) fun v107=>
 oP (pLd v107 h2) fun v108=>
 valP (hput 3 none x10 v108 (V.bool true) h2) fun vu h3=>
 J_alloc_Right_R31 C Q KL1 KL2 x3 x7 x9 x10 v82 v87 x66 x67 x68 x76 x77 x78 h3) (
 J_alloc_Right_R31 C Q KL1 KL2 x3 x7 x9 x10 v82 v87 x66 x67 x68 x76 x77 x78 h2))) (
 oP (hbin .add 3 x68 (V.int .i64 1)) fun v137=>
 KL1 x3 x7 x66 x67 v137 h)
theorem l_alloc_Right_L2 {C:Cfg}{Q:QP1}{KL1:QP5}(I:Nat→QP10)(step:∀(k:Nat)(x3 x7 x9 x10 x66 x67 x68 x76 x77 x78:V)(h:Hp),I k x3 x7 x9 x10 x66 x67 x68 x76 x77 x78 h→B_alloc_Right_L2 C Q KL1 (fun x3 x7 x9 x10 x66 x67 x68 x76 x77 x78 h=>∃k',k' < k∧I k' x3 x7 x9 x10 x66 x67 x68 x76 x77 x78 h) x3 x7 x9 x10 x66 x67 x68 x76 x77 x78 h){k:Nat}{x3 x7 x9 x10 x66 x67 x68 x76 x77 x78:V}{h:Hp}(h0:I k x3 x7 x9 x10 x66 x67 x68 x76 x77 x78 h):J_alloc_Right_L2 C Q KL1 x3 x7 x9 x10 x66 x67 x68 x76 x77 x78 h:=by
 rintro ρ rfl rfl rfl rfl rfl rfl rfl rfl rfl rfl
 exact WA.loop (fun k ρ h=>I k (ρ 3) (ρ 7) (ρ 9) (ρ 10) (ρ 66) (ρ 67) (ρ 68) (ρ 76) (ρ 77) (ρ 78) h) (by kernel_rfl) (by kernel_rfl) (fun k ρ h hi=>LA.of (by kernel_rfl) (step k (ρ 3) (ρ 7) (ρ 9) (ρ 10) (ρ 66) (ρ 67) (ρ 68) (ρ 76) (ρ 77) (ρ 78) h hi)) h0
def B_alloc_Right_R31 (C:Cfg)(Q:QP1)(KL1:QP5)(KL2:QP10)(x3 x7 x9 x10 x12 x13 x66 x67 x68 x76 x77 x78:V)(h:Hp):Prop:=
 oP (pLen x12) fun v110=>
 J_alloc_Right_L3 C Q KL1 KL2 x3 x7 x9 x10 x13 x66 x67 x68 x76 x77 x78 x12 v110 (V.int .i64 0) h
theorem j_alloc_Right_R31 {C:Cfg}{Q:QP1}{KL1:QP5}{KL2:QP10}{x3 x7 x9 x10 x12 x13 x66 x67 x68 x76 x77 x78:V}{h:Hp}(H:B_alloc_Right_R31 C Q KL1 KL2 x3 x7 x9 x10 x12 x13 x66 x67 x68 x76 x77 x78 h):J_alloc_Right_R31 C Q KL1 KL2 x3 x7 x9 x10 x12 x13 x66 x67 x68 x76 x77 x78 h:=by
 rintro ρ rfl rfl rfl rfl rfl rfl rfl rfl rfl rfl rfl rfl
 exact WA.of (by kernel_rfl) H
def B_alloc_Right_L3 (C:Cfg)(Q:QP1)(KL1:QP5)(KL2:QP10)(KL3:QP14)(x3 x7 x9 x10 x13 x66 x67 x68 x76 x77 x78 x109 x110 x111:V)(h:Hp):Prop:=
 oP (hbin .lss 3 x111 x110) fun v112=>
 bP v112 (
 oP (pIx 1 x109 x111) fun v114=>
 oP (pLd v114 h) fun v115=>
 oP (pAnd v115 (oB (some x111) fun v118=>oB (some x13) fun v119=>hbin .neq 3 v118 v119)) fun v121=>
 oP (pAnd v121 (oB (pFA 0 x3) fun v123=>oB (pLd v123 h) fun v124=>oB (some x111) fun v125=>oB (pIx 1 v124 v125) fun v126=>oB (pLd v126 h) fun v127=>oB (pFA 0 x3) fun v128=>oB (pLd v128 h) fun v129=>oB (some x13) fun v130=>oB (pIx 1 v129 v130) fun v131=>oB (pLd v131 h) fun v132=>hbin .eql 3 v127 v132)) fun v134=>
 bP v134 (
 Q (V.bool false) h) (
 oP (hbin .add 3 x111 (V.int .i64 1)) fun v135=>
 KL3 x3 x7 x9 x10 x13 x66 x67 x68 x76 x77 x78 x109 x110 v135 h)) (
 oP (hbin .add 3 x78 (V.int .i64 1)) fun v136=>
 KL2 x3 x7 x9 x10 x66 x67 x68 x76 x77 v136 h)
theorem l_alloc_Right_L3 {C:Cfg}{Q:QP1}{KL1:QP5}{KL2:QP10}(I:Nat→QP14)(step:∀(k:Nat)(x3 x7 x9 x10 x13 x66 x67 x68 x76 x77 x78 x109 x110 x111:V)(h:Hp),I k x3 x7 x9 x10 x13 x66 x67 x68 x76 x77 x78 x109 x110 x111 h→B_alloc_Right_L3 C Q KL1 KL2 (fun x3 x7 x9 x10 x13 x66 x67 x68 x76 x77 x78 x109 x110 x111 h=>∃k',k' < k∧I k' x3 x7 x9 x10 x13 x66 x67 x68 x76 x77 x78 x109 x110 x111 h) x3 x7 x9 x10 x13 x66 x67 x68 x76 x77 x78 x109 x110 x111 h){k:Nat}{x3 x7 x9 x10 x13 x66 x67 x68 x76 x77 x78 x109 x110 x111:V}{h:Hp}(h0:I k x3 x7 x9 x10 x13 x66 x67 x68 x76 x77 x78 x109 x110 x111 h):J_alloc_Right_L3 C Q KL1 KL2 x3 x7 x9 x10 x13 x66 x67 x68 x76 x77 x78 x109 x110 x111 h:=by
 rintro ρ rfl rfl rfl rfl rfl rfl rfl rfl rfl rfl rfl rfl rfl rfl
 exact WA.loop (fun k ρ h=>I k (ρ 3) (ρ 7) (ρ 9) (ρ 10) (ρ 13) (ρ 66) (ρ 67) (ρ 68) (ρ 76) (ρ 77) (ρ 78) (ρ 109) (ρ 110) (ρ 111) h) (by kernel_rfl) (by kernel_rfl) (fun k ρ h hi=>LA.of (by kernel_rfl) (step k (ρ 3) (ρ 7) (ρ 9) (ρ 10) (ρ 13) (ρ 66) (ρ 67) (ρ 68) (ρ 76) (ρ 77) (ρ 78) (ρ 109) (ρ 110) (ρ 111) h hi)) h0
def B_alloc_Right (C:Cfg)(Q:QP1)(a0 a1:V)(h:Hp):Prop:=
 alP (hbox 29 a0) h fun v2 h1=>
 alP (hbox 44 a1) h1 fun v3 h2=>
 oP (pLdA 5 v2 h2) fun v16=>
 cP C n_ssa_Check [v16] h2 fun v17 h3=>
 oP (hun .not v17) fun v18=>
 oP (pOr v18 (oB (pFA 0 v3) fun v20=>oB (pLd v20 h3) fun v21=>oB (pLen v21) fun v22=>oB (pFA 2 v2) fun v23=>oB (pLd v23 h3) fun v24=>oB (pLen v24) fun v25=>hbin .neq 3 v22 v25)) fun v27=>
 oP (pOr v27 (oB (pFA 1 v3) fun v29=>oB (pLd v29 h3) fun v30=>hbin .lss 3 v30 (V.int .i64 0))) fun v32=>
 oP (pOr v32 (oB (pFA 1 v3) fun v34=>oB (pLd v34 h3) fun v35=>hbin .gtr 3 v35 (V.int .i64 399))) fun v37=>
 bP v37 (
 Q (V.bool false) h3) (
 oP (pFA 0 v3) fun v38=>
 oP (pLd v38 h3) fun v39=>
 oP (pLen v39) fun v40=>
 J_alloc_Right_L0 C Q v2 v3 v39 v40 (V.int .i64 0) h3)
theorem c_alloc_Right {C:Cfg}(hs:C.start=startF){a0 a1:V}{h:Hp}{Q:QP1}(hk:C.K n_alloc_Right [a0,a1] h=none)(H:B_alloc_Right C Q a0 a1 h):cP C n_alloc_Right [a0,a1] h Q:=
 cP.vc (tb:=t14) hs (by unfold P0;exact Tryd.func14) (by kernel_rfl) hk (by kernel_rfl) (by kernel_rfl) H
def t5:List (Nat×List Nat):=[(175,[1,5,6,7])]
def J_turnstonelaw24_AllocApart_L0 (C:Cfg)(Q:QP1)(x1 x5 x6 x7:V)(h:Hp):Prop:=∀ρ:Rho,ρ 1=x1→ρ 5=x5→ρ 6=x6→ρ 7=x7→WA C Tryd.f5 t5 87 [] Q ρ h
def B_turnstonelaw24_AllocApart_L0 (C:Cfg)(Q:QP1)(KL0:QP4)(x1 x5 x6 x7:V)(h:Hp):Prop:=
 oP (pFA 2 x5) fun v17=>
 oP (pLd v17 h) fun v18=>
 oP (pLen v18) fun v19=>
 oP (hbin .lss 3 x7 v19) fun v20=>
 bP v20 (
 oP (pFA 0 x6) fun v23=>
 oP (pLd v23 h) fun v24=>
 oP (hbin .add 3 (V.int .i64 16) x7) fun v26=>
 alP (pBS 3 1 1 (V.int .i64 0) [(0,v26)]) h fun v27 h1=>
 valP (happend 3 1 8 v24 v27 h1) fun v28 h2=>
 oP (pFA 0 x6) fun v29=>
 valP (pSt 1 v29 v28 h2) fun vu h3=>
 oP (hbin .add 3 x7 (V.int .i64 1)) fun v22=>
 KL0 x1 x5 x6 v22 h3) (
 cP C n_turnstonelaw24_known [] h fun v30 h4=>
 oP (hun .not v30) fun v31=>
 oP (pGd false v31) fun b3=>
 oP (gV b3 (pLdA 5 x5 h4)) fun v33=>
 oP (pGd false v31) fun b4=>
 oP (gV b4 (pLdA 2 x6 h4)) fun v34=>
 oP (pGd false v31) fun b5=>
 oP (gC b5 (some (n_alloc_Right,[v33,v34]))) fun y5=>cgP C y5 h4 fun v35 h5=>
 oP (pOr v31 (hun .not v35)) fun v37=>
 bP v37 (
 Q (V.bool false) h5) (
 oP (pFA 2 x5) fun v39=>
 oP (pLd v39 h5) fun v40=>
 oP (pLen v40) fun v41=>
 cP C n_turnstonehand_Pick [x1,v41] h5 fun v42 h6=>
 oP (pFA 2 x5) fun v43=>
 oP (pLd v43 h6) fun v44=>
 oP (pIx 6 v44 v42) fun v46=>
 oP (pLdA 6 v46 h6) fun v47=>
 cP C n_turnstoneref14_Uses [v47] h6 fun v48 h7=>
 oP (pFA 2 x5) fun v49=>
 oP (pLd v49 h7) fun v50=>
 oP (pIx 6 v50 v42) fun v52=>
 oP (pFA 0 v52) fun v53=>
 oP (pLd v53 h7) fun v54=>
 oP (hbin .eql 3 v54 (V.int .i64 21)) fun v55=>
 oP (pOr v55 (oB (some v48) fun v57=>oB (pLen v57) fun v58=>hbin .lss 3 v58 (V.int .i64 2))) fun v60=>
 oP (pOr v60 (oB (some v48) fun v62=>oB (pIx 1 v62 (V.int .i64 0)) fun v63=>oB (pLd v63 h7) fun v64=>oB (some v48) fun v65=>oB (pIx 1 v65 (V.int .i64 1)) fun v66=>oB (pLd v66 h7) fun v67=>hbin .eql 3 v64 v67)) fun v69=>
 bP v69 (
 Q (V.bool true) h7) (
 oP (pFA 0 x6) fun v70=>
 oP (pLd v70 h7) fun v71=>
 oP (pIx 1 v48 (V.int .i64 0)) fun v73=>
 oP (pLd v73 h7) fun v74=>
 oP (pFA 0 x6) fun v75=>
 oP (pLd v75 h7) fun v76=>
 oP (pIx 1 v48 (V.int .i64 1)) fun v78=>
 oP (pLd v78 h7) fun v79=>
 oP (pIx 1 v76 v79) fun v80=>
 oP (pLd v80 h7) fun v81=>
 oP (pIx 1 v71 v74) fun v82=>
 valP (pSt 1 v82 v81 h7) fun vu_1 h8=>
 (h7.next≤h8.next∧
 oP (pLdA 5 x5 h8) fun v83=>
 oP (pLdA 2 x6 h8) fun v84=>
 cP C n_alloc_Right [v83,v84] h8 fun v85 h9=>
 oP (hun .not v85) fun v86=>
 Q v86 h9))))
theorem l_turnstonelaw24_AllocApart_L0 {C:Cfg}{Q:QP1}(I:Nat→QP4)(step:∀(k:Nat)(x1 x5 x6 x7:V)(h:Hp),I k x1 x5 x6 x7 h→B_turnstonelaw24_AllocApart_L0 C Q (fun x1 x5 x6 x7 h=>∃k',k' < k∧I k' x1 x5 x6 x7 h) x1 x5 x6 x7 h){k:Nat}{x1 x5 x6 x7:V}{h:Hp}(h0:I k x1 x5 x6 x7 h):J_turnstonelaw24_AllocApart_L0 C Q x1 x5 x6 x7 h:=by
 rintro ρ rfl rfl rfl rfl
 exact WA.loop (fun k ρ h=>I k (ρ 1) (ρ 5) (ρ 6) (ρ 7) h) (by kernel_rfl) (by kernel_rfl) (fun k ρ h hi=>LA.of (by kernel_rfl) (step k (ρ 1) (ρ 5) (ρ 6) (ρ 7) h hi)) h0
def B_turnstonelaw24_AllocApart (C:Cfg)(Q:QP1)(a0 a1:V)(h:Hp):Prop:=
 alP (hbox 24 a0) h fun v2 h1=>
 oP (pLdA 3 v2 h1) fun v10=>
 cP C n_turnstonehand_Unit [v10] h1 fun v11 h2=>
 alP (some (.cells 29 1 true false [(V.int .i64 0),(V.int .i64 0),V.nilSlice,V.nilSlice,V.nilSlice],fun l=> .ptr l 0)) h2 fun v5 h3=>
 valP (pSt 5 v5 v11 h3) fun vu h4=>
 oP (pFA 2 v5) fun v12=>
 oP (pLd v12 h4) fun v13=>
 oP (pLen v13) fun v14=>
 oP (pBuild [V.nilSlice,(V.int .i64 0)] [(0,1),(1,1)] [(1,v14)]) fun v15=>
 alP (some (.cells 44 1 true false [V.nilSlice,(V.int .i64 0)],fun l=> .ptr l 0)) h4 fun v6 h5=>
 valP (pSt 2 v6 v15 h5) fun vu_1 h6=>
 J_turnstonelaw24_AllocApart_L0 C Q a1 v5 v6 (V.int .i64 0) h6
theorem c_turnstonelaw24_AllocApart {C:Cfg}(hs:C.start=startF){a0 a1:V}{h:Hp}{Q:QP1}(hk:C.K n_turnstonelaw24_AllocApart [a0,a1] h=none)(H:B_turnstonelaw24_AllocApart C Q a0 a1 h):cP C n_turnstonelaw24_AllocApart [a0,a1] h Q:=
 cP.vc (tb:=t5) hs (by unfold P0;exact Tryd.func5) (by kernel_rfl) hk (by kernel_rfl) (by kernel_rfl) H
end
end Go.Proofs.YtiepamfpilhcjaaDoor.Hx
