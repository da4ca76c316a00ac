/- Parts of the proof. -/
import Derived.Test.YtiepamfpilhcjaaDoorM14
namespace Go.Proofs.YtiepamfpilhcjaaDoor.Hx
set_option maxRecDepth 100000
noncomputable section
def t19:List (Nat×List Nat):=[]
def B_turnstonehand_Unit_1 (C:Cfg)(Q:QP1)(a0 a1 a2:V)(h:Hp):Prop:=
 alP (hbox 39 a0) h fun v3 h1=>
 oP (pFA 2 a1) fun v5=>
 oP (pLd v5 h1) fun v6=>
 oP (pLdA 6 v3 h1) fun v7=>
 alP (pBS 39 6 1 (V.agg [(V.int .i64 0),(V.int .i64 0),(V.int .i64 0),(V.int .i64 0),V.nilSlice,(V.int .i64 0)]) [(0,v7)]) h1 fun v8 h2=>
 valP (happend 39 6 64 v6 v8 h2) fun v9 h3=>
 oP (pFA 2 a1) fun v10=>
 valP (pSt 1 v10 v9 h3) fun vu h4=>
 oP (pFA 0 a2) fun v11=>
 oP (pLd v11 h4) fun v12=>
 oP (pFA 2 a1) fun v13=>
 oP (pLd v13 h4) fun v14=>
 oP (pLen v14) fun v15=>
 oP (hbin .sub 3 v15 (V.int .i64 1)) fun v16=>
 alP (pBS 3 1 1 (V.int .i64 0) [(0,v16)]) h4 fun v17 h5=>
 valP (happend 3 1 8 v12 v17 h5) fun v18 h6=>
 oP (pFA 0 a2) fun v19=>
 valP (pSt 1 v19 v18 h6) fun vu_1 h7=>
 oP (pFA 2 a1) fun v20=>
 oP (pLd v20 h7) fun v21=>
 oP (pLen v21) fun v22=>
 oP (hbin .sub 3 v22 (V.int .i64 1)) fun v23=>
 Q v23 h7
theorem c_turnstonehand_Unit_1 {C:Cfg}(hs:C.start=startF){a0 a1 a2:V}{h:Hp}{Q:QP1}(hk:C.K n_turnstonehand_Unit_1 [a0,a1,a2] h=none)(H:B_turnstonehand_Unit_1 C Q a0 a1 a2 h):cP C n_turnstonehand_Unit_1 [a0,a1,a2] h Q:=
 cP.vc (tb:=t19) hs (by unfold P0;exact Tryd.func19) (by kernel_rfl) hk (by kernel_rfl) (by kernel_rfl) H
def t20:List (Nat×List Nat):=[]
def B_turnstonehand_Unit_2 (C:Cfg)(Q:QP1)(a0 a1 a2:V)(h:Hp):Prop:=
 oP (pLd a1 h) fun v5=>
 oP (pFA 0 a2) fun v6=>
 oP (pLd v6 h) fun v7=>
 oP (pLen v7) fun v8=>
 oP (hbin .geq 3 v5 v8) fun v9=>
 bP v9 (
 Q (V.int .i64 0) h) (
 oP (pLd a1 h) fun v10=>
 oP (hbin .add 3 v10 (V.int .i64 1)) fun v11=>
 valP (pSt 1 a1 v11 h) fun vu h1=>
 oP (pFA 0 a2) fun v12=>
 oP (pLd v12 h1) fun v13=>
 oP (pLd a1 h1) fun v14=>
 oP (hbin .sub 3 v14 (V.int .i64 1)) fun v15=>
 oP (pIx 1 v13 v15) fun v16=>
 oP (pLd v16 h1) fun v17=>
 cP C n_turnstonehand_Pick [v17,a0] h1 fun v19 h2=>
 Q v19 h2)
theorem c_turnstonehand_Unit_2 {C:Cfg}(hs:C.start=startF){a0 a1 a2:V}{h:Hp}{Q:QP1}(hk:C.K n_turnstonehand_Unit_2 [a0,a1,a2] h=none)(H:B_turnstonehand_Unit_2 C Q a0 a1 a2 h):cP C n_turnstonehand_Unit_2 [a0,a1,a2] h Q:=
 cP.vc (tb:=t20) hs (by unfold P0;exact Tryd.func20) (by kernel_rfl) hk (by kernel_rfl) (by kernel_rfl) H
def t21:List (Nat×List Nat):=[(87,[0,1,2,4,5])]
def J_turnstonehand_Unit_3_L0 (C:Cfg)(Q:QP1)(x0 x1 x2 x4 x5:V)(h:Hp):Prop:=∀ρ:Rho,ρ 0=x0→ρ 1=x1→ρ 2=x2→ρ 4=x4→ρ 5=x5→WA C Tryd.f21 t21 43 [] Q ρ h
def B_turnstonehand_Unit_3_L0 (C:Cfg)(Q:QP1)(KL0:QP5)(x0 x1 x2 x4 x5:V)(h:Hp):Prop:=
 oP (hbin .gtr 3 x5 (V.int .i64 0)) fun v13=>
 bP v13 (
 oP (pFA 2 x4) fun v16=>
 oP (pLd v16 h) fun v17=>
 oP (pLd x2 h) fun v18=>
 oP (pLd x1 h) fun v19=>
 oP (pLd x2 h) fun v20=>
 oP (pLen v20) fun v21=>
 calP C (hcall v19 [v21]) h fun v22 h1=>
 (h.next≤h1.next∧
 oP (pIx 1 v18 v22) fun v23=>
 oP (pLd v23 h1) fun v24=>
 alO (pBS 3 1 1 (V.int .i64 0) [(0,v24)]) h1 fun o9 v25 h2=>
 ((h2.get (h1.next)=some o9∧O.beq o9 o9=true)∧
 ((pLd v23 h2=some v24)∧
 ((pLd x2 h2=some v18)∧
 ((pLd v16 h2=some v17)∧
 valP (happend 3 1 8 v17 v25 h2) fun v26 h3=>
 (h2.next≤h3.next∧
 oP (pFA 2 x4) fun v27=>
 valP (pSt 1 v27 v26 h3) fun vu h4=>
 (h3.next≤h4.next∧
 oP (hbin .sub 3 x5 (V.int .i64 1)) fun v15=>
 KL0 x0 x1 x2 x4 v15 h4)))))))) (
 oP (pLd x2 h) fun v28=>
 oP (pLd x2 h) fun v29=>
 oP (pLen v29) fun v30=>
 oP (hbin .sub 3 v30 (V.int .i64 1)) fun v31=>
 oP (pIx 1 v28 v31) fun v32=>
 oP (pLd v32 h) fun v33=>
 alP (pBS 3 1 1 (V.int .i64 0) [(0,v33)]) h fun v34 h5=>
 oP (pFA 3 x4) fun v35=>
 valP (pSt 1 v35 v34 h5) fun vu_1 h6=>
 oP (pFA 4 x0) fun v36=>
 oP (pLd v36 h6) fun v37=>
 oP (pLdA 4 x4 h6) fun v38=>
 alP (pBS 57 4 1 (V.agg [(V.int .i64 0),(V.int .i64 0),V.nilSlice,V.nilSlice]) [(0,v38)]) h6 fun v39 h7=>
 oP (pBuild [V.nilSlice] [(0,1)] [(0,v39)]) fun v40=>
 alP (pBS 60 1 1 (V.agg [V.nilSlice]) [(0,v40)]) h7 fun v41 h8=>
 valP (happend 60 1 24 v37 v41 h8) fun v42 h9=>
 oP (pFA 4 x0) fun v43=>
 valP (pSt 1 v43 v42 h9) fun vu_2 h10=>
 oP (pFA 4 x0) fun v44=>
 oP (pLd v44 h10) fun v45=>
 oP (pLen v45) fun v46=>
 oP (hbin .sub 3 v46 (V.int .i64 1)) fun v47=>
 Q v47 h10)
theorem l_turnstonehand_Unit_3_L0 {C:Cfg}{Q:QP1}(I:Nat→QP5)(step:∀(k:Nat)(x0 x1 x2 x4 x5:V)(h:Hp),I k x0 x1 x2 x4 x5 h→B_turnstonehand_Unit_3_L0 C Q (fun x0 x1 x2 x4 x5 h=>∃k',k' < k∧I k' x0 x1 x2 x4 x5 h) x0 x1 x2 x4 x5 h){k:Nat}{x0 x1 x2 x4 x5:V}{h:Hp}(h0:I k x0 x1 x2 x4 x5 h):J_turnstonehand_Unit_3_L0 C Q x0 x1 x2 x4 x5 h:=by
 rintro ρ rfl rfl rfl rfl rfl
 exact WA.loop (fun k ρ h=>I k (ρ 0) (ρ 1) (ρ 2) (ρ 4) (ρ 5) h) (by kernel_rfl) (by kernel_rfl) (fun k ρ h hi=>LA.of (by kernel_rfl) (step k (ρ 0) (ρ 1) (ρ 2) (ρ 4) (ρ 5) h hi)) h0
def B_turnstonehand_Unit_3 (C:Cfg)(Q:QP1)(a0 a1 a2:V)(h:Hp):Prop:=
 oP (pFA 4 a0) fun v6=>
 oP (pLd v6 h) fun v7=>
 oP (pLen v7) fun v8=>
 oP (pBuild [(V.int .i64 0),(V.int .i64 0),V.nilSlice,V.nilSlice] [(0,1),(1,1),(2,1),(3,1)] [(0,(V.int .i64 1)),(1,v8)]) fun v9=>
 alP (some (.cells 57 1 true false [(V.int .i64 0),(V.int .i64 0),V.nilSlice,V.nilSlice],fun l=> .ptr l 0)) h fun v4 h1=>
 valP (pSt 4 v4 v9 h1) fun vu h2=>
 oP (pLd a1 h2) fun v10=>
 calP C (hcall v10 [(V.int .i64 4)]) h2 fun v11 h3=>
 J_turnstonehand_Unit_3_L0 C Q a0 a1 a2 v4 v11 h3
theorem c_turnstonehand_Unit_3 {C:Cfg}(hs:C.start=startF){a0 a1 a2:V}{h:Hp}{Q:QP1}(hk:C.K n_turnstonehand_Unit_3 [a0,a1,a2] h=none)(H:B_turnstonehand_Unit_3 C Q a0 a1 a2 h):cP C n_turnstonehand_Unit_3 [a0,a1,a2] h Q:=
 cP.vc (tb:=t21) hs (by unfold P0;exact Tryd.func21) (by kernel_rfl) hk (by kernel_rfl) (by kernel_rfl) H
def t22:List (Nat×List Nat):=[(11,[0,1,2,3,4,5]),(114,[0,1,2,3,4,5])]
def J_turnstonehand_Unit_4_L0 (C:Cfg)(Q:QP1)(x0 x1 x2 x3 x4 x5:V)(h:Hp):Prop:=∀ρ:Rho,ρ 0=x0→ρ 1=x1→ρ 2=x2→ρ 3=x3→ρ 4=x4→ρ 5=x5→WA C Tryd.f22 t22 5 [] Q ρ h
def J_turnstonehand_Unit_4_R4 (C:Cfg)(Q:QP1)(KL0:QP6)(x0 x1 x2 x3 x4 x5:V)(h:Hp):Prop:=∀ρ:Rho,ρ 0=x0→ρ 1=x1→ρ 2=x2→ρ 3=x3→ρ 4=x4→ρ 5=x5→WA C Tryd.f22 t22 57 [fun ρ h=>KL0 (ρ 0) (ρ 1) (ρ 2) (ρ 3) (ρ 4) (ρ 5) h] Q ρ h
def B_turnstonehand_Unit_4_L0 (C:Cfg)(Q:QP1)(KL0:QP6)(x0 x1 x2 x3 x4 x5:V)(h:Hp):Prop:=
 oP (hbin .gtr 3 x5 (V.int .i64 0)) fun v13=>
 oP (pAnd v13 (oB (pFA 2 x1) fun v15=>oB (pLd v15 h) fun v16=>oB (pLen v16) fun v17=>hbin .lss 3 v17 (V.int .i64 200))) fun v19=>
 bP v19 (
 oP (pLd x2 h) fun v22=>
 oP (pLd x0 h) fun v23=>
 oP (pLd x2 h) fun v24=>
 oP (pLen v24) fun v25=>
 calP C (hcall v23 [v25]) h fun v26 h1=>
 (h.next≤h1.next∧
 oP (pIx 1 v22 v26) fun v27=>
 oP (pLd v27 h1) fun v28=>
 ((pLd x2 h1=some v22)∧
 oP (pLd x2 h1) fun v29=>
 oP (pLd x0 h1) fun v30=>
 oP (pLd x2 h1) fun v31=>
 oP (pLen v31) fun v32=>
 calP C (hcall v30 [v32]) h1 fun v33 h2=>
 (h1.next≤h2.next∧
 oP (pIx 1 v29 v33) fun v34=>
 oP (pLd v34 h2) fun v35=>
 ((pLd x2 h2=some v29)∧
 oP (pLd x0 h2) fun v36=>
 calP C (hcall v36 [(V.int .i64 20)]) h2 fun v37 h3=>
 oP (hbin .lss 3 v37 (V.int .i64 12)) fun v50=>
 bP v50 (
 oP (pLd x2 h3) fun v51=>
 oP (pLd x3 h3) fun v52=>
 oP (hbin .add 3 (V.int .i64 3) v37) fun v54=>
 oP (pBuild [(V.int .i64 0),(V.int .i64 0),(V.int .i64 0),(V.int .i64 0),V.nilSlice,(V.int .i64 0)] [(0,1),(1,1),(2,1),(3,1),(4,1),(5,1)] [(0,v54),(1,v28),(2,v35)]) fun v57=>
 calP C (hcall v52 [v57]) h3 fun v58 h4=>
 (h3.next≤h4.next∧
 alO (pBS 3 1 1 (V.int .i64 0) [(0,v58)]) h4 fun o8 v59 h5=>
 ((h5.get (h4.next)=some o8∧O.beq o8 o8=true)∧
 ((pLd x2 h5=some v51)∧
 valP (happend 3 1 8 v51 v59 h5) fun v60 h6=>
 (h5.next≤h6.next∧
 valP (pSt 1 x2 v60 h6) fun vu h7=>
 (h6.next≤h7.next∧
 J_turnstonehand_Unit_4_R4 C Q KL0 x0 x1 x2 x3 x4 x5 h7)))))) (
 oP (hbin .eql 3 v37 (V.int .i64 12)) fun v63=>
 bP v63 (
 oP (pLd x2 h3) fun v64=>
 oP (pLd x3 h3) fun v65=>
 oP (pLd x0 h3) fun v66=>
 calP C (hcall v66 [(V.int .i64 1048576)]) h3 fun v67 h8=>
 (h3.next≤h8.next∧
 oP (hbin .sub 2 v67 (V.int .i64 9)) fun v68=>
 oP (pBuild [(V.int .i64 0),(V.int .i64 0),(V.int .i64 0),(V.int .i64 0),V.nilSlice,(V.int .i64 0)] [(0,1),(1,1),(2,1),(3,1),(4,1),(5,1)] [(0,(V.int .i64 2)),(3,v68)]) fun v69=>
 ((pLd x3 h8=some v65)∧
 ((pLd x2 h8=some v64)∧
 calP C (hcall v65 [v69]) h8 fun v70 h9=>
 (h8.next≤h9.next∧
 alO (pBS 3 1 1 (V.int .i64 0) [(0,v70)]) h9 fun o7 v71 h10=>
 ((h10.get (h9.next)=some o7∧O.beq o7 o7=true)∧
 ((pLd x2 h10=some v64)∧
 valP (happend 3 1 8 v64 v71 h10) fun v72 h11=>
 (h10.next≤h11.next∧
 valP (pSt 1 x2 v72 h11) fun vu_1 h12=>
 (h11.next≤h12.next∧
 J_turnstonehand_Unit_4_R4 C Q KL0 x0 x1 x2 x3 x4 x5 h12))))))))) (
 oP (hbin .eql 3 v37 (V.int .i64 13)) fun v75=>
 bP v75 (
 oP (pLd x2 h3) fun v76=>
 oP (pLd x3 h3) fun v77=>
 oP (pLd x0 h3) fun v79=>
 calP C (hcall v79 [(V.int .i64 5)]) h3 fun v80 h13=>
 (h3.next≤h13.next∧
 oP (pBuild [(V.int .i64 0),(V.int .i64 0),(V.int .i64 0),(V.int .i64 0),V.nilSlice,(V.int .i64 0)] [(0,1),(1,1),(2,1),(3,1),(4,1),(5,1)] [(0,(V.int .i64 17)),(1,v28),(3,v80)]) fun v81=>
 ((pLd x3 h13=some v77)∧
 ((pLd x2 h13=some v76)∧
 calP C (hcall v77 [v81]) h13 fun v82 h14=>
 (h13.next≤h14.next∧
 alO (pBS 3 1 1 (V.int .i64 0) [(0,v82)]) h14 fun o7_1 v83 h15=>
 ((h15.get (h14.next)=some o7_1∧O.beq o7_1 o7_1=true)∧
 ((pLd x2 h15=some v76)∧
 valP (happend 3 1 8 v76 v83 h15) fun v84 h16=>
 (h15.next≤h16.next∧
 valP (pSt 1 x2 v84 h16) fun vu_2 h17=>
 (h16.next≤h17.next∧
 J_turnstonehand_Unit_4_R4 C Q KL0 x0 x1 x2 x3 x4 x5 h17))))))))) (
 oP (hbin .eql 3 v37 (V.int .i64 14)) fun v87=>
 bP v87 (
 oP (pLd x2 h3) fun v88=>
 oP (pLd x3 h3) fun v89=>
 oP (pBuild [(V.int .i64 0),(V.int .i64 0),(V.int .i64 0),(V.int .i64 0),V.nilSlice,(V.int .i64 0)] [(0,1),(1,1),(2,1),(3,1),(4,1),(5,1)] [(0,(V.int .i64 18)),(1,v28),(2,v35)]) fun v92=>
 calP C (hcall v89 [v92]) h3 fun v93 h18=>
 (h3.next≤h18.next∧
 alO (pBS 3 1 1 (V.int .i64 0) [(0,v93)]) h18 fun o6 v94 h19=>
 ((h19.get (h18.next)=some o6∧O.beq o6 o6=true)∧
 ((pLd x2 h19=some v88)∧
 valP (happend 3 1 8 v88 v94 h19) fun v95 h20=>
 (h19.next≤h20.next∧
 valP (pSt 1 x2 v95 h20) fun vu_3 h21=>
 (h20.next≤h21.next∧
 J_turnstonehand_Unit_4_R4 C Q KL0 x0 x1 x2 x3 x4 x5 h21)))))) (
 oP (hbin .eql 3 v37 (V.int .i64 15)) fun v98=>
 bP v98 (
 oP (pLd x3 h3) fun v99=>
 oP (pLd x0 h3) fun v101=>
 calP C (hcall v101 [(V.int .i64 5)]) h3 fun v102 h22=>
 (h3.next≤h22.next∧
 oP (pBuild [(V.int .i64 0),(V.int .i64 0),(V.int .i64 0),(V.int .i64 0),V.nilSlice,(V.int .i64 0)] [(0,1),(1,1),(2,1),(3,1),(4,1),(5,1)] [(0,(V.int .i64 19)),(1,v28),(3,v102),(2,v35)]) fun v104=>
 ((pLd x3 h22=some v99)∧
 calP C (hcall v99 [v104]) h22 fun v105 h23=>
 (h22.next≤h23.next∧
 J_turnstonehand_Unit_4_R4 C Q KL0 x0 x1 x2 x3 x4 x5 h23)))) (
 oP (hbin .eql 3 v37 (V.int .i64 16)) fun v108=>
 bP v108 (
 oP (pLd x3 h3) fun v109=>
 oP (pLd x2 h3) fun v112=>
 oP (pLd x0 h3) fun v113=>
 oP (pLd x2 h3) fun v114=>
 oP (pLen v114) fun v115=>
 calP C (hcall v113 [v115]) h3 fun v116 h24=>
 (h3.next≤h24.next∧
 oP (pIx 1 v112 v116) fun v117=>
 oP (pLd v117 h24) fun v118=>
 alO (pBS 3 1 1 (V.int .i64 0) [(0,v118)]) h24 fun o10 v119 h25=>
 oP (pBuild [(V.int .i64 0),(V.int .i64 0),(V.int .i64 0),(V.int .i64 0),V.nilSlice,(V.int .i64 0)] [(0,1),(1,1),(2,1),(3,1),(4,1),(5,1)] [(0,(V.int .i64 20)),(1,v28),(2,v35),(4,v119)]) fun v120=>
 ((h25.get (h24.next)=some o10∧O.beq o10 o10=true)∧
 ((pLd v117 h25=some v118)∧
 ((pLd x2 h25=some v112)∧
 ((pLd x3 h25=some v109)∧
 calP C (hcall v109 [v120]) h25 fun v121 h26=>
 (h25.next≤h26.next∧
 J_turnstonehand_Unit_4_R4 C Q KL0 x0 x1 x2 x3 x4 x5 h26))))))) (
 oP (hbin .eql 3 v37 (V.int .i64 17)) fun v124=>
 bP v124 (
 oP (pLd x3 h3) fun v125=>
 oP (pLd x4 h3) fun v127=>
 calP C (hcall v127 []) h3 fun v128 h27=>
 (h3.next≤h27.next∧
 oP (pBuild [(V.int .i64 0),(V.int .i64 0),(V.int .i64 0),(V.int .i64 0),V.nilSlice,(V.int .i64 0)] [(0,1),(1,1),(2,1),(3,1),(4,1),(5,1)] [(0,(V.int .i64 22)),(1,v28),(5,v128)]) fun v129=>
 ((pLd x3 h27=some v125)∧
 calP C (hcall v125 [v129]) h27 fun v130 h28=>
 (h27.next≤h28.next∧
 J_turnstonehand_Unit_4_R4 C Q KL0 x0 x1 x2 x3 x4 x5 h28)))) (
 oP (hbin .eql 3 v37 (V.int .i64 18)) fun v133=>
 bP v133 (
 oP (pLd x3 h3) fun v134=>
 oP (pLd x4 h3) fun v135=>
 calP C (hcall v135 []) h3 fun v136 h29=>
 (h3.next≤h29.next∧
 oP (pBuild [(V.int .i64 0),(V.int .i64 0),(V.int .i64 0),(V.int .i64 0),V.nilSlice,(V.int .i64 0)] [(0,1),(1,1),(2,1),(3,1),(4,1),(5,1)] [(0,(V.int .i64 23)),(5,v136)]) fun v137=>
 ((pLd x3 h29=some v134)∧
 calP C (hcall v134 [v137]) h29 fun v138 h30=>
 (h29.next≤h30.next∧
 J_turnstonehand_Unit_4_R4 C Q KL0 x0 x1 x2 x3 x4 x5 h30)))) (
 oP (pLd x2 h3) fun v38=>
 oP (pLd x3 h3) fun v39=>
 oP (pLd x0 h3) fun v40=>
 calP C (hcall v40 [(V.int .i64 2)]) h3 fun v41 h31=>
 (h3.next≤h31.next∧
 oP (hbin .add 3 (V.int .i64 15) v41) fun v42=>
 oP (pBuild [(V.int .i64 0),(V.int .i64 0),(V.int .i64 0),(V.int .i64 0),V.nilSlice,(V.int .i64 0)] [(0,1),(1,1),(2,1),(3,1),(4,1),(5,1)] [(0,v42),(1,v28)]) fun v44=>
 ((pLd x3 h31=some v39)∧
 ((pLd x2 h31=some v38)∧
 calP C (hcall v39 [v44]) h31 fun v45 h32=>
 (h31.next≤h32.next∧
 alO (pBS 3 1 1 (V.int .i64 0) [(0,v45)]) h32 fun o8_1 v46 h33=>
 ((h33.get (h32.next)=some o8_1∧O.beq o8_1 o8_1=true)∧
 ((pLd x2 h33=some v38)∧
 valP (happend 3 1 8 v38 v46 h33) fun v47 h34=>
 (h33.next≤h34.next∧
 valP (pSt 1 x2 v47 h34) fun vu_4 h35=>
 (h34.next≤h35.next∧
 J_turnstonehand_Unit_4_R4 C Q KL0 x0 x1 x2 x3 x4 x5 h35))))))))))))))))))))) (
 Q (V.tuple []) h)
theorem l_turnstonehand_Unit_4_L0 {C:Cfg}{Q:QP1}(I:Nat→QP6)(step:∀(k:Nat)(x0 x1 x2 x3 x4 x5:V)(h:Hp),I k x0 x1 x2 x3 x4 x5 h→B_turnstonehand_Unit_4_L0 C Q (fun x0 x1 x2 x3 x4 x5 h=>∃k',k' < k∧I k' x0 x1 x2 x3 x4 x5 h) x0 x1 x2 x3 x4 x5 h){k:Nat}{x0 x1 x2 x3 x4 x5:V}{h:Hp}(h0:I k x0 x1 x2 x3 x4 x5 h):J_turnstonehand_Unit_4_L0 C Q x0 x1 x2 x3 x4 x5 h:=by
 rintro ρ rfl rfl rfl rfl rfl rfl
 exact WA.loop (fun k ρ h=>I k (ρ 0) (ρ 1) (ρ 2) (ρ 3) (ρ 4) (ρ 5) h) (by kernel_rfl) (by kernel_rfl) (fun k ρ h hi=>LA.of (by kernel_rfl) (step k (ρ 0) (ρ 1) (ρ 2) (ρ 3) (ρ 4) (ρ 5) h hi)) h0
def B_turnstonehand_Unit_4_R4 (C:Cfg)(Q:QP1)(KL0:QP6)(x0 x1 x2 x3 x4 x5:V)(h:Hp):Prop:=
 oP (hbin .sub 3 x5 (V.int .i64 1)) fun v21=>
 KL0 x0 x1 x2 x3 x4 v21 h
theorem j_turnstonehand_Unit_4_R4 {C:Cfg}{Q:QP1}{KL0:QP6}{x0 x1 x2 x3 x4 x5:V}{h:Hp}(H:B_turnstonehand_Unit_4_R4 C Q KL0 x0 x1 x2 x3 x4 x5 h):J_turnstonehand_Unit_4_R4 C Q KL0 x0 x1 x2 x3 x4 x5 h:=by
 rintro ρ rfl rfl rfl rfl rfl rfl
 exact WA.of (by kernel_rfl) H
def B_turnstonehand_Unit_4 (C:Cfg)(Q:QP1)(a0 a1 a2 a3 a4:V)(h:Hp):Prop:=
 oP (pLd a0 h) fun v9=>
 calP C (hcall v9 [(V.int .i64 6)]) h fun v10 h1=>
 oP (hbin .add 3 (V.int .i64 1) v10) fun v11=>
 J_turnstonehand_Unit_4_L0 C Q a0 a1 a2 a3 a4 v11 h1
theorem c_turnstonehand_Unit_4 {C:Cfg}(hs:C.start=startF){a0 a1 a2 a3 a4:V}{h:Hp}{Q:QP1}(hk:C.K n_turnstonehand_Unit_4 [a0,a1,a2,a3,a4] h=none)(H:B_turnstonehand_Unit_4 C Q a0 a1 a2 a3 a4 h):cP C n_turnstonehand_Unit_4 [a0,a1,a2,a3,a4] h Q:=
 cP.vc (tb:=t22) hs (by unfold P0;exact Tryd.func22) (by kernel_rfl) hk (by kernel_rfl) (by kernel_rfl) H
def t23:List (Nat×List Nat):=[]
def B_turnstonehand_Unit_5 (C:Cfg)(Q:QP1)(a0 a1 a2:V)(h:Hp):Prop:=
 alP (hbox 36 a0) h fun v3 h1=>
 oP (pFA 0 a1) fun v5=>
 oP (pLd v5 h1) fun v6=>
 oP (pFA 0 v3) fun v7=>
 valP (pSt 1 v7 v6 h1) fun vu h2=>
 oP (pFA 4 a1) fun v8=>
 oP (pLd v8 h2) fun v9=>
 oP (pFA 4 v3) fun v10=>
 valP (pSt 1 v10 v9 h2) fun vu_1 h3=>
 oP (pFA 3 a2) fun v11=>
 oP (pLd v11 h3) fun v12=>
 oP (pLdA 6 v3 h3) fun v13=>
 alP (pBS 36 6 1 (V.agg [V.nilSlice,(V.int .i64 0),(V.int .i64 0),V.nilSlice,V.nilSlice,(V.int .i64 0)]) [(0,v13)]) h3 fun v14 h4=>
 valP (happend 36 6 96 v12 v14 h4) fun v15 h5=>
 oP (pFA 3 a2) fun v16=>
 valP (pSt 1 v16 v15 h5) fun vu_2 h6=>
 oP (pBuild [V.nilSlice,(V.int .i64 0),(V.int .i64 0),V.nilSlice,V.nilSlice,(V.int .i64 0)] [(0,1),(1,1),(2,1),(3,1),(4,1),(5,1)] []) fun v17=>
 valP (pSt 6 a1 v17 h6) fun vu_3 h7=>
 oP (pFA 3 a2) fun v18=>
 oP (pLd v18 h7) fun v19=>
 oP (pLen v19) fun v20=>
 oP (hbin .sub 3 v20 (V.int .i64 1)) fun v21=>
 Q v21 h7
theorem c_turnstonehand_Unit_5 {C:Cfg}(hs:C.start=startF){a0 a1 a2:V}{h:Hp}{Q:QP1}(hk:C.K n_turnstonehand_Unit_5 [a0,a1,a2] h=none)(H:B_turnstonehand_Unit_5 C Q a0 a1 a2 h):cP C n_turnstonehand_Unit_5 [a0,a1,a2] h Q:=
 cP.vc (tb:=t23) hs (by unfold P0;exact Tryd.func23) (by kernel_rfl) hk (by kernel_rfl) (by kernel_rfl) H
def t8:List (Nat×List Nat):=[(1407,[1,2,3,4,5,6,7,8]),(360447,[1,2,3,5,6,7,10,11,12,13,14]),(3768318,[1,2,3,5,6,7,10,11,12,13,14]),(70368597999614,[1,2,3,5,6,7,10,11,12,13,14,24,26,29])]
def J_turnstonehand_Unit_L0 (C:Cfg)(Q:QP1)(x1 x2 x3 x4 x5 x6 x7 x8:V)(h:Hp):Prop:=∀ρ:Rho,ρ 1=x1→ρ 2=x2→ρ 3=x3→ρ 4=x4→ρ 5=x5→ρ 6=x6→ρ 7=x7→ρ 8=x8→WA C Tryd.f8 t8 703 [] Q ρ h
def J_turnstonehand_Unit_L1 (C:Cfg)(Q:QP1)(x1 x2 x3 x5 x6 x7 x10 x11 x12 x13 x14:V)(h:Hp):Prop:=∀ρ:Rho,ρ 1=x1→ρ 2=x2→ρ 3=x3→ρ 5=x5→ρ 6=x6→ρ 7=x7→ρ 10=x10→ρ 11=x11→ρ 12=x12→ρ 13=x13→ρ 14=x14→WA C Tryd.f8 t8 180223 [] Q ρ h
def J_turnstonehand_Unit_R25 (C:Cfg)(Q:QP1)(KL1:QP11)(x1 x2 x3 x5 x6 x7 x10 x11 x12 x13 x14:V)(h:Hp):Prop:=∀ρ:Rho,ρ 1=x1→ρ 2=x2→ρ 3=x3→ρ 5=x5→ρ 6=x6→ρ 7=x7→ρ 10=x10→ρ 11=x11→ρ 12=x12→ρ 13=x13→ρ 14=x14→WA C Tryd.f8 t8 1884159 [fun ρ h=>KL1 (ρ 1) (ρ 2) (ρ 3) (ρ 5) (ρ 6) (ρ 7) (ρ 10) (ρ 11) (ρ 12) (ρ 13) (ρ 14) h] Q ρ h
def J_turnstonehand_Unit_R68 (C:Cfg)(Q:QP1)(KL1:QP11)(x1 x2 x3 x5 x6 x7 x10 x11 x12 x13 x14 x24 x26 x29:V)(h:Hp):Prop:=∀ρ:Rho,ρ 1=x1→ρ 2=x2→ρ 3=x3→ρ 5=x5→ρ 6=x6→ρ 7=x7→ρ 10=x10→ρ 11=x11→ρ 12=x12→ρ 13=x13→ρ 14=x14→ρ 24=x24→ρ 26=x26→ρ 29=x29→WA C Tryd.f8 t8 35184298999807 [fun ρ h=>KL1 (ρ 1) (ρ 2) (ρ 3) (ρ 5) (ρ 6) (ρ 7) (ρ 10) (ρ 11) (ρ 12) (ρ 13) (ρ 14) h] Q ρ h
def B_turnstonehand_Unit_L0 (C:Cfg)(Q:QP1)(KL0:QP8)(x1 x2 x3 x4 x5 x6 x7 x8:V)(h:Hp):Prop:=
 oP (hbin .lss 3 x8 x4) fun v41=>
 bP v41 (
 oP (pLd x5 h) fun v44=>
 oP (pLd x7 h) fun v45=>
 oP (pBuild [(V.int .i64 0),(V.int .i64 0),(V.int .i64 0),(V.int .i64 0),V.nilSlice,(V.int .i64 0)] [(0,1),(1,1),(2,1),(3,1),(4,1),(5,1)] [(0,(V.int .i64 1)),(3,x8)]) fun v47=>
 calP C (hcall v45 [v47]) h fun v48 h1=>
 (h.next≤h1.next∧
 alO (pBS 3 1 1 (V.int .i64 0) [(0,v48)]) h1 fun o5 v49 h2=>
 ((h2.get (h1.next)=some o5∧O.beq o5 o5=true)∧
 ((pLd x5 h2=some v44)∧
 valP (happend 3 1 8 v44 v49 h2) fun v50 h3=>
 (h2.next≤h3.next∧
 valP (pSt 1 x5 v50 h3) fun vu h4=>
 (h3.next≤h4.next∧
 oP (hbin .add 3 x8 (V.int .i64 1)) fun v43=>
 KL0 x1 x2 x3 x4 x5 x6 x7 v43 h4)))))) (
 oP (pLd x5 h) fun v51=>
 oP (pLd x7 h) fun v52=>
 oP (pBuild [(V.int .i64 0),(V.int .i64 0),(V.int .i64 0),(V.int .i64 0),V.nilSlice,(V.int .i64 0)] [(0,1),(1,1),(2,1),(3,1),(4,1),(5,1)] [(0,(V.int .i64 2)),(3,(V.int .i64 5))]) fun v53=>
 calP C (hcall v52 [v53]) h fun v54 h5=>
 (h.next≤h5.next∧
 alO (pBS 3 1 1 (V.int .i64 0) [(0,v54)]) h5 fun o4 v55 h6=>
 ((h6.get (h5.next)=some o4∧O.beq o4 o4=true)∧
 ((pLd x5 h6=some v51)∧
 valP (happend 3 1 8 v51 v55 h6) fun v56 h7=>
 (h6.next≤h7.next∧
 valP (pSt 1 x5 v56 h7) fun vu_1 h8=>
 (h7.next≤h8.next∧
 alP (some (.cells 3 1 true false [(V.int .i64 0)],fun l=> .ptr l 0)) h8 fun v9 h9=>
 valP (pSt 1 v9 (V.int .i64 0) h9) fun vu_2 h10=>
 alP (some (.cells 55 1 true false [V.nilFunc],fun l=> .ptr l 0)) h10 fun v10 h11=>
 valP (pSt 1 v10 (V.func n_turnstonehand_Unit_2 [] [v9,x1]) h11) fun vu_3 h12=>
 alP (some (.cells 61 1 true false [V.nilFunc],fun l=> .ptr l 0)) h12 fun v11 h13=>
 valP (pSt 1 v11 (V.func n_turnstonehand_Unit_3 [] [x3,v10,x5]) h13) fun vu_4 h14=>
 calP C (hcall (V.func n_turnstonehand_Unit_4 [] [v10,x3,x5,x7,v11]) []) h14 fun v62 h15=>
 J_turnstonehand_Unit_L1 C Q x1 x2 x3 x5 x6 x7 v10 v11 (V.func n_turnstonehand_Unit_4 [] [v10,x3,x5,x7,v11]) (V.func n_turnstonehand_Unit_5 [] [x6,x3]) (V.int .i64 0) h15))))))
theorem l_turnstonehand_Unit_L0 {C:Cfg}{Q:QP1}(I:Nat→QP8)(step:∀(k:Nat)(x1 x2 x3 x4 x5 x6 x7 x8:V)(h:Hp),I k x1 x2 x3 x4 x5 x6 x7 x8 h→B_turnstonehand_Unit_L0 C Q (fun x1 x2 x3 x4 x5 x6 x7 x8 h=>∃k',k' < k∧I k' x1 x2 x3 x4 x5 x6 x7 x8 h) x1 x2 x3 x4 x5 x6 x7 x8 h){k:Nat}{x1 x2 x3 x4 x5 x6 x7 x8:V}{h:Hp}(h0:I k x1 x2 x3 x4 x5 x6 x7 x8 h):J_turnstonehand_Unit_L0 C Q x1 x2 x3 x4 x5 x6 x7 x8 h:=by
 rintro ρ rfl rfl rfl rfl rfl rfl rfl rfl
 exact WA.loop (fun k ρ h=>I k (ρ 1) (ρ 2) (ρ 3) (ρ 4) (ρ 5) (ρ 6) (ρ 7) (ρ 8) h) (by kernel_rfl) (by kernel_rfl) (fun k ρ h hi=>LA.of (by kernel_rfl) (step k (ρ 1) (ρ 2) (ρ 3) (ρ 4) (ρ 5) (ρ 6) (ρ 7) (ρ 8) h hi)) h0
def B_turnstonehand_Unit_L1 (C:Cfg)(Q:QP1)(KL1:QP11)(x1 x2 x3 x5 x6 x7 x10 x11 x12 x13 x14:V)(h:Hp):Prop:=
 oP (pFA 1 x1) fun v64=>
 oP (pLd v64 h) fun v65=>
 oP (pLen v65) fun v66=>
 oP (hbin .lss 3 x14 v66) fun v67=>
 oP (pAnd v67 (oB (some x14) fun v69=>hbin .lss 3 v69 (V.int .i64 6))) fun v71=>
 oP (pAnd v71 (oB (pFA 2 x3) fun v73=>oB (pLd v73 h) fun v74=>oB (pLen v74) fun v75=>hbin .lss 3 v75 (V.int .i64 160))) fun v77=>
 bP v77 (
 oP (pFA 1 x1) fun v80=>
 oP (pLd v80 h) fun v81=>
 oP (pIx 1 v81 x14) fun v83=>
 oP (pLd v83 h) fun v84=>
 cP C n_turnstonehand_Pick [v84,(V.int .i64 3)] h fun v85 h1=>
 oP (hbin .eql 3 v85 (V.int .i64 0)) fun v127=>
 bP v127 (
 oP (pLd x5 h1) fun v128=>
 oP (pLd x10 h1) fun v129=>
 oP (pLd x5 h1) fun v130=>
 oP (pLen v130) fun v131=>
 calP C (hcall v129 [v131]) h1 fun v132 h2=>
 (h1.next≤h2.next∧
 oP (pIx 1 v128 v132) fun v133=>
 oP (pLd v133 h2) fun v134=>
 ((pLd x5 h2=some v128)∧
 oP (pLd x5 h2) fun v135=>
 oP (pLen v135) fun v136=>
 oP (pFA 3 x3) fun v139=>
 oP (pLd v139 h2) fun v140=>
 oP (pLen v140) fun v141=>
 oP (hbin .add 3 v141 (V.int .i64 1)) fun v142=>
 oP (pFA 3 x3) fun v143=>
 oP (pLd v143 h2) fun v144=>
 oP (pLen v144) fun v145=>
 oP (hbin .add 3 v145 (V.int .i64 2)) fun v146=>
 alP (pBS 3 1 2 (V.int .i64 0) [(0,v142),(1,v146)]) h2 fun v147 h3=>
 oP (pBuild [V.nilSlice,(V.int .i64 0),(V.int .i64 0),V.nilSlice,V.nilSlice,(V.int .i64 0)] [(0,1),(1,1),(2,1),(3,1),(4,1),(5,1)] [(1,(V.int .i64 2)),(2,v134),(3,v147)]) fun v148=>
 calP C (hcall x13 [v148]) h3 fun v149 h4=>
 alP (pBS 3 1 1 (V.int .i64 0) [(0,v149)]) h4 fun v151 h5=>
 oP (pFA 4 x6) fun v152=>
 valP (pSt 1 v152 v151 h5) fun vu h6=>
 calP C (hcall x12 []) h6 fun v154 h7=>
 oP (pLd x5 h7) fun v155=>
 oP (pLd x5 h7) fun v156=>
 oP (pLen v156) fun v157=>
 oP (hbin .sub 3 v157 (V.int .i64 1)) fun v158=>
 oP (pIx 1 v155 v158) fun v159=>
 oP (pLd v159 h7) fun v160=>
 oP (pLd x5 h7) fun v161=>
 oP (hsliceV 1 v161 none (some v136) h7) fun v163=>
 valP (pSt 1 x5 v163 h7) fun vu_1 h8=>
 oP (pFA 3 x3) fun v165=>
 oP (pLd v165 h8) fun v166=>
 oP (pLen v166) fun v167=>
 oP (hbin .add 3 v167 (V.int .i64 2)) fun v168=>
 alP (pBS 3 1 1 (V.int .i64 0) [(0,v168)]) h8 fun v169 h9=>
 oP (pBuild [V.nilSlice,(V.int .i64 0),(V.int .i64 0),V.nilSlice,V.nilSlice,(V.int .i64 0)] [(0,1),(1,1),(2,1),(3,1),(4,1),(5,1)] [(1,(V.int .i64 1)),(3,v169)]) fun v170=>
 calP C (hcall x13 [v170]) h9 fun v171 h10=>
 alP (pBS 3 1 1 (V.int .i64 0) [(0,v149)]) h10 fun v173 h11=>
 oP (pFA 4 x6) fun v174=>
 valP (pSt 1 v174 v173 h11) fun vu_2 h12=>
 calP C (hcall x12 []) h12 fun v176 h13=>
 oP (pLd x5 h13) fun v177=>
 oP (pLd x5 h13) fun v178=>
 oP (pLen v178) fun v179=>
 oP (hbin .sub 3 v179 (V.int .i64 1)) fun v180=>
 oP (pIx 1 v177 v180) fun v181=>
 oP (pLd v181 h13) fun v182=>
 oP (pLd x5 h13) fun v183=>
 oP (hsliceV 1 v183 none (some v136) h13) fun v185=>
 valP (pSt 1 x5 v185 h13) fun vu_3 h14=>
 oP (pFA 3 x3) fun v187=>
 oP (pLd v187 h14) fun v188=>
 oP (pLen v188) fun v189=>
 oP (hbin .add 3 v189 (V.int .i64 1)) fun v190=>
 alP (pBS 3 1 1 (V.int .i64 0) [(0,v190)]) h14 fun v191 h15=>
 oP (pBuild [V.nilSlice,(V.int .i64 0),(V.int .i64 0),V.nilSlice,V.nilSlice,(V.int .i64 0)] [(0,1),(1,1),(2,1),(3,1),(4,1),(5,1)] [(1,(V.int .i64 1)),(3,v191)]) fun v192=>
 calP C (hcall x13 [v192]) h15 fun v193 h16=>
 alP (pBS 3 1 2 (V.int .i64 0) [(0,v171),(1,v193)]) h16 fun v196 h17=>
 oP (pFA 4 x6) fun v197=>
 valP (pSt 1 v197 v196 h17) fun vu_4 h18=>
 oP (pLd x5 h18) fun v198=>
 oP (pLd x7 h18) fun v199=>
 alO (pBS 3 1 2 (V.int .i64 0) [(0,v160),(1,v182)]) h18 fun o4 v202 h19=>
 oP (pBuild [(V.int .i64 0),(V.int .i64 0),(V.int .i64 0),(V.int .i64 0),V.nilSlice,(V.int .i64 0)] [(0,1),(1,1),(2,1),(3,1),(4,1),(5,1)] [(0,(V.int .i64 21)),(4,v202)]) fun v203=>
 ((h19.get (h18.next)=some o4∧O.beq o4 o4=true)∧
 ((pLd x7 h19=some v199)∧
 ((pLd x5 h19=some v198)∧
 calP C (hcall v199 [v203]) h19 fun v204 h20=>
 (h19.next≤h20.next∧
 alO (pBS 3 1 1 (V.int .i64 0) [(0,v204)]) h20 fun o7 v205 h21=>
 ((h21.get (h20.next)=some o7∧O.beq o7 o7=true)∧
 ((pLd x5 h21=some v198)∧
 valP (happend 3 1 8 v198 v205 h21) fun v206 h22=>
 (h21.next≤h22.next∧
 valP (pSt 1 x5 v206 h22) fun vu_5 h23=>
 (h22.next≤h23.next∧
 calP C (hcall x12 []) h23 fun v208 h24=>
 J_turnstonehand_Unit_R25 C Q KL1 x1 x2 x3 x5 x6 x7 x10 x11 x12 x13 x14 h24))))))))))) (
 oP (hbin .eql 3 v85 (V.int .i64 1)) fun v210=>
 bP v210 (
 oP (pLd x5 h1) fun v211=>
 oP (pLd x10 h1) fun v212=>
 oP (pLd x5 h1) fun v213=>
 oP (pLen v213) fun v214=>
 calP C (hcall v212 [v214]) h1 fun v215 h25=>
 (h1.next≤h25.next∧
 oP (pIx 1 v211 v215) fun v216=>
 oP (pLd v216 h25) fun v217=>
 ((pLd x5 h25=some v211)∧
 oP (pFA 3 x3) fun v219=>
 oP (pLd v219 h25) fun v220=>
 oP (pLen v220) fun v221=>
 oP (hbin .add 3 v221 (V.int .i64 1)) fun v222=>
 alP (pBS 3 1 1 (V.int .i64 0) [(0,v222)]) h25 fun v223 h26=>
 oP (pBuild [V.nilSlice,(V.int .i64 0),(V.int .i64 0),V.nilSlice,V.nilSlice,(V.int .i64 0)] [(0,1),(1,1),(2,1),(3,1),(4,1),(5,1)] [(1,(V.int .i64 1)),(3,v223)]) fun v224=>
 calP C (hcall x13 [v224]) h26 fun v225 h27=>
 oP (hbin .add 3 v225 (V.int .i64 1)) fun v227=>
 oP (hbin .add 3 v227 (V.int .i64 1)) fun v230=>
 alP (pBS 3 1 2 (V.int .i64 0) [(0,v225),(1,v230)]) h27 fun v231 h28=>
 oP (pFA 4 x6) fun v232=>
 valP (pSt 1 v232 v231 h28) fun vu_6 h29=>
 oP (pLd x7 h29) fun v233=>
 alP (pBS 3 1 2 (V.int .i64 0) [(0,v217),(1,(V.int .i64 0))]) h29 fun v235 h30=>
 oP (pBuild [(V.int .i64 0),(V.int .i64 0),(V.int .i64 0),(V.int .i64 0),V.nilSlice,(V.int .i64 0)] [(0,1),(1,1),(2,1),(3,1),(4,1),(5,1)] [(0,(V.int .i64 21)),(4,v235)]) fun v236=>
 calP C (hcall v233 [v236]) h30 fun v237 h31=>
 oP (pLd x7 h31) fun v238=>
 oP (pLd x5 h31) fun v239=>
 oP (pLd x10 h31) fun v240=>
 oP (pLd x5 h31) fun v241=>
 oP (pLen v241) fun v242=>
 calP C (hcall v240 [v242]) h31 fun v243 h32=>
 (h31.next≤h32.next∧
 oP (pIx 1 v239 v243) fun v244=>
 oP (pLd v244 h32) fun v245=>
 alO (pBS 3 1 2 (V.int .i64 0) [(0,v245),(1,v237)]) h32 fun o9 v247 h33=>
 oP (pBuild [(V.int .i64 0),(V.int .i64 0),(V.int .i64 0),(V.int .i64 0),V.nilSlice,(V.int .i64 0)] [(0,1),(1,1),(2,1),(3,1),(4,1),(5,1)] [(0,(V.int .i64 21)),(4,v247)]) fun v248=>
 ((h33.get (h32.next)=some o9∧O.beq o9 o9=true)∧
 ((pLd v244 h33=some v245)∧
 ((pLd x5 h33=some v239)∧
 ((pLd x7 h33=some v238)∧
 calP C (hcall v238 [v248]) h33 fun v249 h34=>
 (h33.next≤h34.next∧
 oP (pLd x5 h34) fun v250=>
 alP (pBS 3 1 2 (V.int .i64 0) [(0,v237),(1,v249)]) h34 fun v253 h35=>
 valP (happend 3 1 8 v250 v253 h35) fun v254 h36=>
 valP (pSt 1 x5 v254 h36) fun vu_7 h37=>
 oP (pLd x7 h37) fun v255=>
 oP (pLd x11 h37) fun v256=>
 calP C (hcall v256 []) h37 fun v257 h38=>
 (h37.next≤h38.next∧
 oP (pBuild [(V.int .i64 0),(V.int .i64 0),(V.int .i64 0),(V.int .i64 0),V.nilSlice,(V.int .i64 0)] [(0,1),(1,1),(2,1),(3,1),(4,1),(5,1)] [(0,(V.int .i64 23)),(5,v257)]) fun v258=>
 ((pLd x7 h38=some v255)∧
 calP C (hcall v255 [v258]) h38 fun v259 h39=>
 (h38.next≤h39.next∧
 oP (pLd x7 h39) fun v260=>
 oP (pBuild [(V.int .i64 0),(V.int .i64 0),(V.int .i64 0),(V.int .i64 0),V.nilSlice,(V.int .i64 0)] [(0,1),(1,1),(2,1),(3,1),(4,1),(5,1)] [(0,(V.int .i64 2)),(3,(V.int .i64 1))]) fun v261=>
 calP C (hcall v260 [v261]) h39 fun v262 h40=>
 oP (pLd x7 h40) fun v263=>
 oP (pBuild [(V.int .i64 0),(V.int .i64 0),(V.int .i64 0),(V.int .i64 0),V.nilSlice,(V.int .i64 0)] [(0,1),(1,1),(2,1),(3,1),(4,1),(5,1)] [(0,(V.int .i64 4)),(1,v237),(2,v262)]) fun v266=>
 calP C (hcall v263 [v266]) h40 fun v267 h41=>
 oP (pLd x5 h41) fun v268=>
 alP (pBS 3 1 1 (V.int .i64 0) [(0,v267)]) h41 fun v270 h42=>
 valP (happend 3 1 8 v268 v270 h42) fun v271 h43=>
 valP (pSt 1 x5 v271 h43) fun vu_8 h44=>
 oP (hbin .add 3 v227 (V.int .i64 1)) fun v275=>
 oP (hbin .add 3 v227 (V.int .i64 2)) fun v277=>
 alP (pBS 3 1 2 (V.int .i64 0) [(0,v275),(1,v277)]) h44 fun v278 h45=>
 oP (pBuild [V.nilSlice,(V.int .i64 0),(V.int .i64 0),V.nilSlice,V.nilSlice,(V.int .i64 0)] [(0,1),(1,1),(2,1),(3,1),(4,1),(5,1)] [(1,(V.int .i64 2)),(2,v237),(3,v278)]) fun v279=>
 calP C (hcall x13 [v279]) h45 fun v280 h46=>
 oP (pLd x5 h46) fun v281=>
 oP (pLen v281) fun v282=>
 alP (pBS 3 1 1 (V.int .i64 0) [(0,v227)]) h46 fun v284 h47=>
 oP (pFA 4 x6) fun v285=>
 valP (pSt 1 v285 v284 h47) fun vu_9 h48=>
 calP C (hcall x12 []) h48 fun v287 h49=>
 oP (pFA 2 x3) fun v288=>
 oP (pLd v288 h49) fun v289=>
 alP (pBS 3 1 2 (V.int .i64 0) [(0,v217),(1,v267)]) h49 fun v293 h50=>
 oP (pIx 6 v289 v237) fun v294=>
 oP (pFA 4 v294) fun v295=>
 valP (pSt 1 v295 v293 h50) fun vu_10 h51=>
 oP (pLd x10 h51) fun v296=>
 calP C (hcall v296 [(V.int .i64 3)]) h51 fun v297 h52=>
 oP (hbin .eql 3 v297 (V.int .i64 0)) fun v298=>
 bP v298 (
 oP (pFA 2 x3) fun v299=>
 oP (pLd v299 h52) fun v300=>
 oP (pLd x5 h52) fun v303=>
 oP (pLd x5 h52) fun v304=>
 oP (pLen v304) fun v305=>
 oP (hbin .sub 3 v305 (V.int .i64 1)) fun v306=>
 oP (pIx 1 v303 v306) fun v307=>
 oP (pLd v307 h52) fun v308=>
 alO (pBS 3 1 2 (V.int .i64 0) [(0,v217),(1,v308)]) h52 fun o10 v309 h53=>
 oP (pIx 6 v300 v237) fun v310=>
 oP (pFA 4 v310) fun v311=>
 ((h53.get (h52.next)=some o10∧O.beq o10 o10=true)∧
 ((pLd v307 h53=some v308)∧
 ((pLd x5 h53=some v304)∧
 ((pLd x5 h53=some v303)∧
 ((pLd v299 h53=some v300)∧
 valP (pSt 1 v311 v309 h53) fun vu_11 h54=>
 (h53.next≤h54.next∧
 J_turnstonehand_Unit_R68 C Q KL1 x1 x2 x3 x5 x6 x7 x10 x11 x12 x13 x14 v227 v249 v282 h54))))))) (
 J_turnstonehand_Unit_R68 C Q KL1 x1 x2 x3 x5 x6 x7 x10 x11 x12 x13 x14 v227 v249 v282 h52))))))))))))) (
 oP (pLd x5 h1) fun v86=>
 oP (pLd x10 h1) fun v87=>
 oP (pLd x5 h1) fun v88=>
 oP (pLen v88) fun v89=>
 calP C (hcall v87 [v89]) h1 fun v90 h55=>
 (h1.next≤h55.next∧
 oP (pIx 1 v86 v90) fun v91=>
 oP (pLd v91 h55) fun v92=>
 ((pLd x5 h55=some v86)∧
 oP (pFA 3 x3) fun v95=>
 oP (pLd v95 h55) fun v96=>
 oP (pLen v96) fun v97=>
 oP (hbin .add 3 v97 (V.int .i64 1)) fun v98=>
 oP (pFA 3 x3) fun v99=>
 oP (pLd v99 h55) fun v100=>
 oP (pLen v100) fun v101=>
 oP (hbin .add 3 v101 (V.int .i64 2)) fun v102=>
 alP (pBS 3 1 2 (V.int .i64 0) [(0,v98),(1,v102)]) h55 fun v103 h56=>
 oP (pBuild [V.nilSlice,(V.int .i64 0),(V.int .i64 0),V.nilSlice,V.nilSlice,(V.int .i64 0)] [(0,1),(1,1),(2,1),(3,1),(4,1),(5,1)] [(1,(V.int .i64 2)),(2,v92),(3,v103)]) fun v104=>
 calP C (hcall x13 [v104]) h56 fun v105 h57=>
 oP (pLd x5 h57) fun v106=>
 oP (pLen v106) fun v107=>
 alP (pBS 3 1 1 (V.int .i64 0) [(0,v105)]) h57 fun v109 h58=>
 oP (pFA 4 x6) fun v110=>
 valP (pSt 1 v110 v109 h58) fun vu_12 h59=>
 calP C (hcall x12 []) h59 fun v112 h60=>
 oP (pLd x11 h60) fun v114=>
 calP C (hcall v114 []) h60 fun v115 h61=>
 oP (pBuild [V.nilSlice,(V.int .i64 0),(V.int .i64 0),V.nilSlice,V.nilSlice,(V.int .i64 0)] [(0,1),(1,1),(2,1),(3,1),(4,1),(5,1)] [(1,(V.int .i64 3)),(5,v115)]) fun v116=>
 calP C (hcall x13 [v116]) h61 fun v117 h62=>
 oP (pLd x5 h62) fun v118=>
 oP (hsliceV 1 v118 none (some v107) h62) fun v120=>
 valP (pSt 1 x5 v120 h62) fun vu_13 h63=>
 alP (pBS 3 1 1 (V.int .i64 0) [(0,v105)]) h63 fun v122 h64=>
 oP (pFA 4 x6) fun v123=>
 valP (pSt 1 v123 v122 h64) fun vu_14 h65=>
 calP C (hcall x12 []) h65 fun v125 h66=>
 J_turnstonehand_Unit_R25 C Q KL1 x1 x2 x3 x5 x6 x7 x10 x11 x12 x13 x14 h66))))) (
 oP (pLd x11 h) fun v346=>
 calP C (hcall v346 []) h fun v347 h67=>
 oP (pBuild [V.nilSlice,(V.int .i64 0),(V.int .i64 0),V.nilSlice,V.nilSlice,(V.int .i64 0)] [(0,1),(1,1),(2,1),(3,1),(4,1),(5,1)] [(1,(V.int .i64 3)),(5,v347)]) fun v348=>
 calP C (hcall x13 [v348]) h67 fun v349 h68=>
 oP (pLdA 5 x3 h68) fun v350=>
 valP (pSt 5 x2 v350 h68) fun vu_15 h69=>
 oP (pLdA 5 x2 h69) fun r2=>
 Q r2 h69)
theorem l_turnstonehand_Unit_L1 {C:Cfg}{Q:QP1}(I:Nat→QP11)(step:∀(k:Nat)(x1 x2 x3 x5 x6 x7 x10 x11 x12 x13 x14:V)(h:Hp),I k x1 x2 x3 x5 x6 x7 x10 x11 x12 x13 x14 h→B_turnstonehand_Unit_L1 C Q (fun x1 x2 x3 x5 x6 x7 x10 x11 x12 x13 x14 h=>∃k',k' < k∧I k' x1 x2 x3 x5 x6 x7 x10 x11 x12 x13 x14 h) x1 x2 x3 x5 x6 x7 x10 x11 x12 x13 x14 h){k:Nat}{x1 x2 x3 x5 x6 x7 x10 x11 x12 x13 x14:V}{h:Hp}(h0:I k x1 x2 x3 x5 x6 x7 x10 x11 x12 x13 x14 h):J_turnstonehand_Unit_L1 C Q x1 x2 x3 x5 x6 x7 x10 x11 x12 x13 x14 h:=by
 rintro ρ rfl rfl rfl rfl rfl rfl rfl rfl rfl rfl rfl
 exact WA.loop (fun k ρ h=>I k (ρ 1) (ρ 2) (ρ 3) (ρ 5) (ρ 6) (ρ 7) (ρ 10) (ρ 11) (ρ 12) (ρ 13) (ρ 14) h) (by kernel_rfl) (by kernel_rfl) (fun k ρ h hi=>LA.of (by kernel_rfl) (step k (ρ 1) (ρ 2) (ρ 3) (ρ 5) (ρ 6) (ρ 7) (ρ 10) (ρ 11) (ρ 12) (ρ 13) (ρ 14) h hi)) h0
def B_turnstonehand_Unit_R25 (C:Cfg)(Q:QP1)(KL1:QP11)(x1 x2 x3 x5 x6 x7 x10 x11 x12 x13 x14:V)(h:Hp):Prop:=
 oP (hbin .add 3 x14 (V.int .i64 1)) fun v79=>
 KL1 x1 x2 x3 x5 x6 x7 x10 x11 x12 x13 v79 h
theorem j_turnstonehand_Unit_R25 {C:Cfg}{Q:QP1}{KL1:QP11}{x1 x2 x3 x5 x6 x7 x10 x11 x12 x13 x14:V}{h:Hp}(H:B_turnstonehand_Unit_R25 C Q KL1 x1 x2 x3 x5 x6 x7 x10 x11 x12 x13 x14 h):J_turnstonehand_Unit_R25 C Q KL1 x1 x2 x3 x5 x6 x7 x10 x11 x12 x13 x14 h:=by
 rintro ρ rfl rfl rfl rfl rfl rfl rfl rfl rfl rfl rfl
 exact WA.of (by kernel_rfl) H
def B_turnstonehand_Unit_R68 (C:Cfg)(Q:QP1)(KL1:QP11)(x1 x2 x3 x5 x6 x7 x10 x11 x12 x13 x14 x24 x26 x29:V)(h:Hp):Prop:=
 oP (pFA 2 x3) fun v312=>
 oP (pLd v312 h) fun v313=>
 oP (pFA 2 x3) fun v315=>
 oP (pLd v315 h) fun v316=>
 oP (pIx 6 v316 x26) fun v318=>
 oP (pFA 4 v318) fun v319=>
 oP (pLd v319 h) fun v320=>
 oP (pIx 1 v320 (V.int .i64 0)) fun v321=>
 oP (pLd v321 h) fun v322=>
 oP (pLd x5 h) fun v323=>
 oP (pLd x5 h) fun v324=>
 oP (pLen v324) fun v325=>
 oP (hbin .sub 3 v325 (V.int .i64 1)) fun v326=>
 oP (pIx 1 v323 v326) fun v327=>
 oP (pLd v327 h) fun v328=>
 alO (pBS 3 1 2 (V.int .i64 0) [(0,v322),(1,v328)]) h fun o17 v329 h1=>
 oP (pIx 6 v313 x26) fun v330=>
 oP (pFA 4 v330) fun v331=>
 ((h1.get (h.next)=some o17∧O.beq o17 o17=true)∧
 ((pLd v327 h1=some v328)∧
 ((pLd x5 h1=some v324)∧
 ((pLd x5 h1=some v323)∧
 ((pLd v321 h1=some v322)∧
 ((pLd v319 h1=some v320)∧
 ((pLd v315 h1=some v316)∧
 ((pLd v312 h1=some v313)∧
 valP (pSt 1 v331 v329 h1) fun vu h2=>
 (h1.next≤h2.next∧
 oP (pLd x5 h2) fun v332=>
 oP (hsliceV 1 v332 none (some x29) h2) fun v334=>
 valP (pSt 1 x5 v334 h2) fun vu_1 h3=>
 alP (pBS 3 1 1 (V.int .i64 0) [(0,x24)]) h3 fun v337 h4=>
 oP (pBuild [V.nilSlice,(V.int .i64 0),(V.int .i64 0),V.nilSlice,V.nilSlice,(V.int .i64 0)] [(0,1),(1,1),(2,1),(3,1),(4,1),(5,1)] [(1,(V.int .i64 1)),(3,v337)]) fun v338=>
 calP C (hcall x13 [v338]) h4 fun v339 h5=>
 alP (pBS 3 1 1 (V.int .i64 0) [(0,x24)]) h5 fun v341 h6=>
 oP (pFA 4 x6) fun v342=>
 valP (pSt 1 v342 v341 h6) fun vu_2 h7=>
 calP C (hcall x12 []) h7 fun v344 h8=>
 J_turnstonehand_Unit_R25 C Q KL1 x1 x2 x3 x5 x6 x7 x10 x11 x12 x13 x14 h8)))))))))
theorem j_turnstonehand_Unit_R68 {C:Cfg}{Q:QP1}{KL1:QP11}{x1 x2 x3 x5 x6 x7 x10 x11 x12 x13 x14 x24 x26 x29:V}{h:Hp}(H:B_turnstonehand_Unit_R68 C Q KL1 x1 x2 x3 x5 x6 x7 x10 x11 x12 x13 x14 x24 x26 x29 h):J_turnstonehand_Unit_R68 C Q KL1 x1 x2 x3 x5 x6 x7 x10 x11 x12 x13 x14 x24 x26 x29 h:=by
 rintro ρ rfl rfl rfl rfl rfl rfl rfl rfl rfl rfl rfl rfl rfl rfl
 exact WA.of (by kernel_rfl) H
def B_turnstonehand_Unit (C:Cfg)(Q:QP1)(a0:V)(h:Hp):Prop:=
 alP (hbox 24 a0) h fun v1 h1=>
 alP (some (.cells 29 1 true false [(V.int .i64 0),(V.int .i64 0),V.nilSlice,V.nilSlice,V.nilSlice],fun l=> .ptr l 0)) h1 fun v2 h2=>
 oP (pBuild [(V.int .i64 0),(V.int .i64 0),V.nilSlice,V.nilSlice,V.nilSlice] [(0,1),(1,1),(2,1),(3,1),(4,1)] [(0,(V.int .i64 1)),(1,(V.int .i64 2)),(4,V.nilSlice)]) fun v33=>
 alP (some (.cells 29 1 true false [(V.int .i64 0),(V.int .i64 0),V.nilSlice,V.nilSlice,V.nilSlice],fun l=> .ptr l 0)) h2 fun v3 h3=>
 valP (pSt 5 v3 v33 h3) fun vu h4=>
 oP (pFA 2 v1) fun v34=>
 oP (pLd v34 h4) fun v35=>
 cP C n_turnstonehand_Pick [v35,(V.int .i64 5)] h4 fun v36 h5=>
 alP (some (.cells 22 1 true false [V.nilSlice],fun l=> .ptr l 0)) h5 fun v5 h6=>
 oP (pBuild [V.nilSlice,(V.int .i64 0),(V.int .i64 0),V.nilSlice,V.nilSlice,(V.int .i64 0)] [(0,1),(1,1),(2,1),(3,1),(4,1),(5,1)] []) fun v37=>
 alP (some (.cells 36 1 true false [V.nilSlice,(V.int .i64 0),(V.int .i64 0),V.nilSlice,V.nilSlice,(V.int .i64 0)],fun l=> .ptr l 0)) h6 fun v6 h7=>
 valP (pSt 6 v6 v37 h7) fun vu_1 h8=>
 alP (some (.cells 54 1 true false [V.nilFunc],fun l=> .ptr l 0)) h8 fun v7 h9=>
 valP (pSt 1 v7 (V.func n_turnstonehand_Unit_1 [] [v3,v6]) h9) fun vu_2 h10=>
 J_turnstonehand_Unit_L0 C Q v1 v2 v3 v36 v5 v6 v7 (V.int .i64 0) h10
theorem c_turnstonehand_Unit {C:Cfg}(hs:C.start=startF){a0:V}{h:Hp}{Q:QP1}(hk:C.K n_turnstonehand_Unit [a0] h=none)(H:B_turnstonehand_Unit C Q a0 h):cP C n_turnstonehand_Unit [a0] h Q:=
 cP.vc (tb:=t8) hs (by unfold P0;exact Tryd.func8) (by kernel_rfl) hk (by kernel_rfl) (by kernel_rfl) H
end
end Go.Proofs.YtiepamfpilhcjaaDoor.Hx
