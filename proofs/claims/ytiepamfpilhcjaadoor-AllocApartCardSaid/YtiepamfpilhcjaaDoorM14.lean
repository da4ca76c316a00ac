/- Parts of the proof. -/
import Derived.Test.YtiepamfpilhcjaaDoorM10
namespace Go.Proofs.YtiepamfpilhcjaaDoor.Hx
abbrev n_turnstonelaw24_AllocApart:Nat:=5
abbrev n_turnstonehand_Unit:Nat:=8
abbrev n_turnstonelaw24_known:Nat:=10
abbrev n_turnstoneref14_Uses:Nat:=11
abbrev n_alloc_Right:Nat:=14
abbrev n_turnstonehand_Pick:Nat:=15
abbrev n_turnstonehand_Unit_1:Nat:=19
abbrev n_turnstonehand_Unit_2:Nat:=20
abbrev n_turnstonehand_Unit_3:Nat:=21
abbrev n_turnstonehand_Unit_4:Nat:=22
abbrev n_turnstonehand_Unit_5:Nat:=23
abbrev n_ssa_Check:Nat:=24
abbrev n_alloc_live:Nat:=25
abbrev n_alloc_liver_behind:Nat:=29
abbrev n_alloc_liver_head:Nat:=30
abbrev n_ssa_Order:Nat:=31
abbrev n_ssa_checker_all:Nat:=35
abbrev n_ssa_checker_state:Nat:=36
abbrev n_ssa_checker_stand:Nat:=37
abbrev n_ssa_checker_val:Nat:=38
abbrev n_ssa_checker_ends:Nat:=39
abbrev n_ssa_checker_led:Nat:=40
abbrev n_ssa_checker_order:Nat:=41
abbrev n_ssa_Dominators:Nat:=42
abbrev n_ssa_checker_taken:Nat:=43
abbrev n_alloc_liver_block:Nat:=44
abbrev n_alloc_liver_ahead:Nat:=45
abbrev n_ssa_below:Nat:=46
abbrev n_slices_Reverse_int_int:Nat:=47
abbrev n_ssa_checker_there:Nat:=50
abbrev n_ssa_Name:Nat:=51
abbrev n_ssa_Uses:Nat:=52
abbrev n_ssa_leaves:Nat:=53
abbrev n_slices_ContainsFunc_ssa_Val_ssa_Val:Nat:=54
abbrev n_ssa_checker_val_1:Nat:=55
abbrev n_ssa_Ahead:Nat:=56
abbrev n_slices_Equal_int_int:Nat:=57
abbrev n_ssa_Dominators_1:Nat:=58
abbrev n_ssa_checker_seen:Nat:=59
abbrev n_ssa_checker_seenState:Nat:=60
abbrev n_alloc_liver_end:Nat:=61
abbrev n_alloc_take:Nat:=62
abbrev n_alloc_liver_state:Nat:=63
abbrev n_ssa_parts:Nat:=67
abbrev n_slices_IndexFunc_ssa_Val_ssa_Val:Nat:=68
abbrev n_ssa_checker_dominates:Nat:=69
set_option maxRecDepth 100000
noncomputable section
def t15:List (Nat×List Nat):=[(30,[0])]
def J_turnstonehand_Pick_R3 (C:Cfg)(Q:QP1)(x0:V)(h:Hp):Prop:=∀ρ:Rho,ρ 0=x0→WA C Tryd.f15 t15 15 [] Q ρ h
def B_turnstonehand_Pick_R3 (C:Cfg)(Q:QP1)(x0:V)(h:Hp):Prop:=
 Q x0 h
theorem j_turnstonehand_Pick_R3 {C:Cfg}{Q:QP1}{x0:V}{h:Hp}(H:B_turnstonehand_Pick_R3 C Q x0 h):J_turnstonehand_Pick_R3 C Q x0 h:=by
 rintro ρ rfl
 exact WA.of (by kernel_rfl) H
def B_turnstonehand_Pick (C:Cfg)(Q:QP1)(a0 a1:V)(h:Hp):Prop:=
 oP (hbin .rem 3 a0 a1) fun v7=>
 oP (hbin .lss 3 v7 (V.int .i64 0)) fun v9=>
 bP v9 (
 oP (hbin .add 3 v7 a1) fun v12=>
 J_turnstonehand_Pick_R3 C Q v12 h) (
 J_turnstonehand_Pick_R3 C Q v7 h)
theorem c_turnstonehand_Pick {C:Cfg}(hs:C.start=startF){a0 a1:V}{h:Hp}{Q:QP1}(hk:C.K n_turnstonehand_Pick [a0,a1] h=none)(H:B_turnstonehand_Pick C Q a0 a1 h):cP C n_turnstonehand_Pick [a0,a1] h Q:=
 cP.vc (tb:=t15) hs (by unfold P0;exact Tryd.func15) (by kernel_rfl) hk (by kernel_rfl) (by kernel_rfl) H
def t67:List (Nat×List Nat):=[(106,[3,4]),(490,[18])]
def J_ssa_parts_R4 (C:Cfg)(Q:QP1)(x3 x4:V)(h:Hp):Prop:=∀ρ:Rho,ρ 3=x3→ρ 4=x4→WA C Tryd.f67 t67 53 [] Q ρ h
def J_ssa_parts_R9 (C:Cfg)(Q:QP1)(x18:V)(h:Hp):Prop:=∀ρ:Rho,ρ 18=x18→WA C Tryd.f67 t67 245 [] Q ρ h
def B_ssa_parts_R4 (C:Cfg)(Q:QP1)(x3 x4:V)(h:Hp):Prop:=
 bP x4 (
 Q (V.int .i64 2) h) (
 oP (hbin .eql 3 x3 (V.int .i64 8)) fun v19=>
 bP v19 (
 J_ssa_parts_R9 C Q v19 h) (
 oP (hbin .eql 3 x3 (V.int .i64 9)) fun v20=>
 bP v20 (
 J_ssa_parts_R9 C Q v20 h) (
 oP (hbin .eql 3 x3 (V.int .i64 15)) fun v21=>
 bP v21 (
 J_ssa_parts_R9 C Q v21 h) (
 oP (hbin .eql 3 x3 (V.int .i64 16)) fun v22=>
 bP v22 (
 J_ssa_parts_R9 C Q v22 h) (
 oP (hbin .eql 3 x3 (V.int .i64 17)) fun v23=>
 bP v23 (
 J_ssa_parts_R9 C Q v23 h) (
 oP (hbin .eql 3 x3 (V.int .i64 22)) fun v24=>
 J_ssa_parts_R9 C Q v24 h))))))
theorem j_ssa_parts_R4 {C:Cfg}{Q:QP1}{x3 x4:V}{h:Hp}(H:B_ssa_parts_R4 C Q x3 x4 h):J_ssa_parts_R4 C Q x3 x4 h:=by
 rintro ρ rfl rfl
 exact WA.of (by kernel_rfl) H
def B_ssa_parts_R9 (C:Cfg)(Q:QP1)(x18:V)(h:Hp):Prop:=
 bP x18 (
 Q (V.int .i64 1) h) (
 Q (V.int .i64 0) h)
theorem j_ssa_parts_R9 {C:Cfg}{Q:QP1}{x18:V}{h:Hp}(H:B_ssa_parts_R9 C Q x18 h):J_ssa_parts_R9 C Q x18 h:=by
 rintro ρ rfl
 exact WA.of (by kernel_rfl) H
def B_ssa_parts (C:Cfg)(Q:QP1)(a0:V)(h:Hp):Prop:=
 oP (hbin .eql 3 a0 (V.int .i64 3)) fun v5=>
 bP v5 (
 J_ssa_parts_R4 C Q a0 v5 h) (
 oP (hbin .eql 3 a0 (V.int .i64 4)) fun v6=>
 bP v6 (
 J_ssa_parts_R4 C Q a0 v6 h) (
 oP (hbin .eql 3 a0 (V.int .i64 5)) fun v7=>
 bP v7 (
 J_ssa_parts_R4 C Q a0 v7 h) (
 oP (hbin .eql 3 a0 (V.int .i64 6)) fun v8=>
 bP v8 (
 J_ssa_parts_R4 C Q a0 v8 h) (
 oP (hbin .eql 3 a0 (V.int .i64 7)) fun v9=>
 bP v9 (
 J_ssa_parts_R4 C Q a0 v9 h) (
 oP (hbin .eql 3 a0 (V.int .i64 10)) fun v10=>
 bP v10 (
 J_ssa_parts_R4 C Q a0 v10 h) (
 oP (hbin .eql 3 a0 (V.int .i64 11)) fun v11=>
 bP v11 (
 J_ssa_parts_R4 C Q a0 v11 h) (
 oP (hbin .eql 3 a0 (V.int .i64 12)) fun v12=>
 bP v12 (
 J_ssa_parts_R4 C Q a0 v12 h) (
 oP (hbin .eql 3 a0 (V.int .i64 13)) fun v13=>
 bP v13 (
 J_ssa_parts_R4 C Q a0 v13 h) (
 oP (hbin .eql 3 a0 (V.int .i64 14)) fun v14=>
 bP v14 (
 J_ssa_parts_R4 C Q a0 v14 h) (
 oP (hbin .eql 3 a0 (V.int .i64 18)) fun v15=>
 bP v15 (
 J_ssa_parts_R4 C Q a0 v15 h) (
 oP (hbin .eql 3 a0 (V.int .i64 19)) fun v16=>
 bP v16 (
 J_ssa_parts_R4 C Q a0 v16 h) (
 oP (hbin .eql 3 a0 (V.int .i64 20)) fun v17=>
 J_ssa_parts_R4 C Q a0 v17 h))))))))))))
theorem c_ssa_parts {C:Cfg}(hs:C.start=startF){a0:V}{h:Hp}{Q:QP1}(hk:C.K n_ssa_parts [a0] h=none)(H:B_ssa_parts C Q a0 h):cP C n_ssa_parts [a0] h Q:=
 cP.vc (tb:=t67) hs (by unfold P0;exact Tryd.func67) (by kernel_rfl) hk (by kernel_rfl) (by kernel_rfl) H
def t53:List (Nat×List Nat):=[]
def B_ssa_leaves (C:Cfg)(Q:QP1)(a0:V)(h:Hp):Prop:=
 oP (hbin .eql 3 a0 (V.int .i64 22)) fun v4=>
 oP (pOr v4 (oB (some a0) fun v6=>hbin .eql 3 v6 (V.int .i64 23))) fun v8=>
 Q v8 h
theorem c_ssa_leaves {C:Cfg}(hs:C.start=startF){a0:V}{h:Hp}{Q:QP1}(hk:C.K n_ssa_leaves [a0] h=none)(H:B_ssa_leaves C Q a0 h):cP C n_ssa_leaves [a0] h Q:=
 cP.vc (tb:=t53) hs (by unfold P0;exact Tryd.func53) (by kernel_rfl) hk (by kernel_rfl) (by kernel_rfl) H
def t46:List (Nat×List Nat):=[]
def B_ssa_below (C:Cfg)(Q:QP1)(a0 a1:V)(h:Hp):Prop:=
 oP (hbin .geq 3 a0 (V.int .i64 0)) fun v6=>
 oP (pAnd v6 (oB (some a0) fun v8=>oB (some a1) fun v9=>hbin .lss 3 v8 v9)) fun v11=>
 Q v11 h
theorem c_ssa_below {C:Cfg}(hs:C.start=startF){a0 a1:V}{h:Hp}{Q:QP1}(hk:C.K n_ssa_below [a0,a1] h=none)(H:B_ssa_below C Q a0 a1 h):cP C n_ssa_below [a0,a1] h Q:=
 cP.vc (tb:=t46) hs (by unfold P0;exact Tryd.func46) (by kernel_rfl) hk (by kernel_rfl) (by kernel_rfl) H
def t52:List (Nat×List Nat):=[(30,[3])]
def J_ssa_Uses_R3 (C:Cfg)(Q:QP1)(x3:V)(h:Hp):Prop:=∀ρ:Rho,ρ 3=x3→WA C Tryd.f52 t52 15 [] Q ρ h
def B_ssa_Uses_R3 (C:Cfg)(Q:QP1)(x3:V)(h:Hp):Prop:=
 Q x3 h
theorem j_ssa_Uses_R3 {C:Cfg}{Q:QP1}{x3:V}{h:Hp}(H:B_ssa_Uses_R3 C Q x3 h):J_ssa_Uses_R3 C Q x3 h:=by
 rintro ρ rfl
 exact WA.of (by kernel_rfl) H
def B_ssa_Uses (C:Cfg)(Q:QP1)(a0:V)(h:Hp):Prop:=
 alP (hbox 39 a0) h fun v1 h1=>
 alO (pBS 3 1 0 (V.int .i64 0) []) h1 fun o0 v4 h2=>
 oP (pFA 1 v1) fun v5=>
 oP (pLd v5 h2) fun v6=>
 oP (pFA 2 v1) fun v7=>
 oP (pLd v7 h2) fun v8=>
 alO (pBS 3 1 2 (V.int .i64 0) [(0,v6),(1,v8)]) h2 fun o5 v9 h3=>
 oP (pFA 0 v1) fun v10=>
 oP (pLd v10 h3) fun v11=>
 ((h3.get (h2.next)=some o5∧O.beq o5 o5=true)∧
 ((pLd v7 h3=some v8)∧
 ((pLd v5 h3=some v6)∧
 ((h3.get (h1.next)=some o0∧O.beq o0 o0=true)∧
 cP C n_ssa_parts [v11] h3 fun v12 h4=>
 (h3.next≤h4.next∧
 oP (hsliceV 1 v9 none (some v12) h4) fun v13=>
 ((h4.get (h2.next)=some o5∧O.beq o5 o5=true)∧
 ((pLd v7 h4=some v8)∧
 ((pLd v5 h4=some v6)∧
 ((h4.get (h1.next)=some o0∧O.beq o0 o0=true)∧
 valP (happend 3 1 8 v4 v13 h4) fun v14 h5=>
 (h4.next≤h5.next∧
 oP (pFA 0 v1) fun v15=>
 oP (pLd v15 h5) fun v16=>
 oP (hbin .eql 3 v16 (V.int .i64 20)) fun v18=>
 bP v18 (
 oP (pFA 4 v1) fun v20=>
 oP (pLd v20 h5) fun v21=>
 oP (pFA 4 v1) fun v22=>
 oP (pLd v22 h5) fun v23=>
 oP (pLen v23) fun v24=>
 oP (hmin false (V.int .i64 1) [v24]) fun v25=>
 oP (hsliceV 1 v21 none (some v25) h5) fun v26=>
 valP (happend 3 1 8 v14 v26 h5) fun v27 h6=>
 J_ssa_Uses_R3 C Q v27 h6) (
 oP (hbin .eql 3 v16 (V.int .i64 21)) fun v29=>
 bP v29 (
 oP (pFA 4 v1) fun v31=>
 oP (pLd v31 h5) fun v32=>
 valP (happend 3 1 8 v14 v32 h5) fun v33 h7=>
 J_ssa_Uses_R3 C Q v33 h7) (
 J_ssa_Uses_R3 C Q v14 h5))))))))))))
theorem c_ssa_Uses {C:Cfg}(hs:C.start=startF){a0:V}{h:Hp}{Q:QP1}(hk:C.K n_ssa_Uses [a0] h=none)(H:B_ssa_Uses C Q a0 h):cP C n_ssa_Uses [a0] h Q:=
 cP.vc (tb:=t52) hs (by unfold P0;exact Tryd.func52) (by kernel_rfl) hk (by kernel_rfl) (by kernel_rfl) H
def t11:List (Nat×List Nat):=[(106,[1,4,5]),(490,[1,4,23])]
def J_turnstoneref14_Uses_R4 (C:Cfg)(Q:QP1)(x1 x4 x5:V)(h:Hp):Prop:=∀ρ:Rho,ρ 1=x1→ρ 4=x4→ρ 5=x5→WA C Tryd.f11 t11 53 [] Q ρ h
def J_turnstoneref14_Uses_R9 (C:Cfg)(Q:QP1)(x1 x4 x23:V)(h:Hp):Prop:=∀ρ:Rho,ρ 1=x1→ρ 4=x4→ρ 23=x23→WA C Tryd.f11 t11 245 [] Q ρ h
def B_turnstoneref14_Uses_R4 (C:Cfg)(Q:QP1)(x1 x4 x5:V)(h:Hp):Prop:=
 bP x5 (
 oP (pFA 1 x1) fun v18=>
 oP (pLd v18 h) fun v19=>
 oP (pFA 2 x1) fun v20=>
 oP (pLd v20 h) fun v21=>
 alP (pBS 3 1 2 (V.int .i64 0) [(0,v19),(1,v21)]) h fun v22 h1=>
 Q v22 h1) (
 oP (hbin .eql 3 x4 (V.int .i64 8)) fun v24=>
 bP v24 (
 J_turnstoneref14_Uses_R9 C Q x1 x4 v24 h) (
 oP (hbin .eql 3 x4 (V.int .i64 9)) fun v25=>
 bP v25 (
 J_turnstoneref14_Uses_R9 C Q x1 x4 v25 h) (
 oP (hbin .eql 3 x4 (V.int .i64 15)) fun v26=>
 bP v26 (
 J_turnstoneref14_Uses_R9 C Q x1 x4 v26 h) (
 oP (hbin .eql 3 x4 (V.int .i64 16)) fun v27=>
 bP v27 (
 J_turnstoneref14_Uses_R9 C Q x1 x4 v27 h) (
 oP (hbin .eql 3 x4 (V.int .i64 17)) fun v28=>
 bP v28 (
 J_turnstoneref14_Uses_R9 C Q x1 x4 v28 h) (
 oP (hbin .eql 3 x4 (V.int .i64 22)) fun v29=>
 J_turnstoneref14_Uses_R9 C Q x1 x4 v29 h))))))
theorem j_turnstoneref14_Uses_R4 {C:Cfg}{Q:QP1}{x1 x4 x5:V}{h:Hp}(H:B_turnstoneref14_Uses_R4 C Q x1 x4 x5 h):J_turnstoneref14_Uses_R4 C Q x1 x4 x5 h:=by
 rintro ρ rfl rfl rfl
 exact WA.of (by kernel_rfl) H
def B_turnstoneref14_Uses_R9 (C:Cfg)(Q:QP1)(x1 x4 x23:V)(h:Hp):Prop:=
 bP x23 (
 oP (pFA 1 x1) fun v30=>
 oP (pLd v30 h) fun v31=>
 alP (pBS 3 1 1 (V.int .i64 0) [(0,v31)]) h fun v32 h1=>
 Q v32 h1) (
 oP (hbin .eql 3 x4 (V.int .i64 20)) fun v34=>
 bP v34 (
 oP (pFA 4 x1) fun v35=>
 oP (pLd v35 h) fun v36=>
 oP (pLen v36) fun v37=>
 oP (hbin .eql 3 v37 (V.int .i64 0)) fun v38=>
 bP v38 (
 oP (pFA 1 x1) fun v39=>
 oP (pLd v39 h) fun v40=>
 oP (pFA 2 x1) fun v41=>
 oP (pLd v41 h) fun v42=>
 alP (pBS 3 1 2 (V.int .i64 0) [(0,v40),(1,v42)]) h fun v43 h2=>
 Q v43 h2) (
 oP (pFA 1 x1) fun v44=>
 oP (pLd v44 h) fun v45=>
 oP (pFA 2 x1) fun v46=>
 oP (pLd v46 h) fun v47=>
 oP (pFA 4 x1) fun v48=>
 oP (pLd v48 h) fun v49=>
 oP (pIx 1 v49 (V.int .i64 0)) fun v50=>
 oP (pLd v50 h) fun v51=>
 alO (pBS 3 1 3 (V.int .i64 0) [(0,v45),(1,v47),(2,v51)]) h fun o8 v52 h3=>
 ((h3.get (h.next)=some o8∧O.beq o8 o8=true)∧
 ((pLd v50 h3=some v51)∧
 ((pLd v48 h3=some v49)∧
 ((pLd v46 h3=some v47)∧
 ((pLd v44 h3=some v45)∧
 Q v52 h3))))))) (
 oP (hbin .eql 3 x4 (V.int .i64 21)) fun v54=>
 bP v54 (
 oP (pFA 4 x1) fun v55=>
 oP (pLd v55 h) fun v56=>
 Q v56 h) (
 Q V.nilSlice h)))
theorem j_turnstoneref14_Uses_R9 {C:Cfg}{Q:QP1}{x1 x4 x23:V}{h:Hp}(H:B_turnstoneref14_Uses_R9 C Q x1 x4 x23 h):J_turnstoneref14_Uses_R9 C Q x1 x4 x23 h:=by
 rintro ρ rfl rfl rfl
 exact WA.of (by kernel_rfl) H
def B_turnstoneref14_Uses (C:Cfg)(Q:QP1)(a0:V)(h:Hp):Prop:=
 alP (hbox 39 a0) h fun v1 h1=>
 oP (pFA 0 v1) fun v3=>
 oP (pLd v3 h1) fun v4=>
 oP (hbin .eql 3 v4 (V.int .i64 3)) fun v6=>
 bP v6 (
 J_turnstoneref14_Uses_R4 C Q v1 v4 v6 h1) (
 oP (hbin .eql 3 v4 (V.int .i64 4)) fun v7=>
 bP v7 (
 J_turnstoneref14_Uses_R4 C Q v1 v4 v7 h1) (
 oP (hbin .eql 3 v4 (V.int .i64 5)) fun v8=>
 bP v8 (
 J_turnstoneref14_Uses_R4 C Q v1 v4 v8 h1) (
 oP (hbin .eql 3 v4 (V.int .i64 6)) fun v9=>
 bP v9 (
 J_turnstoneref14_Uses_R4 C Q v1 v4 v9 h1) (
 oP (hbin .eql 3 v4 (V.int .i64 7)) fun v10=>
 bP v10 (
 J_turnstoneref14_Uses_R4 C Q v1 v4 v10 h1) (
 oP (hbin .eql 3 v4 (V.int .i64 10)) fun v11=>
 bP v11 (
 J_turnstoneref14_Uses_R4 C Q v1 v4 v11 h1) (
 oP (hbin .eql 3 v4 (V.int .i64 11)) fun v12=>
 bP v12 (
 J_turnstoneref14_Uses_R4 C Q v1 v4 v12 h1) (
 oP (hbin .eql 3 v4 (V.int .i64 12)) fun v13=>
 bP v13 (
 J_turnstoneref14_Uses_R4 C Q v1 v4 v13 h1) (
 oP (hbin .eql 3 v4 (V.int .i64 13)) fun v14=>
 bP v14 (
 J_turnstoneref14_Uses_R4 C Q v1 v4 v14 h1) (
 oP (hbin .eql 3 v4 (V.int .i64 14)) fun v15=>
 bP v15 (
 J_turnstoneref14_Uses_R4 C Q v1 v4 v15 h1) (
 oP (hbin .eql 3 v4 (V.int .i64 18)) fun v16=>
 bP v16 (
 J_turnstoneref14_Uses_R4 C Q v1 v4 v16 h1) (
 oP (hbin .eql 3 v4 (V.int .i64 19)) fun v17=>
 J_turnstoneref14_Uses_R4 C Q v1 v4 v17 h1)))))))))))
theorem c_turnstoneref14_Uses {C:Cfg}(hs:C.start=startF){a0:V}{h:Hp}{Q:QP1}(hk:C.K n_turnstoneref14_Uses [a0] h=none)(H:B_turnstoneref14_Uses C Q a0 h):cP C n_turnstoneref14_Uses [a0] h Q:=
 cP.vc (tb:=t11) hs (by unfold P0;exact Tryd.func11) (by kernel_rfl) hk (by kernel_rfl) (by kernel_rfl) H
def t57:List (Nat×List Nat):=[(87,[0,1,12,13])]
def J_slices_Equal_int_int_L0 (C:Cfg)(Q:QP1)(x0 x1 x12 x13:V)(h:Hp):Prop:=∀ρ:Rho,ρ 0=x0→ρ 1=x1→ρ 12=x12→ρ 13=x13→WA C Tryd.f57 t57 43 [] Q ρ h
def B_slices_Equal_int_int_L0 (C:Cfg)(Q:QP1)(KL0:QP4)(x0 x1 x12 x13:V)(h:Hp):Prop:=
 oP (hbin .lss 3 x13 x12) fun v14=>
 bP v14 (
 oP (pIx 1 x0 x13) fun v18=>
 oP (pLd v18 h) fun v19=>
 oP (pIx 1 x1 x13) fun v22=>
 oP (pLd v22 h) fun v23=>
 oP (hbin .neq 3 v19 v23) fun v24=>
 bP v24 (
 Q (V.bool false) h) (
 oP (hbin .add 3 x13 (V.int .i64 1)) fun v25=>
 KL0 x0 x1 x12 v25 h)) (
 Q (V.bool true) h)
theorem l_slices_Equal_int_int_L0 {C:Cfg}{Q:QP1}(I:Nat→QP4)(step:∀(k:Nat)(x0 x1 x12 x13:V)(h:Hp),I k x0 x1 x12 x13 h→B_slices_Equal_int_int_L0 C Q (fun x0 x1 x12 x13 h=>∃k',k' < k∧I k' x0 x1 x12 x13 h) x0 x1 x12 x13 h){k:Nat}{x0 x1 x12 x13:V}{h:Hp}(h0:I k x0 x1 x12 x13 h):J_slices_Equal_int_int_L0 C Q x0 x1 x12 x13 h:=by
 rintro ρ rfl rfl rfl rfl
 exact WA.loop (fun k ρ h=>I k (ρ 0) (ρ 1) (ρ 12) (ρ 13) h) (by kernel_rfl) (by kernel_rfl) (fun k ρ h hi=>LA.of (by kernel_rfl) (step k (ρ 0) (ρ 1) (ρ 12) (ρ 13) h hi)) h0
def B_slices_Equal_int_int (C:Cfg)(Q:QP1)(a0 a1:V)(h:Hp):Prop:=
 oP (pLen a0) fun v7=>
 oP (pLen a1) fun v9=>
 oP (hbin .neq 3 v7 v9) fun v10=>
 bP v10 (
 Q (V.bool false) h) (
 oP (pLen a0) fun v12=>
 J_slices_Equal_int_int_L0 C Q a0 a1 v12 (V.int .i64 0) h)
theorem c_slices_Equal_int_int {C:Cfg}(hs:C.start=startF){a0 a1:V}{h:Hp}{Q:QP1}(hk:C.K n_slices_Equal_int_int [a0,a1] h=none)(H:B_slices_Equal_int_int C Q a0 a1 h):cP C n_slices_Equal_int_int [a0,a1] h Q:=
 cP.vc (tb:=t57) hs (by unfold P0;exact Tryd.func57) (by kernel_rfl) hk (by kernel_rfl) (by kernel_rfl) H
def t54:List (Nat×List Nat):=[]
def B_slices_ContainsFunc_ssa_Val_ssa_Val (C:Cfg)(Q:QP1)(a0 a1:V)(h:Hp):Prop:=
 cP C n_slices_IndexFunc_ssa_Val_ssa_Val [a0,a1] h fun v7 h1=>
 oP (hbin .geq 3 v7 (V.int .i64 0)) fun v8=>
 Q v8 h1
theorem c_slices_ContainsFunc_ssa_Val_ssa_Val {C:Cfg}(hs:C.start=startF){a0 a1:V}{h:Hp}{Q:QP1}(hk:C.K n_slices_ContainsFunc_ssa_Val_ssa_Val [a0,a1] h=none)(H:B_slices_ContainsFunc_ssa_Val_ssa_Val C Q a0 a1 h):cP C n_slices_ContainsFunc_ssa_Val_ssa_Val [a0,a1] h Q:=
 cP.vc (tb:=t54) hs (by unfold P0;exact Tryd.func54) (by kernel_rfl) hk (by kernel_rfl) (by kernel_rfl) H
def t68:List (Nat×List Nat):=[(43,[0,1,7,8])]
def J_slices_IndexFunc_ssa_Val_ssa_Val_L0 (C:Cfg)(Q:QP1)(x0 x1 x7 x8:V)(h:Hp):Prop:=∀ρ:Rho,ρ 0=x0→ρ 1=x1→ρ 7=x7→ρ 8=x8→WA C Tryd.f68 t68 21 [] Q ρ h
def B_slices_IndexFunc_ssa_Val_ssa_Val_L0 (C:Cfg)(Q:QP1)(KL0:QP4)(x0 x1 x7 x8:V)(h:Hp):Prop:=
 oP (hbin .lss 3 x8 x7) fun v9=>
 bP v9 (
 oP (pIx 6 x0 x8) fun v14=>
 oP (pLdA 6 v14 h) fun v15=>
 calP C (hcall x1 [v15]) h fun v16 h1=>
 bP v16 (
 Q x8 h1) (
 oP (hbin .add 3 x8 (V.int .i64 1)) fun v18=>
 KL0 x0 x1 x7 v18 h1)) (
 Q (V.int .i64 (-1)) h)
theorem l_slices_IndexFunc_ssa_Val_ssa_Val_L0 {C:Cfg}{Q:QP1}(I:Nat→QP4)(step:∀(k:Nat)(x0 x1 x7 x8:V)(h:Hp),I k x0 x1 x7 x8 h→B_slices_IndexFunc_ssa_Val_ssa_Val_L0 C Q (fun x0 x1 x7 x8 h=>∃k',k' < k∧I k' x0 x1 x7 x8 h) x0 x1 x7 x8 h){k:Nat}{x0 x1 x7 x8:V}{h:Hp}(h0:I k x0 x1 x7 x8 h):J_slices_IndexFunc_ssa_Val_ssa_Val_L0 C Q x0 x1 x7 x8 h:=by
 rintro ρ rfl rfl rfl rfl
 exact WA.loop (fun k ρ h=>I k (ρ 0) (ρ 1) (ρ 7) (ρ 8) h) (by kernel_rfl) (by kernel_rfl) (fun k ρ h hi=>LA.of (by kernel_rfl) (step k (ρ 0) (ρ 1) (ρ 7) (ρ 8) h hi)) h0
def B_slices_IndexFunc_ssa_Val_ssa_Val (C:Cfg)(Q:QP1)(a0 a1:V)(h:Hp):Prop:=
 oP (pLen a0) fun v7=>
 J_slices_IndexFunc_ssa_Val_ssa_Val_L0 C Q a0 a1 v7 (V.int .i64 0) h
theorem c_slices_IndexFunc_ssa_Val_ssa_Val {C:Cfg}(hs:C.start=startF){a0 a1:V}{h:Hp}{Q:QP1}(hk:C.K n_slices_IndexFunc_ssa_Val_ssa_Val [a0,a1] h=none)(H:B_slices_IndexFunc_ssa_Val_ssa_Val C Q a0 a1 h):cP C n_slices_IndexFunc_ssa_Val_ssa_Val [a0,a1] h Q:=
 cP.vc (tb:=t68) hs (by unfold P0;exact Tryd.func68) (by kernel_rfl) hk (by kernel_rfl) (by kernel_rfl) H
def t55:List (Nat×List Nat):=[]
def B_ssa_checker_val_1 (C:Cfg)(Q:QP1)(a0 a1:V)(h:Hp):Prop:=
 alP (hbox 39 a0) h fun v2 h1=>
 oP (pFA 0 v2) fun v4=>
 oP (pLd v4 h1) fun v5=>
 oP (hbin .eql 3 v5 (V.int .i64 1)) fun v6=>
 oP (pAnd v6 (oB (pFA 3 v2) fun v8=>oB (pLd v8 h1) fun v9=>oB (pFA 3 a1) fun v10=>oB (pLd v10 h1) fun v11=>hbin .eql 2 v9 v11)) fun v13=>
 Q v13 h1
theorem c_ssa_checker_val_1 {C:Cfg}(hs:C.start=startF){a0 a1:V}{h:Hp}{Q:QP1}(hk:C.K n_ssa_checker_val_1 [a0,a1] h=none)(H:B_ssa_checker_val_1 C Q a0 a1 h):cP C n_ssa_checker_val_1 [a0,a1] h Q:=
 cP.vc (tb:=t55) hs (by unfold P0;exact Tryd.func55) (by kernel_rfl) hk (by kernel_rfl) (by kernel_rfl) H
def t47:List (Nat×List Nat):=[(11,[0,2,3])]
def J_slices_Reverse_int_int_L0 (C:Cfg)(Q:QP1)(x0 x2 x3:V)(h:Hp):Prop:=∀ρ:Rho,ρ 0=x0→ρ 2=x2→ρ 3=x3→WA C Tryd.f47 t47 5 [] Q ρ h
def B_slices_Reverse_int_int_L0 (C:Cfg)(Q:QP1)(KL0:QP3)(x0 x2 x3:V)(h:Hp):Prop:=
 oP (hbin .lss 3 x2 x3) fun v9=>
 bP v9 (
 oP (pIx 1 x0 x3) fun v20=>
 oP (pLd v20 h) fun v21=>
 oP (pIx 1 x0 x2) fun v24=>
 oP (pLd v24 h) fun v25=>
 oP (pIx 1 x0 x2) fun v26=>
 valP (pSt 1 v26 v21 h) fun vu h1=>
 (h.next≤h1.next∧
 oP (pIx 1 x0 x3) fun v27=>
 valP (pSt 1 v27 v25 h1) fun vu_1 h2=>
 (h1.next≤h2.next∧
 oP (hbin .add 3 x2 (V.int .i64 1)) fun v11=>
 oP (hbin .sub 3 x3 (V.int .i64 1)) fun v13=>
 KL0 x0 v11 v13 h2))) (
 Q (V.tuple []) h)
theorem l_slices_Reverse_int_int_L0 {C:Cfg}{Q:QP1}(I:Nat→QP3)(step:∀(k:Nat)(x0 x2 x3:V)(h:Hp),I k x0 x2 x3 h→B_slices_Reverse_int_int_L0 C Q (fun x0 x2 x3 h=>∃k',k' < k∧I k' x0 x2 x3 h) x0 x2 x3 h){k:Nat}{x0 x2 x3:V}{h:Hp}(h0:I k x0 x2 x3 h):J_slices_Reverse_int_int_L0 C Q x0 x2 x3 h:=by
 rintro ρ rfl rfl rfl
 exact WA.loop (fun k ρ h=>I k (ρ 0) (ρ 2) (ρ 3) h) (by kernel_rfl) (by kernel_rfl) (fun k ρ h hi=>LA.of (by kernel_rfl) (step k (ρ 0) (ρ 2) (ρ 3) h hi)) h0
def B_slices_Reverse_int_int (C:Cfg)(Q:QP1)(a0:V)(h:Hp):Prop:=
 oP (pLen a0) fun v5=>
 oP (hbin .sub 3 v5 (V.int .i64 1)) fun v6=>
 J_slices_Reverse_int_int_L0 C Q a0 (V.int .i64 0) v6 h
theorem c_slices_Reverse_int_int {C:Cfg}(hs:C.start=startF){a0:V}{h:Hp}{Q:QP1}(hk:C.K n_slices_Reverse_int_int [a0] h=none)(H:B_slices_Reverse_int_int C Q a0 h):cP C n_slices_Reverse_int_int [a0] h Q:=
 cP.vc (tb:=t47) hs (by unfold P0;exact Tryd.func47) (by kernel_rfl) hk (by kernel_rfl) (by kernel_rfl) H
end
end Go.Proofs.YtiepamfpilhcjaaDoor.Hx
