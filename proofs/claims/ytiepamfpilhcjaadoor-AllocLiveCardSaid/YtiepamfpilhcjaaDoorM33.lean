/- Parts of the proof. -/
import Derived.Test.YtiepamfpilhcjaaDoorM14
namespace Go.Proofs.YtiepamfpilhcjaaDoor.Hx
set_option maxRecDepth 100000
noncomputable section
def t12:List (Nat×List Nat):=[(351,[1,2,3,4,5]),(703,[1,2,3,4,6]),(46271,[1,2,3,4,6,7]),(22623423,[1,2,3,4,6,7,8,9,10]),(5676545215,[1,2,3,4,6,7,8,9,10,11,12]),(45692095,[1,2,3,4,6,7,8,9,15]),(12655867071,[1,2,3,4,6,7,8,9,10,13,14]),(5984826559,[1,2,3,4,6,7,8,9,15,16,17]),(33109182,[1,2,3,4,6,7,8,9]),(353877177535,[1,2,3,4,6,7,8,9,15,16,17,18]),(66663614,[1,2,3,4,6,7,8,9]),(3927289967806,[1,2,3,4,6,7,8,9,15,16,17,18]),(737752255,[1,2,3,4,6,7,8,9,19,20]),(267990206,[1,2,3,4,6,7,8,19]),(7717074110,[1,2,3,4,6,7,8,9,19,20]),(1475949759,[1,2,3,4,6,7,8,19,22]),(15434593470,[1,2,3,4,6,7,8,19,22])]
def J_turnstoneref14_Live_L0 (C:Cfg)(Q:QP1)(x1 x2 x3 x4 x5:V)(h:Hp):Prop:=∀ρ:Rho,ρ 1=x1→ρ 2=x2→ρ 3=x3→ρ 4=x4→ρ 5=x5→WA C Tryd.f12 t12 175 [] Q ρ h
def J_turnstoneref14_Live_L1 (C:Cfg)(Q:QP1)(x1 x2 x3 x4 x6:V)(h:Hp):Prop:=∀ρ:Rho,ρ 1=x1→ρ 2=x2→ρ 3=x3→ρ 4=x4→ρ 6=x6→WA C Tryd.f12 t12 351 [] Q ρ h
def J_turnstoneref14_Live_L2 (C:Cfg)(Q:QP1)(KL1:QP5)(x1 x2 x3 x4 x6 x7:V)(h:Hp):Prop:=∀ρ:Rho,ρ 1=x1→ρ 2=x2→ρ 3=x3→ρ 4=x4→ρ 6=x6→ρ 7=x7→WA C Tryd.f12 t12 23135 [fun ρ h=>KL1 (ρ 1) (ρ 2) (ρ 3) (ρ 4) (ρ 6) h] Q ρ h
def J_turnstoneref14_Live_L3 (C:Cfg)(Q:QP1)(KL1:QP5)(KL2:QP6)(x1 x2 x3 x4 x6 x7 x8 x9 x10:V)(h:Hp):Prop:=∀ρ:Rho,ρ 1=x1→ρ 2=x2→ρ 3=x3→ρ 4=x4→ρ 6=x6→ρ 7=x7→ρ 8=x8→ρ 9=x9→ρ 10=x10→WA C Tryd.f12 t12 11311711 [fun ρ h=>KL1 (ρ 1) (ρ 2) (ρ 3) (ρ 4) (ρ 6) h,fun ρ h=>KL2 (ρ 1) (ρ 2) (ρ 3) (ρ 4) (ρ 6) (ρ 7) h] Q ρ h
def J_turnstoneref14_Live_L5 (C:Cfg)(Q:QP1)(KL1:QP5)(KL2:QP6)(KL3:QP9)(x1 x2 x3 x4 x6 x7 x8 x9 x10 x11 x12:V)(h:Hp):Prop:=∀ρ:Rho,ρ 1=x1→ρ 2=x2→ρ 3=x3→ρ 4=x4→ρ 6=x6→ρ 7=x7→ρ 8=x8→ρ 9=x9→ρ 10=x10→ρ 11=x11→ρ 12=x12→WA C Tryd.f12 t12 2838272607 [fun ρ h=>KL1 (ρ 1) (ρ 2) (ρ 3) (ρ 4) (ρ 6) h,fun ρ h=>KL2 (ρ 1) (ρ 2) (ρ 3) (ρ 4) (ρ 6) (ρ 7) h,fun ρ h=>KL3 (ρ 1) (ρ 2) (ρ 3) (ρ 4) (ρ 6) (ρ 7) (ρ 8) (ρ 9) (ρ 10) h] Q ρ h
def J_turnstoneref14_Live_L4 (C:Cfg)(Q:QP1)(KL1:QP5)(KL2:QP6)(x1 x2 x3 x4 x6 x7 x8 x9 x15:V)(h:Hp):Prop:=∀ρ:Rho,ρ 1=x1→ρ 2=x2→ρ 3=x3→ρ 4=x4→ρ 6=x6→ρ 7=x7→ρ 8=x8→ρ 9=x9→ρ 15=x15→WA C Tryd.f12 t12 22846047 [fun ρ h=>KL1 (ρ 1) (ρ 2) (ρ 3) (ρ 4) (ρ 6) h,fun ρ h=>KL2 (ρ 1) (ρ 2) (ρ 3) (ρ 4) (ρ 6) (ρ 7) h] Q ρ h
def J_turnstoneref14_Live_L8 (C:Cfg)(Q:QP1)(KL1:QP5)(KL2:QP6)(KL3:QP9)(x1 x2 x3 x4 x6 x7 x8 x9 x10 x13 x14:V)(h:Hp):Prop:=∀ρ:Rho,ρ 1=x1→ρ 2=x2→ρ 3=x3→ρ 4=x4→ρ 6=x6→ρ 7=x7→ρ 8=x8→ρ 9=x9→ρ 10=x10→ρ 13=x13→ρ 14=x14→WA C Tryd.f12 t12 6327933535 [fun ρ h=>KL1 (ρ 1) (ρ 2) (ρ 3) (ρ 4) (ρ 6) h,fun ρ h=>KL2 (ρ 1) (ρ 2) (ρ 3) (ρ 4) (ρ 6) (ρ 7) h,fun ρ h=>KL3 (ρ 1) (ρ 2) (ρ 3) (ρ 4) (ρ 6) (ρ 7) (ρ 8) (ρ 9) (ρ 10) h] Q ρ h
def J_turnstoneref14_Live_L6 (C:Cfg)(Q:QP1)(KL1:QP5)(KL2:QP6)(KL4:QP9)(x1 x2 x3 x4 x6 x7 x8 x9 x15 x16 x17:V)(h:Hp):Prop:=∀ρ:Rho,ρ 1=x1→ρ 2=x2→ρ 3=x3→ρ 4=x4→ρ 6=x6→ρ 7=x7→ρ 8=x8→ρ 9=x9→ρ 15=x15→ρ 16=x16→ρ 17=x17→WA C Tryd.f12 t12 2992413279 [fun ρ h=>KL1 (ρ 1) (ρ 2) (ρ 3) (ρ 4) (ρ 6) h,fun ρ h=>KL2 (ρ 1) (ρ 2) (ρ 3) (ρ 4) (ρ 6) (ρ 7) h,fun ρ h=>KL4 (ρ 1) (ρ 2) (ρ 3) (ρ 4) (ρ 6) (ρ 7) (ρ 8) (ρ 9) (ρ 15) h] Q ρ h
def J_turnstoneref14_Live_R29 (C:Cfg)(Q:QP1)(KL1:QP5)(KL2:QP6)(x1 x2 x3 x4 x6 x7 x8 x9:V)(h:Hp):Prop:=∀ρ:Rho,ρ 1=x1→ρ 2=x2→ρ 3=x3→ρ 4=x4→ρ 6=x6→ρ 7=x7→ρ 8=x8→ρ 9=x9→WA C Tryd.f12 t12 16554591 [fun ρ h=>KL1 (ρ 1) (ρ 2) (ρ 3) (ρ 4) (ρ 6) h,fun ρ h=>KL2 (ρ 1) (ρ 2) (ρ 3) (ρ 4) (ρ 6) (ρ 7) h] Q ρ h
def J_turnstoneref14_Live_L10 (C:Cfg)(Q:QP1)(KL1:QP5)(KL2:QP6)(KL4:QP9)(KL6:QP11)(x1 x2 x3 x4 x6 x7 x8 x9 x15 x16 x17 x18:V)(h:Hp):Prop:=∀ρ:Rho,ρ 1=x1→ρ 2=x2→ρ 3=x3→ρ 4=x4→ρ 6=x6→ρ 7=x7→ρ 8=x8→ρ 9=x9→ρ 15=x15→ρ 16=x16→ρ 17=x17→ρ 18=x18→WA C Tryd.f12 t12 176938588767 [fun ρ h=>KL1 (ρ 1) (ρ 2) (ρ 3) (ρ 4) (ρ 6) h,fun ρ h=>KL2 (ρ 1) (ρ 2) (ρ 3) (ρ 4) (ρ 6) (ρ 7) h,fun ρ h=>KL4 (ρ 1) (ρ 2) (ρ 3) (ρ 4) (ρ 6) (ρ 7) (ρ 8) (ρ 9) (ρ 15) h,fun ρ h=>KL6 (ρ 1) (ρ 2) (ρ 3) (ρ 4) (ρ 6) (ρ 7) (ρ 8) (ρ 9) (ρ 15) (ρ 16) (ρ 17) h] Q ρ h
def J_turnstoneref14_Live_R35 (C:Cfg)(Q:QP1)(KL1:QP5)(KL2:QP6)(x1 x2 x3 x4 x6 x7 x8 x9:V)(h:Hp):Prop:=∀ρ:Rho,ρ 1=x1→ρ 2=x2→ρ 3=x3→ρ 4=x4→ρ 6=x6→ρ 7=x7→ρ 8=x8→ρ 9=x9→WA C Tryd.f12 t12 33331807 [fun ρ h=>KL1 (ρ 1) (ρ 2) (ρ 3) (ρ 4) (ρ 6) h,fun ρ h=>KL2 (ρ 1) (ρ 2) (ρ 3) (ρ 4) (ρ 6) (ρ 7) h] Q ρ h
def J_turnstoneref14_Live_R73 (C:Cfg)(Q:QP1)(KL1:QP5)(KL2:QP6)(KL4:QP9)(KL6:QP11)(KL10:QP12)(x1 x2 x3 x4 x6 x7 x8 x9 x15 x16 x17 x18:V)(h:Hp):Prop:=∀ρ:Rho,ρ 1=x1→ρ 2=x2→ρ 3=x3→ρ 4=x4→ρ 6=x6→ρ 7=x7→ρ 8=x8→ρ 9=x9→ρ 15=x15→ρ 16=x16→ρ 17=x17→ρ 18=x18→WA C Tryd.f12 t12 1963644983903 [fun ρ h=>KL1 (ρ 1) (ρ 2) (ρ 3) (ρ 4) (ρ 6) h,fun ρ h=>KL2 (ρ 1) (ρ 2) (ρ 3) (ρ 4) (ρ 6) (ρ 7) h,fun ρ h=>KL4 (ρ 1) (ρ 2) (ρ 3) (ρ 4) (ρ 6) (ρ 7) (ρ 8) (ρ 9) (ρ 15) h,fun ρ h=>KL6 (ρ 1) (ρ 2) (ρ 3) (ρ 4) (ρ 6) (ρ 7) (ρ 8) (ρ 9) (ρ 15) (ρ 16) (ρ 17) h,fun ρ h=>KL10 (ρ 1) (ρ 2) (ρ 3) (ρ 4) (ρ 6) (ρ 7) (ρ 8) (ρ 9) (ρ 15) (ρ 16) (ρ 17) (ρ 18) h] Q ρ h
def J_turnstoneref14_Live_L7 (C:Cfg)(Q:QP1)(KL1:QP5)(KL2:QP6)(x1 x2 x3 x4 x6 x7 x8 x9 x19 x20:V)(h:Hp):Prop:=∀ρ:Rho,ρ 1=x1→ρ 2=x2→ρ 3=x3→ρ 4=x4→ρ 6=x6→ρ 7=x7→ρ 8=x8→ρ 9=x9→ρ 19=x19→ρ 20=x20→WA C Tryd.f12 t12 368876127 [fun ρ h=>KL1 (ρ 1) (ρ 2) (ρ 3) (ρ 4) (ρ 6) h,fun ρ h=>KL2 (ρ 1) (ρ 2) (ρ 3) (ρ 4) (ρ 6) (ρ 7) h] Q ρ h
def J_turnstoneref14_Live_R44 (C:Cfg)(Q:QP1)(KL1:QP5)(KL2:QP6)(x1 x2 x3 x4 x6 x7 x8 x19:V)(h:Hp):Prop:=∀ρ:Rho,ρ 1=x1→ρ 2=x2→ρ 3=x3→ρ 4=x4→ρ 6=x6→ρ 7=x7→ρ 8=x8→ρ 19=x19→WA C Tryd.f12 t12 133995103 [fun ρ h=>KL1 (ρ 1) (ρ 2) (ρ 3) (ρ 4) (ρ 6) h,fun ρ h=>KL2 (ρ 1) (ρ 2) (ρ 3) (ρ 4) (ρ 6) (ρ 7) h] Q ρ h
def J_turnstoneref14_Live_R61 (C:Cfg)(Q:QP1)(KL1:QP5)(KL2:QP6)(KL7:QP10)(x1 x2 x3 x4 x6 x7 x8 x9 x19 x20:V)(h:Hp):Prop:=∀ρ:Rho,ρ 1=x1→ρ 2=x2→ρ 3=x3→ρ 4=x4→ρ 6=x6→ρ 7=x7→ρ 8=x8→ρ 9=x9→ρ 19=x19→ρ 20=x20→WA C Tryd.f12 t12 3858537055 [fun ρ h=>KL1 (ρ 1) (ρ 2) (ρ 3) (ρ 4) (ρ 6) h,fun ρ h=>KL2 (ρ 1) (ρ 2) (ρ 3) (ρ 4) (ρ 6) (ρ 7) h,fun ρ h=>KL7 (ρ 1) (ρ 2) (ρ 3) (ρ 4) (ρ 6) (ρ 7) (ρ 8) (ρ 9) (ρ 19) (ρ 20) h] Q ρ h
def J_turnstoneref14_Live_L9 (C:Cfg)(Q:QP1)(KL1:QP5)(KL2:QP6)(x1 x2 x3 x4 x6 x7 x8 x19 x22:V)(h:Hp):Prop:=∀ρ:Rho,ρ 1=x1→ρ 2=x2→ρ 3=x3→ρ 4=x4→ρ 6=x6→ρ 7=x7→ρ 8=x8→ρ 19=x19→ρ 22=x22→WA C Tryd.f12 t12 737974879 [fun ρ h=>KL1 (ρ 1) (ρ 2) (ρ 3) (ρ 4) (ρ 6) h,fun ρ h=>KL2 (ρ 1) (ρ 2) (ρ 3) (ρ 4) (ρ 6) (ρ 7) h] Q ρ h
def J_turnstoneref14_Live_R68 (C:Cfg)(Q:QP1)(KL1:QP5)(KL2:QP6)(KL9:QP9)(x1 x2 x3 x4 x6 x7 x8 x19 x22:V)(h:Hp):Prop:=∀ρ:Rho,ρ 1=x1→ρ 2=x2→ρ 3=x3→ρ 4=x4→ρ 6=x6→ρ 7=x7→ρ 8=x8→ρ 19=x19→ρ 22=x22→WA C Tryd.f12 t12 7717296735 [fun ρ h=>KL1 (ρ 1) (ρ 2) (ρ 3) (ρ 4) (ρ 6) h,fun ρ h=>KL2 (ρ 1) (ρ 2) (ρ 3) (ρ 4) (ρ 6) (ρ 7) h,fun ρ h=>KL9 (ρ 1) (ρ 2) (ρ 3) (ρ 4) (ρ 6) (ρ 7) (ρ 8) (ρ 19) (ρ 22) h] Q ρ h
def B_turnstoneref14_Live_L0 (C:Cfg)(Q:QP1)(KL0:QP5)(x1 x2 x3 x4 x5:V)(h:Hp):Prop:=
 oP (hbin .lss 3 x5 x4) fun v32=>
 bP v32 (
 oP (pFA 2 x1) fun v37=>
 oP (pLd v37 h) fun v38=>
 oP (pLen v38) fun v39=>
 alP (hmakeSlice 4 1 1 (V.bool false) v39 v39) h fun v40 h1=>
 oP (pIx 1 x2 x5) fun v41=>
 valP (pSt 1 v41 v40 h1) fun vu h2=>
 oP (pFA 2 x1) fun v44=>
 oP (pLd v44 h2) fun v45=>
 oP (pLen v45) fun v46=>
 alP (hmakeSlice 4 1 1 (V.bool false) v46 v46) h2 fun v47 h3=>
 oP (pIx 1 x3 x5) fun v48=>
 valP (pSt 1 v48 v47 h3) fun vu_1 h4=>
 oP (hbin .add 3 x5 (V.int .i64 1)) fun v34=>
 KL0 x1 x2 x3 x4 v34 h4) (
 J_turnstoneref14_Live_L1 C Q x1 x2 x3 x4 (V.bool true) h)
theorem l_turnstoneref14_Live_L0 {C:Cfg}{Q:QP1}(I:Nat→QP5)(step:∀(k:Nat)(x1 x2 x3 x4 x5:V)(h:Hp),I k x1 x2 x3 x4 x5 h→B_turnstoneref14_Live_L0 C Q (fun x1 x2 x3 x4 x5 h=>∃k',k' < k∧I k' x1 x2 x3 x4 x5 h) x1 x2 x3 x4 x5 h){k:Nat}{x1 x2 x3 x4 x5:V}{h:Hp}(h0:I k x1 x2 x3 x4 x5 h):J_turnstoneref14_Live_L0 C Q x1 x2 x3 x4 x5 h:=by
 rintro ρ rfl rfl rfl rfl rfl
 exact WA.loop (fun k ρ h=>I k (ρ 1) (ρ 2) (ρ 3) (ρ 4) (ρ 5) h) (by kernel_rfl) (by kernel_rfl) (fun k ρ h hi=>LA.of (by kernel_rfl) (step k (ρ 1) (ρ 2) (ρ 3) (ρ 4) (ρ 5) h hi)) h0
def B_turnstoneref14_Live_L1 (C:Cfg)(Q:QP1)(KL1:QP5)(x1 x2 x3 x4 x6:V)(h:Hp):Prop:=
 bP x6 (
 oP (hbin .sub 3 x4 (V.int .i64 1)) fun v51=>
 J_turnstoneref14_Live_L2 C Q KL1 x1 x2 x3 x4 (V.bool false) v51 h) (
 Q (V.tuple [x2,x3]) h)
theorem l_turnstoneref14_Live_L1 {C:Cfg}{Q:QP1}(I:Nat→QP5)(step:∀(k:Nat)(x1 x2 x3 x4 x6:V)(h:Hp),I k x1 x2 x3 x4 x6 h→B_turnstoneref14_Live_L1 C Q (fun x1 x2 x3 x4 x6 h=>∃k',k' < k∧I k' x1 x2 x3 x4 x6 h) x1 x2 x3 x4 x6 h){k:Nat}{x1 x2 x3 x4 x6:V}{h:Hp}(h0:I k x1 x2 x3 x4 x6 h):J_turnstoneref14_Live_L1 C Q x1 x2 x3 x4 x6 h:=by
 rintro ρ rfl rfl rfl rfl rfl
 exact WA.loop (fun k ρ h=>I k (ρ 1) (ρ 2) (ρ 3) (ρ 4) (ρ 6) h) (by kernel_rfl) (by kernel_rfl) (fun k ρ h hi=>LA.of (by kernel_rfl) (step k (ρ 1) (ρ 2) (ρ 3) (ρ 4) (ρ 6) h hi)) h0
def B_turnstoneref14_Live_L2 (C:Cfg)(Q:QP1)(KL1:QP5)(KL2:QP6)(x1 x2 x3 x4 x6 x7:V)(h:Hp):Prop:=
 oP (hbin .geq 3 x7 (V.int .i64 0)) fun v53=>
 bP v53 (
 oP (pFA 2 x1) fun v56=>
 oP (pLd v56 h) fun v57=>
 oP (pLen v57) fun v58=>
 alP (hmakeSlice 4 1 1 (V.bool false) v58 v58) h fun v59 h1=>
 oP (pFA 3 x1) fun v60=>
 oP (pLd v60 h1) fun v61=>
 oP (pIx 6 v61 x7) fun v63=>
 oP (pLdA 6 v63 h1) fun v64=>
 alP (some (.cells 36 1 true false [V.nilSlice,(V.int .i64 0),(V.int .i64 0),V.nilSlice,V.nilSlice,(V.int .i64 0)],fun l=> .ptr l 0)) h1 fun v9 h2=>
 valP (pSt 6 v9 v64 h2) fun vu h3=>
 J_turnstoneref14_Live_L3 C Q KL1 KL2 x1 x2 x3 x4 x6 x7 v59 v9 (V.int .i64 0) h3) (
 KL1 x1 x2 x3 x4 x6 h)
theorem l_turnstoneref14_Live_L2 {C:Cfg}{Q:QP1}{KL1:QP5}(I:Nat→QP6)(step:∀(k:Nat)(x1 x2 x3 x4 x6 x7:V)(h:Hp),I k x1 x2 x3 x4 x6 x7 h→B_turnstoneref14_Live_L2 C Q KL1 (fun x1 x2 x3 x4 x6 x7 h=>∃k',k' < k∧I k' x1 x2 x3 x4 x6 x7 h) x1 x2 x3 x4 x6 x7 h){k:Nat}{x1 x2 x3 x4 x6 x7:V}{h:Hp}(h0:I k x1 x2 x3 x4 x6 x7 h):J_turnstoneref14_Live_L2 C Q KL1 x1 x2 x3 x4 x6 x7 h:=by
 rintro ρ rfl rfl rfl rfl rfl rfl
 exact WA.loop (fun k ρ h=>I k (ρ 1) (ρ 2) (ρ 3) (ρ 4) (ρ 6) (ρ 7) h) (by kernel_rfl) (by kernel_rfl) (fun k ρ h hi=>LA.of (by kernel_rfl) (step k (ρ 1) (ρ 2) (ρ 3) (ρ 4) (ρ 6) (ρ 7) h hi)) h0
def B_turnstoneref14_Live_L3 (C:Cfg)(Q:QP1)(KL1:QP5)(KL2:QP6)(KL3:QP9)(x1 x2 x3 x4 x6 x7 x8 x9 x10:V)(h:Hp):Prop:=
 oP (pFA 3 x9) fun v66=>
 oP (pLd v66 h) fun v67=>
 oP (pLen v67) fun v68=>
 oP (hbin .lss 3 x10 v68) fun v69=>
 bP v69 (
 oP (pFA 3 x9) fun v72=>
 oP (pLd v72 h) fun v73=>
 oP (pIx 1 v73 x10) fun v75=>
 oP (pLd v75 h) fun v76=>
 J_turnstoneref14_Live_L5 C Q KL1 KL2 KL3 x1 x2 x3 x4 x6 x7 x8 x9 x10 v76 (V.int .i64 0) h) (
 J_turnstoneref14_Live_L4 C Q KL1 KL2 x1 x2 x3 x4 x6 x7 x8 x9 (V.int .i64 0) h)
theorem l_turnstoneref14_Live_L3 {C:Cfg}{Q:QP1}{KL1:QP5}{KL2:QP6}(I:Nat→QP9)(step:∀(k:Nat)(x1 x2 x3 x4 x6 x7 x8 x9 x10:V)(h:Hp),I k x1 x2 x3 x4 x6 x7 x8 x9 x10 h→B_turnstoneref14_Live_L3 C Q KL1 KL2 (fun x1 x2 x3 x4 x6 x7 x8 x9 x10 h=>∃k',k' < k∧I k' x1 x2 x3 x4 x6 x7 x8 x9 x10 h) x1 x2 x3 x4 x6 x7 x8 x9 x10 h){k:Nat}{x1 x2 x3 x4 x6 x7 x8 x9 x10:V}{h:Hp}(h0:I k x1 x2 x3 x4 x6 x7 x8 x9 x10 h):J_turnstoneref14_Live_L3 C Q KL1 KL2 x1 x2 x3 x4 x6 x7 x8 x9 x10 h:=by
 rintro ρ rfl rfl rfl rfl rfl rfl rfl rfl rfl
 exact WA.loop (fun k ρ h=>I k (ρ 1) (ρ 2) (ρ 3) (ρ 4) (ρ 6) (ρ 7) (ρ 8) (ρ 9) (ρ 10) h) (by kernel_rfl) (by kernel_rfl) (fun k ρ h hi=>LA.of (by kernel_rfl) (step k (ρ 1) (ρ 2) (ρ 3) (ρ 4) (ρ 6) (ρ 7) (ρ 8) (ρ 9) (ρ 10) h hi)) h0
def B_turnstoneref14_Live_L5 (C:Cfg)(Q:QP1)(KL1:QP5)(KL2:QP6)(KL3:QP9)(KL5:QP11)(x1 x2 x3 x4 x6 x7 x8 x9 x10 x11 x12:V)(h:Hp):Prop:=
 oP (pFA 2 x1) fun v78=>
 oP (pLd v78 h) fun v79=>
 oP (pLen v79) fun v80=>
 oP (hbin .lss 3 x12 v80) fun v81=>
 bP v81 (
 oP (pIx 1 x8 x12) fun v88=>
 oP (pLd v88 h) fun v89=>
 oP (pOr v89 (oB (some x2) fun v91=>oB (some x11) fun v92=>oB (pIx 1 v91 v92) fun v93=>oB (pLd v93 h) fun v94=>oB (some x12) fun v95=>oB (pIx 1 v94 v95) fun v96=>pLd v96 h)) fun v98=>
 oP (pIx 1 x8 x12) fun v99=>
 valP (pSt 1 v99 v98 h) fun vu h1=>
 oP (hbin .add 3 x12 (V.int .i64 1)) fun v83=>
 KL5 x1 x2 x3 x4 x6 x7 x8 x9 x10 x11 v83 h1) (
 oP (pFA 3 x1) fun v100=>
 oP (pLd v100 h) fun v101=>
 oP (pIx 6 v101 x11) fun v103=>
 oP (pLdA 6 v103 h) fun v104=>
 alP (some (.cells 36 1 true false [V.nilSlice,(V.int .i64 0),(V.int .i64 0),V.nilSlice,V.nilSlice,(V.int .i64 0)],fun l=> .ptr l 0)) h fun v13 h2=>
 valP (pSt 6 v13 v104 h2) fun vu_1 h3=>
 J_turnstoneref14_Live_L8 C Q KL1 KL2 KL3 x1 x2 x3 x4 x6 x7 x8 x9 x10 v13 (V.int .i64 0) h3)
theorem l_turnstoneref14_Live_L5 {C:Cfg}{Q:QP1}{KL1:QP5}{KL2:QP6}{KL3:QP9}(I:Nat→QP11)(step:∀(k:Nat)(x1 x2 x3 x4 x6 x7 x8 x9 x10 x11 x12:V)(h:Hp),I k x1 x2 x3 x4 x6 x7 x8 x9 x10 x11 x12 h→B_turnstoneref14_Live_L5 C Q KL1 KL2 KL3 (fun x1 x2 x3 x4 x6 x7 x8 x9 x10 x11 x12 h=>∃k',k' < k∧I k' x1 x2 x3 x4 x6 x7 x8 x9 x10 x11 x12 h) x1 x2 x3 x4 x6 x7 x8 x9 x10 x11 x12 h){k:Nat}{x1 x2 x3 x4 x6 x7 x8 x9 x10 x11 x12:V}{h:Hp}(h0:I k x1 x2 x3 x4 x6 x7 x8 x9 x10 x11 x12 h):J_turnstoneref14_Live_L5 C Q KL1 KL2 KL3 x1 x2 x3 x4 x6 x7 x8 x9 x10 x11 x12 h:=by
 rintro ρ rfl rfl rfl rfl rfl rfl rfl rfl rfl rfl rfl
 exact WA.loop (fun k ρ h=>I k (ρ 1) (ρ 2) (ρ 3) (ρ 4) (ρ 6) (ρ 7) (ρ 8) (ρ 9) (ρ 10) (ρ 11) (ρ 12) h) (by kernel_rfl) (by kernel_rfl) (fun k ρ h hi=>LA.of (by kernel_rfl) (step k (ρ 1) (ρ 2) (ρ 3) (ρ 4) (ρ 6) (ρ 7) (ρ 8) (ρ 9) (ρ 10) (ρ 11) (ρ 12) h hi)) h0
def B_turnstoneref14_Live_L4 (C:Cfg)(Q:QP1)(KL1:QP5)(KL2:QP6)(KL4:QP9)(x1 x2 x3 x4 x6 x7 x8 x9 x15:V)(h:Hp):Prop:=
 oP (pFA 3 x9) fun v133=>
 oP (pLd v133 h) fun v134=>
 oP (pLen v134) fun v135=>
 oP (hbin .lss 3 x15 v135) fun v136=>
 bP v136 (
 oP (pFA 3 x1) fun v139=>
 oP (pLd v139 h) fun v140=>
 oP (pFA 3 x9) fun v141=>
 oP (pLd v141 h) fun v142=>
 oP (pIx 1 v142 x15) fun v144=>
 oP (pLd v144 h) fun v145=>
 oP (pIx 6 v140 v145) fun v146=>
 oP (pLdA 6 v146 h) fun v147=>
 alO (some (.cells 36 1 true false [V.nilSlice,(V.int .i64 0),(V.int .i64 0),V.nilSlice,V.nilSlice,(V.int .i64 0)],fun l=> .ptr l 0)) h fun o9 v16 h1=>
 ((h1.get (h.next)=some o9∧O.beq o9 o9=true)∧
 ((pLdA 6 v146 h1=some v147)∧
 ((pLd v144 h1=some v145)∧
 ((pLd v141 h1=some v142)∧
 ((pLd v139 h1=some v140)∧
 valP (pSt 6 v16 v147 h1) fun vu h2=>
 (h1.next≤h2.next∧
 J_turnstoneref14_Live_L6 C Q KL1 KL2 KL4 x1 x2 x3 x4 x6 x7 x8 x9 x15 v16 (V.int .i64 0) h2))))))) (
 oP (pFA 1 x9) fun v197=>
 oP (pLd v197 h) fun v198=>
 oP (hbin .eql 3 v198 (V.int .i64 2)) fun v199=>
 bP v199 (
 oP (pFA 2 x9) fun v201=>
 oP (pLd v201 h) fun v202=>
 oP (pIx 1 x8 v202) fun v203=>
 valP (pSt 1 v203 (V.bool true) h) fun vu_1 h3=>
 J_turnstoneref14_Live_R29 C Q KL1 KL2 x1 x2 x3 x4 x6 x7 x8 x9 h3) (
 J_turnstoneref14_Live_R29 C Q KL1 KL2 x1 x2 x3 x4 x6 x7 x8 x9 h))
theorem l_turnstoneref14_Live_L4 {C:Cfg}{Q:QP1}{KL1:QP5}{KL2:QP6}(I:Nat→QP9)(step:∀(k:Nat)(x1 x2 x3 x4 x6 x7 x8 x9 x15:V)(h:Hp),I k x1 x2 x3 x4 x6 x7 x8 x9 x15 h→B_turnstoneref14_Live_L4 C Q KL1 KL2 (fun x1 x2 x3 x4 x6 x7 x8 x9 x15 h=>∃k',k' < k∧I k' x1 x2 x3 x4 x6 x7 x8 x9 x15 h) x1 x2 x3 x4 x6 x7 x8 x9 x15 h){k:Nat}{x1 x2 x3 x4 x6 x7 x8 x9 x15:V}{h:Hp}(h0:I k x1 x2 x3 x4 x6 x7 x8 x9 x15 h):J_turnstoneref14_Live_L4 C Q KL1 KL2 x1 x2 x3 x4 x6 x7 x8 x9 x15 h:=by
 rintro ρ rfl rfl rfl rfl rfl rfl rfl rfl rfl
 exact WA.loop (fun k ρ h=>I k (ρ 1) (ρ 2) (ρ 3) (ρ 4) (ρ 6) (ρ 7) (ρ 8) (ρ 9) (ρ 15) h) (by kernel_rfl) (by kernel_rfl) (fun k ρ h hi=>LA.of (by kernel_rfl) (step k (ρ 1) (ρ 2) (ρ 3) (ρ 4) (ρ 6) (ρ 7) (ρ 8) (ρ 9) (ρ 15) h hi)) h0
def B_turnstoneref14_Live_L8 (C:Cfg)(Q:QP1)(KL1:QP5)(KL2:QP6)(KL3:QP9)(KL8:QP11)(x1 x2 x3 x4 x6 x7 x8 x9 x10 x13 x14:V)(h:Hp):Prop:=
 oP (pFA 0 x13) fun v106=>
 oP (pLd v106 h) fun v107=>
 oP (pLen v107) fun v108=>
 oP (hbin .lss 3 x14 v108) fun v109=>
 oP (pAnd v109 (oB (pFA 2 x1) fun v111=>oB (pLd v111 h) fun v112=>oB (pFA 0 x13) fun v113=>oB (pLd v113 h) fun v114=>oB (some x14) fun v115=>oB (pIx 1 v114 v115) fun v116=>oB (pLd v116 h) fun v117=>oB (pIx 6 v112 v117) fun v118=>oB (pFA 0 v118) fun v119=>oB (pLd v119 h) fun v120=>hbin .eql 3 v120 (V.int .i64 21))) fun v122=>
 bP v122 (
 oP (pFA 0 x13) fun v126=>
 oP (pLd v126 h) fun v127=>
 oP (pIx 1 v127 x14) fun v129=>
 oP (pLd v129 h) fun v130=>
 oP (pIx 1 x8 v130) fun v131=>
 valP (pSt 1 v131 (V.bool false) h) fun vu h1=>
 oP (hbin .add 3 x14 (V.int .i64 1)) fun v124=>
 KL8 x1 x2 x3 x4 x6 x7 x8 x9 x10 x13 v124 h1) (
 oP (hbin .add 3 x10 (V.int .i64 1)) fun v71=>
 KL3 x1 x2 x3 x4 x6 x7 x8 x9 v71 h)
theorem l_turnstoneref14_Live_L8 {C:Cfg}{Q:QP1}{KL1:QP5}{KL2:QP6}{KL3:QP9}(I:Nat→QP11)(step:∀(k:Nat)(x1 x2 x3 x4 x6 x7 x8 x9 x10 x13 x14:V)(h:Hp),I k x1 x2 x3 x4 x6 x7 x8 x9 x10 x13 x14 h→B_turnstoneref14_Live_L8 C Q KL1 KL2 KL3 (fun x1 x2 x3 x4 x6 x7 x8 x9 x10 x13 x14 h=>∃k',k' < k∧I k' x1 x2 x3 x4 x6 x7 x8 x9 x10 x13 x14 h) x1 x2 x3 x4 x6 x7 x8 x9 x10 x13 x14 h){k:Nat}{x1 x2 x3 x4 x6 x7 x8 x9 x10 x13 x14:V}{h:Hp}(h0:I k x1 x2 x3 x4 x6 x7 x8 x9 x10 x13 x14 h):J_turnstoneref14_Live_L8 C Q KL1 KL2 KL3 x1 x2 x3 x4 x6 x7 x8 x9 x10 x13 x14 h:=by
 rintro ρ rfl rfl rfl rfl rfl rfl rfl rfl rfl rfl rfl
 exact WA.loop (fun k ρ h=>I k (ρ 1) (ρ 2) (ρ 3) (ρ 4) (ρ 6) (ρ 7) (ρ 8) (ρ 9) (ρ 10) (ρ 13) (ρ 14) h) (by kernel_rfl) (by kernel_rfl) (fun k ρ h hi=>LA.of (by kernel_rfl) (step k (ρ 1) (ρ 2) (ρ 3) (ρ 4) (ρ 6) (ρ 7) (ρ 8) (ρ 9) (ρ 10) (ρ 13) (ρ 14) h hi)) h0
def B_turnstoneref14_Live_L6 (C:Cfg)(Q:QP1)(KL1:QP5)(KL2:QP6)(KL4:QP9)(KL6:QP11)(x1 x2 x3 x4 x6 x7 x8 x9 x15 x16 x17:V)(h:Hp):Prop:=
 oP (pFA 0 x16) fun v149=>
 oP (pLd v149 h) fun v150=>
 oP (pLen v150) fun v151=>
 oP (hbin .lss 3 x17 v151) fun v152=>
 oP (pAnd v152 (oB (pFA 2 x1) fun v154=>oB (pLd v154 h) fun v155=>oB (pFA 0 x16) fun v156=>oB (pLd v156 h) fun v157=>oB (some x17) fun v158=>oB (pIx 1 v157 v158) fun v159=>oB (pLd v159 h) fun v160=>oB (pIx 6 v155 v160) fun v161=>oB (pFA 0 v161) fun v162=>oB (pLd v162 h) fun v163=>hbin .eql 3 v163 (V.int .i64 21))) fun v165=>
 bP v165 (
 J_turnstoneref14_Live_L10 C Q KL1 KL2 KL4 KL6 x1 x2 x3 x4 x6 x7 x8 x9 x15 x16 x17 (V.int .i64 0) h) (
 oP (hbin .add 3 x15 (V.int .i64 1)) fun v138=>
 KL4 x1 x2 x3 x4 x6 x7 x8 x9 v138 h)
theorem l_turnstoneref14_Live_L6 {C:Cfg}{Q:QP1}{KL1:QP5}{KL2:QP6}{KL4:QP9}(I:Nat→QP11)(step:∀(k:Nat)(x1 x2 x3 x4 x6 x7 x8 x9 x15 x16 x17:V)(h:Hp),I k x1 x2 x3 x4 x6 x7 x8 x9 x15 x16 x17 h→B_turnstoneref14_Live_L6 C Q KL1 KL2 KL4 (fun x1 x2 x3 x4 x6 x7 x8 x9 x15 x16 x17 h=>∃k',k' < k∧I k' x1 x2 x3 x4 x6 x7 x8 x9 x15 x16 x17 h) x1 x2 x3 x4 x6 x7 x8 x9 x15 x16 x17 h){k:Nat}{x1 x2 x3 x4 x6 x7 x8 x9 x15 x16 x17:V}{h:Hp}(h0:I k x1 x2 x3 x4 x6 x7 x8 x9 x15 x16 x17 h):J_turnstoneref14_Live_L6 C Q KL1 KL2 KL4 x1 x2 x3 x4 x6 x7 x8 x9 x15 x16 x17 h:=by
 rintro ρ rfl rfl rfl rfl rfl rfl rfl rfl rfl rfl rfl
 exact WA.loop (fun k ρ h=>I k (ρ 1) (ρ 2) (ρ 3) (ρ 4) (ρ 6) (ρ 7) (ρ 8) (ρ 9) (ρ 15) (ρ 16) (ρ 17) h) (by kernel_rfl) (by kernel_rfl) (fun k ρ h hi=>LA.of (by kernel_rfl) (step k (ρ 1) (ρ 2) (ρ 3) (ρ 4) (ρ 6) (ρ 7) (ρ 8) (ρ 9) (ρ 15) (ρ 16) (ρ 17) h hi)) h0
def B_turnstoneref14_Live_R29 (C:Cfg)(Q:QP1)(KL1:QP5)(KL2:QP6)(x1 x2 x3 x4 x6 x7 x8 x9:V)(h:Hp):Prop:=
 oP (pFA 1 x9) fun v204=>
 oP (pLd v204 h) fun v205=>
 oP (hbin .eql 3 v205 (V.int .i64 3)) fun v206=>
 bP v206 (
 oP (pFA 4 x1) fun v208=>
 oP (pLd v208 h) fun v209=>
 oP (pFA 5 x9) fun v210=>
 oP (pLd v210 h) fun v211=>
 oP (pIx 1 v209 v211) fun v212=>
 oP (pLdA 1 v212 h) fun v213=>
 cP C n_turnstoneref14_frames [v213] h fun v214 h1=>
 cP C n_turnstoneref14_mark [x8,v214] h1 fun v215 h2=>
 J_turnstoneref14_Live_R35 C Q KL1 KL2 x1 x2 x3 x4 x6 x7 x8 x9 h2) (
 J_turnstoneref14_Live_R35 C Q KL1 KL2 x1 x2 x3 x4 x6 x7 x8 x9 h)
theorem j_turnstoneref14_Live_R29 {C:Cfg}{Q:QP1}{KL1:QP5}{KL2:QP6}{x1 x2 x3 x4 x6 x7 x8 x9:V}{h:Hp}(H:B_turnstoneref14_Live_R29 C Q KL1 KL2 x1 x2 x3 x4 x6 x7 x8 x9 h):J_turnstoneref14_Live_R29 C Q KL1 KL2 x1 x2 x3 x4 x6 x7 x8 x9 h:=by
 rintro ρ rfl rfl rfl rfl rfl rfl rfl rfl
 exact WA.of (by kernel_rfl) H
def B_turnstoneref14_Live_L10 (C:Cfg)(Q:QP1)(KL1:QP5)(KL2:QP6)(KL4:QP9)(KL6:QP11)(KL10:QP12)(x1 x2 x3 x4 x6 x7 x8 x9 x15 x16 x17 x18:V)(h:Hp):Prop:=
 oP (pFA 4 x16) fun v169=>
 oP (pLd v169 h) fun v170=>
 oP (pLen v170) fun v171=>
 oP (hbin .lss 3 x18 v171) fun v172=>
 bP v172 (
 oP (pFA 4 x16) fun v175=>
 oP (pLd v175 h) fun v176=>
 oP (pIx 1 v176 x18) fun v178=>
 oP (pLd v178 h) fun v179=>
 oP (hbin .eql 3 v179 x7) fun v181=>
 bP v181 (
 oP (pFA 2 x1) fun v183=>
 oP (pLd v183 h) fun v184=>
 oP (pFA 0 x16) fun v185=>
 oP (pLd v185 h) fun v186=>
 oP (pIx 1 v186 x17) fun v188=>
 oP (pLd v188 h) fun v189=>
 oP (pIx 6 v184 v189) fun v190=>
 oP (pFA 4 v190) fun v191=>
 oP (pLd v191 h) fun v192=>
 oP (pIx 1 v192 x18) fun v194=>
 oP (pLd v194 h) fun v195=>
 oP (pIx 1 x8 v195) fun v196=>
 valP (pSt 1 v196 (V.bool true) h) fun vu h1=>
 (h.next≤h1.next∧
 J_turnstoneref14_Live_R73 C Q KL1 KL2 KL4 KL6 KL10 x1 x2 x3 x4 x6 x7 x8 x9 x15 x16 x17 x18 h1)) (
 J_turnstoneref14_Live_R73 C Q KL1 KL2 KL4 KL6 KL10 x1 x2 x3 x4 x6 x7 x8 x9 x15 x16 x17 x18 h)) (
 oP (hbin .add 3 x17 (V.int .i64 1)) fun v167=>
 KL6 x1 x2 x3 x4 x6 x7 x8 x9 x15 x16 v167 h)
theorem l_turnstoneref14_Live_L10 {C:Cfg}{Q:QP1}{KL1:QP5}{KL2:QP6}{KL4:QP9}{KL6:QP11}(I:Nat→QP12)(step:∀(k:Nat)(x1 x2 x3 x4 x6 x7 x8 x9 x15 x16 x17 x18:V)(h:Hp),I k x1 x2 x3 x4 x6 x7 x8 x9 x15 x16 x17 x18 h→B_turnstoneref14_Live_L10 C Q KL1 KL2 KL4 KL6 (fun x1 x2 x3 x4 x6 x7 x8 x9 x15 x16 x17 x18 h=>∃k',k' < k∧I k' x1 x2 x3 x4 x6 x7 x8 x9 x15 x16 x17 x18 h) x1 x2 x3 x4 x6 x7 x8 x9 x15 x16 x17 x18 h){k:Nat}{x1 x2 x3 x4 x6 x7 x8 x9 x15 x16 x17 x18:V}{h:Hp}(h0:I k x1 x2 x3 x4 x6 x7 x8 x9 x15 x16 x17 x18 h):J_turnstoneref14_Live_L10 C Q KL1 KL2 KL4 KL6 x1 x2 x3 x4 x6 x7 x8 x9 x15 x16 x17 x18 h:=by
 rintro ρ rfl rfl rfl rfl rfl rfl rfl rfl rfl rfl rfl rfl
 exact WA.loop (fun k ρ h=>I k (ρ 1) (ρ 2) (ρ 3) (ρ 4) (ρ 6) (ρ 7) (ρ 8) (ρ 9) (ρ 15) (ρ 16) (ρ 17) (ρ 18) h) (by kernel_rfl) (by kernel_rfl) (fun k ρ h hi=>LA.of (by kernel_rfl) (step k (ρ 1) (ρ 2) (ρ 3) (ρ 4) (ρ 6) (ρ 7) (ρ 8) (ρ 9) (ρ 15) (ρ 16) (ρ 17) (ρ 18) h hi)) h0
def B_turnstoneref14_Live_R35 (C:Cfg)(Q:QP1)(KL1:QP5)(KL2:QP6)(x1 x2 x3 x4 x6 x7 x8 x9:V)(h:Hp):Prop:=
 alP (pBS 4 1 0 (V.bool false) []) h fun v216 h1=>
 valP (happend 4 1 1 v216 x8 h1) fun v218 h2=>
 oP (pFA 0 x9) fun v219=>
 oP (pLd v219 h2) fun v220=>
 oP (pLen v220) fun v221=>
 oP (hbin .sub 3 v221 (V.int .i64 1)) fun v222=>
 J_turnstoneref14_Live_L7 C Q KL1 KL2 x1 x2 x3 x4 x6 x7 x8 x9 v218 v222 h2
theorem j_turnstoneref14_Live_R35 {C:Cfg}{Q:QP1}{KL1:QP5}{KL2:QP6}{x1 x2 x3 x4 x6 x7 x8 x9:V}{h:Hp}(H:B_turnstoneref14_Live_R35 C Q KL1 KL2 x1 x2 x3 x4 x6 x7 x8 x9 h):J_turnstoneref14_Live_R35 C Q KL1 KL2 x1 x2 x3 x4 x6 x7 x8 x9 h:=by
 rintro ρ rfl rfl rfl rfl rfl rfl rfl rfl
 exact WA.of (by kernel_rfl) H
def B_turnstoneref14_Live_R73 (C:Cfg)(Q:QP1)(KL1:QP5)(KL2:QP6)(KL4:QP9)(KL6:QP11)(KL10:QP12)(x1 x2 x3 x4 x6 x7 x8 x9 x15 x16 x17 x18:V)(h:Hp):Prop:=
 oP (hbin .add 3 x18 (V.int .i64 1)) fun v174=>
 KL10 x1 x2 x3 x4 x6 x7 x8 x9 x15 x16 x17 v174 h
theorem j_turnstoneref14_Live_R73 {C:Cfg}{Q:QP1}{KL1:QP5}{KL2:QP6}{KL4:QP9}{KL6:QP11}{KL10:QP12}{x1 x2 x3 x4 x6 x7 x8 x9 x15 x16 x17 x18:V}{h:Hp}(H:B_turnstoneref14_Live_R73 C Q KL1 KL2 KL4 KL6 KL10 x1 x2 x3 x4 x6 x7 x8 x9 x15 x16 x17 x18 h):J_turnstoneref14_Live_R73 C Q KL1 KL2 KL4 KL6 KL10 x1 x2 x3 x4 x6 x7 x8 x9 x15 x16 x17 x18 h:=by
 rintro ρ rfl rfl rfl rfl rfl rfl rfl rfl rfl rfl rfl rfl
 exact WA.of (by kernel_rfl) H
def B_turnstoneref14_Live_L7 (C:Cfg)(Q:QP1)(KL1:QP5)(KL2:QP6)(KL7:QP10)(x1 x2 x3 x4 x6 x7 x8 x9 x19 x20:V)(h:Hp):Prop:=
 oP (hbin .geq 3 x20 (V.int .i64 0)) fun v224=>
 bP v224 (
 oP (pFA 2 x1) fun v227=>
 oP (pLd v227 h) fun v228=>
 oP (pFA 0 x9) fun v229=>
 oP (pLd v229 h) fun v230=>
 oP (pIx 1 v230 x20) fun v232=>
 oP (pLd v232 h) fun v233=>
 oP (pIx 6 v228 v233) fun v234=>
 oP (pLdA 6 v234 h) fun v235=>
 alO (some (.cells 39 1 true false [(V.int .i64 0),(V.int .i64 0),(V.int .i64 0),(V.int .i64 0),V.nilSlice,(V.int .i64 0)],fun l=> .ptr l 0)) h fun o9 v21 h1=>
 ((h1.get (h.next)=some o9∧O.beq o9 o9=true)∧
 ((pLdA 6 v234 h1=some v235)∧
 ((pLd v232 h1=some v233)∧
 ((pLd v229 h1=some v230)∧
 ((pLd v227 h1=some v228)∧
 valP (pSt 6 v21 v235 h1) fun vu h2=>
 (h1.next≤h2.next∧
 oP (pFA 0 v21) fun v236=>
 oP (pLd v236 h2) fun v237=>
 oP (hbin .eql 3 v237 (V.int .i64 21)) fun v238=>
 oP (pOr v238 (oB (pFA 0 v21) fun v240=>oB (pLd v240 h2) fun v241=>hbin .eql 3 v241 (V.int .i64 1))) fun v243=>
 bP v243 (
 J_turnstoneref14_Live_R44 C Q KL1 KL2 x1 x2 x3 x4 x6 x7 x8 x19 h2) (
 oP (pFA 0 x9) fun v245=>
 oP (pLd v245 h2) fun v246=>
 oP (pIx 1 v246 x20) fun v248=>
 oP (pLd v248 h2) fun v249=>
 oP (pIx 1 x19 v249) fun v250=>
 valP (pSt 1 v250 (V.bool false) h2) fun vu_1 h3=>
 oP (pLdA 6 v21 h3) fun v252=>
 cP C n_turnstoneref14_Uses [v252] h3 fun v253 h4=>
 cP C n_turnstoneref14_mark [x19,v253] h4 fun v254 h5=>
 oP (pFA 0 v21) fun v255=>
 oP (pLd v255 h5) fun v256=>
 oP (hbin .eql 3 v256 (V.int .i64 22)) fun v257=>
 oP (pOr v257 (oB (pFA 0 v21) fun v259=>oB (pLd v259 h5) fun v260=>hbin .eql 3 v260 (V.int .i64 23))) fun v262=>
 bP v262 (
 oP (pFA 4 x1) fun v264=>
 oP (pLd v264 h5) fun v265=>
 oP (pFA 5 v21) fun v266=>
 oP (pLd v266 h5) fun v267=>
 oP (pIx 1 v265 v267) fun v268=>
 oP (pLdA 1 v268 h5) fun v269=>
 cP C n_turnstoneref14_frames [v269] h5 fun v270 h6=>
 cP C n_turnstoneref14_mark [x19,v270] h6 fun v271 h7=>
 J_turnstoneref14_Live_R61 C Q KL1 KL2 KL7 x1 x2 x3 x4 x6 x7 x8 x9 x19 x20 h7) (
 J_turnstoneref14_Live_R61 C Q KL1 KL2 KL7 x1 x2 x3 x4 x6 x7 x8 x9 x19 x20 h5))))))))) (
 J_turnstoneref14_Live_R44 C Q KL1 KL2 x1 x2 x3 x4 x6 x7 x8 x19 h)
theorem l_turnstoneref14_Live_L7 {C:Cfg}{Q:QP1}{KL1:QP5}{KL2:QP6}(I:Nat→QP10)(step:∀(k:Nat)(x1 x2 x3 x4 x6 x7 x8 x9 x19 x20:V)(h:Hp),I k x1 x2 x3 x4 x6 x7 x8 x9 x19 x20 h→B_turnstoneref14_Live_L7 C Q KL1 KL2 (fun x1 x2 x3 x4 x6 x7 x8 x9 x19 x20 h=>∃k',k' < k∧I k' x1 x2 x3 x4 x6 x7 x8 x9 x19 x20 h) x1 x2 x3 x4 x6 x7 x8 x9 x19 x20 h){k:Nat}{x1 x2 x3 x4 x6 x7 x8 x9 x19 x20:V}{h:Hp}(h0:I k x1 x2 x3 x4 x6 x7 x8 x9 x19 x20 h):J_turnstoneref14_Live_L7 C Q KL1 KL2 x1 x2 x3 x4 x6 x7 x8 x9 x19 x20 h:=by
 rintro ρ rfl rfl rfl rfl rfl rfl rfl rfl rfl rfl
 exact WA.loop (fun k ρ h=>I k (ρ 1) (ρ 2) (ρ 3) (ρ 4) (ρ 6) (ρ 7) (ρ 8) (ρ 9) (ρ 19) (ρ 20) h) (by kernel_rfl) (by kernel_rfl) (fun k ρ h hi=>LA.of (by kernel_rfl) (step k (ρ 1) (ρ 2) (ρ 3) (ρ 4) (ρ 6) (ρ 7) (ρ 8) (ρ 9) (ρ 19) (ρ 20) h hi)) h0
def B_turnstoneref14_Live_R44 (C:Cfg)(Q:QP1)(KL1:QP5)(KL2:QP6)(x1 x2 x3 x4 x6 x7 x8 x19:V)(h:Hp):Prop:=
 J_turnstoneref14_Live_L9 C Q KL1 KL2 x1 x2 x3 x4 x6 x7 x8 x19 (V.int .i64 0) h
theorem j_turnstoneref14_Live_R44 {C:Cfg}{Q:QP1}{KL1:QP5}{KL2:QP6}{x1 x2 x3 x4 x6 x7 x8 x19:V}{h:Hp}(H:B_turnstoneref14_Live_R44 C Q KL1 KL2 x1 x2 x3 x4 x6 x7 x8 x19 h):J_turnstoneref14_Live_R44 C Q KL1 KL2 x1 x2 x3 x4 x6 x7 x8 x19 h:=by
 rintro ρ rfl rfl rfl rfl rfl rfl rfl rfl
 exact WA.of (by kernel_rfl) H
def B_turnstoneref14_Live_R61 (C:Cfg)(Q:QP1)(KL1:QP5)(KL2:QP6)(KL7:QP10)(x1 x2 x3 x4 x6 x7 x8 x9 x19 x20:V)(h:Hp):Prop:=
 oP (hbin .sub 3 x20 (V.int .i64 1)) fun v226=>
 KL7 x1 x2 x3 x4 x6 x7 x8 x9 x19 v226 h
theorem j_turnstoneref14_Live_R61 {C:Cfg}{Q:QP1}{KL1:QP5}{KL2:QP6}{KL7:QP10}{x1 x2 x3 x4 x6 x7 x8 x9 x19 x20:V}{h:Hp}(H:B_turnstoneref14_Live_R61 C Q KL1 KL2 KL7 x1 x2 x3 x4 x6 x7 x8 x9 x19 x20 h):J_turnstoneref14_Live_R61 C Q KL1 KL2 KL7 x1 x2 x3 x4 x6 x7 x8 x9 x19 x20 h:=by
 rintro ρ rfl rfl rfl rfl rfl rfl rfl rfl rfl rfl
 exact WA.of (by kernel_rfl) H
def B_turnstoneref14_Live_L9 (C:Cfg)(Q:QP1)(KL1:QP5)(KL2:QP6)(KL9:QP9)(x1 x2 x3 x4 x6 x7 x8 x19 x22:V)(h:Hp):Prop:=
 oP (pFA 2 x1) fun v273=>
 oP (pLd v273 h) fun v274=>
 oP (pLen v274) fun v275=>
 oP (hbin .lss 3 x22 v275) fun v276=>
 bP v276 (
 oP (pIx 1 x19 x22) fun v281=>
 oP (pLd v281 h) fun v282=>
 oP (pIx 1 x2 x7) fun v285=>
 oP (pLd v285 h) fun v286=>
 oP (pIx 1 v286 x22) fun v288=>
 oP (pLd v288 h) fun v289=>
 oP (hbin .neq 4 v282 v289) fun v290=>
 oP (pOr v290 (oB (some x8) fun v292=>oB (some x22) fun v293=>oB (pIx 1 v292 v293) fun v294=>oB (pLd v294 h) fun v295=>oB (some x3) fun v296=>oB (some x7) fun v297=>oB (pIx 1 v296 v297) fun v298=>oB (pLd v298 h) fun v299=>oB (some x22) fun v300=>oB (pIx 1 v299 v300) fun v301=>oB (pLd v301 h) fun v302=>hbin .neq 4 v295 v302)) fun v304=>
 bP v304 (
 J_turnstoneref14_Live_R68 C Q KL1 KL2 KL9 x1 x2 x3 x4 (V.bool true) x7 x8 x19 x22 h) (
 J_turnstoneref14_Live_R68 C Q KL1 KL2 KL9 x1 x2 x3 x4 x6 x7 x8 x19 x22 h)) (
 oP (pIx 1 x2 x7) fun v308=>
 valP (pSt 1 v308 x19 h) fun vu h1=>
 oP (pIx 1 x3 x7) fun v312=>
 valP (pSt 1 v312 x8 h1) fun vu_1 h2=>
 oP (hbin .sub 3 x7 (V.int .i64 1)) fun v55=>
 KL2 x1 x2 x3 x4 x6 v55 h2)
theorem l_turnstoneref14_Live_L9 {C:Cfg}{Q:QP1}{KL1:QP5}{KL2:QP6}(I:Nat→QP9)(step:∀(k:Nat)(x1 x2 x3 x4 x6 x7 x8 x19 x22:V)(h:Hp),I k x1 x2 x3 x4 x6 x7 x8 x19 x22 h→B_turnstoneref14_Live_L9 C Q KL1 KL2 (fun x1 x2 x3 x4 x6 x7 x8 x19 x22 h=>∃k',k' < k∧I k' x1 x2 x3 x4 x6 x7 x8 x19 x22 h) x1 x2 x3 x4 x6 x7 x8 x19 x22 h){k:Nat}{x1 x2 x3 x4 x6 x7 x8 x19 x22:V}{h:Hp}(h0:I k x1 x2 x3 x4 x6 x7 x8 x19 x22 h):J_turnstoneref14_Live_L9 C Q KL1 KL2 x1 x2 x3 x4 x6 x7 x8 x19 x22 h:=by
 rintro ρ rfl rfl rfl rfl rfl rfl rfl rfl rfl
 exact WA.loop (fun k ρ h=>I k (ρ 1) (ρ 2) (ρ 3) (ρ 4) (ρ 6) (ρ 7) (ρ 8) (ρ 19) (ρ 22) h) (by kernel_rfl) (by kernel_rfl) (fun k ρ h hi=>LA.of (by kernel_rfl) (step k (ρ 1) (ρ 2) (ρ 3) (ρ 4) (ρ 6) (ρ 7) (ρ 8) (ρ 19) (ρ 22) h hi)) h0
def B_turnstoneref14_Live_R68 (C:Cfg)(Q:QP1)(KL1:QP5)(KL2:QP6)(KL9:QP9)(x1 x2 x3 x4 x6 x7 x8 x19 x22:V)(h:Hp):Prop:=
 oP (hbin .add 3 x22 (V.int .i64 1)) fun v278=>
 KL9 x1 x2 x3 x4 x6 x7 x8 x19 v278 h
theorem j_turnstoneref14_Live_R68 {C:Cfg}{Q:QP1}{KL1:QP5}{KL2:QP6}{KL9:QP9}{x1 x2 x3 x4 x6 x7 x8 x19 x22:V}{h:Hp}(H:B_turnstoneref14_Live_R68 C Q KL1 KL2 KL9 x1 x2 x3 x4 x6 x7 x8 x19 x22 h):J_turnstoneref14_Live_R68 C Q KL1 KL2 KL9 x1 x2 x3 x4 x6 x7 x8 x19 x22 h:=by
 rintro ρ rfl rfl rfl rfl rfl rfl rfl rfl rfl
 exact WA.of (by kernel_rfl) H
def B_turnstoneref14_Live (C:Cfg)(Q:QP1)(a0:V)(h:Hp):Prop:=
 alP (hbox 29 a0) h fun v1 h1=>
 oP (pFA 3 v1) fun v23=>
 oP (pLd v23 h1) fun v24=>
 oP (pLen v24) fun v25=>
 alP (hmakeSlice 37 1 24 V.nilSlice v25 v25) h1 fun v27 h2=>
 alP (hmakeSlice 37 1 24 V.nilSlice v25 v25) h2 fun v29 h3=>
 J_turnstoneref14_Live_L0 C Q v1 v27 v29 v25 (V.int .i64 0) h3
theorem c_turnstoneref14_Live {C:Cfg}(hs:C.start=startF){a0:V}{h:Hp}{Q:QP1}(hk:C.K n_turnstoneref14_Live [a0] h=none)(H:B_turnstoneref14_Live C Q a0 h):cP C n_turnstoneref14_Live [a0] h Q:=
 cP.vc (tb:=t12) hs (by unfold P0;exact Tryd.func12) (by kernel_rfl) hk (by kernel_rfl) (by kernel_rfl) H
def t28:List (Nat×List Nat):=[(87,[1,3,4])]
def J_turnstoneref14_frames_L0 (C:Cfg)(Q:QP1)(x1 x3 x4:V)(h:Hp):Prop:=∀ρ:Rho,ρ 1=x1→ρ 3=x3→ρ 4=x4→WA C Tryd.f28 t28 43 [] Q ρ h
def B_turnstoneref14_frames_L0 (C:Cfg)(Q:QP1)(KL0:QP3)(x1 x3 x4:V)(h:Hp):Prop:=
 oP (pFA 0 x1) fun v6=>
 oP (pLd v6 h) fun v7=>
 oP (pLen v7) fun v8=>
 oP (hbin .lss 3 x4 v8) fun v9=>
 bP v9 (
 oP (pFA 0 x1) fun v13=>
 oP (pLd v13 h) fun v14=>
 oP (pIx 4 v14 x4) fun v16=>
 oP (pFA 2 v16) fun v17=>
 oP (pLd v17 h) fun v18=>
 oP (pFA 0 x1) fun v20=>
 oP (pLd v20 h) fun v21=>
 oP (pIx 4 v21 x4) fun v23=>
 oP (pFA 3 v23) fun v24=>
 oP (pLd v24 h) fun v25=>
 valP (happend 3 1 8 x3 v18 h) fun v19 h1=>
 (h.next≤h1.next∧
 ((pLd v24 h1=some v25)∧
 ((pLd v20 h1=some v21)∧
 valP (happend 3 1 8 v19 v25 h1) fun v26 h2=>
 (h1.next≤h2.next∧
 oP (hbin .add 3 x4 (V.int .i64 1)) fun v11=>
 KL0 x1 v26 v11 h2))))) (
 Q x3 h)
theorem l_turnstoneref14_frames_L0 {C:Cfg}{Q:QP1}(I:Nat→QP3)(step:∀(k:Nat)(x1 x3 x4:V)(h:Hp),I k x1 x3 x4 h→B_turnstoneref14_frames_L0 C Q (fun x1 x3 x4 h=>∃k',k' < k∧I k' x1 x3 x4 h) x1 x3 x4 h){k:Nat}{x1 x3 x4:V}{h:Hp}(h0:I k x1 x3 x4 h):J_turnstoneref14_frames_L0 C Q x1 x3 x4 h:=by
 rintro ρ rfl rfl rfl
 exact WA.loop (fun k ρ h=>I k (ρ 1) (ρ 3) (ρ 4) h) (by kernel_rfl) (by kernel_rfl) (fun k ρ h hi=>LA.of (by kernel_rfl) (step k (ρ 1) (ρ 3) (ρ 4) h hi)) h0
def B_turnstoneref14_frames (C:Cfg)(Q:QP1)(a0:V)(h:Hp):Prop:=
 alP (hbox 60 a0) h fun v1 h1=>
 J_turnstoneref14_frames_L0 C Q v1 V.nilSlice (V.int .i64 0) h1
theorem c_turnstoneref14_frames {C:Cfg}(hs:C.start=startF){a0:V}{h:Hp}{Q:QP1}(hk:C.K n_turnstoneref14_frames [a0] h=none)(H:B_turnstoneref14_frames C Q a0 h):cP C n_turnstoneref14_frames [a0] h Q:=
 cP.vc (tb:=t28) hs (by unfold P0;exact Tryd.func28) (by kernel_rfl) hk (by kernel_rfl) (by kernel_rfl) H
def t27:List (Nat×List Nat):=[(11,[0,1,4])]
def J_turnstoneref14_mark_L0 (C:Cfg)(Q:QP1)(x0 x1 x4:V)(h:Hp):Prop:=∀ρ:Rho,ρ 0=x0→ρ 1=x1→ρ 4=x4→WA C Tryd.f27 t27 5 [] Q ρ h
def B_turnstoneref14_mark_L0 (C:Cfg)(Q:QP1)(KL0:QP3)(x0 x1 x4:V)(h:Hp):Prop:=
 oP (pLen x1) fun v7=>
 oP (hbin .lss 3 x4 v7) fun v8=>
 bP v8 (
 oP (pIx 1 x1 x4) fun v14=>
 oP (pLd v14 h) fun v15=>
 oP (pIx 1 x0 v15) fun v16=>
 valP (pSt 1 v16 (V.bool true) h) fun vu h1=>
 oP (hbin .add 3 x4 (V.int .i64 1)) fun v10=>
 KL0 x0 x1 v10 h1) (
 Q (V.tuple []) h)
theorem l_turnstoneref14_mark_L0 {C:Cfg}{Q:QP1}(I:Nat→QP3)(step:∀(k:Nat)(x0 x1 x4:V)(h:Hp),I k x0 x1 x4 h→B_turnstoneref14_mark_L0 C Q (fun x0 x1 x4 h=>∃k',k' < k∧I k' x0 x1 x4 h) x0 x1 x4 h){k:Nat}{x0 x1 x4:V}{h:Hp}(h0:I k x0 x1 x4 h):J_turnstoneref14_mark_L0 C Q x0 x1 x4 h:=by
 rintro ρ rfl rfl rfl
 exact WA.loop (fun k ρ h=>I k (ρ 0) (ρ 1) (ρ 4) h) (by kernel_rfl) (by kernel_rfl) (fun k ρ h hi=>LA.of (by kernel_rfl) (step k (ρ 0) (ρ 1) (ρ 4) h hi)) h0
def B_turnstoneref14_mark (C:Cfg)(Q:QP1)(a0 a1:V)(h:Hp):Prop:=
 J_turnstoneref14_mark_L0 C Q a0 a1 (V.int .i64 0) h
theorem c_turnstoneref14_mark {C:Cfg}(hs:C.start=startF){a0 a1:V}{h:Hp}{Q:QP1}(hk:C.K n_turnstoneref14_mark [a0,a1] h=none)(H:B_turnstoneref14_mark C Q a0 a1 h):cP C n_turnstoneref14_mark [a0,a1] h Q:=
 cP.vc (tb:=t27) hs (by unfold P0;exact Tryd.func27) (by kernel_rfl) hk (by kernel_rfl) (by kernel_rfl) H
def t13:List (Nat×List Nat):=[(87,[0,1,5]),(11415,[0,1,5,6])]
def J_turnstonelaw24_rows_L0 (C:Cfg)(Q:QP1)(x0 x1 x5:V)(h:Hp):Prop:=∀ρ:Rho,ρ 0=x0→ρ 1=x1→ρ 5=x5→WA C Tryd.f13 t13 43 [] Q ρ h
def J_turnstonelaw24_rows_L1 (C:Cfg)(Q:QP1)(KL0:QP3)(x0 x1 x5 x6:V)(h:Hp):Prop:=∀ρ:Rho,ρ 0=x0→ρ 1=x1→ρ 5=x5→ρ 6=x6→WA C Tryd.f13 t13 5707 [fun ρ h=>KL0 (ρ 0) (ρ 1) (ρ 5) h] Q ρ h
def B_turnstonelaw24_rows_L0 (C:Cfg)(Q:QP1)(KL0:QP3)(x0 x1 x5:V)(h:Hp):Prop:=
 oP (pLen x0) fun v14=>
 oP (hbin .lss 3 x5 v14) fun v15=>
 bP v15 (
 oP (pIx 1 x0 x5) fun v20=>
 oP (pLd v20 h) fun v21=>
 oP (pLen v21) fun v22=>
 oP (pIx 1 x1 x5) fun v25=>
 oP (pLd v25 h) fun v26=>
 oP (pLen v26) fun v27=>
 oP (hbin .neq 3 v22 v27) fun v28=>
 bP v28 (
 Q (V.bool false) h) (
 J_turnstonelaw24_rows_L1 C Q KL0 x0 x1 x5 (V.int .i64 0) h)) (
 Q (V.bool true) h)
theorem l_turnstonelaw24_rows_L0 {C:Cfg}{Q:QP1}(I:Nat→QP3)(step:∀(k:Nat)(x0 x1 x5:V)(h:Hp),I k x0 x1 x5 h→B_turnstonelaw24_rows_L0 C Q (fun x0 x1 x5 h=>∃k',k' < k∧I k' x0 x1 x5 h) x0 x1 x5 h){k:Nat}{x0 x1 x5:V}{h:Hp}(h0:I k x0 x1 x5 h):J_turnstonelaw24_rows_L0 C Q x0 x1 x5 h:=by
 rintro ρ rfl rfl rfl
 exact WA.loop (fun k ρ h=>I k (ρ 0) (ρ 1) (ρ 5) h) (by kernel_rfl) (by kernel_rfl) (fun k ρ h hi=>LA.of (by kernel_rfl) (step k (ρ 0) (ρ 1) (ρ 5) h hi)) h0
def B_turnstonelaw24_rows_L1 (C:Cfg)(Q:QP1)(KL0:QP3)(KL1:QP4)(x0 x1 x5 x6:V)(h:Hp):Prop:=
 oP (pIx 1 x0 x5) fun v32=>
 oP (pLd v32 h) fun v33=>
 oP (pLen v33) fun v34=>
 oP (hbin .lss 3 x6 v34) fun v35=>
 bP v35 (
 oP (pIx 1 x0 x5) fun v40=>
 oP (pLd v40 h) fun v41=>
 oP (pIx 1 v41 x6) fun v43=>
 oP (pLd v43 h) fun v44=>
 oP (pIx 1 x1 x5) fun v47=>
 oP (pLd v47 h) fun v48=>
 oP (pIx 1 v48 x6) fun v50=>
 oP (pLd v50 h) fun v51=>
 oP (hbin .neq 4 v44 v51) fun v52=>
 bP v52 (
 Q (V.bool false) h) (
 oP (hbin .add 3 x6 (V.int .i64 1)) fun v37=>
 KL1 x0 x1 x5 v37 h)) (
 oP (hbin .add 3 x5 (V.int .i64 1)) fun v17=>
 KL0 x0 x1 v17 h)
theorem l_turnstonelaw24_rows_L1 {C:Cfg}{Q:QP1}{KL0:QP3}(I:Nat→QP4)(step:∀(k:Nat)(x0 x1 x5 x6:V)(h:Hp),I k x0 x1 x5 x6 h→B_turnstonelaw24_rows_L1 C Q KL0 (fun x0 x1 x5 x6 h=>∃k',k' < k∧I k' x0 x1 x5 x6 h) x0 x1 x5 x6 h){k:Nat}{x0 x1 x5 x6:V}{h:Hp}(h0:I k x0 x1 x5 x6 h):J_turnstonelaw24_rows_L1 C Q KL0 x0 x1 x5 x6 h:=by
 rintro ρ rfl rfl rfl rfl
 exact WA.loop (fun k ρ h=>I k (ρ 0) (ρ 1) (ρ 5) (ρ 6) h) (by kernel_rfl) (by kernel_rfl) (fun k ρ h hi=>LA.of (by kernel_rfl) (step k (ρ 0) (ρ 1) (ρ 5) (ρ 6) h hi)) h0
def B_turnstonelaw24_rows (C:Cfg)(Q:QP1)(a0 a1:V)(h:Hp):Prop:=
 oP (pLen a0) fun v8=>
 oP (pLen a1) fun v10=>
 oP (hbin .neq 3 v8 v10) fun v11=>
 bP v11 (
 Q (V.bool false) h) (
 J_turnstonelaw24_rows_L0 C Q a0 a1 (V.int .i64 0) h)
theorem c_turnstonelaw24_rows {C:Cfg}(hs:C.start=startF){a0 a1:V}{h:Hp}{Q:QP1}(hk:C.K n_turnstonelaw24_rows [a0,a1] h=none)(H:B_turnstonelaw24_rows C Q a0 a1 h):cP C n_turnstonelaw24_rows [a0,a1] h Q:=
 cP.vc (tb:=t13) hs (by unfold P0;exact Tryd.func13) (by kernel_rfl) hk (by kernel_rfl) (by kernel_rfl) H
def t4:List (Nat×List Nat):=[]
def B_turnstonelaw24_AllocLive (C:Cfg)(Q:QP1)(a0:V)(h:Hp):Prop:=
 alP (hbox 24 a0) h fun v1 h1=>
 oP (pLdA 3 v1 h1) fun v8=>
 cP C n_turnstonehand_Unit [v8] h1 fun v9 h2=>
 alP (some (.cells 29 1 true false [(V.int .i64 0),(V.int .i64 0),V.nilSlice,V.nilSlice,V.nilSlice],fun l=> .ptr l 0)) h2 fun v3 h3=>
 valP (pSt 5 v3 v9 h3) fun vu h4=>
 oP (pLdA 5 v3 h4) fun v11=>
 cP C n_alloc_Live [v11] h4 fun v12 h5=>
 oP (pExt 0 v12) fun v13=>
 oP (pExt 1 v12) fun v14=>
 oP (pLdA 5 v3 h5) fun v16=>
 cP C n_turnstoneref14_Live [v16] h5 fun v17 h6=>
 oP (pExt 0 v17) fun v18=>
 oP (pExt 1 v17) fun v19=>
 cP C n_turnstonelaw24_known [] h6 fun v20 h7=>
 oP (pGd true v20) fun b2=>
 oP (gV b2 (some v13)) fun v22=>
 oP (pGd true v20) fun b3=>
 oP (gV b3 (some v18)) fun v23=>
 oP (pGd true v20) fun b4=>
 oP (gC b4 (some (n_turnstonelaw24_rows,[v22,v23]))) fun y4=>cgP C y4 h7 fun v24 h8=>
 oP (pPick v20 v24 (V.bool false)) fun v25=>
 oP (pGd true v25) fun b7=>
 oP (gV b7 (some v14)) fun v27=>
 oP (pGd true v25) fun b8=>
 oP (gV b8 (some v19)) fun v28=>
 oP (pGd true v25) fun b9=>
 oP (gC b9 (some (n_turnstonelaw24_rows,[v27,v28]))) fun y9=>cgP C y9 h8 fun v29 h9=>
 oP (pPick v25 v29 (V.bool false)) fun v30=>
 Q v30 h9
theorem c_turnstonelaw24_AllocLive {C:Cfg}(hs:C.start=startF){a0:V}{h:Hp}{Q:QP1}(hk:C.K n_turnstonelaw24_AllocLive [a0] h=none)(H:B_turnstonelaw24_AllocLive C Q a0 h):cP C n_turnstonelaw24_AllocLive [a0] h Q:=
 cP.vc (tb:=t4) hs (by unfold P0;exact Tryd.func4) (by kernel_rfl) hk (by kernel_rfl) (by kernel_rfl) H
end
end Go.Proofs.YtiepamfpilhcjaaDoor.Hx
