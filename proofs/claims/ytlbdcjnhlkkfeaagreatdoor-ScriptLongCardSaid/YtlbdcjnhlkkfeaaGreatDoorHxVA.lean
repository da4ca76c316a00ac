/- What is left of the code of functions, opened in one piece: printed by vc3.py, checked by computation. -/
import Derived.Test.YtlbdcjnhlkkfeaaGreatDoorHxJv
namespace Go.Proofs.YtlbdcjnhlkkfeaaGreatDoor.Hx
abbrev n_turnstonelaw30_ScriptLong : Nat := 3
abbrev n_turnstonehand_Pick : Nat := 4
abbrev n_script_Run : Nat := 5
abbrev n_turnstonelaw30_known : Nat := 6
abbrev n_compile_Text : Nat := 7
abbrev n_mixed_New : Nat := 8
abbrev n_script_lines : Nat := 9
abbrev n_script_Parse : Nat := 10
abbrev n_script_Tell : Nat := 11
abbrev n_mixed_Driver_Play : Nat := 12
abbrev n_script_out : Nat := 13
abbrev n_mixed_Driver_Machine : Nat := 14
abbrev n_interp_Machine_World : Nat := 15
abbrev n_world_World_Trace : Nat := 16
abbrev n_strings_Split : Nat := 25
abbrev n_mixed_Driver_interpret : Nat := 32
abbrev n_mixed_Driver_compile : Nat := 33
abbrev n_mixed_Driver_enter : Nat := 34
abbrev n_cache_Cache_Drop : Nat := 35
abbrev n_cache_Cache_Invalidate : Nat := 36
abbrev n_prof_Profile_Add : Nat := 37
abbrev n_mixed_Driver_auto : Nat := 38
abbrev n_interp_Machine_Over : Nat := 39
abbrev n_strings_genSplit : Nat := 52
abbrev n_cache_Cache_find : Nat := 74
abbrev n_container_heap_Remove : Nat := 75
abbrev n_strings_explode : Nat := 117
abbrev n_strings_Count : Nat := 118
abbrev n_strings_Index : Nat := 119
abbrev n_slices_IndexFunc_cache_items_cache_item : Nat := 175
abbrev n_cache_Cache_find_1 : Nat := 176
abbrev n_utf8_RuneCountInString : Nat := 228
abbrev n_bytealg_CountString : Nat := 230
abbrev n_stringslite_Index : Nat := 231
abbrev n_stringslite_IndexByte : Nat := 349
abbrev n_bytealg_IndexString : Nat := 350
abbrev n_bytealg_Cutover : Nat := 351
abbrev n_bytealg_IndexRabinKarp_string : Nat := 352
abbrev n_bytealg_IndexByteString : Nat := 481
set_option maxRecDepth 100000
noncomputable section
/-! ### turnstone/turnstonehand.Pick -/
def t4 : List (Nat × List Nat) := [(30, [0])]
def J_turnstonehand_Pick_R3 (C : Cfg) (Q : V → Hp → Prop) (x0 : V) (h : Hp) : Prop := ∀ ρ : Rho, ρ 0 = x0 → WA C Tryz.f4 t4 15 [] Q ρ h
def B_turnstonehand_Pick_R3 (C : Cfg) (Q : V → Hp → Prop) (x0 : V) (h : Hp) : Prop :=
 Q x0 h
theorem j_turnstonehand_Pick_R3 {C : Cfg} {Q : V → Hp → Prop} {x0 : V} {h : Hp} (H : B_turnstonehand_Pick_R3 C Q x0 h) : J_turnstonehand_Pick_R3 C Q x0 h := by
 rintro ρ rfl
 exact WA.of (by kernel_rfl) H
def B_turnstonehand_Pick (C : Cfg) (Q : V → Hp → Prop) (a0 a1 : V) (h : Hp) : Prop :=
 oP (hbin .rem 3 a0 a1) fun v7 =>
 oP (hbin .lss 3 v7 (V.int .i64 0)) fun v9 =>
 bP v9 (
 oP (hbin .add 3 v7 a1) fun v12 =>
 J_turnstonehand_Pick_R3 C Q v12 h) (
 J_turnstonehand_Pick_R3 C Q v7 h)
theorem c_turnstonehand_Pick {C : Cfg} (hs : C.start = startF) {a0 a1 : V} {h : Hp} {Q : V → Hp → Prop} (hk : C.K n_turnstonehand_Pick [a0, a1] h = none) (H : B_turnstonehand_Pick C Q a0 a1 h) : cP C n_turnstonehand_Pick [a0, a1] h Q :=
 cP.vc (tb := t4) hs (by unfold P0; exact Tryz.func4) (by kernel_rfl) hk (by kernel_rfl) (by kernel_rfl) H
end
end Go.Proofs.YtlbdcjnhlkkfeaaGreatDoor.Hx
