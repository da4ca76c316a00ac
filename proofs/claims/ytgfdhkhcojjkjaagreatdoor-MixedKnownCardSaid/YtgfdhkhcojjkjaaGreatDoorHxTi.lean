/- The program's tie, fact by fact (the given Tie holds them in one declaration, which outgrows the kernel's memory here). -/
import Derived.Test.YtgfdhkhcojjkjaaGreatDoorRows
import Derived.LaidByTextLater
import Derived.SevenTiedAt
namespace Go.Proofs.YtgfdhkhcojjkjaaGreatDoor.Ties
open Go
abbrev L4 : List (String × DataW Unit) := [("unicode/utf8.acceptRanges", Rows.laid_unicode_utf8_acceptRanges), ("internal/strconv.uint64pow10", Rows.laid_internal_strconv_uint64pow10), ("math/bits.deBruijn32tab", Rows.laid_math_bits_deBruijn32tab), ("math/bits.deBruijn64tab", Rows.laid_math_bits_deBruijn64tab)]
abbrev K4 : List LaidKind := [.data, .data, .data, .data]
theorem t1 : Tryz.prog.worded (varsWordLater true) = true := by kernel_rfl
theorem t2 : Tryz.prog.worded (varsWordLater !true) = false := by kernel_rfl
theorem t3 : Tryz.prog.worded rootWordLater = true := by kernel_rfl
theorem t4 : L4.map (fun x => Tryz.prog.kindOfLater x.1) = K4.map some := by kernel_rfl
theorem t5 : (Tryz.prog.funcNamed "gosem.cut.vars").isSome = true := by kernel_rfl
theorem t6 : varsNamedLaterB Tryz.prog (varsId Tryz.prog) L4 = true := by kernel_rfl
theorem t7 : ∀ os tape, varsDone Tryz.prog 400 (varsId Tryz.prog) os tape = true := fun _ _ => by kernel_rfl
theorem t8 : ∀ os tape, (DataW.laidRun Tryz.prog (varsWorld Tryz.prog 400 (varsId Tryz.prog) os tape).memory 8 (L4.map (·.1))).map (·.1) = some L4 := fun _ _ => by kernel_rfl
theorem t9 : ∀ os tape, (DataW.laidRun Tryz.prog (varsWorld Tryz.prog 400 (varsId Tryz.prog) os tape).memory 8 (L4.map (·.1))).map (fun x => decide x.2.Nodup && laidRowsB Tryz.prog (varsWorld Tryz.prog 400 (varsId Tryz.prog) os tape).memory x.2) = some true := fun _ _ => by kernel_rfl
theorem tie : Tryz.prog.laidByTextLater L4 K4 true := Program.laidByTextLater_by_run 400 8 t1 t2 t3 t4 t5 t6 t7 t8 t9
theorem pin_first : Tryz.pinned.checked.prog.pinnedFits "unicode/utf8.first" = true := by kernel_rfl
theorem noOwnUnsafe : Tryz.pinned.checked.prog.headLifts.contains "ownunsafe" = false := by kernel_rfl
theorem fits1 : Tryz.pinned.checked.prog.listedFits [("unicode/utf8.first", Rows.laid_unicode_utf8_first), ("unicode/utf8.acceptRanges", Rows.laid_unicode_utf8_acceptRanges), ("internal/strconv.uint64pow10", Rows.laid_internal_strconv_uint64pow10), ("math/bits.deBruijn32tab", Rows.laid_math_bits_deBruijn32tab), ("math/bits.deBruijn64tab", Rows.laid_math_bits_deBruijn64tab)] = true := by
  unfold Program.listedFits
  rw [noOwnUnsafe]
  kernel_rfl
theorem mixedKnown_row_tie : Rows.mixedKnownRow.laidByTextAt .later Tryz.pinned [.pinned, .data, .data, .data, .data] true :=
  OpenClaim.laidByTextAt_pinned rfl rfl tie rfl rfl rfl rfl (fun y hy _e => by
    simp only [Rows.mixedKnownRow, List.zip_cons_cons, List.zip_nil_right, List.mem_cons, List.mem_nil_iff, or_false] at hy
    rcases hy with rfl | rfl | rfl | rfl | rfl
    · exact ⟨pin_first, by kernel_rfl⟩
    · cases _e
    · cases _e
    · cases _e
    · cases _e) fits1
end Go.Proofs.YtgfdhkhcojjkjaaGreatDoor.Ties
