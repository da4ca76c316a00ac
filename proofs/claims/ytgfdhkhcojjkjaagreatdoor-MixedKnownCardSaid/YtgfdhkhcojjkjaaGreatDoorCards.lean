/-
  DERIVED. GIVEN WITH THE SEED: THE CARDS: each row of YtgfdhkhcojjkjaaGreatDoorRows.lean that lists a variable, with what it lists TIED to the program's text (the seventh form; the later family's looks); each row that meets fmt, with fmt's text TOLD by the authors' own Lean function (tested against real Go, not proved from fmt's source: count such statements apart). THE CARD IS WHAT COUNTS. Prove the row's statement (the work); the ties are given (YtgfdhkhcojjkjaaGreatDoorTie.lean); close each card by the builder's one call (the guide's Derived/Test/ToyasCard.lean, 'card_holds'). Laid BY PROGRAM, IN A SANDBOX (cutbox-door.mjs). By AI agents, Wed Nov 11 2026. No macro, syntax, notation, axiom, sorry.
-/
import Derived.Test.YtgfdhkhcojjkjaaGreatDoorRows
import GoSem.ClaimSeven
namespace Go.Proofs.YtgfdhkhcojjkjaaGreatDoor
namespace Rows

/-- THE TIED CARD OF 'turnstonelaw29.MixedKnown'. -/
def mixedKnownCard : Claim7 := { stood := { row := mixedKnownRow, standIns := [], harness := (true, "f2ccf589dca5cee64685f81d70ce01ca360f8ab7c0611e2d1692a3f7c6853af9"), looks := true }, kinds := [], alts := [], laidByText := true, laidKinds := [.pinned, .data, .data, .data, .data], laidTests := true, laidLooks := .later }
def MixedKnownCardSaid : Prop := Claim7.holds Tryz.pinned (.plain (OpenSpec.ofChange mixedKnownSpec)) mixedKnownCard

/-- THE SECOND FORM's CARD OF 'turnstonelaw29.MixedKnown'. -/
def mixedKnownUptoCard : Claim7 := { stood := { row := mixedKnownUptoRow, standIns := [], harness := (true, "f2ccf589dca5cee64685f81d70ce01ca360f8ab7c0611e2d1692a3f7c6853af9"), looks := true }, kinds := [], alts := [], laidByText := true, laidKinds := [.pinned, .data, .data, .data, .data], laidTests := true, laidLooks := .later }
def MixedKnownUptoCardSaid : Prop := Claim7.holds Tryz.pinned (.plain (OpenSpec.upto mixedKnownSpec)) mixedKnownUptoCard
end Rows
end Go.Proofs.YtgfdhkhcojjkjaaGreatDoor
