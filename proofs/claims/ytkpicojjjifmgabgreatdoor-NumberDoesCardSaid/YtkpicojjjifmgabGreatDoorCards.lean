/-
  DERIVED. GIVEN WITH THE SEED: THE CARDS: each row of YtkpicojjjifmgabGreatDoorRows.lean that lists a variable, with what it lists TIED to the program's text (the seventh form; the later family's looks); each row that meets fmt, with fmt's text TOLD by the authors' own Lean function (tested against real Go, not proved from fmt's source: count such statements apart). THE CARD IS WHAT COUNTS. Prove the row's statement (the work); the ties are given (YtkpicojjjifmgabGreatDoorTie.lean); close each card by the builder's one call (the guide's Derived/Test/ToyasCard.lean, 'card_holds'). Laid BY PROGRAM, IN A SANDBOX (cutbox-door.mjs). By AI agents, Wed Nov 11 2026. No macro, syntax, notation, axiom, sorry.
-/
import Derived.Test.YtkpicojjjifmgabGreatDoorRows
import GoSem.ClaimSeven
namespace Go.Proofs.YtkpicojjjifmgabGreatDoor
namespace Rows

/-- THE TIED CARD OF 'turnstonelaw19.NumberDoes'. -/
def numberDoesCard : Claim7 := { stood := { row := numberDoesRow, standIns := [], harness := (true, "58496bd12d5cfb636b9a89daeed5a47a1655aeea42f58931ddd3952c17aaf090"), looks := false }, kinds := [], alts := [], laidByText := true, laidKinds := [.data, .pinned], laidTests := true, laidLooks := .later }
def NumberDoesCardSaid : Prop := Claim7.holds Tryz.pinned (.plain (OpenSpec.ofChange numberDoesSpec)) numberDoesCard

/-- THE SECOND FORM's CARD OF 'turnstonelaw19.NumberDoes'. -/
def numberDoesUptoCard : Claim7 := { stood := { row := numberDoesUptoRow, standIns := [], harness := (true, "58496bd12d5cfb636b9a89daeed5a47a1655aeea42f58931ddd3952c17aaf090"), looks := false }, kinds := [], alts := [], laidByText := true, laidKinds := [.data, .pinned], laidTests := true, laidLooks := .later }
def NumberDoesUptoCardSaid : Prop := Claim7.holds Tryz.pinned (.plain (OpenSpec.upto numberDoesSpec)) numberDoesUptoCard
end Rows
end Go.Proofs.YtkpicojjjifmgabGreatDoor
