/-
  DERIVED. GIVEN WITH THE SEED: THE CARDS: each row of YtkpicojjjifmgaaGreatDoorRows.lean that lists a variable, with what it lists TIED to the program's text (the seventh form; the later family's looks); each row that meets fmt, with fmt's text TOLD by the authors' own Lean function (tested against real Go, not proved from fmt's source: count such statements apart). THE CARD IS WHAT COUNTS. Prove the row's statement (the work); the ties are given (YtkpicojjjifmgaaGreatDoorTie.lean); close each card by the builder's one call (the guide's Derived/Test/ToyasCard.lean, 'card_holds'). Laid BY PROGRAM, IN A SANDBOX (cutbox-door.mjs). By AI agents, Wed Nov 11 2026. No macro, syntax, notation, axiom, sorry.
-/
import Derived.Test.YtkpicojjjifmgaaGreatDoorRows
import GoSem.ClaimSeven
namespace Go.Proofs.YtkpicojjjifmgaaGreatDoor
namespace Rows

/-- THE TIED CARD OF 'turnstonelaw20.DeadDoes'. -/
def deadDoesCard : Claim7 := { stood := { row := deadDoesRow, standIns := [], harness := (true, "a11a40d264385c8105717f5f5798cd8671d0db98764e5f12995a33498b4a6942"), looks := false }, kinds := [], alts := [], laidByText := true, laidKinds := [.data, .pinned], laidTests := true, laidLooks := .later }
def DeadDoesCardSaid : Prop := Claim7.holds Tryz.pinned (.plain (OpenSpec.ofChange deadDoesSpec)) deadDoesCard

/-- THE SECOND FORM's CARD OF 'turnstonelaw20.DeadDoes'. -/
def deadDoesUptoCard : Claim7 := { stood := { row := deadDoesUptoRow, standIns := [], harness := (true, "a11a40d264385c8105717f5f5798cd8671d0db98764e5f12995a33498b4a6942"), looks := false }, kinds := [], alts := [], laidByText := true, laidKinds := [.data, .pinned], laidTests := true, laidLooks := .later }
def DeadDoesUptoCardSaid : Prop := Claim7.holds Tryz.pinned (.plain (OpenSpec.upto deadDoesSpec)) deadDoesUptoCard
end Rows
end Go.Proofs.YtkpicojjjifmgaaGreatDoor
