/-
  DERIVED. GIVEN WITH THE SEED: THE CARDS: each row of YtloecllhljfidaaGreatDoorRows.lean that lists a variable, with what it lists TIED to the program's text (the seventh form; the later family's looks); each row that meets fmt, with fmt's text TOLD by the authors' own Lean function (tested against real Go, not proved from fmt's source: count such statements apart). THE CARD IS WHAT COUNTS. Prove the row's statement (the work); the ties are given (YtloecllhljfidaaGreatDoorTie.lean); close each card by the builder's one call (the guide's Derived/Test/ToyasCard.lean, 'card_holds'). Laid BY PROGRAM, IN A SANDBOX (cutbox-door.mjs). By AI agents, Wed Nov 11 2026. No macro, syntax, notation, axiom, sorry.
-/
import Derived.Test.YtloecllhljfidaaGreatDoorRows
import GoSem.ClaimSeven
namespace Go.Proofs.YtloecllhljfidaaGreatDoor
namespace Rows

/-- THE TIED CARD OF 'turnstonelaw22.OptDoes'. -/
def optDoesCard : Claim7 := { stood := { row := optDoesRow, standIns := [], harness := (true, "d0b6ee826595d600fe5428aed4ab671b2c2f83ebe2d81a54cefc02ad272f6b2a"), looks := false }, kinds := [], alts := [], laidByText := true, laidKinds := [.data, .pinned], laidTests := true, laidLooks := .later }
def OptDoesCardSaid : Prop := Claim7.holds Tryz.pinned (.plain (OpenSpec.ofChange optDoesSpec)) optDoesCard

/-- THE SECOND FORM's CARD OF 'turnstonelaw22.OptDoes'. -/
def optDoesUptoCard : Claim7 := { stood := { row := optDoesUptoRow, standIns := [], harness := (true, "d0b6ee826595d600fe5428aed4ab671b2c2f83ebe2d81a54cefc02ad272f6b2a"), looks := false }, kinds := [], alts := [], laidByText := true, laidKinds := [.data, .pinned], laidTests := true, laidLooks := .later }
def OptDoesUptoCardSaid : Prop := Claim7.holds Tryz.pinned (.plain (OpenSpec.upto optDoesSpec)) optDoesUptoCard
end Rows
end Go.Proofs.YtloecllhljfidaaGreatDoor
