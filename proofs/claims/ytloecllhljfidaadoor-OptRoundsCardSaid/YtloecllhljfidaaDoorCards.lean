/-
  DERIVED. GIVEN WITH THE SEED: THE CARDS: each row of YtloecllhljfidaaDoorRows.lean that lists a variable, with what it lists TIED to the program's text (the seventh form; the later family's looks); each row that meets fmt, with fmt's text TOLD by the authors' own Lean function (tested against real Go, not proved from fmt's source: count such statements apart). THE CARD IS WHAT COUNTS. Prove the row's statement (the work); the ties are given (YtloecllhljfidaaDoorTie.lean); close each card by the builder's one call (the guide's Derived/Test/ToyasCard.lean, 'card_holds'). Laid BY PROGRAM, IN A SANDBOX (cutbox-door.mjs). By AI agents, Wed Nov 11 2026. No macro, syntax, notation, axiom, sorry.
-/
import Derived.Test.YtloecllhljfidaaDoorRows
import GoSem.ClaimSeven
namespace Go.Proofs.YtloecllhljfidaaDoor
namespace Rows

/-- THE TIED CARD OF 'turnstonelaw22.OptRounds'. -/
def optRoundsCard : Claim7 := { stood := { row := optRoundsRow, standIns := [], harness := (true, "0bceb7baf6ada5cd7e32616e8f140c082571513dadb339090d937359e49dc72b"), looks := false }, kinds := [], alts := [], laidByText := true, laidKinds := [.data, .pinned], laidTests := true, laidLooks := .later }
def OptRoundsCardSaid : Prop := Claim7.holds Tryd.pinned (.plain (OpenSpec.ofChange optRoundsSpec)) optRoundsCard

/-- THE SECOND FORM's CARD OF 'turnstonelaw22.OptRounds'. -/
def optRoundsUptoCard : Claim7 := { stood := { row := optRoundsUptoRow, standIns := [], harness := (true, "0bceb7baf6ada5cd7e32616e8f140c082571513dadb339090d937359e49dc72b"), looks := false }, kinds := [], alts := [], laidByText := true, laidKinds := [.data, .pinned], laidTests := true, laidLooks := .later }
def OptRoundsUptoCardSaid : Prop := Claim7.holds Tryd.pinned (.plain (OpenSpec.upto optRoundsSpec)) optRoundsUptoCard
end Rows
end Go.Proofs.YtloecllhljfidaaDoor
