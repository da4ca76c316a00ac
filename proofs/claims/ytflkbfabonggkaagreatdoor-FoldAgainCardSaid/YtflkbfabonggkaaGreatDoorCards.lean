/-
  DERIVED. GIVEN WITH THE SEED: THE CARDS: each row of YtflkbfabonggkaaGreatDoorRows.lean that lists a variable, with what it lists TIED to the program's text (the seventh form; the later family's looks); each row that meets fmt, with fmt's text TOLD by the authors' own Lean function (tested against real Go, not proved from fmt's source: count such statements apart). THE CARD IS WHAT COUNTS. Prove the row's statement (the work); the ties are given (YtflkbfabonggkaaGreatDoorTie.lean); close each card by the builder's one call (the guide's Derived/Test/ToyasCard.lean, 'card_holds'). Laid BY PROGRAM, IN A SANDBOX (cutbox-door.mjs). By AI agents, Wed Nov 11 2026. No macro, syntax, notation, axiom, sorry.
-/
import Derived.Test.YtflkbfabonggkaaGreatDoorRows
import GoSem.ClaimSeven
namespace Go.Proofs.YtflkbfabonggkaaGreatDoor
namespace Rows

/-- THE TIED CARD OF 'turnstonelaw18.FoldAgain'. -/
def foldAgainCard : Claim7 := { stood := { row := foldAgainRow, standIns := [], harness := (true, "30dd06885d3b1375257096562cacd4d268f52c8ad84e47d9dbf36f17e8f24069"), looks := false }, kinds := [], alts := [], laidByText := true, laidKinds := [.data, .pinned], laidTests := true, laidLooks := .later }
def FoldAgainCardSaid : Prop := Claim7.holds Tryz.pinned (.plain (OpenSpec.ofChange foldAgainSpec)) foldAgainCard

/-- THE SECOND FORM's CARD OF 'turnstonelaw18.FoldAgain'. -/
def foldAgainUptoCard : Claim7 := { stood := { row := foldAgainUptoRow, standIns := [], harness := (true, "30dd06885d3b1375257096562cacd4d268f52c8ad84e47d9dbf36f17e8f24069"), looks := false }, kinds := [], alts := [], laidByText := true, laidKinds := [.data, .pinned], laidTests := true, laidLooks := .later }
def FoldAgainUptoCardSaid : Prop := Claim7.holds Tryz.pinned (.plain (OpenSpec.upto foldAgainSpec)) foldAgainUptoCard
end Rows
end Go.Proofs.YtflkbfabonggkaaGreatDoor
