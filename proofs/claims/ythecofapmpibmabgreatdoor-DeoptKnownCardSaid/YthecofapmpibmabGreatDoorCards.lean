/-
  DERIVED. GIVEN WITH THE SEED: THE CARDS: each row of YthecofapmpibmabGreatDoorRows.lean that lists a variable, with what it lists TIED to the program's text (the seventh form; the later family's looks); each row that meets fmt, with fmt's text TOLD by the authors' own Lean function (tested against real Go, not proved from fmt's source: count such statements apart). THE CARD IS WHAT COUNTS. Prove the row's statement (the work); the ties are given (YthecofapmpibmabGreatDoorTie.lean); close each card by the builder's one call (the guide's Derived/Test/ToyasCard.lean, 'card_holds'). Laid BY PROGRAM, IN A SANDBOX (cutbox-door.mjs). By AI agents, Wed Nov 11 2026. No macro, syntax, notation, axiom, sorry.
-/
import Derived.Test.YthecofapmpibmabGreatDoorRows
import GoSem.ClaimSeven
namespace Go.Proofs.YthecofapmpibmabGreatDoor
namespace Rows

/-- THE TIED CARD OF 'turnstonelaw28.DeoptKnown'. -/
def deoptKnownCard : Claim7 := { stood := { row := deoptKnownRow, standIns := [], harness := (true, "6bb92f714b137e92467897b60ea9dc1ca55547f06d0c2f6572c4e46ee4b943e2"), looks := true }, kinds := [], alts := [], laidByText := true, laidKinds := [.data, .pinned], laidTests := true, laidLooks := .later }
def DeoptKnownCardSaid : Prop := Claim7.holds Tryz.pinned (.plain (OpenSpec.ofChange deoptKnownSpec)) deoptKnownCard

/-- THE SECOND FORM's CARD OF 'turnstonelaw28.DeoptKnown'. -/
def deoptKnownUptoCard : Claim7 := { stood := { row := deoptKnownUptoRow, standIns := [], harness := (true, "6bb92f714b137e92467897b60ea9dc1ca55547f06d0c2f6572c4e46ee4b943e2"), looks := true }, kinds := [], alts := [], laidByText := true, laidKinds := [.data, .pinned], laidTests := true, laidLooks := .later }
def DeoptKnownUptoCardSaid : Prop := Claim7.holds Tryz.pinned (.plain (OpenSpec.upto deoptKnownSpec)) deoptKnownUptoCard
end Rows
end Go.Proofs.YthecofapmpibmabGreatDoor
