/-
  DERIVED. GIVEN WITH THE SEED: THE CARDS: each row of YthecofapmpibmaaGreatDoorRows.lean that lists a variable, with what it lists TIED to the program's text (the seventh form; the later family's looks); each row that meets fmt, with fmt's text TOLD by the authors' own Lean function (tested against real Go, not proved from fmt's source: count such statements apart). THE CARD IS WHAT COUNTS. Prove the row's statement (the work); the ties are given (YthecofapmpibmaaGreatDoorTie.lean); close each card by the builder's one call (the guide's Derived/Test/ToyasCard.lean, 'card_holds'). Laid BY PROGRAM, IN A SANDBOX (cutbox-door.mjs). By AI agents, Wed Nov 11 2026. No macro, syntax, notation, axiom, sorry.
-/
import Derived.Test.YthecofapmpibmaaGreatDoorRows
import GoSem.ClaimSeven
namespace Go.Proofs.YthecofapmpibmaaGreatDoor
namespace Rows

/-- THE TIED CARD OF 'turnstonelaw17.BuildKnown'. -/
def buildKnownCard : Claim7 := { stood := { row := buildKnownRow, standIns := [], harness := (true, "856edad9a9c06d81729688bc585345ed729214b6a5b6ce024ea8c3aa3ae7b2a7"), looks := true }, kinds := [], alts := [], laidByText := true, laidKinds := [.data, .pinned], laidTests := true, laidLooks := .later }
def BuildKnownCardSaid : Prop := Claim7.holds Tryz.pinned (.plain (OpenSpec.ofChange buildKnownSpec)) buildKnownCard

/-- THE SECOND FORM's CARD OF 'turnstonelaw17.BuildKnown'. -/
def buildKnownUptoCard : Claim7 := { stood := { row := buildKnownUptoRow, standIns := [], harness := (true, "856edad9a9c06d81729688bc585345ed729214b6a5b6ce024ea8c3aa3ae7b2a7"), looks := true }, kinds := [], alts := [], laidByText := true, laidKinds := [.data, .pinned], laidTests := true, laidLooks := .later }
def BuildKnownUptoCardSaid : Prop := Claim7.holds Tryz.pinned (.plain (OpenSpec.upto buildKnownSpec)) buildKnownUptoCard
end Rows
end Go.Proofs.YthecofapmpibmaaGreatDoor
