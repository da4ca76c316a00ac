/-
  DERIVED. GIVEN WITH THE SEED: THE CARDS: each row of YtbmlegogjhmmbabDoorRows.lean that lists a variable, with what it lists TIED to the program's text (the seventh form; the later family's looks); each row that meets fmt, with fmt's text TOLD by the authors' own Lean function (tested against real Go, not proved from fmt's source: count such statements apart). THE CARD IS WHAT COUNTS. Prove the row's statement (the work); the ties are given (YtbmlegogjhmmbabDoorTie.lean); close each card by the builder's one call (the guide's Derived/Test/ToyasCard.lean, 'card_holds'). Laid BY PROGRAM, IN A SANDBOX (cutbox-door.mjs). By AI agents, Wed Nov 11 2026. No macro, syntax, notation, axiom, sorry.
-/
import Derived.Test.YtbmlegogjhmmbabDoorRows
import GoSem.ClaimSeven
namespace Go.Proofs.YtbmlegogjhmmbabDoor
namespace Rows

/-- THE TIED CARD OF 'turnstonelaw22.OptKnown'. -/
def optKnownCard : Claim7 := { stood := { row := optKnownRow, standIns := [], harness := (true, "00ee9ef05c18f6a2e79180f23a62b32b6613d90b24b9baf1d2e4179dbd491b3d"), looks := false }, kinds := [], alts := [], laidByText := true, laidKinds := [.data, .pinned], laidTests := true, laidLooks := .later }
def OptKnownCardSaid : Prop := Claim7.holds Tryd.pinned (.plain (OpenSpec.ofChange optKnownSpec)) optKnownCard

/-- THE SECOND FORM's CARD OF 'turnstonelaw22.OptKnown'. -/
def optKnownUptoCard : Claim7 := { stood := { row := optKnownUptoRow, standIns := [], harness := (true, "00ee9ef05c18f6a2e79180f23a62b32b6613d90b24b9baf1d2e4179dbd491b3d"), looks := false }, kinds := [], alts := [], laidByText := true, laidKinds := [.data, .pinned], laidTests := true, laidLooks := .later }
def OptKnownUptoCardSaid : Prop := Claim7.holds Tryd.pinned (.plain (OpenSpec.upto optKnownSpec)) optKnownUptoCard
end Rows
end Go.Proofs.YtbmlegogjhmmbabDoor
