/-
  DERIVED. GIVEN WITH THE SEED: THE CARDS: each row of YtbmlegogjhmmbacGreatDoorRows.lean that lists a variable, with what it lists TIED to the program's text (the seventh form; the later family's looks); each row that meets fmt, with fmt's text TOLD by the authors' own Lean function (tested against real Go, not proved from fmt's source: count such statements apart). THE CARD IS WHAT COUNTS. Prove the row's statement (the work); the ties are given (YtbmlegogjhmmbacGreatDoorTie.lean); close each card by the builder's one call (the guide's Derived/Test/ToyasCard.lean, 'card_holds'). Laid BY PROGRAM, IN A SANDBOX (cutbox-door.mjs). By AI agents, Wed Nov 11 2026. No macro, syntax, notation, axiom, sorry.
-/
import Derived.Test.YtbmlegogjhmmbacGreatDoorRows
import GoSem.ClaimSeven
namespace Go.Proofs.YtbmlegogjhmmbacGreatDoor
namespace Rows

/-- THE TIED CARD OF 'turnstonelaw26.EmitKnown'. -/
def emitKnownCard : Claim7 := { stood := { row := emitKnownRow, standIns := [], harness := (true, "b4c01d9f48c7bd8f32aa30368bb891d92becffaae2455261fb40f55b29662510"), looks := true }, kinds := [], alts := [], laidByText := true, laidKinds := [.data, .pinned], laidTests := true, laidLooks := .later }
def EmitKnownCardSaid : Prop := Claim7.holds Tryz.pinned (.plain (OpenSpec.ofChange emitKnownSpec)) emitKnownCard

/-- THE SECOND FORM's CARD OF 'turnstonelaw26.EmitKnown'. -/
def emitKnownUptoCard : Claim7 := { stood := { row := emitKnownUptoRow, standIns := [], harness := (true, "b4c01d9f48c7bd8f32aa30368bb891d92becffaae2455261fb40f55b29662510"), looks := true }, kinds := [], alts := [], laidByText := true, laidKinds := [.data, .pinned], laidTests := true, laidLooks := .later }
def EmitKnownUptoCardSaid : Prop := Claim7.holds Tryz.pinned (.plain (OpenSpec.upto emitKnownSpec)) emitKnownUptoCard
end Rows
end Go.Proofs.YtbmlegogjhmmbacGreatDoor
