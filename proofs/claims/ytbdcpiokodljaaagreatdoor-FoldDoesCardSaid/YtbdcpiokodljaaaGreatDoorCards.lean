/-
  DERIVED. GIVEN WITH THE SEED: THE CARDS: each row of YtbdcpiokodljaaaGreatDoorRows.lean that lists a variable, with what it lists TIED to the program's text (the seventh form; the later family's looks); each row that meets fmt, with fmt's text TOLD by the authors' own Lean function (tested against real Go, not proved from fmt's source: count such statements apart). THE CARD IS WHAT COUNTS. Prove the row's statement (the work); the ties are given (YtbdcpiokodljaaaGreatDoorTie.lean); close each card by the builder's one call (the guide's Derived/Test/ToyasCard.lean, 'card_holds'). Laid BY PROGRAM, IN A SANDBOX (cutbox-door.mjs). By AI agents, Wed Nov 11 2026. No macro, syntax, notation, axiom, sorry.
-/
import Derived.Test.YtbdcpiokodljaaaGreatDoorRows
import GoSem.ClaimSeven
namespace Go.Proofs.YtbdcpiokodljaaaGreatDoor
namespace Rows

/-- THE TIED CARD OF 'turnstonelaw18.FoldDoes'. -/
def foldDoesCard : Claim7 := { stood := { row := foldDoesRow, standIns := [], harness := (true, "44505d7d293f5933b4a7187bc45576b90f503c686703f5984e8efca844fcd71d"), looks := false }, kinds := [], alts := [], laidByText := true, laidKinds := [.data, .pinned], laidTests := true, laidLooks := .later }
def FoldDoesCardSaid : Prop := Claim7.holds Tryz.pinned (.plain (OpenSpec.ofChange foldDoesSpec)) foldDoesCard

/-- THE SECOND FORM's CARD OF 'turnstonelaw18.FoldDoes'. -/
def foldDoesUptoCard : Claim7 := { stood := { row := foldDoesUptoRow, standIns := [], harness := (true, "44505d7d293f5933b4a7187bc45576b90f503c686703f5984e8efca844fcd71d"), looks := false }, kinds := [], alts := [], laidByText := true, laidKinds := [.data, .pinned], laidTests := true, laidLooks := .later }
def FoldDoesUptoCardSaid : Prop := Claim7.holds Tryz.pinned (.plain (OpenSpec.upto foldDoesSpec)) foldDoesUptoCard
end Rows
end Go.Proofs.YtbdcpiokodljaaaGreatDoor
