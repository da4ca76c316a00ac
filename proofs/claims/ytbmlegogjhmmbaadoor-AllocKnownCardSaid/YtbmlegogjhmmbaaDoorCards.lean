/-
  DERIVED. GIVEN WITH THE SEED: THE CARDS: each row of YtbmlegogjhmmbaaDoorRows.lean that lists a variable, with what it lists TIED to the program's text (the seventh form; the later family's looks); each row that meets fmt, with fmt's text TOLD by the authors' own Lean function (tested against real Go, not proved from fmt's source: count such statements apart). THE CARD IS WHAT COUNTS. Prove the row's statement (the work); the ties are given (YtbmlegogjhmmbaaDoorTie.lean); close each card by the builder's one call (the guide's Derived/Test/ToyasCard.lean, 'card_holds'). Laid BY PROGRAM, IN A SANDBOX (cutbox-door.mjs). By AI agents, Wed Nov 11 2026. No macro, syntax, notation, axiom, sorry.
-/
import Derived.Test.YtbmlegogjhmmbaaDoorRows
import GoSem.ClaimSeven
namespace Go.Proofs.YtbmlegogjhmmbaaDoor
namespace Rows

/-- THE TIED CARD OF 'turnstonelaw24.AllocKnown'. -/
def allocKnownCard : Claim7 := { stood := { row := allocKnownRow, standIns := [], harness := (true, "395ad30fa531f870a35ffe4a21c8565df4884a58bbe1a9cfc91846068177b0f8"), looks := true }, kinds := [], alts := [], laidByText := true, laidKinds := [.data, .pinned], laidTests := true, laidLooks := .later }
def AllocKnownCardSaid : Prop := Claim7.holds Tryd.pinned (.plain (OpenSpec.ofChange allocKnownSpec)) allocKnownCard

/-- THE SECOND FORM's CARD OF 'turnstonelaw24.AllocKnown'. -/
def allocKnownUptoCard : Claim7 := { stood := { row := allocKnownUptoRow, standIns := [], harness := (true, "395ad30fa531f870a35ffe4a21c8565df4884a58bbe1a9cfc91846068177b0f8"), looks := true }, kinds := [], alts := [], laidByText := true, laidKinds := [.data, .pinned], laidTests := true, laidLooks := .later }
def AllocKnownUptoCardSaid : Prop := Claim7.holds Tryd.pinned (.plain (OpenSpec.upto allocKnownSpec)) allocKnownUptoCard
end Rows
end Go.Proofs.YtbmlegogjhmmbaaDoor
