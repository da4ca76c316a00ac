/-
  DERIVED. GIVEN WITH THE SEED: THE CARDS: each row of YtjgjgngfjopaaaaDoorRows.lean that lists a variable, with what it lists TIED to the program's text (the seventh form; the later family's looks); each row that meets fmt, with fmt's text TOLD by the authors' own Lean function (tested against real Go, not proved from fmt's source: count such statements apart). THE CARD IS WHAT COUNTS. Prove the row's statement (the work); the ties are given (YtjgjgngfjopaaaaDoorTie.lean); close each card by the builder's one call (the guide's Derived/Test/ToyasCard.lean, 'card_holds'). Laid BY PROGRAM, IN A SANDBOX (cutbox-door.mjs). By AI agents, Wed Nov 11 2026. No macro, syntax, notation, axiom, sorry.
-/
import Derived.Test.YtjgjgngfjopaaaaDoorRows
import GoSem.ClaimSeven
namespace Go.Proofs.YtjgjgngfjopaaaaDoor
namespace Rows

/-- THE TIED CARD OF 'turnstonelaw20.DeadAgain'. -/
def deadAgainCard : Claim7 := { stood := { row := deadAgainRow, standIns := [], harness := (true, "fa11b401dff22493d1aa68ce19817f08acf353d08f779a90048fe5445d040067"), looks := false }, kinds := [], alts := [], laidByText := true, laidKinds := [.data, .pinned], laidTests := true, laidLooks := .later }
def DeadAgainCardSaid : Prop := Claim7.holds Tryd.pinned (.plain (OpenSpec.ofChange deadAgainSpec)) deadAgainCard

/-- THE SECOND FORM's CARD OF 'turnstonelaw20.DeadAgain'. -/
def deadAgainUptoCard : Claim7 := { stood := { row := deadAgainUptoRow, standIns := [], harness := (true, "fa11b401dff22493d1aa68ce19817f08acf353d08f779a90048fe5445d040067"), looks := false }, kinds := [], alts := [], laidByText := true, laidKinds := [.data, .pinned], laidTests := true, laidLooks := .later }
def DeadAgainUptoCardSaid : Prop := Claim7.holds Tryd.pinned (.plain (OpenSpec.upto deadAgainSpec)) deadAgainUptoCard
end Rows
end Go.Proofs.YtjgjgngfjopaaaaDoor
