/-
  DERIVED. GIVEN WITH THE SEED: THE CARDS: each row of YtnehpeeglbgfpaaDoorRows.lean that lists a variable, with what it lists TIED to the program's text (the seventh form; the later family's looks); each row that meets fmt, with fmt's text TOLD by the authors' own Lean function (tested against real Go, not proved from fmt's source: count such statements apart). THE CARD IS WHAT COUNTS. Prove the row's statement (the work); the ties are given (YtnehpeeglbgfpaaDoorTie.lean); close each card by the builder's one call (the guide's Derived/Test/ToyasCard.lean, 'card_holds'). Laid BY PROGRAM, IN A SANDBOX (cutbox-door.mjs). By AI agents, Wed Nov 11 2026. No macro, syntax, notation, axiom, sorry.
-/
import Derived.Test.YtnehpeeglbgfpaaDoorRows
import GoSem.ClaimSeven
namespace Go.Proofs.YtnehpeeglbgfpaaDoor
namespace Rows

/-- THE TIED CARD OF 'turnstonelaw24.AllocFew'. -/
def allocFewCard : Claim7 := { stood := { row := allocFewRow, standIns := [], harness := (true, "bbcbb5f831542802679a9e47460f6e1dd8eaede358c0a63d1e4ad7bdc8e9a578"), looks := true }, kinds := [], alts := [], laidByText := true, laidKinds := [.data, .pinned], laidTests := true, laidLooks := .later }
def AllocFewCardSaid : Prop := Claim7.holds Tryd.pinned (.plain (OpenSpec.ofChange allocFewSpec)) allocFewCard

/-- THE TIED CARD OF 'turnstonelaw24.AllocRight'. -/
def allocRightCard : Claim7 := { stood := { row := allocRightRow, standIns := [], harness := (true, "bbcbb5f831542802679a9e47460f6e1dd8eaede358c0a63d1e4ad7bdc8e9a578"), looks := true }, kinds := [], alts := [], laidByText := true, laidKinds := [.data, .pinned], laidTests := true, laidLooks := .later }
def AllocRightCardSaid : Prop := Claim7.holds Tryd.pinned (.plain (OpenSpec.ofChange allocRightSpec)) allocRightCard

/-- THE SECOND FORM's CARD OF 'turnstonelaw24.AllocFew'. -/
def allocFewUptoCard : Claim7 := { stood := { row := allocFewUptoRow, standIns := [], harness := (true, "bbcbb5f831542802679a9e47460f6e1dd8eaede358c0a63d1e4ad7bdc8e9a578"), looks := true }, kinds := [], alts := [], laidByText := true, laidKinds := [.data, .pinned], laidTests := true, laidLooks := .later }
def AllocFewUptoCardSaid : Prop := Claim7.holds Tryd.pinned (.plain (OpenSpec.upto allocFewSpec)) allocFewUptoCard

/-- THE SECOND FORM's CARD OF 'turnstonelaw24.AllocRight'. -/
def allocRightUptoCard : Claim7 := { stood := { row := allocRightUptoRow, standIns := [], harness := (true, "bbcbb5f831542802679a9e47460f6e1dd8eaede358c0a63d1e4ad7bdc8e9a578"), looks := true }, kinds := [], alts := [], laidByText := true, laidKinds := [.data, .pinned], laidTests := true, laidLooks := .later }
def AllocRightUptoCardSaid : Prop := Claim7.holds Tryd.pinned (.plain (OpenSpec.upto allocRightSpec)) allocRightUptoCard
end Rows
end Go.Proofs.YtnehpeeglbgfpaaDoor
