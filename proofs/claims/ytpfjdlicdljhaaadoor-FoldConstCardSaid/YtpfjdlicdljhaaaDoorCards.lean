/-
  DERIVED. GIVEN WITH THE SEED: THE CARDS: each row of YtpfjdlicdljhaaaDoorRows.lean that lists a variable, with what it lists TIED to the program's text (the seventh form; the later family's looks); each row that meets fmt, with fmt's text TOLD by the authors' own Lean function (tested against real Go, not proved from fmt's source: count such statements apart). THE CARD IS WHAT COUNTS. Prove the row's statement (the work); the ties are given (YtpfjdlicdljhaaaDoorTie.lean); close each card by the builder's one call (the guide's Derived/Test/ToyasCard.lean, 'card_holds'). Laid BY PROGRAM, IN A SANDBOX (cutbox-door.mjs). By AI agents, Wed Nov 11 2026. No macro, syntax, notation, axiom, sorry.
-/
import Derived.Test.YtpfjdlicdljhaaaDoorRows
import GoSem.ClaimSeven
namespace Go.Proofs.YtpfjdlicdljhaaaDoor
namespace Rows

/-- THE TIED CARD OF 'turnstonelaw18.FoldLeaves'. -/
def foldLeavesCard : Claim7 := { stood := { row := foldLeavesRow, standIns := [], harness := (true, "6a5710b633666edb7c26cb81678a81262878af3727ab1349bfe052a2993747fc"), looks := false }, kinds := [], alts := [], laidByText := true, laidKinds := [.data, .pinned], laidTests := true, laidLooks := .later }
def FoldLeavesCardSaid : Prop := Claim7.holds Tryd.pinned (.plain (OpenSpec.ofChange foldLeavesSpec)) foldLeavesCard

/-- THE TIED CARD OF 'turnstonelaw18.FoldConst'. -/
def foldConstCard : Claim7 := { stood := { row := foldConstRow, standIns := [], harness := (true, "6a5710b633666edb7c26cb81678a81262878af3727ab1349bfe052a2993747fc"), looks := false }, kinds := [], alts := [], laidByText := true, laidKinds := [.data, .pinned], laidTests := true, laidLooks := .later }
def FoldConstCardSaid : Prop := Claim7.holds Tryd.pinned (.plain (OpenSpec.ofChange foldConstSpec)) foldConstCard

/-- THE SECOND FORM's CARD OF 'turnstonelaw18.FoldLeaves'. -/
def foldLeavesUptoCard : Claim7 := { stood := { row := foldLeavesUptoRow, standIns := [], harness := (true, "6a5710b633666edb7c26cb81678a81262878af3727ab1349bfe052a2993747fc"), looks := false }, kinds := [], alts := [], laidByText := true, laidKinds := [.data, .pinned], laidTests := true, laidLooks := .later }
def FoldLeavesUptoCardSaid : Prop := Claim7.holds Tryd.pinned (.plain (OpenSpec.upto foldLeavesSpec)) foldLeavesUptoCard

/-- THE SECOND FORM's CARD OF 'turnstonelaw18.FoldConst'. -/
def foldConstUptoCard : Claim7 := { stood := { row := foldConstUptoRow, standIns := [], harness := (true, "6a5710b633666edb7c26cb81678a81262878af3727ab1349bfe052a2993747fc"), looks := false }, kinds := [], alts := [], laidByText := true, laidKinds := [.data, .pinned], laidTests := true, laidLooks := .later }
def FoldConstUptoCardSaid : Prop := Claim7.holds Tryd.pinned (.plain (OpenSpec.upto foldConstSpec)) foldConstUptoCard
end Rows
end Go.Proofs.YtpfjdlicdljhaaaDoor
