/-
  DERIVED. GIVEN WITH THE SEED: THE CARDS: each row of YtpnddokajmjpbaaDoorRows.lean that lists a variable, with what it lists TIED to the program's text (the seventh form; the later family's looks); each row that meets fmt, with fmt's text TOLD by the authors' own Lean function (tested against real Go, not proved from fmt's source: count such statements apart). THE CARD IS WHAT COUNTS. Prove the row's statement (the work); the ties are given (YtpnddokajmjpbaaDoorTie.lean); close each card by the builder's one call (the guide's Derived/Test/ToyasCard.lean, 'card_holds'). Laid BY PROGRAM, IN A SANDBOX (cutbox-door.mjs). By AI agents, Wed Nov 11 2026. No macro, syntax, notation, axiom, sorry.
-/
import Derived.Test.YtpnddokajmjpbaaDoorRows
import GoSem.ClaimSeven
namespace Go.Proofs.YtpnddokajmjpbaaDoor
namespace Rows

/-- THE TIED CARD OF 'turnstonelaw20.DeadKnown'. -/
def deadKnownCard : Claim7 := { stood := { row := deadKnownRow, standIns := [], harness := (true, "75d880af405dd7bccd9d243f2ce3857379d98af2b12d8c952f793e615f39d9de"), looks := false }, kinds := [], alts := [], laidByText := true, laidKinds := [.data, .pinned], laidTests := true, laidLooks := .later }
def DeadKnownCardSaid : Prop := Claim7.holds Tryd.pinned (.plain (OpenSpec.ofChange deadKnownSpec)) deadKnownCard

/-- THE TIED CARD OF 'turnstonelaw20.DeadAsked'. -/
def deadAskedCard : Claim7 := { stood := { row := deadAskedRow, standIns := [], harness := (true, "75d880af405dd7bccd9d243f2ce3857379d98af2b12d8c952f793e615f39d9de"), looks := false }, kinds := [], alts := [], laidByText := true, laidKinds := [.data, .pinned], laidTests := true, laidLooks := .later }
def DeadAskedCardSaid : Prop := Claim7.holds Tryd.pinned (.plain (OpenSpec.ofChange deadAskedSpec)) deadAskedCard

/-- THE TIED CARD OF 'turnstonelaw20.DeadAgain'. -/
def deadAgainCard : Claim7 := { stood := { row := deadAgainRow, standIns := [], harness := (true, "75d880af405dd7bccd9d243f2ce3857379d98af2b12d8c952f793e615f39d9de"), looks := false }, kinds := [], alts := [], laidByText := true, laidKinds := [.data, .pinned], laidTests := true, laidLooks := .later }
def DeadAgainCardSaid : Prop := Claim7.holds Tryd.pinned (.plain (OpenSpec.ofChange deadAgainSpec)) deadAgainCard

/-- THE TIED CARD OF 'turnstonelaw19.NumberKnown'. -/
def numberKnownCard : Claim7 := { stood := { row := numberKnownRow, standIns := [], harness := (true, "75d880af405dd7bccd9d243f2ce3857379d98af2b12d8c952f793e615f39d9de"), looks := false }, kinds := [], alts := [], laidByText := true, laidKinds := [.data, .pinned], laidTests := true, laidLooks := .later }
def NumberKnownCardSaid : Prop := Claim7.holds Tryd.pinned (.plain (OpenSpec.ofChange numberKnownSpec)) numberKnownCard

/-- THE TIED CARD OF 'turnstonelaw19.NumberOnce'. -/
def numberOnceCard : Claim7 := { stood := { row := numberOnceRow, standIns := [], harness := (true, "75d880af405dd7bccd9d243f2ce3857379d98af2b12d8c952f793e615f39d9de"), looks := false }, kinds := [], alts := [], laidByText := true, laidKinds := [.data, .pinned], laidTests := true, laidLooks := .later }
def NumberOnceCardSaid : Prop := Claim7.holds Tryd.pinned (.plain (OpenSpec.ofChange numberOnceSpec)) numberOnceCard

/-- THE TIED CARD OF 'turnstonelaw18.FoldKnown'. -/
def foldKnownCard : Claim7 := { stood := { row := foldKnownRow, standIns := [], harness := (true, "75d880af405dd7bccd9d243f2ce3857379d98af2b12d8c952f793e615f39d9de"), looks := false }, kinds := [], alts := [], laidByText := true, laidKinds := [.data, .pinned], laidTests := true, laidLooks := .later }
def FoldKnownCardSaid : Prop := Claim7.holds Tryd.pinned (.plain (OpenSpec.ofChange foldKnownSpec)) foldKnownCard

/-- THE TIED CARD OF 'turnstonelaw18.FoldLeaves'. -/
def foldLeavesCard : Claim7 := { stood := { row := foldLeavesRow, standIns := [], harness := (true, "75d880af405dd7bccd9d243f2ce3857379d98af2b12d8c952f793e615f39d9de"), looks := false }, kinds := [], alts := [], laidByText := true, laidKinds := [.data, .pinned], laidTests := true, laidLooks := .later }
def FoldLeavesCardSaid : Prop := Claim7.holds Tryd.pinned (.plain (OpenSpec.ofChange foldLeavesSpec)) foldLeavesCard

/-- THE TIED CARD OF 'turnstonelaw18.FoldConst'. -/
def foldConstCard : Claim7 := { stood := { row := foldConstRow, standIns := [], harness := (true, "75d880af405dd7bccd9d243f2ce3857379d98af2b12d8c952f793e615f39d9de"), looks := false }, kinds := [], alts := [], laidByText := true, laidKinds := [.data, .pinned], laidTests := true, laidLooks := .later }
def FoldConstCardSaid : Prop := Claim7.holds Tryd.pinned (.plain (OpenSpec.ofChange foldConstSpec)) foldConstCard

/-- THE SECOND FORM's CARD OF 'turnstonelaw20.DeadKnown'. -/
def deadKnownUptoCard : Claim7 := { stood := { row := deadKnownUptoRow, standIns := [], harness := (true, "75d880af405dd7bccd9d243f2ce3857379d98af2b12d8c952f793e615f39d9de"), looks := false }, kinds := [], alts := [], laidByText := true, laidKinds := [.data, .pinned], laidTests := true, laidLooks := .later }
def DeadKnownUptoCardSaid : Prop := Claim7.holds Tryd.pinned (.plain (OpenSpec.upto deadKnownSpec)) deadKnownUptoCard

/-- THE SECOND FORM's CARD OF 'turnstonelaw20.DeadAsked'. -/
def deadAskedUptoCard : Claim7 := { stood := { row := deadAskedUptoRow, standIns := [], harness := (true, "75d880af405dd7bccd9d243f2ce3857379d98af2b12d8c952f793e615f39d9de"), looks := false }, kinds := [], alts := [], laidByText := true, laidKinds := [.data, .pinned], laidTests := true, laidLooks := .later }
def DeadAskedUptoCardSaid : Prop := Claim7.holds Tryd.pinned (.plain (OpenSpec.upto deadAskedSpec)) deadAskedUptoCard

/-- THE SECOND FORM's CARD OF 'turnstonelaw20.DeadAgain'. -/
def deadAgainUptoCard : Claim7 := { stood := { row := deadAgainUptoRow, standIns := [], harness := (true, "75d880af405dd7bccd9d243f2ce3857379d98af2b12d8c952f793e615f39d9de"), looks := false }, kinds := [], alts := [], laidByText := true, laidKinds := [.data, .pinned], laidTests := true, laidLooks := .later }
def DeadAgainUptoCardSaid : Prop := Claim7.holds Tryd.pinned (.plain (OpenSpec.upto deadAgainSpec)) deadAgainUptoCard

/-- THE SECOND FORM's CARD OF 'turnstonelaw19.NumberKnown'. -/
def numberKnownUptoCard : Claim7 := { stood := { row := numberKnownUptoRow, standIns := [], harness := (true, "75d880af405dd7bccd9d243f2ce3857379d98af2b12d8c952f793e615f39d9de"), looks := false }, kinds := [], alts := [], laidByText := true, laidKinds := [.data, .pinned], laidTests := true, laidLooks := .later }
def NumberKnownUptoCardSaid : Prop := Claim7.holds Tryd.pinned (.plain (OpenSpec.upto numberKnownSpec)) numberKnownUptoCard

/-- THE SECOND FORM's CARD OF 'turnstonelaw19.NumberOnce'. -/
def numberOnceUptoCard : Claim7 := { stood := { row := numberOnceUptoRow, standIns := [], harness := (true, "75d880af405dd7bccd9d243f2ce3857379d98af2b12d8c952f793e615f39d9de"), looks := false }, kinds := [], alts := [], laidByText := true, laidKinds := [.data, .pinned], laidTests := true, laidLooks := .later }
def NumberOnceUptoCardSaid : Prop := Claim7.holds Tryd.pinned (.plain (OpenSpec.upto numberOnceSpec)) numberOnceUptoCard

/-- THE SECOND FORM's CARD OF 'turnstonelaw18.FoldKnown'. -/
def foldKnownUptoCard : Claim7 := { stood := { row := foldKnownUptoRow, standIns := [], harness := (true, "75d880af405dd7bccd9d243f2ce3857379d98af2b12d8c952f793e615f39d9de"), looks := false }, kinds := [], alts := [], laidByText := true, laidKinds := [.data, .pinned], laidTests := true, laidLooks := .later }
def FoldKnownUptoCardSaid : Prop := Claim7.holds Tryd.pinned (.plain (OpenSpec.upto foldKnownSpec)) foldKnownUptoCard

/-- THE SECOND FORM's CARD OF 'turnstonelaw18.FoldLeaves'. -/
def foldLeavesUptoCard : Claim7 := { stood := { row := foldLeavesUptoRow, standIns := [], harness := (true, "75d880af405dd7bccd9d243f2ce3857379d98af2b12d8c952f793e615f39d9de"), looks := false }, kinds := [], alts := [], laidByText := true, laidKinds := [.data, .pinned], laidTests := true, laidLooks := .later }
def FoldLeavesUptoCardSaid : Prop := Claim7.holds Tryd.pinned (.plain (OpenSpec.upto foldLeavesSpec)) foldLeavesUptoCard

/-- THE SECOND FORM's CARD OF 'turnstonelaw18.FoldConst'. -/
def foldConstUptoCard : Claim7 := { stood := { row := foldConstUptoRow, standIns := [], harness := (true, "75d880af405dd7bccd9d243f2ce3857379d98af2b12d8c952f793e615f39d9de"), looks := false }, kinds := [], alts := [], laidByText := true, laidKinds := [.data, .pinned], laidTests := true, laidLooks := .later }
def FoldConstUptoCardSaid : Prop := Claim7.holds Tryd.pinned (.plain (OpenSpec.upto foldConstSpec)) foldConstUptoCard
end Rows
end Go.Proofs.YtpnddokajmjpbaaDoor
