/-
  DERIVED. GIVEN WITH THE SEED: THE CARDS: each row of YtcoaokdoecgcbaaGreatDoorRows.lean that lists a variable, with what it lists TIED to the program's text (the seventh form; the later family's looks); each row that meets fmt, with fmt's text TOLD by the authors' own Lean function (tested against real Go, not proved from fmt's source: count such statements apart). THE CARD IS WHAT COUNTS. Prove the row's statement (the work); the ties are given (YtcoaokdoecgcbaaGreatDoorTie.lean); close each card by the builder's one call (the guide's Derived/Test/ToyasCard.lean, 'card_holds'). Laid BY PROGRAM, IN A SANDBOX (cutbox-door.mjs). By AI agents, Wed Nov 11 2026. No macro, syntax, notation, axiom, sorry.
-/
import Derived.Test.YtcoaokdoecgcbaaGreatDoorRows
import GoSem.ClaimSeven
namespace Go.Proofs.YtcoaokdoecgcbaaGreatDoor
namespace Rows

/-- THE TIED CARD OF 'turnstonelaw26.EmitRight'. -/
def emitRightCard : Claim7 := { stood := { row := emitRightRow, standIns := [], harness := (true, "f12b54a1ef02307495726afc87062c6ddac41425581a043c450dbabafd04fecd"), looks := true }, kinds := [], alts := [], laidByText := true, laidKinds := [.data, .pinned], laidTests := true, laidLooks := .later }
def EmitRightCardSaid : Prop := Claim7.holds Tryz.pinned (.plain (OpenSpec.ofChange emitRightSpec)) emitRightCard

/-- THE TIED CARD OF 'turnstonelaw26.EmitDoes'. -/
def emitDoesCard : Claim7 := { stood := { row := emitDoesRow, standIns := [], harness := (true, "f12b54a1ef02307495726afc87062c6ddac41425581a043c450dbabafd04fecd"), looks := true }, kinds := [], alts := [], laidByText := true, laidKinds := [.data, .pinned], laidTests := true, laidLooks := .later }
def EmitDoesCardSaid : Prop := Claim7.holds Tryz.pinned (.plain (OpenSpec.ofChange emitDoesSpec)) emitDoesCard

/-- THE TIED CARD OF 'turnstonelaw26.EmitWishes'. -/
def emitWishesCard : Claim7 := { stood := { row := emitWishesRow, standIns := [], harness := (true, "f12b54a1ef02307495726afc87062c6ddac41425581a043c450dbabafd04fecd"), looks := true }, kinds := [], alts := [], laidByText := true, laidKinds := [.data, .pinned], laidTests := true, laidLooks := .later }
def EmitWishesCardSaid : Prop := Claim7.holds Tryz.pinned (.plain (OpenSpec.ofChange emitWishesSpec)) emitWishesCard

/-- THE SECOND FORM's CARD OF 'turnstonelaw26.EmitRight'. -/
def emitRightUptoCard : Claim7 := { stood := { row := emitRightUptoRow, standIns := [], harness := (true, "f12b54a1ef02307495726afc87062c6ddac41425581a043c450dbabafd04fecd"), looks := true }, kinds := [], alts := [], laidByText := true, laidKinds := [.data, .pinned], laidTests := true, laidLooks := .later }
def EmitRightUptoCardSaid : Prop := Claim7.holds Tryz.pinned (.plain (OpenSpec.upto emitRightSpec)) emitRightUptoCard

/-- THE SECOND FORM's CARD OF 'turnstonelaw26.EmitDoes'. -/
def emitDoesUptoCard : Claim7 := { stood := { row := emitDoesUptoRow, standIns := [], harness := (true, "f12b54a1ef02307495726afc87062c6ddac41425581a043c450dbabafd04fecd"), looks := true }, kinds := [], alts := [], laidByText := true, laidKinds := [.data, .pinned], laidTests := true, laidLooks := .later }
def EmitDoesUptoCardSaid : Prop := Claim7.holds Tryz.pinned (.plain (OpenSpec.upto emitDoesSpec)) emitDoesUptoCard

/-- THE SECOND FORM's CARD OF 'turnstonelaw26.EmitWishes'. -/
def emitWishesUptoCard : Claim7 := { stood := { row := emitWishesUptoRow, standIns := [], harness := (true, "f12b54a1ef02307495726afc87062c6ddac41425581a043c450dbabafd04fecd"), looks := true }, kinds := [], alts := [], laidByText := true, laidKinds := [.data, .pinned], laidTests := true, laidLooks := .later }
def EmitWishesUptoCardSaid : Prop := Claim7.holds Tryz.pinned (.plain (OpenSpec.upto emitWishesSpec)) emitWishesUptoCard
end Rows
end Go.Proofs.YtcoaokdoecgcbaaGreatDoor
