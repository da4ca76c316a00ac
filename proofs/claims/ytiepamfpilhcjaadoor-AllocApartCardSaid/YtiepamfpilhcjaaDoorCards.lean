/-
  DERIVED. GIVEN WITH THE SEED: THE CARDS: each row of YtiepamfpilhcjaaDoorRows.lean that lists a variable, with what it lists TIED to the program's text (the seventh form; the later family's looks); each row that meets fmt, with fmt's text TOLD by the authors' own Lean function (tested against real Go, not proved from fmt's source: count such statements apart). THE CARD IS WHAT COUNTS. Prove the row's statement (the work); the ties are given (YtiepamfpilhcjaaDoorTie.lean); close each card by the builder's one call (the guide's Derived/Test/ToyasCard.lean, 'card_holds'). Laid BY PROGRAM, IN A SANDBOX (cutbox-door.mjs). By AI agents, Wed Nov 11 2026. No macro, syntax, notation, axiom, sorry.
-/
import Derived.Test.YtiepamfpilhcjaaDoorRows
import GoSem.ClaimSeven
namespace Go.Proofs.YtiepamfpilhcjaaDoor
namespace Rows

/-- THE TIED CARD OF 'turnstonelaw24.AllocTaken'. -/
def allocTakenCard : Claim7 := { stood := { row := allocTakenRow, standIns := [], harness := (true, "e19b9ffb36d08eebaf091c11981b7acf5d7d33df86a7d116b9c70b66fd79dd59"), looks := true }, kinds := [], alts := [], laidByText := true, laidKinds := [.data, .pinned], laidTests := true, laidLooks := .later }
def AllocTakenCardSaid : Prop := Claim7.holds Tryd.pinned (.plain (OpenSpec.ofChange allocTakenSpec)) allocTakenCard

/-- THE TIED CARD OF 'turnstonelaw24.AllocLive'. -/
def allocLiveCard : Claim7 := { stood := { row := allocLiveRow, standIns := [], harness := (true, "e19b9ffb36d08eebaf091c11981b7acf5d7d33df86a7d116b9c70b66fd79dd59"), looks := true }, kinds := [], alts := [], laidByText := true, laidKinds := [.data, .pinned], laidTests := true, laidLooks := .later }
def AllocLiveCardSaid : Prop := Claim7.holds Tryd.pinned (.plain (OpenSpec.ofChange allocLiveSpec)) allocLiveCard

/-- THE TIED CARD OF 'turnstonelaw24.AllocApart'. -/
def allocApartCard : Claim7 := { stood := { row := allocApartRow, standIns := [], harness := (true, "e19b9ffb36d08eebaf091c11981b7acf5d7d33df86a7d116b9c70b66fd79dd59"), looks := true }, kinds := [], alts := [], laidByText := true, laidKinds := [.data, .pinned], laidTests := true, laidLooks := .later }
def AllocApartCardSaid : Prop := Claim7.holds Tryd.pinned (.plain (OpenSpec.ofChange allocApartSpec)) allocApartCard

/-- THE TIED CARD OF 'turnstonelaw24.AllocFew'. -/
def allocFewCard : Claim7 := { stood := { row := allocFewRow, standIns := [], harness := (true, "e19b9ffb36d08eebaf091c11981b7acf5d7d33df86a7d116b9c70b66fd79dd59"), looks := true }, kinds := [], alts := [], laidByText := true, laidKinds := [.data, .pinned], laidTests := true, laidLooks := .later }
def AllocFewCardSaid : Prop := Claim7.holds Tryd.pinned (.plain (OpenSpec.ofChange allocFewSpec)) allocFewCard

/-- THE TIED CARD OF 'turnstonelaw24.AllocRight'. -/
def allocRightCard : Claim7 := { stood := { row := allocRightRow, standIns := [], harness := (true, "e19b9ffb36d08eebaf091c11981b7acf5d7d33df86a7d116b9c70b66fd79dd59"), looks := true }, kinds := [], alts := [], laidByText := true, laidKinds := [.data, .pinned], laidTests := true, laidLooks := .later }
def AllocRightCardSaid : Prop := Claim7.holds Tryd.pinned (.plain (OpenSpec.ofChange allocRightSpec)) allocRightCard

/-- THE SECOND FORM's CARD OF 'turnstonelaw24.AllocTaken'. -/
def allocTakenUptoCard : Claim7 := { stood := { row := allocTakenUptoRow, standIns := [], harness := (true, "e19b9ffb36d08eebaf091c11981b7acf5d7d33df86a7d116b9c70b66fd79dd59"), looks := true }, kinds := [], alts := [], laidByText := true, laidKinds := [.data, .pinned], laidTests := true, laidLooks := .later }
def AllocTakenUptoCardSaid : Prop := Claim7.holds Tryd.pinned (.plain (OpenSpec.upto allocTakenSpec)) allocTakenUptoCard

/-- THE SECOND FORM's CARD OF 'turnstonelaw24.AllocLive'. -/
def allocLiveUptoCard : Claim7 := { stood := { row := allocLiveUptoRow, standIns := [], harness := (true, "e19b9ffb36d08eebaf091c11981b7acf5d7d33df86a7d116b9c70b66fd79dd59"), looks := true }, kinds := [], alts := [], laidByText := true, laidKinds := [.data, .pinned], laidTests := true, laidLooks := .later }
def AllocLiveUptoCardSaid : Prop := Claim7.holds Tryd.pinned (.plain (OpenSpec.upto allocLiveSpec)) allocLiveUptoCard

/-- THE SECOND FORM's CARD OF 'turnstonelaw24.AllocApart'. -/
def allocApartUptoCard : Claim7 := { stood := { row := allocApartUptoRow, standIns := [], harness := (true, "e19b9ffb36d08eebaf091c11981b7acf5d7d33df86a7d116b9c70b66fd79dd59"), looks := true }, kinds := [], alts := [], laidByText := true, laidKinds := [.data, .pinned], laidTests := true, laidLooks := .later }
def AllocApartUptoCardSaid : Prop := Claim7.holds Tryd.pinned (.plain (OpenSpec.upto allocApartSpec)) allocApartUptoCard

/-- THE SECOND FORM's CARD OF 'turnstonelaw24.AllocFew'. -/
def allocFewUptoCard : Claim7 := { stood := { row := allocFewUptoRow, standIns := [], harness := (true, "e19b9ffb36d08eebaf091c11981b7acf5d7d33df86a7d116b9c70b66fd79dd59"), looks := true }, kinds := [], alts := [], laidByText := true, laidKinds := [.data, .pinned], laidTests := true, laidLooks := .later }
def AllocFewUptoCardSaid : Prop := Claim7.holds Tryd.pinned (.plain (OpenSpec.upto allocFewSpec)) allocFewUptoCard

/-- THE SECOND FORM's CARD OF 'turnstonelaw24.AllocRight'. -/
def allocRightUptoCard : Claim7 := { stood := { row := allocRightUptoRow, standIns := [], harness := (true, "e19b9ffb36d08eebaf091c11981b7acf5d7d33df86a7d116b9c70b66fd79dd59"), looks := true }, kinds := [], alts := [], laidByText := true, laidKinds := [.data, .pinned], laidTests := true, laidLooks := .later }
def AllocRightUptoCardSaid : Prop := Claim7.holds Tryd.pinned (.plain (OpenSpec.upto allocRightSpec)) allocRightUptoCard
end Rows
end Go.Proofs.YtiepamfpilhcjaaDoor
