/-
  DERIVED. GIVEN WITH THE SEED: THE CARDS: each row of YtbcepghanbkncaaGreatDoorRows.lean that lists a variable, with what it lists TIED to the program's text (the seventh form; the later family's looks); each row that meets fmt, with fmt's text TOLD by the authors' own Lean function (tested against real Go, not proved from fmt's source: count such statements apart). THE CARD IS WHAT COUNTS. Prove the row's statement (the work); the ties are given (YtbcepghanbkncaaGreatDoorTie.lean); close each card by the builder's one call (the guide's Derived/Test/ToyasCard.lean, 'card_holds'). Laid BY PROGRAM, IN A SANDBOX (cutbox-door.mjs). By AI agents, Wed Nov 11 2026. No macro, syntax, notation, axiom, sorry.
-/
import Derived.Test.YtbcepghanbkncaaGreatDoorRows
import GoSem.ClaimSeven
namespace Go.Proofs.YtbcepghanbkncaaGreatDoor
namespace Rows

/-- THE TIED CARD OF 'charabanclaw34.ListingLeads'. -/
def listingLeadsCard : Claim7 := { stood := { row := listingLeadsRow, standIns := [], harness := (true, "a10210092fe940a0b8b2498064666d0dbcca7e07048ff51b4d2581662e73ad00"), looks := false }, kinds := [], alts := [], laidByText := true, laidKinds := [.data, .data, .data, .data, .data, .data, .data, .data, .data, .data, .data, .data, .data, .data, .data, .pinned], laidTests := true, laidLooks := .later }
def ListingLeadsCardSaid : Prop := Claim7.holds Tryz.pinned (.plain (OpenSpec.ofChange listingLeadsSpec)) listingLeadsCard

/-- THE TIED CARD OF 'charabanclaw34.ListingParts'. -/
def listingPartsCard : Claim7 := { stood := { row := listingPartsRow, standIns := [], harness := (true, "a10210092fe940a0b8b2498064666d0dbcca7e07048ff51b4d2581662e73ad00"), looks := false }, kinds := [], alts := [], laidByText := true, laidKinds := [.data, .data, .data, .data, .data, .data, .data, .data, .data, .data, .data, .data, .data, .data, .data, .pinned], laidTests := true, laidLooks := .later }
def ListingPartsCardSaid : Prop := Claim7.holds Tryz.pinned (.plain (OpenSpec.ofChange listingPartsSpec)) listingPartsCard

/-- THE TIED CARD OF 'charabanclaw34.ListingLines'. -/
def listingLinesCard : Claim7 := { stood := { row := listingLinesRow, standIns := [], harness := (true, "a10210092fe940a0b8b2498064666d0dbcca7e07048ff51b4d2581662e73ad00"), looks := false }, kinds := [], alts := [], laidByText := true, laidKinds := [.data, .data, .data, .data, .data, .data, .data, .data, .data, .data, .data, .data, .data, .data, .data, .pinned], laidTests := true, laidLooks := .later }
def ListingLinesCardSaid : Prop := Claim7.holds Tryz.pinned (.plain (OpenSpec.ofChange listingLinesSpec)) listingLinesCard

/-- THE TIED CARD OF 'charabanclaw34.ListingFinds'. -/
def listingFindsCard : Claim7 := { stood := { row := listingFindsRow, standIns := [], harness := (true, "a10210092fe940a0b8b2498064666d0dbcca7e07048ff51b4d2581662e73ad00"), looks := false }, kinds := [], alts := [], laidByText := true, laidKinds := [.data, .data, .data, .data, .data, .data, .data, .data, .data, .data, .data, .data, .data, .data, .data, .pinned], laidTests := true, laidLooks := .later }
def ListingFindsCardSaid : Prop := Claim7.holds Tryz.pinned (.plain (OpenSpec.ofChange listingFindsSpec)) listingFindsCard

/-- THE SECOND FORM's CARD OF 'charabanclaw34.ListingLeads'. -/
def listingLeadsUptoCard : Claim7 := { stood := { row := listingLeadsUptoRow, standIns := [], harness := (true, "a10210092fe940a0b8b2498064666d0dbcca7e07048ff51b4d2581662e73ad00"), looks := false }, kinds := [], alts := [], laidByText := true, laidKinds := [.data, .data, .data, .data, .data, .data, .data, .data, .data, .data, .data, .data, .data, .data, .data, .pinned], laidTests := true, laidLooks := .later }
def ListingLeadsUptoCardSaid : Prop := Claim7.holds Tryz.pinned (.plain (OpenSpec.upto listingLeadsSpec)) listingLeadsUptoCard

/-- THE SECOND FORM's CARD OF 'charabanclaw34.ListingParts'. -/
def listingPartsUptoCard : Claim7 := { stood := { row := listingPartsUptoRow, standIns := [], harness := (true, "a10210092fe940a0b8b2498064666d0dbcca7e07048ff51b4d2581662e73ad00"), looks := false }, kinds := [], alts := [], laidByText := true, laidKinds := [.data, .data, .data, .data, .data, .data, .data, .data, .data, .data, .data, .data, .data, .data, .data, .pinned], laidTests := true, laidLooks := .later }
def ListingPartsUptoCardSaid : Prop := Claim7.holds Tryz.pinned (.plain (OpenSpec.upto listingPartsSpec)) listingPartsUptoCard

/-- THE SECOND FORM's CARD OF 'charabanclaw34.ListingLines'. -/
def listingLinesUptoCard : Claim7 := { stood := { row := listingLinesUptoRow, standIns := [], harness := (true, "a10210092fe940a0b8b2498064666d0dbcca7e07048ff51b4d2581662e73ad00"), looks := false }, kinds := [], alts := [], laidByText := true, laidKinds := [.data, .data, .data, .data, .data, .data, .data, .data, .data, .data, .data, .data, .data, .data, .data, .pinned], laidTests := true, laidLooks := .later }
def ListingLinesUptoCardSaid : Prop := Claim7.holds Tryz.pinned (.plain (OpenSpec.upto listingLinesSpec)) listingLinesUptoCard

/-- THE SECOND FORM's CARD OF 'charabanclaw34.ListingFinds'. -/
def listingFindsUptoCard : Claim7 := { stood := { row := listingFindsUptoRow, standIns := [], harness := (true, "a10210092fe940a0b8b2498064666d0dbcca7e07048ff51b4d2581662e73ad00"), looks := false }, kinds := [], alts := [], laidByText := true, laidKinds := [.data, .data, .data, .data, .data, .data, .data, .data, .data, .data, .data, .data, .data, .data, .data, .pinned], laidTests := true, laidLooks := .later }
def ListingFindsUptoCardSaid : Prop := Claim7.holds Tryz.pinned (.plain (OpenSpec.upto listingFindsSpec)) listingFindsUptoCard
end Rows
end Go.Proofs.YtbcepghanbkncaaGreatDoor
