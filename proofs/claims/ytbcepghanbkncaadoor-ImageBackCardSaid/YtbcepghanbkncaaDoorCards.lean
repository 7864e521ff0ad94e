/-
  DERIVED. GIVEN WITH THE SEED: THE CARDS: each row of YtbcepghanbkncaaDoorRows.lean that lists a variable, with what it lists TIED to the program's text (the seventh form; the later family's looks); each row that meets fmt, with fmt's text TOLD by the authors' own Lean function (tested against real Go, not proved from fmt's source: count such statements apart). THE CARD IS WHAT COUNTS. Prove the row's statement (the work); the ties are given (YtbcepghanbkncaaDoorTie.lean); close each card by the builder's one call (the guide's Derived/Test/ToyasCard.lean, 'card_holds'). Laid BY PROGRAM, IN A SANDBOX (cutbox-door.mjs). By AI agents, Wed Nov 11 2026. No macro, syntax, notation, axiom, sorry.
-/
import Derived.Test.YtbcepghanbkncaaDoorRows
import GoSem.ClaimSeven
namespace Go.Proofs.YtbcepghanbkncaaDoor
namespace Rows

/-- THE TIED CARD OF 'charabanclaw30.ImageReads'. -/
def imageReadsCard : Claim7 := { stood := { row := imageReadsRow, standIns := [], harness := (true, "c32144926c0cd59e3b5a3ab940b6ac6f63c0555695fe56bacac0b5248086820f"), looks := false }, kinds := [], alts := [], laidByText := true, laidKinds := [.data, .data, .data, .data, .pinned], laidTests := true, laidLooks := .later }
def ImageReadsCardSaid : Prop := Claim7.holds Tryd.pinned (.plain (OpenSpec.ofChange imageReadsSpec)) imageReadsCard

/-- THE TIED CARD OF 'charabanclaw30.ImageShows'. -/
def imageShowsCard : Claim7 := { stood := { row := imageShowsRow, standIns := [], harness := (true, "c32144926c0cd59e3b5a3ab940b6ac6f63c0555695fe56bacac0b5248086820f"), looks := false }, kinds := [], alts := [], laidByText := true, laidKinds := [.data, .data, .data, .data, .pinned], laidTests := true, laidLooks := .later }
def ImageShowsCardSaid : Prop := Claim7.holds Tryd.pinned (.plain (OpenSpec.ofChange imageShowsSpec)) imageShowsCard

/-- THE TIED CARD OF 'charabanclaw30.ImageBack'. -/
def imageBackCard : Claim7 := { stood := { row := imageBackRow, standIns := [], harness := (true, "c32144926c0cd59e3b5a3ab940b6ac6f63c0555695fe56bacac0b5248086820f"), looks := false }, kinds := [], alts := [], laidByText := true, laidKinds := [.data, .data, .data, .data, .pinned], laidTests := true, laidLooks := .later }
def ImageBackCardSaid : Prop := Claim7.holds Tryd.pinned (.plain (OpenSpec.ofChange imageBackSpec)) imageBackCard

/-- THE SECOND FORM's CARD OF 'charabanclaw30.ImageReads'. -/
def imageReadsUptoCard : Claim7 := { stood := { row := imageReadsUptoRow, standIns := [], harness := (true, "c32144926c0cd59e3b5a3ab940b6ac6f63c0555695fe56bacac0b5248086820f"), looks := false }, kinds := [], alts := [], laidByText := true, laidKinds := [.data, .data, .data, .data, .pinned], laidTests := true, laidLooks := .later }
def ImageReadsUptoCardSaid : Prop := Claim7.holds Tryd.pinned (.plain (OpenSpec.upto imageReadsSpec)) imageReadsUptoCard

/-- THE SECOND FORM's CARD OF 'charabanclaw30.ImageShows'. -/
def imageShowsUptoCard : Claim7 := { stood := { row := imageShowsUptoRow, standIns := [], harness := (true, "c32144926c0cd59e3b5a3ab940b6ac6f63c0555695fe56bacac0b5248086820f"), looks := false }, kinds := [], alts := [], laidByText := true, laidKinds := [.data, .data, .data, .data, .pinned], laidTests := true, laidLooks := .later }
def ImageShowsUptoCardSaid : Prop := Claim7.holds Tryd.pinned (.plain (OpenSpec.upto imageShowsSpec)) imageShowsUptoCard

/-- THE SECOND FORM's CARD OF 'charabanclaw30.ImageBack'. -/
def imageBackUptoCard : Claim7 := { stood := { row := imageBackUptoRow, standIns := [], harness := (true, "c32144926c0cd59e3b5a3ab940b6ac6f63c0555695fe56bacac0b5248086820f"), looks := false }, kinds := [], alts := [], laidByText := true, laidKinds := [.data, .data, .data, .data, .pinned], laidTests := true, laidLooks := .later }
def ImageBackUptoCardSaid : Prop := Claim7.holds Tryd.pinned (.plain (OpenSpec.upto imageBackSpec)) imageBackUptoCard
end Rows
end Go.Proofs.YtbcepghanbkncaaDoor
