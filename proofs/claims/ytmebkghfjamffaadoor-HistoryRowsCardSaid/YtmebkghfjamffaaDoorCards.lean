/-
  DERIVED. GIVEN WITH THE SEED: THE CARDS: each row of YtmebkghfjamffaaDoorRows.lean that lists a variable, with what it lists TIED to the program's text (the seventh form; the later family's looks); each row that meets fmt, with fmt's text TOLD by the authors' own Lean function (tested against real Go, not proved from fmt's source: count such statements apart). THE CARD IS WHAT COUNTS. Prove the row's statement (the work); the ties are given (YtmebkghfjamffaaDoorTie.lean); close each card by the builder's one call (the guide's Derived/Test/ToyasCard.lean, 'card_holds'). Laid BY PROGRAM, IN A SANDBOX (cutbox-door.mjs). By AI agents, Wed Nov 11 2026. No macro, syntax, notation, axiom, sorry.
-/
import Derived.Test.YtmebkghfjamffaaDoorRows
import GoSem.ClaimSeven
namespace Go.Proofs.YtmebkghfjamffaaDoor
namespace Rows

/-- THE TIED CARD OF 'charabanclaw29.HistoryTells'. -/
def historyTellsCard : Claim7 := { stood := { row := historyTellsRow, standIns := [], harness := (true, "432ed3f955d8d759fc0c06d2bcf8a3bd3442e07d2f623ac1e3fa165ba7fd7335"), looks := false }, kinds := [], alts := [], laidByText := true, laidKinds := [.data, .data, .data, .data, .data, .data], laidTests := true, laidLooks := .later }
def HistoryTellsCardSaid : Prop := Claim7.holds Tryd.pinned (.plain (OpenSpec.ofChange historyTellsSpec)) historyTellsCard

/-- THE TIED CARD OF 'charabanclaw29.HistoryCuts'. -/
def historyCutsCard : Claim7 := { stood := { row := historyCutsRow, standIns := [], harness := (true, "432ed3f955d8d759fc0c06d2bcf8a3bd3442e07d2f623ac1e3fa165ba7fd7335"), looks := false }, kinds := [], alts := [], laidByText := true, laidKinds := [.data, .data, .data, .data, .data, .data], laidTests := true, laidLooks := .later }
def HistoryCutsCardSaid : Prop := Claim7.holds Tryd.pinned (.plain (OpenSpec.ofChange historyCutsSpec)) historyCutsCard

/-- THE TIED CARD OF 'charabanclaw29.HistoryRows'. -/
def historyRowsCard : Claim7 := { stood := { row := historyRowsRow, standIns := [], harness := (true, "432ed3f955d8d759fc0c06d2bcf8a3bd3442e07d2f623ac1e3fa165ba7fd7335"), looks := false }, kinds := [], alts := [], laidByText := true, laidKinds := [.data, .data, .data, .data, .data, .data], laidTests := true, laidLooks := .later }
def HistoryRowsCardSaid : Prop := Claim7.holds Tryd.pinned (.plain (OpenSpec.ofChange historyRowsSpec)) historyRowsCard

/-- THE TIED CARD OF 'charabanclaw30.ImageReads'. -/
def imageReadsCard : Claim7 := { stood := { row := imageReadsRow, standIns := [], harness := (true, "432ed3f955d8d759fc0c06d2bcf8a3bd3442e07d2f623ac1e3fa165ba7fd7335"), looks := false }, kinds := [], alts := [], laidByText := true, laidKinds := [.data, .data, .data, .data, .pinned], laidTests := true, laidLooks := .later }
def ImageReadsCardSaid : Prop := Claim7.holds Tryd.pinned (.plain (OpenSpec.ofChange imageReadsSpec)) imageReadsCard

/-- THE TIED CARD OF 'charabanclaw30.ImageShows'. -/
def imageShowsCard : Claim7 := { stood := { row := imageShowsRow, standIns := [], harness := (true, "432ed3f955d8d759fc0c06d2bcf8a3bd3442e07d2f623ac1e3fa165ba7fd7335"), looks := false }, kinds := [], alts := [], laidByText := true, laidKinds := [.data, .data, .data, .data, .pinned], laidTests := true, laidLooks := .later }
def ImageShowsCardSaid : Prop := Claim7.holds Tryd.pinned (.plain (OpenSpec.ofChange imageShowsSpec)) imageShowsCard

/-- THE TIED CARD OF 'charabanclaw30.ImageBack'. -/
def imageBackCard : Claim7 := { stood := { row := imageBackRow, standIns := [], harness := (true, "432ed3f955d8d759fc0c06d2bcf8a3bd3442e07d2f623ac1e3fa165ba7fd7335"), looks := false }, kinds := [], alts := [], laidByText := true, laidKinds := [.data, .data, .data, .data, .pinned], laidTests := true, laidLooks := .later }
def ImageBackCardSaid : Prop := Claim7.holds Tryd.pinned (.plain (OpenSpec.ofChange imageBackSpec)) imageBackCard

/-- THE SECOND FORM's CARD OF 'charabanclaw29.HistoryTells'. -/
def historyTellsUptoCard : Claim7 := { stood := { row := historyTellsUptoRow, standIns := [], harness := (true, "432ed3f955d8d759fc0c06d2bcf8a3bd3442e07d2f623ac1e3fa165ba7fd7335"), looks := false }, kinds := [], alts := [], laidByText := true, laidKinds := [.data, .data, .data, .data, .data, .data], laidTests := true, laidLooks := .later }
def HistoryTellsUptoCardSaid : Prop := Claim7.holds Tryd.pinned (.plain (OpenSpec.upto historyTellsSpec)) historyTellsUptoCard

/-- THE SECOND FORM's CARD OF 'charabanclaw29.HistoryCuts'. -/
def historyCutsUptoCard : Claim7 := { stood := { row := historyCutsUptoRow, standIns := [], harness := (true, "432ed3f955d8d759fc0c06d2bcf8a3bd3442e07d2f623ac1e3fa165ba7fd7335"), looks := false }, kinds := [], alts := [], laidByText := true, laidKinds := [.data, .data, .data, .data, .data, .data], laidTests := true, laidLooks := .later }
def HistoryCutsUptoCardSaid : Prop := Claim7.holds Tryd.pinned (.plain (OpenSpec.upto historyCutsSpec)) historyCutsUptoCard

/-- THE SECOND FORM's CARD OF 'charabanclaw29.HistoryRows'. -/
def historyRowsUptoCard : Claim7 := { stood := { row := historyRowsUptoRow, standIns := [], harness := (true, "432ed3f955d8d759fc0c06d2bcf8a3bd3442e07d2f623ac1e3fa165ba7fd7335"), looks := false }, kinds := [], alts := [], laidByText := true, laidKinds := [.data, .data, .data, .data, .data, .data], laidTests := true, laidLooks := .later }
def HistoryRowsUptoCardSaid : Prop := Claim7.holds Tryd.pinned (.plain (OpenSpec.upto historyRowsSpec)) historyRowsUptoCard

/-- THE SECOND FORM's CARD OF 'charabanclaw30.ImageReads'. -/
def imageReadsUptoCard : Claim7 := { stood := { row := imageReadsUptoRow, standIns := [], harness := (true, "432ed3f955d8d759fc0c06d2bcf8a3bd3442e07d2f623ac1e3fa165ba7fd7335"), looks := false }, kinds := [], alts := [], laidByText := true, laidKinds := [.data, .data, .data, .data, .pinned], laidTests := true, laidLooks := .later }
def ImageReadsUptoCardSaid : Prop := Claim7.holds Tryd.pinned (.plain (OpenSpec.upto imageReadsSpec)) imageReadsUptoCard

/-- THE SECOND FORM's CARD OF 'charabanclaw30.ImageShows'. -/
def imageShowsUptoCard : Claim7 := { stood := { row := imageShowsUptoRow, standIns := [], harness := (true, "432ed3f955d8d759fc0c06d2bcf8a3bd3442e07d2f623ac1e3fa165ba7fd7335"), looks := false }, kinds := [], alts := [], laidByText := true, laidKinds := [.data, .data, .data, .data, .pinned], laidTests := true, laidLooks := .later }
def ImageShowsUptoCardSaid : Prop := Claim7.holds Tryd.pinned (.plain (OpenSpec.upto imageShowsSpec)) imageShowsUptoCard

/-- THE SECOND FORM's CARD OF 'charabanclaw30.ImageBack'. -/
def imageBackUptoCard : Claim7 := { stood := { row := imageBackUptoRow, standIns := [], harness := (true, "432ed3f955d8d759fc0c06d2bcf8a3bd3442e07d2f623ac1e3fa165ba7fd7335"), looks := false }, kinds := [], alts := [], laidByText := true, laidKinds := [.data, .data, .data, .data, .pinned], laidTests := true, laidLooks := .later }
def ImageBackUptoCardSaid : Prop := Claim7.holds Tryd.pinned (.plain (OpenSpec.upto imageBackSpec)) imageBackUptoCard
end Rows
end Go.Proofs.YtmebkghfjamffaaDoor
