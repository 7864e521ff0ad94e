/-
  DERIVED. GIVEN WITH THE SEED: THE CARDS: each row of YtilgjfckgkkfmaaDoorRows.lean that lists a variable, with what it lists TIED to the program's text (the seventh form; the later family's looks); each row that meets fmt, with fmt's text TOLD by the authors' own Lean function (tested against real Go, not proved from fmt's source: count such statements apart). THE CARD IS WHAT COUNTS. Prove the row's statement (the work); the ties are given (YtilgjfckgkkfmaaDoorTie.lean); close each card by the builder's one call (the guide's Derived/Test/ToyasCard.lean, 'card_holds'). Laid BY PROGRAM, IN A SANDBOX (cutbox-door.mjs). By AI agents, Wed Nov 11 2026. No macro, syntax, notation, axiom, sorry.
-/
import Derived.Test.YtilgjfckgkkfmaaDoorRows
import GoSem.ClaimSeven
namespace Go.Proofs.YtilgjfckgkkfmaaDoor
namespace Rows

/-- THE TIED CARD OF 'charabanclaw33.HexfileLines'. -/
def hexfileLinesCard : Claim7 := { stood := { row := hexfileLinesRow, standIns := [], harness := (true, "bae07574ce7423b8a9158d78d6001c8957be3969313c65d27a1719d75f2118ac"), looks := false }, kinds := [], alts := [], laidByText := true, laidKinds := [.data, .pinned], laidTests := true, laidLooks := .later }
def HexfileLinesCardSaid : Prop := Claim7.holds Tryd.pinned (.plain (OpenSpec.ofChange hexfileLinesSpec)) hexfileLinesCard

/-- THE TIED CARD OF 'charabanclaw33.HexfileTells'. -/
def hexfileTellsCard : Claim7 := { stood := { row := hexfileTellsRow, standIns := [], harness := (true, "bae07574ce7423b8a9158d78d6001c8957be3969313c65d27a1719d75f2118ac"), looks := false }, kinds := [], alts := [], laidByText := true, laidKinds := [.data, .pinned], laidTests := true, laidLooks := .later }
def HexfileTellsCardSaid : Prop := Claim7.holds Tryd.pinned (.plain (OpenSpec.ofChange hexfileTellsSpec)) hexfileTellsCard

/-- THE TIED CARD OF 'charabanclaw33.HexfileBack'. -/
def hexfileBackCard : Claim7 := { stood := { row := hexfileBackRow, standIns := [], harness := (true, "bae07574ce7423b8a9158d78d6001c8957be3969313c65d27a1719d75f2118ac"), looks := false }, kinds := [], alts := [], laidByText := true, laidKinds := [.data, .pinned], laidTests := true, laidLooks := .later }
def HexfileBackCardSaid : Prop := Claim7.holds Tryd.pinned (.plain (OpenSpec.ofChange hexfileBackSpec)) hexfileBackCard

/-- THE TIED CARD OF 'charabanclaw33.HexfileTurned'. -/
def hexfileTurnedCard : Claim7 := { stood := { row := hexfileTurnedRow, standIns := [], harness := (true, "bae07574ce7423b8a9158d78d6001c8957be3969313c65d27a1719d75f2118ac"), looks := false }, kinds := [], alts := [], laidByText := true, laidKinds := [.data, .pinned], laidTests := true, laidLooks := .later }
def HexfileTurnedCardSaid : Prop := Claim7.holds Tryd.pinned (.plain (OpenSpec.ofChange hexfileTurnedSpec)) hexfileTurnedCard

/-- THE TIED CARD OF 'charabanclaw09.TextShows'. -/
def textShowsCard : Claim7 := { stood := { row := textShowsRow, standIns := [], harness := (true, "bae07574ce7423b8a9158d78d6001c8957be3969313c65d27a1719d75f2118ac"), looks := false }, kinds := [], alts := [], laidByText := true, laidKinds := [.data, .data, .data, .data, .data, .data, .data, .data, .data, .data, .data, .data, .data, .data], laidTests := true, laidLooks := .later }
def TextShowsCardSaid : Prop := Claim7.holds Tryd.pinned (.plain (OpenSpec.ofChange textShowsSpec)) textShowsCard

/-- THE TIED CARD OF 'charabanclaw09.TextPlanes'. -/
def textPlanesCard : Claim7 := { stood := { row := textPlanesRow, standIns := [], harness := (true, "bae07574ce7423b8a9158d78d6001c8957be3969313c65d27a1719d75f2118ac"), looks := false }, kinds := [], alts := [], laidByText := true, laidKinds := [.data, .data, .data, .data, .data, .data, .data, .data, .data, .data, .data, .data, .data, .data], laidTests := true, laidLooks := .later }
def TextPlanesCardSaid : Prop := Claim7.holds Tryd.pinned (.plain (OpenSpec.ofChange textPlanesSpec)) textPlanesCard

/-- THE TIED CARD OF 'charabanclaw09.TextOwn'. -/
def textOwnCard : Claim7 := { stood := { row := textOwnRow, standIns := [], harness := (true, "bae07574ce7423b8a9158d78d6001c8957be3969313c65d27a1719d75f2118ac"), looks := false }, kinds := [], alts := [], laidByText := true, laidKinds := [.data, .data, .data, .data, .data, .data, .data, .data, .data, .data, .data, .data, .data, .data], laidTests := true, laidLooks := .later }
def TextOwnCardSaid : Prop := Claim7.holds Tryd.pinned (.plain (OpenSpec.ofChange textOwnSpec)) textOwnCard

/-- THE SECOND FORM's CARD OF 'charabanclaw33.HexfileLines'. -/
def hexfileLinesUptoCard : Claim7 := { stood := { row := hexfileLinesUptoRow, standIns := [], harness := (true, "bae07574ce7423b8a9158d78d6001c8957be3969313c65d27a1719d75f2118ac"), looks := false }, kinds := [], alts := [], laidByText := true, laidKinds := [.data, .pinned], laidTests := true, laidLooks := .later }
def HexfileLinesUptoCardSaid : Prop := Claim7.holds Tryd.pinned (.plain (OpenSpec.upto hexfileLinesSpec)) hexfileLinesUptoCard

/-- THE SECOND FORM's CARD OF 'charabanclaw33.HexfileTells'. -/
def hexfileTellsUptoCard : Claim7 := { stood := { row := hexfileTellsUptoRow, standIns := [], harness := (true, "bae07574ce7423b8a9158d78d6001c8957be3969313c65d27a1719d75f2118ac"), looks := false }, kinds := [], alts := [], laidByText := true, laidKinds := [.data, .pinned], laidTests := true, laidLooks := .later }
def HexfileTellsUptoCardSaid : Prop := Claim7.holds Tryd.pinned (.plain (OpenSpec.upto hexfileTellsSpec)) hexfileTellsUptoCard

/-- THE SECOND FORM's CARD OF 'charabanclaw33.HexfileBack'. -/
def hexfileBackUptoCard : Claim7 := { stood := { row := hexfileBackUptoRow, standIns := [], harness := (true, "bae07574ce7423b8a9158d78d6001c8957be3969313c65d27a1719d75f2118ac"), looks := false }, kinds := [], alts := [], laidByText := true, laidKinds := [.data, .pinned], laidTests := true, laidLooks := .later }
def HexfileBackUptoCardSaid : Prop := Claim7.holds Tryd.pinned (.plain (OpenSpec.upto hexfileBackSpec)) hexfileBackUptoCard

/-- THE SECOND FORM's CARD OF 'charabanclaw33.HexfileTurned'. -/
def hexfileTurnedUptoCard : Claim7 := { stood := { row := hexfileTurnedUptoRow, standIns := [], harness := (true, "bae07574ce7423b8a9158d78d6001c8957be3969313c65d27a1719d75f2118ac"), looks := false }, kinds := [], alts := [], laidByText := true, laidKinds := [.data, .pinned], laidTests := true, laidLooks := .later }
def HexfileTurnedUptoCardSaid : Prop := Claim7.holds Tryd.pinned (.plain (OpenSpec.upto hexfileTurnedSpec)) hexfileTurnedUptoCard

/-- THE SECOND FORM's CARD OF 'charabanclaw09.TextShows'. -/
def textShowsUptoCard : Claim7 := { stood := { row := textShowsUptoRow, standIns := [], harness := (true, "bae07574ce7423b8a9158d78d6001c8957be3969313c65d27a1719d75f2118ac"), looks := false }, kinds := [], alts := [], laidByText := true, laidKinds := [.data, .data, .data, .data, .data, .data, .data, .data, .data, .data, .data, .data, .data, .data], laidTests := true, laidLooks := .later }
def TextShowsUptoCardSaid : Prop := Claim7.holds Tryd.pinned (.plain (OpenSpec.upto textShowsSpec)) textShowsUptoCard

/-- THE SECOND FORM's CARD OF 'charabanclaw09.TextPlanes'. -/
def textPlanesUptoCard : Claim7 := { stood := { row := textPlanesUptoRow, standIns := [], harness := (true, "bae07574ce7423b8a9158d78d6001c8957be3969313c65d27a1719d75f2118ac"), looks := false }, kinds := [], alts := [], laidByText := true, laidKinds := [.data, .data, .data, .data, .data, .data, .data, .data, .data, .data, .data, .data, .data, .data], laidTests := true, laidLooks := .later }
def TextPlanesUptoCardSaid : Prop := Claim7.holds Tryd.pinned (.plain (OpenSpec.upto textPlanesSpec)) textPlanesUptoCard

/-- THE SECOND FORM's CARD OF 'charabanclaw09.TextOwn'. -/
def textOwnUptoCard : Claim7 := { stood := { row := textOwnUptoRow, standIns := [], harness := (true, "bae07574ce7423b8a9158d78d6001c8957be3969313c65d27a1719d75f2118ac"), looks := false }, kinds := [], alts := [], laidByText := true, laidKinds := [.data, .data, .data, .data, .data, .data, .data, .data, .data, .data, .data, .data, .data, .data], laidTests := true, laidLooks := .later }
def TextOwnUptoCardSaid : Prop := Claim7.holds Tryd.pinned (.plain (OpenSpec.upto textOwnSpec)) textOwnUptoCard
end Rows
end Go.Proofs.YtilgjfckgkkfmaaDoor
