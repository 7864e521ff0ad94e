/-
  DERIVED. GIVEN WITH THE SEED: THE CARDS: each row of YtngcadmhnbpgjaaDoorRows.lean that lists a variable, with what it lists TIED to the program's text (the seventh form; the later family's looks); each row that meets fmt, with fmt's text TOLD by the authors' own Lean function (tested against real Go, not proved from fmt's source: count such statements apart). THE CARD IS WHAT COUNTS. Prove the row's statement (the work); the ties are given (YtngcadmhnbpgjaaDoorTie.lean); close each card by the builder's one call (the guide's Derived/Test/ToyasCard.lean, 'card_holds'). Laid BY PROGRAM, IN A SANDBOX (cutbox-door.mjs). By AI agents, Wed Nov 11 2026. No macro, syntax, notation, axiom, sorry.
-/
import Derived.Test.YtngcadmhnbpgjaaDoorRows
import GoSem.ClaimSeven
namespace Go.Proofs.YtngcadmhnbpgjaaDoor
namespace Rows

/-- THE TIED CARD OF 'charabanclaw20.LatchPorts'. -/
def latchPortsCard : Claim7 := { stood := { row := latchPortsRow, standIns := [], harness := (true, "d435f1380823279e18f8eedb7e62cd48d318672f3840b4f37654be88e62dae59"), looks := false }, kinds := [], alts := [], laidByText := true, laidKinds := [.data], laidTests := true, laidLooks := .later }
def LatchPortsCardSaid : Prop := Claim7.holds Tryd.pinned (.plain (OpenSpec.ofChange latchPortsSpec)) latchPortsCard

/-- THE TIED CARD OF 'charabanclaw20.LatchPlays'. -/
def latchPlaysCard : Claim7 := { stood := { row := latchPlaysRow, standIns := [], harness := (true, "d435f1380823279e18f8eedb7e62cd48d318672f3840b4f37654be88e62dae59"), looks := false }, kinds := [], alts := [], laidByText := true, laidKinds := [.data], laidTests := true, laidLooks := .later }
def LatchPlaysCardSaid : Prop := Claim7.holds Tryd.pinned (.plain (OpenSpec.ofChange latchPlaysSpec)) latchPlaysCard

/-- THE TIED CARD OF 'charabanclaw20.LatchOne'. -/
def latchOneCard : Claim7 := { stood := { row := latchOneRow, standIns := [], harness := (true, "d435f1380823279e18f8eedb7e62cd48d318672f3840b4f37654be88e62dae59"), looks := false }, kinds := [], alts := [], laidByText := true, laidKinds := [.data], laidTests := true, laidLooks := .later }
def LatchOneCardSaid : Prop := Claim7.holds Tryd.pinned (.plain (OpenSpec.ofChange latchOneSpec)) latchOneCard

/-- THE SECOND FORM's CARD OF 'charabanclaw20.LatchPorts'. -/
def latchPortsUptoCard : Claim7 := { stood := { row := latchPortsUptoRow, standIns := [], harness := (true, "d435f1380823279e18f8eedb7e62cd48d318672f3840b4f37654be88e62dae59"), looks := false }, kinds := [], alts := [], laidByText := true, laidKinds := [.data], laidTests := true, laidLooks := .later }
def LatchPortsUptoCardSaid : Prop := Claim7.holds Tryd.pinned (.plain (OpenSpec.upto latchPortsSpec)) latchPortsUptoCard

/-- THE SECOND FORM's CARD OF 'charabanclaw20.LatchPlays'. -/
def latchPlaysUptoCard : Claim7 := { stood := { row := latchPlaysUptoRow, standIns := [], harness := (true, "d435f1380823279e18f8eedb7e62cd48d318672f3840b4f37654be88e62dae59"), looks := false }, kinds := [], alts := [], laidByText := true, laidKinds := [.data], laidTests := true, laidLooks := .later }
def LatchPlaysUptoCardSaid : Prop := Claim7.holds Tryd.pinned (.plain (OpenSpec.upto latchPlaysSpec)) latchPlaysUptoCard

/-- THE SECOND FORM's CARD OF 'charabanclaw20.LatchOne'. -/
def latchOneUptoCard : Claim7 := { stood := { row := latchOneUptoRow, standIns := [], harness := (true, "d435f1380823279e18f8eedb7e62cd48d318672f3840b4f37654be88e62dae59"), looks := false }, kinds := [], alts := [], laidByText := true, laidKinds := [.data], laidTests := true, laidLooks := .later }
def LatchOneUptoCardSaid : Prop := Claim7.holds Tryd.pinned (.plain (OpenSpec.upto latchOneSpec)) latchOneUptoCard
end Rows
end Go.Proofs.YtngcadmhnbpgjaaDoor
