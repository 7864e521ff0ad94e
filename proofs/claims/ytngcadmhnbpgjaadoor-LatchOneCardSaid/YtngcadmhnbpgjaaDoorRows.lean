/-
  NARROWER THAN 'FOR EVERY INPUT', by the rows' own cells (each row's printed sentence says how): LatchPorts: laid · LatchPlays: laid · LatchOne: laid.
  DERIVED. THE GIVEN ROWS OF THIS SEAT. 3 by the template 'for every input the law returns true; each argument reads behind the call as it read before'; 0 by the template 'total and deterministic' (their statements: YtngcadmhnbpgjaaDoorTotals.lean).
  GIVEN WITH THE SEED: the statements are not yours to turn. If you find one false, say at which input.
  Laid BY PROGRAM, IN A SANDBOX (cutbox-rows.mjs): the forced cells as the released guide's own fill.sh prints them over the translation f1e60091c9a087db… (all of the seat's roots in one cut). By AI agents, Wed Nov 11 2026. No macro, syntax, notation, axiom, sorry.
-/
import Derived.Test.YtngcadmhnbpgjaaDoorChecked
import GoSem.Claim
import GoSem.ClaimJoined
import GoSem.ClaimMapViews
import Derived.JoinedTies
import Derived.KernelRfl
namespace Go.Proofs.YtngcadmhnbpgjaaDoor
/- THE CELL 'sum', in the pinned program and in every row, IS THE sha256 OF THE DUMP (.gsa) THAT YtngcadmhnbpgjaaDoorProg.lean LOADS. Nothing in Lean hashes anything: it is a label: what it is worth is what the hold of that sum in a sandbox is worth. -/
noncomputable def Tryd.pinned : Pinned := { name := "ytngcadmhnbpgjaadoor", sum := "f1e60091c9a087db5fcc76cd3ddea762e4e180f5b5becb52447e1f41390e7d26", checked := Tryd.checked }
namespace Rows
def none {H : Type} : Left H := { results := [], args := [] }

/- WHAT THE LISTED PACKAGE-LEVEL VARIABLES READ AS WHEN THE CALL BEGINS. Each datum BY PROGRAM (the guide's laid-datum.mjs) off the statement by which the dump's own 'gosem.cut.vars' lays the variable. In a bare row this is a premise. The card (YtngcadmhnbpgjaaDoorCards.lean) ties it to the program's text. -/
def laid_charabanc_latch_devices {H : Type} : DataW H := .agg [.agg [.lit (.int .i64 0), .lit (.int .i64 0)], .agg [.lit (.int .i64 0), .lit (.int .i64 4)], .agg [.lit (.int .i64 4), .lit (.int .i64 4)], .agg [.lit (.int .i64 8), .lit (.int .i64 4)], .agg [.lit (.int .i64 12), .lit (.int .i64 1)], .agg [.lit (.int .i64 14), .lit (.int .i64 1)], .agg [.lit (.int .i64 15), .lit (.int .i64 1)]]

/-- 'charabanclaw20.LatchPorts': WHATEVER THE INPUT: true; the input reads as it did. -/
def latchPortsSpec : ChangeSpec := { name := "latchPorts", fn := fun _ => fun
  | [d1, d2, d3] => { results := [.lit (.bool true)], args := [d1, d2, d3] }
  | _ => none }
def latchPortsRow : OpenClaim := { program := "ytngcadmhnbpgjaadoor", sum := "f1e60091c9a087db5fcc76cd3ddea762e4e180f5b5becb52447e1f41390e7d26", func := "charabanc/charabanclaw20.LatchPorts", spec := "latchPorts", named := ["charabanc/latch.devices"], apart := false, laid := [("charabanc/latch.devices", laid_charabanc_latch_devices)] }
def LatchPortsSaid : Prop := latchPortsRow.holds Tryd.pinned (OpenSpec.ofChange latchPortsSpec)

/-- ITS FALSE NEIGHBOUR: 'it returns false'. Refute it at one input. -/
def latchPortsWrong : ChangeSpec := { name := "latchPorts", fn := fun _ => fun
  | [d1, d2, d3] => { results := [.lit (.bool false)], args := [d1, d2, d3] }
  | _ => none }
def LatchPortsWrongFalsely : Prop := latchPortsRow.holds Tryd.pinned (OpenSpec.ofChange latchPortsWrong)

/-- 'charabanclaw20.LatchPlays': WHATEVER THE INPUT: true; the input reads as it did. -/
def latchPlaysSpec : ChangeSpec := { name := "latchPlays", fn := fun _ => fun
  | [d1, d2, d3] => { results := [.lit (.bool true)], args := [d1, d2, d3] }
  | _ => none }
def latchPlaysRow : OpenClaim := { program := "ytngcadmhnbpgjaadoor", sum := "f1e60091c9a087db5fcc76cd3ddea762e4e180f5b5becb52447e1f41390e7d26", func := "charabanc/charabanclaw20.LatchPlays", spec := "latchPlays", named := ["charabanc/latch.devices"], apart := false, laid := [("charabanc/latch.devices", laid_charabanc_latch_devices)] }
def LatchPlaysSaid : Prop := latchPlaysRow.holds Tryd.pinned (OpenSpec.ofChange latchPlaysSpec)

/-- ITS FALSE NEIGHBOUR: 'it returns false'. Refute it at one input. -/
def latchPlaysWrong : ChangeSpec := { name := "latchPlays", fn := fun _ => fun
  | [d1, d2, d3] => { results := [.lit (.bool false)], args := [d1, d2, d3] }
  | _ => none }
def LatchPlaysWrongFalsely : Prop := latchPlaysRow.holds Tryd.pinned (OpenSpec.ofChange latchPlaysWrong)

/-- 'charabanclaw20.LatchOne': WHATEVER THE INPUT: true; the input reads as it did. -/
def latchOneSpec : ChangeSpec := { name := "latchOne", fn := fun _ => fun
  | [d] => { results := [.lit (.bool true)], args := [d] }
  | _ => none }
def latchOneRow : OpenClaim := { program := "ytngcadmhnbpgjaadoor", sum := "f1e60091c9a087db5fcc76cd3ddea762e4e180f5b5becb52447e1f41390e7d26", func := "charabanc/charabanclaw20.LatchOne", spec := "latchOne", named := ["charabanc/latch.devices"], apart := false, laid := [("charabanc/latch.devices", laid_charabanc_latch_devices)] }
def LatchOneSaid : Prop := latchOneRow.holds Tryd.pinned (OpenSpec.ofChange latchOneSpec)

/-- ITS FALSE NEIGHBOUR: 'it returns false'. Refute it at one input. -/
def latchOneWrong : ChangeSpec := { name := "latchOne", fn := fun _ => fun
  | [d] => { results := [.lit (.bool false)], args := [d] }
  | _ => none }
def LatchOneWrongFalsely : Prop := latchOneRow.holds Tryd.pinned (OpenSpec.ofChange latchOneWrong)

/- THE SECOND FORM. 'bulk': how many values and letters a reading holds, each counted each time it is reached (what is shared counts as often as it is met; a slice's spare places count too). A statement '..UptoSaid' is the law's where the arguments, and the package variables that the reading takes, are together of bulk at most 1048576: NARROWER than '..Said'. Prove '..Said' where nothing that the law and all that it calls make is longer than what came in: it says more and counts as full. Else prove '..UptoSaid'. A law counts once. -/
mutual
def uptoBulk {H : Type} : DataW H → Nat
  | .lit (.string bytes) => bytes.length + 1
  | .lit _ => 1
  | .nil => 1
  | .ptr d => uptoBulk d + 1
  | .slice elems spare => uptoBulkAll elems + uptoBulkAll spare + 1
  | .agg parts => uptoBulkAll parts + 1
  | .iface _ d => uptoBulk d + 1
  | .map entries => uptoBulkEntries entries + 1
  | .held _ => 1
def uptoBulkAll {H : Type} : List (DataW H) → Nat
  | [] => 0
  | d :: r => uptoBulk d + uptoBulkAll r
def uptoBulkEntries {H : Type} : List (Lit × DataW H) → Nat
  | [] => 0
  | x :: r => uptoBulkEntry x + uptoBulkEntries r
def uptoBulkEntry {H : Type} : Lit × DataW H → Nat
  | (.string bytes, d) => bytes.length + uptoBulk d + 1
  | (_, d) => uptoBulk d + 1
 end
def uptoSmall : (H : Type) → List (DataW H) → Bool := fun _ ds => decide (uptoBulkAll ds ≤ 1048576)
def OpenSpec.upto (s : _root_.Go.ChangeSpec) : _root_.Go.OpenSpec := { _root_.Go.OpenSpec.ofChange s with cond := some uptoSmall }

/-- 'charabanclaw20.LatchPorts', WHERE WHAT IT READS IS OF BULK AT MOST 1048576: true; the input reads as it did. -/
def latchPortsUptoRow : OpenClaim := { program := "ytngcadmhnbpgjaadoor", sum := "f1e60091c9a087db5fcc76cd3ddea762e4e180f5b5becb52447e1f41390e7d26", func := "charabanc/charabanclaw20.LatchPorts", spec := "latchPorts", named := ["charabanc/latch.devices"], apart := false, laid := [("charabanc/latch.devices", laid_charabanc_latch_devices)], narrowed := true }
def LatchPortsUptoSaid : Prop := latchPortsUptoRow.holds Tryd.pinned (OpenSpec.upto latchPortsSpec)

/-- 'charabanclaw20.LatchPlays', WHERE WHAT IT READS IS OF BULK AT MOST 1048576: true; the input reads as it did. -/
def latchPlaysUptoRow : OpenClaim := { program := "ytngcadmhnbpgjaadoor", sum := "f1e60091c9a087db5fcc76cd3ddea762e4e180f5b5becb52447e1f41390e7d26", func := "charabanc/charabanclaw20.LatchPlays", spec := "latchPlays", named := ["charabanc/latch.devices"], apart := false, laid := [("charabanc/latch.devices", laid_charabanc_latch_devices)], narrowed := true }
def LatchPlaysUptoSaid : Prop := latchPlaysUptoRow.holds Tryd.pinned (OpenSpec.upto latchPlaysSpec)

/-- 'charabanclaw20.LatchOne', WHERE WHAT IT READS IS OF BULK AT MOST 1048576: true; the input reads as it did. -/
def latchOneUptoRow : OpenClaim := { program := "ytngcadmhnbpgjaadoor", sum := "f1e60091c9a087db5fcc76cd3ddea762e4e180f5b5becb52447e1f41390e7d26", func := "charabanc/charabanclaw20.LatchOne", spec := "latchOne", named := ["charabanc/latch.devices"], apart := false, laid := [("charabanc/latch.devices", laid_charabanc_latch_devices)], narrowed := true }
def LatchOneUptoSaid : Prop := latchOneUptoRow.holds Tryd.pinned (OpenSpec.upto latchOneSpec)

end Rows
end Go.Proofs.YtngcadmhnbpgjaaDoor
