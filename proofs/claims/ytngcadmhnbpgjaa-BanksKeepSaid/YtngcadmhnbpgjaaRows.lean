/-
  No cell of these rows narrows 'for every input' (looked for: loops, veiled, ifaces, maps, wideKeys, modest, calm, conditions, laid).
  DERIVED. THE GIVEN ROWS OF THIS SEAT. 8 by the template 'for every input the law returns true; each argument reads behind the call as it read before'; 0 by the template 'total and deterministic' (their statements: YtngcadmhnbpgjaaTotals.lean).
  GIVEN WITH THE SEED: the statements are not yours to turn. If you find one false, say at which input.
  Laid BY PROGRAM, IN A SANDBOX (cutbox-rows.mjs): the forced cells as the released guide's own fill.sh prints them over the translation 33d7e93b8e75cb19… (all of the seat's roots in one cut). By AI agents, Wed Nov 11 2026. No macro, syntax, notation, axiom, sorry.
-/
import Derived.Test.YtngcadmhnbpgjaaChecked
import GoSem.Claim
import GoSem.ClaimJoined
import GoSem.ClaimMapViews
import Derived.JoinedTies
import Derived.KernelRfl
namespace Go.Proofs.Ytngcadmhnbpgjaa
/- THE CELL 'sum', in the pinned program and in every row, IS THE sha256 OF THE DUMP (.gsa) THAT YtngcadmhnbpgjaaProg.lean LOADS. Nothing in Lean hashes anything: it is a label: what it is worth is what the hold of that sum in a sandbox is worth. -/
noncomputable def Try.pinned : Pinned := { name := "ytngcadmhnbpgjaa", sum := "33d7e93b8e75cb197c2b6baf618af26e58b44b487e3835f9d367fa44b683a119", checked := Try.checked }
namespace Rows
def none {H : Type} : Left H := { results := [], args := [] }

/-- 'charabanclaw26.ChainTells': WHATEVER THE INPUT: true; the input reads as it did. -/
def chainTellsSpec : ChangeSpec := { name := "chainTells", fn := fun _ => fun
  | [d] => { results := [.lit (.bool true)], args := [d] }
  | _ => none }
def chainTellsRow : OpenClaim := { program := "ytngcadmhnbpgjaa", sum := "33d7e93b8e75cb197c2b6baf618af26e58b44b487e3835f9d367fa44b683a119", func := "charabanc/charabanclaw26.ChainTells", spec := "chainTells", unfollowed := true, recurses := true, apart := false }
def ChainTellsSaid : Prop := chainTellsRow.holds Try.pinned (OpenSpec.ofChange chainTellsSpec)

/-- ITS FALSE NEIGHBOUR: 'it returns false'. Refute it at one input. -/
def chainTellsWrong : ChangeSpec := { name := "chainTells", fn := fun _ => fun
  | [d] => { results := [.lit (.bool false)], args := [d] }
  | _ => none }
def ChainTellsWrongFalsely : Prop := chainTellsRow.holds Try.pinned (OpenSpec.ofChange chainTellsWrong)

/-- 'charabanclaw26.ChainPlays': WHATEVER THE INPUT: true; the input reads as it did. -/
def chainPlaysSpec : ChangeSpec := { name := "chainPlays", fn := fun _ => fun
  | [d1, d2, d3] => { results := [.lit (.bool true)], args := [d1, d2, d3] }
  | _ => none }
def chainPlaysRow : OpenClaim := { program := "ytngcadmhnbpgjaa", sum := "33d7e93b8e75cb197c2b6baf618af26e58b44b487e3835f9d367fa44b683a119", func := "charabanc/charabanclaw26.ChainPlays", spec := "chainPlays", unfollowed := true, recurses := true, apart := false }
def ChainPlaysSaid : Prop := chainPlaysRow.holds Try.pinned (OpenSpec.ofChange chainPlaysSpec)

/-- ITS FALSE NEIGHBOUR: 'it returns false'. Refute it at one input. -/
def chainPlaysWrong : ChangeSpec := { name := "chainPlays", fn := fun _ => fun
  | [d1, d2, d3] => { results := [.lit (.bool false)], args := [d1, d2, d3] }
  | _ => none }
def ChainPlaysWrongFalsely : Prop := chainPlaysRow.holds Try.pinned (OpenSpec.ofChange chainPlaysWrong)

/-- 'charabanclaw26.ChainStacks': WHATEVER THE INPUT: true; the input reads as it did. -/
def chainStacksSpec : ChangeSpec := { name := "chainStacks", fn := fun _ => fun
  | [d1, d2] => { results := [.lit (.bool true)], args := [d1, d2] }
  | _ => none }
def chainStacksRow : OpenClaim := { program := "ytngcadmhnbpgjaa", sum := "33d7e93b8e75cb197c2b6baf618af26e58b44b487e3835f9d367fa44b683a119", func := "charabanc/charabanclaw26.ChainStacks", spec := "chainStacks", unfollowed := true, recurses := true, apart := false }
def ChainStacksSaid : Prop := chainStacksRow.holds Try.pinned (OpenSpec.ofChange chainStacksSpec)

/-- ITS FALSE NEIGHBOUR: 'it returns false'. Refute it at one input. -/
def chainStacksWrong : ChangeSpec := { name := "chainStacks", fn := fun _ => fun
  | [d1, d2] => { results := [.lit (.bool false)], args := [d1, d2] }
  | _ => none }
def ChainStacksWrongFalsely : Prop := chainStacksRow.holds Try.pinned (OpenSpec.ofChange chainStacksWrong)

/-- 'charabanclaw19.BanksTell': WHATEVER THE INPUT: true; the input reads as it did. -/
def banksTellSpec : ChangeSpec := { name := "banksTell", fn := fun _ => fun
  | [d1, d2] => { results := [.lit (.bool true)], args := [d1, d2] }
  | _ => none }
def banksTellRow : OpenClaim := { program := "ytngcadmhnbpgjaa", sum := "33d7e93b8e75cb197c2b6baf618af26e58b44b487e3835f9d367fa44b683a119", func := "charabanc/charabanclaw19.BanksTell", spec := "banksTell", unfollowed := true, recurses := true, apart := false }
def BanksTellSaid : Prop := banksTellRow.holds Try.pinned (OpenSpec.ofChange banksTellSpec)

/-- ITS FALSE NEIGHBOUR: 'it returns false'. Refute it at one input. -/
def banksTellWrong : ChangeSpec := { name := "banksTell", fn := fun _ => fun
  | [d1, d2] => { results := [.lit (.bool false)], args := [d1, d2] }
  | _ => none }
def BanksTellWrongFalsely : Prop := banksTellRow.holds Try.pinned (OpenSpec.ofChange banksTellWrong)

/-- 'charabanclaw19.BanksWrite': WHATEVER THE INPUT: true; the input reads as it did. -/
def banksWriteSpec : ChangeSpec := { name := "banksWrite", fn := fun _ => fun
  | [d1, d2, d3] => { results := [.lit (.bool true)], args := [d1, d2, d3] }
  | _ => none }
def banksWriteRow : OpenClaim := { program := "ytngcadmhnbpgjaa", sum := "33d7e93b8e75cb197c2b6baf618af26e58b44b487e3835f9d367fa44b683a119", func := "charabanc/charabanclaw19.BanksWrite", spec := "banksWrite", unfollowed := true, recurses := true, apart := false }
def BanksWriteSaid : Prop := banksWriteRow.holds Try.pinned (OpenSpec.ofChange banksWriteSpec)

/-- ITS FALSE NEIGHBOUR: 'it returns false'. Refute it at one input. -/
def banksWriteWrong : ChangeSpec := { name := "banksWrite", fn := fun _ => fun
  | [d1, d2, d3] => { results := [.lit (.bool false)], args := [d1, d2, d3] }
  | _ => none }
def BanksWriteWrongFalsely : Prop := banksWriteRow.holds Try.pinned (OpenSpec.ofChange banksWriteWrong)

/-- 'charabanclaw19.BanksLoad': WHATEVER THE INPUT: true; the input reads as it did. -/
def banksLoadSpec : ChangeSpec := { name := "banksLoad", fn := fun _ => fun
  | [d1, d2, d3] => { results := [.lit (.bool true)], args := [d1, d2, d3] }
  | _ => none }
def banksLoadRow : OpenClaim := { program := "ytngcadmhnbpgjaa", sum := "33d7e93b8e75cb197c2b6baf618af26e58b44b487e3835f9d367fa44b683a119", func := "charabanc/charabanclaw19.BanksLoad", spec := "banksLoad", unfollowed := true, recurses := true, apart := false }
def BanksLoadSaid : Prop := banksLoadRow.holds Try.pinned (OpenSpec.ofChange banksLoadSpec)

/-- ITS FALSE NEIGHBOUR: 'it returns false'. Refute it at one input. -/
def banksLoadWrong : ChangeSpec := { name := "banksLoad", fn := fun _ => fun
  | [d1, d2, d3] => { results := [.lit (.bool false)], args := [d1, d2, d3] }
  | _ => none }
def BanksLoadWrongFalsely : Prop := banksLoadRow.holds Try.pinned (OpenSpec.ofChange banksLoadWrong)

/-- 'charabanclaw19.BanksKeep': WHATEVER THE INPUT: true; the input reads as it did. -/
def banksKeepSpec : ChangeSpec := { name := "banksKeep", fn := fun _ => fun
  | [d1, d2, d3] => { results := [.lit (.bool true)], args := [d1, d2, d3] }
  | _ => none }
def banksKeepRow : OpenClaim := { program := "ytngcadmhnbpgjaa", sum := "33d7e93b8e75cb197c2b6baf618af26e58b44b487e3835f9d367fa44b683a119", func := "charabanc/charabanclaw19.BanksKeep", spec := "banksKeep", unfollowed := true, recurses := true, apart := false }
def BanksKeepSaid : Prop := banksKeepRow.holds Try.pinned (OpenSpec.ofChange banksKeepSpec)

/-- ITS FALSE NEIGHBOUR: 'it returns false'. Refute it at one input. -/
def banksKeepWrong : ChangeSpec := { name := "banksKeep", fn := fun _ => fun
  | [d1, d2, d3] => { results := [.lit (.bool false)], args := [d1, d2, d3] }
  | _ => none }
def BanksKeepWrongFalsely : Prop := banksKeepRow.holds Try.pinned (OpenSpec.ofChange banksKeepWrong)

/-- 'charabanclaw19.BanksApart': WHATEVER THE INPUT: true; the input reads as it did. -/
def banksApartSpec : ChangeSpec := { name := "banksApart", fn := fun _ => fun
  | [d1, d2, d3] => { results := [.lit (.bool true)], args := [d1, d2, d3] }
  | _ => none }
def banksApartRow : OpenClaim := { program := "ytngcadmhnbpgjaa", sum := "33d7e93b8e75cb197c2b6baf618af26e58b44b487e3835f9d367fa44b683a119", func := "charabanc/charabanclaw19.BanksApart", spec := "banksApart", unfollowed := true, recurses := true, apart := false }
def BanksApartSaid : Prop := banksApartRow.holds Try.pinned (OpenSpec.ofChange banksApartSpec)

/-- ITS FALSE NEIGHBOUR: 'it returns false'. Refute it at one input. -/
def banksApartWrong : ChangeSpec := { name := "banksApart", fn := fun _ => fun
  | [d1, d2, d3] => { results := [.lit (.bool false)], args := [d1, d2, d3] }
  | _ => none }
def BanksApartWrongFalsely : Prop := banksApartRow.holds Try.pinned (OpenSpec.ofChange banksApartWrong)

/- THE SECOND FORM. 'bulk': how many values and letters a reading holds, each counted each time it is reached (what is shared counts as often as it is met; a slice's spare places count too). A statement '..UptoSaid' is the law's where the arguments, and the package variables that the reading takes, are together of bulk at most 1048576: NARROWER than '..Said'. Prove '..Said' where nothing that the law and all that it calls make is longer than what came in: it says more and counts as full. Else prove '..UptoSaid'. A law counts once. -/
mutual
def uptoBulk {H : Type} : DataW H → Nat
  | .lit (.string bytes) => bytes.length + 1
  | .lit _ => 1
  | .nil => 1
  | .ptr d => uptoBulk d + 1
  | .slice elems spare => uptoBulkAll elems + uptoBulkAll spare + 1
  | .agg parts => uptoBulkAll parts + 1
  | .iface _ d => uptoBulk d + 1
  | .map entries => uptoBulkEntries entries + 1
  | .held _ => 1
def uptoBulkAll {H : Type} : List (DataW H) → Nat
  | [] => 0
  | d :: r => uptoBulk d + uptoBulkAll r
def uptoBulkEntries {H : Type} : List (Lit × DataW H) → Nat
  | [] => 0
  | x :: r => uptoBulkEntry x + uptoBulkEntries r
def uptoBulkEntry {H : Type} : Lit × DataW H → Nat
  | (.string bytes, d) => bytes.length + uptoBulk d + 1
  | (_, d) => uptoBulk d + 1
 end
def uptoSmall : (H : Type) → List (DataW H) → Bool := fun _ ds => decide (uptoBulkAll ds ≤ 1048576)
def OpenSpec.upto (s : _root_.Go.ChangeSpec) : _root_.Go.OpenSpec := { _root_.Go.OpenSpec.ofChange s with cond := some uptoSmall }

/-- 'charabanclaw26.ChainTells', WHERE WHAT IT READS IS OF BULK AT MOST 1048576: true; the input reads as it did. -/
def chainTellsUptoRow : OpenClaim := { program := "ytngcadmhnbpgjaa", sum := "33d7e93b8e75cb197c2b6baf618af26e58b44b487e3835f9d367fa44b683a119", func := "charabanc/charabanclaw26.ChainTells", spec := "chainTells", unfollowed := true, recurses := true, apart := false, narrowed := true }
def ChainTellsUptoSaid : Prop := chainTellsUptoRow.holds Try.pinned (OpenSpec.upto chainTellsSpec)

/-- 'charabanclaw26.ChainPlays', WHERE WHAT IT READS IS OF BULK AT MOST 1048576: true; the input reads as it did. -/
def chainPlaysUptoRow : OpenClaim := { program := "ytngcadmhnbpgjaa", sum := "33d7e93b8e75cb197c2b6baf618af26e58b44b487e3835f9d367fa44b683a119", func := "charabanc/charabanclaw26.ChainPlays", spec := "chainPlays", unfollowed := true, recurses := true, apart := false, narrowed := true }
def ChainPlaysUptoSaid : Prop := chainPlaysUptoRow.holds Try.pinned (OpenSpec.upto chainPlaysSpec)

/-- 'charabanclaw26.ChainStacks', WHERE WHAT IT READS IS OF BULK AT MOST 1048576: true; the input reads as it did. -/
def chainStacksUptoRow : OpenClaim := { program := "ytngcadmhnbpgjaa", sum := "33d7e93b8e75cb197c2b6baf618af26e58b44b487e3835f9d367fa44b683a119", func := "charabanc/charabanclaw26.ChainStacks", spec := "chainStacks", unfollowed := true, recurses := true, apart := false, narrowed := true }
def ChainStacksUptoSaid : Prop := chainStacksUptoRow.holds Try.pinned (OpenSpec.upto chainStacksSpec)

/-- 'charabanclaw19.BanksTell', WHERE WHAT IT READS IS OF BULK AT MOST 1048576: true; the input reads as it did. -/
def banksTellUptoRow : OpenClaim := { program := "ytngcadmhnbpgjaa", sum := "33d7e93b8e75cb197c2b6baf618af26e58b44b487e3835f9d367fa44b683a119", func := "charabanc/charabanclaw19.BanksTell", spec := "banksTell", unfollowed := true, recurses := true, apart := false, narrowed := true }
def BanksTellUptoSaid : Prop := banksTellUptoRow.holds Try.pinned (OpenSpec.upto banksTellSpec)

/-- 'charabanclaw19.BanksWrite', WHERE WHAT IT READS IS OF BULK AT MOST 1048576: true; the input reads as it did. -/
def banksWriteUptoRow : OpenClaim := { program := "ytngcadmhnbpgjaa", sum := "33d7e93b8e75cb197c2b6baf618af26e58b44b487e3835f9d367fa44b683a119", func := "charabanc/charabanclaw19.BanksWrite", spec := "banksWrite", unfollowed := true, recurses := true, apart := false, narrowed := true }
def BanksWriteUptoSaid : Prop := banksWriteUptoRow.holds Try.pinned (OpenSpec.upto banksWriteSpec)

/-- 'charabanclaw19.BanksLoad', WHERE WHAT IT READS IS OF BULK AT MOST 1048576: true; the input reads as it did. -/
def banksLoadUptoRow : OpenClaim := { program := "ytngcadmhnbpgjaa", sum := "33d7e93b8e75cb197c2b6baf618af26e58b44b487e3835f9d367fa44b683a119", func := "charabanc/charabanclaw19.BanksLoad", spec := "banksLoad", unfollowed := true, recurses := true, apart := false, narrowed := true }
def BanksLoadUptoSaid : Prop := banksLoadUptoRow.holds Try.pinned (OpenSpec.upto banksLoadSpec)

/-- 'charabanclaw19.BanksKeep', WHERE WHAT IT READS IS OF BULK AT MOST 1048576: true; the input reads as it did. -/
def banksKeepUptoRow : OpenClaim := { program := "ytngcadmhnbpgjaa", sum := "33d7e93b8e75cb197c2b6baf618af26e58b44b487e3835f9d367fa44b683a119", func := "charabanc/charabanclaw19.BanksKeep", spec := "banksKeep", unfollowed := true, recurses := true, apart := false, narrowed := true }
def BanksKeepUptoSaid : Prop := banksKeepUptoRow.holds Try.pinned (OpenSpec.upto banksKeepSpec)

/-- 'charabanclaw19.BanksApart', WHERE WHAT IT READS IS OF BULK AT MOST 1048576: true; the input reads as it did. -/
def banksApartUptoRow : OpenClaim := { program := "ytngcadmhnbpgjaa", sum := "33d7e93b8e75cb197c2b6baf618af26e58b44b487e3835f9d367fa44b683a119", func := "charabanc/charabanclaw19.BanksApart", spec := "banksApart", unfollowed := true, recurses := true, apart := false, narrowed := true }
def BanksApartUptoSaid : Prop := banksApartUptoRow.holds Try.pinned (OpenSpec.upto banksApartSpec)

end Rows
end Go.Proofs.Ytngcadmhnbpgjaa
