/-
  NARROWER THAN 'FOR EVERY INPUT', by the rows' own cells (each row's printed sentence says how): HexfileLines: laid · HexfileTells: laid · HexfileBack: laid · HexfileTurned: laid · TextShows: laid · TextPlanes: laid · TextOwn: laid.
  DERIVED. THE GIVEN ROWS OF THIS SEAT. 7 by the template 'for every input the law returns true; each argument reads behind the call as it read before'; 0 by the template 'total and deterministic' (their statements: YtilgjfckgkkfmaaDoorTotals.lean).
  GIVEN WITH THE SEED: the statements are not yours to turn. If you find one false, say at which input.
  Laid BY PROGRAM, IN A SANDBOX (cutbox-rows.mjs): the forced cells as the released guide's own fill.sh prints them over the translation edb831cb0af129ee… (all of the seat's roots in one cut). By AI agents, Wed Nov 11 2026. No macro, syntax, notation, axiom, sorry.
-/
import Derived.Test.YtilgjfckgkkfmaaDoorChecked
import GoSem.PinnedTables
import GoSem.Claim
import GoSem.ClaimJoined
import GoSem.ClaimMapViews
import Derived.JoinedTies
import Derived.KernelRfl
namespace Go.Proofs.YtilgjfckgkkfmaaDoor
/- THE CELL 'sum', in the pinned program and in every row, IS THE sha256 OF THE DUMP (.gsa) THAT YtilgjfckgkkfmaaDoorProg.lean LOADS. Nothing in Lean hashes anything: it is a label: what it is worth is what the hold of that sum in a sandbox is worth. -/
noncomputable def Tryd.pinned : Pinned := { name := "ytilgjfckgkkfmaadoor", sum := "edb831cb0af129eeeedb4b21090dc539e98835edd4ffe9483e20dba8c8908460", checked := Tryd.checked }
namespace Rows
def none {H : Type} : Left H := { results := [], args := [] }

/- WHAT THE LISTED PACKAGE-LEVEL VARIABLES READ AS WHEN THE CALL BEGINS. Each datum BY PROGRAM (the guide's laid-datum.mjs) off the statement by which the dump's own 'gosem.cut.vars' lays the variable. In a bare row this is a premise. The card (YtilgjfckgkkfmaaDoorCards.lean) ties it to the program's text. -/
def laid_unicode_utf8_acceptRanges {H : Type} : DataW H := .agg [.agg [.lit (.int .u8 128), .lit (.int .u8 191)], .agg [.lit (.int .u8 160), .lit (.int .u8 191)], .agg [.lit (.int .u8 128), .lit (.int .u8 159)], .agg [.lit (.int .u8 144), .lit (.int .u8 191)], .agg [.lit (.int .u8 128), .lit (.int .u8 143)], .agg [.lit (.int .u8 0), .lit (.int .u8 0)], .agg [.lit (.int .u8 0), .lit (.int .u8 0)], .agg [.lit (.int .u8 0), .lit (.int .u8 0)], .agg [.lit (.int .u8 0), .lit (.int .u8 0)], .agg [.lit (.int .u8 0), .lit (.int .u8 0)], .agg [.lit (.int .u8 0), .lit (.int .u8 0)], .agg [.lit (.int .u8 0), .lit (.int .u8 0)], .agg [.lit (.int .u8 0), .lit (.int .u8 0)], .agg [.lit (.int .u8 0), .lit (.int .u8 0)], .agg [.lit (.int .u8 0), .lit (.int .u8 0)], .agg [.lit (.int .u8 0), .lit (.int .u8 0)]]
/-- One of Go's own tables, pinned by name: the form's constant. -/
def laid_unicode_utf8_first : DataW Unit := Go.Pinned.utf8First
def laid_math_bits_deBruijn32tab {H : Type} : DataW H := .agg [.lit (.int .u8 0), .lit (.int .u8 1), .lit (.int .u8 28), .lit (.int .u8 2), .lit (.int .u8 29), .lit (.int .u8 14), .lit (.int .u8 24), .lit (.int .u8 3), .lit (.int .u8 30), .lit (.int .u8 22), .lit (.int .u8 20), .lit (.int .u8 15), .lit (.int .u8 25), .lit (.int .u8 17), .lit (.int .u8 4), .lit (.int .u8 8), .lit (.int .u8 31), .lit (.int .u8 27), .lit (.int .u8 13), .lit (.int .u8 23), .lit (.int .u8 21), .lit (.int .u8 19), .lit (.int .u8 16), .lit (.int .u8 7), .lit (.int .u8 26), .lit (.int .u8 12), .lit (.int .u8 18), .lit (.int .u8 6), .lit (.int .u8 11), .lit (.int .u8 5), .lit (.int .u8 10), .lit (.int .u8 9)]
def laid_math_bits_deBruijn64tab {H : Type} : DataW H := .agg [.lit (.int .u8 0), .lit (.int .u8 1), .lit (.int .u8 56), .lit (.int .u8 2), .lit (.int .u8 57), .lit (.int .u8 49), .lit (.int .u8 28), .lit (.int .u8 3), .lit (.int .u8 61), .lit (.int .u8 58), .lit (.int .u8 42), .lit (.int .u8 50), .lit (.int .u8 38), .lit (.int .u8 29), .lit (.int .u8 17), .lit (.int .u8 4), .lit (.int .u8 62), .lit (.int .u8 47), .lit (.int .u8 59), .lit (.int .u8 36), .lit (.int .u8 45), .lit (.int .u8 43), .lit (.int .u8 51), .lit (.int .u8 22), .lit (.int .u8 53), .lit (.int .u8 39), .lit (.int .u8 33), .lit (.int .u8 30), .lit (.int .u8 24), .lit (.int .u8 18), .lit (.int .u8 12), .lit (.int .u8 5), .lit (.int .u8 63), .lit (.int .u8 55), .lit (.int .u8 48), .lit (.int .u8 27), .lit (.int .u8 60), .lit (.int .u8 41), .lit (.int .u8 37), .lit (.int .u8 16), .lit (.int .u8 46), .lit (.int .u8 35), .lit (.int .u8 44), .lit (.int .u8 21), .lit (.int .u8 52), .lit (.int .u8 32), .lit (.int .u8 23), .lit (.int .u8 11), .lit (.int .u8 54), .lit (.int .u8 26), .lit (.int .u8 40), .lit (.int .u8 15), .lit (.int .u8 34), .lit (.int .u8 20), .lit (.int .u8 31), .lit (.int .u8 10), .lit (.int .u8 25), .lit (.int .u8 14), .lit (.int .u8 19), .lit (.int .u8 9), .lit (.int .u8 13), .lit (.int .u8 8), .lit (.int .u8 7), .lit (.int .u8 6)]
def laid_internal_strconv_uint64pow10 {H : Type} : DataW H := .agg [.lit (.int .u64 1), .lit (.int .u64 10), .lit (.int .u64 100), .lit (.int .u64 1000), .lit (.int .u64 10000), .lit (.int .u64 100000), .lit (.int .u64 1000000), .lit (.int .u64 10000000), .lit (.int .u64 100000000), .lit (.int .u64 1000000000), .lit (.int .u64 10000000000), .lit (.int .u64 100000000000), .lit (.int .u64 1000000000000), .lit (.int .u64 10000000000000), .lit (.int .u64 100000000000000), .lit (.int .u64 1000000000000000), .lit (.int .u64 10000000000000000), .lit (.int .u64 100000000000000000), .lit (.int .u64 1000000000000000000), .lit (.int .u64 10000000000000000000)]
def laid_charabanc_text_regs {H : Type} : DataW H := .agg [.lit (.string [98]), .lit (.string [99]), .lit (.string [100]), .lit (.string [101]), .lit (.string [104]), .lit (.string [108]), .lit (.string [40, 104, 108, 41]), .lit (.string [97])]
def laid_charabanc_text_pairs {H : Type} : DataW H := .agg [.lit (.string [98, 99]), .lit (.string [100, 101]), .lit (.string [104, 108]), .lit (.string [115, 112]), .lit (.string [97, 102])]
def laid_charabanc_text_conds {H : Type} : DataW H := .agg [.lit (.string [110, 122]), .lit (.string [122]), .lit (.string [110, 99]), .lit (.string [99]), .lit (.string [112, 111]), .lit (.string [112, 101]), .lit (.string [112]), .lit (.string [109])]
def laid_charabanc_text_sums {H : Type} : DataW H := .agg [.lit (.string [97, 100, 100, 32, 97, 44]), .lit (.string [97, 100, 99, 32, 97, 44]), .lit (.string [115, 117, 98, 32]), .lit (.string [115, 98, 99, 32, 97, 44]), .lit (.string [97, 110, 100, 32]), .lit (.string [120, 111, 114, 32]), .lit (.string [111, 114, 32]), .lit (.string [99, 112, 32])]
def laid_charabanc_text_shifts {H : Type} : DataW H := .agg [.lit (.string [114, 108, 99, 32]), .lit (.string [114, 114, 99, 32]), .lit (.string [114, 108, 32]), .lit (.string [114, 114, 32]), .lit (.string [115, 108, 97, 32]), .lit (.string [115, 114, 97, 32]), .lit (.string [115, 108, 108, 32]), .lit (.string [115, 114, 108, 32])]
def laid_charabanc_text_asks {H : Type} : DataW H := .agg [.lit (.string []), .lit (.string [98, 105, 116, 32]), .lit (.string [114, 101, 115, 32]), .lit (.string [115, 101, 116, 32])]
def laid_charabanc_text_turns {H : Type} : DataW H := .agg [.lit (.string [114, 108, 99, 97]), .lit (.string [114, 114, 99, 97]), .lit (.string [114, 108, 97]), .lit (.string [114, 114, 97]), .lit (.string [100, 97, 97]), .lit (.string [99, 112, 108]), .lit (.string [115, 99, 102]), .lit (.string [99, 99, 102])]
def laid_charabanc_text_odd {H : Type} : DataW H := .agg [.lit (.string [108, 100, 32, 105, 44, 97]), .lit (.string [108, 100, 32, 114, 44, 97]), .lit (.string [108, 100, 32, 97, 44, 105]), .lit (.string [108, 100, 32, 97, 44, 114]), .lit (.string [114, 114, 100]), .lit (.string [114, 108, 100]), .lit (.string [110, 111, 112, 42]), .lit (.string [110, 111, 112, 42])]
def laid_charabanc_text_blocks {H : Type} : DataW H := .agg [.lit (.string [108, 100]), .lit (.string [99, 112]), .lit (.string [105, 110]), .lit (.string [111, 116])]
def laid_charabanc_text_ways {H : Type} : DataW H := .agg [.lit (.string [105]), .lit (.string [100]), .lit (.string [105, 114]), .lit (.string [100, 114])]
def laid_charabanc_text_modes {H : Type} : DataW H := .agg [.lit (.string [105, 109, 32, 48]), .lit (.string [105, 109, 32, 48]), .lit (.string [105, 109, 32, 49]), .lit (.string [105, 109, 32, 50])]

/-- 'charabanclaw33.HexfileLines': WHATEVER THE INPUT: true; the input reads as it did. -/
def hexfileLinesSpec : ChangeSpec := { name := "hexfileLines", fn := fun _ => fun
  | [d1, d2] => { results := [.lit (.bool true)], args := [d1, d2] }
  | _ => none }
def hexfileLinesRow : OpenClaim := { program := "ytilgjfckgkkfmaadoor", sum := "edb831cb0af129eeeedb4b21090dc539e98835edd4ffe9483e20dba8c8908460", func := "charabanc/charabanclaw33.HexfileLines", spec := "hexfileLines", inPlace := ["internal/bytealg.IndexByteString", "internal/bytealg.CountString", "internal/bytealg.IndexString", "internal/abi.NoEscape"], unfollowed := true, recurses := true, named := ["unicode/utf8.first", "unicode/utf8.acceptRanges", "internal/bytealg.MaxLen"], plainKeys := false, apart := false, laid := [("unicode/utf8.acceptRanges", laid_unicode_utf8_acceptRanges), ("unicode/utf8.first", laid_unicode_utf8_first)] }
def HexfileLinesSaid : Prop := hexfileLinesRow.holds Tryd.pinned (OpenSpec.ofChange hexfileLinesSpec)

/-- ITS FALSE NEIGHBOUR: 'it returns false'. Refute it at one input. -/
def hexfileLinesWrong : ChangeSpec := { name := "hexfileLines", fn := fun _ => fun
  | [d1, d2] => { results := [.lit (.bool false)], args := [d1, d2] }
  | _ => none }
def HexfileLinesWrongFalsely : Prop := hexfileLinesRow.holds Tryd.pinned (OpenSpec.ofChange hexfileLinesWrong)

/-- 'charabanclaw33.HexfileTells': WHATEVER THE INPUT: true; the input reads as it did. -/
def hexfileTellsSpec : ChangeSpec := { name := "hexfileTells", fn := fun _ => fun
  | [d1, d2] => { results := [.lit (.bool true)], args := [d1, d2] }
  | _ => none }
def hexfileTellsRow : OpenClaim := { program := "ytilgjfckgkkfmaadoor", sum := "edb831cb0af129eeeedb4b21090dc539e98835edd4ffe9483e20dba8c8908460", func := "charabanc/charabanclaw33.HexfileTells", spec := "hexfileTells", inPlace := ["internal/bytealg.IndexByteString", "internal/bytealg.CountString", "internal/bytealg.IndexString", "internal/abi.NoEscape"], unfollowed := true, recurses := true, named := ["unicode/utf8.first", "unicode/utf8.acceptRanges", "internal/bytealg.MaxLen"], plainKeys := false, apart := false, laid := [("unicode/utf8.acceptRanges", laid_unicode_utf8_acceptRanges), ("unicode/utf8.first", laid_unicode_utf8_first)] }
def HexfileTellsSaid : Prop := hexfileTellsRow.holds Tryd.pinned (OpenSpec.ofChange hexfileTellsSpec)

/-- ITS FALSE NEIGHBOUR: 'it returns false'. Refute it at one input. -/
def hexfileTellsWrong : ChangeSpec := { name := "hexfileTells", fn := fun _ => fun
  | [d1, d2] => { results := [.lit (.bool false)], args := [d1, d2] }
  | _ => none }
def HexfileTellsWrongFalsely : Prop := hexfileTellsRow.holds Tryd.pinned (OpenSpec.ofChange hexfileTellsWrong)

/-- 'charabanclaw33.HexfileBack': WHATEVER THE INPUT: true; the input reads as it did. -/
def hexfileBackSpec : ChangeSpec := { name := "hexfileBack", fn := fun _ => fun
  | [d1, d2] => { results := [.lit (.bool true)], args := [d1, d2] }
  | _ => none }
def hexfileBackRow : OpenClaim := { program := "ytilgjfckgkkfmaadoor", sum := "edb831cb0af129eeeedb4b21090dc539e98835edd4ffe9483e20dba8c8908460", func := "charabanc/charabanclaw33.HexfileBack", spec := "hexfileBack", inPlace := ["internal/bytealg.IndexByteString", "internal/bytealg.CountString", "internal/bytealg.IndexString", "internal/abi.NoEscape"], unfollowed := true, recurses := true, named := ["unicode/utf8.first", "unicode/utf8.acceptRanges", "internal/bytealg.MaxLen"], plainKeys := false, apart := false, laid := [("unicode/utf8.acceptRanges", laid_unicode_utf8_acceptRanges), ("unicode/utf8.first", laid_unicode_utf8_first)] }
def HexfileBackSaid : Prop := hexfileBackRow.holds Tryd.pinned (OpenSpec.ofChange hexfileBackSpec)

/-- ITS FALSE NEIGHBOUR: 'it returns false'. Refute it at one input. -/
def hexfileBackWrong : ChangeSpec := { name := "hexfileBack", fn := fun _ => fun
  | [d1, d2] => { results := [.lit (.bool false)], args := [d1, d2] }
  | _ => none }
def HexfileBackWrongFalsely : Prop := hexfileBackRow.holds Tryd.pinned (OpenSpec.ofChange hexfileBackWrong)

/-- 'charabanclaw33.HexfileTurned': WHATEVER THE INPUT: true; the input reads as it did. -/
def hexfileTurnedSpec : ChangeSpec := { name := "hexfileTurned", fn := fun _ => fun
  | [d1, d2, d3] => { results := [.lit (.bool true)], args := [d1, d2, d3] }
  | _ => none }
def hexfileTurnedRow : OpenClaim := { program := "ytilgjfckgkkfmaadoor", sum := "edb831cb0af129eeeedb4b21090dc539e98835edd4ffe9483e20dba8c8908460", func := "charabanc/charabanclaw33.HexfileTurned", spec := "hexfileTurned", inPlace := ["internal/bytealg.IndexByteString", "internal/bytealg.CountString", "internal/bytealg.IndexString", "internal/abi.NoEscape"], unfollowed := true, recurses := true, named := ["unicode/utf8.first", "unicode/utf8.acceptRanges", "internal/bytealg.MaxLen"], plainKeys := false, apart := false, laid := [("unicode/utf8.acceptRanges", laid_unicode_utf8_acceptRanges), ("unicode/utf8.first", laid_unicode_utf8_first)] }
def HexfileTurnedSaid : Prop := hexfileTurnedRow.holds Tryd.pinned (OpenSpec.ofChange hexfileTurnedSpec)

/-- ITS FALSE NEIGHBOUR: 'it returns false'. Refute it at one input. -/
def hexfileTurnedWrong : ChangeSpec := { name := "hexfileTurned", fn := fun _ => fun
  | [d1, d2, d3] => { results := [.lit (.bool false)], args := [d1, d2, d3] }
  | _ => none }
def HexfileTurnedWrongFalsely : Prop := hexfileTurnedRow.holds Tryd.pinned (OpenSpec.ofChange hexfileTurnedWrong)

/-- 'charabanclaw09.TextShows': WHATEVER THE INPUT: true; the input reads as it did. -/
def textShowsSpec : ChangeSpec := { name := "textShows", fn := fun _ => fun
  | [d] => { results := [.lit (.bool true)], args := [d] }
  | _ => none }
def textShowsRow : OpenClaim := { program := "ytilgjfckgkkfmaadoor", sum := "edb831cb0af129eeeedb4b21090dc539e98835edd4ffe9483e20dba8c8908460", func := "charabanc/charabanclaw09.TextShows", spec := "textShows", inPlace := ["internal/abi.NoEscape", "internal/bytealg.MakeNoZero"], unfollowed := true, recurses := true, named := ["charabanc/text.conds", "charabanc/text.turns", "internal/strconv.uint64pow10", "math/bits.deBruijn32tab", "math/bits.deBruijn64tab", "charabanc/text.pairs", "charabanc/text.regs", "charabanc/text.sums", "charabanc/text.ways", "charabanc/text.blocks", "charabanc/text.modes", "charabanc/text.odd", "charabanc/text.shifts", "charabanc/text.asks"], plainKeys := false, apart := false, laid := [("math/bits.deBruijn32tab", laid_math_bits_deBruijn32tab), ("math/bits.deBruijn64tab", laid_math_bits_deBruijn64tab), ("internal/strconv.uint64pow10", laid_internal_strconv_uint64pow10), ("charabanc/text.regs", laid_charabanc_text_regs), ("charabanc/text.pairs", laid_charabanc_text_pairs), ("charabanc/text.conds", laid_charabanc_text_conds), ("charabanc/text.sums", laid_charabanc_text_sums), ("charabanc/text.shifts", laid_charabanc_text_shifts), ("charabanc/text.asks", laid_charabanc_text_asks), ("charabanc/text.turns", laid_charabanc_text_turns), ("charabanc/text.odd", laid_charabanc_text_odd), ("charabanc/text.blocks", laid_charabanc_text_blocks), ("charabanc/text.ways", laid_charabanc_text_ways), ("charabanc/text.modes", laid_charabanc_text_modes)] }
def TextShowsSaid : Prop := textShowsRow.holds Tryd.pinned (OpenSpec.ofChange textShowsSpec)

/-- ITS FALSE NEIGHBOUR: 'it returns false'. Refute it at one input. -/
def textShowsWrong : ChangeSpec := { name := "textShows", fn := fun _ => fun
  | [d] => { results := [.lit (.bool false)], args := [d] }
  | _ => none }
def TextShowsWrongFalsely : Prop := textShowsRow.holds Tryd.pinned (OpenSpec.ofChange textShowsWrong)

/-- 'charabanclaw09.TextPlanes': WHATEVER THE INPUT: true; the input reads as it did. -/
def textPlanesSpec : ChangeSpec := { name := "textPlanes", fn := fun _ => fun
  | [d1, d2, d3] => { results := [.lit (.bool true)], args := [d1, d2, d3] }
  | _ => none }
def textPlanesRow : OpenClaim := { program := "ytilgjfckgkkfmaadoor", sum := "edb831cb0af129eeeedb4b21090dc539e98835edd4ffe9483e20dba8c8908460", func := "charabanc/charabanclaw09.TextPlanes", spec := "textPlanes", inPlace := ["internal/abi.NoEscape", "internal/bytealg.MakeNoZero"], unfollowed := true, recurses := true, named := ["charabanc/text.conds", "charabanc/text.turns", "internal/strconv.uint64pow10", "math/bits.deBruijn32tab", "math/bits.deBruijn64tab", "charabanc/text.pairs", "charabanc/text.regs", "charabanc/text.sums", "charabanc/text.ways", "charabanc/text.blocks", "charabanc/text.modes", "charabanc/text.odd", "charabanc/text.shifts", "charabanc/text.asks"], plainKeys := false, apart := false, laid := [("math/bits.deBruijn32tab", laid_math_bits_deBruijn32tab), ("math/bits.deBruijn64tab", laid_math_bits_deBruijn64tab), ("internal/strconv.uint64pow10", laid_internal_strconv_uint64pow10), ("charabanc/text.regs", laid_charabanc_text_regs), ("charabanc/text.pairs", laid_charabanc_text_pairs), ("charabanc/text.conds", laid_charabanc_text_conds), ("charabanc/text.sums", laid_charabanc_text_sums), ("charabanc/text.shifts", laid_charabanc_text_shifts), ("charabanc/text.asks", laid_charabanc_text_asks), ("charabanc/text.turns", laid_charabanc_text_turns), ("charabanc/text.odd", laid_charabanc_text_odd), ("charabanc/text.blocks", laid_charabanc_text_blocks), ("charabanc/text.ways", laid_charabanc_text_ways), ("charabanc/text.modes", laid_charabanc_text_modes)] }
def TextPlanesSaid : Prop := textPlanesRow.holds Tryd.pinned (OpenSpec.ofChange textPlanesSpec)

/-- ITS FALSE NEIGHBOUR: 'it returns false'. Refute it at one input. -/
def textPlanesWrong : ChangeSpec := { name := "textPlanes", fn := fun _ => fun
  | [d1, d2, d3] => { results := [.lit (.bool false)], args := [d1, d2, d3] }
  | _ => none }
def TextPlanesWrongFalsely : Prop := textPlanesRow.holds Tryd.pinned (OpenSpec.ofChange textPlanesWrong)

/-- 'charabanclaw09.TextOwn': WHATEVER THE INPUT: true; the input reads as it did. -/
def textOwnSpec : ChangeSpec := { name := "textOwn", fn := fun _ => fun
  | [d1, d2] => { results := [.lit (.bool true)], args := [d1, d2] }
  | _ => none }
def textOwnRow : OpenClaim := { program := "ytilgjfckgkkfmaadoor", sum := "edb831cb0af129eeeedb4b21090dc539e98835edd4ffe9483e20dba8c8908460", func := "charabanc/charabanclaw09.TextOwn", spec := "textOwn", inPlace := ["internal/abi.NoEscape", "internal/bytealg.MakeNoZero"], unfollowed := true, recurses := true, named := ["charabanc/text.conds", "charabanc/text.turns", "internal/strconv.uint64pow10", "math/bits.deBruijn32tab", "math/bits.deBruijn64tab", "charabanc/text.pairs", "charabanc/text.regs", "charabanc/text.sums", "charabanc/text.ways", "charabanc/text.blocks", "charabanc/text.modes", "charabanc/text.odd", "charabanc/text.shifts", "charabanc/text.asks"], plainKeys := false, apart := false, laid := [("math/bits.deBruijn32tab", laid_math_bits_deBruijn32tab), ("math/bits.deBruijn64tab", laid_math_bits_deBruijn64tab), ("internal/strconv.uint64pow10", laid_internal_strconv_uint64pow10), ("charabanc/text.regs", laid_charabanc_text_regs), ("charabanc/text.pairs", laid_charabanc_text_pairs), ("charabanc/text.conds", laid_charabanc_text_conds), ("charabanc/text.sums", laid_charabanc_text_sums), ("charabanc/text.shifts", laid_charabanc_text_shifts), ("charabanc/text.asks", laid_charabanc_text_asks), ("charabanc/text.turns", laid_charabanc_text_turns), ("charabanc/text.odd", laid_charabanc_text_odd), ("charabanc/text.blocks", laid_charabanc_text_blocks), ("charabanc/text.ways", laid_charabanc_text_ways), ("charabanc/text.modes", laid_charabanc_text_modes)] }
def TextOwnSaid : Prop := textOwnRow.holds Tryd.pinned (OpenSpec.ofChange textOwnSpec)

/-- ITS FALSE NEIGHBOUR: 'it returns false'. Refute it at one input. -/
def textOwnWrong : ChangeSpec := { name := "textOwn", fn := fun _ => fun
  | [d1, d2] => { results := [.lit (.bool false)], args := [d1, d2] }
  | _ => none }
def TextOwnWrongFalsely : Prop := textOwnRow.holds Tryd.pinned (OpenSpec.ofChange textOwnWrong)

/- THE SECOND FORM. 'bulk': how many values and letters a reading holds, each counted each time it is reached (what is shared counts as often as it is met; a slice's spare places count too). A statement '..UptoSaid' is the law's where the arguments, and the package variables that the reading takes, are together of bulk at most 1048576: NARROWER than '..Said'. Prove '..Said' where nothing that the law and all that it calls make is longer than what came in: it says more and counts as full. Else prove '..UptoSaid'. A law counts once. -/
mutual
def uptoBulk {H : Type} : DataW H → Nat
  | .lit (.string bytes) => bytes.length + 1
  | .lit _ => 1
  | .nil => 1
  | .ptr d => uptoBulk d + 1
  | .slice elems spare => uptoBulkAll elems + uptoBulkAll spare + 1
  | .agg parts => uptoBulkAll parts + 1
  | .iface _ d => uptoBulk d + 1
  | .map entries => uptoBulkEntries entries + 1
  | .held _ => 1
def uptoBulkAll {H : Type} : List (DataW H) → Nat
  | [] => 0
  | d :: r => uptoBulk d + uptoBulkAll r
def uptoBulkEntries {H : Type} : List (Lit × DataW H) → Nat
  | [] => 0
  | x :: r => uptoBulkEntry x + uptoBulkEntries r
def uptoBulkEntry {H : Type} : Lit × DataW H → Nat
  | (.string bytes, d) => bytes.length + uptoBulk d + 1
  | (_, d) => uptoBulk d + 1
 end
def uptoSmall : (H : Type) → List (DataW H) → Bool := fun _ ds => decide (uptoBulkAll ds ≤ 1048576)
def OpenSpec.upto (s : _root_.Go.ChangeSpec) : _root_.Go.OpenSpec := { _root_.Go.OpenSpec.ofChange s with cond := some uptoSmall }

/-- 'charabanclaw33.HexfileLines', WHERE WHAT IT READS IS OF BULK AT MOST 1048576: true; the input reads as it did. -/
def hexfileLinesUptoRow : OpenClaim := { program := "ytilgjfckgkkfmaadoor", sum := "edb831cb0af129eeeedb4b21090dc539e98835edd4ffe9483e20dba8c8908460", func := "charabanc/charabanclaw33.HexfileLines", spec := "hexfileLines", inPlace := ["internal/bytealg.IndexByteString", "internal/bytealg.CountString", "internal/bytealg.IndexString", "internal/abi.NoEscape"], unfollowed := true, recurses := true, named := ["unicode/utf8.first", "unicode/utf8.acceptRanges", "internal/bytealg.MaxLen"], plainKeys := false, apart := false, laid := [("unicode/utf8.acceptRanges", laid_unicode_utf8_acceptRanges), ("unicode/utf8.first", laid_unicode_utf8_first)], narrowed := true }
def HexfileLinesUptoSaid : Prop := hexfileLinesUptoRow.holds Tryd.pinned (OpenSpec.upto hexfileLinesSpec)

/-- 'charabanclaw33.HexfileTells', WHERE WHAT IT READS IS OF BULK AT MOST 1048576: true; the input reads as it did. -/
def hexfileTellsUptoRow : OpenClaim := { program := "ytilgjfckgkkfmaadoor", sum := "edb831cb0af129eeeedb4b21090dc539e98835edd4ffe9483e20dba8c8908460", func := "charabanc/charabanclaw33.HexfileTells", spec := "hexfileTells", inPlace := ["internal/bytealg.IndexByteString", "internal/bytealg.CountString", "internal/bytealg.IndexString", "internal/abi.NoEscape"], unfollowed := true, recurses := true, named := ["unicode/utf8.first", "unicode/utf8.acceptRanges", "internal/bytealg.MaxLen"], plainKeys := false, apart := false, laid := [("unicode/utf8.acceptRanges", laid_unicode_utf8_acceptRanges), ("unicode/utf8.first", laid_unicode_utf8_first)], narrowed := true }
def HexfileTellsUptoSaid : Prop := hexfileTellsUptoRow.holds Tryd.pinned (OpenSpec.upto hexfileTellsSpec)

/-- 'charabanclaw33.HexfileBack', WHERE WHAT IT READS IS OF BULK AT MOST 1048576: true; the input reads as it did. -/
def hexfileBackUptoRow : OpenClaim := { program := "ytilgjfckgkkfmaadoor", sum := "edb831cb0af129eeeedb4b21090dc539e98835edd4ffe9483e20dba8c8908460", func := "charabanc/charabanclaw33.HexfileBack", spec := "hexfileBack", inPlace := ["internal/bytealg.IndexByteString", "internal/bytealg.CountString", "internal/bytealg.IndexString", "internal/abi.NoEscape"], unfollowed := true, recurses := true, named := ["unicode/utf8.first", "unicode/utf8.acceptRanges", "internal/bytealg.MaxLen"], plainKeys := false, apart := false, laid := [("unicode/utf8.acceptRanges", laid_unicode_utf8_acceptRanges), ("unicode/utf8.first", laid_unicode_utf8_first)], narrowed := true }
def HexfileBackUptoSaid : Prop := hexfileBackUptoRow.holds Tryd.pinned (OpenSpec.upto hexfileBackSpec)

/-- 'charabanclaw33.HexfileTurned', WHERE WHAT IT READS IS OF BULK AT MOST 1048576: true; the input reads as it did. -/
def hexfileTurnedUptoRow : OpenClaim := { program := "ytilgjfckgkkfmaadoor", sum := "edb831cb0af129eeeedb4b21090dc539e98835edd4ffe9483e20dba8c8908460", func := "charabanc/charabanclaw33.HexfileTurned", spec := "hexfileTurned", inPlace := ["internal/bytealg.IndexByteString", "internal/bytealg.CountString", "internal/bytealg.IndexString", "internal/abi.NoEscape"], unfollowed := true, recurses := true, named := ["unicode/utf8.first", "unicode/utf8.acceptRanges", "internal/bytealg.MaxLen"], plainKeys := false, apart := false, laid := [("unicode/utf8.acceptRanges", laid_unicode_utf8_acceptRanges), ("unicode/utf8.first", laid_unicode_utf8_first)], narrowed := true }
def HexfileTurnedUptoSaid : Prop := hexfileTurnedUptoRow.holds Tryd.pinned (OpenSpec.upto hexfileTurnedSpec)

/-- 'charabanclaw09.TextShows', WHERE WHAT IT READS IS OF BULK AT MOST 1048576: true; the input reads as it did. -/
def textShowsUptoRow : OpenClaim := { program := "ytilgjfckgkkfmaadoor", sum := "edb831cb0af129eeeedb4b21090dc539e98835edd4ffe9483e20dba8c8908460", func := "charabanc/charabanclaw09.TextShows", spec := "textShows", inPlace := ["internal/abi.NoEscape", "internal/bytealg.MakeNoZero"], unfollowed := true, recurses := true, named := ["charabanc/text.conds", "charabanc/text.turns", "internal/strconv.uint64pow10", "math/bits.deBruijn32tab", "math/bits.deBruijn64tab", "charabanc/text.pairs", "charabanc/text.regs", "charabanc/text.sums", "charabanc/text.ways", "charabanc/text.blocks", "charabanc/text.modes", "charabanc/text.odd", "charabanc/text.shifts", "charabanc/text.asks"], plainKeys := false, apart := false, laid := [("math/bits.deBruijn32tab", laid_math_bits_deBruijn32tab), ("math/bits.deBruijn64tab", laid_math_bits_deBruijn64tab), ("internal/strconv.uint64pow10", laid_internal_strconv_uint64pow10), ("charabanc/text.regs", laid_charabanc_text_regs), ("charabanc/text.pairs", laid_charabanc_text_pairs), ("charabanc/text.conds", laid_charabanc_text_conds), ("charabanc/text.sums", laid_charabanc_text_sums), ("charabanc/text.shifts", laid_charabanc_text_shifts), ("charabanc/text.asks", laid_charabanc_text_asks), ("charabanc/text.turns", laid_charabanc_text_turns), ("charabanc/text.odd", laid_charabanc_text_odd), ("charabanc/text.blocks", laid_charabanc_text_blocks), ("charabanc/text.ways", laid_charabanc_text_ways), ("charabanc/text.modes", laid_charabanc_text_modes)], narrowed := true }
def TextShowsUptoSaid : Prop := textShowsUptoRow.holds Tryd.pinned (OpenSpec.upto textShowsSpec)

/-- 'charabanclaw09.TextPlanes', WHERE WHAT IT READS IS OF BULK AT MOST 1048576: true; the input reads as it did. -/
def textPlanesUptoRow : OpenClaim := { program := "ytilgjfckgkkfmaadoor", sum := "edb831cb0af129eeeedb4b21090dc539e98835edd4ffe9483e20dba8c8908460", func := "charabanc/charabanclaw09.TextPlanes", spec := "textPlanes", inPlace := ["internal/abi.NoEscape", "internal/bytealg.MakeNoZero"], unfollowed := true, recurses := true, named := ["charabanc/text.conds", "charabanc/text.turns", "internal/strconv.uint64pow10", "math/bits.deBruijn32tab", "math/bits.deBruijn64tab", "charabanc/text.pairs", "charabanc/text.regs", "charabanc/text.sums", "charabanc/text.ways", "charabanc/text.blocks", "charabanc/text.modes", "charabanc/text.odd", "charabanc/text.shifts", "charabanc/text.asks"], plainKeys := false, apart := false, laid := [("math/bits.deBruijn32tab", laid_math_bits_deBruijn32tab), ("math/bits.deBruijn64tab", laid_math_bits_deBruijn64tab), ("internal/strconv.uint64pow10", laid_internal_strconv_uint64pow10), ("charabanc/text.regs", laid_charabanc_text_regs), ("charabanc/text.pairs", laid_charabanc_text_pairs), ("charabanc/text.conds", laid_charabanc_text_conds), ("charabanc/text.sums", laid_charabanc_text_sums), ("charabanc/text.shifts", laid_charabanc_text_shifts), ("charabanc/text.asks", laid_charabanc_text_asks), ("charabanc/text.turns", laid_charabanc_text_turns), ("charabanc/text.odd", laid_charabanc_text_odd), ("charabanc/text.blocks", laid_charabanc_text_blocks), ("charabanc/text.ways", laid_charabanc_text_ways), ("charabanc/text.modes", laid_charabanc_text_modes)], narrowed := true }
def TextPlanesUptoSaid : Prop := textPlanesUptoRow.holds Tryd.pinned (OpenSpec.upto textPlanesSpec)

/-- 'charabanclaw09.TextOwn', WHERE WHAT IT READS IS OF BULK AT MOST 1048576: true; the input reads as it did. -/
def textOwnUptoRow : OpenClaim := { program := "ytilgjfckgkkfmaadoor", sum := "edb831cb0af129eeeedb4b21090dc539e98835edd4ffe9483e20dba8c8908460", func := "charabanc/charabanclaw09.TextOwn", spec := "textOwn", inPlace := ["internal/abi.NoEscape", "internal/bytealg.MakeNoZero"], unfollowed := true, recurses := true, named := ["charabanc/text.conds", "charabanc/text.turns", "internal/strconv.uint64pow10", "math/bits.deBruijn32tab", "math/bits.deBruijn64tab", "charabanc/text.pairs", "charabanc/text.regs", "charabanc/text.sums", "charabanc/text.ways", "charabanc/text.blocks", "charabanc/text.modes", "charabanc/text.odd", "charabanc/text.shifts", "charabanc/text.asks"], plainKeys := false, apart := false, laid := [("math/bits.deBruijn32tab", laid_math_bits_deBruijn32tab), ("math/bits.deBruijn64tab", laid_math_bits_deBruijn64tab), ("internal/strconv.uint64pow10", laid_internal_strconv_uint64pow10), ("charabanc/text.regs", laid_charabanc_text_regs), ("charabanc/text.pairs", laid_charabanc_text_pairs), ("charabanc/text.conds", laid_charabanc_text_conds), ("charabanc/text.sums", laid_charabanc_text_sums), ("charabanc/text.shifts", laid_charabanc_text_shifts), ("charabanc/text.asks", laid_charabanc_text_asks), ("charabanc/text.turns", laid_charabanc_text_turns), ("charabanc/text.odd", laid_charabanc_text_odd), ("charabanc/text.blocks", laid_charabanc_text_blocks), ("charabanc/text.ways", laid_charabanc_text_ways), ("charabanc/text.modes", laid_charabanc_text_modes)], narrowed := true }
def TextOwnUptoSaid : Prop := textOwnUptoRow.holds Tryd.pinned (OpenSpec.upto textOwnSpec)

end Rows
end Go.Proofs.YtilgjfckgkkfmaaDoor
