/- Functions of the program as plain Lean functions, each with the proof that the call comes to it; written by wip/eng.py. -/
import Derived.Test.YtilgjfckgkkfmaaDoorTex4
set_option linter.unusedVariables false
set_option linter.unusedSimpArgs false
set_option maxHeartbeats 4000000
namespace Go.Proofs.YtilgjfckgkkfmaaDoor.Tex
open Go.RowKit Go.Eng
/-! ### charabanc/charabancref09.three (function 63) -/
section
def charabancref09_three_63.post (M0 : Nat → Prop) (w0 : World) (r : ByteArray) : Ending → World → Prop := fun e w => e = .returned (.string r) ∧ Below w0.heap.size w0 w
def charabancref09_three_63.f (K : Nat) (p0_0 : Int) (p0_1 : Int) (p0_2 : Int) (p0_3 : Int) (p0_4 : Int) (p0_5 : Int) (p1 : Int) (p2 : Int) (p3 : Int) (p4 : Int) : Option ByteArray := (charabancref09_pair_97.f K p0_0 p0_1 p0_2 p0_3 p0_4 p0_5 2 (⟨#[115, 112]⟩ : ByteArray)).bind fun t10 => cond (p2 == 0) ((charabancref09_conds_100.f K).bind fun t16 => cond (inR p1 t16.length) (cond (mayCat (⟨#[114, 101, 116, 32]⟩ : ByteArray).size (rdD t16 p1).size) (some ((⟨#[114, 101, 116, 32]⟩ : ByteArray) ++ (rdD t16 p1))) none) none) (cond (p2 == 1) (cond (p4 == 0) ((charabancref09_pair_97.f K p0_0 p0_1 p0_2 p0_3 p0_4 p0_5 p3 (⟨#[97, 102]⟩ : ByteArray)).bind fun t31 => cond (mayCat (⟨#[112, 111, 112, 32]⟩ : ByteArray).size t31.size) (some ((⟨#[112, 111, 112, 32]⟩ : ByteArray) ++ t31)) none) (cond (mayCat (⟨#[106, 112, 32, 40]⟩ : ByteArray).size t10.size) (cond (mayCat ((⟨#[106, 112, 32, 40]⟩ : ByteArray) ++ t10).size (⟨#[41]⟩ : ByteArray).size) (cond (mayCat (⟨#[108, 100, 32, 115, 112, 44]⟩ : ByteArray).size t10.size) (cond (inR p3 ([(⟨#[114, 101, 116]⟩ : ByteArray), (⟨#[101, 120, 120]⟩ : ByteArray), (((⟨#[106, 112, 32, 40]⟩ : ByteArray) ++ t10) ++ (⟨#[41]⟩ : ByteArray)), ((⟨#[108, 100, 32, 115, 112, 44]⟩ : ByteArray) ++ t10)] : List ByteArray).length) (some (rdD ([(⟨#[114, 101, 116]⟩ : ByteArray), (⟨#[101, 120, 120]⟩ : ByteArray), (((⟨#[106, 112, 32, 40]⟩ : ByteArray) ++ t10) ++ (⟨#[41]⟩ : ByteArray)), ((⟨#[108, 100, 32, 115, 112, 44]⟩ : ByteArray) ++ t10)] : List ByteArray) p3)) none) none) none) none)) (cond (p2 == 2) ((charabancref09_conds_100.f K).bind fun t58 => (charabancref09_nn_98.f K p0_0 p0_1 p0_2 p0_3 p0_4 p0_5).bind fun t65 => cond (inR p1 t58.length) (cond (mayCat (⟨#[106, 112, 32]⟩ : ByteArray).size (rdD t58 p1).size) (cond (mayCat ((⟨#[106, 112, 32]⟩ : ByteArray) ++ (rdD t58 p1)).size (⟨#[44]⟩ : ByteArray).size) (cond (mayCat (((⟨#[106, 112, 32]⟩ : ByteArray) ++ (rdD t58 p1)) ++ (⟨#[44]⟩ : ByteArray)).size t65.size) (some ((((⟨#[106, 112, 32]⟩ : ByteArray) ++ (rdD t58 p1)) ++ (⟨#[44]⟩ : ByteArray)) ++ t65)) none) none) none) none) (cond (p2 == 3) ((charabancref09_nn_98.f K p0_0 p0_1 p0_2 p0_3 p0_4 p0_5).bind fun t91 => cond (mayCat (⟨#[106, 112, 32]⟩ : ByteArray).size t91.size) ((charabancref09_n_101.f K p0_0 p0_1 p0_2 p0_3 p0_4 p0_5).bind fun t94 => cond (mayCat (⟨#[111, 117, 116, 32, 40]⟩ : ByteArray).size t94.size) (cond (mayCat ((⟨#[111, 117, 116, 32, 40]⟩ : ByteArray) ++ t94).size (⟨#[41, 44, 97]⟩ : ByteArray).size) ((charabancref09_n_101.f K p0_0 p0_1 p0_2 p0_3 p0_4 p0_5).bind fun t98 => cond (mayCat (⟨#[105, 110, 32, 97, 44, 40]⟩ : ByteArray).size t98.size) (cond (mayCat ((⟨#[105, 110, 32, 97, 44, 40]⟩ : ByteArray) ++ t98).size (⟨#[41]⟩ : ByteArray).size) (cond (mayCat (⟨#[101, 120, 32, 40, 115, 112, 41, 44]⟩ : ByteArray).size t10.size) (cond (inR p1 ([((⟨#[106, 112, 32]⟩ : ByteArray) ++ t91), (⟨#[112, 114, 101, 102, 105, 120]⟩ : ByteArray), (((⟨#[111, 117, 116, 32, 40]⟩ : ByteArray) ++ t94) ++ (⟨#[41, 44, 97]⟩ : ByteArray)), (((⟨#[105, 110, 32, 97, 44, 40]⟩ : ByteArray) ++ t98) ++ (⟨#[41]⟩ : ByteArray)), ((⟨#[101, 120, 32, 40, 115, 112, 41, 44]⟩ : ByteArray) ++ t10), (⟨#[101, 120, 32, 100, 101, 44, 104, 108]⟩ : ByteArray), (⟨#[100, 105]⟩ : ByteArray), (⟨#[101, 105]⟩ : ByteArray)] : List ByteArray).length) (some (rdD ([((⟨#[106, 112, 32]⟩ : ByteArray) ++ t91), (⟨#[112, 114, 101, 102, 105, 120]⟩ : ByteArray), (((⟨#[111, 117, 116, 32, 40]⟩ : ByteArray) ++ t94) ++ (⟨#[41, 44, 97]⟩ : ByteArray)), (((⟨#[105, 110, 32, 97, 44, 40]⟩ : ByteArray) ++ t98) ++ (⟨#[41]⟩ : ByteArray)), ((⟨#[101, 120, 32, 40, 115, 112, 41, 44]⟩ : ByteArray) ++ t10), (⟨#[101, 120, 32, 100, 101, 44, 104, 108]⟩ : ByteArray), (⟨#[100, 105]⟩ : ByteArray), (⟨#[101, 105]⟩ : ByteArray)] : List ByteArray) p1)) none) none) none) none) none) none) none) (cond (p2 == 4) ((charabancref09_conds_100.f K).bind fun t143 => (charabancref09_nn_98.f K p0_0 p0_1 p0_2 p0_3 p0_4 p0_5).bind fun t150 => cond (inR p1 t143.length) (cond (mayCat (⟨#[99, 97, 108, 108, 32]⟩ : ByteArray).size (rdD t143 p1).size) (cond (mayCat ((⟨#[99, 97, 108, 108, 32]⟩ : ByteArray) ++ (rdD t143 p1)).size (⟨#[44]⟩ : ByteArray).size) (cond (mayCat (((⟨#[99, 97, 108, 108, 32]⟩ : ByteArray) ++ (rdD t143 p1)) ++ (⟨#[44]⟩ : ByteArray)).size t150.size) (some ((((⟨#[99, 97, 108, 108, 32]⟩ : ByteArray) ++ (rdD t143 p1)) ++ (⟨#[44]⟩ : ByteArray)) ++ t150)) none) none) none) none) (cond (p2 == 5) (cond (p4 == 0) ((charabancref09_pair_97.f K p0_0 p0_1 p0_2 p0_3 p0_4 p0_5 p3 (⟨#[97, 102]⟩ : ByteArray)).bind fun t176 => cond (mayCat (⟨#[112, 117, 115, 104, 32]⟩ : ByteArray).size t176.size) (some ((⟨#[112, 117, 115, 104, 32]⟩ : ByteArray) ++ t176)) none) (cond (p3 == 0) ((charabancref09_nn_98.f K p0_0 p0_1 p0_2 p0_3 p0_4 p0_5).bind fun t183 => cond (mayCat (⟨#[99, 97, 108, 108, 32]⟩ : ByteArray).size t183.size) (some ((⟨#[99, 97, 108, 108, 32]⟩ : ByteArray) ++ t183)) none) (some (⟨#[112, 114, 101, 102, 105, 120]⟩ : ByteArray)))) (cond (p2 == 6) ((charabancref09_sums_62.f K).bind fun t198 => (charabancref09_n_101.f K p0_0 p0_1 p0_2 p0_3 p0_4 p0_5).bind fun t205 => cond (inR p1 t198.length) (cond (mayCat (rdD t198 p1).size t205.size) (some ((rdD t198 p1) ++ t205)) none) none) ((charabancref09_Hex_105.f K (IntKind.wrap .i64 (8 * p1)) 2).bind fun t227 => cond (mayCat (⟨#[114, 115, 116, 32]⟩ : ByteArray).size t227.size) (some ((⟨#[114, 115, 116, 32]⟩ : ByteArray) ++ t227)) none)))))))
set_option maxRecDepth 100000 in
theorem charabancref09_three_63_ok (K : Nat) (M0 : Nat → Prop) (w0 : World) (p0_0 : Int) (p0_1 : Int) (p0_2 : Int) (p0_3 : Int) (p0_4 : Int) (p0_5 : Int) (p1 : Int) (p2 : Int) (p3 : Int) (p4 : Int) (ho : ∀ b, M0 b → b < w0.heap.size) {r : ByteArray} (h : charabancref09_three_63.f K p0_0 p0_1 p0_2 p0_3 p0_4 p0_5 p1 p2 p3 p4 = some r) :
  Calls Tryd.prog 63 #[.agg #[.int .i64 p0_0, .int .u8 p0_1, .int .u8 p0_2, .int .u16 p0_3, .int .i64 p0_4, .int .i64 p0_5], .int .i64 p1, .int .i64 p2, .int .i64 p3, .int .i64 p4] w0 (charabancref09_three_63.post M0 w0 r) := by
 unfold charabancref09_three_63.f at h
 have h0 : Holds M0 w0 w0 [] := Holds.start ho
 have h0 : Holds M0 w0 w0 [] := h0
 refine calls_of F63 rfl [.agg #[.int .i64 p0_0, .int .u8 p0_1, .int .u8 p0_2, .int .u16 p0_3, .int .i64 p0_4, .int .i64 p0_5], .int .i64 p1, .int .i64 p2, .int .i64 p3, .int .i64 p4] (by kernel_rfl) ?_
 refine RunsI.g 1 [.c 1, .c 2] ?_
 refine RunsI.r ?_
 refine RegI.o (OpE.box 5 51 [.int .i64 p0_0, .int .u8 p0_1, .int .u8 p0_2, .int .u16 p0_3, .int .i64 p0_4, .int .i64 p0_5] h0 (by kernel_rfl) (by kernel_rfl) ?_)
 intro w1 b2 h3 hb4 hn5
 refine RegI.p 1 [(1, .int .i64 p1), (2, .int .i64 p2), (3, .int .i64 p3), (4, .int .i64 p4), (5, .pointer (some ⟨b2, 0, none⟩))] ?_
 refine RegI.d ?_
 refine RunsI.g 1 [.c 3, .c 4] ?_
 refine RunsI.r ?_
 refine RegI.o (OpE.loadBox 12 0 51 b2 0 (.agg #[.int .i64 p0_0, .int .u8 p0_1, .int .u8 p0_2, .int .u16 p0_3, .int .i64 p0_4, .int .i64 p0_5]) h3 (by kernel_rfl) (by kernel_rfl) rfl (by kernel_rfl) ?_)
 obtain ⟨t10, hg9, h⟩ := of_bind h
 refine RegI.o (OpE.call 13 (by kernel_rfl) 97 #[.agg #[.int .i64 p0_0, .int .u8 p0_1, .int .u8 p0_2, .int .u16 p0_3, .int .i64 p0_4, .int .i64 p0_5], .int .i64 2, .string (⟨#[115, 112]⟩ : ByteArray)] (by kernel_rfl) ((charabancref09_pair_97_ok K _ w1  p0_0 p0_1 p0_2 p0_3 p0_4 p0_5 2 (⟨#[115, 112]⟩ : ByteArray) h3.old' hg9).mono ?_))
 rintro _ w6 ⟨rfl, hb7⟩
 refine ⟨_, rfl, ?_⟩
 have h8 := h3.call hb7
 refine RegI.p 1 [(1, .int .i64 p1), (2, .int .i64 p2), (3, .int .i64 p3), (4, .int .i64 p4), (5, .pointer (some ⟨b2, 0, none⟩)), (11, .string t10)] ?_
 refine RegI.d ?_
 refine RunsI.g 2 [.c 6, .c 7, .c 75] ?_
 refine RunsI.r ?_
 refine RegI.p 1 [(1, .int .i64 p1), (3, .int .i64 p3), (4, .int .i64 p4), (5, .pointer (some ⟨b2, 0, none⟩)), (11, .string t10), (14, .int .i64 p2)] ?_
 refine RegI.d ?_
 refine RunsI.g 2 [.c 9, .c 10, .blk 0, .c 75] ?_
 refine RunsI.r ?_
 refine RegI.p 2 [(1, .int .i64 p1), (3, .int .i64 p3), (4, .int .i64 p4), (5, .pointer (some ⟨b2, 0, none⟩)), (11, .string t10), (14, .int .i64 p2), (15, .bool (p2 == 0))] ?_
 refine RegI.d ?_
 rcases of_cond h with ⟨hc11, h⟩ | ⟨hc11, h⟩
 ·skip
  refine RunsI.f 15 true hc11 ?_
  refine RunsI.b true 11 ?_
  refine RunsI.g 1 [.c 12, .c 13, .blk 0, .c 75] ?_
  refine RunsI.r ?_
  obtain ⟨t16, hg15, h⟩ := of_bind h
  refine RegI.o (OpE.call 17 (by kernel_rfl) 100 #[] (by kernel_rfl) ((charabancref09_conds_100_ok K _ w6  h8.old' hg15).mono ?_))
  rintro _ w12 ⟨A17, c18, rfl, hr20⟩
  refine ⟨_, rfl, ?_⟩
  have hb13 := hr20.below
  have h14 := h8.join hr20
  refine RegI.p 1 [(17, .slice A17 t16.length c18), (18, .int .i64 p1)] ?_
  obtain ⟨hc21, h⟩ := of_cond0 h
  refine RegI.o (OpE.idxOwnA 19 1 55 9 p1 h14 (by kernel_rfl) rfl (by kernel_rfl) (by kernel_rfl) hc21 ?_)
  refine RegI.o (OpE.loadOwnA 20 1 9 9 p1 0 (o := (Int.toNat p1) * 1 + 0) h14 (by kernel_rfl) rfl (by kernel_rfl) (by kernel_rfl) hc21 (fun cs22 hk23 => ?_))
  obtain rfl := hk23
  refine ⟨.string (rdD t16 p1), by kernel_rfl, ?_⟩
  obtain ⟨hc24, h⟩ := of_cond0 h
  refine RegI.o (OpE.run 21 (by kernel_rfl) (run_cat (a := (⟨#[114, 101, 116, 32]⟩ : ByteArray)) (b := (rdD t16 p1)) (by kernel_rfl) hc24) ?_)
  refine RegI.p 1 [(10, .string ((⟨#[114, 101, 116, 32]⟩ : ByteArray) ++ (rdD t16 p1)))] ?_
  refine RegI.d ?_
  refine RunsI.t (.string ((⟨#[114, 101, 116, 32]⟩ : ByteArray) ++ (rdD t16 p1))) ?_
  obtain rfl := Option.some.inj h
  exact ⟨rfl, h14.below⟩
 ·skip
  refine RunsI.f 15 false hc11 ?_
  refine RunsI.b false 14 ?_
  refine RunsI.g 1 [.c 15, .c 16, .blk 0, .c 75] ?_
  refine RunsI.r ?_
  refine RegI.p 2 [(1, .int .i64 p1), (3, .int .i64 p3), (4, .int .i64 p4), (5, .pointer (some ⟨b2, 0, none⟩)), (11, .string t10), (14, .int .i64 p2), (22, .bool (p2 == 1))] ?_
  refine RegI.d ?_
  rcases of_cond h with ⟨hc25, h⟩ | ⟨hc25, h⟩
  ·skip
   refine RunsI.f 22 true hc25 ?_
   refine RunsI.b true 17 ?_
   refine RunsI.g 2 [.c 19, .c 20, .c 25, .blk 0, .c 75] ?_
   refine RunsI.r ?_
   refine RegI.p 2 [(3, .int .i64 p3), (5, .pointer (some ⟨b2, 0, none⟩)), (11, .string t10), (25, .bool (p4 == 0))] ?_
   refine RegI.d ?_
   rcases of_cond h with ⟨hc26, h⟩ | ⟨hc26, h⟩
   ·skip
    refine RunsI.f 25 true hc26 ?_
    refine RunsI.b true 21 ?_
    refine RunsI.g 1 [.c 22, .c 23, .c 25, .blk 0, .c 75] ?_
    refine RunsI.r ?_
    refine RegI.o (OpE.loadBox 26 0 51 b2 0 (.agg #[.int .i64 p0_0, .int .u8 p0_1, .int .u8 p0_2, .int .u16 p0_3, .int .i64 p0_4, .int .i64 p0_5]) h8 (by kernel_rfl) (by kernel_rfl) rfl (by kernel_rfl) ?_)
    refine RegI.p 1 [(26, .agg #[.int .i64 p0_0, .int .u8 p0_1, .int .u8 p0_2, .int .u16 p0_3, .int .i64 p0_4, .int .i64 p0_5]), (27, .int .i64 p3)] ?_
    obtain ⟨t31, hg30, h⟩ := of_bind h
    refine RegI.o (OpE.call 28 (by kernel_rfl) 97 #[.agg #[.int .i64 p0_0, .int .u8 p0_1, .int .u8 p0_2, .int .u16 p0_3, .int .i64 p0_4, .int .i64 p0_5], .int .i64 p3, .string (⟨#[97, 102]⟩ : ByteArray)] (by kernel_rfl) ((charabancref09_pair_97_ok K _ w6  p0_0 p0_1 p0_2 p0_3 p0_4 p0_5 p3 (⟨#[97, 102]⟩ : ByteArray) h8.old' hg30).mono ?_))
    rintro _ w27 ⟨rfl, hb28⟩
    refine ⟨_, rfl, ?_⟩
    have h29 := h8.call hb28
    obtain ⟨hc32, h⟩ := of_cond0 h
    refine RegI.o (OpE.run 29 (by kernel_rfl) (run_cat (a := (⟨#[112, 111, 112, 32]⟩ : ByteArray)) (b := t31) (by kernel_rfl) hc32) ?_)
    refine RegI.p 1 [(10, .string ((⟨#[112, 111, 112, 32]⟩ : ByteArray) ++ t31))] ?_
    refine RegI.d ?_
    refine RunsI.t (.string ((⟨#[112, 111, 112, 32]⟩ : ByteArray) ++ t31)) ?_
    obtain rfl := Option.some.inj h
    exact ⟨rfl, h29.below⟩
   ·skip
    refine RunsI.f 25 false hc26 ?_
    refine RunsI.b false 24 ?_
    refine RunsI.g 1 [.c 25, .blk 0, .c 75] ?_
    refine RunsI.g 1 [.c 26, .c 27, .blk 0, .c 75] ?_
    refine RunsI.r ?_
    refine RegI.p 1 [(3, .int .i64 p3), (11, .string t10), (30, .string t10)] ?_
    obtain ⟨hc33, h⟩ := of_cond0 h
    refine RegI.o (OpE.run 31 (by kernel_rfl) (run_cat (a := (⟨#[106, 112, 32, 40]⟩ : ByteArray)) (b := t10) (by kernel_rfl) hc33) ?_)
    obtain ⟨hc34, h⟩ := of_cond0 h
    refine RegI.o (OpE.run 32 (by kernel_rfl) (run_cat (a := ((⟨#[106, 112, 32, 40]⟩ : ByteArray) ++ t10)) (b := (⟨#[41]⟩ : ByteArray)) (by kernel_rfl) hc34) ?_)
    refine RegI.p 1 [(3, .int .i64 p3), (32, .string (((⟨#[106, 112, 32, 40]⟩ : ByteArray) ++ t10) ++ (⟨#[41]⟩ : ByteArray))), (33, .string t10)] ?_
    obtain ⟨hc35, h⟩ := of_cond0 h
    refine RegI.o (OpE.run 34 (by kernel_rfl) (run_cat (a := (⟨#[108, 100, 32, 115, 112, 44]⟩ : ByteArray)) (b := t10) (by kernel_rfl) hc35) ?_)
    refine RegI.o (OpE.lit 35 9 [.string (⟨#[114, 101, 116]⟩ : ByteArray), .string (⟨#[101, 120, 120]⟩ : ByteArray), .string (((⟨#[106, 112, 32, 40]⟩ : ByteArray) ++ t10) ++ (⟨#[41]⟩ : ByteArray)), .string ((⟨#[108, 100, 32, 115, 112, 44]⟩ : ByteArray) ++ t10)] 4 h8 (by kernel_rfl) (by kernel_rfl) ?_)
    intro w36 b37 h38 hb39 hn40
    refine RegI.p 1 [(35, .slice (some ⟨b37, 0, none⟩) (([(⟨#[114, 101, 116]⟩ : ByteArray), (⟨#[101, 120, 120]⟩ : ByteArray), (((⟨#[106, 112, 32, 40]⟩ : ByteArray) ++ t10) ++ (⟨#[41]⟩ : ByteArray)), ((⟨#[108, 100, 32, 115, 112, 44]⟩ : ByteArray) ++ t10)] : List ByteArray).length) 4), (36, .int .i64 p3)] ?_
    have h41 := h38.boxOwn 1 rfl Rp.str ([(⟨#[114, 101, 116]⟩ : ByteArray), (⟨#[101, 120, 120]⟩ : ByteArray), (((⟨#[106, 112, 32, 40]⟩ : ByteArray) ++ t10) ++ (⟨#[41]⟩ : ByteArray)), ((⟨#[108, 100, 32, 115, 112, 44]⟩ : ByteArray) ++ t10)] : List ByteArray) (cells_str _ _ _) (Nat.le_of_ble_eq_true (by kernel_rfl))
    obtain ⟨hc42, h⟩ := of_cond0 h
    refine RegI.o (OpE.idxOwnA 37 1 55 9 p3 h41 (by kernel_rfl) rfl (by kernel_rfl) (by kernel_rfl) hc42 ?_)
    refine RegI.o (OpE.loadOwnA 38 1 9 9 p3 0 (o := (Int.toNat p3) * 1 + 0) h41 (by kernel_rfl) rfl (by kernel_rfl) (by kernel_rfl) hc42 (fun cs43 hk44 => ?_))
    obtain rfl := hk44
    refine ⟨.string (rdD ([(⟨#[114, 101, 116]⟩ : ByteArray), (⟨#[101, 120, 120]⟩ : ByteArray), (((⟨#[106, 112, 32, 40]⟩ : ByteArray) ++ t10) ++ (⟨#[41]⟩ : ByteArray)), ((⟨#[108, 100, 32, 115, 112, 44]⟩ : ByteArray) ++ t10)] : List ByteArray) p3), by kernel_rfl, ?_⟩
    refine RegI.p 1 [(10, .string (rdD ([(⟨#[114, 101, 116]⟩ : ByteArray), (⟨#[101, 120, 120]⟩ : ByteArray), (((⟨#[106, 112, 32, 40]⟩ : ByteArray) ++ t10) ++ (⟨#[41]⟩ : ByteArray)), ((⟨#[108, 100, 32, 115, 112, 44]⟩ : ByteArray) ++ t10)] : List ByteArray) p3))] ?_
    refine RegI.d ?_
    refine RunsI.t (.string (rdD ([(⟨#[114, 101, 116]⟩ : ByteArray), (⟨#[101, 120, 120]⟩ : ByteArray), (((⟨#[106, 112, 32, 40]⟩ : ByteArray) ++ t10) ++ (⟨#[41]⟩ : ByteArray)), ((⟨#[108, 100, 32, 115, 112, 44]⟩ : ByteArray) ++ t10)] : List ByteArray) p3)) ?_
    obtain rfl := Option.some.inj h
    exact ⟨rfl, h41.below⟩
  ·skip
   refine RunsI.f 22 false hc25 ?_
   refine RunsI.b false 28 ?_
   refine RunsI.g 1 [.c 29, .c 30, .blk 0, .c 75] ?_
   refine RunsI.r ?_
   refine RegI.p 2 [(1, .int .i64 p1), (3, .int .i64 p3), (4, .int .i64 p4), (5, .pointer (some ⟨b2, 0, none⟩)), (11, .string t10), (14, .int .i64 p2), (39, .bool (p2 == 2))] ?_
   refine RegI.d ?_
   rcases of_cond h with ⟨hc45, h⟩ | ⟨hc45, h⟩
   ·skip
    refine RunsI.f 39 true hc45 ?_
    refine RunsI.b true 31 ?_
    refine RunsI.g 1 [.c 32, .c 33, .blk 0, .c 75] ?_
    refine RunsI.any 10 (by kernel_rfl) (by kernel_rfl) (by kernel_rfl) (Kp ([] : List Nat) (World.drew w6)) ?_
    have h47 := h8.drew
    generalize World.drew w6 = w46 at h47 ⊢
    have hS48 := Kp.refl ([] : List Nat) w46
    refine AnyE.pure 1 42 (.int .i64 p1) (by kernel_rfl) hS48 (fun _ => by kernel_rfl) ?_
    refine AnyE.loadBox 6 47 0 51 b2 0 (.agg #[.int .i64 p0_0, .int .u8 p0_1, .int .u8 p0_2, .int .u16 p0_3, .int .i64 p0_4, .int .i64 p0_5]) [] h47 rfl (by kernel_rfl) hS48 rfl rfl (by kernel_rfl) (by kernel_rfl) ?_
    refine AnyE.one 0 (by kernel_rfl) (fun w50 hu51 => ?_)
    have h52 := h47.call hu51
    have hS53 := hS48.up hu51
    obtain ⟨t58, hg57, h⟩ := of_bind h
    refine OpE.call 41 (by kernel_rfl) 100 #[] (by kernel_rfl) ((charabancref09_conds_100_ok K _ w50  h52.old' hg57).mono ?_)
    rintro _ w54 ⟨A59, c60, rfl, hr62⟩
    refine ⟨_, rfl, ?_⟩
    have hb55 := hr62.below
    have h56 := h52.join hr62
    have hS63 := hS53.up hb55
    refine ⟨hS63, ?_⟩
    obtain ⟨t65, hg64, h⟩ := of_bind h
    refine AnyE.call 7 48 (.string t65) 98 #[.agg #[.int .i64 p0_0, .int .u8 p0_1, .int .u8 p0_2, .int .u16 p0_3, .int .i64 p0_4, .int .i64 p0_5]] (by kernel_rfl) hS63 (fun _ => by kernel_rfl) (fun w hk => charabancref09_nn_98_ok K (fun _ => False) w p0_0 p0_1 p0_2 p0_3 p0_4 p0_5 (fun _ hf => hf.elim) hg64) ?_
    refine AnyE.one 2 (by kernel_rfl) (fun w66 hu67 => ?_)
    have h68 := h56.call hu67
    have hS69 := hS63.up hu67
    obtain ⟨hc70, h⟩ := of_cond0 h
    refine OpE.idxOwnA 43 1 55 9 p1 h68 (by kernel_rfl) rfl (by kernel_rfl) (by kernel_rfl) hc70 ?_
    refine ⟨hS69, ?_⟩
    refine AnyE.one 3 (by kernel_rfl) (fun w72 hu73 => ?_)
    have h74 := h68.call hu73
    have hS75 := hS69.up hu73
    refine OpE.loadOwnA 44 1 9 9 p1 0 (o := (Int.toNat p1) * 1 + 0) h74 (by kernel_rfl) rfl (by kernel_rfl) (by kernel_rfl) hc70 (fun cs76 hk77 => ?_)
    obtain rfl := hk77
    refine ⟨.string (rdD t58 p1), by kernel_rfl, ?_⟩
    refine ⟨hS75, ?_⟩
    obtain ⟨hc79, h⟩ := of_cond0 h
    refine AnyE.run 4 45 (.string ((⟨#[106, 112, 32]⟩ : ByteArray) ++ (rdD t58 p1))) (by kernel_rfl) hS75 (fun _ hk => run_cat (a := (⟨#[106, 112, 32]⟩ : ByteArray)) (b := (rdD t58 p1)) (by kernel_rfl) hc79) ?_
    obtain ⟨hc80, h⟩ := of_cond0 h
    refine AnyE.run 5 46 (.string (((⟨#[106, 112, 32]⟩ : ByteArray) ++ (rdD t58 p1)) ++ (⟨#[44]⟩ : ByteArray))) (by kernel_rfl) hS75 (fun _ hk => run_cat (a := ((⟨#[106, 112, 32]⟩ : ByteArray) ++ (rdD t58 p1))) (b := (⟨#[44]⟩ : ByteArray)) (by kernel_rfl) hc80) ?_
    obtain ⟨hc81, h⟩ := of_cond0 h
    refine AnyE.run 8 49 (.string ((((⟨#[106, 112, 32]⟩ : ByteArray) ++ (rdD t58 p1)) ++ (⟨#[44]⟩ : ByteArray)) ++ t65)) (by kernel_rfl) hS75 (fun _ hk => run_cat (a := (((⟨#[106, 112, 32]⟩ : ByteArray) ++ (rdD t58 p1)) ++ (⟨#[44]⟩ : ByteArray))) (b := t65) (by kernel_rfl) hc81) ?_
    refine AnyE.pure 9 10 (.string ((((⟨#[106, 112, 32]⟩ : ByteArray) ++ (rdD t58 p1)) ++ (⟨#[44]⟩ : ByteArray)) ++ t65)) (by kernel_rfl) hS75 (fun _ => by kernel_rfl) ?_
    refine AnyE.done (by kernel_rfl) (fun w82 hu83 => ?_)
    have h84 := h74.call hu83
    refine RunsI.l [10] [(10, .string ((((⟨#[106, 112, 32]⟩ : ByteArray) ++ (rdD t58 p1)) ++ (⟨#[44]⟩ : ByteArray)) ++ t65))] ?_
    refine RunsI.t (.string ((((⟨#[106, 112, 32]⟩ : ByteArray) ++ (rdD t58 p1)) ++ (⟨#[44]⟩ : ByteArray)) ++ t65)) ?_
    obtain rfl := Option.some.inj h
    exact ⟨rfl, h84.below⟩
   ·skip
    refine RunsI.f 39 false hc45 ?_
    refine RunsI.b false 34 ?_
    refine RunsI.g 1 [.c 35, .c 36, .blk 0, .c 75] ?_
    refine RunsI.r ?_
    refine RegI.p 2 [(1, .int .i64 p1), (3, .int .i64 p3), (4, .int .i64 p4), (5, .pointer (some ⟨b2, 0, none⟩)), (11, .string t10), (14, .int .i64 p2), (50, .bool (p2 == 3))] ?_
    refine RegI.d ?_
    rcases of_cond h with ⟨hc85, h⟩ | ⟨hc85, h⟩
    ·skip
     refine RunsI.f 50 true hc85 ?_
     refine RunsI.b true 37 ?_
     refine RunsI.g 1 [.c 38, .c 39, .blk 0, .c 75] ?_
     refine RunsI.any 18 (by kernel_rfl) (by kernel_rfl) (by kernel_rfl) (Kp ([] : List Nat) (World.drew w6)) ?_
     have h87 := h8.drew
     generalize World.drew w6 = w86 at h87 ⊢
     have hS88 := Kp.refl ([] : List Nat) w86
     refine AnyE.loadBox 0 52 0 51 b2 0 (.agg #[.int .i64 p0_0, .int .u8 p0_1, .int .u8 p0_2, .int .u16 p0_3, .int .i64 p0_4, .int .i64 p0_5]) [] h87 rfl (by kernel_rfl) hS88 rfl rfl (by kernel_rfl) (by kernel_rfl) ?_
     obtain ⟨t91, hg90, h⟩ := of_bind h
     refine AnyE.call 1 53 (.string t91) 98 #[.agg #[.int .i64 p0_0, .int .u8 p0_1, .int .u8 p0_2, .int .u16 p0_3, .int .i64 p0_4, .int .i64 p0_5]] (by kernel_rfl) hS88 (fun _ => by kernel_rfl) (fun w hk => charabancref09_nn_98_ok K (fun _ => False) w p0_0 p0_1 p0_2 p0_3 p0_4 p0_5 (fun _ hf => hf.elim) hg90) ?_
     obtain ⟨hc92, h⟩ := of_cond0 h
     refine AnyE.run 2 54 (.string ((⟨#[106, 112, 32]⟩ : ByteArray) ++ t91)) (by kernel_rfl) hS88 (fun _ hk => run_cat (a := (⟨#[106, 112, 32]⟩ : ByteArray)) (b := t91) (by kernel_rfl) hc92) ?_
     refine AnyE.loadBox 3 55 0 51 b2 0 (.agg #[.int .i64 p0_0, .int .u8 p0_1, .int .u8 p0_2, .int .u16 p0_3, .int .i64 p0_4, .int .i64 p0_5]) [] h87 rfl (by kernel_rfl) hS88 rfl rfl (by kernel_rfl) (by kernel_rfl) ?_
     obtain ⟨t94, hg93, h⟩ := of_bind h
     refine AnyE.call 4 56 (.string t94) 101 #[.agg #[.int .i64 p0_0, .int .u8 p0_1, .int .u8 p0_2, .int .u16 p0_3, .int .i64 p0_4, .int .i64 p0_5]] (by kernel_rfl) hS88 (fun _ => by kernel_rfl) (fun w hk => charabancref09_n_101_ok K (fun _ => False) w p0_0 p0_1 p0_2 p0_3 p0_4 p0_5 (fun _ hf => hf.elim) hg93) ?_
     obtain ⟨hc95, h⟩ := of_cond0 h
     refine AnyE.run 5 57 (.string ((⟨#[111, 117, 116, 32, 40]⟩ : ByteArray) ++ t94)) (by kernel_rfl) hS88 (fun _ hk => run_cat (a := (⟨#[111, 117, 116, 32, 40]⟩ : ByteArray)) (b := t94) (by kernel_rfl) hc95) ?_
     obtain ⟨hc96, h⟩ := of_cond0 h
     refine AnyE.run 6 58 (.string (((⟨#[111, 117, 116, 32, 40]⟩ : ByteArray) ++ t94) ++ (⟨#[41, 44, 97]⟩ : ByteArray))) (by kernel_rfl) hS88 (fun _ hk => run_cat (a := ((⟨#[111, 117, 116, 32, 40]⟩ : ByteArray) ++ t94)) (b := (⟨#[41, 44, 97]⟩ : ByteArray)) (by kernel_rfl) hc96) ?_
     refine AnyE.loadBox 7 59 0 51 b2 0 (.agg #[.int .i64 p0_0, .int .u8 p0_1, .int .u8 p0_2, .int .u16 p0_3, .int .i64 p0_4, .int .i64 p0_5]) [] h87 rfl (by kernel_rfl) hS88 rfl rfl (by kernel_rfl) (by kernel_rfl) ?_
     obtain ⟨t98, hg97, h⟩ := of_bind h
     refine AnyE.call 8 60 (.string t98) 101 #[.agg #[.int .i64 p0_0, .int .u8 p0_1, .int .u8 p0_2, .int .u16 p0_3, .int .i64 p0_4, .int .i64 p0_5]] (by kernel_rfl) hS88 (fun _ => by kernel_rfl) (fun w hk => charabancref09_n_101_ok K (fun _ => False) w p0_0 p0_1 p0_2 p0_3 p0_4 p0_5 (fun _ hf => hf.elim) hg97) ?_
     obtain ⟨hc99, h⟩ := of_cond0 h
     refine AnyE.run 9 61 (.string ((⟨#[105, 110, 32, 97, 44, 40]⟩ : ByteArray) ++ t98)) (by kernel_rfl) hS88 (fun _ hk => run_cat (a := (⟨#[105, 110, 32, 97, 44, 40]⟩ : ByteArray)) (b := t98) (by kernel_rfl) hc99) ?_
     obtain ⟨hc100, h⟩ := of_cond0 h
     refine AnyE.run 10 62 (.string (((⟨#[105, 110, 32, 97, 44, 40]⟩ : ByteArray) ++ t98) ++ (⟨#[41]⟩ : ByteArray))) (by kernel_rfl) hS88 (fun _ hk => run_cat (a := ((⟨#[105, 110, 32, 97, 44, 40]⟩ : ByteArray) ++ t98)) (b := (⟨#[41]⟩ : ByteArray)) (by kernel_rfl) hc100) ?_
     refine AnyE.pure 11 63 (.string t10) (by kernel_rfl) hS88 (fun _ => by kernel_rfl) ?_
     obtain ⟨hc101, h⟩ := of_cond0 h
     refine AnyE.run 12 64 (.string ((⟨#[101, 120, 32, 40, 115, 112, 41, 44]⟩ : ByteArray) ++ t10)) (by kernel_rfl) hS88 (fun _ hk => run_cat (a := (⟨#[101, 120, 32, 40, 115, 112, 41, 44]⟩ : ByteArray)) (b := t10) (by kernel_rfl) hc101) ?_
     refine AnyE.pure 14 66 (.int .i64 p1) (by kernel_rfl) hS88 (fun _ => by kernel_rfl) ?_
     refine AnyE.one 13 (by kernel_rfl) (fun w102 hu103 => ?_)
     have h104 := h87.call hu103
     have hS105 := hS88.up hu103
     refine OpE.lit 65 9 [.string ((⟨#[106, 112, 32]⟩ : ByteArray) ++ t91), .string (⟨#[112, 114, 101, 102, 105, 120]⟩ : ByteArray), .string (((⟨#[111, 117, 116, 32, 40]⟩ : ByteArray) ++ t94) ++ (⟨#[41, 44, 97]⟩ : ByteArray)), .string (((⟨#[105, 110, 32, 97, 44, 40]⟩ : ByteArray) ++ t98) ++ (⟨#[41]⟩ : ByteArray)), .string ((⟨#[101, 120, 32, 40, 115, 112, 41, 44]⟩ : ByteArray) ++ t10), .string (⟨#[101, 120, 32, 100, 101, 44, 104, 108]⟩ : ByteArray), .string (⟨#[100, 105]⟩ : ByteArray), .string (⟨#[101, 105]⟩ : ByteArray)] 8 h104 (by kernel_rfl) (by kernel_rfl) ?_
     intro w106 b107 h108 hb109 hn110
     have hn111 := Nat.le_trans hS105.1 hn110
     have hS112 := hS105.up hb109
     refine ⟨hS112, ?_⟩
     refine AnyE.one 15 (by kernel_rfl) (fun w113 hu114 => ?_)
     have h115 := h108.call hu114
     have hS116 := hS112.up hu114
     obtain ⟨hc117, h⟩ := of_cond0 h
     have h118 := h115.boxOwn 1 rfl Rp.str ([((⟨#[106, 112, 32]⟩ : ByteArray) ++ t91), (⟨#[112, 114, 101, 102, 105, 120]⟩ : ByteArray), (((⟨#[111, 117, 116, 32, 40]⟩ : ByteArray) ++ t94) ++ (⟨#[41, 44, 97]⟩ : ByteArray)), (((⟨#[105, 110, 32, 97, 44, 40]⟩ : ByteArray) ++ t98) ++ (⟨#[41]⟩ : ByteArray)), ((⟨#[101, 120, 32, 40, 115, 112, 41, 44]⟩ : ByteArray) ++ t10), (⟨#[101, 120, 32, 100, 101, 44, 104, 108]⟩ : ByteArray), (⟨#[100, 105]⟩ : ByteArray), (⟨#[101, 105]⟩ : ByteArray)] : List ByteArray) (cells_str _ _ _) (Nat.le_of_ble_eq_true (by kernel_rfl))
     refine OpE.idxOwnA 67 1 55 9 p1 h118 (by kernel_rfl) rfl (by kernel_rfl) (by kernel_rfl) hc117 ?_
     refine ⟨hS116, ?_⟩
     refine AnyE.one 16 (by kernel_rfl) (fun w120 hu121 => ?_)
     have h122 := h118.call hu121
     have hS123 := hS116.up hu121
     refine OpE.loadOwnA 68 1 9 9 p1 0 (o := (Int.toNat p1) * 1 + 0) h122 (by kernel_rfl) rfl (by kernel_rfl) (by kernel_rfl) hc117 (fun cs124 hk125 => ?_)
     obtain rfl := hk125
     refine ⟨.string (rdD ([((⟨#[106, 112, 32]⟩ : ByteArray) ++ t91), (⟨#[112, 114, 101, 102, 105, 120]⟩ : ByteArray), (((⟨#[111, 117, 116, 32, 40]⟩ : ByteArray) ++ t94) ++ (⟨#[41, 44, 97]⟩ : ByteArray)), (((⟨#[105, 110, 32, 97, 44, 40]⟩ : ByteArray) ++ t98) ++ (⟨#[41]⟩ : ByteArray)), ((⟨#[101, 120, 32, 40, 115, 112, 41, 44]⟩ : ByteArray) ++ t10), (⟨#[101, 120, 32, 100, 101, 44, 104, 108]⟩ : ByteArray), (⟨#[100, 105]⟩ : ByteArray), (⟨#[101, 105]⟩ : ByteArray)] : List ByteArray) p1), by kernel_rfl, ?_⟩
     refine ⟨hS123, ?_⟩
     refine AnyE.pure 17 10 (.string (rdD ([((⟨#[106, 112, 32]⟩ : ByteArray) ++ t91), (⟨#[112, 114, 101, 102, 105, 120]⟩ : ByteArray), (((⟨#[111, 117, 116, 32, 40]⟩ : ByteArray) ++ t94) ++ (⟨#[41, 44, 97]⟩ : ByteArray)), (((⟨#[105, 110, 32, 97, 44, 40]⟩ : ByteArray) ++ t98) ++ (⟨#[41]⟩ : ByteArray)), ((⟨#[101, 120, 32, 40, 115, 112, 41, 44]⟩ : ByteArray) ++ t10), (⟨#[101, 120, 32, 100, 101, 44, 104, 108]⟩ : ByteArray), (⟨#[100, 105]⟩ : ByteArray), (⟨#[101, 105]⟩ : ByteArray)] : List ByteArray) p1)) (by kernel_rfl) hS123 (fun _ => by kernel_rfl) ?_
     refine AnyE.done (by kernel_rfl) (fun w127 hu128 => ?_)
     have h129 := h122.call hu128
     refine RunsI.l [10] [(10, .string (rdD ([((⟨#[106, 112, 32]⟩ : ByteArray) ++ t91), (⟨#[112, 114, 101, 102, 105, 120]⟩ : ByteArray), (((⟨#[111, 117, 116, 32, 40]⟩ : ByteArray) ++ t94) ++ (⟨#[41, 44, 97]⟩ : ByteArray)), (((⟨#[105, 110, 32, 97, 44, 40]⟩ : ByteArray) ++ t98) ++ (⟨#[41]⟩ : ByteArray)), ((⟨#[101, 120, 32, 40, 115, 112, 41, 44]⟩ : ByteArray) ++ t10), (⟨#[101, 120, 32, 100, 101, 44, 104, 108]⟩ : ByteArray), (⟨#[100, 105]⟩ : ByteArray), (⟨#[101, 105]⟩ : ByteArray)] : List ByteArray) p1))] ?_
     refine RunsI.t (.string (rdD ([((⟨#[106, 112, 32]⟩ : ByteArray) ++ t91), (⟨#[112, 114, 101, 102, 105, 120]⟩ : ByteArray), (((⟨#[111, 117, 116, 32, 40]⟩ : ByteArray) ++ t94) ++ (⟨#[41, 44, 97]⟩ : ByteArray)), (((⟨#[105, 110, 32, 97, 44, 40]⟩ : ByteArray) ++ t98) ++ (⟨#[41]⟩ : ByteArray)), ((⟨#[101, 120, 32, 40, 115, 112, 41, 44]⟩ : ByteArray) ++ t10), (⟨#[101, 120, 32, 100, 101, 44, 104, 108]⟩ : ByteArray), (⟨#[100, 105]⟩ : ByteArray), (⟨#[101, 105]⟩ : ByteArray)] : List ByteArray) p1)) ?_
     obtain rfl := Option.some.inj h
     exact ⟨rfl, h129.below⟩
    ·skip
     refine RunsI.f 50 false hc85 ?_
     refine RunsI.b false 40 ?_
     refine RunsI.g 1 [.c 41, .c 42, .blk 0, .c 75] ?_
     refine RunsI.r ?_
     refine RegI.p 2 [(1, .int .i64 p1), (3, .int .i64 p3), (4, .int .i64 p4), (5, .pointer (some ⟨b2, 0, none⟩)), (14, .int .i64 p2), (69, .bool (p2 == 4))] ?_
     refine RegI.d ?_
     rcases of_cond h with ⟨hc130, h⟩ | ⟨hc130, h⟩
     ·skip
      refine RunsI.f 69 true hc130 ?_
      refine RunsI.b true 43 ?_
      refine RunsI.g 1 [.c 44, .c 45, .blk 0, .c 75] ?_
      refine RunsI.any 10 (by kernel_rfl) (by kernel_rfl) (by kernel_rfl) (Kp ([] : List Nat) (World.drew w6)) ?_
      have h132 := h8.drew
      generalize World.drew w6 = w131 at h132 ⊢
      have hS133 := Kp.refl ([] : List Nat) w131
      refine AnyE.pure 1 72 (.int .i64 p1) (by kernel_rfl) hS133 (fun _ => by kernel_rfl) ?_
      refine AnyE.loadBox 6 77 0 51 b2 0 (.agg #[.int .i64 p0_0, .int .u8 p0_1, .int .u8 p0_2, .int .u16 p0_3, .int .i64 p0_4, .int .i64 p0_5]) [] h132 rfl (by kernel_rfl) hS133 rfl rfl (by kernel_rfl) (by kernel_rfl) ?_
      refine AnyE.one 0 (by kernel_rfl) (fun w135 hu136 => ?_)
      have h137 := h132.call hu136
      have hS138 := hS133.up hu136
      obtain ⟨t143, hg142, h⟩ := of_bind h
      refine OpE.call 71 (by kernel_rfl) 100 #[] (by kernel_rfl) ((charabancref09_conds_100_ok K _ w135  h137.old' hg142).mono ?_)
      rintro _ w139 ⟨A144, c145, rfl, hr147⟩
      refine ⟨_, rfl, ?_⟩
      have hb140 := hr147.below
      have h141 := h137.join hr147
      have hS148 := hS138.up hb140
      refine ⟨hS148, ?_⟩
      obtain ⟨t150, hg149, h⟩ := of_bind h
      refine AnyE.call 7 78 (.string t150) 98 #[.agg #[.int .i64 p0_0, .int .u8 p0_1, .int .u8 p0_2, .int .u16 p0_3, .int .i64 p0_4, .int .i64 p0_5]] (by kernel_rfl) hS148 (fun _ => by kernel_rfl) (fun w hk => charabancref09_nn_98_ok K (fun _ => False) w p0_0 p0_1 p0_2 p0_3 p0_4 p0_5 (fun _ hf => hf.elim) hg149) ?_
      refine AnyE.one 2 (by kernel_rfl) (fun w151 hu152 => ?_)
      have h153 := h141.call hu152
      have hS154 := hS148.up hu152
      obtain ⟨hc155, h⟩ := of_cond0 h
      refine OpE.idxOwnA 73 1 55 9 p1 h153 (by kernel_rfl) rfl (by kernel_rfl) (by kernel_rfl) hc155 ?_
      refine ⟨hS154, ?_⟩
      refine AnyE.one 3 (by kernel_rfl) (fun w157 hu158 => ?_)
      have h159 := h153.call hu158
      have hS160 := hS154.up hu158
      refine OpE.loadOwnA 74 1 9 9 p1 0 (o := (Int.toNat p1) * 1 + 0) h159 (by kernel_rfl) rfl (by kernel_rfl) (by kernel_rfl) hc155 (fun cs161 hk162 => ?_)
      obtain rfl := hk162
      refine ⟨.string (rdD t143 p1), by kernel_rfl, ?_⟩
      refine ⟨hS160, ?_⟩
      obtain ⟨hc164, h⟩ := of_cond0 h
      refine AnyE.run 4 75 (.string ((⟨#[99, 97, 108, 108, 32]⟩ : ByteArray) ++ (rdD t143 p1))) (by kernel_rfl) hS160 (fun _ hk => run_cat (a := (⟨#[99, 97, 108, 108, 32]⟩ : ByteArray)) (b := (rdD t143 p1)) (by kernel_rfl) hc164) ?_
      obtain ⟨hc165, h⟩ := of_cond0 h
      refine AnyE.run 5 76 (.string (((⟨#[99, 97, 108, 108, 32]⟩ : ByteArray) ++ (rdD t143 p1)) ++ (⟨#[44]⟩ : ByteArray))) (by kernel_rfl) hS160 (fun _ hk => run_cat (a := ((⟨#[99, 97, 108, 108, 32]⟩ : ByteArray) ++ (rdD t143 p1))) (b := (⟨#[44]⟩ : ByteArray)) (by kernel_rfl) hc165) ?_
      obtain ⟨hc166, h⟩ := of_cond0 h
      refine AnyE.run 8 79 (.string ((((⟨#[99, 97, 108, 108, 32]⟩ : ByteArray) ++ (rdD t143 p1)) ++ (⟨#[44]⟩ : ByteArray)) ++ t150)) (by kernel_rfl) hS160 (fun _ hk => run_cat (a := (((⟨#[99, 97, 108, 108, 32]⟩ : ByteArray) ++ (rdD t143 p1)) ++ (⟨#[44]⟩ : ByteArray))) (b := t150) (by kernel_rfl) hc166) ?_
      refine AnyE.pure 9 10 (.string ((((⟨#[99, 97, 108, 108, 32]⟩ : ByteArray) ++ (rdD t143 p1)) ++ (⟨#[44]⟩ : ByteArray)) ++ t150)) (by kernel_rfl) hS160 (fun _ => by kernel_rfl) ?_
      refine AnyE.done (by kernel_rfl) (fun w167 hu168 => ?_)
      have h169 := h159.call hu168
      refine RunsI.l [10] [(10, .string ((((⟨#[99, 97, 108, 108, 32]⟩ : ByteArray) ++ (rdD t143 p1)) ++ (⟨#[44]⟩ : ByteArray)) ++ t150))] ?_
      refine RunsI.t (.string ((((⟨#[99, 97, 108, 108, 32]⟩ : ByteArray) ++ (rdD t143 p1)) ++ (⟨#[44]⟩ : ByteArray)) ++ t150)) ?_
      obtain rfl := Option.some.inj h
      exact ⟨rfl, h169.below⟩
     ·skip
      refine RunsI.f 69 false hc130 ?_
      refine RunsI.b false 46 ?_
      refine RunsI.g 1 [.c 47, .c 48, .blk 0, .c 75] ?_
      refine RunsI.r ?_
      refine RegI.p 2 [(1, .int .i64 p1), (3, .int .i64 p3), (4, .int .i64 p4), (5, .pointer (some ⟨b2, 0, none⟩)), (14, .int .i64 p2), (80, .bool (p2 == 5))] ?_
      refine RegI.d ?_
      rcases of_cond h with ⟨hc170, h⟩ | ⟨hc170, h⟩
      ·skip
       refine RunsI.f 80 true hc170 ?_
       refine RunsI.b true 49 ?_
       refine RunsI.g 2 [.c 51, .c 52, .c 57, .blk 0, .c 75] ?_
       refine RunsI.r ?_
       refine RegI.p 2 [(3, .int .i64 p3), (5, .pointer (some ⟨b2, 0, none⟩)), (83, .bool (p4 == 0))] ?_
       refine RegI.d ?_
       rcases of_cond h with ⟨hc171, h⟩ | ⟨hc171, h⟩
       ·skip
        refine RunsI.f 83 true hc171 ?_
        refine RunsI.b true 53 ?_
        refine RunsI.g 1 [.c 54, .c 55, .c 57, .blk 0, .c 75] ?_
        refine RunsI.r ?_
        refine RegI.o (OpE.loadBox 84 0 51 b2 0 (.agg #[.int .i64 p0_0, .int .u8 p0_1, .int .u8 p0_2, .int .u16 p0_3, .int .i64 p0_4, .int .i64 p0_5]) h8 (by kernel_rfl) (by kernel_rfl) rfl (by kernel_rfl) ?_)
        refine RegI.p 1 [(84, .agg #[.int .i64 p0_0, .int .u8 p0_1, .int .u8 p0_2, .int .u16 p0_3, .int .i64 p0_4, .int .i64 p0_5]), (85, .int .i64 p3)] ?_
        obtain ⟨t176, hg175, h⟩ := of_bind h
        refine RegI.o (OpE.call 86 (by kernel_rfl) 97 #[.agg #[.int .i64 p0_0, .int .u8 p0_1, .int .u8 p0_2, .int .u16 p0_3, .int .i64 p0_4, .int .i64 p0_5], .int .i64 p3, .string (⟨#[97, 102]⟩ : ByteArray)] (by kernel_rfl) ((charabancref09_pair_97_ok K _ w6  p0_0 p0_1 p0_2 p0_3 p0_4 p0_5 p3 (⟨#[97, 102]⟩ : ByteArray) h8.old' hg175).mono ?_))
        rintro _ w172 ⟨rfl, hb173⟩
        refine ⟨_, rfl, ?_⟩
        have h174 := h8.call hb173
        obtain ⟨hc177, h⟩ := of_cond0 h
        refine RegI.o (OpE.run 87 (by kernel_rfl) (run_cat (a := (⟨#[112, 117, 115, 104, 32]⟩ : ByteArray)) (b := t176) (by kernel_rfl) hc177) ?_)
        refine RegI.p 1 [(10, .string ((⟨#[112, 117, 115, 104, 32]⟩ : ByteArray) ++ t176))] ?_
        refine RegI.d ?_
        refine RunsI.t (.string ((⟨#[112, 117, 115, 104, 32]⟩ : ByteArray) ++ t176)) ?_
        obtain rfl := Option.some.inj h
        exact ⟨rfl, h174.below⟩
       ·skip
        refine RunsI.f 83 false hc171 ?_
        refine RunsI.b false 56 ?_
        refine RunsI.g 1 [.c 57, .blk 0, .c 75] ?_
        refine RunsI.g 2 [.c 59, .c 60, .c 65, .blk 0, .c 75] ?_
        refine RunsI.r ?_
        refine RegI.p 2 [(5, .pointer (some ⟨b2, 0, none⟩)), (89, .bool (p3 == 0))] ?_
        refine RegI.d ?_
        rcases of_cond h with ⟨hc178, h⟩ | ⟨hc178, h⟩
        ·skip
         refine RunsI.f 89 true hc178 ?_
         refine RunsI.b true 61 ?_
         refine RunsI.g 1 [.c 62, .c 63, .c 65, .blk 0, .c 75] ?_
         refine RunsI.r ?_
         refine RegI.o (OpE.loadBox 90 0 51 b2 0 (.agg #[.int .i64 p0_0, .int .u8 p0_1, .int .u8 p0_2, .int .u16 p0_3, .int .i64 p0_4, .int .i64 p0_5]) h8 (by kernel_rfl) (by kernel_rfl) rfl (by kernel_rfl) ?_)
         obtain ⟨t183, hg182, h⟩ := of_bind h
         refine RegI.o (OpE.call 91 (by kernel_rfl) 98 #[.agg #[.int .i64 p0_0, .int .u8 p0_1, .int .u8 p0_2, .int .u16 p0_3, .int .i64 p0_4, .int .i64 p0_5]] (by kernel_rfl) ((charabancref09_nn_98_ok K _ w6  p0_0 p0_1 p0_2 p0_3 p0_4 p0_5 h8.old' hg182).mono ?_))
         rintro _ w179 ⟨rfl, hb180⟩
         refine ⟨_, rfl, ?_⟩
         have h181 := h8.call hb180
         obtain ⟨hc184, h⟩ := of_cond0 h
         refine RegI.o (OpE.run 92 (by kernel_rfl) (run_cat (a := (⟨#[99, 97, 108, 108, 32]⟩ : ByteArray)) (b := t183) (by kernel_rfl) hc184) ?_)
         refine RegI.p 1 [(10, .string ((⟨#[99, 97, 108, 108, 32]⟩ : ByteArray) ++ t183))] ?_
         refine RegI.d ?_
         refine RunsI.t (.string ((⟨#[99, 97, 108, 108, 32]⟩ : ByteArray) ++ t183)) ?_
         obtain rfl := Option.some.inj h
         exact ⟨rfl, h181.below⟩
        ·skip
         refine RunsI.f 89 false hc178 ?_
         refine RunsI.b false 64 ?_
         refine RunsI.g 1 [.c 65, .blk 0, .c 75] ?_
         refine RunsI.g 1 [.c 66, .c 67, .blk 0, .c 75] ?_
         refine RunsI.r ?_
         refine RegI.p 1 [(10, .string (⟨#[112, 114, 101, 102, 105, 120]⟩ : ByteArray))] ?_
         refine RegI.d ?_
         refine RunsI.t (.string (⟨#[112, 114, 101, 102, 105, 120]⟩ : ByteArray)) ?_
         obtain rfl := Option.some.inj h
         exact ⟨rfl, h8.below⟩
      ·skip
       refine RunsI.f 80 false hc170 ?_
       refine RunsI.b false 68 ?_
       refine RunsI.g 1 [.c 69, .c 70, .blk 0, .c 75] ?_
       refine RunsI.r ?_
       refine RegI.p 2 [(1, .int .i64 p1), (5, .pointer (some ⟨b2, 0, none⟩)), (93, .bool (p2 == 6))] ?_
       refine RegI.d ?_
       rcases of_cond h with ⟨hc185, h⟩ | ⟨hc185, h⟩
       ·skip
        refine RunsI.f 93 true hc185 ?_
        refine RunsI.b true 71 ?_
        refine RunsI.g 1 [.c 72, .c 73, .blk 0, .c 75] ?_
        refine RunsI.any 8 (by kernel_rfl) (by kernel_rfl) (by kernel_rfl) (Kp ([] : List Nat) (World.drew w6)) ?_
        have h187 := h8.drew
        generalize World.drew w6 = w186 at h187 ⊢
        have hS188 := Kp.refl ([] : List Nat) w186
        refine AnyE.pure 1 96 (.int .i64 p1) (by kernel_rfl) hS188 (fun _ => by kernel_rfl) ?_
        refine AnyE.loadBox 4 99 0 51 b2 0 (.agg #[.int .i64 p0_0, .int .u8 p0_1, .int .u8 p0_2, .int .u16 p0_3, .int .i64 p0_4, .int .i64 p0_5]) [] h187 rfl (by kernel_rfl) hS188 rfl rfl (by kernel_rfl) (by kernel_rfl) ?_
        refine AnyE.one 0 (by kernel_rfl) (fun w190 hu191 => ?_)
        have h192 := h187.call hu191
        have hS193 := hS188.up hu191
        obtain ⟨t198, hg197, h⟩ := of_bind h
        refine OpE.call 95 (by kernel_rfl) 62 #[] (by kernel_rfl) ((charabancref09_sums_62_ok K _ w190  h192.old' hg197).mono ?_)
        rintro _ w194 ⟨A199, c200, rfl, hr202⟩
        refine ⟨_, rfl, ?_⟩
        have hb195 := hr202.below
        have h196 := h192.join hr202
        have hS203 := hS193.up hb195
        refine ⟨hS203, ?_⟩
        obtain ⟨t205, hg204, h⟩ := of_bind h
        refine AnyE.call 5 100 (.string t205) 101 #[.agg #[.int .i64 p0_0, .int .u8 p0_1, .int .u8 p0_2, .int .u16 p0_3, .int .i64 p0_4, .int .i64 p0_5]] (by kernel_rfl) hS203 (fun _ => by kernel_rfl) (fun w hk => charabancref09_n_101_ok K (fun _ => False) w p0_0 p0_1 p0_2 p0_3 p0_4 p0_5 (fun _ hf => hf.elim) hg204) ?_
        refine AnyE.one 2 (by kernel_rfl) (fun w206 hu207 => ?_)
        have h208 := h196.call hu207
        have hS209 := hS203.up hu207
        obtain ⟨hc210, h⟩ := of_cond0 h
        refine OpE.idxOwnA 97 1 55 9 p1 h208 (by kernel_rfl) rfl (by kernel_rfl) (by kernel_rfl) hc210 ?_
        refine ⟨hS209, ?_⟩
        refine AnyE.one 3 (by kernel_rfl) (fun w212 hu213 => ?_)
        have h214 := h208.call hu213
        have hS215 := hS209.up hu213
        refine OpE.loadOwnA 98 1 9 9 p1 0 (o := (Int.toNat p1) * 1 + 0) h214 (by kernel_rfl) rfl (by kernel_rfl) (by kernel_rfl) hc210 (fun cs216 hk217 => ?_)
        obtain rfl := hk217
        refine ⟨.string (rdD t198 p1), by kernel_rfl, ?_⟩
        refine ⟨hS215, ?_⟩
        obtain ⟨hc219, h⟩ := of_cond0 h
        refine AnyE.run 6 101 (.string ((rdD t198 p1) ++ t205)) (by kernel_rfl) hS215 (fun _ hk => run_cat (a := (rdD t198 p1)) (b := t205) (by kernel_rfl) hc219) ?_
        refine AnyE.pure 7 10 (.string ((rdD t198 p1) ++ t205)) (by kernel_rfl) hS215 (fun _ => by kernel_rfl) ?_
        refine AnyE.done (by kernel_rfl) (fun w220 hu221 => ?_)
        have h222 := h214.call hu221
        refine RunsI.l [10] [(10, .string ((rdD t198 p1) ++ t205))] ?_
        refine RunsI.t (.string ((rdD t198 p1) ++ t205)) ?_
        obtain rfl := Option.some.inj h
        exact ⟨rfl, h222.below⟩
       ·skip
        refine RunsI.f 93 false hc185 ?_
        refine RunsI.b false 74 ?_
        refine RunsI.g 1 [.blk 0, .c 75] ?_
        refine RunsI.g 2 [.c 76, .c 77] ?_
        refine RunsI.r ?_
        refine RegI.p 2 [(103, .int .i64 (IntKind.wrap .i64 (8 * p1)))] ?_
        obtain ⟨t227, hg226, h⟩ := of_bind h
        refine RegI.o (OpE.call 104 (by kernel_rfl) 105 #[.int .i64 (IntKind.wrap .i64 (8 * p1)), .int .i64 2] (by kernel_rfl) ((charabancref09_Hex_105_ok K _ w6  (IntKind.wrap .i64 (8 * p1)) 2 h8.old' hg226).mono ?_))
        rintro _ w223 ⟨rfl, hb224⟩
        refine ⟨_, rfl, ?_⟩
        have h225 := h8.call hb224
        obtain ⟨hc228, h⟩ := of_cond0 h
        refine RegI.o (OpE.run 105 (by kernel_rfl) (run_cat (a := (⟨#[114, 115, 116, 32]⟩ : ByteArray)) (b := t227) (by kernel_rfl) hc228) ?_)
        refine RegI.p 1 [(10, .string ((⟨#[114, 115, 116, 32]⟩ : ByteArray) ++ t227))] ?_
        refine RegI.d ?_
        refine RunsI.t (.string ((⟨#[114, 115, 116, 32]⟩ : ByteArray) ++ t227)) ?_
        obtain rfl := Option.some.inj h
        exact ⟨rfl, h225.below⟩
end

/-! ### charabanc/charabancref09.Show (function 27) -/
section
def charabancref09_Show_27.post (M0 : Nat → Prop) (w0 : World) (r : ByteArray) : Ending → World → Prop := fun e w => e = .returned (.string r) ∧ Below w0.heap.size w0 w
def charabancref09_Show_27.f (K : Nat) (p0_0 : Int) (p0_1 : Int) (p0_2 : Int) (p0_3 : Int) (p0_4 : Int) (p0_5 : Int) : Option ByteArray := (charabancref08_Fields_57.f K p0_1).bind fun yt10 => Let (fun (t17 : Bool) => cond t17 ((charabancref09_bits_58.f K p0_0 p0_1 p0_2 p0_3 p0_4 p0_5 yt10.1 yt10.2.1 yt10.2.2.1).bind fun t28 => some t28) (cond (p0_0 == 2) ((charabancref09_ed_59.f K p0_0 p0_1 p0_2 p0_3 p0_4 p0_5 yt10.1 yt10.2.1 yt10.2.2.1 yt10.2.2.2.1 yt10.2.2.2.2).bind fun t34 => some t34) (Let (fun (t37 : Bool) => cond t37 (cond (yt10.1 == 0) ((charabancref09_zero_60.f K p0_0 p0_1 p0_2 p0_3 p0_4 p0_5 yt10.2.1 yt10.2.2.1 yt10.2.2.2.1 yt10.2.2.2.2).bind fun t49 => some t49) (cond (yt10.1 == 1) (Let (fun (t52 : Bool) => cond t52 (some (⟨#[104, 97, 108, 116]⟩ : ByteArray)) ((charabancref09_reg_61.f K p0_0 p0_1 p0_2 p0_3 p0_4 p0_5 yt10.2.1).bind fun t64 => cond (mayCat (⟨#[108, 100, 32]⟩ : ByteArray).size t64.size) (cond (mayCat ((⟨#[108, 100, 32]⟩ : ByteArray) ++ t64).size (⟨#[44]⟩ : ByteArray).size) ((charabancref09_reg_61.f K p0_0 p0_1 p0_2 p0_3 p0_4 p0_5 yt10.2.2.1).bind fun t68 => cond (mayCat (((⟨#[108, 100, 32]⟩ : ByteArray) ++ t64) ++ (⟨#[44]⟩ : ByteArray)).size t68.size) (some ((((⟨#[108, 100, 32]⟩ : ByteArray) ++ t64) ++ (⟨#[44]⟩ : ByteArray)) ++ t68)) none) none) none)) (fun j55 => cond (yt10.2.1 == 6) (j55 (yt10.2.2.1 == 6)) (j55 false))) (cond (yt10.1 == 2) ((charabancref09_sums_62.f K).bind fun t86 => (charabancref09_reg_61.f K p0_0 p0_1 p0_2 p0_3 p0_4 p0_5 yt10.2.2.1).bind fun t93 => cond (inR yt10.2.1 t86.length) (cond (mayCat (rdD t86 yt10.2.1).size t93.size) (some ((rdD t86 yt10.2.1) ++ t93)) none) none) ((charabancref09_three_63.f K p0_0 p0_1 p0_2 p0_3 p0_4 p0_5 yt10.2.1 yt10.2.2.1 yt10.2.2.2.1 yt10.2.2.2.2).bind fun t115 => some t115)))) (some (⟨#[63]⟩ : ByteArray))) (fun j40 => cond (p0_0 == 0) (j40 true) (cond (p0_0 == 3) (j40 true) (j40 (p0_0 == 4))))))) (fun j20 => cond (p0_0 == 1) (j20 true) (cond (p0_0 == 5) (j20 true) (j20 (p0_0 == 6))))
set_option maxRecDepth 100000 in
theorem charabancref09_Show_27_ok (K : Nat) (M0 : Nat → Prop) (w0 : World) (p0_0 : Int) (p0_1 : Int) (p0_2 : Int) (p0_3 : Int) (p0_4 : Int) (p0_5 : Int) (ho : ∀ b, M0 b → b < w0.heap.size) {r : ByteArray} (h : charabancref09_Show_27.f K p0_0 p0_1 p0_2 p0_3 p0_4 p0_5 = some r) :
  Calls Tryd.prog 27 #[.agg #[.int .i64 p0_0, .int .u8 p0_1, .int .u8 p0_2, .int .u16 p0_3, .int .i64 p0_4, .int .i64 p0_5]] w0 (charabancref09_Show_27.post M0 w0 r) := by
 unfold charabancref09_Show_27.f at h
 have h0 : Holds M0 w0 w0 [] := Holds.start ho
 have h0 : Holds M0 w0 w0 [] := h0
 refine calls_of F27 rfl [.agg #[.int .i64 p0_0, .int .u8 p0_1, .int .u8 p0_2, .int .u16 p0_3, .int .i64 p0_4, .int .i64 p0_5]] (by kernel_rfl) ?_
 refine RunsI.g 1 [.c 1, .c 2] ?_
 refine RunsI.r ?_
 refine RegI.o (OpE.box 1 51 [.int .i64 p0_0, .int .u8 p0_1, .int .u8 p0_2, .int .u16 p0_3, .int .i64 p0_4, .int .i64 p0_5] h0 (by kernel_rfl) (by kernel_rfl) ?_)
 intro w1 b2 h3 hb4 hn5
 refine RegI.p 1 [(1, .pointer (some ⟨b2, 0, none⟩))] ?_
 refine RegI.d ?_
 refine RunsI.g 1 [.c 3, .c 4] ?_
 refine RunsI.r ?_
 refine RegI.p 1 [(1, .pointer (some ⟨b2, 0, none⟩)), (9, .pointer (some ⟨b2, 1, none⟩))] ?_
 refine RegI.o (OpE.loadBox 10 0 5 b2 1 (.int .u8 p0_1) h3 (by kernel_rfl) (by kernel_rfl) rfl (by kernel_rfl) ?_)
 obtain ⟨⟨t10, t11, t12, t13, t14⟩, hg9, h⟩ := of_bind h
 dsimp only at h
 refine RegI.o (OpE.call 11 (by kernel_rfl) 57 #[.int .u8 p0_1] (by kernel_rfl) ((charabancref08_Fields_57_ok K _ w1  p0_1 h3.old' hg9).mono ?_))
 rintro _ w6 ⟨rfl, hb7⟩
 refine ⟨_, rfl, ?_⟩
 have h8 := h3.call hb7
 refine RegI.p 11 [(1, .pointer (some ⟨b2, 0, none⟩)), (3, .int .i64 t10), (4, .int .i64 t11), (5, .int .i64 t12), (6, .int .i64 t13), (7, .int .i64 t14)] ?_
 refine RegI.d ?_
 refine RunsI.g 2 [.c 6, .c 7, .c 43] ?_
 refine RunsI.r ?_
 refine RegI.p 1 [(1, .pointer (some ⟨b2, 0, none⟩)), (3, .int .i64 t10), (4, .int .i64 t11), (5, .int .i64 t12), (6, .int .i64 t13), (7, .int .i64 t14), (17, .pointer (some ⟨b2, 0, none⟩))] ?_
 refine RegI.o (OpE.loadBox 18 0 3 b2 0 (.int .i64 p0_0) h8 (by kernel_rfl) (by kernel_rfl) rfl (by kernel_rfl) ?_)
 refine RegI.d ?_
 refine RunsI.g 3 [.c 10, .c 11, .c 18, .blk 0, .c 43] ?_
 refine RunsI.r ?_
 refine RegI.p 2 [(1, .pointer (some ⟨b2, 0, none⟩)), (3, .int .i64 t10), (4, .int .i64 t11), (5, .int .i64 t12), (6, .int .i64 t13), (7, .int .i64 t14), (18, .int .i64 p0_0), (19, .bool (p0_0 == 1))] ?_
 refine RegI.d ?_
 obtain ⟨j20, hJ21, h⟩ := of_let h
 have hj22 : ∀ (t17 : Bool) (w19 : World), j20 t17 = some r → Holds M0 w0 w19 [box b2 51 [.int .i64 p0_0, .int .u8 p0_1, .int .u8 p0_2, .int .u16 p0_3, .int .i64 p0_4, .int .i64 p0_5]] → RunsI F27 [.c 18, .blk 0, .c 43] [(1, .pointer (some ⟨b2, 0, none⟩)), (3, .int .i64 t10), (4, .int .i64 t11), (5, .int .i64 t12), (6, .int .i64 t13), (7, .int .i64 t14), (18, .int .i64 p0_0), (19, .bool t17)] w19 (charabancref09_Show_27.post M0 w0 r) := by
  intro t17 w19 h h18
  rw [hJ21] at h
  clear hJ21
  dsimp only at h
  rcases of_cond h with ⟨hc23, h⟩ | ⟨hc23, h⟩
  ·skip
   refine RunsI.f 19 true hc23 ?_
   refine RunsI.b true 19 ?_
   refine RunsI.g 1 [.c 20, .c 21, .blk 0, .c 43] ?_
   refine RunsI.r ?_
   refine RegI.o (OpE.loadBox 23 0 51 b2 0 (.agg #[.int .i64 p0_0, .int .u8 p0_1, .int .u8 p0_2, .int .u16 p0_3, .int .i64 p0_4, .int .i64 p0_5]) h18 (by kernel_rfl) (by kernel_rfl) rfl (by kernel_rfl) ?_)
   refine RegI.p 3 [(23, .agg #[.int .i64 p0_0, .int .u8 p0_1, .int .u8 p0_2, .int .u16 p0_3, .int .i64 p0_4, .int .i64 p0_5]), (24, .int .i64 t10), (25, .int .i64 t11), (26, .int .i64 t12)] ?_
   obtain ⟨t28, hg27, h⟩ := of_bind h
   refine RegI.o (OpE.call 27 (by kernel_rfl) 58 #[.agg #[.int .i64 p0_0, .int .u8 p0_1, .int .u8 p0_2, .int .u16 p0_3, .int .i64 p0_4, .int .i64 p0_5], .int .i64 t10, .int .i64 t11, .int .i64 t12] (by kernel_rfl) ((charabancref09_bits_58_ok K _ w19  p0_0 p0_1 p0_2 p0_3 p0_4 p0_5 t10 t11 t12 h18.old' hg27).mono ?_))
   rintro _ w24 ⟨rfl, hb25⟩
   refine ⟨_, rfl, ?_⟩
   have h26 := h18.call hb25
   refine RegI.p 1 [(2, .string t28)] ?_
   refine RegI.d ?_
   refine RunsI.t (.string t28) ?_
   obtain rfl := Option.some.inj h
   exact ⟨rfl, h26.below⟩
  ·skip
   refine RunsI.f 19 false hc23 ?_
   refine RunsI.b false 22 ?_
   refine RunsI.g 1 [.c 23, .c 24, .blk 0, .c 43] ?_
   refine RunsI.r ?_
   refine RegI.p 2 [(1, .pointer (some ⟨b2, 0, none⟩)), (3, .int .i64 t10), (4, .int .i64 t11), (5, .int .i64 t12), (6, .int .i64 t13), (7, .int .i64 t14), (18, .int .i64 p0_0), (28, .bool (p0_0 == 2))] ?_
   refine RegI.d ?_
   rcases of_cond h with ⟨hc29, h⟩ | ⟨hc29, h⟩
   ·skip
    refine RunsI.f 28 true hc29 ?_
    refine RunsI.b true 25 ?_
    refine RunsI.g 1 [.c 26, .c 27, .blk 0, .c 43] ?_
    refine RunsI.r ?_
    refine RegI.o (OpE.loadBox 30 0 51 b2 0 (.agg #[.int .i64 p0_0, .int .u8 p0_1, .int .u8 p0_2, .int .u16 p0_3, .int .i64 p0_4, .int .i64 p0_5]) h18 (by kernel_rfl) (by kernel_rfl) rfl (by kernel_rfl) ?_)
    refine RegI.p 5 [(30, .agg #[.int .i64 p0_0, .int .u8 p0_1, .int .u8 p0_2, .int .u16 p0_3, .int .i64 p0_4, .int .i64 p0_5]), (31, .int .i64 t10), (32, .int .i64 t11), (33, .int .i64 t12), (34, .int .i64 t13), (35, .int .i64 t14)] ?_
    obtain ⟨t34, hg33, h⟩ := of_bind h
    refine RegI.o (OpE.call 36 (by kernel_rfl) 59 #[.agg #[.int .i64 p0_0, .int .u8 p0_1, .int .u8 p0_2, .int .u16 p0_3, .int .i64 p0_4, .int .i64 p0_5], .int .i64 t10, .int .i64 t11, .int .i64 t12, .int .i64 t13, .int .i64 t14] (by kernel_rfl) ((charabancref09_ed_59_ok K _ w19  p0_0 p0_1 p0_2 p0_3 p0_4 p0_5 t10 t11 t12 t13 t14 h18.old' hg33).mono ?_))
    rintro _ w30 ⟨rfl, hb31⟩
    refine ⟨_, rfl, ?_⟩
    have h32 := h18.call hb31
    refine RegI.p 1 [(2, .string t34)] ?_
    refine RegI.d ?_
    refine RunsI.t (.string t34) ?_
    obtain rfl := Option.some.inj h
    exact ⟨rfl, h32.below⟩
   ·skip
    refine RunsI.f 28 false hc29 ?_
    refine RunsI.b false 28 ?_
    refine RunsI.g 2 [.c 30, .c 31, .c 38, .blk 0, .c 43] ?_
    refine RunsI.r ?_
    refine RegI.p 2 [(1, .pointer (some ⟨b2, 0, none⟩)), (3, .int .i64 t10), (4, .int .i64 t11), (5, .int .i64 t12), (6, .int .i64 t13), (7, .int .i64 t14), (18, .int .i64 p0_0), (37, .bool (p0_0 == 0))] ?_
    refine RegI.d ?_
    obtain ⟨j40, hJ41, h⟩ := of_let h
    have hj42 : ∀ (t37 : Bool) (w39 : World), j40 t37 = some r → Holds M0 w0 w39 [box b2 51 [.int .i64 p0_0, .int .u8 p0_1, .int .u8 p0_2, .int .u16 p0_3, .int .i64 p0_4, .int .i64 p0_5]] → RunsI F27 [.c 38, .blk 0, .c 43] [(1, .pointer (some ⟨b2, 0, none⟩)), (3, .int .i64 t10), (4, .int .i64 t11), (5, .int .i64 t12), (6, .int .i64 t13), (7, .int .i64 t14), (37, .bool t37)] w39 (charabancref09_Show_27.post M0 w0 r) := by
     intro t37 w39 h h38
     rw [hJ41] at h
     clear hJ41
     dsimp only at h
     rcases of_cond h with ⟨hc43, h⟩ | ⟨hc43, h⟩
     ·skip
      refine RunsI.f 37 true hc43 ?_
      refine RunsI.b true 39 ?_
      refine RunsI.g 1 [.blk 0, .c 43] ?_
      refine RunsI.g 3 [.c 45, .c 46, .c 74] ?_
      refine RunsI.r ?_
      refine RegI.p 1 [(1, .pointer (some ⟨b2, 0, none⟩)), (4, .int .i64 t11), (5, .int .i64 t12), (6, .int .i64 t13), (7, .int .i64 t14), (41, .int .i64 t10)] ?_
      refine RegI.d ?_
      refine RunsI.g 2 [.c 48, .c 49, .blk 1, .c 74] ?_
      refine RunsI.r ?_
      refine RegI.p 2 [(1, .pointer (some ⟨b2, 0, none⟩)), (4, .int .i64 t11), (5, .int .i64 t12), (6, .int .i64 t13), (7, .int .i64 t14), (41, .int .i64 t10), (42, .bool (t10 == 0))] ?_
      refine RegI.d ?_
      rcases of_cond h with ⟨hc44, h⟩ | ⟨hc44, h⟩
      ·skip
       refine RunsI.f 42 true hc44 ?_
       refine RunsI.b true 50 ?_
       refine RunsI.g 1 [.c 51, .c 52, .blk 1, .c 74] ?_
       refine RunsI.r ?_
       refine RegI.o (OpE.loadBox 44 0 51 b2 0 (.agg #[.int .i64 p0_0, .int .u8 p0_1, .int .u8 p0_2, .int .u16 p0_3, .int .i64 p0_4, .int .i64 p0_5]) h38 (by kernel_rfl) (by kernel_rfl) rfl (by kernel_rfl) ?_)
       refine RegI.p 4 [(44, .agg #[.int .i64 p0_0, .int .u8 p0_1, .int .u8 p0_2, .int .u16 p0_3, .int .i64 p0_4, .int .i64 p0_5]), (45, .int .i64 t11), (46, .int .i64 t12), (47, .int .i64 t13), (48, .int .i64 t14)] ?_
       obtain ⟨t49, hg48, h⟩ := of_bind h
       refine RegI.o (OpE.call 49 (by kernel_rfl) 60 #[.agg #[.int .i64 p0_0, .int .u8 p0_1, .int .u8 p0_2, .int .u16 p0_3, .int .i64 p0_4, .int .i64 p0_5], .int .i64 t11, .int .i64 t12, .int .i64 t13, .int .i64 t14] (by kernel_rfl) ((charabancref09_zero_60_ok K _ w39  p0_0 p0_1 p0_2 p0_3 p0_4 p0_5 t11 t12 t13 t14 h38.old' hg48).mono ?_))
       rintro _ w45 ⟨rfl, hb46⟩
       refine ⟨_, rfl, ?_⟩
       have h47 := h38.call hb46
       refine RegI.p 1 [(2, .string t49)] ?_
       refine RegI.d ?_
       refine RunsI.t (.string t49) ?_
       obtain rfl := Option.some.inj h
       exact ⟨rfl, h47.below⟩
      ·skip
       refine RunsI.f 42 false hc44 ?_
       refine RunsI.b false 53 ?_
       refine RunsI.g 1 [.c 54, .c 55, .blk 1, .c 74] ?_
       refine RunsI.r ?_
       refine RegI.p 2 [(1, .pointer (some ⟨b2, 0, none⟩)), (4, .int .i64 t11), (5, .int .i64 t12), (6, .int .i64 t13), (7, .int .i64 t14), (41, .int .i64 t10), (50, .bool (t10 == 1))] ?_
       refine RegI.d ?_
       rcases of_cond h with ⟨hc50, h⟩ | ⟨hc50, h⟩
       ·skip
        refine RunsI.f 50 true hc50 ?_
        refine RunsI.b true 56 ?_
        refine RunsI.g 2 [.c 58, .c 59, .c 64, .blk 1, .c 74] ?_
        refine RunsI.r ?_
        refine RegI.p 3 [(1, .pointer (some ⟨b2, 0, none⟩)), (4, .int .i64 t11), (5, .int .i64 t12), (54, .bool (t11 == 6))] ?_
        obtain ⟨j55, hJ56, h⟩ := of_let h
        have hj57 : ∀ (t52 : Bool) (w54 : World), j55 t52 = some r → Holds M0 w0 w54 [box b2 51 [.int .i64 p0_0, .int .u8 p0_1, .int .u8 p0_2, .int .u16 p0_3, .int .i64 p0_4, .int .i64 p0_5]] → RegI F27 58 [.c 59, .c 64, .blk 1, .c 74] 6 [(1, .pointer (some ⟨b2, 0, none⟩)), (4, .int .i64 t11), (5, .int .i64 t12), (57, .bool t52)] w54 (charabancref09_Show_27.post M0 w0 r) := by
         intro t52 w54 h h53
         rw [hJ56] at h
         clear hJ56
         dsimp only at h
         refine RegI.d ?_
         rcases of_cond h with ⟨hc58, h⟩ | ⟨hc58, h⟩
         ·skip
          refine RunsI.f 57 true hc58 ?_
          refine RunsI.b true 60 ?_
          refine RunsI.g 1 [.c 61, .c 62, .c 64, .blk 1, .c 74] ?_
          refine RunsI.r ?_
          refine RegI.p 1 [(2, .string (⟨#[104, 97, 108, 116]⟩ : ByteArray))] ?_
          refine RegI.d ?_
          refine RunsI.t (.string (⟨#[104, 97, 108, 116]⟩ : ByteArray)) ?_
          obtain rfl := Option.some.inj h
          exact ⟨rfl, h53.below⟩
         ·skip
          refine RunsI.f 57 false hc58 ?_
          refine RunsI.b false 63 ?_
          refine RunsI.g 1 [.c 64, .blk 1, .c 74] ?_
          refine RunsI.g 1 [.c 65, .c 66, .blk 1, .c 74] ?_
          refine RunsI.any 10 (by kernel_rfl) (by kernel_rfl) (by kernel_rfl) (Kp ([] : List Nat) (World.drew w54)) ?_
          have h60 := h53.drew
          generalize World.drew w54 = w59 at h60 ⊢
          have hS61 := Kp.refl ([] : List Nat) w59
          refine AnyE.loadBox 0 58 0 51 b2 0 (.agg #[.int .i64 p0_0, .int .u8 p0_1, .int .u8 p0_2, .int .u16 p0_3, .int .i64 p0_4, .int .i64 p0_5]) [] h60 rfl (by kernel_rfl) hS61 rfl rfl (by kernel_rfl) (by kernel_rfl) ?_
          refine AnyE.pure 1 59 (.int .i64 t11) (by kernel_rfl) hS61 (fun _ => by kernel_rfl) ?_
          obtain ⟨t64, hg63, h⟩ := of_bind h
          refine AnyE.call 2 60 (.string t64) 61 #[.agg #[.int .i64 p0_0, .int .u8 p0_1, .int .u8 p0_2, .int .u16 p0_3, .int .i64 p0_4, .int .i64 p0_5], .int .i64 t11] (by kernel_rfl) hS61 (fun _ => by kernel_rfl) (fun w hk => charabancref09_reg_61_ok K (fun _ => False) w p0_0 p0_1 p0_2 p0_3 p0_4 p0_5 t11 (fun _ hf => hf.elim) hg63) ?_
          obtain ⟨hc65, h⟩ := of_cond0 h
          refine AnyE.run 3 61 (.string ((⟨#[108, 100, 32]⟩ : ByteArray) ++ t64)) (by kernel_rfl) hS61 (fun _ hk => run_cat (a := (⟨#[108, 100, 32]⟩ : ByteArray)) (b := t64) (by kernel_rfl) hc65) ?_
          obtain ⟨hc66, h⟩ := of_cond0 h
          refine AnyE.run 4 62 (.string (((⟨#[108, 100, 32]⟩ : ByteArray) ++ t64) ++ (⟨#[44]⟩ : ByteArray))) (by kernel_rfl) hS61 (fun _ hk => run_cat (a := ((⟨#[108, 100, 32]⟩ : ByteArray) ++ t64)) (b := (⟨#[44]⟩ : ByteArray)) (by kernel_rfl) hc66) ?_
          refine AnyE.loadBox 5 63 0 51 b2 0 (.agg #[.int .i64 p0_0, .int .u8 p0_1, .int .u8 p0_2, .int .u16 p0_3, .int .i64 p0_4, .int .i64 p0_5]) [] h60 rfl (by kernel_rfl) hS61 rfl rfl (by kernel_rfl) (by kernel_rfl) ?_
          refine AnyE.pure 6 64 (.int .i64 t12) (by kernel_rfl) hS61 (fun _ => by kernel_rfl) ?_
          obtain ⟨t68, hg67, h⟩ := of_bind h
          refine AnyE.call 7 65 (.string t68) 61 #[.agg #[.int .i64 p0_0, .int .u8 p0_1, .int .u8 p0_2, .int .u16 p0_3, .int .i64 p0_4, .int .i64 p0_5], .int .i64 t12] (by kernel_rfl) hS61 (fun _ => by kernel_rfl) (fun w hk => charabancref09_reg_61_ok K (fun _ => False) w p0_0 p0_1 p0_2 p0_3 p0_4 p0_5 t12 (fun _ hf => hf.elim) hg67) ?_
          obtain ⟨hc69, h⟩ := of_cond0 h
          refine AnyE.run 8 66 (.string ((((⟨#[108, 100, 32]⟩ : ByteArray) ++ t64) ++ (⟨#[44]⟩ : ByteArray)) ++ t68)) (by kernel_rfl) hS61 (fun _ hk => run_cat (a := (((⟨#[108, 100, 32]⟩ : ByteArray) ++ t64) ++ (⟨#[44]⟩ : ByteArray))) (b := t68) (by kernel_rfl) hc69) ?_
          refine AnyE.pure 9 2 (.string ((((⟨#[108, 100, 32]⟩ : ByteArray) ++ t64) ++ (⟨#[44]⟩ : ByteArray)) ++ t68)) (by kernel_rfl) hS61 (fun _ => by kernel_rfl) ?_
          refine AnyE.done (by kernel_rfl) (fun w70 hu71 => ?_)
          have h72 := h60.call hu71
          refine RunsI.l [2] [(2, .string ((((⟨#[108, 100, 32]⟩ : ByteArray) ++ t64) ++ (⟨#[44]⟩ : ByteArray)) ++ t68))] ?_
          refine RunsI.t (.string ((((⟨#[108, 100, 32]⟩ : ByteArray) ++ t64) ++ (⟨#[44]⟩ : ByteArray)) ++ t68)) ?_
          obtain rfl := Option.some.inj h
          exact ⟨rfl, h72.below⟩
        clear hJ56
        rcases of_cond h with ⟨hc51, h⟩ | ⟨hc51, h⟩
        ·skip
         refine RegI.f 54 true hc51 ?_
         refine RegI.p 3 [(1, .pointer (some ⟨b2, 0, none⟩)), (4, .int .i64 t11), (5, .int .i64 t12), (57, .bool (t12 == 6))] ?_
         refine RegI.l [1, 4, 5, 57] [(1, .pointer (some ⟨b2, 0, none⟩)), (4, .int .i64 t11), (5, .int .i64 t12), (57, .bool (t12 == 6))] ?_
         exact hj57 (t12 == 6) w39 h (h38.pick [0] (by decide))
        ·skip
         refine RegI.f 54 false hc51 ?_
         refine RegI.p 3 [(1, .pointer (some ⟨b2, 0, none⟩)), (4, .int .i64 t11), (5, .int .i64 t12), (57, .bool false)] ?_
         refine RegI.l [1, 4, 5, 57] [(1, .pointer (some ⟨b2, 0, none⟩)), (4, .int .i64 t11), (5, .int .i64 t12), (57, .bool false)] ?_
         exact hj57 false w39 h (h38.pick [0] (by decide))
       ·skip
        refine RunsI.f 50 false hc50 ?_
        refine RunsI.b false 67 ?_
        refine RunsI.g 1 [.c 68, .c 69, .blk 1, .c 74] ?_
        refine RunsI.r ?_
        refine RegI.p 2 [(1, .pointer (some ⟨b2, 0, none⟩)), (4, .int .i64 t11), (5, .int .i64 t12), (6, .int .i64 t13), (7, .int .i64 t14), (67, .bool (t10 == 2))] ?_
        refine RegI.d ?_
        rcases of_cond h with ⟨hc73, h⟩ | ⟨hc73, h⟩
        ·skip
         refine RunsI.f 67 true hc73 ?_
         refine RunsI.b true 70 ?_
         refine RunsI.g 1 [.c 71, .c 72, .blk 1, .c 74] ?_
         refine RunsI.any 9 (by kernel_rfl) (by kernel_rfl) (by kernel_rfl) (Kp ([] : List Nat) (World.drew w39)) ?_
         have h75 := h38.drew
         generalize World.drew w39 = w74 at h75 ⊢
         have hS76 := Kp.refl ([] : List Nat) w74
         refine AnyE.pure 1 70 (.int .i64 t11) (by kernel_rfl) hS76 (fun _ => by kernel_rfl) ?_
         refine AnyE.loadBox 4 73 0 51 b2 0 (.agg #[.int .i64 p0_0, .int .u8 p0_1, .int .u8 p0_2, .int .u16 p0_3, .int .i64 p0_4, .int .i64 p0_5]) [] h75 rfl (by kernel_rfl) hS76 rfl rfl (by kernel_rfl) (by kernel_rfl) ?_
         refine AnyE.pure 5 74 (.int .i64 t12) (by kernel_rfl) hS76 (fun _ => by kernel_rfl) ?_
         refine AnyE.one 0 (by kernel_rfl) (fun w78 hu79 => ?_)
         have h80 := h75.call hu79
         have hS81 := hS76.up hu79
         obtain ⟨t86, hg85, h⟩ := of_bind h
         refine OpE.call 69 (by kernel_rfl) 62 #[] (by kernel_rfl) ((charabancref09_sums_62_ok K _ w78  h80.old' hg85).mono ?_)
         rintro _ w82 ⟨A87, c88, rfl, hr90⟩
         refine ⟨_, rfl, ?_⟩
         have hb83 := hr90.below
         have h84 := h80.join hr90
         have hS91 := hS81.up hb83
         refine ⟨hS91, ?_⟩
         obtain ⟨t93, hg92, h⟩ := of_bind h
         refine AnyE.call 6 75 (.string t93) 61 #[.agg #[.int .i64 p0_0, .int .u8 p0_1, .int .u8 p0_2, .int .u16 p0_3, .int .i64 p0_4, .int .i64 p0_5], .int .i64 t12] (by kernel_rfl) hS91 (fun _ => by kernel_rfl) (fun w hk => charabancref09_reg_61_ok K (fun _ => False) w p0_0 p0_1 p0_2 p0_3 p0_4 p0_5 t12 (fun _ hf => hf.elim) hg92) ?_
         refine AnyE.one 2 (by kernel_rfl) (fun w94 hu95 => ?_)
         have h96 := h84.call hu95
         have hS97 := hS91.up hu95
         obtain ⟨hc98, h⟩ := of_cond0 h
         refine OpE.idxOwnA 71 1 55 9 t11 h96 (by kernel_rfl) rfl (by kernel_rfl) (by kernel_rfl) hc98 ?_
         refine ⟨hS97, ?_⟩
         refine AnyE.one 3 (by kernel_rfl) (fun w100 hu101 => ?_)
         have h102 := h96.call hu101
         have hS103 := hS97.up hu101
         refine OpE.loadOwnA 72 1 9 9 t11 0 (o := (Int.toNat t11) * 1 + 0) h102 (by kernel_rfl) rfl (by kernel_rfl) (by kernel_rfl) hc98 (fun cs104 hk105 => ?_)
         obtain rfl := hk105
         refine ⟨.string (rdD t86 t11), by kernel_rfl, ?_⟩
         refine ⟨hS103, ?_⟩
         obtain ⟨hc107, h⟩ := of_cond0 h
         refine AnyE.run 7 76 (.string ((rdD t86 t11) ++ t93)) (by kernel_rfl) hS103 (fun _ hk => run_cat (a := (rdD t86 t11)) (b := t93) (by kernel_rfl) hc107) ?_
         refine AnyE.pure 8 2 (.string ((rdD t86 t11) ++ t93)) (by kernel_rfl) hS103 (fun _ => by kernel_rfl) ?_
         refine AnyE.done (by kernel_rfl) (fun w108 hu109 => ?_)
         have h110 := h102.call hu109
         refine RunsI.l [2] [(2, .string ((rdD t86 t11) ++ t93))] ?_
         refine RunsI.t (.string ((rdD t86 t11) ++ t93)) ?_
         obtain rfl := Option.some.inj h
         exact ⟨rfl, h110.below⟩
        ·skip
         refine RunsI.f 67 false hc73 ?_
         refine RunsI.b false 73 ?_
         refine RunsI.g 1 [.blk 1, .c 74] ?_
         refine RunsI.g 2 [.c 75, .c 76] ?_
         refine RunsI.r ?_
         refine RegI.o (OpE.loadBox 77 0 51 b2 0 (.agg #[.int .i64 p0_0, .int .u8 p0_1, .int .u8 p0_2, .int .u16 p0_3, .int .i64 p0_4, .int .i64 p0_5]) h38 (by kernel_rfl) (by kernel_rfl) rfl (by kernel_rfl) ?_)
         refine RegI.p 4 [(77, .agg #[.int .i64 p0_0, .int .u8 p0_1, .int .u8 p0_2, .int .u16 p0_3, .int .i64 p0_4, .int .i64 p0_5]), (78, .int .i64 t11), (79, .int .i64 t12), (80, .int .i64 t13), (81, .int .i64 t14)] ?_
         obtain ⟨t115, hg114, h⟩ := of_bind h
         refine RegI.o (OpE.call 82 (by kernel_rfl) 63 #[.agg #[.int .i64 p0_0, .int .u8 p0_1, .int .u8 p0_2, .int .u16 p0_3, .int .i64 p0_4, .int .i64 p0_5], .int .i64 t11, .int .i64 t12, .int .i64 t13, .int .i64 t14] (by kernel_rfl) ((charabancref09_three_63_ok K _ w39  p0_0 p0_1 p0_2 p0_3 p0_4 p0_5 t11 t12 t13 t14 h38.old' hg114).mono ?_))
         rintro _ w111 ⟨rfl, hb112⟩
         refine ⟨_, rfl, ?_⟩
         have h113 := h38.call hb112
         refine RegI.p 1 [(2, .string t115)] ?_
         refine RegI.d ?_
         refine RunsI.t (.string t115) ?_
         obtain rfl := Option.some.inj h
         exact ⟨rfl, h113.below⟩
     ·skip
      refine RunsI.f 37 false hc43 ?_
      refine RunsI.b false 40 ?_
      refine RunsI.g 1 [.c 41, .c 42, .blk 0, .c 43] ?_
      refine RunsI.r ?_
      refine RegI.p 1 [(2, .string (⟨#[63]⟩ : ByteArray))] ?_
      refine RegI.d ?_
      refine RunsI.t (.string (⟨#[63]⟩ : ByteArray)) ?_
      obtain rfl := Option.some.inj h
      exact ⟨rfl, h38.below⟩
    clear hJ41
    rcases of_cond h with ⟨hc35, h⟩ | ⟨hc35, h⟩
    ·skip
     refine RunsI.f 37 true hc35 ?_
     refine RunsI.b true 32 ?_
     refine RunsI.g 1 [.c 38, .blk 0, .c 43] ?_
     refine RunsI.l [1, 3, 4, 5, 6, 7, 37] [(1, .pointer (some ⟨b2, 0, none⟩)), (3, .int .i64 t10), (4, .int .i64 t11), (5, .int .i64 t12), (6, .int .i64 t13), (7, .int .i64 t14), (37, .bool true)] ?_
     exact hj42 true w19 h (h18.pick [0] (by decide))
    ·skip
     refine RunsI.f 37 false hc35 ?_
     refine RunsI.b false 33 ?_
     refine RunsI.g 1 [.c 34, .c 35, .c 38, .blk 0, .c 43] ?_
     refine RunsI.r ?_
     refine RegI.p 2 [(1, .pointer (some ⟨b2, 0, none⟩)), (3, .int .i64 t10), (4, .int .i64 t11), (5, .int .i64 t12), (6, .int .i64 t13), (7, .int .i64 t14), (18, .int .i64 p0_0), (37, .bool (p0_0 == 3))] ?_
     refine RegI.d ?_
     rcases of_cond h with ⟨hc36, h⟩ | ⟨hc36, h⟩
     ·skip
      refine RunsI.f 37 true hc36 ?_
      refine RunsI.b true 36 ?_
      refine RunsI.g 1 [.c 38, .blk 0, .c 43] ?_
      refine RunsI.l [1, 3, 4, 5, 6, 7, 37] [(1, .pointer (some ⟨b2, 0, none⟩)), (3, .int .i64 t10), (4, .int .i64 t11), (5, .int .i64 t12), (6, .int .i64 t13), (7, .int .i64 t14), (37, .bool true)] ?_
      exact hj42 true w19 h (h18.pick [0] (by decide))
     ·skip
      refine RunsI.f 37 false hc36 ?_
      refine RunsI.b false 37 ?_
      refine RunsI.r ?_
      refine RegI.p 2 [(1, .pointer (some ⟨b2, 0, none⟩)), (3, .int .i64 t10), (4, .int .i64 t11), (5, .int .i64 t12), (6, .int .i64 t13), (7, .int .i64 t14), (37, .bool (p0_0 == 4))] ?_
      refine RegI.d ?_
      refine RunsI.l [1, 3, 4, 5, 6, 7, 37] [(1, .pointer (some ⟨b2, 0, none⟩)), (3, .int .i64 t10), (4, .int .i64 t11), (5, .int .i64 t12), (6, .int .i64 t13), (7, .int .i64 t14), (37, .bool (p0_0 == 4))] ?_
      exact hj42 (p0_0 == 4) w19 h (h18.pick [0] (by decide))
 clear hJ21
 rcases of_cond h with ⟨hc15, h⟩ | ⟨hc15, h⟩
 ·skip
  refine RunsI.f 19 true hc15 ?_
  refine RunsI.b true 12 ?_
  refine RunsI.g 1 [.c 18, .blk 0, .c 43] ?_
  refine RunsI.l [1, 3, 4, 5, 6, 7, 18, 19] [(1, .pointer (some ⟨b2, 0, none⟩)), (3, .int .i64 t10), (4, .int .i64 t11), (5, .int .i64 t12), (6, .int .i64 t13), (7, .int .i64 t14), (18, .int .i64 p0_0), (19, .bool true)] ?_
  exact hj22 true w6 h (h8.pick [0] (by decide))
 ·skip
  refine RunsI.f 19 false hc15 ?_
  refine RunsI.b false 13 ?_
  refine RunsI.g 1 [.c 14, .c 15, .c 18, .blk 0, .c 43] ?_
  refine RunsI.r ?_
  refine RegI.p 2 [(1, .pointer (some ⟨b2, 0, none⟩)), (3, .int .i64 t10), (4, .int .i64 t11), (5, .int .i64 t12), (6, .int .i64 t13), (7, .int .i64 t14), (18, .int .i64 p0_0), (19, .bool (p0_0 == 5))] ?_
  refine RegI.d ?_
  rcases of_cond h with ⟨hc16, h⟩ | ⟨hc16, h⟩
  ·skip
   refine RunsI.f 19 true hc16 ?_
   refine RunsI.b true 16 ?_
   refine RunsI.g 1 [.c 18, .blk 0, .c 43] ?_
   refine RunsI.l [1, 3, 4, 5, 6, 7, 18, 19] [(1, .pointer (some ⟨b2, 0, none⟩)), (3, .int .i64 t10), (4, .int .i64 t11), (5, .int .i64 t12), (6, .int .i64 t13), (7, .int .i64 t14), (18, .int .i64 p0_0), (19, .bool true)] ?_
   exact hj22 true w6 h (h8.pick [0] (by decide))
  ·skip
   refine RunsI.f 19 false hc16 ?_
   refine RunsI.b false 17 ?_
   refine RunsI.r ?_
   refine RegI.p 2 [(1, .pointer (some ⟨b2, 0, none⟩)), (3, .int .i64 t10), (4, .int .i64 t11), (5, .int .i64 t12), (6, .int .i64 t13), (7, .int .i64 t14), (18, .int .i64 p0_0), (19, .bool (p0_0 == 6))] ?_
   refine RegI.d ?_
   refine RunsI.l [1, 3, 4, 5, 6, 7, 18, 19] [(1, .pointer (some ⟨b2, 0, none⟩)), (3, .int .i64 t10), (4, .int .i64 t11), (5, .int .i64 t12), (6, .int .i64 t13), (7, .int .i64 t14), (18, .int .i64 p0_0), (19, .bool (p0_0 == 6))] ?_
   exact hj22 (p0_0 == 6) w6 h (h8.pick [0] (by decide))
end

/-! ### charabanc/charabancref08.Bare (function 28) -/
section
def charabancref08_Bare_28.post (M0 : Nat → Prop) (w0 : World) (r : Bool) : Ending → World → Prop := fun e w => e = .returned (.bool r) ∧ Below w0.heap.size w0 w
def charabancref08_Bare_28.f (K : Nat) (p0_0 : Int) (p0_1 : Int) (p0_2 : Int) (p0_3 : Int) (p0_4 : Int) (p0_5 : Int) : Option Bool := Let (fun (t8 : Bool) => cond t8 (cond (p0_1 != 203) (cond (p0_1 != 237) (cond (p0_1 != 221) (some (p0_1 != 253)) (some false)) (some false)) (some false)) (cond (decide (p0_0 ≥ 0)) (some (decide (p0_0 ≤ 6))) (some false))) (fun j11 => cond (p0_0 == 0) (j11 true) (cond (p0_0 == 3) (j11 true) (j11 (p0_0 == 4))))
set_option maxRecDepth 100000 in
theorem charabancref08_Bare_28_ok (K : Nat) (M0 : Nat → Prop) (w0 : World) (p0_0 : Int) (p0_1 : Int) (p0_2 : Int) (p0_3 : Int) (p0_4 : Int) (p0_5 : Int) (ho : ∀ b, M0 b → b < w0.heap.size) {r : Bool} (h : charabancref08_Bare_28.f K p0_0 p0_1 p0_2 p0_3 p0_4 p0_5 = some r) :
  Calls Tryd.prog 28 #[.agg #[.int .i64 p0_0, .int .u8 p0_1, .int .u8 p0_2, .int .u16 p0_3, .int .i64 p0_4, .int .i64 p0_5]] w0 (charabancref08_Bare_28.post M0 w0 r) := by
 unfold charabancref08_Bare_28.f at h
 have h0 : Holds M0 w0 w0 [] := Holds.start ho
 have h0 : Holds M0 w0 w0 [] := h0
 refine calls_of F28 rfl [.agg #[.int .i64 p0_0, .int .u8 p0_1, .int .u8 p0_2, .int .u16 p0_3, .int .i64 p0_4, .int .i64 p0_5]] (by kernel_rfl) ?_
 refine RunsI.g 1 [.c 1, .c 2] ?_
 refine RunsI.r ?_
 refine RegI.o (OpE.box 1 51 [.int .i64 p0_0, .int .u8 p0_1, .int .u8 p0_2, .int .u16 p0_3, .int .i64 p0_4, .int .i64 p0_5] h0 (by kernel_rfl) (by kernel_rfl) ?_)
 intro w1 b2 h3 hb4 hn5
 refine RegI.p 1 [(1, .pointer (some ⟨b2, 0, none⟩))] ?_
 refine RegI.d ?_
 refine RunsI.g 2 [.c 4, .c 5, .c 10] ?_
 refine RunsI.r ?_
 refine RegI.p 1 [(1, .pointer (some ⟨b2, 0, none⟩)), (3, .pointer (some ⟨b2, 0, none⟩))] ?_
 refine RegI.o (OpE.loadBox 4 0 3 b2 0 (.int .i64 p0_0) h3 (by kernel_rfl) (by kernel_rfl) rfl (by kernel_rfl) ?_)
 refine RegI.p 2 [(1, .pointer (some ⟨b2, 0, none⟩)), (6, .bool (p0_0 == 0))] ?_
 obtain ⟨j11, hJ12, h⟩ := of_let h
 have hj13 : ∀ (t8 : Bool) (w10 : World), j11 t8 = some r → Holds M0 w0 w10 [box b2 51 [.int .i64 p0_0, .int .u8 p0_1, .int .u8 p0_2, .int .u16 p0_3, .int .i64 p0_4, .int .i64 p0_5]] → RegI F28 4 [.c 5, .c 10] 13 [(1, .pointer (some ⟨b2, 0, none⟩)), (15, .bool t8)] w10 (charabancref08_Bare_28.post M0 w0 r) := by
  intro t8 w10 h h9
  rw [hJ12] at h
  clear hJ12
  dsimp only at h
  refine RegI.d ?_
  rcases of_cond h with ⟨hc14, h⟩ | ⟨hc14, h⟩
  ·skip
   refine RunsI.f 15 true hc14 ?_
   refine RunsI.b true 6 ?_
   refine RunsI.g 1 [.c 7, .c 8, .c 10] ?_
   refine RunsI.r ?_
   refine RegI.p 1 [(1, .pointer (some ⟨b2, 0, none⟩)), (16, .pointer (some ⟨b2, 1, none⟩))] ?_
   refine RegI.o (OpE.loadBox 17 0 5 b2 1 (.int .u8 p0_1) h9 (by kernel_rfl) (by kernel_rfl) rfl (by kernel_rfl) ?_)
   refine RegI.p 2 [(1, .pointer (some ⟨b2, 0, none⟩)), (19, .bool (p0_1 != 203))] ?_
   rcases of_cond h with ⟨hc15, h⟩ | ⟨hc15, h⟩
   ·skip
    refine RegI.f 19 true hc15 ?_
    refine RegI.p 1 [(1, .pointer (some ⟨b2, 0, none⟩)), (19, .bool true), (20, .pointer (some ⟨b2, 1, none⟩))] ?_
    refine RegI.o (OpE.loadBox 21 0 5 b2 1 (.int .u8 p0_1) h9 (by kernel_rfl) (by kernel_rfl) rfl (by kernel_rfl) ?_)
    refine RegI.p 3 [(1, .pointer (some ⟨b2, 0, none⟩)), (24, .bool (p0_1 != 237))] ?_
    rcases of_cond h with ⟨hc16, h⟩ | ⟨hc16, h⟩
    ·skip
     refine RegI.f 24 true hc16 ?_
     refine RegI.p 1 [(1, .pointer (some ⟨b2, 0, none⟩)), (24, .bool true), (25, .pointer (some ⟨b2, 1, none⟩))] ?_
     refine RegI.o (OpE.loadBox 26 0 5 b2 1 (.int .u8 p0_1) h9 (by kernel_rfl) (by kernel_rfl) rfl (by kernel_rfl) ?_)
     refine RegI.p 3 [(1, .pointer (some ⟨b2, 0, none⟩)), (29, .bool (p0_1 != 221))] ?_
     rcases of_cond h with ⟨hc17, h⟩ | ⟨hc17, h⟩
     ·skip
      refine RegI.f 29 true hc17 ?_
      refine RegI.p 1 [(29, .bool true), (30, .pointer (some ⟨b2, 1, none⟩))] ?_
      refine RegI.o (OpE.loadBox 31 0 5 b2 1 (.int .u8 p0_1) h9 (by kernel_rfl) (by kernel_rfl) rfl (by kernel_rfl) ?_)
      refine RegI.p 3 [(2, .bool (p0_1 != 253))] ?_
      refine RegI.d ?_
      refine RunsI.t (.bool (p0_1 != 253)) ?_
      obtain rfl := Option.some.inj h
      exact ⟨rfl, h9.below⟩
     ·skip
      refine RegI.f 29 false hc17 ?_
      refine RegI.p 5 [(2, .bool false)] ?_
      refine RegI.d ?_
      refine RunsI.t (.bool false) ?_
      obtain rfl := Option.some.inj h
      exact ⟨rfl, h9.below⟩
    ·skip
     refine RegI.f 24 false hc16 ?_
     refine RegI.p 10 [(2, .bool false)] ?_
     refine RegI.d ?_
     refine RunsI.t (.bool false) ?_
     obtain rfl := Option.some.inj h
     exact ⟨rfl, h9.below⟩
   ·skip
    refine RegI.f 19 false hc15 ?_
    refine RegI.p 15 [(2, .bool false)] ?_
    refine RegI.d ?_
    refine RunsI.t (.bool false) ?_
    obtain rfl := Option.some.inj h
    exact ⟨rfl, h9.below⟩
  ·skip
   refine RunsI.f 15 false hc14 ?_
   refine RunsI.b false 9 ?_
   refine RunsI.g 1 [.c 10] ?_
   refine RunsI.g 1 [.c 11, .c 12] ?_
   refine RunsI.r ?_
   refine RegI.p 1 [(1, .pointer (some ⟨b2, 0, none⟩)), (34, .pointer (some ⟨b2, 0, none⟩))] ?_
   refine RegI.o (OpE.loadBox 35 0 3 b2 0 (.int .i64 p0_0) h9 (by kernel_rfl) (by kernel_rfl) rfl (by kernel_rfl) ?_)
   refine RegI.p 2 [(1, .pointer (some ⟨b2, 0, none⟩)), (37, .bool (decide (p0_0 ≥ 0)))] ?_
   rcases of_cond h with ⟨hc18, h⟩ | ⟨hc18, h⟩
   ·skip
    refine RegI.f 37 true hc18 ?_
    refine RegI.p 1 [(37, .bool true), (38, .pointer (some ⟨b2, 0, none⟩))] ?_
    refine RegI.o (OpE.loadBox 39 0 3 b2 0 (.int .i64 p0_0) h9 (by kernel_rfl) (by kernel_rfl) rfl (by kernel_rfl) ?_)
    refine RegI.p 3 [(2, .bool (decide (p0_0 ≤ 6)))] ?_
    refine RegI.d ?_
    refine RunsI.t (.bool (decide (p0_0 ≤ 6))) ?_
    obtain rfl := Option.some.inj h
    exact ⟨rfl, h9.below⟩
   ·skip
    refine RegI.f 37 false hc18 ?_
    refine RegI.p 5 [(2, .bool false)] ?_
    refine RegI.d ?_
    refine RunsI.t (.bool false) ?_
    obtain rfl := Option.some.inj h
    exact ⟨rfl, h9.below⟩
 clear hJ12
 rcases of_cond h with ⟨hc6, h⟩ | ⟨hc6, h⟩
 ·skip
  refine RegI.f 6 true hc6 ?_
  refine RegI.p 9 [(1, .pointer (some ⟨b2, 0, none⟩)), (15, .bool true)] ?_
  refine RegI.l [1, 15] [(1, .pointer (some ⟨b2, 0, none⟩)), (15, .bool true)] ?_
  exact hj13 true w1 h (h3.pick [0] (by decide))
 ·skip
  refine RegI.f 6 false hc6 ?_
  refine RegI.p 1 [(1, .pointer (some ⟨b2, 0, none⟩)), (6, .bool false), (7, .pointer (some ⟨b2, 0, none⟩))] ?_
  refine RegI.o (OpE.loadBox 8 0 3 b2 0 (.int .i64 p0_0) h3 (by kernel_rfl) (by kernel_rfl) rfl (by kernel_rfl) ?_)
  refine RegI.p 3 [(1, .pointer (some ⟨b2, 0, none⟩)), (11, .bool (p0_0 == 3))] ?_
  rcases of_cond h with ⟨hc7, h⟩ | ⟨hc7, h⟩
  ·skip
   refine RegI.f 11 true hc7 ?_
   refine RegI.p 4 [(1, .pointer (some ⟨b2, 0, none⟩)), (15, .bool true)] ?_
   refine RegI.l [1, 15] [(1, .pointer (some ⟨b2, 0, none⟩)), (15, .bool true)] ?_
   exact hj13 true w1 h (h3.pick [0] (by decide))
  ·skip
   refine RegI.f 11 false hc7 ?_
   refine RegI.p 1 [(1, .pointer (some ⟨b2, 0, none⟩)), (11, .bool false), (12, .pointer (some ⟨b2, 0, none⟩))] ?_
   refine RegI.o (OpE.loadBox 13 0 3 b2 0 (.int .i64 p0_0) h3 (by kernel_rfl) (by kernel_rfl) rfl (by kernel_rfl) ?_)
   refine RegI.p 2 [(1, .pointer (some ⟨b2, 0, none⟩)), (15, .bool (p0_0 == 4))] ?_
   refine RegI.l [1, 15] [(1, .pointer (some ⟨b2, 0, none⟩)), (15, .bool (p0_0 == 4))] ?_
   exact hj13 (p0_0 == 4) w1 h (h3.pick [0] (by decide))
end
end Go.Proofs.YtilgjfckgkkfmaaDoor.Tex
