/- Functions of the program as plain Lean functions, each with the proof that the call comes to it; written by wip/eng.py. -/
import Derived.Test.YtilgjfckgkkfmaaDoorTex3
set_option linter.unusedVariables false
set_option linter.unusedSimpArgs false
set_option maxHeartbeats 4000000
namespace Go.Proofs.YtilgjfckgkkfmaaDoor.Tex
open Go.RowKit Go.Eng
/-! ### charabanc/charabancref09.sign (function 122) -/
section
def charabancref09_sign_122.post (M0 : Nat → Prop) (w0 : World) (r : ByteArray) : Ending → World → Prop := fun e w => e = .returned (.string r) ∧ Below w0.heap.size w0 w
def charabancref09_sign_122.f (K : Nat) (p0 : Int) : Option ByteArray := cond (decide (p0 < 0)) ((charabancref09_digits_96.f K (IntKind.wrap .i64 (0 - p0)) 10 1).bind fun t6 => cond (mayCat (⟨#[45]⟩ : ByteArray).size t6.size) (some ((⟨#[45]⟩ : ByteArray) ++ t6)) none) ((charabancref09_digits_96.f K p0 10 1).bind fun t12 => cond (mayCat (⟨#[43]⟩ : ByteArray).size t12.size) (some ((⟨#[43]⟩ : ByteArray) ++ t12)) none)
set_option maxRecDepth 100000 in
theorem charabancref09_sign_122_ok (K : Nat) (M0 : Nat → Prop) (w0 : World) (p0 : Int) (ho : ∀ b, M0 b → b < w0.heap.size) {r : ByteArray} (h : charabancref09_sign_122.f K p0 = some r) :
  Calls Tryd.prog 122 #[.int .i64 p0] w0 (charabancref09_sign_122.post M0 w0 r) := by
 unfold charabancref09_sign_122.f at h
 have h0 : Holds M0 w0 w0 [] := Holds.start ho
 have h0 : Holds M0 w0 w0 [] := h0
 refine calls_of F122 rfl [.int .i64 p0] (by kernel_rfl) ?_
 refine RunsI.g 1 [.c 1, .c 2] ?_
 refine RunsI.r ?_
 refine RegI.p 1 [(0, .int .i64 p0)] ?_
 refine RegI.d ?_
 refine RunsI.g 2 [.c 4, .c 5, .c 10] ?_
 refine RunsI.r ?_
 refine RegI.p 2 [(0, .int .i64 p0), (4, .bool (decide (p0 < 0)))] ?_
 refine RegI.d ?_
 rcases of_cond h with ⟨hc1, h⟩ | ⟨hc1, h⟩
 ·skip
  refine RunsI.f 4 true hc1 ?_
  refine RunsI.b true 6 ?_
  refine RunsI.g 1 [.c 7, .c 8, .c 10] ?_
  refine RunsI.r ?_
  refine RegI.p 2 [(6, .int .i64 (IntKind.wrap .i64 (0 - p0)))] ?_
  obtain ⟨t6, hg5, h⟩ := of_bind h
  refine RegI.o (OpE.call 7 (by kernel_rfl) 96 #[.int .i64 (IntKind.wrap .i64 (0 - p0)), .int .i64 10, .int .i64 1] (by kernel_rfl) ((charabancref09_digits_96_ok K _ w0  (IntKind.wrap .i64 (0 - p0)) 10 1 h0.old' hg5).mono ?_))
  rintro _ w2 ⟨rfl, hb3⟩
  refine ⟨_, rfl, ?_⟩
  have h4 := h0.call hb3
  obtain ⟨hc7, h⟩ := of_cond0 h
  refine RegI.o (OpE.run 8 (by kernel_rfl) (run_cat (a := (⟨#[45]⟩ : ByteArray)) (b := t6) (by kernel_rfl) hc7) ?_)
  refine RegI.p 1 [(2, .string ((⟨#[45]⟩ : ByteArray) ++ t6))] ?_
  refine RegI.d ?_
  refine RunsI.t (.string ((⟨#[45]⟩ : ByteArray) ++ t6)) ?_
  obtain rfl := Option.some.inj h
  exact ⟨rfl, h4.below⟩
 ·skip
  refine RunsI.f 4 false hc1 ?_
  refine RunsI.b false 9 ?_
  refine RunsI.g 1 [.c 10] ?_
  refine RunsI.g 1 [.c 11, .c 12] ?_
  refine RunsI.r ?_
  refine RegI.p 1 [(9, .int .i64 p0)] ?_
  obtain ⟨t12, hg11, h⟩ := of_bind h
  refine RegI.o (OpE.call 10 (by kernel_rfl) 96 #[.int .i64 p0, .int .i64 10, .int .i64 1] (by kernel_rfl) ((charabancref09_digits_96_ok K _ w0  p0 10 1 h0.old' hg11).mono ?_))
  rintro _ w8 ⟨rfl, hb9⟩
  refine ⟨_, rfl, ?_⟩
  have h10 := h0.call hb9
  obtain ⟨hc13, h⟩ := of_cond0 h
  refine RegI.o (OpE.run 11 (by kernel_rfl) (run_cat (a := (⟨#[43]⟩ : ByteArray)) (b := t12) (by kernel_rfl) hc13) ?_)
  refine RegI.p 1 [(2, .string ((⟨#[43]⟩ : ByteArray) ++ t12))] ?_
  refine RegI.d ?_
  refine RunsI.t (.string ((⟨#[43]⟩ : ByteArray) ++ t12)) ?_
  obtain rfl := Option.some.inj h
  exact ⟨rfl, h10.below⟩
end

/-! ### charabanc/charabancref01.Signed (function 123) -/
section
def charabancref01_Signed_123.post (M0 : Nat → Prop) (w0 : World) (r : Int) : Ending → World → Prop := fun e w => e = .returned (.int .i64 r) ∧ Below w0.heap.size w0 w
def charabancref01_Signed_123.f (K : Nat) (p0 : Int) : Option Int := cond (decide (p0 < 128)) (some (IntKind.wrap .i64 p0)) (some (IntKind.wrap .i64 ((IntKind.wrap .i64 p0) - 256)))
set_option maxRecDepth 100000 in
theorem charabancref01_Signed_123_ok (K : Nat) (M0 : Nat → Prop) (w0 : World) (p0 : Int) (ho : ∀ b, M0 b → b < w0.heap.size) {r : Int} (h : charabancref01_Signed_123.f K p0 = some r) :
  Calls Tryd.prog 123 #[.int .u8 p0] w0 (charabancref01_Signed_123.post M0 w0 r) := by
 unfold charabancref01_Signed_123.f at h
 have h0 : Holds M0 w0 w0 [] := Holds.start ho
 have h0 : Holds M0 w0 w0 [] := h0
 refine calls_of F123 rfl [.int .u8 p0] (by kernel_rfl) ?_
 refine RunsI.g 1 [.c 1, .c 2] ?_
 refine RunsI.r ?_
 refine RegI.p 1 [(0, .int .u8 p0)] ?_
 refine RegI.d ?_
 refine RunsI.g 2 [.c 4, .c 5, .c 10] ?_
 refine RunsI.r ?_
 refine RegI.p 2 [(0, .int .u8 p0), (4, .bool (decide (p0 < 128)))] ?_
 refine RegI.d ?_
 rcases of_cond h with ⟨hc1, h⟩ | ⟨hc1, h⟩
 ·skip
  refine RunsI.f 4 true hc1 ?_
  refine RunsI.b true 6 ?_
  refine RunsI.g 1 [.c 7, .c 8, .c 10] ?_
  refine RunsI.r ?_
  refine RegI.p 3 [(2, .int .i64 (IntKind.wrap .i64 p0))] ?_
  refine RegI.d ?_
  refine RunsI.t (.int .i64 (IntKind.wrap .i64 p0)) ?_
  obtain rfl := Option.some.inj h
  exact ⟨rfl, h0.below⟩
 ·skip
  refine RunsI.f 4 false hc1 ?_
  refine RunsI.b false 9 ?_
  refine RunsI.g 1 [.c 10] ?_
  refine RunsI.g 1 [.c 11, .c 12] ?_
  refine RunsI.r ?_
  refine RegI.p 4 [(2, .int .i64 (IntKind.wrap .i64 ((IntKind.wrap .i64 p0) - 256)))] ?_
  refine RegI.d ?_
  refine RunsI.t (.int .i64 (IntKind.wrap .i64 ((IntKind.wrap .i64 p0) - 256))) ?_
  obtain rfl := Option.some.inj h
  exact ⟨rfl, h0.below⟩
end

/-! ### charabanc/charabancref09.Index (function 94) -/
section
def charabancref09_Index_94.post (M0 : Nat → Prop) (w0 : World) (r : ByteArray) : Ending → World → Prop := fun e w => e = .returned (.string r) ∧ Below w0.heap.size w0 w
def charabancref09_Index_94.f (K : Nat) (p0 : Int) (p1 : Int) : Option ByteArray := (charabancref09_name_104.f K p0).bind fun t5 => cond (mayCat (⟨#[40]⟩ : ByteArray).size t5.size) ((charabancref01_Signed_123.f K p1).bind fun t11 => (charabancref09_sign_122.f K t11).bind fun t16 => cond (mayCat ((⟨#[40]⟩ : ByteArray) ++ t5).size t16.size) (cond (mayCat (((⟨#[40]⟩ : ByteArray) ++ t5) ++ t16).size (⟨#[41]⟩ : ByteArray).size) (some ((((⟨#[40]⟩ : ByteArray) ++ t5) ++ t16) ++ (⟨#[41]⟩ : ByteArray))) none) none) none
set_option maxRecDepth 100000 in
theorem charabancref09_Index_94_ok (K : Nat) (M0 : Nat → Prop) (w0 : World) (p0 : Int) (p1 : Int) (ho : ∀ b, M0 b → b < w0.heap.size) {r : ByteArray} (h : charabancref09_Index_94.f K p0 p1 = some r) :
  Calls Tryd.prog 94 #[.int .i64 p0, .int .u8 p1] w0 (charabancref09_Index_94.post M0 w0 r) := by
 unfold charabancref09_Index_94.f at h
 have h0 : Holds M0 w0 w0 [] := Holds.start ho
 have h0 : Holds M0 w0 w0 [] := h0
 refine calls_of F94 rfl [.int .i64 p0, .int .u8 p1] (by kernel_rfl) ?_
 refine RunsI.g 1 [.c 1, .c 2] ?_
 refine RunsI.r ?_
 refine RegI.p 1 [(0, .int .i64 p0), (1, .int .u8 p1)] ?_
 refine RegI.d ?_
 refine RunsI.g 1 [.c 3, .c 4] ?_
 refine RunsI.r ?_
 refine RegI.p 1 [(1, .int .u8 p1), (5, .int .i64 p0)] ?_
 obtain ⟨t5, hg4, h⟩ := of_bind h
 refine RegI.o (OpE.call 6 (by kernel_rfl) 104 #[.int .i64 p0] (by kernel_rfl) ((charabancref09_name_104_ok K _ w0  p0 h0.old' hg4).mono ?_))
 rintro _ w1 ⟨rfl, hb2⟩
 refine ⟨_, rfl, ?_⟩
 have h3 := h0.call hb2
 obtain ⟨hc6, h⟩ := of_cond0 h
 refine RegI.o (OpE.run 7 (by kernel_rfl) (run_cat (a := (⟨#[40]⟩ : ByteArray)) (b := t5) (by kernel_rfl) hc6) ?_)
 refine RegI.p 1 [(7, .string ((⟨#[40]⟩ : ByteArray) ++ t5)), (8, .int .u8 p1)] ?_
 obtain ⟨t11, hg10, h⟩ := of_bind h
 refine RegI.o (OpE.call 9 (by kernel_rfl) 123 #[.int .u8 p1] (by kernel_rfl) ((charabancref01_Signed_123_ok K _ w1  p1 h3.old' hg10).mono ?_))
 rintro _ w7 ⟨rfl, hb8⟩
 refine ⟨_, rfl, ?_⟩
 have h9 := h3.call hb8
 obtain ⟨t16, hg15, h⟩ := of_bind h
 refine RegI.o (OpE.call 10 (by kernel_rfl) 122 #[.int .i64 t11] (by kernel_rfl) ((charabancref09_sign_122_ok K _ w7  t11 h9.old' hg15).mono ?_))
 rintro _ w12 ⟨rfl, hb13⟩
 refine ⟨_, rfl, ?_⟩
 have h14 := h9.call hb13
 obtain ⟨hc17, h⟩ := of_cond0 h
 refine RegI.o (OpE.run 11 (by kernel_rfl) (run_cat (a := ((⟨#[40]⟩ : ByteArray) ++ t5)) (b := t16) (by kernel_rfl) hc17) ?_)
 obtain ⟨hc18, h⟩ := of_cond0 h
 refine RegI.o (OpE.run 12 (by kernel_rfl) (run_cat (a := (((⟨#[40]⟩ : ByteArray) ++ t5) ++ t16)) (b := (⟨#[41]⟩ : ByteArray)) (by kernel_rfl) hc18) ?_)
 refine RegI.p 1 [(4, .string ((((⟨#[40]⟩ : ByteArray) ++ t5) ++ t16) ++ (⟨#[41]⟩ : ByteArray)))] ?_
 refine RegI.d ?_
 refine RunsI.t (.string ((((⟨#[40]⟩ : ByteArray) ++ t5) ++ t16) ++ (⟨#[41]⟩ : ByteArray))) ?_
 obtain rfl := Option.some.inj h
 exact ⟨rfl, h14.below⟩
end

/-! ### charabanc/charabancref09.indexed (function 102) -/
section
def charabancref09_indexed_102.post (M0 : Nat → Prop) (w0 : World) (r : Bool) : Ending → World → Prop := fun e w => e = .returned (.bool r) ∧ Below w0.heap.size w0 w
def charabancref09_indexed_102.f (K : Nat) (p0_0 : Int) (p0_1 : Int) (p0_2 : Int) (p0_3 : Int) (p0_4 : Int) (p0_5 : Int) : Option Bool := cond (p0_0 == 3) (some true) (some (p0_0 == 4))
set_option maxRecDepth 100000 in
theorem charabancref09_indexed_102_ok (K : Nat) (M0 : Nat → Prop) (w0 : World) (p0_0 : Int) (p0_1 : Int) (p0_2 : Int) (p0_3 : Int) (p0_4 : Int) (p0_5 : Int) (ho : ∀ b, M0 b → b < w0.heap.size) {r : Bool} (h : charabancref09_indexed_102.f K p0_0 p0_1 p0_2 p0_3 p0_4 p0_5 = some r) :
  Calls Tryd.prog 102 #[.agg #[.int .i64 p0_0, .int .u8 p0_1, .int .u8 p0_2, .int .u16 p0_3, .int .i64 p0_4, .int .i64 p0_5]] w0 (charabancref09_indexed_102.post M0 w0 r) := by
 unfold charabancref09_indexed_102.f at h
 have h0 : Holds M0 w0 w0 [] := Holds.start ho
 have h0 : Holds M0 w0 w0 [] := h0
 refine calls_of F102 rfl [.agg #[.int .i64 p0_0, .int .u8 p0_1, .int .u8 p0_2, .int .u16 p0_3, .int .i64 p0_4, .int .i64 p0_5]] (by kernel_rfl) ?_
 refine RunsI.g 1 [.c 1, .c 2] ?_
 refine RunsI.r ?_
 refine RegI.o (OpE.box 1 51 [.int .i64 p0_0, .int .u8 p0_1, .int .u8 p0_2, .int .u16 p0_3, .int .i64 p0_4, .int .i64 p0_5] h0 (by kernel_rfl) (by kernel_rfl) ?_)
 intro w1 b2 h3 hb4 hn5
 refine RegI.p 1 [(1, .pointer (some ⟨b2, 0, none⟩))] ?_
 refine RegI.d ?_
 refine RunsI.g 1 [.c 3, .c 4] ?_
 refine RunsI.r ?_
 refine RegI.p 1 [(1, .pointer (some ⟨b2, 0, none⟩)), (3, .pointer (some ⟨b2, 0, none⟩))] ?_
 refine RegI.o (OpE.loadBox 4 0 3 b2 0 (.int .i64 p0_0) h3 (by kernel_rfl) (by kernel_rfl) rfl (by kernel_rfl) ?_)
 refine RegI.p 2 [(1, .pointer (some ⟨b2, 0, none⟩)), (6, .bool (p0_0 == 3))] ?_
 rcases of_cond h with ⟨hc6, h⟩ | ⟨hc6, h⟩
 ·skip
  refine RegI.f 6 true hc6 ?_
  refine RegI.p 5 [(2, .bool true)] ?_
  refine RegI.d ?_
  refine RunsI.t (.bool true) ?_
  obtain rfl := Option.some.inj h
  exact ⟨rfl, h3.below⟩
 ·skip
  refine RegI.f 6 false hc6 ?_
  refine RegI.p 1 [(6, .bool false), (7, .pointer (some ⟨b2, 0, none⟩))] ?_
  refine RegI.o (OpE.loadBox 8 0 3 b2 0 (.int .i64 p0_0) h3 (by kernel_rfl) (by kernel_rfl) rfl (by kernel_rfl) ?_)
  refine RegI.p 3 [(2, .bool (p0_0 == 4))] ?_
  refine RegI.d ?_
  refine RunsI.t (.bool (p0_0 == 4)) ?_
  obtain rfl := Option.some.inj h
  exact ⟨rfl, h3.below⟩
end

/-! ### charabanc/charabancref08.Near (function 103) -/
section
def charabancref08_Near_103.post (M0 : Nat → Prop) (w0 : World) (r : Bool) : Ending → World → Prop := fun e w => e = .returned (.bool r) ∧ Below w0.heap.size w0 w
def charabancref08_Near_103.f (K : Nat) (p0 : Int) (p1 : Int) : Option Bool := (charabancref08_Fields_57.f K p1).bind fun yt5 => Let (fun (t11 : Bool) => cond t11 (some true) (Let (fun (t19 : Bool) => cond t19 (cond (yt5.1 == 0) (cond (yt5.2.1 == 6) (cond (decide (yt5.2.2.1 ≥ 4)) (some (decide (yt5.2.2.1 ≤ 6))) (some false)) (some false)) (cond (yt5.1 == 1) (some ((yt5.2.2.1 == 6) != (yt5.2.1 == 6))) (cond (yt5.1 == 2) (some (yt5.2.2.1 == 6)) (some false)))) (some false)) (fun j22 => cond (p0 == 3) (j22 true) (j22 (p0 == 4))))) (fun j14 => cond (p0 == 5) (j14 true) (j14 (p0 == 6)))
set_option maxRecDepth 100000 in
theorem charabancref08_Near_103_ok (K : Nat) (M0 : Nat → Prop) (w0 : World) (p0 : Int) (p1 : Int) (ho : ∀ b, M0 b → b < w0.heap.size) {r : Bool} (h : charabancref08_Near_103.f K p0 p1 = some r) :
  Calls Tryd.prog 103 #[.int .i64 p0, .int .u8 p1] w0 (charabancref08_Near_103.post M0 w0 r) := by
 unfold charabancref08_Near_103.f at h
 have h0 : Holds M0 w0 w0 [] := Holds.start ho
 have h0 : Holds M0 w0 w0 [] := h0
 refine calls_of F103 rfl [.int .i64 p0, .int .u8 p1] (by kernel_rfl) ?_
 refine RunsI.g 1 [.c 1, .c 2] ?_
 refine RunsI.r ?_
 refine RegI.p 1 [(0, .int .i64 p0), (1, .int .u8 p1)] ?_
 refine RegI.d ?_
 refine RunsI.g 1 [.c 3, .c 4] ?_
 refine RunsI.r ?_
 refine RegI.p 1 [(0, .int .i64 p0), (11, .int .u8 p1)] ?_
 obtain ⟨⟨t5, t6, t7, t8, t9⟩, hg4, h⟩ := of_bind h
 dsimp only at h
 refine RegI.o (OpE.call 12 (by kernel_rfl) 57 #[.int .u8 p1] (by kernel_rfl) ((charabancref08_Fields_57_ok K _ w0  p1 h0.old' hg4).mono ?_))
 rintro _ w1 ⟨rfl, hb2⟩
 refine ⟨_, rfl, ?_⟩
 have h3 := h0.call hb2
 refine RegI.p 11 [(0, .int .i64 p0), (5, .int .i64 t5), (6, .int .i64 t6), (7, .int .i64 t7)] ?_
 refine RegI.d ?_
 refine RunsI.g 2 [.c 6, .c 7, .c 48] ?_
 refine RunsI.r ?_
 refine RegI.p 1 [(5, .int .i64 t5), (6, .int .i64 t6), (7, .int .i64 t7), (18, .int .i64 p0)] ?_
 refine RegI.d ?_
 refine RunsI.g 3 [.c 10, .c 11, .c 14, .blk 0, .c 48] ?_
 refine RunsI.r ?_
 refine RegI.p 2 [(5, .int .i64 t5), (6, .int .i64 t6), (7, .int .i64 t7), (18, .int .i64 p0), (19, .bool (p0 == 5))] ?_
 refine RegI.d ?_
 obtain ⟨j14, hJ15, h⟩ := of_let h
 have hj16 : ∀ (t11 : Bool) (w13 : World), j14 t11 = some r → Holds M0 w0 w13 [] → RunsI F103 [.c 14, .blk 0, .c 48] [(5, .int .i64 t5), (6, .int .i64 t6), (7, .int .i64 t7), (18, .int .i64 p0), (19, .bool t11)] w13 (charabancref08_Near_103.post M0 w0 r) := by
  intro t11 w13 h h12
  rw [hJ15] at h
  clear hJ15
  dsimp only at h
  rcases of_cond h with ⟨hc17, h⟩ | ⟨hc17, h⟩
  ·skip
   refine RunsI.f 19 true hc17 ?_
   refine RunsI.b true 15 ?_
   refine RunsI.g 1 [.c 16, .c 17, .blk 0, .c 48] ?_
   refine RunsI.r ?_
   refine RegI.p 1 [(4, .bool true)] ?_
   refine RegI.d ?_
   refine RunsI.t (.bool true) ?_
   obtain rfl := Option.some.inj h
   exact ⟨rfl, h12.below⟩
  ·skip
   refine RunsI.f 19 false hc17 ?_
   refine RunsI.b false 18 ?_
   refine RunsI.g 2 [.c 20, .c 21, .c 24, .blk 0, .c 48] ?_
   refine RunsI.r ?_
   refine RegI.p 2 [(5, .int .i64 t5), (6, .int .i64 t6), (7, .int .i64 t7), (18, .int .i64 p0), (22, .bool (p0 == 3))] ?_
   refine RegI.d ?_
   obtain ⟨j22, hJ23, h⟩ := of_let h
   have hj24 : ∀ (t19 : Bool) (w21 : World), j22 t19 = some r → Holds M0 w0 w21 [] → RunsI F103 [.c 24, .blk 0, .c 48] [(5, .int .i64 t5), (6, .int .i64 t6), (7, .int .i64 t7), (22, .bool t19)] w21 (charabancref08_Near_103.post M0 w0 r) := by
    intro t19 w21 h h20
    rw [hJ23] at h
    clear hJ23
    dsimp only at h
    rcases of_cond h with ⟨hc25, h⟩ | ⟨hc25, h⟩
    ·skip
     refine RunsI.f 22 true hc25 ?_
     refine RunsI.b true 25 ?_
     refine RunsI.g 1 [.c 26, .c 27, .blk 0, .c 48] ?_
     refine RunsI.r ?_
     refine RegI.p 1 [(6, .int .i64 t6), (7, .int .i64 t7), (25, .int .i64 t5)] ?_
     refine RegI.d ?_
     refine RunsI.g 2 [.c 29, .c 30, .blk 1, .blk 0, .c 48] ?_
     refine RunsI.r ?_
     refine RegI.p 2 [(6, .int .i64 t6), (7, .int .i64 t7), (25, .int .i64 t5), (26, .bool (t5 == 0))] ?_
     refine RegI.d ?_
     rcases of_cond h with ⟨hc26, h⟩ | ⟨hc26, h⟩
     ·skip
      refine RunsI.f 26 true hc26 ?_
      refine RunsI.b true 31 ?_
      refine RunsI.g 1 [.c 32, .c 33, .blk 1, .blk 0, .c 48] ?_
      refine RunsI.r ?_
      refine RegI.p 3 [(7, .int .i64 t7), (30, .bool (t6 == 6))] ?_
      rcases of_cond h with ⟨hc27, h⟩ | ⟨hc27, h⟩
      ·skip
       refine RegI.f 30 true hc27 ?_
       refine RegI.p 4 [(7, .int .i64 t7), (34, .bool (decide (t7 ≥ 4)))] ?_
       rcases of_cond h with ⟨hc28, h⟩ | ⟨hc28, h⟩
       ·skip
        refine RegI.f 34 true hc28 ?_
        refine RegI.p 4 [(4, .bool (decide (t7 ≤ 6)))] ?_
        refine RegI.d ?_
        refine RunsI.t (.bool (decide (t7 ≤ 6))) ?_
        obtain rfl := Option.some.inj h
        exact ⟨rfl, h20.below⟩
       ·skip
        refine RegI.f 34 false hc28 ?_
        refine RegI.p 4 [(4, .bool false)] ?_
        refine RegI.d ?_
        refine RunsI.t (.bool false) ?_
        obtain rfl := Option.some.inj h
        exact ⟨rfl, h20.below⟩
      ·skip
       refine RegI.f 30 false hc27 ?_
       refine RegI.p 8 [(4, .bool false)] ?_
       refine RegI.d ?_
       refine RunsI.t (.bool false) ?_
       obtain rfl := Option.some.inj h
       exact ⟨rfl, h20.below⟩
     ·skip
      refine RunsI.f 26 false hc26 ?_
      refine RunsI.b false 34 ?_
      refine RunsI.g 1 [.c 35, .c 36, .blk 1, .blk 0, .c 48] ?_
      refine RunsI.r ?_
      refine RegI.p 2 [(6, .int .i64 t6), (7, .int .i64 t7), (25, .int .i64 t5), (38, .bool (t5 == 1))] ?_
      refine RegI.d ?_
      rcases of_cond h with ⟨hc29, h⟩ | ⟨hc29, h⟩
      ·skip
       refine RunsI.f 38 true hc29 ?_
       refine RunsI.b true 37 ?_
       refine RunsI.g 1 [.c 38, .c 39, .blk 1, .blk 0, .c 48] ?_
       refine RunsI.r ?_
       refine RegI.p 6 [(4, .bool ((t7 == 6) != (t6 == 6)))] ?_
       refine RegI.d ?_
       refine RunsI.t (.bool ((t7 == 6) != (t6 == 6))) ?_
       obtain rfl := Option.some.inj h
       exact ⟨rfl, h20.below⟩
      ·skip
       refine RunsI.f 38 false hc29 ?_
       refine RunsI.b false 40 ?_
       refine RunsI.g 1 [.c 41, .c 42, .blk 1, .blk 0, .c 48] ?_
       refine RunsI.r ?_
       refine RegI.p 2 [(7, .int .i64 t7), (45, .bool (t5 == 2))] ?_
       refine RegI.d ?_
       rcases of_cond h with ⟨hc30, h⟩ | ⟨hc30, h⟩
       ·skip
        refine RunsI.f 45 true hc30 ?_
        refine RunsI.b true 43 ?_
        refine RunsI.g 1 [.c 44, .c 45, .blk 1, .blk 0, .c 48] ?_
        refine RunsI.r ?_
        refine RegI.p 3 [(4, .bool (t7 == 6))] ?_
        refine RegI.d ?_
        refine RunsI.t (.bool (t7 == 6)) ?_
        obtain rfl := Option.some.inj h
        exact ⟨rfl, h20.below⟩
       ·skip
        refine RunsI.f 45 false hc30 ?_
        refine RunsI.b false 46 ?_
        refine RunsI.g 1 [.blk 1, .blk 0, .c 48] ?_
        refine RunsI.g 1 [.blk 0, .c 48] ?_
        refine RunsI.g 2 [.c 49, .c 50] ?_
        refine RunsI.r ?_
        refine RegI.p 1 [(4, .bool false)] ?_
        refine RegI.d ?_
        refine RunsI.t (.bool false) ?_
        obtain rfl := Option.some.inj h
        exact ⟨rfl, h20.below⟩
    ·skip
     refine RunsI.f 22 false hc25 ?_
     refine RunsI.b false 47 ?_
     refine RunsI.g 1 [.blk 0, .c 48] ?_
     refine RunsI.g 2 [.c 49, .c 50] ?_
     refine RunsI.r ?_
     refine RegI.p 1 [(4, .bool false)] ?_
     refine RegI.d ?_
     refine RunsI.t (.bool false) ?_
     obtain rfl := Option.some.inj h
     exact ⟨rfl, h20.below⟩
   clear hJ23
   rcases of_cond h with ⟨hc18, h⟩ | ⟨hc18, h⟩
   ·skip
    refine RunsI.f 22 true hc18 ?_
    refine RunsI.b true 22 ?_
    refine RunsI.g 1 [.c 24, .blk 0, .c 48] ?_
    refine RunsI.l [5, 6, 7, 22] [(5, .int .i64 t5), (6, .int .i64 t6), (7, .int .i64 t7), (22, .bool true)] ?_
    exact hj24 true w13 h (h12.pick [] (by decide))
   ·skip
    refine RunsI.f 22 false hc18 ?_
    refine RunsI.b false 23 ?_
    refine RunsI.r ?_
    refine RegI.p 2 [(5, .int .i64 t5), (6, .int .i64 t6), (7, .int .i64 t7), (22, .bool (p0 == 4))] ?_
    refine RegI.d ?_
    refine RunsI.l [5, 6, 7, 22] [(5, .int .i64 t5), (6, .int .i64 t6), (7, .int .i64 t7), (22, .bool (p0 == 4))] ?_
    exact hj24 (p0 == 4) w13 h (h12.pick [] (by decide))
 clear hJ15
 rcases of_cond h with ⟨hc10, h⟩ | ⟨hc10, h⟩
 ·skip
  refine RunsI.f 19 true hc10 ?_
  refine RunsI.b true 12 ?_
  refine RunsI.g 1 [.c 14, .blk 0, .c 48] ?_
  refine RunsI.l [5, 6, 7, 18, 19] [(5, .int .i64 t5), (6, .int .i64 t6), (7, .int .i64 t7), (18, .int .i64 p0), (19, .bool true)] ?_
  exact hj16 true w1 h (h3.pick [] (by decide))
 ·skip
  refine RunsI.f 19 false hc10 ?_
  refine RunsI.b false 13 ?_
  refine RunsI.r ?_
  refine RegI.p 2 [(5, .int .i64 t5), (6, .int .i64 t6), (7, .int .i64 t7), (18, .int .i64 p0), (19, .bool (p0 == 6))] ?_
  refine RegI.d ?_
  refine RunsI.l [5, 6, 7, 18, 19] [(5, .int .i64 t5), (6, .int .i64 t6), (7, .int .i64 t7), (18, .int .i64 p0), (19, .bool (p0 == 6))] ?_
  exact hj16 (p0 == 6) w1 h (h3.pick [] (by decide))
end

/-! ### charabanc/charabancref09.reg (function 61) -/
section
def charabancref09_reg_61.post (M0 : Nat → Prop) (w0 : World) (r : ByteArray) : Ending → World → Prop := fun e w => e = .returned (.string r) ∧ Below w0.heap.size w0 w
def charabancref09_reg_61.f (K : Nat) (p0_0 : Int) (p0_1 : Int) (p0_2 : Int) (p0_3 : Int) (p0_4 : Int) (p0_5 : Int) (p1 : Int) : Option ByteArray := (charabancref09_indexed_102.f K p0_0 p0_1 p0_2 p0_3 p0_4 p0_5).bind fun t15 => (charabancref08_Near_103.f K p0_0 p0_1).bind fun t20 => Let (fun (t24 : Bool) => cond t24 ((charabancref09_Index_94.f K p0_0 p0_2).bind fun t35 => some t35) (Let (fun (t39 : Bool) => cond t39 ((charabancref09_name_104.f K p0_0).bind fun t51 => cond (inR p1 ([(⟨#[98]⟩ : ByteArray), (⟨#[99]⟩ : ByteArray), (⟨#[100]⟩ : ByteArray), (⟨#[101]⟩ : ByteArray), (⟨#[104]⟩ : ByteArray), (⟨#[108]⟩ : ByteArray), (⟨#[40, 104, 108, 41]⟩ : ByteArray), (⟨#[97]⟩ : ByteArray)] : List ByteArray).length) (cond (mayCat t51.size (rdD ([(⟨#[98]⟩ : ByteArray), (⟨#[99]⟩ : ByteArray), (⟨#[100]⟩ : ByteArray), (⟨#[101]⟩ : ByteArray), (⟨#[104]⟩ : ByteArray), (⟨#[108]⟩ : ByteArray), (⟨#[40, 104, 108, 41]⟩ : ByteArray), (⟨#[97]⟩ : ByteArray)] : List ByteArray) p1).size) (some (t51 ++ (rdD ([(⟨#[98]⟩ : ByteArray), (⟨#[99]⟩ : ByteArray), (⟨#[100]⟩ : ByteArray), (⟨#[101]⟩ : ByteArray), (⟨#[104]⟩ : ByteArray), (⟨#[108]⟩ : ByteArray), (⟨#[40, 104, 108, 41]⟩ : ByteArray), (⟨#[97]⟩ : ByteArray)] : List ByteArray) p1))) none) none) (cond (inR p1 ([(⟨#[98]⟩ : ByteArray), (⟨#[99]⟩ : ByteArray), (⟨#[100]⟩ : ByteArray), (⟨#[101]⟩ : ByteArray), (⟨#[104]⟩ : ByteArray), (⟨#[108]⟩ : ByteArray), (⟨#[40, 104, 108, 41]⟩ : ByteArray), (⟨#[97]⟩ : ByteArray)] : List ByteArray).length) (some (rdD ([(⟨#[98]⟩ : ByteArray), (⟨#[99]⟩ : ByteArray), (⟨#[100]⟩ : ByteArray), (⟨#[101]⟩ : ByteArray), (⟨#[104]⟩ : ByteArray), (⟨#[108]⟩ : ByteArray), (⟨#[40, 104, 108, 41]⟩ : ByteArray), (⟨#[97]⟩ : ByteArray)] : List ByteArray) p1)) none)) (fun j42 => cond t15 (cond (!t20) (cond (p1 == 4) (j42 true) (j42 (p1 == 5))) (j42 false)) (j42 false)))) (fun j27 => cond t15 (j27 (p1 == 6)) (j27 false))
set_option maxRecDepth 100000 in
theorem charabancref09_reg_61_ok (K : Nat) (M0 : Nat → Prop) (w0 : World) (p0_0 : Int) (p0_1 : Int) (p0_2 : Int) (p0_3 : Int) (p0_4 : Int) (p0_5 : Int) (p1 : Int) (ho : ∀ b, M0 b → b < w0.heap.size) {r : ByteArray} (h : charabancref09_reg_61.f K p0_0 p0_1 p0_2 p0_3 p0_4 p0_5 p1 = some r) :
  Calls Tryd.prog 61 #[.agg #[.int .i64 p0_0, .int .u8 p0_1, .int .u8 p0_2, .int .u16 p0_3, .int .i64 p0_4, .int .i64 p0_5], .int .i64 p1] w0 (charabancref09_reg_61.post M0 w0 r) := by
 unfold charabancref09_reg_61.f at h
 have h0 : Holds M0 w0 w0 [] := Holds.start ho
 have h0 : Holds M0 w0 w0 [] := h0
 refine calls_of F61 rfl [.agg #[.int .i64 p0_0, .int .u8 p0_1, .int .u8 p0_2, .int .u16 p0_3, .int .i64 p0_4, .int .i64 p0_5], .int .i64 p1] (by kernel_rfl) ?_
 refine RunsI.g 1 [.c 1, .c 2] ?_
 refine RunsI.r ?_
 refine RegI.o (OpE.box 2 51 [.int .i64 p0_0, .int .u8 p0_1, .int .u8 p0_2, .int .u16 p0_3, .int .i64 p0_4, .int .i64 p0_5] h0 (by kernel_rfl) (by kernel_rfl) ?_)
 intro w1 b2 h3 hb4 hn5
 refine RegI.p 1 [(1, .int .i64 p1), (2, .pointer (some ⟨b2, 0, none⟩))] ?_
 refine RegI.d ?_
 refine RunsI.g 1 [.c 3, .c 4] ?_
 refine RunsI.r ?_
 refine RegI.o (OpE.lit 8 9 [.string (⟨#[98]⟩ : ByteArray), .string (⟨#[99]⟩ : ByteArray), .string (⟨#[100]⟩ : ByteArray), .string (⟨#[101]⟩ : ByteArray), .string (⟨#[104]⟩ : ByteArray), .string (⟨#[108]⟩ : ByteArray), .string (⟨#[40, 104, 108, 41]⟩ : ByteArray), .string (⟨#[97]⟩ : ByteArray)] 8 h3 (by kernel_rfl) (by kernel_rfl) ?_)
 intro w6 b7 h8 hb9 hn10
 refine RegI.p 1 [(1, .int .i64 p1), (2, .pointer (some ⟨b2, 0, none⟩)), (5, .slice (some ⟨b7, 0, none⟩) (([(⟨#[98]⟩ : ByteArray), (⟨#[99]⟩ : ByteArray), (⟨#[100]⟩ : ByteArray), (⟨#[101]⟩ : ByteArray), (⟨#[104]⟩ : ByteArray), (⟨#[108]⟩ : ByteArray), (⟨#[40, 104, 108, 41]⟩ : ByteArray), (⟨#[97]⟩ : ByteArray)] : List ByteArray).length) 8)] ?_
 refine RegI.d ?_
 refine RunsI.g 1 [.c 5, .c 6] ?_
 refine RunsI.r ?_
 refine RegI.o (OpE.loadBox 9 0 51 b2 0 (.agg #[.int .i64 p0_0, .int .u8 p0_1, .int .u8 p0_2, .int .u16 p0_3, .int .i64 p0_4, .int .i64 p0_5]) h8 (by kernel_rfl) (by kernel_rfl) rfl (by kernel_rfl) ?_)
 obtain ⟨t15, hg14, h⟩ := of_bind h
 refine RegI.o (OpE.call 10 (by kernel_rfl) 102 #[.agg #[.int .i64 p0_0, .int .u8 p0_1, .int .u8 p0_2, .int .u16 p0_3, .int .i64 p0_4, .int .i64 p0_5]] (by kernel_rfl) ((charabancref09_indexed_102_ok K _ w6  p0_0 p0_1 p0_2 p0_3 p0_4 p0_5 h8.old' hg14).mono ?_))
 rintro _ w11 ⟨rfl, hb12⟩
 refine ⟨_, rfl, ?_⟩
 have h13 := h8.call hb12
 refine RegI.p 1 [(1, .int .i64 p1), (2, .pointer (some ⟨b2, 0, none⟩)), (5, .slice (some ⟨b7, 0, none⟩) (([(⟨#[98]⟩ : ByteArray), (⟨#[99]⟩ : ByteArray), (⟨#[100]⟩ : ByteArray), (⟨#[101]⟩ : ByteArray), (⟨#[104]⟩ : ByteArray), (⟨#[108]⟩ : ByteArray), (⟨#[40, 104, 108, 41]⟩ : ByteArray), (⟨#[97]⟩ : ByteArray)] : List ByteArray).length) 8), (6, .bool t15)] ?_
 refine RegI.d ?_
 refine RunsI.g 1 [.c 7, .c 8] ?_
 refine RunsI.r ?_
 refine RegI.p 1 [(1, .int .i64 p1), (2, .pointer (some ⟨b2, 0, none⟩)), (5, .slice (some ⟨b7, 0, none⟩) (([(⟨#[98]⟩ : ByteArray), (⟨#[99]⟩ : ByteArray), (⟨#[100]⟩ : ByteArray), (⟨#[101]⟩ : ByteArray), (⟨#[104]⟩ : ByteArray), (⟨#[108]⟩ : ByteArray), (⟨#[40, 104, 108, 41]⟩ : ByteArray), (⟨#[97]⟩ : ByteArray)] : List ByteArray).length) 8), (6, .bool t15), (11, .pointer (some ⟨b2, 0, none⟩))] ?_
 refine RegI.o (OpE.loadBox 12 0 3 b2 0 (.int .i64 p0_0) h13 (by kernel_rfl) (by kernel_rfl) rfl (by kernel_rfl) ?_)
 refine RegI.p 1 [(1, .int .i64 p1), (2, .pointer (some ⟨b2, 0, none⟩)), (5, .slice (some ⟨b7, 0, none⟩) (([(⟨#[98]⟩ : ByteArray), (⟨#[99]⟩ : ByteArray), (⟨#[100]⟩ : ByteArray), (⟨#[101]⟩ : ByteArray), (⟨#[104]⟩ : ByteArray), (⟨#[108]⟩ : ByteArray), (⟨#[40, 104, 108, 41]⟩ : ByteArray), (⟨#[97]⟩ : ByteArray)] : List ByteArray).length) 8), (6, .bool t15), (12, .int .i64 p0_0), (13, .pointer (some ⟨b2, 1, none⟩))] ?_
 refine RegI.o (OpE.loadBox 14 0 5 b2 1 (.int .u8 p0_1) h13 (by kernel_rfl) (by kernel_rfl) rfl (by kernel_rfl) ?_)
 obtain ⟨t20, hg19, h⟩ := of_bind h
 refine RegI.o (OpE.call 15 (by kernel_rfl) 103 #[.int .i64 p0_0, .int .u8 p0_1] (by kernel_rfl) ((charabancref08_Near_103_ok K _ w11  p0_0 p0_1 h13.old' hg19).mono ?_))
 rintro _ w16 ⟨rfl, hb17⟩
 refine ⟨_, rfl, ?_⟩
 have h18 := h13.call hb17
 refine RegI.p 1 [(1, .int .i64 p1), (2, .pointer (some ⟨b2, 0, none⟩)), (5, .slice (some ⟨b7, 0, none⟩) (([(⟨#[98]⟩ : ByteArray), (⟨#[99]⟩ : ByteArray), (⟨#[100]⟩ : ByteArray), (⟨#[101]⟩ : ByteArray), (⟨#[104]⟩ : ByteArray), (⟨#[108]⟩ : ByteArray), (⟨#[40, 104, 108, 41]⟩ : ByteArray), (⟨#[97]⟩ : ByteArray)] : List ByteArray).length) 8), (6, .bool t15), (7, .bool t20)] ?_
 refine RegI.d ?_
 refine RunsI.g 2 [.c 10, .c 11, .c 16] ?_
 refine RunsI.r ?_
 refine RegI.p 2 [(1, .int .i64 p1), (2, .pointer (some ⟨b2, 0, none⟩)), (5, .slice (some ⟨b7, 0, none⟩) (([(⟨#[98]⟩ : ByteArray), (⟨#[99]⟩ : ByteArray), (⟨#[100]⟩ : ByteArray), (⟨#[101]⟩ : ByteArray), (⟨#[104]⟩ : ByteArray), (⟨#[108]⟩ : ByteArray), (⟨#[40, 104, 108, 41]⟩ : ByteArray), (⟨#[97]⟩ : ByteArray)] : List ByteArray).length) 8), (6, .bool t15), (7, .bool t20), (17, .bool t15)] ?_
 obtain ⟨j27, hJ28, h⟩ := of_let h
 have hj29 : ∀ (t24 : Bool) (w26 : World), j27 t24 = some r → Holds M0 w0 w26 [box b2 51 [.int .i64 p0_0, .int .u8 p0_1, .int .u8 p0_2, .int .u16 p0_3, .int .i64 p0_4, .int .i64 p0_5], own Rp.str 9 (.slice (some ⟨b7, 0, none⟩) (([(⟨#[98]⟩ : ByteArray), (⟨#[99]⟩ : ByteArray), (⟨#[100]⟩ : ByteArray), (⟨#[101]⟩ : ByteArray), (⟨#[104]⟩ : ByteArray), (⟨#[108]⟩ : ByteArray), (⟨#[40, 104, 108, 41]⟩ : ByteArray), (⟨#[97]⟩ : ByteArray)] : List ByteArray).length) 8) ([(⟨#[98]⟩ : ByteArray), (⟨#[99]⟩ : ByteArray), (⟨#[100]⟩ : ByteArray), (⟨#[101]⟩ : ByteArray), (⟨#[104]⟩ : ByteArray), (⟨#[108]⟩ : ByteArray), (⟨#[40, 104, 108, 41]⟩ : ByteArray), (⟨#[97]⟩ : ByteArray)] : List ByteArray)] → RegI F61 10 [.c 11, .c 16] 5 [(1, .int .i64 p1), (2, .pointer (some ⟨b2, 0, none⟩)), (5, .slice (some ⟨b7, 0, none⟩) (([(⟨#[98]⟩ : ByteArray), (⟨#[99]⟩ : ByteArray), (⟨#[100]⟩ : ByteArray), (⟨#[101]⟩ : ByteArray), (⟨#[104]⟩ : ByteArray), (⟨#[108]⟩ : ByteArray), (⟨#[40, 104, 108, 41]⟩ : ByteArray), (⟨#[97]⟩ : ByteArray)] : List ByteArray).length) 8), (6, .bool t15), (7, .bool t20), (20, .bool t24)] w26 (charabancref09_reg_61.post M0 w0 r) := by
  intro t24 w26 h h25
  rw [hJ28] at h
  clear hJ28
  dsimp only at h
  refine RegI.d ?_
  rcases of_cond h with ⟨hc30, h⟩ | ⟨hc30, h⟩
  ·skip
   refine RunsI.f 20 true hc30 ?_
   refine RunsI.b true 12 ?_
   refine RunsI.g 1 [.c 13, .c 14, .c 16] ?_
   refine RunsI.r ?_
   refine RegI.p 1 [(2, .pointer (some ⟨b2, 0, none⟩)), (21, .pointer (some ⟨b2, 0, none⟩))] ?_
   refine RegI.o (OpE.loadBox 22 0 3 b2 0 (.int .i64 p0_0) h25 (by kernel_rfl) (by kernel_rfl) rfl (by kernel_rfl) ?_)
   refine RegI.p 1 [(22, .int .i64 p0_0), (23, .pointer (some ⟨b2, 2, none⟩))] ?_
   refine RegI.o (OpE.loadBox 24 0 5 b2 2 (.int .u8 p0_2) h25 (by kernel_rfl) (by kernel_rfl) rfl (by kernel_rfl) ?_)
   obtain ⟨t35, hg34, h⟩ := of_bind h
   refine RegI.o (OpE.call 25 (by kernel_rfl) 94 #[.int .i64 p0_0, .int .u8 p0_2] (by kernel_rfl) ((charabancref09_Index_94_ok K _ w26  p0_0 p0_2 h25.old' hg34).mono ?_))
   rintro _ w31 ⟨rfl, hb32⟩
   refine ⟨_, rfl, ?_⟩
   have h33 := h25.call hb32
   refine RegI.p 1 [(4, .string t35)] ?_
   refine RegI.d ?_
   refine RunsI.t (.string t35) ?_
   obtain rfl := Option.some.inj h
   exact ⟨rfl, h33.below⟩
  ·skip
   refine RunsI.f 20 false hc30 ?_
   refine RunsI.b false 15 ?_
   refine RunsI.g 1 [.c 16] ?_
   refine RunsI.g 2 [.c 18, .c 19, .c 24] ?_
   refine RunsI.r ?_
   refine RegI.p 2 [(1, .int .i64 p1), (2, .pointer (some ⟨b2, 0, none⟩)), (5, .slice (some ⟨b7, 0, none⟩) (([(⟨#[98]⟩ : ByteArray), (⟨#[99]⟩ : ByteArray), (⟨#[100]⟩ : ByteArray), (⟨#[101]⟩ : ByteArray), (⟨#[104]⟩ : ByteArray), (⟨#[108]⟩ : ByteArray), (⟨#[40, 104, 108, 41]⟩ : ByteArray), (⟨#[97]⟩ : ByteArray)] : List ByteArray).length) 8), (7, .bool t20), (27, .bool t15)] ?_
   obtain ⟨j42, hJ43, h⟩ := of_let h
   have hj44 : ∀ (t39 : Bool) (w41 : World), j42 t39 = some r → Holds M0 w0 w41 [box b2 51 [.int .i64 p0_0, .int .u8 p0_1, .int .u8 p0_2, .int .u16 p0_3, .int .i64 p0_4, .int .i64 p0_5], own Rp.str 9 (.slice (some ⟨b7, 0, none⟩) (([(⟨#[98]⟩ : ByteArray), (⟨#[99]⟩ : ByteArray), (⟨#[100]⟩ : ByteArray), (⟨#[101]⟩ : ByteArray), (⟨#[104]⟩ : ByteArray), (⟨#[108]⟩ : ByteArray), (⟨#[40, 104, 108, 41]⟩ : ByteArray), (⟨#[97]⟩ : ByteArray)] : List ByteArray).length) 8) ([(⟨#[98]⟩ : ByteArray), (⟨#[99]⟩ : ByteArray), (⟨#[100]⟩ : ByteArray), (⟨#[101]⟩ : ByteArray), (⟨#[104]⟩ : ByteArray), (⟨#[108]⟩ : ByteArray), (⟨#[40, 104, 108, 41]⟩ : ByteArray), (⟨#[97]⟩ : ByteArray)] : List ByteArray)] → RegI F61 18 [.c 19, .c 24] 13 [(1, .int .i64 p1), (2, .pointer (some ⟨b2, 0, none⟩)), (5, .slice (some ⟨b7, 0, none⟩) (([(⟨#[98]⟩ : ByteArray), (⟨#[99]⟩ : ByteArray), (⟨#[100]⟩ : ByteArray), (⟨#[101]⟩ : ByteArray), (⟨#[104]⟩ : ByteArray), (⟨#[108]⟩ : ByteArray), (⟨#[40, 104, 108, 41]⟩ : ByteArray), (⟨#[97]⟩ : ByteArray)] : List ByteArray).length) 8), (38, .bool t39)] w41 (charabancref09_reg_61.post M0 w0 r) := by
    intro t39 w41 h h40
    rw [hJ43] at h
    clear hJ43
    dsimp only at h
    refine RegI.d ?_
    rcases of_cond h with ⟨hc45, h⟩ | ⟨hc45, h⟩
    ·skip
     refine RunsI.f 38 true hc45 ?_
     refine RunsI.b true 20 ?_
     refine RunsI.g 1 [.c 21, .c 22, .c 24] ?_
     refine RunsI.any 9 (by kernel_rfl) (by kernel_rfl) (by kernel_rfl) (Kp ([] : List Nat) (World.drew w41)) ?_
     have h47 := h40.drew
     generalize World.drew w41 = w46 at h47 ⊢
     have hS48 := Kp.refl ([] : List Nat) w46
     refine AnyE.pure 0 39 (.pointer (some ⟨b2, 0, none⟩)) (by kernel_rfl) hS48 (fun _ => by kernel_rfl) ?_
     refine AnyE.loadBox 1 40 0 3 b2 0 (.int .i64 p0_0) [] h47 rfl (by kernel_rfl) hS48 rfl rfl (by kernel_rfl) (by kernel_rfl) ?_
     obtain ⟨t51, hg50, h⟩ := of_bind h
     refine AnyE.call 2 41 (.string t51) 104 #[.int .i64 p0_0] (by kernel_rfl) hS48 (fun _ => by kernel_rfl) (fun w hk => charabancref09_name_104_ok K (fun _ => False) w p0_0 (fun _ hf => hf.elim) hg50) ?_
     refine AnyE.pure 3 42 (.slice (some ⟨b7, 0, none⟩) (([(⟨#[98]⟩ : ByteArray), (⟨#[99]⟩ : ByteArray), (⟨#[100]⟩ : ByteArray), (⟨#[101]⟩ : ByteArray), (⟨#[104]⟩ : ByteArray), (⟨#[108]⟩ : ByteArray), (⟨#[40, 104, 108, 41]⟩ : ByteArray), (⟨#[97]⟩ : ByteArray)] : List ByteArray).length) 8) (by kernel_rfl) hS48 (fun _ => by kernel_rfl) ?_
     refine AnyE.pure 4 43 (.int .i64 p1) (by kernel_rfl) hS48 (fun _ => by kernel_rfl) ?_
     obtain ⟨hc52, h⟩ := of_cond0 h
     refine AnyE.idxOwnA 5 44 1 55 9 p1 h47 (by kernel_rfl) hS48 rfl (by kernel_rfl) (by kernel_rfl) hc52 ?_
     refine AnyE.loadOwnA 6 45 1 9 9 p1 0 (.string (rdD ([(⟨#[98]⟩ : ByteArray), (⟨#[99]⟩ : ByteArray), (⟨#[100]⟩ : ByteArray), (⟨#[101]⟩ : ByteArray), (⟨#[104]⟩ : ByteArray), (⟨#[108]⟩ : ByteArray), (⟨#[40, 104, 108, 41]⟩ : ByteArray), (⟨#[97]⟩ : ByteArray)] : List ByteArray) p1)) [] (o := (Int.toNat p1) * 1 + 0) h47 rfl (by kernel_rfl) hS48 rfl rfl (by kernel_rfl) rfl hc52 (fun _ _ hk => by obtain rfl := hk; kernel_rfl) ?_
     obtain ⟨hc53, h⟩ := of_cond0 h
     refine AnyE.run 7 46 (.string (t51 ++ (rdD ([(⟨#[98]⟩ : ByteArray), (⟨#[99]⟩ : ByteArray), (⟨#[100]⟩ : ByteArray), (⟨#[101]⟩ : ByteArray), (⟨#[104]⟩ : ByteArray), (⟨#[108]⟩ : ByteArray), (⟨#[40, 104, 108, 41]⟩ : ByteArray), (⟨#[97]⟩ : ByteArray)] : List ByteArray) p1))) (by kernel_rfl) hS48 (fun _ hk => run_cat (a := t51) (b := (rdD ([(⟨#[98]⟩ : ByteArray), (⟨#[99]⟩ : ByteArray), (⟨#[100]⟩ : ByteArray), (⟨#[101]⟩ : ByteArray), (⟨#[104]⟩ : ByteArray), (⟨#[108]⟩ : ByteArray), (⟨#[40, 104, 108, 41]⟩ : ByteArray), (⟨#[97]⟩ : ByteArray)] : List ByteArray) p1)) (by kernel_rfl) hc53) ?_
     refine AnyE.pure 8 4 (.string (t51 ++ (rdD ([(⟨#[98]⟩ : ByteArray), (⟨#[99]⟩ : ByteArray), (⟨#[100]⟩ : ByteArray), (⟨#[101]⟩ : ByteArray), (⟨#[104]⟩ : ByteArray), (⟨#[108]⟩ : ByteArray), (⟨#[40, 104, 108, 41]⟩ : ByteArray), (⟨#[97]⟩ : ByteArray)] : List ByteArray) p1))) (by kernel_rfl) hS48 (fun _ => by kernel_rfl) ?_
     refine AnyE.done (by kernel_rfl) (fun w54 hu55 => ?_)
     have h56 := h47.call hu55
     refine RunsI.l [4] [(4, .string (t51 ++ (rdD ([(⟨#[98]⟩ : ByteArray), (⟨#[99]⟩ : ByteArray), (⟨#[100]⟩ : ByteArray), (⟨#[101]⟩ : ByteArray), (⟨#[104]⟩ : ByteArray), (⟨#[108]⟩ : ByteArray), (⟨#[40, 104, 108, 41]⟩ : ByteArray), (⟨#[97]⟩ : ByteArray)] : List ByteArray) p1)))] ?_
     refine RunsI.t (.string (t51 ++ (rdD ([(⟨#[98]⟩ : ByteArray), (⟨#[99]⟩ : ByteArray), (⟨#[100]⟩ : ByteArray), (⟨#[101]⟩ : ByteArray), (⟨#[104]⟩ : ByteArray), (⟨#[108]⟩ : ByteArray), (⟨#[40, 104, 108, 41]⟩ : ByteArray), (⟨#[97]⟩ : ByteArray)] : List ByteArray) p1))) ?_
     obtain rfl := Option.some.inj h
     exact ⟨rfl, h56.below⟩
    ·skip
     refine RunsI.f 38 false hc45 ?_
     refine RunsI.b false 23 ?_
     refine RunsI.g 1 [.c 24] ?_
     refine RunsI.g 1 [.c 25, .c 26] ?_
     refine RunsI.r ?_
     refine RegI.p 2 [(47, .slice (some ⟨b7, 0, none⟩) (([(⟨#[98]⟩ : ByteArray), (⟨#[99]⟩ : ByteArray), (⟨#[100]⟩ : ByteArray), (⟨#[101]⟩ : ByteArray), (⟨#[104]⟩ : ByteArray), (⟨#[108]⟩ : ByteArray), (⟨#[40, 104, 108, 41]⟩ : ByteArray), (⟨#[97]⟩ : ByteArray)] : List ByteArray).length) 8), (48, .int .i64 p1)] ?_
     obtain ⟨hc57, h⟩ := of_cond0 h
     refine RegI.o (OpE.idxOwnA 49 1 55 9 p1 h40 (by kernel_rfl) rfl (by kernel_rfl) (by kernel_rfl) hc57 ?_)
     refine RegI.o (OpE.loadOwnA 50 1 9 9 p1 0 (o := (Int.toNat p1) * 1 + 0) h40 (by kernel_rfl) rfl (by kernel_rfl) (by kernel_rfl) hc57 (fun cs58 hk59 => ?_))
     obtain rfl := hk59
     refine ⟨.string (rdD ([(⟨#[98]⟩ : ByteArray), (⟨#[99]⟩ : ByteArray), (⟨#[100]⟩ : ByteArray), (⟨#[101]⟩ : ByteArray), (⟨#[104]⟩ : ByteArray), (⟨#[108]⟩ : ByteArray), (⟨#[40, 104, 108, 41]⟩ : ByteArray), (⟨#[97]⟩ : ByteArray)] : List ByteArray) p1), by kernel_rfl, ?_⟩
     refine RegI.p 1 [(4, .string (rdD ([(⟨#[98]⟩ : ByteArray), (⟨#[99]⟩ : ByteArray), (⟨#[100]⟩ : ByteArray), (⟨#[101]⟩ : ByteArray), (⟨#[104]⟩ : ByteArray), (⟨#[108]⟩ : ByteArray), (⟨#[40, 104, 108, 41]⟩ : ByteArray), (⟨#[97]⟩ : ByteArray)] : List ByteArray) p1))] ?_
     refine RegI.d ?_
     refine RunsI.t (.string (rdD ([(⟨#[98]⟩ : ByteArray), (⟨#[99]⟩ : ByteArray), (⟨#[100]⟩ : ByteArray), (⟨#[101]⟩ : ByteArray), (⟨#[104]⟩ : ByteArray), (⟨#[108]⟩ : ByteArray), (⟨#[40, 104, 108, 41]⟩ : ByteArray), (⟨#[97]⟩ : ByteArray)] : List ByteArray) p1)) ?_
     obtain rfl := Option.some.inj h
     exact ⟨rfl, h40.below⟩
   clear hJ43
   rcases of_cond h with ⟨hc36, h⟩ | ⟨hc36, h⟩
   ·skip
    refine RegI.f 27 true hc36 ?_
    refine RegI.p 4 [(1, .int .i64 p1), (2, .pointer (some ⟨b2, 0, none⟩)), (5, .slice (some ⟨b7, 0, none⟩) (([(⟨#[98]⟩ : ByteArray), (⟨#[99]⟩ : ByteArray), (⟨#[100]⟩ : ByteArray), (⟨#[101]⟩ : ByteArray), (⟨#[104]⟩ : ByteArray), (⟨#[108]⟩ : ByteArray), (⟨#[40, 104, 108, 41]⟩ : ByteArray), (⟨#[97]⟩ : ByteArray)] : List ByteArray).length) 8), (31, .bool (!t20))] ?_
    rcases of_cond h with ⟨hc37, h⟩ | ⟨hc37, h⟩
    ·skip
     refine RegI.f 31 true hc37 ?_
     refine RegI.p 3 [(1, .int .i64 p1), (2, .pointer (some ⟨b2, 0, none⟩)), (5, .slice (some ⟨b7, 0, none⟩) (([(⟨#[98]⟩ : ByteArray), (⟨#[99]⟩ : ByteArray), (⟨#[100]⟩ : ByteArray), (⟨#[101]⟩ : ByteArray), (⟨#[104]⟩ : ByteArray), (⟨#[108]⟩ : ByteArray), (⟨#[40, 104, 108, 41]⟩ : ByteArray), (⟨#[97]⟩ : ByteArray)] : List ByteArray).length) 8), (31, .bool true), (34, .bool (p1 == 4))] ?_
     rcases of_cond h with ⟨hc38, h⟩ | ⟨hc38, h⟩
     ·skip
      refine RegI.f 34 true hc38 ?_
      refine RegI.p 4 [(1, .int .i64 p1), (2, .pointer (some ⟨b2, 0, none⟩)), (5, .slice (some ⟨b7, 0, none⟩) (([(⟨#[98]⟩ : ByteArray), (⟨#[99]⟩ : ByteArray), (⟨#[100]⟩ : ByteArray), (⟨#[101]⟩ : ByteArray), (⟨#[104]⟩ : ByteArray), (⟨#[108]⟩ : ByteArray), (⟨#[40, 104, 108, 41]⟩ : ByteArray), (⟨#[97]⟩ : ByteArray)] : List ByteArray).length) 8), (38, .bool true)] ?_
      refine RegI.l [1, 2, 5, 38] [(1, .int .i64 p1), (2, .pointer (some ⟨b2, 0, none⟩)), (5, .slice (some ⟨b7, 0, none⟩) (([(⟨#[98]⟩ : ByteArray), (⟨#[99]⟩ : ByteArray), (⟨#[100]⟩ : ByteArray), (⟨#[101]⟩ : ByteArray), (⟨#[104]⟩ : ByteArray), (⟨#[108]⟩ : ByteArray), (⟨#[40, 104, 108, 41]⟩ : ByteArray), (⟨#[97]⟩ : ByteArray)] : List ByteArray).length) 8), (38, .bool true)] ?_
      exact hj44 true w26 h (h25.pick [0, 1] (by decide))
     ·skip
      refine RegI.f 34 false hc38 ?_
      refine RegI.p 4 [(1, .int .i64 p1), (2, .pointer (some ⟨b2, 0, none⟩)), (5, .slice (some ⟨b7, 0, none⟩) (([(⟨#[98]⟩ : ByteArray), (⟨#[99]⟩ : ByteArray), (⟨#[100]⟩ : ByteArray), (⟨#[101]⟩ : ByteArray), (⟨#[104]⟩ : ByteArray), (⟨#[108]⟩ : ByteArray), (⟨#[40, 104, 108, 41]⟩ : ByteArray), (⟨#[97]⟩ : ByteArray)] : List ByteArray).length) 8), (38, .bool (p1 == 5))] ?_
      refine RegI.l [1, 2, 5, 38] [(1, .int .i64 p1), (2, .pointer (some ⟨b2, 0, none⟩)), (5, .slice (some ⟨b7, 0, none⟩) (([(⟨#[98]⟩ : ByteArray), (⟨#[99]⟩ : ByteArray), (⟨#[100]⟩ : ByteArray), (⟨#[101]⟩ : ByteArray), (⟨#[104]⟩ : ByteArray), (⟨#[108]⟩ : ByteArray), (⟨#[40, 104, 108, 41]⟩ : ByteArray), (⟨#[97]⟩ : ByteArray)] : List ByteArray).length) 8), (38, .bool (p1 == 5))] ?_
      exact hj44 (p1 == 5) w26 h (h25.pick [0, 1] (by decide))
    ·skip
     refine RegI.f 31 false hc37 ?_
     refine RegI.p 7 [(1, .int .i64 p1), (2, .pointer (some ⟨b2, 0, none⟩)), (5, .slice (some ⟨b7, 0, none⟩) (([(⟨#[98]⟩ : ByteArray), (⟨#[99]⟩ : ByteArray), (⟨#[100]⟩ : ByteArray), (⟨#[101]⟩ : ByteArray), (⟨#[104]⟩ : ByteArray), (⟨#[108]⟩ : ByteArray), (⟨#[40, 104, 108, 41]⟩ : ByteArray), (⟨#[97]⟩ : ByteArray)] : List ByteArray).length) 8), (38, .bool false)] ?_
     refine RegI.l [1, 2, 5, 38] [(1, .int .i64 p1), (2, .pointer (some ⟨b2, 0, none⟩)), (5, .slice (some ⟨b7, 0, none⟩) (([(⟨#[98]⟩ : ByteArray), (⟨#[99]⟩ : ByteArray), (⟨#[100]⟩ : ByteArray), (⟨#[101]⟩ : ByteArray), (⟨#[104]⟩ : ByteArray), (⟨#[108]⟩ : ByteArray), (⟨#[40, 104, 108, 41]⟩ : ByteArray), (⟨#[97]⟩ : ByteArray)] : List ByteArray).length) 8), (38, .bool false)] ?_
     exact hj44 false w26 h (h25.pick [0, 1] (by decide))
   ·skip
    refine RegI.f 27 false hc36 ?_
    refine RegI.p 11 [(1, .int .i64 p1), (2, .pointer (some ⟨b2, 0, none⟩)), (5, .slice (some ⟨b7, 0, none⟩) (([(⟨#[98]⟩ : ByteArray), (⟨#[99]⟩ : ByteArray), (⟨#[100]⟩ : ByteArray), (⟨#[101]⟩ : ByteArray), (⟨#[104]⟩ : ByteArray), (⟨#[108]⟩ : ByteArray), (⟨#[40, 104, 108, 41]⟩ : ByteArray), (⟨#[97]⟩ : ByteArray)] : List ByteArray).length) 8), (38, .bool false)] ?_
    refine RegI.l [1, 2, 5, 38] [(1, .int .i64 p1), (2, .pointer (some ⟨b2, 0, none⟩)), (5, .slice (some ⟨b7, 0, none⟩) (([(⟨#[98]⟩ : ByteArray), (⟨#[99]⟩ : ByteArray), (⟨#[100]⟩ : ByteArray), (⟨#[101]⟩ : ByteArray), (⟨#[104]⟩ : ByteArray), (⟨#[108]⟩ : ByteArray), (⟨#[40, 104, 108, 41]⟩ : ByteArray), (⟨#[97]⟩ : ByteArray)] : List ByteArray).length) 8), (38, .bool false)] ?_
    exact hj44 false w26 h (h25.pick [0, 1] (by decide))
 clear hJ28
 rcases of_cond h with ⟨hc21, h⟩ | ⟨hc21, h⟩
 ·skip
  refine RegI.f 17 true hc21 ?_
  refine RegI.p 3 [(1, .int .i64 p1), (2, .pointer (some ⟨b2, 0, none⟩)), (5, .slice (some ⟨b7, 0, none⟩) (([(⟨#[98]⟩ : ByteArray), (⟨#[99]⟩ : ByteArray), (⟨#[100]⟩ : ByteArray), (⟨#[101]⟩ : ByteArray), (⟨#[104]⟩ : ByteArray), (⟨#[108]⟩ : ByteArray), (⟨#[40, 104, 108, 41]⟩ : ByteArray), (⟨#[97]⟩ : ByteArray)] : List ByteArray).length) 8), (6, .bool t15), (7, .bool t20), (20, .bool (p1 == 6))] ?_
  have h22 := h18.boxOwn 1 rfl Rp.str ([(⟨#[98]⟩ : ByteArray), (⟨#[99]⟩ : ByteArray), (⟨#[100]⟩ : ByteArray), (⟨#[101]⟩ : ByteArray), (⟨#[104]⟩ : ByteArray), (⟨#[108]⟩ : ByteArray), (⟨#[40, 104, 108, 41]⟩ : ByteArray), (⟨#[97]⟩ : ByteArray)] : List ByteArray) (cells_str _ _ _) (Nat.le_of_ble_eq_true (by kernel_rfl))
  refine RegI.l [1, 2, 5, 6, 7, 20] [(1, .int .i64 p1), (2, .pointer (some ⟨b2, 0, none⟩)), (5, .slice (some ⟨b7, 0, none⟩) (([(⟨#[98]⟩ : ByteArray), (⟨#[99]⟩ : ByteArray), (⟨#[100]⟩ : ByteArray), (⟨#[101]⟩ : ByteArray), (⟨#[104]⟩ : ByteArray), (⟨#[108]⟩ : ByteArray), (⟨#[40, 104, 108, 41]⟩ : ByteArray), (⟨#[97]⟩ : ByteArray)] : List ByteArray).length) 8), (6, .bool t15), (7, .bool t20), (20, .bool (p1 == 6))] ?_
  exact hj29 (p1 == 6) w16 h (h22.pick [0, 1] (by decide))
 ·skip
  refine RegI.f 17 false hc21 ?_
  refine RegI.p 3 [(1, .int .i64 p1), (2, .pointer (some ⟨b2, 0, none⟩)), (5, .slice (some ⟨b7, 0, none⟩) (([(⟨#[98]⟩ : ByteArray), (⟨#[99]⟩ : ByteArray), (⟨#[100]⟩ : ByteArray), (⟨#[101]⟩ : ByteArray), (⟨#[104]⟩ : ByteArray), (⟨#[108]⟩ : ByteArray), (⟨#[40, 104, 108, 41]⟩ : ByteArray), (⟨#[97]⟩ : ByteArray)] : List ByteArray).length) 8), (6, .bool t15), (7, .bool t20), (20, .bool false)] ?_
  have h23 := h18.boxOwn 1 rfl Rp.str ([(⟨#[98]⟩ : ByteArray), (⟨#[99]⟩ : ByteArray), (⟨#[100]⟩ : ByteArray), (⟨#[101]⟩ : ByteArray), (⟨#[104]⟩ : ByteArray), (⟨#[108]⟩ : ByteArray), (⟨#[40, 104, 108, 41]⟩ : ByteArray), (⟨#[97]⟩ : ByteArray)] : List ByteArray) (cells_str _ _ _) (Nat.le_of_ble_eq_true (by kernel_rfl))
  refine RegI.l [1, 2, 5, 6, 7, 20] [(1, .int .i64 p1), (2, .pointer (some ⟨b2, 0, none⟩)), (5, .slice (some ⟨b7, 0, none⟩) (([(⟨#[98]⟩ : ByteArray), (⟨#[99]⟩ : ByteArray), (⟨#[100]⟩ : ByteArray), (⟨#[101]⟩ : ByteArray), (⟨#[104]⟩ : ByteArray), (⟨#[108]⟩ : ByteArray), (⟨#[40, 104, 108, 41]⟩ : ByteArray), (⟨#[97]⟩ : ByteArray)] : List ByteArray).length) 8), (6, .bool t15), (7, .bool t20), (20, .bool false)] ?_
  exact hj29 false w16 h (h23.pick [0, 1] (by decide))
end

/-! ### charabanc/charabancref09.shifts (function 95) -/
section
def charabancref09_shifts_95.post (M0 : Nat → Prop) (w0 : World) (r : (List ByteArray)) : Ending → World → Prop := fun e w => ∃ (A1 : Option Addr) (c1 : Nat), e = .returned (.slice A1 r.length c1) ∧ Holds M0 w0 w [own Rp.str 9 (.slice A1 r.length c1) r]
def charabancref09_shifts_95.f (K : Nat) : Option (List ByteArray) := some ([(⟨#[114, 108, 99]⟩ : ByteArray), (⟨#[114, 114, 99]⟩ : ByteArray), (⟨#[114, 108]⟩ : ByteArray), (⟨#[114, 114]⟩ : ByteArray), (⟨#[115, 108, 97]⟩ : ByteArray), (⟨#[115, 114, 97]⟩ : ByteArray), (⟨#[115, 108, 108]⟩ : ByteArray), (⟨#[115, 114, 108]⟩ : ByteArray)] : List ByteArray)
set_option maxRecDepth 100000 in
theorem charabancref09_shifts_95_ok (K : Nat) (M0 : Nat → Prop) (w0 : World) (ho : ∀ b, M0 b → b < w0.heap.size) {r : (List ByteArray)} (h : charabancref09_shifts_95.f K = some r) :
  Calls Tryd.prog 95 #[] w0 (charabancref09_shifts_95.post M0 w0 r) := by
 unfold charabancref09_shifts_95.f at h
 have h0 : Holds M0 w0 w0 [] := Holds.start ho
 have h0 : Holds M0 w0 w0 [] := h0
 refine calls_of F95 rfl [] (by kernel_rfl) ?_
 refine RunsI.g 1 [.c 1, .c 2] ?_
 refine RunsI.r ?_
 refine RegI.p 1 [] ?_
 refine RegI.d ?_
 refine RunsI.g 1 [.c 3, .c 4] ?_
 refine RunsI.r ?_
 refine RegI.o (OpE.lit 1 9 [.string (⟨#[114, 108, 99]⟩ : ByteArray), .string (⟨#[114, 114, 99]⟩ : ByteArray), .string (⟨#[114, 108]⟩ : ByteArray), .string (⟨#[114, 114]⟩ : ByteArray), .string (⟨#[115, 108, 97]⟩ : ByteArray), .string (⟨#[115, 114, 97]⟩ : ByteArray), .string (⟨#[115, 108, 108]⟩ : ByteArray), .string (⟨#[115, 114, 108]⟩ : ByteArray)] 8 h0 (by kernel_rfl) (by kernel_rfl) ?_)
 intro w1 b2 h3 hb4 hn5
 refine RegI.p 1 [(0, .slice (some ⟨b2, 0, none⟩) (([(⟨#[114, 108, 99]⟩ : ByteArray), (⟨#[114, 114, 99]⟩ : ByteArray), (⟨#[114, 108]⟩ : ByteArray), (⟨#[114, 114]⟩ : ByteArray), (⟨#[115, 108, 97]⟩ : ByteArray), (⟨#[115, 114, 97]⟩ : ByteArray), (⟨#[115, 108, 108]⟩ : ByteArray), (⟨#[115, 114, 108]⟩ : ByteArray)] : List ByteArray).length) 8)] ?_
 refine RegI.d ?_
 refine RunsI.t (.slice (some ⟨b2, 0, none⟩) (([(⟨#[114, 108, 99]⟩ : ByteArray), (⟨#[114, 114, 99]⟩ : ByteArray), (⟨#[114, 108]⟩ : ByteArray), (⟨#[114, 114]⟩ : ByteArray), (⟨#[115, 108, 97]⟩ : ByteArray), (⟨#[115, 114, 97]⟩ : ByteArray), (⟨#[115, 108, 108]⟩ : ByteArray), (⟨#[115, 114, 108]⟩ : ByteArray)] : List ByteArray).length) 8) ?_
 have h6 := h3.boxOwn 0 rfl Rp.str ([(⟨#[114, 108, 99]⟩ : ByteArray), (⟨#[114, 114, 99]⟩ : ByteArray), (⟨#[114, 108]⟩ : ByteArray), (⟨#[114, 114]⟩ : ByteArray), (⟨#[115, 108, 97]⟩ : ByteArray), (⟨#[115, 114, 97]⟩ : ByteArray), (⟨#[115, 108, 108]⟩ : ByteArray), (⟨#[115, 114, 108]⟩ : ByteArray)] : List ByteArray) (cells_str _ _ _) (Nat.le_of_ble_eq_true (by kernel_rfl))
 obtain rfl := Option.some.inj h
 exact ⟨(some ⟨b2, 0, none⟩), 8, rfl, h6.pick [0] (by decide)⟩
end

/-! ### charabanc/charabancref09.bits (function 58) -/
section
def charabancref09_bits_58.post (M0 : Nat → Prop) (w0 : World) (r : ByteArray) : Ending → World → Prop := fun e w => e = .returned (.string r) ∧ Below w0.heap.size w0 w
def charabancref09_bits_58.f (K : Nat) (p0_0 : Int) (p0_1 : Int) (p0_2 : Int) (p0_3 : Int) (p0_4 : Int) (p0_5 : Int) (p1 : Int) (p2 : Int) (p3 : Int) : Option ByteArray := (charabancref09_reg_61.f K 0 0 0 0 0 0 p3).bind fun t10 => Let (fun (t32 : ByteArray) => cond (p1 == 0) ((charabancref09_shifts_95.f K).bind fun t43 => cond (inR p2 t43.length) (cond (mayCat (rdD t43 p2).size (⟨#[32]⟩ : ByteArray).size) (cond (mayCat ((rdD t43 p2) ++ (⟨#[32]⟩ : ByteArray)).size t32.size) (some (((rdD t43 p2) ++ (⟨#[32]⟩ : ByteArray)) ++ t32)) none) none) none) ((charabancref09_digits_96.f K p2 10 1).bind fun t58 => cond (inR p1 ([(⟨#[]⟩ : ByteArray), (⟨#[98, 105, 116, 32]⟩ : ByteArray), (⟨#[114, 101, 115, 32]⟩ : ByteArray), (⟨#[115, 101, 116, 32]⟩ : ByteArray)] : List ByteArray).length) (cond (mayCat (rdD ([(⟨#[]⟩ : ByteArray), (⟨#[98, 105, 116, 32]⟩ : ByteArray), (⟨#[114, 101, 115, 32]⟩ : ByteArray), (⟨#[115, 101, 116, 32]⟩ : ByteArray)] : List ByteArray) p1).size t58.size) (cond (mayCat ((rdD ([(⟨#[]⟩ : ByteArray), (⟨#[98, 105, 116, 32]⟩ : ByteArray), (⟨#[114, 101, 115, 32]⟩ : ByteArray), (⟨#[115, 101, 116, 32]⟩ : ByteArray)] : List ByteArray) p1) ++ t58).size (⟨#[44]⟩ : ByteArray).size) (cond (mayCat (((rdD ([(⟨#[]⟩ : ByteArray), (⟨#[98, 105, 116, 32]⟩ : ByteArray), (⟨#[114, 101, 115, 32]⟩ : ByteArray), (⟨#[115, 101, 116, 32]⟩ : ByteArray)] : List ByteArray) p1) ++ t58) ++ (⟨#[44]⟩ : ByteArray)).size t32.size) (some ((((rdD ([(⟨#[]⟩ : ByteArray), (⟨#[98, 105, 116, 32]⟩ : ByteArray), (⟨#[114, 101, 115, 32]⟩ : ByteArray), (⟨#[115, 101, 116, 32]⟩ : ByteArray)] : List ByteArray) p1) ++ t58) ++ (⟨#[44]⟩ : ByteArray)) ++ t32)) none) none) none) none)) (fun j35 => cond (p0_0 != 1) ((charabancref09_Index_94.f K p0_0 p0_2).bind fun t16 => Let (fun (t18 : Bool) => cond t18 (cond (mayCat t16.size (⟨#[44]⟩ : ByteArray).size) ((charabancref09_reg_61.f K 0 0 0 0 0 0 p3).bind fun t30 => cond (mayCat (t16 ++ (⟨#[44]⟩ : ByteArray)).size t30.size) (j35 ((t16 ++ (⟨#[44]⟩ : ByteArray)) ++ t30)) none) none) (j35 t16)) (fun j21 => cond (p1 != 1) (j21 (p3 != 6)) (j21 false))) (j35 t10))
set_option maxRecDepth 100000 in
theorem charabancref09_bits_58_ok (K : Nat) (M0 : Nat → Prop) (w0 : World) (p0_0 : Int) (p0_1 : Int) (p0_2 : Int) (p0_3 : Int) (p0_4 : Int) (p0_5 : Int) (p1 : Int) (p2 : Int) (p3 : Int) (ho : ∀ b, M0 b → b < w0.heap.size) {r : ByteArray} (h : charabancref09_bits_58.f K p0_0 p0_1 p0_2 p0_3 p0_4 p0_5 p1 p2 p3 = some r) :
  Calls Tryd.prog 58 #[.agg #[.int .i64 p0_0, .int .u8 p0_1, .int .u8 p0_2, .int .u16 p0_3, .int .i64 p0_4, .int .i64 p0_5], .int .i64 p1, .int .i64 p2, .int .i64 p3] w0 (charabancref09_bits_58.post M0 w0 r) := by
 unfold charabancref09_bits_58.f at h
 have h0 : Holds M0 w0 w0 [] := Holds.start ho
 have h0 : Holds M0 w0 w0 [] := h0
 refine calls_of F58 rfl [.agg #[.int .i64 p0_0, .int .u8 p0_1, .int .u8 p0_2, .int .u16 p0_3, .int .i64 p0_4, .int .i64 p0_5], .int .i64 p1, .int .i64 p2, .int .i64 p3] (by kernel_rfl) ?_
 refine RunsI.g 1 [.c 1, .c 2] ?_
 refine RunsI.r ?_
 refine RegI.o (OpE.box 4 51 [.int .i64 p0_0, .int .u8 p0_1, .int .u8 p0_2, .int .u16 p0_3, .int .i64 p0_4, .int .i64 p0_5] h0 (by kernel_rfl) (by kernel_rfl) ?_)
 intro w1 b2 h3 hb4 hn5
 refine RegI.p 1 [(1, .int .i64 p1), (2, .int .i64 p2), (3, .int .i64 p3), (4, .pointer (some ⟨b2, 0, none⟩))] ?_
 refine RegI.d ?_
 refine RunsI.g 1 [.c 3, .c 4] ?_
 refine RunsI.r ?_
 refine RegI.p 2 [(1, .int .i64 p1), (2, .int .i64 p2), (3, .int .i64 p3), (4, .pointer (some ⟨b2, 0, none⟩)), (10, .agg #[.int .i64 0, .int .u8 0, .int .u8 0, .int .u16 0, .int .i64 0, .int .i64 0]), (11, .int .i64 p3)] ?_
 obtain ⟨t10, hg9, h⟩ := of_bind h
 refine RegI.o (OpE.call 12 (by kernel_rfl) 61 #[.agg #[.int .i64 0, .int .u8 0, .int .u8 0, .int .u16 0, .int .i64 0, .int .i64 0], .int .i64 p3] (by kernel_rfl) ((charabancref09_reg_61_ok K _ w1  0 0 0 0 0 0 p3 h3.old' hg9).mono ?_))
 rintro _ w6 ⟨rfl, hb7⟩
 refine ⟨_, rfl, ?_⟩
 have h8 := h3.call hb7
 refine RegI.p 1 [(1, .int .i64 p1), (2, .int .i64 p2), (3, .int .i64 p3), (4, .pointer (some ⟨b2, 0, none⟩)), (9, .string t10)] ?_
 refine RegI.d ?_
 refine RunsI.g 2 [.c 6, .c 7, .c 16] ?_
 refine RunsI.r ?_
 refine RegI.p 1 [(1, .int .i64 p1), (2, .int .i64 p2), (3, .int .i64 p3), (4, .pointer (some ⟨b2, 0, none⟩)), (9, .string t10), (13, .pointer (some ⟨b2, 0, none⟩))] ?_
 refine RegI.o (OpE.loadBox 14 0 3 b2 0 (.int .i64 p0_0) h8 (by kernel_rfl) (by kernel_rfl) rfl (by kernel_rfl) ?_)
 refine RegI.p 1 [(1, .int .i64 p1), (2, .int .i64 p2), (3, .int .i64 p3), (4, .pointer (some ⟨b2, 0, none⟩)), (9, .string t10), (15, .bool (p0_0 != 1))] ?_
 refine RegI.d ?_
 obtain ⟨j35, hJ36, h⟩ := of_let h
 have hj37 : ∀ (t32 : ByteArray) (w34 : World), j35 t32 = some r → Holds M0 w0 w34 [] → RunsI F58 [.c 16] [(1, .int .i64 p1), (2, .int .i64 p2), (9, .string t32)] w34 (charabancref09_bits_58.post M0 w0 r) := by
  intro t32 w34 h h33
  rw [hJ36] at h
  clear hJ36
  dsimp only at h
  refine RunsI.g 2 [.c 18, .c 19, .c 24] ?_
  refine RunsI.r ?_
  refine RegI.p 2 [(1, .int .i64 p1), (2, .int .i64 p2), (9, .string t32), (34, .bool (p1 == 0))] ?_
  refine RegI.d ?_
  rcases of_cond h with ⟨hc38, h⟩ | ⟨hc38, h⟩
  ·skip
   refine RunsI.f 34 true hc38 ?_
   refine RunsI.b true 20 ?_
   refine RunsI.g 1 [.c 21, .c 22, .c 24] ?_
   refine RunsI.r ?_
   obtain ⟨t43, hg42, h⟩ := of_bind h
   refine RegI.o (OpE.call 35 (by kernel_rfl) 95 #[] (by kernel_rfl) ((charabancref09_shifts_95_ok K _ w34  h33.old' hg42).mono ?_))
   rintro _ w39 ⟨A44, c45, rfl, hr47⟩
   refine ⟨_, rfl, ?_⟩
   have hb40 := hr47.below
   have h41 := h33.join hr47
   refine RegI.p 1 [(9, .string t32), (35, .slice A44 t43.length c45), (36, .int .i64 p2)] ?_
   obtain ⟨hc48, h⟩ := of_cond0 h
   refine RegI.o (OpE.idxOwnA 37 0 55 9 p2 h41 (by kernel_rfl) rfl (by kernel_rfl) (by kernel_rfl) hc48 ?_)
   refine RegI.o (OpE.loadOwnA 38 0 9 9 p2 0 (o := (Int.toNat p2) * 1 + 0) h41 (by kernel_rfl) rfl (by kernel_rfl) (by kernel_rfl) hc48 (fun cs49 hk50 => ?_))
   obtain rfl := hk50
   refine ⟨.string (rdD t43 p2), by kernel_rfl, ?_⟩
   obtain ⟨hc51, h⟩ := of_cond0 h
   refine RegI.o (OpE.run 39 (by kernel_rfl) (run_cat (a := (rdD t43 p2)) (b := (⟨#[32]⟩ : ByteArray)) (by kernel_rfl) hc51) ?_)
   refine RegI.p 1 [(39, .string ((rdD t43 p2) ++ (⟨#[32]⟩ : ByteArray))), (40, .string t32)] ?_
   obtain ⟨hc52, h⟩ := of_cond0 h
   refine RegI.o (OpE.run 41 (by kernel_rfl) (run_cat (a := ((rdD t43 p2) ++ (⟨#[32]⟩ : ByteArray))) (b := t32) (by kernel_rfl) hc52) ?_)
   refine RegI.p 1 [(8, .string (((rdD t43 p2) ++ (⟨#[32]⟩ : ByteArray)) ++ t32))] ?_
   refine RegI.d ?_
   refine RunsI.t (.string (((rdD t43 p2) ++ (⟨#[32]⟩ : ByteArray)) ++ t32)) ?_
   obtain rfl := Option.some.inj h
   exact ⟨rfl, h41.below⟩
  ·skip
   refine RunsI.f 34 false hc38 ?_
   refine RunsI.b false 23 ?_
   refine RunsI.g 1 [.c 24] ?_
   refine RunsI.g 1 [.c 25, .c 26] ?_
   refine RunsI.any 11 (by kernel_rfl) (by kernel_rfl) (by kernel_rfl) (Kp ([] : List Nat) (World.drew w34)) ?_
   have h54 := h33.drew
   generalize World.drew w34 = w53 at h54 ⊢
   have hS55 := Kp.refl ([] : List Nat) w53
   refine AnyE.pure 1 43 (.int .i64 p1) (by kernel_rfl) hS55 (fun _ => by kernel_rfl) ?_
   refine AnyE.pure 4 46 (.int .i64 p2) (by kernel_rfl) hS55 (fun _ => by kernel_rfl) ?_
   obtain ⟨t58, hg57, h⟩ := of_bind h
   refine AnyE.call 5 47 (.string t58) 96 #[.int .i64 p2, .int .i64 10, .int .i64 1] (by kernel_rfl) hS55 (fun _ => by kernel_rfl) (fun w hk => charabancref09_digits_96_ok K (fun _ => False) w p2 10 1 (fun _ hf => hf.elim) hg57) ?_
   refine AnyE.pure 8 50 (.string t32) (by kernel_rfl) hS55 (fun _ => by kernel_rfl) ?_
   refine AnyE.one 0 (by kernel_rfl) (fun w59 hu60 => ?_)
   have h61 := h54.call hu60
   have hS62 := hS55.up hu60
   refine OpE.lit 42 9 [.string (⟨#[]⟩ : ByteArray), .string (⟨#[98, 105, 116, 32]⟩ : ByteArray), .string (⟨#[114, 101, 115, 32]⟩ : ByteArray), .string (⟨#[115, 101, 116, 32]⟩ : ByteArray)] 4 h61 (by kernel_rfl) (by kernel_rfl) ?_
   intro w63 b64 h65 hb66 hn67
   have hn68 := Nat.le_trans hS62.1 hn67
   have hS69 := hS62.up hb66
   refine ⟨hS69, ?_⟩
   refine AnyE.one 2 (by kernel_rfl) (fun w70 hu71 => ?_)
   have h72 := h65.call hu71
   have hS73 := hS69.up hu71
   obtain ⟨hc74, h⟩ := of_cond0 h
   have h75 := h72.boxOwn 0 rfl Rp.str ([(⟨#[]⟩ : ByteArray), (⟨#[98, 105, 116, 32]⟩ : ByteArray), (⟨#[114, 101, 115, 32]⟩ : ByteArray), (⟨#[115, 101, 116, 32]⟩ : ByteArray)] : List ByteArray) (cells_str _ _ _) (Nat.le_of_ble_eq_true (by kernel_rfl))
   refine OpE.idxOwnA 44 0 55 9 p1 h75 (by kernel_rfl) rfl (by kernel_rfl) (by kernel_rfl) hc74 ?_
   refine ⟨hS73, ?_⟩
   refine AnyE.one 3 (by kernel_rfl) (fun w77 hu78 => ?_)
   have h79 := h75.call hu78
   have hS80 := hS73.up hu78
   refine OpE.loadOwnA 45 0 9 9 p1 0 (o := (Int.toNat p1) * 1 + 0) h79 (by kernel_rfl) rfl (by kernel_rfl) (by kernel_rfl) hc74 (fun cs81 hk82 => ?_)
   obtain rfl := hk82
   refine ⟨.string (rdD ([(⟨#[]⟩ : ByteArray), (⟨#[98, 105, 116, 32]⟩ : ByteArray), (⟨#[114, 101, 115, 32]⟩ : ByteArray), (⟨#[115, 101, 116, 32]⟩ : ByteArray)] : List ByteArray) p1), by kernel_rfl, ?_⟩
   refine ⟨hS80, ?_⟩
   obtain ⟨hc84, h⟩ := of_cond0 h
   refine AnyE.run 6 48 (.string ((rdD ([(⟨#[]⟩ : ByteArray), (⟨#[98, 105, 116, 32]⟩ : ByteArray), (⟨#[114, 101, 115, 32]⟩ : ByteArray), (⟨#[115, 101, 116, 32]⟩ : ByteArray)] : List ByteArray) p1) ++ t58)) (by kernel_rfl) hS80 (fun _ hk => run_cat (a := (rdD ([(⟨#[]⟩ : ByteArray), (⟨#[98, 105, 116, 32]⟩ : ByteArray), (⟨#[114, 101, 115, 32]⟩ : ByteArray), (⟨#[115, 101, 116, 32]⟩ : ByteArray)] : List ByteArray) p1)) (b := t58) (by kernel_rfl) hc84) ?_
   obtain ⟨hc85, h⟩ := of_cond0 h
   refine AnyE.run 7 49 (.string (((rdD ([(⟨#[]⟩ : ByteArray), (⟨#[98, 105, 116, 32]⟩ : ByteArray), (⟨#[114, 101, 115, 32]⟩ : ByteArray), (⟨#[115, 101, 116, 32]⟩ : ByteArray)] : List ByteArray) p1) ++ t58) ++ (⟨#[44]⟩ : ByteArray))) (by kernel_rfl) hS80 (fun _ hk => run_cat (a := ((rdD ([(⟨#[]⟩ : ByteArray), (⟨#[98, 105, 116, 32]⟩ : ByteArray), (⟨#[114, 101, 115, 32]⟩ : ByteArray), (⟨#[115, 101, 116, 32]⟩ : ByteArray)] : List ByteArray) p1) ++ t58)) (b := (⟨#[44]⟩ : ByteArray)) (by kernel_rfl) hc85) ?_
   obtain ⟨hc86, h⟩ := of_cond0 h
   refine AnyE.run 9 51 (.string ((((rdD ([(⟨#[]⟩ : ByteArray), (⟨#[98, 105, 116, 32]⟩ : ByteArray), (⟨#[114, 101, 115, 32]⟩ : ByteArray), (⟨#[115, 101, 116, 32]⟩ : ByteArray)] : List ByteArray) p1) ++ t58) ++ (⟨#[44]⟩ : ByteArray)) ++ t32)) (by kernel_rfl) hS80 (fun _ hk => run_cat (a := (((rdD ([(⟨#[]⟩ : ByteArray), (⟨#[98, 105, 116, 32]⟩ : ByteArray), (⟨#[114, 101, 115, 32]⟩ : ByteArray), (⟨#[115, 101, 116, 32]⟩ : ByteArray)] : List ByteArray) p1) ++ t58) ++ (⟨#[44]⟩ : ByteArray))) (b := t32) (by kernel_rfl) hc86) ?_
   refine AnyE.pure 10 8 (.string ((((rdD ([(⟨#[]⟩ : ByteArray), (⟨#[98, 105, 116, 32]⟩ : ByteArray), (⟨#[114, 101, 115, 32]⟩ : ByteArray), (⟨#[115, 101, 116, 32]⟩ : ByteArray)] : List ByteArray) p1) ++ t58) ++ (⟨#[44]⟩ : ByteArray)) ++ t32)) (by kernel_rfl) hS80 (fun _ => by kernel_rfl) ?_
   refine AnyE.done (by kernel_rfl) (fun w87 hu88 => ?_)
   have h89 := h79.call hu88
   refine RunsI.l [8] [(8, .string ((((rdD ([(⟨#[]⟩ : ByteArray), (⟨#[98, 105, 116, 32]⟩ : ByteArray), (⟨#[114, 101, 115, 32]⟩ : ByteArray), (⟨#[115, 101, 116, 32]⟩ : ByteArray)] : List ByteArray) p1) ++ t58) ++ (⟨#[44]⟩ : ByteArray)) ++ t32))] ?_
   refine RunsI.t (.string ((((rdD ([(⟨#[]⟩ : ByteArray), (⟨#[98, 105, 116, 32]⟩ : ByteArray), (⟨#[114, 101, 115, 32]⟩ : ByteArray), (⟨#[115, 101, 116, 32]⟩ : ByteArray)] : List ByteArray) p1) ++ t58) ++ (⟨#[44]⟩ : ByteArray)) ++ t32)) ?_
   obtain rfl := Option.some.inj h
   exact ⟨rfl, h89.below⟩
 clear hJ36
 rcases of_cond h with ⟨hc11, h⟩ | ⟨hc11, h⟩
 ·skip
  refine RunsI.f 15 true hc11 ?_
  refine RunsI.b true 8 ?_
  refine RunsI.g 1 [.c 9, .c 10, .c 16] ?_
  refine RunsI.r ?_
  refine RegI.p 1 [(1, .int .i64 p1), (2, .int .i64 p2), (3, .int .i64 p3), (4, .pointer (some ⟨b2, 0, none⟩)), (16, .pointer (some ⟨b2, 0, none⟩))] ?_
  refine RegI.o (OpE.loadBox 17 0 3 b2 0 (.int .i64 p0_0) h8 (by kernel_rfl) (by kernel_rfl) rfl (by kernel_rfl) ?_)
  refine RegI.p 1 [(1, .int .i64 p1), (2, .int .i64 p2), (3, .int .i64 p3), (17, .int .i64 p0_0), (18, .pointer (some ⟨b2, 2, none⟩))] ?_
  refine RegI.o (OpE.loadBox 19 0 5 b2 2 (.int .u8 p0_2) h8 (by kernel_rfl) (by kernel_rfl) rfl (by kernel_rfl) ?_)
  obtain ⟨t16, hg15, h⟩ := of_bind h
  refine RegI.o (OpE.call 20 (by kernel_rfl) 94 #[.int .i64 p0_0, .int .u8 p0_2] (by kernel_rfl) ((charabancref09_Index_94_ok K _ w6  p0_0 p0_2 h8.old' hg15).mono ?_))
  rintro _ w12 ⟨rfl, hb13⟩
  refine ⟨_, rfl, ?_⟩
  have h14 := h8.call hb13
  refine RegI.p 1 [(1, .int .i64 p1), (2, .int .i64 p2), (3, .int .i64 p3), (9, .string t16)] ?_
  refine RegI.d ?_
  refine RunsI.g 1 [.c 11, .c 12, .c 16] ?_
  refine RunsI.r ?_
  refine RegI.p 3 [(1, .int .i64 p1), (2, .int .i64 p2), (3, .int .i64 p3), (9, .string t16), (23, .bool (p1 != 1))] ?_
  obtain ⟨j21, hJ22, h⟩ := of_let h
  have hj23 : ∀ (t18 : Bool) (w20 : World), j21 t18 = some r → Holds M0 w0 w20 [] → RegI F58 11 [.c 12, .c 16] 6 [(1, .int .i64 p1), (2, .int .i64 p2), (3, .int .i64 p3), (9, .string t16), (26, .bool t18)] w20 (charabancref09_bits_58.post M0 w0 r) := by
   intro t18 w20 h h19
   rw [hJ22] at h
   clear hJ22
   dsimp only at h
   refine RegI.d ?_
   rcases of_cond h with ⟨hc24, h⟩ | ⟨hc24, h⟩
   ·skip
    refine RunsI.f 26 true hc24 ?_
    refine RunsI.b true 13 ?_
    refine RunsI.r ?_
    refine RegI.p 1 [(1, .int .i64 p1), (2, .int .i64 p2), (3, .int .i64 p3), (27, .string t16)] ?_
    obtain ⟨hc25, h⟩ := of_cond0 h
    refine RegI.o (OpE.run 28 (by kernel_rfl) (run_cat (a := t16) (b := (⟨#[44]⟩ : ByteArray)) (by kernel_rfl) hc25) ?_)
    refine RegI.p 2 [(1, .int .i64 p1), (2, .int .i64 p2), (28, .string (t16 ++ (⟨#[44]⟩ : ByteArray))), (29, .agg #[.int .i64 0, .int .u8 0, .int .u8 0, .int .u16 0, .int .i64 0, .int .i64 0]), (30, .int .i64 p3)] ?_
    obtain ⟨t30, hg29, h⟩ := of_bind h
    refine RegI.o (OpE.call 31 (by kernel_rfl) 61 #[.agg #[.int .i64 0, .int .u8 0, .int .u8 0, .int .u16 0, .int .i64 0, .int .i64 0], .int .i64 p3] (by kernel_rfl) ((charabancref09_reg_61_ok K _ w20  0 0 0 0 0 0 p3 h19.old' hg29).mono ?_))
    rintro _ w26 ⟨rfl, hb27⟩
    refine ⟨_, rfl, ?_⟩
    have h28 := h19.call hb27
    obtain ⟨hc31, h⟩ := of_cond0 h
    refine RegI.o (OpE.run 32 (by kernel_rfl) (run_cat (a := (t16 ++ (⟨#[44]⟩ : ByteArray))) (b := t30) (by kernel_rfl) hc31) ?_)
    refine RegI.p 1 [(1, .int .i64 p1), (2, .int .i64 p2), (9, .string ((t16 ++ (⟨#[44]⟩ : ByteArray)) ++ t30))] ?_
    refine RegI.d ?_
    refine RunsI.l [1, 2, 9] [(1, .int .i64 p1), (2, .int .i64 p2), (9, .string ((t16 ++ (⟨#[44]⟩ : ByteArray)) ++ t30))] ?_
    exact hj37 ((t16 ++ (⟨#[44]⟩ : ByteArray)) ++ t30) w26 h (h28.pick [] (by decide))
   ·skip
    refine RunsI.f 26 false hc24 ?_
    refine RunsI.b false 14 ?_
    refine RunsI.g 1 [.c 16] ?_
    refine RunsI.l [1, 2, 9] [(1, .int .i64 p1), (2, .int .i64 p2), (9, .string t16)] ?_
    exact hj37 t16 w20 h (h19.pick [] (by decide))
  clear hJ22
  rcases of_cond h with ⟨hc17, h⟩ | ⟨hc17, h⟩
  ·skip
   refine RegI.f 23 true hc17 ?_
   refine RegI.p 3 [(1, .int .i64 p1), (2, .int .i64 p2), (3, .int .i64 p3), (9, .string t16), (26, .bool (p3 != 6))] ?_
   refine RegI.l [1, 2, 3, 9, 26] [(1, .int .i64 p1), (2, .int .i64 p2), (3, .int .i64 p3), (9, .string t16), (26, .bool (p3 != 6))] ?_
   exact hj23 (p3 != 6) w12 h (h14.pick [] (by decide))
  ·skip
   refine RegI.f 23 false hc17 ?_
   refine RegI.p 3 [(1, .int .i64 p1), (2, .int .i64 p2), (3, .int .i64 p3), (9, .string t16), (26, .bool false)] ?_
   refine RegI.l [1, 2, 3, 9, 26] [(1, .int .i64 p1), (2, .int .i64 p2), (3, .int .i64 p3), (9, .string t16), (26, .bool false)] ?_
   exact hj23 false w12 h (h14.pick [] (by decide))
 ·skip
  refine RunsI.f 15 false hc11 ?_
  refine RunsI.b false 15 ?_
  refine RunsI.g 1 [.c 16] ?_
  refine RunsI.l [1, 2, 9] [(1, .int .i64 p1), (2, .int .i64 p2), (9, .string t10)] ?_
  exact hj37 t10 w6 h (h8.pick [] (by decide))
end

/-! ### charabanc/charabancref09.pair (function 97) -/
section
def charabancref09_pair_97.post (M0 : Nat → Prop) (w0 : World) (r : ByteArray) : Ending → World → Prop := fun e w => e = .returned (.string r) ∧ Below w0.heap.size w0 w
def charabancref09_pair_97.f (K : Nat) (p0_0 : Int) (p0_1 : Int) (p0_2 : Int) (p0_3 : Int) (p0_4 : Int) (p0_5 : Int) (p1 : Int) (p2 : ByteArray) : Option ByteArray := (charabancref09_indexed_102.f K p0_0 p0_1 p0_2 p0_3 p0_4 p0_5).bind fun t15 => Let (fun (t19 : Bool) => cond t19 ((charabancref09_name_104.f K p0_0).bind fun t30 => some t30) (cond (inR p1 ([(⟨#[98, 99]⟩ : ByteArray), (⟨#[100, 101]⟩ : ByteArray), (⟨#[104, 108]⟩ : ByteArray), p2] : List ByteArray).length) (some (rdD ([(⟨#[98, 99]⟩ : ByteArray), (⟨#[100, 101]⟩ : ByteArray), (⟨#[104, 108]⟩ : ByteArray), p2] : List ByteArray) p1)) none)) (fun j22 => cond t15 (j22 (p1 == 2)) (j22 false))
set_option maxRecDepth 100000 in
theorem charabancref09_pair_97_ok (K : Nat) (M0 : Nat → Prop) (w0 : World) (p0_0 : Int) (p0_1 : Int) (p0_2 : Int) (p0_3 : Int) (p0_4 : Int) (p0_5 : Int) (p1 : Int) (p2 : ByteArray) (ho : ∀ b, M0 b → b < w0.heap.size) {r : ByteArray} (h : charabancref09_pair_97.f K p0_0 p0_1 p0_2 p0_3 p0_4 p0_5 p1 p2 = some r) :
  Calls Tryd.prog 97 #[.agg #[.int .i64 p0_0, .int .u8 p0_1, .int .u8 p0_2, .int .u16 p0_3, .int .i64 p0_4, .int .i64 p0_5], .int .i64 p1, .string p2] w0 (charabancref09_pair_97.post M0 w0 r) := by
 unfold charabancref09_pair_97.f at h
 have h0 : Holds M0 w0 w0 [] := Holds.start ho
 have h0 : Holds M0 w0 w0 [] := h0
 refine calls_of F97 rfl [.agg #[.int .i64 p0_0, .int .u8 p0_1, .int .u8 p0_2, .int .u16 p0_3, .int .i64 p0_4, .int .i64 p0_5], .int .i64 p1, .string p2] (by kernel_rfl) ?_
 refine RunsI.g 1 [.c 1, .c 2] ?_
 refine RunsI.r ?_
 refine RegI.o (OpE.box 3 51 [.int .i64 p0_0, .int .u8 p0_1, .int .u8 p0_2, .int .u16 p0_3, .int .i64 p0_4, .int .i64 p0_5] h0 (by kernel_rfl) (by kernel_rfl) ?_)
 intro w1 b2 h3 hb4 hn5
 refine RegI.p 1 [(1, .int .i64 p1), (2, .string p2), (3, .pointer (some ⟨b2, 0, none⟩))] ?_
 refine RegI.d ?_
 refine RunsI.g 1 [.c 3, .c 4] ?_
 refine RunsI.r ?_
 refine RegI.p 1 [(1, .int .i64 p1), (3, .pointer (some ⟨b2, 0, none⟩)), (9, .string p2)] ?_
 refine RegI.o (OpE.lit 10 9 [.string (⟨#[98, 99]⟩ : ByteArray), .string (⟨#[100, 101]⟩ : ByteArray), .string (⟨#[104, 108]⟩ : ByteArray), .string p2] 4 h3 (by kernel_rfl) (by kernel_rfl) ?_)
 intro w6 b7 h8 hb9 hn10
 refine RegI.p 1 [(1, .int .i64 p1), (3, .pointer (some ⟨b2, 0, none⟩)), (7, .slice (some ⟨b7, 0, none⟩) (([(⟨#[98, 99]⟩ : ByteArray), (⟨#[100, 101]⟩ : ByteArray), (⟨#[104, 108]⟩ : ByteArray), p2] : List ByteArray).length) 4)] ?_
 refine RegI.d ?_
 refine RunsI.g 1 [.c 5, .c 6] ?_
 refine RunsI.r ?_
 refine RegI.o (OpE.loadBox 11 0 51 b2 0 (.agg #[.int .i64 p0_0, .int .u8 p0_1, .int .u8 p0_2, .int .u16 p0_3, .int .i64 p0_4, .int .i64 p0_5]) h8 (by kernel_rfl) (by kernel_rfl) rfl (by kernel_rfl) ?_)
 obtain ⟨t15, hg14, h⟩ := of_bind h
 refine RegI.o (OpE.call 12 (by kernel_rfl) 102 #[.agg #[.int .i64 p0_0, .int .u8 p0_1, .int .u8 p0_2, .int .u16 p0_3, .int .i64 p0_4, .int .i64 p0_5]] (by kernel_rfl) ((charabancref09_indexed_102_ok K _ w6  p0_0 p0_1 p0_2 p0_3 p0_4 p0_5 h8.old' hg14).mono ?_))
 rintro _ w11 ⟨rfl, hb12⟩
 refine ⟨_, rfl, ?_⟩
 have h13 := h8.call hb12
 refine RegI.p 1 [(1, .int .i64 p1), (3, .pointer (some ⟨b2, 0, none⟩)), (7, .slice (some ⟨b7, 0, none⟩) (([(⟨#[98, 99]⟩ : ByteArray), (⟨#[100, 101]⟩ : ByteArray), (⟨#[104, 108]⟩ : ByteArray), p2] : List ByteArray).length) 4), (8, .bool t15)] ?_
 refine RegI.d ?_
 refine RunsI.g 2 [.c 8, .c 9, .c 14] ?_
 refine RunsI.r ?_
 refine RegI.p 2 [(1, .int .i64 p1), (3, .pointer (some ⟨b2, 0, none⟩)), (7, .slice (some ⟨b7, 0, none⟩) (([(⟨#[98, 99]⟩ : ByteArray), (⟨#[100, 101]⟩ : ByteArray), (⟨#[104, 108]⟩ : ByteArray), p2] : List ByteArray).length) 4), (14, .bool t15)] ?_
 obtain ⟨j22, hJ23, h⟩ := of_let h
 have hj24 : ∀ (t19 : Bool) (w21 : World), j22 t19 = some r → Holds M0 w0 w21 [box b2 51 [.int .i64 p0_0, .int .u8 p0_1, .int .u8 p0_2, .int .u16 p0_3, .int .i64 p0_4, .int .i64 p0_5], own Rp.str 9 (.slice (some ⟨b7, 0, none⟩) (([(⟨#[98, 99]⟩ : ByteArray), (⟨#[100, 101]⟩ : ByteArray), (⟨#[104, 108]⟩ : ByteArray), p2] : List ByteArray).length) 4) ([(⟨#[98, 99]⟩ : ByteArray), (⟨#[100, 101]⟩ : ByteArray), (⟨#[104, 108]⟩ : ByteArray), p2] : List ByteArray)] → RegI F97 8 [.c 9, .c 14] 5 [(1, .int .i64 p1), (3, .pointer (some ⟨b2, 0, none⟩)), (7, .slice (some ⟨b7, 0, none⟩) (([(⟨#[98, 99]⟩ : ByteArray), (⟨#[100, 101]⟩ : ByteArray), (⟨#[104, 108]⟩ : ByteArray), p2] : List ByteArray).length) 4), (17, .bool t19)] w21 (charabancref09_pair_97.post M0 w0 r) := by
  intro t19 w21 h h20
  rw [hJ23] at h
  clear hJ23
  dsimp only at h
  refine RegI.d ?_
  rcases of_cond h with ⟨hc25, h⟩ | ⟨hc25, h⟩
  ·skip
   refine RunsI.f 17 true hc25 ?_
   refine RunsI.b true 10 ?_
   refine RunsI.g 1 [.c 11, .c 12, .c 14] ?_
   refine RunsI.r ?_
   refine RegI.p 1 [(18, .pointer (some ⟨b2, 0, none⟩))] ?_
   refine RegI.o (OpE.loadBox 19 0 3 b2 0 (.int .i64 p0_0) h20 (by kernel_rfl) (by kernel_rfl) rfl (by kernel_rfl) ?_)
   obtain ⟨t30, hg29, h⟩ := of_bind h
   refine RegI.o (OpE.call 20 (by kernel_rfl) 104 #[.int .i64 p0_0] (by kernel_rfl) ((charabancref09_name_104_ok K _ w21  p0_0 h20.old' hg29).mono ?_))
   rintro _ w26 ⟨rfl, hb27⟩
   refine ⟨_, rfl, ?_⟩
   have h28 := h20.call hb27
   refine RegI.p 1 [(6, .string t30)] ?_
   refine RegI.d ?_
   refine RunsI.t (.string t30) ?_
   obtain rfl := Option.some.inj h
   exact ⟨rfl, h28.below⟩
  ·skip
   refine RunsI.f 17 false hc25 ?_
   refine RunsI.b false 13 ?_
   refine RunsI.g 1 [.c 14] ?_
   refine RunsI.g 1 [.c 15, .c 16] ?_
   refine RunsI.r ?_
   refine RegI.p 2 [(21, .slice (some ⟨b7, 0, none⟩) (([(⟨#[98, 99]⟩ : ByteArray), (⟨#[100, 101]⟩ : ByteArray), (⟨#[104, 108]⟩ : ByteArray), p2] : List ByteArray).length) 4), (22, .int .i64 p1)] ?_
   obtain ⟨hc31, h⟩ := of_cond0 h
   refine RegI.o (OpE.idxOwnA 23 1 55 9 p1 h20 (by kernel_rfl) rfl (by kernel_rfl) (by kernel_rfl) hc31 ?_)
   refine RegI.o (OpE.loadOwnA 24 1 9 9 p1 0 (o := (Int.toNat p1) * 1 + 0) h20 (by kernel_rfl) rfl (by kernel_rfl) (by kernel_rfl) hc31 (fun cs32 hk33 => ?_))
   obtain rfl := hk33
   refine ⟨.string (rdD ([(⟨#[98, 99]⟩ : ByteArray), (⟨#[100, 101]⟩ : ByteArray), (⟨#[104, 108]⟩ : ByteArray), p2] : List ByteArray) p1), by kernel_rfl, ?_⟩
   refine RegI.p 1 [(6, .string (rdD ([(⟨#[98, 99]⟩ : ByteArray), (⟨#[100, 101]⟩ : ByteArray), (⟨#[104, 108]⟩ : ByteArray), p2] : List ByteArray) p1))] ?_
   refine RegI.d ?_
   refine RunsI.t (.string (rdD ([(⟨#[98, 99]⟩ : ByteArray), (⟨#[100, 101]⟩ : ByteArray), (⟨#[104, 108]⟩ : ByteArray), p2] : List ByteArray) p1)) ?_
   obtain rfl := Option.some.inj h
   exact ⟨rfl, h20.below⟩
 clear hJ23
 rcases of_cond h with ⟨hc16, h⟩ | ⟨hc16, h⟩
 ·skip
  refine RegI.f 14 true hc16 ?_
  refine RegI.p 3 [(1, .int .i64 p1), (3, .pointer (some ⟨b2, 0, none⟩)), (7, .slice (some ⟨b7, 0, none⟩) (([(⟨#[98, 99]⟩ : ByteArray), (⟨#[100, 101]⟩ : ByteArray), (⟨#[104, 108]⟩ : ByteArray), p2] : List ByteArray).length) 4), (17, .bool (p1 == 2))] ?_
  have h17 := h13.boxOwn 1 rfl Rp.str ([(⟨#[98, 99]⟩ : ByteArray), (⟨#[100, 101]⟩ : ByteArray), (⟨#[104, 108]⟩ : ByteArray), p2] : List ByteArray) (cells_str _ _ _) (Nat.le_of_ble_eq_true (by kernel_rfl))
  refine RegI.l [1, 3, 7, 17] [(1, .int .i64 p1), (3, .pointer (some ⟨b2, 0, none⟩)), (7, .slice (some ⟨b7, 0, none⟩) (([(⟨#[98, 99]⟩ : ByteArray), (⟨#[100, 101]⟩ : ByteArray), (⟨#[104, 108]⟩ : ByteArray), p2] : List ByteArray).length) 4), (17, .bool (p1 == 2))] ?_
  exact hj24 (p1 == 2) w11 h (h17.pick [0, 1] (by decide))
 ·skip
  refine RegI.f 14 false hc16 ?_
  refine RegI.p 3 [(1, .int .i64 p1), (3, .pointer (some ⟨b2, 0, none⟩)), (7, .slice (some ⟨b7, 0, none⟩) (([(⟨#[98, 99]⟩ : ByteArray), (⟨#[100, 101]⟩ : ByteArray), (⟨#[104, 108]⟩ : ByteArray), p2] : List ByteArray).length) 4), (17, .bool false)] ?_
  have h18 := h13.boxOwn 1 rfl Rp.str ([(⟨#[98, 99]⟩ : ByteArray), (⟨#[100, 101]⟩ : ByteArray), (⟨#[104, 108]⟩ : ByteArray), p2] : List ByteArray) (cells_str _ _ _) (Nat.le_of_ble_eq_true (by kernel_rfl))
  refine RegI.l [1, 3, 7, 17] [(1, .int .i64 p1), (3, .pointer (some ⟨b2, 0, none⟩)), (7, .slice (some ⟨b7, 0, none⟩) (([(⟨#[98, 99]⟩ : ByteArray), (⟨#[100, 101]⟩ : ByteArray), (⟨#[104, 108]⟩ : ByteArray), p2] : List ByteArray).length) 4), (17, .bool false)] ?_
  exact hj24 false w11 h (h18.pick [0, 1] (by decide))
end

/-! ### charabanc/charabancref09.Hex (function 105) -/
section
def charabancref09_Hex_105.post (M0 : Nat → Prop) (w0 : World) (r : ByteArray) : Ending → World → Prop := fun e w => e = .returned (.string r) ∧ Below w0.heap.size w0 w
def charabancref09_Hex_105.f (K : Nat) (p0 : Int) (p1 : Int) : Option ByteArray := cond (decide (p0 ≥ 0)) ((charabancref09_digits_96.f K p0 16 (if 8 < (if 0 > p1 then 0 else p1) then 8 else (if 0 > p1 then 0 else p1))).bind fun t6 => cond (mayCat t6.size (⟨#[104]⟩ : ByteArray).size) (some (t6 ++ (⟨#[104]⟩ : ByteArray))) none) (cond (p0 == (IntKind.wrap .i64 (0 - p0))) (some (⟨#[45, 56, 48, 48, 48, 48, 48, 48, 48, 48, 48, 48, 48, 48, 48, 48, 48, 104]⟩ : ByteArray)) ((charabancref09_digits_96.f K (IntKind.wrap .i64 (0 - p0)) 16 (if 8 < (if 0 > p1 then 0 else p1) then 8 else (if 0 > p1 then 0 else p1))).bind fun t13 => cond (mayCat (⟨#[45]⟩ : ByteArray).size t13.size) (cond (mayCat ((⟨#[45]⟩ : ByteArray) ++ t13).size (⟨#[104]⟩ : ByteArray).size) (some (((⟨#[45]⟩ : ByteArray) ++ t13) ++ (⟨#[104]⟩ : ByteArray))) none) none))
set_option maxRecDepth 100000 in
theorem charabancref09_Hex_105_ok (K : Nat) (M0 : Nat → Prop) (w0 : World) (p0 : Int) (p1 : Int) (ho : ∀ b, M0 b → b < w0.heap.size) {r : ByteArray} (h : charabancref09_Hex_105.f K p0 p1 = some r) :
  Calls Tryd.prog 105 #[.int .i64 p0, .int .i64 p1] w0 (charabancref09_Hex_105.post M0 w0 r) := by
 unfold charabancref09_Hex_105.f at h
 have h0 : Holds M0 w0 w0 [] := Holds.start ho
 have h0 : Holds M0 w0 w0 [] := h0
 refine calls_of F105 rfl [.int .i64 p0, .int .i64 p1] (by kernel_rfl) ?_
 refine RunsI.g 1 [.c 1, .c 2] ?_
 refine RunsI.r ?_
 refine RegI.p 1 [(0, .int .i64 p0), (1, .int .i64 p1)] ?_
 refine RegI.d ?_
 refine RunsI.g 1 [.c 3, .c 4] ?_
 refine RunsI.r ?_
 refine RegI.p 4 [(0, .int .i64 p0), (1, .int .i64 (if 8 < (if 0 > p1 then 0 else p1) then 8 else (if 0 > p1 then 0 else p1)))] ?_
 refine RegI.d ?_
 refine RunsI.g 2 [.c 6, .c 7, .c 12] ?_
 refine RunsI.r ?_
 refine RegI.p 2 [(0, .int .i64 p0), (1, .int .i64 (if 8 < (if 0 > p1 then 0 else p1) then 8 else (if 0 > p1 then 0 else p1))), (9, .bool (decide (p0 ≥ 0)))] ?_
 refine RegI.d ?_
 rcases of_cond h with ⟨hc1, h⟩ | ⟨hc1, h⟩
 ·skip
  refine RunsI.f 9 true hc1 ?_
  refine RunsI.b true 8 ?_
  refine RunsI.g 1 [.c 9, .c 10, .c 12] ?_
  refine RunsI.r ?_
  refine RegI.p 2 [(10, .int .i64 p0), (11, .int .i64 (if 8 < (if 0 > p1 then 0 else p1) then 8 else (if 0 > p1 then 0 else p1)))] ?_
  obtain ⟨t6, hg5, h⟩ := of_bind h
  refine RegI.o (OpE.call 12 (by kernel_rfl) 96 #[.int .i64 p0, .int .i64 16, .int .i64 (if 8 < (if 0 > p1 then 0 else p1) then 8 else (if 0 > p1 then 0 else p1))] (by kernel_rfl) ((charabancref09_digits_96_ok K _ w0  p0 16 (if 8 < (if 0 > p1 then 0 else p1) then 8 else (if 0 > p1 then 0 else p1)) h0.old' hg5).mono ?_))
  rintro _ w2 ⟨rfl, hb3⟩
  refine ⟨_, rfl, ?_⟩
  have h4 := h0.call hb3
  obtain ⟨hc7, h⟩ := of_cond0 h
  refine RegI.o (OpE.run 13 (by kernel_rfl) (run_cat (a := t6) (b := (⟨#[104]⟩ : ByteArray)) (by kernel_rfl) hc7) ?_)
  refine RegI.p 1 [(4, .string (t6 ++ (⟨#[104]⟩ : ByteArray)))] ?_
  refine RegI.d ?_
  refine RunsI.t (.string (t6 ++ (⟨#[104]⟩ : ByteArray))) ?_
  obtain rfl := Option.some.inj h
  exact ⟨rfl, h4.below⟩
 ·skip
  refine RunsI.f 9 false hc1 ?_
  refine RunsI.b false 11 ?_
  refine RunsI.g 1 [.c 12] ?_
  refine RunsI.g 2 [.c 14, .c 15, .c 20] ?_
  refine RunsI.r ?_
  refine RegI.p 4 [(0, .int .i64 p0), (1, .int .i64 (if 8 < (if 0 > p1 then 0 else p1) then 8 else (if 0 > p1 then 0 else p1))), (17, .bool (p0 == (IntKind.wrap .i64 (0 - p0))))] ?_
  refine RegI.d ?_
  rcases of_cond h with ⟨hc8, h⟩ | ⟨hc8, h⟩
  ·skip
   refine RunsI.f 17 true hc8 ?_
   refine RunsI.b true 16 ?_
   refine RunsI.g 1 [.c 17, .c 18, .c 20] ?_
   refine RunsI.r ?_
   refine RegI.p 1 [(4, .string (⟨#[45, 56, 48, 48, 48, 48, 48, 48, 48, 48, 48, 48, 48, 48, 48, 48, 48, 104]⟩ : ByteArray))] ?_
   refine RegI.d ?_
   refine RunsI.t (.string (⟨#[45, 56, 48, 48, 48, 48, 48, 48, 48, 48, 48, 48, 48, 48, 48, 48, 48, 104]⟩ : ByteArray)) ?_
   obtain rfl := Option.some.inj h
   exact ⟨rfl, h0.below⟩
  ·skip
   refine RunsI.f 17 false hc8 ?_
   refine RunsI.b false 19 ?_
   refine RunsI.g 1 [.c 20] ?_
   refine RunsI.g 1 [.c 21, .c 22] ?_
   refine RunsI.r ?_
   refine RegI.p 3 [(19, .int .i64 (IntKind.wrap .i64 (0 - p0))), (20, .int .i64 (if 8 < (if 0 > p1 then 0 else p1) then 8 else (if 0 > p1 then 0 else p1)))] ?_
   obtain ⟨t13, hg12, h⟩ := of_bind h
   refine RegI.o (OpE.call 21 (by kernel_rfl) 96 #[.int .i64 (IntKind.wrap .i64 (0 - p0)), .int .i64 16, .int .i64 (if 8 < (if 0 > p1 then 0 else p1) then 8 else (if 0 > p1 then 0 else p1))] (by kernel_rfl) ((charabancref09_digits_96_ok K _ w0  (IntKind.wrap .i64 (0 - p0)) 16 (if 8 < (if 0 > p1 then 0 else p1) then 8 else (if 0 > p1 then 0 else p1)) h0.old' hg12).mono ?_))
   rintro _ w9 ⟨rfl, hb10⟩
   refine ⟨_, rfl, ?_⟩
   have h11 := h0.call hb10
   obtain ⟨hc14, h⟩ := of_cond0 h
   refine RegI.o (OpE.run 22 (by kernel_rfl) (run_cat (a := (⟨#[45]⟩ : ByteArray)) (b := t13) (by kernel_rfl) hc14) ?_)
   obtain ⟨hc15, h⟩ := of_cond0 h
   refine RegI.o (OpE.run 23 (by kernel_rfl) (run_cat (a := ((⟨#[45]⟩ : ByteArray) ++ t13)) (b := (⟨#[104]⟩ : ByteArray)) (by kernel_rfl) hc15) ?_)
   refine RegI.p 1 [(4, .string (((⟨#[45]⟩ : ByteArray) ++ t13) ++ (⟨#[104]⟩ : ByteArray)))] ?_
   refine RegI.d ?_
   refine RunsI.t (.string (((⟨#[45]⟩ : ByteArray) ++ t13) ++ (⟨#[104]⟩ : ByteArray))) ?_
   obtain rfl := Option.some.inj h
   exact ⟨rfl, h11.below⟩
end

/-! ### charabanc/charabancref09.nn (function 98) -/
section
def charabancref09_nn_98.post (M0 : Nat → Prop) (w0 : World) (r : ByteArray) : Ending → World → Prop := fun e w => e = .returned (.string r) ∧ Below w0.heap.size w0 w
def charabancref09_nn_98.f (K : Nat) (p0_0 : Int) (p0_1 : Int) (p0_2 : Int) (p0_3 : Int) (p0_4 : Int) (p0_5 : Int) : Option ByteArray := (charabancref09_Hex_105.f K (IntKind.wrap .i64 p0_3) 4).bind fun t10 => some t10
set_option maxRecDepth 100000 in
theorem charabancref09_nn_98_ok (K : Nat) (M0 : Nat → Prop) (w0 : World) (p0_0 : Int) (p0_1 : Int) (p0_2 : Int) (p0_3 : Int) (p0_4 : Int) (p0_5 : Int) (ho : ∀ b, M0 b → b < w0.heap.size) {r : ByteArray} (h : charabancref09_nn_98.f K p0_0 p0_1 p0_2 p0_3 p0_4 p0_5 = some r) :
  Calls Tryd.prog 98 #[.agg #[.int .i64 p0_0, .int .u8 p0_1, .int .u8 p0_2, .int .u16 p0_3, .int .i64 p0_4, .int .i64 p0_5]] w0 (charabancref09_nn_98.post M0 w0 r) := by
 unfold charabancref09_nn_98.f at h
 have h0 : Holds M0 w0 w0 [] := Holds.start ho
 have h0 : Holds M0 w0 w0 [] := h0
 refine calls_of F98 rfl [.agg #[.int .i64 p0_0, .int .u8 p0_1, .int .u8 p0_2, .int .u16 p0_3, .int .i64 p0_4, .int .i64 p0_5]] (by kernel_rfl) ?_
 refine RunsI.g 1 [.c 1, .c 2] ?_
 refine RunsI.r ?_
 refine RegI.o (OpE.box 1 51 [.int .i64 p0_0, .int .u8 p0_1, .int .u8 p0_2, .int .u16 p0_3, .int .i64 p0_4, .int .i64 p0_5] h0 (by kernel_rfl) (by kernel_rfl) ?_)
 intro w1 b2 h3 hb4 hn5
 refine RegI.p 1 [(1, .pointer (some ⟨b2, 0, none⟩))] ?_
 refine RegI.d ?_
 refine RunsI.g 1 [.c 3, .c 4] ?_
 refine RunsI.r ?_
 refine RegI.p 1 [(3, .pointer (some ⟨b2, 3, none⟩))] ?_
 refine RegI.o (OpE.loadBox 4 0 22 b2 3 (.int .u16 p0_3) h3 (by kernel_rfl) (by kernel_rfl) rfl (by kernel_rfl) ?_)
 refine RegI.p 1 [(5, .int .i64 (IntKind.wrap .i64 p0_3))] ?_
 obtain ⟨t10, hg9, h⟩ := of_bind h
 refine RegI.o (OpE.call 6 (by kernel_rfl) 105 #[.int .i64 (IntKind.wrap .i64 p0_3), .int .i64 4] (by kernel_rfl) ((charabancref09_Hex_105_ok K _ w1  (IntKind.wrap .i64 p0_3) 4 h3.old' hg9).mono ?_))
 rintro _ w6 ⟨rfl, hb7⟩
 refine ⟨_, rfl, ?_⟩
 have h8 := h3.call hb7
 refine RegI.p 1 [(2, .string t10)] ?_
 refine RegI.d ?_
 refine RunsI.t (.string t10) ?_
 obtain rfl := Option.some.inj h
 exact ⟨rfl, h8.below⟩
end

/-! ### charabanc/charabancref09.ed (function 59) -/
section
def charabancref09_ed_59.post (M0 : Nat → Prop) (w0 : World) (r : ByteArray) : Ending → World → Prop := fun e w => e = .returned (.string r) ∧ Below w0.heap.size w0 w
def charabancref09_ed_59.f (K : Nat) (p0_0 : Int) (p0_1 : Int) (p0_2 : Int) (p0_3 : Int) (p0_4 : Int) (p0_5 : Int) (p1 : Int) (p2 : Int) (p3 : Int) (p4 : Int) (p5 : Int) : Option ByteArray := Let (fun (t8 : Bool) => cond t8 (cond (inR p3 ([(⟨#[108, 100]⟩ : ByteArray), (⟨#[99, 112]⟩ : ByteArray), (⟨#[105, 110]⟩ : ByteArray), (⟨#[111, 116]⟩ : ByteArray)] : List ByteArray).length) (Let (fun (t25 : Bool) => cond t25 (cond (inR (IntKind.wrap .i64 (p2 - 4)) ([(⟨#[105]⟩ : ByteArray), (⟨#[100]⟩ : ByteArray), (⟨#[105, 114]⟩ : ByteArray), (⟨#[100, 114]⟩ : ByteArray)] : List ByteArray).length) (cond (mayCat (⟨#[111, 117, 116]⟩ : ByteArray).size (rdD ([(⟨#[105]⟩ : ByteArray), (⟨#[100]⟩ : ByteArray), (⟨#[105, 114]⟩ : ByteArray), (⟨#[100, 114]⟩ : ByteArray)] : List ByteArray) (IntKind.wrap .i64 (p2 - 4))).size) (some ((⟨#[111, 117, 116]⟩ : ByteArray) ++ (rdD ([(⟨#[105]⟩ : ByteArray), (⟨#[100]⟩ : ByteArray), (⟨#[105, 114]⟩ : ByteArray), (⟨#[100, 114]⟩ : ByteArray)] : List ByteArray) (IntKind.wrap .i64 (p2 - 4))))) none) none) (cond (inR (IntKind.wrap .i64 (p2 - 4)) ([(⟨#[105]⟩ : ByteArray), (⟨#[100]⟩ : ByteArray), (⟨#[105, 114]⟩ : ByteArray), (⟨#[100, 114]⟩ : ByteArray)] : List ByteArray).length) (cond (mayCat (rdD ([(⟨#[108, 100]⟩ : ByteArray), (⟨#[99, 112]⟩ : ByteArray), (⟨#[105, 110]⟩ : ByteArray), (⟨#[111, 116]⟩ : ByteArray)] : List ByteArray) p3).size (rdD ([(⟨#[105]⟩ : ByteArray), (⟨#[100]⟩ : ByteArray), (⟨#[105, 114]⟩ : ByteArray), (⟨#[100, 114]⟩ : ByteArray)] : List ByteArray) (IntKind.wrap .i64 (p2 - 4))).size) (some ((rdD ([(⟨#[108, 100]⟩ : ByteArray), (⟨#[99, 112]⟩ : ByteArray), (⟨#[105, 110]⟩ : ByteArray), (⟨#[111, 116]⟩ : ByteArray)] : List ByteArray) p3) ++ (rdD ([(⟨#[105]⟩ : ByteArray), (⟨#[100]⟩ : ByteArray), (⟨#[105, 114]⟩ : ByteArray), (⟨#[100, 114]⟩ : ByteArray)] : List ByteArray) (IntKind.wrap .i64 (p2 - 4))))) none) none)) (fun j28 => cond (p3 == 3) (j28 (decide (p2 < 6))) (j28 false))) none) (cond (p1 != 1) (some (⟨#[110, 111, 112, 42]⟩ : ByteArray)) ((charabancref09_reg_61.f K 0 0 0 0 0 0 p2).bind fun t57 => (charabancref09_pair_97.f K 0 0 0 0 0 0 p4 (⟨#[115, 112]⟩ : ByteArray)).bind fun t62 => cond (p3 == 0) (cond (p2 == 6) (cond (mayCat (⟨#[105, 110, 32]⟩ : ByteArray).size (⟨#[102]⟩ : ByteArray).size) (cond (mayCat ((⟨#[105, 110, 32]⟩ : ByteArray) ++ (⟨#[102]⟩ : ByteArray)).size (⟨#[44, 40, 99, 41]⟩ : ByteArray).size) (some (((⟨#[105, 110, 32]⟩ : ByteArray) ++ (⟨#[102]⟩ : ByteArray)) ++ (⟨#[44, 40, 99, 41]⟩ : ByteArray))) none) none) (cond (mayCat (⟨#[105, 110, 32]⟩ : ByteArray).size t57.size) (cond (mayCat ((⟨#[105, 110, 32]⟩ : ByteArray) ++ t57).size (⟨#[44, 40, 99, 41]⟩ : ByteArray).size) (some (((⟨#[105, 110, 32]⟩ : ByteArray) ++ t57) ++ (⟨#[44, 40, 99, 41]⟩ : ByteArray))) none) none)) (cond (p3 == 1) (cond (p2 == 6) (cond (mayCat (⟨#[111, 117, 116, 32, 40, 99, 41, 44]⟩ : ByteArray).size (⟨#[48]⟩ : ByteArray).size) (some ((⟨#[111, 117, 116, 32, 40, 99, 41, 44]⟩ : ByteArray) ++ (⟨#[48]⟩ : ByteArray))) none) (cond (mayCat (⟨#[111, 117, 116, 32, 40, 99, 41, 44]⟩ : ByteArray).size t57.size) (some ((⟨#[111, 117, 116, 32, 40, 99, 41, 44]⟩ : ByteArray) ++ t57)) none)) (cond (p3 == 2) (cond (inR p5 ([(⟨#[115, 98, 99, 32, 104, 108, 44]⟩ : ByteArray), (⟨#[97, 100, 99, 32, 104, 108, 44]⟩ : ByteArray)] : List ByteArray).length) (cond (mayCat (rdD ([(⟨#[115, 98, 99, 32, 104, 108, 44]⟩ : ByteArray), (⟨#[97, 100, 99, 32, 104, 108, 44]⟩ : ByteArray)] : List ByteArray) p5).size t62.size) (some ((rdD ([(⟨#[115, 98, 99, 32, 104, 108, 44]⟩ : ByteArray), (⟨#[97, 100, 99, 32, 104, 108, 44]⟩ : ByteArray)] : List ByteArray) p5) ++ t62)) none) none) (cond (p3 == 3) (cond (p5 == 0) ((charabancref09_nn_98.f K p0_0 p0_1 p0_2 p0_3 p0_4 p0_5).bind fun t90 => cond (mayCat (⟨#[108, 100, 32, 40]⟩ : ByteArray).size t90.size) (cond (mayCat ((⟨#[108, 100, 32, 40]⟩ : ByteArray) ++ t90).size (⟨#[41, 44]⟩ : ByteArray).size) (cond (mayCat (((⟨#[108, 100, 32, 40]⟩ : ByteArray) ++ t90) ++ (⟨#[41, 44]⟩ : ByteArray)).size t62.size) (some ((((⟨#[108, 100, 32, 40]⟩ : ByteArray) ++ t90) ++ (⟨#[41, 44]⟩ : ByteArray)) ++ t62)) none) none) none) (cond (mayCat (⟨#[108, 100, 32]⟩ : ByteArray).size t62.size) (cond (mayCat ((⟨#[108, 100, 32]⟩ : ByteArray) ++ t62).size (⟨#[44, 40]⟩ : ByteArray).size) ((charabancref09_nn_98.f K p0_0 p0_1 p0_2 p0_3 p0_4 p0_5).bind fun t100 => cond (mayCat (((⟨#[108, 100, 32]⟩ : ByteArray) ++ t62) ++ (⟨#[44, 40]⟩ : ByteArray)).size t100.size) (cond (mayCat ((((⟨#[108, 100, 32]⟩ : ByteArray) ++ t62) ++ (⟨#[44, 40]⟩ : ByteArray)) ++ t100).size (⟨#[41]⟩ : ByteArray).size) (some (((((⟨#[108, 100, 32]⟩ : ByteArray) ++ t62) ++ (⟨#[44, 40]⟩ : ByteArray)) ++ t100) ++ (⟨#[41]⟩ : ByteArray))) none) none) none) none)) (cond (p3 == 4) (some (⟨#[110, 101, 103]⟩ : ByteArray)) (cond (p3 == 5) (cond (p2 == 1) (some (⟨#[114, 101, 116, 105]⟩ : ByteArray)) (some (⟨#[114, 101, 116, 110]⟩ : ByteArray))) (cond (p3 == 6) (cond (inR (Int.tmod p2 4) ([(⟨#[48]⟩ : ByteArray), (⟨#[48]⟩ : ByteArray), (⟨#[49]⟩ : ByteArray), (⟨#[50]⟩ : ByteArray)] : List ByteArray).length) (cond (mayCat (⟨#[105, 109, 32]⟩ : ByteArray).size (rdD ([(⟨#[48]⟩ : ByteArray), (⟨#[48]⟩ : ByteArray), (⟨#[49]⟩ : ByteArray), (⟨#[50]⟩ : ByteArray)] : List ByteArray) (Int.tmod p2 4)).size) (some ((⟨#[105, 109, 32]⟩ : ByteArray) ++ (rdD ([(⟨#[48]⟩ : ByteArray), (⟨#[48]⟩ : ByteArray), (⟨#[49]⟩ : ByteArray), (⟨#[50]⟩ : ByteArray)] : List ByteArray) (Int.tmod p2 4)))) none) none) (cond (inR p2 ([(⟨#[108, 100, 32, 105, 44, 97]⟩ : ByteArray), (⟨#[108, 100, 32, 114, 44, 97]⟩ : ByteArray), (⟨#[108, 100, 32, 97, 44, 105]⟩ : ByteArray), (⟨#[108, 100, 32, 97, 44, 114]⟩ : ByteArray), (⟨#[114, 114, 100]⟩ : ByteArray), (⟨#[114, 108, 100]⟩ : ByteArray), (⟨#[110, 111, 112, 42]⟩ : ByteArray), (⟨#[110, 111, 112, 42]⟩ : ByteArray)] : List ByteArray).length) (some (rdD ([(⟨#[108, 100, 32, 105, 44, 97]⟩ : ByteArray), (⟨#[108, 100, 32, 114, 44, 97]⟩ : ByteArray), (⟨#[108, 100, 32, 97, 44, 105]⟩ : ByteArray), (⟨#[108, 100, 32, 97, 44, 114]⟩ : ByteArray), (⟨#[114, 114, 100]⟩ : ByteArray), (⟨#[114, 108, 100]⟩ : ByteArray), (⟨#[110, 111, 112, 42]⟩ : ByteArray), (⟨#[110, 111, 112, 42]⟩ : ByteArray)] : List ByteArray) p2)) none)))))))))) (fun j11 => cond (p1 == 2) (cond (decide (p3 < 4)) (j11 (decide (p2 > 3))) (j11 false)) (j11 false))
set_option maxRecDepth 100000 in
theorem charabancref09_ed_59_ok (K : Nat) (M0 : Nat → Prop) (w0 : World) (p0_0 : Int) (p0_1 : Int) (p0_2 : Int) (p0_3 : Int) (p0_4 : Int) (p0_5 : Int) (p1 : Int) (p2 : Int) (p3 : Int) (p4 : Int) (p5 : Int) (ho : ∀ b, M0 b → b < w0.heap.size) {r : ByteArray} (h : charabancref09_ed_59.f K p0_0 p0_1 p0_2 p0_3 p0_4 p0_5 p1 p2 p3 p4 p5 = some r) :
  Calls Tryd.prog 59 #[.agg #[.int .i64 p0_0, .int .u8 p0_1, .int .u8 p0_2, .int .u16 p0_3, .int .i64 p0_4, .int .i64 p0_5], .int .i64 p1, .int .i64 p2, .int .i64 p3, .int .i64 p4, .int .i64 p5] w0 (charabancref09_ed_59.post M0 w0 r) := by
 unfold charabancref09_ed_59.f at h
 have h0 : Holds M0 w0 w0 [] := Holds.start ho
 have h0 : Holds M0 w0 w0 [] := h0
 refine calls_of F59 rfl [.agg #[.int .i64 p0_0, .int .u8 p0_1, .int .u8 p0_2, .int .u16 p0_3, .int .i64 p0_4, .int .i64 p0_5], .int .i64 p1, .int .i64 p2, .int .i64 p3, .int .i64 p4, .int .i64 p5] (by kernel_rfl) ?_
 refine RunsI.g 1 [.c 1, .c 2] ?_
 refine RunsI.r ?_
 refine RegI.o (OpE.box 6 51 [.int .i64 p0_0, .int .u8 p0_1, .int .u8 p0_2, .int .u16 p0_3, .int .i64 p0_4, .int .i64 p0_5] h0 (by kernel_rfl) (by kernel_rfl) ?_)
 intro w1 b2 h3 hb4 hn5
 refine RegI.p 1 [(1, .int .i64 p1), (2, .int .i64 p2), (3, .int .i64 p3), (4, .int .i64 p4), (5, .int .i64 p5), (6, .pointer (some ⟨b2, 0, none⟩))] ?_
 refine RegI.d ?_
 refine RunsI.g 2 [.c 4, .c 5, .c 18] ?_
 refine RunsI.r ?_
 refine RegI.p 3 [(1, .int .i64 p1), (2, .int .i64 p2), (3, .int .i64 p3), (4, .int .i64 p4), (5, .int .i64 p5), (6, .pointer (some ⟨b2, 0, none⟩)), (18, .bool (p1 == 2))] ?_
 obtain ⟨j11, hJ12, h⟩ := of_let h
 have hj13 : ∀ (t8 : Bool) (w10 : World), j11 t8 = some r → Holds M0 w0 w10 [box b2 51 [.int .i64 p0_0, .int .u8 p0_1, .int .u8 p0_2, .int .u16 p0_3, .int .i64 p0_4, .int .i64 p0_5]] → RegI F59 4 [.c 5, .c 18] 10 [(1, .int .i64 p1), (2, .int .i64 p2), (3, .int .i64 p3), (4, .int .i64 p4), (5, .int .i64 p5), (6, .pointer (some ⟨b2, 0, none⟩)), (25, .bool t8)] w10 (charabancref09_ed_59.post M0 w0 r) := by
  intro t8 w10 h h9
  rw [hJ12] at h
  clear hJ12
  dsimp only at h
  refine RegI.d ?_
  rcases of_cond h with ⟨hc14, h⟩ | ⟨hc14, h⟩
  ·skip
   refine RunsI.f 25 true hc14 ?_
   refine RunsI.b true 6 ?_
   refine RunsI.g 1 [.c 7, .c 8, .c 18] ?_
   refine RunsI.r ?_
   refine RegI.o (OpE.lit 26 9 [.string (⟨#[108, 100]⟩ : ByteArray), .string (⟨#[99, 112]⟩ : ByteArray), .string (⟨#[105, 110]⟩ : ByteArray), .string (⟨#[111, 116]⟩ : ByteArray)] 4 h9 (by kernel_rfl) (by kernel_rfl) ?_)
   intro w15 b16 h17 hb18 hn19
   refine RegI.p 1 [(2, .int .i64 p2), (3, .int .i64 p3), (26, .slice (some ⟨b16, 0, none⟩) (([(⟨#[108, 100]⟩ : ByteArray), (⟨#[99, 112]⟩ : ByteArray), (⟨#[105, 110]⟩ : ByteArray), (⟨#[111, 116]⟩ : ByteArray)] : List ByteArray).length) 4), (27, .int .i64 p3)] ?_
   have h20 := h17.boxOwn 1 rfl Rp.str ([(⟨#[108, 100]⟩ : ByteArray), (⟨#[99, 112]⟩ : ByteArray), (⟨#[105, 110]⟩ : ByteArray), (⟨#[111, 116]⟩ : ByteArray)] : List ByteArray) (cells_str _ _ _) (Nat.le_of_ble_eq_true (by kernel_rfl))
   obtain ⟨hc21, h⟩ := of_cond0 h
   refine RegI.o (OpE.idxOwnA 28 1 55 9 p3 h20 (by kernel_rfl) rfl (by kernel_rfl) (by kernel_rfl) hc21 ?_)
   refine RegI.o (OpE.loadOwnA 29 1 9 9 p3 0 (o := (Int.toNat p3) * 1 + 0) h20 (by kernel_rfl) rfl (by kernel_rfl) (by kernel_rfl) hc21 (fun cs22 hk23 => ?_))
   obtain rfl := hk23
   refine ⟨.string (rdD ([(⟨#[108, 100]⟩ : ByteArray), (⟨#[99, 112]⟩ : ByteArray), (⟨#[105, 110]⟩ : ByteArray), (⟨#[111, 116]⟩ : ByteArray)] : List ByteArray) p3), by kernel_rfl, ?_⟩
   refine RegI.p 1 [(2, .int .i64 p2), (3, .int .i64 p3), (13, .string (rdD ([(⟨#[108, 100]⟩ : ByteArray), (⟨#[99, 112]⟩ : ByteArray), (⟨#[105, 110]⟩ : ByteArray), (⟨#[111, 116]⟩ : ByteArray)] : List ByteArray) p3))] ?_
   refine RegI.d ?_
   refine RunsI.g 2 [.c 10, .c 11, .c 14, .c 18] ?_
   refine RunsI.r ?_
   refine RegI.p 3 [(2, .int .i64 p2), (13, .string (rdD ([(⟨#[108, 100]⟩ : ByteArray), (⟨#[99, 112]⟩ : ByteArray), (⟨#[105, 110]⟩ : ByteArray), (⟨#[111, 116]⟩ : ByteArray)] : List ByteArray) p3)), (32, .bool (p3 == 3))] ?_
   obtain ⟨j28, hJ29, h⟩ := of_let h
   have hj30 : ∀ (t25 : Bool) (w27 : World), j28 t25 = some r → Holds M0 w0 w27 [] → RegI F59 10 [.c 11, .c 14, .c 18] 6 [(2, .int .i64 p2), (13, .string (rdD ([(⟨#[108, 100]⟩ : ByteArray), (⟨#[99, 112]⟩ : ByteArray), (⟨#[105, 110]⟩ : ByteArray), (⟨#[111, 116]⟩ : ByteArray)] : List ByteArray) p3)), (35, .bool t25)] w27 (charabancref09_ed_59.post M0 w0 r) := by
    intro t25 w27 h h26
    rw [hJ29] at h
    clear hJ29
    dsimp only at h
    refine RegI.d ?_
    rcases of_cond h with ⟨hc31, h⟩ | ⟨hc31, h⟩
    ·skip
     refine RunsI.f 35 true hc31 ?_
     refine RunsI.b true 12 ?_
     refine RunsI.r ?_
     refine RegI.p 1 [(2, .int .i64 p2), (13, .string (⟨#[111, 117, 116]⟩ : ByteArray))] ?_
     refine RegI.d ?_
     refine RunsI.g 1 [.c 15, .c 16, .c 18] ?_
     refine RunsI.r ?_
     refine RegI.p 1 [(2, .int .i64 p2), (36, .string (⟨#[111, 117, 116]⟩ : ByteArray))] ?_
     refine RegI.o (OpE.lit 37 9 [.string (⟨#[105]⟩ : ByteArray), .string (⟨#[100]⟩ : ByteArray), .string (⟨#[105, 114]⟩ : ByteArray), .string (⟨#[100, 114]⟩ : ByteArray)] 4 h26 (by kernel_rfl) (by kernel_rfl) ?_)
     intro w32 b33 h34 hb35 hn36
     refine RegI.p 2 [(36, .string (⟨#[111, 117, 116]⟩ : ByteArray)), (37, .slice (some ⟨b33, 0, none⟩) (([(⟨#[105]⟩ : ByteArray), (⟨#[100]⟩ : ByteArray), (⟨#[105, 114]⟩ : ByteArray), (⟨#[100, 114]⟩ : ByteArray)] : List ByteArray).length) 4), (39, .int .i64 (IntKind.wrap .i64 (p2 - 4)))] ?_
     have h37 := h34.boxOwn 0 rfl Rp.str ([(⟨#[105]⟩ : ByteArray), (⟨#[100]⟩ : ByteArray), (⟨#[105, 114]⟩ : ByteArray), (⟨#[100, 114]⟩ : ByteArray)] : List ByteArray) (cells_str _ _ _) (Nat.le_of_ble_eq_true (by kernel_rfl))
     obtain ⟨hc38, h⟩ := of_cond0 h
     refine RegI.o (OpE.idxOwnA 40 0 55 9 (IntKind.wrap .i64 (p2 - 4)) h37 (by kernel_rfl) rfl (by kernel_rfl) (by kernel_rfl) hc38 ?_)
     refine RegI.o (OpE.loadOwnA 41 0 9 9 (IntKind.wrap .i64 (p2 - 4)) 0 (o := (Int.toNat (IntKind.wrap .i64 (p2 - 4))) * 1 + 0) h37 (by kernel_rfl) rfl (by kernel_rfl) (by kernel_rfl) hc38 (fun cs39 hk40 => ?_))
     obtain rfl := hk40
     refine ⟨.string (rdD ([(⟨#[105]⟩ : ByteArray), (⟨#[100]⟩ : ByteArray), (⟨#[105, 114]⟩ : ByteArray), (⟨#[100, 114]⟩ : ByteArray)] : List ByteArray) (IntKind.wrap .i64 (p2 - 4))), by kernel_rfl, ?_⟩
     obtain ⟨hc41, h⟩ := of_cond0 h
     refine RegI.o (OpE.run 42 (by kernel_rfl) (run_cat (a := (⟨#[111, 117, 116]⟩ : ByteArray)) (b := (rdD ([(⟨#[105]⟩ : ByteArray), (⟨#[100]⟩ : ByteArray), (⟨#[105, 114]⟩ : ByteArray), (⟨#[100, 114]⟩ : ByteArray)] : List ByteArray) (IntKind.wrap .i64 (p2 - 4)))) (by kernel_rfl) hc41) ?_)
     refine RegI.p 1 [(12, .string ((⟨#[111, 117, 116]⟩ : ByteArray) ++ (rdD ([(⟨#[105]⟩ : ByteArray), (⟨#[100]⟩ : ByteArray), (⟨#[105, 114]⟩ : ByteArray), (⟨#[100, 114]⟩ : ByteArray)] : List ByteArray) (IntKind.wrap .i64 (p2 - 4)))))] ?_
     refine RegI.d ?_
     refine RunsI.t (.string ((⟨#[111, 117, 116]⟩ : ByteArray) ++ (rdD ([(⟨#[105]⟩ : ByteArray), (⟨#[100]⟩ : ByteArray), (⟨#[105, 114]⟩ : ByteArray), (⟨#[100, 114]⟩ : ByteArray)] : List ByteArray) (IntKind.wrap .i64 (p2 - 4))))) ?_
     obtain rfl := Option.some.inj h
     exact ⟨rfl, h37.below⟩
    ·skip
     refine RunsI.f 35 false hc31 ?_
     refine RunsI.b false 13 ?_
     refine RunsI.g 1 [.c 14, .c 18] ?_
     refine RunsI.g 1 [.c 15, .c 16, .c 18] ?_
     refine RunsI.r ?_
     refine RegI.p 1 [(2, .int .i64 p2), (36, .string (rdD ([(⟨#[108, 100]⟩ : ByteArray), (⟨#[99, 112]⟩ : ByteArray), (⟨#[105, 110]⟩ : ByteArray), (⟨#[111, 116]⟩ : ByteArray)] : List ByteArray) p3))] ?_
     refine RegI.o (OpE.lit 37 9 [.string (⟨#[105]⟩ : ByteArray), .string (⟨#[100]⟩ : ByteArray), .string (⟨#[105, 114]⟩ : ByteArray), .string (⟨#[100, 114]⟩ : ByteArray)] 4 h26 (by kernel_rfl) (by kernel_rfl) ?_)
     intro w42 b43 h44 hb45 hn46
     refine RegI.p 2 [(36, .string (rdD ([(⟨#[108, 100]⟩ : ByteArray), (⟨#[99, 112]⟩ : ByteArray), (⟨#[105, 110]⟩ : ByteArray), (⟨#[111, 116]⟩ : ByteArray)] : List ByteArray) p3)), (37, .slice (some ⟨b43, 0, none⟩) (([(⟨#[105]⟩ : ByteArray), (⟨#[100]⟩ : ByteArray), (⟨#[105, 114]⟩ : ByteArray), (⟨#[100, 114]⟩ : ByteArray)] : List ByteArray).length) 4), (39, .int .i64 (IntKind.wrap .i64 (p2 - 4)))] ?_
     have h47 := h44.boxOwn 0 rfl Rp.str ([(⟨#[105]⟩ : ByteArray), (⟨#[100]⟩ : ByteArray), (⟨#[105, 114]⟩ : ByteArray), (⟨#[100, 114]⟩ : ByteArray)] : List ByteArray) (cells_str _ _ _) (Nat.le_of_ble_eq_true (by kernel_rfl))
     obtain ⟨hc48, h⟩ := of_cond0 h
     refine RegI.o (OpE.idxOwnA 40 0 55 9 (IntKind.wrap .i64 (p2 - 4)) h47 (by kernel_rfl) rfl (by kernel_rfl) (by kernel_rfl) hc48 ?_)
     refine RegI.o (OpE.loadOwnA 41 0 9 9 (IntKind.wrap .i64 (p2 - 4)) 0 (o := (Int.toNat (IntKind.wrap .i64 (p2 - 4))) * 1 + 0) h47 (by kernel_rfl) rfl (by kernel_rfl) (by kernel_rfl) hc48 (fun cs49 hk50 => ?_))
     obtain rfl := hk50
     refine ⟨.string (rdD ([(⟨#[105]⟩ : ByteArray), (⟨#[100]⟩ : ByteArray), (⟨#[105, 114]⟩ : ByteArray), (⟨#[100, 114]⟩ : ByteArray)] : List ByteArray) (IntKind.wrap .i64 (p2 - 4))), by kernel_rfl, ?_⟩
     obtain ⟨hc51, h⟩ := of_cond0 h
     refine RegI.o (OpE.run 42 (by kernel_rfl) (run_cat (a := (rdD ([(⟨#[108, 100]⟩ : ByteArray), (⟨#[99, 112]⟩ : ByteArray), (⟨#[105, 110]⟩ : ByteArray), (⟨#[111, 116]⟩ : ByteArray)] : List ByteArray) p3)) (b := (rdD ([(⟨#[105]⟩ : ByteArray), (⟨#[100]⟩ : ByteArray), (⟨#[105, 114]⟩ : ByteArray), (⟨#[100, 114]⟩ : ByteArray)] : List ByteArray) (IntKind.wrap .i64 (p2 - 4)))) (by kernel_rfl) hc51) ?_)
     refine RegI.p 1 [(12, .string ((rdD ([(⟨#[108, 100]⟩ : ByteArray), (⟨#[99, 112]⟩ : ByteArray), (⟨#[105, 110]⟩ : ByteArray), (⟨#[111, 116]⟩ : ByteArray)] : List ByteArray) p3) ++ (rdD ([(⟨#[105]⟩ : ByteArray), (⟨#[100]⟩ : ByteArray), (⟨#[105, 114]⟩ : ByteArray), (⟨#[100, 114]⟩ : ByteArray)] : List ByteArray) (IntKind.wrap .i64 (p2 - 4)))))] ?_
     refine RegI.d ?_
     refine RunsI.t (.string ((rdD ([(⟨#[108, 100]⟩ : ByteArray), (⟨#[99, 112]⟩ : ByteArray), (⟨#[105, 110]⟩ : ByteArray), (⟨#[111, 116]⟩ : ByteArray)] : List ByteArray) p3) ++ (rdD ([(⟨#[105]⟩ : ByteArray), (⟨#[100]⟩ : ByteArray), (⟨#[105, 114]⟩ : ByteArray), (⟨#[100, 114]⟩ : ByteArray)] : List ByteArray) (IntKind.wrap .i64 (p2 - 4))))) ?_
     obtain rfl := Option.some.inj h
     exact ⟨rfl, h47.below⟩
   clear hJ29
   rcases of_cond h with ⟨hc24, h⟩ | ⟨hc24, h⟩
   ·skip
    refine RegI.f 32 true hc24 ?_
    refine RegI.p 3 [(2, .int .i64 p2), (13, .string (rdD ([(⟨#[108, 100]⟩ : ByteArray), (⟨#[99, 112]⟩ : ByteArray), (⟨#[105, 110]⟩ : ByteArray), (⟨#[111, 116]⟩ : ByteArray)] : List ByteArray) p3)), (35, .bool (decide (p2 < 6)))] ?_
    refine RegI.l [2, 13, 35] [(2, .int .i64 p2), (13, .string (rdD ([(⟨#[108, 100]⟩ : ByteArray), (⟨#[99, 112]⟩ : ByteArray), (⟨#[105, 110]⟩ : ByteArray), (⟨#[111, 116]⟩ : ByteArray)] : List ByteArray) p3)), (35, .bool (decide (p2 < 6)))] ?_
    exact hj30 (decide (p2 < 6)) w15 h (h20.pick [] (by decide))
   ·skip
    refine RegI.f 32 false hc24 ?_
    refine RegI.p 3 [(2, .int .i64 p2), (13, .string (rdD ([(⟨#[108, 100]⟩ : ByteArray), (⟨#[99, 112]⟩ : ByteArray), (⟨#[105, 110]⟩ : ByteArray), (⟨#[111, 116]⟩ : ByteArray)] : List ByteArray) p3)), (35, .bool false)] ?_
    refine RegI.l [2, 13, 35] [(2, .int .i64 p2), (13, .string (rdD ([(⟨#[108, 100]⟩ : ByteArray), (⟨#[99, 112]⟩ : ByteArray), (⟨#[105, 110]⟩ : ByteArray), (⟨#[111, 116]⟩ : ByteArray)] : List ByteArray) p3)), (35, .bool false)] ?_
    exact hj30 false w15 h (h20.pick [] (by decide))
  ·skip
   refine RunsI.f 25 false hc14 ?_
   refine RunsI.b false 17 ?_
   refine RunsI.g 1 [.c 18] ?_
   refine RunsI.g 2 [.c 20, .c 21, .c 26] ?_
   refine RunsI.r ?_
   refine RegI.p 2 [(2, .int .i64 p2), (3, .int .i64 p3), (4, .int .i64 p4), (5, .int .i64 p5), (6, .pointer (some ⟨b2, 0, none⟩)), (44, .bool (p1 != 1))] ?_
   refine RegI.d ?_
   rcases of_cond h with ⟨hc52, h⟩ | ⟨hc52, h⟩
   ·skip
    refine RunsI.f 44 true hc52 ?_
    refine RunsI.b true 22 ?_
    refine RunsI.g 1 [.c 23, .c 24, .c 26] ?_
    refine RunsI.r ?_
    refine RegI.p 1 [(12, .string (⟨#[110, 111, 112, 42]⟩ : ByteArray))] ?_
    refine RegI.d ?_
    refine RunsI.t (.string (⟨#[110, 111, 112, 42]⟩ : ByteArray)) ?_
    obtain rfl := Option.some.inj h
    exact ⟨rfl, h9.below⟩
   ·skip
    refine RunsI.f 44 false hc52 ?_
    refine RunsI.b false 25 ?_
    refine RunsI.g 1 [.c 26] ?_
    refine RunsI.g 1 [.c 27, .c 28] ?_
    refine RunsI.r ?_
    refine RegI.p 2 [(2, .int .i64 p2), (3, .int .i64 p3), (4, .int .i64 p4), (5, .int .i64 p5), (6, .pointer (some ⟨b2, 0, none⟩)), (45, .agg #[.int .i64 0, .int .u8 0, .int .u8 0, .int .u16 0, .int .i64 0, .int .i64 0]), (46, .int .i64 p2)] ?_
    obtain ⟨t57, hg56, h⟩ := of_bind h
    refine RegI.o (OpE.call 47 (by kernel_rfl) 61 #[.agg #[.int .i64 0, .int .u8 0, .int .u8 0, .int .u16 0, .int .i64 0, .int .i64 0], .int .i64 p2] (by kernel_rfl) ((charabancref09_reg_61_ok K _ w10  0 0 0 0 0 0 p2 h9.old' hg56).mono ?_))
    rintro _ w53 ⟨rfl, hb54⟩
    refine ⟨_, rfl, ?_⟩
    have h55 := h9.call hb54
    refine RegI.p 1 [(2, .int .i64 p2), (3, .int .i64 p3), (4, .int .i64 p4), (5, .int .i64 p5), (6, .pointer (some ⟨b2, 0, none⟩)), (14, .string t57)] ?_
    refine RegI.d ?_
    refine RunsI.g 1 [.c 29, .c 30] ?_
    refine RunsI.r ?_
    refine RegI.p 2 [(2, .int .i64 p2), (3, .int .i64 p3), (5, .int .i64 p5), (6, .pointer (some ⟨b2, 0, none⟩)), (14, .string t57), (48, .agg #[.int .i64 0, .int .u8 0, .int .u8 0, .int .u16 0, .int .i64 0, .int .i64 0]), (49, .int .i64 p4)] ?_
    obtain ⟨t62, hg61, h⟩ := of_bind h
    refine RegI.o (OpE.call 50 (by kernel_rfl) 97 #[.agg #[.int .i64 0, .int .u8 0, .int .u8 0, .int .u16 0, .int .i64 0, .int .i64 0], .int .i64 p4, .string (⟨#[115, 112]⟩ : ByteArray)] (by kernel_rfl) ((charabancref09_pair_97_ok K _ w53  0 0 0 0 0 0 p4 (⟨#[115, 112]⟩ : ByteArray) h55.old' hg61).mono ?_))
    rintro _ w58 ⟨rfl, hb59⟩
    refine ⟨_, rfl, ?_⟩
    have h60 := h55.call hb59
    refine RegI.p 1 [(2, .int .i64 p2), (3, .int .i64 p3), (5, .int .i64 p5), (6, .pointer (some ⟨b2, 0, none⟩)), (14, .string t57), (15, .string t62)] ?_
    refine RegI.d ?_
    refine RunsI.g 2 [.c 32, .c 33, .c 105] ?_
    refine RunsI.r ?_
    refine RegI.p 1 [(2, .int .i64 p2), (5, .int .i64 p5), (6, .pointer (some ⟨b2, 0, none⟩)), (14, .string t57), (15, .string t62), (51, .int .i64 p3)] ?_
    refine RegI.d ?_
    refine RunsI.g 2 [.c 35, .c 36, .blk 0, .c 105] ?_
    refine RunsI.r ?_
    refine RegI.p 2 [(2, .int .i64 p2), (5, .int .i64 p5), (6, .pointer (some ⟨b2, 0, none⟩)), (14, .string t57), (15, .string t62), (51, .int .i64 p3), (52, .bool (p3 == 0))] ?_
    refine RegI.d ?_
    rcases of_cond h with ⟨hc63, h⟩ | ⟨hc63, h⟩
    ·skip
     refine RunsI.f 52 true hc63 ?_
     refine RunsI.b true 37 ?_
     refine RunsI.g 2 [.c 39, .c 40, .c 43, .blk 0, .c 105] ?_
     refine RunsI.r ?_
     refine RegI.p 2 [(14, .string t57), (55, .bool (p2 == 6))] ?_
     refine RegI.d ?_
     rcases of_cond h with ⟨hc64, h⟩ | ⟨hc64, h⟩
     ·skip
      refine RunsI.f 55 true hc64 ?_
      refine RunsI.b true 41 ?_
      refine RunsI.r ?_
      refine RegI.p 1 [(14, .string (⟨#[102]⟩ : ByteArray))] ?_
      refine RegI.d ?_
      refine RunsI.g 1 [.c 44, .c 45, .blk 0, .c 105] ?_
      refine RunsI.r ?_
      refine RegI.p 1 [(56, .string (⟨#[102]⟩ : ByteArray))] ?_
      obtain ⟨hc65, h⟩ := of_cond0 h
      refine RegI.o (OpE.run 57 (by kernel_rfl) (run_cat (a := (⟨#[105, 110, 32]⟩ : ByteArray)) (b := (⟨#[102]⟩ : ByteArray)) (by kernel_rfl) hc65) ?_)
      obtain ⟨hc66, h⟩ := of_cond0 h
      refine RegI.o (OpE.run 58 (by kernel_rfl) (run_cat (a := ((⟨#[105, 110, 32]⟩ : ByteArray) ++ (⟨#[102]⟩ : ByteArray))) (b := (⟨#[44, 40, 99, 41]⟩ : ByteArray)) (by kernel_rfl) hc66) ?_)
      refine RegI.p 1 [(12, .string (((⟨#[105, 110, 32]⟩ : ByteArray) ++ (⟨#[102]⟩ : ByteArray)) ++ (⟨#[44, 40, 99, 41]⟩ : ByteArray)))] ?_
      refine RegI.d ?_
      refine RunsI.t (.string (((⟨#[105, 110, 32]⟩ : ByteArray) ++ (⟨#[102]⟩ : ByteArray)) ++ (⟨#[44, 40, 99, 41]⟩ : ByteArray))) ?_
      obtain rfl := Option.some.inj h
      exact ⟨rfl, h60.below⟩
     ·skip
      refine RunsI.f 55 false hc64 ?_
      refine RunsI.b false 42 ?_
      refine RunsI.g 1 [.c 43, .blk 0, .c 105] ?_
      refine RunsI.g 1 [.c 44, .c 45, .blk 0, .c 105] ?_
      refine RunsI.r ?_
      refine RegI.p 1 [(56, .string t57)] ?_
      obtain ⟨hc67, h⟩ := of_cond0 h
      refine RegI.o (OpE.run 57 (by kernel_rfl) (run_cat (a := (⟨#[105, 110, 32]⟩ : ByteArray)) (b := t57) (by kernel_rfl) hc67) ?_)
      obtain ⟨hc68, h⟩ := of_cond0 h
      refine RegI.o (OpE.run 58 (by kernel_rfl) (run_cat (a := ((⟨#[105, 110, 32]⟩ : ByteArray) ++ t57)) (b := (⟨#[44, 40, 99, 41]⟩ : ByteArray)) (by kernel_rfl) hc68) ?_)
      refine RegI.p 1 [(12, .string (((⟨#[105, 110, 32]⟩ : ByteArray) ++ t57) ++ (⟨#[44, 40, 99, 41]⟩ : ByteArray)))] ?_
      refine RegI.d ?_
      refine RunsI.t (.string (((⟨#[105, 110, 32]⟩ : ByteArray) ++ t57) ++ (⟨#[44, 40, 99, 41]⟩ : ByteArray))) ?_
      obtain rfl := Option.some.inj h
      exact ⟨rfl, h60.below⟩
    ·skip
     refine RunsI.f 52 false hc63 ?_
     refine RunsI.b false 46 ?_
     refine RunsI.g 1 [.c 47, .c 48, .blk 0, .c 105] ?_
     refine RunsI.r ?_
     refine RegI.p 2 [(2, .int .i64 p2), (5, .int .i64 p5), (6, .pointer (some ⟨b2, 0, none⟩)), (14, .string t57), (15, .string t62), (51, .int .i64 p3), (59, .bool (p3 == 1))] ?_
     refine RegI.d ?_
     rcases of_cond h with ⟨hc69, h⟩ | ⟨hc69, h⟩
     ·skip
      refine RunsI.f 59 true hc69 ?_
      refine RunsI.b true 49 ?_
      refine RunsI.g 2 [.c 51, .c 52, .c 55, .blk 0, .c 105] ?_
      refine RunsI.r ?_
      refine RegI.p 2 [(14, .string t57), (62, .bool (p2 == 6))] ?_
      refine RegI.d ?_
      rcases of_cond h with ⟨hc70, h⟩ | ⟨hc70, h⟩
      ·skip
       refine RunsI.f 62 true hc70 ?_
       refine RunsI.b true 53 ?_
       refine RunsI.r ?_
       refine RegI.p 1 [(14, .string (⟨#[48]⟩ : ByteArray))] ?_
       refine RegI.d ?_
       refine RunsI.g 1 [.c 56, .c 57, .blk 0, .c 105] ?_
       refine RunsI.r ?_
       refine RegI.p 1 [(63, .string (⟨#[48]⟩ : ByteArray))] ?_
       obtain ⟨hc71, h⟩ := of_cond0 h
       refine RegI.o (OpE.run 64 (by kernel_rfl) (run_cat (a := (⟨#[111, 117, 116, 32, 40, 99, 41, 44]⟩ : ByteArray)) (b := (⟨#[48]⟩ : ByteArray)) (by kernel_rfl) hc71) ?_)
       refine RegI.p 1 [(12, .string ((⟨#[111, 117, 116, 32, 40, 99, 41, 44]⟩ : ByteArray) ++ (⟨#[48]⟩ : ByteArray)))] ?_
       refine RegI.d ?_
       refine RunsI.t (.string ((⟨#[111, 117, 116, 32, 40, 99, 41, 44]⟩ : ByteArray) ++ (⟨#[48]⟩ : ByteArray))) ?_
       obtain rfl := Option.some.inj h
       exact ⟨rfl, h60.below⟩
      ·skip
       refine RunsI.f 62 false hc70 ?_
       refine RunsI.b false 54 ?_
       refine RunsI.g 1 [.c 55, .blk 0, .c 105] ?_
       refine RunsI.g 1 [.c 56, .c 57, .blk 0, .c 105] ?_
       refine RunsI.r ?_
       refine RegI.p 1 [(63, .string t57)] ?_
       obtain ⟨hc72, h⟩ := of_cond0 h
       refine RegI.o (OpE.run 64 (by kernel_rfl) (run_cat (a := (⟨#[111, 117, 116, 32, 40, 99, 41, 44]⟩ : ByteArray)) (b := t57) (by kernel_rfl) hc72) ?_)
       refine RegI.p 1 [(12, .string ((⟨#[111, 117, 116, 32, 40, 99, 41, 44]⟩ : ByteArray) ++ t57))] ?_
       refine RegI.d ?_
       refine RunsI.t (.string ((⟨#[111, 117, 116, 32, 40, 99, 41, 44]⟩ : ByteArray) ++ t57)) ?_
       obtain rfl := Option.some.inj h
       exact ⟨rfl, h60.below⟩
     ·skip
      refine RunsI.f 59 false hc69 ?_
      refine RunsI.b false 58 ?_
      refine RunsI.g 1 [.c 59, .c 60, .blk 0, .c 105] ?_
      refine RunsI.r ?_
      refine RegI.p 2 [(2, .int .i64 p2), (5, .int .i64 p5), (6, .pointer (some ⟨b2, 0, none⟩)), (15, .string t62), (51, .int .i64 p3), (65, .bool (p3 == 2))] ?_
      refine RegI.d ?_
      rcases of_cond h with ⟨hc73, h⟩ | ⟨hc73, h⟩
      ·skip
       refine RunsI.f 65 true hc73 ?_
       refine RunsI.b true 61 ?_
       refine RunsI.g 1 [.c 62, .c 63, .blk 0, .c 105] ?_
       refine RunsI.r ?_
       refine RegI.o (OpE.lit 67 9 [.string (⟨#[115, 98, 99, 32, 104, 108, 44]⟩ : ByteArray), .string (⟨#[97, 100, 99, 32, 104, 108, 44]⟩ : ByteArray)] 2 h60 (by kernel_rfl) (by kernel_rfl) ?_)
       intro w74 b75 h76 hb77 hn78
       refine RegI.p 1 [(15, .string t62), (67, .slice (some ⟨b75, 0, none⟩) (([(⟨#[115, 98, 99, 32, 104, 108, 44]⟩ : ByteArray), (⟨#[97, 100, 99, 32, 104, 108, 44]⟩ : ByteArray)] : List ByteArray).length) 2), (68, .int .i64 p5)] ?_
       have h79 := h76.boxOwn 1 rfl Rp.str ([(⟨#[115, 98, 99, 32, 104, 108, 44]⟩ : ByteArray), (⟨#[97, 100, 99, 32, 104, 108, 44]⟩ : ByteArray)] : List ByteArray) (cells_str _ _ _) (Nat.le_of_ble_eq_true (by kernel_rfl))
       obtain ⟨hc80, h⟩ := of_cond0 h
       refine RegI.o (OpE.idxOwnA 69 1 55 9 p5 h79 (by kernel_rfl) rfl (by kernel_rfl) (by kernel_rfl) hc80 ?_)
       refine RegI.o (OpE.loadOwnA 70 1 9 9 p5 0 (o := (Int.toNat p5) * 1 + 0) h79 (by kernel_rfl) rfl (by kernel_rfl) (by kernel_rfl) hc80 (fun cs81 hk82 => ?_))
       obtain rfl := hk82
       refine ⟨.string (rdD ([(⟨#[115, 98, 99, 32, 104, 108, 44]⟩ : ByteArray), (⟨#[97, 100, 99, 32, 104, 108, 44]⟩ : ByteArray)] : List ByteArray) p5), by kernel_rfl, ?_⟩
       refine RegI.p 1 [(70, .string (rdD ([(⟨#[115, 98, 99, 32, 104, 108, 44]⟩ : ByteArray), (⟨#[97, 100, 99, 32, 104, 108, 44]⟩ : ByteArray)] : List ByteArray) p5)), (71, .string t62)] ?_
       obtain ⟨hc83, h⟩ := of_cond0 h
       refine RegI.o (OpE.run 72 (by kernel_rfl) (run_cat (a := (rdD ([(⟨#[115, 98, 99, 32, 104, 108, 44]⟩ : ByteArray), (⟨#[97, 100, 99, 32, 104, 108, 44]⟩ : ByteArray)] : List ByteArray) p5)) (b := t62) (by kernel_rfl) hc83) ?_)
       refine RegI.p 1 [(12, .string ((rdD ([(⟨#[115, 98, 99, 32, 104, 108, 44]⟩ : ByteArray), (⟨#[97, 100, 99, 32, 104, 108, 44]⟩ : ByteArray)] : List ByteArray) p5) ++ t62))] ?_
       refine RegI.d ?_
       refine RunsI.t (.string ((rdD ([(⟨#[115, 98, 99, 32, 104, 108, 44]⟩ : ByteArray), (⟨#[97, 100, 99, 32, 104, 108, 44]⟩ : ByteArray)] : List ByteArray) p5) ++ t62)) ?_
       obtain rfl := Option.some.inj h
       exact ⟨rfl, h79.below⟩
      ·skip
       refine RunsI.f 65 false hc73 ?_
       refine RunsI.b false 64 ?_
       refine RunsI.g 1 [.c 65, .c 66, .blk 0, .c 105] ?_
       refine RunsI.r ?_
       refine RegI.p 2 [(2, .int .i64 p2), (5, .int .i64 p5), (6, .pointer (some ⟨b2, 0, none⟩)), (15, .string t62), (51, .int .i64 p3), (73, .bool (p3 == 3))] ?_
       refine RegI.d ?_
       rcases of_cond h with ⟨hc84, h⟩ | ⟨hc84, h⟩
       ·skip
        refine RunsI.f 73 true hc84 ?_
        refine RunsI.b true 67 ?_
        refine RunsI.g 2 [.c 69, .c 70, .c 75, .blk 0, .c 105] ?_
        refine RunsI.r ?_
        refine RegI.p 2 [(6, .pointer (some ⟨b2, 0, none⟩)), (15, .string t62), (76, .bool (p5 == 0))] ?_
        refine RegI.d ?_
        rcases of_cond h with ⟨hc85, h⟩ | ⟨hc85, h⟩
        ·skip
         refine RunsI.f 76 true hc85 ?_
         refine RunsI.b true 71 ?_
         refine RunsI.g 1 [.c 72, .c 73, .c 75, .blk 0, .c 105] ?_
         refine RunsI.r ?_
         refine RegI.o (OpE.loadBox 77 0 51 b2 0 (.agg #[.int .i64 p0_0, .int .u8 p0_1, .int .u8 p0_2, .int .u16 p0_3, .int .i64 p0_4, .int .i64 p0_5]) h60 (by kernel_rfl) (by kernel_rfl) rfl (by kernel_rfl) ?_)
         obtain ⟨t90, hg89, h⟩ := of_bind h
         refine RegI.o (OpE.call 78 (by kernel_rfl) 98 #[.agg #[.int .i64 p0_0, .int .u8 p0_1, .int .u8 p0_2, .int .u16 p0_3, .int .i64 p0_4, .int .i64 p0_5]] (by kernel_rfl) ((charabancref09_nn_98_ok K _ w58  p0_0 p0_1 p0_2 p0_3 p0_4 p0_5 h60.old' hg89).mono ?_))
         rintro _ w86 ⟨rfl, hb87⟩
         refine ⟨_, rfl, ?_⟩
         have h88 := h60.call hb87
         obtain ⟨hc91, h⟩ := of_cond0 h
         refine RegI.o (OpE.run 79 (by kernel_rfl) (run_cat (a := (⟨#[108, 100, 32, 40]⟩ : ByteArray)) (b := t90) (by kernel_rfl) hc91) ?_)
         obtain ⟨hc92, h⟩ := of_cond0 h
         refine RegI.o (OpE.run 80 (by kernel_rfl) (run_cat (a := ((⟨#[108, 100, 32, 40]⟩ : ByteArray) ++ t90)) (b := (⟨#[41, 44]⟩ : ByteArray)) (by kernel_rfl) hc92) ?_)
         refine RegI.p 1 [(80, .string (((⟨#[108, 100, 32, 40]⟩ : ByteArray) ++ t90) ++ (⟨#[41, 44]⟩ : ByteArray))), (81, .string t62)] ?_
         obtain ⟨hc93, h⟩ := of_cond0 h
         refine RegI.o (OpE.run 82 (by kernel_rfl) (run_cat (a := (((⟨#[108, 100, 32, 40]⟩ : ByteArray) ++ t90) ++ (⟨#[41, 44]⟩ : ByteArray))) (b := t62) (by kernel_rfl) hc93) ?_)
         refine RegI.p 1 [(12, .string ((((⟨#[108, 100, 32, 40]⟩ : ByteArray) ++ t90) ++ (⟨#[41, 44]⟩ : ByteArray)) ++ t62))] ?_
         refine RegI.d ?_
         refine RunsI.t (.string ((((⟨#[108, 100, 32, 40]⟩ : ByteArray) ++ t90) ++ (⟨#[41, 44]⟩ : ByteArray)) ++ t62)) ?_
         obtain rfl := Option.some.inj h
         exact ⟨rfl, h88.below⟩
        ·skip
         refine RunsI.f 76 false hc85 ?_
         refine RunsI.b false 74 ?_
         refine RunsI.g 1 [.c 75, .blk 0, .c 105] ?_
         refine RunsI.g 1 [.c 76, .c 77, .blk 0, .c 105] ?_
         refine RunsI.r ?_
         refine RegI.p 1 [(6, .pointer (some ⟨b2, 0, none⟩)), (83, .string t62)] ?_
         obtain ⟨hc94, h⟩ := of_cond0 h
         refine RegI.o (OpE.run 84 (by kernel_rfl) (run_cat (a := (⟨#[108, 100, 32]⟩ : ByteArray)) (b := t62) (by kernel_rfl) hc94) ?_)
         obtain ⟨hc95, h⟩ := of_cond0 h
         refine RegI.o (OpE.run 85 (by kernel_rfl) (run_cat (a := ((⟨#[108, 100, 32]⟩ : ByteArray) ++ t62)) (b := (⟨#[44, 40]⟩ : ByteArray)) (by kernel_rfl) hc95) ?_)
         refine RegI.o (OpE.loadBox 86 0 51 b2 0 (.agg #[.int .i64 p0_0, .int .u8 p0_1, .int .u8 p0_2, .int .u16 p0_3, .int .i64 p0_4, .int .i64 p0_5]) h60 (by kernel_rfl) (by kernel_rfl) rfl (by kernel_rfl) ?_)
         obtain ⟨t100, hg99, h⟩ := of_bind h
         refine RegI.o (OpE.call 87 (by kernel_rfl) 98 #[.agg #[.int .i64 p0_0, .int .u8 p0_1, .int .u8 p0_2, .int .u16 p0_3, .int .i64 p0_4, .int .i64 p0_5]] (by kernel_rfl) ((charabancref09_nn_98_ok K _ w58  p0_0 p0_1 p0_2 p0_3 p0_4 p0_5 h60.old' hg99).mono ?_))
         rintro _ w96 ⟨rfl, hb97⟩
         refine ⟨_, rfl, ?_⟩
         have h98 := h60.call hb97
         obtain ⟨hc101, h⟩ := of_cond0 h
         refine RegI.o (OpE.run 88 (by kernel_rfl) (run_cat (a := (((⟨#[108, 100, 32]⟩ : ByteArray) ++ t62) ++ (⟨#[44, 40]⟩ : ByteArray))) (b := t100) (by kernel_rfl) hc101) ?_)
         obtain ⟨hc102, h⟩ := of_cond0 h
         refine RegI.o (OpE.run 89 (by kernel_rfl) (run_cat (a := ((((⟨#[108, 100, 32]⟩ : ByteArray) ++ t62) ++ (⟨#[44, 40]⟩ : ByteArray)) ++ t100)) (b := (⟨#[41]⟩ : ByteArray)) (by kernel_rfl) hc102) ?_)
         refine RegI.p 1 [(12, .string (((((⟨#[108, 100, 32]⟩ : ByteArray) ++ t62) ++ (⟨#[44, 40]⟩ : ByteArray)) ++ t100) ++ (⟨#[41]⟩ : ByteArray)))] ?_
         refine RegI.d ?_
         refine RunsI.t (.string (((((⟨#[108, 100, 32]⟩ : ByteArray) ++ t62) ++ (⟨#[44, 40]⟩ : ByteArray)) ++ t100) ++ (⟨#[41]⟩ : ByteArray))) ?_
         obtain rfl := Option.some.inj h
         exact ⟨rfl, h98.below⟩
       ·skip
        refine RunsI.f 73 false hc84 ?_
        refine RunsI.b false 78 ?_
        refine RunsI.g 1 [.c 79, .c 80, .blk 0, .c 105] ?_
        refine RunsI.r ?_
        refine RegI.p 2 [(2, .int .i64 p2), (51, .int .i64 p3), (90, .bool (p3 == 4))] ?_
        refine RegI.d ?_
        rcases of_cond h with ⟨hc103, h⟩ | ⟨hc103, h⟩
        ·skip
         refine RunsI.f 90 true hc103 ?_
         refine RunsI.b true 81 ?_
         refine RunsI.g 1 [.c 82, .c 83, .blk 0, .c 105] ?_
         refine RunsI.r ?_
         refine RegI.p 1 [(12, .string (⟨#[110, 101, 103]⟩ : ByteArray))] ?_
         refine RegI.d ?_
         refine RunsI.t (.string (⟨#[110, 101, 103]⟩ : ByteArray)) ?_
         obtain rfl := Option.some.inj h
         exact ⟨rfl, h60.below⟩
        ·skip
         refine RunsI.f 90 false hc103 ?_
         refine RunsI.b false 84 ?_
         refine RunsI.g 1 [.c 85, .c 86, .blk 0, .c 105] ?_
         refine RunsI.r ?_
         refine RegI.p 2 [(2, .int .i64 p2), (51, .int .i64 p3), (92, .bool (p3 == 5))] ?_
         refine RegI.d ?_
         rcases of_cond h with ⟨hc104, h⟩ | ⟨hc104, h⟩
         ·skip
          refine RunsI.f 92 true hc104 ?_
          refine RunsI.b true 87 ?_
          refine RunsI.g 2 [.c 89, .c 90, .c 95, .blk 0, .c 105] ?_
          refine RunsI.r ?_
          refine RegI.p 2 [(95, .bool (p2 == 1))] ?_
          refine RegI.d ?_
          rcases of_cond h with ⟨hc105, h⟩ | ⟨hc105, h⟩
          ·skip
           refine RunsI.f 95 true hc105 ?_
           refine RunsI.b true 91 ?_
           refine RunsI.g 1 [.c 92, .c 93, .c 95, .blk 0, .c 105] ?_
           refine RunsI.r ?_
           refine RegI.p 1 [(12, .string (⟨#[114, 101, 116, 105]⟩ : ByteArray))] ?_
           refine RegI.d ?_
           refine RunsI.t (.string (⟨#[114, 101, 116, 105]⟩ : ByteArray)) ?_
           obtain rfl := Option.some.inj h
           exact ⟨rfl, h60.below⟩
          ·skip
           refine RunsI.f 95 false hc105 ?_
           refine RunsI.b false 94 ?_
           refine RunsI.g 1 [.c 95, .blk 0, .c 105] ?_
           refine RunsI.g 1 [.c 96, .c 97, .blk 0, .c 105] ?_
           refine RunsI.r ?_
           refine RegI.p 1 [(12, .string (⟨#[114, 101, 116, 110]⟩ : ByteArray))] ?_
           refine RegI.d ?_
           refine RunsI.t (.string (⟨#[114, 101, 116, 110]⟩ : ByteArray)) ?_
           obtain rfl := Option.some.inj h
           exact ⟨rfl, h60.below⟩
         ·skip
          refine RunsI.f 92 false hc104 ?_
          refine RunsI.b false 98 ?_
          refine RunsI.g 1 [.c 99, .c 100, .blk 0, .c 105] ?_
          refine RunsI.r ?_
          refine RegI.p 2 [(2, .int .i64 p2), (96, .bool (p3 == 6))] ?_
          refine RegI.d ?_
          rcases of_cond h with ⟨hc106, h⟩ | ⟨hc106, h⟩
          ·skip
           refine RunsI.f 96 true hc106 ?_
           refine RunsI.b true 101 ?_
           refine RunsI.g 1 [.c 102, .c 103, .blk 0, .c 105] ?_
           refine RunsI.r ?_
           refine RegI.o (OpE.lit 98 9 [.string (⟨#[48]⟩ : ByteArray), .string (⟨#[48]⟩ : ByteArray), .string (⟨#[49]⟩ : ByteArray), .string (⟨#[50]⟩ : ByteArray)] 4 h60 (by kernel_rfl) (by kernel_rfl) ?_)
           intro w107 b108 h109 hb110 hn111
           refine RegI.p 2 [(98, .slice (some ⟨b108, 0, none⟩) (([(⟨#[48]⟩ : ByteArray), (⟨#[48]⟩ : ByteArray), (⟨#[49]⟩ : ByteArray), (⟨#[50]⟩ : ByteArray)] : List ByteArray).length) 4), (100, .int .i64 (Int.tmod p2 4))] ?_
           have h112 := h109.boxOwn 1 rfl Rp.str ([(⟨#[48]⟩ : ByteArray), (⟨#[48]⟩ : ByteArray), (⟨#[49]⟩ : ByteArray), (⟨#[50]⟩ : ByteArray)] : List ByteArray) (cells_str _ _ _) (Nat.le_of_ble_eq_true (by kernel_rfl))
           obtain ⟨hc113, h⟩ := of_cond0 h
           refine RegI.o (OpE.idxOwnA 101 1 55 9 (Int.tmod p2 4) h112 (by kernel_rfl) rfl (by kernel_rfl) (by kernel_rfl) hc113 ?_)
           refine RegI.o (OpE.loadOwnA 102 1 9 9 (Int.tmod p2 4) 0 (o := (Int.toNat (Int.tmod p2 4)) * 1 + 0) h112 (by kernel_rfl) rfl (by kernel_rfl) (by kernel_rfl) hc113 (fun cs114 hk115 => ?_))
           obtain rfl := hk115
           refine ⟨.string (rdD ([(⟨#[48]⟩ : ByteArray), (⟨#[48]⟩ : ByteArray), (⟨#[49]⟩ : ByteArray), (⟨#[50]⟩ : ByteArray)] : List ByteArray) (Int.tmod p2 4)), by kernel_rfl, ?_⟩
           obtain ⟨hc116, h⟩ := of_cond0 h
           refine RegI.o (OpE.run 103 (by kernel_rfl) (run_cat (a := (⟨#[105, 109, 32]⟩ : ByteArray)) (b := (rdD ([(⟨#[48]⟩ : ByteArray), (⟨#[48]⟩ : ByteArray), (⟨#[49]⟩ : ByteArray), (⟨#[50]⟩ : ByteArray)] : List ByteArray) (Int.tmod p2 4))) (by kernel_rfl) hc116) ?_)
           refine RegI.p 1 [(12, .string ((⟨#[105, 109, 32]⟩ : ByteArray) ++ (rdD ([(⟨#[48]⟩ : ByteArray), (⟨#[48]⟩ : ByteArray), (⟨#[49]⟩ : ByteArray), (⟨#[50]⟩ : ByteArray)] : List ByteArray) (Int.tmod p2 4))))] ?_
           refine RegI.d ?_
           refine RunsI.t (.string ((⟨#[105, 109, 32]⟩ : ByteArray) ++ (rdD ([(⟨#[48]⟩ : ByteArray), (⟨#[48]⟩ : ByteArray), (⟨#[49]⟩ : ByteArray), (⟨#[50]⟩ : ByteArray)] : List ByteArray) (Int.tmod p2 4)))) ?_
           obtain rfl := Option.some.inj h
           exact ⟨rfl, h112.below⟩
          ·skip
           refine RunsI.f 96 false hc106 ?_
           refine RunsI.b false 104 ?_
           refine RunsI.g 1 [.blk 0, .c 105] ?_
           refine RunsI.g 2 [.c 106, .c 107] ?_
           refine RunsI.r ?_
           refine RegI.o (OpE.lit 104 9 [.string (⟨#[108, 100, 32, 105, 44, 97]⟩ : ByteArray), .string (⟨#[108, 100, 32, 114, 44, 97]⟩ : ByteArray), .string (⟨#[108, 100, 32, 97, 44, 105]⟩ : ByteArray), .string (⟨#[108, 100, 32, 97, 44, 114]⟩ : ByteArray), .string (⟨#[114, 114, 100]⟩ : ByteArray), .string (⟨#[114, 108, 100]⟩ : ByteArray), .string (⟨#[110, 111, 112, 42]⟩ : ByteArray), .string (⟨#[110, 111, 112, 42]⟩ : ByteArray)] 8 h60 (by kernel_rfl) (by kernel_rfl) ?_)
           intro w117 b118 h119 hb120 hn121
           refine RegI.p 1 [(104, .slice (some ⟨b118, 0, none⟩) (([(⟨#[108, 100, 32, 105, 44, 97]⟩ : ByteArray), (⟨#[108, 100, 32, 114, 44, 97]⟩ : ByteArray), (⟨#[108, 100, 32, 97, 44, 105]⟩ : ByteArray), (⟨#[108, 100, 32, 97, 44, 114]⟩ : ByteArray), (⟨#[114, 114, 100]⟩ : ByteArray), (⟨#[114, 108, 100]⟩ : ByteArray), (⟨#[110, 111, 112, 42]⟩ : ByteArray), (⟨#[110, 111, 112, 42]⟩ : ByteArray)] : List ByteArray).length) 8), (105, .int .i64 p2)] ?_
           have h122 := h119.boxOwn 1 rfl Rp.str ([(⟨#[108, 100, 32, 105, 44, 97]⟩ : ByteArray), (⟨#[108, 100, 32, 114, 44, 97]⟩ : ByteArray), (⟨#[108, 100, 32, 97, 44, 105]⟩ : ByteArray), (⟨#[108, 100, 32, 97, 44, 114]⟩ : ByteArray), (⟨#[114, 114, 100]⟩ : ByteArray), (⟨#[114, 108, 100]⟩ : ByteArray), (⟨#[110, 111, 112, 42]⟩ : ByteArray), (⟨#[110, 111, 112, 42]⟩ : ByteArray)] : List ByteArray) (cells_str _ _ _) (Nat.le_of_ble_eq_true (by kernel_rfl))
           obtain ⟨hc123, h⟩ := of_cond0 h
           refine RegI.o (OpE.idxOwnA 106 1 55 9 p2 h122 (by kernel_rfl) rfl (by kernel_rfl) (by kernel_rfl) hc123 ?_)
           refine RegI.o (OpE.loadOwnA 107 1 9 9 p2 0 (o := (Int.toNat p2) * 1 + 0) h122 (by kernel_rfl) rfl (by kernel_rfl) (by kernel_rfl) hc123 (fun cs124 hk125 => ?_))
           obtain rfl := hk125
           refine ⟨.string (rdD ([(⟨#[108, 100, 32, 105, 44, 97]⟩ : ByteArray), (⟨#[108, 100, 32, 114, 44, 97]⟩ : ByteArray), (⟨#[108, 100, 32, 97, 44, 105]⟩ : ByteArray), (⟨#[108, 100, 32, 97, 44, 114]⟩ : ByteArray), (⟨#[114, 114, 100]⟩ : ByteArray), (⟨#[114, 108, 100]⟩ : ByteArray), (⟨#[110, 111, 112, 42]⟩ : ByteArray), (⟨#[110, 111, 112, 42]⟩ : ByteArray)] : List ByteArray) p2), by kernel_rfl, ?_⟩
           refine RegI.p 1 [(12, .string (rdD ([(⟨#[108, 100, 32, 105, 44, 97]⟩ : ByteArray), (⟨#[108, 100, 32, 114, 44, 97]⟩ : ByteArray), (⟨#[108, 100, 32, 97, 44, 105]⟩ : ByteArray), (⟨#[108, 100, 32, 97, 44, 114]⟩ : ByteArray), (⟨#[114, 114, 100]⟩ : ByteArray), (⟨#[114, 108, 100]⟩ : ByteArray), (⟨#[110, 111, 112, 42]⟩ : ByteArray), (⟨#[110, 111, 112, 42]⟩ : ByteArray)] : List ByteArray) p2))] ?_
           refine RegI.d ?_
           refine RunsI.t (.string (rdD ([(⟨#[108, 100, 32, 105, 44, 97]⟩ : ByteArray), (⟨#[108, 100, 32, 114, 44, 97]⟩ : ByteArray), (⟨#[108, 100, 32, 97, 44, 105]⟩ : ByteArray), (⟨#[108, 100, 32, 97, 44, 114]⟩ : ByteArray), (⟨#[114, 114, 100]⟩ : ByteArray), (⟨#[114, 108, 100]⟩ : ByteArray), (⟨#[110, 111, 112, 42]⟩ : ByteArray), (⟨#[110, 111, 112, 42]⟩ : ByteArray)] : List ByteArray) p2)) ?_
           obtain rfl := Option.some.inj h
           exact ⟨rfl, h122.below⟩
 clear hJ12
 rcases of_cond h with ⟨hc6, h⟩ | ⟨hc6, h⟩
 ·skip
  refine RegI.f 18 true hc6 ?_
  refine RegI.p 4 [(1, .int .i64 p1), (2, .int .i64 p2), (3, .int .i64 p3), (4, .int .i64 p4), (5, .int .i64 p5), (6, .pointer (some ⟨b2, 0, none⟩)), (22, .bool (decide (p3 < 4)))] ?_
  rcases of_cond h with ⟨hc7, h⟩ | ⟨hc7, h⟩
  ·skip
   refine RegI.f 22 true hc7 ?_
   refine RegI.p 3 [(1, .int .i64 p1), (2, .int .i64 p2), (3, .int .i64 p3), (4, .int .i64 p4), (5, .int .i64 p5), (6, .pointer (some ⟨b2, 0, none⟩)), (25, .bool (decide (p2 > 3)))] ?_
   refine RegI.l [1, 2, 3, 4, 5, 6, 25] [(1, .int .i64 p1), (2, .int .i64 p2), (3, .int .i64 p3), (4, .int .i64 p4), (5, .int .i64 p5), (6, .pointer (some ⟨b2, 0, none⟩)), (25, .bool (decide (p2 > 3)))] ?_
   exact hj13 (decide (p2 > 3)) w1 h (h3.pick [0] (by decide))
  ·skip
   refine RegI.f 22 false hc7 ?_
   refine RegI.p 3 [(1, .int .i64 p1), (2, .int .i64 p2), (3, .int .i64 p3), (4, .int .i64 p4), (5, .int .i64 p5), (6, .pointer (some ⟨b2, 0, none⟩)), (25, .bool false)] ?_
   refine RegI.l [1, 2, 3, 4, 5, 6, 25] [(1, .int .i64 p1), (2, .int .i64 p2), (3, .int .i64 p3), (4, .int .i64 p4), (5, .int .i64 p5), (6, .pointer (some ⟨b2, 0, none⟩)), (25, .bool false)] ?_
   exact hj13 false w1 h (h3.pick [0] (by decide))
 ·skip
  refine RegI.f 18 false hc6 ?_
  refine RegI.p 7 [(1, .int .i64 p1), (2, .int .i64 p2), (3, .int .i64 p3), (4, .int .i64 p4), (5, .int .i64 p5), (6, .pointer (some ⟨b2, 0, none⟩)), (25, .bool false)] ?_
  refine RegI.l [1, 2, 3, 4, 5, 6, 25] [(1, .int .i64 p1), (2, .int .i64 p2), (3, .int .i64 p3), (4, .int .i64 p4), (5, .int .i64 p5), (6, .pointer (some ⟨b2, 0, none⟩)), (25, .bool false)] ?_
  exact hj13 false w1 h (h3.pick [0] (by decide))
end

/-! ### charabanc/charabancref09.to (function 99) -/
section
def charabancref09_to_99.post (M0 : Nat → Prop) (w0 : World) (r : ByteArray) : Ending → World → Prop := fun e w => e = .returned (.string r) ∧ Below w0.heap.size w0 w
def charabancref09_to_99.f (K : Nat) (p0_0 : Int) (p0_1 : Int) (p0_2 : Int) (p0_3 : Int) (p0_4 : Int) (p0_5 : Int) : Option ByteArray := (charabancref01_Signed_123.f K (IntKind.wrap .u8 (Int.tmod p0_3 256))).bind fun t10 => (charabancref09_sign_122.f K (IntKind.wrap .i64 (t10 + 2))).bind fun t15 => cond (mayCat (⟨#[36]⟩ : ByteArray).size t15.size) (some ((⟨#[36]⟩ : ByteArray) ++ t15)) none
set_option maxRecDepth 100000 in
theorem charabancref09_to_99_ok (K : Nat) (M0 : Nat → Prop) (w0 : World) (p0_0 : Int) (p0_1 : Int) (p0_2 : Int) (p0_3 : Int) (p0_4 : Int) (p0_5 : Int) (ho : ∀ b, M0 b → b < w0.heap.size) {r : ByteArray} (h : charabancref09_to_99.f K p0_0 p0_1 p0_2 p0_3 p0_4 p0_5 = some r) :
  Calls Tryd.prog 99 #[.agg #[.int .i64 p0_0, .int .u8 p0_1, .int .u8 p0_2, .int .u16 p0_3, .int .i64 p0_4, .int .i64 p0_5]] w0 (charabancref09_to_99.post M0 w0 r) := by
 unfold charabancref09_to_99.f at h
 have h0 : Holds M0 w0 w0 [] := Holds.start ho
 have h0 : Holds M0 w0 w0 [] := h0
 refine calls_of F99 rfl [.agg #[.int .i64 p0_0, .int .u8 p0_1, .int .u8 p0_2, .int .u16 p0_3, .int .i64 p0_4, .int .i64 p0_5]] (by kernel_rfl) ?_
 refine RunsI.g 1 [.c 1, .c 2] ?_
 refine RunsI.r ?_
 refine RegI.o (OpE.box 1 51 [.int .i64 p0_0, .int .u8 p0_1, .int .u8 p0_2, .int .u16 p0_3, .int .i64 p0_4, .int .i64 p0_5] h0 (by kernel_rfl) (by kernel_rfl) ?_)
 intro w1 b2 h3 hb4 hn5
 refine RegI.p 1 [(1, .pointer (some ⟨b2, 0, none⟩))] ?_
 refine RegI.d ?_
 refine RunsI.g 1 [.c 3, .c 4] ?_
 refine RunsI.r ?_
 refine RegI.p 1 [(3, .pointer (some ⟨b2, 3, none⟩))] ?_
 refine RegI.o (OpE.loadBox 4 0 22 b2 3 (.int .u16 p0_3) h3 (by kernel_rfl) (by kernel_rfl) rfl (by kernel_rfl) ?_)
 refine RegI.p 2 [(6, .int .u8 (IntKind.wrap .u8 (Int.tmod p0_3 256)))] ?_
 obtain ⟨t10, hg9, h⟩ := of_bind h
 refine RegI.o (OpE.call 7 (by kernel_rfl) 123 #[.int .u8 (IntKind.wrap .u8 (Int.tmod p0_3 256))] (by kernel_rfl) ((charabancref01_Signed_123_ok K _ w1  (IntKind.wrap .u8 (Int.tmod p0_3 256)) h3.old' hg9).mono ?_))
 rintro _ w6 ⟨rfl, hb7⟩
 refine ⟨_, rfl, ?_⟩
 have h8 := h3.call hb7
 refine RegI.p 1 [(8, .int .i64 (IntKind.wrap .i64 (t10 + 2)))] ?_
 obtain ⟨t15, hg14, h⟩ := of_bind h
 refine RegI.o (OpE.call 9 (by kernel_rfl) 122 #[.int .i64 (IntKind.wrap .i64 (t10 + 2))] (by kernel_rfl) ((charabancref09_sign_122_ok K _ w6  (IntKind.wrap .i64 (t10 + 2)) h8.old' hg14).mono ?_))
 rintro _ w11 ⟨rfl, hb12⟩
 refine ⟨_, rfl, ?_⟩
 have h13 := h8.call hb12
 obtain ⟨hc16, h⟩ := of_cond0 h
 refine RegI.o (OpE.run 10 (by kernel_rfl) (run_cat (a := (⟨#[36]⟩ : ByteArray)) (b := t15) (by kernel_rfl) hc16) ?_)
 refine RegI.p 1 [(2, .string ((⟨#[36]⟩ : ByteArray) ++ t15))] ?_
 refine RegI.d ?_
 refine RunsI.t (.string ((⟨#[36]⟩ : ByteArray) ++ t15)) ?_
 obtain rfl := Option.some.inj h
 exact ⟨rfl, h13.below⟩
end

/-! ### charabanc/charabancref09.conds (function 100) -/
section
def charabancref09_conds_100.post (M0 : Nat → Prop) (w0 : World) (r : (List ByteArray)) : Ending → World → Prop := fun e w => ∃ (A1 : Option Addr) (c1 : Nat), e = .returned (.slice A1 r.length c1) ∧ Holds M0 w0 w [own Rp.str 9 (.slice A1 r.length c1) r]
def charabancref09_conds_100.f (K : Nat) : Option (List ByteArray) := some ([(⟨#[110, 122]⟩ : ByteArray), (⟨#[122]⟩ : ByteArray), (⟨#[110, 99]⟩ : ByteArray), (⟨#[99]⟩ : ByteArray), (⟨#[112, 111]⟩ : ByteArray), (⟨#[112, 101]⟩ : ByteArray), (⟨#[112]⟩ : ByteArray), (⟨#[109]⟩ : ByteArray)] : List ByteArray)
set_option maxRecDepth 100000 in
theorem charabancref09_conds_100_ok (K : Nat) (M0 : Nat → Prop) (w0 : World) (ho : ∀ b, M0 b → b < w0.heap.size) {r : (List ByteArray)} (h : charabancref09_conds_100.f K = some r) :
  Calls Tryd.prog 100 #[] w0 (charabancref09_conds_100.post M0 w0 r) := by
 unfold charabancref09_conds_100.f at h
 have h0 : Holds M0 w0 w0 [] := Holds.start ho
 have h0 : Holds M0 w0 w0 [] := h0
 refine calls_of F100 rfl [] (by kernel_rfl) ?_
 refine RunsI.g 1 [.c 1, .c 2] ?_
 refine RunsI.r ?_
 refine RegI.p 1 [] ?_
 refine RegI.d ?_
 refine RunsI.g 1 [.c 3, .c 4] ?_
 refine RunsI.r ?_
 refine RegI.o (OpE.lit 1 9 [.string (⟨#[110, 122]⟩ : ByteArray), .string (⟨#[122]⟩ : ByteArray), .string (⟨#[110, 99]⟩ : ByteArray), .string (⟨#[99]⟩ : ByteArray), .string (⟨#[112, 111]⟩ : ByteArray), .string (⟨#[112, 101]⟩ : ByteArray), .string (⟨#[112]⟩ : ByteArray), .string (⟨#[109]⟩ : ByteArray)] 8 h0 (by kernel_rfl) (by kernel_rfl) ?_)
 intro w1 b2 h3 hb4 hn5
 refine RegI.p 1 [(0, .slice (some ⟨b2, 0, none⟩) (([(⟨#[110, 122]⟩ : ByteArray), (⟨#[122]⟩ : ByteArray), (⟨#[110, 99]⟩ : ByteArray), (⟨#[99]⟩ : ByteArray), (⟨#[112, 111]⟩ : ByteArray), (⟨#[112, 101]⟩ : ByteArray), (⟨#[112]⟩ : ByteArray), (⟨#[109]⟩ : ByteArray)] : List ByteArray).length) 8)] ?_
 refine RegI.d ?_
 refine RunsI.t (.slice (some ⟨b2, 0, none⟩) (([(⟨#[110, 122]⟩ : ByteArray), (⟨#[122]⟩ : ByteArray), (⟨#[110, 99]⟩ : ByteArray), (⟨#[99]⟩ : ByteArray), (⟨#[112, 111]⟩ : ByteArray), (⟨#[112, 101]⟩ : ByteArray), (⟨#[112]⟩ : ByteArray), (⟨#[109]⟩ : ByteArray)] : List ByteArray).length) 8) ?_
 have h6 := h3.boxOwn 0 rfl Rp.str ([(⟨#[110, 122]⟩ : ByteArray), (⟨#[122]⟩ : ByteArray), (⟨#[110, 99]⟩ : ByteArray), (⟨#[99]⟩ : ByteArray), (⟨#[112, 111]⟩ : ByteArray), (⟨#[112, 101]⟩ : ByteArray), (⟨#[112]⟩ : ByteArray), (⟨#[109]⟩ : ByteArray)] : List ByteArray) (cells_str _ _ _) (Nat.le_of_ble_eq_true (by kernel_rfl))
 obtain rfl := Option.some.inj h
 exact ⟨(some ⟨b2, 0, none⟩), 8, rfl, h6.pick [0] (by decide)⟩
end

/-! ### charabanc/charabancref09.n (function 101) -/
section
def charabancref09_n_101.post (M0 : Nat → Prop) (w0 : World) (r : ByteArray) : Ending → World → Prop := fun e w => e = .returned (.string r) ∧ Below w0.heap.size w0 w
def charabancref09_n_101.f (K : Nat) (p0_0 : Int) (p0_1 : Int) (p0_2 : Int) (p0_3 : Int) (p0_4 : Int) (p0_5 : Int) : Option ByteArray := (charabancref09_Hex_105.f K (IntKind.wrap .i64 (Int.tmod p0_3 256)) 2).bind fun t10 => some t10
set_option maxRecDepth 100000 in
theorem charabancref09_n_101_ok (K : Nat) (M0 : Nat → Prop) (w0 : World) (p0_0 : Int) (p0_1 : Int) (p0_2 : Int) (p0_3 : Int) (p0_4 : Int) (p0_5 : Int) (ho : ∀ b, M0 b → b < w0.heap.size) {r : ByteArray} (h : charabancref09_n_101.f K p0_0 p0_1 p0_2 p0_3 p0_4 p0_5 = some r) :
  Calls Tryd.prog 101 #[.agg #[.int .i64 p0_0, .int .u8 p0_1, .int .u8 p0_2, .int .u16 p0_3, .int .i64 p0_4, .int .i64 p0_5]] w0 (charabancref09_n_101.post M0 w0 r) := by
 unfold charabancref09_n_101.f at h
 have h0 : Holds M0 w0 w0 [] := Holds.start ho
 have h0 : Holds M0 w0 w0 [] := h0
 refine calls_of F101 rfl [.agg #[.int .i64 p0_0, .int .u8 p0_1, .int .u8 p0_2, .int .u16 p0_3, .int .i64 p0_4, .int .i64 p0_5]] (by kernel_rfl) ?_
 refine RunsI.g 1 [.c 1, .c 2] ?_
 refine RunsI.r ?_
 refine RegI.o (OpE.box 1 51 [.int .i64 p0_0, .int .u8 p0_1, .int .u8 p0_2, .int .u16 p0_3, .int .i64 p0_4, .int .i64 p0_5] h0 (by kernel_rfl) (by kernel_rfl) ?_)
 intro w1 b2 h3 hb4 hn5
 refine RegI.p 1 [(1, .pointer (some ⟨b2, 0, none⟩))] ?_
 refine RegI.d ?_
 refine RunsI.g 1 [.c 3, .c 4] ?_
 refine RunsI.r ?_
 refine RegI.p 1 [(3, .pointer (some ⟨b2, 3, none⟩))] ?_
 refine RegI.o (OpE.loadBox 4 0 22 b2 3 (.int .u16 p0_3) h3 (by kernel_rfl) (by kernel_rfl) rfl (by kernel_rfl) ?_)
 refine RegI.p 2 [(6, .int .i64 (IntKind.wrap .i64 (Int.tmod p0_3 256)))] ?_
 obtain ⟨t10, hg9, h⟩ := of_bind h
 refine RegI.o (OpE.call 7 (by kernel_rfl) 105 #[.int .i64 (IntKind.wrap .i64 (Int.tmod p0_3 256)), .int .i64 2] (by kernel_rfl) ((charabancref09_Hex_105_ok K _ w1  (IntKind.wrap .i64 (Int.tmod p0_3 256)) 2 h3.old' hg9).mono ?_))
 rintro _ w6 ⟨rfl, hb7⟩
 refine ⟨_, rfl, ?_⟩
 have h8 := h3.call hb7
 refine RegI.p 1 [(2, .string t10)] ?_
 refine RegI.d ?_
 refine RunsI.t (.string t10) ?_
 obtain rfl := Option.some.inj h
 exact ⟨rfl, h8.below⟩
end

/-! ### charabanc/charabancref09.zero (function 60) -/
section
def charabancref09_zero_60.post (M0 : Nat → Prop) (w0 : World) (r : ByteArray) : Ending → World → Prop := fun e w => e = .returned (.string r) ∧ Below w0.heap.size w0 w
def charabancref09_zero_60.f (K : Nat) (p0_0 : Int) (p0_1 : Int) (p0_2 : Int) (p0_3 : Int) (p0_4 : Int) (p0_5 : Int) (p1 : Int) (p2 : Int) (p3 : Int) (p4 : Int) : Option ByteArray := (charabancref09_pair_97.f K p0_0 p0_1 p0_2 p0_3 p0_4 p0_5 2 (⟨#[115, 112]⟩ : ByteArray)).bind fun t10 => (charabancref09_pair_97.f K p0_0 p0_1 p0_2 p0_3 p0_4 p0_5 p3 (⟨#[115, 112]⟩ : ByteArray)).bind fun t15 => cond (p2 == 0) ((charabancref09_to_99.f K p0_0 p0_1 p0_2 p0_3 p0_4 p0_5).bind fun t22 => cond (mayCat (⟨#[100, 106, 110, 122, 32]⟩ : ByteArray).size t22.size) ((charabancref09_to_99.f K p0_0 p0_1 p0_2 p0_3 p0_4 p0_5).bind fun t25 => cond (mayCat (⟨#[106, 114, 32]⟩ : ByteArray).size t25.size) (cond (decide (p1 < 4)) (cond (inR p1 ([(⟨#[110, 111, 112]⟩ : ByteArray), (⟨#[101, 120, 32, 97, 102, 44, 97, 102, 39]⟩ : ByteArray), ((⟨#[100, 106, 110, 122, 32]⟩ : ByteArray) ++ t22), ((⟨#[106, 114, 32]⟩ : ByteArray) ++ t25)] : List ByteArray).length) (some (rdD ([(⟨#[110, 111, 112]⟩ : ByteArray), (⟨#[101, 120, 32, 97, 102, 44, 97, 102, 39]⟩ : ByteArray), ((⟨#[100, 106, 110, 122, 32]⟩ : ByteArray) ++ t22), ((⟨#[106, 114, 32]⟩ : ByteArray) ++ t25)] : List ByteArray) p1)) none) ((charabancref09_conds_100.f K).bind fun t58 => (charabancref09_to_99.f K p0_0 p0_1 p0_2 p0_3 p0_4 p0_5).bind fun t65 => cond (inR (IntKind.wrap .i64 (p1 - 4)) t58.length) (cond (mayCat (⟨#[106, 114, 32]⟩ : ByteArray).size (rdD t58 (IntKind.wrap .i64 (p1 - 4))).size) (cond (mayCat ((⟨#[106, 114, 32]⟩ : ByteArray) ++ (rdD t58 (IntKind.wrap .i64 (p1 - 4)))).size (⟨#[44]⟩ : ByteArray).size) (cond (mayCat (((⟨#[106, 114, 32]⟩ : ByteArray) ++ (rdD t58 (IntKind.wrap .i64 (p1 - 4)))) ++ (⟨#[44]⟩ : ByteArray)).size t65.size) (some ((((⟨#[106, 114, 32]⟩ : ByteArray) ++ (rdD t58 (IntKind.wrap .i64 (p1 - 4)))) ++ (⟨#[44]⟩ : ByteArray)) ++ t65)) none) none) none) none)) none) none) (cond (p2 == 1) (cond (p4 == 0) (cond (mayCat (⟨#[108, 100, 32]⟩ : ByteArray).size t15.size) (cond (mayCat ((⟨#[108, 100, 32]⟩ : ByteArray) ++ t15).size (⟨#[44]⟩ : ByteArray).size) ((charabancref09_nn_98.f K p0_0 p0_1 p0_2 p0_3 p0_4 p0_5).bind fun t93 => cond (mayCat (((⟨#[108, 100, 32]⟩ : ByteArray) ++ t15) ++ (⟨#[44]⟩ : ByteArray)).size t93.size) (some ((((⟨#[108, 100, 32]⟩ : ByteArray) ++ t15) ++ (⟨#[44]⟩ : ByteArray)) ++ t93)) none) none) none) (cond (mayCat (⟨#[97, 100, 100, 32]⟩ : ByteArray).size t10.size) (cond (mayCat ((⟨#[97, 100, 100, 32]⟩ : ByteArray) ++ t10).size (⟨#[44]⟩ : ByteArray).size) (cond (mayCat (((⟨#[97, 100, 100, 32]⟩ : ByteArray) ++ t10) ++ (⟨#[44]⟩ : ByteArray)).size t15.size) (some ((((⟨#[97, 100, 100, 32]⟩ : ByteArray) ++ t10) ++ (⟨#[44]⟩ : ByteArray)) ++ t15)) none) none) none)) (cond (p2 == 2) ((charabancref09_nn_98.f K p0_0 p0_1 p0_2 p0_3 p0_4 p0_5).bind fun t103 => cond (mayCat (⟨#[40]⟩ : ByteArray).size t103.size) (cond (mayCat ((⟨#[40]⟩ : ByteArray) ++ t103).size (⟨#[41]⟩ : ByteArray).size) (cond (mayCat (⟨#[108, 100, 32]⟩ : ByteArray).size (((⟨#[40]⟩ : ByteArray) ++ t103) ++ (⟨#[41]⟩ : ByteArray)).size) (cond (mayCat ((⟨#[108, 100, 32]⟩ : ByteArray) ++ (((⟨#[40]⟩ : ByteArray) ++ t103) ++ (⟨#[41]⟩ : ByteArray))).size (⟨#[44]⟩ : ByteArray).size) (cond (mayCat (((⟨#[108, 100, 32]⟩ : ByteArray) ++ (((⟨#[40]⟩ : ByteArray) ++ t103) ++ (⟨#[41]⟩ : ByteArray))) ++ (⟨#[44]⟩ : ByteArray)).size t10.size) (cond (mayCat (⟨#[108, 100, 32]⟩ : ByteArray).size t10.size) (cond (mayCat ((⟨#[108, 100, 32]⟩ : ByteArray) ++ t10).size (⟨#[44]⟩ : ByteArray).size) (cond (mayCat (((⟨#[108, 100, 32]⟩ : ByteArray) ++ t10) ++ (⟨#[44]⟩ : ByteArray)).size (((⟨#[40]⟩ : ByteArray) ++ t103) ++ (⟨#[41]⟩ : ByteArray)).size) (cond (mayCat ((⟨#[108, 100, 32]⟩ : ByteArray) ++ (((⟨#[40]⟩ : ByteArray) ++ t103) ++ (⟨#[41]⟩ : ByteArray))).size (⟨#[44, 97]⟩ : ByteArray).size) (cond (mayCat (⟨#[108, 100, 32, 97, 44]⟩ : ByteArray).size (((⟨#[40]⟩ : ByteArray) ++ t103) ++ (⟨#[41]⟩ : ByteArray)).size) (cond (inR p1 ([(⟨#[108, 100, 32, 40, 98, 99, 41, 44, 97]⟩ : ByteArray), (⟨#[108, 100, 32, 97, 44, 40, 98, 99, 41]⟩ : ByteArray), (⟨#[108, 100, 32, 40, 100, 101, 41, 44, 97]⟩ : ByteArray), (⟨#[108, 100, 32, 97, 44, 40, 100, 101, 41]⟩ : ByteArray), ((((⟨#[108, 100, 32]⟩ : ByteArray) ++ (((⟨#[40]⟩ : ByteArray) ++ t103) ++ (⟨#[41]⟩ : ByteArray))) ++ (⟨#[44]⟩ : ByteArray)) ++ t10), ((((⟨#[108, 100, 32]⟩ : ByteArray) ++ t10) ++ (⟨#[44]⟩ : ByteArray)) ++ (((⟨#[40]⟩ : ByteArray) ++ t103) ++ (⟨#[41]⟩ : ByteArray))), (((⟨#[108, 100, 32]⟩ : ByteArray) ++ (((⟨#[40]⟩ : ByteArray) ++ t103) ++ (⟨#[41]⟩ : ByteArray))) ++ (⟨#[44, 97]⟩ : ByteArray)), ((⟨#[108, 100, 32, 97, 44]⟩ : ByteArray) ++ (((⟨#[40]⟩ : ByteArray) ++ t103) ++ (⟨#[41]⟩ : ByteArray)))] : List ByteArray).length) (some (rdD ([(⟨#[108, 100, 32, 40, 98, 99, 41, 44, 97]⟩ : ByteArray), (⟨#[108, 100, 32, 97, 44, 40, 98, 99, 41]⟩ : ByteArray), (⟨#[108, 100, 32, 40, 100, 101, 41, 44, 97]⟩ : ByteArray), (⟨#[108, 100, 32, 97, 44, 40, 100, 101, 41]⟩ : ByteArray), ((((⟨#[108, 100, 32]⟩ : ByteArray) ++ (((⟨#[40]⟩ : ByteArray) ++ t103) ++ (⟨#[41]⟩ : ByteArray))) ++ (⟨#[44]⟩ : ByteArray)) ++ t10), ((((⟨#[108, 100, 32]⟩ : ByteArray) ++ t10) ++ (⟨#[44]⟩ : ByteArray)) ++ (((⟨#[40]⟩ : ByteArray) ++ t103) ++ (⟨#[41]⟩ : ByteArray))), (((⟨#[108, 100, 32]⟩ : ByteArray) ++ (((⟨#[40]⟩ : ByteArray) ++ t103) ++ (⟨#[41]⟩ : ByteArray))) ++ (⟨#[44, 97]⟩ : ByteArray)), ((⟨#[108, 100, 32, 97, 44]⟩ : ByteArray) ++ (((⟨#[40]⟩ : ByteArray) ++ t103) ++ (⟨#[41]⟩ : ByteArray)))] : List ByteArray) p1)) none) none) none) none) none) none) none) none) none) none) none) (cond (p2 == 3) (cond (inR p4 ([(⟨#[105, 110, 99, 32]⟩ : ByteArray), (⟨#[100, 101, 99, 32]⟩ : ByteArray)] : List ByteArray).length) (cond (mayCat (rdD ([(⟨#[105, 110, 99, 32]⟩ : ByteArray), (⟨#[100, 101, 99, 32]⟩ : ByteArray)] : List ByteArray) p4).size t15.size) (some ((rdD ([(⟨#[105, 110, 99, 32]⟩ : ByteArray), (⟨#[100, 101, 99, 32]⟩ : ByteArray)] : List ByteArray) p4) ++ t15)) none) none) (cond (p2 == 4) ((charabancref09_reg_61.f K p0_0 p0_1 p0_2 p0_3 p0_4 p0_5 p1).bind fun t139 => cond (mayCat (⟨#[105, 110, 99, 32]⟩ : ByteArray).size t139.size) (some ((⟨#[105, 110, 99, 32]⟩ : ByteArray) ++ t139)) none) (cond (p2 == 5) ((charabancref09_reg_61.f K p0_0 p0_1 p0_2 p0_3 p0_4 p0_5 p1).bind fun t146 => cond (mayCat (⟨#[100, 101, 99, 32]⟩ : ByteArray).size t146.size) (some ((⟨#[100, 101, 99, 32]⟩ : ByteArray) ++ t146)) none) (cond (p2 == 6) ((charabancref09_reg_61.f K p0_0 p0_1 p0_2 p0_3 p0_4 p0_5 p1).bind fun t154 => cond (mayCat (⟨#[108, 100, 32]⟩ : ByteArray).size t154.size) (cond (mayCat ((⟨#[108, 100, 32]⟩ : ByteArray) ++ t154).size (⟨#[44]⟩ : ByteArray).size) ((charabancref09_n_101.f K p0_0 p0_1 p0_2 p0_3 p0_4 p0_5).bind fun t158 => cond (mayCat (((⟨#[108, 100, 32]⟩ : ByteArray) ++ t154) ++ (⟨#[44]⟩ : ByteArray)).size t158.size) (some ((((⟨#[108, 100, 32]⟩ : ByteArray) ++ t154) ++ (⟨#[44]⟩ : ByteArray)) ++ t158)) none) none) none) (cond (inR p1 ([(⟨#[114, 108, 99, 97]⟩ : ByteArray), (⟨#[114, 114, 99, 97]⟩ : ByteArray), (⟨#[114, 108, 97]⟩ : ByteArray), (⟨#[114, 114, 97]⟩ : ByteArray), (⟨#[100, 97, 97]⟩ : ByteArray), (⟨#[99, 112, 108]⟩ : ByteArray), (⟨#[115, 99, 102]⟩ : ByteArray), (⟨#[99, 99, 102]⟩ : ByteArray)] : List ByteArray).length) (some (rdD ([(⟨#[114, 108, 99, 97]⟩ : ByteArray), (⟨#[114, 114, 99, 97]⟩ : ByteArray), (⟨#[114, 108, 97]⟩ : ByteArray), (⟨#[114, 114, 97]⟩ : ByteArray), (⟨#[100, 97, 97]⟩ : ByteArray), (⟨#[99, 112, 108]⟩ : ByteArray), (⟨#[115, 99, 102]⟩ : ByteArray), (⟨#[99, 99, 102]⟩ : ByteArray)] : List ByteArray) p1)) none)))))))
set_option maxRecDepth 100000 in
theorem charabancref09_zero_60_ok (K : Nat) (M0 : Nat → Prop) (w0 : World) (p0_0 : Int) (p0_1 : Int) (p0_2 : Int) (p0_3 : Int) (p0_4 : Int) (p0_5 : Int) (p1 : Int) (p2 : Int) (p3 : Int) (p4 : Int) (ho : ∀ b, M0 b → b < w0.heap.size) {r : ByteArray} (h : charabancref09_zero_60.f K p0_0 p0_1 p0_2 p0_3 p0_4 p0_5 p1 p2 p3 p4 = some r) :
  Calls Tryd.prog 60 #[.agg #[.int .i64 p0_0, .int .u8 p0_1, .int .u8 p0_2, .int .u16 p0_3, .int .i64 p0_4, .int .i64 p0_5], .int .i64 p1, .int .i64 p2, .int .i64 p3, .int .i64 p4] w0 (charabancref09_zero_60.post M0 w0 r) := by
 unfold charabancref09_zero_60.f at h
 have h0 : Holds M0 w0 w0 [] := Holds.start ho
 have h0 : Holds M0 w0 w0 [] := h0
 refine calls_of F60 rfl [.agg #[.int .i64 p0_0, .int .u8 p0_1, .int .u8 p0_2, .int .u16 p0_3, .int .i64 p0_4, .int .i64 p0_5], .int .i64 p1, .int .i64 p2, .int .i64 p3, .int .i64 p4] (by kernel_rfl) ?_
 refine RunsI.g 1 [.c 1, .c 2] ?_
 refine RunsI.r ?_
 refine RegI.o (OpE.box 5 51 [.int .i64 p0_0, .int .u8 p0_1, .int .u8 p0_2, .int .u16 p0_3, .int .i64 p0_4, .int .i64 p0_5] h0 (by kernel_rfl) (by kernel_rfl) ?_)
 intro w1 b2 h3 hb4 hn5
 refine RegI.p 1 [(1, .int .i64 p1), (2, .int .i64 p2), (3, .int .i64 p3), (4, .int .i64 p4), (5, .pointer (some ⟨b2, 0, none⟩))] ?_
 refine RegI.d ?_
 refine RunsI.g 1 [.c 3, .c 4] ?_
 refine RunsI.r ?_
 refine RegI.o (OpE.loadBox 15 0 51 b2 0 (.agg #[.int .i64 p0_0, .int .u8 p0_1, .int .u8 p0_2, .int .u16 p0_3, .int .i64 p0_4, .int .i64 p0_5]) h3 (by kernel_rfl) (by kernel_rfl) rfl (by kernel_rfl) ?_)
 obtain ⟨t10, hg9, h⟩ := of_bind h
 refine RegI.o (OpE.call 16 (by kernel_rfl) 97 #[.agg #[.int .i64 p0_0, .int .u8 p0_1, .int .u8 p0_2, .int .u16 p0_3, .int .i64 p0_4, .int .i64 p0_5], .int .i64 2, .string (⟨#[115, 112]⟩ : ByteArray)] (by kernel_rfl) ((charabancref09_pair_97_ok K _ w1  p0_0 p0_1 p0_2 p0_3 p0_4 p0_5 2 (⟨#[115, 112]⟩ : ByteArray) h3.old' hg9).mono ?_))
 rintro _ w6 ⟨rfl, hb7⟩
 refine ⟨_, rfl, ?_⟩
 have h8 := h3.call hb7
 refine RegI.p 1 [(1, .int .i64 p1), (2, .int .i64 p2), (3, .int .i64 p3), (4, .int .i64 p4), (5, .pointer (some ⟨b2, 0, none⟩)), (11, .string t10)] ?_
 refine RegI.d ?_
 refine RunsI.g 1 [.c 5, .c 6] ?_
 refine RunsI.r ?_
 refine RegI.o (OpE.loadBox 17 0 51 b2 0 (.agg #[.int .i64 p0_0, .int .u8 p0_1, .int .u8 p0_2, .int .u16 p0_3, .int .i64 p0_4, .int .i64 p0_5]) h8 (by kernel_rfl) (by kernel_rfl) rfl (by kernel_rfl) ?_)
 refine RegI.p 1 [(1, .int .i64 p1), (2, .int .i64 p2), (4, .int .i64 p4), (5, .pointer (some ⟨b2, 0, none⟩)), (11, .string t10), (17, .agg #[.int .i64 p0_0, .int .u8 p0_1, .int .u8 p0_2, .int .u16 p0_3, .int .i64 p0_4, .int .i64 p0_5]), (18, .int .i64 p3)] ?_
 obtain ⟨t15, hg14, h⟩ := of_bind h
 refine RegI.o (OpE.call 19 (by kernel_rfl) 97 #[.agg #[.int .i64 p0_0, .int .u8 p0_1, .int .u8 p0_2, .int .u16 p0_3, .int .i64 p0_4, .int .i64 p0_5], .int .i64 p3, .string (⟨#[115, 112]⟩ : ByteArray)] (by kernel_rfl) ((charabancref09_pair_97_ok K _ w6  p0_0 p0_1 p0_2 p0_3 p0_4 p0_5 p3 (⟨#[115, 112]⟩ : ByteArray) h8.old' hg14).mono ?_))
 rintro _ w11 ⟨rfl, hb12⟩
 refine ⟨_, rfl, ?_⟩
 have h13 := h8.call hb12
 refine RegI.p 1 [(1, .int .i64 p1), (2, .int .i64 p2), (4, .int .i64 p4), (5, .pointer (some ⟨b2, 0, none⟩)), (11, .string t10), (12, .string t15)] ?_
 refine RegI.d ?_
 refine RunsI.g 2 [.c 8, .c 9, .c 73] ?_
 refine RunsI.r ?_
 refine RegI.p 1 [(1, .int .i64 p1), (4, .int .i64 p4), (5, .pointer (some ⟨b2, 0, none⟩)), (11, .string t10), (12, .string t15), (20, .int .i64 p2)] ?_
 refine RegI.d ?_
 refine RunsI.g 2 [.c 11, .c 12, .blk 0, .c 73] ?_
 refine RunsI.r ?_
 refine RegI.p 2 [(1, .int .i64 p1), (4, .int .i64 p4), (5, .pointer (some ⟨b2, 0, none⟩)), (11, .string t10), (12, .string t15), (20, .int .i64 p2), (21, .bool (p2 == 0))] ?_
 refine RegI.d ?_
 rcases of_cond h with ⟨hc16, h⟩ | ⟨hc16, h⟩
 ·skip
  refine RunsI.f 21 true hc16 ?_
  refine RunsI.b true 13 ?_
  refine RunsI.g 1 [.c 14, .c 15, .blk 0, .c 73] ?_
  refine RunsI.any 8 (by kernel_rfl) (by kernel_rfl) (by kernel_rfl) (Kp ([] : List Nat) (World.drew w11)) ?_
  have h18 := h13.drew
  generalize World.drew w11 = w17 at h18 ⊢
  have hS19 := Kp.refl ([] : List Nat) w17
  refine AnyE.loadBox 0 23 0 51 b2 0 (.agg #[.int .i64 p0_0, .int .u8 p0_1, .int .u8 p0_2, .int .u16 p0_3, .int .i64 p0_4, .int .i64 p0_5]) [] h18 rfl (by kernel_rfl) hS19 rfl rfl (by kernel_rfl) (by kernel_rfl) ?_
  obtain ⟨t22, hg21, h⟩ := of_bind h
  refine AnyE.call 1 24 (.string t22) 99 #[.agg #[.int .i64 p0_0, .int .u8 p0_1, .int .u8 p0_2, .int .u16 p0_3, .int .i64 p0_4, .int .i64 p0_5]] (by kernel_rfl) hS19 (fun _ => by kernel_rfl) (fun w hk => charabancref09_to_99_ok K (fun _ => False) w p0_0 p0_1 p0_2 p0_3 p0_4 p0_5 (fun _ hf => hf.elim) hg21) ?_
  obtain ⟨hc23, h⟩ := of_cond0 h
  refine AnyE.run 2 25 (.string ((⟨#[100, 106, 110, 122, 32]⟩ : ByteArray) ++ t22)) (by kernel_rfl) hS19 (fun _ hk => run_cat (a := (⟨#[100, 106, 110, 122, 32]⟩ : ByteArray)) (b := t22) (by kernel_rfl) hc23) ?_
  refine AnyE.loadBox 3 26 0 51 b2 0 (.agg #[.int .i64 p0_0, .int .u8 p0_1, .int .u8 p0_2, .int .u16 p0_3, .int .i64 p0_4, .int .i64 p0_5]) [] h18 rfl (by kernel_rfl) hS19 rfl rfl (by kernel_rfl) (by kernel_rfl) ?_
  obtain ⟨t25, hg24, h⟩ := of_bind h
  refine AnyE.call 4 27 (.string t25) 99 #[.agg #[.int .i64 p0_0, .int .u8 p0_1, .int .u8 p0_2, .int .u16 p0_3, .int .i64 p0_4, .int .i64 p0_5]] (by kernel_rfl) hS19 (fun _ => by kernel_rfl) (fun w hk => charabancref09_to_99_ok K (fun _ => False) w p0_0 p0_1 p0_2 p0_3 p0_4 p0_5 (fun _ hf => hf.elim) hg24) ?_
  obtain ⟨hc26, h⟩ := of_cond0 h
  refine AnyE.run 5 28 (.string ((⟨#[106, 114, 32]⟩ : ByteArray) ++ t25)) (by kernel_rfl) hS19 (fun _ hk => run_cat (a := (⟨#[106, 114, 32]⟩ : ByteArray)) (b := t25) (by kernel_rfl) hc26) ?_
  refine AnyE.one 6 (by kernel_rfl) (fun w27 hu28 => ?_)
  have h29 := h18.call hu28
  have hS30 := hS19.up hu28
  refine OpE.lit 29 9 [.string (⟨#[110, 111, 112]⟩ : ByteArray), .string (⟨#[101, 120, 32, 97, 102, 44, 97, 102, 39]⟩ : ByteArray), .string ((⟨#[100, 106, 110, 122, 32]⟩ : ByteArray) ++ t22), .string ((⟨#[106, 114, 32]⟩ : ByteArray) ++ t25)] 4 h29 (by kernel_rfl) (by kernel_rfl) ?_
  intro w31 b32 h33 hb34 hn35
  have hn36 := Nat.le_trans hS30.1 hn35
  have hS37 := hS30.up hb34
  refine ⟨hS37, ?_⟩
  refine AnyE.pure 7 13 (.slice (some ⟨b32, 0, none⟩) (([(⟨#[110, 111, 112]⟩ : ByteArray), (⟨#[101, 120, 32, 97, 102, 44, 97, 102, 39]⟩ : ByteArray), ((⟨#[100, 106, 110, 122, 32]⟩ : ByteArray) ++ t22), ((⟨#[106, 114, 32]⟩ : ByteArray) ++ t25)] : List ByteArray).length) 4) (by kernel_rfl) hS37 (fun _ => by kernel_rfl) ?_
  refine AnyE.done (by kernel_rfl) (fun w38 hu39 => ?_)
  have h40 := h33.call hu39
  refine RunsI.l [1, 5, 13] [(1, .int .i64 p1), (5, .pointer (some ⟨b2, 0, none⟩)), (13, .slice (some ⟨b32, 0, none⟩) (([(⟨#[110, 111, 112]⟩ : ByteArray), (⟨#[101, 120, 32, 97, 102, 44, 97, 102, 39]⟩ : ByteArray), ((⟨#[100, 106, 110, 122, 32]⟩ : ByteArray) ++ t22), ((⟨#[106, 114, 32]⟩ : ByteArray) ++ t25)] : List ByteArray).length) 4)] ?_
  refine RunsI.g 2 [.c 17, .c 18, .c 23, .blk 0, .c 73] ?_
  refine RunsI.r ?_
  refine RegI.p 2 [(1, .int .i64 p1), (5, .pointer (some ⟨b2, 0, none⟩)), (13, .slice (some ⟨b32, 0, none⟩) (([(⟨#[110, 111, 112]⟩ : ByteArray), (⟨#[101, 120, 32, 97, 102, 44, 97, 102, 39]⟩ : ByteArray), ((⟨#[100, 106, 110, 122, 32]⟩ : ByteArray) ++ t22), ((⟨#[106, 114, 32]⟩ : ByteArray) ++ t25)] : List ByteArray).length) 4), (31, .bool (decide (p1 < 4)))] ?_
  refine RegI.d ?_
  rcases of_cond h with ⟨hc41, h⟩ | ⟨hc41, h⟩
  ·skip
   refine RunsI.f 31 true hc41 ?_
   refine RunsI.b true 19 ?_
   refine RunsI.g 1 [.c 20, .c 21, .c 23, .blk 0, .c 73] ?_
   refine RunsI.r ?_
   refine RegI.p 2 [(32, .slice (some ⟨b32, 0, none⟩) (([(⟨#[110, 111, 112]⟩ : ByteArray), (⟨#[101, 120, 32, 97, 102, 44, 97, 102, 39]⟩ : ByteArray), ((⟨#[100, 106, 110, 122, 32]⟩ : ByteArray) ++ t22), ((⟨#[106, 114, 32]⟩ : ByteArray) ++ t25)] : List ByteArray).length) 4), (33, .int .i64 p1)] ?_
   have h42 := h40.boxOwn 1 rfl Rp.str ([(⟨#[110, 111, 112]⟩ : ByteArray), (⟨#[101, 120, 32, 97, 102, 44, 97, 102, 39]⟩ : ByteArray), ((⟨#[100, 106, 110, 122, 32]⟩ : ByteArray) ++ t22), ((⟨#[106, 114, 32]⟩ : ByteArray) ++ t25)] : List ByteArray) (cells_str _ _ _) (Nat.le_of_ble_eq_true (by kernel_rfl))
   obtain ⟨hc43, h⟩ := of_cond0 h
   refine RegI.o (OpE.idxOwnA 34 1 55 9 p1 h42 (by kernel_rfl) rfl (by kernel_rfl) (by kernel_rfl) hc43 ?_)
   refine RegI.o (OpE.loadOwnA 35 1 9 9 p1 0 (o := (Int.toNat p1) * 1 + 0) h42 (by kernel_rfl) rfl (by kernel_rfl) (by kernel_rfl) hc43 (fun cs44 hk45 => ?_))
   obtain rfl := hk45
   refine ⟨.string (rdD ([(⟨#[110, 111, 112]⟩ : ByteArray), (⟨#[101, 120, 32, 97, 102, 44, 97, 102, 39]⟩ : ByteArray), ((⟨#[100, 106, 110, 122, 32]⟩ : ByteArray) ++ t22), ((⟨#[106, 114, 32]⟩ : ByteArray) ++ t25)] : List ByteArray) p1), by kernel_rfl, ?_⟩
   refine RegI.p 1 [(10, .string (rdD ([(⟨#[110, 111, 112]⟩ : ByteArray), (⟨#[101, 120, 32, 97, 102, 44, 97, 102, 39]⟩ : ByteArray), ((⟨#[100, 106, 110, 122, 32]⟩ : ByteArray) ++ t22), ((⟨#[106, 114, 32]⟩ : ByteArray) ++ t25)] : List ByteArray) p1))] ?_
   refine RegI.d ?_
   refine RunsI.t (.string (rdD ([(⟨#[110, 111, 112]⟩ : ByteArray), (⟨#[101, 120, 32, 97, 102, 44, 97, 102, 39]⟩ : ByteArray), ((⟨#[100, 106, 110, 122, 32]⟩ : ByteArray) ++ t22), ((⟨#[106, 114, 32]⟩ : ByteArray) ++ t25)] : List ByteArray) p1)) ?_
   obtain rfl := Option.some.inj h
   exact ⟨rfl, h42.below⟩
  ·skip
   refine RunsI.f 31 false hc41 ?_
   refine RunsI.b false 22 ?_
   refine RunsI.g 1 [.c 23, .blk 0, .c 73] ?_
   refine RunsI.g 1 [.c 24, .c 25, .blk 0, .c 73] ?_
   refine RunsI.any 11 (by kernel_rfl) (by kernel_rfl) (by kernel_rfl) (Kp ([] : List Nat) (World.drew w38)) ?_
   have h47 := h40.drew
   generalize World.drew w38 = w46 at h47 ⊢
   have hS48 := Kp.refl ([] : List Nat) w46
   refine AnyE.pure 1 37 (.int .i64 p1) (by kernel_rfl) hS48 (fun _ => by kernel_rfl) ?_
   refine AnyE.pure 2 38 (.int .i64 (IntKind.wrap .i64 (p1 - 4))) (by kernel_rfl) hS48 (fun _ => by kernel_rfl) ?_
   refine AnyE.loadBox 7 43 0 51 b2 0 (.agg #[.int .i64 p0_0, .int .u8 p0_1, .int .u8 p0_2, .int .u16 p0_3, .int .i64 p0_4, .int .i64 p0_5]) [] h47 rfl (by kernel_rfl) hS48 rfl rfl (by kernel_rfl) (by kernel_rfl) ?_
   refine AnyE.one 0 (by kernel_rfl) (fun w50 hu51 => ?_)
   have h52 := h47.call hu51
   have hS53 := hS48.up hu51
   obtain ⟨t58, hg57, h⟩ := of_bind h
   refine OpE.call 36 (by kernel_rfl) 100 #[] (by kernel_rfl) ((charabancref09_conds_100_ok K _ w50  h52.old' hg57).mono ?_)
   rintro _ w54 ⟨A59, c60, rfl, hr62⟩
   refine ⟨_, rfl, ?_⟩
   have hb55 := hr62.below
   have h56 := h52.join hr62
   have hS63 := hS53.up hb55
   refine ⟨hS63, ?_⟩
   obtain ⟨t65, hg64, h⟩ := of_bind h
   refine AnyE.call 8 44 (.string t65) 99 #[.agg #[.int .i64 p0_0, .int .u8 p0_1, .int .u8 p0_2, .int .u16 p0_3, .int .i64 p0_4, .int .i64 p0_5]] (by kernel_rfl) hS63 (fun _ => by kernel_rfl) (fun w hk => charabancref09_to_99_ok K (fun _ => False) w p0_0 p0_1 p0_2 p0_3 p0_4 p0_5 (fun _ hf => hf.elim) hg64) ?_
   refine AnyE.one 3 (by kernel_rfl) (fun w66 hu67 => ?_)
   have h68 := h56.call hu67
   have hS69 := hS63.up hu67
   obtain ⟨hc70, h⟩ := of_cond0 h
   refine OpE.idxOwnA 39 2 55 9 (IntKind.wrap .i64 (p1 - 4)) h68 (by kernel_rfl) rfl (by kernel_rfl) (by kernel_rfl) hc70 ?_
   refine ⟨hS69, ?_⟩
   refine AnyE.one 4 (by kernel_rfl) (fun w72 hu73 => ?_)
   have h74 := h68.call hu73
   have hS75 := hS69.up hu73
   refine OpE.loadOwnA 40 2 9 9 (IntKind.wrap .i64 (p1 - 4)) 0 (o := (Int.toNat (IntKind.wrap .i64 (p1 - 4))) * 1 + 0) h74 (by kernel_rfl) rfl (by kernel_rfl) (by kernel_rfl) hc70 (fun cs76 hk77 => ?_)
   obtain rfl := hk77
   refine ⟨.string (rdD t58 (IntKind.wrap .i64 (p1 - 4))), by kernel_rfl, ?_⟩
   refine ⟨hS75, ?_⟩
   obtain ⟨hc79, h⟩ := of_cond0 h
   refine AnyE.run 5 41 (.string ((⟨#[106, 114, 32]⟩ : ByteArray) ++ (rdD t58 (IntKind.wrap .i64 (p1 - 4))))) (by kernel_rfl) hS75 (fun _ hk => run_cat (a := (⟨#[106, 114, 32]⟩ : ByteArray)) (b := (rdD t58 (IntKind.wrap .i64 (p1 - 4)))) (by kernel_rfl) hc79) ?_
   obtain ⟨hc80, h⟩ := of_cond0 h
   refine AnyE.run 6 42 (.string (((⟨#[106, 114, 32]⟩ : ByteArray) ++ (rdD t58 (IntKind.wrap .i64 (p1 - 4)))) ++ (⟨#[44]⟩ : ByteArray))) (by kernel_rfl) hS75 (fun _ hk => run_cat (a := ((⟨#[106, 114, 32]⟩ : ByteArray) ++ (rdD t58 (IntKind.wrap .i64 (p1 - 4))))) (b := (⟨#[44]⟩ : ByteArray)) (by kernel_rfl) hc80) ?_
   obtain ⟨hc81, h⟩ := of_cond0 h
   refine AnyE.run 9 45 (.string ((((⟨#[106, 114, 32]⟩ : ByteArray) ++ (rdD t58 (IntKind.wrap .i64 (p1 - 4)))) ++ (⟨#[44]⟩ : ByteArray)) ++ t65)) (by kernel_rfl) hS75 (fun _ hk => run_cat (a := (((⟨#[106, 114, 32]⟩ : ByteArray) ++ (rdD t58 (IntKind.wrap .i64 (p1 - 4)))) ++ (⟨#[44]⟩ : ByteArray))) (b := t65) (by kernel_rfl) hc81) ?_
   refine AnyE.pure 10 10 (.string ((((⟨#[106, 114, 32]⟩ : ByteArray) ++ (rdD t58 (IntKind.wrap .i64 (p1 - 4)))) ++ (⟨#[44]⟩ : ByteArray)) ++ t65)) (by kernel_rfl) hS75 (fun _ => by kernel_rfl) ?_
   refine AnyE.done (by kernel_rfl) (fun w82 hu83 => ?_)
   have h84 := h74.call hu83
   refine RunsI.l [10] [(10, .string ((((⟨#[106, 114, 32]⟩ : ByteArray) ++ (rdD t58 (IntKind.wrap .i64 (p1 - 4)))) ++ (⟨#[44]⟩ : ByteArray)) ++ t65))] ?_
   refine RunsI.t (.string ((((⟨#[106, 114, 32]⟩ : ByteArray) ++ (rdD t58 (IntKind.wrap .i64 (p1 - 4)))) ++ (⟨#[44]⟩ : ByteArray)) ++ t65)) ?_
   obtain rfl := Option.some.inj h
   exact ⟨rfl, h84.below⟩
 ·skip
  refine RunsI.f 21 false hc16 ?_
  refine RunsI.b false 26 ?_
  refine RunsI.g 1 [.c 27, .c 28, .blk 0, .c 73] ?_
  refine RunsI.r ?_
  refine RegI.p 2 [(1, .int .i64 p1), (4, .int .i64 p4), (5, .pointer (some ⟨b2, 0, none⟩)), (11, .string t10), (12, .string t15), (20, .int .i64 p2), (46, .bool (p2 == 1))] ?_
  refine RegI.d ?_
  rcases of_cond h with ⟨hc85, h⟩ | ⟨hc85, h⟩
  ·skip
   refine RunsI.f 46 true hc85 ?_
   refine RunsI.b true 29 ?_
   refine RunsI.g 2 [.c 31, .c 32, .c 37, .blk 0, .c 73] ?_
   refine RunsI.r ?_
   refine RegI.p 2 [(5, .pointer (some ⟨b2, 0, none⟩)), (11, .string t10), (12, .string t15), (49, .bool (p4 == 0))] ?_
   refine RegI.d ?_
   rcases of_cond h with ⟨hc86, h⟩ | ⟨hc86, h⟩
   ·skip
    refine RunsI.f 49 true hc86 ?_
    refine RunsI.b true 33 ?_
    refine RunsI.g 1 [.c 34, .c 35, .c 37, .blk 0, .c 73] ?_
    refine RunsI.r ?_
    refine RegI.p 1 [(5, .pointer (some ⟨b2, 0, none⟩)), (50, .string t15)] ?_
    obtain ⟨hc87, h⟩ := of_cond0 h
    refine RegI.o (OpE.run 51 (by kernel_rfl) (run_cat (a := (⟨#[108, 100, 32]⟩ : ByteArray)) (b := t15) (by kernel_rfl) hc87) ?_)
    obtain ⟨hc88, h⟩ := of_cond0 h
    refine RegI.o (OpE.run 52 (by kernel_rfl) (run_cat (a := ((⟨#[108, 100, 32]⟩ : ByteArray) ++ t15)) (b := (⟨#[44]⟩ : ByteArray)) (by kernel_rfl) hc88) ?_)
    refine RegI.o (OpE.loadBox 53 0 51 b2 0 (.agg #[.int .i64 p0_0, .int .u8 p0_1, .int .u8 p0_2, .int .u16 p0_3, .int .i64 p0_4, .int .i64 p0_5]) h13 (by kernel_rfl) (by kernel_rfl) rfl (by kernel_rfl) ?_)
    obtain ⟨t93, hg92, h⟩ := of_bind h
    refine RegI.o (OpE.call 54 (by kernel_rfl) 98 #[.agg #[.int .i64 p0_0, .int .u8 p0_1, .int .u8 p0_2, .int .u16 p0_3, .int .i64 p0_4, .int .i64 p0_5]] (by kernel_rfl) ((charabancref09_nn_98_ok K _ w11  p0_0 p0_1 p0_2 p0_3 p0_4 p0_5 h13.old' hg92).mono ?_))
    rintro _ w89 ⟨rfl, hb90⟩
    refine ⟨_, rfl, ?_⟩
    have h91 := h13.call hb90
    obtain ⟨hc94, h⟩ := of_cond0 h
    refine RegI.o (OpE.run 55 (by kernel_rfl) (run_cat (a := (((⟨#[108, 100, 32]⟩ : ByteArray) ++ t15) ++ (⟨#[44]⟩ : ByteArray))) (b := t93) (by kernel_rfl) hc94) ?_)
    refine RegI.p 1 [(10, .string ((((⟨#[108, 100, 32]⟩ : ByteArray) ++ t15) ++ (⟨#[44]⟩ : ByteArray)) ++ t93))] ?_
    refine RegI.d ?_
    refine RunsI.t (.string ((((⟨#[108, 100, 32]⟩ : ByteArray) ++ t15) ++ (⟨#[44]⟩ : ByteArray)) ++ t93)) ?_
    obtain rfl := Option.some.inj h
    exact ⟨rfl, h91.below⟩
   ·skip
    refine RunsI.f 49 false hc86 ?_
    refine RunsI.b false 36 ?_
    refine RunsI.g 1 [.c 37, .blk 0, .c 73] ?_
    refine RunsI.g 1 [.c 38, .c 39, .blk 0, .c 73] ?_
    refine RunsI.r ?_
    refine RegI.p 1 [(12, .string t15), (56, .string t10)] ?_
    obtain ⟨hc95, h⟩ := of_cond0 h
    refine RegI.o (OpE.run 57 (by kernel_rfl) (run_cat (a := (⟨#[97, 100, 100, 32]⟩ : ByteArray)) (b := t10) (by kernel_rfl) hc95) ?_)
    obtain ⟨hc96, h⟩ := of_cond0 h
    refine RegI.o (OpE.run 58 (by kernel_rfl) (run_cat (a := ((⟨#[97, 100, 100, 32]⟩ : ByteArray) ++ t10)) (b := (⟨#[44]⟩ : ByteArray)) (by kernel_rfl) hc96) ?_)
    refine RegI.p 1 [(58, .string (((⟨#[97, 100, 100, 32]⟩ : ByteArray) ++ t10) ++ (⟨#[44]⟩ : ByteArray))), (59, .string t15)] ?_
    obtain ⟨hc97, h⟩ := of_cond0 h
    refine RegI.o (OpE.run 60 (by kernel_rfl) (run_cat (a := (((⟨#[97, 100, 100, 32]⟩ : ByteArray) ++ t10) ++ (⟨#[44]⟩ : ByteArray))) (b := t15) (by kernel_rfl) hc97) ?_)
    refine RegI.p 1 [(10, .string ((((⟨#[97, 100, 100, 32]⟩ : ByteArray) ++ t10) ++ (⟨#[44]⟩ : ByteArray)) ++ t15))] ?_
    refine RegI.d ?_
    refine RunsI.t (.string ((((⟨#[97, 100, 100, 32]⟩ : ByteArray) ++ t10) ++ (⟨#[44]⟩ : ByteArray)) ++ t15)) ?_
    obtain rfl := Option.some.inj h
    exact ⟨rfl, h13.below⟩
  ·skip
   refine RunsI.f 46 false hc85 ?_
   refine RunsI.b false 40 ?_
   refine RunsI.g 1 [.c 41, .c 42, .blk 0, .c 73] ?_
   refine RunsI.r ?_
   refine RegI.p 2 [(1, .int .i64 p1), (4, .int .i64 p4), (5, .pointer (some ⟨b2, 0, none⟩)), (11, .string t10), (12, .string t15), (20, .int .i64 p2), (61, .bool (p2 == 2))] ?_
   refine RegI.d ?_
   rcases of_cond h with ⟨hc98, h⟩ | ⟨hc98, h⟩
   ·skip
    refine RunsI.f 61 true hc98 ?_
    refine RunsI.b true 43 ?_
    refine RunsI.g 1 [.c 44, .c 45, .blk 0, .c 73] ?_
    refine RunsI.r ?_
    refine RegI.o (OpE.loadBox 63 0 51 b2 0 (.agg #[.int .i64 p0_0, .int .u8 p0_1, .int .u8 p0_2, .int .u16 p0_3, .int .i64 p0_4, .int .i64 p0_5]) h13 (by kernel_rfl) (by kernel_rfl) rfl (by kernel_rfl) ?_)
    obtain ⟨t103, hg102, h⟩ := of_bind h
    refine RegI.o (OpE.call 64 (by kernel_rfl) 98 #[.agg #[.int .i64 p0_0, .int .u8 p0_1, .int .u8 p0_2, .int .u16 p0_3, .int .i64 p0_4, .int .i64 p0_5]] (by kernel_rfl) ((charabancref09_nn_98_ok K _ w11  p0_0 p0_1 p0_2 p0_3 p0_4 p0_5 h13.old' hg102).mono ?_))
    rintro _ w99 ⟨rfl, hb100⟩
    refine ⟨_, rfl, ?_⟩
    have h101 := h13.call hb100
    obtain ⟨hc104, h⟩ := of_cond0 h
    refine RegI.o (OpE.run 65 (by kernel_rfl) (run_cat (a := (⟨#[40]⟩ : ByteArray)) (b := t103) (by kernel_rfl) hc104) ?_)
    obtain ⟨hc105, h⟩ := of_cond0 h
    refine RegI.o (OpE.run 66 (by kernel_rfl) (run_cat (a := ((⟨#[40]⟩ : ByteArray) ++ t103)) (b := (⟨#[41]⟩ : ByteArray)) (by kernel_rfl) hc105) ?_)
    refine RegI.p 1 [(1, .int .i64 p1), (11, .string t10), (14, .string (((⟨#[40]⟩ : ByteArray) ++ t103) ++ (⟨#[41]⟩ : ByteArray)))] ?_
    refine RegI.d ?_
    refine RunsI.g 1 [.c 46, .c 47, .blk 0, .c 73] ?_
    refine RunsI.r ?_
    refine RegI.p 1 [(1, .int .i64 p1), (11, .string t10), (14, .string (((⟨#[40]⟩ : ByteArray) ++ t103) ++ (⟨#[41]⟩ : ByteArray))), (67, .string (((⟨#[40]⟩ : ByteArray) ++ t103) ++ (⟨#[41]⟩ : ByteArray)))] ?_
    obtain ⟨hc106, h⟩ := of_cond0 h
    refine RegI.o (OpE.run 68 (by kernel_rfl) (run_cat (a := (⟨#[108, 100, 32]⟩ : ByteArray)) (b := (((⟨#[40]⟩ : ByteArray) ++ t103) ++ (⟨#[41]⟩ : ByteArray))) (by kernel_rfl) hc106) ?_)
    obtain ⟨hc107, h⟩ := of_cond0 h
    refine RegI.o (OpE.run 69 (by kernel_rfl) (run_cat (a := ((⟨#[108, 100, 32]⟩ : ByteArray) ++ (((⟨#[40]⟩ : ByteArray) ++ t103) ++ (⟨#[41]⟩ : ByteArray)))) (b := (⟨#[44]⟩ : ByteArray)) (by kernel_rfl) hc107) ?_)
    refine RegI.p 1 [(1, .int .i64 p1), (11, .string t10), (14, .string (((⟨#[40]⟩ : ByteArray) ++ t103) ++ (⟨#[41]⟩ : ByteArray))), (69, .string (((⟨#[108, 100, 32]⟩ : ByteArray) ++ (((⟨#[40]⟩ : ByteArray) ++ t103) ++ (⟨#[41]⟩ : ByteArray))) ++ (⟨#[44]⟩ : ByteArray))), (70, .string t10)] ?_
    obtain ⟨hc108, h⟩ := of_cond0 h
    refine RegI.o (OpE.run 71 (by kernel_rfl) (run_cat (a := (((⟨#[108, 100, 32]⟩ : ByteArray) ++ (((⟨#[40]⟩ : ByteArray) ++ t103) ++ (⟨#[41]⟩ : ByteArray))) ++ (⟨#[44]⟩ : ByteArray))) (b := t10) (by kernel_rfl) hc108) ?_)
    refine RegI.p 1 [(1, .int .i64 p1), (14, .string (((⟨#[40]⟩ : ByteArray) ++ t103) ++ (⟨#[41]⟩ : ByteArray))), (71, .string ((((⟨#[108, 100, 32]⟩ : ByteArray) ++ (((⟨#[40]⟩ : ByteArray) ++ t103) ++ (⟨#[41]⟩ : ByteArray))) ++ (⟨#[44]⟩ : ByteArray)) ++ t10)), (72, .string t10)] ?_
    obtain ⟨hc109, h⟩ := of_cond0 h
    refine RegI.o (OpE.run 73 (by kernel_rfl) (run_cat (a := (⟨#[108, 100, 32]⟩ : ByteArray)) (b := t10) (by kernel_rfl) hc109) ?_)
    obtain ⟨hc110, h⟩ := of_cond0 h
    refine RegI.o (OpE.run 74 (by kernel_rfl) (run_cat (a := ((⟨#[108, 100, 32]⟩ : ByteArray) ++ t10)) (b := (⟨#[44]⟩ : ByteArray)) (by kernel_rfl) hc110) ?_)
    refine RegI.p 1 [(1, .int .i64 p1), (14, .string (((⟨#[40]⟩ : ByteArray) ++ t103) ++ (⟨#[41]⟩ : ByteArray))), (71, .string ((((⟨#[108, 100, 32]⟩ : ByteArray) ++ (((⟨#[40]⟩ : ByteArray) ++ t103) ++ (⟨#[41]⟩ : ByteArray))) ++ (⟨#[44]⟩ : ByteArray)) ++ t10)), (74, .string (((⟨#[108, 100, 32]⟩ : ByteArray) ++ t10) ++ (⟨#[44]⟩ : ByteArray))), (75, .string (((⟨#[40]⟩ : ByteArray) ++ t103) ++ (⟨#[41]⟩ : ByteArray)))] ?_
    obtain ⟨hc111, h⟩ := of_cond0 h
    refine RegI.o (OpE.run 76 (by kernel_rfl) (run_cat (a := (((⟨#[108, 100, 32]⟩ : ByteArray) ++ t10) ++ (⟨#[44]⟩ : ByteArray))) (b := (((⟨#[40]⟩ : ByteArray) ++ t103) ++ (⟨#[41]⟩ : ByteArray))) (by kernel_rfl) hc111) ?_)
    refine RegI.p 1 [(1, .int .i64 p1), (14, .string (((⟨#[40]⟩ : ByteArray) ++ t103) ++ (⟨#[41]⟩ : ByteArray))), (71, .string ((((⟨#[108, 100, 32]⟩ : ByteArray) ++ (((⟨#[40]⟩ : ByteArray) ++ t103) ++ (⟨#[41]⟩ : ByteArray))) ++ (⟨#[44]⟩ : ByteArray)) ++ t10)), (76, .string ((((⟨#[108, 100, 32]⟩ : ByteArray) ++ t10) ++ (⟨#[44]⟩ : ByteArray)) ++ (((⟨#[40]⟩ : ByteArray) ++ t103) ++ (⟨#[41]⟩ : ByteArray)))), (77, .string (((⟨#[40]⟩ : ByteArray) ++ t103) ++ (⟨#[41]⟩ : ByteArray)))] ?_
    refine RegI.o (OpE.run 78 (by kernel_rfl) (run_cat (a := (⟨#[108, 100, 32]⟩ : ByteArray)) (b := (((⟨#[40]⟩ : ByteArray) ++ t103) ++ (⟨#[41]⟩ : ByteArray))) (by kernel_rfl) hc106) ?_)
    obtain ⟨hc112, h⟩ := of_cond0 h
    refine RegI.o (OpE.run 79 (by kernel_rfl) (run_cat (a := ((⟨#[108, 100, 32]⟩ : ByteArray) ++ (((⟨#[40]⟩ : ByteArray) ++ t103) ++ (⟨#[41]⟩ : ByteArray)))) (b := (⟨#[44, 97]⟩ : ByteArray)) (by kernel_rfl) hc112) ?_)
    refine RegI.p 1 [(1, .int .i64 p1), (71, .string ((((⟨#[108, 100, 32]⟩ : ByteArray) ++ (((⟨#[40]⟩ : ByteArray) ++ t103) ++ (⟨#[41]⟩ : ByteArray))) ++ (⟨#[44]⟩ : ByteArray)) ++ t10)), (76, .string ((((⟨#[108, 100, 32]⟩ : ByteArray) ++ t10) ++ (⟨#[44]⟩ : ByteArray)) ++ (((⟨#[40]⟩ : ByteArray) ++ t103) ++ (⟨#[41]⟩ : ByteArray)))), (79, .string (((⟨#[108, 100, 32]⟩ : ByteArray) ++ (((⟨#[40]⟩ : ByteArray) ++ t103) ++ (⟨#[41]⟩ : ByteArray))) ++ (⟨#[44, 97]⟩ : ByteArray))), (80, .string (((⟨#[40]⟩ : ByteArray) ++ t103) ++ (⟨#[41]⟩ : ByteArray)))] ?_
    obtain ⟨hc113, h⟩ := of_cond0 h
    refine RegI.o (OpE.run 81 (by kernel_rfl) (run_cat (a := (⟨#[108, 100, 32, 97, 44]⟩ : ByteArray)) (b := (((⟨#[40]⟩ : ByteArray) ++ t103) ++ (⟨#[41]⟩ : ByteArray))) (by kernel_rfl) hc113) ?_)
    refine RegI.o (OpE.lit 82 9 [.string (⟨#[108, 100, 32, 40, 98, 99, 41, 44, 97]⟩ : ByteArray), .string (⟨#[108, 100, 32, 97, 44, 40, 98, 99, 41]⟩ : ByteArray), .string (⟨#[108, 100, 32, 40, 100, 101, 41, 44, 97]⟩ : ByteArray), .string (⟨#[108, 100, 32, 97, 44, 40, 100, 101, 41]⟩ : ByteArray), .string ((((⟨#[108, 100, 32]⟩ : ByteArray) ++ (((⟨#[40]⟩ : ByteArray) ++ t103) ++ (⟨#[41]⟩ : ByteArray))) ++ (⟨#[44]⟩ : ByteArray)) ++ t10), .string ((((⟨#[108, 100, 32]⟩ : ByteArray) ++ t10) ++ (⟨#[44]⟩ : ByteArray)) ++ (((⟨#[40]⟩ : ByteArray) ++ t103) ++ (⟨#[41]⟩ : ByteArray))), .string (((⟨#[108, 100, 32]⟩ : ByteArray) ++ (((⟨#[40]⟩ : ByteArray) ++ t103) ++ (⟨#[41]⟩ : ByteArray))) ++ (⟨#[44, 97]⟩ : ByteArray)), .string ((⟨#[108, 100, 32, 97, 44]⟩ : ByteArray) ++ (((⟨#[40]⟩ : ByteArray) ++ t103) ++ (⟨#[41]⟩ : ByteArray)))] 8 h101 (by kernel_rfl) (by kernel_rfl) ?_)
    intro w114 b115 h116 hb117 hn118
    refine RegI.p 1 [(82, .slice (some ⟨b115, 0, none⟩) (([(⟨#[108, 100, 32, 40, 98, 99, 41, 44, 97]⟩ : ByteArray), (⟨#[108, 100, 32, 97, 44, 40, 98, 99, 41]⟩ : ByteArray), (⟨#[108, 100, 32, 40, 100, 101, 41, 44, 97]⟩ : ByteArray), (⟨#[108, 100, 32, 97, 44, 40, 100, 101, 41]⟩ : ByteArray), ((((⟨#[108, 100, 32]⟩ : ByteArray) ++ (((⟨#[40]⟩ : ByteArray) ++ t103) ++ (⟨#[41]⟩ : ByteArray))) ++ (⟨#[44]⟩ : ByteArray)) ++ t10), ((((⟨#[108, 100, 32]⟩ : ByteArray) ++ t10) ++ (⟨#[44]⟩ : ByteArray)) ++ (((⟨#[40]⟩ : ByteArray) ++ t103) ++ (⟨#[41]⟩ : ByteArray))), (((⟨#[108, 100, 32]⟩ : ByteArray) ++ (((⟨#[40]⟩ : ByteArray) ++ t103) ++ (⟨#[41]⟩ : ByteArray))) ++ (⟨#[44, 97]⟩ : ByteArray)), ((⟨#[108, 100, 32, 97, 44]⟩ : ByteArray) ++ (((⟨#[40]⟩ : ByteArray) ++ t103) ++ (⟨#[41]⟩ : ByteArray)))] : List ByteArray).length) 8), (83, .int .i64 p1)] ?_
    have h119 := h116.boxOwn 1 rfl Rp.str ([(⟨#[108, 100, 32, 40, 98, 99, 41, 44, 97]⟩ : ByteArray), (⟨#[108, 100, 32, 97, 44, 40, 98, 99, 41]⟩ : ByteArray), (⟨#[108, 100, 32, 40, 100, 101, 41, 44, 97]⟩ : ByteArray), (⟨#[108, 100, 32, 97, 44, 40, 100, 101, 41]⟩ : ByteArray), ((((⟨#[108, 100, 32]⟩ : ByteArray) ++ (((⟨#[40]⟩ : ByteArray) ++ t103) ++ (⟨#[41]⟩ : ByteArray))) ++ (⟨#[44]⟩ : ByteArray)) ++ t10), ((((⟨#[108, 100, 32]⟩ : ByteArray) ++ t10) ++ (⟨#[44]⟩ : ByteArray)) ++ (((⟨#[40]⟩ : ByteArray) ++ t103) ++ (⟨#[41]⟩ : ByteArray))), (((⟨#[108, 100, 32]⟩ : ByteArray) ++ (((⟨#[40]⟩ : ByteArray) ++ t103) ++ (⟨#[41]⟩ : ByteArray))) ++ (⟨#[44, 97]⟩ : ByteArray)), ((⟨#[108, 100, 32, 97, 44]⟩ : ByteArray) ++ (((⟨#[40]⟩ : ByteArray) ++ t103) ++ (⟨#[41]⟩ : ByteArray)))] : List ByteArray) (cells_str _ _ _) (Nat.le_of_ble_eq_true (by kernel_rfl))
    obtain ⟨hc120, h⟩ := of_cond0 h
    refine RegI.o (OpE.idxOwnA 84 1 55 9 p1 h119 (by kernel_rfl) rfl (by kernel_rfl) (by kernel_rfl) hc120 ?_)
    refine RegI.o (OpE.loadOwnA 85 1 9 9 p1 0 (o := (Int.toNat p1) * 1 + 0) h119 (by kernel_rfl) rfl (by kernel_rfl) (by kernel_rfl) hc120 (fun cs121 hk122 => ?_))
    obtain rfl := hk122
    refine ⟨.string (rdD ([(⟨#[108, 100, 32, 40, 98, 99, 41, 44, 97]⟩ : ByteArray), (⟨#[108, 100, 32, 97, 44, 40, 98, 99, 41]⟩ : ByteArray), (⟨#[108, 100, 32, 40, 100, 101, 41, 44, 97]⟩ : ByteArray), (⟨#[108, 100, 32, 97, 44, 40, 100, 101, 41]⟩ : ByteArray), ((((⟨#[108, 100, 32]⟩ : ByteArray) ++ (((⟨#[40]⟩ : ByteArray) ++ t103) ++ (⟨#[41]⟩ : ByteArray))) ++ (⟨#[44]⟩ : ByteArray)) ++ t10), ((((⟨#[108, 100, 32]⟩ : ByteArray) ++ t10) ++ (⟨#[44]⟩ : ByteArray)) ++ (((⟨#[40]⟩ : ByteArray) ++ t103) ++ (⟨#[41]⟩ : ByteArray))), (((⟨#[108, 100, 32]⟩ : ByteArray) ++ (((⟨#[40]⟩ : ByteArray) ++ t103) ++ (⟨#[41]⟩ : ByteArray))) ++ (⟨#[44, 97]⟩ : ByteArray)), ((⟨#[108, 100, 32, 97, 44]⟩ : ByteArray) ++ (((⟨#[40]⟩ : ByteArray) ++ t103) ++ (⟨#[41]⟩ : ByteArray)))] : List ByteArray) p1), by kernel_rfl, ?_⟩
    refine RegI.p 1 [(10, .string (rdD ([(⟨#[108, 100, 32, 40, 98, 99, 41, 44, 97]⟩ : ByteArray), (⟨#[108, 100, 32, 97, 44, 40, 98, 99, 41]⟩ : ByteArray), (⟨#[108, 100, 32, 40, 100, 101, 41, 44, 97]⟩ : ByteArray), (⟨#[108, 100, 32, 97, 44, 40, 100, 101, 41]⟩ : ByteArray), ((((⟨#[108, 100, 32]⟩ : ByteArray) ++ (((⟨#[40]⟩ : ByteArray) ++ t103) ++ (⟨#[41]⟩ : ByteArray))) ++ (⟨#[44]⟩ : ByteArray)) ++ t10), ((((⟨#[108, 100, 32]⟩ : ByteArray) ++ t10) ++ (⟨#[44]⟩ : ByteArray)) ++ (((⟨#[40]⟩ : ByteArray) ++ t103) ++ (⟨#[41]⟩ : ByteArray))), (((⟨#[108, 100, 32]⟩ : ByteArray) ++ (((⟨#[40]⟩ : ByteArray) ++ t103) ++ (⟨#[41]⟩ : ByteArray))) ++ (⟨#[44, 97]⟩ : ByteArray)), ((⟨#[108, 100, 32, 97, 44]⟩ : ByteArray) ++ (((⟨#[40]⟩ : ByteArray) ++ t103) ++ (⟨#[41]⟩ : ByteArray)))] : List ByteArray) p1))] ?_
    refine RegI.d ?_
    refine RunsI.t (.string (rdD ([(⟨#[108, 100, 32, 40, 98, 99, 41, 44, 97]⟩ : ByteArray), (⟨#[108, 100, 32, 97, 44, 40, 98, 99, 41]⟩ : ByteArray), (⟨#[108, 100, 32, 40, 100, 101, 41, 44, 97]⟩ : ByteArray), (⟨#[108, 100, 32, 97, 44, 40, 100, 101, 41]⟩ : ByteArray), ((((⟨#[108, 100, 32]⟩ : ByteArray) ++ (((⟨#[40]⟩ : ByteArray) ++ t103) ++ (⟨#[41]⟩ : ByteArray))) ++ (⟨#[44]⟩ : ByteArray)) ++ t10), ((((⟨#[108, 100, 32]⟩ : ByteArray) ++ t10) ++ (⟨#[44]⟩ : ByteArray)) ++ (((⟨#[40]⟩ : ByteArray) ++ t103) ++ (⟨#[41]⟩ : ByteArray))), (((⟨#[108, 100, 32]⟩ : ByteArray) ++ (((⟨#[40]⟩ : ByteArray) ++ t103) ++ (⟨#[41]⟩ : ByteArray))) ++ (⟨#[44, 97]⟩ : ByteArray)), ((⟨#[108, 100, 32, 97, 44]⟩ : ByteArray) ++ (((⟨#[40]⟩ : ByteArray) ++ t103) ++ (⟨#[41]⟩ : ByteArray)))] : List ByteArray) p1)) ?_
    obtain rfl := Option.some.inj h
    exact ⟨rfl, h119.below⟩
   ·skip
    refine RunsI.f 61 false hc98 ?_
    refine RunsI.b false 48 ?_
    refine RunsI.g 1 [.c 49, .c 50, .blk 0, .c 73] ?_
    refine RunsI.r ?_
    refine RegI.p 2 [(1, .int .i64 p1), (4, .int .i64 p4), (5, .pointer (some ⟨b2, 0, none⟩)), (12, .string t15), (20, .int .i64 p2), (86, .bool (p2 == 3))] ?_
    refine RegI.d ?_
    rcases of_cond h with ⟨hc123, h⟩ | ⟨hc123, h⟩
    ·skip
     refine RunsI.f 86 true hc123 ?_
     refine RunsI.b true 51 ?_
     refine RunsI.g 1 [.c 52, .c 53, .blk 0, .c 73] ?_
     refine RunsI.r ?_
     refine RegI.o (OpE.lit 88 9 [.string (⟨#[105, 110, 99, 32]⟩ : ByteArray), .string (⟨#[100, 101, 99, 32]⟩ : ByteArray)] 2 h13 (by kernel_rfl) (by kernel_rfl) ?_)
     intro w124 b125 h126 hb127 hn128
     refine RegI.p 1 [(12, .string t15), (88, .slice (some ⟨b125, 0, none⟩) (([(⟨#[105, 110, 99, 32]⟩ : ByteArray), (⟨#[100, 101, 99, 32]⟩ : ByteArray)] : List ByteArray).length) 2), (89, .int .i64 p4)] ?_
     have h129 := h126.boxOwn 1 rfl Rp.str ([(⟨#[105, 110, 99, 32]⟩ : ByteArray), (⟨#[100, 101, 99, 32]⟩ : ByteArray)] : List ByteArray) (cells_str _ _ _) (Nat.le_of_ble_eq_true (by kernel_rfl))
     obtain ⟨hc130, h⟩ := of_cond0 h
     refine RegI.o (OpE.idxOwnA 90 1 55 9 p4 h129 (by kernel_rfl) rfl (by kernel_rfl) (by kernel_rfl) hc130 ?_)
     refine RegI.o (OpE.loadOwnA 91 1 9 9 p4 0 (o := (Int.toNat p4) * 1 + 0) h129 (by kernel_rfl) rfl (by kernel_rfl) (by kernel_rfl) hc130 (fun cs131 hk132 => ?_))
     obtain rfl := hk132
     refine ⟨.string (rdD ([(⟨#[105, 110, 99, 32]⟩ : ByteArray), (⟨#[100, 101, 99, 32]⟩ : ByteArray)] : List ByteArray) p4), by kernel_rfl, ?_⟩
     refine RegI.p 1 [(91, .string (rdD ([(⟨#[105, 110, 99, 32]⟩ : ByteArray), (⟨#[100, 101, 99, 32]⟩ : ByteArray)] : List ByteArray) p4)), (92, .string t15)] ?_
     obtain ⟨hc133, h⟩ := of_cond0 h
     refine RegI.o (OpE.run 93 (by kernel_rfl) (run_cat (a := (rdD ([(⟨#[105, 110, 99, 32]⟩ : ByteArray), (⟨#[100, 101, 99, 32]⟩ : ByteArray)] : List ByteArray) p4)) (b := t15) (by kernel_rfl) hc133) ?_)
     refine RegI.p 1 [(10, .string ((rdD ([(⟨#[105, 110, 99, 32]⟩ : ByteArray), (⟨#[100, 101, 99, 32]⟩ : ByteArray)] : List ByteArray) p4) ++ t15))] ?_
     refine RegI.d ?_
     refine RunsI.t (.string ((rdD ([(⟨#[105, 110, 99, 32]⟩ : ByteArray), (⟨#[100, 101, 99, 32]⟩ : ByteArray)] : List ByteArray) p4) ++ t15)) ?_
     obtain rfl := Option.some.inj h
     exact ⟨rfl, h129.below⟩
    ·skip
     refine RunsI.f 86 false hc123 ?_
     refine RunsI.b false 54 ?_
     refine RunsI.g 1 [.c 55, .c 56, .blk 0, .c 73] ?_
     refine RunsI.r ?_
     refine RegI.p 2 [(1, .int .i64 p1), (5, .pointer (some ⟨b2, 0, none⟩)), (20, .int .i64 p2), (94, .bool (p2 == 4))] ?_
     refine RegI.d ?_
     rcases of_cond h with ⟨hc134, h⟩ | ⟨hc134, h⟩
     ·skip
      refine RunsI.f 94 true hc134 ?_
      refine RunsI.b true 57 ?_
      refine RunsI.g 1 [.c 58, .c 59, .blk 0, .c 73] ?_
      refine RunsI.r ?_
      refine RegI.o (OpE.loadBox 96 0 51 b2 0 (.agg #[.int .i64 p0_0, .int .u8 p0_1, .int .u8 p0_2, .int .u16 p0_3, .int .i64 p0_4, .int .i64 p0_5]) h13 (by kernel_rfl) (by kernel_rfl) rfl (by kernel_rfl) ?_)
      refine RegI.p 1 [(96, .agg #[.int .i64 p0_0, .int .u8 p0_1, .int .u8 p0_2, .int .u16 p0_3, .int .i64 p0_4, .int .i64 p0_5]), (97, .int .i64 p1)] ?_
      obtain ⟨t139, hg138, h⟩ := of_bind h
      refine RegI.o (OpE.call 98 (by kernel_rfl) 61 #[.agg #[.int .i64 p0_0, .int .u8 p0_1, .int .u8 p0_2, .int .u16 p0_3, .int .i64 p0_4, .int .i64 p0_5], .int .i64 p1] (by kernel_rfl) ((charabancref09_reg_61_ok K _ w11  p0_0 p0_1 p0_2 p0_3 p0_4 p0_5 p1 h13.old' hg138).mono ?_))
      rintro _ w135 ⟨rfl, hb136⟩
      refine ⟨_, rfl, ?_⟩
      have h137 := h13.call hb136
      obtain ⟨hc140, h⟩ := of_cond0 h
      refine RegI.o (OpE.run 99 (by kernel_rfl) (run_cat (a := (⟨#[105, 110, 99, 32]⟩ : ByteArray)) (b := t139) (by kernel_rfl) hc140) ?_)
      refine RegI.p 1 [(10, .string ((⟨#[105, 110, 99, 32]⟩ : ByteArray) ++ t139))] ?_
      refine RegI.d ?_
      refine RunsI.t (.string ((⟨#[105, 110, 99, 32]⟩ : ByteArray) ++ t139)) ?_
      obtain rfl := Option.some.inj h
      exact ⟨rfl, h137.below⟩
     ·skip
      refine RunsI.f 94 false hc134 ?_
      refine RunsI.b false 60 ?_
      refine RunsI.g 1 [.c 61, .c 62, .blk 0, .c 73] ?_
      refine RunsI.r ?_
      refine RegI.p 2 [(1, .int .i64 p1), (5, .pointer (some ⟨b2, 0, none⟩)), (20, .int .i64 p2), (100, .bool (p2 == 5))] ?_
      refine RegI.d ?_
      rcases of_cond h with ⟨hc141, h⟩ | ⟨hc141, h⟩
      ·skip
       refine RunsI.f 100 true hc141 ?_
       refine RunsI.b true 63 ?_
       refine RunsI.g 1 [.c 64, .c 65, .blk 0, .c 73] ?_
       refine RunsI.r ?_
       refine RegI.o (OpE.loadBox 102 0 51 b2 0 (.agg #[.int .i64 p0_0, .int .u8 p0_1, .int .u8 p0_2, .int .u16 p0_3, .int .i64 p0_4, .int .i64 p0_5]) h13 (by kernel_rfl) (by kernel_rfl) rfl (by kernel_rfl) ?_)
       refine RegI.p 1 [(102, .agg #[.int .i64 p0_0, .int .u8 p0_1, .int .u8 p0_2, .int .u16 p0_3, .int .i64 p0_4, .int .i64 p0_5]), (103, .int .i64 p1)] ?_
       obtain ⟨t146, hg145, h⟩ := of_bind h
       refine RegI.o (OpE.call 104 (by kernel_rfl) 61 #[.agg #[.int .i64 p0_0, .int .u8 p0_1, .int .u8 p0_2, .int .u16 p0_3, .int .i64 p0_4, .int .i64 p0_5], .int .i64 p1] (by kernel_rfl) ((charabancref09_reg_61_ok K _ w11  p0_0 p0_1 p0_2 p0_3 p0_4 p0_5 p1 h13.old' hg145).mono ?_))
       rintro _ w142 ⟨rfl, hb143⟩
       refine ⟨_, rfl, ?_⟩
       have h144 := h13.call hb143
       obtain ⟨hc147, h⟩ := of_cond0 h
       refine RegI.o (OpE.run 105 (by kernel_rfl) (run_cat (a := (⟨#[100, 101, 99, 32]⟩ : ByteArray)) (b := t146) (by kernel_rfl) hc147) ?_)
       refine RegI.p 1 [(10, .string ((⟨#[100, 101, 99, 32]⟩ : ByteArray) ++ t146))] ?_
       refine RegI.d ?_
       refine RunsI.t (.string ((⟨#[100, 101, 99, 32]⟩ : ByteArray) ++ t146)) ?_
       obtain rfl := Option.some.inj h
       exact ⟨rfl, h144.below⟩
      ·skip
       refine RunsI.f 100 false hc141 ?_
       refine RunsI.b false 66 ?_
       refine RunsI.g 1 [.c 67, .c 68, .blk 0, .c 73] ?_
       refine RunsI.r ?_
       refine RegI.p 2 [(1, .int .i64 p1), (5, .pointer (some ⟨b2, 0, none⟩)), (106, .bool (p2 == 6))] ?_
       refine RegI.d ?_
       rcases of_cond h with ⟨hc148, h⟩ | ⟨hc148, h⟩
       ·skip
        refine RunsI.f 106 true hc148 ?_
        refine RunsI.b true 69 ?_
        refine RunsI.g 1 [.c 70, .c 71, .blk 0, .c 73] ?_
        refine RunsI.any 9 (by kernel_rfl) (by kernel_rfl) (by kernel_rfl) (Kp ([] : List Nat) (World.drew w11)) ?_
        have h150 := h13.drew
        generalize World.drew w11 = w149 at h150 ⊢
        have hS151 := Kp.refl ([] : List Nat) w149
        refine AnyE.loadBox 0 108 0 51 b2 0 (.agg #[.int .i64 p0_0, .int .u8 p0_1, .int .u8 p0_2, .int .u16 p0_3, .int .i64 p0_4, .int .i64 p0_5]) [] h150 rfl (by kernel_rfl) hS151 rfl rfl (by kernel_rfl) (by kernel_rfl) ?_
        refine AnyE.pure 1 109 (.int .i64 p1) (by kernel_rfl) hS151 (fun _ => by kernel_rfl) ?_
        obtain ⟨t154, hg153, h⟩ := of_bind h
        refine AnyE.call 2 110 (.string t154) 61 #[.agg #[.int .i64 p0_0, .int .u8 p0_1, .int .u8 p0_2, .int .u16 p0_3, .int .i64 p0_4, .int .i64 p0_5], .int .i64 p1] (by kernel_rfl) hS151 (fun _ => by kernel_rfl) (fun w hk => charabancref09_reg_61_ok K (fun _ => False) w p0_0 p0_1 p0_2 p0_3 p0_4 p0_5 p1 (fun _ hf => hf.elim) hg153) ?_
        obtain ⟨hc155, h⟩ := of_cond0 h
        refine AnyE.run 3 111 (.string ((⟨#[108, 100, 32]⟩ : ByteArray) ++ t154)) (by kernel_rfl) hS151 (fun _ hk => run_cat (a := (⟨#[108, 100, 32]⟩ : ByteArray)) (b := t154) (by kernel_rfl) hc155) ?_
        obtain ⟨hc156, h⟩ := of_cond0 h
        refine AnyE.run 4 112 (.string (((⟨#[108, 100, 32]⟩ : ByteArray) ++ t154) ++ (⟨#[44]⟩ : ByteArray))) (by kernel_rfl) hS151 (fun _ hk => run_cat (a := ((⟨#[108, 100, 32]⟩ : ByteArray) ++ t154)) (b := (⟨#[44]⟩ : ByteArray)) (by kernel_rfl) hc156) ?_
        refine AnyE.loadBox 5 113 0 51 b2 0 (.agg #[.int .i64 p0_0, .int .u8 p0_1, .int .u8 p0_2, .int .u16 p0_3, .int .i64 p0_4, .int .i64 p0_5]) [] h150 rfl (by kernel_rfl) hS151 rfl rfl (by kernel_rfl) (by kernel_rfl) ?_
        obtain ⟨t158, hg157, h⟩ := of_bind h
        refine AnyE.call 6 114 (.string t158) 101 #[.agg #[.int .i64 p0_0, .int .u8 p0_1, .int .u8 p0_2, .int .u16 p0_3, .int .i64 p0_4, .int .i64 p0_5]] (by kernel_rfl) hS151 (fun _ => by kernel_rfl) (fun w hk => charabancref09_n_101_ok K (fun _ => False) w p0_0 p0_1 p0_2 p0_3 p0_4 p0_5 (fun _ hf => hf.elim) hg157) ?_
        obtain ⟨hc159, h⟩ := of_cond0 h
        refine AnyE.run 7 115 (.string ((((⟨#[108, 100, 32]⟩ : ByteArray) ++ t154) ++ (⟨#[44]⟩ : ByteArray)) ++ t158)) (by kernel_rfl) hS151 (fun _ hk => run_cat (a := (((⟨#[108, 100, 32]⟩ : ByteArray) ++ t154) ++ (⟨#[44]⟩ : ByteArray))) (b := t158) (by kernel_rfl) hc159) ?_
        refine AnyE.pure 8 10 (.string ((((⟨#[108, 100, 32]⟩ : ByteArray) ++ t154) ++ (⟨#[44]⟩ : ByteArray)) ++ t158)) (by kernel_rfl) hS151 (fun _ => by kernel_rfl) ?_
        refine AnyE.done (by kernel_rfl) (fun w160 hu161 => ?_)
        have h162 := h150.call hu161
        refine RunsI.l [10] [(10, .string ((((⟨#[108, 100, 32]⟩ : ByteArray) ++ t154) ++ (⟨#[44]⟩ : ByteArray)) ++ t158))] ?_
        refine RunsI.t (.string ((((⟨#[108, 100, 32]⟩ : ByteArray) ++ t154) ++ (⟨#[44]⟩ : ByteArray)) ++ t158)) ?_
        obtain rfl := Option.some.inj h
        exact ⟨rfl, h162.below⟩
       ·skip
        refine RunsI.f 106 false hc148 ?_
        refine RunsI.b false 72 ?_
        refine RunsI.g 1 [.blk 0, .c 73] ?_
        refine RunsI.g 2 [.c 74, .c 75] ?_
        refine RunsI.r ?_
        refine RegI.o (OpE.lit 116 9 [.string (⟨#[114, 108, 99, 97]⟩ : ByteArray), .string (⟨#[114, 114, 99, 97]⟩ : ByteArray), .string (⟨#[114, 108, 97]⟩ : ByteArray), .string (⟨#[114, 114, 97]⟩ : ByteArray), .string (⟨#[100, 97, 97]⟩ : ByteArray), .string (⟨#[99, 112, 108]⟩ : ByteArray), .string (⟨#[115, 99, 102]⟩ : ByteArray), .string (⟨#[99, 99, 102]⟩ : ByteArray)] 8 h13 (by kernel_rfl) (by kernel_rfl) ?_)
        intro w163 b164 h165 hb166 hn167
        refine RegI.p 1 [(116, .slice (some ⟨b164, 0, none⟩) (([(⟨#[114, 108, 99, 97]⟩ : ByteArray), (⟨#[114, 114, 99, 97]⟩ : ByteArray), (⟨#[114, 108, 97]⟩ : ByteArray), (⟨#[114, 114, 97]⟩ : ByteArray), (⟨#[100, 97, 97]⟩ : ByteArray), (⟨#[99, 112, 108]⟩ : ByteArray), (⟨#[115, 99, 102]⟩ : ByteArray), (⟨#[99, 99, 102]⟩ : ByteArray)] : List ByteArray).length) 8), (117, .int .i64 p1)] ?_
        have h168 := h165.boxOwn 1 rfl Rp.str ([(⟨#[114, 108, 99, 97]⟩ : ByteArray), (⟨#[114, 114, 99, 97]⟩ : ByteArray), (⟨#[114, 108, 97]⟩ : ByteArray), (⟨#[114, 114, 97]⟩ : ByteArray), (⟨#[100, 97, 97]⟩ : ByteArray), (⟨#[99, 112, 108]⟩ : ByteArray), (⟨#[115, 99, 102]⟩ : ByteArray), (⟨#[99, 99, 102]⟩ : ByteArray)] : List ByteArray) (cells_str _ _ _) (Nat.le_of_ble_eq_true (by kernel_rfl))
        obtain ⟨hc169, h⟩ := of_cond0 h
        refine RegI.o (OpE.idxOwnA 118 1 55 9 p1 h168 (by kernel_rfl) rfl (by kernel_rfl) (by kernel_rfl) hc169 ?_)
        refine RegI.o (OpE.loadOwnA 119 1 9 9 p1 0 (o := (Int.toNat p1) * 1 + 0) h168 (by kernel_rfl) rfl (by kernel_rfl) (by kernel_rfl) hc169 (fun cs170 hk171 => ?_))
        obtain rfl := hk171
        refine ⟨.string (rdD ([(⟨#[114, 108, 99, 97]⟩ : ByteArray), (⟨#[114, 114, 99, 97]⟩ : ByteArray), (⟨#[114, 108, 97]⟩ : ByteArray), (⟨#[114, 114, 97]⟩ : ByteArray), (⟨#[100, 97, 97]⟩ : ByteArray), (⟨#[99, 112, 108]⟩ : ByteArray), (⟨#[115, 99, 102]⟩ : ByteArray), (⟨#[99, 99, 102]⟩ : ByteArray)] : List ByteArray) p1), by kernel_rfl, ?_⟩
        refine RegI.p 1 [(10, .string (rdD ([(⟨#[114, 108, 99, 97]⟩ : ByteArray), (⟨#[114, 114, 99, 97]⟩ : ByteArray), (⟨#[114, 108, 97]⟩ : ByteArray), (⟨#[114, 114, 97]⟩ : ByteArray), (⟨#[100, 97, 97]⟩ : ByteArray), (⟨#[99, 112, 108]⟩ : ByteArray), (⟨#[115, 99, 102]⟩ : ByteArray), (⟨#[99, 99, 102]⟩ : ByteArray)] : List ByteArray) p1))] ?_
        refine RegI.d ?_
        refine RunsI.t (.string (rdD ([(⟨#[114, 108, 99, 97]⟩ : ByteArray), (⟨#[114, 114, 99, 97]⟩ : ByteArray), (⟨#[114, 108, 97]⟩ : ByteArray), (⟨#[114, 114, 97]⟩ : ByteArray), (⟨#[100, 97, 97]⟩ : ByteArray), (⟨#[99, 112, 108]⟩ : ByteArray), (⟨#[115, 99, 102]⟩ : ByteArray), (⟨#[99, 99, 102]⟩ : ByteArray)] : List ByteArray) p1)) ?_
        obtain rfl := Option.some.inj h
        exact ⟨rfl, h168.below⟩
end

/-! ### charabanc/charabancref09.sums (function 62) -/
section
def charabancref09_sums_62.post (M0 : Nat → Prop) (w0 : World) (r : (List ByteArray)) : Ending → World → Prop := fun e w => ∃ (A1 : Option Addr) (c1 : Nat), e = .returned (.slice A1 r.length c1) ∧ Holds M0 w0 w [own Rp.str 9 (.slice A1 r.length c1) r]
def charabancref09_sums_62.f (K : Nat) : Option (List ByteArray) := some ([(⟨#[97, 100, 100, 32, 97, 44]⟩ : ByteArray), (⟨#[97, 100, 99, 32, 97, 44]⟩ : ByteArray), (⟨#[115, 117, 98, 32]⟩ : ByteArray), (⟨#[115, 98, 99, 32, 97, 44]⟩ : ByteArray), (⟨#[97, 110, 100, 32]⟩ : ByteArray), (⟨#[120, 111, 114, 32]⟩ : ByteArray), (⟨#[111, 114, 32]⟩ : ByteArray), (⟨#[99, 112, 32]⟩ : ByteArray)] : List ByteArray)
set_option maxRecDepth 100000 in
theorem charabancref09_sums_62_ok (K : Nat) (M0 : Nat → Prop) (w0 : World) (ho : ∀ b, M0 b → b < w0.heap.size) {r : (List ByteArray)} (h : charabancref09_sums_62.f K = some r) :
  Calls Tryd.prog 62 #[] w0 (charabancref09_sums_62.post M0 w0 r) := by
 unfold charabancref09_sums_62.f at h
 have h0 : Holds M0 w0 w0 [] := Holds.start ho
 have h0 : Holds M0 w0 w0 [] := h0
 refine calls_of F62 rfl [] (by kernel_rfl) ?_
 refine RunsI.g 1 [.c 1, .c 2] ?_
 refine RunsI.r ?_
 refine RegI.p 1 [] ?_
 refine RegI.d ?_
 refine RunsI.g 1 [.c 3, .c 4] ?_
 refine RunsI.r ?_
 refine RegI.o (OpE.lit 1 9 [.string (⟨#[97, 100, 100, 32, 97, 44]⟩ : ByteArray), .string (⟨#[97, 100, 99, 32, 97, 44]⟩ : ByteArray), .string (⟨#[115, 117, 98, 32]⟩ : ByteArray), .string (⟨#[115, 98, 99, 32, 97, 44]⟩ : ByteArray), .string (⟨#[97, 110, 100, 32]⟩ : ByteArray), .string (⟨#[120, 111, 114, 32]⟩ : ByteArray), .string (⟨#[111, 114, 32]⟩ : ByteArray), .string (⟨#[99, 112, 32]⟩ : ByteArray)] 8 h0 (by kernel_rfl) (by kernel_rfl) ?_)
 intro w1 b2 h3 hb4 hn5
 refine RegI.p 1 [(0, .slice (some ⟨b2, 0, none⟩) (([(⟨#[97, 100, 100, 32, 97, 44]⟩ : ByteArray), (⟨#[97, 100, 99, 32, 97, 44]⟩ : ByteArray), (⟨#[115, 117, 98, 32]⟩ : ByteArray), (⟨#[115, 98, 99, 32, 97, 44]⟩ : ByteArray), (⟨#[97, 110, 100, 32]⟩ : ByteArray), (⟨#[120, 111, 114, 32]⟩ : ByteArray), (⟨#[111, 114, 32]⟩ : ByteArray), (⟨#[99, 112, 32]⟩ : ByteArray)] : List ByteArray).length) 8)] ?_
 refine RegI.d ?_
 refine RunsI.t (.slice (some ⟨b2, 0, none⟩) (([(⟨#[97, 100, 100, 32, 97, 44]⟩ : ByteArray), (⟨#[97, 100, 99, 32, 97, 44]⟩ : ByteArray), (⟨#[115, 117, 98, 32]⟩ : ByteArray), (⟨#[115, 98, 99, 32, 97, 44]⟩ : ByteArray), (⟨#[97, 110, 100, 32]⟩ : ByteArray), (⟨#[120, 111, 114, 32]⟩ : ByteArray), (⟨#[111, 114, 32]⟩ : ByteArray), (⟨#[99, 112, 32]⟩ : ByteArray)] : List ByteArray).length) 8) ?_
 have h6 := h3.boxOwn 0 rfl Rp.str ([(⟨#[97, 100, 100, 32, 97, 44]⟩ : ByteArray), (⟨#[97, 100, 99, 32, 97, 44]⟩ : ByteArray), (⟨#[115, 117, 98, 32]⟩ : ByteArray), (⟨#[115, 98, 99, 32, 97, 44]⟩ : ByteArray), (⟨#[97, 110, 100, 32]⟩ : ByteArray), (⟨#[120, 111, 114, 32]⟩ : ByteArray), (⟨#[111, 114, 32]⟩ : ByteArray), (⟨#[99, 112, 32]⟩ : ByteArray)] : List ByteArray) (cells_str _ _ _) (Nat.le_of_ble_eq_true (by kernel_rfl))
 obtain rfl := Option.some.inj h
 exact ⟨(some ⟨b2, 0, none⟩), 8, rfl, h6.pick [0] (by decide)⟩
end
end Go.Proofs.YtilgjfckgkkfmaaDoor.Tex
