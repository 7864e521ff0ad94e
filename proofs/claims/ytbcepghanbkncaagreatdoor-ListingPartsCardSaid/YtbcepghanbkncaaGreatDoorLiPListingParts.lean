/- The statement's function ListingParts as a plain Lean function; written by wip/eng.py. -/
import Derived.Test.YtbcepghanbkncaaGreatDoorEngShort
import Derived.Test.YtbcepghanbkncaaGreatDoorLiP5
set_option linter.unusedVariables false
set_option linter.unusedSimpArgs false
set_option maxHeartbeats 4000000
namespace Go.Proofs.YtbcepghanbkncaaGreatDoor.LiP
open Go.RowKit Go.Eng
set_option maxRecDepth 100000
noncomputable def B4 : Code := (Tryz.f4.body).getD .skip
noncomputable def F4 : Fun Tryz.prog := ⟨4, Tryz.f4, B4, 101, Tryz.func4, by kernel_rfl, by kernel_rfl, [], none⟩

variable {mx0 : Int}
/-! ### charabanc/charabanclaw34.ListingParts (function 4) -/
section
def charabanclaw34_ListingParts_4.post (M0 : Nat → Prop) (w0 : World) (r : Bool) : Ending → World → Prop := fun e w => e = .returned (.bool r) ∧ Below w0.heap.size w0 w
def charabanclaw34_ListingParts_4.f (K : Nat) (p0 : List (Int × Int)) (p1 : Int) (p2 : Int) : Option Bool := (charabanclaw34_awake_7.f K).bind fun t5 => cond (!t5) (some false) (cond (decide ((p0.length : Int) > 60)) (some true) ((listing_Next_13.f K p0 (IntKind.wrap .u16 p1) (band .i64 p1 15)).bind fun t12 => (listing_Lines_14.f K p0 (IntKind.wrap .u16 p1) (band .i64 p1 15)).bind fun t17 => cond (mayBe (([] : List ByteArray).length + t17.length) 16) ((listing_Lines_14.f K p0 t12 (band .i64 p2 15)).bind fun t33 => cond (mayBe ((([] : List ByteArray) ++ t17).length + t33.length) 16) ((listing_Rows_15.f K p0 (IntKind.wrap .u16 p1) (band .i64 p1 15)).bind fun t48 => cond (mayBe (([] : List ByteArray).length + t48.length) 16) ((listing_Rows_15.f K p0 (IntKind.wrap .u16 ((IntKind.wrap .u16 p1) + (IntKind.wrap .u16 (IntKind.wrap .i64 (16 * (band .i64 p1 15)))))) (band .i64 p2 15)).bind fun t64 => cond (mayBe ((([] : List ByteArray) ++ t48).length + t64.length) 16) ((listing_Lines_14.f K p0 (IntKind.wrap .u16 p1) (IntKind.wrap .i64 ((band .i64 p1 15) + (band .i64 p2 15)))).bind fun t79 => (charabancref09_Same_16.f K ((([] : List ByteArray) ++ t17) ++ t33) t79).bind fun t88 => cond t88 ((listing_Rows_15.f K p0 (IntKind.wrap .u16 p1) (IntKind.wrap .i64 ((band .i64 p1 15) + (band .i64 p2 15)))).bind fun t94 => (charabancref09_Same_16.f K ((([] : List ByteArray) ++ t48) ++ t64) t94).bind fun t103 => cond t103 ((listing_Next_13.f K p0 t12 (band .i64 p2 15)).bind fun t109 => (listing_Next_13.f K p0 (IntKind.wrap .u16 p1) (IntKind.wrap .i64 ((band .i64 p1 15) + (band .i64 p2 15)))).bind fun t114 => cond (t109 == t114) (some ((((([] : List ByteArray) ++ t48) ++ t64).length : Int) == (IntKind.wrap .i64 ((band .i64 p1 15) + (band .i64 p2 15))))) (some false)) (some false)) (some false)) none) none) none) none))
theorem charabanclaw34_ListingParts_4_ok (K : Nat) (M0 : Nat → Prop) (w0 : World) (pA0 : Option Addr) (pc0 : Nat) (p0 : List (Int × Int)) (p1 : Int) (p2 : Int) (ho : ∀ b, M0 b → b < w0.heap.size) (hs0 : Sl (Rp.pair (Rp.int .u16) (Rp.int .u8)) w0 M0 (.slice pA0 p0.length pc0) p0) (hG0 : (cel 0 0 [iA mx0]).ok w0 M0) (hG1 : (gl 1 (tab_1.flatMap en_1)).ok w0 M0) (hG2 : (gl 2 (tab_2.flatMap en_2)).ok w0 M0) (hG3 : (gl 3 (tab_3.flatMap en_3)).ok w0 M0) (hG4 : (gl 4 (tab_4.flatMap en_4)).ok w0 M0) (hG5 : (gl 5 (tab_5.flatMap en_5)).ok w0 M0) (hG6 : (gl 6 (tab_6.flatMap en_6)).ok w0 M0) (hG7 : (gl 7 (tab_7.flatMap en_7)).ok w0 M0) (hG8 : (gl 8 (tab_8.flatMap en_8)).ok w0 M0) (hG9 : (gl 9 (tab_9.flatMap en_9)).ok w0 M0) (hG10 : (gl 10 (tab_10.flatMap en_10)).ok w0 M0) (hG11 : (gl 11 (tab_11.flatMap en_11)).ok w0 M0) (hG12 : (gl 12 (tab_12.flatMap en_12)).ok w0 M0) (hG13 : (gl 13 (tab_13.flatMap en_13)).ok w0 M0) (hG14 : (gl 14 (tab_14.flatMap en_14)).ok w0 M0) (hG15 : (gl 15 (tab_15.flatMap en_15)).ok w0 M0) (hG16 : (gl 16 (tab_16.flatMap en_16)).ok w0 M0) {r : Bool} (h : charabanclaw34_ListingParts_4.f K p0 p1 p2 = some r) :
  Calls Tryz.prog 4 #[.slice pA0 p0.length pc0, iA p1, iA p2] w0 (charabanclaw34_ListingParts_4.post M0 w0 r) := by
 unfold charabanclaw34_ListingParts_4.f at h
 have h0 : Holds M0 w0 w0 [] := Holds.start ho
 have h00 := h0.addSl (Rp.pair (Rp.int .u16) (Rp.int .u8)) (.slice pA0 p0.length pc0) p0 (hs0.mono (fun _ _ hm => hm.elim id (fun hm => absurd hm (by simp [mines, sl]))))
 have h0g0 := h00.add (cel 0 0 [iA mx0]) rfl ⟨hG0.1, fun hm => hG0.2.1 (hm.elim id (fun hm => absurd hm (by simp [mines, sl, gl, cel]))), hG0.2.2⟩
 have h0g1 := h0g0.add (gl 1 (tab_1.flatMap en_1)) rfl ⟨hG1.1, fun hm => hG1.2.1 (hm.elim id (fun hm => absurd hm (by simp [mines, sl, gl, cel]))), hG1.2.2⟩
 have h0g2 := h0g1.add (gl 2 (tab_2.flatMap en_2)) rfl ⟨hG2.1, fun hm => hG2.2.1 (hm.elim id (fun hm => absurd hm (by simp [mines, sl, gl, cel]))), hG2.2.2⟩
 have h0g3 := h0g2.add (gl 3 (tab_3.flatMap en_3)) rfl ⟨hG3.1, fun hm => hG3.2.1 (hm.elim id (fun hm => absurd hm (by simp [mines, sl, gl, cel]))), hG3.2.2⟩
 have h0g4 := h0g3.add (gl 4 (tab_4.flatMap en_4)) rfl ⟨hG4.1, fun hm => hG4.2.1 (hm.elim id (fun hm => absurd hm (by simp [mines, sl, gl, cel]))), hG4.2.2⟩
 have h0g5 := h0g4.add (gl 5 (tab_5.flatMap en_5)) rfl ⟨hG5.1, fun hm => hG5.2.1 (hm.elim id (fun hm => absurd hm (by simp [mines, sl, gl, cel]))), hG5.2.2⟩
 have h0g6 := h0g5.add (gl 6 (tab_6.flatMap en_6)) rfl ⟨hG6.1, fun hm => hG6.2.1 (hm.elim id (fun hm => absurd hm (by simp [mines, sl, gl, cel]))), hG6.2.2⟩
 have h0g7 := h0g6.add (gl 7 (tab_7.flatMap en_7)) rfl ⟨hG7.1, fun hm => hG7.2.1 (hm.elim id (fun hm => absurd hm (by simp [mines, sl, gl, cel]))), hG7.2.2⟩
 have h0g8 := h0g7.add (gl 8 (tab_8.flatMap en_8)) rfl ⟨hG8.1, fun hm => hG8.2.1 (hm.elim id (fun hm => absurd hm (by simp [mines, sl, gl, cel]))), hG8.2.2⟩
 have h0g9 := h0g8.add (gl 9 (tab_9.flatMap en_9)) rfl ⟨hG9.1, fun hm => hG9.2.1 (hm.elim id (fun hm => absurd hm (by simp [mines, sl, gl, cel]))), hG9.2.2⟩
 have h0g10 := h0g9.add (gl 10 (tab_10.flatMap en_10)) rfl ⟨hG10.1, fun hm => hG10.2.1 (hm.elim id (fun hm => absurd hm (by simp [mines, sl, gl, cel]))), hG10.2.2⟩
 have h0g11 := h0g10.add (gl 11 (tab_11.flatMap en_11)) rfl ⟨hG11.1, fun hm => hG11.2.1 (hm.elim id (fun hm => absurd hm (by simp [mines, sl, gl, cel]))), hG11.2.2⟩
 have h0g12 := h0g11.add (gl 12 (tab_12.flatMap en_12)) rfl ⟨hG12.1, fun hm => hG12.2.1 (hm.elim id (fun hm => absurd hm (by simp [mines, sl, gl, cel]))), hG12.2.2⟩
 have h0g13 := h0g12.add (gl 13 (tab_13.flatMap en_13)) rfl ⟨hG13.1, fun hm => hG13.2.1 (hm.elim id (fun hm => absurd hm (by simp [mines, sl, gl, cel]))), hG13.2.2⟩
 have h0g14 := h0g13.add (gl 14 (tab_14.flatMap en_14)) rfl ⟨hG14.1, fun hm => hG14.2.1 (hm.elim id (fun hm => absurd hm (by simp [mines, sl, gl, cel]))), hG14.2.2⟩
 have h0g15 := h0g14.add (gl 15 (tab_15.flatMap en_15)) rfl ⟨hG15.1, fun hm => hG15.2.1 (hm.elim id (fun hm => absurd hm (by simp [mines, sl, gl, cel]))), hG15.2.2⟩
 have h0g16 := h0g15.add (gl 16 (tab_16.flatMap en_16)) rfl ⟨hG16.1, fun hm => hG16.2.1 (hm.elim id (fun hm => absurd hm (by simp [mines, sl, gl, cel]))), hG16.2.2⟩
 have h0 : Holds M0 w0 w0 [sl (Rp.pair (Rp.int .u16) (Rp.int .u8)) (.slice pA0 p0.length pc0) p0, cel 0 0 [iA mx0], gl 1 (tab_1.flatMap en_1), gl 2 (tab_2.flatMap en_2), gl 3 (tab_3.flatMap en_3), gl 4 (tab_4.flatMap en_4), gl 5 (tab_5.flatMap en_5), gl 6 (tab_6.flatMap en_6), gl 7 (tab_7.flatMap en_7), gl 8 (tab_8.flatMap en_8), gl 9 (tab_9.flatMap en_9), gl 10 (tab_10.flatMap en_10), gl 11 (tab_11.flatMap en_11), gl 12 (tab_12.flatMap en_12), gl 13 (tab_13.flatMap en_13), gl 14 (tab_14.flatMap en_14), gl 15 (tab_15.flatMap en_15), gl 16 (tab_16.flatMap en_16)] := h0g16
 refine calls_of F4 rfl [.slice pA0 p0.length pc0, iA p1, iA p2] (by kernel_rfl) ?_
 refine RunsI.qd 1 1 [.c 2] 1 [(0, .slice pA0 p0.length pc0), (1, iA p1), (2, iA p2)] ?_
 refine RunsI.g 1 [.c 3, .c 4] ?_
 refine RunsI.r ?_
 obtain ⟨t5, hg4, h⟩ := of_bind h
 refine RegI.o (OpE.cl 13 7 #[] ((charabanclaw34_awake_7_ok K _ w0  h0.old' (h0.get 1 rfl) (h0.get 2 rfl) (h0.get 3 rfl) (h0.get 4 rfl) (h0.get 5 rfl) (h0.get 6 rfl) (h0.get 7 rfl) (h0.get 8 rfl) (h0.get 9 rfl) (h0.get 10 rfl) (h0.get 11 rfl) (h0.get 12 rfl) (h0.get 13 rfl) (h0.get 14 rfl) (h0.get 15 rfl) (h0.get 16 rfl) (h0.get 17 rfl) hg4).mono ?_))
 rintro _ w1 ⟨rfl, hb2⟩
 refine ⟨_, rfl, ?_⟩
 have h3 := h0.call hb2
 refine RegI.p 1 [(0, .slice pA0 p0.length pc0), (1, iA p1), (2, iA p2), (7, .bool t5)] ?_
 refine RegI.q 2 6 [.c 7, .c 12] 2 [(0, .slice pA0 p0.length pc0), (1, iA p1), (2, iA p2), (15, .bool (!t5))] ?_
 refine RegI.d ?_
 rcases of_cond h with ⟨hc6, h⟩ | ⟨hc6, h⟩
 ·refine RunsI.fb 15 true hc6 8 ?_
  refine RunsI.qd 1 9 [.c 10, .c 12] 1 [(6, .bool false)] ?_
  refine RunsI.t (.bool false) ?_
  obtain rfl := Option.some.inj h
  exact ⟨rfl, h3.below⟩
 ·refine RunsI.fb 15 false hc6 11 ?_
  refine RunsI.g 1 [.c 12] ?_
  refine RunsI.qd 2 14 [.c 15, .c 20] 3 [(0, .slice pA0 p0.length pc0), (1, iA p1), (2, iA p2), (18, .bool (decide ((p0.length : Int) > 60)))] ?_
  rcases of_cond h with ⟨hc7, h⟩ | ⟨hc7, h⟩
  ·refine RunsI.fb 18 true hc7 16 ?_
   refine RunsI.qd 1 17 [.c 18, .c 20] 1 [(6, .bool true)] ?_
   refine RunsI.t (.bool true) ?_
   obtain rfl := Option.some.inj h
   exact ⟨rfl, h3.below⟩
  ·refine RunsI.fb 18 false hc7 19 ?_
   refine RunsI.g 1 [.c 20] ?_
   refine RunsI.q 1 21 [.c 22] 3 [(0, .slice pA0 p0.length pc0), (1, iA p1), (2, iA p2), (8, iA (band .i64 p1 15))] ?_
   refine RegI.q 1 23 [.c 24] 3 [(0, .slice pA0 p0.length pc0), (1, iA p1), (8, iA (band .i64 p1 15)), (9, iA (band .i64 p2 15))] ?_
   refine RegI.q 1 25 [.c 26] 4 [(0, .slice pA0 p0.length pc0), (1, iA p1), (8, iA (band .i64 p1 15)), (9, iA (band .i64 p2 15)), (23, .slice pA0 p0.length pc0), (25, iC (IntKind.wrap .u16 p1)), (26, iA (band .i64 p1 15))] ?_
   obtain ⟨t12, hg11, h⟩ := of_bind h
   refine RegI.o (OpE.cl 27 13 #[.slice pA0 p0.length pc0, iC (IntKind.wrap .u16 p1), iA (band .i64 p1 15)] ((listing_Next_13_ok K _ w1  pA0 pc0 p0 (IntKind.wrap .u16 p1) (band .i64 p1 15) h3.old' (h3.get 0 rfl) hg11).mono ?_))
   rintro _ w8 ⟨rfl, hb9⟩
   refine ⟨_, rfl, ?_⟩
   have h10 := h3.call hb9
   refine RegI.p 1 [(0, .slice pA0 p0.length pc0), (1, iA p1), (8, iA (band .i64 p1 15)), (9, iA (band .i64 p2 15)), (10, iC t12)] ?_
   refine RegI.q 1 27 [.c 28] 1 [(0, .slice pA0 p0.length pc0), (1, iA p1), (8, iA (band .i64 p1 15)), (9, iA (band .i64 p2 15)), (10, iC t12), (11, .slice none 0 0)] ?_
   refine RegI.q 1 29 [.c 30] 5 [(0, .slice pA0 p0.length pc0), (1, iA p1), (8, iA (band .i64 p1 15)), (9, iA (band .i64 p2 15)), (10, iC t12), (28, .slice none 0 0), (29, .slice pA0 p0.length pc0), (31, iC (IntKind.wrap .u16 p1)), (32, iA (band .i64 p1 15))] ?_
   obtain ⟨t17, hg16, h⟩ := of_bind h
   refine RegI.o (OpE.cl 33 14 #[.slice pA0 p0.length pc0, iC (IntKind.wrap .u16 p1), iA (band .i64 p1 15)] ((listing_Lines_14_ok K _ w8  pA0 pc0 p0 (IntKind.wrap .u16 p1) (band .i64 p1 15) h10.old' (h10.get 0 rfl) (h10.get 2 rfl) (h10.get 3 rfl) (h10.get 4 rfl) (h10.get 5 rfl) (h10.get 6 rfl) (h10.get 7 rfl) (h10.get 8 rfl) (h10.get 9 rfl) (h10.get 10 rfl) (h10.get 11 rfl) (h10.get 12 rfl) (h10.get 13 rfl) (h10.get 16 rfl) (h10.get 17 rfl) hg16).mono ?_))
   rintro _ w13 ⟨A18, c19, rfl, hr21⟩
   refine ⟨_, rfl, ?_⟩
   have hb14 := hr21.below
   have h15 : Holds M0 w0 w13 [sl (Rp.pair (Rp.int .u16) (Rp.int .u8)) (.slice pA0 p0.length pc0) p0, cel 0 0 [iA mx0], gl 1 (tab_1.flatMap en_1), gl 2 (tab_2.flatMap en_2), gl 3 (tab_3.flatMap en_3), gl 4 (tab_4.flatMap en_4), gl 5 (tab_5.flatMap en_5), gl 6 (tab_6.flatMap en_6), gl 7 (tab_7.flatMap en_7), gl 8 (tab_8.flatMap en_8), gl 9 (tab_9.flatMap en_9), gl 10 (tab_10.flatMap en_10), gl 11 (tab_11.flatMap en_11), gl 12 (tab_12.flatMap en_12), gl 13 (tab_13.flatMap en_13), gl 14 (tab_14.flatMap en_14), gl 15 (tab_15.flatMap en_15), gl 16 (tab_16.flatMap en_16), own Rp.str 9 (.slice A18 t17.length c19) t17] := h10.join hr21
   have h22 := h15.addOwnNil Rp.str 9
   obtain ⟨hc23, h⟩ := of_cond0 h
   refine RegI.o (OpE.appendRow 34 19 34 9 16 (ys := t17) h22 (by kernel_rfl) (by kernel_rfl) (by kernel_rfl) rfl (h22.rdOwn 18 rfl) hc23 ?_)
   intro w24 A25 c26 h27 hk28
   refine RegI.p 1 [(0, .slice pA0 p0.length pc0), (1, iA p1), (8, iA (band .i64 p1 15)), (9, iA (band .i64 p2 15)), (10, iC t12), (11, .slice A25 ((([] : List ByteArray) ++ t17).length) c26)] ?_
   refine RegI.q 1 31 [.c 32] 4 [(0, .slice pA0 p0.length pc0), (1, iA p1), (8, iA (band .i64 p1 15)), (9, iA (band .i64 p2 15)), (10, iC t12), (35, .slice A25 ((([] : List ByteArray) ++ t17).length) c26), (36, .slice pA0 p0.length pc0), (37, iC t12), (38, iA (band .i64 p2 15))] ?_
   obtain ⟨t33, hg32, h⟩ := of_bind h
   refine RegI.o (OpE.cl 39 14 #[.slice pA0 p0.length pc0, iC t12, iA (band .i64 p2 15)] ((listing_Lines_14_ok K _ w24  pA0 pc0 p0 t12 (band .i64 p2 15) h27.old' (h27.get 0 rfl) (h27.get 2 rfl) (h27.get 3 rfl) (h27.get 4 rfl) (h27.get 5 rfl) (h27.get 6 rfl) (h27.get 7 rfl) (h27.get 8 rfl) (h27.get 9 rfl) (h27.get 10 rfl) (h27.get 11 rfl) (h27.get 12 rfl) (h27.get 13 rfl) (h27.get 16 rfl) (h27.get 17 rfl) hg32).mono ?_))
   rintro _ w29 ⟨A34, c35, rfl, hr37⟩
   refine ⟨_, rfl, ?_⟩
   have hb30 := hr37.below
   have h31 : Holds M0 w0 w29 [sl (Rp.pair (Rp.int .u16) (Rp.int .u8)) (.slice pA0 p0.length pc0) p0, cel 0 0 [iA mx0], gl 1 (tab_1.flatMap en_1), gl 2 (tab_2.flatMap en_2), gl 3 (tab_3.flatMap en_3), gl 4 (tab_4.flatMap en_4), gl 5 (tab_5.flatMap en_5), gl 6 (tab_6.flatMap en_6), gl 7 (tab_7.flatMap en_7), gl 8 (tab_8.flatMap en_8), gl 9 (tab_9.flatMap en_9), gl 10 (tab_10.flatMap en_10), gl 11 (tab_11.flatMap en_11), gl 12 (tab_12.flatMap en_12), gl 13 (tab_13.flatMap en_13), gl 14 (tab_14.flatMap en_14), gl 15 (tab_15.flatMap en_15), gl 16 (tab_16.flatMap en_16), own Rp.str 9 (.slice A18 t17.length c19) t17, own Rp.str 9 (.slice A25 ((([] : List ByteArray) ++ t17).length) c26) (([] : List ByteArray) ++ t17), own Rp.str 9 (.slice A34 t33.length c35) t33] := h27.join hr37
   obtain ⟨hc38, h⟩ := of_cond0 h
   refine RegI.o (OpE.appendRow 40 19 34 9 16 (ys := t33) h31 (by kernel_rfl) (by kernel_rfl) (by kernel_rfl) rfl (h31.rdOwn 20 rfl) hc38 ?_)
   intro w39 A40 c41 h42 hk43
   refine RegI.p 1 [(0, .slice pA0 p0.length pc0), (1, iA p1), (8, iA (band .i64 p1 15)), (9, iA (band .i64 p2 15)), (10, iC t12), (11, .slice A40 (((([] : List ByteArray) ++ t17) ++ t33).length) c41)] ?_
   refine RegI.q 1 33 [.c 34] 1 [(0, .slice pA0 p0.length pc0), (1, iA p1), (8, iA (band .i64 p1 15)), (9, iA (band .i64 p2 15)), (10, iC t12), (11, .slice A40 (((([] : List ByteArray) ++ t17) ++ t33).length) c41), (12, .slice none 0 0)] ?_
   refine RegI.q 1 35 [.c 36] 5 [(0, .slice pA0 p0.length pc0), (1, iA p1), (8, iA (band .i64 p1 15)), (9, iA (band .i64 p2 15)), (10, iC t12), (11, .slice A40 (((([] : List ByteArray) ++ t17) ++ t33).length) c41), (41, .slice none 0 0), (42, .slice pA0 p0.length pc0), (44, iC (IntKind.wrap .u16 p1)), (45, iA (band .i64 p1 15))] ?_
   obtain ⟨t48, hg47, h⟩ := of_bind h
   refine RegI.o (OpE.cl 46 15 #[.slice pA0 p0.length pc0, iC (IntKind.wrap .u16 p1), iA (band .i64 p1 15)] ((listing_Rows_15_ok K _ w39  pA0 pc0 p0 (IntKind.wrap .u16 p1) (band .i64 p1 15) h42.old' (h42.get 0 rfl) (h42.get 13 rfl) (h42.get 14 rfl) (h42.get 15 rfl) (h42.get 16 rfl) (h42.get 17 rfl) hg47).mono ?_))
   rintro _ w44 ⟨A49, c50, rfl, hr52⟩
   refine ⟨_, rfl, ?_⟩
   have hb45 := hr52.below
   have h46 : Holds M0 w0 w44 [sl (Rp.pair (Rp.int .u16) (Rp.int .u8)) (.slice pA0 p0.length pc0) p0, cel 0 0 [iA mx0], gl 1 (tab_1.flatMap en_1), gl 2 (tab_2.flatMap en_2), gl 3 (tab_3.flatMap en_3), gl 4 (tab_4.flatMap en_4), gl 5 (tab_5.flatMap en_5), gl 6 (tab_6.flatMap en_6), gl 7 (tab_7.flatMap en_7), gl 8 (tab_8.flatMap en_8), gl 9 (tab_9.flatMap en_9), gl 10 (tab_10.flatMap en_10), gl 11 (tab_11.flatMap en_11), gl 12 (tab_12.flatMap en_12), gl 13 (tab_13.flatMap en_13), gl 14 (tab_14.flatMap en_14), gl 15 (tab_15.flatMap en_15), gl 16 (tab_16.flatMap en_16), own Rp.str 9 (.slice A18 t17.length c19) t17, own Rp.str 9 (.slice A40 (((([] : List ByteArray) ++ t17) ++ t33).length) c41) ((([] : List ByteArray) ++ t17) ++ t33), own Rp.str 9 (.slice A34 t33.length c35) t33, own Rp.str 9 (.slice A49 t48.length c50) t48] := h42.join hr52
   have h53 := h46.addOwnNil Rp.str 9
   obtain ⟨hc54, h⟩ := of_cond0 h
   refine RegI.o (OpE.appendRow 47 22 34 9 16 (ys := t48) h53 (by kernel_rfl) (by kernel_rfl) (by kernel_rfl) rfl (h53.rdOwn 21 rfl) hc54 ?_)
   intro w55 A56 c57 h58 hk59
   refine RegI.p 1 [(0, .slice pA0 p0.length pc0), (1, iA p1), (8, iA (band .i64 p1 15)), (9, iA (band .i64 p2 15)), (10, iC t12), (11, .slice A40 (((([] : List ByteArray) ++ t17) ++ t33).length) c41), (12, .slice A56 ((([] : List ByteArray) ++ t48).length) c57)] ?_
   refine RegI.q 1 37 [.c 38] 9 [(0, .slice pA0 p0.length pc0), (1, iA p1), (8, iA (band .i64 p1 15)), (9, iA (band .i64 p2 15)), (10, iC t12), (11, .slice A40 (((([] : List ByteArray) ++ t17) ++ t33).length) c41), (48, .slice A56 ((([] : List ByteArray) ++ t48).length) c57), (49, .slice pA0 p0.length pc0), (55, iC (IntKind.wrap .u16 ((IntKind.wrap .u16 p1) + (IntKind.wrap .u16 (IntKind.wrap .i64 (16 * (band .i64 p1 15))))))), (56, iA (band .i64 p2 15))] ?_
   obtain ⟨t64, hg63, h⟩ := of_bind h
   refine RegI.o (OpE.cl 57 15 #[.slice pA0 p0.length pc0, iC (IntKind.wrap .u16 ((IntKind.wrap .u16 p1) + (IntKind.wrap .u16 (IntKind.wrap .i64 (16 * (band .i64 p1 15)))))), iA (band .i64 p2 15)] ((listing_Rows_15_ok K _ w55  pA0 pc0 p0 (IntKind.wrap .u16 ((IntKind.wrap .u16 p1) + (IntKind.wrap .u16 (IntKind.wrap .i64 (16 * (band .i64 p1 15)))))) (band .i64 p2 15) h58.old' (h58.get 0 rfl) (h58.get 13 rfl) (h58.get 14 rfl) (h58.get 15 rfl) (h58.get 16 rfl) (h58.get 17 rfl) hg63).mono ?_))
   rintro _ w60 ⟨A65, c66, rfl, hr68⟩
   refine ⟨_, rfl, ?_⟩
   have hb61 := hr68.below
   have h62 : Holds M0 w0 w60 [sl (Rp.pair (Rp.int .u16) (Rp.int .u8)) (.slice pA0 p0.length pc0) p0, cel 0 0 [iA mx0], gl 1 (tab_1.flatMap en_1), gl 2 (tab_2.flatMap en_2), gl 3 (tab_3.flatMap en_3), gl 4 (tab_4.flatMap en_4), gl 5 (tab_5.flatMap en_5), gl 6 (tab_6.flatMap en_6), gl 7 (tab_7.flatMap en_7), gl 8 (tab_8.flatMap en_8), gl 9 (tab_9.flatMap en_9), gl 10 (tab_10.flatMap en_10), gl 11 (tab_11.flatMap en_11), gl 12 (tab_12.flatMap en_12), gl 13 (tab_13.flatMap en_13), gl 14 (tab_14.flatMap en_14), gl 15 (tab_15.flatMap en_15), gl 16 (tab_16.flatMap en_16), own Rp.str 9 (.slice A18 t17.length c19) t17, own Rp.str 9 (.slice A40 (((([] : List ByteArray) ++ t17) ++ t33).length) c41) ((([] : List ByteArray) ++ t17) ++ t33), own Rp.str 9 (.slice A34 t33.length c35) t33, own Rp.str 9 (.slice A49 t48.length c50) t48, own Rp.str 9 (.slice A56 ((([] : List ByteArray) ++ t48).length) c57) (([] : List ByteArray) ++ t48), own Rp.str 9 (.slice A65 t64.length c66) t64] := h58.join hr68
   obtain ⟨hc69, h⟩ := of_cond0 h
   refine RegI.o (OpE.appendRow 58 22 34 9 16 (ys := t64) h62 (by kernel_rfl) (by kernel_rfl) (by kernel_rfl) rfl (h62.rdOwn 23 rfl) hc69 ?_)
   intro w70 A71 c72 h73 hk74
   refine RegI.p 1 [(0, .slice pA0 p0.length pc0), (1, iA p1), (8, iA (band .i64 p1 15)), (9, iA (band .i64 p2 15)), (10, iC t12), (11, .slice A40 (((([] : List ByteArray) ++ t17) ++ t33).length) c41), (12, .slice A71 (((([] : List ByteArray) ++ t48) ++ t64).length) c72)] ?_
   refine RegI.q 1 39 [.c 40] 7 [(0, .slice pA0 p0.length pc0), (1, iA p1), (8, iA (band .i64 p1 15)), (9, iA (band .i64 p2 15)), (10, iC t12), (12, .slice A71 (((([] : List ByteArray) ++ t48) ++ t64).length) c72), (59, .slice A40 (((([] : List ByteArray) ++ t17) ++ t33).length) c41), (60, .slice pA0 p0.length pc0), (62, iC (IntKind.wrap .u16 p1)), (65, iA (IntKind.wrap .i64 ((band .i64 p1 15) + (band .i64 p2 15))))] ?_
   obtain ⟨t79, hg78, h⟩ := of_bind h
   refine RegI.o (OpE.cl 66 14 #[.slice pA0 p0.length pc0, iC (IntKind.wrap .u16 p1), iA (IntKind.wrap .i64 ((band .i64 p1 15) + (band .i64 p2 15)))] ((listing_Lines_14_ok K _ w70  pA0 pc0 p0 (IntKind.wrap .u16 p1) (IntKind.wrap .i64 ((band .i64 p1 15) + (band .i64 p2 15))) h73.old' (h73.get 0 rfl) (h73.get 2 rfl) (h73.get 3 rfl) (h73.get 4 rfl) (h73.get 5 rfl) (h73.get 6 rfl) (h73.get 7 rfl) (h73.get 8 rfl) (h73.get 9 rfl) (h73.get 10 rfl) (h73.get 11 rfl) (h73.get 12 rfl) (h73.get 13 rfl) (h73.get 16 rfl) (h73.get 17 rfl) hg78).mono ?_))
   rintro _ w75 ⟨A80, c81, rfl, hr83⟩
   refine ⟨_, rfl, ?_⟩
   have hb76 := hr83.below
   have h77 : Holds M0 w0 w75 [sl (Rp.pair (Rp.int .u16) (Rp.int .u8)) (.slice pA0 p0.length pc0) p0, cel 0 0 [iA mx0], gl 1 (tab_1.flatMap en_1), gl 2 (tab_2.flatMap en_2), gl 3 (tab_3.flatMap en_3), gl 4 (tab_4.flatMap en_4), gl 5 (tab_5.flatMap en_5), gl 6 (tab_6.flatMap en_6), gl 7 (tab_7.flatMap en_7), gl 8 (tab_8.flatMap en_8), gl 9 (tab_9.flatMap en_9), gl 10 (tab_10.flatMap en_10), gl 11 (tab_11.flatMap en_11), gl 12 (tab_12.flatMap en_12), gl 13 (tab_13.flatMap en_13), gl 14 (tab_14.flatMap en_14), gl 15 (tab_15.flatMap en_15), gl 16 (tab_16.flatMap en_16), own Rp.str 9 (.slice A18 t17.length c19) t17, own Rp.str 9 (.slice A40 (((([] : List ByteArray) ++ t17) ++ t33).length) c41) ((([] : List ByteArray) ++ t17) ++ t33), own Rp.str 9 (.slice A34 t33.length c35) t33, own Rp.str 9 (.slice A49 t48.length c50) t48, own Rp.str 9 (.slice A71 (((([] : List ByteArray) ++ t48) ++ t64).length) c72) ((([] : List ByteArray) ++ t48) ++ t64), own Rp.str 9 (.slice A65 t64.length c66) t64, own Rp.str 9 (.slice A80 t79.length c81) t79] := h73.join hr83
   obtain ⟨t88, hg87, h⟩ := of_bind h
   refine RegI.o (OpE.cl 67 16 #[.slice A40 (((([] : List ByteArray) ++ t17) ++ t33).length) c41, .slice A80 t79.length c81] ((charabancref09_Same_16_ok K (fun _ => False) w75  A40 c41 A80 c81 ((([] : List ByteArray) ++ t17) ++ t33) t79 nF (h77.ownSl 19 rfl) (h77.ownSl 24 rfl) hg87).mono ?_))
   rintro _ w84 ⟨rfl, hb85⟩
   refine ⟨_, rfl, ?_⟩
   have h86 := h77.call hb85
   refine RegI.p 1 [(0, .slice pA0 p0.length pc0), (1, iA p1), (8, iA (band .i64 p1 15)), (9, iA (band .i64 p2 15)), (10, iC t12), (12, .slice A71 (((([] : List ByteArray) ++ t48) ++ t64).length) c72), (68, .bool t88)] ?_
   rcases of_cond h with ⟨hc89, h⟩ | ⟨hc89, h⟩
   ·refine RegI.f 68 true hc89 ?_
    refine RegI.p 7 [(0, .slice pA0 p0.length pc0), (1, iA p1), (8, iA (band .i64 p1 15)), (9, iA (band .i64 p2 15)), (10, iC t12), (12, .slice A71 (((([] : List ByteArray) ++ t48) ++ t64).length) c72), (68, .bool true), (69, .slice A71 (((([] : List ByteArray) ++ t48) ++ t64).length) c72), (70, .slice pA0 p0.length pc0), (72, iC (IntKind.wrap .u16 p1)), (75, iA (IntKind.wrap .i64 ((band .i64 p1 15) + (band .i64 p2 15))))] ?_
    obtain ⟨t94, hg93, h⟩ := of_bind h
    refine RegI.o (OpE.cl 76 15 #[.slice pA0 p0.length pc0, iC (IntKind.wrap .u16 p1), iA (IntKind.wrap .i64 ((band .i64 p1 15) + (band .i64 p2 15)))] ((listing_Rows_15_ok K _ w84  pA0 pc0 p0 (IntKind.wrap .u16 p1) (IntKind.wrap .i64 ((band .i64 p1 15) + (band .i64 p2 15))) h86.old' (h86.get 0 rfl) (h86.get 13 rfl) (h86.get 14 rfl) (h86.get 15 rfl) (h86.get 16 rfl) (h86.get 17 rfl) hg93).mono ?_))
    rintro _ w90 ⟨A95, c96, rfl, hr98⟩
    refine ⟨_, rfl, ?_⟩
    have hb91 := hr98.below
    have h92 : Holds M0 w0 w90 [sl (Rp.pair (Rp.int .u16) (Rp.int .u8)) (.slice pA0 p0.length pc0) p0, cel 0 0 [iA mx0], gl 1 (tab_1.flatMap en_1), gl 2 (tab_2.flatMap en_2), gl 3 (tab_3.flatMap en_3), gl 4 (tab_4.flatMap en_4), gl 5 (tab_5.flatMap en_5), gl 6 (tab_6.flatMap en_6), gl 7 (tab_7.flatMap en_7), gl 8 (tab_8.flatMap en_8), gl 9 (tab_9.flatMap en_9), gl 10 (tab_10.flatMap en_10), gl 11 (tab_11.flatMap en_11), gl 12 (tab_12.flatMap en_12), gl 13 (tab_13.flatMap en_13), gl 14 (tab_14.flatMap en_14), gl 15 (tab_15.flatMap en_15), gl 16 (tab_16.flatMap en_16), own Rp.str 9 (.slice A18 t17.length c19) t17, own Rp.str 9 (.slice A40 (((([] : List ByteArray) ++ t17) ++ t33).length) c41) ((([] : List ByteArray) ++ t17) ++ t33), own Rp.str 9 (.slice A34 t33.length c35) t33, own Rp.str 9 (.slice A49 t48.length c50) t48, own Rp.str 9 (.slice A71 (((([] : List ByteArray) ++ t48) ++ t64).length) c72) ((([] : List ByteArray) ++ t48) ++ t64), own Rp.str 9 (.slice A65 t64.length c66) t64, own Rp.str 9 (.slice A80 t79.length c81) t79, own Rp.str 9 (.slice A95 t94.length c96) t94] := h86.join hr98
    obtain ⟨t103, hg102, h⟩ := of_bind h
    refine RegI.o (OpE.cl 77 16 #[.slice A71 (((([] : List ByteArray) ++ t48) ++ t64).length) c72, .slice A95 t94.length c96] ((charabancref09_Same_16_ok K (fun _ => False) w90  A71 c72 A95 c96 ((([] : List ByteArray) ++ t48) ++ t64) t94 nF (h92.ownSl 22 rfl) (h92.ownSl 25 rfl) hg102).mono ?_))
    rintro _ w99 ⟨rfl, hb100⟩
    refine ⟨_, rfl, ?_⟩
    have h101 := h92.call hb100
    refine RegI.p 2 [(0, .slice pA0 p0.length pc0), (1, iA p1), (8, iA (band .i64 p1 15)), (9, iA (band .i64 p2 15)), (10, iC t12), (12, .slice A71 (((([] : List ByteArray) ++ t48) ++ t64).length) c72), (79, .bool t103)] ?_
    rcases of_cond h with ⟨hc104, h⟩ | ⟨hc104, h⟩
    ·refine RegI.f 79 true hc104 ?_
     refine RegI.p 3 [(0, .slice pA0 p0.length pc0), (1, iA p1), (8, iA (band .i64 p1 15)), (9, iA (band .i64 p2 15)), (12, .slice A71 (((([] : List ByteArray) ++ t48) ++ t64).length) c72), (79, .bool true), (80, .slice pA0 p0.length pc0), (81, iC t12), (82, iA (band .i64 p2 15))] ?_
     obtain ⟨t109, hg108, h⟩ := of_bind h
     refine RegI.o (OpE.cl 83 13 #[.slice pA0 p0.length pc0, iC t12, iA (band .i64 p2 15)] ((listing_Next_13_ok K _ w99  pA0 pc0 p0 t12 (band .i64 p2 15) h101.old' (h101.get 0 rfl) hg108).mono ?_))
     rintro _ w105 ⟨rfl, hb106⟩
     refine ⟨_, rfl, ?_⟩
     have h107 := h101.call hb106
     refine RegI.p 6 [(8, iA (band .i64 p1 15)), (9, iA (band .i64 p2 15)), (12, .slice A71 (((([] : List ByteArray) ++ t48) ++ t64).length) c72), (79, .bool true), (83, iC t109), (84, .slice pA0 p0.length pc0), (86, iC (IntKind.wrap .u16 p1)), (89, iA (IntKind.wrap .i64 ((band .i64 p1 15) + (band .i64 p2 15))))] ?_
     obtain ⟨t114, hg113, h⟩ := of_bind h
     refine RegI.o (OpE.cl 90 13 #[.slice pA0 p0.length pc0, iC (IntKind.wrap .u16 p1), iA (IntKind.wrap .i64 ((band .i64 p1 15) + (band .i64 p2 15)))] ((listing_Next_13_ok K _ w105  pA0 pc0 p0 (IntKind.wrap .u16 p1) (IntKind.wrap .i64 ((band .i64 p1 15) + (band .i64 p2 15))) h107.old' (h107.get 0 rfl) hg113).mono ?_))
     rintro _ w110 ⟨rfl, hb111⟩
     refine ⟨_, rfl, ?_⟩
     have h112 := h107.call hb111
     refine RegI.p 3 [(8, iA (band .i64 p1 15)), (9, iA (band .i64 p2 15)), (12, .slice A71 (((([] : List ByteArray) ++ t48) ++ t64).length) c72), (93, .bool (t109 == t114))] ?_
     rcases of_cond h with ⟨hc115, h⟩ | ⟨hc115, h⟩
     ·refine RegI.f 93 true hc115 ?_
      refine RegI.pd 8 [(6, .bool ((((([] : List ByteArray) ++ t48) ++ t64).length : Int) == (IntKind.wrap .i64 ((band .i64 p1 15) + (band .i64 p2 15)))))] ?_
      refine RunsI.t (.bool ((((([] : List ByteArray) ++ t48) ++ t64).length : Int) == (IntKind.wrap .i64 ((band .i64 p1 15) + (band .i64 p2 15))))) ?_
      obtain rfl := Option.some.inj h
      exact ⟨rfl, h112.below⟩
     ·refine RegI.f 93 false hc115 ?_
      refine RegI.pd 8 [(6, .bool false)] ?_
      refine RunsI.t (.bool false) ?_
      obtain rfl := Option.some.inj h
      exact ⟨rfl, h112.below⟩
    ·refine RegI.f 79 false hc104 ?_
     refine RegI.pd 22 [(6, .bool false)] ?_
     refine RunsI.t (.bool false) ?_
     obtain rfl := Option.some.inj h
     exact ⟨rfl, h101.below⟩
   ·refine RegI.f 68 false hc89 ?_
    refine RegI.pd 33 [(6, .bool false)] ?_
    refine RunsI.t (.bool false) ?_
    obtain rfl := Option.some.inj h
    exact ⟨rfl, h86.below⟩
end
end Go.Proofs.YtbcepghanbkncaaGreatDoor.LiP
