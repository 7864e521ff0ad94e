/- The statement's function ImageBack as a plain Lean function; written by wip/eng.py. -/
import Derived.Test.YtbcepghanbkncaaDoorIm4
set_option linter.unusedVariables false
set_option linter.unusedSimpArgs false
set_option maxHeartbeats 4000000
namespace Go.Proofs.YtbcepghanbkncaaDoor.Im
open Go.RowKit Go.Eng
noncomputable def B5 : Code := (Tryd.f5.body).getD .skip
noncomputable def F5 : Fun Tryd.prog := ⟨5, Tryd.f5, B5, 74, Tryd.func5, by kernel_rfl, by kernel_rfl, [], none⟩

/-! ### charabanc/charabanclaw30.ImageBack (function 5) -/
section
def charabanclaw30_ImageBack_5.post (M0 : Nat → Prop) (w0 : World) (r : Bool) : Ending → World → Prop := fun e w => e = .returned (.bool r) ∧ Below w0.heap.size w0 w
def charabanclaw30_ImageBack_5.f (K : Nat) (p0_0_0 : List Int) (p0_0_1 : Int) (p0_0_2 : Int) (p0_0_3 : List (Int × Int)) (p0_1 : Int) (p1 : List Int) : Option Bool := (charabanclaw30_awake_6.f K).bind fun t10 => cond (!t10) (some false) ((charabanclaw30_few_15.f K p0_0_0 p0_0_1 p0_0_2 p0_0_3 p0_1).bind fun t16 => Let (fun (t18 : Bool) => cond t18 (some true) ((image_Digits_13.f K p1).bind fun t29 => (image_Bytes_9.f K t29).bind fun yt34 => Let (fun (t47 : Bool) => cond t47 (some false) ((image_Check_18.f K p0_0_0 p0_0_1 p0_0_2 p0_0_3 p0_1).bind fun t58 => cond (t58 != 0) ((image_Show_16.f K p0_0_0 p0_0_1 p0_0_2 p0_0_3 p0_1).bind fun t64 => some ((ByteArray.toList t64) == (ByteArray.toList (⟨#[]⟩ : ByteArray)))) ((image_Show_16.f K p0_0_0 p0_0_1 p0_0_2 p0_0_3 p0_1).bind fun t69 => (image_Read_7.f K t69).bind fun yt74 => cond (yt74.2.2.2.2.2.1 == 0) (cond (yt74.2.2.2.2.2.2 == 0) ((charabanclaw30_plain_12.f K yt74.1 yt74.2.1 yt74.2.2.1 yt74.2.2.2.1 yt74.2.2.2.2.1).bind fun yt111 => (charabanclaw30_plain_12.f K p0_0_0 p0_0_1 p0_0_2 p0_0_3 p0_1).bind fun yt132 => (charabancref30_Same_11.f K yt111.1 yt111.2.1 yt111.2.2.1 yt111.2.2.2.1 yt111.2.2.2.2 yt132.1 yt132.2.1 yt132.2.2.1 yt132.2.2.2.1 yt132.2.2.2.2).bind fun t153 => some t153) (some false)) (some false)))) (fun j50 => cond (!yt34.2) (j50 true) (cond (!((ByteArray.toList (strOf yt34.1)) == (ByteArray.toList (strOf p1)))) (j50 true) ((image_Digits_13.f K p1).bind fun t46 => j50 ((t46.size : Int) != (IntKind.wrap .i64 (2 * (p1.length : Int))))))))) (fun j21 => cond (!t16) (j21 true) (j21 (decide ((p1.length : Int) > 200)))))
set_option maxRecDepth 100000 in
theorem charabanclaw30_ImageBack_5_ok (K : Nat) (M0 : Nat → Prop) (w0 : World) (pA0_0_0 : Option Addr) (pc0_0_0 : Nat) (pA0_0_3 : Option Addr) (pc0_0_3 : Nat) (pA1 : Option Addr) (pc1 : Nat) (p0_0_0 : List Int) (p0_0_1 : Int) (p0_0_2 : Int) (p0_0_3 : List (Int × Int)) (p0_1 : Int) (p1 : List Int) (ho : ∀ b, M0 b → b < w0.heap.size) (hs0_0_0 : Sl (Rp.int .u8) w0 M0 (.slice pA0_0_0 p0_0_0.length pc0_0_0) p0_0_0) (hs0_0_3 : Sl (Rp.pair (Rp.int .i64) (Rp.int .u8)) w0 M0 (.slice pA0_0_3 p0_0_3.length pc0_0_3) p0_0_3) (hs1 : Sl (Rp.int .u8) w0 M0 (.slice pA1 p1.length pc1) p1) (hG1 : (gl 1 (tab_1.flatMap en_1)).ok w0 M0) (hG4 : (gl 4 (tab_4.flatMap en_4)).ok w0 M0) (hG5 : (gl 5 (tab_5.flatMap en_5)).ok w0 M0) {r : Bool} (h : charabanclaw30_ImageBack_5.f K p0_0_0 p0_0_1 p0_0_2 p0_0_3 p0_1 p1 = some r) :
  Calls Tryd.prog 5 #[.agg #[.slice pA0_0_0 p0_0_0.length pc0_0_0, .int .i64 p0_0_1, .int .i64 p0_0_2, .slice pA0_0_3 p0_0_3.length pc0_0_3, .int .u16 p0_1], .slice pA1 p1.length pc1] w0 (charabanclaw30_ImageBack_5.post M0 w0 r) := by
 unfold charabanclaw30_ImageBack_5.f at h
 have h0 : Holds M0 w0 w0 [] := Holds.start ho
 have h00_0_0 := h0.addSl (Rp.int .u8) (.slice pA0_0_0 p0_0_0.length pc0_0_0) p0_0_0 (hs0_0_0.mono (fun _ _ hm => hm.elim id (fun hm => absurd hm (by simp [mines, sl]))))
 have h00_0_3 := h00_0_0.addSl (Rp.pair (Rp.int .i64) (Rp.int .u8)) (.slice pA0_0_3 p0_0_3.length pc0_0_3) p0_0_3 (hs0_0_3.mono (fun _ _ hm => hm.elim id (fun hm => absurd hm (by simp [mines, sl]))))
 have h01 := h00_0_3.addSl (Rp.int .u8) (.slice pA1 p1.length pc1) p1 (hs1.mono (fun _ _ hm => hm.elim id (fun hm => absurd hm (by simp [mines, sl]))))
 have h0g1 := h01.add (gl 1 (tab_1.flatMap en_1)) rfl ⟨hG1.1, fun hm => hG1.2.1 (hm.elim id (fun hm => absurd hm (by simp [mines, sl, gl]))), hG1.2.2⟩
 have h0g4 := h0g1.add (gl 4 (tab_4.flatMap en_4)) rfl ⟨hG4.1, fun hm => hG4.2.1 (hm.elim id (fun hm => absurd hm (by simp [mines, sl, gl]))), hG4.2.2⟩
 have h0g5 := h0g4.add (gl 5 (tab_5.flatMap en_5)) rfl ⟨hG5.1, fun hm => hG5.2.1 (hm.elim id (fun hm => absurd hm (by simp [mines, sl, gl]))), hG5.2.2⟩
 have h0 : Holds M0 w0 w0 [sl (Rp.int .u8) (.slice pA0_0_0 p0_0_0.length pc0_0_0) p0_0_0, sl (Rp.pair (Rp.int .i64) (Rp.int .u8)) (.slice pA0_0_3 p0_0_3.length pc0_0_3) p0_0_3, sl (Rp.int .u8) (.slice pA1 p1.length pc1) p1, gl 1 (tab_1.flatMap en_1), gl 4 (tab_4.flatMap en_4), gl 5 (tab_5.flatMap en_5)] := h0g5
 refine calls_of F5 rfl [.agg #[.slice pA0_0_0 p0_0_0.length pc0_0_0, .int .i64 p0_0_1, .int .i64 p0_0_2, .slice pA0_0_3 p0_0_3.length pc0_0_3, .int .u16 p0_1], .slice pA1 p1.length pc1] (by kernel_rfl) ?_
 refine RunsI.g 1 [.c 1, .c 2] ?_
 refine RunsI.r ?_
 refine RegI.o (OpE.box 2 29 [.slice pA0_0_0 p0_0_0.length pc0_0_0, .int .i64 p0_0_1, .int .i64 p0_0_2, .slice pA0_0_3 p0_0_3.length pc0_0_3, .int .u16 p0_1] h0 (by kernel_rfl) (by kernel_rfl) ?_)
 intro w1 b2 h3 hb4 hn5
 refine RegI.p 1 [(1, .slice pA1 p1.length pc1), (2, .pointer (some ⟨b2, 0, none⟩))] ?_
 refine RegI.d ?_
 refine RunsI.g 1 [.c 3, .c 4] ?_
 refine RunsI.r ?_
 obtain ⟨t10, hg9, h⟩ := of_bind h
 refine RegI.o (OpE.call 12 (by kernel_rfl) 6 #[] (by kernel_rfl) ((charabanclaw30_awake_6_ok K _ w1  h3.old' (h3.get 3 rfl) (h3.get 4 rfl) (h3.get 5 rfl) hg9).mono ?_))
 rintro _ w6 ⟨rfl, hb7⟩
 refine ⟨_, rfl, ?_⟩
 have h8 := h3.call hb7
 refine RegI.p 1 [(1, .slice pA1 p1.length pc1), (2, .pointer (some ⟨b2, 0, none⟩)), (5, .bool t10)] ?_
 refine RegI.d ?_
 refine RunsI.g 2 [.c 6, .c 7, .c 12] ?_
 refine RunsI.r ?_
 refine RegI.p 2 [(1, .slice pA1 p1.length pc1), (2, .pointer (some ⟨b2, 0, none⟩)), (14, .bool (!t10))] ?_
 refine RegI.d ?_
 rcases of_cond h with ⟨hc11, h⟩ | ⟨hc11, h⟩
 ·skip
  refine RunsI.f 14 true hc11 ?_
  refine RunsI.b true 8 ?_
  refine RunsI.g 1 [.c 9, .c 10, .c 12] ?_
  refine RunsI.r ?_
  refine RegI.p 1 [(4, .bool false)] ?_
  refine RegI.d ?_
  refine RunsI.t (.bool false) ?_
  obtain rfl := Option.some.inj h
  exact ⟨rfl, h8.below⟩
 ·skip
  refine RunsI.f 14 false hc11 ?_
  refine RunsI.b false 11 ?_
  refine RunsI.g 1 [.c 12] ?_
  refine RunsI.g 1 [.c 13, .c 14] ?_
  refine RunsI.r ?_
  refine RegI.o (OpE.loadBox 15 6 29 b2 0 (.agg #[.slice pA0_0_0 p0_0_0.length pc0_0_0, .int .i64 p0_0_1, .int .i64 p0_0_2, .slice pA0_0_3 p0_0_3.length pc0_0_3, .int .u16 p0_1]) h8 (by kernel_rfl) (by kernel_rfl) rfl (by kernel_rfl) ?_)
  obtain ⟨t16, hg15, h⟩ := of_bind h
  refine RegI.o (OpE.call 16 (by kernel_rfl) 15 #[.agg #[.slice pA0_0_0 p0_0_0.length pc0_0_0, .int .i64 p0_0_1, .int .i64 p0_0_2, .slice pA0_0_3 p0_0_3.length pc0_0_3, .int .u16 p0_1]] (by kernel_rfl) ((charabanclaw30_few_15_ok K _ w6  pA0_0_0 pc0_0_0 pA0_0_3 pc0_0_3 p0_0_0 p0_0_1 p0_0_2 p0_0_3 p0_1 h8.old' (h8.get 0 rfl) (h8.get 1 rfl) hg15).mono ?_))
  rintro _ w12 ⟨rfl, hb13⟩
  refine ⟨_, rfl, ?_⟩
  have h14 := h8.call hb13
  refine RegI.p 1 [(1, .slice pA1 p1.length pc1), (2, .pointer (some ⟨b2, 0, none⟩)), (6, .bool t16)] ?_
  refine RegI.d ?_
  refine RunsI.g 2 [.c 16, .c 17, .c 22] ?_
  refine RunsI.r ?_
  refine RegI.p 3 [(1, .slice pA1 p1.length pc1), (2, .pointer (some ⟨b2, 0, none⟩)), (19, .bool (!t16))] ?_
  obtain ⟨j21, hJ22, h⟩ := of_let h
  have hj23 : ∀ (t18 : Bool) (w20 : World), j21 t18 = some r → Holds M0 w0 w20 [sl (Rp.int .u8) (.slice pA1 p1.length pc1) p1, box b2 29 [.slice pA0_0_0 p0_0_0.length pc0_0_0, .int .i64 p0_0_1, .int .i64 p0_0_2, .slice pA0_0_3 p0_0_3.length pc0_0_3, .int .u16 p0_1], sl (Rp.int .u8) (.slice pA0_0_0 p0_0_0.length pc0_0_0) p0_0_0, sl (Rp.pair (Rp.int .i64) (Rp.int .u8)) (.slice pA0_0_3 p0_0_3.length pc0_0_3) p0_0_3, gl 1 (tab_1.flatMap en_1), gl 4 (tab_4.flatMap en_4), gl 5 (tab_5.flatMap en_5)] → RegI F5 16 [.c 17, .c 22] 7 [(1, .slice pA1 p1.length pc1), (2, .pointer (some ⟨b2, 0, none⟩)), (23, .bool t18)] w20 (charabanclaw30_ImageBack_5.post M0 w0 r) := by
   intro t18 w20 h h19
   rw [hJ22] at h
   clear hJ22
   dsimp only at h
   refine RegI.d ?_
   rcases of_cond h with ⟨hc24, h⟩ | ⟨hc24, h⟩
   ·skip
    refine RunsI.f 23 true hc24 ?_
    refine RunsI.b true 18 ?_
    refine RunsI.g 1 [.c 19, .c 20, .c 22] ?_
    refine RunsI.r ?_
    refine RegI.p 1 [(4, .bool true)] ?_
    refine RegI.d ?_
    refine RunsI.t (.bool true) ?_
    obtain rfl := Option.some.inj h
    exact ⟨rfl, h19.below⟩
   ·skip
    refine RunsI.f 23 false hc24 ?_
    refine RunsI.b false 21 ?_
    refine RunsI.g 1 [.c 22] ?_
    refine RunsI.g 1 [.c 23, .c 24] ?_
    refine RunsI.r ?_
    refine RegI.p 1 [(1, .slice pA1 p1.length pc1), (2, .pointer (some ⟨b2, 0, none⟩)), (25, .slice pA1 p1.length pc1)] ?_
    obtain ⟨t29, hg28, h⟩ := of_bind h
    refine RegI.o (OpE.call 26 (by kernel_rfl) 13 #[.slice pA1 p1.length pc1] (by kernel_rfl) ((image_Digits_13_ok K _ w20  pA1 pc1 p1 h19.old' (h19.get 0 rfl) (h19.get 4 rfl) (h19.get 5 rfl) (h19.get 6 rfl) hg28).mono ?_))
    rintro _ w25 ⟨rfl, hb26⟩
    refine ⟨_, rfl, ?_⟩
    have h27 := h19.call hb26
    obtain ⟨⟨t34, t38⟩, hg33, h⟩ := of_bind h
    dsimp only at h
    refine RegI.o (OpE.call 27 (by kernel_rfl) 9 #[.string t29] (by kernel_rfl) ((image_Bytes_9_ok K _ w25  t29 h27.old' hg33).mono ?_))
    rintro _ w30 ⟨A35, c36, rfl, hr39⟩
    refine ⟨_, rfl, ?_⟩
    have hb31 := hr39.below
    have h32 := h27.join hr39
    refine RegI.p 5 [(1, .slice pA1 p1.length pc1), (2, .pointer (some ⟨b2, 0, none⟩)), (7, .slice A35 t34.length c36), (8, .bool t38)] ?_
    refine RegI.d ?_
    refine RunsI.g 2 [.c 26, .c 27, .c 32] ?_
    refine RunsI.r ?_
    refine RegI.p 3 [(1, .slice pA1 p1.length pc1), (2, .pointer (some ⟨b2, 0, none⟩)), (7, .slice A35 t34.length c36), (32, .bool (!t38))] ?_
    obtain ⟨j50, hJ51, h⟩ := of_let h
    have hj52 : ∀ (t47 : Bool) (w49 : World), j50 t47 = some r → Holds M0 w0 w49 [box b2 29 [.slice pA0_0_0 p0_0_0.length pc0_0_0, .int .i64 p0_0_1, .int .i64 p0_0_2, .slice pA0_0_3 p0_0_3.length pc0_0_3, .int .u16 p0_1], sl (Rp.int .u8) (.slice pA0_0_0 p0_0_0.length pc0_0_0) p0_0_0, sl (Rp.pair (Rp.int .i64) (Rp.int .u8)) (.slice pA0_0_3 p0_0_3.length pc0_0_3) p0_0_3, gl 1 (tab_1.flatMap en_1), gl 4 (tab_4.flatMap en_4), gl 5 (tab_5.flatMap en_5)] → RegI F5 26 [.c 27, .c 32] 18 [(2, .pointer (some ⟨b2, 0, none⟩)), (47, .bool t47)] w49 (charabanclaw30_ImageBack_5.post M0 w0 r) := by
     intro t47 w49 h h48
     rw [hJ51] at h
     clear hJ51
     dsimp only at h
     refine RegI.d ?_
     rcases of_cond h with ⟨hc53, h⟩ | ⟨hc53, h⟩
     ·skip
      refine RunsI.f 47 true hc53 ?_
      refine RunsI.b true 28 ?_
      refine RunsI.g 1 [.c 29, .c 30, .c 32] ?_
      refine RunsI.r ?_
      refine RegI.p 1 [(4, .bool false)] ?_
      refine RegI.d ?_
      refine RunsI.t (.bool false) ?_
      obtain rfl := Option.some.inj h
      exact ⟨rfl, h48.below⟩
     ·skip
      refine RunsI.f 47 false hc53 ?_
      refine RunsI.b false 31 ?_
      refine RunsI.g 1 [.c 32] ?_
      refine RunsI.g 2 [.c 34, .c 35, .c 40] ?_
      refine RunsI.r ?_
      refine RegI.o (OpE.loadBox 48 0 29 b2 0 (.agg #[.slice pA0_0_0 p0_0_0.length pc0_0_0, .int .i64 p0_0_1, .int .i64 p0_0_2, .slice pA0_0_3 p0_0_3.length pc0_0_3, .int .u16 p0_1]) h48 (by kernel_rfl) (by kernel_rfl) rfl (by kernel_rfl) ?_)
      obtain ⟨t58, hg57, h⟩ := of_bind h
      refine RegI.o (OpE.call 49 (by kernel_rfl) 18 #[.agg #[.slice pA0_0_0 p0_0_0.length pc0_0_0, .int .i64 p0_0_1, .int .i64 p0_0_2, .slice pA0_0_3 p0_0_3.length pc0_0_3, .int .u16 p0_1]] (by kernel_rfl) ((image_Check_18_ok K _ w49  pA0_0_0 pc0_0_0 pA0_0_3 pc0_0_3 p0_0_0 p0_0_1 p0_0_2 p0_0_3 p0_1 h48.old' (h48.get 1 rfl) (h48.get 2 rfl) hg57).mono ?_))
      rintro _ w54 ⟨rfl, hb55⟩
      refine ⟨_, rfl, ?_⟩
      have h56 := h48.call hb55
      refine RegI.p 1 [(2, .pointer (some ⟨b2, 0, none⟩)), (50, .bool (t58 != 0))] ?_
      refine RegI.d ?_
      rcases of_cond h with ⟨hc59, h⟩ | ⟨hc59, h⟩
      ·skip
       refine RunsI.f 50 true hc59 ?_
       refine RunsI.b true 36 ?_
       refine RunsI.g 1 [.c 37, .c 38, .c 40] ?_
       refine RunsI.r ?_
       refine RegI.o (OpE.loadBox 51 0 29 b2 0 (.agg #[.slice pA0_0_0 p0_0_0.length pc0_0_0, .int .i64 p0_0_1, .int .i64 p0_0_2, .slice pA0_0_3 p0_0_3.length pc0_0_3, .int .u16 p0_1]) h56 (by kernel_rfl) (by kernel_rfl) rfl (by kernel_rfl) ?_)
       obtain ⟨t64, hg63, h⟩ := of_bind h
       refine RegI.o (OpE.call 52 (by kernel_rfl) 16 #[.agg #[.slice pA0_0_0 p0_0_0.length pc0_0_0, .int .i64 p0_0_1, .int .i64 p0_0_2, .slice pA0_0_3 p0_0_3.length pc0_0_3, .int .u16 p0_1]] (by kernel_rfl) ((image_Show_16_ok K _ w54  pA0_0_0 pc0_0_0 pA0_0_3 pc0_0_3 p0_0_0 p0_0_1 p0_0_2 p0_0_3 p0_1 h56.old' (h56.get 1 rfl) (h56.get 2 rfl) (h56.get 3 rfl) (h56.get 4 rfl) (h56.get 5 rfl) hg63).mono ?_))
       rintro _ w60 ⟨rfl, hb61⟩
       refine ⟨_, rfl, ?_⟩
       have h62 := h56.call hb61
       refine RegI.p 2 [(4, .bool ((ByteArray.toList t64) == (ByteArray.toList (⟨#[]⟩ : ByteArray))))] ?_
       refine RegI.d ?_
       refine RunsI.t (.bool ((ByteArray.toList t64) == (ByteArray.toList (⟨#[]⟩ : ByteArray)))) ?_
       obtain rfl := Option.some.inj h
       exact ⟨rfl, h62.below⟩
      ·skip
       refine RunsI.f 50 false hc59 ?_
       refine RunsI.b false 39 ?_
       refine RunsI.g 1 [.c 40] ?_
       refine RunsI.g 1 [.c 41, .c 42] ?_
       refine RunsI.r ?_
       refine RegI.o (OpE.loadBox 55 0 29 b2 0 (.agg #[.slice pA0_0_0 p0_0_0.length pc0_0_0, .int .i64 p0_0_1, .int .i64 p0_0_2, .slice pA0_0_3 p0_0_3.length pc0_0_3, .int .u16 p0_1]) h56 (by kernel_rfl) (by kernel_rfl) rfl (by kernel_rfl) ?_)
       obtain ⟨t69, hg68, h⟩ := of_bind h
       refine RegI.o (OpE.call 56 (by kernel_rfl) 16 #[.agg #[.slice pA0_0_0 p0_0_0.length pc0_0_0, .int .i64 p0_0_1, .int .i64 p0_0_2, .slice pA0_0_3 p0_0_3.length pc0_0_3, .int .u16 p0_1]] (by kernel_rfl) ((image_Show_16_ok K _ w54  pA0_0_0 pc0_0_0 pA0_0_3 pc0_0_3 p0_0_0 p0_0_1 p0_0_2 p0_0_3 p0_1 h56.old' (h56.get 1 rfl) (h56.get 2 rfl) (h56.get 3 rfl) (h56.get 4 rfl) (h56.get 5 rfl) hg68).mono ?_))
       rintro _ w65 ⟨rfl, hb66⟩
       refine ⟨_, rfl, ?_⟩
       have h67 := h56.call hb66
       obtain ⟨⟨t74, t78, t79, t80, t84, t85, t86⟩, hg73, h⟩ := of_bind h
       dsimp only at h
       refine RegI.o (OpE.call 57 (by kernel_rfl) 7 #[.string t69] (by kernel_rfl) ((image_Read_7_ok K _ w65  t69 h67.old' hg73).mono ?_))
       rintro _ w70 ⟨A75, c76, A81, c82, rfl, hr87⟩
       refine ⟨_, rfl, ?_⟩
       have hb71 := hr87.below
       have h72 := h67.join hr87
       refine RegI.p 4 [(2, .pointer (some ⟨b2, 0, none⟩)), (58, .agg #[.slice A75 t74.length c76, .int .i64 t78, .int .i64 t79, .slice A81 t80.length c82, .int .u16 t84]), (59, .int .i64 t85), (60, .int .i64 t86)] ?_
       refine RegI.o (OpE.box 9 29 [.slice none 0 0, .int .i64 0, .int .i64 0, .slice none 0 0, .int .u16 0] h72 (by kernel_rfl) (by kernel_rfl) ?_)
       intro w88 b89 h90 hb91 hn92
       refine RegI.o (OpE.storeBox 8 29 b89 0 (.agg #[.slice A75 t74.length c76, .int .i64 t78, .int .i64 t79, .slice A81 t80.length c82, .int .u16 t84]) [.slice A75 t74.length c76, .int .i64 t78, .int .i64 t79, .slice A81 t80.length c82, .int .u16 t84] h90 (by kernel_rfl) (by kernel_rfl) rfl (by kernel_rfl) (by kernel_rfl) (by kernel_rfl) ?_)
       intro w93 h94 hk95
       refine RegI.p 2 [(2, .pointer (some ⟨b2, 0, none⟩)), (9, .pointer (some ⟨b89, 0, none⟩)), (10, .int .i64 t85), (11, .int .i64 t86)] ?_
       refine RegI.d ?_
       refine RunsI.g 1 [.c 43, .c 44] ?_
       refine RunsI.any 14 (by kernel_rfl) (by kernel_rfl) (by kernel_rfl) (Kp ([] : List Nat) (World.drew w93)) ?_
       have h97 := h94.drew
       generalize World.drew w93 = w96 at h97 ⊢
       have hS98 := Kp.refl ([] : List Nat) w96
       refine AnyE.pure 0 61 (.int .i64 t85) (by kernel_rfl) hS98 (fun _ => by kernel_rfl) ?_
       refine AnyE.pure 1 62 (.bool (t85 == 0)) (by kernel_rfl) hS98 (fun _ => by kernel_rfl) ?_
       refine AnyE.pure 2 63 (.bool (t85 == 0)) (by kernel_rfl) hS98 (fun _ => by kernel_rfl) ?_
       rcases of_cond h with ⟨hc100, h⟩ | ⟨hc100, h⟩
       ·skip
        refine AnyE.fix 63 true hc100 (by kernel_rfl) (by kernel_rfl) ?_
        refine AnyE.pure 3 64 (.int .i64 t86) (by kernel_rfl) hS98 (fun _ => by kernel_rfl) ?_
        refine AnyE.pure 4 65 (.bool (t86 == 0)) (by kernel_rfl) hS98 (fun _ => by kernel_rfl) ?_
        refine AnyE.pure 5 66 (.bool (t86 == 0)) (by kernel_rfl) hS98 (fun _ => by kernel_rfl) ?_
        refine AnyE.pure 6 67 (.bool (t86 == 0)) (by kernel_rfl) hS98 (fun _ => by kernel_rfl) ?_
        rcases of_cond h with ⟨hc101, h⟩ | ⟨hc101, h⟩
        ·skip
         refine AnyE.fix 67 true hc101 (by kernel_rfl) (by kernel_rfl) ?_
         refine AnyE.loadBox 7 68 8 29 b89 0 (.agg #[.slice A75 t74.length c76, .int .i64 t78, .int .i64 t79, .slice A81 t80.length c82, .int .u16 t84]) [] h97 rfl (by kernel_rfl) hS98 rfl rfl (by kernel_rfl) (by kernel_rfl) ?_
         refine AnyE.loadBox 9 70 0 29 b2 0 (.agg #[.slice pA0_0_0 p0_0_0.length pc0_0_0, .int .i64 p0_0_1, .int .i64 p0_0_2, .slice pA0_0_3 p0_0_3.length pc0_0_3, .int .u16 p0_1]) [] h97 rfl (by kernel_rfl) hS98 rfl rfl (by kernel_rfl) (by kernel_rfl) ?_
         refine AnyE.one 8 (by kernel_rfl) (fun w102 hu103 => ?_)
         have h104 := h97.call hu103
         have hS105 := hS98.up hu103
         obtain ⟨⟨t111, t115, t116, t117, t121⟩, hg110, h⟩ := of_bind h
         dsimp only at h
         have h106 := h104.release 6 rfl
         refine OpE.call 69 (by kernel_rfl) 12 #[.agg #[.slice A75 t74.length c76, .int .i64 t78, .int .i64 t79, .slice A81 t80.length c82, .int .u16 t84]] (by kernel_rfl) ((charabanclaw30_plain_12_ok K _ w102  A75 c76 A81 c82 t74 t78 t79 t80 t84 h106.old' (h106.get 6 rfl) (h106.get 7 rfl) hg110).mono ?_)
         rintro _ w107 ⟨A112, c113, A118, c119, rfl, hr122⟩
         refine ⟨_, rfl, ?_⟩
         have hb108 := hr122.below
         have h109 := h106.join hr122
         have hS123 := hS105.up hb108
         refine ⟨hS123, ?_⟩
         refine AnyE.one 10 (by kernel_rfl) (fun w124 hu125 => ?_)
         have h126 := h109.call hu125
         have hS127 := hS123.up hu125
         obtain ⟨⟨t132, t136, t137, t138, t142⟩, hg131, h⟩ := of_bind h
         dsimp only at h
         refine OpE.call 71 (by kernel_rfl) 12 #[.agg #[.slice pA0_0_0 p0_0_0.length pc0_0_0, .int .i64 p0_0_1, .int .i64 p0_0_2, .slice pA0_0_3 p0_0_3.length pc0_0_3, .int .u16 p0_1]] (by kernel_rfl) ((charabanclaw30_plain_12_ok K _ w124  pA0_0_0 pc0_0_0 pA0_0_3 pc0_0_3 p0_0_0 p0_0_1 p0_0_2 p0_0_3 p0_1 h126.old' (h126.get 1 rfl) (h126.get 2 rfl) hg131).mono ?_)
         rintro _ w128 ⟨A133, c134, A139, c140, rfl, hr143⟩
         refine ⟨_, rfl, ?_⟩
         have hb129 := hr143.below
         have h130 := h126.join hr143
         have hS144 := hS127.up hb129
         refine ⟨hS144, ?_⟩
         refine AnyE.one 11 (by kernel_rfl) (fun w145 hu146 => ?_)
         have h147 := h130.call hu146
         have hS148 := hS144.up hu146
         obtain ⟨t153, hg152, h⟩ := of_bind h
         refine OpE.call 72 (by kernel_rfl) 11 #[.agg #[.slice A112 t111.length c113, .int .i64 t115, .int .i64 t116, .slice A118 t117.length c119, .int .u16 t121], .agg #[.slice A133 t132.length c134, .int .i64 t136, .int .i64 t137, .slice A139 t138.length c140, .int .u16 t142]] (by kernel_rfl) ((charabancref30_Same_11_ok K (fun _ => False) w145  A112 c113 A118 c119 A133 c134 A139 c140 t111 t115 t116 t117 t121 t132 t136 t137 t138 t142 (fun _ hf => hf.elim) (h147.slAny 9 rfl) (h147.ownSl 10 rfl) (h147.slAny 11 rfl) (h147.ownSl 12 rfl) hg152).mono ?_)
         rintro _ w149 ⟨rfl, hb150⟩
         refine ⟨_, rfl, ?_⟩
         have h151 := h147.call hb150
         have hS154 := hS148.up hb150
         refine ⟨hS154, ?_⟩
         refine AnyE.pure 12 73 (.bool t153) (by kernel_rfl) hS154 (fun _ => by kernel_rfl) ?_
         refine AnyE.pure 13 4 (.bool t153) (by kernel_rfl) hS154 (fun _ => by kernel_rfl) ?_
         refine AnyE.done (by kernel_rfl) (fun w155 hu156 => ?_)
         have h157 := h151.call hu156
         refine RunsI.l [4] [(4, .bool t153)] ?_
         refine RunsI.t (.bool t153) ?_
         obtain rfl := Option.some.inj h
         exact ⟨rfl, h157.below⟩
        ·skip
         refine AnyE.fix 67 false hc101 (by kernel_rfl) (by kernel_rfl) ?_
         refine AnyE.no 7 68 (by kernel_rfl) hS98 ?_
         refine AnyE.no 8 69 (by kernel_rfl) hS98 ?_
         refine AnyE.no 9 70 (by kernel_rfl) hS98 ?_
         refine AnyE.no 10 71 (by kernel_rfl) hS98 ?_
         refine AnyE.no 11 72 (by kernel_rfl) hS98 ?_
         refine AnyE.pure 12 73 (.bool false) (by kernel_rfl) hS98 (fun _ => by kernel_rfl) ?_
         refine AnyE.pure 13 4 (.bool false) (by kernel_rfl) hS98 (fun _ => by kernel_rfl) ?_
         refine AnyE.done (by kernel_rfl) (fun w158 hu159 => ?_)
         have h160 := h97.call hu159
         refine RunsI.l [4] [(4, .bool false)] ?_
         refine RunsI.t (.bool false) ?_
         obtain rfl := Option.some.inj h
         exact ⟨rfl, h160.below⟩
       ·skip
        refine AnyE.fix 63 false hc100 (by kernel_rfl) (by kernel_rfl) ?_
        refine AnyE.no 3 64 (by kernel_rfl) hS98 ?_
        refine AnyE.no 4 65 (by kernel_rfl) hS98 ?_
        refine AnyE.pure 5 66 (.bool false) (by kernel_rfl) hS98 (fun _ => by kernel_rfl) ?_
        refine AnyE.pure 6 67 (.bool false) (by kernel_rfl) hS98 (fun _ => by kernel_rfl) ?_
        refine AnyE.no 7 68 (by kernel_rfl) hS98 ?_
        refine AnyE.no 8 69 (by kernel_rfl) hS98 ?_
        refine AnyE.no 9 70 (by kernel_rfl) hS98 ?_
        refine AnyE.no 10 71 (by kernel_rfl) hS98 ?_
        refine AnyE.no 11 72 (by kernel_rfl) hS98 ?_
        refine AnyE.pure 12 73 (.bool false) (by kernel_rfl) hS98 (fun _ => by kernel_rfl) ?_
        refine AnyE.pure 13 4 (.bool false) (by kernel_rfl) hS98 (fun _ => by kernel_rfl) ?_
        refine AnyE.done (by kernel_rfl) (fun w161 hu162 => ?_)
        have h163 := h97.call hu162
        refine RunsI.l [4] [(4, .bool false)] ?_
        refine RunsI.t (.bool false) ?_
        obtain rfl := Option.some.inj h
        exact ⟨rfl, h163.below⟩
    clear hJ51
    rcases of_cond h with ⟨hc40, h⟩ | ⟨hc40, h⟩
    ·skip
     refine RegI.f 32 true hc40 ?_
     refine RegI.p 15 [(2, .pointer (some ⟨b2, 0, none⟩)), (47, .bool true)] ?_
     refine RegI.l [2, 47] [(2, .pointer (some ⟨b2, 0, none⟩)), (47, .bool true)] ?_
     exact hj52 true w30 h (h32.pick [1, 2, 3, 4, 5, 6] (by decide))
    ·skip
     refine RegI.f 32 false hc40 ?_
     refine RegI.p 1 [(1, .slice pA1 p1.length pc1), (2, .pointer (some ⟨b2, 0, none⟩)), (32, .bool false), (33, .slice A35 t34.length c36)] ?_
     refine RegI.o (OpE.run 34 (by kernel_rfl) (run_toStr (s := 22) (d := 9) (v := .slice A35 t34.length c36) (by kernel_rfl) (by kernel_rfl) (h32.rdOwn 7 rfl)) ?_)
     refine RegI.p 1 [(1, .slice pA1 p1.length pc1), (2, .pointer (some ⟨b2, 0, none⟩)), (32, .bool false), (34, .string (strOf t34)), (35, .slice pA1 p1.length pc1)] ?_
     refine RegI.o (OpE.run 36 (by kernel_rfl) (run_toStr (s := 22) (d := 9) (v := .slice pA1 p1.length pc1) (by kernel_rfl) (by kernel_rfl) (h32.rdSl 0 rfl)) ?_)
     refine RegI.p 3 [(1, .slice pA1 p1.length pc1), (2, .pointer (some ⟨b2, 0, none⟩)), (39, .bool (!((ByteArray.toList (strOf t34)) == (ByteArray.toList (strOf p1)))))] ?_
     rcases of_cond h with ⟨hc41, h⟩ | ⟨hc41, h⟩
     ·skip
      refine RegI.f 39 true hc41 ?_
      refine RegI.p 8 [(2, .pointer (some ⟨b2, 0, none⟩)), (47, .bool true)] ?_
      refine RegI.l [2, 47] [(2, .pointer (some ⟨b2, 0, none⟩)), (47, .bool true)] ?_
      exact hj52 true w30 h (h32.pick [1, 2, 3, 4, 5, 6] (by decide))
     ·skip
      refine RegI.f 39 false hc41 ?_
      refine RegI.p 1 [(1, .slice pA1 p1.length pc1), (2, .pointer (some ⟨b2, 0, none⟩)), (39, .bool false), (40, .slice pA1 p1.length pc1)] ?_
      obtain ⟨t46, hg45, h⟩ := of_bind h
      refine RegI.o (OpE.call 41 (by kernel_rfl) 13 #[.slice pA1 p1.length pc1] (by kernel_rfl) ((image_Digits_13_ok K _ w30  pA1 pc1 p1 h32.old' (h32.get 0 rfl) (h32.get 4 rfl) (h32.get 5 rfl) (h32.get 6 rfl) hg45).mono ?_))
      rintro _ w42 ⟨rfl, hb43⟩
      refine ⟨_, rfl, ?_⟩
      have h44 := h32.call hb43
      refine RegI.p 6 [(2, .pointer (some ⟨b2, 0, none⟩)), (47, .bool ((t46.size : Int) != (IntKind.wrap .i64 (2 * (p1.length : Int)))))] ?_
      refine RegI.l [2, 47] [(2, .pointer (some ⟨b2, 0, none⟩)), (47, .bool ((t46.size : Int) != (IntKind.wrap .i64 (2 * (p1.length : Int)))))] ?_
      exact hj52 ((t46.size : Int) != (IntKind.wrap .i64 (2 * (p1.length : Int)))) w42 h (h44.pick [1, 2, 3, 4, 5, 6] (by decide))
  clear hJ22
  rcases of_cond h with ⟨hc17, h⟩ | ⟨hc17, h⟩
  ·skip
   refine RegI.f 19 true hc17 ?_
   refine RegI.p 4 [(1, .slice pA1 p1.length pc1), (2, .pointer (some ⟨b2, 0, none⟩)), (23, .bool true)] ?_
   refine RegI.l [1, 2, 23] [(1, .slice pA1 p1.length pc1), (2, .pointer (some ⟨b2, 0, none⟩)), (23, .bool true)] ?_
   exact hj23 true w12 h (h14.pick [2, 6, 0, 1, 3, 4, 5] (by decide))
  ·skip
   refine RegI.f 19 false hc17 ?_
   refine RegI.p 4 [(1, .slice pA1 p1.length pc1), (2, .pointer (some ⟨b2, 0, none⟩)), (23, .bool (decide ((p1.length : Int) > 200)))] ?_
   refine RegI.l [1, 2, 23] [(1, .slice pA1 p1.length pc1), (2, .pointer (some ⟨b2, 0, none⟩)), (23, .bool (decide ((p1.length : Int) > 200)))] ?_
   exact hj23 (decide ((p1.length : Int) > 200)) w12 h (h14.pick [2, 6, 0, 1, 3, 4, 5] (by decide))
end
end Go.Proofs.YtbcepghanbkncaaDoor.Im
