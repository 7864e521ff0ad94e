/- Functions of the program as plain Lean functions, each with the proof that the call comes to it; written by wip/eng.py. -/
import Derived.Test.YtbcepghanbkncaaDoorIm3
set_option linter.unusedVariables false
set_option linter.unusedSimpArgs false
set_option maxHeartbeats 4000000
namespace Go.Proofs.YtbcepghanbkncaaDoor.Im
open Go.RowKit Go.Eng
/-! ### charabanc/charabancref30.told (function 22) -/
section
def charabancref30_told_22.post (M0 : Nat → Prop) (w0 : World) (r : (List Int) × Int × Int × (List (Int × Int)) × Int × Bool) : Ending → World → Prop := fun e w => ∃ (A1 : Option Addr) (c1 : Nat) (A4 : Option Addr) (c4 : Nat), e = .returned (.tuple #[.agg #[.slice A1 r.1.length c1, .int .i64 r.2.1, .int .i64 r.2.2.1, .slice A4 r.2.2.2.1.length c4, .int .u16 r.2.2.2.2.1], .bool r.2.2.2.2.2]) ∧ Holds M0 w0 w [sl (Rp.int .u8) (.slice A1 r.1.length c1) r.1, sl (Rp.pair (Rp.int .i64) (Rp.int .u8)) (.slice A4 r.2.2.2.1.length c4) r.2.2.2.1]
def charabancref30_told_22.f (K : Nat) (p0_0_0 : List Int) (p0_0_1 : Int) (p0_0_2 : Int) (p0_0_3 : List (Int × Int)) (p0_1 : Int) (p1 : ByteArray) : Option ((List Int) × Int × Int × (List (Int × Int)) × Int × Bool) := Let (fun (t13 : Bool) => cond t13 (some (p0_0_0, p0_0_1, p0_0_2, p0_0_3, p0_1, true)) ((charabancref30_begins_45.f K p1 (⟨#[98, 97, 110, 107, 115, 32]⟩ : ByteArray)).bind fun yt27 => (charabancref30_begins_45.f K p1 (⟨#[98, 97, 110, 107, 32]⟩ : ByteArray)).bind fun yt33 => (charabancref30_begins_45.f K p1 (⟨#[112, 99, 32]⟩ : ByteArray)).bind fun yt39 => (charabancref30_begins_45.f K p1 (⟨#[114, 111, 109, 32]⟩ : ByteArray)).bind fun yt45 => (charabancref30_begins_45.f K p1 (⟨#[114, 97, 109, 32]⟩ : ByteArray)).bind fun yt51 => cond yt27.2 ((charabancref30_few_46.f K yt27.1).bind fun yt58 => some (p0_0_0, yt58.1, p0_0_2, p0_0_3, p0_1, yt58.2)) (cond yt33.2 ((charabancref30_few_46.f K yt33.1).bind fun yt71 => some (p0_0_0, p0_0_1, yt71.1, p0_0_3, p0_1, yt71.2)) (cond yt39.2 ((charabancref30_number_25.f K yt39.1 4).bind fun yt84 => some (p0_0_0, p0_0_1, p0_0_2, p0_0_3, (IntKind.wrap .u16 yt84.1), yt84.2)) (cond yt45.2 ((charabancref30_Bytes_10.f K yt45.1).bind fun yt97 => cond (mayBe (([] : List Int).length + p0_0_0.length) 1) (cond (mayBe ((([] : List Int) ++ p0_0_0).length + yt97.1.length) 1) (some (((([] : List Int) ++ p0_0_0) ++ yt97.1), p0_0_1, p0_0_2, p0_0_3, p0_1, yt97.2)) none) none) (cond yt51.2 (Let (fun (t125 : Bool) => cond t125 (some (p0_0_0, p0_0_1, p0_0_2, p0_0_3, p0_1, false)) (cond (cutR 0 5 yt51.1.size) ((charabancref30_number_25.f K (strCut yt51.1 0 5) 5).bind fun yt140 => cond (cutR 6 (yt51.1.size : Int) yt51.1.size) ((charabancref30_Bytes_10.f K (strCut yt51.1 6 (yt51.1.size : Int))).bind fun yt147 => (charabancref19_Load_47.f K p0_0_0 p0_0_1 p0_0_2 p0_0_3 yt140.1 yt147.1).bind fun yt158 => cond yt140.2 (some (yt158.1, yt158.2.1, yt158.2.2.1, yt158.2.2.2, p0_1, yt147.2)) (some (yt158.1, yt158.2.1, yt158.2.2.1, yt158.2.2.2, p0_1, false))) none) none)) (fun j128 => cond (decide ((yt51.1.size : Int) < 6)) (j128 true) (cond (inR 5 yt51.1.size) (j128 ((btD yt51.1 5) != 32)) none))) (some (p0_0_0, p0_0_1, p0_0_2, p0_0_3, p0_1, false)))))))) (fun j16 => cond ((ByteArray.toList p1) == (ByteArray.toList (⟨#[]⟩ : ByteArray))) (j16 true) (cond (inR 0 p1.size) (j16 ((btD p1 0) == 59)) none))
set_option maxRecDepth 100000 in
theorem charabancref30_told_22_ok (K : Nat) (M0 : Nat → Prop) (w0 : World) (pA0_0_0 : Option Addr) (pc0_0_0 : Nat) (pA0_0_3 : Option Addr) (pc0_0_3 : Nat) (p0_0_0 : List Int) (p0_0_1 : Int) (p0_0_2 : Int) (p0_0_3 : List (Int × Int)) (p0_1 : Int) (p1 : ByteArray) (ho : ∀ b, M0 b → b < w0.heap.size) (hs0_0_0 : Sl (Rp.int .u8) w0 M0 (.slice pA0_0_0 p0_0_0.length pc0_0_0) p0_0_0) (hs0_0_3 : Sl (Rp.pair (Rp.int .i64) (Rp.int .u8)) w0 M0 (.slice pA0_0_3 p0_0_3.length pc0_0_3) p0_0_3) {r : (List Int) × Int × Int × (List (Int × Int)) × Int × Bool} (h : charabancref30_told_22.f K p0_0_0 p0_0_1 p0_0_2 p0_0_3 p0_1 p1 = some r) :
  Calls Tryd.prog 22 #[.agg #[.slice pA0_0_0 p0_0_0.length pc0_0_0, .int .i64 p0_0_1, .int .i64 p0_0_2, .slice pA0_0_3 p0_0_3.length pc0_0_3, .int .u16 p0_1], .string p1] w0 (charabancref30_told_22.post M0 w0 r) := by
 unfold charabancref30_told_22.f at h
 have h0 : Holds M0 w0 w0 [] := Holds.start ho
 have h00_0_0 := h0.addSl (Rp.int .u8) (.slice pA0_0_0 p0_0_0.length pc0_0_0) p0_0_0 (hs0_0_0.mono (fun _ _ hm => hm.elim id (fun hm => absurd hm (by simp [mines, sl]))))
 have h00_0_3 := h00_0_0.addSl (Rp.pair (Rp.int .i64) (Rp.int .u8)) (.slice pA0_0_3 p0_0_3.length pc0_0_3) p0_0_3 (hs0_0_3.mono (fun _ _ hm => hm.elim id (fun hm => absurd hm (by simp [mines, sl]))))
 have h0 : Holds M0 w0 w0 [sl (Rp.int .u8) (.slice pA0_0_0 p0_0_0.length pc0_0_0) p0_0_0, sl (Rp.pair (Rp.int .i64) (Rp.int .u8)) (.slice pA0_0_3 p0_0_3.length pc0_0_3) p0_0_3] := h00_0_3
 refine calls_of F22 rfl [.agg #[.slice pA0_0_0 p0_0_0.length pc0_0_0, .int .i64 p0_0_1, .int .i64 p0_0_2, .slice pA0_0_3 p0_0_3.length pc0_0_3, .int .u16 p0_1], .string p1] (by kernel_rfl) ?_
 refine RunsI.g 1 [.c 1, .c 2] ?_
 refine RunsI.r ?_
 refine RegI.o (OpE.box 2 37 [.slice pA0_0_0 p0_0_0.length pc0_0_0, .int .i64 p0_0_1, .int .i64 p0_0_2, .slice pA0_0_3 p0_0_3.length pc0_0_3, .int .u16 p0_1] h0 (by kernel_rfl) (by kernel_rfl) ?_)
 intro w1 b2 h3 hb4 hn5
 refine RegI.o (OpE.box 4 37 [.slice none 0 0, .int .i64 0, .int .i64 0, .slice none 0 0, .int .u16 0] h3 (by kernel_rfl) (by kernel_rfl) ?_)
 intro w6 b7 h8 hb9 hn10
 refine RegI.p 1 [(1, .string p1), (2, .pointer (some ⟨b2, 0, none⟩)), (4, .pointer (some ⟨b7, 0, none⟩))] ?_
 refine RegI.d ?_
 refine RunsI.g 2 [.c 4, .c 5, .c 10] ?_
 refine RunsI.r ?_
 refine RegI.p 3 [(1, .string p1), (2, .pointer (some ⟨b2, 0, none⟩)), (4, .pointer (some ⟨b7, 0, none⟩)), (31, .bool ((ByteArray.toList p1) == (ByteArray.toList (⟨#[]⟩ : ByteArray))))] ?_
 obtain ⟨j16, hJ17, h⟩ := of_let h
 have hj18 : ∀ (t13 : Bool) (w15 : World), j16 t13 = some r → Holds M0 w0 w15 [box b2 37 [.slice pA0_0_0 p0_0_0.length pc0_0_0, .int .i64 p0_0_1, .int .i64 p0_0_2, .slice pA0_0_3 p0_0_3.length pc0_0_3, .int .u16 p0_1], sl (Rp.int .u8) (.slice pA0_0_0 p0_0_0.length pc0_0_0) p0_0_0, sl (Rp.pair (Rp.int .i64) (Rp.int .u8)) (.slice pA0_0_3 p0_0_3.length pc0_0_3) p0_0_3, box b7 37 [.slice none 0 0, .int .i64 0, .int .i64 0, .slice none 0 0, .int .u16 0]] → RegI F22 4 [.c 5, .c 10] 7 [(1, .string p1), (2, .pointer (some ⟨b2, 0, none⟩)), (4, .pointer (some ⟨b7, 0, none⟩)), (35, .bool t13)] w15 (charabancref30_told_22.post M0 w0 r) := by
  intro t13 w15 h h14
  rw [hJ17] at h
  clear hJ17
  dsimp only at h
  refine RegI.d ?_
  rcases of_cond h with ⟨hc19, h⟩ | ⟨hc19, h⟩
  ·skip
   refine RunsI.f 35 true hc19 ?_
   refine RunsI.b true 6 ?_
   refine RunsI.g 1 [.c 7, .c 8, .c 10] ?_
   refine RunsI.r ?_
   refine RegI.o (OpE.loadBox 36 0 37 b2 0 (.agg #[.slice pA0_0_0 p0_0_0.length pc0_0_0, .int .i64 p0_0_1, .int .i64 p0_0_2, .slice pA0_0_3 p0_0_3.length pc0_0_3, .int .u16 p0_1]) h14 (by kernel_rfl) (by kernel_rfl) rfl (by kernel_rfl) ?_)
   refine RegI.o (OpE.storeBox 3 37 b7 0 (.agg #[.slice pA0_0_0 p0_0_0.length pc0_0_0, .int .i64 p0_0_1, .int .i64 p0_0_2, .slice pA0_0_3 p0_0_3.length pc0_0_3, .int .u16 p0_1]) [.slice pA0_0_0 p0_0_0.length pc0_0_0, .int .i64 p0_0_1, .int .i64 p0_0_2, .slice pA0_0_3 p0_0_3.length pc0_0_3, .int .u16 p0_1] h14 (by kernel_rfl) (by kernel_rfl) rfl (by kernel_rfl) (by kernel_rfl) (by kernel_rfl) ?_)
   intro w20 h21 hk22
   refine RegI.p 1 [(4, .pointer (some ⟨b7, 0, none⟩)), (5, .bool true)] ?_
   refine RegI.d ?_
   refine RunsI.toRet (by kernel_rfl) ?_
   refine RetI.valW [.cell 4 37, .tmp 5] [.agg #[.slice pA0_0_0 p0_0_0.length pc0_0_0, .int .i64 p0_0_1, .int .i64 p0_0_2, .slice pA0_0_3 p0_0_3.length pc0_0_3, .int .u16 p0_1], .bool true] (.tuple #[.agg #[.slice pA0_0_0 p0_0_0.length pc0_0_0, .int .i64 p0_0_1, .int .i64 p0_0_2, .slice pA0_0_3 p0_0_3.length pc0_0_3, .int .u16 p0_1], .bool true]) (by kernel_rfl) (ResAt.box 3 37 b7 0 h21 (by kernel_rfl) (by kernel_rfl) rfl (by kernel_rfl) (ResAt.tmp (by kernel_rfl) (by kernel_rfl) rfl)) (by kernel_rfl) ?_
   obtain rfl := Option.some.inj h
   exact ⟨pA0_0_0, pc0_0_0, pA0_0_3, pc0_0_3, rfl, h21.pick [1, 2] (by decide)⟩
  ·skip
   refine RunsI.f 35 false hc19 ?_
   refine RunsI.b false 9 ?_
   refine RunsI.g 1 [.c 10] ?_
   refine RunsI.g 1 [.c 11, .c 12] ?_
   refine RunsI.r ?_
   refine RegI.p 1 [(1, .string p1), (2, .pointer (some ⟨b2, 0, none⟩)), (4, .pointer (some ⟨b7, 0, none⟩)), (38, .string p1)] ?_
   obtain ⟨⟨t27, t28⟩, hg26, h⟩ := of_bind h
   dsimp only at h
   refine RegI.o (OpE.call 39 (by kernel_rfl) 45 #[.string p1, .string (⟨#[98, 97, 110, 107, 115, 32]⟩ : ByteArray)] (by kernel_rfl) ((charabancref30_begins_45_ok K _ w15  p1 (⟨#[98, 97, 110, 107, 115, 32]⟩ : ByteArray) h14.old' hg26).mono ?_))
   rintro _ w23 ⟨rfl, hb24⟩
   refine ⟨_, rfl, ?_⟩
   have h25 := h14.call hb24
   refine RegI.p 5 [(1, .string p1), (2, .pointer (some ⟨b2, 0, none⟩)), (4, .pointer (some ⟨b7, 0, none⟩)), (6, .string t27), (7, .bool t28)] ?_
   refine RegI.d ?_
   refine RunsI.g 1 [.c 13, .c 14] ?_
   refine RunsI.r ?_
   refine RegI.p 1 [(1, .string p1), (2, .pointer (some ⟨b2, 0, none⟩)), (4, .pointer (some ⟨b7, 0, none⟩)), (6, .string t27), (7, .bool t28), (43, .string p1)] ?_
   obtain ⟨⟨t33, t34⟩, hg32, h⟩ := of_bind h
   dsimp only at h
   refine RegI.o (OpE.call 44 (by kernel_rfl) 45 #[.string p1, .string (⟨#[98, 97, 110, 107, 32]⟩ : ByteArray)] (by kernel_rfl) ((charabancref30_begins_45_ok K _ w23  p1 (⟨#[98, 97, 110, 107, 32]⟩ : ByteArray) h25.old' hg32).mono ?_))
   rintro _ w29 ⟨rfl, hb30⟩
   refine ⟨_, rfl, ?_⟩
   have h31 := h25.call hb30
   refine RegI.p 5 [(1, .string p1), (2, .pointer (some ⟨b2, 0, none⟩)), (4, .pointer (some ⟨b7, 0, none⟩)), (6, .string t27), (7, .bool t28), (8, .string t33), (9, .bool t34)] ?_
   refine RegI.d ?_
   refine RunsI.g 1 [.c 15, .c 16] ?_
   refine RunsI.r ?_
   refine RegI.p 1 [(1, .string p1), (2, .pointer (some ⟨b2, 0, none⟩)), (4, .pointer (some ⟨b7, 0, none⟩)), (6, .string t27), (7, .bool t28), (8, .string t33), (9, .bool t34), (48, .string p1)] ?_
   obtain ⟨⟨t39, t40⟩, hg38, h⟩ := of_bind h
   dsimp only at h
   refine RegI.o (OpE.call 49 (by kernel_rfl) 45 #[.string p1, .string (⟨#[112, 99, 32]⟩ : ByteArray)] (by kernel_rfl) ((charabancref30_begins_45_ok K _ w29  p1 (⟨#[112, 99, 32]⟩ : ByteArray) h31.old' hg38).mono ?_))
   rintro _ w35 ⟨rfl, hb36⟩
   refine ⟨_, rfl, ?_⟩
   have h37 := h31.call hb36
   refine RegI.p 5 [(1, .string p1), (2, .pointer (some ⟨b2, 0, none⟩)), (4, .pointer (some ⟨b7, 0, none⟩)), (6, .string t27), (7, .bool t28), (8, .string t33), (9, .bool t34), (10, .string t39), (11, .bool t40)] ?_
   refine RegI.d ?_
   refine RunsI.g 1 [.c 17, .c 18] ?_
   refine RunsI.r ?_
   refine RegI.p 1 [(1, .string p1), (2, .pointer (some ⟨b2, 0, none⟩)), (4, .pointer (some ⟨b7, 0, none⟩)), (6, .string t27), (7, .bool t28), (8, .string t33), (9, .bool t34), (10, .string t39), (11, .bool t40), (53, .string p1)] ?_
   obtain ⟨⟨t45, t46⟩, hg44, h⟩ := of_bind h
   dsimp only at h
   refine RegI.o (OpE.call 54 (by kernel_rfl) 45 #[.string p1, .string (⟨#[114, 111, 109, 32]⟩ : ByteArray)] (by kernel_rfl) ((charabancref30_begins_45_ok K _ w35  p1 (⟨#[114, 111, 109, 32]⟩ : ByteArray) h37.old' hg44).mono ?_))
   rintro _ w41 ⟨rfl, hb42⟩
   refine ⟨_, rfl, ?_⟩
   have h43 := h37.call hb42
   refine RegI.p 5 [(1, .string p1), (2, .pointer (some ⟨b2, 0, none⟩)), (4, .pointer (some ⟨b7, 0, none⟩)), (6, .string t27), (7, .bool t28), (8, .string t33), (9, .bool t34), (10, .string t39), (11, .bool t40), (12, .string t45), (13, .bool t46)] ?_
   refine RegI.d ?_
   refine RunsI.g 1 [.c 19, .c 20] ?_
   refine RunsI.r ?_
   refine RegI.p 1 [(2, .pointer (some ⟨b2, 0, none⟩)), (4, .pointer (some ⟨b7, 0, none⟩)), (6, .string t27), (7, .bool t28), (8, .string t33), (9, .bool t34), (10, .string t39), (11, .bool t40), (12, .string t45), (13, .bool t46), (58, .string p1)] ?_
   obtain ⟨⟨t51, t52⟩, hg50, h⟩ := of_bind h
   dsimp only at h
   refine RegI.o (OpE.call 59 (by kernel_rfl) 45 #[.string p1, .string (⟨#[114, 97, 109, 32]⟩ : ByteArray)] (by kernel_rfl) ((charabancref30_begins_45_ok K _ w41  p1 (⟨#[114, 97, 109, 32]⟩ : ByteArray) h43.old' hg50).mono ?_))
   rintro _ w47 ⟨rfl, hb48⟩
   refine ⟨_, rfl, ?_⟩
   have h49 := h43.call hb48
   refine RegI.p 5 [(2, .pointer (some ⟨b2, 0, none⟩)), (4, .pointer (some ⟨b7, 0, none⟩)), (6, .string t27), (7, .bool t28), (8, .string t33), (9, .bool t34), (10, .string t39), (11, .bool t40), (12, .string t45), (13, .bool t46), (14, .string t51), (15, .bool t52)] ?_
   refine RegI.d ?_
   refine RunsI.g 3 [.c 23, .c 24, .blk 0, .c 89] ?_
   refine RunsI.r ?_
   refine RegI.p 2 [(2, .pointer (some ⟨b2, 0, none⟩)), (4, .pointer (some ⟨b7, 0, none⟩)), (6, .string t27), (8, .string t33), (9, .bool t34), (10, .string t39), (11, .bool t40), (12, .string t45), (13, .bool t46), (14, .string t51), (15, .bool t52), (62, .bool t28)] ?_
   refine RegI.d ?_
   rcases of_cond h with ⟨hc53, h⟩ | ⟨hc53, h⟩
   ·skip
    refine RunsI.f 62 true hc53 ?_
    refine RunsI.b true 25 ?_
    refine RunsI.g 1 [.c 26, .c 27, .blk 0, .c 89] ?_
    refine RunsI.r ?_
    refine RegI.p 1 [(2, .pointer (some ⟨b2, 0, none⟩)), (4, .pointer (some ⟨b7, 0, none⟩)), (65, .string t27)] ?_
    obtain ⟨⟨t58, t59⟩, hg57, h⟩ := of_bind h
    dsimp only at h
    refine RegI.o (OpE.call 66 (by kernel_rfl) 46 #[.string t27] (by kernel_rfl) ((charabancref30_few_46_ok K _ w47  t27 h49.old' hg57).mono ?_))
    rintro _ w54 ⟨rfl, hb55⟩
    refine ⟨_, rfl, ?_⟩
    have h56 := h49.call hb55
    refine RegI.p 5 [(2, .pointer (some ⟨b2, 0, none⟩)), (4, .pointer (some ⟨b7, 0, none⟩)), (16, .int .i64 t58), (17, .bool t59)] ?_
    refine RegI.d ?_
    refine RunsI.g 1 [.c 28, .c 29, .blk 0, .c 89] ?_
    refine RunsI.r ?_
    refine RegI.p 3 [(2, .pointer (some ⟨b2, 0, none⟩)), (4, .pointer (some ⟨b7, 0, none⟩)), (17, .bool t59), (69, .int .i64 t58), (71, .pointer (some ⟨b2, 1, none⟩))] ?_
    refine RegI.o (OpE.storeBox 0 3 b2 1 (.int .i64 t58) [.slice pA0_0_0 p0_0_0.length pc0_0_0, .int .i64 t58, .int .i64 p0_0_2, .slice pA0_0_3 p0_0_3.length pc0_0_3, .int .u16 p0_1] h56 (by kernel_rfl) (by kernel_rfl) rfl (by kernel_rfl) (by kernel_rfl) (by kernel_rfl) ?_)
    intro w60 h61 hk62
    refine RegI.d ?_
    refine RunsI.g 1 [.c 30, .c 31, .blk 0, .c 89] ?_
    refine RunsI.r ?_
    refine RegI.o (OpE.loadBox 72 0 37 b2 0 (.agg #[.slice pA0_0_0 p0_0_0.length pc0_0_0, .int .i64 t58, .int .i64 p0_0_2, .slice pA0_0_3 p0_0_3.length pc0_0_3, .int .u16 p0_1]) h61 (by kernel_rfl) (by kernel_rfl) rfl (by kernel_rfl) ?_)
    refine RegI.p 1 [(4, .pointer (some ⟨b7, 0, none⟩)), (72, .agg #[.slice pA0_0_0 p0_0_0.length pc0_0_0, .int .i64 t58, .int .i64 p0_0_2, .slice pA0_0_3 p0_0_3.length pc0_0_3, .int .u16 p0_1]), (73, .bool t59)] ?_
    refine RegI.o (OpE.storeBox 3 37 b7 0 (.agg #[.slice pA0_0_0 p0_0_0.length pc0_0_0, .int .i64 t58, .int .i64 p0_0_2, .slice pA0_0_3 p0_0_3.length pc0_0_3, .int .u16 p0_1]) [.slice pA0_0_0 p0_0_0.length pc0_0_0, .int .i64 t58, .int .i64 p0_0_2, .slice pA0_0_3 p0_0_3.length pc0_0_3, .int .u16 p0_1] h61 (by kernel_rfl) (by kernel_rfl) rfl (by kernel_rfl) (by kernel_rfl) (by kernel_rfl) ?_)
    intro w63 h64 hk65
    refine RegI.p 1 [(4, .pointer (some ⟨b7, 0, none⟩)), (5, .bool t59)] ?_
    refine RegI.d ?_
    refine RunsI.toRet (by kernel_rfl) ?_
    refine RetI.valW [.cell 4 37, .tmp 5] [.agg #[.slice pA0_0_0 p0_0_0.length pc0_0_0, .int .i64 t58, .int .i64 p0_0_2, .slice pA0_0_3 p0_0_3.length pc0_0_3, .int .u16 p0_1], .bool t59] (.tuple #[.agg #[.slice pA0_0_0 p0_0_0.length pc0_0_0, .int .i64 t58, .int .i64 p0_0_2, .slice pA0_0_3 p0_0_3.length pc0_0_3, .int .u16 p0_1], .bool t59]) (by kernel_rfl) (ResAt.box 3 37 b7 0 h64 (by kernel_rfl) (by kernel_rfl) rfl (by kernel_rfl) (ResAt.tmp (by kernel_rfl) (by kernel_rfl) rfl)) (by kernel_rfl) ?_
    obtain rfl := Option.some.inj h
    exact ⟨pA0_0_0, pc0_0_0, pA0_0_3, pc0_0_3, rfl, h64.pick [1, 2] (by decide)⟩
   ·skip
    refine RunsI.f 62 false hc53 ?_
    refine RunsI.b false 32 ?_
    refine RunsI.g 1 [.c 33, .c 34, .blk 0, .c 89] ?_
    refine RunsI.r ?_
    refine RegI.p 2 [(2, .pointer (some ⟨b2, 0, none⟩)), (4, .pointer (some ⟨b7, 0, none⟩)), (8, .string t33), (10, .string t39), (11, .bool t40), (12, .string t45), (13, .bool t46), (14, .string t51), (15, .bool t52), (74, .bool t34)] ?_
    refine RegI.d ?_
    rcases of_cond h with ⟨hc66, h⟩ | ⟨hc66, h⟩
    ·skip
     refine RunsI.f 74 true hc66 ?_
     refine RunsI.b true 35 ?_
     refine RunsI.g 1 [.c 36, .c 37, .blk 0, .c 89] ?_
     refine RunsI.r ?_
     refine RegI.p 1 [(2, .pointer (some ⟨b2, 0, none⟩)), (4, .pointer (some ⟨b7, 0, none⟩)), (77, .string t33)] ?_
     obtain ⟨⟨t71, t72⟩, hg70, h⟩ := of_bind h
     dsimp only at h
     refine RegI.o (OpE.call 78 (by kernel_rfl) 46 #[.string t33] (by kernel_rfl) ((charabancref30_few_46_ok K _ w47  t33 h49.old' hg70).mono ?_))
     rintro _ w67 ⟨rfl, hb68⟩
     refine ⟨_, rfl, ?_⟩
     have h69 := h49.call hb68
     refine RegI.p 5 [(2, .pointer (some ⟨b2, 0, none⟩)), (4, .pointer (some ⟨b7, 0, none⟩)), (18, .int .i64 t71), (19, .bool t72)] ?_
     refine RegI.d ?_
     refine RunsI.g 1 [.c 38, .c 39, .blk 0, .c 89] ?_
     refine RunsI.r ?_
     refine RegI.p 3 [(2, .pointer (some ⟨b2, 0, none⟩)), (4, .pointer (some ⟨b7, 0, none⟩)), (19, .bool t72), (81, .int .i64 t71), (83, .pointer (some ⟨b2, 2, none⟩))] ?_
     refine RegI.o (OpE.storeBox 0 3 b2 2 (.int .i64 t71) [.slice pA0_0_0 p0_0_0.length pc0_0_0, .int .i64 p0_0_1, .int .i64 t71, .slice pA0_0_3 p0_0_3.length pc0_0_3, .int .u16 p0_1] h69 (by kernel_rfl) (by kernel_rfl) rfl (by kernel_rfl) (by kernel_rfl) (by kernel_rfl) ?_)
     intro w73 h74 hk75
     refine RegI.d ?_
     refine RunsI.g 1 [.c 40, .c 41, .blk 0, .c 89] ?_
     refine RunsI.r ?_
     refine RegI.o (OpE.loadBox 84 0 37 b2 0 (.agg #[.slice pA0_0_0 p0_0_0.length pc0_0_0, .int .i64 p0_0_1, .int .i64 t71, .slice pA0_0_3 p0_0_3.length pc0_0_3, .int .u16 p0_1]) h74 (by kernel_rfl) (by kernel_rfl) rfl (by kernel_rfl) ?_)
     refine RegI.p 1 [(4, .pointer (some ⟨b7, 0, none⟩)), (84, .agg #[.slice pA0_0_0 p0_0_0.length pc0_0_0, .int .i64 p0_0_1, .int .i64 t71, .slice pA0_0_3 p0_0_3.length pc0_0_3, .int .u16 p0_1]), (85, .bool t72)] ?_
     refine RegI.o (OpE.storeBox 3 37 b7 0 (.agg #[.slice pA0_0_0 p0_0_0.length pc0_0_0, .int .i64 p0_0_1, .int .i64 t71, .slice pA0_0_3 p0_0_3.length pc0_0_3, .int .u16 p0_1]) [.slice pA0_0_0 p0_0_0.length pc0_0_0, .int .i64 p0_0_1, .int .i64 t71, .slice pA0_0_3 p0_0_3.length pc0_0_3, .int .u16 p0_1] h74 (by kernel_rfl) (by kernel_rfl) rfl (by kernel_rfl) (by kernel_rfl) (by kernel_rfl) ?_)
     intro w76 h77 hk78
     refine RegI.p 1 [(4, .pointer (some ⟨b7, 0, none⟩)), (5, .bool t72)] ?_
     refine RegI.d ?_
     refine RunsI.toRet (by kernel_rfl) ?_
     refine RetI.valW [.cell 4 37, .tmp 5] [.agg #[.slice pA0_0_0 p0_0_0.length pc0_0_0, .int .i64 p0_0_1, .int .i64 t71, .slice pA0_0_3 p0_0_3.length pc0_0_3, .int .u16 p0_1], .bool t72] (.tuple #[.agg #[.slice pA0_0_0 p0_0_0.length pc0_0_0, .int .i64 p0_0_1, .int .i64 t71, .slice pA0_0_3 p0_0_3.length pc0_0_3, .int .u16 p0_1], .bool t72]) (by kernel_rfl) (ResAt.box 3 37 b7 0 h77 (by kernel_rfl) (by kernel_rfl) rfl (by kernel_rfl) (ResAt.tmp (by kernel_rfl) (by kernel_rfl) rfl)) (by kernel_rfl) ?_
     obtain rfl := Option.some.inj h
     exact ⟨pA0_0_0, pc0_0_0, pA0_0_3, pc0_0_3, rfl, h77.pick [1, 2] (by decide)⟩
    ·skip
     refine RunsI.f 74 false hc66 ?_
     refine RunsI.b false 42 ?_
     refine RunsI.g 1 [.c 43, .c 44, .blk 0, .c 89] ?_
     refine RunsI.r ?_
     refine RegI.p 2 [(2, .pointer (some ⟨b2, 0, none⟩)), (4, .pointer (some ⟨b7, 0, none⟩)), (10, .string t39), (12, .string t45), (13, .bool t46), (14, .string t51), (15, .bool t52), (86, .bool t40)] ?_
     refine RegI.d ?_
     rcases of_cond h with ⟨hc79, h⟩ | ⟨hc79, h⟩
     ·skip
      refine RunsI.f 86 true hc79 ?_
      refine RunsI.b true 45 ?_
      refine RunsI.g 1 [.c 46, .c 47, .blk 0, .c 89] ?_
      refine RunsI.r ?_
      refine RegI.p 1 [(2, .pointer (some ⟨b2, 0, none⟩)), (4, .pointer (some ⟨b7, 0, none⟩)), (89, .string t39)] ?_
      obtain ⟨⟨t84, t85⟩, hg83, h⟩ := of_bind h
      dsimp only at h
      refine RegI.o (OpE.call 90 (by kernel_rfl) 25 #[.string t39, .int .i64 4] (by kernel_rfl) ((charabancref30_number_25_ok K _ w47  t39 4 h49.old' hg83).mono ?_))
      rintro _ w80 ⟨rfl, hb81⟩
      refine ⟨_, rfl, ?_⟩
      have h82 := h49.call hb81
      refine RegI.p 5 [(2, .pointer (some ⟨b2, 0, none⟩)), (4, .pointer (some ⟨b7, 0, none⟩)), (20, .int .i64 t84), (21, .bool t85)] ?_
      refine RegI.d ?_
      refine RunsI.g 1 [.c 48, .c 49, .blk 0, .c 89] ?_
      refine RunsI.r ?_
      refine RegI.p 3 [(2, .pointer (some ⟨b2, 0, none⟩)), (4, .pointer (some ⟨b7, 0, none⟩)), (21, .bool t85), (94, .int .u16 (IntKind.wrap .u16 t84)), (95, .pointer (some ⟨b2, 4, none⟩))] ?_
      refine RegI.o (OpE.storeBox 0 27 b2 4 (.int .u16 (IntKind.wrap .u16 t84)) [.slice pA0_0_0 p0_0_0.length pc0_0_0, .int .i64 p0_0_1, .int .i64 p0_0_2, .slice pA0_0_3 p0_0_3.length pc0_0_3, .int .u16 (IntKind.wrap .u16 t84)] h82 (by kernel_rfl) (by kernel_rfl) rfl (by kernel_rfl) (by kernel_rfl) (by kernel_rfl) ?_)
      intro w86 h87 hk88
      refine RegI.d ?_
      refine RunsI.g 1 [.c 50, .c 51, .blk 0, .c 89] ?_
      refine RunsI.r ?_
      refine RegI.o (OpE.loadBox 96 0 37 b2 0 (.agg #[.slice pA0_0_0 p0_0_0.length pc0_0_0, .int .i64 p0_0_1, .int .i64 p0_0_2, .slice pA0_0_3 p0_0_3.length pc0_0_3, .int .u16 (IntKind.wrap .u16 t84)]) h87 (by kernel_rfl) (by kernel_rfl) rfl (by kernel_rfl) ?_)
      refine RegI.p 1 [(4, .pointer (some ⟨b7, 0, none⟩)), (96, .agg #[.slice pA0_0_0 p0_0_0.length pc0_0_0, .int .i64 p0_0_1, .int .i64 p0_0_2, .slice pA0_0_3 p0_0_3.length pc0_0_3, .int .u16 (IntKind.wrap .u16 t84)]), (97, .bool t85)] ?_
      refine RegI.o (OpE.storeBox 3 37 b7 0 (.agg #[.slice pA0_0_0 p0_0_0.length pc0_0_0, .int .i64 p0_0_1, .int .i64 p0_0_2, .slice pA0_0_3 p0_0_3.length pc0_0_3, .int .u16 (IntKind.wrap .u16 t84)]) [.slice pA0_0_0 p0_0_0.length pc0_0_0, .int .i64 p0_0_1, .int .i64 p0_0_2, .slice pA0_0_3 p0_0_3.length pc0_0_3, .int .u16 (IntKind.wrap .u16 t84)] h87 (by kernel_rfl) (by kernel_rfl) rfl (by kernel_rfl) (by kernel_rfl) (by kernel_rfl) ?_)
      intro w89 h90 hk91
      refine RegI.p 1 [(4, .pointer (some ⟨b7, 0, none⟩)), (5, .bool t85)] ?_
      refine RegI.d ?_
      refine RunsI.toRet (by kernel_rfl) ?_
      refine RetI.valW [.cell 4 37, .tmp 5] [.agg #[.slice pA0_0_0 p0_0_0.length pc0_0_0, .int .i64 p0_0_1, .int .i64 p0_0_2, .slice pA0_0_3 p0_0_3.length pc0_0_3, .int .u16 (IntKind.wrap .u16 t84)], .bool t85] (.tuple #[.agg #[.slice pA0_0_0 p0_0_0.length pc0_0_0, .int .i64 p0_0_1, .int .i64 p0_0_2, .slice pA0_0_3 p0_0_3.length pc0_0_3, .int .u16 (IntKind.wrap .u16 t84)], .bool t85]) (by kernel_rfl) (ResAt.box 3 37 b7 0 h90 (by kernel_rfl) (by kernel_rfl) rfl (by kernel_rfl) (ResAt.tmp (by kernel_rfl) (by kernel_rfl) rfl)) (by kernel_rfl) ?_
      obtain rfl := Option.some.inj h
      exact ⟨pA0_0_0, pc0_0_0, pA0_0_3, pc0_0_3, rfl, h90.pick [1, 2] (by decide)⟩
     ·skip
      refine RunsI.f 86 false hc79 ?_
      refine RunsI.b false 52 ?_
      refine RunsI.g 1 [.c 53, .c 54, .blk 0, .c 89] ?_
      refine RunsI.r ?_
      refine RegI.p 2 [(2, .pointer (some ⟨b2, 0, none⟩)), (4, .pointer (some ⟨b7, 0, none⟩)), (12, .string t45), (14, .string t51), (15, .bool t52), (98, .bool t46)] ?_
      refine RegI.d ?_
      rcases of_cond h with ⟨hc92, h⟩ | ⟨hc92, h⟩
      ·skip
       refine RunsI.f 98 true hc92 ?_
       refine RunsI.b true 55 ?_
       refine RunsI.g 1 [.c 56, .c 57, .blk 0, .c 89] ?_
       refine RunsI.r ?_
       refine RegI.p 1 [(2, .pointer (some ⟨b2, 0, none⟩)), (4, .pointer (some ⟨b7, 0, none⟩)), (101, .string t45)] ?_
       obtain ⟨⟨t97, t101⟩, hg96, h⟩ := of_bind h
       dsimp only at h
       refine RegI.o (OpE.call 102 (by kernel_rfl) 10 #[.string t45] (by kernel_rfl) ((charabancref30_Bytes_10_ok K _ w47  t45 h49.old' hg96).mono ?_))
       rintro _ w93 ⟨A98, c99, rfl, hr102⟩
       refine ⟨_, rfl, ?_⟩
       have hb94 := hr102.below
       have h95 := h49.join hr102
       refine RegI.p 5 [(2, .pointer (some ⟨b2, 0, none⟩)), (4, .pointer (some ⟨b7, 0, none⟩)), (22, .slice A98 t97.length c99), (23, .bool t101)] ?_
       refine RegI.d ?_
       refine RunsI.g 1 [.c 58, .c 59, .blk 0, .c 89] ?_
       refine RunsI.r ?_
       refine RegI.p 1 [(2, .pointer (some ⟨b2, 0, none⟩)), (4, .pointer (some ⟨b7, 0, none⟩)), (22, .slice A98 t97.length c99), (23, .bool t101), (24, .slice none 0 0)] ?_
       refine RegI.d ?_
       refine RunsI.g 1 [.c 60, .c 61, .blk 0, .c 89] ?_
       refine RunsI.r ?_
       refine RegI.p 3 [(2, .pointer (some ⟨b2, 0, none⟩)), (4, .pointer (some ⟨b7, 0, none⟩)), (22, .slice A98 t97.length c99), (23, .bool t101), (105, .slice none 0 0), (107, .pointer (some ⟨b2, 0, none⟩))] ?_
       refine RegI.o (OpE.loadBox 108 0 22 b2 0 (.slice pA0_0_0 p0_0_0.length pc0_0_0) h95 (by kernel_rfl) (by kernel_rfl) rfl (by kernel_rfl) ?_)
       have h103 := h95.addOwnNil (Rp.int .u8) 5
       obtain ⟨hc104, h⟩ := of_cond0 h
       refine RegI.o (OpE.appendRow 109 5 22 5 1 (ys := p0_0_0) h103 (by kernel_rfl) (by kernel_rfl) (by kernel_rfl) rfl (h103.rdSl 1 rfl) hc104 ?_)
       intro w105 A106 c107 h108 hk109
       refine RegI.p 1 [(2, .pointer (some ⟨b2, 0, none⟩)), (4, .pointer (some ⟨b7, 0, none⟩)), (22, .slice A98 t97.length c99), (23, .bool t101), (24, .slice A106 ((([] : List Int) ++ p0_0_0).length) c107)] ?_
       refine RegI.d ?_
       refine RunsI.g 1 [.c 62, .c 63, .blk 0, .c 89] ?_
       refine RunsI.r ?_
       refine RegI.p 2 [(2, .pointer (some ⟨b2, 0, none⟩)), (4, .pointer (some ⟨b7, 0, none⟩)), (23, .bool t101), (110, .slice A106 ((([] : List Int) ++ p0_0_0).length) c107), (111, .slice A98 t97.length c99)] ?_
       obtain ⟨hc110, h⟩ := of_cond0 h
       refine RegI.o (OpE.appendRow 112 5 22 5 1 (ys := t97) h108 (by kernel_rfl) (by kernel_rfl) (by kernel_rfl) rfl (h108.rdOwn 4 rfl) hc110 ?_)
       intro w111 A112 c113 h114 hk115
       refine RegI.p 1 [(2, .pointer (some ⟨b2, 0, none⟩)), (4, .pointer (some ⟨b7, 0, none⟩)), (23, .bool t101), (24, .slice A112 (((([] : List Int) ++ p0_0_0) ++ t97).length) c113)] ?_
       refine RegI.d ?_
       refine RunsI.g 1 [.c 64, .c 65, .blk 0, .c 89] ?_
       refine RunsI.r ?_
       refine RegI.p 3 [(2, .pointer (some ⟨b2, 0, none⟩)), (4, .pointer (some ⟨b7, 0, none⟩)), (23, .bool t101), (113, .slice A112 (((([] : List Int) ++ p0_0_0) ++ t97).length) c113), (115, .pointer (some ⟨b2, 0, none⟩))] ?_
       refine RegI.o (OpE.storeBox 0 22 b2 0 (.slice A112 (((([] : List Int) ++ p0_0_0) ++ t97).length) c113) [.slice A112 (((([] : List Int) ++ p0_0_0) ++ t97).length) c113, .int .i64 p0_0_1, .int .i64 p0_0_2, .slice pA0_0_3 p0_0_3.length pc0_0_3, .int .u16 p0_1] h114 (by kernel_rfl) (by kernel_rfl) rfl (by kernel_rfl) (by kernel_rfl) (by kernel_rfl) ?_)
       intro w116 h117 hk118
       refine RegI.d ?_
       refine RunsI.g 1 [.c 66, .c 67, .blk 0, .c 89] ?_
       refine RunsI.r ?_
       refine RegI.o (OpE.loadBox 116 0 37 b2 0 (.agg #[.slice A112 (((([] : List Int) ++ p0_0_0) ++ t97).length) c113, .int .i64 p0_0_1, .int .i64 p0_0_2, .slice pA0_0_3 p0_0_3.length pc0_0_3, .int .u16 p0_1]) h117 (by kernel_rfl) (by kernel_rfl) rfl (by kernel_rfl) ?_)
       refine RegI.p 1 [(4, .pointer (some ⟨b7, 0, none⟩)), (116, .agg #[.slice A112 (((([] : List Int) ++ p0_0_0) ++ t97).length) c113, .int .i64 p0_0_1, .int .i64 p0_0_2, .slice pA0_0_3 p0_0_3.length pc0_0_3, .int .u16 p0_1]), (117, .bool t101)] ?_
       refine RegI.o (OpE.storeBox 3 37 b7 0 (.agg #[.slice A112 (((([] : List Int) ++ p0_0_0) ++ t97).length) c113, .int .i64 p0_0_1, .int .i64 p0_0_2, .slice pA0_0_3 p0_0_3.length pc0_0_3, .int .u16 p0_1]) [.slice A112 (((([] : List Int) ++ p0_0_0) ++ t97).length) c113, .int .i64 p0_0_1, .int .i64 p0_0_2, .slice pA0_0_3 p0_0_3.length pc0_0_3, .int .u16 p0_1] h117 (by kernel_rfl) (by kernel_rfl) rfl (by kernel_rfl) (by kernel_rfl) (by kernel_rfl) ?_)
       intro w119 h120 hk121
       refine RegI.p 1 [(4, .pointer (some ⟨b7, 0, none⟩)), (5, .bool t101)] ?_
       refine RegI.d ?_
       refine RunsI.toRet (by kernel_rfl) ?_
       refine RetI.valW [.cell 4 37, .tmp 5] [.agg #[.slice A112 (((([] : List Int) ++ p0_0_0) ++ t97).length) c113, .int .i64 p0_0_1, .int .i64 p0_0_2, .slice pA0_0_3 p0_0_3.length pc0_0_3, .int .u16 p0_1], .bool t101] (.tuple #[.agg #[.slice A112 (((([] : List Int) ++ p0_0_0) ++ t97).length) c113, .int .i64 p0_0_1, .int .i64 p0_0_2, .slice pA0_0_3 p0_0_3.length pc0_0_3, .int .u16 p0_1], .bool t101]) (by kernel_rfl) (ResAt.box 3 37 b7 0 h120 (by kernel_rfl) (by kernel_rfl) rfl (by kernel_rfl) (ResAt.tmp (by kernel_rfl) (by kernel_rfl) rfl)) (by kernel_rfl) ?_
       have h182 := h120.release 5 rfl
       obtain rfl := Option.some.inj h
       exact ⟨A112, c113, pA0_0_3, pc0_0_3, rfl, h182.pick [5, 2] (by decide)⟩
      ·skip
       refine RunsI.f 98 false hc92 ?_
       refine RunsI.b false 68 ?_
       refine RunsI.g 1 [.c 69, .c 70, .blk 0, .c 89] ?_
       refine RunsI.r ?_
       refine RegI.p 2 [(2, .pointer (some ⟨b2, 0, none⟩)), (4, .pointer (some ⟨b7, 0, none⟩)), (14, .string t51), (118, .bool t52)] ?_
       refine RegI.d ?_
       rcases of_cond h with ⟨hc122, h⟩ | ⟨hc122, h⟩
       ·skip
        refine RunsI.f 118 true hc122 ?_
        refine RunsI.b true 71 ?_
        refine RunsI.g 2 [.c 73, .c 74, .c 79, .blk 0, .c 89] ?_
        refine RunsI.r ?_
        refine RegI.p 4 [(2, .pointer (some ⟨b2, 0, none⟩)), (4, .pointer (some ⟨b7, 0, none⟩)), (14, .string t51), (123, .bool (decide ((t51.size : Int) < 6)))] ?_
        obtain ⟨j128, hJ129, h⟩ := of_let h
        have hj130 : ∀ (t125 : Bool) (w127 : World), j128 t125 = some r → Holds M0 w0 w127 [box b2 37 [.slice pA0_0_0 p0_0_0.length pc0_0_0, .int .i64 p0_0_1, .int .i64 p0_0_2, .slice pA0_0_3 p0_0_3.length pc0_0_3, .int .u16 p0_1], sl (Rp.int .u8) (.slice pA0_0_0 p0_0_0.length pc0_0_0) p0_0_0, sl (Rp.pair (Rp.int .i64) (Rp.int .u8)) (.slice pA0_0_3 p0_0_3.length pc0_0_3) p0_0_3, box b7 37 [.slice none 0 0, .int .i64 0, .int .i64 0, .slice none 0 0, .int .u16 0]] → RegI F22 73 [.c 74, .c 79, .blk 0, .c 89] 8 [(2, .pointer (some ⟨b2, 0, none⟩)), (4, .pointer (some ⟨b7, 0, none⟩)), (14, .string t51), (127, .bool t125)] w127 (charabancref30_told_22.post M0 w0 r) := by
         intro t125 w127 h h126
         rw [hJ129] at h
         clear hJ129
         dsimp only at h
         refine RegI.d ?_
         rcases of_cond h with ⟨hc131, h⟩ | ⟨hc131, h⟩
         ·skip
          refine RunsI.f 127 true hc131 ?_
          refine RunsI.b true 75 ?_
          refine RunsI.g 1 [.c 76, .c 77, .c 79, .blk 0, .c 89] ?_
          refine RunsI.r ?_
          refine RegI.o (OpE.loadBox 128 0 37 b2 0 (.agg #[.slice pA0_0_0 p0_0_0.length pc0_0_0, .int .i64 p0_0_1, .int .i64 p0_0_2, .slice pA0_0_3 p0_0_3.length pc0_0_3, .int .u16 p0_1]) h126 (by kernel_rfl) (by kernel_rfl) rfl (by kernel_rfl) ?_)
          refine RegI.o (OpE.storeBox 3 37 b7 0 (.agg #[.slice pA0_0_0 p0_0_0.length pc0_0_0, .int .i64 p0_0_1, .int .i64 p0_0_2, .slice pA0_0_3 p0_0_3.length pc0_0_3, .int .u16 p0_1]) [.slice pA0_0_0 p0_0_0.length pc0_0_0, .int .i64 p0_0_1, .int .i64 p0_0_2, .slice pA0_0_3 p0_0_3.length pc0_0_3, .int .u16 p0_1] h126 (by kernel_rfl) (by kernel_rfl) rfl (by kernel_rfl) (by kernel_rfl) (by kernel_rfl) ?_)
          intro w132 h133 hk134
          refine RegI.p 1 [(4, .pointer (some ⟨b7, 0, none⟩)), (5, .bool false)] ?_
          refine RegI.d ?_
          refine RunsI.toRet (by kernel_rfl) ?_
          refine RetI.valW [.cell 4 37, .tmp 5] [.agg #[.slice pA0_0_0 p0_0_0.length pc0_0_0, .int .i64 p0_0_1, .int .i64 p0_0_2, .slice pA0_0_3 p0_0_3.length pc0_0_3, .int .u16 p0_1], .bool false] (.tuple #[.agg #[.slice pA0_0_0 p0_0_0.length pc0_0_0, .int .i64 p0_0_1, .int .i64 p0_0_2, .slice pA0_0_3 p0_0_3.length pc0_0_3, .int .u16 p0_1], .bool false]) (by kernel_rfl) (ResAt.box 3 37 b7 0 h133 (by kernel_rfl) (by kernel_rfl) rfl (by kernel_rfl) (ResAt.tmp (by kernel_rfl) (by kernel_rfl) rfl)) (by kernel_rfl) ?_
          obtain rfl := Option.some.inj h
          exact ⟨pA0_0_0, pc0_0_0, pA0_0_3, pc0_0_3, rfl, h133.pick [1, 2] (by decide)⟩
         ·skip
          refine RunsI.f 127 false hc131 ?_
          refine RunsI.b false 78 ?_
          refine RunsI.g 1 [.c 79, .blk 0, .c 89] ?_
          refine RunsI.g 1 [.c 80, .c 81, .blk 0, .c 89] ?_
          refine RunsI.r ?_
          refine RegI.p 1 [(2, .pointer (some ⟨b2, 0, none⟩)), (4, .pointer (some ⟨b7, 0, none⟩)), (14, .string t51), (130, .string t51)] ?_
          obtain ⟨hc135, h⟩ := of_cond0 h
          refine RegI.o (OpE.run 131 (by kernel_rfl) (run_strCut (T := 9) (s := t51) (lo := none) (hi := (some 5)) (by kernel_rfl) (by kernel_rfl) hc135) ?_)
          obtain ⟨⟨t140, t141⟩, hg139, h⟩ := of_bind h
          dsimp only at h
          refine RegI.o (OpE.call 132 (by kernel_rfl) 25 #[.string (strCut t51 0 5), .int .i64 5] (by kernel_rfl) ((charabancref30_number_25_ok K _ w127  (strCut t51 0 5) 5 h126.old' hg139).mono ?_))
          rintro _ w136 ⟨rfl, hb137⟩
          refine ⟨_, rfl, ?_⟩
          have h138 := h126.call hb137
          refine RegI.p 5 [(2, .pointer (some ⟨b2, 0, none⟩)), (4, .pointer (some ⟨b7, 0, none⟩)), (14, .string t51), (25, .int .i64 t140), (26, .bool t141)] ?_
          refine RegI.d ?_
          refine RunsI.g 1 [.c 82, .c 83, .blk 0, .c 89] ?_
          refine RunsI.r ?_
          refine RegI.p 1 [(2, .pointer (some ⟨b2, 0, none⟩)), (4, .pointer (some ⟨b7, 0, none⟩)), (25, .int .i64 t140), (26, .bool t141), (136, .string t51)] ?_
          obtain ⟨hc142, h⟩ := of_cond0 h
          refine RegI.o (OpE.run 137 (by kernel_rfl) (run_strCut (T := 9) (s := t51) (lo := (some 6)) (hi := none) (by kernel_rfl) (by kernel_rfl) hc142) ?_)
          obtain ⟨⟨t147, t151⟩, hg146, h⟩ := of_bind h
          dsimp only at h
          refine RegI.o (OpE.call 138 (by kernel_rfl) 10 #[.string (strCut t51 6 (t51.size : Int))] (by kernel_rfl) ((charabancref30_Bytes_10_ok K _ w136  (strCut t51 6 (t51.size : Int)) h138.old' hg146).mono ?_))
          rintro _ w143 ⟨A148, c149, rfl, hr152⟩
          refine ⟨_, rfl, ?_⟩
          have hb144 := hr152.below
          have h145 := h138.join hr152
          refine RegI.p 5 [(2, .pointer (some ⟨b2, 0, none⟩)), (4, .pointer (some ⟨b7, 0, none⟩)), (25, .int .i64 t140), (26, .bool t141), (27, .slice A148 t147.length c149), (28, .bool t151)] ?_
          refine RegI.d ?_
          refine RunsI.g 1 [.c 84, .c 85, .blk 0, .c 89] ?_
          refine RunsI.r ?_
          refine RegI.p 1 [(2, .pointer (some ⟨b2, 0, none⟩)), (4, .pointer (some ⟨b7, 0, none⟩)), (25, .int .i64 t140), (26, .bool t141), (27, .slice A148 t147.length c149), (28, .bool t151), (141, .pointer (some ⟨b2, 0, none⟩))] ?_
          refine RegI.o (OpE.loadBox 142 0 35 b2 0 (.agg #[.slice pA0_0_0 p0_0_0.length pc0_0_0, .int .i64 p0_0_1, .int .i64 p0_0_2, .slice pA0_0_3 p0_0_3.length pc0_0_3]) h145 (by kernel_rfl) (by kernel_rfl) rfl (by kernel_rfl) ?_)
          refine RegI.p 2 [(2, .pointer (some ⟨b2, 0, none⟩)), (4, .pointer (some ⟨b7, 0, none⟩)), (26, .bool t141), (28, .bool t151), (142, .agg #[.slice pA0_0_0 p0_0_0.length pc0_0_0, .int .i64 p0_0_1, .int .i64 p0_0_2, .slice pA0_0_3 p0_0_3.length pc0_0_3]), (143, .int .i64 t140), (144, .slice A148 t147.length c149)] ?_
          obtain ⟨⟨t158, t162, t163, t164⟩, hg157, h⟩ := of_bind h
          dsimp only at h
          have h153 := h145.release 4 rfl
          refine RegI.o (OpE.call 145 (by kernel_rfl) 47 #[.agg #[.slice pA0_0_0 p0_0_0.length pc0_0_0, .int .i64 p0_0_1, .int .i64 p0_0_2, .slice pA0_0_3 p0_0_3.length pc0_0_3], .int .i64 t140, .slice A148 t147.length c149] (by kernel_rfl) ((charabancref19_Load_47_ok K _ w143  pA0_0_0 pc0_0_0 pA0_0_3 pc0_0_3 A148 c149 p0_0_0 p0_0_1 p0_0_2 p0_0_3 t140 t147 h153.old' (h153.get 1 rfl) (h153.get 2 rfl) (h153.get 4 rfl) hg157).mono ?_))
          rintro _ w154 ⟨A159, c160, A165, c166, rfl, hr168⟩
          refine ⟨_, rfl, ?_⟩
          have hb155 := hr168.below
          have h156 := h153.join hr168
          refine RegI.p 1 [(2, .pointer (some ⟨b2, 0, none⟩)), (4, .pointer (some ⟨b7, 0, none⟩)), (26, .bool t141), (28, .bool t151), (145, .agg #[.slice A159 t158.length c160, .int .i64 t162, .int .i64 t163, .slice A165 t164.length c166]), (146, .pointer (some ⟨b2, 0, none⟩))] ?_
          refine RegI.o (OpE.storeBox 0 35 b2 0 (.agg #[.slice A159 t158.length c160, .int .i64 t162, .int .i64 t163, .slice A165 t164.length c166]) [.slice A159 t158.length c160, .int .i64 t162, .int .i64 t163, .slice A165 t164.length c166, .int .u16 p0_1] h156 (by kernel_rfl) (by kernel_rfl) rfl (by kernel_rfl) (by kernel_rfl) (by kernel_rfl) ?_)
          intro w169 h170 hk171
          refine RegI.d ?_
          refine RunsI.g 1 [.c 86, .c 87, .blk 0, .c 89] ?_
          refine RunsI.r ?_
          refine RegI.o (OpE.loadBox 147 0 37 b2 0 (.agg #[.slice A159 t158.length c160, .int .i64 t162, .int .i64 t163, .slice A165 t164.length c166, .int .u16 p0_1]) h170 (by kernel_rfl) (by kernel_rfl) rfl (by kernel_rfl) ?_)
          refine RegI.p 2 [(4, .pointer (some ⟨b7, 0, none⟩)), (28, .bool t151), (147, .agg #[.slice A159 t158.length c160, .int .i64 t162, .int .i64 t163, .slice A165 t164.length c166, .int .u16 p0_1]), (149, .bool t141)] ?_
          rcases of_cond h with ⟨hc172, h⟩ | ⟨hc172, h⟩
          ·skip
           refine RegI.f 149 true hc172 ?_
           refine RegI.p 2 [(4, .pointer (some ⟨b7, 0, none⟩)), (147, .agg #[.slice A159 t158.length c160, .int .i64 t162, .int .i64 t163, .slice A165 t164.length c166, .int .u16 p0_1]), (151, .bool t151)] ?_
           refine RegI.o (OpE.storeBox 3 37 b7 0 (.agg #[.slice A159 t158.length c160, .int .i64 t162, .int .i64 t163, .slice A165 t164.length c166, .int .u16 p0_1]) [.slice A159 t158.length c160, .int .i64 t162, .int .i64 t163, .slice A165 t164.length c166, .int .u16 p0_1] h170 (by kernel_rfl) (by kernel_rfl) rfl (by kernel_rfl) (by kernel_rfl) (by kernel_rfl) ?_)
           intro w173 h174 hk175
           refine RegI.p 1 [(4, .pointer (some ⟨b7, 0, none⟩)), (5, .bool t151)] ?_
           refine RegI.d ?_
           refine RunsI.toRet (by kernel_rfl) ?_
           refine RetI.valW [.cell 4 37, .tmp 5] [.agg #[.slice A159 t158.length c160, .int .i64 t162, .int .i64 t163, .slice A165 t164.length c166, .int .u16 p0_1], .bool t151] (.tuple #[.agg #[.slice A159 t158.length c160, .int .i64 t162, .int .i64 t163, .slice A165 t164.length c166, .int .u16 p0_1], .bool t151]) (by kernel_rfl) (ResAt.box 3 37 b7 0 h174 (by kernel_rfl) (by kernel_rfl) rfl (by kernel_rfl) (ResAt.tmp (by kernel_rfl) (by kernel_rfl) rfl)) (by kernel_rfl) ?_
           obtain rfl := Option.some.inj h
           exact ⟨A159, c160, A165, c166, rfl, h174.pick [5, 6] (by decide)⟩
          ·skip
           refine RegI.f 149 false hc172 ?_
           refine RegI.p 2 [(4, .pointer (some ⟨b7, 0, none⟩)), (147, .agg #[.slice A159 t158.length c160, .int .i64 t162, .int .i64 t163, .slice A165 t164.length c166, .int .u16 p0_1]), (151, .bool false)] ?_
           refine RegI.o (OpE.storeBox 3 37 b7 0 (.agg #[.slice A159 t158.length c160, .int .i64 t162, .int .i64 t163, .slice A165 t164.length c166, .int .u16 p0_1]) [.slice A159 t158.length c160, .int .i64 t162, .int .i64 t163, .slice A165 t164.length c166, .int .u16 p0_1] h170 (by kernel_rfl) (by kernel_rfl) rfl (by kernel_rfl) (by kernel_rfl) (by kernel_rfl) ?_)
           intro w176 h177 hk178
           refine RegI.p 1 [(4, .pointer (some ⟨b7, 0, none⟩)), (5, .bool false)] ?_
           refine RegI.d ?_
           refine RunsI.toRet (by kernel_rfl) ?_
           refine RetI.valW [.cell 4 37, .tmp 5] [.agg #[.slice A159 t158.length c160, .int .i64 t162, .int .i64 t163, .slice A165 t164.length c166, .int .u16 p0_1], .bool false] (.tuple #[.agg #[.slice A159 t158.length c160, .int .i64 t162, .int .i64 t163, .slice A165 t164.length c166, .int .u16 p0_1], .bool false]) (by kernel_rfl) (ResAt.box 3 37 b7 0 h177 (by kernel_rfl) (by kernel_rfl) rfl (by kernel_rfl) (ResAt.tmp (by kernel_rfl) (by kernel_rfl) rfl)) (by kernel_rfl) ?_
           obtain rfl := Option.some.inj h
           exact ⟨A159, c160, A165, c166, rfl, h177.pick [5, 6] (by decide)⟩
        clear hJ129
        rcases of_cond h with ⟨hc123, h⟩ | ⟨hc123, h⟩
        ·skip
         refine RegI.f 123 true hc123 ?_
         refine RegI.p 4 [(2, .pointer (some ⟨b2, 0, none⟩)), (4, .pointer (some ⟨b7, 0, none⟩)), (14, .string t51), (127, .bool true)] ?_
         refine RegI.l [2, 4, 14, 127] [(2, .pointer (some ⟨b2, 0, none⟩)), (4, .pointer (some ⟨b7, 0, none⟩)), (14, .string t51), (127, .bool true)] ?_
         exact hj130 true w47 h (h49.pick [0, 1, 2, 3] (by decide))
        ·skip
         refine RegI.f 123 false hc123 ?_
         refine RegI.p 1 [(2, .pointer (some ⟨b2, 0, none⟩)), (4, .pointer (some ⟨b7, 0, none⟩)), (14, .string t51), (123, .bool false), (124, .string t51)] ?_
         obtain ⟨hc124, h⟩ := of_cond0 h
         refine RegI.o (OpE.run 125 (by kernel_rfl) (run_strIdx (T0 := 9) (s := t51) (j := 5) (by kernel_rfl) (by kernel_rfl) hc124) ?_)
         refine RegI.p 2 [(2, .pointer (some ⟨b2, 0, none⟩)), (4, .pointer (some ⟨b7, 0, none⟩)), (14, .string t51), (127, .bool ((btD t51 5) != 32))] ?_
         refine RegI.l [2, 4, 14, 127] [(2, .pointer (some ⟨b2, 0, none⟩)), (4, .pointer (some ⟨b7, 0, none⟩)), (14, .string t51), (127, .bool ((btD t51 5) != 32))] ?_
         exact hj130 ((btD t51 5) != 32) w47 h (h49.pick [0, 1, 2, 3] (by decide))
       ·skip
        refine RunsI.f 118 false hc122 ?_
        refine RunsI.b false 88 ?_
        refine RunsI.g 1 [.blk 0, .c 89] ?_
        refine RunsI.g 2 [.c 90, .c 91] ?_
        refine RunsI.r ?_
        refine RegI.o (OpE.loadBox 152 0 37 b2 0 (.agg #[.slice pA0_0_0 p0_0_0.length pc0_0_0, .int .i64 p0_0_1, .int .i64 p0_0_2, .slice pA0_0_3 p0_0_3.length pc0_0_3, .int .u16 p0_1]) h49 (by kernel_rfl) (by kernel_rfl) rfl (by kernel_rfl) ?_)
        refine RegI.o (OpE.storeBox 3 37 b7 0 (.agg #[.slice pA0_0_0 p0_0_0.length pc0_0_0, .int .i64 p0_0_1, .int .i64 p0_0_2, .slice pA0_0_3 p0_0_3.length pc0_0_3, .int .u16 p0_1]) [.slice pA0_0_0 p0_0_0.length pc0_0_0, .int .i64 p0_0_1, .int .i64 p0_0_2, .slice pA0_0_3 p0_0_3.length pc0_0_3, .int .u16 p0_1] h49 (by kernel_rfl) (by kernel_rfl) rfl (by kernel_rfl) (by kernel_rfl) (by kernel_rfl) ?_)
        intro w179 h180 hk181
        refine RegI.p 1 [(4, .pointer (some ⟨b7, 0, none⟩)), (5, .bool false)] ?_
        refine RegI.d ?_
        refine RunsI.toRet (by kernel_rfl) ?_
        refine RetI.valW [.cell 4 37, .tmp 5] [.agg #[.slice pA0_0_0 p0_0_0.length pc0_0_0, .int .i64 p0_0_1, .int .i64 p0_0_2, .slice pA0_0_3 p0_0_3.length pc0_0_3, .int .u16 p0_1], .bool false] (.tuple #[.agg #[.slice pA0_0_0 p0_0_0.length pc0_0_0, .int .i64 p0_0_1, .int .i64 p0_0_2, .slice pA0_0_3 p0_0_3.length pc0_0_3, .int .u16 p0_1], .bool false]) (by kernel_rfl) (ResAt.box 3 37 b7 0 h180 (by kernel_rfl) (by kernel_rfl) rfl (by kernel_rfl) (ResAt.tmp (by kernel_rfl) (by kernel_rfl) rfl)) (by kernel_rfl) ?_
        obtain rfl := Option.some.inj h
        exact ⟨pA0_0_0, pc0_0_0, pA0_0_3, pc0_0_3, rfl, h180.pick [1, 2] (by decide)⟩
 clear hJ17
 rcases of_cond h with ⟨hc11, h⟩ | ⟨hc11, h⟩
 ·skip
  refine RegI.f 31 true hc11 ?_
  refine RegI.p 4 [(1, .string p1), (2, .pointer (some ⟨b2, 0, none⟩)), (4, .pointer (some ⟨b7, 0, none⟩)), (35, .bool true)] ?_
  refine RegI.l [1, 2, 4, 35] [(1, .string p1), (2, .pointer (some ⟨b2, 0, none⟩)), (4, .pointer (some ⟨b7, 0, none⟩)), (35, .bool true)] ?_
  exact hj18 true w6 h (h8.pick [2, 0, 1, 3] (by decide))
 ·skip
  refine RegI.f 31 false hc11 ?_
  refine RegI.p 1 [(1, .string p1), (2, .pointer (some ⟨b2, 0, none⟩)), (4, .pointer (some ⟨b7, 0, none⟩)), (31, .bool false), (32, .string p1)] ?_
  obtain ⟨hc12, h⟩ := of_cond0 h
  refine RegI.o (OpE.run 33 (by kernel_rfl) (run_strIdx (T0 := 9) (s := p1) (j := 0) (by kernel_rfl) (by kernel_rfl) hc12) ?_)
  refine RegI.p 2 [(1, .string p1), (2, .pointer (some ⟨b2, 0, none⟩)), (4, .pointer (some ⟨b7, 0, none⟩)), (35, .bool ((btD p1 0) == 59))] ?_
  refine RegI.l [1, 2, 4, 35] [(1, .string p1), (2, .pointer (some ⟨b2, 0, none⟩)), (4, .pointer (some ⟨b7, 0, none⟩)), (35, .bool ((btD p1 0) == 59))] ?_
  exact hj18 ((btD p1 0) == 59) w6 h (h8.pick [2, 0, 1, 3] (by decide))
end

/-! ### charabanc/charabancref30.Read (function 8) -/
section
def charabancref30_Read_8.post (M0 : Nat → Prop) (w0 : World) (r : (List Int) × Int × Int × (List (Int × Int)) × Int × Int × Int) : Ending → World → Prop := fun e w => ∃ (A1 : Option Addr) (c1 : Nat) (A4 : Option Addr) (c4 : Nat), e = .returned (.tuple #[.agg #[.slice A1 r.1.length c1, .int .i64 r.2.1, .int .i64 r.2.2.1, .slice A4 r.2.2.2.1.length c4, .int .u16 r.2.2.2.2.1], .int .i64 r.2.2.2.2.2.1, .int .i64 r.2.2.2.2.2.2]) ∧ Holds M0 w0 w [sl (Rp.int .u8) (.slice A1 r.1.length c1) r.1, sl (Rp.pair (Rp.int .i64) (Rp.int .u8)) (.slice A4 r.2.2.2.1.length c4) r.2.2.2.1]
def charabancref30_Read_8.l0 (K : Nat) (p0 : ByteArray) : Nat → (List Int) → Int → Int → (List (Int × Int)) → Int → ByteArray → Int → Int → Option (Lp Int ((List Int) × Int × Int × (List (Int × Int)) × Int))
 | 0, _, _, _, _, _, _, _, _ => none
 | k + 1, t24, t25, t26, t29, t30, t31, t32, t33 => cond (decide (t33 ≤ (p0.size : Int))) (Let (fun (t37 : Bool) => cond t37 (cond (cutR (IntKind.wrap .i64 (t33 - (t31.size : Int))) (IntKind.wrap .i64 (t33 + 1)) p0.size) (charabancref30_Read_8.l0 K p0 k t24 t25 t26 t29 t30 (strCut p0 (IntKind.wrap .i64 (t33 - (t31.size : Int))) (IntKind.wrap .i64 (t33 + 1))) t32 (IntKind.wrap .i64 (t33 + 1))) none) ((charabancref30_told_22.f K t24 t25 t26 t29 t30 t31).bind fun yt49 => cond (!yt49.2.2.2.2.2) (some (Lp.ret t32)) (charabancref30_Read_8.l0 K p0 k yt49.1 yt49.2.1 yt49.2.2.1 yt49.2.2.2.1 yt49.2.2.2.2.1 (⟨#[]⟩ : ByteArray) (IntKind.wrap .i64 (t32 + 1)) (IntKind.wrap .i64 (t33 + 1))))) (fun j40 => cond (decide (t33 < (p0.size : Int))) (cond (inR t33 p0.size) (j40 ((btD p0 t33) != 10)) none) (j40 false))) (some (Lp.go (t24, t25, t26, t29, t30)))
set_option maxRecDepth 100000 in
theorem charabancref30_Read_8.l0_ok (K : Nat) (M0 : Nat → Prop) (w0 : World) (p0 : ByteArray) (b20 : Nat) (b21 : Nat) (R : Ending → World → Prop) (x : Lp Int ((List Int) × Int × Int × (List (Int × Int)) × Int)) (hk0 : ∀ (t79 : List Int) (t80 : Int) (t81 : Int) (t84 : List (Int × Int)) (t85 : Int) (A77 : Option Addr) (c78 : Nat) (A82 : Option Addr) (c83 : Nat) (w1 : World), x = Lp.go (t79, t80, t81, t84, t85) → Holds M0 w0 w1 [box b20 37 [.slice none 0 0, .int .i64 0, .int .i64 0, .slice none 0 0, .int .u16 0], box b21 37 [.slice A77 t79.length c78, .int .i64 t80, .int .i64 t81, .slice A82 t84.length c83, .int .u16 t85], sl (Rp.int .u8) (.slice A77 t79.length c78) t79, sl (Rp.pair (Rp.int .i64) (Rp.int .u8)) (.slice A82 t84.length c83) t84] → RunsI F8 [.c 53] [(2, .pointer (some ⟨b20, 0, none⟩)), (5, .pointer (some ⟨b21, 0, none⟩))] w1 R) (hk1 : ∀ (t86 : Int) (w1 : World), x = Lp.ret t86 → Holds M0 w0 w1 [] → R (.returned (.tuple #[.agg #[.slice none 0 0, .int .i64 0, .int .i64 0, .slice none 0 0, .int .u16 0], .int .i64 300, .int .i64 t86])) w1) :
  ∀ (k : Nat) (t24 : List Int) (t25 : Int) (t26 : Int) (t29 : List (Int × Int)) (t30 : Int) (t31 : ByteArray) (t32 : Int) (t33 : Int) (A22 : Option Addr) (c23 : Nat) (A27 : Option Addr) (c28 : Nat) (w : World), charabancref30_Read_8.l0 K p0 k t24 t25 t26 t29 t30 t31 t32 t33 = some x → Holds M0 w0 w [box b20 37 [.slice none 0 0, .int .i64 0, .int .i64 0, .slice none 0 0, .int .u16 0], box b21 37 [.slice A22 t24.length c23, .int .i64 t25, .int .i64 t26, .slice A27 t29.length c28, .int .u16 t30], sl (Rp.int .u8) (.slice A22 t24.length c23) t24, sl (Rp.pair (Rp.int .i64) (Rp.int .u8)) (.slice A27 t29.length c28) t29] → RunsI F8 [.c 21, .lp 21, .blk 0, .c 53] [(0, .string p0), (2, .pointer (some ⟨b20, 0, none⟩)), (5, .pointer (some ⟨b21, 0, none⟩)), (6, .string t31), (7, .int .i64 t32), (8, .int .i64 t33)] w R := by
 intro k
 induction k with
 | zero => intro t24 t25 t26 t29 t30 t31 t32 t33 A22 c23 A27 c28 w h hH; exact absurd h (by simp [charabancref30_Read_8.l0])
 | succ k ih =>
  intro t24 t25 t26 t29 t30 t31 t32 t33 A22 c23 A27 c28 w h hH
  rw [charabancref30_Read_8.l0.eq_2] at h
  refine RunsI.g 1 [.c 22, .c 27, .lp 21, .blk 0, .c 53] ?_
  refine RunsI.g 1 [.c 23, .c 24, .c 27, .lp 21, .blk 0, .c 53] ?_
  refine RunsI.r ?_
  refine RegI.p 4 [(0, .string p0), (2, .pointer (some ⟨b20, 0, none⟩)), (5, .pointer (some ⟨b21, 0, none⟩)), (6, .string t31), (7, .int .i64 t32), (8, .int .i64 t33), (21, .bool (decide (t33 ≤ (p0.size : Int))))] ?_
  refine RegI.d ?_
  rcases of_cond h with ⟨hc34, h⟩ | ⟨hc34, h⟩
  ·skip
   refine RunsI.f 21 true hc34 ?_
   refine RunsI.b true 25 ?_
   refine RunsI.g 1 [.c 27, .lp 21, .blk 0, .c 53] ?_
   refine RunsI.g 4 [.c 31, .c 32, .c 37, .blk 1, .c 52, .lp 21, .blk 0, .c 53] ?_
   refine RunsI.r ?_
   refine RegI.p 5 [(0, .string p0), (2, .pointer (some ⟨b20, 0, none⟩)), (5, .pointer (some ⟨b21, 0, none⟩)), (6, .string t31), (7, .int .i64 t32), (8, .int .i64 t33), (28, .bool (decide (t33 < (p0.size : Int))))] ?_
   obtain ⟨j40, hJ41, h⟩ := of_let h
   have hj42 : ∀ (t37 : Bool) (w39 : World), j40 t37 = some x → Holds M0 w0 w39 [box b20 37 [.slice none 0 0, .int .i64 0, .int .i64 0, .slice none 0 0, .int .u16 0], box b21 37 [.slice A22 t24.length c23, .int .i64 t25, .int .i64 t26, .slice A27 t29.length c28, .int .u16 t30], sl (Rp.int .u8) (.slice A22 t24.length c23) t24, sl (Rp.pair (Rp.int .i64) (Rp.int .u8)) (.slice A27 t29.length c28) t29] → RegI F8 31 [.c 32, .c 37, .blk 1, .c 52, .lp 21, .blk 0, .c 53] 10 [(0, .string p0), (2, .pointer (some ⟨b20, 0, none⟩)), (5, .pointer (some ⟨b21, 0, none⟩)), (6, .string t31), (7, .int .i64 t32), (8, .int .i64 t33), (33, .bool t37)] w39 R := by
    intro t37 w39 h h38
    rw [hJ41] at h
    clear hJ41
    dsimp only at h
    refine RegI.d ?_
    rcases of_cond h with ⟨hc43, h⟩ | ⟨hc43, h⟩
    ·skip
     refine RunsI.f 33 true hc43 ?_
     refine RunsI.b true 33 ?_
     refine RunsI.g 1 [.c 34, .c 35, .c 37, .blk 1, .c 52, .lp 21, .blk 0, .c 53] ?_
     refine RunsI.r ?_
     refine RegI.p 7 [(0, .string p0), (2, .pointer (some ⟨b20, 0, none⟩)), (5, .pointer (some ⟨b21, 0, none⟩)), (7, .int .i64 t32), (8, .int .i64 t33), (34, .string p0), (38, .int .i64 (IntKind.wrap .i64 (t33 - (t31.size : Int)))), (40, .int .i64 (IntKind.wrap .i64 (t33 + 1)))] ?_
     obtain ⟨hc44, h⟩ := of_cond0 h
     refine RegI.o (OpE.run 41 (by kernel_rfl) (run_strCut (T := 9) (s := p0) (lo := (some (IntKind.wrap .i64 (t33 - (t31.size : Int))))) (hi := (some (IntKind.wrap .i64 (t33 + 1)))) (by kernel_rfl) (by kernel_rfl) hc44) ?_)
     refine RegI.p 1 [(0, .string p0), (2, .pointer (some ⟨b20, 0, none⟩)), (5, .pointer (some ⟨b21, 0, none⟩)), (6, .string (strCut p0 (IntKind.wrap .i64 (t33 - (t31.size : Int))) (IntKind.wrap .i64 (t33 + 1)))), (7, .int .i64 t32), (8, .int .i64 t33)] ?_
     refine RegI.d ?_
     refine RunsI.g 1 [.c 52, .lp 21, .blk 0, .c 53] ?_
     refine RunsI.r ?_
     refine RegI.p 3 [(0, .string p0), (2, .pointer (some ⟨b20, 0, none⟩)), (5, .pointer (some ⟨b21, 0, none⟩)), (6, .string (strCut p0 (IntKind.wrap .i64 (t33 - (t31.size : Int))) (IntKind.wrap .i64 (t33 + 1)))), (7, .int .i64 t32), (8, .int .i64 (IntKind.wrap .i64 (t33 + 1)))] ?_
     refine RegI.d ?_
     refine RunsI.g 1 [.c 21, .lp 21, .blk 0, .c 53] ?_
     refine RunsI.l [0, 2, 5, 6, 7, 8] [(0, .string p0), (2, .pointer (some ⟨b20, 0, none⟩)), (5, .pointer (some ⟨b21, 0, none⟩)), (6, .string (strCut p0 (IntKind.wrap .i64 (t33 - (t31.size : Int))) (IntKind.wrap .i64 (t33 + 1)))), (7, .int .i64 t32), (8, .int .i64 (IntKind.wrap .i64 (t33 + 1)))] ?_
     exact ih t24 t25 t26 t29 t30 (strCut p0 (IntKind.wrap .i64 (t33 - (t31.size : Int))) (IntKind.wrap .i64 (t33 + 1))) t32 (IntKind.wrap .i64 (t33 + 1)) A22 c23 A27 c28 w39 h (h38.pick [0, 1, 2, 3] (by decide))
    ·skip
     refine RunsI.f 33 false hc43 ?_
     refine RunsI.b false 36 ?_
     refine RunsI.g 1 [.c 37, .blk 1, .c 52, .lp 21, .blk 0, .c 53] ?_
     refine RunsI.g 1 [.c 38, .c 39, .blk 1, .c 52, .lp 21, .blk 0, .c 53] ?_
     refine RunsI.r ?_
     refine RegI.o (OpE.loadBox 43 1 37 b21 0 (.agg #[.slice A22 t24.length c23, .int .i64 t25, .int .i64 t26, .slice A27 t29.length c28, .int .u16 t30]) h38 (by kernel_rfl) (by kernel_rfl) rfl (by kernel_rfl) ?_)
     refine RegI.p 1 [(0, .string p0), (2, .pointer (some ⟨b20, 0, none⟩)), (5, .pointer (some ⟨b21, 0, none⟩)), (7, .int .i64 t32), (8, .int .i64 t33), (43, .agg #[.slice A22 t24.length c23, .int .i64 t25, .int .i64 t26, .slice A27 t29.length c28, .int .u16 t30]), (44, .string t31)] ?_
     obtain ⟨⟨t49, t53, t54, t55, t59, t60⟩, hg48, h⟩ := of_bind h
     dsimp only at h
     refine RegI.o (OpE.call 45 (by kernel_rfl) 22 #[.agg #[.slice A22 t24.length c23, .int .i64 t25, .int .i64 t26, .slice A27 t29.length c28, .int .u16 t30], .string t31] (by kernel_rfl) ((charabancref30_told_22_ok K _ w39  A22 c23 A27 c28 t24 t25 t26 t29 t30 t31 h38.old' (h38.get 2 rfl) (h38.get 3 rfl) hg48).mono ?_))
     rintro _ w45 ⟨A50, c51, A56, c57, rfl, hr61⟩
     refine ⟨_, rfl, ?_⟩
     have hb46 := hr61.below
     have h47 := h38.join hr61
     refine RegI.p 3 [(0, .string p0), (2, .pointer (some ⟨b20, 0, none⟩)), (5, .pointer (some ⟨b21, 0, none⟩)), (7, .int .i64 t32), (8, .int .i64 t33), (46, .agg #[.slice A50 t49.length c51, .int .i64 t53, .int .i64 t54, .slice A56 t55.length c57, .int .u16 t59]), (47, .bool t60)] ?_
     refine RegI.o (OpE.box 9 37 [.slice none 0 0, .int .i64 0, .int .i64 0, .slice none 0 0, .int .u16 0] h47 (by kernel_rfl) (by kernel_rfl) ?_)
     intro w62 b63 h64 hb65 hn66
     refine RegI.o (OpE.storeBox 6 37 b63 0 (.agg #[.slice A50 t49.length c51, .int .i64 t53, .int .i64 t54, .slice A56 t55.length c57, .int .u16 t59]) [.slice A50 t49.length c51, .int .i64 t53, .int .i64 t54, .slice A56 t55.length c57, .int .u16 t59] h64 (by kernel_rfl) (by kernel_rfl) rfl (by kernel_rfl) (by kernel_rfl) (by kernel_rfl) ?_)
     intro w67 h68 hk69
     refine RegI.p 1 [(0, .string p0), (2, .pointer (some ⟨b20, 0, none⟩)), (5, .pointer (some ⟨b21, 0, none⟩)), (7, .int .i64 t32), (8, .int .i64 t33), (9, .pointer (some ⟨b63, 0, none⟩)), (10, .bool t60)] ?_
     refine RegI.d ?_
     refine RunsI.g 2 [.c 41, .c 42, .c 47, .blk 1, .c 52, .lp 21, .blk 0, .c 53] ?_
     refine RunsI.r ?_
     refine RegI.p 2 [(0, .string p0), (2, .pointer (some ⟨b20, 0, none⟩)), (5, .pointer (some ⟨b21, 0, none⟩)), (7, .int .i64 t32), (8, .int .i64 t33), (9, .pointer (some ⟨b63, 0, none⟩)), (49, .bool (!t60))] ?_
     refine RegI.d ?_
     rcases of_cond h with ⟨hc70, h⟩ | ⟨hc70, h⟩
     ·skip
      refine RunsI.f 49 true hc70 ?_
      refine RunsI.b true 43 ?_
      refine RunsI.g 1 [.c 44, .c 45, .c 47, .blk 1, .c 52, .lp 21, .blk 0, .c 53] ?_
      refine RunsI.r ?_
      refine RegI.p 2 [(2, .pointer (some ⟨b20, 0, none⟩)), (50, .agg #[.slice none 0 0, .int .i64 0, .int .i64 0, .slice none 0 0, .int .u16 0]), (51, .int .i64 t32)] ?_
      refine RegI.o (OpE.storeBox 0 37 b20 0 (.agg #[.slice none 0 0, .int .i64 0, .int .i64 0, .slice none 0 0, .int .u16 0]) [.slice none 0 0, .int .i64 0, .int .i64 0, .slice none 0 0, .int .u16 0] h68 (by kernel_rfl) (by kernel_rfl) rfl (by kernel_rfl) (by kernel_rfl) (by kernel_rfl) ?_)
      intro w71 h72 hk73
      refine RegI.p 2 [(2, .pointer (some ⟨b20, 0, none⟩)), (3, .int .i64 300), (4, .int .i64 t32)] ?_
      refine RegI.d ?_
      refine RunsI.toRet (by kernel_rfl) ?_
      refine RetI.valW [.cell 2 37, .tmp 3, .tmp 4] [.agg #[.slice none 0 0, .int .i64 0, .int .i64 0, .slice none 0 0, .int .u16 0], .int .i64 300, .int .i64 t32] (.tuple #[.agg #[.slice none 0 0, .int .i64 0, .int .i64 0, .slice none 0 0, .int .u16 0], .int .i64 300, .int .i64 t32]) (by kernel_rfl) (ResAt.box 0 37 b20 0 h72 (by kernel_rfl) (by kernel_rfl) rfl (by kernel_rfl) (ResAt.tmp (by kernel_rfl) (by kernel_rfl) (ResAt.tmp (by kernel_rfl) (by kernel_rfl) rfl))) (by kernel_rfl) ?_
      exact hk1 t32 w71 (Option.some.inj h).symm (h72.pick [] (by decide))
     ·skip
      refine RunsI.f 49 false hc70 ?_
      refine RunsI.b false 46 ?_
      refine RunsI.g 1 [.c 47, .blk 1, .c 52, .lp 21, .blk 0, .c 53] ?_
      refine RunsI.g 1 [.c 48, .c 49, .blk 1, .c 52, .lp 21, .blk 0, .c 53] ?_
      refine RunsI.r ?_
      refine RegI.o (OpE.loadBox 52 6 37 b63 0 (.agg #[.slice A50 t49.length c51, .int .i64 t53, .int .i64 t54, .slice A56 t55.length c57, .int .u16 t59]) h68 (by kernel_rfl) (by kernel_rfl) rfl (by kernel_rfl) ?_)
      refine RegI.o (OpE.storeBox 1 37 b21 0 (.agg #[.slice A50 t49.length c51, .int .i64 t53, .int .i64 t54, .slice A56 t55.length c57, .int .u16 t59]) [.slice A50 t49.length c51, .int .i64 t53, .int .i64 t54, .slice A56 t55.length c57, .int .u16 t59] h68 (by kernel_rfl) (by kernel_rfl) rfl (by kernel_rfl) (by kernel_rfl) (by kernel_rfl) ?_)
      intro w74 h75 hk76
      refine RegI.d ?_
      refine RunsI.g 1 [.c 50, .c 51, .blk 1, .c 52, .lp 21, .blk 0, .c 53] ?_
      refine RunsI.r ?_
      refine RegI.p 1 [(0, .string p0), (2, .pointer (some ⟨b20, 0, none⟩)), (5, .pointer (some ⟨b21, 0, none⟩)), (6, .string (⟨#[]⟩ : ByteArray)), (7, .int .i64 t32), (8, .int .i64 t33)] ?_
      refine RegI.d ?_
      refine RunsI.r ?_
      refine RegI.p 3 [(0, .string p0), (2, .pointer (some ⟨b20, 0, none⟩)), (5, .pointer (some ⟨b21, 0, none⟩)), (6, .string (⟨#[]⟩ : ByteArray)), (7, .int .i64 (IntKind.wrap .i64 (t32 + 1))), (8, .int .i64 t33)] ?_
      refine RegI.d ?_
      refine RunsI.g 1 [.c 52, .lp 21, .blk 0, .c 53] ?_
      refine RunsI.r ?_
      refine RegI.p 3 [(0, .string p0), (2, .pointer (some ⟨b20, 0, none⟩)), (5, .pointer (some ⟨b21, 0, none⟩)), (6, .string (⟨#[]⟩ : ByteArray)), (7, .int .i64 (IntKind.wrap .i64 (t32 + 1))), (8, .int .i64 (IntKind.wrap .i64 (t33 + 1)))] ?_
      refine RegI.d ?_
      refine RunsI.g 1 [.c 21, .lp 21, .blk 0, .c 53] ?_
      refine RunsI.l [0, 2, 5, 6, 7, 8] [(0, .string p0), (2, .pointer (some ⟨b20, 0, none⟩)), (5, .pointer (some ⟨b21, 0, none⟩)), (6, .string (⟨#[]⟩ : ByteArray)), (7, .int .i64 (IntKind.wrap .i64 (t32 + 1))), (8, .int .i64 (IntKind.wrap .i64 (t33 + 1)))] ?_
      exact ih t49 t53 t54 t55 t59 (⟨#[]⟩ : ByteArray) (IntKind.wrap .i64 (t32 + 1)) (IntKind.wrap .i64 (t33 + 1)) A50 c51 A56 c57 w74 h (h75.pick [0, 1, 4, 5] (by decide))
   clear hJ41
   rcases of_cond h with ⟨hc35, h⟩ | ⟨hc35, h⟩
   ·skip
    refine RegI.f 28 true hc35 ?_
    refine RegI.p 2 [(0, .string p0), (2, .pointer (some ⟨b20, 0, none⟩)), (5, .pointer (some ⟨b21, 0, none⟩)), (6, .string t31), (7, .int .i64 t32), (8, .int .i64 t33), (28, .bool true), (29, .string p0), (30, .int .i64 t33)] ?_
    obtain ⟨hc36, h⟩ := of_cond0 h
    refine RegI.o (OpE.run 31 (by kernel_rfl) (run_strIdx (T0 := 9) (s := p0) (j := t33) (by kernel_rfl) (by kernel_rfl) hc36) ?_)
    refine RegI.p 2 [(0, .string p0), (2, .pointer (some ⟨b20, 0, none⟩)), (5, .pointer (some ⟨b21, 0, none⟩)), (6, .string t31), (7, .int .i64 t32), (8, .int .i64 t33), (33, .bool ((btD p0 t33) != 10))] ?_
    refine RegI.l [0, 2, 5, 6, 7, 8, 33] [(0, .string p0), (2, .pointer (some ⟨b20, 0, none⟩)), (5, .pointer (some ⟨b21, 0, none⟩)), (6, .string t31), (7, .int .i64 t32), (8, .int .i64 t33), (33, .bool ((btD p0 t33) != 10))] ?_
    exact hj42 ((btD p0 t33) != 10) w h (hH.pick [0, 1, 2, 3] (by decide))
   ·skip
    refine RegI.f 28 false hc35 ?_
    refine RegI.p 5 [(0, .string p0), (2, .pointer (some ⟨b20, 0, none⟩)), (5, .pointer (some ⟨b21, 0, none⟩)), (6, .string t31), (7, .int .i64 t32), (8, .int .i64 t33), (33, .bool false)] ?_
    refine RegI.l [0, 2, 5, 6, 7, 8, 33] [(0, .string p0), (2, .pointer (some ⟨b20, 0, none⟩)), (5, .pointer (some ⟨b21, 0, none⟩)), (6, .string t31), (7, .int .i64 t32), (8, .int .i64 t33), (33, .bool false)] ?_
    exact hj42 false w h (hH.pick [0, 1, 2, 3] (by decide))
  ·skip
   refine RunsI.f 21 false hc34 ?_
   refine RunsI.b false 26 ?_
   refine RunsI.g 1 [.c 53] ?_
   refine RunsI.l [2, 5] [(2, .pointer (some ⟨b20, 0, none⟩)), (5, .pointer (some ⟨b21, 0, none⟩))] ?_
   exact hk0 t24 t25 t26 t29 t30 A22 c23 A27 c28 w (Option.some.inj h).symm (hH.pick [0, 1, 2, 3] (by decide))
def charabancref30_Read_8.f (K : Nat) (p0 : ByteArray) : Option ((List Int) × Int × Int × (List (Int × Int)) × Int × Int × Int) := cond (decide ((p0.size : Int) > 65536)) (some (([] : List Int), 0, 0, ([] : List (Int × Int)), 0, 2, 0)) ((charabancref30_Read_8.l0 K p0 K ([] : List Int) 1 0 ([] : List (Int × Int)) 0 (⟨#[]⟩ : ByteArray) 1 0).bind (fun x87 => Lp.elim x87 (fun t100 => some (([] : List Int), 0, 0, ([] : List (Int × Int)), 0, 300, t100)) (fun yx87 => (charabancref30_Check_19.f K yx87.1 yx87.2.1 yx87.2.2.1 yx87.2.2.2.1 yx87.2.2.2.2).bind fun t107 => cond (t107 != 0) (some (([] : List Int), 0, 0, ([] : List (Int × Int)), 0, t107, 0)) (some (yx87.1, yx87.2.1, yx87.2.2.1, yx87.2.2.2.1, yx87.2.2.2.2, 0, 0)))))
set_option maxRecDepth 100000 in
theorem charabancref30_Read_8_ok (K : Nat) (M0 : Nat → Prop) (w0 : World) (p0 : ByteArray) (ho : ∀ b, M0 b → b < w0.heap.size) {r : (List Int) × Int × Int × (List (Int × Int)) × Int × Int × Int} (h : charabancref30_Read_8.f K p0 = some r) :
  Calls Tryd.prog 8 #[.string p0] w0 (charabancref30_Read_8.post M0 w0 r) := by
 unfold charabancref30_Read_8.f at h
 have h0 : Holds M0 w0 w0 [] := Holds.start ho
 have h0 : Holds M0 w0 w0 [] := h0
 refine calls_of F8 rfl [.string p0] (by kernel_rfl) ?_
 refine RunsI.g 1 [.c 1, .c 2] ?_
 refine RunsI.r ?_
 refine RegI.o (OpE.box 2 37 [.slice none 0 0, .int .i64 0, .int .i64 0, .slice none 0 0, .int .u16 0] h0 (by kernel_rfl) (by kernel_rfl) ?_)
 intro w1 b2 h3 hb4 hn5
 refine RegI.p 2 [(0, .string p0), (2, .pointer (some ⟨b2, 0, none⟩))] ?_
 refine RegI.d ?_
 refine RunsI.g 2 [.c 4, .c 5, .c 10] ?_
 refine RunsI.r ?_
 refine RegI.p 3 [(0, .string p0), (2, .pointer (some ⟨b2, 0, none⟩)), (14, .bool (decide ((p0.size : Int) > 65536)))] ?_
 refine RegI.d ?_
 rcases of_cond h with ⟨hc6, h⟩ | ⟨hc6, h⟩
 ·skip
  refine RunsI.f 14 true hc6 ?_
  refine RunsI.b true 6 ?_
  refine RunsI.g 1 [.c 7, .c 8, .c 10] ?_
  refine RunsI.r ?_
  refine RegI.p 1 [(2, .pointer (some ⟨b2, 0, none⟩)), (15, .agg #[.slice none 0 0, .int .i64 0, .int .i64 0, .slice none 0 0, .int .u16 0])] ?_
  refine RegI.o (OpE.storeBox 0 37 b2 0 (.agg #[.slice none 0 0, .int .i64 0, .int .i64 0, .slice none 0 0, .int .u16 0]) [.slice none 0 0, .int .i64 0, .int .i64 0, .slice none 0 0, .int .u16 0] h3 (by kernel_rfl) (by kernel_rfl) rfl (by kernel_rfl) (by kernel_rfl) (by kernel_rfl) ?_)
  intro w7 h8 hk9
  refine RegI.p 2 [(2, .pointer (some ⟨b2, 0, none⟩)), (3, .int .i64 2), (4, .int .i64 0)] ?_
  refine RegI.d ?_
  refine RunsI.toRet (by kernel_rfl) ?_
  refine RetI.valW [.cell 2 37, .tmp 3, .tmp 4] [.agg #[.slice none 0 0, .int .i64 0, .int .i64 0, .slice none 0 0, .int .u16 0], .int .i64 2, .int .i64 0] (.tuple #[.agg #[.slice none 0 0, .int .i64 0, .int .i64 0, .slice none 0 0, .int .u16 0], .int .i64 2, .int .i64 0]) (by kernel_rfl) (ResAt.box 0 37 b2 0 h8 (by kernel_rfl) (by kernel_rfl) rfl (by kernel_rfl) (ResAt.tmp (by kernel_rfl) (by kernel_rfl) (ResAt.tmp (by kernel_rfl) (by kernel_rfl) rfl))) (by kernel_rfl) ?_
  have h115 := h8.addSl (Rp.int .u8) (.slice none 0 0) [] (Sl.nil _ _ _)
  have h116 := h115.addSl (Rp.pair (Rp.int .i64) (Rp.int .u8)) (.slice none 0 0) [] (Sl.nil _ _ _)
  obtain rfl := Option.some.inj h
  exact ⟨none, 0, none, 0, rfl, h116.pick [1, 2] (by decide)⟩
 ·skip
  refine RunsI.f 14 false hc6 ?_
  refine RunsI.b false 9 ?_
  refine RunsI.g 1 [.c 10] ?_
  refine RunsI.g 1 [.c 11, .c 12] ?_
  refine RunsI.r ?_
  refine RegI.p 2 [(0, .string p0), (2, .pointer (some ⟨b2, 0, none⟩)), (17, .agg #[.slice none 0 0, .int .i64 1, .int .i64 0, .slice none 0 0, .int .u16 0])] ?_
  refine RegI.o (OpE.box 5 37 [.slice none 0 0, .int .i64 0, .int .i64 0, .slice none 0 0, .int .u16 0] h3 (by kernel_rfl) (by kernel_rfl) ?_)
  intro w10 b11 h12 hb13 hn14
  refine RegI.o (OpE.storeBox 1 37 b11 0 (.agg #[.slice none 0 0, .int .i64 1, .int .i64 0, .slice none 0 0, .int .u16 0]) [.slice none 0 0, .int .i64 1, .int .i64 0, .slice none 0 0, .int .u16 0] h12 (by kernel_rfl) (by kernel_rfl) rfl (by kernel_rfl) (by kernel_rfl) (by kernel_rfl) ?_)
  intro w15 h16 hk17
  refine RegI.d ?_
  refine RunsI.g 1 [.c 13, .c 14] ?_
  refine RunsI.r ?_
  refine RegI.p 1 [(0, .string p0), (2, .pointer (some ⟨b2, 0, none⟩)), (5, .pointer (some ⟨b11, 0, none⟩)), (6, .string (⟨#[]⟩ : ByteArray))] ?_
  refine RegI.d ?_
  refine RunsI.g 1 [.c 15, .c 16] ?_
  refine RunsI.r ?_
  refine RegI.p 1 [(0, .string p0), (2, .pointer (some ⟨b2, 0, none⟩)), (5, .pointer (some ⟨b11, 0, none⟩)), (6, .string (⟨#[]⟩ : ByteArray)), (7, .int .i64 1)] ?_
  refine RegI.d ?_
  refine RunsI.g 2 [.c 18, .c 19, .c 53] ?_
  refine RunsI.r ?_
  refine RegI.p 1 [(0, .string p0), (2, .pointer (some ⟨b2, 0, none⟩)), (5, .pointer (some ⟨b11, 0, none⟩)), (6, .string (⟨#[]⟩ : ByteArray)), (7, .int .i64 1), (8, .int .i64 0)] ?_
  refine RegI.d ?_
  refine RunsI.g 2 [.c 21, .lp 21, .blk 0, .c 53] ?_
  obtain ⟨x87, hx88, h⟩ := of_bind h
  have h18 := h16.addSl (Rp.int .u8) (.slice none 0 0) [] (Sl.nil _ _ _)
  have h19 := h18.addSl (Rp.pair (Rp.int .i64) (Rp.int .u8)) (.slice none 0 0) [] (Sl.nil _ _ _)
  refine RunsI.l [0, 2, 5, 6, 7, 8] [(0, .string p0), (2, .pointer (some ⟨b2, 0, none⟩)), (5, .pointer (some ⟨b11, 0, none⟩)), (6, .string (⟨#[]⟩ : ByteArray)), (7, .int .i64 1), (8, .int .i64 0)] ?_
  refine charabancref30_Read_8.l0_ok K M0 w0 p0 b2 b11 _ x87 ?_ ?_ K ([] : List Int) 1 0 ([] : List (Int × Int)) 0 (⟨#[]⟩ : ByteArray) 1 0 none 0 none 0 w15 hx88 (h19.pick [0, 1, 2, 3] (by decide))
  ·intro t91 t92 t93 t96 t97 A89 c90 A94 c95 w99 hq117 h98
   (try rw [hq117] at h)
   dsimp only [Lp.elim] at h
   refine RunsI.g 1 [.c 54, .c 55] ?_
   refine RunsI.r ?_
   refine RegI.o (OpE.loadBox 55 1 37 b11 0 (.agg #[.slice A89 t91.length c90, .int .i64 t92, .int .i64 t93, .slice A94 t96.length c95, .int .u16 t97]) h98 (by kernel_rfl) (by kernel_rfl) rfl (by kernel_rfl) ?_)
   obtain ⟨t107, hg106, h⟩ := of_bind h
   refine RegI.o (OpE.call 56 (by kernel_rfl) 19 #[.agg #[.slice A89 t91.length c90, .int .i64 t92, .int .i64 t93, .slice A94 t96.length c95, .int .u16 t97]] (by kernel_rfl) ((charabancref30_Check_19_ok K _ w99  A89 c90 A94 c95 t91 t92 t93 t96 t97 h98.old' (h98.get 2 rfl) (h98.get 3 rfl) hg106).mono ?_))
   rintro _ w103 ⟨rfl, hb104⟩
   refine ⟨_, rfl, ?_⟩
   have h105 := h98.call hb104
   refine RegI.p 1 [(2, .pointer (some ⟨b2, 0, none⟩)), (5, .pointer (some ⟨b11, 0, none⟩)), (11, .int .i64 t107)] ?_
   refine RegI.d ?_
   refine RunsI.g 2 [.c 57, .c 58, .c 63] ?_
   refine RunsI.r ?_
   refine RegI.p 2 [(2, .pointer (some ⟨b2, 0, none⟩)), (5, .pointer (some ⟨b11, 0, none⟩)), (11, .int .i64 t107), (58, .bool (t107 != 0))] ?_
   refine RegI.d ?_
   rcases of_cond h with ⟨hc108, h⟩ | ⟨hc108, h⟩
   ·skip
    refine RunsI.f 58 true hc108 ?_
    refine RunsI.b true 59 ?_
    refine RunsI.g 1 [.c 60, .c 61, .c 63] ?_
    refine RunsI.r ?_
    refine RegI.p 2 [(2, .pointer (some ⟨b2, 0, none⟩)), (59, .agg #[.slice none 0 0, .int .i64 0, .int .i64 0, .slice none 0 0, .int .u16 0]), (60, .int .i64 t107)] ?_
    refine RegI.o (OpE.storeBox 0 37 b2 0 (.agg #[.slice none 0 0, .int .i64 0, .int .i64 0, .slice none 0 0, .int .u16 0]) [.slice none 0 0, .int .i64 0, .int .i64 0, .slice none 0 0, .int .u16 0] h105 (by kernel_rfl) (by kernel_rfl) rfl (by kernel_rfl) (by kernel_rfl) (by kernel_rfl) ?_)
    intro w109 h110 hk111
    refine RegI.p 2 [(2, .pointer (some ⟨b2, 0, none⟩)), (3, .int .i64 t107), (4, .int .i64 0)] ?_
    refine RegI.d ?_
    refine RunsI.toRet (by kernel_rfl) ?_
    refine RetI.valW [.cell 2 37, .tmp 3, .tmp 4] [.agg #[.slice none 0 0, .int .i64 0, .int .i64 0, .slice none 0 0, .int .u16 0], .int .i64 t107, .int .i64 0] (.tuple #[.agg #[.slice none 0 0, .int .i64 0, .int .i64 0, .slice none 0 0, .int .u16 0], .int .i64 t107, .int .i64 0]) (by kernel_rfl) (ResAt.box 0 37 b2 0 h110 (by kernel_rfl) (by kernel_rfl) rfl (by kernel_rfl) (ResAt.tmp (by kernel_rfl) (by kernel_rfl) (ResAt.tmp (by kernel_rfl) (by kernel_rfl) rfl))) (by kernel_rfl) ?_
    have h118 := h110.addSl (Rp.int .u8) (.slice none 0 0) [] (Sl.nil _ _ _)
    have h119 := h118.addSl (Rp.pair (Rp.int .i64) (Rp.int .u8)) (.slice none 0 0) [] (Sl.nil _ _ _)
    obtain rfl := Option.some.inj h
    exact ⟨none, 0, none, 0, rfl, h119.pick [4, 5] (by decide)⟩
   ·skip
    refine RunsI.f 58 false hc108 ?_
    refine RunsI.b false 62 ?_
    refine RunsI.g 1 [.c 63] ?_
    refine RunsI.g 1 [.c 64, .c 65] ?_
    refine RunsI.r ?_
    refine RegI.o (OpE.loadBox 61 1 37 b11 0 (.agg #[.slice A89 t91.length c90, .int .i64 t92, .int .i64 t93, .slice A94 t96.length c95, .int .u16 t97]) h105 (by kernel_rfl) (by kernel_rfl) rfl (by kernel_rfl) ?_)
    refine RegI.o (OpE.storeBox 0 37 b2 0 (.agg #[.slice A89 t91.length c90, .int .i64 t92, .int .i64 t93, .slice A94 t96.length c95, .int .u16 t97]) [.slice A89 t91.length c90, .int .i64 t92, .int .i64 t93, .slice A94 t96.length c95, .int .u16 t97] h105 (by kernel_rfl) (by kernel_rfl) rfl (by kernel_rfl) (by kernel_rfl) (by kernel_rfl) ?_)
    intro w112 h113 hk114
    refine RegI.p 2 [(2, .pointer (some ⟨b2, 0, none⟩)), (3, .int .i64 0), (4, .int .i64 0)] ?_
    refine RegI.d ?_
    refine RunsI.toRet (by kernel_rfl) ?_
    refine RetI.valW [.cell 2 37, .tmp 3, .tmp 4] [.agg #[.slice A89 t91.length c90, .int .i64 t92, .int .i64 t93, .slice A94 t96.length c95, .int .u16 t97], .int .i64 0, .int .i64 0] (.tuple #[.agg #[.slice A89 t91.length c90, .int .i64 t92, .int .i64 t93, .slice A94 t96.length c95, .int .u16 t97], .int .i64 0, .int .i64 0]) (by kernel_rfl) (ResAt.box 0 37 b2 0 h113 (by kernel_rfl) (by kernel_rfl) rfl (by kernel_rfl) (ResAt.tmp (by kernel_rfl) (by kernel_rfl) (ResAt.tmp (by kernel_rfl) (by kernel_rfl) rfl))) (by kernel_rfl) ?_
    obtain rfl := Option.some.inj h
    exact ⟨A89, c90, A94, c95, rfl, h113.pick [2, 3] (by decide)⟩
  ·intro t100 w102 hq120 h101
   (try rw [hq120] at h)
   dsimp only [Lp.elim] at h
   have h121 := h101.addSl (Rp.int .u8) (.slice none 0 0) [] (Sl.nil _ _ _)
   have h122 := h121.addSl (Rp.pair (Rp.int .i64) (Rp.int .u8)) (.slice none 0 0) [] (Sl.nil _ _ _)
   obtain rfl := Option.some.inj h
   exact ⟨none, 0, none, 0, rfl, h122.pick [0, 1] (by decide)⟩
end

/-! ### charabanc/charabancref19.Same (function 26) -/
section
def charabancref19_Same_26.post (M0 : Nat → Prop) (w0 : World) (r : Bool) : Ending → World → Prop := fun e w => e = .returned (.bool r) ∧ Below w0.heap.size w0 w
def charabancref19_Same_26.l0 (K : Nat) (p0_0 : List Int) (p0_1 : Int) (p0_2 : Int) (p0_3 : List (Int × Int)) (p1_0 : List Int) (p1_1 : Int) (p1_2 : Int) (p1_3 : List (Int × Int)) : Nat → Int → Option (Lp Unit Unit)
 | 0, _ => none
 | k + 1, t23 => cond (decide (t23 < (p0_3.length : Int))) (cond (inR t23 p0_3.length) (cond (inR t23 p1_3.length) (cond (!((((rdD p0_3 t23).1) == ((rdD p1_3 t23).1)) && ((((rdD p0_3 t23).2) == ((rdD p1_3 t23).2)) && true))) (some (Lp.ret ())) (charabancref19_Same_26.l0 K p0_0 p0_1 p0_2 p0_3 p1_0 p1_1 p1_2 p1_3 k (IntKind.wrap .i64 (t23 + 1)))) none) none) (some (Lp.go ()))
set_option maxRecDepth 100000 in
theorem charabancref19_Same_26.l0_ok (K : Nat) (M0 : Nat → Prop) (w0 : World) (pA0_0 : Option Addr) (pc0_0 : Nat) (pA0_3 : Option Addr) (pc0_3 : Nat) (pA1_0 : Option Addr) (pc1_0 : Nat) (pA1_3 : Option Addr) (pc1_3 : Nat) (p0_0 : List Int) (p0_1 : Int) (p0_2 : Int) (p0_3 : List (Int × Int)) (p1_0 : List Int) (p1_1 : Int) (p1_2 : Int) (p1_3 : List (Int × Int)) (b21 : Nat) (b22 : Nat) (R : Ending → World → Prop) (x : Lp Unit Unit) (hk0 : ∀ (w1 : World), x = Lp.go () → Holds M0 w0 w1 [] → RunsI F26 [.c 31] [] w1 R) (hk1 : ∀ (w1 : World), x = Lp.ret () → Holds M0 w0 w1 [] → R (.returned (.bool false)) w1) :
  ∀ (k : Nat) (t23 : Int) (w : World), charabancref19_Same_26.l0 K p0_0 p0_1 p0_2 p0_3 p1_0 p1_1 p1_2 p1_3 k t23 = some x → Holds M0 w0 w [box b21 35 [.slice pA0_0 p0_0.length pc0_0, .int .i64 p0_1, .int .i64 p0_2, .slice pA0_3 p0_3.length pc0_3], sl (Rp.int .u8) (.slice pA0_0 p0_0.length pc0_0) p0_0, sl (Rp.pair (Rp.int .i64) (Rp.int .u8)) (.slice pA0_3 p0_3.length pc0_3) p0_3, box b22 35 [.slice pA1_0 p1_0.length pc1_0, .int .i64 p1_1, .int .i64 p1_2, .slice pA1_3 p1_3.length pc1_3], sl (Rp.int .u8) (.slice pA1_0 p1_0.length pc1_0) p1_0, sl (Rp.pair (Rp.int .i64) (Rp.int .u8)) (.slice pA1_3 p1_3.length pc1_3) p1_3] → RunsI F26 [.c 15, .lp 15, .blk 0, .c 31] [(2, .pointer (some ⟨b21, 0, none⟩)), (3, .pointer (some ⟨b22, 0, none⟩)), (5, .int .i64 t23)] w R := by
 intro k
 induction k with
 | zero => intro t23 w h hH; exact absurd h (by simp [charabancref19_Same_26.l0])
 | succ k ih =>
  intro t23 w h hH
  rw [charabancref19_Same_26.l0.eq_2] at h
  refine RunsI.g 1 [.c 16, .c 21, .lp 15, .blk 0, .c 31] ?_
  refine RunsI.g 1 [.c 17, .c 18, .c 21, .lp 15, .blk 0, .c 31] ?_
  refine RunsI.r ?_
  refine RegI.p 2 [(2, .pointer (some ⟨b21, 0, none⟩)), (3, .pointer (some ⟨b22, 0, none⟩)), (5, .int .i64 t23), (36, .int .i64 t23), (37, .pointer (some ⟨b21, 3, none⟩))] ?_
  refine RegI.o (OpE.loadBox 38 0 33 b21 3 (.slice pA0_3 p0_3.length pc0_3) hH (by kernel_rfl) (by kernel_rfl) rfl (by kernel_rfl) ?_)
  refine RegI.p 2 [(2, .pointer (some ⟨b21, 0, none⟩)), (3, .pointer (some ⟨b22, 0, none⟩)), (5, .int .i64 t23), (40, .bool (decide (t23 < (p0_3.length : Int))))] ?_
  refine RegI.d ?_
  rcases of_cond h with ⟨hc24, h⟩ | ⟨hc24, h⟩
  ·skip
   refine RunsI.f 40 true hc24 ?_
   refine RunsI.b true 19 ?_
   refine RunsI.g 1 [.c 21, .lp 15, .blk 0, .c 31] ?_
   refine RunsI.g 3 [.c 24, .c 25, .blk 1, .c 30, .lp 15, .blk 0, .c 31] ?_
   refine RunsI.any 11 (by kernel_rfl) (by kernel_rfl) (by kernel_rfl) (Kp ([] : List Nat) (World.drew w)) ?_
   have h26 := hH.drew
   generalize World.drew w = w25 at h26 ⊢
   have hS27 := Kp.refl ([] : List Nat) w25
   refine AnyE.pure 0 43 (.pointer (some ⟨b21, 3, none⟩)) (by kernel_rfl) hS27 (fun _ => by kernel_rfl) ?_
   refine AnyE.loadBox 1 44 0 33 b21 3 (.slice pA0_3 p0_3.length pc0_3) [] h26 rfl (by kernel_rfl) hS27 rfl rfl (by kernel_rfl) (by kernel_rfl) ?_
   refine AnyE.pure 2 45 (.int .i64 t23) (by kernel_rfl) hS27 (fun _ => by kernel_rfl) ?_
   obtain ⟨hc29, h⟩ := of_cond0 h
   refine AnyE.idxSl 3 46 2 33 t23 h26 (by kernel_rfl) hS27 rfl (by kernel_rfl) (by kernel_rfl) hc29 ?_
   intro b30 o31 cs32 hk33 h34
   obtain ⟨_, _, rfl, rfl, rfl⟩ := hk33
   refine AnyE.loadCel 4 47 6 65 b30 o31 0 (.agg #[.int .i64 ((rdD p0_3 t23).1), .int .u8 ((rdD p0_3 t23).2)]) [] h34 rfl (by kernel_rfl) hS27 rfl rfl (by kernel_rfl) (by kernel_rfl) ?_
   refine AnyE.pure 5 48 (.pointer (some ⟨b22, 3, none⟩)) (by kernel_rfl) hS27 (fun _ => by kernel_rfl) ?_
   refine AnyE.loadBox 6 49 3 33 b22 3 (.slice pA1_3 p1_3.length pc1_3) [] h34 rfl (by kernel_rfl) hS27 rfl rfl (by kernel_rfl) (by kernel_rfl) ?_
   refine AnyE.pure 7 50 (.int .i64 t23) (by kernel_rfl) hS27 (fun _ => by kernel_rfl) ?_
   obtain ⟨hc35, h⟩ := of_cond0 h
   refine AnyE.idxSl 8 51 5 33 t23 h34 (by kernel_rfl) hS27 rfl (by kernel_rfl) (by kernel_rfl) hc35 ?_
   intro b36 o37 cs38 hk39 h40
   obtain ⟨_, _, rfl, rfl, rfl⟩ := hk39
   refine AnyE.loadCel 9 52 7 65 b36 o37 0 (.agg #[.int .i64 ((rdD p1_3 t23).1), .int .u8 ((rdD p1_3 t23).2)]) [] h40 rfl (by kernel_rfl) hS27 rfl rfl (by kernel_rfl) (by kernel_rfl) ?_
   refine AnyE.run 10 53 (.bool (!((((rdD p0_3 t23).1) == ((rdD p1_3 t23).1)) && ((((rdD p0_3 t23).2) == ((rdD p1_3 t23).2)) && true)))) (by kernel_rfl) hS27 (fun _ hk => run_eqS (neg := true) (t := 65) (x := .agg #[.int .i64 ((rdD p0_3 t23).1), .int .u8 ((rdD p0_3 t23).2)]) (y := .agg #[.int .i64 ((rdD p1_3 t23).1), .int .u8 ((rdD p1_3 t23).2)]) (b := ((((rdD p0_3 t23).1) == ((rdD p1_3 t23).1)) && ((((rdD p0_3 t23).2) == ((rdD p1_3 t23).2)) && true))) (by kernel_rfl) (by kernel_rfl) (by kernel_rfl) (by kernel_rfl)) ?_
   refine AnyE.done (by kernel_rfl) (fun w41 hu42 => ?_)
   have h43 := h40.call hu42
   refine RunsI.l [2, 3, 5, 53] [(2, .pointer (some ⟨b21, 0, none⟩)), (3, .pointer (some ⟨b22, 0, none⟩)), (5, .int .i64 t23), (53, .bool (!((((rdD p0_3 t23).1) == ((rdD p1_3 t23).1)) && ((((rdD p0_3 t23).2) == ((rdD p1_3 t23).2)) && true))))] ?_
   rcases of_cond h with ⟨hc44, h⟩ | ⟨hc44, h⟩
   ·skip
    refine RunsI.f 53 true hc44 ?_
    refine RunsI.b true 26 ?_
    refine RunsI.g 1 [.c 27, .c 28, .blk 1, .c 30, .lp 15, .blk 0, .c 31] ?_
    refine RunsI.r ?_
    refine RegI.p 1 [(4, .bool false)] ?_
    refine RegI.d ?_
    refine RunsI.t (.bool false) ?_
    exact hk1 w41 (Option.some.inj h).symm (h43.pick [] (by decide))
   ·skip
    refine RunsI.f 53 false hc44 ?_
    refine RunsI.b false 29 ?_
    refine RunsI.g 1 [.blk 1, .c 30, .lp 15, .blk 0, .c 31] ?_
    refine RunsI.g 1 [.c 30, .lp 15, .blk 0, .c 31] ?_
    refine RunsI.r ?_
    refine RegI.p 3 [(2, .pointer (some ⟨b21, 0, none⟩)), (3, .pointer (some ⟨b22, 0, none⟩)), (5, .int .i64 (IntKind.wrap .i64 (t23 + 1)))] ?_
    refine RegI.d ?_
    refine RunsI.g 1 [.c 15, .lp 15, .blk 0, .c 31] ?_
    refine RunsI.l [2, 3, 5] [(2, .pointer (some ⟨b21, 0, none⟩)), (3, .pointer (some ⟨b22, 0, none⟩)), (5, .int .i64 (IntKind.wrap .i64 (t23 + 1)))] ?_
    exact ih (IntKind.wrap .i64 (t23 + 1)) w41 h (h43.pick [0, 1, 2, 3, 4, 5] (by decide))
  ·skip
   refine RunsI.f 40 false hc24 ?_
   refine RunsI.b false 20 ?_
   refine RunsI.g 1 [.c 31] ?_
   refine RunsI.l [] [] ?_
   exact hk0 w (Option.some.inj h).symm (hH.pick [] (by decide))
def charabancref19_Same_26.f (K : Nat) (p0_0 : List Int) (p0_1 : Int) (p0_2 : Int) (p0_3 : List (Int × Int)) (p1_0 : List Int) (p1_1 : Int) (p1_2 : Int) (p1_3 : List (Int × Int)) : Option Bool := Let (fun (t14 : Bool) => cond t14 (some false) ((charabancref19_Same_26.l0 K p0_0 p0_1 p0_2 p0_3 p1_0 p1_1 p1_2 p1_3 K 0).bind (fun x45 => Lp.elim x45 (fun _ => some false) (fun _ => some true)))) (fun j17 => cond (!((ByteArray.toList (strOf p0_0)) == (ByteArray.toList (strOf p1_0)))) (j17 true) (cond (p0_1 != p1_1) (j17 true) (cond (p0_2 != p1_2) (j17 true) (j17 ((p0_3.length : Int) != (p1_3.length : Int))))))
set_option maxRecDepth 100000 in
theorem charabancref19_Same_26_ok (K : Nat) (M0 : Nat → Prop) (w0 : World) (pA0_0 : Option Addr) (pc0_0 : Nat) (pA0_3 : Option Addr) (pc0_3 : Nat) (pA1_0 : Option Addr) (pc1_0 : Nat) (pA1_3 : Option Addr) (pc1_3 : Nat) (p0_0 : List Int) (p0_1 : Int) (p0_2 : Int) (p0_3 : List (Int × Int)) (p1_0 : List Int) (p1_1 : Int) (p1_2 : Int) (p1_3 : List (Int × Int)) (ho : ∀ b, M0 b → b < w0.heap.size) (hs0_0 : Sl (Rp.int .u8) w0 M0 (.slice pA0_0 p0_0.length pc0_0) p0_0) (hs0_3 : Sl (Rp.pair (Rp.int .i64) (Rp.int .u8)) w0 M0 (.slice pA0_3 p0_3.length pc0_3) p0_3) (hs1_0 : Sl (Rp.int .u8) w0 M0 (.slice pA1_0 p1_0.length pc1_0) p1_0) (hs1_3 : Sl (Rp.pair (Rp.int .i64) (Rp.int .u8)) w0 M0 (.slice pA1_3 p1_3.length pc1_3) p1_3) {r : Bool} (h : charabancref19_Same_26.f K p0_0 p0_1 p0_2 p0_3 p1_0 p1_1 p1_2 p1_3 = some r) :
  Calls Tryd.prog 26 #[.agg #[.slice pA0_0 p0_0.length pc0_0, .int .i64 p0_1, .int .i64 p0_2, .slice pA0_3 p0_3.length pc0_3], .agg #[.slice pA1_0 p1_0.length pc1_0, .int .i64 p1_1, .int .i64 p1_2, .slice pA1_3 p1_3.length pc1_3]] w0 (charabancref19_Same_26.post M0 w0 r) := by
 unfold charabancref19_Same_26.f at h
 have h0 : Holds M0 w0 w0 [] := Holds.start ho
 have h00_0 := h0.addSl (Rp.int .u8) (.slice pA0_0 p0_0.length pc0_0) p0_0 (hs0_0.mono (fun _ _ hm => hm.elim id (fun hm => absurd hm (by simp [mines, sl]))))
 have h00_3 := h00_0.addSl (Rp.pair (Rp.int .i64) (Rp.int .u8)) (.slice pA0_3 p0_3.length pc0_3) p0_3 (hs0_3.mono (fun _ _ hm => hm.elim id (fun hm => absurd hm (by simp [mines, sl]))))
 have h01_0 := h00_3.addSl (Rp.int .u8) (.slice pA1_0 p1_0.length pc1_0) p1_0 (hs1_0.mono (fun _ _ hm => hm.elim id (fun hm => absurd hm (by simp [mines, sl]))))
 have h01_3 := h01_0.addSl (Rp.pair (Rp.int .i64) (Rp.int .u8)) (.slice pA1_3 p1_3.length pc1_3) p1_3 (hs1_3.mono (fun _ _ hm => hm.elim id (fun hm => absurd hm (by simp [mines, sl]))))
 have h0 : Holds M0 w0 w0 [sl (Rp.int .u8) (.slice pA0_0 p0_0.length pc0_0) p0_0, sl (Rp.pair (Rp.int .i64) (Rp.int .u8)) (.slice pA0_3 p0_3.length pc0_3) p0_3, sl (Rp.int .u8) (.slice pA1_0 p1_0.length pc1_0) p1_0, sl (Rp.pair (Rp.int .i64) (Rp.int .u8)) (.slice pA1_3 p1_3.length pc1_3) p1_3] := h01_3
 refine calls_of F26 rfl [.agg #[.slice pA0_0 p0_0.length pc0_0, .int .i64 p0_1, .int .i64 p0_2, .slice pA0_3 p0_3.length pc0_3], .agg #[.slice pA1_0 p1_0.length pc1_0, .int .i64 p1_1, .int .i64 p1_2, .slice pA1_3 p1_3.length pc1_3]] (by kernel_rfl) ?_
 refine RunsI.g 1 [.c 1, .c 2] ?_
 refine RunsI.r ?_
 refine RegI.o (OpE.box 2 35 [.slice pA0_0 p0_0.length pc0_0, .int .i64 p0_1, .int .i64 p0_2, .slice pA0_3 p0_3.length pc0_3] h0 (by kernel_rfl) (by kernel_rfl) ?_)
 intro w1 b2 h3 hb4 hn5
 refine RegI.o (OpE.box 3 35 [.slice pA1_0 p1_0.length pc1_0, .int .i64 p1_1, .int .i64 p1_2, .slice pA1_3 p1_3.length pc1_3] h3 (by kernel_rfl) (by kernel_rfl) ?_)
 intro w6 b7 h8 hb9 hn10
 refine RegI.p 1 [(2, .pointer (some ⟨b2, 0, none⟩)), (3, .pointer (some ⟨b7, 0, none⟩))] ?_
 refine RegI.d ?_
 refine RunsI.g 2 [.c 4, .c 5, .c 10] ?_
 refine RunsI.r ?_
 refine RegI.p 1 [(2, .pointer (some ⟨b2, 0, none⟩)), (3, .pointer (some ⟨b7, 0, none⟩)), (6, .pointer (some ⟨b2, 0, none⟩))] ?_
 refine RegI.o (OpE.loadBox 7 4 22 b2 0 (.slice pA0_0 p0_0.length pc0_0) h8 (by kernel_rfl) (by kernel_rfl) rfl (by kernel_rfl) ?_)
 refine RegI.o (OpE.run 8 (by kernel_rfl) (run_toStr (s := 22) (d := 9) (v := .slice pA0_0 p0_0.length pc0_0) (by kernel_rfl) (by kernel_rfl) (h8.rdSl 0 rfl)) ?_)
 refine RegI.p 1 [(2, .pointer (some ⟨b2, 0, none⟩)), (3, .pointer (some ⟨b7, 0, none⟩)), (8, .string (strOf p0_0)), (9, .pointer (some ⟨b7, 0, none⟩))] ?_
 refine RegI.o (OpE.loadBox 10 5 22 b7 0 (.slice pA1_0 p1_0.length pc1_0) h8 (by kernel_rfl) (by kernel_rfl) rfl (by kernel_rfl) ?_)
 refine RegI.o (OpE.run 11 (by kernel_rfl) (run_toStr (s := 22) (d := 9) (v := .slice pA1_0 p1_0.length pc1_0) (by kernel_rfl) (by kernel_rfl) (h8.rdSl 2 rfl)) ?_)
 refine RegI.p 2 [(2, .pointer (some ⟨b2, 0, none⟩)), (3, .pointer (some ⟨b7, 0, none⟩)), (13, .bool (!((ByteArray.toList (strOf p0_0)) == (ByteArray.toList (strOf p1_0)))))] ?_
 obtain ⟨j17, hJ18, h⟩ := of_let h
 have hj19 : ∀ (t14 : Bool) (w16 : World), j17 t14 = some r → Holds M0 w0 w16 [box b2 35 [.slice pA0_0 p0_0.length pc0_0, .int .i64 p0_1, .int .i64 p0_2, .slice pA0_3 p0_3.length pc0_3], sl (Rp.int .u8) (.slice pA0_0 p0_0.length pc0_0) p0_0, sl (Rp.pair (Rp.int .i64) (Rp.int .u8)) (.slice pA0_3 p0_3.length pc0_3) p0_3, box b7 35 [.slice pA1_0 p1_0.length pc1_0, .int .i64 p1_1, .int .i64 p1_2, .slice pA1_3 p1_3.length pc1_3], sl (Rp.int .u8) (.slice pA1_0 p1_0.length pc1_0) p1_0, sl (Rp.pair (Rp.int .i64) (Rp.int .u8)) (.slice pA1_3 p1_3.length pc1_3) p1_3] → RegI F26 4 [.c 5, .c 10] 30 [(2, .pointer (some ⟨b2, 0, none⟩)), (3, .pointer (some ⟨b7, 0, none⟩)), (35, .bool t14)] w16 (charabancref19_Same_26.post M0 w0 r) := by
  intro t14 w16 h h15
  rw [hJ18] at h
  clear hJ18
  dsimp only at h
  refine RegI.d ?_
  rcases of_cond h with ⟨hc20, h⟩ | ⟨hc20, h⟩
  ·skip
   refine RunsI.f 35 true hc20 ?_
   refine RunsI.b true 6 ?_
   refine RunsI.g 1 [.c 7, .c 8, .c 10] ?_
   refine RunsI.r ?_
   refine RegI.p 1 [(4, .bool false)] ?_
   refine RegI.d ?_
   refine RunsI.t (.bool false) ?_
   obtain rfl := Option.some.inj h
   exact ⟨rfl, h15.below⟩
  ·skip
   refine RunsI.f 35 false hc20 ?_
   refine RunsI.b false 9 ?_
   refine RunsI.g 1 [.c 10] ?_
   refine RunsI.g 2 [.c 12, .c 13, .c 31] ?_
   refine RunsI.r ?_
   refine RegI.p 1 [(2, .pointer (some ⟨b2, 0, none⟩)), (3, .pointer (some ⟨b7, 0, none⟩)), (5, .int .i64 0)] ?_
   refine RegI.d ?_
   refine RunsI.g 2 [.c 15, .lp 15, .blk 0, .c 31] ?_
   obtain ⟨x45, hx46, h⟩ := of_bind h
   refine RunsI.l [2, 3, 5] [(2, .pointer (some ⟨b2, 0, none⟩)), (3, .pointer (some ⟨b7, 0, none⟩)), (5, .int .i64 0)] ?_
   refine charabancref19_Same_26.l0_ok K M0 w0 pA0_0 pc0_0 pA0_3 pc0_3 pA1_0 pc1_0 pA1_3 pc1_3 p0_0 p0_1 p0_2 p0_3 p1_0 p1_1 p1_2 p1_3 b2 b7 _ x45 ?_ ?_ K 0 w16 hx46 (h15.pick [0, 1, 2, 3, 4, 5] (by decide))
   ·intro w48 hq51 h47
    (try rw [hq51] at h)
    dsimp only [Lp.elim] at h
    refine RunsI.g 1 [.c 32, .c 33] ?_
    refine RunsI.r ?_
    refine RegI.p 1 [(4, .bool true)] ?_
    refine RegI.d ?_
    refine RunsI.t (.bool true) ?_
    obtain rfl := Option.some.inj h
    exact ⟨rfl, h47.below⟩
   ·intro w50 hq52 h49
    (try rw [hq52] at h)
    dsimp only [Lp.elim] at h
    obtain rfl := Option.some.inj h
    exact ⟨rfl, h49.below⟩
 clear hJ18
 rcases of_cond h with ⟨hc11, h⟩ | ⟨hc11, h⟩
 ·skip
  refine RegI.f 13 true hc11 ?_
  refine RegI.p 22 [(2, .pointer (some ⟨b2, 0, none⟩)), (3, .pointer (some ⟨b7, 0, none⟩)), (35, .bool true)] ?_
  refine RegI.l [2, 3, 35] [(2, .pointer (some ⟨b2, 0, none⟩)), (3, .pointer (some ⟨b7, 0, none⟩)), (35, .bool true)] ?_
  exact hj19 true w6 h (h8.pick [4, 0, 1, 5, 2, 3] (by decide))
 ·skip
  refine RegI.f 13 false hc11 ?_
  refine RegI.p 1 [(2, .pointer (some ⟨b2, 0, none⟩)), (3, .pointer (some ⟨b7, 0, none⟩)), (13, .bool false), (14, .pointer (some ⟨b2, 1, none⟩))] ?_
  refine RegI.o (OpE.loadBox 15 4 3 b2 1 (.int .i64 p0_1) h8 (by kernel_rfl) (by kernel_rfl) rfl (by kernel_rfl) ?_)
  refine RegI.p 1 [(2, .pointer (some ⟨b2, 0, none⟩)), (3, .pointer (some ⟨b7, 0, none⟩)), (13, .bool false), (15, .int .i64 p0_1), (16, .pointer (some ⟨b7, 1, none⟩))] ?_
  refine RegI.o (OpE.loadBox 17 5 3 b7 1 (.int .i64 p1_1) h8 (by kernel_rfl) (by kernel_rfl) rfl (by kernel_rfl) ?_)
  refine RegI.p 3 [(2, .pointer (some ⟨b2, 0, none⟩)), (3, .pointer (some ⟨b7, 0, none⟩)), (20, .bool (p0_1 != p1_1))] ?_
  rcases of_cond h with ⟨hc12, h⟩ | ⟨hc12, h⟩
  ·skip
   refine RegI.f 20 true hc12 ?_
   refine RegI.p 15 [(2, .pointer (some ⟨b2, 0, none⟩)), (3, .pointer (some ⟨b7, 0, none⟩)), (35, .bool true)] ?_
   refine RegI.l [2, 3, 35] [(2, .pointer (some ⟨b2, 0, none⟩)), (3, .pointer (some ⟨b7, 0, none⟩)), (35, .bool true)] ?_
   exact hj19 true w6 h (h8.pick [4, 0, 1, 5, 2, 3] (by decide))
  ·skip
   refine RegI.f 20 false hc12 ?_
   refine RegI.p 1 [(2, .pointer (some ⟨b2, 0, none⟩)), (3, .pointer (some ⟨b7, 0, none⟩)), (20, .bool false), (21, .pointer (some ⟨b2, 2, none⟩))] ?_
   refine RegI.o (OpE.loadBox 22 4 3 b2 2 (.int .i64 p0_2) h8 (by kernel_rfl) (by kernel_rfl) rfl (by kernel_rfl) ?_)
   refine RegI.p 1 [(2, .pointer (some ⟨b2, 0, none⟩)), (3, .pointer (some ⟨b7, 0, none⟩)), (20, .bool false), (22, .int .i64 p0_2), (23, .pointer (some ⟨b7, 2, none⟩))] ?_
   refine RegI.o (OpE.loadBox 24 5 3 b7 2 (.int .i64 p1_2) h8 (by kernel_rfl) (by kernel_rfl) rfl (by kernel_rfl) ?_)
   refine RegI.p 3 [(2, .pointer (some ⟨b2, 0, none⟩)), (3, .pointer (some ⟨b7, 0, none⟩)), (27, .bool (p0_2 != p1_2))] ?_
   rcases of_cond h with ⟨hc13, h⟩ | ⟨hc13, h⟩
   ·skip
    refine RegI.f 27 true hc13 ?_
    refine RegI.p 8 [(2, .pointer (some ⟨b2, 0, none⟩)), (3, .pointer (some ⟨b7, 0, none⟩)), (35, .bool true)] ?_
    refine RegI.l [2, 3, 35] [(2, .pointer (some ⟨b2, 0, none⟩)), (3, .pointer (some ⟨b7, 0, none⟩)), (35, .bool true)] ?_
    exact hj19 true w6 h (h8.pick [4, 0, 1, 5, 2, 3] (by decide))
   ·skip
    refine RegI.f 27 false hc13 ?_
    refine RegI.p 1 [(2, .pointer (some ⟨b2, 0, none⟩)), (3, .pointer (some ⟨b7, 0, none⟩)), (27, .bool false), (28, .pointer (some ⟨b2, 3, none⟩))] ?_
    refine RegI.o (OpE.loadBox 29 4 33 b2 3 (.slice pA0_3 p0_3.length pc0_3) h8 (by kernel_rfl) (by kernel_rfl) rfl (by kernel_rfl) ?_)
    refine RegI.p 2 [(2, .pointer (some ⟨b2, 0, none⟩)), (3, .pointer (some ⟨b7, 0, none⟩)), (27, .bool false), (30, .int .i64 (p0_3.length : Int)), (31, .pointer (some ⟨b7, 3, none⟩))] ?_
    refine RegI.o (OpE.loadBox 32 5 33 b7 3 (.slice pA1_3 p1_3.length pc1_3) h8 (by kernel_rfl) (by kernel_rfl) rfl (by kernel_rfl) ?_)
    refine RegI.p 3 [(2, .pointer (some ⟨b2, 0, none⟩)), (3, .pointer (some ⟨b7, 0, none⟩)), (35, .bool ((p0_3.length : Int) != (p1_3.length : Int)))] ?_
    refine RegI.l [2, 3, 35] [(2, .pointer (some ⟨b2, 0, none⟩)), (3, .pointer (some ⟨b7, 0, none⟩)), (35, .bool ((p0_3.length : Int) != (p1_3.length : Int)))] ?_
    exact hj19 ((p0_3.length : Int) != (p1_3.length : Int)) w6 h (h8.pick [4, 0, 1, 5, 2, 3] (by decide))
end

/-! ### charabanc/charabancref30.Same (function 11) -/
section
def charabancref30_Same_11.post (M0 : Nat → Prop) (w0 : World) (r : Bool) : Ending → World → Prop := fun e w => e = .returned (.bool r) ∧ Below w0.heap.size w0 w
def charabancref30_Same_11.f (K : Nat) (p0_0_0 : List Int) (p0_0_1 : Int) (p0_0_2 : Int) (p0_0_3 : List (Int × Int)) (p0_1 : Int) (p1_0_0 : List Int) (p1_0_1 : Int) (p1_0_2 : Int) (p1_0_3 : List (Int × Int)) (p1_1 : Int) : Option Bool := (charabancref19_Same_26.f K p0_0_0 p0_0_1 p0_0_2 p0_0_3 p1_0_0 p1_0_1 p1_0_2 p1_0_3).bind fun t15 => cond t15 (some (p0_1 == p1_1)) (some false)
set_option maxRecDepth 100000 in
theorem charabancref30_Same_11_ok (K : Nat) (M0 : Nat → Prop) (w0 : World) (pA0_0_0 : Option Addr) (pc0_0_0 : Nat) (pA0_0_3 : Option Addr) (pc0_0_3 : Nat) (pA1_0_0 : Option Addr) (pc1_0_0 : Nat) (pA1_0_3 : Option Addr) (pc1_0_3 : Nat) (p0_0_0 : List Int) (p0_0_1 : Int) (p0_0_2 : Int) (p0_0_3 : List (Int × Int)) (p0_1 : Int) (p1_0_0 : List Int) (p1_0_1 : Int) (p1_0_2 : Int) (p1_0_3 : List (Int × Int)) (p1_1 : Int) (ho : ∀ b, M0 b → b < w0.heap.size) (hs0_0_0 : Sl (Rp.int .u8) w0 M0 (.slice pA0_0_0 p0_0_0.length pc0_0_0) p0_0_0) (hs0_0_3 : Sl (Rp.pair (Rp.int .i64) (Rp.int .u8)) w0 M0 (.slice pA0_0_3 p0_0_3.length pc0_0_3) p0_0_3) (hs1_0_0 : Sl (Rp.int .u8) w0 M0 (.slice pA1_0_0 p1_0_0.length pc1_0_0) p1_0_0) (hs1_0_3 : Sl (Rp.pair (Rp.int .i64) (Rp.int .u8)) w0 M0 (.slice pA1_0_3 p1_0_3.length pc1_0_3) p1_0_3) {r : Bool} (h : charabancref30_Same_11.f K p0_0_0 p0_0_1 p0_0_2 p0_0_3 p0_1 p1_0_0 p1_0_1 p1_0_2 p1_0_3 p1_1 = some r) :
  Calls Tryd.prog 11 #[.agg #[.slice pA0_0_0 p0_0_0.length pc0_0_0, .int .i64 p0_0_1, .int .i64 p0_0_2, .slice pA0_0_3 p0_0_3.length pc0_0_3, .int .u16 p0_1], .agg #[.slice pA1_0_0 p1_0_0.length pc1_0_0, .int .i64 p1_0_1, .int .i64 p1_0_2, .slice pA1_0_3 p1_0_3.length pc1_0_3, .int .u16 p1_1]] w0 (charabancref30_Same_11.post M0 w0 r) := by
 unfold charabancref30_Same_11.f at h
 have h0 : Holds M0 w0 w0 [] := Holds.start ho
 have h00_0_0 := h0.addSl (Rp.int .u8) (.slice pA0_0_0 p0_0_0.length pc0_0_0) p0_0_0 (hs0_0_0.mono (fun _ _ hm => hm.elim id (fun hm => absurd hm (by simp [mines, sl]))))
 have h00_0_3 := h00_0_0.addSl (Rp.pair (Rp.int .i64) (Rp.int .u8)) (.slice pA0_0_3 p0_0_3.length pc0_0_3) p0_0_3 (hs0_0_3.mono (fun _ _ hm => hm.elim id (fun hm => absurd hm (by simp [mines, sl]))))
 have h01_0_0 := h00_0_3.addSl (Rp.int .u8) (.slice pA1_0_0 p1_0_0.length pc1_0_0) p1_0_0 (hs1_0_0.mono (fun _ _ hm => hm.elim id (fun hm => absurd hm (by simp [mines, sl]))))
 have h01_0_3 := h01_0_0.addSl (Rp.pair (Rp.int .i64) (Rp.int .u8)) (.slice pA1_0_3 p1_0_3.length pc1_0_3) p1_0_3 (hs1_0_3.mono (fun _ _ hm => hm.elim id (fun hm => absurd hm (by simp [mines, sl]))))
 have h0 : Holds M0 w0 w0 [sl (Rp.int .u8) (.slice pA0_0_0 p0_0_0.length pc0_0_0) p0_0_0, sl (Rp.pair (Rp.int .i64) (Rp.int .u8)) (.slice pA0_0_3 p0_0_3.length pc0_0_3) p0_0_3, sl (Rp.int .u8) (.slice pA1_0_0 p1_0_0.length pc1_0_0) p1_0_0, sl (Rp.pair (Rp.int .i64) (Rp.int .u8)) (.slice pA1_0_3 p1_0_3.length pc1_0_3) p1_0_3] := h01_0_3
 refine calls_of F11 rfl [.agg #[.slice pA0_0_0 p0_0_0.length pc0_0_0, .int .i64 p0_0_1, .int .i64 p0_0_2, .slice pA0_0_3 p0_0_3.length pc0_0_3, .int .u16 p0_1], .agg #[.slice pA1_0_0 p1_0_0.length pc1_0_0, .int .i64 p1_0_1, .int .i64 p1_0_2, .slice pA1_0_3 p1_0_3.length pc1_0_3, .int .u16 p1_1]] (by kernel_rfl) ?_
 refine RunsI.g 1 [.c 1, .c 2] ?_
 refine RunsI.r ?_
 refine RegI.o (OpE.box 2 37 [.slice pA0_0_0 p0_0_0.length pc0_0_0, .int .i64 p0_0_1, .int .i64 p0_0_2, .slice pA0_0_3 p0_0_3.length pc0_0_3, .int .u16 p0_1] h0 (by kernel_rfl) (by kernel_rfl) ?_)
 intro w1 b2 h3 hb4 hn5
 refine RegI.o (OpE.box 3 37 [.slice pA1_0_0 p1_0_0.length pc1_0_0, .int .i64 p1_0_1, .int .i64 p1_0_2, .slice pA1_0_3 p1_0_3.length pc1_0_3, .int .u16 p1_1] h3 (by kernel_rfl) (by kernel_rfl) ?_)
 intro w6 b7 h8 hb9 hn10
 refine RegI.p 1 [(2, .pointer (some ⟨b2, 0, none⟩)), (3, .pointer (some ⟨b7, 0, none⟩))] ?_
 refine RegI.d ?_
 refine RunsI.g 1 [.c 3, .c 4] ?_
 refine RunsI.r ?_
 refine RegI.p 1 [(2, .pointer (some ⟨b2, 0, none⟩)), (3, .pointer (some ⟨b7, 0, none⟩)), (5, .pointer (some ⟨b2, 0, none⟩))] ?_
 refine RegI.o (OpE.loadBox 6 4 35 b2 0 (.agg #[.slice pA0_0_0 p0_0_0.length pc0_0_0, .int .i64 p0_0_1, .int .i64 p0_0_2, .slice pA0_0_3 p0_0_3.length pc0_0_3]) h8 (by kernel_rfl) (by kernel_rfl) rfl (by kernel_rfl) ?_)
 refine RegI.p 1 [(2, .pointer (some ⟨b2, 0, none⟩)), (3, .pointer (some ⟨b7, 0, none⟩)), (6, .agg #[.slice pA0_0_0 p0_0_0.length pc0_0_0, .int .i64 p0_0_1, .int .i64 p0_0_2, .slice pA0_0_3 p0_0_3.length pc0_0_3]), (7, .pointer (some ⟨b7, 0, none⟩))] ?_
 refine RegI.o (OpE.loadBox 8 5 35 b7 0 (.agg #[.slice pA1_0_0 p1_0_0.length pc1_0_0, .int .i64 p1_0_1, .int .i64 p1_0_2, .slice pA1_0_3 p1_0_3.length pc1_0_3]) h8 (by kernel_rfl) (by kernel_rfl) rfl (by kernel_rfl) ?_)
 obtain ⟨t15, hg14, h⟩ := of_bind h
 refine RegI.o (OpE.call 9 (by kernel_rfl) 26 #[.agg #[.slice pA0_0_0 p0_0_0.length pc0_0_0, .int .i64 p0_0_1, .int .i64 p0_0_2, .slice pA0_0_3 p0_0_3.length pc0_0_3], .agg #[.slice pA1_0_0 p1_0_0.length pc1_0_0, .int .i64 p1_0_1, .int .i64 p1_0_2, .slice pA1_0_3 p1_0_3.length pc1_0_3]] (by kernel_rfl) ((charabancref19_Same_26_ok K _ w6  pA0_0_0 pc0_0_0 pA0_0_3 pc0_0_3 pA1_0_0 pc1_0_0 pA1_0_3 pc1_0_3 p0_0_0 p0_0_1 p0_0_2 p0_0_3 p1_0_0 p1_0_1 p1_0_2 p1_0_3 h8.old' (h8.get 0 rfl) (h8.get 1 rfl) (h8.get 2 rfl) (h8.get 3 rfl) hg14).mono ?_))
 rintro _ w11 ⟨rfl, hb12⟩
 refine ⟨_, rfl, ?_⟩
 have h13 := h8.call hb12
 refine RegI.p 1 [(2, .pointer (some ⟨b2, 0, none⟩)), (3, .pointer (some ⟨b7, 0, none⟩)), (10, .bool t15)] ?_
 rcases of_cond h with ⟨hc16, h⟩ | ⟨hc16, h⟩
 ·skip
  refine RegI.f 10 true hc16 ?_
  refine RegI.p 1 [(3, .pointer (some ⟨b7, 0, none⟩)), (10, .bool true), (11, .pointer (some ⟨b2, 4, none⟩))] ?_
  refine RegI.o (OpE.loadBox 12 4 27 b2 4 (.int .u16 p0_1) h13 (by kernel_rfl) (by kernel_rfl) rfl (by kernel_rfl) ?_)
  refine RegI.p 1 [(10, .bool true), (12, .int .u16 p0_1), (13, .pointer (some ⟨b7, 4, none⟩))] ?_
  refine RegI.o (OpE.loadBox 14 5 27 b7 4 (.int .u16 p1_1) h13 (by kernel_rfl) (by kernel_rfl) rfl (by kernel_rfl) ?_)
  refine RegI.p 3 [(4, .bool (p0_1 == p1_1))] ?_
  refine RegI.d ?_
  refine RunsI.t (.bool (p0_1 == p1_1)) ?_
  obtain rfl := Option.some.inj h
  exact ⟨rfl, h13.below⟩
 ·skip
  refine RegI.f 10 false hc16 ?_
  refine RegI.p 7 [(4, .bool false)] ?_
  refine RegI.d ?_
  refine RunsI.t (.bool false) ?_
  obtain rfl := Option.some.inj h
  exact ⟨rfl, h13.below⟩
end

/-! ### charabanc/charabanclaw30.plain (function 12) -/
section
def charabanclaw30_plain_12.post (M0 : Nat → Prop) (w0 : World) (r : (List Int) × Int × Int × (List (Int × Int)) × Int) : Ending → World → Prop := fun e w => ∃ (A1 : Option Addr) (c1 : Nat) (A4 : Option Addr) (c4 : Nat), e = .returned (.agg #[.slice A1 r.1.length c1, .int .i64 r.2.1, .int .i64 r.2.2.1, .slice A4 r.2.2.2.1.length c4, .int .u16 r.2.2.2.2]) ∧ Holds M0 w0 w [sl (Rp.int .u8) (.slice A1 r.1.length c1) r.1, own (Rp.pair (Rp.int .i64) (Rp.int .u8)) 65 (.slice A4 r.2.2.2.1.length c4) r.2.2.2.1]
def charabanclaw30_plain_12.l0 (K : Nat) (p0_0_0 : List Int) (p0_0_1 : Int) (p0_0_2 : Int) (p0_0_3 : List (Int × Int)) (p0_1 : Int) : Nat → (List (Int × Int)) → Int → Option (List (Int × Int))
 | 0, _, _ => none
 | k + 1, t25, t26 => cond (decide (t26 < (p0_0_3.length : Int))) (cond (inR t26 p0_0_3.length) (cond (mayBe (t25.length + ([((rdD p0_0_3 t26).1, (rdD p0_0_3 t26).2)] : List (Int × Int)).length) 16) (charabanclaw30_plain_12.l0 K p0_0_0 p0_0_1 p0_0_2 p0_0_3 p0_1 k (t25 ++ ([((rdD p0_0_3 t26).1, (rdD p0_0_3 t26).2)] : List (Int × Int))) (IntKind.wrap .i64 (t26 + 1))) none) none) (some t25)
set_option maxRecDepth 100000 in
theorem charabanclaw30_plain_12.l0_ok (K : Nat) (M0 : Nat → Prop) (w0 : World) (pA0_0_0 : Option Addr) (pc0_0_0 : Nat) (pA0_0_3 : Option Addr) (pc0_0_3 : Nat) (p0_0_0 : List Int) (p0_0_1 : Int) (p0_0_2 : Int) (p0_0_3 : List (Int × Int)) (p0_1 : Int) (b20 : Nat) (b21 : Nat) (b22 : Nat) (R : Ending → World → Prop) (x : (List (Int × Int))) (hk0 : ∀ (t78 : List (Int × Int)) (A76 : Option Addr) (c77 : Nat) (w1 : World), x = t78 → Holds M0 w0 w1 [box b20 29 [.slice pA0_0_0 p0_0_0.length pc0_0_0, .int .i64 p0_0_1, .int .i64 p0_0_2, .slice pA0_0_3 p0_0_3.length pc0_0_3, .int .u16 p0_1], sl (Rp.int .u8) (.slice pA0_0_0 p0_0_0.length pc0_0_0) p0_0_0, sl (Rp.pair (Rp.int .i64) (Rp.int .u8)) (.slice pA0_0_3 p0_0_3.length pc0_0_3) p0_0_3, box b21 37 [.slice none 0 0, .int .i64 0, .int .i64 0, .slice none 0 0, .int .u16 0], box b22 35 [.slice pA0_0_0 p0_0_0.length pc0_0_0, .int .i64 p0_0_1, .int .i64 p0_0_2, .slice A76 t78.length c77], own (Rp.pair (Rp.int .i64) (Rp.int .u8)) 65 (.slice A76 t78.length c77) t78] → RunsI F12 [.c 19] [(1, .pointer (some ⟨b20, 0, none⟩)), (2, .pointer (some ⟨b21, 0, none⟩)), (3, .pointer (some ⟨b22, 0, none⟩))] w1 R) :
  ∀ (k : Nat) (t25 : List (Int × Int)) (t26 : Int) (A23 : Option Addr) (c24 : Nat) (w : World), charabanclaw30_plain_12.l0 K p0_0_0 p0_0_1 p0_0_2 p0_0_3 p0_1 k t25 t26 = some x → Holds M0 w0 w [box b20 29 [.slice pA0_0_0 p0_0_0.length pc0_0_0, .int .i64 p0_0_1, .int .i64 p0_0_2, .slice pA0_0_3 p0_0_3.length pc0_0_3, .int .u16 p0_1], sl (Rp.int .u8) (.slice pA0_0_0 p0_0_0.length pc0_0_0) p0_0_0, sl (Rp.pair (Rp.int .i64) (Rp.int .u8)) (.slice pA0_0_3 p0_0_3.length pc0_0_3) p0_0_3, box b21 37 [.slice none 0 0, .int .i64 0, .int .i64 0, .slice none 0 0, .int .u16 0], box b22 35 [.slice pA0_0_0 p0_0_0.length pc0_0_0, .int .i64 p0_0_1, .int .i64 p0_0_2, .slice A23 t25.length c24], own (Rp.pair (Rp.int .i64) (Rp.int .u8)) 65 (.slice A23 t25.length c24) t25] → RunsI F12 [.c 9, .lp 9, .blk 0, .c 19] [(1, .pointer (some ⟨b20, 0, none⟩)), (2, .pointer (some ⟨b21, 0, none⟩)), (3, .pointer (some ⟨b22, 0, none⟩)), (4, .int .i64 t26)] w R := by
 intro k
 induction k with
 | zero => intro t25 t26 A23 c24 w h hH; exact absurd h (by simp [charabanclaw30_plain_12.l0])
 | succ k ih =>
  intro t25 t26 A23 c24 w h hH
  rw [charabanclaw30_plain_12.l0.eq_2] at h
  refine RunsI.g 1 [.c 10, .c 15, .lp 9, .blk 0, .c 19] ?_
  refine RunsI.g 1 [.c 11, .c 12, .c 15, .lp 9, .blk 0, .c 19] ?_
  refine RunsI.r ?_
  refine RegI.p 3 [(1, .pointer (some ⟨b20, 0, none⟩)), (2, .pointer (some ⟨b21, 0, none⟩)), (3, .pointer (some ⟨b22, 0, none⟩)), (4, .int .i64 t26), (15, .int .i64 t26), (17, .pointer (some ⟨b20, 3, none⟩))] ?_
  refine RegI.o (OpE.loadBox 18 0 24 b20 3 (.slice pA0_0_3 p0_0_3.length pc0_0_3) hH (by kernel_rfl) (by kernel_rfl) rfl (by kernel_rfl) ?_)
  refine RegI.p 2 [(1, .pointer (some ⟨b20, 0, none⟩)), (2, .pointer (some ⟨b21, 0, none⟩)), (3, .pointer (some ⟨b22, 0, none⟩)), (4, .int .i64 t26), (20, .bool (decide (t26 < (p0_0_3.length : Int))))] ?_
  refine RegI.d ?_
  rcases of_cond h with ⟨hc27, h⟩ | ⟨hc27, h⟩
  ·skip
   refine RunsI.f 20 true hc27 ?_
   refine RunsI.b true 13 ?_
   refine RunsI.g 1 [.c 15, .lp 9, .blk 0, .c 19] ?_
   refine RunsI.g 2 [.c 17, .blk 1, .c 18, .lp 9, .blk 0, .c 19] ?_
   refine RunsI.any 21 (by kernel_rfl) (by kernel_rfl) (by kernel_rfl) (Kp (mines (pick [box b20 29 [.slice pA0_0_0 p0_0_0.length pc0_0_0, .int .i64 p0_0_1, .int .i64 p0_0_2, .slice pA0_0_3 p0_0_3.length pc0_0_3, .int .u16 p0_1], sl (Rp.int .u8) (.slice pA0_0_0 p0_0_0.length pc0_0_0) p0_0_0, sl (Rp.pair (Rp.int .i64) (Rp.int .u8)) (.slice pA0_0_3 p0_0_3.length pc0_0_3) p0_0_3, box b21 37 [.slice none 0 0, .int .i64 0, .int .i64 0, .slice none 0 0, .int .u16 0], box b22 35 [.slice pA0_0_0 p0_0_0.length pc0_0_0, .int .i64 p0_0_1, .int .i64 p0_0_2, .slice A23 t25.length c24], own (Rp.pair (Rp.int .i64) (Rp.int .u8)) 65 (.slice A23 t25.length c24) t25] [5])) (World.drew w)) ?_
   have h29 := hH.drew
   generalize World.drew w = w28 at h29 ⊢
   have hS30 := Kp.refl (mines (pick [box b20 29 [.slice pA0_0_0 p0_0_0.length pc0_0_0, .int .i64 p0_0_1, .int .i64 p0_0_2, .slice pA0_0_3 p0_0_3.length pc0_0_3, .int .u16 p0_1], sl (Rp.int .u8) (.slice pA0_0_0 p0_0_0.length pc0_0_0) p0_0_0, sl (Rp.pair (Rp.int .i64) (Rp.int .u8)) (.slice pA0_0_3 p0_0_3.length pc0_0_3) p0_0_3, box b21 37 [.slice none 0 0, .int .i64 0, .int .i64 0, .slice none 0 0, .int .u16 0], box b22 35 [.slice pA0_0_0 p0_0_0.length pc0_0_0, .int .i64 p0_0_1, .int .i64 p0_0_2, .slice A23 t25.length c24], own (Rp.pair (Rp.int .i64) (Rp.int .u8)) 65 (.slice A23 t25.length c24) t25] [5])) w28
   refine AnyE.pure 0 23 (.pointer (some ⟨b22, 3, none⟩)) (by kernel_rfl) hS30 (fun _ => by kernel_rfl) ?_
   refine AnyE.loadBox 1 24 4 33 b22 3 (.slice A23 t25.length c24) [5] h29 rfl (by kernel_rfl) hS30 rfl rfl (by kernel_rfl) (by kernel_rfl) ?_
   refine AnyE.pure 2 25 (.pointer (some ⟨b20, 0, none⟩)) (by kernel_rfl) hS30 (fun _ => by kernel_rfl) ?_
   refine AnyE.pure 3 26 (.pointer (some ⟨b20, 3, none⟩)) (by kernel_rfl) hS30 (fun _ => by kernel_rfl) ?_
   refine AnyE.loadBox 4 27 0 24 b20 3 (.slice pA0_0_3 p0_0_3.length pc0_0_3) [5] h29 rfl (by kernel_rfl) hS30 rfl rfl (by kernel_rfl) (by kernel_rfl) ?_
   refine AnyE.pure 5 28 (.int .i64 t26) (by kernel_rfl) hS30 (fun _ => by kernel_rfl) ?_
   obtain ⟨hc32, h⟩ := of_cond0 h
   refine AnyE.idxSl 6 29 2 24 t26 h29 (by kernel_rfl) hS30 rfl (by kernel_rfl) (by kernel_rfl) hc32 ?_
   intro b33 o34 cs35 hk36 h37
   obtain ⟨_, _, rfl, rfl, rfl⟩ := hk36
   refine AnyE.pure 7 30 (.pointer (some ⟨b33, o34, none⟩)) (by kernel_rfl) hS30 (fun _ => by kernel_rfl) ?_
   refine AnyE.loadCel 8 31 6 3 b33 o34 0 (.int .i64 ((rdD p0_0_3 t26).1)) [5] h37 rfl (by kernel_rfl) hS30 rfl rfl (by kernel_rfl) (by kernel_rfl) ?_
   refine AnyE.pure 9 32 (.pointer (some ⟨b20, 0, none⟩)) (by kernel_rfl) hS30 (fun _ => by kernel_rfl) ?_
   refine AnyE.pure 10 33 (.pointer (some ⟨b20, 3, none⟩)) (by kernel_rfl) hS30 (fun _ => by kernel_rfl) ?_
   refine AnyE.loadBox 11 34 0 24 b20 3 (.slice pA0_0_3 p0_0_3.length pc0_0_3) [5] h37 rfl (by kernel_rfl) hS30 rfl rfl (by kernel_rfl) (by kernel_rfl) ?_
   refine AnyE.pure 12 35 (.int .i64 t26) (by kernel_rfl) hS30 (fun _ => by kernel_rfl) ?_
   refine AnyE.idxSl 13 36 2 24 t26 h37 (by kernel_rfl) hS30 rfl (by kernel_rfl) (by kernel_rfl) hc32 ?_
   intro b38 o39 cs40 hk41 h42
   obtain ⟨_, _, rfl, rfl, rfl⟩ := hk41
   refine AnyE.pure 14 37 (.pointer (some ⟨b38, o39 + 1, none⟩)) (by kernel_rfl) hS30 (fun _ => by kernel_rfl) ?_
   refine AnyE.loadCel 15 38 7 5 b38 o39 1 (.int .u8 ((rdD p0_0_3 t26).2)) [5] h42 rfl (by kernel_rfl) hS30 rfl rfl (by kernel_rfl) (by kernel_rfl) ?_
   refine AnyE.pure 16 39 (.agg #[.int .i64 ((rdD p0_0_3 t26).1), .int .u8 ((rdD p0_0_3 t26).2)]) (by kernel_rfl) hS30 (fun _ => by kernel_rfl) ?_
   refine AnyE.one 17 (by kernel_rfl) (fun w43 hu44 => ?_)
   have h45 := h42.call hu44
   have hS46 := hS30.up hu44
   refine OpE.lit 40 65 [.int .i64 ((rdD p0_0_3 t26).1), .int .u8 ((rdD p0_0_3 t26).2)] 1 h45 (by kernel_rfl) (by kernel_rfl) ?_
   intro w47 b48 h49 hb50 hn51
   have hn52 := Nat.le_trans hS46.1 hn51
   have hS53 := hS46.up hb50
   refine ⟨hS53, ?_⟩
   refine AnyE.one 18 (by kernel_rfl) (fun w54 hu55 => ?_)
   have h56 := h49.call hu55
   have hS57 := hS53.up hu55
   obtain ⟨hc58, h⟩ := of_cond0 h
   refine OpE.appendBox 41 5 8 33 65 16 ([((rdD p0_0_3 t26).1, (rdD p0_0_3 t26).2)] : List (Int × Int)) 0 h56 (by kernel_rfl) (by kernel_rfl) (by kernel_rfl) rfl rfl rfl (⟨[_, _], _, rfl, ⟨[_], [_], rfl, rfl, rfl⟩, rfl⟩) hc58 ?_
   intro w59 A60 c61 h62 hk63
   have hS64 := hS57.trans hk63 (Kp.turned h42 [5] rfl 5 rfl rfl)
   refine ⟨hS64, ?_⟩
   refine AnyE.pure 19 42 (.pointer (some ⟨b22, 3, none⟩)) (by kernel_rfl) hS64 (fun _ => by kernel_rfl) ?_
   refine AnyE.last 20 (by kernel_rfl) (by kernel_rfl) (fun w65 hu66 => ?_)
   have h67 := h62.call hu66
   have hS68 := hS64.up hu66
   refine OpE.storeBox 4 33 b22 3 (.slice A60 ((t25 ++ ([((rdD p0_0_3 t26).1, (rdD p0_0_3 t26).2)] : List (Int × Int))).length) c61) [.slice pA0_0_0 p0_0_0.length pc0_0_0, .int .i64 p0_0_1, .int .i64 p0_0_2, .slice A60 ((t25 ++ ([((rdD p0_0_3 t26).1, (rdD p0_0_3 t26).2)] : List (Int × Int))).length) c61] h67 (by kernel_rfl) (by kernel_rfl) rfl (by kernel_rfl) (by kernel_rfl) (by kernel_rfl) ?_
   intro w69 h70 hk71
   refine AnyE.done (by kernel_rfl) (fun w73 hu74 => ?_)
   have h75 := h70.call hu74
   refine RunsI.l [1, 2, 3, 4] [(1, .pointer (some ⟨b20, 0, none⟩)), (2, .pointer (some ⟨b21, 0, none⟩)), (3, .pointer (some ⟨b22, 0, none⟩)), (4, .int .i64 t26)] ?_
   refine RunsI.g 1 [.c 18, .lp 9, .blk 0, .c 19] ?_
   refine RunsI.r ?_
   refine RegI.p 3 [(1, .pointer (some ⟨b20, 0, none⟩)), (2, .pointer (some ⟨b21, 0, none⟩)), (3, .pointer (some ⟨b22, 0, none⟩)), (4, .int .i64 (IntKind.wrap .i64 (t26 + 1)))] ?_
   refine RegI.d ?_
   refine RunsI.g 1 [.c 9, .lp 9, .blk 0, .c 19] ?_
   refine RunsI.l [1, 2, 3, 4] [(1, .pointer (some ⟨b20, 0, none⟩)), (2, .pointer (some ⟨b21, 0, none⟩)), (3, .pointer (some ⟨b22, 0, none⟩)), (4, .int .i64 (IntKind.wrap .i64 (t26 + 1)))] ?_
   exact ih (t25 ++ ([((rdD p0_0_3 t26).1, (rdD p0_0_3 t26).2)] : List (Int × Int))) (IntKind.wrap .i64 (t26 + 1)) A60 c61 w73 h (h75.pick [0, 1, 2, 3, 4, 5] (by decide))
  ·skip
   refine RunsI.f 20 false hc27 ?_
   refine RunsI.b false 14 ?_
   refine RunsI.g 1 [.c 19] ?_
   refine RunsI.l [1, 2, 3] [(1, .pointer (some ⟨b20, 0, none⟩)), (2, .pointer (some ⟨b21, 0, none⟩)), (3, .pointer (some ⟨b22, 0, none⟩))] ?_
   exact hk0 t25 A23 c24 w (Option.some.inj h).symm (hH.pick [0, 1, 2, 3, 4, 5] (by decide))
def charabanclaw30_plain_12.f (K : Nat) (p0_0_0 : List Int) (p0_0_1 : Int) (p0_0_2 : Int) (p0_0_3 : List (Int × Int)) (p0_1 : Int) : Option ((List Int) × Int × Int × (List (Int × Int)) × Int) := (charabanclaw30_plain_12.l0 K p0_0_0 p0_0_1 p0_0_2 p0_0_3 p0_1 K ([] : List (Int × Int)) 0).bind (fun t83 => some (p0_0_0, p0_0_1, p0_0_2, t83, p0_1))
set_option maxRecDepth 100000 in
theorem charabanclaw30_plain_12_ok (K : Nat) (M0 : Nat → Prop) (w0 : World) (pA0_0_0 : Option Addr) (pc0_0_0 : Nat) (pA0_0_3 : Option Addr) (pc0_0_3 : Nat) (p0_0_0 : List Int) (p0_0_1 : Int) (p0_0_2 : Int) (p0_0_3 : List (Int × Int)) (p0_1 : Int) (ho : ∀ b, M0 b → b < w0.heap.size) (hs0_0_0 : Sl (Rp.int .u8) w0 M0 (.slice pA0_0_0 p0_0_0.length pc0_0_0) p0_0_0) (hs0_0_3 : Sl (Rp.pair (Rp.int .i64) (Rp.int .u8)) w0 M0 (.slice pA0_0_3 p0_0_3.length pc0_0_3) p0_0_3) {r : (List Int) × Int × Int × (List (Int × Int)) × Int} (h : charabanclaw30_plain_12.f K p0_0_0 p0_0_1 p0_0_2 p0_0_3 p0_1 = some r) :
  Calls Tryd.prog 12 #[.agg #[.slice pA0_0_0 p0_0_0.length pc0_0_0, .int .i64 p0_0_1, .int .i64 p0_0_2, .slice pA0_0_3 p0_0_3.length pc0_0_3, .int .u16 p0_1]] w0 (charabanclaw30_plain_12.post M0 w0 r) := by
 unfold charabanclaw30_plain_12.f at h
 have h0 : Holds M0 w0 w0 [] := Holds.start ho
 have h00_0_0 := h0.addSl (Rp.int .u8) (.slice pA0_0_0 p0_0_0.length pc0_0_0) p0_0_0 (hs0_0_0.mono (fun _ _ hm => hm.elim id (fun hm => absurd hm (by simp [mines, sl]))))
 have h00_0_3 := h00_0_0.addSl (Rp.pair (Rp.int .i64) (Rp.int .u8)) (.slice pA0_0_3 p0_0_3.length pc0_0_3) p0_0_3 (hs0_0_3.mono (fun _ _ hm => hm.elim id (fun hm => absurd hm (by simp [mines, sl]))))
 have h0 : Holds M0 w0 w0 [sl (Rp.int .u8) (.slice pA0_0_0 p0_0_0.length pc0_0_0) p0_0_0, sl (Rp.pair (Rp.int .i64) (Rp.int .u8)) (.slice pA0_0_3 p0_0_3.length pc0_0_3) p0_0_3] := h00_0_3
 refine calls_of F12 rfl [.agg #[.slice pA0_0_0 p0_0_0.length pc0_0_0, .int .i64 p0_0_1, .int .i64 p0_0_2, .slice pA0_0_3 p0_0_3.length pc0_0_3, .int .u16 p0_1]] (by kernel_rfl) ?_
 refine RunsI.g 1 [.c 1, .c 2] ?_
 refine RunsI.r ?_
 refine RegI.o (OpE.box 1 29 [.slice pA0_0_0 p0_0_0.length pc0_0_0, .int .i64 p0_0_1, .int .i64 p0_0_2, .slice pA0_0_3 p0_0_3.length pc0_0_3, .int .u16 p0_1] h0 (by kernel_rfl) (by kernel_rfl) ?_)
 intro w1 b2 h3 hb4 hn5
 refine RegI.o (OpE.box 2 37 [.slice none 0 0, .int .i64 0, .int .i64 0, .slice none 0 0, .int .u16 0] h3 (by kernel_rfl) (by kernel_rfl) ?_)
 intro w6 b7 h8 hb9 hn10
 refine RegI.d ?_
 refine RunsI.g 1 [.c 3, .c 4] ?_
 refine RunsI.r ?_
 refine RegI.p 2 [(1, .pointer (some ⟨b2, 0, none⟩)), (2, .pointer (some ⟨b7, 0, none⟩)), (6, .pointer (some ⟨b2, 0, none⟩))] ?_
 refine RegI.o (OpE.loadBox 7 2 22 b2 0 (.slice pA0_0_0 p0_0_0.length pc0_0_0) h8 (by kernel_rfl) (by kernel_rfl) rfl (by kernel_rfl) ?_)
 refine RegI.p 2 [(1, .pointer (some ⟨b2, 0, none⟩)), (2, .pointer (some ⟨b7, 0, none⟩)), (7, .slice pA0_0_0 p0_0_0.length pc0_0_0), (9, .pointer (some ⟨b2, 1, none⟩))] ?_
 refine RegI.o (OpE.loadBox 10 2 3 b2 1 (.int .i64 p0_0_1) h8 (by kernel_rfl) (by kernel_rfl) rfl (by kernel_rfl) ?_)
 refine RegI.p 2 [(1, .pointer (some ⟨b2, 0, none⟩)), (2, .pointer (some ⟨b7, 0, none⟩)), (7, .slice pA0_0_0 p0_0_0.length pc0_0_0), (10, .int .i64 p0_0_1), (12, .pointer (some ⟨b2, 2, none⟩))] ?_
 refine RegI.o (OpE.loadBox 13 2 3 b2 2 (.int .i64 p0_0_2) h8 (by kernel_rfl) (by kernel_rfl) rfl (by kernel_rfl) ?_)
 refine RegI.p 1 [(1, .pointer (some ⟨b2, 0, none⟩)), (2, .pointer (some ⟨b7, 0, none⟩)), (14, .agg #[.slice pA0_0_0 p0_0_0.length pc0_0_0, .int .i64 p0_0_1, .int .i64 p0_0_2, .slice none 0 0])] ?_
 refine RegI.o (OpE.box 3 35 [.slice none 0 0, .int .i64 0, .int .i64 0, .slice none 0 0] h8 (by kernel_rfl) (by kernel_rfl) ?_)
 intro w11 b12 h13 hb14 hn15
 refine RegI.o (OpE.storeBox 4 35 b12 0 (.agg #[.slice pA0_0_0 p0_0_0.length pc0_0_0, .int .i64 p0_0_1, .int .i64 p0_0_2, .slice none 0 0]) [.slice pA0_0_0 p0_0_0.length pc0_0_0, .int .i64 p0_0_1, .int .i64 p0_0_2, .slice none 0 0] h13 (by kernel_rfl) (by kernel_rfl) rfl (by kernel_rfl) (by kernel_rfl) (by kernel_rfl) ?_)
 intro w16 h17 hk18
 refine RegI.d ?_
 refine RunsI.g 2 [.c 6, .c 7, .c 19] ?_
 refine RunsI.r ?_
 refine RegI.p 1 [(1, .pointer (some ⟨b2, 0, none⟩)), (2, .pointer (some ⟨b7, 0, none⟩)), (3, .pointer (some ⟨b12, 0, none⟩)), (4, .int .i64 0)] ?_
 refine RegI.d ?_
 refine RunsI.g 2 [.c 9, .lp 9, .blk 0, .c 19] ?_
 obtain ⟨x79, hx80, h⟩ := of_bind h
 have h19 := h17.addOwnNil (Rp.pair (Rp.int .i64) (Rp.int .u8)) 65
 refine RunsI.l [1, 2, 3, 4] [(1, .pointer (some ⟨b2, 0, none⟩)), (2, .pointer (some ⟨b7, 0, none⟩)), (3, .pointer (some ⟨b12, 0, none⟩)), (4, .int .i64 0)] ?_
 refine charabanclaw30_plain_12.l0_ok K M0 w0 pA0_0_0 pc0_0_0 pA0_0_3 pc0_0_3 p0_0_0 p0_0_1 p0_0_2 p0_0_3 p0_1 b2 b7 b12 _ x79 ?_ K ([] : List (Int × Int)) 0 none 0 w16 hx80 (h19.pick [2, 0, 1, 3, 4, 5] (by decide))
 ·intro t83 A81 c82 w85 hq89 h84
  (try rw [hq89] at h)
  refine RunsI.g 1 [.c 20, .c 21] ?_
  refine RunsI.r ?_
  refine RegI.o (OpE.loadBox 43 4 35 b12 0 (.agg #[.slice pA0_0_0 p0_0_0.length pc0_0_0, .int .i64 p0_0_1, .int .i64 p0_0_2, .slice A81 t83.length c82]) h84 (by kernel_rfl) (by kernel_rfl) rfl (by kernel_rfl) ?_)
  refine RegI.p 1 [(2, .pointer (some ⟨b7, 0, none⟩)), (43, .agg #[.slice pA0_0_0 p0_0_0.length pc0_0_0, .int .i64 p0_0_1, .int .i64 p0_0_2, .slice A81 t83.length c82]), (44, .pointer (some ⟨b2, 4, none⟩))] ?_
  refine RegI.o (OpE.loadBox 45 0 27 b2 4 (.int .u16 p0_1) h84 (by kernel_rfl) (by kernel_rfl) rfl (by kernel_rfl) ?_)
  refine RegI.p 1 [(2, .pointer (some ⟨b7, 0, none⟩)), (46, .agg #[.slice pA0_0_0 p0_0_0.length pc0_0_0, .int .i64 p0_0_1, .int .i64 p0_0_2, .slice A81 t83.length c82, .int .u16 p0_1])] ?_
  refine RegI.o (OpE.storeBox 3 37 b7 0 (.agg #[.slice pA0_0_0 p0_0_0.length pc0_0_0, .int .i64 p0_0_1, .int .i64 p0_0_2, .slice A81 t83.length c82, .int .u16 p0_1]) [.slice pA0_0_0 p0_0_0.length pc0_0_0, .int .i64 p0_0_1, .int .i64 p0_0_2, .slice A81 t83.length c82, .int .u16 p0_1] h84 (by kernel_rfl) (by kernel_rfl) rfl (by kernel_rfl) (by kernel_rfl) (by kernel_rfl) ?_)
  intro w86 h87 hk88
  refine RegI.d ?_
  refine RunsI.toRet (by kernel_rfl) ?_
  refine RetI.valW [.cell 2 37] [.agg #[.slice pA0_0_0 p0_0_0.length pc0_0_0, .int .i64 p0_0_1, .int .i64 p0_0_2, .slice A81 t83.length c82, .int .u16 p0_1]] (.agg #[.slice pA0_0_0 p0_0_0.length pc0_0_0, .int .i64 p0_0_1, .int .i64 p0_0_2, .slice A81 t83.length c82, .int .u16 p0_1]) (by kernel_rfl) (ResAt.box 3 37 b7 0 h87 (by kernel_rfl) (by kernel_rfl) rfl (by kernel_rfl) rfl) (by kernel_rfl) ?_
  obtain rfl := Option.some.inj h
  exact ⟨pA0_0_0, pc0_0_0, A81, c82, rfl, h87.pick [1, 5] (by decide)⟩
end

/-! ### charabanc/charabancref30.Digits (function 14) -/
section
def charabancref30_Digits_14.post (M0 : Nat → Prop) (w0 : World) (r : ByteArray) : Ending → World → Prop := fun e w => e = .returned (.string r) ∧ Below w0.heap.size w0 w
def charabancref30_Digits_14.l0 (K : Nat) (p0 : List Int) : Nat → ByteArray → Int → Option ByteArray
 | 0, _, _ => none
 | k + 1, t1, t2 => cond (decide (t2 < (p0.length : Int))) (cond (inR t2 p0.length) (cond (cutR (IntKind.wrap .u8 (Int.tdiv (rdD p0 t2) 16)) (IntKind.wrap .u8 ((IntKind.wrap .u8 (Int.tdiv (rdD p0 t2) 16)) + 1)) (⟨#[48, 49, 50, 51, 52, 53, 54, 55, 56, 57, 97, 98, 99, 100, 101, 102]⟩ : ByteArray).size) (cond (mayCat t1.size (strCut (⟨#[48, 49, 50, 51, 52, 53, 54, 55, 56, 57, 97, 98, 99, 100, 101, 102]⟩ : ByteArray) (IntKind.wrap .u8 (Int.tdiv (rdD p0 t2) 16)) (IntKind.wrap .u8 ((IntKind.wrap .u8 (Int.tdiv (rdD p0 t2) 16)) + 1))).size) (cond (cutR (Int.tmod (rdD p0 t2) 16) (IntKind.wrap .u8 ((Int.tmod (rdD p0 t2) 16) + 1)) (⟨#[48, 49, 50, 51, 52, 53, 54, 55, 56, 57, 97, 98, 99, 100, 101, 102]⟩ : ByteArray).size) (cond (mayCat (t1 ++ (strCut (⟨#[48, 49, 50, 51, 52, 53, 54, 55, 56, 57, 97, 98, 99, 100, 101, 102]⟩ : ByteArray) (IntKind.wrap .u8 (Int.tdiv (rdD p0 t2) 16)) (IntKind.wrap .u8 ((IntKind.wrap .u8 (Int.tdiv (rdD p0 t2) 16)) + 1)))).size (strCut (⟨#[48, 49, 50, 51, 52, 53, 54, 55, 56, 57, 97, 98, 99, 100, 101, 102]⟩ : ByteArray) (Int.tmod (rdD p0 t2) 16) (IntKind.wrap .u8 ((Int.tmod (rdD p0 t2) 16) + 1))).size) (charabancref30_Digits_14.l0 K p0 k ((t1 ++ (strCut (⟨#[48, 49, 50, 51, 52, 53, 54, 55, 56, 57, 97, 98, 99, 100, 101, 102]⟩ : ByteArray) (IntKind.wrap .u8 (Int.tdiv (rdD p0 t2) 16)) (IntKind.wrap .u8 ((IntKind.wrap .u8 (Int.tdiv (rdD p0 t2) 16)) + 1)))) ++ (strCut (⟨#[48, 49, 50, 51, 52, 53, 54, 55, 56, 57, 97, 98, 99, 100, 101, 102]⟩ : ByteArray) (Int.tmod (rdD p0 t2) 16) (IntKind.wrap .u8 ((Int.tmod (rdD p0 t2) 16) + 1)))) (IntKind.wrap .i64 (t2 + 1))) none) none) none) none) none) (some t1)
set_option maxRecDepth 100000 in
theorem charabancref30_Digits_14.l0_ok (K : Nat) (M0 : Nat → Prop) (w0 : World) (pA0 : Option Addr) (pc0 : Nat) (p0 : List Int) (R : Ending → World → Prop) (x : ByteArray) (hk0 : ∀ (t36 : ByteArray) (w1 : World), x = t36 → Holds M0 w0 w1 [] → RunsI F14 [.c 21] [(4, .string t36)] w1 R) :
  ∀ (k : Nat) (t1 : ByteArray) (t2 : Int) (w : World), charabancref30_Digits_14.l0 K p0 k t1 t2 = some x → Holds M0 w0 w [sl (Rp.int .u8) (.slice pA0 p0.length pc0) p0] → RunsI F14 [.c 11, .lp 11, .blk 0, .c 21] [(0, .slice pA0 p0.length pc0), (3, .string (⟨#[48, 49, 50, 51, 52, 53, 54, 55, 56, 57, 97, 98, 99, 100, 101, 102]⟩ : ByteArray)), (4, .string t1), (5, .int .i64 t2)] w R := by
 intro k
 induction k with
 | zero => intro t1 t2 w h hH; exact absurd h (by simp [charabancref30_Digits_14.l0])
 | succ k ih =>
  intro t1 t2 w h hH
  rw [charabancref30_Digits_14.l0.eq_2] at h
  refine RunsI.g 1 [.c 12, .c 17, .lp 11, .blk 0, .c 21] ?_
  refine RunsI.g 1 [.c 13, .c 14, .c 17, .lp 11, .blk 0, .c 21] ?_
  refine RunsI.r ?_
  refine RegI.p 4 [(0, .slice pA0 p0.length pc0), (3, .string (⟨#[48, 49, 50, 51, 52, 53, 54, 55, 56, 57, 97, 98, 99, 100, 101, 102]⟩ : ByteArray)), (4, .string t1), (5, .int .i64 t2), (9, .bool (decide (t2 < (p0.length : Int))))] ?_
  refine RegI.d ?_
  rcases of_cond h with ⟨hc3, h⟩ | ⟨hc3, h⟩
  ·skip
   refine RunsI.f 9 true hc3 ?_
   refine RunsI.b true 15 ?_
   refine RunsI.g 1 [.c 17, .lp 11, .blk 0, .c 21] ?_
   refine RunsI.g 2 [.c 19, .blk 1, .c 20, .lp 11, .blk 0, .c 21] ?_
   refine RunsI.any 30 (by kernel_rfl) (by kernel_rfl) (by kernel_rfl) (Kp ([] : List Nat) (World.drew w)) ?_
   have h5 := hH.drew
   generalize World.drew w = w4 at h5 ⊢
   have hS6 := Kp.refl ([] : List Nat) w4
   refine AnyE.pure 0 12 (.string t1) (by kernel_rfl) hS6 (fun _ => by kernel_rfl) ?_
   refine AnyE.pure 1 13 (.string (⟨#[48, 49, 50, 51, 52, 53, 54, 55, 56, 57, 97, 98, 99, 100, 101, 102]⟩ : ByteArray)) (by kernel_rfl) hS6 (fun _ => by kernel_rfl) ?_
   refine AnyE.pure 2 14 (.slice pA0 p0.length pc0) (by kernel_rfl) hS6 (fun _ => by kernel_rfl) ?_
   refine AnyE.pure 3 15 (.int .i64 t2) (by kernel_rfl) hS6 (fun _ => by kernel_rfl) ?_
   obtain ⟨hc8, h⟩ := of_cond0 h
   refine AnyE.idxSl 4 16 0 22 t2 h5 (by kernel_rfl) hS6 rfl (by kernel_rfl) (by kernel_rfl) hc8 ?_
   intro b9 o10 cs11 hk12 h13
   obtain rfl := hk12
   refine AnyE.loadCel 5 17 1 5 b9 o10 0 (.int .u8 (rdD p0 t2)) [] h13 rfl (by kernel_rfl) hS6 rfl rfl (by kernel_rfl) (by kernel_rfl) ?_
   refine AnyE.pure 6 18 (.int .u8 (IntKind.wrap .u8 (Int.tdiv (rdD p0 t2) 16))) (by kernel_rfl) hS6 (fun _ => by kernel_rfl) ?_
   refine AnyE.pure 7 19 (.slice pA0 p0.length pc0) (by kernel_rfl) hS6 (fun _ => by kernel_rfl) ?_
   refine AnyE.pure 8 20 (.int .i64 t2) (by kernel_rfl) hS6 (fun _ => by kernel_rfl) ?_
   refine AnyE.idxSl 9 21 0 22 t2 h13 (by kernel_rfl) hS6 rfl (by kernel_rfl) (by kernel_rfl) hc8 ?_
   intro b14 o15 cs16 hk17 h18
   obtain rfl := hk17
   refine AnyE.loadCel 10 22 2 5 b14 o15 0 (.int .u8 (rdD p0 t2)) [] h18 rfl (by kernel_rfl) hS6 rfl rfl (by kernel_rfl) (by kernel_rfl) ?_
   refine AnyE.pure 11 23 (.int .u8 (IntKind.wrap .u8 (Int.tdiv (rdD p0 t2) 16))) (by kernel_rfl) hS6 (fun _ => by kernel_rfl) ?_
   refine AnyE.pure 12 24 (.int .u8 (IntKind.wrap .u8 ((IntKind.wrap .u8 (Int.tdiv (rdD p0 t2) 16)) + 1))) (by kernel_rfl) hS6 (fun _ => by kernel_rfl) ?_
   obtain ⟨hc19, h⟩ := of_cond0 h
   refine AnyE.run 13 25 (.string (strCut (⟨#[48, 49, 50, 51, 52, 53, 54, 55, 56, 57, 97, 98, 99, 100, 101, 102]⟩ : ByteArray) (IntKind.wrap .u8 (Int.tdiv (rdD p0 t2) 16)) (IntKind.wrap .u8 ((IntKind.wrap .u8 (Int.tdiv (rdD p0 t2) 16)) + 1)))) (by kernel_rfl) hS6 (fun _ hk => run_strCut (T := 9) (s := (⟨#[48, 49, 50, 51, 52, 53, 54, 55, 56, 57, 97, 98, 99, 100, 101, 102]⟩ : ByteArray)) (lo := (some (IntKind.wrap .u8 (Int.tdiv (rdD p0 t2) 16)))) (hi := (some (IntKind.wrap .u8 ((IntKind.wrap .u8 (Int.tdiv (rdD p0 t2) 16)) + 1)))) (by kernel_rfl) (by kernel_rfl) hc19) ?_
   obtain ⟨hc20, h⟩ := of_cond0 h
   refine AnyE.run 14 26 (.string (t1 ++ (strCut (⟨#[48, 49, 50, 51, 52, 53, 54, 55, 56, 57, 97, 98, 99, 100, 101, 102]⟩ : ByteArray) (IntKind.wrap .u8 (Int.tdiv (rdD p0 t2) 16)) (IntKind.wrap .u8 ((IntKind.wrap .u8 (Int.tdiv (rdD p0 t2) 16)) + 1))))) (by kernel_rfl) hS6 (fun _ hk => run_cat (a := t1) (b := (strCut (⟨#[48, 49, 50, 51, 52, 53, 54, 55, 56, 57, 97, 98, 99, 100, 101, 102]⟩ : ByteArray) (IntKind.wrap .u8 (Int.tdiv (rdD p0 t2) 16)) (IntKind.wrap .u8 ((IntKind.wrap .u8 (Int.tdiv (rdD p0 t2) 16)) + 1)))) (by kernel_rfl) hc20) ?_
   refine AnyE.pure 15 27 (.string (⟨#[48, 49, 50, 51, 52, 53, 54, 55, 56, 57, 97, 98, 99, 100, 101, 102]⟩ : ByteArray)) (by kernel_rfl) hS6 (fun _ => by kernel_rfl) ?_
   refine AnyE.pure 16 28 (.slice pA0 p0.length pc0) (by kernel_rfl) hS6 (fun _ => by kernel_rfl) ?_
   refine AnyE.pure 17 29 (.int .i64 t2) (by kernel_rfl) hS6 (fun _ => by kernel_rfl) ?_
   refine AnyE.idxSl 18 30 0 22 t2 h18 (by kernel_rfl) hS6 rfl (by kernel_rfl) (by kernel_rfl) hc8 ?_
   intro b21 o22 cs23 hk24 h25
   obtain rfl := hk24
   refine AnyE.loadCel 19 31 3 5 b21 o22 0 (.int .u8 (rdD p0 t2)) [] h25 rfl (by kernel_rfl) hS6 rfl rfl (by kernel_rfl) (by kernel_rfl) ?_
   refine AnyE.pure 20 32 (.int .u8 (Int.tmod (rdD p0 t2) 16)) (by kernel_rfl) hS6 (fun _ => by kernel_rfl) ?_
   refine AnyE.pure 21 33 (.slice pA0 p0.length pc0) (by kernel_rfl) hS6 (fun _ => by kernel_rfl) ?_
   refine AnyE.pure 22 34 (.int .i64 t2) (by kernel_rfl) hS6 (fun _ => by kernel_rfl) ?_
   refine AnyE.idxSl 23 35 0 22 t2 h25 (by kernel_rfl) hS6 rfl (by kernel_rfl) (by kernel_rfl) hc8 ?_
   intro b26 o27 cs28 hk29 h30
   obtain rfl := hk29
   refine AnyE.loadCel 24 36 4 5 b26 o27 0 (.int .u8 (rdD p0 t2)) [] h30 rfl (by kernel_rfl) hS6 rfl rfl (by kernel_rfl) (by kernel_rfl) ?_
   refine AnyE.pure 25 37 (.int .u8 (Int.tmod (rdD p0 t2) 16)) (by kernel_rfl) hS6 (fun _ => by kernel_rfl) ?_
   refine AnyE.pure 26 38 (.int .u8 (IntKind.wrap .u8 ((Int.tmod (rdD p0 t2) 16) + 1))) (by kernel_rfl) hS6 (fun _ => by kernel_rfl) ?_
   obtain ⟨hc31, h⟩ := of_cond0 h
   refine AnyE.run 27 39 (.string (strCut (⟨#[48, 49, 50, 51, 52, 53, 54, 55, 56, 57, 97, 98, 99, 100, 101, 102]⟩ : ByteArray) (Int.tmod (rdD p0 t2) 16) (IntKind.wrap .u8 ((Int.tmod (rdD p0 t2) 16) + 1)))) (by kernel_rfl) hS6 (fun _ hk => run_strCut (T := 9) (s := (⟨#[48, 49, 50, 51, 52, 53, 54, 55, 56, 57, 97, 98, 99, 100, 101, 102]⟩ : ByteArray)) (lo := (some (Int.tmod (rdD p0 t2) 16))) (hi := (some (IntKind.wrap .u8 ((Int.tmod (rdD p0 t2) 16) + 1)))) (by kernel_rfl) (by kernel_rfl) hc31) ?_
   obtain ⟨hc32, h⟩ := of_cond0 h
   refine AnyE.run 28 40 (.string ((t1 ++ (strCut (⟨#[48, 49, 50, 51, 52, 53, 54, 55, 56, 57, 97, 98, 99, 100, 101, 102]⟩ : ByteArray) (IntKind.wrap .u8 (Int.tdiv (rdD p0 t2) 16)) (IntKind.wrap .u8 ((IntKind.wrap .u8 (Int.tdiv (rdD p0 t2) 16)) + 1)))) ++ (strCut (⟨#[48, 49, 50, 51, 52, 53, 54, 55, 56, 57, 97, 98, 99, 100, 101, 102]⟩ : ByteArray) (Int.tmod (rdD p0 t2) 16) (IntKind.wrap .u8 ((Int.tmod (rdD p0 t2) 16) + 1))))) (by kernel_rfl) hS6 (fun _ hk => run_cat (a := (t1 ++ (strCut (⟨#[48, 49, 50, 51, 52, 53, 54, 55, 56, 57, 97, 98, 99, 100, 101, 102]⟩ : ByteArray) (IntKind.wrap .u8 (Int.tdiv (rdD p0 t2) 16)) (IntKind.wrap .u8 ((IntKind.wrap .u8 (Int.tdiv (rdD p0 t2) 16)) + 1))))) (b := (strCut (⟨#[48, 49, 50, 51, 52, 53, 54, 55, 56, 57, 97, 98, 99, 100, 101, 102]⟩ : ByteArray) (Int.tmod (rdD p0 t2) 16) (IntKind.wrap .u8 ((Int.tmod (rdD p0 t2) 16) + 1)))) (by kernel_rfl) hc32) ?_
   refine AnyE.pure 29 4 (.string ((t1 ++ (strCut (⟨#[48, 49, 50, 51, 52, 53, 54, 55, 56, 57, 97, 98, 99, 100, 101, 102]⟩ : ByteArray) (IntKind.wrap .u8 (Int.tdiv (rdD p0 t2) 16)) (IntKind.wrap .u8 ((IntKind.wrap .u8 (Int.tdiv (rdD p0 t2) 16)) + 1)))) ++ (strCut (⟨#[48, 49, 50, 51, 52, 53, 54, 55, 56, 57, 97, 98, 99, 100, 101, 102]⟩ : ByteArray) (Int.tmod (rdD p0 t2) 16) (IntKind.wrap .u8 ((Int.tmod (rdD p0 t2) 16) + 1))))) (by kernel_rfl) hS6 (fun _ => by kernel_rfl) ?_
   refine AnyE.done (by kernel_rfl) (fun w33 hu34 => ?_)
   have h35 := h30.call hu34
   refine RunsI.l [0, 3, 4, 5] [(0, .slice pA0 p0.length pc0), (3, .string (⟨#[48, 49, 50, 51, 52, 53, 54, 55, 56, 57, 97, 98, 99, 100, 101, 102]⟩ : ByteArray)), (4, .string ((t1 ++ (strCut (⟨#[48, 49, 50, 51, 52, 53, 54, 55, 56, 57, 97, 98, 99, 100, 101, 102]⟩ : ByteArray) (IntKind.wrap .u8 (Int.tdiv (rdD p0 t2) 16)) (IntKind.wrap .u8 ((IntKind.wrap .u8 (Int.tdiv (rdD p0 t2) 16)) + 1)))) ++ (strCut (⟨#[48, 49, 50, 51, 52, 53, 54, 55, 56, 57, 97, 98, 99, 100, 101, 102]⟩ : ByteArray) (Int.tmod (rdD p0 t2) 16) (IntKind.wrap .u8 ((Int.tmod (rdD p0 t2) 16) + 1))))), (5, .int .i64 t2)] ?_
   refine RunsI.g 1 [.c 20, .lp 11, .blk 0, .c 21] ?_
   refine RunsI.r ?_
   refine RegI.p 3 [(0, .slice pA0 p0.length pc0), (3, .string (⟨#[48, 49, 50, 51, 52, 53, 54, 55, 56, 57, 97, 98, 99, 100, 101, 102]⟩ : ByteArray)), (4, .string ((t1 ++ (strCut (⟨#[48, 49, 50, 51, 52, 53, 54, 55, 56, 57, 97, 98, 99, 100, 101, 102]⟩ : ByteArray) (IntKind.wrap .u8 (Int.tdiv (rdD p0 t2) 16)) (IntKind.wrap .u8 ((IntKind.wrap .u8 (Int.tdiv (rdD p0 t2) 16)) + 1)))) ++ (strCut (⟨#[48, 49, 50, 51, 52, 53, 54, 55, 56, 57, 97, 98, 99, 100, 101, 102]⟩ : ByteArray) (Int.tmod (rdD p0 t2) 16) (IntKind.wrap .u8 ((Int.tmod (rdD p0 t2) 16) + 1))))), (5, .int .i64 (IntKind.wrap .i64 (t2 + 1)))] ?_
   refine RegI.d ?_
   refine RunsI.g 1 [.c 11, .lp 11, .blk 0, .c 21] ?_
   refine RunsI.l [0, 3, 4, 5] [(0, .slice pA0 p0.length pc0), (3, .string (⟨#[48, 49, 50, 51, 52, 53, 54, 55, 56, 57, 97, 98, 99, 100, 101, 102]⟩ : ByteArray)), (4, .string ((t1 ++ (strCut (⟨#[48, 49, 50, 51, 52, 53, 54, 55, 56, 57, 97, 98, 99, 100, 101, 102]⟩ : ByteArray) (IntKind.wrap .u8 (Int.tdiv (rdD p0 t2) 16)) (IntKind.wrap .u8 ((IntKind.wrap .u8 (Int.tdiv (rdD p0 t2) 16)) + 1)))) ++ (strCut (⟨#[48, 49, 50, 51, 52, 53, 54, 55, 56, 57, 97, 98, 99, 100, 101, 102]⟩ : ByteArray) (Int.tmod (rdD p0 t2) 16) (IntKind.wrap .u8 ((Int.tmod (rdD p0 t2) 16) + 1))))), (5, .int .i64 (IntKind.wrap .i64 (t2 + 1)))] ?_
   exact ih ((t1 ++ (strCut (⟨#[48, 49, 50, 51, 52, 53, 54, 55, 56, 57, 97, 98, 99, 100, 101, 102]⟩ : ByteArray) (IntKind.wrap .u8 (Int.tdiv (rdD p0 t2) 16)) (IntKind.wrap .u8 ((IntKind.wrap .u8 (Int.tdiv (rdD p0 t2) 16)) + 1)))) ++ (strCut (⟨#[48, 49, 50, 51, 52, 53, 54, 55, 56, 57, 97, 98, 99, 100, 101, 102]⟩ : ByteArray) (Int.tmod (rdD p0 t2) 16) (IntKind.wrap .u8 ((Int.tmod (rdD p0 t2) 16) + 1)))) (IntKind.wrap .i64 (t2 + 1)) w33 h (h35.pick [0] (by decide))
  ·skip
   refine RunsI.f 9 false hc3 ?_
   refine RunsI.b false 16 ?_
   refine RunsI.g 1 [.c 21] ?_
   refine RunsI.l [4] [(4, .string t1)] ?_
   exact hk0 t1 w (Option.some.inj h).symm (hH.pick [] (by decide))
def charabancref30_Digits_14.f (K : Nat) (p0 : List Int) : Option ByteArray := (charabancref30_Digits_14.l0 K p0 K (⟨#[]⟩ : ByteArray) 0).bind (fun t39 => some t39)
set_option maxRecDepth 100000 in
theorem charabancref30_Digits_14_ok (K : Nat) (M0 : Nat → Prop) (w0 : World) (pA0 : Option Addr) (pc0 : Nat) (p0 : List Int) (ho : ∀ b, M0 b → b < w0.heap.size) (hs0 : Sl (Rp.int .u8) w0 M0 (.slice pA0 p0.length pc0) p0) {r : ByteArray} (h : charabancref30_Digits_14.f K p0 = some r) :
  Calls Tryd.prog 14 #[.slice pA0 p0.length pc0] w0 (charabancref30_Digits_14.post M0 w0 r) := by
 unfold charabancref30_Digits_14.f at h
 have h0 : Holds M0 w0 w0 [] := Holds.start ho
 have h00 := h0.addSl (Rp.int .u8) (.slice pA0 p0.length pc0) p0 (hs0.mono (fun _ _ hm => hm.elim id (fun hm => absurd hm (by simp [mines, sl]))))
 have h0 : Holds M0 w0 w0 [sl (Rp.int .u8) (.slice pA0 p0.length pc0) p0] := h00
 refine calls_of F14 rfl [.slice pA0 p0.length pc0] (by kernel_rfl) ?_
 refine RunsI.g 1 [.c 1, .c 2] ?_
 refine RunsI.r ?_
 refine RegI.p 1 [(0, .slice pA0 p0.length pc0)] ?_
 refine RegI.d ?_
 refine RunsI.g 1 [.c 3, .c 4] ?_
 refine RunsI.r ?_
 refine RegI.p 1 [(0, .slice pA0 p0.length pc0), (3, .string (⟨#[48, 49, 50, 51, 52, 53, 54, 55, 56, 57, 97, 98, 99, 100, 101, 102]⟩ : ByteArray))] ?_
 refine RegI.d ?_
 refine RunsI.g 1 [.c 5, .c 6] ?_
 refine RunsI.r ?_
 refine RegI.p 1 [(0, .slice pA0 p0.length pc0), (3, .string (⟨#[48, 49, 50, 51, 52, 53, 54, 55, 56, 57, 97, 98, 99, 100, 101, 102]⟩ : ByteArray)), (4, .string (⟨#[]⟩ : ByteArray))] ?_
 refine RegI.d ?_
 refine RunsI.g 2 [.c 8, .c 9, .c 21] ?_
 refine RunsI.r ?_
 refine RegI.p 1 [(0, .slice pA0 p0.length pc0), (3, .string (⟨#[48, 49, 50, 51, 52, 53, 54, 55, 56, 57, 97, 98, 99, 100, 101, 102]⟩ : ByteArray)), (4, .string (⟨#[]⟩ : ByteArray)), (5, .int .i64 0)] ?_
 refine RegI.d ?_
 refine RunsI.g 2 [.c 11, .lp 11, .blk 0, .c 21] ?_
 obtain ⟨x37, hx38, h⟩ := of_bind h
 refine RunsI.l [0, 3, 4, 5] [(0, .slice pA0 p0.length pc0), (3, .string (⟨#[48, 49, 50, 51, 52, 53, 54, 55, 56, 57, 97, 98, 99, 100, 101, 102]⟩ : ByteArray)), (4, .string (⟨#[]⟩ : ByteArray)), (5, .int .i64 0)] ?_
 refine charabancref30_Digits_14.l0_ok K M0 w0 pA0 pc0 p0 _ x37 ?_ K (⟨#[]⟩ : ByteArray) 0 w0 hx38 (h0.pick [0] (by decide))
 ·intro t39 w41 hq42 h40
  (try rw [hq42] at h)
  refine RunsI.g 1 [.c 22, .c 23] ?_
  refine RunsI.r ?_
  refine RegI.p 2 [(2, .string t39)] ?_
  refine RegI.d ?_
  refine RunsI.t (.string t39) ?_
  obtain rfl := Option.some.inj h
  exact ⟨rfl, h40.below⟩
end

/-! ### charabanc/charabanclaw30.few (function 15) -/
section
def charabanclaw30_few_15.post (M0 : Nat → Prop) (w0 : World) (r : Bool) : Ending → World → Prop := fun e w => e = .returned (.bool r) ∧ Below w0.heap.size w0 w
def charabanclaw30_few_15.f (K : Nat) (p0_0_0 : List Int) (p0_0_1 : Int) (p0_0_2 : Int) (p0_0_3 : List (Int × Int)) (p0_1 : Int) : Option Bool := cond (decide ((p0_0_0.length : Int) ≤ 200)) (some (decide ((p0_0_3.length : Int) ≤ 60))) (some false)
set_option maxRecDepth 100000 in
theorem charabanclaw30_few_15_ok (K : Nat) (M0 : Nat → Prop) (w0 : World) (pA0_0_0 : Option Addr) (pc0_0_0 : Nat) (pA0_0_3 : Option Addr) (pc0_0_3 : Nat) (p0_0_0 : List Int) (p0_0_1 : Int) (p0_0_2 : Int) (p0_0_3 : List (Int × Int)) (p0_1 : Int) (ho : ∀ b, M0 b → b < w0.heap.size) (hs0_0_0 : Sl (Rp.int .u8) w0 M0 (.slice pA0_0_0 p0_0_0.length pc0_0_0) p0_0_0) (hs0_0_3 : Sl (Rp.pair (Rp.int .i64) (Rp.int .u8)) w0 M0 (.slice pA0_0_3 p0_0_3.length pc0_0_3) p0_0_3) {r : Bool} (h : charabanclaw30_few_15.f K p0_0_0 p0_0_1 p0_0_2 p0_0_3 p0_1 = some r) :
  Calls Tryd.prog 15 #[.agg #[.slice pA0_0_0 p0_0_0.length pc0_0_0, .int .i64 p0_0_1, .int .i64 p0_0_2, .slice pA0_0_3 p0_0_3.length pc0_0_3, .int .u16 p0_1]] w0 (charabanclaw30_few_15.post M0 w0 r) := by
 unfold charabanclaw30_few_15.f at h
 have h0 : Holds M0 w0 w0 [] := Holds.start ho
 have h00_0_0 := h0.addSl (Rp.int .u8) (.slice pA0_0_0 p0_0_0.length pc0_0_0) p0_0_0 (hs0_0_0.mono (fun _ _ hm => hm.elim id (fun hm => absurd hm (by simp [mines, sl]))))
 have h00_0_3 := h00_0_0.addSl (Rp.pair (Rp.int .i64) (Rp.int .u8)) (.slice pA0_0_3 p0_0_3.length pc0_0_3) p0_0_3 (hs0_0_3.mono (fun _ _ hm => hm.elim id (fun hm => absurd hm (by simp [mines, sl]))))
 have h0 : Holds M0 w0 w0 [sl (Rp.int .u8) (.slice pA0_0_0 p0_0_0.length pc0_0_0) p0_0_0, sl (Rp.pair (Rp.int .i64) (Rp.int .u8)) (.slice pA0_0_3 p0_0_3.length pc0_0_3) p0_0_3] := h00_0_3
 refine calls_of F15 rfl [.agg #[.slice pA0_0_0 p0_0_0.length pc0_0_0, .int .i64 p0_0_1, .int .i64 p0_0_2, .slice pA0_0_3 p0_0_3.length pc0_0_3, .int .u16 p0_1]] (by kernel_rfl) ?_
 refine RunsI.g 1 [.c 1, .c 2] ?_
 refine RunsI.r ?_
 refine RegI.o (OpE.box 1 29 [.slice pA0_0_0 p0_0_0.length pc0_0_0, .int .i64 p0_0_1, .int .i64 p0_0_2, .slice pA0_0_3 p0_0_3.length pc0_0_3, .int .u16 p0_1] h0 (by kernel_rfl) (by kernel_rfl) ?_)
 intro w1 b2 h3 hb4 hn5
 refine RegI.p 1 [(1, .pointer (some ⟨b2, 0, none⟩))] ?_
 refine RegI.d ?_
 refine RunsI.g 1 [.c 3, .c 4] ?_
 refine RunsI.r ?_
 refine RegI.p 2 [(1, .pointer (some ⟨b2, 0, none⟩)), (4, .pointer (some ⟨b2, 0, none⟩))] ?_
 refine RegI.o (OpE.loadBox 5 2 22 b2 0 (.slice pA0_0_0 p0_0_0.length pc0_0_0) h3 (by kernel_rfl) (by kernel_rfl) rfl (by kernel_rfl) ?_)
 refine RegI.p 3 [(1, .pointer (some ⟨b2, 0, none⟩)), (8, .bool (decide ((p0_0_0.length : Int) ≤ 200)))] ?_
 rcases of_cond h with ⟨hc6, h⟩ | ⟨hc6, h⟩
 ·skip
  refine RegI.f 8 true hc6 ?_
  refine RegI.p 2 [(8, .bool true), (10, .pointer (some ⟨b2, 3, none⟩))] ?_
  refine RegI.o (OpE.loadBox 11 2 24 b2 3 (.slice pA0_0_3 p0_0_3.length pc0_0_3) h3 (by kernel_rfl) (by kernel_rfl) rfl (by kernel_rfl) ?_)
  refine RegI.p 4 [(2, .bool (decide ((p0_0_3.length : Int) ≤ 60)))] ?_
  refine RegI.d ?_
  refine RunsI.t (.bool (decide ((p0_0_3.length : Int) ≤ 60))) ?_
  obtain rfl := Option.some.inj h
  exact ⟨rfl, h3.below⟩
 ·skip
  refine RegI.f 8 false hc6 ?_
  refine RegI.p 7 [(2, .bool false)] ?_
  refine RegI.d ?_
  refine RunsI.t (.bool false) ?_
  obtain rfl := Option.some.inj h
  exact ⟨rfl, h3.below⟩
end

/-! ### charabanc/charabancref30.hex (function 32) -/
section
def charabancref30_hex_32.post (M0 : Nat → Prop) (w0 : World) (r : ByteArray) : Ending → World → Prop := fun e w => e = .returned (.string r) ∧ Below w0.heap.size w0 w
def charabancref30_hex_32.l0 (K : Nat) (p0 : Int) (p1 : Int) : Nat → Int → ByteArray → Int → Option ByteArray
 | 0, _, _, _ => none
 | k + 1, t1, t2, t3 => cond (decide (t3 < p1)) (cond (cutR (Int.tmod t1 16) (IntKind.wrap .i64 ((Int.tmod t1 16) + 1)) (⟨#[48, 49, 50, 51, 52, 53, 54, 55, 56, 57, 97, 98, 99, 100, 101, 102]⟩ : ByteArray).size) (cond (mayCat (strCut (⟨#[48, 49, 50, 51, 52, 53, 54, 55, 56, 57, 97, 98, 99, 100, 101, 102]⟩ : ByteArray) (Int.tmod t1 16) (IntKind.wrap .i64 ((Int.tmod t1 16) + 1))).size t2.size) (charabancref30_hex_32.l0 K p0 p1 k (IntKind.wrap .i64 (Int.tdiv t1 16)) ((strCut (⟨#[48, 49, 50, 51, 52, 53, 54, 55, 56, 57, 97, 98, 99, 100, 101, 102]⟩ : ByteArray) (Int.tmod t1 16) (IntKind.wrap .i64 ((Int.tmod t1 16) + 1))) ++ t2) (IntKind.wrap .i64 (t3 + 1))) none) none) (some t2)
set_option maxRecDepth 100000 in
theorem charabancref30_hex_32.l0_ok (K : Nat) (M0 : Nat → Prop) (w0 : World) (p0 : Int) (p1 : Int) (R : Ending → World → Prop) (x : ByteArray) (hk0 : ∀ (t7 : ByteArray) (w1 : World), x = t7 → Holds M0 w0 w1 [] → RunsI F32 [.c 21] [(5, .string t7)] w1 R) :
  ∀ (k : Nat) (t1 : Int) (t2 : ByteArray) (t3 : Int) (w : World), charabancref30_hex_32.l0 K p0 p1 k t1 t2 t3 = some x → Holds M0 w0 w [] → RunsI F32 [.c 9, .lp 9, .blk 0, .c 21] [(0, .int .i64 t1), (1, .int .i64 p1), (5, .string t2), (6, .int .i64 t3)] w R := by
 intro k
 induction k with
 | zero => intro t1 t2 t3 w h hH; exact absurd h (by simp [charabancref30_hex_32.l0])
 | succ k ih =>
  intro t1 t2 t3 w h hH
  rw [charabancref30_hex_32.l0.eq_2] at h
  refine RunsI.g 1 [.c 10, .c 15, .lp 9, .blk 0, .c 21] ?_
  refine RunsI.g 1 [.c 11, .c 12, .c 15, .lp 9, .blk 0, .c 21] ?_
  refine RunsI.r ?_
  refine RegI.p 3 [(0, .int .i64 t1), (1, .int .i64 p1), (5, .string t2), (6, .int .i64 t3), (9, .bool (decide (t3 < p1)))] ?_
  refine RegI.d ?_
  rcases of_cond h with ⟨hc4, h⟩ | ⟨hc4, h⟩
  ·skip
   refine RunsI.f 9 true hc4 ?_
   refine RunsI.b true 13 ?_
   refine RunsI.g 1 [.c 15, .lp 9, .blk 0, .c 21] ?_
   refine RunsI.g 3 [.c 18, .c 19, .blk 1, .c 20, .lp 9, .blk 0, .c 21] ?_
   refine RunsI.r ?_
   refine RegI.p 5 [(0, .int .i64 t1), (1, .int .i64 p1), (5, .string t2), (6, .int .i64 t3), (13, .int .i64 (Int.tmod t1 16)), (16, .int .i64 (IntKind.wrap .i64 ((Int.tmod t1 16) + 1)))] ?_
   obtain ⟨hc5, h⟩ := of_cond0 h
   refine RegI.o (OpE.run 17 (by kernel_rfl) (run_strCut (T := 9) (s := (⟨#[48, 49, 50, 51, 52, 53, 54, 55, 56, 57, 97, 98, 99, 100, 101, 102]⟩ : ByteArray)) (lo := (some (Int.tmod t1 16))) (hi := (some (IntKind.wrap .i64 ((Int.tmod t1 16) + 1)))) (by kernel_rfl) (by kernel_rfl) hc5) ?_)
   refine RegI.p 1 [(0, .int .i64 t1), (1, .int .i64 p1), (6, .int .i64 t3), (17, .string (strCut (⟨#[48, 49, 50, 51, 52, 53, 54, 55, 56, 57, 97, 98, 99, 100, 101, 102]⟩ : ByteArray) (Int.tmod t1 16) (IntKind.wrap .i64 ((Int.tmod t1 16) + 1)))), (18, .string t2)] ?_
   obtain ⟨hc6, h⟩ := of_cond0 h
   refine RegI.o (OpE.run 19 (by kernel_rfl) (run_cat (a := (strCut (⟨#[48, 49, 50, 51, 52, 53, 54, 55, 56, 57, 97, 98, 99, 100, 101, 102]⟩ : ByteArray) (Int.tmod t1 16) (IntKind.wrap .i64 ((Int.tmod t1 16) + 1)))) (b := t2) (by kernel_rfl) hc6) ?_)
   refine RegI.p 1 [(0, .int .i64 t1), (1, .int .i64 p1), (5, .string ((strCut (⟨#[48, 49, 50, 51, 52, 53, 54, 55, 56, 57, 97, 98, 99, 100, 101, 102]⟩ : ByteArray) (Int.tmod t1 16) (IntKind.wrap .i64 ((Int.tmod t1 16) + 1))) ++ t2)), (6, .int .i64 t3)] ?_
   refine RegI.d ?_
   refine RunsI.r ?_
   refine RegI.p 3 [(0, .int .i64 (IntKind.wrap .i64 (Int.tdiv t1 16))), (1, .int .i64 p1), (5, .string ((strCut (⟨#[48, 49, 50, 51, 52, 53, 54, 55, 56, 57, 97, 98, 99, 100, 101, 102]⟩ : ByteArray) (Int.tmod t1 16) (IntKind.wrap .i64 ((Int.tmod t1 16) + 1))) ++ t2)), (6, .int .i64 t3)] ?_
   refine RegI.d ?_
   refine RunsI.g 1 [.c 20, .lp 9, .blk 0, .c 21] ?_
   refine RunsI.r ?_
   refine RegI.p 3 [(0, .int .i64 (IntKind.wrap .i64 (Int.tdiv t1 16))), (1, .int .i64 p1), (5, .string ((strCut (⟨#[48, 49, 50, 51, 52, 53, 54, 55, 56, 57, 97, 98, 99, 100, 101, 102]⟩ : ByteArray) (Int.tmod t1 16) (IntKind.wrap .i64 ((Int.tmod t1 16) + 1))) ++ t2)), (6, .int .i64 (IntKind.wrap .i64 (t3 + 1)))] ?_
   refine RegI.d ?_
   refine RunsI.g 1 [.c 9, .lp 9, .blk 0, .c 21] ?_
   refine RunsI.l [0, 1, 5, 6] [(0, .int .i64 (IntKind.wrap .i64 (Int.tdiv t1 16))), (1, .int .i64 p1), (5, .string ((strCut (⟨#[48, 49, 50, 51, 52, 53, 54, 55, 56, 57, 97, 98, 99, 100, 101, 102]⟩ : ByteArray) (Int.tmod t1 16) (IntKind.wrap .i64 ((Int.tmod t1 16) + 1))) ++ t2)), (6, .int .i64 (IntKind.wrap .i64 (t3 + 1)))] ?_
   exact ih (IntKind.wrap .i64 (Int.tdiv t1 16)) ((strCut (⟨#[48, 49, 50, 51, 52, 53, 54, 55, 56, 57, 97, 98, 99, 100, 101, 102]⟩ : ByteArray) (Int.tmod t1 16) (IntKind.wrap .i64 ((Int.tmod t1 16) + 1))) ++ t2) (IntKind.wrap .i64 (t3 + 1)) w h (hH.pick [] (by decide))
  ·skip
   refine RunsI.f 9 false hc4 ?_
   refine RunsI.b false 14 ?_
   refine RunsI.g 1 [.c 21] ?_
   refine RunsI.l [5] [(5, .string t2)] ?_
   exact hk0 t2 w (Option.some.inj h).symm (hH.pick [] (by decide))
def charabancref30_hex_32.f (K : Nat) (p0 : Int) (p1 : Int) : Option ByteArray := (charabancref30_hex_32.l0 K p0 p1 K p0 (⟨#[]⟩ : ByteArray) 0).bind (fun t10 => some t10)
set_option maxRecDepth 100000 in
theorem charabancref30_hex_32_ok (K : Nat) (M0 : Nat → Prop) (w0 : World) (p0 : Int) (p1 : Int) (ho : ∀ b, M0 b → b < w0.heap.size) {r : ByteArray} (h : charabancref30_hex_32.f K p0 p1 = some r) :
  Calls Tryd.prog 32 #[.int .i64 p0, .int .i64 p1] w0 (charabancref30_hex_32.post M0 w0 r) := by
 unfold charabancref30_hex_32.f at h
 have h0 : Holds M0 w0 w0 [] := Holds.start ho
 have h0 : Holds M0 w0 w0 [] := h0
 refine calls_of F32 rfl [.int .i64 p0, .int .i64 p1] (by kernel_rfl) ?_
 refine RunsI.g 1 [.c 1, .c 2] ?_
 refine RunsI.r ?_
 refine RegI.p 1 [(0, .int .i64 p0), (1, .int .i64 p1)] ?_
 refine RegI.d ?_
 refine RunsI.g 1 [.c 3, .c 4] ?_
 refine RunsI.r ?_
 refine RegI.p 1 [(0, .int .i64 p0), (1, .int .i64 p1), (5, .string (⟨#[]⟩ : ByteArray))] ?_
 refine RegI.d ?_
 refine RunsI.g 2 [.c 6, .c 7, .c 21] ?_
 refine RunsI.r ?_
 refine RegI.p 1 [(0, .int .i64 p0), (1, .int .i64 p1), (5, .string (⟨#[]⟩ : ByteArray)), (6, .int .i64 0)] ?_
 refine RegI.d ?_
 refine RunsI.g 2 [.c 9, .lp 9, .blk 0, .c 21] ?_
 obtain ⟨x8, hx9, h⟩ := of_bind h
 refine RunsI.l [0, 1, 5, 6] [(0, .int .i64 p0), (1, .int .i64 p1), (5, .string (⟨#[]⟩ : ByteArray)), (6, .int .i64 0)] ?_
 refine charabancref30_hex_32.l0_ok K M0 w0 p0 p1 _ x8 ?_ K p0 (⟨#[]⟩ : ByteArray) 0 w0 hx9 (h0.pick [] (by decide))
 ·intro t10 w12 hq13 h11
  (try rw [hq13] at h)
  refine RunsI.g 1 [.c 22, .c 23] ?_
  refine RunsI.r ?_
  refine RegI.p 2 [(4, .string t10)] ?_
  refine RegI.d ?_
  refine RunsI.t (.string t10) ?_
  obtain rfl := Option.some.inj h
  exact ⟨rfl, h11.below⟩
end

/-! ### charabanc/charabancref30.Show (function 17) -/
section
def charabancref30_Show_17.post (M0 : Nat → Prop) (w0 : World) (r : ByteArray) : Ending → World → Prop := fun e w => e = .returned (.string r) ∧ Below w0.heap.size w0 w
def charabancref30_Show_17.l0 (K : Nat) (p0_0_0 : List Int) (p0_0_1 : Int) (p0_0_2 : Int) (p0_0_3 : List (Int × Int)) (p0_1 : Int) : Nat → ByteArray → Int → Option ByteArray
 | 0, _, _ => none
 | k + 1, t32, t33 => cond (decide (t33 < (p0_0_0.length : Int))) (cond (mayCat t32.size (⟨#[114, 111, 109, 32]⟩ : ByteArray).size) (cond (cutR t33 (if (p0_0_0.length : Int) < (IntKind.wrap .i64 (t33 + 16)) then (p0_0_0.length : Int) else (IntKind.wrap .i64 (t33 + 16))) p0_0_0.length) ((charabancref30_Digits_14.f K (cutL p0_0_0 t33 (if (p0_0_0.length : Int) < (IntKind.wrap .i64 (t33 + 16)) then (p0_0_0.length : Int) else (IntKind.wrap .i64 (t33 + 16))))).bind fun t44 => cond (mayCat (t32 ++ (⟨#[114, 111, 109, 32]⟩ : ByteArray)).size t44.size) (cond (mayCat ((t32 ++ (⟨#[114, 111, 109, 32]⟩ : ByteArray)) ++ t44).size (⟨#[10]⟩ : ByteArray).size) (charabancref30_Show_17.l0 K p0_0_0 p0_0_1 p0_0_2 p0_0_3 p0_1 k (((t32 ++ (⟨#[114, 111, 109, 32]⟩ : ByteArray)) ++ t44) ++ (⟨#[10]⟩ : ByteArray)) (IntKind.wrap .i64 (t33 + 16))) none) none) none) none) (some t32)
set_option maxRecDepth 100000 in
theorem charabancref30_Show_17.l0_ok (K : Nat) (M0 : Nat → Prop) (w0 : World) (pA0_0_0 : Option Addr) (pc0_0_0 : Nat) (pA0_0_3 : Option Addr) (pc0_0_3 : Nat) (p0_0_0 : List Int) (p0_0_1 : Int) (p0_0_2 : Int) (p0_0_3 : List (Int × Int)) (p0_1 : Int) (b31 : Nat) (R : Ending → World → Prop) (x : ByteArray) (hk0 : ∀ (t47 : ByteArray) (w1 : World), x = t47 → Holds M0 w0 w1 [box b31 37 [.slice pA0_0_0 p0_0_0.length pc0_0_0, .int .i64 p0_0_1, .int .i64 p0_0_2, .slice pA0_0_3 p0_0_3.length pc0_0_3, .int .u16 p0_1], sl (Rp.int .u8) (.slice pA0_0_0 p0_0_0.length pc0_0_0) p0_0_0, sl (Rp.pair (Rp.int .i64) (Rp.int .u8)) (.slice pA0_0_3 p0_0_3.length pc0_0_3) p0_0_3] → RunsI F17 [.c 27] [(1, .pointer (some ⟨b31, 0, none⟩)), (3, .string t47)] w1 R) :
  ∀ (k : Nat) (t32 : ByteArray) (t33 : Int) (w : World), charabancref30_Show_17.l0 K p0_0_0 p0_0_1 p0_0_2 p0_0_3 p0_1 k t32 t33 = some x → Holds M0 w0 w [box b31 37 [.slice pA0_0_0 p0_0_0.length pc0_0_0, .int .i64 p0_0_1, .int .i64 p0_0_2, .slice pA0_0_3 p0_0_3.length pc0_0_3, .int .u16 p0_1], sl (Rp.int .u8) (.slice pA0_0_0 p0_0_0.length pc0_0_0) p0_0_0, sl (Rp.pair (Rp.int .i64) (Rp.int .u8)) (.slice pA0_0_3 p0_0_3.length pc0_0_3) p0_0_3] → RunsI F17 [.c 17, .lp 17, .blk 0, .c 27] [(1, .pointer (some ⟨b31, 0, none⟩)), (3, .string t32), (4, .int .i64 t33)] w R := by
 intro k
 induction k with
 | zero => intro t32 t33 w h hH; exact absurd h (by simp [charabancref30_Show_17.l0])
 | succ k ih =>
  intro t32 t33 w h hH
  rw [charabancref30_Show_17.l0.eq_2] at h
  refine RunsI.g 1 [.c 18, .c 23, .lp 17, .blk 0, .c 27] ?_
  refine RunsI.g 1 [.c 19, .c 20, .c 23, .lp 17, .blk 0, .c 27] ?_
  refine RunsI.r ?_
  refine RegI.p 3 [(1, .pointer (some ⟨b31, 0, none⟩)), (3, .string t32), (4, .int .i64 t33), (27, .int .i64 t33), (29, .pointer (some ⟨b31, 0, none⟩))] ?_
  refine RegI.o (OpE.loadBox 30 0 22 b31 0 (.slice pA0_0_0 p0_0_0.length pc0_0_0) hH (by kernel_rfl) (by kernel_rfl) rfl (by kernel_rfl) ?_)
  refine RegI.p 2 [(1, .pointer (some ⟨b31, 0, none⟩)), (3, .string t32), (4, .int .i64 t33), (32, .bool (decide (t33 < (p0_0_0.length : Int))))] ?_
  refine RegI.d ?_
  rcases of_cond h with ⟨hc34, h⟩ | ⟨hc34, h⟩
  ·skip
   refine RunsI.f 32 true hc34 ?_
   refine RunsI.b true 21 ?_
   refine RunsI.g 1 [.c 23, .lp 17, .blk 0, .c 27] ?_
   refine RunsI.g 2 [.c 25, .blk 1, .c 26, .lp 17, .blk 0, .c 27] ?_
   refine RunsI.r ?_
   refine RegI.p 1 [(1, .pointer (some ⟨b31, 0, none⟩)), (4, .int .i64 t33), (35, .string t32)] ?_
   obtain ⟨hc35, h⟩ := of_cond0 h
   refine RegI.o (OpE.run 36 (by kernel_rfl) (run_cat (a := t32) (b := (⟨#[114, 111, 109, 32]⟩ : ByteArray)) (by kernel_rfl) hc35) ?_)
   refine RegI.p 2 [(1, .pointer (some ⟨b31, 0, none⟩)), (4, .int .i64 t33), (36, .string (t32 ++ (⟨#[114, 111, 109, 32]⟩ : ByteArray))), (38, .pointer (some ⟨b31, 0, none⟩))] ?_
   refine RegI.o (OpE.loadBox 39 0 22 b31 0 (.slice pA0_0_0 p0_0_0.length pc0_0_0) hH (by kernel_rfl) (by kernel_rfl) rfl (by kernel_rfl) ?_)
   refine RegI.p 5 [(1, .pointer (some ⟨b31, 0, none⟩)), (4, .int .i64 t33), (36, .string (t32 ++ (⟨#[114, 111, 109, 32]⟩ : ByteArray))), (39, .slice pA0_0_0 p0_0_0.length pc0_0_0), (40, .int .i64 t33), (42, .int .i64 (IntKind.wrap .i64 (t33 + 16))), (44, .pointer (some ⟨b31, 0, none⟩))] ?_
   refine RegI.o (OpE.loadBox 45 0 22 b31 0 (.slice pA0_0_0 p0_0_0.length pc0_0_0) hH (by kernel_rfl) (by kernel_rfl) rfl (by kernel_rfl) ?_)
   refine RegI.p 2 [(1, .pointer (some ⟨b31, 0, none⟩)), (4, .int .i64 t33), (36, .string (t32 ++ (⟨#[114, 111, 109, 32]⟩ : ByteArray))), (39, .slice pA0_0_0 p0_0_0.length pc0_0_0), (40, .int .i64 t33), (47, .int .i64 (if (p0_0_0.length : Int) < (IntKind.wrap .i64 (t33 + 16)) then (p0_0_0.length : Int) else (IntKind.wrap .i64 (t33 + 16))))] ?_
   obtain ⟨hc36, h⟩ := of_cond0 h
   refine RegI.o (OpE.cutSl 48 1 22 (some t33) (some (if (p0_0_0.length : Int) < (IntKind.wrap .i64 (t33 + 16)) then (p0_0_0.length : Int) else (IntKind.wrap .i64 (t33 + 16)))) hH (by kernel_rfl) rfl (by kernel_rfl) (by kernel_rfl) hc36 ?_)
   intro A37 c38 h39
   obtain ⟨t44, hg43, h⟩ := of_bind h
   refine RegI.o (OpE.call 49 (by kernel_rfl) 14 #[.slice A37 ((cutL p0_0_0 t33 (if (p0_0_0.length : Int) < (IntKind.wrap .i64 (t33 + 16)) then (p0_0_0.length : Int) else (IntKind.wrap .i64 (t33 + 16)))).length) c38] (by kernel_rfl) ((charabancref30_Digits_14_ok K _ w  A37 c38 (cutL p0_0_0 t33 (if (p0_0_0.length : Int) < (IntKind.wrap .i64 (t33 + 16)) then (p0_0_0.length : Int) else (IntKind.wrap .i64 (t33 + 16)))) h39.old' (h39.get 3 rfl) hg43).mono ?_))
   rintro _ w40 ⟨rfl, hb41⟩
   refine ⟨_, rfl, ?_⟩
   have h42 := h39.call hb41
   obtain ⟨hc45, h⟩ := of_cond0 h
   refine RegI.o (OpE.run 50 (by kernel_rfl) (run_cat (a := (t32 ++ (⟨#[114, 111, 109, 32]⟩ : ByteArray))) (b := t44) (by kernel_rfl) hc45) ?_)
   obtain ⟨hc46, h⟩ := of_cond0 h
   refine RegI.o (OpE.run 51 (by kernel_rfl) (run_cat (a := ((t32 ++ (⟨#[114, 111, 109, 32]⟩ : ByteArray)) ++ t44)) (b := (⟨#[10]⟩ : ByteArray)) (by kernel_rfl) hc46) ?_)
   refine RegI.p 1 [(1, .pointer (some ⟨b31, 0, none⟩)), (3, .string (((t32 ++ (⟨#[114, 111, 109, 32]⟩ : ByteArray)) ++ t44) ++ (⟨#[10]⟩ : ByteArray))), (4, .int .i64 t33)] ?_
   refine RegI.d ?_
   refine RunsI.g 1 [.c 26, .lp 17, .blk 0, .c 27] ?_
   refine RunsI.r ?_
   refine RegI.p 3 [(1, .pointer (some ⟨b31, 0, none⟩)), (3, .string (((t32 ++ (⟨#[114, 111, 109, 32]⟩ : ByteArray)) ++ t44) ++ (⟨#[10]⟩ : ByteArray))), (4, .int .i64 (IntKind.wrap .i64 (t33 + 16)))] ?_
   refine RegI.d ?_
   refine RunsI.g 1 [.c 17, .lp 17, .blk 0, .c 27] ?_
   refine RunsI.l [1, 3, 4] [(1, .pointer (some ⟨b31, 0, none⟩)), (3, .string (((t32 ++ (⟨#[114, 111, 109, 32]⟩ : ByteArray)) ++ t44) ++ (⟨#[10]⟩ : ByteArray))), (4, .int .i64 (IntKind.wrap .i64 (t33 + 16)))] ?_
   exact ih (((t32 ++ (⟨#[114, 111, 109, 32]⟩ : ByteArray)) ++ t44) ++ (⟨#[10]⟩ : ByteArray)) (IntKind.wrap .i64 (t33 + 16)) w40 h (h42.pick [0, 1, 2] (by decide))
  ·skip
   refine RunsI.f 32 false hc34 ?_
   refine RunsI.b false 22 ?_
   refine RunsI.g 1 [.c 27] ?_
   refine RunsI.l [1, 3] [(1, .pointer (some ⟨b31, 0, none⟩)), (3, .string t32)] ?_
   exact hk0 t32 w (Option.some.inj h).symm (hH.pick [0, 1, 2] (by decide))
def charabancref30_Show_17.l1 (K : Nat) (p0_0_0 : List Int) (p0_0_1 : Int) (p0_0_2 : Int) (p0_0_3 : List (Int × Int)) (p0_1 : Int) : Nat → ByteArray → Int → Option ByteArray
 | 0, _, _ => none
 | k + 1, t54, t55 => cond (decide (t55 < (p0_0_3.length : Int))) (cond (mayCat t54.size (⟨#[114, 97, 109, 32]⟩ : ByteArray).size) (cond (inR t55 p0_0_3.length) ((charabancref30_hex_32.f K ((rdD p0_0_3 t55).1) 5).bind fun t69 => cond (mayCat (t54 ++ (⟨#[114, 97, 109, 32]⟩ : ByteArray)).size t69.size) (cond (mayCat ((t54 ++ (⟨#[114, 97, 109, 32]⟩ : ByteArray)) ++ t69).size (⟨#[32]⟩ : ByteArray).size) ((charabancref30_hex_32.f K (IntKind.wrap .i64 ((rdD p0_0_3 t55).2)) 2).bind fun t78 => cond (mayCat (((t54 ++ (⟨#[114, 97, 109, 32]⟩ : ByteArray)) ++ t69) ++ (⟨#[32]⟩ : ByteArray)).size t78.size) (cond (mayCat ((((t54 ++ (⟨#[114, 97, 109, 32]⟩ : ByteArray)) ++ t69) ++ (⟨#[32]⟩ : ByteArray)) ++ t78).size (⟨#[10]⟩ : ByteArray).size) (charabancref30_Show_17.l1 K p0_0_0 p0_0_1 p0_0_2 p0_0_3 p0_1 k (((((t54 ++ (⟨#[114, 97, 109, 32]⟩ : ByteArray)) ++ t69) ++ (⟨#[32]⟩ : ByteArray)) ++ t78) ++ (⟨#[10]⟩ : ByteArray)) (IntKind.wrap .i64 (t55 + 1))) none) none) none) none) none) none) (some t54)
set_option maxRecDepth 100000 in
theorem charabancref30_Show_17.l1_ok (K : Nat) (M0 : Nat → Prop) (w0 : World) (pA0_0_0 : Option Addr) (pc0_0_0 : Nat) (pA0_0_3 : Option Addr) (pc0_0_3 : Nat) (p0_0_0 : List Int) (p0_0_1 : Int) (p0_0_2 : Int) (p0_0_3 : List (Int × Int)) (p0_1 : Int) (b53 : Nat) (R : Ending → World → Prop) (x : ByteArray) (hk0 : ∀ (t84 : ByteArray) (w1 : World), x = t84 → Holds M0 w0 w1 [] → RunsI F17 [.c 42] [(3, .string t84)] w1 R) :
  ∀ (k : Nat) (t54 : ByteArray) (t55 : Int) (w : World), charabancref30_Show_17.l1 K p0_0_0 p0_0_1 p0_0_2 p0_0_3 p0_1 k t54 t55 = some x → Holds M0 w0 w [box b53 37 [.slice pA0_0_0 p0_0_0.length pc0_0_0, .int .i64 p0_0_1, .int .i64 p0_0_2, .slice pA0_0_3 p0_0_3.length pc0_0_3, .int .u16 p0_1], sl (Rp.int .u8) (.slice pA0_0_0 p0_0_0.length pc0_0_0) p0_0_0, sl (Rp.pair (Rp.int .i64) (Rp.int .u8)) (.slice pA0_0_3 p0_0_3.length pc0_0_3) p0_0_3] → RunsI F17 [.c 32, .lp 32, .blk 2, .c 42] [(1, .pointer (some ⟨b53, 0, none⟩)), (3, .string t54), (5, .int .i64 t55)] w R := by
 intro k
 induction k with
 | zero => intro t54 t55 w h hH; exact absurd h (by simp [charabancref30_Show_17.l1])
 | succ k ih =>
  intro t54 t55 w h hH
  rw [charabancref30_Show_17.l1.eq_2] at h
  refine RunsI.g 1 [.c 33, .c 38, .lp 32, .blk 2, .c 42] ?_
  refine RunsI.g 1 [.c 34, .c 35, .c 38, .lp 32, .blk 2, .c 42] ?_
  refine RunsI.r ?_
  refine RegI.p 3 [(1, .pointer (some ⟨b53, 0, none⟩)), (3, .string t54), (5, .int .i64 t55), (52, .int .i64 t55), (54, .pointer (some ⟨b53, 3, none⟩))] ?_
  refine RegI.o (OpE.loadBox 55 0 33 b53 3 (.slice pA0_0_3 p0_0_3.length pc0_0_3) hH (by kernel_rfl) (by kernel_rfl) rfl (by kernel_rfl) ?_)
  refine RegI.p 2 [(1, .pointer (some ⟨b53, 0, none⟩)), (3, .string t54), (5, .int .i64 t55), (57, .bool (decide (t55 < (p0_0_3.length : Int))))] ?_
  refine RegI.d ?_
  rcases of_cond h with ⟨hc56, h⟩ | ⟨hc56, h⟩
  ·skip
   refine RunsI.f 57 true hc56 ?_
   refine RunsI.b true 36 ?_
   refine RunsI.g 1 [.c 38, .lp 32, .blk 2, .c 42] ?_
   refine RunsI.g 2 [.c 40, .blk 3, .c 41, .lp 32, .blk 2, .c 42] ?_
   refine RunsI.any 24 (by kernel_rfl) (by kernel_rfl) (by kernel_rfl) (Kp ([] : List Nat) (World.drew w)) ?_
   have h58 := hH.drew
   generalize World.drew w = w57 at h58 ⊢
   have hS59 := Kp.refl ([] : List Nat) w57
   refine AnyE.pure 0 60 (.string t54) (by kernel_rfl) hS59 (fun _ => by kernel_rfl) ?_
   obtain ⟨hc61, h⟩ := of_cond0 h
   refine AnyE.run 1 61 (.string (t54 ++ (⟨#[114, 97, 109, 32]⟩ : ByteArray))) (by kernel_rfl) hS59 (fun _ hk => run_cat (a := t54) (b := (⟨#[114, 97, 109, 32]⟩ : ByteArray)) (by kernel_rfl) hc61) ?_
   refine AnyE.pure 2 62 (.pointer (some ⟨b53, 0, none⟩)) (by kernel_rfl) hS59 (fun _ => by kernel_rfl) ?_
   refine AnyE.pure 3 63 (.pointer (some ⟨b53, 3, none⟩)) (by kernel_rfl) hS59 (fun _ => by kernel_rfl) ?_
   refine AnyE.loadBox 4 64 0 33 b53 3 (.slice pA0_0_3 p0_0_3.length pc0_0_3) [] h58 rfl (by kernel_rfl) hS59 rfl rfl (by kernel_rfl) (by kernel_rfl) ?_
   refine AnyE.pure 5 65 (.int .i64 t55) (by kernel_rfl) hS59 (fun _ => by kernel_rfl) ?_
   obtain ⟨hc62, h⟩ := of_cond0 h
   refine AnyE.idxSl 6 66 2 33 t55 h58 (by kernel_rfl) hS59 rfl (by kernel_rfl) (by kernel_rfl) hc62 ?_
   intro b63 o64 cs65 hk66 h67
   obtain ⟨_, _, rfl, rfl, rfl⟩ := hk66
   refine AnyE.pure 7 67 (.pointer (some ⟨b63, o64, none⟩)) (by kernel_rfl) hS59 (fun _ => by kernel_rfl) ?_
   refine AnyE.loadCel 8 68 3 3 b63 o64 0 (.int .i64 ((rdD p0_0_3 t55).1)) [] h67 rfl (by kernel_rfl) hS59 rfl rfl (by kernel_rfl) (by kernel_rfl) ?_
   obtain ⟨t69, hg68, h⟩ := of_bind h
   refine AnyE.call 9 69 (.string t69) 32 #[.int .i64 ((rdD p0_0_3 t55).1), .int .i64 5] (by kernel_rfl) hS59 (fun _ => by kernel_rfl) (fun w hk => charabancref30_hex_32_ok K (fun _ => False) w ((rdD p0_0_3 t55).1) 5 (fun _ hf => hf.elim) hg68) ?_
   obtain ⟨hc70, h⟩ := of_cond0 h
   refine AnyE.run 10 70 (.string ((t54 ++ (⟨#[114, 97, 109, 32]⟩ : ByteArray)) ++ t69)) (by kernel_rfl) hS59 (fun _ hk => run_cat (a := (t54 ++ (⟨#[114, 97, 109, 32]⟩ : ByteArray))) (b := t69) (by kernel_rfl) hc70) ?_
   obtain ⟨hc71, h⟩ := of_cond0 h
   refine AnyE.run 11 71 (.string (((t54 ++ (⟨#[114, 97, 109, 32]⟩ : ByteArray)) ++ t69) ++ (⟨#[32]⟩ : ByteArray))) (by kernel_rfl) hS59 (fun _ hk => run_cat (a := ((t54 ++ (⟨#[114, 97, 109, 32]⟩ : ByteArray)) ++ t69)) (b := (⟨#[32]⟩ : ByteArray)) (by kernel_rfl) hc71) ?_
   refine AnyE.pure 12 72 (.pointer (some ⟨b53, 0, none⟩)) (by kernel_rfl) hS59 (fun _ => by kernel_rfl) ?_
   refine AnyE.pure 13 73 (.pointer (some ⟨b53, 3, none⟩)) (by kernel_rfl) hS59 (fun _ => by kernel_rfl) ?_
   refine AnyE.loadBox 14 74 0 33 b53 3 (.slice pA0_0_3 p0_0_3.length pc0_0_3) [] h67 rfl (by kernel_rfl) hS59 rfl rfl (by kernel_rfl) (by kernel_rfl) ?_
   refine AnyE.pure 15 75 (.int .i64 t55) (by kernel_rfl) hS59 (fun _ => by kernel_rfl) ?_
   refine AnyE.idxSl 16 76 2 33 t55 h67 (by kernel_rfl) hS59 rfl (by kernel_rfl) (by kernel_rfl) hc62 ?_
   intro b72 o73 cs74 hk75 h76
   obtain ⟨_, _, rfl, rfl, rfl⟩ := hk75
   refine AnyE.pure 17 77 (.pointer (some ⟨b72, o73 + 1, none⟩)) (by kernel_rfl) hS59 (fun _ => by kernel_rfl) ?_
   refine AnyE.loadCel 18 78 4 5 b72 o73 1 (.int .u8 ((rdD p0_0_3 t55).2)) [] h76 rfl (by kernel_rfl) hS59 rfl rfl (by kernel_rfl) (by kernel_rfl) ?_
   refine AnyE.pure 19 79 (.int .i64 (IntKind.wrap .i64 ((rdD p0_0_3 t55).2))) (by kernel_rfl) hS59 (fun _ => by kernel_rfl) ?_
   obtain ⟨t78, hg77, h⟩ := of_bind h
   refine AnyE.call 20 80 (.string t78) 32 #[.int .i64 (IntKind.wrap .i64 ((rdD p0_0_3 t55).2)), .int .i64 2] (by kernel_rfl) hS59 (fun _ => by kernel_rfl) (fun w hk => charabancref30_hex_32_ok K (fun _ => False) w (IntKind.wrap .i64 ((rdD p0_0_3 t55).2)) 2 (fun _ hf => hf.elim) hg77) ?_
   obtain ⟨hc79, h⟩ := of_cond0 h
   refine AnyE.run 21 81 (.string ((((t54 ++ (⟨#[114, 97, 109, 32]⟩ : ByteArray)) ++ t69) ++ (⟨#[32]⟩ : ByteArray)) ++ t78)) (by kernel_rfl) hS59 (fun _ hk => run_cat (a := (((t54 ++ (⟨#[114, 97, 109, 32]⟩ : ByteArray)) ++ t69) ++ (⟨#[32]⟩ : ByteArray))) (b := t78) (by kernel_rfl) hc79) ?_
   obtain ⟨hc80, h⟩ := of_cond0 h
   refine AnyE.run 22 82 (.string (((((t54 ++ (⟨#[114, 97, 109, 32]⟩ : ByteArray)) ++ t69) ++ (⟨#[32]⟩ : ByteArray)) ++ t78) ++ (⟨#[10]⟩ : ByteArray))) (by kernel_rfl) hS59 (fun _ hk => run_cat (a := ((((t54 ++ (⟨#[114, 97, 109, 32]⟩ : ByteArray)) ++ t69) ++ (⟨#[32]⟩ : ByteArray)) ++ t78)) (b := (⟨#[10]⟩ : ByteArray)) (by kernel_rfl) hc80) ?_
   refine AnyE.pure 23 3 (.string (((((t54 ++ (⟨#[114, 97, 109, 32]⟩ : ByteArray)) ++ t69) ++ (⟨#[32]⟩ : ByteArray)) ++ t78) ++ (⟨#[10]⟩ : ByteArray))) (by kernel_rfl) hS59 (fun _ => by kernel_rfl) ?_
   refine AnyE.done (by kernel_rfl) (fun w81 hu82 => ?_)
   have h83 := h76.call hu82
   refine RunsI.l [1, 3, 5] [(1, .pointer (some ⟨b53, 0, none⟩)), (3, .string (((((t54 ++ (⟨#[114, 97, 109, 32]⟩ : ByteArray)) ++ t69) ++ (⟨#[32]⟩ : ByteArray)) ++ t78) ++ (⟨#[10]⟩ : ByteArray))), (5, .int .i64 t55)] ?_
   refine RunsI.g 1 [.c 41, .lp 32, .blk 2, .c 42] ?_
   refine RunsI.r ?_
   refine RegI.p 3 [(1, .pointer (some ⟨b53, 0, none⟩)), (3, .string (((((t54 ++ (⟨#[114, 97, 109, 32]⟩ : ByteArray)) ++ t69) ++ (⟨#[32]⟩ : ByteArray)) ++ t78) ++ (⟨#[10]⟩ : ByteArray))), (5, .int .i64 (IntKind.wrap .i64 (t55 + 1)))] ?_
   refine RegI.d ?_
   refine RunsI.g 1 [.c 32, .lp 32, .blk 2, .c 42] ?_
   refine RunsI.l [1, 3, 5] [(1, .pointer (some ⟨b53, 0, none⟩)), (3, .string (((((t54 ++ (⟨#[114, 97, 109, 32]⟩ : ByteArray)) ++ t69) ++ (⟨#[32]⟩ : ByteArray)) ++ t78) ++ (⟨#[10]⟩ : ByteArray))), (5, .int .i64 (IntKind.wrap .i64 (t55 + 1)))] ?_
   exact ih (((((t54 ++ (⟨#[114, 97, 109, 32]⟩ : ByteArray)) ++ t69) ++ (⟨#[32]⟩ : ByteArray)) ++ t78) ++ (⟨#[10]⟩ : ByteArray)) (IntKind.wrap .i64 (t55 + 1)) w81 h (h83.pick [0, 1, 2] (by decide))
  ·skip
   refine RunsI.f 57 false hc56 ?_
   refine RunsI.b false 37 ?_
   refine RunsI.g 1 [.c 42] ?_
   refine RunsI.l [3] [(3, .string t54)] ?_
   exact hk0 t54 w (Option.some.inj h).symm (hH.pick [] (by decide))
def charabancref30_Show_17.f (K : Nat) (p0_0_0 : List Int) (p0_0_1 : Int) (p0_0_2 : Int) (p0_0_3 : List (Int × Int)) (p0_1 : Int) : Option ByteArray := (charabancref30_Check_19.f K p0_0_0 p0_0_1 p0_0_2 p0_0_3 p0_1).bind fun t10 => cond (t10 != 0) (some (⟨#[]⟩ : ByteArray)) ((charabancref30_hex_32.f K p0_0_1 1).bind fun t17 => cond (mayCat (⟨#[98, 97, 110, 107, 115, 32]⟩ : ByteArray).size t17.size) (cond (mayCat ((⟨#[98, 97, 110, 107, 115, 32]⟩ : ByteArray) ++ t17).size (⟨#[10, 98, 97, 110, 107, 32]⟩ : ByteArray).size) ((charabancref30_hex_32.f K p0_0_2 1).bind fun t21 => cond (mayCat (((⟨#[98, 97, 110, 107, 115, 32]⟩ : ByteArray) ++ t17) ++ (⟨#[10, 98, 97, 110, 107, 32]⟩ : ByteArray)).size t21.size) (cond (mayCat ((((⟨#[98, 97, 110, 107, 115, 32]⟩ : ByteArray) ++ t17) ++ (⟨#[10, 98, 97, 110, 107, 32]⟩ : ByteArray)) ++ t21).size (⟨#[10, 112, 99, 32]⟩ : ByteArray).size) ((charabancref30_hex_32.f K (IntKind.wrap .i64 p0_1) 4).bind fun t25 => cond (mayCat (((((⟨#[98, 97, 110, 107, 115, 32]⟩ : ByteArray) ++ t17) ++ (⟨#[10, 98, 97, 110, 107, 32]⟩ : ByteArray)) ++ t21) ++ (⟨#[10, 112, 99, 32]⟩ : ByteArray)).size t25.size) (cond (mayCat ((((((⟨#[98, 97, 110, 107, 115, 32]⟩ : ByteArray) ++ t17) ++ (⟨#[10, 98, 97, 110, 107, 32]⟩ : ByteArray)) ++ t21) ++ (⟨#[10, 112, 99, 32]⟩ : ByteArray)) ++ t25).size (⟨#[10]⟩ : ByteArray).size) ((charabancref30_Show_17.l0 K p0_0_0 p0_0_1 p0_0_2 p0_0_3 p0_1 K (((((((⟨#[98, 97, 110, 107, 115, 32]⟩ : ByteArray) ++ t17) ++ (⟨#[10, 98, 97, 110, 107, 32]⟩ : ByteArray)) ++ t21) ++ (⟨#[10, 112, 99, 32]⟩ : ByteArray)) ++ t25) ++ (⟨#[10]⟩ : ByteArray)) 0).bind (fun t50 => (charabancref30_Show_17.l1 K p0_0_0 p0_0_1 p0_0_2 p0_0_3 p0_1 K t50 0).bind (fun t87 => some t87))) none) none) none) none) none) none)
set_option maxRecDepth 100000 in
theorem charabancref30_Show_17_ok (K : Nat) (M0 : Nat → Prop) (w0 : World) (pA0_0_0 : Option Addr) (pc0_0_0 : Nat) (pA0_0_3 : Option Addr) (pc0_0_3 : Nat) (p0_0_0 : List Int) (p0_0_1 : Int) (p0_0_2 : Int) (p0_0_3 : List (Int × Int)) (p0_1 : Int) (ho : ∀ b, M0 b → b < w0.heap.size) (hs0_0_0 : Sl (Rp.int .u8) w0 M0 (.slice pA0_0_0 p0_0_0.length pc0_0_0) p0_0_0) (hs0_0_3 : Sl (Rp.pair (Rp.int .i64) (Rp.int .u8)) w0 M0 (.slice pA0_0_3 p0_0_3.length pc0_0_3) p0_0_3) {r : ByteArray} (h : charabancref30_Show_17.f K p0_0_0 p0_0_1 p0_0_2 p0_0_3 p0_1 = some r) :
  Calls Tryd.prog 17 #[.agg #[.slice pA0_0_0 p0_0_0.length pc0_0_0, .int .i64 p0_0_1, .int .i64 p0_0_2, .slice pA0_0_3 p0_0_3.length pc0_0_3, .int .u16 p0_1]] w0 (charabancref30_Show_17.post M0 w0 r) := by
 unfold charabancref30_Show_17.f at h
 have h0 : Holds M0 w0 w0 [] := Holds.start ho
 have h00_0_0 := h0.addSl (Rp.int .u8) (.slice pA0_0_0 p0_0_0.length pc0_0_0) p0_0_0 (hs0_0_0.mono (fun _ _ hm => hm.elim id (fun hm => absurd hm (by simp [mines, sl]))))
 have h00_0_3 := h00_0_0.addSl (Rp.pair (Rp.int .i64) (Rp.int .u8)) (.slice pA0_0_3 p0_0_3.length pc0_0_3) p0_0_3 (hs0_0_3.mono (fun _ _ hm => hm.elim id (fun hm => absurd hm (by simp [mines, sl]))))
 have h0 : Holds M0 w0 w0 [sl (Rp.int .u8) (.slice pA0_0_0 p0_0_0.length pc0_0_0) p0_0_0, sl (Rp.pair (Rp.int .i64) (Rp.int .u8)) (.slice pA0_0_3 p0_0_3.length pc0_0_3) p0_0_3] := h00_0_3
 refine calls_of F17 rfl [.agg #[.slice pA0_0_0 p0_0_0.length pc0_0_0, .int .i64 p0_0_1, .int .i64 p0_0_2, .slice pA0_0_3 p0_0_3.length pc0_0_3, .int .u16 p0_1]] (by kernel_rfl) ?_
 refine RunsI.g 1 [.c 1, .c 2] ?_
 refine RunsI.r ?_
 refine RegI.o (OpE.box 1 37 [.slice pA0_0_0 p0_0_0.length pc0_0_0, .int .i64 p0_0_1, .int .i64 p0_0_2, .slice pA0_0_3 p0_0_3.length pc0_0_3, .int .u16 p0_1] h0 (by kernel_rfl) (by kernel_rfl) ?_)
 intro w1 b2 h3 hb4 hn5
 refine RegI.p 1 [(1, .pointer (some ⟨b2, 0, none⟩))] ?_
 refine RegI.d ?_
 refine RunsI.g 2 [.c 4, .c 5, .c 10] ?_
 refine RunsI.r ?_
 refine RegI.o (OpE.loadBox 6 2 37 b2 0 (.agg #[.slice pA0_0_0 p0_0_0.length pc0_0_0, .int .i64 p0_0_1, .int .i64 p0_0_2, .slice pA0_0_3 p0_0_3.length pc0_0_3, .int .u16 p0_1]) h3 (by kernel_rfl) (by kernel_rfl) rfl (by kernel_rfl) ?_)
 obtain ⟨t10, hg9, h⟩ := of_bind h
 refine RegI.o (OpE.call 7 (by kernel_rfl) 19 #[.agg #[.slice pA0_0_0 p0_0_0.length pc0_0_0, .int .i64 p0_0_1, .int .i64 p0_0_2, .slice pA0_0_3 p0_0_3.length pc0_0_3, .int .u16 p0_1]] (by kernel_rfl) ((charabancref30_Check_19_ok K _ w1  pA0_0_0 pc0_0_0 pA0_0_3 pc0_0_3 p0_0_0 p0_0_1 p0_0_2 p0_0_3 p0_1 h3.old' (h3.get 0 rfl) (h3.get 1 rfl) hg9).mono ?_))
 rintro _ w6 ⟨rfl, hb7⟩
 refine ⟨_, rfl, ?_⟩
 have h8 := h3.call hb7
 refine RegI.p 1 [(1, .pointer (some ⟨b2, 0, none⟩)), (8, .bool (t10 != 0))] ?_
 refine RegI.d ?_
 rcases of_cond h with ⟨hc11, h⟩ | ⟨hc11, h⟩
 ·skip
  refine RunsI.f 8 true hc11 ?_
  refine RunsI.b true 6 ?_
  refine RunsI.g 1 [.c 7, .c 8, .c 10] ?_
  refine RunsI.r ?_
  refine RegI.p 1 [(2, .string (⟨#[]⟩ : ByteArray))] ?_
  refine RegI.d ?_
  refine RunsI.t (.string (⟨#[]⟩ : ByteArray)) ?_
  obtain rfl := Option.some.inj h
  exact ⟨rfl, h8.below⟩
 ·skip
  refine RunsI.f 8 false hc11 ?_
  refine RunsI.b false 9 ?_
  refine RunsI.g 1 [.c 10] ?_
  refine RunsI.g 1 [.c 11, .c 12] ?_
  refine RunsI.any 19 (by kernel_rfl) (by kernel_rfl) (by kernel_rfl) (Kp ([] : List Nat) (World.drew w6)) ?_
  have h13 := h8.drew
  generalize World.drew w6 = w12 at h13 ⊢
  have hS14 := Kp.refl ([] : List Nat) w12
  refine AnyE.pure 0 9 (.pointer (some ⟨b2, 0, none⟩)) (by kernel_rfl) hS14 (fun _ => by kernel_rfl) ?_
  refine AnyE.pure 1 10 (.pointer (some ⟨b2, 1, none⟩)) (by kernel_rfl) hS14 (fun _ => by kernel_rfl) ?_
  refine AnyE.loadBox 2 11 2 3 b2 1 (.int .i64 p0_0_1) [] h13 rfl (by kernel_rfl) hS14 rfl rfl (by kernel_rfl) (by kernel_rfl) ?_
  obtain ⟨t17, hg16, h⟩ := of_bind h
  refine AnyE.call 3 12 (.string t17) 32 #[.int .i64 p0_0_1, .int .i64 1] (by kernel_rfl) hS14 (fun _ => by kernel_rfl) (fun w hk => charabancref30_hex_32_ok K (fun _ => False) w p0_0_1 1 (fun _ hf => hf.elim) hg16) ?_
  obtain ⟨hc18, h⟩ := of_cond0 h
  refine AnyE.run 4 13 (.string ((⟨#[98, 97, 110, 107, 115, 32]⟩ : ByteArray) ++ t17)) (by kernel_rfl) hS14 (fun _ hk => run_cat (a := (⟨#[98, 97, 110, 107, 115, 32]⟩ : ByteArray)) (b := t17) (by kernel_rfl) hc18) ?_
  obtain ⟨hc19, h⟩ := of_cond0 h
  refine AnyE.run 5 14 (.string (((⟨#[98, 97, 110, 107, 115, 32]⟩ : ByteArray) ++ t17) ++ (⟨#[10, 98, 97, 110, 107, 32]⟩ : ByteArray))) (by kernel_rfl) hS14 (fun _ hk => run_cat (a := ((⟨#[98, 97, 110, 107, 115, 32]⟩ : ByteArray) ++ t17)) (b := (⟨#[10, 98, 97, 110, 107, 32]⟩ : ByteArray)) (by kernel_rfl) hc19) ?_
  refine AnyE.pure 6 15 (.pointer (some ⟨b2, 0, none⟩)) (by kernel_rfl) hS14 (fun _ => by kernel_rfl) ?_
  refine AnyE.pure 7 16 (.pointer (some ⟨b2, 2, none⟩)) (by kernel_rfl) hS14 (fun _ => by kernel_rfl) ?_
  refine AnyE.loadBox 8 17 2 3 b2 2 (.int .i64 p0_0_2) [] h13 rfl (by kernel_rfl) hS14 rfl rfl (by kernel_rfl) (by kernel_rfl) ?_
  obtain ⟨t21, hg20, h⟩ := of_bind h
  refine AnyE.call 9 18 (.string t21) 32 #[.int .i64 p0_0_2, .int .i64 1] (by kernel_rfl) hS14 (fun _ => by kernel_rfl) (fun w hk => charabancref30_hex_32_ok K (fun _ => False) w p0_0_2 1 (fun _ hf => hf.elim) hg20) ?_
  obtain ⟨hc22, h⟩ := of_cond0 h
  refine AnyE.run 10 19 (.string ((((⟨#[98, 97, 110, 107, 115, 32]⟩ : ByteArray) ++ t17) ++ (⟨#[10, 98, 97, 110, 107, 32]⟩ : ByteArray)) ++ t21)) (by kernel_rfl) hS14 (fun _ hk => run_cat (a := (((⟨#[98, 97, 110, 107, 115, 32]⟩ : ByteArray) ++ t17) ++ (⟨#[10, 98, 97, 110, 107, 32]⟩ : ByteArray))) (b := t21) (by kernel_rfl) hc22) ?_
  obtain ⟨hc23, h⟩ := of_cond0 h
  refine AnyE.run 11 20 (.string (((((⟨#[98, 97, 110, 107, 115, 32]⟩ : ByteArray) ++ t17) ++ (⟨#[10, 98, 97, 110, 107, 32]⟩ : ByteArray)) ++ t21) ++ (⟨#[10, 112, 99, 32]⟩ : ByteArray))) (by kernel_rfl) hS14 (fun _ hk => run_cat (a := ((((⟨#[98, 97, 110, 107, 115, 32]⟩ : ByteArray) ++ t17) ++ (⟨#[10, 98, 97, 110, 107, 32]⟩ : ByteArray)) ++ t21)) (b := (⟨#[10, 112, 99, 32]⟩ : ByteArray)) (by kernel_rfl) hc23) ?_
  refine AnyE.pure 12 21 (.pointer (some ⟨b2, 4, none⟩)) (by kernel_rfl) hS14 (fun _ => by kernel_rfl) ?_
  refine AnyE.loadBox 13 22 2 27 b2 4 (.int .u16 p0_1) [] h13 rfl (by kernel_rfl) hS14 rfl rfl (by kernel_rfl) (by kernel_rfl) ?_
  refine AnyE.pure 14 23 (.int .i64 (IntKind.wrap .i64 p0_1)) (by kernel_rfl) hS14 (fun _ => by kernel_rfl) ?_
  obtain ⟨t25, hg24, h⟩ := of_bind h
  refine AnyE.call 15 24 (.string t25) 32 #[.int .i64 (IntKind.wrap .i64 p0_1), .int .i64 4] (by kernel_rfl) hS14 (fun _ => by kernel_rfl) (fun w hk => charabancref30_hex_32_ok K (fun _ => False) w (IntKind.wrap .i64 p0_1) 4 (fun _ hf => hf.elim) hg24) ?_
  obtain ⟨hc26, h⟩ := of_cond0 h
  refine AnyE.run 16 25 (.string ((((((⟨#[98, 97, 110, 107, 115, 32]⟩ : ByteArray) ++ t17) ++ (⟨#[10, 98, 97, 110, 107, 32]⟩ : ByteArray)) ++ t21) ++ (⟨#[10, 112, 99, 32]⟩ : ByteArray)) ++ t25)) (by kernel_rfl) hS14 (fun _ hk => run_cat (a := (((((⟨#[98, 97, 110, 107, 115, 32]⟩ : ByteArray) ++ t17) ++ (⟨#[10, 98, 97, 110, 107, 32]⟩ : ByteArray)) ++ t21) ++ (⟨#[10, 112, 99, 32]⟩ : ByteArray))) (b := t25) (by kernel_rfl) hc26) ?_
  obtain ⟨hc27, h⟩ := of_cond0 h
  refine AnyE.run 17 26 (.string (((((((⟨#[98, 97, 110, 107, 115, 32]⟩ : ByteArray) ++ t17) ++ (⟨#[10, 98, 97, 110, 107, 32]⟩ : ByteArray)) ++ t21) ++ (⟨#[10, 112, 99, 32]⟩ : ByteArray)) ++ t25) ++ (⟨#[10]⟩ : ByteArray))) (by kernel_rfl) hS14 (fun _ hk => run_cat (a := ((((((⟨#[98, 97, 110, 107, 115, 32]⟩ : ByteArray) ++ t17) ++ (⟨#[10, 98, 97, 110, 107, 32]⟩ : ByteArray)) ++ t21) ++ (⟨#[10, 112, 99, 32]⟩ : ByteArray)) ++ t25)) (b := (⟨#[10]⟩ : ByteArray)) (by kernel_rfl) hc27) ?_
  refine AnyE.pure 18 3 (.string (((((((⟨#[98, 97, 110, 107, 115, 32]⟩ : ByteArray) ++ t17) ++ (⟨#[10, 98, 97, 110, 107, 32]⟩ : ByteArray)) ++ t21) ++ (⟨#[10, 112, 99, 32]⟩ : ByteArray)) ++ t25) ++ (⟨#[10]⟩ : ByteArray))) (by kernel_rfl) hS14 (fun _ => by kernel_rfl) ?_
  refine AnyE.done (by kernel_rfl) (fun w28 hu29 => ?_)
  have h30 := h13.call hu29
  refine RunsI.l [1, 3] [(1, .pointer (some ⟨b2, 0, none⟩)), (3, .string (((((((⟨#[98, 97, 110, 107, 115, 32]⟩ : ByteArray) ++ t17) ++ (⟨#[10, 98, 97, 110, 107, 32]⟩ : ByteArray)) ++ t21) ++ (⟨#[10, 112, 99, 32]⟩ : ByteArray)) ++ t25) ++ (⟨#[10]⟩ : ByteArray)))] ?_
  refine RunsI.g 2 [.c 14, .c 15, .c 27] ?_
  refine RunsI.r ?_
  refine RegI.p 1 [(1, .pointer (some ⟨b2, 0, none⟩)), (3, .string (((((((⟨#[98, 97, 110, 107, 115, 32]⟩ : ByteArray) ++ t17) ++ (⟨#[10, 98, 97, 110, 107, 32]⟩ : ByteArray)) ++ t21) ++ (⟨#[10, 112, 99, 32]⟩ : ByteArray)) ++ t25) ++ (⟨#[10]⟩ : ByteArray))), (4, .int .i64 0)] ?_
  refine RegI.d ?_
  refine RunsI.g 2 [.c 17, .lp 17, .blk 0, .c 27] ?_
  obtain ⟨x48, hx49, h⟩ := of_bind h
  refine RunsI.l [1, 3, 4] [(1, .pointer (some ⟨b2, 0, none⟩)), (3, .string (((((((⟨#[98, 97, 110, 107, 115, 32]⟩ : ByteArray) ++ t17) ++ (⟨#[10, 98, 97, 110, 107, 32]⟩ : ByteArray)) ++ t21) ++ (⟨#[10, 112, 99, 32]⟩ : ByteArray)) ++ t25) ++ (⟨#[10]⟩ : ByteArray))), (4, .int .i64 0)] ?_
  refine charabancref30_Show_17.l0_ok K M0 w0 pA0_0_0 pc0_0_0 pA0_0_3 pc0_0_3 p0_0_0 p0_0_1 p0_0_2 p0_0_3 p0_1 b2 _ x48 ?_ K (((((((⟨#[98, 97, 110, 107, 115, 32]⟩ : ByteArray) ++ t17) ++ (⟨#[10, 98, 97, 110, 107, 32]⟩ : ByteArray)) ++ t21) ++ (⟨#[10, 112, 99, 32]⟩ : ByteArray)) ++ t25) ++ (⟨#[10]⟩ : ByteArray)) 0 w28 hx49 (h30.pick [2, 0, 1] (by decide))
  ·intro t50 w52 hq90 h51
   (try rw [hq90] at h)
   refine RunsI.g 2 [.c 29, .c 30, .c 42] ?_
   refine RunsI.r ?_
   refine RegI.p 1 [(1, .pointer (some ⟨b2, 0, none⟩)), (3, .string t50), (5, .int .i64 0)] ?_
   refine RegI.d ?_
   refine RunsI.g 2 [.c 32, .lp 32, .blk 2, .c 42] ?_
   obtain ⟨x85, hx86, h⟩ := of_bind h
   refine RunsI.l [1, 3, 5] [(1, .pointer (some ⟨b2, 0, none⟩)), (3, .string t50), (5, .int .i64 0)] ?_
   refine charabancref30_Show_17.l1_ok K M0 w0 pA0_0_0 pc0_0_0 pA0_0_3 pc0_0_3 p0_0_0 p0_0_1 p0_0_2 p0_0_3 p0_1 b2 _ x85 ?_ K t50 0 w52 hx86 (h51.pick [0, 1, 2] (by decide))
   ·intro t87 w89 hq91 h88
    (try rw [hq91] at h)
    refine RunsI.g 1 [.c 43, .c 44] ?_
    refine RunsI.r ?_
    refine RegI.p 2 [(2, .string t87)] ?_
    refine RegI.d ?_
    refine RunsI.t (.string t87) ?_
    obtain rfl := Option.some.inj h
    exact ⟨rfl, h88.below⟩
end
end Go.Proofs.YtbcepghanbkncaaDoor.Im
