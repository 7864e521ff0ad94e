/- The statement's function HexfileLines as a plain Lean function; written by wip/eng.py. -/
import Derived.Test.YtilgjfckgkkfmaaDoorHx3
set_option linter.unusedVariables false
set_option linter.unusedSimpArgs false
set_option maxHeartbeats 4000000
namespace Go.Proofs.YtilgjfckgkkfmaaDoor.Hx
open Go.RowKit Go.Eng
noncomputable def B3 : Code := (Tryd.f3.body).getD .skip
noncomputable def F3 : Fun Tryd.prog := ⟨3, Tryd.f3, B3, 74, Tryd.func3, by kernel_rfl, by kernel_rfl, [], none⟩

/-! ### charabanc/charabanclaw33.HexfileLines (function 3) -/
section
def charabanclaw33_HexfileLines_3.post (M0 : Nat → Prop) (w0 : World) (r : Bool) : Ending → World → Prop := fun e w => e = .returned (.bool r) ∧ Below w0.heap.size w0 w
def charabanclaw33_HexfileLines_3.f (K : Nat) (p0_0 : Int) (p0_1 : Int) (p0_2 : List Int) (p1 : ByteArray) : Option Bool := (charabanclaw33_awake_10.f K).bind fun t10 => cond (!t10) (some false) (Let (fun (t13 : Bool) => cond t13 (some true) ((hexfile_Line_11.f K p0_0 p0_1 p0_2).bind fun yt24 => (charabanclaw33_plain_13.f K p0_0 p0_1 p0_2).bind fun yt30 => (charabancref33_Line_12.f K yt30.1 yt30.2.1 yt30.2.2).bind fun yt41 => (hexfile_Parse_14.f K p1).bind fun yt47 => (charabancref33_Parse_15.f K p1).bind fun yt67 => cond ((ByteArray.toList yt24.1) == (ByteArray.toList yt41.1)) (cond (yt24.2 == yt41.2) ((charabanclaw33_plain_13.f K yt47.1 yt47.2.1 yt47.2.2.1).bind fun yt97 => (charabancref33_Same_16.f K yt97.1 yt97.2.1 yt97.2.2 yt67.1 yt67.2.1 yt67.2.2.1).bind fun t113 => cond t113 (cond (yt47.2.2.2 == yt67.2.2.2) ((hexfile_Sum_17.f K p0_0 p0_1 p0_2).bind fun t118 => (charabanclaw33_plain_13.f K p0_0 p0_1 p0_2).bind fun yt127 => (charabancref33_Sum_18.f K yt127.1 yt127.2.1 yt127.2.2).bind fun t143 => some (t118 == t143)) (some false)) (some false)) (some false)) (some false))) (fun j16 => cond (decide ((p0_2.length : Int) > 400)) (j16 true) (j16 (decide ((p1.size : Int) > 700)))))
set_option maxRecDepth 100000 in
theorem charabanclaw33_HexfileLines_3_ok (K : Nat) (M0 : Nat → Prop) (w0 : World) (pA0_2 : Option Addr) (pc0_2 : Nat) (p0_0 : Int) (p0_1 : Int) (p0_2 : List Int) (p1 : ByteArray) (ho : ∀ b, M0 b → b < w0.heap.size) (hs0_2 : Sl (Rp.int .u8) w0 M0 (.slice pA0_2 p0_2.length pc0_2) p0_2) {r : Bool} (h : charabanclaw33_HexfileLines_3.f K p0_0 p0_1 p0_2 p1 = some r) :
  Calls Tryd.prog 3 #[.agg #[.int .u8 p0_0, .int .u16 p0_1, .slice pA0_2 p0_2.length pc0_2], .string p1] w0 (charabanclaw33_HexfileLines_3.post M0 w0 r) := by
 unfold charabanclaw33_HexfileLines_3.f at h
 have h0 : Holds M0 w0 w0 [] := Holds.start ho
 have h00_2 := h0.addSl (Rp.int .u8) (.slice pA0_2 p0_2.length pc0_2) p0_2 (hs0_2.mono (fun _ _ hm => hm.elim id (fun hm => absurd hm (by simp [mines, sl]))))
 have h0 : Holds M0 w0 w0 [sl (Rp.int .u8) (.slice pA0_2 p0_2.length pc0_2) p0_2] := h00_2
 refine calls_of F3 rfl [.agg #[.int .u8 p0_0, .int .u16 p0_1, .slice pA0_2 p0_2.length pc0_2], .string p1] (by kernel_rfl) ?_
 refine RunsI.g 1 [.c 1, .c 2] ?_
 refine RunsI.r ?_
 refine RegI.o (OpE.box 2 25 [.int .u8 p0_0, .int .u16 p0_1, .slice pA0_2 p0_2.length pc0_2] h0 (by kernel_rfl) (by kernel_rfl) ?_)
 intro w1 b2 h3 hb4 hn5
 refine RegI.p 1 [(1, .string p1), (2, .pointer (some ⟨b2, 0, none⟩))] ?_
 refine RegI.d ?_
 refine RunsI.g 1 [.c 3, .c 4] ?_
 refine RunsI.r ?_
 obtain ⟨t10, hg9, h⟩ := of_bind h
 refine RegI.o (OpE.call 14 (by kernel_rfl) 10 #[] (by kernel_rfl) ((charabanclaw33_awake_10_ok K _ w1  h3.old' hg9).mono ?_))
 rintro _ w6 ⟨rfl, hb7⟩
 refine ⟨_, rfl, ?_⟩
 have h8 := h3.call hb7
 refine RegI.p 1 [(1, .string p1), (2, .pointer (some ⟨b2, 0, none⟩)), (5, .bool t10)] ?_
 refine RegI.d ?_
 refine RunsI.g 2 [.c 6, .c 7, .c 12] ?_
 refine RunsI.r ?_
 refine RegI.p 2 [(1, .string p1), (2, .pointer (some ⟨b2, 0, none⟩)), (16, .bool (!t10))] ?_
 refine RegI.d ?_
 rcases of_cond h with ⟨hc11, h⟩ | ⟨hc11, h⟩
 ·skip
  refine RunsI.f 16 true hc11 ?_
  refine RunsI.b true 8 ?_
  refine RunsI.g 1 [.c 9, .c 10, .c 12] ?_
  refine RunsI.r ?_
  refine RegI.p 1 [(4, .bool false)] ?_
  refine RegI.d ?_
  refine RunsI.t (.bool false) ?_
  obtain rfl := Option.some.inj h
  exact ⟨rfl, h8.below⟩
 ·skip
  refine RunsI.f 16 false hc11 ?_
  refine RunsI.b false 11 ?_
  refine RunsI.g 1 [.c 12] ?_
  refine RunsI.g 2 [.c 14, .c 15, .c 20] ?_
  refine RunsI.r ?_
  refine RegI.p 1 [(1, .string p1), (2, .pointer (some ⟨b2, 0, none⟩)), (17, .pointer (some ⟨b2, 2, none⟩))] ?_
  refine RegI.o (OpE.loadBox 18 1 23 b2 2 (.slice pA0_2 p0_2.length pc0_2) h8 (by kernel_rfl) (by kernel_rfl) rfl (by kernel_rfl) ?_)
  refine RegI.p 3 [(1, .string p1), (2, .pointer (some ⟨b2, 0, none⟩)), (21, .bool (decide ((p0_2.length : Int) > 400)))] ?_
  obtain ⟨j16, hJ17, h⟩ := of_let h
  have hj18 : ∀ (t13 : Bool) (w15 : World), j16 t13 = some r → Holds M0 w0 w15 [box b2 25 [.int .u8 p0_0, .int .u16 p0_1, .slice pA0_2 p0_2.length pc0_2], sl (Rp.int .u8) (.slice pA0_2 p0_2.length pc0_2) p0_2] → RegI F3 14 [.c 15, .c 20] 9 [(1, .string p1), (2, .pointer (some ⟨b2, 0, none⟩)), (25, .bool t13)] w15 (charabanclaw33_HexfileLines_3.post M0 w0 r) := by
   intro t13 w15 h h14
   rw [hJ17] at h
   clear hJ17
   dsimp only at h
   refine RegI.d ?_
   rcases of_cond h with ⟨hc19, h⟩ | ⟨hc19, h⟩
   ·skip
    refine RunsI.f 25 true hc19 ?_
    refine RunsI.b true 16 ?_
    refine RunsI.g 1 [.c 17, .c 18, .c 20] ?_
    refine RunsI.r ?_
    refine RegI.p 1 [(4, .bool true)] ?_
    refine RegI.d ?_
    refine RunsI.t (.bool true) ?_
    obtain rfl := Option.some.inj h
    exact ⟨rfl, h14.below⟩
   ·skip
    refine RunsI.f 25 false hc19 ?_
    refine RunsI.b false 19 ?_
    refine RunsI.g 1 [.c 20] ?_
    refine RunsI.g 1 [.c 21, .c 22] ?_
    refine RunsI.r ?_
    refine RegI.o (OpE.loadBox 27 0 25 b2 0 (.agg #[.int .u8 p0_0, .int .u16 p0_1, .slice pA0_2 p0_2.length pc0_2]) h14 (by kernel_rfl) (by kernel_rfl) rfl (by kernel_rfl) ?_)
    obtain ⟨⟨t24, t25⟩, hg23, h⟩ := of_bind h
    dsimp only at h
    refine RegI.o (OpE.call 28 (by kernel_rfl) 11 #[.agg #[.int .u8 p0_0, .int .u16 p0_1, .slice pA0_2 p0_2.length pc0_2]] (by kernel_rfl) ((hexfile_Line_11_ok K _ w15  pA0_2 pc0_2 p0_0 p0_1 p0_2 h14.old' (h14.get 1 rfl) hg23).mono ?_))
    rintro _ w20 ⟨rfl, hb21⟩
    refine ⟨_, rfl, ?_⟩
    have h22 := h14.call hb21
    refine RegI.p 5 [(1, .string p1), (2, .pointer (some ⟨b2, 0, none⟩)), (6, .string t24), (7, .int .i64 t25)] ?_
    refine RegI.d ?_
    refine RunsI.g 1 [.c 23, .c 24] ?_
    refine RunsI.r ?_
    refine RegI.o (OpE.loadBox 32 0 25 b2 0 (.agg #[.int .u8 p0_0, .int .u16 p0_1, .slice pA0_2 p0_2.length pc0_2]) h22 (by kernel_rfl) (by kernel_rfl) rfl (by kernel_rfl) ?_)
    obtain ⟨⟨t30, t31, t32⟩, hg29, h⟩ := of_bind h
    dsimp only at h
    refine RegI.o (OpE.call 33 (by kernel_rfl) 13 #[.agg #[.int .u8 p0_0, .int .u16 p0_1, .slice pA0_2 p0_2.length pc0_2]] (by kernel_rfl) ((charabanclaw33_plain_13_ok K _ w20  pA0_2 pc0_2 p0_0 p0_1 p0_2 h22.old' (h22.get 1 rfl) hg29).mono ?_))
    rintro _ w26 ⟨A33, c34, rfl, hr36⟩
    refine ⟨_, rfl, ?_⟩
    have hb27 := hr36.below
    have h28 := h22.join hr36
    obtain ⟨⟨t41, t42⟩, hg40, h⟩ := of_bind h
    dsimp only at h
    refine RegI.o (OpE.call 34 (by kernel_rfl) 12 #[.agg #[.int .u8 t30, .int .u16 t31, .slice A33 t32.length c34]] (by kernel_rfl) ((charabancref33_Line_12_ok K _ w26  A33 c34 t30 t31 t32 h28.old' (h28.get 2 rfl) hg40).mono ?_))
    rintro _ w37 ⟨rfl, hb38⟩
    refine ⟨_, rfl, ?_⟩
    have h39 := h28.call hb38
    refine RegI.p 5 [(1, .string p1), (2, .pointer (some ⟨b2, 0, none⟩)), (6, .string t24), (7, .int .i64 t25), (8, .string t41), (9, .int .i64 t42)] ?_
    refine RegI.d ?_
    refine RunsI.g 1 [.c 25, .c 26] ?_
    refine RunsI.r ?_
    refine RegI.p 1 [(1, .string p1), (2, .pointer (some ⟨b2, 0, none⟩)), (6, .string t24), (7, .int .i64 t25), (8, .string t41), (9, .int .i64 t42), (38, .string p1)] ?_
    obtain ⟨⟨t47, t48, t49, t53⟩, hg46, h⟩ := of_bind h
    dsimp only at h
    refine RegI.o (OpE.call 39 (by kernel_rfl) 14 #[.string p1] (by kernel_rfl) ((hexfile_Parse_14_ok K _ w37  p1 h39.old' hg46).mono ?_))
    rintro _ w43 ⟨A50, c51, rfl, hr54⟩
    refine ⟨_, rfl, ?_⟩
    have hb44 := hr54.below
    have h45 := h39.join hr54
    refine RegI.p 3 [(1, .string p1), (2, .pointer (some ⟨b2, 0, none⟩)), (6, .string t24), (7, .int .i64 t25), (8, .string t41), (9, .int .i64 t42), (40, .agg #[.int .u8 t47, .int .u16 t48, .slice A50 t49.length c51]), (41, .int .i64 t53)] ?_
    refine RegI.o (OpE.box 10 25 [.int .u8 0, .int .u16 0, .slice none 0 0] h45 (by kernel_rfl) (by kernel_rfl) ?_)
    intro w55 b56 h57 hb58 hn59
    refine RegI.o (OpE.storeBox 4 25 b56 0 (.agg #[.int .u8 t47, .int .u16 t48, .slice A50 t49.length c51]) [.int .u8 t47, .int .u16 t48, .slice A50 t49.length c51] h57 (by kernel_rfl) (by kernel_rfl) rfl (by kernel_rfl) (by kernel_rfl) (by kernel_rfl) ?_)
    intro w60 h61 hk62
    refine RegI.p 1 [(1, .string p1), (2, .pointer (some ⟨b2, 0, none⟩)), (6, .string t24), (7, .int .i64 t25), (8, .string t41), (9, .int .i64 t42), (10, .pointer (some ⟨b56, 0, none⟩)), (11, .int .i64 t53)] ?_
    refine RegI.d ?_
    refine RunsI.g 1 [.c 27, .c 28] ?_
    refine RunsI.r ?_
    refine RegI.p 1 [(2, .pointer (some ⟨b2, 0, none⟩)), (6, .string t24), (7, .int .i64 t25), (8, .string t41), (9, .int .i64 t42), (10, .pointer (some ⟨b56, 0, none⟩)), (11, .int .i64 t53), (43, .string p1)] ?_
    obtain ⟨⟨t67, t68, t69, t73⟩, hg66, h⟩ := of_bind h
    dsimp only at h
    refine RegI.o (OpE.call 44 (by kernel_rfl) 15 #[.string p1] (by kernel_rfl) ((charabancref33_Parse_15_ok K _ w60  p1 h61.old' hg66).mono ?_))
    rintro _ w63 ⟨A70, c71, rfl, hr74⟩
    refine ⟨_, rfl, ?_⟩
    have hb64 := hr74.below
    have h65 := h61.join hr74
    refine RegI.p 3 [(2, .pointer (some ⟨b2, 0, none⟩)), (6, .string t24), (7, .int .i64 t25), (8, .string t41), (9, .int .i64 t42), (10, .pointer (some ⟨b56, 0, none⟩)), (11, .int .i64 t53), (45, .agg #[.int .u8 t67, .int .u16 t68, .slice A70 t69.length c71]), (46, .int .i64 t73)] ?_
    refine RegI.o (OpE.box 12 31 [.int .u8 0, .int .u16 0, .slice none 0 0] h65 (by kernel_rfl) (by kernel_rfl) ?_)
    intro w75 b76 h77 hb78 hn79
    refine RegI.o (OpE.storeBox 6 31 b76 0 (.agg #[.int .u8 t67, .int .u16 t68, .slice A70 t69.length c71]) [.int .u8 t67, .int .u16 t68, .slice A70 t69.length c71] h77 (by kernel_rfl) (by kernel_rfl) rfl (by kernel_rfl) (by kernel_rfl) (by kernel_rfl) ?_)
    intro w80 h81 hk82
    refine RegI.p 1 [(2, .pointer (some ⟨b2, 0, none⟩)), (6, .string t24), (7, .int .i64 t25), (8, .string t41), (9, .int .i64 t42), (10, .pointer (some ⟨b56, 0, none⟩)), (11, .int .i64 t53), (12, .pointer (some ⟨b76, 0, none⟩)), (13, .int .i64 t73)] ?_
    refine RegI.d ?_
    refine RunsI.g 1 [.c 29, .c 30] ?_
    refine RunsI.any 28 (by kernel_rfl) (by kernel_rfl) (by kernel_rfl) (Kp ([] : List Nat) (World.drew w80)) ?_
    have h84 := h81.drew
    generalize World.drew w80 = w83 at h84 ⊢
    have hS85 := Kp.refl ([] : List Nat) w83
    refine AnyE.pure 0 47 (.string t24) (by kernel_rfl) hS85 (fun _ => by kernel_rfl) ?_
    refine AnyE.pure 1 48 (.string t41) (by kernel_rfl) hS85 (fun _ => by kernel_rfl) ?_
    refine AnyE.pure 2 49 (.bool ((ByteArray.toList t24) == (ByteArray.toList t41))) (by kernel_rfl) hS85 (fun _ => by kernel_rfl) ?_
    refine AnyE.pure 3 50 (.bool ((ByteArray.toList t24) == (ByteArray.toList t41))) (by kernel_rfl) hS85 (fun _ => by kernel_rfl) ?_
    rcases of_cond h with ⟨hc87, h⟩ | ⟨hc87, h⟩
    ·skip
     refine AnyE.fix 50 true hc87 (by kernel_rfl) (by kernel_rfl) ?_
     refine AnyE.pure 4 51 (.int .i64 t25) (by kernel_rfl) hS85 (fun _ => by kernel_rfl) ?_
     refine AnyE.pure 5 52 (.int .i64 t42) (by kernel_rfl) hS85 (fun _ => by kernel_rfl) ?_
     refine AnyE.pure 6 53 (.bool (t25 == t42)) (by kernel_rfl) hS85 (fun _ => by kernel_rfl) ?_
     refine AnyE.pure 7 54 (.bool (t25 == t42)) (by kernel_rfl) hS85 (fun _ => by kernel_rfl) ?_
     refine AnyE.pure 8 55 (.bool (t25 == t42)) (by kernel_rfl) hS85 (fun _ => by kernel_rfl) ?_
     rcases of_cond h with ⟨hc88, h⟩ | ⟨hc88, h⟩
     ·skip
      refine AnyE.fix 55 true hc88 (by kernel_rfl) (by kernel_rfl) ?_
      refine AnyE.loadBox 9 56 4 25 b56 0 (.agg #[.int .u8 t47, .int .u16 t48, .slice A50 t49.length c51]) [] h84 rfl (by kernel_rfl) hS85 rfl rfl (by kernel_rfl) (by kernel_rfl) ?_
      refine AnyE.loadBox 11 58 6 31 b76 0 (.agg #[.int .u8 t67, .int .u16 t68, .slice A70 t69.length c71]) [] h84 rfl (by kernel_rfl) hS85 rfl rfl (by kernel_rfl) (by kernel_rfl) ?_
      refine AnyE.one 10 (by kernel_rfl) (fun w89 hu90 => ?_)
      have h91 := h84.call hu90
      have hS92 := hS85.up hu90
      obtain ⟨⟨t97, t98, t99⟩, hg96, h⟩ := of_bind h
      dsimp only at h
      refine OpE.call 57 (by kernel_rfl) 13 #[.agg #[.int .u8 t47, .int .u16 t48, .slice A50 t49.length c51]] (by kernel_rfl) ((charabanclaw33_plain_13_ok K _ w89  A50 c51 t47 t48 t49 h91.old' (h91.get 3 rfl) hg96).mono ?_)
      rintro _ w93 ⟨A100, c101, rfl, hr103⟩
      refine ⟨_, rfl, ?_⟩
      have hb94 := hr103.below
      have h95 := h91.join hr103
      have hS104 := hS92.up hb94
      refine ⟨hS104, ?_⟩
      refine AnyE.one 12 (by kernel_rfl) (fun w105 hu106 => ?_)
      have h107 := h95.call hu106
      have hS108 := hS104.up hu106
      obtain ⟨t113, hg112, h⟩ := of_bind h
      refine OpE.call 59 (by kernel_rfl) 16 #[.agg #[.int .u8 t97, .int .u16 t98, .slice A100 t99.length c101], .agg #[.int .u8 t67, .int .u16 t68, .slice A70 t69.length c71]] (by kernel_rfl) ((charabancref33_Same_16_ok K _ w105  A100 c101 A70 c71 t97 t98 t99 t67 t68 t69 h107.old' (h107.get 7 rfl) (h107.get 5 rfl) hg112).mono ?_)
      rintro _ w109 ⟨rfl, hb110⟩
      refine ⟨_, rfl, ?_⟩
      have h111 := h107.call hb110
      have hS114 := hS108.up hb110
      refine ⟨hS114, ?_⟩
      refine AnyE.pure 13 60 (.bool t113) (by kernel_rfl) hS114 (fun _ => by kernel_rfl) ?_
      refine AnyE.pure 14 61 (.bool t113) (by kernel_rfl) hS114 (fun _ => by kernel_rfl) ?_
      rcases of_cond h with ⟨hc115, h⟩ | ⟨hc115, h⟩
      ·skip
       refine AnyE.fix 61 true hc115 (by kernel_rfl) (by kernel_rfl) ?_
       refine AnyE.pure 15 62 (.int .i64 t53) (by kernel_rfl) hS114 (fun _ => by kernel_rfl) ?_
       refine AnyE.pure 16 63 (.int .i64 t73) (by kernel_rfl) hS114 (fun _ => by kernel_rfl) ?_
       refine AnyE.pure 17 64 (.bool (t53 == t73)) (by kernel_rfl) hS114 (fun _ => by kernel_rfl) ?_
       refine AnyE.pure 18 65 (.bool (t53 == t73)) (by kernel_rfl) hS114 (fun _ => by kernel_rfl) ?_
       refine AnyE.pure 19 66 (.bool (t53 == t73)) (by kernel_rfl) hS114 (fun _ => by kernel_rfl) ?_
       rcases of_cond h with ⟨hc116, h⟩ | ⟨hc116, h⟩
       ·skip
        refine AnyE.fix 66 true hc116 (by kernel_rfl) (by kernel_rfl) ?_
        refine AnyE.loadBox 20 67 0 25 b2 0 (.agg #[.int .u8 p0_0, .int .u16 p0_1, .slice pA0_2 p0_2.length pc0_2]) [] h84 rfl (by kernel_rfl) hS114 rfl rfl (by kernel_rfl) (by kernel_rfl) ?_
        obtain ⟨t118, hg117, h⟩ := of_bind h
        refine AnyE.call 21 68 (.int .u8 t118) 17 #[.agg #[.int .u8 p0_0, .int .u16 p0_1, .slice pA0_2 p0_2.length pc0_2]] (by kernel_rfl) hS114 (fun _ => by kernel_rfl) (fun w hk => hexfile_Sum_17_ok K (fun _ => False) w pA0_2 pc0_2 p0_0 p0_1 p0_2 (fun _ hf => hf.elim) (Sl.mono (h84.atI [] rfl hk 1 rfl rfl) (fun _ _ hf => hf.elim)) hg117) ?_
        refine AnyE.loadBox 22 69 0 25 b2 0 (.agg #[.int .u8 p0_0, .int .u16 p0_1, .slice pA0_2 p0_2.length pc0_2]) [] h84 rfl (by kernel_rfl) hS114 rfl rfl (by kernel_rfl) (by kernel_rfl) ?_
        refine AnyE.one 23 (by kernel_rfl) (fun w119 hu120 => ?_)
        have h121 := h111.call hu120
        have hS122 := hS114.up hu120
        obtain ⟨⟨t127, t128, t129⟩, hg126, h⟩ := of_bind h
        dsimp only at h
        refine OpE.call 70 (by kernel_rfl) 13 #[.agg #[.int .u8 p0_0, .int .u16 p0_1, .slice pA0_2 p0_2.length pc0_2]] (by kernel_rfl) ((charabanclaw33_plain_13_ok K _ w119  pA0_2 pc0_2 p0_0 p0_1 p0_2 h121.old' (h121.get 1 rfl) hg126).mono ?_)
        rintro _ w123 ⟨A130, c131, rfl, hr133⟩
        refine ⟨_, rfl, ?_⟩
        have hb124 := hr133.below
        have h125 := h121.join hr133
        have hS134 := hS122.up hb124
        refine ⟨hS134, ?_⟩
        refine AnyE.one 24 (by kernel_rfl) (fun w135 hu136 => ?_)
        have h137 := h125.call hu136
        have hS138 := hS134.up hu136
        obtain ⟨t143, hg142, h⟩ := of_bind h
        refine OpE.call 71 (by kernel_rfl) 18 #[.agg #[.int .u8 t127, .int .u16 t128, .slice A130 t129.length c131]] (by kernel_rfl) ((charabancref33_Sum_18_ok K _ w135  A130 c131 t127 t128 t129 h137.old' (h137.get 8 rfl) hg142).mono ?_)
        rintro _ w139 ⟨rfl, hb140⟩
        refine ⟨_, rfl, ?_⟩
        have h141 := h137.call hb140
        have hS144 := hS138.up hb140
        refine ⟨hS144, ?_⟩
        refine AnyE.pure 25 72 (.bool (t118 == t143)) (by kernel_rfl) hS144 (fun _ => by kernel_rfl) ?_
        refine AnyE.pure 26 73 (.bool (t118 == t143)) (by kernel_rfl) hS144 (fun _ => by kernel_rfl) ?_
        refine AnyE.pure 27 4 (.bool (t118 == t143)) (by kernel_rfl) hS144 (fun _ => by kernel_rfl) ?_
        refine AnyE.done (by kernel_rfl) (fun w145 hu146 => ?_)
        have h147 := h141.call hu146
        refine RunsI.l [4] [(4, .bool (t118 == t143))] ?_
        refine RunsI.t (.bool (t118 == t143)) ?_
        obtain rfl := Option.some.inj h
        exact ⟨rfl, h147.below⟩
       ·skip
        refine AnyE.fix 66 false hc116 (by kernel_rfl) (by kernel_rfl) ?_
        refine AnyE.no 20 67 (by kernel_rfl) hS114 ?_
        refine AnyE.no 21 68 (by kernel_rfl) hS114 ?_
        refine AnyE.no 22 69 (by kernel_rfl) hS114 ?_
        refine AnyE.no 23 70 (by kernel_rfl) hS114 ?_
        refine AnyE.no 24 71 (by kernel_rfl) hS114 ?_
        refine AnyE.no 25 72 (by kernel_rfl) hS114 ?_
        refine AnyE.pure 26 73 (.bool false) (by kernel_rfl) hS114 (fun _ => by kernel_rfl) ?_
        refine AnyE.pure 27 4 (.bool false) (by kernel_rfl) hS114 (fun _ => by kernel_rfl) ?_
        refine AnyE.done (by kernel_rfl) (fun w148 hu149 => ?_)
        have h150 := h111.call hu149
        refine RunsI.l [4] [(4, .bool false)] ?_
        refine RunsI.t (.bool false) ?_
        obtain rfl := Option.some.inj h
        exact ⟨rfl, h150.below⟩
      ·skip
       refine AnyE.fix 61 false hc115 (by kernel_rfl) (by kernel_rfl) ?_
       refine AnyE.no 15 62 (by kernel_rfl) hS114 ?_
       refine AnyE.no 16 63 (by kernel_rfl) hS114 ?_
       refine AnyE.no 17 64 (by kernel_rfl) hS114 ?_
       refine AnyE.pure 18 65 (.bool false) (by kernel_rfl) hS114 (fun _ => by kernel_rfl) ?_
       refine AnyE.pure 19 66 (.bool false) (by kernel_rfl) hS114 (fun _ => by kernel_rfl) ?_
       refine AnyE.no 20 67 (by kernel_rfl) hS114 ?_
       refine AnyE.no 21 68 (by kernel_rfl) hS114 ?_
       refine AnyE.no 22 69 (by kernel_rfl) hS114 ?_
       refine AnyE.no 23 70 (by kernel_rfl) hS114 ?_
       refine AnyE.no 24 71 (by kernel_rfl) hS114 ?_
       refine AnyE.no 25 72 (by kernel_rfl) hS114 ?_
       refine AnyE.pure 26 73 (.bool false) (by kernel_rfl) hS114 (fun _ => by kernel_rfl) ?_
       refine AnyE.pure 27 4 (.bool false) (by kernel_rfl) hS114 (fun _ => by kernel_rfl) ?_
       refine AnyE.done (by kernel_rfl) (fun w151 hu152 => ?_)
       have h153 := h111.call hu152
       refine RunsI.l [4] [(4, .bool false)] ?_
       refine RunsI.t (.bool false) ?_
       obtain rfl := Option.some.inj h
       exact ⟨rfl, h153.below⟩
     ·skip
      refine AnyE.fix 55 false hc88 (by kernel_rfl) (by kernel_rfl) ?_
      refine AnyE.no 9 56 (by kernel_rfl) hS85 ?_
      refine AnyE.no 10 57 (by kernel_rfl) hS85 ?_
      refine AnyE.no 11 58 (by kernel_rfl) hS85 ?_
      refine AnyE.no 12 59 (by kernel_rfl) hS85 ?_
      refine AnyE.pure 13 60 (.bool false) (by kernel_rfl) hS85 (fun _ => by kernel_rfl) ?_
      refine AnyE.pure 14 61 (.bool false) (by kernel_rfl) hS85 (fun _ => by kernel_rfl) ?_
      refine AnyE.no 15 62 (by kernel_rfl) hS85 ?_
      refine AnyE.no 16 63 (by kernel_rfl) hS85 ?_
      refine AnyE.no 17 64 (by kernel_rfl) hS85 ?_
      refine AnyE.pure 18 65 (.bool false) (by kernel_rfl) hS85 (fun _ => by kernel_rfl) ?_
      refine AnyE.pure 19 66 (.bool false) (by kernel_rfl) hS85 (fun _ => by kernel_rfl) ?_
      refine AnyE.no 20 67 (by kernel_rfl) hS85 ?_
      refine AnyE.no 21 68 (by kernel_rfl) hS85 ?_
      refine AnyE.no 22 69 (by kernel_rfl) hS85 ?_
      refine AnyE.no 23 70 (by kernel_rfl) hS85 ?_
      refine AnyE.no 24 71 (by kernel_rfl) hS85 ?_
      refine AnyE.no 25 72 (by kernel_rfl) hS85 ?_
      refine AnyE.pure 26 73 (.bool false) (by kernel_rfl) hS85 (fun _ => by kernel_rfl) ?_
      refine AnyE.pure 27 4 (.bool false) (by kernel_rfl) hS85 (fun _ => by kernel_rfl) ?_
      refine AnyE.done (by kernel_rfl) (fun w154 hu155 => ?_)
      have h156 := h84.call hu155
      refine RunsI.l [4] [(4, .bool false)] ?_
      refine RunsI.t (.bool false) ?_
      obtain rfl := Option.some.inj h
      exact ⟨rfl, h156.below⟩
    ·skip
     refine AnyE.fix 50 false hc87 (by kernel_rfl) (by kernel_rfl) ?_
     refine AnyE.no 4 51 (by kernel_rfl) hS85 ?_
     refine AnyE.no 5 52 (by kernel_rfl) hS85 ?_
     refine AnyE.no 6 53 (by kernel_rfl) hS85 ?_
     refine AnyE.pure 7 54 (.bool false) (by kernel_rfl) hS85 (fun _ => by kernel_rfl) ?_
     refine AnyE.pure 8 55 (.bool false) (by kernel_rfl) hS85 (fun _ => by kernel_rfl) ?_
     refine AnyE.no 9 56 (by kernel_rfl) hS85 ?_
     refine AnyE.no 10 57 (by kernel_rfl) hS85 ?_
     refine AnyE.no 11 58 (by kernel_rfl) hS85 ?_
     refine AnyE.no 12 59 (by kernel_rfl) hS85 ?_
     refine AnyE.pure 13 60 (.bool false) (by kernel_rfl) hS85 (fun _ => by kernel_rfl) ?_
     refine AnyE.pure 14 61 (.bool false) (by kernel_rfl) hS85 (fun _ => by kernel_rfl) ?_
     refine AnyE.no 15 62 (by kernel_rfl) hS85 ?_
     refine AnyE.no 16 63 (by kernel_rfl) hS85 ?_
     refine AnyE.no 17 64 (by kernel_rfl) hS85 ?_
     refine AnyE.pure 18 65 (.bool false) (by kernel_rfl) hS85 (fun _ => by kernel_rfl) ?_
     refine AnyE.pure 19 66 (.bool false) (by kernel_rfl) hS85 (fun _ => by kernel_rfl) ?_
     refine AnyE.no 20 67 (by kernel_rfl) hS85 ?_
     refine AnyE.no 21 68 (by kernel_rfl) hS85 ?_
     refine AnyE.no 22 69 (by kernel_rfl) hS85 ?_
     refine AnyE.no 23 70 (by kernel_rfl) hS85 ?_
     refine AnyE.no 24 71 (by kernel_rfl) hS85 ?_
     refine AnyE.no 25 72 (by kernel_rfl) hS85 ?_
     refine AnyE.pure 26 73 (.bool false) (by kernel_rfl) hS85 (fun _ => by kernel_rfl) ?_
     refine AnyE.pure 27 4 (.bool false) (by kernel_rfl) hS85 (fun _ => by kernel_rfl) ?_
     refine AnyE.done (by kernel_rfl) (fun w157 hu158 => ?_)
     have h159 := h84.call hu158
     refine RunsI.l [4] [(4, .bool false)] ?_
     refine RunsI.t (.bool false) ?_
     obtain rfl := Option.some.inj h
     exact ⟨rfl, h159.below⟩
  clear hJ17
  rcases of_cond h with ⟨hc12, h⟩ | ⟨hc12, h⟩
  ·skip
   refine RegI.f 21 true hc12 ?_
   refine RegI.p 4 [(1, .string p1), (2, .pointer (some ⟨b2, 0, none⟩)), (25, .bool true)] ?_
   refine RegI.l [1, 2, 25] [(1, .string p1), (2, .pointer (some ⟨b2, 0, none⟩)), (25, .bool true)] ?_
   exact hj18 true w6 h (h8.pick [1, 0] (by decide))
  ·skip
   refine RegI.f 21 false hc12 ?_
   refine RegI.p 4 [(1, .string p1), (2, .pointer (some ⟨b2, 0, none⟩)), (25, .bool (decide ((p1.size : Int) > 700)))] ?_
   refine RegI.l [1, 2, 25] [(1, .string p1), (2, .pointer (some ⟨b2, 0, none⟩)), (25, .bool (decide ((p1.size : Int) > 700)))] ?_
   exact hj18 (decide ((p1.size : Int) > 700)) w6 h (h8.pick [1, 0] (by decide))
end
end Go.Proofs.YtilgjfckgkkfmaaDoor.Hx
