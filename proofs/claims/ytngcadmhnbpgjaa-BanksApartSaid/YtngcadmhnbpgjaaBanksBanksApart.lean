/- The statement's function BanksApart as a plain Lean function; written by wip/eng.py. -/
import Derived.Test.YtngcadmhnbpgjaaBanks2
set_option linter.unusedVariables false
set_option linter.unusedSimpArgs false
set_option maxHeartbeats 4000000
namespace Go.Proofs.Ytngcadmhnbpgjaa.Banks
open Go.RowKit Go.Eng
noncomputable def B10 : Code := (Try.f10.body).getD .skip
noncomputable def F10 : Fun Try.prog := ⟨10, Try.f10, B10, 80, Try.func10, by kernel_rfl, by kernel_rfl⟩

/-! ### charabanc/charabanclaw19.BanksApart (function 10) -/
section
def charabanclaw19_BanksApart_10.post (M0 : Nat → Prop) (w0 : World) (r : Bool) : Ending → World → Prop := fun e w => e = .returned (.bool r) ∧ Below w0.heap.size w0 w
def charabanclaw19_BanksApart_10.f (K : Nat) (p0_0 : List Int) (p0_1 : Int) (p0_2 : Int) (p0_3 : List (Int × Int)) (p1 : Int) (p2 : Int) : Option Bool := (charabanclaw19_awake_29.f K).bind fun t9 => cond (!t9) (some false) ((charabanclaw19_few_30.f K p0_0 p0_1 p0_2 p0_3).bind fun t15 => Let (fun (t23 : Bool) => cond t23 (some true) ((banks_Select_41.f K p0_0 p0_1 p0_2 p0_3 (IntKind.wrap .u8 (IntKind.wrap .i64 (p0_2 + 1)))).bind fun yt34 => (banks_Write_39.f K p0_0 p0_1 p0_2 p0_3 (IntKind.wrap .u16 (32768 + (band .u16 p1 16383))) p2).bind fun yt56 => (banks_Select_41.f K yt56.1 yt56.2.1 yt56.2.2.1 yt56.2.2.2 (IntKind.wrap .u8 (IntKind.wrap .i64 (p0_2 + 1)))).bind fun yt78 => (banks_Select_41.f K yt78.1 yt78.2.1 yt78.2.2.1 yt78.2.2.2 (IntKind.wrap .u8 p0_2)).bind fun yt100 => (banks_Read_34.f K yt78.1 yt78.2.1 yt78.2.2.1 yt78.2.2.2 (IntKind.wrap .u16 (32768 + (band .u16 p1 16383)))).bind fun t123 => (banks_Read_34.f K yt34.1 yt34.2.1 yt34.2.2.1 yt34.2.2.2 (IntKind.wrap .u16 (32768 + (band .u16 p1 16383)))).bind fun t125 => cond (t123 == t125) ((banks_Read_34.f K yt100.1 yt100.2.1 yt100.2.2.1 yt100.2.2.2 (IntKind.wrap .u16 (32768 + (band .u16 p1 16383)))).bind fun t128 => cond (t128 == p2) (cond (yt34.2.2.1 != p0_2) ((charabanclaw19_same_45.f K yt100.1 yt100.2.1 yt100.2.2.1 yt100.2.2.2 yt56.1 yt56.2.1 yt56.2.2.1 yt56.2.2.2).bind fun t132 => some t132) (some false)) (some false)) (some false))) (fun j26 => cond (!t15) (j26 true) ((banks_Check_36.f K p0_0 p0_1 p0_2 p0_3).bind fun t21 => cond (t21 != 0) (j26 true) (j26 (decide (p0_1 < 2))))))
set_option maxRecDepth 100000 in
theorem charabanclaw19_BanksApart_10_ok (K : Nat) (M0 : Nat → Prop) (w0 : World) (pA0_0 : Option Addr) (pc0_0 : Nat) (pA0_3 : Option Addr) (pc0_3 : Nat) (p0_0 : List Int) (p0_1 : Int) (p0_2 : Int) (p0_3 : List (Int × Int)) (p1 : Int) (p2 : Int) (ho : ∀ b, M0 b → b < w0.heap.size) (hs0_0 : Sl (Rp.int .u8) w0 M0 (.slice pA0_0 p0_0.length pc0_0) p0_0) (hs0_3 : Sl (Rp.pair (Rp.int .i64) (Rp.int .u8)) w0 M0 (.slice pA0_3 p0_3.length pc0_3) p0_3) {r : Bool} (h : charabanclaw19_BanksApart_10.f K p0_0 p0_1 p0_2 p0_3 p1 p2 = some r) :
    Calls Try.prog 10 #[.agg #[.slice pA0_0 p0_0.length pc0_0, .int .i64 p0_1, .int .i64 p0_2, .slice pA0_3 p0_3.length pc0_3], .int .u16 p1, .int .u8 p2] w0 (charabanclaw19_BanksApart_10.post M0 w0 r) := by
  unfold charabanclaw19_BanksApart_10.f at h
  have h0 : Holds M0 w0 w0 [] := Holds.start ho
  have h00_0 := h0.addSl (Rp.int .u8) (.slice pA0_0 p0_0.length pc0_0) p0_0 (hs0_0.mono (fun _ _ hm => hm.elim id (fun hm => absurd hm (by simp [mines, sl]))))
  have h00_3 := h00_0.addSl (Rp.pair (Rp.int .i64) (Rp.int .u8)) (.slice pA0_3 p0_3.length pc0_3) p0_3 (hs0_3.mono (fun _ _ hm => hm.elim id (fun hm => absurd hm (by simp [mines, sl]))))
  have h0 : Holds M0 w0 w0 [sl (Rp.int .u8) (.slice pA0_0 p0_0.length pc0_0) p0_0, sl (Rp.pair (Rp.int .i64) (Rp.int .u8)) (.slice pA0_3 p0_3.length pc0_3) p0_3] := h00_3
  refine calls_of F10 rfl [.agg #[.slice pA0_0 p0_0.length pc0_0, .int .i64 p0_1, .int .i64 p0_2, .slice pA0_3 p0_3.length pc0_3], .int .u16 p1, .int .u8 p2] (by kernel_rfl) ?_
  refine RunsI.go 1 [.c 1, .c 2] (by kernel_rfl) ?_
  refine RunsI.region (by kernel_rfl) ?_
  refine RegI.op (by kernel_rfl) (OpE.box 3 53 [.slice pA0_0 p0_0.length pc0_0, .int .i64 p0_1, .int .i64 p0_2, .slice pA0_3 p0_3.length pc0_3] h0 (by kernel_rfl) (by kernel_rfl) ?_)
  intro w1 b2 h3 hb4
  refine RegI.pure 1 [1, 2, 3] [(1, .int .u16 p1), (2, .int .u8 p2), (3, .pointer (some ⟨b2, 0, none⟩))] (by kernel_rfl) ?_
  refine RegI.done (by kernel_rfl) ?_
  refine RunsI.go 1 [.c 3, .c 4] (by kernel_rfl) ?_
  refine RunsI.region (by kernel_rfl) ?_
  obtain ⟨t9, hg8, h⟩ := of_bind h
  refine RegI.op (by kernel_rfl) (OpE.call 15 (by kernel_rfl) 29 #[] (by kernel_rfl) ((charabanclaw19_awake_29_ok K _ w1  h3.old' hg8).mono ?_))
  rintro _ w5 ⟨rfl, hb6⟩
  refine ⟨_, rfl, ?_⟩
  have h7 := h3.call hb6
  refine RegI.pure 1 [1, 2, 3, 7] [(1, .int .u16 p1), (2, .int .u8 p2), (3, .pointer (some ⟨b2, 0, none⟩)), (7, .bool t9)] (by kernel_rfl) ?_
  refine RegI.done (by kernel_rfl) ?_
  refine RunsI.go 2 [.c 6, .c 7, .c 12] (by kernel_rfl) ?_
  refine RunsI.region (by kernel_rfl) ?_
  refine RegI.pure 2 [1, 2, 3, 17] [(1, .int .u16 p1), (2, .int .u8 p2), (3, .pointer (some ⟨b2, 0, none⟩)), (17, .bool (!t9))] (by kernel_rfl) ?_
  refine RegI.done (by kernel_rfl) ?_
  rcases of_cond h with ⟨hc10, h⟩ | ⟨hc10, h⟩
  · skip
    refine RunsI.fix 17 true hc10 (by kernel_rfl) (by kernel_rfl) ?_
    refine RunsI.cond true 8 (by kernel_rfl) ?_
    refine RunsI.go 1 [.c 9, .c 10, .c 12] (by kernel_rfl) ?_
    refine RunsI.region (by kernel_rfl) ?_
    refine RegI.pure 1 [6] [(6, .bool false)] (by kernel_rfl) ?_
    refine RegI.done (by kernel_rfl) ?_
    refine RunsI.ret (.bool false) (by kernel_rfl) (by kernel_rfl) ?_
    obtain rfl := Option.some.inj h
    exact ⟨rfl, h7.below⟩
  · skip
    refine RunsI.fix 17 false hc10 (by kernel_rfl) (by kernel_rfl) ?_
    refine RunsI.cond false 11 (by kernel_rfl) ?_
    refine RunsI.go 1 [.c 12] (by kernel_rfl) ?_
    refine RunsI.go 1 [.c 13, .c 14] (by kernel_rfl) ?_
    refine RunsI.region (by kernel_rfl) ?_
    refine RegI.op (by kernel_rfl) (OpE.loadBox 18 2 53 b2 0 (.agg #[.slice pA0_0 p0_0.length pc0_0, .int .i64 p0_1, .int .i64 p0_2, .slice pA0_3 p0_3.length pc0_3]) h7 (by kernel_rfl) (by kernel_rfl) rfl (by kernel_rfl) ?_)
    obtain ⟨t15, hg14, h⟩ := of_bind h
    refine RegI.op (by kernel_rfl) (OpE.call 19 (by kernel_rfl) 30 #[.agg #[.slice pA0_0 p0_0.length pc0_0, .int .i64 p0_1, .int .i64 p0_2, .slice pA0_3 p0_3.length pc0_3]] (by kernel_rfl) ((charabanclaw19_few_30_ok K _ w5  pA0_0 pc0_0 pA0_3 pc0_3 p0_0 p0_1 p0_2 p0_3 h7.old' (h7.get 0 rfl) (h7.get 1 rfl) hg14).mono ?_))
    rintro _ w11 ⟨rfl, hb12⟩
    refine ⟨_, rfl, ?_⟩
    have h13 := h7.call hb12
    refine RegI.pure 1 [1, 2, 3, 8] [(1, .int .u16 p1), (2, .int .u8 p2), (3, .pointer (some ⟨b2, 0, none⟩)), (8, .bool t15)] (by kernel_rfl) ?_
    refine RegI.done (by kernel_rfl) ?_
    refine RunsI.go 2 [.c 16, .c 17, .c 22] (by kernel_rfl) ?_
    refine RunsI.region (by kernel_rfl) ?_
    refine RegI.pure 3 [1, 2, 3, 22] [(1, .int .u16 p1), (2, .int .u8 p2), (3, .pointer (some ⟨b2, 0, none⟩)), (22, .bool (!t15))] (by kernel_rfl) ?_
    obtain ⟨j26, hJ27, h⟩ := of_let h
    have hj28 : ∀ (t23 : Bool) (w25 : World), j26 t23 = some r → Holds M0 w0 w25 [box b2 53 [.slice pA0_0 p0_0.length pc0_0, .int .i64 p0_1, .int .i64 p0_2, .slice pA0_3 p0_3.length pc0_3], sl (Rp.int .u8) (.slice pA0_0 p0_0.length pc0_0) p0_0, sl (Rp.pair (Rp.int .i64) (Rp.int .u8)) (.slice pA0_3 p0_3.length pc0_3) p0_3] → RegI F10 16 [.c 17, .c 22] 12 [(1, .int .u16 p1), (2, .int .u8 p2), (3, .pointer (some ⟨b2, 0, none⟩)), (31, .bool t23)] w25 (charabanclaw19_BanksApart_10.post M0 w0 r) := by
      intro t23 w25 h h24
      rw [hJ27] at h
      clear hJ27
      dsimp only at h
      refine RegI.done (by kernel_rfl) ?_
      rcases of_cond h with ⟨hc29, h⟩ | ⟨hc29, h⟩
      · skip
        refine RunsI.fix 31 true hc29 (by kernel_rfl) (by kernel_rfl) ?_
        refine RunsI.cond true 18 (by kernel_rfl) ?_
        refine RunsI.go 1 [.c 19, .c 20, .c 22] (by kernel_rfl) ?_
        refine RunsI.region (by kernel_rfl) ?_
        refine RegI.pure 1 [6] [(6, .bool true)] (by kernel_rfl) ?_
        refine RegI.done (by kernel_rfl) ?_
        refine RunsI.ret (.bool true) (by kernel_rfl) (by kernel_rfl) ?_
        obtain rfl := Option.some.inj h
        exact ⟨rfl, h24.below⟩
      · skip
        refine RunsI.fix 31 false hc29 (by kernel_rfl) (by kernel_rfl) ?_
        refine RunsI.cond false 21 (by kernel_rfl) ?_
        refine RunsI.go 1 [.c 22] (by kernel_rfl) ?_
        refine RunsI.go 1 [.c 23, .c 24] (by kernel_rfl) ?_
        refine RunsI.region (by kernel_rfl) ?_
        refine RegI.pure 4 [2, 3, 9] [(2, .int .u8 p2), (3, .pointer (some ⟨b2, 0, none⟩)), (9, .int .u16 (IntKind.wrap .u16 (32768 + (band .u16 p1 16383))))] (by kernel_rfl) ?_
        refine RegI.done (by kernel_rfl) ?_
        refine RunsI.go 1 [.c 25, .c 26] (by kernel_rfl) ?_
        refine RunsI.region (by kernel_rfl) ?_
        refine RegI.pure 1 [2, 3, 9, 35] [(2, .int .u8 p2), (3, .pointer (some ⟨b2, 0, none⟩)), (9, .int .u16 (IntKind.wrap .u16 (32768 + (band .u16 p1 16383)))), (35, .pointer (some ⟨b2, 2, none⟩))] (by kernel_rfl) ?_
        refine RegI.op (by kernel_rfl) (OpE.loadBox 36 0 3 b2 2 (.int .i64 p0_2) h24 (by kernel_rfl) (by kernel_rfl) rfl (by kernel_rfl) ?_)
        refine RegI.pure 1 [2, 3, 9, 10] [(2, .int .u8 p2), (3, .pointer (some ⟨b2, 0, none⟩)), (9, .int .u16 (IntKind.wrap .u16 (32768 + (band .u16 p1 16383)))), (10, .int .i64 p0_2)] (by kernel_rfl) ?_
        refine RegI.done (by kernel_rfl) ?_
        refine RunsI.go 1 [.c 27, .c 28] (by kernel_rfl) ?_
        refine RunsI.region (by kernel_rfl) ?_
        refine RegI.op (by kernel_rfl) (OpE.loadBox 37 0 53 b2 0 (.agg #[.slice pA0_0 p0_0.length pc0_0, .int .i64 p0_1, .int .i64 p0_2, .slice pA0_3 p0_3.length pc0_3]) h24 (by kernel_rfl) (by kernel_rfl) rfl (by kernel_rfl) ?_)
        refine RegI.pure 3 [2, 3, 9, 10, 37, 40] [(2, .int .u8 p2), (3, .pointer (some ⟨b2, 0, none⟩)), (9, .int .u16 (IntKind.wrap .u16 (32768 + (band .u16 p1 16383)))), (10, .int .i64 p0_2), (37, .agg #[.slice pA0_0 p0_0.length pc0_0, .int .i64 p0_1, .int .i64 p0_2, .slice pA0_3 p0_3.length pc0_3]), (40, .int .u8 (IntKind.wrap .u8 (IntKind.wrap .i64 (p0_2 + 1))))] (by kernel_rfl) ?_
        obtain ⟨⟨t34, t38, t39, t40⟩, hg33, h⟩ := of_bind h
        dsimp only at h
        refine RegI.op (by kernel_rfl) (OpE.call 41 (by kernel_rfl) 41 #[.agg #[.slice pA0_0 p0_0.length pc0_0, .int .i64 p0_1, .int .i64 p0_2, .slice pA0_3 p0_3.length pc0_3], .int .u8 (IntKind.wrap .u8 (IntKind.wrap .i64 (p0_2 + 1)))] (by kernel_rfl) ((banks_Select_41_ok K _ w25  pA0_0 pc0_0 pA0_3 pc0_3 p0_0 p0_1 p0_2 p0_3 (IntKind.wrap .u8 (IntKind.wrap .i64 (p0_2 + 1))) h24.old' (h24.get 1 rfl) (h24.get 2 rfl) hg33).mono ?_))
        rintro _ w30 ⟨A35, c36, A41, c42, rfl, hr44⟩
        refine ⟨_, rfl, ?_⟩
        have hb31 := hr44.below
        have h32 := h24.join hr44
        refine RegI.op (by kernel_rfl) (OpE.box 11 53 [.slice none 0 0, .int .i64 0, .int .i64 0, .slice none 0 0] h32 (by kernel_rfl) (by kernel_rfl) ?_)
        intro w45 b46 h47 hb48
        refine RegI.op (by kernel_rfl) (OpE.storeBox 5 53 b46 0 (.agg #[.slice A35 t34.length c36, .int .i64 t38, .int .i64 t39, .slice A41 t40.length c42]) [.slice A35 t34.length c36, .int .i64 t38, .int .i64 t39, .slice A41 t40.length c42] h47 (by kernel_rfl) (by kernel_rfl) rfl (by kernel_rfl) (by kernel_rfl) (by kernel_rfl) ?_)
        intro w49 h50 hk51
        refine RegI.done (by kernel_rfl) ?_
        refine RunsI.go 1 [.c 29, .c 30] (by kernel_rfl) ?_
        refine RunsI.region (by kernel_rfl) ?_
        refine RegI.op (by kernel_rfl) (OpE.loadBox 42 0 53 b2 0 (.agg #[.slice pA0_0 p0_0.length pc0_0, .int .i64 p0_1, .int .i64 p0_2, .slice pA0_3 p0_3.length pc0_3]) h50 (by kernel_rfl) (by kernel_rfl) rfl (by kernel_rfl) ?_)
        refine RegI.pure 2 [2, 9, 10, 11, 42, 43, 44] [(2, .int .u8 p2), (9, .int .u16 (IntKind.wrap .u16 (32768 + (band .u16 p1 16383)))), (10, .int .i64 p0_2), (11, .pointer (some ⟨b46, 0, none⟩)), (42, .agg #[.slice pA0_0 p0_0.length pc0_0, .int .i64 p0_1, .int .i64 p0_2, .slice pA0_3 p0_3.length pc0_3]), (43, .int .u16 (IntKind.wrap .u16 (32768 + (band .u16 p1 16383)))), (44, .int .u8 p2)] (by kernel_rfl) ?_
        obtain ⟨⟨t56, t60, t61, t62⟩, hg55, h⟩ := of_bind h
        dsimp only at h
        refine RegI.op (by kernel_rfl) (OpE.call 45 (by kernel_rfl) 39 #[.agg #[.slice pA0_0 p0_0.length pc0_0, .int .i64 p0_1, .int .i64 p0_2, .slice pA0_3 p0_3.length pc0_3], .int .u16 (IntKind.wrap .u16 (32768 + (band .u16 p1 16383))), .int .u8 p2] (by kernel_rfl) ((banks_Write_39_ok K _ w49  pA0_0 pc0_0 pA0_3 pc0_3 p0_0 p0_1 p0_2 p0_3 (IntKind.wrap .u16 (32768 + (band .u16 p1 16383))) p2 h50.old' (h50.get 1 rfl) (h50.get 2 rfl) hg55).mono ?_))
        rintro _ w52 ⟨A57, c58, A63, c64, rfl, hr66⟩
        refine ⟨_, rfl, ?_⟩
        have hb53 := hr66.below
        have h54 := h50.join hr66
        refine RegI.op (by kernel_rfl) (OpE.box 12 53 [.slice none 0 0, .int .i64 0, .int .i64 0, .slice none 0 0] h54 (by kernel_rfl) (by kernel_rfl) ?_)
        intro w67 b68 h69 hb70
        refine RegI.op (by kernel_rfl) (OpE.storeBox 8 53 b68 0 (.agg #[.slice A57 t56.length c58, .int .i64 t60, .int .i64 t61, .slice A63 t62.length c64]) [.slice A57 t56.length c58, .int .i64 t60, .int .i64 t61, .slice A63 t62.length c64] h69 (by kernel_rfl) (by kernel_rfl) rfl (by kernel_rfl) (by kernel_rfl) (by kernel_rfl) ?_)
        intro w71 h72 hk73
        refine RegI.done (by kernel_rfl) ?_
        refine RunsI.go 1 [.c 31, .c 32] (by kernel_rfl) ?_
        refine RunsI.region (by kernel_rfl) ?_
        refine RegI.op (by kernel_rfl) (OpE.loadBox 46 8 53 b68 0 (.agg #[.slice A57 t56.length c58, .int .i64 t60, .int .i64 t61, .slice A63 t62.length c64]) h72 (by kernel_rfl) (by kernel_rfl) rfl (by kernel_rfl) ?_)
        refine RegI.pure 3 [2, 9, 10, 11, 12, 46, 49] [(2, .int .u8 p2), (9, .int .u16 (IntKind.wrap .u16 (32768 + (band .u16 p1 16383)))), (10, .int .i64 p0_2), (11, .pointer (some ⟨b46, 0, none⟩)), (12, .pointer (some ⟨b68, 0, none⟩)), (46, .agg #[.slice A57 t56.length c58, .int .i64 t60, .int .i64 t61, .slice A63 t62.length c64]), (49, .int .u8 (IntKind.wrap .u8 (IntKind.wrap .i64 (p0_2 + 1))))] (by kernel_rfl) ?_
        obtain ⟨⟨t78, t82, t83, t84⟩, hg77, h⟩ := of_bind h
        dsimp only at h
        refine RegI.op (by kernel_rfl) (OpE.call 50 (by kernel_rfl) 41 #[.agg #[.slice A57 t56.length c58, .int .i64 t60, .int .i64 t61, .slice A63 t62.length c64], .int .u8 (IntKind.wrap .u8 (IntKind.wrap .i64 (p0_2 + 1)))] (by kernel_rfl) ((banks_Select_41_ok K _ w71  A57 c58 A63 c64 t56 t60 t61 t62 (IntKind.wrap .u8 (IntKind.wrap .i64 (p0_2 + 1))) h72.old' (h72.get 6 rfl) (h72.get 7 rfl) hg77).mono ?_))
        rintro _ w74 ⟨A79, c80, A85, c86, rfl, hr88⟩
        refine ⟨_, rfl, ?_⟩
        have hb75 := hr88.below
        have h76 := h72.join hr88
        refine RegI.op (by kernel_rfl) (OpE.box 13 53 [.slice none 0 0, .int .i64 0, .int .i64 0, .slice none 0 0] h76 (by kernel_rfl) (by kernel_rfl) ?_)
        intro w89 b90 h91 hb92
        refine RegI.op (by kernel_rfl) (OpE.storeBox 11 53 b90 0 (.agg #[.slice A79 t78.length c80, .int .i64 t82, .int .i64 t83, .slice A85 t84.length c86]) [.slice A79 t78.length c80, .int .i64 t82, .int .i64 t83, .slice A85 t84.length c86] h91 (by kernel_rfl) (by kernel_rfl) rfl (by kernel_rfl) (by kernel_rfl) (by kernel_rfl) ?_)
        intro w93 h94 hk95
        refine RegI.done (by kernel_rfl) ?_
        refine RunsI.go 1 [.c 33, .c 34] (by kernel_rfl) ?_
        refine RunsI.region (by kernel_rfl) ?_
        refine RegI.op (by kernel_rfl) (OpE.loadBox 51 11 53 b90 0 (.agg #[.slice A79 t78.length c80, .int .i64 t82, .int .i64 t83, .slice A85 t84.length c86]) h94 (by kernel_rfl) (by kernel_rfl) rfl (by kernel_rfl) ?_)
        refine RegI.pure 2 [2, 9, 10, 11, 12, 13, 51, 53] [(2, .int .u8 p2), (9, .int .u16 (IntKind.wrap .u16 (32768 + (band .u16 p1 16383)))), (10, .int .i64 p0_2), (11, .pointer (some ⟨b46, 0, none⟩)), (12, .pointer (some ⟨b68, 0, none⟩)), (13, .pointer (some ⟨b90, 0, none⟩)), (51, .agg #[.slice A79 t78.length c80, .int .i64 t82, .int .i64 t83, .slice A85 t84.length c86]), (53, .int .u8 (IntKind.wrap .u8 p0_2))] (by kernel_rfl) ?_
        obtain ⟨⟨t100, t104, t105, t106⟩, hg99, h⟩ := of_bind h
        dsimp only at h
        refine RegI.op (by kernel_rfl) (OpE.call 54 (by kernel_rfl) 41 #[.agg #[.slice A79 t78.length c80, .int .i64 t82, .int .i64 t83, .slice A85 t84.length c86], .int .u8 (IntKind.wrap .u8 p0_2)] (by kernel_rfl) ((banks_Select_41_ok K _ w93  A79 c80 A85 c86 t78 t82 t83 t84 (IntKind.wrap .u8 p0_2) h94.old' (h94.get 9 rfl) (h94.get 10 rfl) hg99).mono ?_))
        rintro _ w96 ⟨A101, c102, A107, c108, rfl, hr110⟩
        refine ⟨_, rfl, ?_⟩
        have hb97 := hr110.below
        have h98 := h94.join hr110
        refine RegI.op (by kernel_rfl) (OpE.box 14 53 [.slice none 0 0, .int .i64 0, .int .i64 0, .slice none 0 0] h98 (by kernel_rfl) (by kernel_rfl) ?_)
        intro w111 b112 h113 hb114
        refine RegI.op (by kernel_rfl) (OpE.storeBox 14 53 b112 0 (.agg #[.slice A101 t100.length c102, .int .i64 t104, .int .i64 t105, .slice A107 t106.length c108]) [.slice A101 t100.length c102, .int .i64 t104, .int .i64 t105, .slice A107 t106.length c108] h113 (by kernel_rfl) (by kernel_rfl) rfl (by kernel_rfl) (by kernel_rfl) (by kernel_rfl) ?_)
        intro w115 h116 hk117
        refine RegI.done (by kernel_rfl) ?_
        refine RunsI.go 1 [.c 35, .c 36] (by kernel_rfl) ?_
        refine RunsI.any 26 (by kernel_rfl) (by kernel_rfl) (by kernel_rfl) (Kp ([] : List Nat) (World.drew w115)) ?_
        have h119 := h116.drew
        generalize World.drew w115 = w118 at h119 ⊢
        have hS120 := Kp.refl ([] : List Nat) w118
        refine AnyE.loadBox 0 55 11 53 b90 0 (.agg #[.slice A79 t78.length c80, .int .i64 t82, .int .i64 t83, .slice A85 t84.length c86]) [] h119 rfl (by kernel_rfl) hS120 rfl rfl (by kernel_rfl) (by kernel_rfl) ?_
        refine AnyE.pure 1 56 (.int .u16 (IntKind.wrap .u16 (32768 + (band .u16 p1 16383)))) (by kernel_rfl) hS120 (fun _ => by kernel_rfl) ?_
        obtain ⟨t123, hg122, h⟩ := of_bind h
        refine AnyE.call 2 57 (.int .u8 t123) 34 #[.agg #[.slice A79 t78.length c80, .int .i64 t82, .int .i64 t83, .slice A85 t84.length c86], .int .u16 (IntKind.wrap .u16 (32768 + (band .u16 p1 16383)))] (by kernel_rfl) hS120 (fun _ => by kernel_rfl) (fun w hk => banks_Read_34_ok K (fun _ => False) w A79 c80 A85 c86 t78 t82 t83 t84 (IntKind.wrap .u16 (32768 + (band .u16 p1 16383))) (fun _ hf => hf.elim) (Sl.mono (h119.atI [] rfl hk 9 rfl rfl) (fun _ _ hf => hf.elim)) (Sl.mono (h119.atI [] rfl hk 10 rfl rfl) (fun _ _ hf => hf.elim)) hg122) ?_
        refine AnyE.loadBox 3 58 5 53 b46 0 (.agg #[.slice A35 t34.length c36, .int .i64 t38, .int .i64 t39, .slice A41 t40.length c42]) [] h119 rfl (by kernel_rfl) hS120 rfl rfl (by kernel_rfl) (by kernel_rfl) ?_
        refine AnyE.pure 4 59 (.int .u16 (IntKind.wrap .u16 (32768 + (band .u16 p1 16383)))) (by kernel_rfl) hS120 (fun _ => by kernel_rfl) ?_
        obtain ⟨t125, hg124, h⟩ := of_bind h
        refine AnyE.call 5 60 (.int .u8 t125) 34 #[.agg #[.slice A35 t34.length c36, .int .i64 t38, .int .i64 t39, .slice A41 t40.length c42], .int .u16 (IntKind.wrap .u16 (32768 + (band .u16 p1 16383)))] (by kernel_rfl) hS120 (fun _ => by kernel_rfl) (fun w hk => banks_Read_34_ok K (fun _ => False) w A35 c36 A41 c42 t34 t38 t39 t40 (IntKind.wrap .u16 (32768 + (band .u16 p1 16383))) (fun _ hf => hf.elim) (Sl.mono (h119.atI [] rfl hk 3 rfl rfl) (fun _ _ hf => hf.elim)) (Sl.mono (h119.atI [] rfl hk 4 rfl rfl) (fun _ _ hf => hf.elim)) hg124) ?_
        refine AnyE.pure 6 61 (.bool (t123 == t125)) (by kernel_rfl) hS120 (fun _ => by kernel_rfl) ?_
        refine AnyE.pure 7 62 (.bool (t123 == t125)) (by kernel_rfl) hS120 (fun _ => by kernel_rfl) ?_
        rcases of_cond h with ⟨hc126, h⟩ | ⟨hc126, h⟩
        · skip
          refine AnyE.fix 62 true hc126 (by kernel_rfl) (by kernel_rfl) ?_
          refine AnyE.loadBox 8 63 14 53 b112 0 (.agg #[.slice A101 t100.length c102, .int .i64 t104, .int .i64 t105, .slice A107 t106.length c108]) [] h119 rfl (by kernel_rfl) hS120 rfl rfl (by kernel_rfl) (by kernel_rfl) ?_
          refine AnyE.pure 9 64 (.int .u16 (IntKind.wrap .u16 (32768 + (band .u16 p1 16383)))) (by kernel_rfl) hS120 (fun _ => by kernel_rfl) ?_
          obtain ⟨t128, hg127, h⟩ := of_bind h
          refine AnyE.call 10 65 (.int .u8 t128) 34 #[.agg #[.slice A101 t100.length c102, .int .i64 t104, .int .i64 t105, .slice A107 t106.length c108], .int .u16 (IntKind.wrap .u16 (32768 + (band .u16 p1 16383)))] (by kernel_rfl) hS120 (fun _ => by kernel_rfl) (fun w hk => banks_Read_34_ok K (fun _ => False) w A101 c102 A107 c108 t100 t104 t105 t106 (IntKind.wrap .u16 (32768 + (band .u16 p1 16383))) (fun _ hf => hf.elim) (Sl.mono (h119.atI [] rfl hk 12 rfl rfl) (fun _ _ hf => hf.elim)) (Sl.mono (h119.atI [] rfl hk 13 rfl rfl) (fun _ _ hf => hf.elim)) hg127) ?_
          refine AnyE.pure 11 66 (.int .u8 p2) (by kernel_rfl) hS120 (fun _ => by kernel_rfl) ?_
          refine AnyE.pure 12 67 (.bool (t128 == p2)) (by kernel_rfl) hS120 (fun _ => by kernel_rfl) ?_
          refine AnyE.pure 13 68 (.bool (t128 == p2)) (by kernel_rfl) hS120 (fun _ => by kernel_rfl) ?_
          refine AnyE.pure 14 69 (.bool (t128 == p2)) (by kernel_rfl) hS120 (fun _ => by kernel_rfl) ?_
          rcases of_cond h with ⟨hc129, h⟩ | ⟨hc129, h⟩
          · skip
            refine AnyE.fix 69 true hc129 (by kernel_rfl) (by kernel_rfl) ?_
            refine AnyE.pure 15 70 (.pointer (some ⟨b46, 2, none⟩)) (by kernel_rfl) hS120 (fun _ => by kernel_rfl) ?_
            refine AnyE.loadBox 16 71 5 3 b46 2 (.int .i64 t39) [] h119 rfl (by kernel_rfl) hS120 rfl rfl (by kernel_rfl) (by kernel_rfl) ?_
            refine AnyE.pure 17 72 (.int .i64 p0_2) (by kernel_rfl) hS120 (fun _ => by kernel_rfl) ?_
            refine AnyE.pure 18 73 (.bool (t39 != p0_2)) (by kernel_rfl) hS120 (fun _ => by kernel_rfl) ?_
            refine AnyE.pure 19 74 (.bool (t39 != p0_2)) (by kernel_rfl) hS120 (fun _ => by kernel_rfl) ?_
            refine AnyE.pure 20 75 (.bool (t39 != p0_2)) (by kernel_rfl) hS120 (fun _ => by kernel_rfl) ?_
            rcases of_cond h with ⟨hc130, h⟩ | ⟨hc130, h⟩
            · skip
              refine AnyE.fix 75 true hc130 (by kernel_rfl) (by kernel_rfl) ?_
              refine AnyE.loadBox 21 76 14 53 b112 0 (.agg #[.slice A101 t100.length c102, .int .i64 t104, .int .i64 t105, .slice A107 t106.length c108]) [] h119 rfl (by kernel_rfl) hS120 rfl rfl (by kernel_rfl) (by kernel_rfl) ?_
              refine AnyE.loadBox 22 77 8 53 b68 0 (.agg #[.slice A57 t56.length c58, .int .i64 t60, .int .i64 t61, .slice A63 t62.length c64]) [] h119 rfl (by kernel_rfl) hS120 rfl rfl (by kernel_rfl) (by kernel_rfl) ?_
              obtain ⟨t132, hg131, h⟩ := of_bind h
              refine AnyE.call 23 78 (.bool t132) 45 #[.agg #[.slice A101 t100.length c102, .int .i64 t104, .int .i64 t105, .slice A107 t106.length c108], .agg #[.slice A57 t56.length c58, .int .i64 t60, .int .i64 t61, .slice A63 t62.length c64]] (by kernel_rfl) hS120 (fun _ => by kernel_rfl) (fun w hk => charabanclaw19_same_45_ok K (fun _ => False) w A101 c102 A107 c108 A57 c58 A63 c64 t100 t104 t105 t106 t56 t60 t61 t62 (fun _ hf => hf.elim) (Sl.mono (h119.atI [] rfl hk 12 rfl rfl) (fun _ _ hf => hf.elim)) (Sl.mono (h119.atI [] rfl hk 13 rfl rfl) (fun _ _ hf => hf.elim)) (Sl.mono (h119.atI [] rfl hk 6 rfl rfl) (fun _ _ hf => hf.elim)) (Sl.mono (h119.atI [] rfl hk 7 rfl rfl) (fun _ _ hf => hf.elim)) hg131) ?_
              refine AnyE.pure 24 79 (.bool t132) (by kernel_rfl) hS120 (fun _ => by kernel_rfl) ?_
              refine AnyE.pure 25 6 (.bool t132) (by kernel_rfl) hS120 (fun _ => by kernel_rfl) ?_
              refine AnyE.done (by kernel_rfl) (fun w133 hu134 => ?_)
              have h135 := h119.call hu134
              refine RunsI.only [6] [(6, .bool t132)] (by kernel_rfl) (by kernel_rfl) ?_
              refine RunsI.ret (.bool t132) (by kernel_rfl) (by kernel_rfl) ?_
              obtain rfl := Option.some.inj h
              exact ⟨rfl, h135.below⟩
            · skip
              refine AnyE.fix 75 false hc130 (by kernel_rfl) (by kernel_rfl) ?_
              refine AnyE.no 21 76 (by kernel_rfl) hS120 ?_
              refine AnyE.no 22 77 (by kernel_rfl) hS120 ?_
              refine AnyE.no 23 78 (by kernel_rfl) hS120 ?_
              refine AnyE.pure 24 79 (.bool false) (by kernel_rfl) hS120 (fun _ => by kernel_rfl) ?_
              refine AnyE.pure 25 6 (.bool false) (by kernel_rfl) hS120 (fun _ => by kernel_rfl) ?_
              refine AnyE.done (by kernel_rfl) (fun w136 hu137 => ?_)
              have h138 := h119.call hu137
              refine RunsI.only [6] [(6, .bool false)] (by kernel_rfl) (by kernel_rfl) ?_
              refine RunsI.ret (.bool false) (by kernel_rfl) (by kernel_rfl) ?_
              obtain rfl := Option.some.inj h
              exact ⟨rfl, h138.below⟩
          · skip
            refine AnyE.fix 69 false hc129 (by kernel_rfl) (by kernel_rfl) ?_
            refine AnyE.no 15 70 (by kernel_rfl) hS120 ?_
            refine AnyE.no 16 71 (by kernel_rfl) hS120 ?_
            refine AnyE.no 17 72 (by kernel_rfl) hS120 ?_
            refine AnyE.no 18 73 (by kernel_rfl) hS120 ?_
            refine AnyE.pure 19 74 (.bool false) (by kernel_rfl) hS120 (fun _ => by kernel_rfl) ?_
            refine AnyE.pure 20 75 (.bool false) (by kernel_rfl) hS120 (fun _ => by kernel_rfl) ?_
            refine AnyE.no 21 76 (by kernel_rfl) hS120 ?_
            refine AnyE.no 22 77 (by kernel_rfl) hS120 ?_
            refine AnyE.no 23 78 (by kernel_rfl) hS120 ?_
            refine AnyE.pure 24 79 (.bool false) (by kernel_rfl) hS120 (fun _ => by kernel_rfl) ?_
            refine AnyE.pure 25 6 (.bool false) (by kernel_rfl) hS120 (fun _ => by kernel_rfl) ?_
            refine AnyE.done (by kernel_rfl) (fun w139 hu140 => ?_)
            have h141 := h119.call hu140
            refine RunsI.only [6] [(6, .bool false)] (by kernel_rfl) (by kernel_rfl) ?_
            refine RunsI.ret (.bool false) (by kernel_rfl) (by kernel_rfl) ?_
            obtain rfl := Option.some.inj h
            exact ⟨rfl, h141.below⟩
        · skip
          refine AnyE.fix 62 false hc126 (by kernel_rfl) (by kernel_rfl) ?_
          refine AnyE.no 8 63 (by kernel_rfl) hS120 ?_
          refine AnyE.no 9 64 (by kernel_rfl) hS120 ?_
          refine AnyE.no 10 65 (by kernel_rfl) hS120 ?_
          refine AnyE.no 11 66 (by kernel_rfl) hS120 ?_
          refine AnyE.no 12 67 (by kernel_rfl) hS120 ?_
          refine AnyE.pure 13 68 (.bool false) (by kernel_rfl) hS120 (fun _ => by kernel_rfl) ?_
          refine AnyE.pure 14 69 (.bool false) (by kernel_rfl) hS120 (fun _ => by kernel_rfl) ?_
          refine AnyE.no 15 70 (by kernel_rfl) hS120 ?_
          refine AnyE.no 16 71 (by kernel_rfl) hS120 ?_
          refine AnyE.no 17 72 (by kernel_rfl) hS120 ?_
          refine AnyE.no 18 73 (by kernel_rfl) hS120 ?_
          refine AnyE.pure 19 74 (.bool false) (by kernel_rfl) hS120 (fun _ => by kernel_rfl) ?_
          refine AnyE.pure 20 75 (.bool false) (by kernel_rfl) hS120 (fun _ => by kernel_rfl) ?_
          refine AnyE.no 21 76 (by kernel_rfl) hS120 ?_
          refine AnyE.no 22 77 (by kernel_rfl) hS120 ?_
          refine AnyE.no 23 78 (by kernel_rfl) hS120 ?_
          refine AnyE.pure 24 79 (.bool false) (by kernel_rfl) hS120 (fun _ => by kernel_rfl) ?_
          refine AnyE.pure 25 6 (.bool false) (by kernel_rfl) hS120 (fun _ => by kernel_rfl) ?_
          refine AnyE.done (by kernel_rfl) (fun w142 hu143 => ?_)
          have h144 := h119.call hu143
          refine RunsI.only [6] [(6, .bool false)] (by kernel_rfl) (by kernel_rfl) ?_
          refine RunsI.ret (.bool false) (by kernel_rfl) (by kernel_rfl) ?_
          obtain rfl := Option.some.inj h
          exact ⟨rfl, h144.below⟩
    clear hJ27
    rcases of_cond h with ⟨hc16, h⟩ | ⟨hc16, h⟩
    · skip
      refine RegI.fix 22 true hc16 (by kernel_rfl) (by kernel_rfl) ?_
      refine RegI.pure 9 [1, 2, 3, 31] [(1, .int .u16 p1), (2, .int .u8 p2), (3, .pointer (some ⟨b2, 0, none⟩)), (31, .bool true)] (by kernel_rfl) ?_
      refine RegI.only [1, 2, 3, 31] [(1, .int .u16 p1), (2, .int .u8 p2), (3, .pointer (some ⟨b2, 0, none⟩)), (31, .bool true)] (by kernel_rfl) (by kernel_rfl) ?_
      exact hj28 true w11 h (h13.pick [2, 0, 1] (by decide))
    · skip
      refine RegI.fix 22 false hc16 (by kernel_rfl) (by kernel_rfl) ?_
      refine RegI.op (by kernel_rfl) (OpE.loadBox 23 2 53 b2 0 (.agg #[.slice pA0_0 p0_0.length pc0_0, .int .i64 p0_1, .int .i64 p0_2, .slice pA0_3 p0_3.length pc0_3]) h13 (by kernel_rfl) (by kernel_rfl) rfl (by kernel_rfl) ?_)
      obtain ⟨t21, hg20, h⟩ := of_bind h
      refine RegI.op (by kernel_rfl) (OpE.call 24 (by kernel_rfl) 36 #[.agg #[.slice pA0_0 p0_0.length pc0_0, .int .i64 p0_1, .int .i64 p0_2, .slice pA0_3 p0_3.length pc0_3]] (by kernel_rfl) ((banks_Check_36_ok K _ w11  pA0_0 pc0_0 pA0_3 pc0_3 p0_0 p0_1 p0_2 p0_3 h13.old' (h13.get 0 rfl) (h13.get 1 rfl) hg20).mono ?_))
      rintro _ w17 ⟨rfl, hb18⟩
      refine ⟨_, rfl, ?_⟩
      have h19 := h13.call hb18
      refine RegI.pure 3 [1, 2, 3, 27] [(1, .int .u16 p1), (2, .int .u8 p2), (3, .pointer (some ⟨b2, 0, none⟩)), (27, .bool (t21 != 0))] (by kernel_rfl) ?_
      rcases of_cond h with ⟨hc22, h⟩ | ⟨hc22, h⟩
      · skip
        refine RegI.fix 27 true hc22 (by kernel_rfl) (by kernel_rfl) ?_
        refine RegI.pure 4 [1, 2, 3, 31] [(1, .int .u16 p1), (2, .int .u8 p2), (3, .pointer (some ⟨b2, 0, none⟩)), (31, .bool true)] (by kernel_rfl) ?_
        refine RegI.only [1, 2, 3, 31] [(1, .int .u16 p1), (2, .int .u8 p2), (3, .pointer (some ⟨b2, 0, none⟩)), (31, .bool true)] (by kernel_rfl) (by kernel_rfl) ?_
        exact hj28 true w17 h (h19.pick [2, 0, 1] (by decide))
      · skip
        refine RegI.fix 27 false hc22 (by kernel_rfl) (by kernel_rfl) ?_
        refine RegI.pure 1 [1, 2, 3, 27, 28] [(1, .int .u16 p1), (2, .int .u8 p2), (3, .pointer (some ⟨b2, 0, none⟩)), (27, .bool false), (28, .pointer (some ⟨b2, 1, none⟩))] (by kernel_rfl) ?_
        refine RegI.op (by kernel_rfl) (OpE.loadBox 29 2 3 b2 1 (.int .i64 p0_1) h19 (by kernel_rfl) (by kernel_rfl) rfl (by kernel_rfl) ?_)
        refine RegI.pure 2 [1, 2, 3, 31] [(1, .int .u16 p1), (2, .int .u8 p2), (3, .pointer (some ⟨b2, 0, none⟩)), (31, .bool (decide (p0_1 < 2)))] (by kernel_rfl) ?_
        refine RegI.only [1, 2, 3, 31] [(1, .int .u16 p1), (2, .int .u8 p2), (3, .pointer (some ⟨b2, 0, none⟩)), (31, .bool (decide (p0_1 < 2)))] (by kernel_rfl) (by kernel_rfl) ?_
        exact hj28 (decide (p0_1 < 2)) w17 h (h19.pick [2, 0, 1] (by decide))
end
end Go.Proofs.Ytngcadmhnbpgjaa.Banks
