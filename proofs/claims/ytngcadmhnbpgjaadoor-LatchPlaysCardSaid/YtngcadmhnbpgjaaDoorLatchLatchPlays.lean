/- The statement's function LatchPlays as a plain Lean function; written by wip/eng.py. -/
import Derived.Test.YtngcadmhnbpgjaaDoorLatch
set_option linter.unusedVariables false
set_option linter.unusedSimpArgs false
set_option maxHeartbeats 4000000
namespace Go.Proofs.YtngcadmhnbpgjaaDoor.Latch
open Go.RowKit Go.Eng
noncomputable def B4 : Code := (Tryd.f4.body).getD .skip
noncomputable def F4 : Fun Tryd.prog := ⟨4, Tryd.f4, B4, 83, Tryd.func4, by kernel_rfl, by kernel_rfl⟩

/-! ### charabanc/charabanclaw20.LatchPlays (function 4) -/
section
def charabanclaw20_LatchPlays_4.post (M0 : Nat → Prop) (w0 : World) (r : Bool) : Ending → World → Prop := fun e w => e = .returned (.bool r) ∧ Below w0.heap.size w0 w
def charabanclaw20_LatchPlays_4.f (K : Nat) (p0_0 : Bool) (p0_1 : Int) (p1 : List Int) (p2 : Int) : Option Bool := (charabanclaw20_awake_6.f K).bind fun t9 => cond (!t9) (some false) (cond (decide ((p1.length : Int) > 200)) (some true) ((latch_Play_11.f K p0_0 p0_1 p1).bind fun yt16 => (charabanclaw20_plain_13.f K p0_0 p0_1).bind fun yt34 => (charabancref20_Play_12.f K yt34.1 yt34.2 p1).bind fun yt40 => (latch_Read_14.f K p0_0 p0_1 (IntKind.wrap .i64 p2)).bind fun yt58 => (charabanclaw20_plain_13.f K p0_0 p0_1).bind fun yt72 => (charabancref20_Read_15.f K yt72.1 yt72.2 (IntKind.wrap .i64 p2)).bind fun yt78 => (charabanclaw20_plain_13.f K yt16.1 yt16.2.1).bind fun yt93 => cond ((yt93.1 == yt40.1) && ((yt93.2 == yt40.2.1) && true)) (cond ((ByteArray.toList (strOf yt16.2.2)) == (ByteArray.toList (strOf yt40.2.2))) ((charabanclaw20_plain_13.f K yt58.1 yt58.2.1).bind fun yt98 => cond ((yt98.1 == yt78.1) && ((yt98.2 == yt78.2.1) && true)) (cond (yt58.2.2 == yt78.2.2) ((latch_Write_16.f K p0_0 p0_1 p2).bind fun yt103 => (charabanclaw20_plain_13.f K yt103.1 yt103.2).bind fun yt106 => (charabanclaw20_plain_13.f K p0_0 p0_1).bind fun yt109 => (charabancref20_Write_17.f K yt109.1 yt109.2 p2).bind fun yt112 => some ((yt106.1 == yt112.1) && ((yt106.2 == yt112.2) && true))) (some false)) (some false)) (some false)) (some false)))
set_option maxRecDepth 100000 in
theorem charabanclaw20_LatchPlays_4_ok (K : Nat) (M0 : Nat → Prop) (w0 : World) (pA1 : Option Addr) (pc1 : Nat) (p0_0 : Bool) (p0_1 : Int) (p1 : List Int) (p2 : Int) (ho : ∀ b, M0 b → b < w0.heap.size) (hs1 : Sl (Rp.int .i64) w0 M0 (.slice pA1 p1.length pc1) p1) (hG0 : (cel 0 0 (tab_0.flatMap en_0)).ok w0 M0) {r : Bool} (h : charabanclaw20_LatchPlays_4.f K p0_0 p0_1 p1 p2 = some r) :
    Calls Tryd.prog 4 #[.agg #[.bool p0_0, .int .i64 p0_1], .slice pA1 p1.length pc1, .int .u8 p2] w0 (charabanclaw20_LatchPlays_4.post M0 w0 r) := by
  unfold charabanclaw20_LatchPlays_4.f at h
  have h0 : Holds M0 w0 w0 [] := Holds.start ho
  have h01 := h0.addSl (Rp.int .i64) (.slice pA1 p1.length pc1) p1 (hs1.mono (fun _ _ hm => hm.elim id (fun hm => absurd hm (by simp [mines, sl]))))
  have h0g0 := h01.add (cel 0 0 (tab_0.flatMap en_0)) rfl ⟨hG0.1, fun hm => hG0.2.1 (hm.elim id (fun hm => absurd hm (by simp [mines, sl, cel]))), hG0.2.2⟩
  have h0 : Holds M0 w0 w0 [sl (Rp.int .i64) (.slice pA1 p1.length pc1) p1, cel 0 0 (tab_0.flatMap en_0)] := h0g0
  refine calls_of F4 rfl [.agg #[.bool p0_0, .int .i64 p0_1], .slice pA1 p1.length pc1, .int .u8 p2] (by kernel_rfl) ?_
  refine RunsI.go 1 [.c 1, .c 2] (by kernel_rfl) ?_
  refine RunsI.region (by kernel_rfl) ?_
  refine RegI.op (by kernel_rfl) (OpE.box 3 29 [.bool p0_0, .int .i64 p0_1] h0 (by kernel_rfl) (by kernel_rfl) ?_)
  intro w1 b2 h3 hb4
  refine RegI.pure 1 [1, 2, 3] [(1, .slice pA1 p1.length pc1), (2, .int .u8 p2), (3, .pointer (some ⟨b2, 0, none⟩))] (by kernel_rfl) ?_
  refine RegI.done (by kernel_rfl) ?_
  refine RunsI.go 1 [.c 3, .c 4] (by kernel_rfl) ?_
  refine RunsI.region (by kernel_rfl) ?_
  obtain ⟨t9, hg8, h⟩ := of_bind h
  refine RegI.op (by kernel_rfl) (OpE.call 16 (by kernel_rfl) 6 #[] (by kernel_rfl) ((charabanclaw20_awake_6_ok K _ w1  h3.old' (h3.get 1 rfl) hg8).mono ?_))
  rintro _ w5 ⟨rfl, hb6⟩
  refine ⟨_, rfl, ?_⟩
  have h7 := h3.call hb6
  refine RegI.pure 1 [1, 2, 3, 7] [(1, .slice pA1 p1.length pc1), (2, .int .u8 p2), (3, .pointer (some ⟨b2, 0, none⟩)), (7, .bool t9)] (by kernel_rfl) ?_
  refine RegI.done (by kernel_rfl) ?_
  refine RunsI.go 2 [.c 6, .c 7, .c 12] (by kernel_rfl) ?_
  refine RunsI.region (by kernel_rfl) ?_
  refine RegI.pure 2 [1, 2, 3, 18] [(1, .slice pA1 p1.length pc1), (2, .int .u8 p2), (3, .pointer (some ⟨b2, 0, none⟩)), (18, .bool (!t9))] (by kernel_rfl) ?_
  refine RegI.done (by kernel_rfl) ?_
  rcases of_cond h with ⟨hc10, h⟩ | ⟨hc10, h⟩
  · skip
    refine RunsI.fix 18 true hc10 (by kernel_rfl) (by kernel_rfl) ?_
    refine RunsI.cond true 8 (by kernel_rfl) ?_
    refine RunsI.go 1 [.c 9, .c 10, .c 12] (by kernel_rfl) ?_
    refine RunsI.region (by kernel_rfl) ?_
    refine RegI.pure 1 [6] [(6, .bool false)] (by kernel_rfl) ?_
    refine RegI.done (by kernel_rfl) ?_
    refine RunsI.ret (.bool false) (by kernel_rfl) (by kernel_rfl) ?_
    obtain rfl := Option.some.inj h
    exact ⟨rfl, h7.below⟩
  · skip
    refine RunsI.fix 18 false hc10 (by kernel_rfl) (by kernel_rfl) ?_
    refine RunsI.cond false 11 (by kernel_rfl) ?_
    refine RunsI.go 1 [.c 12] (by kernel_rfl) ?_
    refine RunsI.go 2 [.c 14, .c 15, .c 20] (by kernel_rfl) ?_
    refine RunsI.region (by kernel_rfl) ?_
    refine RegI.pure 3 [1, 2, 3, 21] [(1, .slice pA1 p1.length pc1), (2, .int .u8 p2), (3, .pointer (some ⟨b2, 0, none⟩)), (21, .bool (decide ((p1.length : Int) > 200)))] (by kernel_rfl) ?_
    refine RegI.done (by kernel_rfl) ?_
    rcases of_cond h with ⟨hc11, h⟩ | ⟨hc11, h⟩
    · skip
      refine RunsI.fix 21 true hc11 (by kernel_rfl) (by kernel_rfl) ?_
      refine RunsI.cond true 16 (by kernel_rfl) ?_
      refine RunsI.go 1 [.c 17, .c 18, .c 20] (by kernel_rfl) ?_
      refine RunsI.region (by kernel_rfl) ?_
      refine RegI.pure 1 [6] [(6, .bool true)] (by kernel_rfl) ?_
      refine RegI.done (by kernel_rfl) ?_
      refine RunsI.ret (.bool true) (by kernel_rfl) (by kernel_rfl) ?_
      obtain rfl := Option.some.inj h
      exact ⟨rfl, h7.below⟩
    · skip
      refine RunsI.fix 21 false hc11 (by kernel_rfl) (by kernel_rfl) ?_
      refine RunsI.cond false 19 (by kernel_rfl) ?_
      refine RunsI.go 1 [.c 20] (by kernel_rfl) ?_
      refine RunsI.go 1 [.c 21, .c 22] (by kernel_rfl) ?_
      refine RunsI.region (by kernel_rfl) ?_
      refine RegI.op (by kernel_rfl) (OpE.loadBox 23 2 29 b2 0 (.agg #[.bool p0_0, .int .i64 p0_1]) h7 (by kernel_rfl) (by kernel_rfl) rfl (by kernel_rfl) ?_)
      refine RegI.pure 1 [1, 2, 3, 23, 24] [(1, .slice pA1 p1.length pc1), (2, .int .u8 p2), (3, .pointer (some ⟨b2, 0, none⟩)), (23, .agg #[.bool p0_0, .int .i64 p0_1]), (24, .slice pA1 p1.length pc1)] (by kernel_rfl) ?_
      obtain ⟨⟨t16, t17, t18⟩, hg15, h⟩ := of_bind h
      dsimp only at h
      refine RegI.op (by kernel_rfl) (OpE.call 25 (by kernel_rfl) 11 #[.agg #[.bool p0_0, .int .i64 p0_1], .slice pA1 p1.length pc1] (by kernel_rfl) ((latch_Play_11_ok K _ w5  pA1 pc1 p0_0 p0_1 p1 h7.old' (h7.get 0 rfl) hg15).mono ?_))
      rintro _ w12 ⟨A19, c20, rfl, hr22⟩
      refine ⟨_, rfl, ?_⟩
      have hb13 := hr22.below
      have h14 := h7.join hr22
      refine RegI.pure 3 [1, 2, 3, 26, 27] [(1, .slice pA1 p1.length pc1), (2, .int .u8 p2), (3, .pointer (some ⟨b2, 0, none⟩)), (26, .agg #[.bool t16, .int .i64 t17]), (27, .slice A19 t18.length c20)] (by kernel_rfl) ?_
      refine RegI.op (by kernel_rfl) (OpE.box 8 29 [.bool false, .int .i64 0] h14 (by kernel_rfl) (by kernel_rfl) ?_)
      intro w23 b24 h25 hb26
      refine RegI.op (by kernel_rfl) (OpE.storeBox 4 29 b24 0 (.agg #[.bool t16, .int .i64 t17]) [.bool t16, .int .i64 t17] h25 (by kernel_rfl) (by kernel_rfl) rfl (by kernel_rfl) (by kernel_rfl) (by kernel_rfl) ?_)
      intro w27 h28 hk29
      refine RegI.pure 1 [1, 2, 3, 8, 9] [(1, .slice pA1 p1.length pc1), (2, .int .u8 p2), (3, .pointer (some ⟨b2, 0, none⟩)), (8, .pointer (some ⟨b24, 0, none⟩)), (9, .slice A19 t18.length c20)] (by kernel_rfl) ?_
      refine RegI.done (by kernel_rfl) ?_
      refine RunsI.go 1 [.c 23, .c 24] (by kernel_rfl) ?_
      refine RunsI.region (by kernel_rfl) ?_
      refine RegI.op (by kernel_rfl) (OpE.loadBox 29 2 29 b2 0 (.agg #[.bool p0_0, .int .i64 p0_1]) h28 (by kernel_rfl) (by kernel_rfl) rfl (by kernel_rfl) ?_)
      obtain ⟨⟨t34, t35⟩, hg33, h⟩ := of_bind h
      dsimp only at h
      refine RegI.op (by kernel_rfl) (OpE.call 30 (by kernel_rfl) 13 #[.agg #[.bool p0_0, .int .i64 p0_1]] (by kernel_rfl) ((charabanclaw20_plain_13_ok K _ w27  p0_0 p0_1 h28.old' hg33).mono ?_))
      rintro _ w30 ⟨rfl, hb31⟩
      refine ⟨_, rfl, ?_⟩
      have h32 := h28.call hb31
      refine RegI.pure 1 [2, 3, 8, 9, 30, 31] [(2, .int .u8 p2), (3, .pointer (some ⟨b2, 0, none⟩)), (8, .pointer (some ⟨b24, 0, none⟩)), (9, .slice A19 t18.length c20), (30, .agg #[.bool t34, .int .i64 t35]), (31, .slice pA1 p1.length pc1)] (by kernel_rfl) ?_
      obtain ⟨⟨t40, t41, t42⟩, hg39, h⟩ := of_bind h
      dsimp only at h
      refine RegI.op (by kernel_rfl) (OpE.call 32 (by kernel_rfl) 12 #[.agg #[.bool t34, .int .i64 t35], .slice pA1 p1.length pc1] (by kernel_rfl) ((charabancref20_Play_12_ok K _ w30  pA1 pc1 t34 t35 p1 h32.old' (h32.get 0 rfl) hg39).mono ?_))
      rintro _ w36 ⟨A43, c44, rfl, hr46⟩
      refine ⟨_, rfl, ?_⟩
      have hb37 := hr46.below
      have h38 := h32.join hr46
      refine RegI.pure 3 [2, 3, 8, 9, 33, 34] [(2, .int .u8 p2), (3, .pointer (some ⟨b2, 0, none⟩)), (8, .pointer (some ⟨b24, 0, none⟩)), (9, .slice A19 t18.length c20), (33, .agg #[.bool t40, .int .i64 t41]), (34, .slice A43 t42.length c44)] (by kernel_rfl) ?_
      refine RegI.op (by kernel_rfl) (OpE.box 10 34 [.bool false, .int .i64 0] h38 (by kernel_rfl) (by kernel_rfl) ?_)
      intro w47 b48 h49 hb50
      refine RegI.op (by kernel_rfl) (OpE.storeBox 6 34 b48 0 (.agg #[.bool t40, .int .i64 t41]) [.bool t40, .int .i64 t41] h49 (by kernel_rfl) (by kernel_rfl) rfl (by kernel_rfl) (by kernel_rfl) (by kernel_rfl) ?_)
      intro w51 h52 hk53
      refine RegI.pure 1 [2, 3, 8, 9, 10, 11] [(2, .int .u8 p2), (3, .pointer (some ⟨b2, 0, none⟩)), (8, .pointer (some ⟨b24, 0, none⟩)), (9, .slice A19 t18.length c20), (10, .pointer (some ⟨b48, 0, none⟩)), (11, .slice A43 t42.length c44)] (by kernel_rfl) ?_
      refine RegI.done (by kernel_rfl) ?_
      refine RunsI.go 1 [.c 25, .c 26] (by kernel_rfl) ?_
      refine RunsI.region (by kernel_rfl) ?_
      refine RegI.op (by kernel_rfl) (OpE.loadBox 36 2 29 b2 0 (.agg #[.bool p0_0, .int .i64 p0_1]) h52 (by kernel_rfl) (by kernel_rfl) rfl (by kernel_rfl) ?_)
      refine RegI.pure 2 [2, 3, 8, 9, 10, 11, 36, 38] [(2, .int .u8 p2), (3, .pointer (some ⟨b2, 0, none⟩)), (8, .pointer (some ⟨b24, 0, none⟩)), (9, .slice A19 t18.length c20), (10, .pointer (some ⟨b48, 0, none⟩)), (11, .slice A43 t42.length c44), (36, .agg #[.bool p0_0, .int .i64 p0_1]), (38, .int .i64 (IntKind.wrap .i64 p2))] (by kernel_rfl) ?_
      obtain ⟨⟨t58, t59, t60⟩, hg57, h⟩ := of_bind h
      dsimp only at h
      refine RegI.op (by kernel_rfl) (OpE.call 39 (by kernel_rfl) 14 #[.agg #[.bool p0_0, .int .i64 p0_1], .int .i64 (IntKind.wrap .i64 p2)] (by kernel_rfl) ((latch_Read_14_ok K _ w51  p0_0 p0_1 (IntKind.wrap .i64 p2) h52.old' hg57).mono ?_))
      rintro _ w54 ⟨rfl, hb55⟩
      refine ⟨_, rfl, ?_⟩
      have h56 := h52.call hb55
      refine RegI.pure 3 [2, 3, 8, 9, 10, 11, 40, 41] [(2, .int .u8 p2), (3, .pointer (some ⟨b2, 0, none⟩)), (8, .pointer (some ⟨b24, 0, none⟩)), (9, .slice A19 t18.length c20), (10, .pointer (some ⟨b48, 0, none⟩)), (11, .slice A43 t42.length c44), (40, .agg #[.bool t58, .int .i64 t59]), (41, .int .u8 t60)] (by kernel_rfl) ?_
      refine RegI.op (by kernel_rfl) (OpE.box 12 29 [.bool false, .int .i64 0] h56 (by kernel_rfl) (by kernel_rfl) ?_)
      intro w61 b62 h63 hb64
      refine RegI.op (by kernel_rfl) (OpE.storeBox 7 29 b62 0 (.agg #[.bool t58, .int .i64 t59]) [.bool t58, .int .i64 t59] h63 (by kernel_rfl) (by kernel_rfl) rfl (by kernel_rfl) (by kernel_rfl) (by kernel_rfl) ?_)
      intro w65 h66 hk67
      refine RegI.pure 1 [2, 3, 8, 9, 10, 11, 12, 13] [(2, .int .u8 p2), (3, .pointer (some ⟨b2, 0, none⟩)), (8, .pointer (some ⟨b24, 0, none⟩)), (9, .slice A19 t18.length c20), (10, .pointer (some ⟨b48, 0, none⟩)), (11, .slice A43 t42.length c44), (12, .pointer (some ⟨b62, 0, none⟩)), (13, .int .u8 t60)] (by kernel_rfl) ?_
      refine RegI.done (by kernel_rfl) ?_
      refine RunsI.go 1 [.c 27, .c 28] (by kernel_rfl) ?_
      refine RunsI.region (by kernel_rfl) ?_
      refine RegI.op (by kernel_rfl) (OpE.loadBox 43 2 29 b2 0 (.agg #[.bool p0_0, .int .i64 p0_1]) h66 (by kernel_rfl) (by kernel_rfl) rfl (by kernel_rfl) ?_)
      obtain ⟨⟨t72, t73⟩, hg71, h⟩ := of_bind h
      dsimp only at h
      refine RegI.op (by kernel_rfl) (OpE.call 44 (by kernel_rfl) 13 #[.agg #[.bool p0_0, .int .i64 p0_1]] (by kernel_rfl) ((charabanclaw20_plain_13_ok K _ w65  p0_0 p0_1 h66.old' hg71).mono ?_))
      rintro _ w68 ⟨rfl, hb69⟩
      refine ⟨_, rfl, ?_⟩
      have h70 := h66.call hb69
      refine RegI.pure 2 [2, 3, 8, 9, 10, 11, 12, 13, 44, 46] [(2, .int .u8 p2), (3, .pointer (some ⟨b2, 0, none⟩)), (8, .pointer (some ⟨b24, 0, none⟩)), (9, .slice A19 t18.length c20), (10, .pointer (some ⟨b48, 0, none⟩)), (11, .slice A43 t42.length c44), (12, .pointer (some ⟨b62, 0, none⟩)), (13, .int .u8 t60), (44, .agg #[.bool t72, .int .i64 t73]), (46, .int .i64 (IntKind.wrap .i64 p2))] (by kernel_rfl) ?_
      obtain ⟨⟨t78, t79, t80⟩, hg77, h⟩ := of_bind h
      dsimp only at h
      refine RegI.op (by kernel_rfl) (OpE.call 47 (by kernel_rfl) 15 #[.agg #[.bool t72, .int .i64 t73], .int .i64 (IntKind.wrap .i64 p2)] (by kernel_rfl) ((charabancref20_Read_15_ok K _ w68  t72 t73 (IntKind.wrap .i64 p2) h70.old' hg77).mono ?_))
      rintro _ w74 ⟨rfl, hb75⟩
      refine ⟨_, rfl, ?_⟩
      have h76 := h70.call hb75
      refine RegI.pure 3 [2, 3, 8, 9, 10, 11, 12, 13, 48, 49] [(2, .int .u8 p2), (3, .pointer (some ⟨b2, 0, none⟩)), (8, .pointer (some ⟨b24, 0, none⟩)), (9, .slice A19 t18.length c20), (10, .pointer (some ⟨b48, 0, none⟩)), (11, .slice A43 t42.length c44), (12, .pointer (some ⟨b62, 0, none⟩)), (13, .int .u8 t60), (48, .agg #[.bool t78, .int .i64 t79]), (49, .int .u8 t80)] (by kernel_rfl) ?_
      refine RegI.op (by kernel_rfl) (OpE.box 14 34 [.bool false, .int .i64 0] h76 (by kernel_rfl) (by kernel_rfl) ?_)
      intro w81 b82 h83 hb84
      refine RegI.op (by kernel_rfl) (OpE.storeBox 8 34 b82 0 (.agg #[.bool t78, .int .i64 t79]) [.bool t78, .int .i64 t79] h83 (by kernel_rfl) (by kernel_rfl) rfl (by kernel_rfl) (by kernel_rfl) (by kernel_rfl) ?_)
      intro w85 h86 hk87
      refine RegI.pure 1 [2, 3, 8, 9, 10, 11, 12, 13, 14, 15] [(2, .int .u8 p2), (3, .pointer (some ⟨b2, 0, none⟩)), (8, .pointer (some ⟨b24, 0, none⟩)), (9, .slice A19 t18.length c20), (10, .pointer (some ⟨b48, 0, none⟩)), (11, .slice A43 t42.length c44), (12, .pointer (some ⟨b62, 0, none⟩)), (13, .int .u8 t60), (14, .pointer (some ⟨b82, 0, none⟩)), (15, .int .u8 t80)] (by kernel_rfl) ?_
      refine RegI.done (by kernel_rfl) ?_
      refine RunsI.go 1 [.c 29, .c 30] (by kernel_rfl) ?_
      refine RunsI.any 34 (by kernel_rfl) (by kernel_rfl) (by kernel_rfl) (Kp ([] : List Nat) (World.drew w85)) ?_
      have h89 := h86.drew
      generalize World.drew w85 = w88 at h89 ⊢
      have hS90 := Kp.refl ([] : List Nat) w88
      refine AnyE.loadBox 0 50 4 29 b24 0 (.agg #[.bool t16, .int .i64 t17]) [] h89 rfl (by kernel_rfl) hS90 rfl rfl (by kernel_rfl) (by kernel_rfl) ?_
      obtain ⟨⟨t93, t94⟩, hg92, h⟩ := of_bind h
      dsimp only at h
      refine AnyE.call 1 51 (.agg #[.bool t93, .int .i64 t94]) 13 #[.agg #[.bool t16, .int .i64 t17]] (by kernel_rfl) hS90 (fun _ => by kernel_rfl) (fun w hk => charabanclaw20_plain_13_ok K (fun _ => False) w t16 t17 (fun _ hf => hf.elim) hg92) ?_
      refine AnyE.loadBox 2 52 6 34 b48 0 (.agg #[.bool t40, .int .i64 t41]) [] h89 rfl (by kernel_rfl) hS90 rfl rfl (by kernel_rfl) (by kernel_rfl) ?_
      refine AnyE.run 3 53 (.bool ((t93 == t40) && ((t94 == t41) && true))) (by kernel_rfl) hS90 (fun _ hk => run_eqS (neg := false) (t := 34) (x := .agg #[.bool t93, .int .i64 t94]) (y := .agg #[.bool t40, .int .i64 t41]) (b := ((t93 == t40) && ((t94 == t41) && true))) (by kernel_rfl) (by kernel_rfl) (by kernel_rfl) (by kernel_rfl)) ?_
      refine AnyE.pure 4 54 (.bool ((t93 == t40) && ((t94 == t41) && true))) (by kernel_rfl) hS90 (fun _ => by kernel_rfl) ?_
      rcases of_cond h with ⟨hc95, h⟩ | ⟨hc95, h⟩
      · skip
        refine AnyE.fix 54 true hc95 (by kernel_rfl) (by kernel_rfl) ?_
        refine AnyE.pure 5 55 (.slice A19 t18.length c20) (by kernel_rfl) hS90 (fun _ => by kernel_rfl) ?_
        refine AnyE.run 6 56 (.string (strOf t18)) (by kernel_rfl) hS90 (fun _ hk => run_toStr (s := 31) (d := 9) (v := .slice A19 t18.length c20) (by kernel_rfl) (by kernel_rfl) (h89.rdOwnI [] rfl hk 3 rfl rfl)) ?_
        refine AnyE.pure 7 57 (.slice A43 t42.length c44) (by kernel_rfl) hS90 (fun _ => by kernel_rfl) ?_
        refine AnyE.run 8 58 (.string (strOf t42)) (by kernel_rfl) hS90 (fun _ hk => run_toStr (s := 31) (d := 9) (v := .slice A43 t42.length c44) (by kernel_rfl) (by kernel_rfl) (h89.rdOwnI [] rfl hk 5 rfl rfl)) ?_
        refine AnyE.pure 9 59 (.bool ((ByteArray.toList (strOf t18)) == (ByteArray.toList (strOf t42)))) (by kernel_rfl) hS90 (fun _ => by kernel_rfl) ?_
        refine AnyE.pure 10 60 (.bool ((ByteArray.toList (strOf t18)) == (ByteArray.toList (strOf t42)))) (by kernel_rfl) hS90 (fun _ => by kernel_rfl) ?_
        refine AnyE.pure 11 61 (.bool ((ByteArray.toList (strOf t18)) == (ByteArray.toList (strOf t42)))) (by kernel_rfl) hS90 (fun _ => by kernel_rfl) ?_
        rcases of_cond h with ⟨hc96, h⟩ | ⟨hc96, h⟩
        · skip
          refine AnyE.fix 61 true hc96 (by kernel_rfl) (by kernel_rfl) ?_
          refine AnyE.loadBox 12 62 7 29 b62 0 (.agg #[.bool t58, .int .i64 t59]) [] h89 rfl (by kernel_rfl) hS90 rfl rfl (by kernel_rfl) (by kernel_rfl) ?_
          obtain ⟨⟨t98, t99⟩, hg97, h⟩ := of_bind h
          dsimp only at h
          refine AnyE.call 13 63 (.agg #[.bool t98, .int .i64 t99]) 13 #[.agg #[.bool t58, .int .i64 t59]] (by kernel_rfl) hS90 (fun _ => by kernel_rfl) (fun w hk => charabanclaw20_plain_13_ok K (fun _ => False) w t58 t59 (fun _ hf => hf.elim) hg97) ?_
          refine AnyE.loadBox 14 64 8 34 b82 0 (.agg #[.bool t78, .int .i64 t79]) [] h89 rfl (by kernel_rfl) hS90 rfl rfl (by kernel_rfl) (by kernel_rfl) ?_
          refine AnyE.run 15 65 (.bool ((t98 == t78) && ((t99 == t79) && true))) (by kernel_rfl) hS90 (fun _ hk => run_eqS (neg := false) (t := 34) (x := .agg #[.bool t98, .int .i64 t99]) (y := .agg #[.bool t78, .int .i64 t79]) (b := ((t98 == t78) && ((t99 == t79) && true))) (by kernel_rfl) (by kernel_rfl) (by kernel_rfl) (by kernel_rfl)) ?_
          refine AnyE.pure 16 66 (.bool ((t98 == t78) && ((t99 == t79) && true))) (by kernel_rfl) hS90 (fun _ => by kernel_rfl) ?_
          refine AnyE.pure 17 67 (.bool ((t98 == t78) && ((t99 == t79) && true))) (by kernel_rfl) hS90 (fun _ => by kernel_rfl) ?_
          rcases of_cond h with ⟨hc100, h⟩ | ⟨hc100, h⟩
          · skip
            refine AnyE.fix 67 true hc100 (by kernel_rfl) (by kernel_rfl) ?_
            refine AnyE.pure 18 68 (.int .u8 t60) (by kernel_rfl) hS90 (fun _ => by kernel_rfl) ?_
            refine AnyE.pure 19 69 (.int .u8 t80) (by kernel_rfl) hS90 (fun _ => by kernel_rfl) ?_
            refine AnyE.pure 20 70 (.bool (t60 == t80)) (by kernel_rfl) hS90 (fun _ => by kernel_rfl) ?_
            refine AnyE.pure 21 71 (.bool (t60 == t80)) (by kernel_rfl) hS90 (fun _ => by kernel_rfl) ?_
            refine AnyE.pure 22 72 (.bool (t60 == t80)) (by kernel_rfl) hS90 (fun _ => by kernel_rfl) ?_
            rcases of_cond h with ⟨hc101, h⟩ | ⟨hc101, h⟩
            · skip
              refine AnyE.fix 72 true hc101 (by kernel_rfl) (by kernel_rfl) ?_
              refine AnyE.loadBox 23 73 2 29 b2 0 (.agg #[.bool p0_0, .int .i64 p0_1]) [] h89 rfl (by kernel_rfl) hS90 rfl rfl (by kernel_rfl) (by kernel_rfl) ?_
              refine AnyE.pure 24 74 (.int .u8 p2) (by kernel_rfl) hS90 (fun _ => by kernel_rfl) ?_
              obtain ⟨⟨t103, t104⟩, hg102, h⟩ := of_bind h
              dsimp only at h
              refine AnyE.call 25 75 (.agg #[.bool t103, .int .i64 t104]) 16 #[.agg #[.bool p0_0, .int .i64 p0_1], .int .u8 p2] (by kernel_rfl) hS90 (fun _ => by kernel_rfl) (fun w hk => latch_Write_16_ok K (fun _ => False) w p0_0 p0_1 p2 (fun _ hf => hf.elim) hg102) ?_
              obtain ⟨⟨t106, t107⟩, hg105, h⟩ := of_bind h
              dsimp only at h
              refine AnyE.call 26 76 (.agg #[.bool t106, .int .i64 t107]) 13 #[.agg #[.bool t103, .int .i64 t104]] (by kernel_rfl) hS90 (fun _ => by kernel_rfl) (fun w hk => charabanclaw20_plain_13_ok K (fun _ => False) w t103 t104 (fun _ hf => hf.elim) hg105) ?_
              refine AnyE.loadBox 27 77 2 29 b2 0 (.agg #[.bool p0_0, .int .i64 p0_1]) [] h89 rfl (by kernel_rfl) hS90 rfl rfl (by kernel_rfl) (by kernel_rfl) ?_
              obtain ⟨⟨t109, t110⟩, hg108, h⟩ := of_bind h
              dsimp only at h
              refine AnyE.call 28 78 (.agg #[.bool t109, .int .i64 t110]) 13 #[.agg #[.bool p0_0, .int .i64 p0_1]] (by kernel_rfl) hS90 (fun _ => by kernel_rfl) (fun w hk => charabanclaw20_plain_13_ok K (fun _ => False) w p0_0 p0_1 (fun _ hf => hf.elim) hg108) ?_
              refine AnyE.pure 29 79 (.int .u8 p2) (by kernel_rfl) hS90 (fun _ => by kernel_rfl) ?_
              obtain ⟨⟨t112, t113⟩, hg111, h⟩ := of_bind h
              dsimp only at h
              refine AnyE.call 30 80 (.agg #[.bool t112, .int .i64 t113]) 17 #[.agg #[.bool t109, .int .i64 t110], .int .u8 p2] (by kernel_rfl) hS90 (fun _ => by kernel_rfl) (fun w hk => charabancref20_Write_17_ok K (fun _ => False) w t109 t110 p2 (fun _ hf => hf.elim) hg111) ?_
              refine AnyE.run 31 81 (.bool ((t106 == t112) && ((t107 == t113) && true))) (by kernel_rfl) hS90 (fun _ hk => run_eqS (neg := false) (t := 34) (x := .agg #[.bool t106, .int .i64 t107]) (y := .agg #[.bool t112, .int .i64 t113]) (b := ((t106 == t112) && ((t107 == t113) && true))) (by kernel_rfl) (by kernel_rfl) (by kernel_rfl) (by kernel_rfl)) ?_
              refine AnyE.pure 32 82 (.bool ((t106 == t112) && ((t107 == t113) && true))) (by kernel_rfl) hS90 (fun _ => by kernel_rfl) ?_
              refine AnyE.pure 33 6 (.bool ((t106 == t112) && ((t107 == t113) && true))) (by kernel_rfl) hS90 (fun _ => by kernel_rfl) ?_
              refine AnyE.done (by kernel_rfl) (fun w114 hu115 => ?_)
              have h116 := h89.call hu115
              refine RunsI.only [6] [(6, .bool ((t106 == t112) && ((t107 == t113) && true)))] (by kernel_rfl) (by kernel_rfl) ?_
              refine RunsI.ret (.bool ((t106 == t112) && ((t107 == t113) && true))) (by kernel_rfl) (by kernel_rfl) ?_
              obtain rfl := Option.some.inj h
              exact ⟨rfl, h116.below⟩
            · skip
              refine AnyE.fix 72 false hc101 (by kernel_rfl) (by kernel_rfl) ?_
              refine AnyE.no 23 73 (by kernel_rfl) hS90 ?_
              refine AnyE.no 24 74 (by kernel_rfl) hS90 ?_
              refine AnyE.no 25 75 (by kernel_rfl) hS90 ?_
              refine AnyE.no 26 76 (by kernel_rfl) hS90 ?_
              refine AnyE.no 27 77 (by kernel_rfl) hS90 ?_
              refine AnyE.no 28 78 (by kernel_rfl) hS90 ?_
              refine AnyE.no 29 79 (by kernel_rfl) hS90 ?_
              refine AnyE.no 30 80 (by kernel_rfl) hS90 ?_
              refine AnyE.no 31 81 (by kernel_rfl) hS90 ?_
              refine AnyE.pure 32 82 (.bool false) (by kernel_rfl) hS90 (fun _ => by kernel_rfl) ?_
              refine AnyE.pure 33 6 (.bool false) (by kernel_rfl) hS90 (fun _ => by kernel_rfl) ?_
              refine AnyE.done (by kernel_rfl) (fun w117 hu118 => ?_)
              have h119 := h89.call hu118
              refine RunsI.only [6] [(6, .bool false)] (by kernel_rfl) (by kernel_rfl) ?_
              refine RunsI.ret (.bool false) (by kernel_rfl) (by kernel_rfl) ?_
              obtain rfl := Option.some.inj h
              exact ⟨rfl, h119.below⟩
          · skip
            refine AnyE.fix 67 false hc100 (by kernel_rfl) (by kernel_rfl) ?_
            refine AnyE.no 18 68 (by kernel_rfl) hS90 ?_
            refine AnyE.no 19 69 (by kernel_rfl) hS90 ?_
            refine AnyE.no 20 70 (by kernel_rfl) hS90 ?_
            refine AnyE.pure 21 71 (.bool false) (by kernel_rfl) hS90 (fun _ => by kernel_rfl) ?_
            refine AnyE.pure 22 72 (.bool false) (by kernel_rfl) hS90 (fun _ => by kernel_rfl) ?_
            refine AnyE.no 23 73 (by kernel_rfl) hS90 ?_
            refine AnyE.no 24 74 (by kernel_rfl) hS90 ?_
            refine AnyE.no 25 75 (by kernel_rfl) hS90 ?_
            refine AnyE.no 26 76 (by kernel_rfl) hS90 ?_
            refine AnyE.no 27 77 (by kernel_rfl) hS90 ?_
            refine AnyE.no 28 78 (by kernel_rfl) hS90 ?_
            refine AnyE.no 29 79 (by kernel_rfl) hS90 ?_
            refine AnyE.no 30 80 (by kernel_rfl) hS90 ?_
            refine AnyE.no 31 81 (by kernel_rfl) hS90 ?_
            refine AnyE.pure 32 82 (.bool false) (by kernel_rfl) hS90 (fun _ => by kernel_rfl) ?_
            refine AnyE.pure 33 6 (.bool false) (by kernel_rfl) hS90 (fun _ => by kernel_rfl) ?_
            refine AnyE.done (by kernel_rfl) (fun w120 hu121 => ?_)
            have h122 := h89.call hu121
            refine RunsI.only [6] [(6, .bool false)] (by kernel_rfl) (by kernel_rfl) ?_
            refine RunsI.ret (.bool false) (by kernel_rfl) (by kernel_rfl) ?_
            obtain rfl := Option.some.inj h
            exact ⟨rfl, h122.below⟩
        · skip
          refine AnyE.fix 61 false hc96 (by kernel_rfl) (by kernel_rfl) ?_
          refine AnyE.no 12 62 (by kernel_rfl) hS90 ?_
          refine AnyE.no 13 63 (by kernel_rfl) hS90 ?_
          refine AnyE.no 14 64 (by kernel_rfl) hS90 ?_
          refine AnyE.no 15 65 (by kernel_rfl) hS90 ?_
          refine AnyE.pure 16 66 (.bool false) (by kernel_rfl) hS90 (fun _ => by kernel_rfl) ?_
          refine AnyE.pure 17 67 (.bool false) (by kernel_rfl) hS90 (fun _ => by kernel_rfl) ?_
          refine AnyE.no 18 68 (by kernel_rfl) hS90 ?_
          refine AnyE.no 19 69 (by kernel_rfl) hS90 ?_
          refine AnyE.no 20 70 (by kernel_rfl) hS90 ?_
          refine AnyE.pure 21 71 (.bool false) (by kernel_rfl) hS90 (fun _ => by kernel_rfl) ?_
          refine AnyE.pure 22 72 (.bool false) (by kernel_rfl) hS90 (fun _ => by kernel_rfl) ?_
          refine AnyE.no 23 73 (by kernel_rfl) hS90 ?_
          refine AnyE.no 24 74 (by kernel_rfl) hS90 ?_
          refine AnyE.no 25 75 (by kernel_rfl) hS90 ?_
          refine AnyE.no 26 76 (by kernel_rfl) hS90 ?_
          refine AnyE.no 27 77 (by kernel_rfl) hS90 ?_
          refine AnyE.no 28 78 (by kernel_rfl) hS90 ?_
          refine AnyE.no 29 79 (by kernel_rfl) hS90 ?_
          refine AnyE.no 30 80 (by kernel_rfl) hS90 ?_
          refine AnyE.no 31 81 (by kernel_rfl) hS90 ?_
          refine AnyE.pure 32 82 (.bool false) (by kernel_rfl) hS90 (fun _ => by kernel_rfl) ?_
          refine AnyE.pure 33 6 (.bool false) (by kernel_rfl) hS90 (fun _ => by kernel_rfl) ?_
          refine AnyE.done (by kernel_rfl) (fun w123 hu124 => ?_)
          have h125 := h89.call hu124
          refine RunsI.only [6] [(6, .bool false)] (by kernel_rfl) (by kernel_rfl) ?_
          refine RunsI.ret (.bool false) (by kernel_rfl) (by kernel_rfl) ?_
          obtain rfl := Option.some.inj h
          exact ⟨rfl, h125.below⟩
      · skip
        refine AnyE.fix 54 false hc95 (by kernel_rfl) (by kernel_rfl) ?_
        refine AnyE.no 5 55 (by kernel_rfl) hS90 ?_
        refine AnyE.no 6 56 (by kernel_rfl) hS90 ?_
        refine AnyE.no 7 57 (by kernel_rfl) hS90 ?_
        refine AnyE.no 8 58 (by kernel_rfl) hS90 ?_
        refine AnyE.no 9 59 (by kernel_rfl) hS90 ?_
        refine AnyE.pure 10 60 (.bool false) (by kernel_rfl) hS90 (fun _ => by kernel_rfl) ?_
        refine AnyE.pure 11 61 (.bool false) (by kernel_rfl) hS90 (fun _ => by kernel_rfl) ?_
        refine AnyE.no 12 62 (by kernel_rfl) hS90 ?_
        refine AnyE.no 13 63 (by kernel_rfl) hS90 ?_
        refine AnyE.no 14 64 (by kernel_rfl) hS90 ?_
        refine AnyE.no 15 65 (by kernel_rfl) hS90 ?_
        refine AnyE.pure 16 66 (.bool false) (by kernel_rfl) hS90 (fun _ => by kernel_rfl) ?_
        refine AnyE.pure 17 67 (.bool false) (by kernel_rfl) hS90 (fun _ => by kernel_rfl) ?_
        refine AnyE.no 18 68 (by kernel_rfl) hS90 ?_
        refine AnyE.no 19 69 (by kernel_rfl) hS90 ?_
        refine AnyE.no 20 70 (by kernel_rfl) hS90 ?_
        refine AnyE.pure 21 71 (.bool false) (by kernel_rfl) hS90 (fun _ => by kernel_rfl) ?_
        refine AnyE.pure 22 72 (.bool false) (by kernel_rfl) hS90 (fun _ => by kernel_rfl) ?_
        refine AnyE.no 23 73 (by kernel_rfl) hS90 ?_
        refine AnyE.no 24 74 (by kernel_rfl) hS90 ?_
        refine AnyE.no 25 75 (by kernel_rfl) hS90 ?_
        refine AnyE.no 26 76 (by kernel_rfl) hS90 ?_
        refine AnyE.no 27 77 (by kernel_rfl) hS90 ?_
        refine AnyE.no 28 78 (by kernel_rfl) hS90 ?_
        refine AnyE.no 29 79 (by kernel_rfl) hS90 ?_
        refine AnyE.no 30 80 (by kernel_rfl) hS90 ?_
        refine AnyE.no 31 81 (by kernel_rfl) hS90 ?_
        refine AnyE.pure 32 82 (.bool false) (by kernel_rfl) hS90 (fun _ => by kernel_rfl) ?_
        refine AnyE.pure 33 6 (.bool false) (by kernel_rfl) hS90 (fun _ => by kernel_rfl) ?_
        refine AnyE.done (by kernel_rfl) (fun w126 hu127 => ?_)
        have h128 := h89.call hu127
        refine RunsI.only [6] [(6, .bool false)] (by kernel_rfl) (by kernel_rfl) ?_
        refine RunsI.ret (.bool false) (by kernel_rfl) (by kernel_rfl) ?_
        obtain rfl := Option.some.inj h
        exact ⟨rfl, h128.below⟩
end
end Go.Proofs.YtngcadmhnbpgjaaDoor.Latch
