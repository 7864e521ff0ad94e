/- The statement's function DecodeCodes as a plain Lean function; written by wip/eng.py. -/
import Derived.Test.YtmcdkmakjjlcnaaDec3
set_option linter.unusedVariables false
set_option linter.unusedSimpArgs false
set_option maxHeartbeats 4000000
namespace Go.Proofs.Ytmcdkmakjjlcnaa.Dec
open Go.RowKit Go.Eng
noncomputable def B3 : Code := (Try.f3.body).getD .skip
noncomputable def F3 : Fun Try.prog := ⟨3, Try.f3, B3, 76, Try.func3, by kernel_rfl, by kernel_rfl, [], none⟩

/-! ### charabanc/charabanclaw08.DecodeCodes (function 3) -/
section
def charabanclaw08_DecodeCodes_3.post (M0 : Nat → Prop) (w0 : World) (r : Bool) : Ending → World → Prop := fun e w => e = .returned (.bool r) ∧ Below w0.heap.size w0 w
def charabanclaw08_DecodeCodes_3.f (K : Nat) (p0 : Int) (p1 : Int) : Option Bool := (charabanclaw08_awake_8.f K).bind fun t5 => cond (!t5) (some false) ((decode_Fields_9.f K p1).bind fun yt11 => (charabancref08_Fields_10.f K p1).bind fun yt20 => cond (yt11.1 == yt20.1) (cond (yt11.2.1 == yt20.2.1) (cond (yt11.2.2.1 == yt20.2.2.1) (cond (yt11.2.2.2.1 == yt20.2.2.2.1) (cond (yt11.2.2.2.2 == yt20.2.2.2.2) ((decode_Size_11.f K p0 p1).bind fun t34 => (charabancref08_Size_12.f K p0 p1).bind fun t39 => cond (t34 == t39) ((decode_Near_13.f K p0 p1).bind fun t45 => (charabancref08_Near_14.f K p0 p1).bind fun t50 => some (t45 == t50)) (some false)) (some false)) (some false)) (some false)) (some false)) (some false))
set_option maxRecDepth 100000 in
theorem charabanclaw08_DecodeCodes_3_ok (K : Nat) (M0 : Nat → Prop) (w0 : World) (p0 : Int) (p1 : Int) (ho : ∀ b, M0 b → b < w0.heap.size) {r : Bool} (h : charabanclaw08_DecodeCodes_3.f K p0 p1 = some r) :
    Calls Try.prog 3 #[.int .i64 p0, .int .u8 p1] w0 (charabanclaw08_DecodeCodes_3.post M0 w0 r) := by
  unfold charabanclaw08_DecodeCodes_3.f at h
  have h0 : Holds M0 w0 w0 [] := Holds.start ho
  have h0 : Holds M0 w0 w0 [] := h0
  refine calls_of F3 rfl [.int .i64 p0, .int .u8 p1] (by kernel_rfl) ?_
  refine RunsI.go 1 [.c 1, .c 2] (by kernel_rfl) ?_
  refine RunsI.region (by kernel_rfl) ?_
  refine RegI.pure 1 [0, 1] [(0, .int .i64 p0), (1, .int .u8 p1)] (by kernel_rfl) ?_
  refine RegI.done (by kernel_rfl) ?_
  refine RunsI.go 1 [.c 3, .c 4] (by kernel_rfl) ?_
  refine RunsI.region (by kernel_rfl) ?_
  obtain ⟨t5, hg4, h⟩ := of_bind h
  refine RegI.op (by kernel_rfl) (OpE.call 16 (by kernel_rfl) 8 #[] (by kernel_rfl) ((charabanclaw08_awake_8_ok K _ w0  h0.old' hg4).mono ?_))
  rintro _ w1 ⟨rfl, hb2⟩
  refine ⟨_, rfl, ?_⟩
  have h3 := h0.call hb2
  refine RegI.pure 1 [0, 1, 5] [(0, .int .i64 p0), (1, .int .u8 p1), (5, .bool t5)] (by kernel_rfl) ?_
  refine RegI.done (by kernel_rfl) ?_
  refine RunsI.go 2 [.c 6, .c 7, .c 12] (by kernel_rfl) ?_
  refine RunsI.region (by kernel_rfl) ?_
  refine RegI.pure 2 [0, 1, 18] [(0, .int .i64 p0), (1, .int .u8 p1), (18, .bool (!t5))] (by kernel_rfl) ?_
  refine RegI.done (by kernel_rfl) ?_
  rcases of_cond h with ⟨hc6, h⟩ | ⟨hc6, h⟩
  · skip
    refine RunsI.fix 18 true hc6 (by kernel_rfl) (by kernel_rfl) ?_
    refine RunsI.cond true 8 (by kernel_rfl) ?_
    refine RunsI.go 1 [.c 9, .c 10, .c 12] (by kernel_rfl) ?_
    refine RunsI.region (by kernel_rfl) ?_
    refine RegI.pure 1 [4] [(4, .bool false)] (by kernel_rfl) ?_
    refine RegI.done (by kernel_rfl) ?_
    refine RunsI.ret (.bool false) (by kernel_rfl) (by kernel_rfl) ?_
    obtain rfl := Option.some.inj h
    exact ⟨rfl, h3.below⟩
  · skip
    refine RunsI.fix 18 false hc6 (by kernel_rfl) (by kernel_rfl) ?_
    refine RunsI.cond false 11 (by kernel_rfl) ?_
    refine RunsI.go 1 [.c 12] (by kernel_rfl) ?_
    refine RunsI.go 1 [.c 13, .c 14] (by kernel_rfl) ?_
    refine RunsI.region (by kernel_rfl) ?_
    refine RegI.pure 1 [0, 1, 20] [(0, .int .i64 p0), (1, .int .u8 p1), (20, .int .u8 p1)] (by kernel_rfl) ?_
    obtain ⟨⟨t11, t12, t13, t14, t15⟩, hg10, h⟩ := of_bind h
    dsimp only at h
    refine RegI.op (by kernel_rfl) (OpE.call 21 (by kernel_rfl) 9 #[.int .u8 p1] (by kernel_rfl) ((decode_Fields_9_ok K _ w1  p1 h3.old' hg10).mono ?_))
    rintro _ w7 ⟨rfl, hb8⟩
    refine ⟨_, rfl, ?_⟩
    have h9 := h3.call hb8
    refine RegI.pure 11 [0, 1, 6, 7, 8, 9, 10] [(0, .int .i64 p0), (1, .int .u8 p1), (6, .int .i64 t11), (7, .int .i64 t12), (8, .int .i64 t13), (9, .int .i64 t14), (10, .int .i64 t15)] (by kernel_rfl) ?_
    refine RegI.done (by kernel_rfl) ?_
    refine RunsI.go 1 [.c 15, .c 16] (by kernel_rfl) ?_
    refine RunsI.region (by kernel_rfl) ?_
    refine RegI.pure 1 [0, 1, 6, 7, 8, 9, 10, 28] [(0, .int .i64 p0), (1, .int .u8 p1), (6, .int .i64 t11), (7, .int .i64 t12), (8, .int .i64 t13), (9, .int .i64 t14), (10, .int .i64 t15), (28, .int .u8 p1)] (by kernel_rfl) ?_
    obtain ⟨⟨t20, t21, t22, t23, t24⟩, hg19, h⟩ := of_bind h
    dsimp only at h
    refine RegI.op (by kernel_rfl) (OpE.call 29 (by kernel_rfl) 10 #[.int .u8 p1] (by kernel_rfl) ((charabancref08_Fields_10_ok K _ w7  p1 h9.old' hg19).mono ?_))
    rintro _ w16 ⟨rfl, hb17⟩
    refine ⟨_, rfl, ?_⟩
    have h18 := h9.call hb17
    refine RegI.pure 11 [0, 1, 6, 7, 8, 9, 10, 11, 12, 13, 14, 15] [(0, .int .i64 p0), (1, .int .u8 p1), (6, .int .i64 t11), (7, .int .i64 t12), (8, .int .i64 t13), (9, .int .i64 t14), (10, .int .i64 t15), (11, .int .i64 t20), (12, .int .i64 t21), (13, .int .i64 t22), (14, .int .i64 t23), (15, .int .i64 t24)] (by kernel_rfl) ?_
    refine RegI.done (by kernel_rfl) ?_
    refine RunsI.go 1 [.c 17, .c 18] (by kernel_rfl) ?_
    refine RunsI.region (by kernel_rfl) ?_
    refine RegI.pure 4 [0, 1, 7, 8, 9, 10, 12, 13, 14, 15, 38] [(0, .int .i64 p0), (1, .int .u8 p1), (7, .int .i64 t12), (8, .int .i64 t13), (9, .int .i64 t14), (10, .int .i64 t15), (12, .int .i64 t21), (13, .int .i64 t22), (14, .int .i64 t23), (15, .int .i64 t24), (38, .bool (t11 == t20))] (by kernel_rfl) ?_
    rcases of_cond h with ⟨hc25, h⟩ | ⟨hc25, h⟩
    · skip
      refine RegI.fix 38 true hc25 (by kernel_rfl) (by kernel_rfl) ?_
      refine RegI.pure 5 [0, 1, 8, 9, 10, 13, 14, 15, 43] [(0, .int .i64 p0), (1, .int .u8 p1), (8, .int .i64 t13), (9, .int .i64 t14), (10, .int .i64 t15), (13, .int .i64 t22), (14, .int .i64 t23), (15, .int .i64 t24), (43, .bool (t12 == t21))] (by kernel_rfl) ?_
      rcases of_cond h with ⟨hc26, h⟩ | ⟨hc26, h⟩
      · skip
        refine RegI.fix 43 true hc26 (by kernel_rfl) (by kernel_rfl) ?_
        refine RegI.pure 5 [0, 1, 9, 10, 14, 15, 48] [(0, .int .i64 p0), (1, .int .u8 p1), (9, .int .i64 t14), (10, .int .i64 t15), (14, .int .i64 t23), (15, .int .i64 t24), (48, .bool (t13 == t22))] (by kernel_rfl) ?_
        rcases of_cond h with ⟨hc27, h⟩ | ⟨hc27, h⟩
        · skip
          refine RegI.fix 48 true hc27 (by kernel_rfl) (by kernel_rfl) ?_
          refine RegI.pure 5 [0, 1, 10, 15, 53] [(0, .int .i64 p0), (1, .int .u8 p1), (10, .int .i64 t15), (15, .int .i64 t24), (53, .bool (t14 == t23))] (by kernel_rfl) ?_
          rcases of_cond h with ⟨hc28, h⟩ | ⟨hc28, h⟩
          · skip
            refine RegI.fix 53 true hc28 (by kernel_rfl) (by kernel_rfl) ?_
            refine RegI.pure 5 [0, 1, 58] [(0, .int .i64 p0), (1, .int .u8 p1), (58, .bool (t15 == t24))] (by kernel_rfl) ?_
            rcases of_cond h with ⟨hc29, h⟩ | ⟨hc29, h⟩
            · skip
              refine RegI.fix 58 true hc29 (by kernel_rfl) (by kernel_rfl) ?_
              refine RegI.pure 2 [0, 1, 58, 59, 60] [(0, .int .i64 p0), (1, .int .u8 p1), (58, .bool true), (59, .int .i64 p0), (60, .int .u8 p1)] (by kernel_rfl) ?_
              obtain ⟨t34, hg33, h⟩ := of_bind h
              refine RegI.op (by kernel_rfl) (OpE.call 61 (by kernel_rfl) 11 #[.int .i64 p0, .int .u8 p1] (by kernel_rfl) ((decode_Size_11_ok K _ w16  p0 p1 h18.old' hg33).mono ?_))
              rintro _ w30 ⟨rfl, hb31⟩
              refine ⟨_, rfl, ?_⟩
              have h32 := h18.call hb31
              refine RegI.pure 2 [0, 1, 58, 61, 62, 63] [(0, .int .i64 p0), (1, .int .u8 p1), (58, .bool true), (61, .int .i64 t34), (62, .int .i64 p0), (63, .int .u8 p1)] (by kernel_rfl) ?_
              obtain ⟨t39, hg38, h⟩ := of_bind h
              refine RegI.op (by kernel_rfl) (OpE.call 64 (by kernel_rfl) 12 #[.int .i64 p0, .int .u8 p1] (by kernel_rfl) ((charabancref08_Size_12_ok K _ w30  p0 p1 h32.old' hg38).mono ?_))
              rintro _ w35 ⟨rfl, hb36⟩
              refine ⟨_, rfl, ?_⟩
              have h37 := h32.call hb36
              refine RegI.pure 3 [0, 1, 67] [(0, .int .i64 p0), (1, .int .u8 p1), (67, .bool (t34 == t39))] (by kernel_rfl) ?_
              rcases of_cond h with ⟨hc40, h⟩ | ⟨hc40, h⟩
              · skip
                refine RegI.fix 67 true hc40 (by kernel_rfl) (by kernel_rfl) ?_
                refine RegI.pure 2 [0, 1, 67, 68, 69] [(0, .int .i64 p0), (1, .int .u8 p1), (67, .bool true), (68, .int .i64 p0), (69, .int .u8 p1)] (by kernel_rfl) ?_
                obtain ⟨t45, hg44, h⟩ := of_bind h
                refine RegI.op (by kernel_rfl) (OpE.call 70 (by kernel_rfl) 13 #[.int .i64 p0, .int .u8 p1] (by kernel_rfl) ((decode_Near_13_ok K _ w35  p0 p1 h37.old' hg44).mono ?_))
                rintro _ w41 ⟨rfl, hb42⟩
                refine ⟨_, rfl, ?_⟩
                have h43 := h37.call hb42
                refine RegI.pure 2 [67, 70, 71, 72] [(67, .bool true), (70, .bool t45), (71, .int .i64 p0), (72, .int .u8 p1)] (by kernel_rfl) ?_
                obtain ⟨t50, hg49, h⟩ := of_bind h
                refine RegI.op (by kernel_rfl) (OpE.call 73 (by kernel_rfl) 14 #[.int .i64 p0, .int .u8 p1] (by kernel_rfl) ((charabancref08_Near_14_ok K _ w41  p0 p1 h43.old' hg49).mono ?_))
                rintro _ w46 ⟨rfl, hb47⟩
                refine ⟨_, rfl, ?_⟩
                have h48 := h43.call hb47
                refine RegI.pure 3 [4] [(4, .bool (t45 == t50))] (by kernel_rfl) ?_
                refine RegI.done (by kernel_rfl) ?_
                refine RunsI.ret (.bool (t45 == t50)) (by kernel_rfl) (by kernel_rfl) ?_
                obtain rfl := Option.some.inj h
                exact ⟨rfl, h48.below⟩
              · skip
                refine RegI.fix 67 false hc40 (by kernel_rfl) (by kernel_rfl) ?_
                refine RegI.pure 9 [4] [(4, .bool false)] (by kernel_rfl) ?_
                refine RegI.done (by kernel_rfl) ?_
                refine RunsI.ret (.bool false) (by kernel_rfl) (by kernel_rfl) ?_
                obtain rfl := Option.some.inj h
                exact ⟨rfl, h37.below⟩
            · skip
              refine RegI.fix 58 false hc29 (by kernel_rfl) (by kernel_rfl) ?_
              refine RegI.pure 18 [4] [(4, .bool false)] (by kernel_rfl) ?_
              refine RegI.done (by kernel_rfl) ?_
              refine RunsI.ret (.bool false) (by kernel_rfl) (by kernel_rfl) ?_
              obtain rfl := Option.some.inj h
              exact ⟨rfl, h18.below⟩
          · skip
            refine RegI.fix 53 false hc28 (by kernel_rfl) (by kernel_rfl) ?_
            refine RegI.pure 23 [4] [(4, .bool false)] (by kernel_rfl) ?_
            refine RegI.done (by kernel_rfl) ?_
            refine RunsI.ret (.bool false) (by kernel_rfl) (by kernel_rfl) ?_
            obtain rfl := Option.some.inj h
            exact ⟨rfl, h18.below⟩
        · skip
          refine RegI.fix 48 false hc27 (by kernel_rfl) (by kernel_rfl) ?_
          refine RegI.pure 28 [4] [(4, .bool false)] (by kernel_rfl) ?_
          refine RegI.done (by kernel_rfl) ?_
          refine RunsI.ret (.bool false) (by kernel_rfl) (by kernel_rfl) ?_
          obtain rfl := Option.some.inj h
          exact ⟨rfl, h18.below⟩
      · skip
        refine RegI.fix 43 false hc26 (by kernel_rfl) (by kernel_rfl) ?_
        refine RegI.pure 33 [4] [(4, .bool false)] (by kernel_rfl) ?_
        refine RegI.done (by kernel_rfl) ?_
        refine RunsI.ret (.bool false) (by kernel_rfl) (by kernel_rfl) ?_
        obtain rfl := Option.some.inj h
        exact ⟨rfl, h18.below⟩
    · skip
      refine RegI.fix 38 false hc25 (by kernel_rfl) (by kernel_rfl) ?_
      refine RegI.pure 38 [4] [(4, .bool false)] (by kernel_rfl) ?_
      refine RegI.done (by kernel_rfl) ?_
      refine RunsI.ret (.bool false) (by kernel_rfl) (by kernel_rfl) ?_
      obtain rfl := Option.some.inj h
      exact ⟨rfl, h18.below⟩
end
end Go.Proofs.Ytmcdkmakjjlcnaa.Dec
