/- The statement's function TimesPlanes as a plain Lean function; written by wip/eng.py. -/
import Derived.Test.YtmcdkmakjjlcnaaDoorTim4
set_option linter.unusedVariables false
set_option linter.unusedSimpArgs false
set_option maxHeartbeats 4000000
namespace Go.Proofs.YtmcdkmakjjlcnaaDoor.Tim
open Go.RowKit Go.Eng
noncomputable def B6 : Code := (Tryd.f6.body).getD .skip
noncomputable def F6 : Fun Tryd.prog := ⟨6, Tryd.f6, B6, 64, Tryd.func6, by kernel_rfl, by kernel_rfl, [], none⟩

/-! ### charabanc/charabanclaw10.TimesPlanes (function 6) -/
section
def charabanclaw10_TimesPlanes_6.post (M0 : Nat → Prop) (w0 : World) (r : Bool) : Ending → World → Prop := fun e w => e = .returned (.bool r) ∧ Below w0.heap.size w0 w
def charabanclaw10_TimesPlanes_6.f (K : Nat) (p0 : Int) (p1 : Bool) : Option Bool := (charabanclaw10_awake_8.f K).bind fun t5 => cond (!t5) (some false) ((times_Of_9.f K 0 p0 0 0 0 0 p1).bind fun t11 => (times_Of_9.f K 3 p0 0 0 0 0 p1).bind fun t16 => (times_Of_9.f K 4 p0 0 0 0 0 p1).bind fun t21 => (times_Of_9.f K 5 p0 0 0 0 0 p1).bind fun t26 => (times_Of_9.f K 6 p0 0 0 0 0 p1).bind fun t31 => cond (t16 == t21) (cond (t26 == t31) (cond (t16 == (IntKind.wrap .i64 (t11 + 4))) (some true) (cond (t16 == (IntKind.wrap .i64 (t11 + 12))) (some true) (cond (p0 == 54) (some (t16 == (IntKind.wrap .i64 (t11 + 9)))) (some false)))) (some false)) (some false))
set_option maxRecDepth 100000 in
theorem charabanclaw10_TimesPlanes_6_ok (K : Nat) (M0 : Nat → Prop) (w0 : World) (p0 : Int) (p1 : Bool) (ho : ∀ b, M0 b → b < w0.heap.size) (hG0 : (gl 0 (tab_0.flatMap en_0)).ok w0 M0) (hG1 : (gl 1 (tab_1.flatMap en_1)).ok w0 M0) {r : Bool} (h : charabanclaw10_TimesPlanes_6.f K p0 p1 = some r) :
    Calls Tryd.prog 6 #[.int .u8 p0, .bool p1] w0 (charabanclaw10_TimesPlanes_6.post M0 w0 r) := by
  unfold charabanclaw10_TimesPlanes_6.f at h
  have h0 : Holds M0 w0 w0 [] := Holds.start ho
  have h0g0 := h0.add (gl 0 (tab_0.flatMap en_0)) rfl ⟨hG0.1, fun hm => hG0.2.1 (hm.elim id (fun hm => absurd hm (by simp [mines, sl, gl]))), hG0.2.2⟩
  have h0g1 := h0g0.add (gl 1 (tab_1.flatMap en_1)) rfl ⟨hG1.1, fun hm => hG1.2.1 (hm.elim id (fun hm => absurd hm (by simp [mines, sl, gl]))), hG1.2.2⟩
  have h0 : Holds M0 w0 w0 [gl 0 (tab_0.flatMap en_0), gl 1 (tab_1.flatMap en_1)] := h0g1
  refine calls_of F6 rfl [.int .u8 p0, .bool p1] (by kernel_rfl) ?_
  refine RunsI.go 1 [.c 1, .c 2] (by kernel_rfl) ?_
  refine RunsI.region (by kernel_rfl) ?_
  refine RegI.pure 1 [0, 1] [(0, .int .u8 p0), (1, .bool p1)] (by kernel_rfl) ?_
  refine RegI.done (by kernel_rfl) ?_
  refine RunsI.go 1 [.c 3, .c 4] (by kernel_rfl) ?_
  refine RunsI.region (by kernel_rfl) ?_
  obtain ⟨t5, hg4, h⟩ := of_bind h
  refine RegI.op (by kernel_rfl) (OpE.call 11 (by kernel_rfl) 8 #[] (by kernel_rfl) ((charabanclaw10_awake_8_ok K _ w0  h0.old' (h0.get 0 rfl) (h0.get 1 rfl) hg4).mono ?_))
  rintro _ w1 ⟨rfl, hb2⟩
  refine ⟨_, rfl, ?_⟩
  have h3 := h0.call hb2
  refine RegI.pure 1 [0, 1, 5] [(0, .int .u8 p0), (1, .bool p1), (5, .bool t5)] (by kernel_rfl) ?_
  refine RegI.done (by kernel_rfl) ?_
  refine RunsI.go 2 [.c 6, .c 7, .c 12] (by kernel_rfl) ?_
  refine RunsI.region (by kernel_rfl) ?_
  refine RegI.pure 2 [0, 1, 13] [(0, .int .u8 p0), (1, .bool p1), (13, .bool (!t5))] (by kernel_rfl) ?_
  refine RegI.done (by kernel_rfl) ?_
  rcases of_cond h with ⟨hc6, h⟩ | ⟨hc6, h⟩
  · skip
    refine RunsI.fix 13 true hc6 (by kernel_rfl) (by kernel_rfl) ?_
    refine RunsI.cond true 8 (by kernel_rfl) ?_
    refine RunsI.go 1 [.c 9, .c 10, .c 12] (by kernel_rfl) ?_
    refine RunsI.region (by kernel_rfl) ?_
    refine RegI.pure 1 [4] [(4, .bool false)] (by kernel_rfl) ?_
    refine RegI.done (by kernel_rfl) ?_
    refine RunsI.ret (.bool false) (by kernel_rfl) (by kernel_rfl) ?_
    obtain rfl := Option.some.inj h
    exact ⟨rfl, h3.below⟩
  · skip
    refine RunsI.fix 13 false hc6 (by kernel_rfl) (by kernel_rfl) ?_
    refine RunsI.cond false 11 (by kernel_rfl) ?_
    refine RunsI.go 1 [.c 12] (by kernel_rfl) ?_
    refine RunsI.go 1 [.c 13, .c 14] (by kernel_rfl) ?_
    refine RunsI.region (by kernel_rfl) ?_
    refine RegI.pure 3 [0, 1, 15, 16] [(0, .int .u8 p0), (1, .bool p1), (15, .agg #[.int .i64 0, .int .u8 p0, .int .u8 0, .int .u16 0, .int .i64 0, .int .i64 0]), (16, .bool p1)] (by kernel_rfl) ?_
    obtain ⟨t11, hg10, h⟩ := of_bind h
    refine RegI.op (by kernel_rfl) (OpE.call 17 (by kernel_rfl) 9 #[.agg #[.int .i64 0, .int .u8 p0, .int .u8 0, .int .u16 0, .int .i64 0, .int .i64 0], .bool p1] (by kernel_rfl) ((times_Of_9_ok K _ w1  0 p0 0 0 0 0 p1 h3.old' (h3.get 0 rfl) (h3.get 1 rfl) hg10).mono ?_))
    rintro _ w7 ⟨rfl, hb8⟩
    refine ⟨_, rfl, ?_⟩
    have h9 := h3.call hb8
    refine RegI.pure 1 [0, 1, 6] [(0, .int .u8 p0), (1, .bool p1), (6, .int .i64 t11)] (by kernel_rfl) ?_
    refine RegI.done (by kernel_rfl) ?_
    refine RunsI.go 1 [.c 15, .c 16] (by kernel_rfl) ?_
    refine RunsI.region (by kernel_rfl) ?_
    refine RegI.pure 3 [0, 1, 6, 19, 20] [(0, .int .u8 p0), (1, .bool p1), (6, .int .i64 t11), (19, .agg #[.int .i64 3, .int .u8 p0, .int .u8 0, .int .u16 0, .int .i64 0, .int .i64 0]), (20, .bool p1)] (by kernel_rfl) ?_
    obtain ⟨t16, hg15, h⟩ := of_bind h
    refine RegI.op (by kernel_rfl) (OpE.call 21 (by kernel_rfl) 9 #[.agg #[.int .i64 3, .int .u8 p0, .int .u8 0, .int .u16 0, .int .i64 0, .int .i64 0], .bool p1] (by kernel_rfl) ((times_Of_9_ok K _ w7  3 p0 0 0 0 0 p1 h9.old' (h9.get 0 rfl) (h9.get 1 rfl) hg15).mono ?_))
    rintro _ w12 ⟨rfl, hb13⟩
    refine ⟨_, rfl, ?_⟩
    have h14 := h9.call hb13
    refine RegI.pure 1 [0, 1, 6, 7] [(0, .int .u8 p0), (1, .bool p1), (6, .int .i64 t11), (7, .int .i64 t16)] (by kernel_rfl) ?_
    refine RegI.done (by kernel_rfl) ?_
    refine RunsI.go 1 [.c 17, .c 18] (by kernel_rfl) ?_
    refine RunsI.region (by kernel_rfl) ?_
    refine RegI.pure 3 [0, 1, 6, 7, 23, 24] [(0, .int .u8 p0), (1, .bool p1), (6, .int .i64 t11), (7, .int .i64 t16), (23, .agg #[.int .i64 4, .int .u8 p0, .int .u8 0, .int .u16 0, .int .i64 0, .int .i64 0]), (24, .bool p1)] (by kernel_rfl) ?_
    obtain ⟨t21, hg20, h⟩ := of_bind h
    refine RegI.op (by kernel_rfl) (OpE.call 25 (by kernel_rfl) 9 #[.agg #[.int .i64 4, .int .u8 p0, .int .u8 0, .int .u16 0, .int .i64 0, .int .i64 0], .bool p1] (by kernel_rfl) ((times_Of_9_ok K _ w12  4 p0 0 0 0 0 p1 h14.old' (h14.get 0 rfl) (h14.get 1 rfl) hg20).mono ?_))
    rintro _ w17 ⟨rfl, hb18⟩
    refine ⟨_, rfl, ?_⟩
    have h19 := h14.call hb18
    refine RegI.pure 1 [0, 1, 6, 7, 8] [(0, .int .u8 p0), (1, .bool p1), (6, .int .i64 t11), (7, .int .i64 t16), (8, .int .i64 t21)] (by kernel_rfl) ?_
    refine RegI.done (by kernel_rfl) ?_
    refine RunsI.go 1 [.c 19, .c 20] (by kernel_rfl) ?_
    refine RunsI.region (by kernel_rfl) ?_
    refine RegI.pure 3 [0, 1, 6, 7, 8, 27, 28] [(0, .int .u8 p0), (1, .bool p1), (6, .int .i64 t11), (7, .int .i64 t16), (8, .int .i64 t21), (27, .agg #[.int .i64 5, .int .u8 p0, .int .u8 0, .int .u16 0, .int .i64 0, .int .i64 0]), (28, .bool p1)] (by kernel_rfl) ?_
    obtain ⟨t26, hg25, h⟩ := of_bind h
    refine RegI.op (by kernel_rfl) (OpE.call 29 (by kernel_rfl) 9 #[.agg #[.int .i64 5, .int .u8 p0, .int .u8 0, .int .u16 0, .int .i64 0, .int .i64 0], .bool p1] (by kernel_rfl) ((times_Of_9_ok K _ w17  5 p0 0 0 0 0 p1 h19.old' (h19.get 0 rfl) (h19.get 1 rfl) hg25).mono ?_))
    rintro _ w22 ⟨rfl, hb23⟩
    refine ⟨_, rfl, ?_⟩
    have h24 := h19.call hb23
    refine RegI.pure 1 [0, 1, 6, 7, 8, 9] [(0, .int .u8 p0), (1, .bool p1), (6, .int .i64 t11), (7, .int .i64 t16), (8, .int .i64 t21), (9, .int .i64 t26)] (by kernel_rfl) ?_
    refine RegI.done (by kernel_rfl) ?_
    refine RunsI.go 1 [.c 21, .c 22] (by kernel_rfl) ?_
    refine RunsI.region (by kernel_rfl) ?_
    refine RegI.pure 3 [0, 6, 7, 8, 9, 31, 32] [(0, .int .u8 p0), (6, .int .i64 t11), (7, .int .i64 t16), (8, .int .i64 t21), (9, .int .i64 t26), (31, .agg #[.int .i64 6, .int .u8 p0, .int .u8 0, .int .u16 0, .int .i64 0, .int .i64 0]), (32, .bool p1)] (by kernel_rfl) ?_
    obtain ⟨t31, hg30, h⟩ := of_bind h
    refine RegI.op (by kernel_rfl) (OpE.call 33 (by kernel_rfl) 9 #[.agg #[.int .i64 6, .int .u8 p0, .int .u8 0, .int .u16 0, .int .i64 0, .int .i64 0], .bool p1] (by kernel_rfl) ((times_Of_9_ok K _ w22  6 p0 0 0 0 0 p1 h24.old' (h24.get 0 rfl) (h24.get 1 rfl) hg30).mono ?_))
    rintro _ w27 ⟨rfl, hb28⟩
    refine ⟨_, rfl, ?_⟩
    have h29 := h24.call hb28
    refine RegI.pure 1 [0, 6, 7, 8, 9, 10] [(0, .int .u8 p0), (6, .int .i64 t11), (7, .int .i64 t16), (8, .int .i64 t21), (9, .int .i64 t26), (10, .int .i64 t31)] (by kernel_rfl) ?_
    refine RegI.done (by kernel_rfl) ?_
    refine RunsI.go 1 [.c 23, .c 24] (by kernel_rfl) ?_
    refine RunsI.region (by kernel_rfl) ?_
    refine RegI.pure 4 [0, 6, 7, 9, 10, 37] [(0, .int .u8 p0), (6, .int .i64 t11), (7, .int .i64 t16), (9, .int .i64 t26), (10, .int .i64 t31), (37, .bool (t16 == t21))] (by kernel_rfl) ?_
    rcases of_cond h with ⟨hc32, h⟩ | ⟨hc32, h⟩
    · skip
      refine RegI.fix 37 true hc32 (by kernel_rfl) (by kernel_rfl) ?_
      refine RegI.pure 5 [0, 6, 7, 42] [(0, .int .u8 p0), (6, .int .i64 t11), (7, .int .i64 t16), (42, .bool (t26 == t31))] (by kernel_rfl) ?_
      rcases of_cond h with ⟨hc33, h⟩ | ⟨hc33, h⟩
      · skip
        refine RegI.fix 42 true hc33 (by kernel_rfl) (by kernel_rfl) ?_
        refine RegI.pure 5 [0, 6, 7, 42, 47] [(0, .int .u8 p0), (6, .int .i64 t11), (7, .int .i64 t16), (42, .bool true), (47, .bool (t16 == (IntKind.wrap .i64 (t11 + 4))))] (by kernel_rfl) ?_
        rcases of_cond h with ⟨hc34, h⟩ | ⟨hc34, h⟩
        · skip
          refine RegI.fix 47 true hc34 (by kernel_rfl) (by kernel_rfl) ?_
          refine RegI.pure 17 [4] [(4, .bool true)] (by kernel_rfl) ?_
          refine RegI.done (by kernel_rfl) ?_
          refine RunsI.ret (.bool true) (by kernel_rfl) (by kernel_rfl) ?_
          obtain rfl := Option.some.inj h
          exact ⟨rfl, h29.below⟩
        · skip
          refine RegI.fix 47 false hc34 (by kernel_rfl) (by kernel_rfl) ?_
          refine RegI.pure 6 [0, 6, 7, 42, 53] [(0, .int .u8 p0), (6, .int .i64 t11), (7, .int .i64 t16), (42, .bool true), (53, .bool (t16 == (IntKind.wrap .i64 (t11 + 12))))] (by kernel_rfl) ?_
          rcases of_cond h with ⟨hc35, h⟩ | ⟨hc35, h⟩
          · skip
            refine RegI.fix 53 true hc35 (by kernel_rfl) (by kernel_rfl) ?_
            refine RegI.pure 11 [4] [(4, .bool true)] (by kernel_rfl) ?_
            refine RegI.done (by kernel_rfl) ?_
            refine RunsI.ret (.bool true) (by kernel_rfl) (by kernel_rfl) ?_
            obtain rfl := Option.some.inj h
            exact ⟨rfl, h29.below⟩
          · skip
            refine RegI.fix 53 false hc35 (by kernel_rfl) (by kernel_rfl) ?_
            refine RegI.pure 3 [6, 7, 42, 53, 56] [(6, .int .i64 t11), (7, .int .i64 t16), (42, .bool true), (53, .bool false), (56, .bool (p0 == 54))] (by kernel_rfl) ?_
            rcases of_cond h with ⟨hc36, h⟩ | ⟨hc36, h⟩
            · skip
              refine RegI.fix 56 true hc36 (by kernel_rfl) (by kernel_rfl) ?_
              refine RegI.pure 8 [4] [(4, .bool (t16 == (IntKind.wrap .i64 (t11 + 9))))] (by kernel_rfl) ?_
              refine RegI.done (by kernel_rfl) ?_
              refine RunsI.ret (.bool (t16 == (IntKind.wrap .i64 (t11 + 9)))) (by kernel_rfl) (by kernel_rfl) ?_
              obtain rfl := Option.some.inj h
              exact ⟨rfl, h29.below⟩
            · skip
              refine RegI.fix 56 false hc36 (by kernel_rfl) (by kernel_rfl) ?_
              refine RegI.pure 8 [4] [(4, .bool false)] (by kernel_rfl) ?_
              refine RegI.done (by kernel_rfl) ?_
              refine RunsI.ret (.bool false) (by kernel_rfl) (by kernel_rfl) ?_
              obtain rfl := Option.some.inj h
              exact ⟨rfl, h29.below⟩
      · skip
        refine RegI.fix 42 false hc33 (by kernel_rfl) (by kernel_rfl) ?_
        refine RegI.pure 22 [4] [(4, .bool false)] (by kernel_rfl) ?_
        refine RegI.done (by kernel_rfl) ?_
        refine RunsI.ret (.bool false) (by kernel_rfl) (by kernel_rfl) ?_
        obtain rfl := Option.some.inj h
        exact ⟨rfl, h29.below⟩
    · skip
      refine RegI.fix 37 false hc32 (by kernel_rfl) (by kernel_rfl) ?_
      refine RegI.pure 27 [4] [(4, .bool false)] (by kernel_rfl) ?_
      refine RegI.done (by kernel_rfl) ?_
      refine RunsI.ret (.bool false) (by kernel_rfl) (by kernel_rfl) ?_
      obtain rfl := Option.some.inj h
      exact ⟨rfl, h29.below⟩
end
end Go.Proofs.YtmcdkmakjjlcnaaDoor.Tim
