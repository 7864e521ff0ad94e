/- The statement's function LatchPorts as a plain Lean function; written by wip/eng.py. -/
import Derived.Test.YtngcadmhnbpgjaaDoorLatch
set_option linter.unusedVariables false
set_option linter.unusedSimpArgs false
set_option maxHeartbeats 4000000
namespace Go.Proofs.YtngcadmhnbpgjaaDoor.Latch
open Go.RowKit Go.Eng
noncomputable def B3 : Code := (Tryd.f3.body).getD .skip
noncomputable def F3 : Fun Tryd.prog := ⟨3, Tryd.f3, B3, 59, Tryd.func3, by kernel_rfl, by kernel_rfl⟩

/-! ### charabanc/charabanclaw20.LatchPorts (function 3) -/
section
def charabanclaw20_LatchPorts_3.post (M0 : Nat → Prop) (w0 : World) (r : Bool) : Ending → World → Prop := fun e w => e = .returned (.bool r) ∧ Below w0.heap.size w0 w
def charabanclaw20_LatchPorts_3.f (K : Nat) (p0 : Int) (p1 : Int) (p2 : Int) : Option Bool := (charabanclaw20_awake_6.f K).bind fun t5 => cond (!t5) (some false) ((latch_Device_7.f K p0).bind fun yt11 => (charabancref20_Device_8.f K p0).bind fun yt17 => (latch_Port_9.f K p1 p2).bind fun yt23 => (charabancref20_Port_10.f K p1 p2).bind fun yt29 => cond (yt11.1 == yt17.1) (cond (yt11.2 == yt17.2) (cond (yt23.1 == yt29.1) (some (yt23.2 == yt29.2)) (some false)) (some false)) (some false))
set_option maxRecDepth 100000 in
theorem charabanclaw20_LatchPorts_3_ok (K : Nat) (M0 : Nat → Prop) (w0 : World) (p0 : Int) (p1 : Int) (p2 : Int) (ho : ∀ b, M0 b → b < w0.heap.size) (hG0 : (cel 0 0 (tab_0.flatMap en_0)).ok w0 M0) {r : Bool} (h : charabanclaw20_LatchPorts_3.f K p0 p1 p2 = some r) :
    Calls Tryd.prog 3 #[.int .u8 p0, .int .i64 p1, .int .i64 p2] w0 (charabanclaw20_LatchPorts_3.post M0 w0 r) := by
  unfold charabanclaw20_LatchPorts_3.f at h
  have h0 : Holds M0 w0 w0 [] := Holds.start ho
  have h0g0 := h0.add (cel 0 0 (tab_0.flatMap en_0)) rfl ⟨hG0.1, fun hm => hG0.2.1 (hm.elim id (fun hm => absurd hm (by simp [mines, sl, cel]))), hG0.2.2⟩
  have h0 : Holds M0 w0 w0 [cel 0 0 (tab_0.flatMap en_0)] := h0g0
  refine calls_of F3 rfl [.int .u8 p0, .int .i64 p1, .int .i64 p2] (by kernel_rfl) ?_
  refine RunsI.go 1 [.c 1, .c 2] (by kernel_rfl) ?_
  refine RunsI.region (by kernel_rfl) ?_
  refine RegI.pure 1 [0, 1, 2] [(0, .int .u8 p0), (1, .int .i64 p1), (2, .int .i64 p2)] (by kernel_rfl) ?_
  refine RegI.done (by kernel_rfl) ?_
  refine RunsI.go 1 [.c 3, .c 4] (by kernel_rfl) ?_
  refine RunsI.region (by kernel_rfl) ?_
  obtain ⟨t5, hg4, h⟩ := of_bind h
  refine RegI.op (by kernel_rfl) (OpE.call 16 (by kernel_rfl) 6 #[] (by kernel_rfl) ((charabanclaw20_awake_6_ok K _ w0  h0.old' (h0.get 0 rfl) hg4).mono ?_))
  rintro _ w1 ⟨rfl, hb2⟩
  refine ⟨_, rfl, ?_⟩
  have h3 := h0.call hb2
  refine RegI.pure 1 [0, 1, 2, 7] [(0, .int .u8 p0), (1, .int .i64 p1), (2, .int .i64 p2), (7, .bool t5)] (by kernel_rfl) ?_
  refine RegI.done (by kernel_rfl) ?_
  refine RunsI.go 2 [.c 6, .c 7, .c 12] (by kernel_rfl) ?_
  refine RunsI.region (by kernel_rfl) ?_
  refine RegI.pure 2 [0, 1, 2, 18] [(0, .int .u8 p0), (1, .int .i64 p1), (2, .int .i64 p2), (18, .bool (!t5))] (by kernel_rfl) ?_
  refine RegI.done (by kernel_rfl) ?_
  rcases of_cond h with ⟨hc6, h⟩ | ⟨hc6, h⟩
  · skip
    refine RunsI.fix 18 true hc6 (by kernel_rfl) (by kernel_rfl) ?_
    refine RunsI.cond true 8 (by kernel_rfl) ?_
    refine RunsI.go 1 [.c 9, .c 10, .c 12] (by kernel_rfl) ?_
    refine RunsI.region (by kernel_rfl) ?_
    refine RegI.pure 1 [6] [(6, .bool false)] (by kernel_rfl) ?_
    refine RegI.done (by kernel_rfl) ?_
    refine RunsI.ret (.bool false) (by kernel_rfl) (by kernel_rfl) ?_
    obtain rfl := Option.some.inj h
    exact ⟨rfl, h3.below⟩
  · skip
    refine RunsI.fix 18 false hc6 (by kernel_rfl) (by kernel_rfl) ?_
    refine RunsI.cond false 11 (by kernel_rfl) ?_
    refine RunsI.go 1 [.c 12] (by kernel_rfl) ?_
    refine RunsI.go 1 [.c 13, .c 14] (by kernel_rfl) ?_
    refine RunsI.region (by kernel_rfl) ?_
    refine RegI.pure 1 [0, 1, 2, 20] [(0, .int .u8 p0), (1, .int .i64 p1), (2, .int .i64 p2), (20, .int .u8 p0)] (by kernel_rfl) ?_
    obtain ⟨⟨t11, t12⟩, hg10, h⟩ := of_bind h
    dsimp only at h
    refine RegI.op (by kernel_rfl) (OpE.call 21 (by kernel_rfl) 7 #[.int .u8 p0] (by kernel_rfl) ((latch_Device_7_ok K _ w1  p0 h3.old' (h3.get 0 rfl) hg10).mono ?_))
    rintro _ w7 ⟨rfl, hb8⟩
    refine ⟨_, rfl, ?_⟩
    have h9 := h3.call hb8
    refine RegI.pure 5 [0, 1, 2, 8, 9] [(0, .int .u8 p0), (1, .int .i64 p1), (2, .int .i64 p2), (8, .int .i64 t11), (9, .int .i64 t12)] (by kernel_rfl) ?_
    refine RegI.done (by kernel_rfl) ?_
    refine RunsI.go 1 [.c 15, .c 16] (by kernel_rfl) ?_
    refine RunsI.region (by kernel_rfl) ?_
    refine RegI.pure 1 [1, 2, 8, 9, 25] [(1, .int .i64 p1), (2, .int .i64 p2), (8, .int .i64 t11), (9, .int .i64 t12), (25, .int .u8 p0)] (by kernel_rfl) ?_
    obtain ⟨⟨t17, t18⟩, hg16, h⟩ := of_bind h
    dsimp only at h
    refine RegI.op (by kernel_rfl) (OpE.call 26 (by kernel_rfl) 8 #[.int .u8 p0] (by kernel_rfl) ((charabancref20_Device_8_ok K _ w7  p0 h9.old' hg16).mono ?_))
    rintro _ w13 ⟨rfl, hb14⟩
    refine ⟨_, rfl, ?_⟩
    have h15 := h9.call hb14
    refine RegI.pure 5 [1, 2, 8, 9, 10, 11] [(1, .int .i64 p1), (2, .int .i64 p2), (8, .int .i64 t11), (9, .int .i64 t12), (10, .int .i64 t17), (11, .int .i64 t18)] (by kernel_rfl) ?_
    refine RegI.done (by kernel_rfl) ?_
    refine RunsI.go 1 [.c 17, .c 18] (by kernel_rfl) ?_
    refine RunsI.region (by kernel_rfl) ?_
    refine RegI.pure 2 [1, 2, 8, 9, 10, 11, 30, 31] [(1, .int .i64 p1), (2, .int .i64 p2), (8, .int .i64 t11), (9, .int .i64 t12), (10, .int .i64 t17), (11, .int .i64 t18), (30, .int .i64 p1), (31, .int .i64 p2)] (by kernel_rfl) ?_
    obtain ⟨⟨t23, t24⟩, hg22, h⟩ := of_bind h
    dsimp only at h
    refine RegI.op (by kernel_rfl) (OpE.call 32 (by kernel_rfl) 9 #[.int .i64 p1, .int .i64 p2] (by kernel_rfl) ((latch_Port_9_ok K _ w13  p1 p2 h15.old' (h15.get 0 rfl) hg22).mono ?_))
    rintro _ w19 ⟨rfl, hb20⟩
    refine ⟨_, rfl, ?_⟩
    have h21 := h15.call hb20
    refine RegI.pure 5 [1, 2, 8, 9, 10, 11, 12, 13] [(1, .int .i64 p1), (2, .int .i64 p2), (8, .int .i64 t11), (9, .int .i64 t12), (10, .int .i64 t17), (11, .int .i64 t18), (12, .int .u8 t23), (13, .bool t24)] (by kernel_rfl) ?_
    refine RegI.done (by kernel_rfl) ?_
    refine RunsI.go 1 [.c 19, .c 20] (by kernel_rfl) ?_
    refine RunsI.region (by kernel_rfl) ?_
    refine RegI.pure 2 [8, 9, 10, 11, 12, 13, 36, 37] [(8, .int .i64 t11), (9, .int .i64 t12), (10, .int .i64 t17), (11, .int .i64 t18), (12, .int .u8 t23), (13, .bool t24), (36, .int .i64 p1), (37, .int .i64 p2)] (by kernel_rfl) ?_
    obtain ⟨⟨t29, t30⟩, hg28, h⟩ := of_bind h
    dsimp only at h
    refine RegI.op (by kernel_rfl) (OpE.call 38 (by kernel_rfl) 10 #[.int .i64 p1, .int .i64 p2] (by kernel_rfl) ((charabancref20_Port_10_ok K _ w19  p1 p2 h21.old' hg28).mono ?_))
    rintro _ w25 ⟨rfl, hb26⟩
    refine ⟨_, rfl, ?_⟩
    have h27 := h21.call hb26
    refine RegI.pure 5 [8, 9, 10, 11, 12, 13, 14, 15] [(8, .int .i64 t11), (9, .int .i64 t12), (10, .int .i64 t17), (11, .int .i64 t18), (12, .int .u8 t23), (13, .bool t24), (14, .int .u8 t29), (15, .bool t30)] (by kernel_rfl) ?_
    refine RegI.done (by kernel_rfl) ?_
    refine RunsI.go 1 [.c 21, .c 22] (by kernel_rfl) ?_
    refine RunsI.region (by kernel_rfl) ?_
    refine RegI.pure 4 [9, 11, 12, 13, 14, 15, 44] [(9, .int .i64 t12), (11, .int .i64 t18), (12, .int .u8 t23), (13, .bool t24), (14, .int .u8 t29), (15, .bool t30), (44, .bool (t11 == t17))] (by kernel_rfl) ?_
    rcases of_cond h with ⟨hc31, h⟩ | ⟨hc31, h⟩
    · skip
      refine RegI.fix 44 true hc31 (by kernel_rfl) (by kernel_rfl) ?_
      refine RegI.pure 5 [12, 13, 14, 15, 49] [(12, .int .u8 t23), (13, .bool t24), (14, .int .u8 t29), (15, .bool t30), (49, .bool (t12 == t18))] (by kernel_rfl) ?_
      rcases of_cond h with ⟨hc32, h⟩ | ⟨hc32, h⟩
      · skip
        refine RegI.fix 49 true hc32 (by kernel_rfl) (by kernel_rfl) ?_
        refine RegI.pure 5 [13, 15, 54] [(13, .bool t24), (15, .bool t30), (54, .bool (t23 == t29))] (by kernel_rfl) ?_
        rcases of_cond h with ⟨hc33, h⟩ | ⟨hc33, h⟩
        · skip
          refine RegI.fix 54 true hc33 (by kernel_rfl) (by kernel_rfl) ?_
          refine RegI.pure 5 [6] [(6, .bool (t24 == t30))] (by kernel_rfl) ?_
          refine RegI.done (by kernel_rfl) ?_
          refine RunsI.ret (.bool (t24 == t30)) (by kernel_rfl) (by kernel_rfl) ?_
          obtain rfl := Option.some.inj h
          exact ⟨rfl, h27.below⟩
        · skip
          refine RegI.fix 54 false hc33 (by kernel_rfl) (by kernel_rfl) ?_
          refine RegI.pure 5 [6] [(6, .bool false)] (by kernel_rfl) ?_
          refine RegI.done (by kernel_rfl) ?_
          refine RunsI.ret (.bool false) (by kernel_rfl) (by kernel_rfl) ?_
          obtain rfl := Option.some.inj h
          exact ⟨rfl, h27.below⟩
      · skip
        refine RegI.fix 49 false hc32 (by kernel_rfl) (by kernel_rfl) ?_
        refine RegI.pure 10 [6] [(6, .bool false)] (by kernel_rfl) ?_
        refine RegI.done (by kernel_rfl) ?_
        refine RunsI.ret (.bool false) (by kernel_rfl) (by kernel_rfl) ?_
        obtain rfl := Option.some.inj h
        exact ⟨rfl, h27.below⟩
    · skip
      refine RegI.fix 44 false hc31 (by kernel_rfl) (by kernel_rfl) ?_
      refine RegI.pure 15 [6] [(6, .bool false)] (by kernel_rfl) ?_
      refine RegI.done (by kernel_rfl) ?_
      refine RunsI.ret (.bool false) (by kernel_rfl) (by kernel_rfl) ?_
      obtain rfl := Option.some.inj h
      exact ⟨rfl, h27.below⟩
end
end Go.Proofs.YtngcadmhnbpgjaaDoor.Latch
