/- Functions of the program as plain Lean functions, each with the proof that the call comes to it; written by wip/eng.py. -/
import Derived.Test.YtajnhlkkbhobiaaDoorReg2
set_option linter.unusedVariables false
set_option linter.unusedSimpArgs false
set_option maxHeartbeats 4000000
namespace Go.Proofs.YtajnhlkkbhobiaaDoor.Reg
open Go.RowKit Go.Eng
/-! ### charabanc/charabancref11.Pair (function 27) -/
section
def charabancref11_Pair_27.post (M0 : Nat → Prop) (w0 : World) (r : Int) : Ending → World → Prop := fun e w => e = .returned (.int .u16 r) ∧ Below w0.heap.size w0 w
def charabancref11_Pair_27.f (K : Nat) (p0_0 : Int) (p0_1 : Int) (p0_2 : Int) (p0_3 : Int) (p0_4 : Int) (p0_5 : Int) (p0_6 : Int) (p0_7 : Int) (p0_8 : Int) (p0_9 : Int) (p0_10 : Int) (p0_11 : Int) (p0_12 : Int) (p0_13 : Int) (p0_14 : Int) (p0_15 : Bool) (p0_16 : Bool) (p0_17 : Bool) (p0_18 : Bool) (p0_19 : Int) (p1 : Int) (p2 : Int) : Option Int := cond (p2 == 0) (some p0_1) (cond (p2 == 1) (some p0_2) (Let (fun (t9 : Bool) => cond t9 (some p0_8) (Let (fun (t17 : Bool) => cond t17 (some p0_9) (cond (p2 == 2) (some p0_3) (cond (p2 == 3) (some p0_10) (some 0)))) (fun j20 => cond (p2 == 2) (j20 (p1 == 4)) (j20 false)))) (fun j12 => cond (p2 == 2) (j12 (p1 == 3)) (j12 false))))
set_option maxRecDepth 100000 in
theorem charabancref11_Pair_27_ok (K : Nat) (M0 : Nat → Prop) (w0 : World) (p0_0 : Int) (p0_1 : Int) (p0_2 : Int) (p0_3 : Int) (p0_4 : Int) (p0_5 : Int) (p0_6 : Int) (p0_7 : Int) (p0_8 : Int) (p0_9 : Int) (p0_10 : Int) (p0_11 : Int) (p0_12 : Int) (p0_13 : Int) (p0_14 : Int) (p0_15 : Bool) (p0_16 : Bool) (p0_17 : Bool) (p0_18 : Bool) (p0_19 : Int) (p1 : Int) (p2 : Int) (ho : ∀ b, M0 b → b < w0.heap.size) {r : Int} (h : charabancref11_Pair_27.f K p0_0 p0_1 p0_2 p0_3 p0_4 p0_5 p0_6 p0_7 p0_8 p0_9 p0_10 p0_11 p0_12 p0_13 p0_14 p0_15 p0_16 p0_17 p0_18 p0_19 p1 p2 = some r) :
    Calls Tryd.prog 27 #[.agg #[.int .u16 p0_0, .int .u16 p0_1, .int .u16 p0_2, .int .u16 p0_3, .int .u16 p0_4, .int .u16 p0_5, .int .u16 p0_6, .int .u16 p0_7, .int .u16 p0_8, .int .u16 p0_9, .int .u16 p0_10, .int .u16 p0_11, .int .u16 p0_12, .int .u8 p0_13, .int .u8 p0_14, .bool p0_15, .bool p0_16, .bool p0_17, .bool p0_18, .int .i64 p0_19], .int .i64 p1, .int .i64 p2] w0 (charabancref11_Pair_27.post M0 w0 r) := by
  unfold charabancref11_Pair_27.f at h
  have h0 : Holds M0 w0 w0 [] := Holds.start ho
  have h0 : Holds M0 w0 w0 [] := h0
  refine calls_of F27 rfl [.agg #[.int .u16 p0_0, .int .u16 p0_1, .int .u16 p0_2, .int .u16 p0_3, .int .u16 p0_4, .int .u16 p0_5, .int .u16 p0_6, .int .u16 p0_7, .int .u16 p0_8, .int .u16 p0_9, .int .u16 p0_10, .int .u16 p0_11, .int .u16 p0_12, .int .u8 p0_13, .int .u8 p0_14, .bool p0_15, .bool p0_16, .bool p0_17, .bool p0_18, .int .i64 p0_19], .int .i64 p1, .int .i64 p2] (by kernel_rfl) ?_
  refine RunsI.go 1 [.c 1, .c 2] (by kernel_rfl) ?_
  refine RunsI.region (by kernel_rfl) ?_
  refine RegI.op (by kernel_rfl) (OpE.box 3 46 [.int .u16 p0_0, .int .u16 p0_1, .int .u16 p0_2, .int .u16 p0_3, .int .u16 p0_4, .int .u16 p0_5, .int .u16 p0_6, .int .u16 p0_7, .int .u16 p0_8, .int .u16 p0_9, .int .u16 p0_10, .int .u16 p0_11, .int .u16 p0_12, .int .u8 p0_13, .int .u8 p0_14, .bool p0_15, .bool p0_16, .bool p0_17, .bool p0_18, .int .i64 p0_19] h0 (by kernel_rfl) (by kernel_rfl) ?_)
  intro w1 b2 h3 hb4 hn5
  refine RegI.pure 1 [1, 2, 3] [(1, .int .i64 p1), (2, .int .i64 p2), (3, .pointer (some ⟨b2, 0, none⟩))] (by kernel_rfl) ?_
  refine RegI.done (by kernel_rfl) ?_
  refine RunsI.go 3 [.c 5, .c 6, .blk 0, .c 41] (by kernel_rfl) ?_
  refine RunsI.region (by kernel_rfl) ?_
  refine RegI.pure 3 [1, 2, 3, 7] [(1, .int .i64 p1), (2, .int .i64 p2), (3, .pointer (some ⟨b2, 0, none⟩)), (7, .bool (p2 == 0))] (by kernel_rfl) ?_
  refine RegI.done (by kernel_rfl) ?_
  rcases of_cond h with ⟨hc6, h⟩ | ⟨hc6, h⟩
  · skip
    refine RunsI.fix 7 true hc6 (by kernel_rfl) (by kernel_rfl) ?_
    refine RunsI.cond true 7 (by kernel_rfl) ?_
    refine RunsI.go 1 [.c 8, .c 9, .blk 0, .c 41] (by kernel_rfl) ?_
    refine RunsI.region (by kernel_rfl) ?_
    refine RegI.pure 1 [10] [(10, .pointer (some ⟨b2, 1, none⟩))] (by kernel_rfl) ?_
    refine RegI.op (by kernel_rfl) (OpE.loadBox 11 0 22 b2 1 (.int .u16 p0_1) h3 (by kernel_rfl) (by kernel_rfl) rfl (by kernel_rfl) ?_)
    refine RegI.pure 1 [6] [(6, .int .u16 p0_1)] (by kernel_rfl) ?_
    refine RegI.done (by kernel_rfl) ?_
    refine RunsI.ret (.int .u16 p0_1) (by kernel_rfl) (by kernel_rfl) ?_
    obtain rfl := Option.some.inj h
    exact ⟨rfl, h3.below⟩
  · skip
    refine RunsI.fix 7 false hc6 (by kernel_rfl) (by kernel_rfl) ?_
    refine RunsI.cond false 10 (by kernel_rfl) ?_
    refine RunsI.go 1 [.c 11, .c 12, .blk 0, .c 41] (by kernel_rfl) ?_
    refine RunsI.region (by kernel_rfl) ?_
    refine RegI.pure 3 [1, 2, 3, 12] [(1, .int .i64 p1), (2, .int .i64 p2), (3, .pointer (some ⟨b2, 0, none⟩)), (12, .bool (p2 == 1))] (by kernel_rfl) ?_
    refine RegI.done (by kernel_rfl) ?_
    rcases of_cond h with ⟨hc7, h⟩ | ⟨hc7, h⟩
    · skip
      refine RunsI.fix 12 true hc7 (by kernel_rfl) (by kernel_rfl) ?_
      refine RunsI.cond true 13 (by kernel_rfl) ?_
      refine RunsI.go 1 [.c 14, .c 15, .blk 0, .c 41] (by kernel_rfl) ?_
      refine RunsI.region (by kernel_rfl) ?_
      refine RegI.pure 1 [15] [(15, .pointer (some ⟨b2, 2, none⟩))] (by kernel_rfl) ?_
      refine RegI.op (by kernel_rfl) (OpE.loadBox 16 0 22 b2 2 (.int .u16 p0_2) h3 (by kernel_rfl) (by kernel_rfl) rfl (by kernel_rfl) ?_)
      refine RegI.pure 1 [6] [(6, .int .u16 p0_2)] (by kernel_rfl) ?_
      refine RegI.done (by kernel_rfl) ?_
      refine RunsI.ret (.int .u16 p0_2) (by kernel_rfl) (by kernel_rfl) ?_
      obtain rfl := Option.some.inj h
      exact ⟨rfl, h3.below⟩
    · skip
      refine RunsI.fix 12 false hc7 (by kernel_rfl) (by kernel_rfl) ?_
      refine RunsI.cond false 16 (by kernel_rfl) ?_
      refine RunsI.go 1 [.c 17, .c 18, .blk 0, .c 41] (by kernel_rfl) ?_
      refine RunsI.region (by kernel_rfl) ?_
      refine RegI.pure 3 [1, 2, 3, 20] [(1, .int .i64 p1), (2, .int .i64 p2), (3, .pointer (some ⟨b2, 0, none⟩)), (20, .bool (p2 == 2))] (by kernel_rfl) ?_
      obtain ⟨j12, hJ13, h⟩ := of_let h
      have hj14 : ∀ (t9 : Bool) (w11 : World), j12 t9 = some r → Holds M0 w0 w11 [box b2 46 [.int .u16 p0_0, .int .u16 p0_1, .int .u16 p0_2, .int .u16 p0_3, .int .u16 p0_4, .int .u16 p0_5, .int .u16 p0_6, .int .u16 p0_7, .int .u16 p0_8, .int .u16 p0_9, .int .u16 p0_10, .int .u16 p0_11, .int .u16 p0_12, .int .u8 p0_13, .int .u8 p0_14, .bool p0_15, .bool p0_16, .bool p0_17, .bool p0_18, .int .i64 p0_19]] → RegI F27 17 [.c 18, .blk 0, .c 41] 7 [(1, .int .i64 p1), (2, .int .i64 p2), (3, .pointer (some ⟨b2, 0, none⟩)), (17, .bool t9)] w11 (charabancref11_Pair_27.post M0 w0 r) := by
        intro t9 w11 h h10
        rw [hJ13] at h
        clear hJ13
        dsimp only at h
        refine RegI.done (by kernel_rfl) ?_
        rcases of_cond h with ⟨hc15, h⟩ | ⟨hc15, h⟩
        · skip
          refine RunsI.fix 17 true hc15 (by kernel_rfl) (by kernel_rfl) ?_
          refine RunsI.cond true 19 (by kernel_rfl) ?_
          refine RunsI.go 1 [.c 20, .c 21, .blk 0, .c 41] (by kernel_rfl) ?_
          refine RunsI.region (by kernel_rfl) ?_
          refine RegI.pure 1 [24] [(24, .pointer (some ⟨b2, 8, none⟩))] (by kernel_rfl) ?_
          refine RegI.op (by kernel_rfl) (OpE.loadBox 25 0 22 b2 8 (.int .u16 p0_8) h10 (by kernel_rfl) (by kernel_rfl) rfl (by kernel_rfl) ?_)
          refine RegI.pure 1 [6] [(6, .int .u16 p0_8)] (by kernel_rfl) ?_
          refine RegI.done (by kernel_rfl) ?_
          refine RunsI.ret (.int .u16 p0_8) (by kernel_rfl) (by kernel_rfl) ?_
          obtain rfl := Option.some.inj h
          exact ⟨rfl, h10.below⟩
        · skip
          refine RunsI.fix 17 false hc15 (by kernel_rfl) (by kernel_rfl) ?_
          refine RunsI.cond false 22 (by kernel_rfl) ?_
          refine RunsI.go 1 [.c 23, .c 24, .blk 0, .c 41] (by kernel_rfl) ?_
          refine RunsI.region (by kernel_rfl) ?_
          refine RegI.pure 3 [1, 2, 3, 29] [(1, .int .i64 p1), (2, .int .i64 p2), (3, .pointer (some ⟨b2, 0, none⟩)), (29, .bool (p2 == 2))] (by kernel_rfl) ?_
          obtain ⟨j20, hJ21, h⟩ := of_let h
          have hj22 : ∀ (t17 : Bool) (w19 : World), j20 t17 = some r → Holds M0 w0 w19 [box b2 46 [.int .u16 p0_0, .int .u16 p0_1, .int .u16 p0_2, .int .u16 p0_3, .int .u16 p0_4, .int .u16 p0_5, .int .u16 p0_6, .int .u16 p0_7, .int .u16 p0_8, .int .u16 p0_9, .int .u16 p0_10, .int .u16 p0_11, .int .u16 p0_12, .int .u8 p0_13, .int .u8 p0_14, .bool p0_15, .bool p0_16, .bool p0_17, .bool p0_18, .int .i64 p0_19]] → RegI F27 23 [.c 24, .blk 0, .c 41] 7 [(2, .int .i64 p2), (3, .pointer (some ⟨b2, 0, none⟩)), (26, .bool t17)] w19 (charabancref11_Pair_27.post M0 w0 r) := by
            intro t17 w19 h h18
            rw [hJ21] at h
            clear hJ21
            dsimp only at h
            refine RegI.done (by kernel_rfl) ?_
            rcases of_cond h with ⟨hc23, h⟩ | ⟨hc23, h⟩
            · skip
              refine RunsI.fix 26 true hc23 (by kernel_rfl) (by kernel_rfl) ?_
              refine RunsI.cond true 25 (by kernel_rfl) ?_
              refine RunsI.go 1 [.c 26, .c 27, .blk 0, .c 41] (by kernel_rfl) ?_
              refine RunsI.region (by kernel_rfl) ?_
              refine RegI.pure 1 [33] [(33, .pointer (some ⟨b2, 9, none⟩))] (by kernel_rfl) ?_
              refine RegI.op (by kernel_rfl) (OpE.loadBox 34 0 22 b2 9 (.int .u16 p0_9) h18 (by kernel_rfl) (by kernel_rfl) rfl (by kernel_rfl) ?_)
              refine RegI.pure 1 [6] [(6, .int .u16 p0_9)] (by kernel_rfl) ?_
              refine RegI.done (by kernel_rfl) ?_
              refine RunsI.ret (.int .u16 p0_9) (by kernel_rfl) (by kernel_rfl) ?_
              obtain rfl := Option.some.inj h
              exact ⟨rfl, h18.below⟩
            · skip
              refine RunsI.fix 26 false hc23 (by kernel_rfl) (by kernel_rfl) ?_
              refine RunsI.cond false 28 (by kernel_rfl) ?_
              refine RunsI.go 1 [.c 29, .c 30, .blk 0, .c 41] (by kernel_rfl) ?_
              refine RunsI.region (by kernel_rfl) ?_
              refine RegI.pure 3 [2, 3, 35] [(2, .int .i64 p2), (3, .pointer (some ⟨b2, 0, none⟩)), (35, .bool (p2 == 2))] (by kernel_rfl) ?_
              refine RegI.done (by kernel_rfl) ?_
              rcases of_cond h with ⟨hc24, h⟩ | ⟨hc24, h⟩
              · skip
                refine RunsI.fix 35 true hc24 (by kernel_rfl) (by kernel_rfl) ?_
                refine RunsI.cond true 31 (by kernel_rfl) ?_
                refine RunsI.go 1 [.c 32, .c 33, .blk 0, .c 41] (by kernel_rfl) ?_
                refine RunsI.region (by kernel_rfl) ?_
                refine RegI.pure 1 [38] [(38, .pointer (some ⟨b2, 3, none⟩))] (by kernel_rfl) ?_
                refine RegI.op (by kernel_rfl) (OpE.loadBox 39 0 22 b2 3 (.int .u16 p0_3) h18 (by kernel_rfl) (by kernel_rfl) rfl (by kernel_rfl) ?_)
                refine RegI.pure 1 [6] [(6, .int .u16 p0_3)] (by kernel_rfl) ?_
                refine RegI.done (by kernel_rfl) ?_
                refine RunsI.ret (.int .u16 p0_3) (by kernel_rfl) (by kernel_rfl) ?_
                obtain rfl := Option.some.inj h
                exact ⟨rfl, h18.below⟩
              · skip
                refine RunsI.fix 35 false hc24 (by kernel_rfl) (by kernel_rfl) ?_
                refine RunsI.cond false 34 (by kernel_rfl) ?_
                refine RunsI.go 1 [.c 35, .c 36, .blk 0, .c 41] (by kernel_rfl) ?_
                refine RunsI.region (by kernel_rfl) ?_
                refine RegI.pure 3 [3, 40] [(3, .pointer (some ⟨b2, 0, none⟩)), (40, .bool (p2 == 3))] (by kernel_rfl) ?_
                refine RegI.done (by kernel_rfl) ?_
                rcases of_cond h with ⟨hc25, h⟩ | ⟨hc25, h⟩
                · skip
                  refine RunsI.fix 40 true hc25 (by kernel_rfl) (by kernel_rfl) ?_
                  refine RunsI.cond true 37 (by kernel_rfl) ?_
                  refine RunsI.go 1 [.c 38, .c 39, .blk 0, .c 41] (by kernel_rfl) ?_
                  refine RunsI.region (by kernel_rfl) ?_
                  refine RegI.pure 1 [43] [(43, .pointer (some ⟨b2, 10, none⟩))] (by kernel_rfl) ?_
                  refine RegI.op (by kernel_rfl) (OpE.loadBox 44 0 22 b2 10 (.int .u16 p0_10) h18 (by kernel_rfl) (by kernel_rfl) rfl (by kernel_rfl) ?_)
                  refine RegI.pure 1 [6] [(6, .int .u16 p0_10)] (by kernel_rfl) ?_
                  refine RegI.done (by kernel_rfl) ?_
                  refine RunsI.ret (.int .u16 p0_10) (by kernel_rfl) (by kernel_rfl) ?_
                  obtain rfl := Option.some.inj h
                  exact ⟨rfl, h18.below⟩
                · skip
                  refine RunsI.fix 40 false hc25 (by kernel_rfl) (by kernel_rfl) ?_
                  refine RunsI.cond false 40 (by kernel_rfl) ?_
                  refine RunsI.go 1 [.blk 0, .c 41] (by kernel_rfl) ?_
                  refine RunsI.go 2 [.c 42, .c 43] (by kernel_rfl) ?_
                  refine RunsI.region (by kernel_rfl) ?_
                  refine RegI.pure 1 [6] [(6, .int .u16 0)] (by kernel_rfl) ?_
                  refine RegI.done (by kernel_rfl) ?_
                  refine RunsI.ret (.int .u16 0) (by kernel_rfl) (by kernel_rfl) ?_
                  obtain rfl := Option.some.inj h
                  exact ⟨rfl, h18.below⟩
          clear hJ21
          rcases of_cond h with ⟨hc16, h⟩ | ⟨hc16, h⟩
          · skip
            refine RegI.fix 29 true hc16 (by kernel_rfl) (by kernel_rfl) ?_
            refine RegI.pure 4 [2, 3, 26] [(2, .int .i64 p2), (3, .pointer (some ⟨b2, 0, none⟩)), (26, .bool (p1 == 4))] (by kernel_rfl) ?_
            refine RegI.only [2, 3, 26] [(2, .int .i64 p2), (3, .pointer (some ⟨b2, 0, none⟩)), (26, .bool (p1 == 4))] (by kernel_rfl) (by kernel_rfl) ?_
            exact hj22 (p1 == 4) w11 h (h10.pick [0] (by decide))
          · skip
            refine RegI.fix 29 false hc16 (by kernel_rfl) (by kernel_rfl) ?_
            refine RegI.pure 4 [2, 3, 26] [(2, .int .i64 p2), (3, .pointer (some ⟨b2, 0, none⟩)), (26, .bool false)] (by kernel_rfl) ?_
            refine RegI.only [2, 3, 26] [(2, .int .i64 p2), (3, .pointer (some ⟨b2, 0, none⟩)), (26, .bool false)] (by kernel_rfl) (by kernel_rfl) ?_
            exact hj22 false w11 h (h10.pick [0] (by decide))
      clear hJ13
      rcases of_cond h with ⟨hc8, h⟩ | ⟨hc8, h⟩
      · skip
        refine RegI.fix 20 true hc8 (by kernel_rfl) (by kernel_rfl) ?_
        refine RegI.pure 4 [1, 2, 3, 17] [(1, .int .i64 p1), (2, .int .i64 p2), (3, .pointer (some ⟨b2, 0, none⟩)), (17, .bool (p1 == 3))] (by kernel_rfl) ?_
        refine RegI.only [1, 2, 3, 17] [(1, .int .i64 p1), (2, .int .i64 p2), (3, .pointer (some ⟨b2, 0, none⟩)), (17, .bool (p1 == 3))] (by kernel_rfl) (by kernel_rfl) ?_
        exact hj14 (p1 == 3) w1 h (h3.pick [0] (by decide))
      · skip
        refine RegI.fix 20 false hc8 (by kernel_rfl) (by kernel_rfl) ?_
        refine RegI.pure 4 [1, 2, 3, 17] [(1, .int .i64 p1), (2, .int .i64 p2), (3, .pointer (some ⟨b2, 0, none⟩)), (17, .bool false)] (by kernel_rfl) ?_
        refine RegI.only [1, 2, 3, 17] [(1, .int .i64 p1), (2, .int .i64 p2), (3, .pointer (some ⟨b2, 0, none⟩)), (17, .bool false)] (by kernel_rfl) (by kernel_rfl) ?_
        exact hj14 false w1 h (h3.pick [0] (by decide))
end

/-! ### charabanc/charabancref01.Hi (function 47) -/
section
def charabancref01_Hi_47.post (M0 : Nat → Prop) (w0 : World) (r : Int) : Ending → World → Prop := fun e w => e = .returned (.int .u8 r) ∧ Below w0.heap.size w0 w
def charabancref01_Hi_47.f (K : Nat) (p0 : Int) : Option Int := some (IntKind.wrap .u8 (IntKind.wrap .i64 (Int.tdiv (IntKind.wrap .i64 p0) 256)))
set_option maxRecDepth 100000 in
theorem charabancref01_Hi_47_ok (K : Nat) (M0 : Nat → Prop) (w0 : World) (p0 : Int) (ho : ∀ b, M0 b → b < w0.heap.size) {r : Int} (h : charabancref01_Hi_47.f K p0 = some r) :
    Calls Tryd.prog 47 #[.int .u16 p0] w0 (charabancref01_Hi_47.post M0 w0 r) := by
  unfold charabancref01_Hi_47.f at h
  have h0 : Holds M0 w0 w0 [] := Holds.start ho
  have h0 : Holds M0 w0 w0 [] := h0
  refine calls_of F47 rfl [.int .u16 p0] (by kernel_rfl) ?_
  refine RunsI.go 1 [.c 1, .c 2] (by kernel_rfl) ?_
  refine RunsI.region (by kernel_rfl) ?_
  refine RegI.pure 1 [0] [(0, .int .u16 p0)] (by kernel_rfl) ?_
  refine RegI.done (by kernel_rfl) ?_
  refine RunsI.go 1 [.c 3, .c 4] (by kernel_rfl) ?_
  refine RunsI.region (by kernel_rfl) ?_
  refine RegI.pure 5 [2] [(2, .int .u8 (IntKind.wrap .u8 (IntKind.wrap .i64 (Int.tdiv (IntKind.wrap .i64 p0) 256))))] (by kernel_rfl) ?_
  refine RegI.done (by kernel_rfl) ?_
  refine RunsI.ret (.int .u8 (IntKind.wrap .u8 (IntKind.wrap .i64 (Int.tdiv (IntKind.wrap .i64 p0) 256)))) (by kernel_rfl) (by kernel_rfl) ?_
  obtain rfl := Option.some.inj h
  exact ⟨rfl, h0.below⟩
end

/-! ### charabanc/charabancref01.Lo (function 48) -/
section
def charabancref01_Lo_48.post (M0 : Nat → Prop) (w0 : World) (r : Int) : Ending → World → Prop := fun e w => e = .returned (.int .u8 r) ∧ Below w0.heap.size w0 w
def charabancref01_Lo_48.f (K : Nat) (p0 : Int) : Option Int := some (IntKind.wrap .u8 (Int.tmod (IntKind.wrap .i64 p0) 256))
set_option maxRecDepth 100000 in
theorem charabancref01_Lo_48_ok (K : Nat) (M0 : Nat → Prop) (w0 : World) (p0 : Int) (ho : ∀ b, M0 b → b < w0.heap.size) {r : Int} (h : charabancref01_Lo_48.f K p0 = some r) :
    Calls Tryd.prog 48 #[.int .u16 p0] w0 (charabancref01_Lo_48.post M0 w0 r) := by
  unfold charabancref01_Lo_48.f at h
  have h0 : Holds M0 w0 w0 [] := Holds.start ho
  have h0 : Holds M0 w0 w0 [] := h0
  refine calls_of F48 rfl [.int .u16 p0] (by kernel_rfl) ?_
  refine RunsI.go 1 [.c 1, .c 2] (by kernel_rfl) ?_
  refine RunsI.region (by kernel_rfl) ?_
  refine RegI.pure 1 [0] [(0, .int .u16 p0)] (by kernel_rfl) ?_
  refine RegI.done (by kernel_rfl) ?_
  refine RunsI.go 1 [.c 3, .c 4] (by kernel_rfl) ?_
  refine RunsI.region (by kernel_rfl) ?_
  refine RegI.pure 5 [2] [(2, .int .u8 (IntKind.wrap .u8 (Int.tmod (IntKind.wrap .i64 p0) 256)))] (by kernel_rfl) ?_
  refine RegI.done (by kernel_rfl) ?_
  refine RunsI.ret (.int .u8 (IntKind.wrap .u8 (Int.tmod (IntKind.wrap .i64 p0) 256))) (by kernel_rfl) (by kernel_rfl) ?_
  obtain rfl := Option.some.inj h
  exact ⟨rfl, h0.below⟩
end

/-! ### charabanc/charabancref11.Get (function 25) -/
section
def charabancref11_Get_25.post (M0 : Nat → Prop) (w0 : World) (r : Int) : Ending → World → Prop := fun e w => e = .returned (.int .u8 r) ∧ Below w0.heap.size w0 w
def charabancref11_Get_25.f (K : Nat) (p0_0 : Int) (p0_1 : Int) (p0_2 : Int) (p0_3 : Int) (p0_4 : Int) (p0_5 : Int) (p0_6 : Int) (p0_7 : Int) (p0_8 : Int) (p0_9 : Int) (p0_10 : Int) (p0_11 : Int) (p0_12 : Int) (p0_13 : Int) (p0_14 : Int) (p0_15 : Bool) (p0_16 : Bool) (p0_17 : Bool) (p0_18 : Bool) (p0_19 : Int) (p1 : Int) (p2 : Int) : Option Int := cond (p2 == 7) ((charabancref01_Hi_47.f K p0_0).bind fun t11 => some t11) (Let (fun (t13 : Bool) => cond t13 (some 0) ((charabancref11_Pair_27.f K p0_0 p0_1 p0_2 p0_3 p0_4 p0_5 p0_6 p0_7 p0_8 p0_9 p0_10 p0_11 p0_12 p0_13 p0_14 p0_15 p0_16 p0_17 p0_18 p0_19 p1 (IntKind.wrap .i64 (Int.tdiv p2 2))).bind fun t24 => cond ((Int.tmod p2 2) == 0) ((charabancref01_Hi_47.f K t24).bind fun t30 => some t30) ((charabancref01_Lo_48.f K t24).bind fun t35 => some t35))) (fun j16 => cond (decide (p2 < 0)) (j16 true) (j16 (decide (p2 > 5)))))
set_option maxRecDepth 100000 in
theorem charabancref11_Get_25_ok (K : Nat) (M0 : Nat → Prop) (w0 : World) (p0_0 : Int) (p0_1 : Int) (p0_2 : Int) (p0_3 : Int) (p0_4 : Int) (p0_5 : Int) (p0_6 : Int) (p0_7 : Int) (p0_8 : Int) (p0_9 : Int) (p0_10 : Int) (p0_11 : Int) (p0_12 : Int) (p0_13 : Int) (p0_14 : Int) (p0_15 : Bool) (p0_16 : Bool) (p0_17 : Bool) (p0_18 : Bool) (p0_19 : Int) (p1 : Int) (p2 : Int) (ho : ∀ b, M0 b → b < w0.heap.size) {r : Int} (h : charabancref11_Get_25.f K p0_0 p0_1 p0_2 p0_3 p0_4 p0_5 p0_6 p0_7 p0_8 p0_9 p0_10 p0_11 p0_12 p0_13 p0_14 p0_15 p0_16 p0_17 p0_18 p0_19 p1 p2 = some r) :
    Calls Tryd.prog 25 #[.agg #[.int .u16 p0_0, .int .u16 p0_1, .int .u16 p0_2, .int .u16 p0_3, .int .u16 p0_4, .int .u16 p0_5, .int .u16 p0_6, .int .u16 p0_7, .int .u16 p0_8, .int .u16 p0_9, .int .u16 p0_10, .int .u16 p0_11, .int .u16 p0_12, .int .u8 p0_13, .int .u8 p0_14, .bool p0_15, .bool p0_16, .bool p0_17, .bool p0_18, .int .i64 p0_19], .int .i64 p1, .int .i64 p2] w0 (charabancref11_Get_25.post M0 w0 r) := by
  unfold charabancref11_Get_25.f at h
  have h0 : Holds M0 w0 w0 [] := Holds.start ho
  have h0 : Holds M0 w0 w0 [] := h0
  refine calls_of F25 rfl [.agg #[.int .u16 p0_0, .int .u16 p0_1, .int .u16 p0_2, .int .u16 p0_3, .int .u16 p0_4, .int .u16 p0_5, .int .u16 p0_6, .int .u16 p0_7, .int .u16 p0_8, .int .u16 p0_9, .int .u16 p0_10, .int .u16 p0_11, .int .u16 p0_12, .int .u8 p0_13, .int .u8 p0_14, .bool p0_15, .bool p0_16, .bool p0_17, .bool p0_18, .int .i64 p0_19], .int .i64 p1, .int .i64 p2] (by kernel_rfl) ?_
  refine RunsI.go 1 [.c 1, .c 2] (by kernel_rfl) ?_
  refine RunsI.region (by kernel_rfl) ?_
  refine RegI.op (by kernel_rfl) (OpE.box 3 46 [.int .u16 p0_0, .int .u16 p0_1, .int .u16 p0_2, .int .u16 p0_3, .int .u16 p0_4, .int .u16 p0_5, .int .u16 p0_6, .int .u16 p0_7, .int .u16 p0_8, .int .u16 p0_9, .int .u16 p0_10, .int .u16 p0_11, .int .u16 p0_12, .int .u8 p0_13, .int .u8 p0_14, .bool p0_15, .bool p0_16, .bool p0_17, .bool p0_18, .int .i64 p0_19] h0 (by kernel_rfl) (by kernel_rfl) ?_)
  intro w1 b2 h3 hb4 hn5
  refine RegI.pure 1 [1, 2, 3] [(1, .int .i64 p1), (2, .int .i64 p2), (3, .pointer (some ⟨b2, 0, none⟩))] (by kernel_rfl) ?_
  refine RegI.done (by kernel_rfl) ?_
  refine RunsI.go 2 [.c 4, .c 5, .c 10] (by kernel_rfl) ?_
  refine RunsI.region (by kernel_rfl) ?_
  refine RegI.pure 2 [1, 2, 3, 9] [(1, .int .i64 p1), (2, .int .i64 p2), (3, .pointer (some ⟨b2, 0, none⟩)), (9, .bool (p2 == 7))] (by kernel_rfl) ?_
  refine RegI.done (by kernel_rfl) ?_
  rcases of_cond h with ⟨hc6, h⟩ | ⟨hc6, h⟩
  · skip
    refine RunsI.fix 9 true hc6 (by kernel_rfl) (by kernel_rfl) ?_
    refine RunsI.cond true 6 (by kernel_rfl) ?_
    refine RunsI.go 1 [.c 7, .c 8, .c 10] (by kernel_rfl) ?_
    refine RunsI.region (by kernel_rfl) ?_
    refine RegI.pure 1 [10] [(10, .pointer (some ⟨b2, 0, none⟩))] (by kernel_rfl) ?_
    refine RegI.op (by kernel_rfl) (OpE.loadBox 11 0 22 b2 0 (.int .u16 p0_0) h3 (by kernel_rfl) (by kernel_rfl) rfl (by kernel_rfl) ?_)
    obtain ⟨t11, hg10, h⟩ := of_bind h
    refine RegI.op (by kernel_rfl) (OpE.call 12 (by kernel_rfl) 47 #[.int .u16 p0_0] (by kernel_rfl) ((charabancref01_Hi_47_ok K _ w1  p0_0 h3.old' hg10).mono ?_))
    rintro _ w7 ⟨rfl, hb8⟩
    refine ⟨_, rfl, ?_⟩
    have h9 := h3.call hb8
    refine RegI.pure 1 [6] [(6, .int .u8 t11)] (by kernel_rfl) ?_
    refine RegI.done (by kernel_rfl) ?_
    refine RunsI.ret (.int .u8 t11) (by kernel_rfl) (by kernel_rfl) ?_
    obtain rfl := Option.some.inj h
    exact ⟨rfl, h9.below⟩
  · skip
    refine RunsI.fix 9 false hc6 (by kernel_rfl) (by kernel_rfl) ?_
    refine RunsI.cond false 9 (by kernel_rfl) ?_
    refine RunsI.go 1 [.c 10] (by kernel_rfl) ?_
    refine RunsI.go 2 [.c 12, .c 13, .c 18] (by kernel_rfl) ?_
    refine RunsI.region (by kernel_rfl) ?_
    refine RegI.pure 3 [1, 2, 3, 15] [(1, .int .i64 p1), (2, .int .i64 p2), (3, .pointer (some ⟨b2, 0, none⟩)), (15, .bool (decide (p2 < 0)))] (by kernel_rfl) ?_
    obtain ⟨j16, hJ17, h⟩ := of_let h
    have hj18 : ∀ (t13 : Bool) (w15 : World), j16 t13 = some r → Holds M0 w0 w15 [box b2 46 [.int .u16 p0_0, .int .u16 p0_1, .int .u16 p0_2, .int .u16 p0_3, .int .u16 p0_4, .int .u16 p0_5, .int .u16 p0_6, .int .u16 p0_7, .int .u16 p0_8, .int .u16 p0_9, .int .u16 p0_10, .int .u16 p0_11, .int .u16 p0_12, .int .u8 p0_13, .int .u8 p0_14, .bool p0_15, .bool p0_16, .bool p0_17, .bool p0_18, .int .i64 p0_19]] → RegI F25 12 [.c 13, .c 18] 6 [(1, .int .i64 p1), (2, .int .i64 p2), (3, .pointer (some ⟨b2, 0, none⟩)), (18, .bool t13)] w15 (charabancref11_Get_25.post M0 w0 r) := by
      intro t13 w15 h h14
      rw [hJ17] at h
      clear hJ17
      dsimp only at h
      refine RegI.done (by kernel_rfl) ?_
      rcases of_cond h with ⟨hc19, h⟩ | ⟨hc19, h⟩
      · skip
        refine RunsI.fix 18 true hc19 (by kernel_rfl) (by kernel_rfl) ?_
        refine RunsI.cond true 14 (by kernel_rfl) ?_
        refine RunsI.go 1 [.c 15, .c 16, .c 18] (by kernel_rfl) ?_
        refine RunsI.region (by kernel_rfl) ?_
        refine RegI.pure 1 [6] [(6, .int .u8 0)] (by kernel_rfl) ?_
        refine RegI.done (by kernel_rfl) ?_
        refine RunsI.ret (.int .u8 0) (by kernel_rfl) (by kernel_rfl) ?_
        obtain rfl := Option.some.inj h
        exact ⟨rfl, h14.below⟩
      · skip
        refine RunsI.fix 18 false hc19 (by kernel_rfl) (by kernel_rfl) ?_
        refine RunsI.cond false 17 (by kernel_rfl) ?_
        refine RunsI.go 1 [.c 18] (by kernel_rfl) ?_
        refine RunsI.go 1 [.c 19, .c 20] (by kernel_rfl) ?_
        refine RunsI.region (by kernel_rfl) ?_
        refine RegI.op (by kernel_rfl) (OpE.loadBox 19 0 46 b2 0 (.agg #[.int .u16 p0_0, .int .u16 p0_1, .int .u16 p0_2, .int .u16 p0_3, .int .u16 p0_4, .int .u16 p0_5, .int .u16 p0_6, .int .u16 p0_7, .int .u16 p0_8, .int .u16 p0_9, .int .u16 p0_10, .int .u16 p0_11, .int .u16 p0_12, .int .u8 p0_13, .int .u8 p0_14, .bool p0_15, .bool p0_16, .bool p0_17, .bool p0_18, .int .i64 p0_19]) h14 (by kernel_rfl) (by kernel_rfl) rfl (by kernel_rfl) ?_)
        refine RegI.pure 3 [2, 19, 20, 22] [(2, .int .i64 p2), (19, .agg #[.int .u16 p0_0, .int .u16 p0_1, .int .u16 p0_2, .int .u16 p0_3, .int .u16 p0_4, .int .u16 p0_5, .int .u16 p0_6, .int .u16 p0_7, .int .u16 p0_8, .int .u16 p0_9, .int .u16 p0_10, .int .u16 p0_11, .int .u16 p0_12, .int .u8 p0_13, .int .u8 p0_14, .bool p0_15, .bool p0_16, .bool p0_17, .bool p0_18, .int .i64 p0_19]), (20, .int .i64 p1), (22, .int .i64 (IntKind.wrap .i64 (Int.tdiv p2 2)))] (by kernel_rfl) ?_
        obtain ⟨t24, hg23, h⟩ := of_bind h
        refine RegI.op (by kernel_rfl) (OpE.call 23 (by kernel_rfl) 27 #[.agg #[.int .u16 p0_0, .int .u16 p0_1, .int .u16 p0_2, .int .u16 p0_3, .int .u16 p0_4, .int .u16 p0_5, .int .u16 p0_6, .int .u16 p0_7, .int .u16 p0_8, .int .u16 p0_9, .int .u16 p0_10, .int .u16 p0_11, .int .u16 p0_12, .int .u8 p0_13, .int .u8 p0_14, .bool p0_15, .bool p0_16, .bool p0_17, .bool p0_18, .int .i64 p0_19], .int .i64 p1, .int .i64 (IntKind.wrap .i64 (Int.tdiv p2 2))] (by kernel_rfl) ((charabancref11_Pair_27_ok K _ w15  p0_0 p0_1 p0_2 p0_3 p0_4 p0_5 p0_6 p0_7 p0_8 p0_9 p0_10 p0_11 p0_12 p0_13 p0_14 p0_15 p0_16 p0_17 p0_18 p0_19 p1 (IntKind.wrap .i64 (Int.tdiv p2 2)) h14.old' hg23).mono ?_))
        rintro _ w20 ⟨rfl, hb21⟩
        refine ⟨_, rfl, ?_⟩
        have h22 := h14.call hb21
        refine RegI.pure 1 [2, 7] [(2, .int .i64 p2), (7, .int .u16 t24)] (by kernel_rfl) ?_
        refine RegI.done (by kernel_rfl) ?_
        refine RunsI.go 2 [.c 22, .c 23, .c 28] (by kernel_rfl) ?_
        refine RunsI.region (by kernel_rfl) ?_
        refine RegI.pure 3 [7, 26] [(7, .int .u16 t24), (26, .bool ((Int.tmod p2 2) == 0))] (by kernel_rfl) ?_
        refine RegI.done (by kernel_rfl) ?_
        rcases of_cond h with ⟨hc25, h⟩ | ⟨hc25, h⟩
        · skip
          refine RunsI.fix 26 true hc25 (by kernel_rfl) (by kernel_rfl) ?_
          refine RunsI.cond true 24 (by kernel_rfl) ?_
          refine RunsI.go 1 [.c 25, .c 26, .c 28] (by kernel_rfl) ?_
          refine RunsI.region (by kernel_rfl) ?_
          refine RegI.pure 1 [27] [(27, .int .u16 t24)] (by kernel_rfl) ?_
          obtain ⟨t30, hg29, h⟩ := of_bind h
          refine RegI.op (by kernel_rfl) (OpE.call 28 (by kernel_rfl) 47 #[.int .u16 t24] (by kernel_rfl) ((charabancref01_Hi_47_ok K _ w20  t24 h22.old' hg29).mono ?_))
          rintro _ w26 ⟨rfl, hb27⟩
          refine ⟨_, rfl, ?_⟩
          have h28 := h22.call hb27
          refine RegI.pure 1 [6] [(6, .int .u8 t30)] (by kernel_rfl) ?_
          refine RegI.done (by kernel_rfl) ?_
          refine RunsI.ret (.int .u8 t30) (by kernel_rfl) (by kernel_rfl) ?_
          obtain rfl := Option.some.inj h
          exact ⟨rfl, h28.below⟩
        · skip
          refine RunsI.fix 26 false hc25 (by kernel_rfl) (by kernel_rfl) ?_
          refine RunsI.cond false 27 (by kernel_rfl) ?_
          refine RunsI.go 1 [.c 28] (by kernel_rfl) ?_
          refine RunsI.go 1 [.c 29, .c 30] (by kernel_rfl) ?_
          refine RunsI.region (by kernel_rfl) ?_
          refine RegI.pure 1 [29] [(29, .int .u16 t24)] (by kernel_rfl) ?_
          obtain ⟨t35, hg34, h⟩ := of_bind h
          refine RegI.op (by kernel_rfl) (OpE.call 30 (by kernel_rfl) 48 #[.int .u16 t24] (by kernel_rfl) ((charabancref01_Lo_48_ok K _ w20  t24 h22.old' hg34).mono ?_))
          rintro _ w31 ⟨rfl, hb32⟩
          refine ⟨_, rfl, ?_⟩
          have h33 := h22.call hb32
          refine RegI.pure 1 [6] [(6, .int .u8 t35)] (by kernel_rfl) ?_
          refine RegI.done (by kernel_rfl) ?_
          refine RunsI.ret (.int .u8 t35) (by kernel_rfl) (by kernel_rfl) ?_
          obtain rfl := Option.some.inj h
          exact ⟨rfl, h33.below⟩
    clear hJ17
    rcases of_cond h with ⟨hc12, h⟩ | ⟨hc12, h⟩
    · skip
      refine RegI.fix 15 true hc12 (by kernel_rfl) (by kernel_rfl) ?_
      refine RegI.pure 3 [1, 2, 3, 18] [(1, .int .i64 p1), (2, .int .i64 p2), (3, .pointer (some ⟨b2, 0, none⟩)), (18, .bool true)] (by kernel_rfl) ?_
      refine RegI.only [1, 2, 3, 18] [(1, .int .i64 p1), (2, .int .i64 p2), (3, .pointer (some ⟨b2, 0, none⟩)), (18, .bool true)] (by kernel_rfl) (by kernel_rfl) ?_
      exact hj18 true w1 h (h3.pick [0] (by decide))
    · skip
      refine RegI.fix 15 false hc12 (by kernel_rfl) (by kernel_rfl) ?_
      refine RegI.pure 3 [1, 2, 3, 18] [(1, .int .i64 p1), (2, .int .i64 p2), (3, .pointer (some ⟨b2, 0, none⟩)), (18, .bool (decide (p2 > 5)))] (by kernel_rfl) ?_
      refine RegI.only [1, 2, 3, 18] [(1, .int .i64 p1), (2, .int .i64 p2), (3, .pointer (some ⟨b2, 0, none⟩)), (18, .bool (decide (p2 > 5)))] (by kernel_rfl) (by kernel_rfl) ?_
      exact hj18 (decide (p2 > 5)) w1 h (h3.pick [0] (by decide))
end

/-! ### charabanc/charabancref11.Exx (function 29) -/
section
def charabancref11_Exx_29.post (M0 : Nat → Prop) (w0 : World) (r : Int × Int × Int × Int × Int × Int × Int × Int × Int × Int × Int × Int × Int × Int × Int × Bool × Bool × Bool × Bool × Int) : Ending → World → Prop := fun e w => e = .returned (.agg #[.int .u16 r.1, .int .u16 r.2.1, .int .u16 r.2.2.1, .int .u16 r.2.2.2.1, .int .u16 r.2.2.2.2.1, .int .u16 r.2.2.2.2.2.1, .int .u16 r.2.2.2.2.2.2.1, .int .u16 r.2.2.2.2.2.2.2.1, .int .u16 r.2.2.2.2.2.2.2.2.1, .int .u16 r.2.2.2.2.2.2.2.2.2.1, .int .u16 r.2.2.2.2.2.2.2.2.2.2.1, .int .u16 r.2.2.2.2.2.2.2.2.2.2.2.1, .int .u16 r.2.2.2.2.2.2.2.2.2.2.2.2.1, .int .u8 r.2.2.2.2.2.2.2.2.2.2.2.2.2.1, .int .u8 r.2.2.2.2.2.2.2.2.2.2.2.2.2.2.1, .bool r.2.2.2.2.2.2.2.2.2.2.2.2.2.2.2.1, .bool r.2.2.2.2.2.2.2.2.2.2.2.2.2.2.2.2.1, .bool r.2.2.2.2.2.2.2.2.2.2.2.2.2.2.2.2.2.1, .bool r.2.2.2.2.2.2.2.2.2.2.2.2.2.2.2.2.2.2.1, .int .i64 r.2.2.2.2.2.2.2.2.2.2.2.2.2.2.2.2.2.2.2]) ∧ Below w0.heap.size w0 w
def charabancref11_Exx_29.f (K : Nat) (p0_0 : Int) (p0_1 : Int) (p0_2 : Int) (p0_3 : Int) (p0_4 : Int) (p0_5 : Int) (p0_6 : Int) (p0_7 : Int) (p0_8 : Int) (p0_9 : Int) (p0_10 : Int) (p0_11 : Int) (p0_12 : Int) (p0_13 : Int) (p0_14 : Int) (p0_15 : Bool) (p0_16 : Bool) (p0_17 : Bool) (p0_18 : Bool) (p0_19 : Int) : Option (Int × Int × Int × Int × Int × Int × Int × Int × Int × Int × Int × Int × Int × Int × Int × Bool × Bool × Bool × Bool × Int) := some (p0_0, p0_5, p0_6, p0_7, p0_4, p0_1, p0_2, p0_3, p0_8, p0_9, p0_10, p0_11, p0_12, p0_13, p0_14, p0_15, p0_16, p0_17, p0_18, p0_19)
set_option maxRecDepth 100000 in
theorem charabancref11_Exx_29_ok (K : Nat) (M0 : Nat → Prop) (w0 : World) (p0_0 : Int) (p0_1 : Int) (p0_2 : Int) (p0_3 : Int) (p0_4 : Int) (p0_5 : Int) (p0_6 : Int) (p0_7 : Int) (p0_8 : Int) (p0_9 : Int) (p0_10 : Int) (p0_11 : Int) (p0_12 : Int) (p0_13 : Int) (p0_14 : Int) (p0_15 : Bool) (p0_16 : Bool) (p0_17 : Bool) (p0_18 : Bool) (p0_19 : Int) (ho : ∀ b, M0 b → b < w0.heap.size) {r : Int × Int × Int × Int × Int × Int × Int × Int × Int × Int × Int × Int × Int × Int × Int × Bool × Bool × Bool × Bool × Int} (h : charabancref11_Exx_29.f K p0_0 p0_1 p0_2 p0_3 p0_4 p0_5 p0_6 p0_7 p0_8 p0_9 p0_10 p0_11 p0_12 p0_13 p0_14 p0_15 p0_16 p0_17 p0_18 p0_19 = some r) :
    Calls Tryd.prog 29 #[.agg #[.int .u16 p0_0, .int .u16 p0_1, .int .u16 p0_2, .int .u16 p0_3, .int .u16 p0_4, .int .u16 p0_5, .int .u16 p0_6, .int .u16 p0_7, .int .u16 p0_8, .int .u16 p0_9, .int .u16 p0_10, .int .u16 p0_11, .int .u16 p0_12, .int .u8 p0_13, .int .u8 p0_14, .bool p0_15, .bool p0_16, .bool p0_17, .bool p0_18, .int .i64 p0_19]] w0 (charabancref11_Exx_29.post M0 w0 r) := by
  unfold charabancref11_Exx_29.f at h
  have h0 : Holds M0 w0 w0 [] := Holds.start ho
  have h0 : Holds M0 w0 w0 [] := h0
  refine calls_of F29 rfl [.agg #[.int .u16 p0_0, .int .u16 p0_1, .int .u16 p0_2, .int .u16 p0_3, .int .u16 p0_4, .int .u16 p0_5, .int .u16 p0_6, .int .u16 p0_7, .int .u16 p0_8, .int .u16 p0_9, .int .u16 p0_10, .int .u16 p0_11, .int .u16 p0_12, .int .u8 p0_13, .int .u8 p0_14, .bool p0_15, .bool p0_16, .bool p0_17, .bool p0_18, .int .i64 p0_19]] (by kernel_rfl) ?_
  refine RunsI.go 1 [.c 1, .c 2] (by kernel_rfl) ?_
  refine RunsI.region (by kernel_rfl) ?_
  refine RegI.op (by kernel_rfl) (OpE.box 1 46 [.int .u16 p0_0, .int .u16 p0_1, .int .u16 p0_2, .int .u16 p0_3, .int .u16 p0_4, .int .u16 p0_5, .int .u16 p0_6, .int .u16 p0_7, .int .u16 p0_8, .int .u16 p0_9, .int .u16 p0_10, .int .u16 p0_11, .int .u16 p0_12, .int .u8 p0_13, .int .u8 p0_14, .bool p0_15, .bool p0_16, .bool p0_17, .bool p0_18, .int .i64 p0_19] h0 (by kernel_rfl) (by kernel_rfl) ?_)
  intro w1 b2 h3 hb4 hn5
  refine RegI.op (by kernel_rfl) (OpE.box 2 46 [.int .u16 0, .int .u16 0, .int .u16 0, .int .u16 0, .int .u16 0, .int .u16 0, .int .u16 0, .int .u16 0, .int .u16 0, .int .u16 0, .int .u16 0, .int .u16 0, .int .u16 0, .int .u8 0, .int .u8 0, .bool false, .bool false, .bool false, .bool false, .int .i64 0] h3 (by kernel_rfl) (by kernel_rfl) ?_)
  intro w6 b7 h8 hb9 hn10
  refine RegI.done (by kernel_rfl) ?_
  refine RunsI.go 1 [.c 3, .c 4] (by kernel_rfl) ?_
  refine RunsI.region (by kernel_rfl) ?_
  refine RegI.op (by kernel_rfl) (OpE.loadBox 4 0 46 b2 0 (.agg #[.int .u16 p0_0, .int .u16 p0_1, .int .u16 p0_2, .int .u16 p0_3, .int .u16 p0_4, .int .u16 p0_5, .int .u16 p0_6, .int .u16 p0_7, .int .u16 p0_8, .int .u16 p0_9, .int .u16 p0_10, .int .u16 p0_11, .int .u16 p0_12, .int .u8 p0_13, .int .u8 p0_14, .bool p0_15, .bool p0_16, .bool p0_17, .bool p0_18, .int .i64 p0_19]) h8 (by kernel_rfl) (by kernel_rfl) rfl (by kernel_rfl) ?_)
  refine RegI.op (by kernel_rfl) (OpE.box 3 46 [.int .u16 0, .int .u16 0, .int .u16 0, .int .u16 0, .int .u16 0, .int .u16 0, .int .u16 0, .int .u16 0, .int .u16 0, .int .u16 0, .int .u16 0, .int .u16 0, .int .u16 0, .int .u8 0, .int .u8 0, .bool false, .bool false, .bool false, .bool false, .int .i64 0] h8 (by kernel_rfl) (by kernel_rfl) ?_)
  intro w11 b12 h13 hb14 hn15
  refine RegI.op (by kernel_rfl) (OpE.storeBox 2 46 b12 0 (.agg #[.int .u16 p0_0, .int .u16 p0_1, .int .u16 p0_2, .int .u16 p0_3, .int .u16 p0_4, .int .u16 p0_5, .int .u16 p0_6, .int .u16 p0_7, .int .u16 p0_8, .int .u16 p0_9, .int .u16 p0_10, .int .u16 p0_11, .int .u16 p0_12, .int .u8 p0_13, .int .u8 p0_14, .bool p0_15, .bool p0_16, .bool p0_17, .bool p0_18, .int .i64 p0_19]) [.int .u16 p0_0, .int .u16 p0_1, .int .u16 p0_2, .int .u16 p0_3, .int .u16 p0_4, .int .u16 p0_5, .int .u16 p0_6, .int .u16 p0_7, .int .u16 p0_8, .int .u16 p0_9, .int .u16 p0_10, .int .u16 p0_11, .int .u16 p0_12, .int .u8 p0_13, .int .u8 p0_14, .bool p0_15, .bool p0_16, .bool p0_17, .bool p0_18, .int .i64 p0_19] h13 (by kernel_rfl) (by kernel_rfl) rfl (by kernel_rfl) (by kernel_rfl) (by kernel_rfl) ?_)
  intro w16 h17 hk18
  refine RegI.done (by kernel_rfl) ?_
  refine RunsI.go 1 [.c 5, .c 6] (by kernel_rfl) ?_
  refine RunsI.region (by kernel_rfl) ?_
  refine RegI.pure 1 [1, 2, 3, 5] [(1, .pointer (some ⟨b2, 0, none⟩)), (2, .pointer (some ⟨b7, 0, none⟩)), (3, .pointer (some ⟨b12, 0, none⟩)), (5, .pointer (some ⟨b2, 5, none⟩))] (by kernel_rfl) ?_
  refine RegI.op (by kernel_rfl) (OpE.loadBox 6 0 22 b2 5 (.int .u16 p0_5) h17 (by kernel_rfl) (by kernel_rfl) rfl (by kernel_rfl) ?_)
  refine RegI.pure 1 [1, 2, 3, 6, 7] [(1, .pointer (some ⟨b2, 0, none⟩)), (2, .pointer (some ⟨b7, 0, none⟩)), (3, .pointer (some ⟨b12, 0, none⟩)), (6, .int .u16 p0_5), (7, .pointer (some ⟨b12, 1, none⟩))] (by kernel_rfl) ?_
  refine RegI.op (by kernel_rfl) (OpE.storeBox 2 22 b12 1 (.int .u16 p0_5) [.int .u16 p0_0, .int .u16 p0_5, .int .u16 p0_2, .int .u16 p0_3, .int .u16 p0_4, .int .u16 p0_5, .int .u16 p0_6, .int .u16 p0_7, .int .u16 p0_8, .int .u16 p0_9, .int .u16 p0_10, .int .u16 p0_11, .int .u16 p0_12, .int .u8 p0_13, .int .u8 p0_14, .bool p0_15, .bool p0_16, .bool p0_17, .bool p0_18, .int .i64 p0_19] h17 (by kernel_rfl) (by kernel_rfl) rfl (by kernel_rfl) (by kernel_rfl) (by kernel_rfl) ?_)
  intro w19 h20 hk21
  refine RegI.done (by kernel_rfl) ?_
  refine RunsI.go 1 [.c 7, .c 8] (by kernel_rfl) ?_
  refine RunsI.region (by kernel_rfl) ?_
  refine RegI.pure 1 [1, 2, 3, 8] [(1, .pointer (some ⟨b2, 0, none⟩)), (2, .pointer (some ⟨b7, 0, none⟩)), (3, .pointer (some ⟨b12, 0, none⟩)), (8, .pointer (some ⟨b2, 6, none⟩))] (by kernel_rfl) ?_
  refine RegI.op (by kernel_rfl) (OpE.loadBox 9 0 22 b2 6 (.int .u16 p0_6) h20 (by kernel_rfl) (by kernel_rfl) rfl (by kernel_rfl) ?_)
  refine RegI.pure 1 [1, 2, 3, 9, 10] [(1, .pointer (some ⟨b2, 0, none⟩)), (2, .pointer (some ⟨b7, 0, none⟩)), (3, .pointer (some ⟨b12, 0, none⟩)), (9, .int .u16 p0_6), (10, .pointer (some ⟨b12, 2, none⟩))] (by kernel_rfl) ?_
  refine RegI.op (by kernel_rfl) (OpE.storeBox 2 22 b12 2 (.int .u16 p0_6) [.int .u16 p0_0, .int .u16 p0_5, .int .u16 p0_6, .int .u16 p0_3, .int .u16 p0_4, .int .u16 p0_5, .int .u16 p0_6, .int .u16 p0_7, .int .u16 p0_8, .int .u16 p0_9, .int .u16 p0_10, .int .u16 p0_11, .int .u16 p0_12, .int .u8 p0_13, .int .u8 p0_14, .bool p0_15, .bool p0_16, .bool p0_17, .bool p0_18, .int .i64 p0_19] h20 (by kernel_rfl) (by kernel_rfl) rfl (by kernel_rfl) (by kernel_rfl) (by kernel_rfl) ?_)
  intro w22 h23 hk24
  refine RegI.done (by kernel_rfl) ?_
  refine RunsI.go 1 [.c 9, .c 10] (by kernel_rfl) ?_
  refine RunsI.region (by kernel_rfl) ?_
  refine RegI.pure 1 [1, 2, 3, 11] [(1, .pointer (some ⟨b2, 0, none⟩)), (2, .pointer (some ⟨b7, 0, none⟩)), (3, .pointer (some ⟨b12, 0, none⟩)), (11, .pointer (some ⟨b2, 7, none⟩))] (by kernel_rfl) ?_
  refine RegI.op (by kernel_rfl) (OpE.loadBox 12 0 22 b2 7 (.int .u16 p0_7) h23 (by kernel_rfl) (by kernel_rfl) rfl (by kernel_rfl) ?_)
  refine RegI.pure 1 [1, 2, 3, 12, 13] [(1, .pointer (some ⟨b2, 0, none⟩)), (2, .pointer (some ⟨b7, 0, none⟩)), (3, .pointer (some ⟨b12, 0, none⟩)), (12, .int .u16 p0_7), (13, .pointer (some ⟨b12, 3, none⟩))] (by kernel_rfl) ?_
  refine RegI.op (by kernel_rfl) (OpE.storeBox 2 22 b12 3 (.int .u16 p0_7) [.int .u16 p0_0, .int .u16 p0_5, .int .u16 p0_6, .int .u16 p0_7, .int .u16 p0_4, .int .u16 p0_5, .int .u16 p0_6, .int .u16 p0_7, .int .u16 p0_8, .int .u16 p0_9, .int .u16 p0_10, .int .u16 p0_11, .int .u16 p0_12, .int .u8 p0_13, .int .u8 p0_14, .bool p0_15, .bool p0_16, .bool p0_17, .bool p0_18, .int .i64 p0_19] h23 (by kernel_rfl) (by kernel_rfl) rfl (by kernel_rfl) (by kernel_rfl) (by kernel_rfl) ?_)
  intro w25 h26 hk27
  refine RegI.done (by kernel_rfl) ?_
  refine RunsI.go 1 [.c 11, .c 12] (by kernel_rfl) ?_
  refine RunsI.region (by kernel_rfl) ?_
  refine RegI.pure 1 [1, 2, 3, 14] [(1, .pointer (some ⟨b2, 0, none⟩)), (2, .pointer (some ⟨b7, 0, none⟩)), (3, .pointer (some ⟨b12, 0, none⟩)), (14, .pointer (some ⟨b2, 1, none⟩))] (by kernel_rfl) ?_
  refine RegI.op (by kernel_rfl) (OpE.loadBox 15 0 22 b2 1 (.int .u16 p0_1) h26 (by kernel_rfl) (by kernel_rfl) rfl (by kernel_rfl) ?_)
  refine RegI.pure 1 [1, 2, 3, 15, 16] [(1, .pointer (some ⟨b2, 0, none⟩)), (2, .pointer (some ⟨b7, 0, none⟩)), (3, .pointer (some ⟨b12, 0, none⟩)), (15, .int .u16 p0_1), (16, .pointer (some ⟨b12, 5, none⟩))] (by kernel_rfl) ?_
  refine RegI.op (by kernel_rfl) (OpE.storeBox 2 22 b12 5 (.int .u16 p0_1) [.int .u16 p0_0, .int .u16 p0_5, .int .u16 p0_6, .int .u16 p0_7, .int .u16 p0_4, .int .u16 p0_1, .int .u16 p0_6, .int .u16 p0_7, .int .u16 p0_8, .int .u16 p0_9, .int .u16 p0_10, .int .u16 p0_11, .int .u16 p0_12, .int .u8 p0_13, .int .u8 p0_14, .bool p0_15, .bool p0_16, .bool p0_17, .bool p0_18, .int .i64 p0_19] h26 (by kernel_rfl) (by kernel_rfl) rfl (by kernel_rfl) (by kernel_rfl) (by kernel_rfl) ?_)
  intro w28 h29 hk30
  refine RegI.done (by kernel_rfl) ?_
  refine RunsI.go 1 [.c 13, .c 14] (by kernel_rfl) ?_
  refine RunsI.region (by kernel_rfl) ?_
  refine RegI.pure 1 [1, 2, 3, 17] [(1, .pointer (some ⟨b2, 0, none⟩)), (2, .pointer (some ⟨b7, 0, none⟩)), (3, .pointer (some ⟨b12, 0, none⟩)), (17, .pointer (some ⟨b2, 2, none⟩))] (by kernel_rfl) ?_
  refine RegI.op (by kernel_rfl) (OpE.loadBox 18 0 22 b2 2 (.int .u16 p0_2) h29 (by kernel_rfl) (by kernel_rfl) rfl (by kernel_rfl) ?_)
  refine RegI.pure 1 [1, 2, 3, 18, 19] [(1, .pointer (some ⟨b2, 0, none⟩)), (2, .pointer (some ⟨b7, 0, none⟩)), (3, .pointer (some ⟨b12, 0, none⟩)), (18, .int .u16 p0_2), (19, .pointer (some ⟨b12, 6, none⟩))] (by kernel_rfl) ?_
  refine RegI.op (by kernel_rfl) (OpE.storeBox 2 22 b12 6 (.int .u16 p0_2) [.int .u16 p0_0, .int .u16 p0_5, .int .u16 p0_6, .int .u16 p0_7, .int .u16 p0_4, .int .u16 p0_1, .int .u16 p0_2, .int .u16 p0_7, .int .u16 p0_8, .int .u16 p0_9, .int .u16 p0_10, .int .u16 p0_11, .int .u16 p0_12, .int .u8 p0_13, .int .u8 p0_14, .bool p0_15, .bool p0_16, .bool p0_17, .bool p0_18, .int .i64 p0_19] h29 (by kernel_rfl) (by kernel_rfl) rfl (by kernel_rfl) (by kernel_rfl) (by kernel_rfl) ?_)
  intro w31 h32 hk33
  refine RegI.done (by kernel_rfl) ?_
  refine RunsI.go 1 [.c 15, .c 16] (by kernel_rfl) ?_
  refine RunsI.region (by kernel_rfl) ?_
  refine RegI.pure 1 [2, 3, 20] [(2, .pointer (some ⟨b7, 0, none⟩)), (3, .pointer (some ⟨b12, 0, none⟩)), (20, .pointer (some ⟨b2, 3, none⟩))] (by kernel_rfl) ?_
  refine RegI.op (by kernel_rfl) (OpE.loadBox 21 0 22 b2 3 (.int .u16 p0_3) h32 (by kernel_rfl) (by kernel_rfl) rfl (by kernel_rfl) ?_)
  refine RegI.pure 1 [2, 3, 21, 22] [(2, .pointer (some ⟨b7, 0, none⟩)), (3, .pointer (some ⟨b12, 0, none⟩)), (21, .int .u16 p0_3), (22, .pointer (some ⟨b12, 7, none⟩))] (by kernel_rfl) ?_
  refine RegI.op (by kernel_rfl) (OpE.storeBox 2 22 b12 7 (.int .u16 p0_3) [.int .u16 p0_0, .int .u16 p0_5, .int .u16 p0_6, .int .u16 p0_7, .int .u16 p0_4, .int .u16 p0_1, .int .u16 p0_2, .int .u16 p0_3, .int .u16 p0_8, .int .u16 p0_9, .int .u16 p0_10, .int .u16 p0_11, .int .u16 p0_12, .int .u8 p0_13, .int .u8 p0_14, .bool p0_15, .bool p0_16, .bool p0_17, .bool p0_18, .int .i64 p0_19] h32 (by kernel_rfl) (by kernel_rfl) rfl (by kernel_rfl) (by kernel_rfl) (by kernel_rfl) ?_)
  intro w34 h35 hk36
  refine RegI.done (by kernel_rfl) ?_
  refine RunsI.go 1 [.c 17, .c 18] (by kernel_rfl) ?_
  refine RunsI.region (by kernel_rfl) ?_
  refine RegI.op (by kernel_rfl) (OpE.loadBox 23 2 46 b12 0 (.agg #[.int .u16 p0_0, .int .u16 p0_5, .int .u16 p0_6, .int .u16 p0_7, .int .u16 p0_4, .int .u16 p0_1, .int .u16 p0_2, .int .u16 p0_3, .int .u16 p0_8, .int .u16 p0_9, .int .u16 p0_10, .int .u16 p0_11, .int .u16 p0_12, .int .u8 p0_13, .int .u8 p0_14, .bool p0_15, .bool p0_16, .bool p0_17, .bool p0_18, .int .i64 p0_19]) h35 (by kernel_rfl) (by kernel_rfl) rfl (by kernel_rfl) ?_)
  refine RegI.op (by kernel_rfl) (OpE.storeBox 1 46 b7 0 (.agg #[.int .u16 p0_0, .int .u16 p0_5, .int .u16 p0_6, .int .u16 p0_7, .int .u16 p0_4, .int .u16 p0_1, .int .u16 p0_2, .int .u16 p0_3, .int .u16 p0_8, .int .u16 p0_9, .int .u16 p0_10, .int .u16 p0_11, .int .u16 p0_12, .int .u8 p0_13, .int .u8 p0_14, .bool p0_15, .bool p0_16, .bool p0_17, .bool p0_18, .int .i64 p0_19]) [.int .u16 p0_0, .int .u16 p0_5, .int .u16 p0_6, .int .u16 p0_7, .int .u16 p0_4, .int .u16 p0_1, .int .u16 p0_2, .int .u16 p0_3, .int .u16 p0_8, .int .u16 p0_9, .int .u16 p0_10, .int .u16 p0_11, .int .u16 p0_12, .int .u8 p0_13, .int .u8 p0_14, .bool p0_15, .bool p0_16, .bool p0_17, .bool p0_18, .int .i64 p0_19] h35 (by kernel_rfl) (by kernel_rfl) rfl (by kernel_rfl) (by kernel_rfl) (by kernel_rfl) ?_)
  intro w37 h38 hk39
  refine RegI.done (by kernel_rfl) ?_
  refine RunsI.toRet (by kernel_rfl) ?_
  refine RetI.valW [.cell 2 46] [.agg #[.int .u16 p0_0, .int .u16 p0_5, .int .u16 p0_6, .int .u16 p0_7, .int .u16 p0_4, .int .u16 p0_1, .int .u16 p0_2, .int .u16 p0_3, .int .u16 p0_8, .int .u16 p0_9, .int .u16 p0_10, .int .u16 p0_11, .int .u16 p0_12, .int .u8 p0_13, .int .u8 p0_14, .bool p0_15, .bool p0_16, .bool p0_17, .bool p0_18, .int .i64 p0_19]] (.agg #[.int .u16 p0_0, .int .u16 p0_5, .int .u16 p0_6, .int .u16 p0_7, .int .u16 p0_4, .int .u16 p0_1, .int .u16 p0_2, .int .u16 p0_3, .int .u16 p0_8, .int .u16 p0_9, .int .u16 p0_10, .int .u16 p0_11, .int .u16 p0_12, .int .u8 p0_13, .int .u8 p0_14, .bool p0_15, .bool p0_16, .bool p0_17, .bool p0_18, .int .i64 p0_19]) (by kernel_rfl) (ResAt.box 1 46 b7 0 h38 (by kernel_rfl) (by kernel_rfl) rfl (by kernel_rfl) rfl) (by kernel_rfl) ?_
  obtain rfl := Option.some.inj h
  exact ⟨rfl, h38.below⟩
end

/-! ### charabanc/charabancref11.Swap (function 31) -/
section
def charabancref11_Swap_31.post (M0 : Nat → Prop) (w0 : World) (r : Int × Int × Int × Int × Int × Int × Int × Int × Int × Int × Int × Int × Int × Int × Int × Bool × Bool × Bool × Bool × Int) : Ending → World → Prop := fun e w => e = .returned (.agg #[.int .u16 r.1, .int .u16 r.2.1, .int .u16 r.2.2.1, .int .u16 r.2.2.2.1, .int .u16 r.2.2.2.2.1, .int .u16 r.2.2.2.2.2.1, .int .u16 r.2.2.2.2.2.2.1, .int .u16 r.2.2.2.2.2.2.2.1, .int .u16 r.2.2.2.2.2.2.2.2.1, .int .u16 r.2.2.2.2.2.2.2.2.2.1, .int .u16 r.2.2.2.2.2.2.2.2.2.2.1, .int .u16 r.2.2.2.2.2.2.2.2.2.2.2.1, .int .u16 r.2.2.2.2.2.2.2.2.2.2.2.2.1, .int .u8 r.2.2.2.2.2.2.2.2.2.2.2.2.2.1, .int .u8 r.2.2.2.2.2.2.2.2.2.2.2.2.2.2.1, .bool r.2.2.2.2.2.2.2.2.2.2.2.2.2.2.2.1, .bool r.2.2.2.2.2.2.2.2.2.2.2.2.2.2.2.2.1, .bool r.2.2.2.2.2.2.2.2.2.2.2.2.2.2.2.2.2.1, .bool r.2.2.2.2.2.2.2.2.2.2.2.2.2.2.2.2.2.2.1, .int .i64 r.2.2.2.2.2.2.2.2.2.2.2.2.2.2.2.2.2.2.2]) ∧ Below w0.heap.size w0 w
def charabancref11_Swap_31.f (K : Nat) (p0_0 : Int) (p0_1 : Int) (p0_2 : Int) (p0_3 : Int) (p0_4 : Int) (p0_5 : Int) (p0_6 : Int) (p0_7 : Int) (p0_8 : Int) (p0_9 : Int) (p0_10 : Int) (p0_11 : Int) (p0_12 : Int) (p0_13 : Int) (p0_14 : Int) (p0_15 : Bool) (p0_16 : Bool) (p0_17 : Bool) (p0_18 : Bool) (p0_19 : Int) : Option (Int × Int × Int × Int × Int × Int × Int × Int × Int × Int × Int × Int × Int × Int × Int × Bool × Bool × Bool × Bool × Int) := some (p0_4, p0_1, p0_2, p0_3, p0_0, p0_5, p0_6, p0_7, p0_8, p0_9, p0_10, p0_11, p0_12, p0_13, p0_14, p0_15, p0_16, p0_17, p0_18, p0_19)
set_option maxRecDepth 100000 in
theorem charabancref11_Swap_31_ok (K : Nat) (M0 : Nat → Prop) (w0 : World) (p0_0 : Int) (p0_1 : Int) (p0_2 : Int) (p0_3 : Int) (p0_4 : Int) (p0_5 : Int) (p0_6 : Int) (p0_7 : Int) (p0_8 : Int) (p0_9 : Int) (p0_10 : Int) (p0_11 : Int) (p0_12 : Int) (p0_13 : Int) (p0_14 : Int) (p0_15 : Bool) (p0_16 : Bool) (p0_17 : Bool) (p0_18 : Bool) (p0_19 : Int) (ho : ∀ b, M0 b → b < w0.heap.size) {r : Int × Int × Int × Int × Int × Int × Int × Int × Int × Int × Int × Int × Int × Int × Int × Bool × Bool × Bool × Bool × Int} (h : charabancref11_Swap_31.f K p0_0 p0_1 p0_2 p0_3 p0_4 p0_5 p0_6 p0_7 p0_8 p0_9 p0_10 p0_11 p0_12 p0_13 p0_14 p0_15 p0_16 p0_17 p0_18 p0_19 = some r) :
    Calls Tryd.prog 31 #[.agg #[.int .u16 p0_0, .int .u16 p0_1, .int .u16 p0_2, .int .u16 p0_3, .int .u16 p0_4, .int .u16 p0_5, .int .u16 p0_6, .int .u16 p0_7, .int .u16 p0_8, .int .u16 p0_9, .int .u16 p0_10, .int .u16 p0_11, .int .u16 p0_12, .int .u8 p0_13, .int .u8 p0_14, .bool p0_15, .bool p0_16, .bool p0_17, .bool p0_18, .int .i64 p0_19]] w0 (charabancref11_Swap_31.post M0 w0 r) := by
  unfold charabancref11_Swap_31.f at h
  have h0 : Holds M0 w0 w0 [] := Holds.start ho
  have h0 : Holds M0 w0 w0 [] := h0
  refine calls_of F31 rfl [.agg #[.int .u16 p0_0, .int .u16 p0_1, .int .u16 p0_2, .int .u16 p0_3, .int .u16 p0_4, .int .u16 p0_5, .int .u16 p0_6, .int .u16 p0_7, .int .u16 p0_8, .int .u16 p0_9, .int .u16 p0_10, .int .u16 p0_11, .int .u16 p0_12, .int .u8 p0_13, .int .u8 p0_14, .bool p0_15, .bool p0_16, .bool p0_17, .bool p0_18, .int .i64 p0_19]] (by kernel_rfl) ?_
  refine RunsI.go 1 [.c 1, .c 2] (by kernel_rfl) ?_
  refine RunsI.region (by kernel_rfl) ?_
  refine RegI.op (by kernel_rfl) (OpE.box 1 46 [.int .u16 p0_0, .int .u16 p0_1, .int .u16 p0_2, .int .u16 p0_3, .int .u16 p0_4, .int .u16 p0_5, .int .u16 p0_6, .int .u16 p0_7, .int .u16 p0_8, .int .u16 p0_9, .int .u16 p0_10, .int .u16 p0_11, .int .u16 p0_12, .int .u8 p0_13, .int .u8 p0_14, .bool p0_15, .bool p0_16, .bool p0_17, .bool p0_18, .int .i64 p0_19] h0 (by kernel_rfl) (by kernel_rfl) ?_)
  intro w1 b2 h3 hb4 hn5
  refine RegI.op (by kernel_rfl) (OpE.box 2 46 [.int .u16 0, .int .u16 0, .int .u16 0, .int .u16 0, .int .u16 0, .int .u16 0, .int .u16 0, .int .u16 0, .int .u16 0, .int .u16 0, .int .u16 0, .int .u16 0, .int .u16 0, .int .u8 0, .int .u8 0, .bool false, .bool false, .bool false, .bool false, .int .i64 0] h3 (by kernel_rfl) (by kernel_rfl) ?_)
  intro w6 b7 h8 hb9 hn10
  refine RegI.done (by kernel_rfl) ?_
  refine RunsI.go 1 [.c 3, .c 4] (by kernel_rfl) ?_
  refine RunsI.region (by kernel_rfl) ?_
  refine RegI.op (by kernel_rfl) (OpE.loadBox 4 0 46 b2 0 (.agg #[.int .u16 p0_0, .int .u16 p0_1, .int .u16 p0_2, .int .u16 p0_3, .int .u16 p0_4, .int .u16 p0_5, .int .u16 p0_6, .int .u16 p0_7, .int .u16 p0_8, .int .u16 p0_9, .int .u16 p0_10, .int .u16 p0_11, .int .u16 p0_12, .int .u8 p0_13, .int .u8 p0_14, .bool p0_15, .bool p0_16, .bool p0_17, .bool p0_18, .int .i64 p0_19]) h8 (by kernel_rfl) (by kernel_rfl) rfl (by kernel_rfl) ?_)
  refine RegI.op (by kernel_rfl) (OpE.box 3 46 [.int .u16 0, .int .u16 0, .int .u16 0, .int .u16 0, .int .u16 0, .int .u16 0, .int .u16 0, .int .u16 0, .int .u16 0, .int .u16 0, .int .u16 0, .int .u16 0, .int .u16 0, .int .u8 0, .int .u8 0, .bool false, .bool false, .bool false, .bool false, .int .i64 0] h8 (by kernel_rfl) (by kernel_rfl) ?_)
  intro w11 b12 h13 hb14 hn15
  refine RegI.op (by kernel_rfl) (OpE.storeBox 2 46 b12 0 (.agg #[.int .u16 p0_0, .int .u16 p0_1, .int .u16 p0_2, .int .u16 p0_3, .int .u16 p0_4, .int .u16 p0_5, .int .u16 p0_6, .int .u16 p0_7, .int .u16 p0_8, .int .u16 p0_9, .int .u16 p0_10, .int .u16 p0_11, .int .u16 p0_12, .int .u8 p0_13, .int .u8 p0_14, .bool p0_15, .bool p0_16, .bool p0_17, .bool p0_18, .int .i64 p0_19]) [.int .u16 p0_0, .int .u16 p0_1, .int .u16 p0_2, .int .u16 p0_3, .int .u16 p0_4, .int .u16 p0_5, .int .u16 p0_6, .int .u16 p0_7, .int .u16 p0_8, .int .u16 p0_9, .int .u16 p0_10, .int .u16 p0_11, .int .u16 p0_12, .int .u8 p0_13, .int .u8 p0_14, .bool p0_15, .bool p0_16, .bool p0_17, .bool p0_18, .int .i64 p0_19] h13 (by kernel_rfl) (by kernel_rfl) rfl (by kernel_rfl) (by kernel_rfl) (by kernel_rfl) ?_)
  intro w16 h17 hk18
  refine RegI.done (by kernel_rfl) ?_
  refine RunsI.go 1 [.c 5, .c 6] (by kernel_rfl) ?_
  refine RunsI.region (by kernel_rfl) ?_
  refine RegI.pure 1 [1, 2, 3, 5] [(1, .pointer (some ⟨b2, 0, none⟩)), (2, .pointer (some ⟨b7, 0, none⟩)), (3, .pointer (some ⟨b12, 0, none⟩)), (5, .pointer (some ⟨b2, 4, none⟩))] (by kernel_rfl) ?_
  refine RegI.op (by kernel_rfl) (OpE.loadBox 6 0 22 b2 4 (.int .u16 p0_4) h17 (by kernel_rfl) (by kernel_rfl) rfl (by kernel_rfl) ?_)
  refine RegI.pure 1 [1, 2, 3, 6, 7] [(1, .pointer (some ⟨b2, 0, none⟩)), (2, .pointer (some ⟨b7, 0, none⟩)), (3, .pointer (some ⟨b12, 0, none⟩)), (6, .int .u16 p0_4), (7, .pointer (some ⟨b12, 0, none⟩))] (by kernel_rfl) ?_
  refine RegI.op (by kernel_rfl) (OpE.storeBox 2 22 b12 0 (.int .u16 p0_4) [.int .u16 p0_4, .int .u16 p0_1, .int .u16 p0_2, .int .u16 p0_3, .int .u16 p0_4, .int .u16 p0_5, .int .u16 p0_6, .int .u16 p0_7, .int .u16 p0_8, .int .u16 p0_9, .int .u16 p0_10, .int .u16 p0_11, .int .u16 p0_12, .int .u8 p0_13, .int .u8 p0_14, .bool p0_15, .bool p0_16, .bool p0_17, .bool p0_18, .int .i64 p0_19] h17 (by kernel_rfl) (by kernel_rfl) rfl (by kernel_rfl) (by kernel_rfl) (by kernel_rfl) ?_)
  intro w19 h20 hk21
  refine RegI.done (by kernel_rfl) ?_
  refine RunsI.go 1 [.c 7, .c 8] (by kernel_rfl) ?_
  refine RunsI.region (by kernel_rfl) ?_
  refine RegI.pure 1 [2, 3, 8] [(2, .pointer (some ⟨b7, 0, none⟩)), (3, .pointer (some ⟨b12, 0, none⟩)), (8, .pointer (some ⟨b2, 0, none⟩))] (by kernel_rfl) ?_
  refine RegI.op (by kernel_rfl) (OpE.loadBox 9 0 22 b2 0 (.int .u16 p0_0) h20 (by kernel_rfl) (by kernel_rfl) rfl (by kernel_rfl) ?_)
  refine RegI.pure 1 [2, 3, 9, 10] [(2, .pointer (some ⟨b7, 0, none⟩)), (3, .pointer (some ⟨b12, 0, none⟩)), (9, .int .u16 p0_0), (10, .pointer (some ⟨b12, 4, none⟩))] (by kernel_rfl) ?_
  refine RegI.op (by kernel_rfl) (OpE.storeBox 2 22 b12 4 (.int .u16 p0_0) [.int .u16 p0_4, .int .u16 p0_1, .int .u16 p0_2, .int .u16 p0_3, .int .u16 p0_0, .int .u16 p0_5, .int .u16 p0_6, .int .u16 p0_7, .int .u16 p0_8, .int .u16 p0_9, .int .u16 p0_10, .int .u16 p0_11, .int .u16 p0_12, .int .u8 p0_13, .int .u8 p0_14, .bool p0_15, .bool p0_16, .bool p0_17, .bool p0_18, .int .i64 p0_19] h20 (by kernel_rfl) (by kernel_rfl) rfl (by kernel_rfl) (by kernel_rfl) (by kernel_rfl) ?_)
  intro w22 h23 hk24
  refine RegI.done (by kernel_rfl) ?_
  refine RunsI.go 1 [.c 9, .c 10] (by kernel_rfl) ?_
  refine RunsI.region (by kernel_rfl) ?_
  refine RegI.op (by kernel_rfl) (OpE.loadBox 11 2 46 b12 0 (.agg #[.int .u16 p0_4, .int .u16 p0_1, .int .u16 p0_2, .int .u16 p0_3, .int .u16 p0_0, .int .u16 p0_5, .int .u16 p0_6, .int .u16 p0_7, .int .u16 p0_8, .int .u16 p0_9, .int .u16 p0_10, .int .u16 p0_11, .int .u16 p0_12, .int .u8 p0_13, .int .u8 p0_14, .bool p0_15, .bool p0_16, .bool p0_17, .bool p0_18, .int .i64 p0_19]) h23 (by kernel_rfl) (by kernel_rfl) rfl (by kernel_rfl) ?_)
  refine RegI.op (by kernel_rfl) (OpE.storeBox 1 46 b7 0 (.agg #[.int .u16 p0_4, .int .u16 p0_1, .int .u16 p0_2, .int .u16 p0_3, .int .u16 p0_0, .int .u16 p0_5, .int .u16 p0_6, .int .u16 p0_7, .int .u16 p0_8, .int .u16 p0_9, .int .u16 p0_10, .int .u16 p0_11, .int .u16 p0_12, .int .u8 p0_13, .int .u8 p0_14, .bool p0_15, .bool p0_16, .bool p0_17, .bool p0_18, .int .i64 p0_19]) [.int .u16 p0_4, .int .u16 p0_1, .int .u16 p0_2, .int .u16 p0_3, .int .u16 p0_0, .int .u16 p0_5, .int .u16 p0_6, .int .u16 p0_7, .int .u16 p0_8, .int .u16 p0_9, .int .u16 p0_10, .int .u16 p0_11, .int .u16 p0_12, .int .u8 p0_13, .int .u8 p0_14, .bool p0_15, .bool p0_16, .bool p0_17, .bool p0_18, .int .i64 p0_19] h23 (by kernel_rfl) (by kernel_rfl) rfl (by kernel_rfl) (by kernel_rfl) (by kernel_rfl) ?_)
  intro w25 h26 hk27
  refine RegI.done (by kernel_rfl) ?_
  refine RunsI.toRet (by kernel_rfl) ?_
  refine RetI.valW [.cell 2 46] [.agg #[.int .u16 p0_4, .int .u16 p0_1, .int .u16 p0_2, .int .u16 p0_3, .int .u16 p0_0, .int .u16 p0_5, .int .u16 p0_6, .int .u16 p0_7, .int .u16 p0_8, .int .u16 p0_9, .int .u16 p0_10, .int .u16 p0_11, .int .u16 p0_12, .int .u8 p0_13, .int .u8 p0_14, .bool p0_15, .bool p0_16, .bool p0_17, .bool p0_18, .int .i64 p0_19]] (.agg #[.int .u16 p0_4, .int .u16 p0_1, .int .u16 p0_2, .int .u16 p0_3, .int .u16 p0_0, .int .u16 p0_5, .int .u16 p0_6, .int .u16 p0_7, .int .u16 p0_8, .int .u16 p0_9, .int .u16 p0_10, .int .u16 p0_11, .int .u16 p0_12, .int .u8 p0_13, .int .u8 p0_14, .bool p0_15, .bool p0_16, .bool p0_17, .bool p0_18, .int .i64 p0_19]) (by kernel_rfl) (ResAt.box 1 46 b7 0 h26 (by kernel_rfl) (by kernel_rfl) rfl (by kernel_rfl) rfl) (by kernel_rfl) ?_
  obtain rfl := Option.some.inj h
  exact ⟨rfl, h26.below⟩
end

/-! ### charabanc/charabancref11.Tick (function 33) -/
section
def charabancref11_Tick_33.post (M0 : Nat → Prop) (w0 : World) (r : Int × Int × Int × Int × Int × Int × Int × Int × Int × Int × Int × Int × Int × Int × Int × Bool × Bool × Bool × Bool × Int) : Ending → World → Prop := fun e w => e = .returned (.agg #[.int .u16 r.1, .int .u16 r.2.1, .int .u16 r.2.2.1, .int .u16 r.2.2.2.1, .int .u16 r.2.2.2.2.1, .int .u16 r.2.2.2.2.2.1, .int .u16 r.2.2.2.2.2.2.1, .int .u16 r.2.2.2.2.2.2.2.1, .int .u16 r.2.2.2.2.2.2.2.2.1, .int .u16 r.2.2.2.2.2.2.2.2.2.1, .int .u16 r.2.2.2.2.2.2.2.2.2.2.1, .int .u16 r.2.2.2.2.2.2.2.2.2.2.2.1, .int .u16 r.2.2.2.2.2.2.2.2.2.2.2.2.1, .int .u8 r.2.2.2.2.2.2.2.2.2.2.2.2.2.1, .int .u8 r.2.2.2.2.2.2.2.2.2.2.2.2.2.2.1, .bool r.2.2.2.2.2.2.2.2.2.2.2.2.2.2.2.1, .bool r.2.2.2.2.2.2.2.2.2.2.2.2.2.2.2.2.1, .bool r.2.2.2.2.2.2.2.2.2.2.2.2.2.2.2.2.2.1, .bool r.2.2.2.2.2.2.2.2.2.2.2.2.2.2.2.2.2.2.1, .int .i64 r.2.2.2.2.2.2.2.2.2.2.2.2.2.2.2.2.2.2.2]) ∧ Below w0.heap.size w0 w
def charabancref11_Tick_33.f (K : Nat) (p0_0 : Int) (p0_1 : Int) (p0_2 : Int) (p0_3 : Int) (p0_4 : Int) (p0_5 : Int) (p0_6 : Int) (p0_7 : Int) (p0_8 : Int) (p0_9 : Int) (p0_10 : Int) (p0_11 : Int) (p0_12 : Int) (p0_13 : Int) (p0_14 : Int) (p0_15 : Bool) (p0_16 : Bool) (p0_17 : Bool) (p0_18 : Bool) (p0_19 : Int) (p1 : Int) : Option (Int × Int × Int × Int × Int × Int × Int × Int × Int × Int × Int × Int × Int × Int × Int × Bool × Bool × Bool × Bool × Int) := some (p0_0, p0_1, p0_2, p0_3, p0_4, p0_5, p0_6, p0_7, p0_8, p0_9, p0_10, p0_11, p0_12, p0_13, (IntKind.wrap .u8 (IntKind.wrap .i64 ((IntKind.wrap .i64 ((IntKind.wrap .i64 (Int.tdiv (IntKind.wrap .i64 p0_14) 128)) * 128)) + (Int.tmod (IntKind.wrap .i64 ((Int.tmod (IntKind.wrap .i64 ((Int.tmod (IntKind.wrap .i64 p0_14) 128) + (Int.tmod p1 128))) 128) + 128)) 128)))), p0_15, p0_16, p0_17, p0_18, p0_19)
set_option maxRecDepth 100000 in
theorem charabancref11_Tick_33_ok (K : Nat) (M0 : Nat → Prop) (w0 : World) (p0_0 : Int) (p0_1 : Int) (p0_2 : Int) (p0_3 : Int) (p0_4 : Int) (p0_5 : Int) (p0_6 : Int) (p0_7 : Int) (p0_8 : Int) (p0_9 : Int) (p0_10 : Int) (p0_11 : Int) (p0_12 : Int) (p0_13 : Int) (p0_14 : Int) (p0_15 : Bool) (p0_16 : Bool) (p0_17 : Bool) (p0_18 : Bool) (p0_19 : Int) (p1 : Int) (ho : ∀ b, M0 b → b < w0.heap.size) {r : Int × Int × Int × Int × Int × Int × Int × Int × Int × Int × Int × Int × Int × Int × Int × Bool × Bool × Bool × Bool × Int} (h : charabancref11_Tick_33.f K p0_0 p0_1 p0_2 p0_3 p0_4 p0_5 p0_6 p0_7 p0_8 p0_9 p0_10 p0_11 p0_12 p0_13 p0_14 p0_15 p0_16 p0_17 p0_18 p0_19 p1 = some r) :
    Calls Tryd.prog 33 #[.agg #[.int .u16 p0_0, .int .u16 p0_1, .int .u16 p0_2, .int .u16 p0_3, .int .u16 p0_4, .int .u16 p0_5, .int .u16 p0_6, .int .u16 p0_7, .int .u16 p0_8, .int .u16 p0_9, .int .u16 p0_10, .int .u16 p0_11, .int .u16 p0_12, .int .u8 p0_13, .int .u8 p0_14, .bool p0_15, .bool p0_16, .bool p0_17, .bool p0_18, .int .i64 p0_19], .int .i64 p1] w0 (charabancref11_Tick_33.post M0 w0 r) := by
  unfold charabancref11_Tick_33.f at h
  have h0 : Holds M0 w0 w0 [] := Holds.start ho
  have h0 : Holds M0 w0 w0 [] := h0
  refine calls_of F33 rfl [.agg #[.int .u16 p0_0, .int .u16 p0_1, .int .u16 p0_2, .int .u16 p0_3, .int .u16 p0_4, .int .u16 p0_5, .int .u16 p0_6, .int .u16 p0_7, .int .u16 p0_8, .int .u16 p0_9, .int .u16 p0_10, .int .u16 p0_11, .int .u16 p0_12, .int .u8 p0_13, .int .u8 p0_14, .bool p0_15, .bool p0_16, .bool p0_17, .bool p0_18, .int .i64 p0_19], .int .i64 p1] (by kernel_rfl) ?_
  refine RunsI.go 1 [.c 1, .c 2] (by kernel_rfl) ?_
  refine RunsI.region (by kernel_rfl) ?_
  refine RegI.op (by kernel_rfl) (OpE.box 2 46 [.int .u16 p0_0, .int .u16 p0_1, .int .u16 p0_2, .int .u16 p0_3, .int .u16 p0_4, .int .u16 p0_5, .int .u16 p0_6, .int .u16 p0_7, .int .u16 p0_8, .int .u16 p0_9, .int .u16 p0_10, .int .u16 p0_11, .int .u16 p0_12, .int .u8 p0_13, .int .u8 p0_14, .bool p0_15, .bool p0_16, .bool p0_17, .bool p0_18, .int .i64 p0_19] h0 (by kernel_rfl) (by kernel_rfl) ?_)
  intro w1 b2 h3 hb4 hn5
  refine RegI.op (by kernel_rfl) (OpE.box 4 46 [.int .u16 0, .int .u16 0, .int .u16 0, .int .u16 0, .int .u16 0, .int .u16 0, .int .u16 0, .int .u16 0, .int .u16 0, .int .u16 0, .int .u16 0, .int .u16 0, .int .u16 0, .int .u8 0, .int .u8 0, .bool false, .bool false, .bool false, .bool false, .int .i64 0] h3 (by kernel_rfl) (by kernel_rfl) ?_)
  intro w6 b7 h8 hb9 hn10
  refine RegI.done (by kernel_rfl) ?_
  refine RunsI.go 1 [.c 3, .c 4] (by kernel_rfl) ?_
  refine RunsI.region (by kernel_rfl) ?_
  refine RegI.pure 1 [1, 2, 4, 6] [(1, .int .i64 p1), (2, .pointer (some ⟨b2, 0, none⟩)), (4, .pointer (some ⟨b7, 0, none⟩)), (6, .pointer (some ⟨b2, 14, none⟩))] (by kernel_rfl) ?_
  refine RegI.op (by kernel_rfl) (OpE.loadBox 7 0 5 b2 14 (.int .u8 p0_14) h8 (by kernel_rfl) (by kernel_rfl) rfl (by kernel_rfl) ?_)
  refine RegI.pure 9 [2, 4, 5] [(2, .pointer (some ⟨b2, 0, none⟩)), (4, .pointer (some ⟨b7, 0, none⟩)), (5, .int .i64 (Int.tmod (IntKind.wrap .i64 ((Int.tmod (IntKind.wrap .i64 ((Int.tmod (IntKind.wrap .i64 p0_14) 128) + (Int.tmod p1 128))) 128) + 128)) 128))] (by kernel_rfl) ?_
  refine RegI.done (by kernel_rfl) ?_
  refine RunsI.go 1 [.c 5, .c 6] (by kernel_rfl) ?_
  refine RunsI.region (by kernel_rfl) ?_
  refine RegI.pure 1 [2, 4, 5, 16] [(2, .pointer (some ⟨b2, 0, none⟩)), (4, .pointer (some ⟨b7, 0, none⟩)), (5, .int .i64 (Int.tmod (IntKind.wrap .i64 ((Int.tmod (IntKind.wrap .i64 ((Int.tmod (IntKind.wrap .i64 p0_14) 128) + (Int.tmod p1 128))) 128) + 128)) 128)), (16, .pointer (some ⟨b2, 14, none⟩))] (by kernel_rfl) ?_
  refine RegI.op (by kernel_rfl) (OpE.loadBox 17 0 5 b2 14 (.int .u8 p0_14) h8 (by kernel_rfl) (by kernel_rfl) rfl (by kernel_rfl) ?_)
  refine RegI.pure 7 [2, 4, 23, 24] [(2, .pointer (some ⟨b2, 0, none⟩)), (4, .pointer (some ⟨b7, 0, none⟩)), (23, .int .u8 (IntKind.wrap .u8 (IntKind.wrap .i64 ((IntKind.wrap .i64 ((IntKind.wrap .i64 (Int.tdiv (IntKind.wrap .i64 p0_14) 128)) * 128)) + (Int.tmod (IntKind.wrap .i64 ((Int.tmod (IntKind.wrap .i64 ((Int.tmod (IntKind.wrap .i64 p0_14) 128) + (Int.tmod p1 128))) 128) + 128)) 128))))), (24, .pointer (some ⟨b2, 14, none⟩))] (by kernel_rfl) ?_
  refine RegI.op (by kernel_rfl) (OpE.storeBox 0 5 b2 14 (.int .u8 (IntKind.wrap .u8 (IntKind.wrap .i64 ((IntKind.wrap .i64 ((IntKind.wrap .i64 (Int.tdiv (IntKind.wrap .i64 p0_14) 128)) * 128)) + (Int.tmod (IntKind.wrap .i64 ((Int.tmod (IntKind.wrap .i64 ((Int.tmod (IntKind.wrap .i64 p0_14) 128) + (Int.tmod p1 128))) 128) + 128)) 128))))) [.int .u16 p0_0, .int .u16 p0_1, .int .u16 p0_2, .int .u16 p0_3, .int .u16 p0_4, .int .u16 p0_5, .int .u16 p0_6, .int .u16 p0_7, .int .u16 p0_8, .int .u16 p0_9, .int .u16 p0_10, .int .u16 p0_11, .int .u16 p0_12, .int .u8 p0_13, .int .u8 (IntKind.wrap .u8 (IntKind.wrap .i64 ((IntKind.wrap .i64 ((IntKind.wrap .i64 (Int.tdiv (IntKind.wrap .i64 p0_14) 128)) * 128)) + (Int.tmod (IntKind.wrap .i64 ((Int.tmod (IntKind.wrap .i64 ((Int.tmod (IntKind.wrap .i64 p0_14) 128) + (Int.tmod p1 128))) 128) + 128)) 128)))), .bool p0_15, .bool p0_16, .bool p0_17, .bool p0_18, .int .i64 p0_19] h8 (by kernel_rfl) (by kernel_rfl) rfl (by kernel_rfl) (by kernel_rfl) (by kernel_rfl) ?_)
  intro w11 h12 hk13
  refine RegI.done (by kernel_rfl) ?_
  refine RunsI.go 1 [.c 7, .c 8] (by kernel_rfl) ?_
  refine RunsI.region (by kernel_rfl) ?_
  refine RegI.op (by kernel_rfl) (OpE.loadBox 25 0 46 b2 0 (.agg #[.int .u16 p0_0, .int .u16 p0_1, .int .u16 p0_2, .int .u16 p0_3, .int .u16 p0_4, .int .u16 p0_5, .int .u16 p0_6, .int .u16 p0_7, .int .u16 p0_8, .int .u16 p0_9, .int .u16 p0_10, .int .u16 p0_11, .int .u16 p0_12, .int .u8 p0_13, .int .u8 (IntKind.wrap .u8 (IntKind.wrap .i64 ((IntKind.wrap .i64 ((IntKind.wrap .i64 (Int.tdiv (IntKind.wrap .i64 p0_14) 128)) * 128)) + (Int.tmod (IntKind.wrap .i64 ((Int.tmod (IntKind.wrap .i64 ((Int.tmod (IntKind.wrap .i64 p0_14) 128) + (Int.tmod p1 128))) 128) + 128)) 128)))), .bool p0_15, .bool p0_16, .bool p0_17, .bool p0_18, .int .i64 p0_19]) h12 (by kernel_rfl) (by kernel_rfl) rfl (by kernel_rfl) ?_)
  refine RegI.op (by kernel_rfl) (OpE.storeBox 1 46 b7 0 (.agg #[.int .u16 p0_0, .int .u16 p0_1, .int .u16 p0_2, .int .u16 p0_3, .int .u16 p0_4, .int .u16 p0_5, .int .u16 p0_6, .int .u16 p0_7, .int .u16 p0_8, .int .u16 p0_9, .int .u16 p0_10, .int .u16 p0_11, .int .u16 p0_12, .int .u8 p0_13, .int .u8 (IntKind.wrap .u8 (IntKind.wrap .i64 ((IntKind.wrap .i64 ((IntKind.wrap .i64 (Int.tdiv (IntKind.wrap .i64 p0_14) 128)) * 128)) + (Int.tmod (IntKind.wrap .i64 ((Int.tmod (IntKind.wrap .i64 ((Int.tmod (IntKind.wrap .i64 p0_14) 128) + (Int.tmod p1 128))) 128) + 128)) 128)))), .bool p0_15, .bool p0_16, .bool p0_17, .bool p0_18, .int .i64 p0_19]) [.int .u16 p0_0, .int .u16 p0_1, .int .u16 p0_2, .int .u16 p0_3, .int .u16 p0_4, .int .u16 p0_5, .int .u16 p0_6, .int .u16 p0_7, .int .u16 p0_8, .int .u16 p0_9, .int .u16 p0_10, .int .u16 p0_11, .int .u16 p0_12, .int .u8 p0_13, .int .u8 (IntKind.wrap .u8 (IntKind.wrap .i64 ((IntKind.wrap .i64 ((IntKind.wrap .i64 (Int.tdiv (IntKind.wrap .i64 p0_14) 128)) * 128)) + (Int.tmod (IntKind.wrap .i64 ((Int.tmod (IntKind.wrap .i64 ((Int.tmod (IntKind.wrap .i64 p0_14) 128) + (Int.tmod p1 128))) 128) + 128)) 128)))), .bool p0_15, .bool p0_16, .bool p0_17, .bool p0_18, .int .i64 p0_19] h12 (by kernel_rfl) (by kernel_rfl) rfl (by kernel_rfl) (by kernel_rfl) (by kernel_rfl) ?_)
  intro w14 h15 hk16
  refine RegI.done (by kernel_rfl) ?_
  refine RunsI.toRet (by kernel_rfl) ?_
  refine RetI.valW [.cell 4 46] [.agg #[.int .u16 p0_0, .int .u16 p0_1, .int .u16 p0_2, .int .u16 p0_3, .int .u16 p0_4, .int .u16 p0_5, .int .u16 p0_6, .int .u16 p0_7, .int .u16 p0_8, .int .u16 p0_9, .int .u16 p0_10, .int .u16 p0_11, .int .u16 p0_12, .int .u8 p0_13, .int .u8 (IntKind.wrap .u8 (IntKind.wrap .i64 ((IntKind.wrap .i64 ((IntKind.wrap .i64 (Int.tdiv (IntKind.wrap .i64 p0_14) 128)) * 128)) + (Int.tmod (IntKind.wrap .i64 ((Int.tmod (IntKind.wrap .i64 ((Int.tmod (IntKind.wrap .i64 p0_14) 128) + (Int.tmod p1 128))) 128) + 128)) 128)))), .bool p0_15, .bool p0_16, .bool p0_17, .bool p0_18, .int .i64 p0_19]] (.agg #[.int .u16 p0_0, .int .u16 p0_1, .int .u16 p0_2, .int .u16 p0_3, .int .u16 p0_4, .int .u16 p0_5, .int .u16 p0_6, .int .u16 p0_7, .int .u16 p0_8, .int .u16 p0_9, .int .u16 p0_10, .int .u16 p0_11, .int .u16 p0_12, .int .u8 p0_13, .int .u8 (IntKind.wrap .u8 (IntKind.wrap .i64 ((IntKind.wrap .i64 ((IntKind.wrap .i64 (Int.tdiv (IntKind.wrap .i64 p0_14) 128)) * 128)) + (Int.tmod (IntKind.wrap .i64 ((Int.tmod (IntKind.wrap .i64 ((Int.tmod (IntKind.wrap .i64 p0_14) 128) + (Int.tmod p1 128))) 128) + 128)) 128)))), .bool p0_15, .bool p0_16, .bool p0_17, .bool p0_18, .int .i64 p0_19]) (by kernel_rfl) (ResAt.box 1 46 b7 0 h15 (by kernel_rfl) (by kernel_rfl) rfl (by kernel_rfl) rfl) (by kernel_rfl) ?_
  obtain rfl := Option.some.inj h
  exact ⟨rfl, h15.below⟩
end

/-! ### charabanc/charabancref11.Reset (function 35) -/
section
def charabancref11_Reset_35.post (M0 : Nat → Prop) (w0 : World) (r : Int × Int × Int × Int × Int × Int × Int × Int × Int × Int × Int × Int × Int × Int × Int × Bool × Bool × Bool × Bool × Int) : Ending → World → Prop := fun e w => e = .returned (.agg #[.int .u16 r.1, .int .u16 r.2.1, .int .u16 r.2.2.1, .int .u16 r.2.2.2.1, .int .u16 r.2.2.2.2.1, .int .u16 r.2.2.2.2.2.1, .int .u16 r.2.2.2.2.2.2.1, .int .u16 r.2.2.2.2.2.2.2.1, .int .u16 r.2.2.2.2.2.2.2.2.1, .int .u16 r.2.2.2.2.2.2.2.2.2.1, .int .u16 r.2.2.2.2.2.2.2.2.2.2.1, .int .u16 r.2.2.2.2.2.2.2.2.2.2.2.1, .int .u16 r.2.2.2.2.2.2.2.2.2.2.2.2.1, .int .u8 r.2.2.2.2.2.2.2.2.2.2.2.2.2.1, .int .u8 r.2.2.2.2.2.2.2.2.2.2.2.2.2.2.1, .bool r.2.2.2.2.2.2.2.2.2.2.2.2.2.2.2.1, .bool r.2.2.2.2.2.2.2.2.2.2.2.2.2.2.2.2.1, .bool r.2.2.2.2.2.2.2.2.2.2.2.2.2.2.2.2.2.1, .bool r.2.2.2.2.2.2.2.2.2.2.2.2.2.2.2.2.2.2.1, .int .i64 r.2.2.2.2.2.2.2.2.2.2.2.2.2.2.2.2.2.2.2]) ∧ Below w0.heap.size w0 w
def charabancref11_Reset_35.f (K : Nat) (p0_0 : Int) (p0_1 : Int) (p0_2 : Int) (p0_3 : Int) (p0_4 : Int) (p0_5 : Int) (p0_6 : Int) (p0_7 : Int) (p0_8 : Int) (p0_9 : Int) (p0_10 : Int) (p0_11 : Int) (p0_12 : Int) (p0_13 : Int) (p0_14 : Int) (p0_15 : Bool) (p0_16 : Bool) (p0_17 : Bool) (p0_18 : Bool) (p0_19 : Int) : Option (Int × Int × Int × Int × Int × Int × Int × Int × Int × Int × Int × Int × Int × Int × Int × Bool × Bool × Bool × Bool × Int) := some (p0_0, p0_1, p0_2, p0_3, p0_4, p0_5, p0_6, p0_7, p0_8, p0_9, p0_10, 0, p0_12, 0, 0, false, false, false, false, 0)
set_option maxRecDepth 100000 in
theorem charabancref11_Reset_35_ok (K : Nat) (M0 : Nat → Prop) (w0 : World) (p0_0 : Int) (p0_1 : Int) (p0_2 : Int) (p0_3 : Int) (p0_4 : Int) (p0_5 : Int) (p0_6 : Int) (p0_7 : Int) (p0_8 : Int) (p0_9 : Int) (p0_10 : Int) (p0_11 : Int) (p0_12 : Int) (p0_13 : Int) (p0_14 : Int) (p0_15 : Bool) (p0_16 : Bool) (p0_17 : Bool) (p0_18 : Bool) (p0_19 : Int) (ho : ∀ b, M0 b → b < w0.heap.size) {r : Int × Int × Int × Int × Int × Int × Int × Int × Int × Int × Int × Int × Int × Int × Int × Bool × Bool × Bool × Bool × Int} (h : charabancref11_Reset_35.f K p0_0 p0_1 p0_2 p0_3 p0_4 p0_5 p0_6 p0_7 p0_8 p0_9 p0_10 p0_11 p0_12 p0_13 p0_14 p0_15 p0_16 p0_17 p0_18 p0_19 = some r) :
    Calls Tryd.prog 35 #[.agg #[.int .u16 p0_0, .int .u16 p0_1, .int .u16 p0_2, .int .u16 p0_3, .int .u16 p0_4, .int .u16 p0_5, .int .u16 p0_6, .int .u16 p0_7, .int .u16 p0_8, .int .u16 p0_9, .int .u16 p0_10, .int .u16 p0_11, .int .u16 p0_12, .int .u8 p0_13, .int .u8 p0_14, .bool p0_15, .bool p0_16, .bool p0_17, .bool p0_18, .int .i64 p0_19]] w0 (charabancref11_Reset_35.post M0 w0 r) := by
  unfold charabancref11_Reset_35.f at h
  have h0 : Holds M0 w0 w0 [] := Holds.start ho
  have h0 : Holds M0 w0 w0 [] := h0
  refine calls_of F35 rfl [.agg #[.int .u16 p0_0, .int .u16 p0_1, .int .u16 p0_2, .int .u16 p0_3, .int .u16 p0_4, .int .u16 p0_5, .int .u16 p0_6, .int .u16 p0_7, .int .u16 p0_8, .int .u16 p0_9, .int .u16 p0_10, .int .u16 p0_11, .int .u16 p0_12, .int .u8 p0_13, .int .u8 p0_14, .bool p0_15, .bool p0_16, .bool p0_17, .bool p0_18, .int .i64 p0_19]] (by kernel_rfl) ?_
  refine RunsI.go 1 [.c 1, .c 2] (by kernel_rfl) ?_
  refine RunsI.region (by kernel_rfl) ?_
  refine RegI.op (by kernel_rfl) (OpE.box 1 46 [.int .u16 p0_0, .int .u16 p0_1, .int .u16 p0_2, .int .u16 p0_3, .int .u16 p0_4, .int .u16 p0_5, .int .u16 p0_6, .int .u16 p0_7, .int .u16 p0_8, .int .u16 p0_9, .int .u16 p0_10, .int .u16 p0_11, .int .u16 p0_12, .int .u8 p0_13, .int .u8 p0_14, .bool p0_15, .bool p0_16, .bool p0_17, .bool p0_18, .int .i64 p0_19] h0 (by kernel_rfl) (by kernel_rfl) ?_)
  intro w1 b2 h3 hb4 hn5
  refine RegI.op (by kernel_rfl) (OpE.box 2 46 [.int .u16 0, .int .u16 0, .int .u16 0, .int .u16 0, .int .u16 0, .int .u16 0, .int .u16 0, .int .u16 0, .int .u16 0, .int .u16 0, .int .u16 0, .int .u16 0, .int .u16 0, .int .u8 0, .int .u8 0, .bool false, .bool false, .bool false, .bool false, .int .i64 0] h3 (by kernel_rfl) (by kernel_rfl) ?_)
  intro w6 b7 h8 hb9 hn10
  refine RegI.done (by kernel_rfl) ?_
  refine RunsI.go 1 [.c 3, .c 4] (by kernel_rfl) ?_
  refine RunsI.region (by kernel_rfl) ?_
  refine RegI.pure 1 [1, 2, 3] [(1, .pointer (some ⟨b2, 0, none⟩)), (2, .pointer (some ⟨b7, 0, none⟩)), (3, .pointer (some ⟨b2, 11, none⟩))] (by kernel_rfl) ?_
  refine RegI.op (by kernel_rfl) (OpE.storeBox 0 22 b2 11 (.int .u16 0) [.int .u16 p0_0, .int .u16 p0_1, .int .u16 p0_2, .int .u16 p0_3, .int .u16 p0_4, .int .u16 p0_5, .int .u16 p0_6, .int .u16 p0_7, .int .u16 p0_8, .int .u16 p0_9, .int .u16 p0_10, .int .u16 0, .int .u16 p0_12, .int .u8 p0_13, .int .u8 p0_14, .bool p0_15, .bool p0_16, .bool p0_17, .bool p0_18, .int .i64 p0_19] h8 (by kernel_rfl) (by kernel_rfl) rfl (by kernel_rfl) (by kernel_rfl) (by kernel_rfl) ?_)
  intro w11 h12 hk13
  refine RegI.done (by kernel_rfl) ?_
  refine RunsI.go 1 [.c 5, .c 6] (by kernel_rfl) ?_
  refine RunsI.region (by kernel_rfl) ?_
  refine RegI.pure 1 [1, 2, 4] [(1, .pointer (some ⟨b2, 0, none⟩)), (2, .pointer (some ⟨b7, 0, none⟩)), (4, .pointer (some ⟨b2, 13, none⟩))] (by kernel_rfl) ?_
  refine RegI.op (by kernel_rfl) (OpE.storeBox 0 5 b2 13 (.int .u8 0) [.int .u16 p0_0, .int .u16 p0_1, .int .u16 p0_2, .int .u16 p0_3, .int .u16 p0_4, .int .u16 p0_5, .int .u16 p0_6, .int .u16 p0_7, .int .u16 p0_8, .int .u16 p0_9, .int .u16 p0_10, .int .u16 0, .int .u16 p0_12, .int .u8 0, .int .u8 p0_14, .bool p0_15, .bool p0_16, .bool p0_17, .bool p0_18, .int .i64 p0_19] h12 (by kernel_rfl) (by kernel_rfl) rfl (by kernel_rfl) (by kernel_rfl) (by kernel_rfl) ?_)
  intro w14 h15 hk16
  refine RegI.done (by kernel_rfl) ?_
  refine RunsI.go 1 [.c 7, .c 8] (by kernel_rfl) ?_
  refine RunsI.region (by kernel_rfl) ?_
  refine RegI.pure 1 [1, 2, 5] [(1, .pointer (some ⟨b2, 0, none⟩)), (2, .pointer (some ⟨b7, 0, none⟩)), (5, .pointer (some ⟨b2, 14, none⟩))] (by kernel_rfl) ?_
  refine RegI.op (by kernel_rfl) (OpE.storeBox 0 5 b2 14 (.int .u8 0) [.int .u16 p0_0, .int .u16 p0_1, .int .u16 p0_2, .int .u16 p0_3, .int .u16 p0_4, .int .u16 p0_5, .int .u16 p0_6, .int .u16 p0_7, .int .u16 p0_8, .int .u16 p0_9, .int .u16 p0_10, .int .u16 0, .int .u16 p0_12, .int .u8 0, .int .u8 0, .bool p0_15, .bool p0_16, .bool p0_17, .bool p0_18, .int .i64 p0_19] h15 (by kernel_rfl) (by kernel_rfl) rfl (by kernel_rfl) (by kernel_rfl) (by kernel_rfl) ?_)
  intro w17 h18 hk19
  refine RegI.done (by kernel_rfl) ?_
  refine RunsI.go 1 [.c 9, .c 10] (by kernel_rfl) ?_
  refine RunsI.region (by kernel_rfl) ?_
  refine RegI.pure 1 [1, 2, 6] [(1, .pointer (some ⟨b2, 0, none⟩)), (2, .pointer (some ⟨b7, 0, none⟩)), (6, .pointer (some ⟨b2, 19, none⟩))] (by kernel_rfl) ?_
  refine RegI.op (by kernel_rfl) (OpE.storeBox 0 3 b2 19 (.int .i64 0) [.int .u16 p0_0, .int .u16 p0_1, .int .u16 p0_2, .int .u16 p0_3, .int .u16 p0_4, .int .u16 p0_5, .int .u16 p0_6, .int .u16 p0_7, .int .u16 p0_8, .int .u16 p0_9, .int .u16 p0_10, .int .u16 0, .int .u16 p0_12, .int .u8 0, .int .u8 0, .bool p0_15, .bool p0_16, .bool p0_17, .bool p0_18, .int .i64 0] h18 (by kernel_rfl) (by kernel_rfl) rfl (by kernel_rfl) (by kernel_rfl) (by kernel_rfl) ?_)
  intro w20 h21 hk22
  refine RegI.done (by kernel_rfl) ?_
  refine RunsI.go 1 [.c 11, .c 12] (by kernel_rfl) ?_
  refine RunsI.region (by kernel_rfl) ?_
  refine RegI.pure 1 [1, 2, 7] [(1, .pointer (some ⟨b2, 0, none⟩)), (2, .pointer (some ⟨b7, 0, none⟩)), (7, .pointer (some ⟨b2, 15, none⟩))] (by kernel_rfl) ?_
  refine RegI.op (by kernel_rfl) (OpE.storeBox 0 4 b2 15 (.bool false) [.int .u16 p0_0, .int .u16 p0_1, .int .u16 p0_2, .int .u16 p0_3, .int .u16 p0_4, .int .u16 p0_5, .int .u16 p0_6, .int .u16 p0_7, .int .u16 p0_8, .int .u16 p0_9, .int .u16 p0_10, .int .u16 0, .int .u16 p0_12, .int .u8 0, .int .u8 0, .bool false, .bool p0_16, .bool p0_17, .bool p0_18, .int .i64 0] h21 (by kernel_rfl) (by kernel_rfl) rfl (by kernel_rfl) (by kernel_rfl) (by kernel_rfl) ?_)
  intro w23 h24 hk25
  refine RegI.done (by kernel_rfl) ?_
  refine RunsI.go 1 [.c 13, .c 14] (by kernel_rfl) ?_
  refine RunsI.region (by kernel_rfl) ?_
  refine RegI.pure 1 [1, 2, 8] [(1, .pointer (some ⟨b2, 0, none⟩)), (2, .pointer (some ⟨b7, 0, none⟩)), (8, .pointer (some ⟨b2, 16, none⟩))] (by kernel_rfl) ?_
  refine RegI.op (by kernel_rfl) (OpE.storeBox 0 4 b2 16 (.bool false) [.int .u16 p0_0, .int .u16 p0_1, .int .u16 p0_2, .int .u16 p0_3, .int .u16 p0_4, .int .u16 p0_5, .int .u16 p0_6, .int .u16 p0_7, .int .u16 p0_8, .int .u16 p0_9, .int .u16 p0_10, .int .u16 0, .int .u16 p0_12, .int .u8 0, .int .u8 0, .bool false, .bool false, .bool p0_17, .bool p0_18, .int .i64 0] h24 (by kernel_rfl) (by kernel_rfl) rfl (by kernel_rfl) (by kernel_rfl) (by kernel_rfl) ?_)
  intro w26 h27 hk28
  refine RegI.done (by kernel_rfl) ?_
  refine RunsI.go 1 [.c 15, .c 16] (by kernel_rfl) ?_
  refine RunsI.region (by kernel_rfl) ?_
  refine RegI.pure 1 [1, 2, 9] [(1, .pointer (some ⟨b2, 0, none⟩)), (2, .pointer (some ⟨b7, 0, none⟩)), (9, .pointer (some ⟨b2, 17, none⟩))] (by kernel_rfl) ?_
  refine RegI.op (by kernel_rfl) (OpE.storeBox 0 4 b2 17 (.bool false) [.int .u16 p0_0, .int .u16 p0_1, .int .u16 p0_2, .int .u16 p0_3, .int .u16 p0_4, .int .u16 p0_5, .int .u16 p0_6, .int .u16 p0_7, .int .u16 p0_8, .int .u16 p0_9, .int .u16 p0_10, .int .u16 0, .int .u16 p0_12, .int .u8 0, .int .u8 0, .bool false, .bool false, .bool false, .bool p0_18, .int .i64 0] h27 (by kernel_rfl) (by kernel_rfl) rfl (by kernel_rfl) (by kernel_rfl) (by kernel_rfl) ?_)
  intro w29 h30 hk31
  refine RegI.done (by kernel_rfl) ?_
  refine RunsI.go 1 [.c 17, .c 18] (by kernel_rfl) ?_
  refine RunsI.region (by kernel_rfl) ?_
  refine RegI.pure 1 [1, 2, 10] [(1, .pointer (some ⟨b2, 0, none⟩)), (2, .pointer (some ⟨b7, 0, none⟩)), (10, .pointer (some ⟨b2, 18, none⟩))] (by kernel_rfl) ?_
  refine RegI.op (by kernel_rfl) (OpE.storeBox 0 4 b2 18 (.bool false) [.int .u16 p0_0, .int .u16 p0_1, .int .u16 p0_2, .int .u16 p0_3, .int .u16 p0_4, .int .u16 p0_5, .int .u16 p0_6, .int .u16 p0_7, .int .u16 p0_8, .int .u16 p0_9, .int .u16 p0_10, .int .u16 0, .int .u16 p0_12, .int .u8 0, .int .u8 0, .bool false, .bool false, .bool false, .bool false, .int .i64 0] h30 (by kernel_rfl) (by kernel_rfl) rfl (by kernel_rfl) (by kernel_rfl) (by kernel_rfl) ?_)
  intro w32 h33 hk34
  refine RegI.done (by kernel_rfl) ?_
  refine RunsI.go 1 [.c 19, .c 20] (by kernel_rfl) ?_
  refine RunsI.region (by kernel_rfl) ?_
  refine RegI.op (by kernel_rfl) (OpE.loadBox 11 0 46 b2 0 (.agg #[.int .u16 p0_0, .int .u16 p0_1, .int .u16 p0_2, .int .u16 p0_3, .int .u16 p0_4, .int .u16 p0_5, .int .u16 p0_6, .int .u16 p0_7, .int .u16 p0_8, .int .u16 p0_9, .int .u16 p0_10, .int .u16 0, .int .u16 p0_12, .int .u8 0, .int .u8 0, .bool false, .bool false, .bool false, .bool false, .int .i64 0]) h33 (by kernel_rfl) (by kernel_rfl) rfl (by kernel_rfl) ?_)
  refine RegI.op (by kernel_rfl) (OpE.storeBox 1 46 b7 0 (.agg #[.int .u16 p0_0, .int .u16 p0_1, .int .u16 p0_2, .int .u16 p0_3, .int .u16 p0_4, .int .u16 p0_5, .int .u16 p0_6, .int .u16 p0_7, .int .u16 p0_8, .int .u16 p0_9, .int .u16 p0_10, .int .u16 0, .int .u16 p0_12, .int .u8 0, .int .u8 0, .bool false, .bool false, .bool false, .bool false, .int .i64 0]) [.int .u16 p0_0, .int .u16 p0_1, .int .u16 p0_2, .int .u16 p0_3, .int .u16 p0_4, .int .u16 p0_5, .int .u16 p0_6, .int .u16 p0_7, .int .u16 p0_8, .int .u16 p0_9, .int .u16 p0_10, .int .u16 0, .int .u16 p0_12, .int .u8 0, .int .u8 0, .bool false, .bool false, .bool false, .bool false, .int .i64 0] h33 (by kernel_rfl) (by kernel_rfl) rfl (by kernel_rfl) (by kernel_rfl) (by kernel_rfl) ?_)
  intro w35 h36 hk37
  refine RegI.done (by kernel_rfl) ?_
  refine RunsI.toRet (by kernel_rfl) ?_
  refine RetI.valW [.cell 2 46] [.agg #[.int .u16 p0_0, .int .u16 p0_1, .int .u16 p0_2, .int .u16 p0_3, .int .u16 p0_4, .int .u16 p0_5, .int .u16 p0_6, .int .u16 p0_7, .int .u16 p0_8, .int .u16 p0_9, .int .u16 p0_10, .int .u16 0, .int .u16 p0_12, .int .u8 0, .int .u8 0, .bool false, .bool false, .bool false, .bool false, .int .i64 0]] (.agg #[.int .u16 p0_0, .int .u16 p0_1, .int .u16 p0_2, .int .u16 p0_3, .int .u16 p0_4, .int .u16 p0_5, .int .u16 p0_6, .int .u16 p0_7, .int .u16 p0_8, .int .u16 p0_9, .int .u16 p0_10, .int .u16 0, .int .u16 p0_12, .int .u8 0, .int .u8 0, .bool false, .bool false, .bool false, .bool false, .int .i64 0]) (by kernel_rfl) (ResAt.box 1 46 b7 0 h36 (by kernel_rfl) (by kernel_rfl) rfl (by kernel_rfl) rfl) (by kernel_rfl) ?_
  obtain rfl := Option.some.inj h
  exact ⟨rfl, h36.below⟩
end

/-! ### charabanc/charabancref09.digits (function 74) -/
section
def charabancref09_digits_74.post (M0 : Nat → Prop) (w0 : World) (r : ByteArray) : Ending → World → Prop := fun e w => e = .returned (.string r) ∧ Below w0.heap.size w0 w
def charabancref09_digits_74.l0 (K : Nat) (p0 : Int) (p1 : Int) (p2 : Int) : Nat → Int → ByteArray → Option ByteArray
  | 0, _, _ => none
  | k + 1, t1, t2 => Let (fun (t5 : Bool) => cond t5 (cond (p1 != 0) (cond (cutR (Int.tmod t1 p1) (IntKind.wrap .i64 ((Int.tmod t1 p1) + 1)) (⟨#[48, 49, 50, 51, 52, 53, 54, 55, 56, 57, 97, 98, 99, 100, 101, 102]⟩ : ByteArray).size) (cond (mayCat (strCut (⟨#[48, 49, 50, 51, 52, 53, 54, 55, 56, 57, 97, 98, 99, 100, 101, 102]⟩ : ByteArray) (Int.tmod t1 p1) (IntKind.wrap .i64 ((Int.tmod t1 p1) + 1))).size t2.size) (charabancref09_digits_74.l0 K p0 p1 p2 k (IntKind.wrap .i64 (Int.tdiv t1 p1)) ((strCut (⟨#[48, 49, 50, 51, 52, 53, 54, 55, 56, 57, 97, 98, 99, 100, 101, 102]⟩ : ByteArray) (Int.tmod t1 p1) (IntKind.wrap .i64 ((Int.tmod t1 p1) + 1))) ++ t2)) none) none) none) (some t2)) (fun j8 => cond (decide (t1 > 0)) (j8 true) (cond (decide ((t2.size : Int) < p2)) (j8 true) (j8 ((ByteArray.toList t2) == (ByteArray.toList (⟨#[]⟩ : ByteArray))))))
set_option maxRecDepth 100000 in
theorem charabancref09_digits_74.l0_ok (K : Nat) (M0 : Nat → Prop) (w0 : World) (p0 : Int) (p1 : Int) (p2 : Int) (R : Ending → World → Prop) (x : ByteArray) (hk0 : ∀ (t22 : ByteArray) (w1 : World), x = t22 → Holds M0 w0 w1 [] → RunsI F74 [.c 19] [(8, .string t22)] w1 R) :
    ∀ (k : Nat) (t1 : Int) (t2 : ByteArray) (w : World), charabancref09_digits_74.l0 K p0 p1 p2 k t1 t2 = some x → Holds M0 w0 w [] → RunsI F74 [.c 9, .lp 9, .blk 0, .c 19] [(0, .int .i64 t1), (1, .int .i64 p1), (2, .int .i64 p2), (7, .string (⟨#[48, 49, 50, 51, 52, 53, 54, 55, 56, 57, 97, 98, 99, 100, 101, 102]⟩ : ByteArray)), (8, .string t2)] w R := by
  intro k
  induction k with
  | zero => intro t1 t2 w h hH; exact absurd h (by simp [charabancref09_digits_74.l0])
  | succ k ih =>
    intro t1 t2 w h hH
    rw [charabancref09_digits_74.l0.eq_2] at h
    refine RunsI.go 1 [.c 10, .c 15, .lp 9, .blk 0, .c 19] (by kernel_rfl) ?_
    refine RunsI.go 1 [.c 11, .c 12, .c 15, .lp 9, .blk 0, .c 19] (by kernel_rfl) ?_
    refine RunsI.region (by kernel_rfl) ?_
    refine RegI.pure 3 [0, 1, 2, 7, 8, 11] [(0, .int .i64 t1), (1, .int .i64 p1), (2, .int .i64 p2), (7, .string (⟨#[48, 49, 50, 51, 52, 53, 54, 55, 56, 57, 97, 98, 99, 100, 101, 102]⟩ : ByteArray)), (8, .string t2), (11, .bool (decide (t1 > 0)))] (by kernel_rfl) ?_
    obtain ⟨j8, hJ9, h⟩ := of_let h
    have hj10 : ∀ (t5 : Bool) (w7 : World), j8 t5 = some x → Holds M0 w0 w7 [] → RegI F74 11 [.c 12, .c 15, .lp 9, .blk 0, .c 19] 12 [(0, .int .i64 t1), (1, .int .i64 p1), (2, .int .i64 p2), (7, .string (⟨#[48, 49, 50, 51, 52, 53, 54, 55, 56, 57, 97, 98, 99, 100, 101, 102]⟩ : ByteArray)), (8, .string t2), (20, .bool t5)] w7 R := by
      intro t5 w7 h h6
      rw [hJ9] at h
      clear hJ9
      dsimp only at h
      refine RegI.done (by kernel_rfl) ?_
      rcases of_cond h with ⟨hc11, h⟩ | ⟨hc11, h⟩
      · skip
        refine RunsI.fix 20 true hc11 (by kernel_rfl) (by kernel_rfl) ?_
        refine RunsI.cond true 13 (by kernel_rfl) ?_
        refine RunsI.go 1 [.c 15, .lp 9, .blk 0, .c 19] (by kernel_rfl) ?_
        refine RunsI.go 2 [.c 17, .c 18, .blk 1, .lp 9, .blk 0, .c 19] (by kernel_rfl) ?_
        refine RunsI.any 12 (by kernel_rfl) (by kernel_rfl) (by kernel_rfl) (Kp ([] : List Nat) (World.drew w7)) ?_
        have h13 := h6.drew
        generalize World.drew w7 = w12 at h13 ⊢
        have hS14 := Kp.refl ([] : List Nat) w12
        refine AnyE.pure 0 21 (.string (⟨#[48, 49, 50, 51, 52, 53, 54, 55, 56, 57, 97, 98, 99, 100, 101, 102]⟩ : ByteArray)) (by kernel_rfl) hS14 (fun _ => by kernel_rfl) ?_
        refine AnyE.pure 1 22 (.int .i64 t1) (by kernel_rfl) hS14 (fun _ => by kernel_rfl) ?_
        refine AnyE.pure 2 23 (.int .i64 p1) (by kernel_rfl) hS14 (fun _ => by kernel_rfl) ?_
        obtain ⟨hc16, h⟩ := of_cond0 h
        refine AnyE.run 3 24 (.int .i64 (Int.tmod t1 p1)) (by kernel_rfl) hS14 (fun _ hk => run_rem (k := .i64) (a := t1) (b := p1) (by kernel_rfl) hc16) ?_
        refine AnyE.pure 4 25 (.int .i64 t1) (by kernel_rfl) hS14 (fun _ => by kernel_rfl) ?_
        refine AnyE.pure 5 26 (.int .i64 p1) (by kernel_rfl) hS14 (fun _ => by kernel_rfl) ?_
        refine AnyE.run 6 27 (.int .i64 (Int.tmod t1 p1)) (by kernel_rfl) hS14 (fun _ hk => run_rem (k := .i64) (a := t1) (b := p1) (by kernel_rfl) hc16) ?_
        refine AnyE.pure 7 28 (.int .i64 (IntKind.wrap .i64 ((Int.tmod t1 p1) + 1))) (by kernel_rfl) hS14 (fun _ => by kernel_rfl) ?_
        obtain ⟨hc17, h⟩ := of_cond0 h
        refine AnyE.run 8 29 (.string (strCut (⟨#[48, 49, 50, 51, 52, 53, 54, 55, 56, 57, 97, 98, 99, 100, 101, 102]⟩ : ByteArray) (Int.tmod t1 p1) (IntKind.wrap .i64 ((Int.tmod t1 p1) + 1)))) (by kernel_rfl) hS14 (fun _ hk => run_strCut (T := 9) (s := (⟨#[48, 49, 50, 51, 52, 53, 54, 55, 56, 57, 97, 98, 99, 100, 101, 102]⟩ : ByteArray)) (lo := (some (Int.tmod t1 p1))) (hi := (some (IntKind.wrap .i64 ((Int.tmod t1 p1) + 1)))) (by kernel_rfl) (by kernel_rfl) hc17) ?_
        refine AnyE.pure 9 30 (.string t2) (by kernel_rfl) hS14 (fun _ => by kernel_rfl) ?_
        obtain ⟨hc18, h⟩ := of_cond0 h
        refine AnyE.run 10 31 (.string ((strCut (⟨#[48, 49, 50, 51, 52, 53, 54, 55, 56, 57, 97, 98, 99, 100, 101, 102]⟩ : ByteArray) (Int.tmod t1 p1) (IntKind.wrap .i64 ((Int.tmod t1 p1) + 1))) ++ t2)) (by kernel_rfl) hS14 (fun _ hk => run_cat (a := (strCut (⟨#[48, 49, 50, 51, 52, 53, 54, 55, 56, 57, 97, 98, 99, 100, 101, 102]⟩ : ByteArray) (Int.tmod t1 p1) (IntKind.wrap .i64 ((Int.tmod t1 p1) + 1)))) (b := t2) (by kernel_rfl) hc18) ?_
        refine AnyE.pure 11 8 (.string ((strCut (⟨#[48, 49, 50, 51, 52, 53, 54, 55, 56, 57, 97, 98, 99, 100, 101, 102]⟩ : ByteArray) (Int.tmod t1 p1) (IntKind.wrap .i64 ((Int.tmod t1 p1) + 1))) ++ t2)) (by kernel_rfl) hS14 (fun _ => by kernel_rfl) ?_
        refine AnyE.done (by kernel_rfl) (fun w19 hu20 => ?_)
        have h21 := h13.call hu20
        refine RunsI.only [0, 1, 2, 7, 8] [(0, .int .i64 t1), (1, .int .i64 p1), (2, .int .i64 p2), (7, .string (⟨#[48, 49, 50, 51, 52, 53, 54, 55, 56, 57, 97, 98, 99, 100, 101, 102]⟩ : ByteArray)), (8, .string ((strCut (⟨#[48, 49, 50, 51, 52, 53, 54, 55, 56, 57, 97, 98, 99, 100, 101, 102]⟩ : ByteArray) (Int.tmod t1 p1) (IntKind.wrap .i64 ((Int.tmod t1 p1) + 1))) ++ t2))] (by kernel_rfl) (by kernel_rfl) ?_
        refine RunsI.region (by kernel_rfl) ?_
        refine RegI.pure 2 [1, 2, 7, 8, 32, 33] [(1, .int .i64 p1), (2, .int .i64 p2), (7, .string (⟨#[48, 49, 50, 51, 52, 53, 54, 55, 56, 57, 97, 98, 99, 100, 101, 102]⟩ : ByteArray)), (8, .string ((strCut (⟨#[48, 49, 50, 51, 52, 53, 54, 55, 56, 57, 97, 98, 99, 100, 101, 102]⟩ : ByteArray) (Int.tmod t1 p1) (IntKind.wrap .i64 ((Int.tmod t1 p1) + 1))) ++ t2)), (32, .int .i64 t1), (33, .int .i64 p1)] (by kernel_rfl) ?_
        refine RegI.op (by kernel_rfl) (OpE.run 34 (by kernel_rfl) (run_quo (k := .i64) (a := t1) (b := p1) (by kernel_rfl) hc16) ?_)
        refine RegI.pure 1 [0, 1, 2, 7, 8] [(0, .int .i64 (IntKind.wrap .i64 (Int.tdiv t1 p1))), (1, .int .i64 p1), (2, .int .i64 p2), (7, .string (⟨#[48, 49, 50, 51, 52, 53, 54, 55, 56, 57, 97, 98, 99, 100, 101, 102]⟩ : ByteArray)), (8, .string ((strCut (⟨#[48, 49, 50, 51, 52, 53, 54, 55, 56, 57, 97, 98, 99, 100, 101, 102]⟩ : ByteArray) (Int.tmod t1 p1) (IntKind.wrap .i64 ((Int.tmod t1 p1) + 1))) ++ t2))] (by kernel_rfl) ?_
        refine RegI.done (by kernel_rfl) ?_
        refine RunsI.go 2 [.c 9, .lp 9, .blk 0, .c 19] (by kernel_rfl) ?_
        refine RunsI.only [0, 1, 2, 7, 8] [(0, .int .i64 (IntKind.wrap .i64 (Int.tdiv t1 p1))), (1, .int .i64 p1), (2, .int .i64 p2), (7, .string (⟨#[48, 49, 50, 51, 52, 53, 54, 55, 56, 57, 97, 98, 99, 100, 101, 102]⟩ : ByteArray)), (8, .string ((strCut (⟨#[48, 49, 50, 51, 52, 53, 54, 55, 56, 57, 97, 98, 99, 100, 101, 102]⟩ : ByteArray) (Int.tmod t1 p1) (IntKind.wrap .i64 ((Int.tmod t1 p1) + 1))) ++ t2))] (by kernel_rfl) (by kernel_rfl) ?_
        exact ih (IntKind.wrap .i64 (Int.tdiv t1 p1)) ((strCut (⟨#[48, 49, 50, 51, 52, 53, 54, 55, 56, 57, 97, 98, 99, 100, 101, 102]⟩ : ByteArray) (Int.tmod t1 p1) (IntKind.wrap .i64 ((Int.tmod t1 p1) + 1))) ++ t2) w19 h (h21.pick [] (by decide))
      · skip
        refine RunsI.fix 20 false hc11 (by kernel_rfl) (by kernel_rfl) ?_
        refine RunsI.cond false 14 (by kernel_rfl) ?_
        refine RunsI.go 1 [.c 19] (by kernel_rfl) ?_
        refine RunsI.only [8] [(8, .string t2)] (by kernel_rfl) (by kernel_rfl) ?_
        exact hk0 t2 w7 (Option.some.inj h).symm (h6.pick [] (by decide))
    clear hJ9
    rcases of_cond h with ⟨hc3, h⟩ | ⟨hc3, h⟩
    · skip
      refine RegI.fix 11 true hc3 (by kernel_rfl) (by kernel_rfl) ?_
      refine RegI.pure 9 [0, 1, 2, 7, 8, 20] [(0, .int .i64 t1), (1, .int .i64 p1), (2, .int .i64 p2), (7, .string (⟨#[48, 49, 50, 51, 52, 53, 54, 55, 56, 57, 97, 98, 99, 100, 101, 102]⟩ : ByteArray)), (8, .string t2), (20, .bool true)] (by kernel_rfl) ?_
      refine RegI.only [0, 1, 2, 7, 8, 20] [(0, .int .i64 t1), (1, .int .i64 p1), (2, .int .i64 p2), (7, .string (⟨#[48, 49, 50, 51, 52, 53, 54, 55, 56, 57, 97, 98, 99, 100, 101, 102]⟩ : ByteArray)), (8, .string t2), (20, .bool true)] (by kernel_rfl) (by kernel_rfl) ?_
      exact hj10 true w h (hH.pick [] (by decide))
    · skip
      refine RegI.fix 11 false hc3 (by kernel_rfl) (by kernel_rfl) ?_
      refine RegI.pure 6 [0, 1, 2, 7, 8, 17] [(0, .int .i64 t1), (1, .int .i64 p1), (2, .int .i64 p2), (7, .string (⟨#[48, 49, 50, 51, 52, 53, 54, 55, 56, 57, 97, 98, 99, 100, 101, 102]⟩ : ByteArray)), (8, .string t2), (17, .bool (decide ((t2.size : Int) < p2)))] (by kernel_rfl) ?_
      rcases of_cond h with ⟨hc4, h⟩ | ⟨hc4, h⟩
      · skip
        refine RegI.fix 17 true hc4 (by kernel_rfl) (by kernel_rfl) ?_
        refine RegI.pure 3 [0, 1, 2, 7, 8, 20] [(0, .int .i64 t1), (1, .int .i64 p1), (2, .int .i64 p2), (7, .string (⟨#[48, 49, 50, 51, 52, 53, 54, 55, 56, 57, 97, 98, 99, 100, 101, 102]⟩ : ByteArray)), (8, .string t2), (20, .bool true)] (by kernel_rfl) ?_
        refine RegI.only [0, 1, 2, 7, 8, 20] [(0, .int .i64 t1), (1, .int .i64 p1), (2, .int .i64 p2), (7, .string (⟨#[48, 49, 50, 51, 52, 53, 54, 55, 56, 57, 97, 98, 99, 100, 101, 102]⟩ : ByteArray)), (8, .string t2), (20, .bool true)] (by kernel_rfl) (by kernel_rfl) ?_
        exact hj10 true w h (hH.pick [] (by decide))
      · skip
        refine RegI.fix 17 false hc4 (by kernel_rfl) (by kernel_rfl) ?_
        refine RegI.pure 3 [0, 1, 2, 7, 8, 20] [(0, .int .i64 t1), (1, .int .i64 p1), (2, .int .i64 p2), (7, .string (⟨#[48, 49, 50, 51, 52, 53, 54, 55, 56, 57, 97, 98, 99, 100, 101, 102]⟩ : ByteArray)), (8, .string t2), (20, .bool ((ByteArray.toList t2) == (ByteArray.toList (⟨#[]⟩ : ByteArray))))] (by kernel_rfl) ?_
        refine RegI.only [0, 1, 2, 7, 8, 20] [(0, .int .i64 t1), (1, .int .i64 p1), (2, .int .i64 p2), (7, .string (⟨#[48, 49, 50, 51, 52, 53, 54, 55, 56, 57, 97, 98, 99, 100, 101, 102]⟩ : ByteArray)), (8, .string t2), (20, .bool ((ByteArray.toList t2) == (ByteArray.toList (⟨#[]⟩ : ByteArray))))] (by kernel_rfl) (by kernel_rfl) ?_
        exact hj10 ((ByteArray.toList t2) == (ByteArray.toList (⟨#[]⟩ : ByteArray))) w h (hH.pick [] (by decide))
def charabancref09_digits_74.f (K : Nat) (p0 : Int) (p1 : Int) (p2 : Int) : Option ByteArray := (charabancref09_digits_74.l0 K p0 p1 p2 K p0 (⟨#[]⟩ : ByteArray)).bind (fun t25 => some t25)
set_option maxRecDepth 100000 in
theorem charabancref09_digits_74_ok (K : Nat) (M0 : Nat → Prop) (w0 : World) (p0 : Int) (p1 : Int) (p2 : Int) (ho : ∀ b, M0 b → b < w0.heap.size) {r : ByteArray} (h : charabancref09_digits_74.f K p0 p1 p2 = some r) :
    Calls Tryd.prog 74 #[.int .i64 p0, .int .i64 p1, .int .i64 p2] w0 (charabancref09_digits_74.post M0 w0 r) := by
  unfold charabancref09_digits_74.f at h
  have h0 : Holds M0 w0 w0 [] := Holds.start ho
  have h0 : Holds M0 w0 w0 [] := h0
  refine calls_of F74 rfl [.int .i64 p0, .int .i64 p1, .int .i64 p2] (by kernel_rfl) ?_
  refine RunsI.go 1 [.c 1, .c 2] (by kernel_rfl) ?_
  refine RunsI.region (by kernel_rfl) ?_
  refine RegI.pure 1 [0, 1, 2] [(0, .int .i64 p0), (1, .int .i64 p1), (2, .int .i64 p2)] (by kernel_rfl) ?_
  refine RegI.done (by kernel_rfl) ?_
  refine RunsI.go 1 [.c 3, .c 4] (by kernel_rfl) ?_
  refine RunsI.region (by kernel_rfl) ?_
  refine RegI.pure 1 [0, 1, 2, 7] [(0, .int .i64 p0), (1, .int .i64 p1), (2, .int .i64 p2), (7, .string (⟨#[48, 49, 50, 51, 52, 53, 54, 55, 56, 57, 97, 98, 99, 100, 101, 102]⟩ : ByteArray))] (by kernel_rfl) ?_
  refine RegI.done (by kernel_rfl) ?_
  refine RunsI.go 1 [.c 5, .c 6] (by kernel_rfl) ?_
  refine RunsI.region (by kernel_rfl) ?_
  refine RegI.pure 1 [0, 1, 2, 7, 8] [(0, .int .i64 p0), (1, .int .i64 p1), (2, .int .i64 p2), (7, .string (⟨#[48, 49, 50, 51, 52, 53, 54, 55, 56, 57, 97, 98, 99, 100, 101, 102]⟩ : ByteArray)), (8, .string (⟨#[]⟩ : ByteArray))] (by kernel_rfl) ?_
  refine RegI.done (by kernel_rfl) ?_
  refine RunsI.go 3 [.c 9, .lp 9, .blk 0, .c 19] (by kernel_rfl) ?_
  obtain ⟨x23, hx24, h⟩ := of_bind h
  refine RunsI.only [0, 1, 2, 7, 8] [(0, .int .i64 p0), (1, .int .i64 p1), (2, .int .i64 p2), (7, .string (⟨#[48, 49, 50, 51, 52, 53, 54, 55, 56, 57, 97, 98, 99, 100, 101, 102]⟩ : ByteArray)), (8, .string (⟨#[]⟩ : ByteArray))] (by kernel_rfl) (by kernel_rfl) ?_
  refine charabancref09_digits_74.l0_ok K M0 w0 p0 p1 p2 _ x23 ?_ K p0 (⟨#[]⟩ : ByteArray) w0 hx24 (h0.pick [] (by decide))
  · intro t25 w27 hq28 h26
    (try rw [hq28] at h)
    refine RunsI.go 1 [.c 20, .c 21] (by kernel_rfl) ?_
    refine RunsI.region (by kernel_rfl) ?_
    refine RegI.pure 2 [6] [(6, .string t25)] (by kernel_rfl) ?_
    refine RegI.done (by kernel_rfl) ?_
    refine RunsI.ret (.string t25) (by kernel_rfl) (by kernel_rfl) ?_
    obtain rfl := Option.some.inj h
    exact ⟨rfl, h26.below⟩
end

/-! ### charabanc/charabancref09.Hex (function 53) -/
section
def charabancref09_Hex_53.post (M0 : Nat → Prop) (w0 : World) (r : ByteArray) : Ending → World → Prop := fun e w => e = .returned (.string r) ∧ Below w0.heap.size w0 w
def charabancref09_Hex_53.f (K : Nat) (p0 : Int) (p1 : Int) : Option ByteArray := cond (decide (p0 ≥ 0)) ((charabancref09_digits_74.f K p0 16 (if 8 < (if 0 > p1 then 0 else p1) then 8 else (if 0 > p1 then 0 else p1))).bind fun t6 => cond (mayCat t6.size (⟨#[104]⟩ : ByteArray).size) (some (t6 ++ (⟨#[104]⟩ : ByteArray))) none) (cond (p0 == (IntKind.wrap .i64 (0 - p0))) (some (⟨#[45, 56, 48, 48, 48, 48, 48, 48, 48, 48, 48, 48, 48, 48, 48, 48, 48, 104]⟩ : ByteArray)) ((charabancref09_digits_74.f K (IntKind.wrap .i64 (0 - p0)) 16 (if 8 < (if 0 > p1 then 0 else p1) then 8 else (if 0 > p1 then 0 else p1))).bind fun t13 => cond (mayCat (⟨#[45]⟩ : ByteArray).size t13.size) (cond (mayCat ((⟨#[45]⟩ : ByteArray) ++ t13).size (⟨#[104]⟩ : ByteArray).size) (some (((⟨#[45]⟩ : ByteArray) ++ t13) ++ (⟨#[104]⟩ : ByteArray))) none) none))
set_option maxRecDepth 100000 in
theorem charabancref09_Hex_53_ok (K : Nat) (M0 : Nat → Prop) (w0 : World) (p0 : Int) (p1 : Int) (ho : ∀ b, M0 b → b < w0.heap.size) {r : ByteArray} (h : charabancref09_Hex_53.f K p0 p1 = some r) :
    Calls Tryd.prog 53 #[.int .i64 p0, .int .i64 p1] w0 (charabancref09_Hex_53.post M0 w0 r) := by
  unfold charabancref09_Hex_53.f at h
  have h0 : Holds M0 w0 w0 [] := Holds.start ho
  have h0 : Holds M0 w0 w0 [] := h0
  refine calls_of F53 rfl [.int .i64 p0, .int .i64 p1] (by kernel_rfl) ?_
  refine RunsI.go 1 [.c 1, .c 2] (by kernel_rfl) ?_
  refine RunsI.region (by kernel_rfl) ?_
  refine RegI.pure 1 [0, 1] [(0, .int .i64 p0), (1, .int .i64 p1)] (by kernel_rfl) ?_
  refine RegI.done (by kernel_rfl) ?_
  refine RunsI.go 1 [.c 3, .c 4] (by kernel_rfl) ?_
  refine RunsI.region (by kernel_rfl) ?_
  refine RegI.pure 4 [0, 1] [(0, .int .i64 p0), (1, .int .i64 (if 8 < (if 0 > p1 then 0 else p1) then 8 else (if 0 > p1 then 0 else p1)))] (by kernel_rfl) ?_
  refine RegI.done (by kernel_rfl) ?_
  refine RunsI.go 2 [.c 6, .c 7, .c 12] (by kernel_rfl) ?_
  refine RunsI.region (by kernel_rfl) ?_
  refine RegI.pure 2 [0, 1, 9] [(0, .int .i64 p0), (1, .int .i64 (if 8 < (if 0 > p1 then 0 else p1) then 8 else (if 0 > p1 then 0 else p1))), (9, .bool (decide (p0 ≥ 0)))] (by kernel_rfl) ?_
  refine RegI.done (by kernel_rfl) ?_
  rcases of_cond h with ⟨hc1, h⟩ | ⟨hc1, h⟩
  · skip
    refine RunsI.fix 9 true hc1 (by kernel_rfl) (by kernel_rfl) ?_
    refine RunsI.cond true 8 (by kernel_rfl) ?_
    refine RunsI.go 1 [.c 9, .c 10, .c 12] (by kernel_rfl) ?_
    refine RunsI.region (by kernel_rfl) ?_
    refine RegI.pure 2 [10, 11] [(10, .int .i64 p0), (11, .int .i64 (if 8 < (if 0 > p1 then 0 else p1) then 8 else (if 0 > p1 then 0 else p1)))] (by kernel_rfl) ?_
    obtain ⟨t6, hg5, h⟩ := of_bind h
    refine RegI.op (by kernel_rfl) (OpE.call 12 (by kernel_rfl) 74 #[.int .i64 p0, .int .i64 16, .int .i64 (if 8 < (if 0 > p1 then 0 else p1) then 8 else (if 0 > p1 then 0 else p1))] (by kernel_rfl) ((charabancref09_digits_74_ok K _ w0  p0 16 (if 8 < (if 0 > p1 then 0 else p1) then 8 else (if 0 > p1 then 0 else p1)) h0.old' hg5).mono ?_))
    rintro _ w2 ⟨rfl, hb3⟩
    refine ⟨_, rfl, ?_⟩
    have h4 := h0.call hb3
    obtain ⟨hc7, h⟩ := of_cond0 h
    refine RegI.op (by kernel_rfl) (OpE.run 13 (by kernel_rfl) (run_cat (a := t6) (b := (⟨#[104]⟩ : ByteArray)) (by kernel_rfl) hc7) ?_)
    refine RegI.pure 1 [4] [(4, .string (t6 ++ (⟨#[104]⟩ : ByteArray)))] (by kernel_rfl) ?_
    refine RegI.done (by kernel_rfl) ?_
    refine RunsI.ret (.string (t6 ++ (⟨#[104]⟩ : ByteArray))) (by kernel_rfl) (by kernel_rfl) ?_
    obtain rfl := Option.some.inj h
    exact ⟨rfl, h4.below⟩
  · skip
    refine RunsI.fix 9 false hc1 (by kernel_rfl) (by kernel_rfl) ?_
    refine RunsI.cond false 11 (by kernel_rfl) ?_
    refine RunsI.go 1 [.c 12] (by kernel_rfl) ?_
    refine RunsI.go 2 [.c 14, .c 15, .c 20] (by kernel_rfl) ?_
    refine RunsI.region (by kernel_rfl) ?_
    refine RegI.pure 4 [0, 1, 17] [(0, .int .i64 p0), (1, .int .i64 (if 8 < (if 0 > p1 then 0 else p1) then 8 else (if 0 > p1 then 0 else p1))), (17, .bool (p0 == (IntKind.wrap .i64 (0 - p0))))] (by kernel_rfl) ?_
    refine RegI.done (by kernel_rfl) ?_
    rcases of_cond h with ⟨hc8, h⟩ | ⟨hc8, h⟩
    · skip
      refine RunsI.fix 17 true hc8 (by kernel_rfl) (by kernel_rfl) ?_
      refine RunsI.cond true 16 (by kernel_rfl) ?_
      refine RunsI.go 1 [.c 17, .c 18, .c 20] (by kernel_rfl) ?_
      refine RunsI.region (by kernel_rfl) ?_
      refine RegI.pure 1 [4] [(4, .string (⟨#[45, 56, 48, 48, 48, 48, 48, 48, 48, 48, 48, 48, 48, 48, 48, 48, 48, 104]⟩ : ByteArray))] (by kernel_rfl) ?_
      refine RegI.done (by kernel_rfl) ?_
      refine RunsI.ret (.string (⟨#[45, 56, 48, 48, 48, 48, 48, 48, 48, 48, 48, 48, 48, 48, 48, 48, 48, 104]⟩ : ByteArray)) (by kernel_rfl) (by kernel_rfl) ?_
      obtain rfl := Option.some.inj h
      exact ⟨rfl, h0.below⟩
    · skip
      refine RunsI.fix 17 false hc8 (by kernel_rfl) (by kernel_rfl) ?_
      refine RunsI.cond false 19 (by kernel_rfl) ?_
      refine RunsI.go 1 [.c 20] (by kernel_rfl) ?_
      refine RunsI.go 1 [.c 21, .c 22] (by kernel_rfl) ?_
      refine RunsI.region (by kernel_rfl) ?_
      refine RegI.pure 3 [19, 20] [(19, .int .i64 (IntKind.wrap .i64 (0 - p0))), (20, .int .i64 (if 8 < (if 0 > p1 then 0 else p1) then 8 else (if 0 > p1 then 0 else p1)))] (by kernel_rfl) ?_
      obtain ⟨t13, hg12, h⟩ := of_bind h
      refine RegI.op (by kernel_rfl) (OpE.call 21 (by kernel_rfl) 74 #[.int .i64 (IntKind.wrap .i64 (0 - p0)), .int .i64 16, .int .i64 (if 8 < (if 0 > p1 then 0 else p1) then 8 else (if 0 > p1 then 0 else p1))] (by kernel_rfl) ((charabancref09_digits_74_ok K _ w0  (IntKind.wrap .i64 (0 - p0)) 16 (if 8 < (if 0 > p1 then 0 else p1) then 8 else (if 0 > p1 then 0 else p1)) h0.old' hg12).mono ?_))
      rintro _ w9 ⟨rfl, hb10⟩
      refine ⟨_, rfl, ?_⟩
      have h11 := h0.call hb10
      obtain ⟨hc14, h⟩ := of_cond0 h
      refine RegI.op (by kernel_rfl) (OpE.run 22 (by kernel_rfl) (run_cat (a := (⟨#[45]⟩ : ByteArray)) (b := t13) (by kernel_rfl) hc14) ?_)
      obtain ⟨hc15, h⟩ := of_cond0 h
      refine RegI.op (by kernel_rfl) (OpE.run 23 (by kernel_rfl) (run_cat (a := ((⟨#[45]⟩ : ByteArray) ++ t13)) (b := (⟨#[104]⟩ : ByteArray)) (by kernel_rfl) hc15) ?_)
      refine RegI.pure 1 [4] [(4, .string (((⟨#[45]⟩ : ByteArray) ++ t13) ++ (⟨#[104]⟩ : ByteArray)))] (by kernel_rfl) ?_
      refine RegI.done (by kernel_rfl) ?_
      refine RunsI.ret (.string (((⟨#[45]⟩ : ByteArray) ++ t13) ++ (⟨#[104]⟩ : ByteArray))) (by kernel_rfl) (by kernel_rfl) ?_
      obtain rfl := Option.some.inj h
      exact ⟨rfl, h11.below⟩
end

/-! ### charabanc/charabancref11.Number (function 54) -/
section
def charabancref11_Number_54.post (M0 : Nat → Prop) (w0 : World) (r : ByteArray) : Ending → World → Prop := fun e w => e = .returned (.string r) ∧ Below w0.heap.size w0 w
def charabancref11_Number_54.Ok (SELF : Int → Option ByteArray) : Prop := ∀ (M0 : Nat → Prop) (w0 : World) (p0 : Int) (ho : ∀ b, M0 b → b < w0.heap.size) {r : ByteArray} (h : SELF p0 = some r), Calls Tryd.prog 54 #[.int .i64 p0] w0 (charabancref11_Number_54.post M0 w0 r)
def charabancref11_Number_54.l0 (K : Nat)(SELF : Int → Option ByteArray) (p0 : Int) : Nat → Int → ByteArray → Option ByteArray
  | 0, _, _ => none
  | k + 1, t9, t10 => cond (cutR (Int.tmod t9 10) (IntKind.wrap .i64 ((Int.tmod t9 10) + 1)) (⟨#[48, 49, 50, 51, 52, 53, 54, 55, 56, 57]⟩ : ByteArray).size) (cond (mayCat (strCut (⟨#[48, 49, 50, 51, 52, 53, 54, 55, 56, 57]⟩ : ByteArray) (Int.tmod t9 10) (IntKind.wrap .i64 ((Int.tmod t9 10) + 1))).size t10.size) (cond ((IntKind.wrap .i64 (Int.tdiv t9 10)) == 0) (some ((strCut (⟨#[48, 49, 50, 51, 52, 53, 54, 55, 56, 57]⟩ : ByteArray) (Int.tmod t9 10) (IntKind.wrap .i64 ((Int.tmod t9 10) + 1))) ++ t10)) (charabancref11_Number_54.l0 K SELF p0 k (IntKind.wrap .i64 (Int.tdiv t9 10)) ((strCut (⟨#[48, 49, 50, 51, 52, 53, 54, 55, 56, 57]⟩ : ByteArray) (Int.tmod t9 10) (IntKind.wrap .i64 ((Int.tmod t9 10) + 1))) ++ t10))) none) none
set_option maxRecDepth 100000 in
theorem charabancref11_Number_54.l0_ok (K : Nat) (SELF : Int → Option ByteArray) (hSELF : charabancref11_Number_54.Ok SELF) (M0 : Nat → Prop) (w0 : World) (p0 : Int) (R : Ending → World → Prop) (x : ByteArray) (hk0 : ∀ (t14 : ByteArray) (w1 : World), x = t14 → Holds M0 w0 w1 [] → R (.returned (.string t14)) w1) :
    ∀ (k : Nat) (t9 : Int) (t10 : ByteArray) (w : World), charabancref11_Number_54.l0 K SELF p0 k t9 t10 = some x → Holds M0 w0 w [] → RunsI F54 [.c 22, .lp 22, .blk 0] [(0, .int .i64 t9), (3, .string t10)] w R := by
  intro k
  induction k with
  | zero => intro t9 t10 w h hH; exact absurd h (by simp [charabancref11_Number_54.l0])
  | succ k ih =>
    intro t9 t10 w h hH
    rw [charabancref11_Number_54.l0.eq_2] at h
    refine RunsI.go 1 [.c 23, .blk 1, .lp 22, .blk 0] (by kernel_rfl) ?_
    refine RunsI.go 1 [.c 24, .c 25, .blk 1, .lp 22, .blk 0] (by kernel_rfl) ?_
    refine RunsI.region (by kernel_rfl) ?_
    refine RegI.pure 5 [0, 3, 15, 18] [(0, .int .i64 t9), (3, .string t10), (15, .int .i64 (Int.tmod t9 10)), (18, .int .i64 (IntKind.wrap .i64 ((Int.tmod t9 10) + 1)))] (by kernel_rfl) ?_
    obtain ⟨hc11, h⟩ := of_cond0 h
    refine RegI.op (by kernel_rfl) (OpE.run 19 (by kernel_rfl) (run_strCut (T := 9) (s := (⟨#[48, 49, 50, 51, 52, 53, 54, 55, 56, 57]⟩ : ByteArray)) (lo := (some (Int.tmod t9 10))) (hi := (some (IntKind.wrap .i64 ((Int.tmod t9 10) + 1)))) (by kernel_rfl) (by kernel_rfl) hc11) ?_)
    refine RegI.pure 1 [0, 19, 20] [(0, .int .i64 t9), (19, .string (strCut (⟨#[48, 49, 50, 51, 52, 53, 54, 55, 56, 57]⟩ : ByteArray) (Int.tmod t9 10) (IntKind.wrap .i64 ((Int.tmod t9 10) + 1)))), (20, .string t10)] (by kernel_rfl) ?_
    obtain ⟨hc12, h⟩ := of_cond0 h
    refine RegI.op (by kernel_rfl) (OpE.run 21 (by kernel_rfl) (run_cat (a := (strCut (⟨#[48, 49, 50, 51, 52, 53, 54, 55, 56, 57]⟩ : ByteArray) (Int.tmod t9 10) (IntKind.wrap .i64 ((Int.tmod t9 10) + 1)))) (b := t10) (by kernel_rfl) hc12) ?_)
    refine RegI.pure 1 [0, 3] [(0, .int .i64 t9), (3, .string ((strCut (⟨#[48, 49, 50, 51, 52, 53, 54, 55, 56, 57]⟩ : ByteArray) (Int.tmod t9 10) (IntKind.wrap .i64 ((Int.tmod t9 10) + 1))) ++ t10))] (by kernel_rfl) ?_
    refine RegI.done (by kernel_rfl) ?_
    refine RunsI.go 1 [.c 26, .c 27, .blk 1, .lp 22, .blk 0] (by kernel_rfl) ?_
    refine RunsI.region (by kernel_rfl) ?_
    refine RegI.pure 3 [0, 3] [(0, .int .i64 (IntKind.wrap .i64 (Int.tdiv t9 10))), (3, .string ((strCut (⟨#[48, 49, 50, 51, 52, 53, 54, 55, 56, 57]⟩ : ByteArray) (Int.tmod t9 10) (IntKind.wrap .i64 ((Int.tmod t9 10) + 1))) ++ t10))] (by kernel_rfl) ?_
    refine RegI.done (by kernel_rfl) ?_
    refine RunsI.go 1 [.c 28, .c 29, .blk 1, .lp 22, .blk 0] (by kernel_rfl) ?_
    refine RunsI.region (by kernel_rfl) ?_
    refine RegI.pure 2 [0, 3, 25] [(0, .int .i64 (IntKind.wrap .i64 (Int.tdiv t9 10))), (3, .string ((strCut (⟨#[48, 49, 50, 51, 52, 53, 54, 55, 56, 57]⟩ : ByteArray) (Int.tmod t9 10) (IntKind.wrap .i64 ((Int.tmod t9 10) + 1))) ++ t10)), (25, .bool ((IntKind.wrap .i64 (Int.tdiv t9 10)) == 0))] (by kernel_rfl) ?_
    refine RegI.done (by kernel_rfl) ?_
    rcases of_cond h with ⟨hc13, h⟩ | ⟨hc13, h⟩
    · skip
      refine RunsI.fix 25 true hc13 (by kernel_rfl) (by kernel_rfl) ?_
      refine RunsI.cond true 30 (by kernel_rfl) ?_
      refine RunsI.go 1 [.c 31, .c 32, .blk 1, .lp 22, .blk 0] (by kernel_rfl) ?_
      refine RunsI.region (by kernel_rfl) ?_
      refine RegI.pure 2 [2] [(2, .string ((strCut (⟨#[48, 49, 50, 51, 52, 53, 54, 55, 56, 57]⟩ : ByteArray) (Int.tmod t9 10) (IntKind.wrap .i64 ((Int.tmod t9 10) + 1))) ++ t10))] (by kernel_rfl) ?_
      refine RegI.done (by kernel_rfl) ?_
      refine RunsI.ret (.string ((strCut (⟨#[48, 49, 50, 51, 52, 53, 54, 55, 56, 57]⟩ : ByteArray) (Int.tmod t9 10) (IntKind.wrap .i64 ((Int.tmod t9 10) + 1))) ++ t10)) (by kernel_rfl) (by kernel_rfl) ?_
      exact hk0 ((strCut (⟨#[48, 49, 50, 51, 52, 53, 54, 55, 56, 57]⟩ : ByteArray) (Int.tmod t9 10) (IntKind.wrap .i64 ((Int.tmod t9 10) + 1))) ++ t10) w (Option.some.inj h).symm (hH.pick [] (by decide))
    · skip
      refine RunsI.fix 25 false hc13 (by kernel_rfl) (by kernel_rfl) ?_
      refine RunsI.cond false 33 (by kernel_rfl) ?_
      refine RunsI.go 1 [.blk 1, .lp 22, .blk 0] (by kernel_rfl) ?_
      refine RunsI.go 2 [.c 22, .lp 22, .blk 0] (by kernel_rfl) ?_
      refine RunsI.only [0, 3] [(0, .int .i64 (IntKind.wrap .i64 (Int.tdiv t9 10))), (3, .string ((strCut (⟨#[48, 49, 50, 51, 52, 53, 54, 55, 56, 57]⟩ : ByteArray) (Int.tmod t9 10) (IntKind.wrap .i64 ((Int.tmod t9 10) + 1))) ++ t10))] (by kernel_rfl) (by kernel_rfl) ?_
      exact ih (IntKind.wrap .i64 (Int.tdiv t9 10)) ((strCut (⟨#[48, 49, 50, 51, 52, 53, 54, 55, 56, 57]⟩ : ByteArray) (Int.tmod t9 10) (IntKind.wrap .i64 ((Int.tmod t9 10) + 1))) ++ t10) w h (hH.pick [] (by decide))
def charabancref11_Number_54.g (K : Nat) : Nat → Int → Option ByteArray
  | 0, _ => none
  | k + 1, p0 => cond (decide (p0 < 0)) (cond (p0 == (IntKind.wrap .i64 (0 - p0))) (some (⟨#[45, 57, 50, 50, 51, 51, 55, 50, 48, 51, 54, 56, 53, 52, 55, 55, 53, 56, 48, 56]⟩ : ByteArray)) (((charabancref11_Number_54.g K k) (IntKind.wrap .i64 (0 - p0))).bind fun t7 => cond (mayCat (⟨#[45]⟩ : ByteArray).size t7.size) (some ((⟨#[45]⟩ : ByteArray) ++ t7)) none)) ((charabancref11_Number_54.l0 K (charabancref11_Number_54.g K k) p0 K p0 (⟨#[]⟩ : ByteArray)).bind (fun t17 => some t17))
def charabancref11_Number_54.f (K : Nat) (p0 : Int) : Option ByteArray := charabancref11_Number_54.g K K p0
set_option maxRecDepth 100000 in
theorem charabancref11_Number_54.g_ok (K : Nat) : ∀ k, charabancref11_Number_54.Ok (charabancref11_Number_54.g K k) := by
  intro k
  induction k with
  | zero => intro M0 w0 p0 ho r h; exact absurd h (by simp [charabancref11_Number_54.g])
  | succ k ih =>
    intro M0 w0 p0 ho r h
    generalize hS : charabancref11_Number_54.g K k = SELF at ih
    rw [charabancref11_Number_54.g.eq_2, hS] at h
    clear hS
    have hSELF := ih
    clear ih
    have h0 : Holds M0 w0 w0 [] := Holds.start ho
    have h0 : Holds M0 w0 w0 [] := h0
    refine calls_of F54 rfl [.int .i64 p0] (by kernel_rfl) ?_
    refine RunsI.go 1 [.c 1, .c 2] (by kernel_rfl) ?_
    refine RunsI.region (by kernel_rfl) ?_
    refine RegI.pure 1 [0] [(0, .int .i64 p0)] (by kernel_rfl) ?_
    refine RegI.done (by kernel_rfl) ?_
    refine RunsI.go 2 [.c 4, .c 5, .c 18] (by kernel_rfl) ?_
    refine RunsI.region (by kernel_rfl) ?_
    refine RegI.pure 2 [0, 5] [(0, .int .i64 p0), (5, .bool (decide (p0 < 0)))] (by kernel_rfl) ?_
    refine RegI.done (by kernel_rfl) ?_
    rcases of_cond h with ⟨hc1, h⟩ | ⟨hc1, h⟩
    · skip
      refine RunsI.fix 5 true hc1 (by kernel_rfl) (by kernel_rfl) ?_
      refine RunsI.cond true 6 (by kernel_rfl) ?_
      refine RunsI.go 2 [.c 8, .c 9, .c 14, .c 18] (by kernel_rfl) ?_
      refine RunsI.region (by kernel_rfl) ?_
      refine RegI.pure 4 [0, 9] [(0, .int .i64 p0), (9, .bool (p0 == (IntKind.wrap .i64 (0 - p0))))] (by kernel_rfl) ?_
      refine RegI.done (by kernel_rfl) ?_
      rcases of_cond h with ⟨hc2, h⟩ | ⟨hc2, h⟩
      · skip
        refine RunsI.fix 9 true hc2 (by kernel_rfl) (by kernel_rfl) ?_
        refine RunsI.cond true 10 (by kernel_rfl) ?_
        refine RunsI.go 1 [.c 11, .c 12, .c 14, .c 18] (by kernel_rfl) ?_
        refine RunsI.region (by kernel_rfl) ?_
        refine RegI.pure 1 [2] [(2, .string (⟨#[45, 57, 50, 50, 51, 51, 55, 50, 48, 51, 54, 56, 53, 52, 55, 55, 53, 56, 48, 56]⟩ : ByteArray))] (by kernel_rfl) ?_
        refine RegI.done (by kernel_rfl) ?_
        refine RunsI.ret (.string (⟨#[45, 57, 50, 50, 51, 51, 55, 50, 48, 51, 54, 56, 53, 52, 55, 55, 53, 56, 48, 56]⟩ : ByteArray)) (by kernel_rfl) (by kernel_rfl) ?_
        obtain rfl := Option.some.inj h
        exact ⟨rfl, h0.below⟩
      · skip
        refine RunsI.fix 9 false hc2 (by kernel_rfl) (by kernel_rfl) ?_
        refine RunsI.cond false 13 (by kernel_rfl) ?_
        refine RunsI.go 1 [.c 14, .c 18] (by kernel_rfl) ?_
        refine RunsI.go 1 [.c 15, .c 16, .c 18] (by kernel_rfl) ?_
        refine RunsI.region (by kernel_rfl) ?_
        refine RegI.pure 2 [11] [(11, .int .i64 (IntKind.wrap .i64 (0 - p0)))] (by kernel_rfl) ?_
        obtain ⟨t7, hg6, h⟩ := of_bind h
        refine RegI.op (by kernel_rfl) (OpE.call 12 (by kernel_rfl) 54 #[.int .i64 (IntKind.wrap .i64 (0 - p0))] (by kernel_rfl) ((hSELF _ w0  (IntKind.wrap .i64 (0 - p0)) h0.old' hg6).mono ?_))
        rintro _ w3 ⟨rfl, hb4⟩
        refine ⟨_, rfl, ?_⟩
        have h5 := h0.call hb4
        obtain ⟨hc8, h⟩ := of_cond0 h
        refine RegI.op (by kernel_rfl) (OpE.run 13 (by kernel_rfl) (run_cat (a := (⟨#[45]⟩ : ByteArray)) (b := t7) (by kernel_rfl) hc8) ?_)
        refine RegI.pure 1 [2] [(2, .string ((⟨#[45]⟩ : ByteArray) ++ t7))] (by kernel_rfl) ?_
        refine RegI.done (by kernel_rfl) ?_
        refine RunsI.ret (.string ((⟨#[45]⟩ : ByteArray) ++ t7)) (by kernel_rfl) (by kernel_rfl) ?_
        obtain rfl := Option.some.inj h
        exact ⟨rfl, h5.below⟩
    · skip
      refine RunsI.fix 5 false hc1 (by kernel_rfl) (by kernel_rfl) ?_
      refine RunsI.cond false 17 (by kernel_rfl) ?_
      refine RunsI.go 1 [.c 18] (by kernel_rfl) ?_
      refine RunsI.go 1 [.c 19, .c 20] (by kernel_rfl) ?_
      refine RunsI.region (by kernel_rfl) ?_
      refine RegI.pure 1 [0, 3] [(0, .int .i64 p0), (3, .string (⟨#[]⟩ : ByteArray))] (by kernel_rfl) ?_
      refine RegI.done (by kernel_rfl) ?_
      refine RunsI.go 2 [.c 22, .lp 22, .blk 0] (by kernel_rfl) ?_
      obtain ⟨x15, hx16, h⟩ := of_bind h
      refine RunsI.only [0, 3] [(0, .int .i64 p0), (3, .string (⟨#[]⟩ : ByteArray))] (by kernel_rfl) (by kernel_rfl) ?_
      refine charabancref11_Number_54.l0_ok K SELF hSELF M0 w0 p0 _ x15 ?_ K p0 (⟨#[]⟩ : ByteArray) w0 hx16 (h0.pick [] (by decide))
      · intro t17 w19 hq20 h18
        (try rw [hq20] at h)
        obtain rfl := Option.some.inj h
        exact ⟨rfl, h18.below⟩
theorem charabancref11_Number_54_ok (K : Nat) (M0 : Nat → Prop) (w0 : World) (p0 : Int) (ho : ∀ b, M0 b → b < w0.heap.size) {r : ByteArray} (h : charabancref11_Number_54.f K p0 = some r) :
    Calls Tryd.prog 54 #[.int .i64 p0] w0 (charabancref11_Number_54.post M0 w0 r) := charabancref11_Number_54.g_ok K K M0 w0 p0 ho h
end

/-! ### charabanc/charabancref11.Show (function 37) -/
section
def charabancref11_Show_37.post (M0 : Nat → Prop) (w0 : World) (r : ByteArray) : Ending → World → Prop := fun e w => e = .returned (.string r) ∧ Below w0.heap.size w0 w
def charabancref11_Show_37.l0 (K : Nat) (p0_0 : Int) (p0_1 : Int) (p0_2 : Int) (p0_3 : Int) (p0_4 : Int) (p0_5 : Int) (p0_6 : Int) (p0_7 : Int) (p0_8 : Int) (p0_9 : Int) (p0_10 : Int) (p0_11 : Int) (p0_12 : Int) (p0_13 : Int) (p0_14 : Int) (p0_15 : Bool) (p0_16 : Bool) (p0_17 : Bool) (p0_18 : Bool) (p0_19 : Int) : Nat → ByteArray → Int → Option ByteArray
  | 0, _, _ => none
  | k + 1, t21, t22 => cond (decide (t22 < (([p0_0, p0_1, p0_2, p0_3, p0_8, p0_9, p0_10, p0_11] : List Int).length : Int))) (cond (inR t22 ([(⟨#[97, 102, 61]⟩ : ByteArray), (⟨#[98, 99, 61]⟩ : ByteArray), (⟨#[100, 101, 61]⟩ : ByteArray), (⟨#[104, 108, 61]⟩ : ByteArray), (⟨#[105, 120, 61]⟩ : ByteArray), (⟨#[105, 121, 61]⟩ : ByteArray), (⟨#[115, 112, 61]⟩ : ByteArray), (⟨#[112, 99, 61]⟩ : ByteArray)] : List ByteArray).length) (cond (mayCat t21.size (rdD ([(⟨#[97, 102, 61]⟩ : ByteArray), (⟨#[98, 99, 61]⟩ : ByteArray), (⟨#[100, 101, 61]⟩ : ByteArray), (⟨#[104, 108, 61]⟩ : ByteArray), (⟨#[105, 120, 61]⟩ : ByteArray), (⟨#[105, 121, 61]⟩ : ByteArray), (⟨#[115, 112, 61]⟩ : ByteArray), (⟨#[112, 99, 61]⟩ : ByteArray)] : List ByteArray) t22).size) (cond (inR t22 ([p0_0, p0_1, p0_2, p0_3, p0_8, p0_9, p0_10, p0_11] : List Int).length) ((charabancref09_Hex_53.f K (IntKind.wrap .i64 (rdD ([p0_0, p0_1, p0_2, p0_3, p0_8, p0_9, p0_10, p0_11] : List Int) t22)) 4).bind fun t32 => cond (mayCat (t21 ++ (rdD ([(⟨#[97, 102, 61]⟩ : ByteArray), (⟨#[98, 99, 61]⟩ : ByteArray), (⟨#[100, 101, 61]⟩ : ByteArray), (⟨#[104, 108, 61]⟩ : ByteArray), (⟨#[105, 120, 61]⟩ : ByteArray), (⟨#[105, 121, 61]⟩ : ByteArray), (⟨#[115, 112, 61]⟩ : ByteArray), (⟨#[112, 99, 61]⟩ : ByteArray)] : List ByteArray) t22)).size t32.size) (cond (mayCat ((t21 ++ (rdD ([(⟨#[97, 102, 61]⟩ : ByteArray), (⟨#[98, 99, 61]⟩ : ByteArray), (⟨#[100, 101, 61]⟩ : ByteArray), (⟨#[104, 108, 61]⟩ : ByteArray), (⟨#[105, 120, 61]⟩ : ByteArray), (⟨#[105, 121, 61]⟩ : ByteArray), (⟨#[115, 112, 61]⟩ : ByteArray), (⟨#[112, 99, 61]⟩ : ByteArray)] : List ByteArray) t22)) ++ t32).size (⟨#[32]⟩ : ByteArray).size) (charabancref11_Show_37.l0 K p0_0 p0_1 p0_2 p0_3 p0_4 p0_5 p0_6 p0_7 p0_8 p0_9 p0_10 p0_11 p0_12 p0_13 p0_14 p0_15 p0_16 p0_17 p0_18 p0_19 k (((t21 ++ (rdD ([(⟨#[97, 102, 61]⟩ : ByteArray), (⟨#[98, 99, 61]⟩ : ByteArray), (⟨#[100, 101, 61]⟩ : ByteArray), (⟨#[104, 108, 61]⟩ : ByteArray), (⟨#[105, 120, 61]⟩ : ByteArray), (⟨#[105, 121, 61]⟩ : ByteArray), (⟨#[115, 112, 61]⟩ : ByteArray), (⟨#[112, 99, 61]⟩ : ByteArray)] : List ByteArray) t22)) ++ t32) ++ (⟨#[32]⟩ : ByteArray)) (IntKind.wrap .i64 (t22 + 1))) none) none) none) none) none) (some t21)
set_option maxRecDepth 100000 in
theorem charabancref11_Show_37.l0_ok (K : Nat) (M0 : Nat → Prop) (w0 : World) (p0_0 : Int) (p0_1 : Int) (p0_2 : Int) (p0_3 : Int) (p0_4 : Int) (p0_5 : Int) (p0_6 : Int) (p0_7 : Int) (p0_8 : Int) (p0_9 : Int) (p0_10 : Int) (p0_11 : Int) (p0_12 : Int) (p0_13 : Int) (p0_14 : Int) (p0_15 : Bool) (p0_16 : Bool) (p0_17 : Bool) (p0_18 : Bool) (p0_19 : Int) (b18 : Nat) (A19 : Option Addr) (A20 : Option Addr) (R : Ending → World → Prop) (x : ByteArray) (hk0 : ∀ (t38 : ByteArray) (w1 : World), x = t38 → Holds M0 w0 w1 [box b18 46 [.int .u16 p0_0, .int .u16 p0_1, .int .u16 p0_2, .int .u16 p0_3, .int .u16 p0_4, .int .u16 p0_5, .int .u16 p0_6, .int .u16 p0_7, .int .u16 p0_8, .int .u16 p0_9, .int .u16 p0_10, .int .u16 p0_11, .int .u16 p0_12, .int .u8 p0_13, .int .u8 p0_14, .bool p0_15, .bool p0_16, .bool p0_17, .bool p0_18, .int .i64 p0_19]] → RunsI F37 [.c 23] [(1, .pointer (some ⟨b18, 0, none⟩)), (5, .string t38)] w1 R) :
    ∀ (k : Nat) (t21 : ByteArray) (t22 : Int) (w : World), charabancref11_Show_37.l0 K p0_0 p0_1 p0_2 p0_3 p0_4 p0_5 p0_6 p0_7 p0_8 p0_9 p0_10 p0_11 p0_12 p0_13 p0_14 p0_15 p0_16 p0_17 p0_18 p0_19 k t21 t22 = some x → Holds M0 w0 w [box b18 46 [.int .u16 p0_0, .int .u16 p0_1, .int .u16 p0_2, .int .u16 p0_3, .int .u16 p0_4, .int .u16 p0_5, .int .u16 p0_6, .int .u16 p0_7, .int .u16 p0_8, .int .u16 p0_9, .int .u16 p0_10, .int .u16 p0_11, .int .u16 p0_12, .int .u8 p0_13, .int .u8 p0_14, .bool p0_15, .bool p0_16, .bool p0_17, .bool p0_18, .int .i64 p0_19], own Rp.str 9 (.slice A19 (([(⟨#[97, 102, 61]⟩ : ByteArray), (⟨#[98, 99, 61]⟩ : ByteArray), (⟨#[100, 101, 61]⟩ : ByteArray), (⟨#[104, 108, 61]⟩ : ByteArray), (⟨#[105, 120, 61]⟩ : ByteArray), (⟨#[105, 121, 61]⟩ : ByteArray), (⟨#[115, 112, 61]⟩ : ByteArray), (⟨#[112, 99, 61]⟩ : ByteArray)] : List ByteArray).length) 8) ([(⟨#[97, 102, 61]⟩ : ByteArray), (⟨#[98, 99, 61]⟩ : ByteArray), (⟨#[100, 101, 61]⟩ : ByteArray), (⟨#[104, 108, 61]⟩ : ByteArray), (⟨#[105, 120, 61]⟩ : ByteArray), (⟨#[105, 121, 61]⟩ : ByteArray), (⟨#[115, 112, 61]⟩ : ByteArray), (⟨#[112, 99, 61]⟩ : ByteArray)] : List ByteArray), own (Rp.int .u16) 22 (.slice A20 (([p0_0, p0_1, p0_2, p0_3, p0_8, p0_9, p0_10, p0_11] : List Int).length) 8) ([p0_0, p0_1, p0_2, p0_3, p0_8, p0_9, p0_10, p0_11] : List Int)] → RunsI F37 [.c 13, .lp 13, .blk 0, .c 23] [(1, .pointer (some ⟨b18, 0, none⟩)), (3, .slice A19 (([(⟨#[97, 102, 61]⟩ : ByteArray), (⟨#[98, 99, 61]⟩ : ByteArray), (⟨#[100, 101, 61]⟩ : ByteArray), (⟨#[104, 108, 61]⟩ : ByteArray), (⟨#[105, 120, 61]⟩ : ByteArray), (⟨#[105, 121, 61]⟩ : ByteArray), (⟨#[115, 112, 61]⟩ : ByteArray), (⟨#[112, 99, 61]⟩ : ByteArray)] : List ByteArray).length) 8), (4, .slice A20 (([p0_0, p0_1, p0_2, p0_3, p0_8, p0_9, p0_10, p0_11] : List Int).length) 8), (5, .string t21), (6, .int .i64 t22)] w R := by
  intro k
  induction k with
  | zero => intro t21 t22 w h hH; exact absurd h (by simp [charabancref11_Show_37.l0])
  | succ k ih =>
    intro t21 t22 w h hH
    rw [charabancref11_Show_37.l0.eq_2] at h
    refine RunsI.go 1 [.c 14, .c 19, .lp 13, .blk 0, .c 23] (by kernel_rfl) ?_
    refine RunsI.go 1 [.c 15, .c 16, .c 19, .lp 13, .blk 0, .c 23] (by kernel_rfl) ?_
    refine RunsI.region (by kernel_rfl) ?_
    refine RegI.pure 4 [1, 3, 4, 5, 6, 28] [(1, .pointer (some ⟨b18, 0, none⟩)), (3, .slice A19 (([(⟨#[97, 102, 61]⟩ : ByteArray), (⟨#[98, 99, 61]⟩ : ByteArray), (⟨#[100, 101, 61]⟩ : ByteArray), (⟨#[104, 108, 61]⟩ : ByteArray), (⟨#[105, 120, 61]⟩ : ByteArray), (⟨#[105, 121, 61]⟩ : ByteArray), (⟨#[115, 112, 61]⟩ : ByteArray), (⟨#[112, 99, 61]⟩ : ByteArray)] : List ByteArray).length) 8), (4, .slice A20 (([p0_0, p0_1, p0_2, p0_3, p0_8, p0_9, p0_10, p0_11] : List Int).length) 8), (5, .string t21), (6, .int .i64 t22), (28, .bool (decide (t22 < (([p0_0, p0_1, p0_2, p0_3, p0_8, p0_9, p0_10, p0_11] : List Int).length : Int))))] (by kernel_rfl) ?_
    refine RegI.done (by kernel_rfl) ?_
    rcases of_cond h with ⟨hc23, h⟩ | ⟨hc23, h⟩
    · skip
      refine RunsI.fix 28 true hc23 (by kernel_rfl) (by kernel_rfl) ?_
      refine RunsI.cond true 17 (by kernel_rfl) ?_
      refine RunsI.go 1 [.c 19, .lp 13, .blk 0, .c 23] (by kernel_rfl) ?_
      refine RunsI.go 2 [.c 21, .blk 1, .c 22, .lp 13, .blk 0, .c 23] (by kernel_rfl) ?_
      refine RunsI.any 15 (by kernel_rfl) (by kernel_rfl) (by kernel_rfl) (Kp ([] : List Nat) (World.drew w)) ?_
      have h25 := hH.drew
      generalize World.drew w = w24 at h25 ⊢
      have hS26 := Kp.refl ([] : List Nat) w24
      refine AnyE.pure 0 31 (.string t21) (by kernel_rfl) hS26 (fun _ => by kernel_rfl) ?_
      refine AnyE.pure 1 32 (.slice A19 (([(⟨#[97, 102, 61]⟩ : ByteArray), (⟨#[98, 99, 61]⟩ : ByteArray), (⟨#[100, 101, 61]⟩ : ByteArray), (⟨#[104, 108, 61]⟩ : ByteArray), (⟨#[105, 120, 61]⟩ : ByteArray), (⟨#[105, 121, 61]⟩ : ByteArray), (⟨#[115, 112, 61]⟩ : ByteArray), (⟨#[112, 99, 61]⟩ : ByteArray)] : List ByteArray).length) 8) (by kernel_rfl) hS26 (fun _ => by kernel_rfl) ?_
      refine AnyE.pure 2 33 (.int .i64 t22) (by kernel_rfl) hS26 (fun _ => by kernel_rfl) ?_
      obtain ⟨hc28, h⟩ := of_cond0 h
      refine AnyE.idxOwnA 3 34 1 42 9 t22 h25 (by kernel_rfl) hS26 rfl (by kernel_rfl) (by kernel_rfl) hc28 ?_
      refine AnyE.loadOwnA 4 35 1 9 9 t22 0 (.string (rdD ([(⟨#[97, 102, 61]⟩ : ByteArray), (⟨#[98, 99, 61]⟩ : ByteArray), (⟨#[100, 101, 61]⟩ : ByteArray), (⟨#[104, 108, 61]⟩ : ByteArray), (⟨#[105, 120, 61]⟩ : ByteArray), (⟨#[105, 121, 61]⟩ : ByteArray), (⟨#[115, 112, 61]⟩ : ByteArray), (⟨#[112, 99, 61]⟩ : ByteArray)] : List ByteArray) t22)) [] (o := (Int.toNat t22) * 1 + 0) h25 rfl (by kernel_rfl) hS26 rfl rfl (by kernel_rfl) rfl hc28 (fun _ _ hk => by obtain rfl := hk; kernel_rfl) ?_
      obtain ⟨hc29, h⟩ := of_cond0 h
      refine AnyE.run 5 36 (.string (t21 ++ (rdD ([(⟨#[97, 102, 61]⟩ : ByteArray), (⟨#[98, 99, 61]⟩ : ByteArray), (⟨#[100, 101, 61]⟩ : ByteArray), (⟨#[104, 108, 61]⟩ : ByteArray), (⟨#[105, 120, 61]⟩ : ByteArray), (⟨#[105, 121, 61]⟩ : ByteArray), (⟨#[115, 112, 61]⟩ : ByteArray), (⟨#[112, 99, 61]⟩ : ByteArray)] : List ByteArray) t22))) (by kernel_rfl) hS26 (fun _ hk => run_cat (a := t21) (b := (rdD ([(⟨#[97, 102, 61]⟩ : ByteArray), (⟨#[98, 99, 61]⟩ : ByteArray), (⟨#[100, 101, 61]⟩ : ByteArray), (⟨#[104, 108, 61]⟩ : ByteArray), (⟨#[105, 120, 61]⟩ : ByteArray), (⟨#[105, 121, 61]⟩ : ByteArray), (⟨#[115, 112, 61]⟩ : ByteArray), (⟨#[112, 99, 61]⟩ : ByteArray)] : List ByteArray) t22)) (by kernel_rfl) hc29) ?_
      refine AnyE.pure 6 37 (.slice A20 (([p0_0, p0_1, p0_2, p0_3, p0_8, p0_9, p0_10, p0_11] : List Int).length) 8) (by kernel_rfl) hS26 (fun _ => by kernel_rfl) ?_
      refine AnyE.pure 7 38 (.int .i64 t22) (by kernel_rfl) hS26 (fun _ => by kernel_rfl) ?_
      obtain ⟨hc30, h⟩ := of_cond0 h
      refine AnyE.idxOwnA 8 39 2 70 22 t22 h25 (by kernel_rfl) hS26 rfl (by kernel_rfl) (by kernel_rfl) hc30 ?_
      refine AnyE.loadOwnA 9 40 2 22 22 t22 0 (.int .u16 (rdD ([p0_0, p0_1, p0_2, p0_3, p0_8, p0_9, p0_10, p0_11] : List Int) t22)) [] (o := (Int.toNat t22) * 1 + 0) h25 rfl (by kernel_rfl) hS26 rfl rfl (by kernel_rfl) rfl hc30 (fun _ _ hk => by obtain rfl := hk; kernel_rfl) ?_
      refine AnyE.pure 10 41 (.int .i64 (IntKind.wrap .i64 (rdD ([p0_0, p0_1, p0_2, p0_3, p0_8, p0_9, p0_10, p0_11] : List Int) t22))) (by kernel_rfl) hS26 (fun _ => by kernel_rfl) ?_
      obtain ⟨t32, hg31, h⟩ := of_bind h
      refine AnyE.call 11 42 (.string t32) 53 #[.int .i64 (IntKind.wrap .i64 (rdD ([p0_0, p0_1, p0_2, p0_3, p0_8, p0_9, p0_10, p0_11] : List Int) t22)), .int .i64 4] (by kernel_rfl) hS26 (fun _ => by kernel_rfl) (fun w hk => charabancref09_Hex_53_ok K (fun _ => False) w (IntKind.wrap .i64 (rdD ([p0_0, p0_1, p0_2, p0_3, p0_8, p0_9, p0_10, p0_11] : List Int) t22)) 4 (fun _ hf => hf.elim) hg31) ?_
      obtain ⟨hc33, h⟩ := of_cond0 h
      refine AnyE.run 12 43 (.string ((t21 ++ (rdD ([(⟨#[97, 102, 61]⟩ : ByteArray), (⟨#[98, 99, 61]⟩ : ByteArray), (⟨#[100, 101, 61]⟩ : ByteArray), (⟨#[104, 108, 61]⟩ : ByteArray), (⟨#[105, 120, 61]⟩ : ByteArray), (⟨#[105, 121, 61]⟩ : ByteArray), (⟨#[115, 112, 61]⟩ : ByteArray), (⟨#[112, 99, 61]⟩ : ByteArray)] : List ByteArray) t22)) ++ t32)) (by kernel_rfl) hS26 (fun _ hk => run_cat (a := (t21 ++ (rdD ([(⟨#[97, 102, 61]⟩ : ByteArray), (⟨#[98, 99, 61]⟩ : ByteArray), (⟨#[100, 101, 61]⟩ : ByteArray), (⟨#[104, 108, 61]⟩ : ByteArray), (⟨#[105, 120, 61]⟩ : ByteArray), (⟨#[105, 121, 61]⟩ : ByteArray), (⟨#[115, 112, 61]⟩ : ByteArray), (⟨#[112, 99, 61]⟩ : ByteArray)] : List ByteArray) t22))) (b := t32) (by kernel_rfl) hc33) ?_
      obtain ⟨hc34, h⟩ := of_cond0 h
      refine AnyE.run 13 44 (.string (((t21 ++ (rdD ([(⟨#[97, 102, 61]⟩ : ByteArray), (⟨#[98, 99, 61]⟩ : ByteArray), (⟨#[100, 101, 61]⟩ : ByteArray), (⟨#[104, 108, 61]⟩ : ByteArray), (⟨#[105, 120, 61]⟩ : ByteArray), (⟨#[105, 121, 61]⟩ : ByteArray), (⟨#[115, 112, 61]⟩ : ByteArray), (⟨#[112, 99, 61]⟩ : ByteArray)] : List ByteArray) t22)) ++ t32) ++ (⟨#[32]⟩ : ByteArray))) (by kernel_rfl) hS26 (fun _ hk => run_cat (a := ((t21 ++ (rdD ([(⟨#[97, 102, 61]⟩ : ByteArray), (⟨#[98, 99, 61]⟩ : ByteArray), (⟨#[100, 101, 61]⟩ : ByteArray), (⟨#[104, 108, 61]⟩ : ByteArray), (⟨#[105, 120, 61]⟩ : ByteArray), (⟨#[105, 121, 61]⟩ : ByteArray), (⟨#[115, 112, 61]⟩ : ByteArray), (⟨#[112, 99, 61]⟩ : ByteArray)] : List ByteArray) t22)) ++ t32)) (b := (⟨#[32]⟩ : ByteArray)) (by kernel_rfl) hc34) ?_
      refine AnyE.pure 14 5 (.string (((t21 ++ (rdD ([(⟨#[97, 102, 61]⟩ : ByteArray), (⟨#[98, 99, 61]⟩ : ByteArray), (⟨#[100, 101, 61]⟩ : ByteArray), (⟨#[104, 108, 61]⟩ : ByteArray), (⟨#[105, 120, 61]⟩ : ByteArray), (⟨#[105, 121, 61]⟩ : ByteArray), (⟨#[115, 112, 61]⟩ : ByteArray), (⟨#[112, 99, 61]⟩ : ByteArray)] : List ByteArray) t22)) ++ t32) ++ (⟨#[32]⟩ : ByteArray))) (by kernel_rfl) hS26 (fun _ => by kernel_rfl) ?_
      refine AnyE.done (by kernel_rfl) (fun w35 hu36 => ?_)
      have h37 := h25.call hu36
      refine RunsI.only [1, 3, 4, 5, 6] [(1, .pointer (some ⟨b18, 0, none⟩)), (3, .slice A19 (([(⟨#[97, 102, 61]⟩ : ByteArray), (⟨#[98, 99, 61]⟩ : ByteArray), (⟨#[100, 101, 61]⟩ : ByteArray), (⟨#[104, 108, 61]⟩ : ByteArray), (⟨#[105, 120, 61]⟩ : ByteArray), (⟨#[105, 121, 61]⟩ : ByteArray), (⟨#[115, 112, 61]⟩ : ByteArray), (⟨#[112, 99, 61]⟩ : ByteArray)] : List ByteArray).length) 8), (4, .slice A20 (([p0_0, p0_1, p0_2, p0_3, p0_8, p0_9, p0_10, p0_11] : List Int).length) 8), (5, .string (((t21 ++ (rdD ([(⟨#[97, 102, 61]⟩ : ByteArray), (⟨#[98, 99, 61]⟩ : ByteArray), (⟨#[100, 101, 61]⟩ : ByteArray), (⟨#[104, 108, 61]⟩ : ByteArray), (⟨#[105, 120, 61]⟩ : ByteArray), (⟨#[105, 121, 61]⟩ : ByteArray), (⟨#[115, 112, 61]⟩ : ByteArray), (⟨#[112, 99, 61]⟩ : ByteArray)] : List ByteArray) t22)) ++ t32) ++ (⟨#[32]⟩ : ByteArray))), (6, .int .i64 t22)] (by kernel_rfl) (by kernel_rfl) ?_
      refine RunsI.go 1 [.c 22, .lp 13, .blk 0, .c 23] (by kernel_rfl) ?_
      refine RunsI.region (by kernel_rfl) ?_
      refine RegI.pure 3 [1, 3, 4, 5, 6] [(1, .pointer (some ⟨b18, 0, none⟩)), (3, .slice A19 (([(⟨#[97, 102, 61]⟩ : ByteArray), (⟨#[98, 99, 61]⟩ : ByteArray), (⟨#[100, 101, 61]⟩ : ByteArray), (⟨#[104, 108, 61]⟩ : ByteArray), (⟨#[105, 120, 61]⟩ : ByteArray), (⟨#[105, 121, 61]⟩ : ByteArray), (⟨#[115, 112, 61]⟩ : ByteArray), (⟨#[112, 99, 61]⟩ : ByteArray)] : List ByteArray).length) 8), (4, .slice A20 (([p0_0, p0_1, p0_2, p0_3, p0_8, p0_9, p0_10, p0_11] : List Int).length) 8), (5, .string (((t21 ++ (rdD ([(⟨#[97, 102, 61]⟩ : ByteArray), (⟨#[98, 99, 61]⟩ : ByteArray), (⟨#[100, 101, 61]⟩ : ByteArray), (⟨#[104, 108, 61]⟩ : ByteArray), (⟨#[105, 120, 61]⟩ : ByteArray), (⟨#[105, 121, 61]⟩ : ByteArray), (⟨#[115, 112, 61]⟩ : ByteArray), (⟨#[112, 99, 61]⟩ : ByteArray)] : List ByteArray) t22)) ++ t32) ++ (⟨#[32]⟩ : ByteArray))), (6, .int .i64 (IntKind.wrap .i64 (t22 + 1)))] (by kernel_rfl) ?_
      refine RegI.done (by kernel_rfl) ?_
      refine RunsI.go 1 [.c 13, .lp 13, .blk 0, .c 23] (by kernel_rfl) ?_
      refine RunsI.only [1, 3, 4, 5, 6] [(1, .pointer (some ⟨b18, 0, none⟩)), (3, .slice A19 (([(⟨#[97, 102, 61]⟩ : ByteArray), (⟨#[98, 99, 61]⟩ : ByteArray), (⟨#[100, 101, 61]⟩ : ByteArray), (⟨#[104, 108, 61]⟩ : ByteArray), (⟨#[105, 120, 61]⟩ : ByteArray), (⟨#[105, 121, 61]⟩ : ByteArray), (⟨#[115, 112, 61]⟩ : ByteArray), (⟨#[112, 99, 61]⟩ : ByteArray)] : List ByteArray).length) 8), (4, .slice A20 (([p0_0, p0_1, p0_2, p0_3, p0_8, p0_9, p0_10, p0_11] : List Int).length) 8), (5, .string (((t21 ++ (rdD ([(⟨#[97, 102, 61]⟩ : ByteArray), (⟨#[98, 99, 61]⟩ : ByteArray), (⟨#[100, 101, 61]⟩ : ByteArray), (⟨#[104, 108, 61]⟩ : ByteArray), (⟨#[105, 120, 61]⟩ : ByteArray), (⟨#[105, 121, 61]⟩ : ByteArray), (⟨#[115, 112, 61]⟩ : ByteArray), (⟨#[112, 99, 61]⟩ : ByteArray)] : List ByteArray) t22)) ++ t32) ++ (⟨#[32]⟩ : ByteArray))), (6, .int .i64 (IntKind.wrap .i64 (t22 + 1)))] (by kernel_rfl) (by kernel_rfl) ?_
      exact ih (((t21 ++ (rdD ([(⟨#[97, 102, 61]⟩ : ByteArray), (⟨#[98, 99, 61]⟩ : ByteArray), (⟨#[100, 101, 61]⟩ : ByteArray), (⟨#[104, 108, 61]⟩ : ByteArray), (⟨#[105, 120, 61]⟩ : ByteArray), (⟨#[105, 121, 61]⟩ : ByteArray), (⟨#[115, 112, 61]⟩ : ByteArray), (⟨#[112, 99, 61]⟩ : ByteArray)] : List ByteArray) t22)) ++ t32) ++ (⟨#[32]⟩ : ByteArray)) (IntKind.wrap .i64 (t22 + 1)) w35 h (h37.pick [0, 1, 2] (by decide))
    · skip
      refine RunsI.fix 28 false hc23 (by kernel_rfl) (by kernel_rfl) ?_
      refine RunsI.cond false 18 (by kernel_rfl) ?_
      refine RunsI.go 1 [.c 23] (by kernel_rfl) ?_
      refine RunsI.only [1, 5] [(1, .pointer (some ⟨b18, 0, none⟩)), (5, .string t21)] (by kernel_rfl) (by kernel_rfl) ?_
      exact hk0 t21 w (Option.some.inj h).symm (hH.pick [0] (by decide))
def charabancref11_Show_37.f (K : Nat) (p0_0 : Int) (p0_1 : Int) (p0_2 : Int) (p0_3 : Int) (p0_4 : Int) (p0_5 : Int) (p0_6 : Int) (p0_7 : Int) (p0_8 : Int) (p0_9 : Int) (p0_10 : Int) (p0_11 : Int) (p0_12 : Int) (p0_13 : Int) (p0_14 : Int) (p0_15 : Bool) (p0_16 : Bool) (p0_17 : Bool) (p0_18 : Bool) (p0_19 : Int) : Option ByteArray := (charabancref11_Show_37.l0 K p0_0 p0_1 p0_2 p0_3 p0_4 p0_5 p0_6 p0_7 p0_8 p0_9 p0_10 p0_11 p0_12 p0_13 p0_14 p0_15 p0_16 p0_17 p0_18 p0_19 K (⟨#[]⟩ : ByteArray) 0).bind (fun t41 => cond (mayCat t41.size (⟨#[105, 61]⟩ : ByteArray).size) ((charabancref09_Hex_53.f K (IntKind.wrap .i64 p0_13) 2).bind fun t50 => cond (mayCat (t41 ++ (⟨#[105, 61]⟩ : ByteArray)).size t50.size) (cond (mayCat ((t41 ++ (⟨#[105, 61]⟩ : ByteArray)) ++ t50).size (⟨#[32, 114, 61]⟩ : ByteArray).size) ((charabancref09_Hex_53.f K (IntKind.wrap .i64 p0_14) 2).bind fun t54 => cond (mayCat (((t41 ++ (⟨#[105, 61]⟩ : ByteArray)) ++ t50) ++ (⟨#[32, 114, 61]⟩ : ByteArray)).size t54.size) (cond (mayCat ((((t41 ++ (⟨#[105, 61]⟩ : ByteArray)) ++ t50) ++ (⟨#[32, 114, 61]⟩ : ByteArray)) ++ t54).size (⟨#[32, 105, 109]⟩ : ByteArray).size) ((charabancref11_Number_54.f K p0_19).bind fun t58 => cond (mayCat (((((t41 ++ (⟨#[105, 61]⟩ : ByteArray)) ++ t50) ++ (⟨#[32, 114, 61]⟩ : ByteArray)) ++ t54) ++ (⟨#[32, 105, 109]⟩ : ByteArray)).size t58.size) (Let (fun (t65 : ByteArray) => Let (fun (t73 : ByteArray) => cond p0_17 (cond (mayCat t73.size (⟨#[32, 104, 97, 108, 116]⟩ : ByteArray).size) (some (t73 ++ (⟨#[32, 104, 97, 108, 116]⟩ : ByteArray))) none) (some t73)) (fun j76 => cond p0_16 (cond (mayCat t65.size (⟨#[32, 105, 102, 102, 50]⟩ : ByteArray).size) (j76 (t65 ++ (⟨#[32, 105, 102, 102, 50]⟩ : ByteArray))) none) (j76 t65))) (fun j68 => cond p0_15 (cond (mayCat ((((((t41 ++ (⟨#[105, 61]⟩ : ByteArray)) ++ t50) ++ (⟨#[32, 114, 61]⟩ : ByteArray)) ++ t54) ++ (⟨#[32, 105, 109]⟩ : ByteArray)) ++ t58).size (⟨#[32, 105, 102, 102, 49]⟩ : ByteArray).size) (j68 (((((((t41 ++ (⟨#[105, 61]⟩ : ByteArray)) ++ t50) ++ (⟨#[32, 114, 61]⟩ : ByteArray)) ++ t54) ++ (⟨#[32, 105, 109]⟩ : ByteArray)) ++ t58) ++ (⟨#[32, 105, 102, 102, 49]⟩ : ByteArray))) none) (j68 ((((((t41 ++ (⟨#[105, 61]⟩ : ByteArray)) ++ t50) ++ (⟨#[32, 114, 61]⟩ : ByteArray)) ++ t54) ++ (⟨#[32, 105, 109]⟩ : ByteArray)) ++ t58)))) none) none) none) none) none) none)
set_option maxRecDepth 100000 in
theorem charabancref11_Show_37_ok (K : Nat) (M0 : Nat → Prop) (w0 : World) (p0_0 : Int) (p0_1 : Int) (p0_2 : Int) (p0_3 : Int) (p0_4 : Int) (p0_5 : Int) (p0_6 : Int) (p0_7 : Int) (p0_8 : Int) (p0_9 : Int) (p0_10 : Int) (p0_11 : Int) (p0_12 : Int) (p0_13 : Int) (p0_14 : Int) (p0_15 : Bool) (p0_16 : Bool) (p0_17 : Bool) (p0_18 : Bool) (p0_19 : Int) (ho : ∀ b, M0 b → b < w0.heap.size) {r : ByteArray} (h : charabancref11_Show_37.f K p0_0 p0_1 p0_2 p0_3 p0_4 p0_5 p0_6 p0_7 p0_8 p0_9 p0_10 p0_11 p0_12 p0_13 p0_14 p0_15 p0_16 p0_17 p0_18 p0_19 = some r) :
    Calls Tryd.prog 37 #[.agg #[.int .u16 p0_0, .int .u16 p0_1, .int .u16 p0_2, .int .u16 p0_3, .int .u16 p0_4, .int .u16 p0_5, .int .u16 p0_6, .int .u16 p0_7, .int .u16 p0_8, .int .u16 p0_9, .int .u16 p0_10, .int .u16 p0_11, .int .u16 p0_12, .int .u8 p0_13, .int .u8 p0_14, .bool p0_15, .bool p0_16, .bool p0_17, .bool p0_18, .int .i64 p0_19]] w0 (charabancref11_Show_37.post M0 w0 r) := by
  unfold charabancref11_Show_37.f at h
  have h0 : Holds M0 w0 w0 [] := Holds.start ho
  have h0 : Holds M0 w0 w0 [] := h0
  refine calls_of F37 rfl [.agg #[.int .u16 p0_0, .int .u16 p0_1, .int .u16 p0_2, .int .u16 p0_3, .int .u16 p0_4, .int .u16 p0_5, .int .u16 p0_6, .int .u16 p0_7, .int .u16 p0_8, .int .u16 p0_9, .int .u16 p0_10, .int .u16 p0_11, .int .u16 p0_12, .int .u8 p0_13, .int .u8 p0_14, .bool p0_15, .bool p0_16, .bool p0_17, .bool p0_18, .int .i64 p0_19]] (by kernel_rfl) ?_
  refine RunsI.go 1 [.c 1, .c 2] (by kernel_rfl) ?_
  refine RunsI.region (by kernel_rfl) ?_
  refine RegI.op (by kernel_rfl) (OpE.box 1 46 [.int .u16 p0_0, .int .u16 p0_1, .int .u16 p0_2, .int .u16 p0_3, .int .u16 p0_4, .int .u16 p0_5, .int .u16 p0_6, .int .u16 p0_7, .int .u16 p0_8, .int .u16 p0_9, .int .u16 p0_10, .int .u16 p0_11, .int .u16 p0_12, .int .u8 p0_13, .int .u8 p0_14, .bool p0_15, .bool p0_16, .bool p0_17, .bool p0_18, .int .i64 p0_19] h0 (by kernel_rfl) (by kernel_rfl) ?_)
  intro w1 b2 h3 hb4 hn5
  refine RegI.pure 1 [1] [(1, .pointer (some ⟨b2, 0, none⟩))] (by kernel_rfl) ?_
  refine RegI.done (by kernel_rfl) ?_
  refine RunsI.go 1 [.c 3, .c 4] (by kernel_rfl) ?_
  refine RunsI.region (by kernel_rfl) ?_
  refine RegI.op (by kernel_rfl) (OpE.lit 7 9 [.string (⟨#[97, 102, 61]⟩ : ByteArray), .string (⟨#[98, 99, 61]⟩ : ByteArray), .string (⟨#[100, 101, 61]⟩ : ByteArray), .string (⟨#[104, 108, 61]⟩ : ByteArray), .string (⟨#[105, 120, 61]⟩ : ByteArray), .string (⟨#[105, 121, 61]⟩ : ByteArray), .string (⟨#[115, 112, 61]⟩ : ByteArray), .string (⟨#[112, 99, 61]⟩ : ByteArray)] 8 h3 (by kernel_rfl) (by kernel_rfl) ?_)
  intro w6 b7 h8 hb9 hn10
  refine RegI.pure 1 [1, 3] [(1, .pointer (some ⟨b2, 0, none⟩)), (3, .slice (some ⟨b7, 0, none⟩) (([(⟨#[97, 102, 61]⟩ : ByteArray), (⟨#[98, 99, 61]⟩ : ByteArray), (⟨#[100, 101, 61]⟩ : ByteArray), (⟨#[104, 108, 61]⟩ : ByteArray), (⟨#[105, 120, 61]⟩ : ByteArray), (⟨#[105, 121, 61]⟩ : ByteArray), (⟨#[115, 112, 61]⟩ : ByteArray), (⟨#[112, 99, 61]⟩ : ByteArray)] : List ByteArray).length) 8)] (by kernel_rfl) ?_
  refine RegI.done (by kernel_rfl) ?_
  refine RunsI.go 1 [.c 5, .c 6] (by kernel_rfl) ?_
  refine RunsI.region (by kernel_rfl) ?_
  refine RegI.pure 1 [1, 3, 8] [(1, .pointer (some ⟨b2, 0, none⟩)), (3, .slice (some ⟨b7, 0, none⟩) (([(⟨#[97, 102, 61]⟩ : ByteArray), (⟨#[98, 99, 61]⟩ : ByteArray), (⟨#[100, 101, 61]⟩ : ByteArray), (⟨#[104, 108, 61]⟩ : ByteArray), (⟨#[105, 120, 61]⟩ : ByteArray), (⟨#[105, 121, 61]⟩ : ByteArray), (⟨#[115, 112, 61]⟩ : ByteArray), (⟨#[112, 99, 61]⟩ : ByteArray)] : List ByteArray).length) 8), (8, .pointer (some ⟨b2, 0, none⟩))] (by kernel_rfl) ?_
  refine RegI.op (by kernel_rfl) (OpE.loadBox 9 0 22 b2 0 (.int .u16 p0_0) h8 (by kernel_rfl) (by kernel_rfl) rfl (by kernel_rfl) ?_)
  refine RegI.pure 1 [1, 3, 9, 10] [(1, .pointer (some ⟨b2, 0, none⟩)), (3, .slice (some ⟨b7, 0, none⟩) (([(⟨#[97, 102, 61]⟩ : ByteArray), (⟨#[98, 99, 61]⟩ : ByteArray), (⟨#[100, 101, 61]⟩ : ByteArray), (⟨#[104, 108, 61]⟩ : ByteArray), (⟨#[105, 120, 61]⟩ : ByteArray), (⟨#[105, 121, 61]⟩ : ByteArray), (⟨#[115, 112, 61]⟩ : ByteArray), (⟨#[112, 99, 61]⟩ : ByteArray)] : List ByteArray).length) 8), (9, .int .u16 p0_0), (10, .pointer (some ⟨b2, 1, none⟩))] (by kernel_rfl) ?_
  refine RegI.op (by kernel_rfl) (OpE.loadBox 11 0 22 b2 1 (.int .u16 p0_1) h8 (by kernel_rfl) (by kernel_rfl) rfl (by kernel_rfl) ?_)
  refine RegI.pure 1 [1, 3, 9, 11, 12] [(1, .pointer (some ⟨b2, 0, none⟩)), (3, .slice (some ⟨b7, 0, none⟩) (([(⟨#[97, 102, 61]⟩ : ByteArray), (⟨#[98, 99, 61]⟩ : ByteArray), (⟨#[100, 101, 61]⟩ : ByteArray), (⟨#[104, 108, 61]⟩ : ByteArray), (⟨#[105, 120, 61]⟩ : ByteArray), (⟨#[105, 121, 61]⟩ : ByteArray), (⟨#[115, 112, 61]⟩ : ByteArray), (⟨#[112, 99, 61]⟩ : ByteArray)] : List ByteArray).length) 8), (9, .int .u16 p0_0), (11, .int .u16 p0_1), (12, .pointer (some ⟨b2, 2, none⟩))] (by kernel_rfl) ?_
  refine RegI.op (by kernel_rfl) (OpE.loadBox 13 0 22 b2 2 (.int .u16 p0_2) h8 (by kernel_rfl) (by kernel_rfl) rfl (by kernel_rfl) ?_)
  refine RegI.pure 1 [1, 3, 9, 11, 13, 14] [(1, .pointer (some ⟨b2, 0, none⟩)), (3, .slice (some ⟨b7, 0, none⟩) (([(⟨#[97, 102, 61]⟩ : ByteArray), (⟨#[98, 99, 61]⟩ : ByteArray), (⟨#[100, 101, 61]⟩ : ByteArray), (⟨#[104, 108, 61]⟩ : ByteArray), (⟨#[105, 120, 61]⟩ : ByteArray), (⟨#[105, 121, 61]⟩ : ByteArray), (⟨#[115, 112, 61]⟩ : ByteArray), (⟨#[112, 99, 61]⟩ : ByteArray)] : List ByteArray).length) 8), (9, .int .u16 p0_0), (11, .int .u16 p0_1), (13, .int .u16 p0_2), (14, .pointer (some ⟨b2, 3, none⟩))] (by kernel_rfl) ?_
  refine RegI.op (by kernel_rfl) (OpE.loadBox 15 0 22 b2 3 (.int .u16 p0_3) h8 (by kernel_rfl) (by kernel_rfl) rfl (by kernel_rfl) ?_)
  refine RegI.pure 1 [1, 3, 9, 11, 13, 15, 16] [(1, .pointer (some ⟨b2, 0, none⟩)), (3, .slice (some ⟨b7, 0, none⟩) (([(⟨#[97, 102, 61]⟩ : ByteArray), (⟨#[98, 99, 61]⟩ : ByteArray), (⟨#[100, 101, 61]⟩ : ByteArray), (⟨#[104, 108, 61]⟩ : ByteArray), (⟨#[105, 120, 61]⟩ : ByteArray), (⟨#[105, 121, 61]⟩ : ByteArray), (⟨#[115, 112, 61]⟩ : ByteArray), (⟨#[112, 99, 61]⟩ : ByteArray)] : List ByteArray).length) 8), (9, .int .u16 p0_0), (11, .int .u16 p0_1), (13, .int .u16 p0_2), (15, .int .u16 p0_3), (16, .pointer (some ⟨b2, 8, none⟩))] (by kernel_rfl) ?_
  refine RegI.op (by kernel_rfl) (OpE.loadBox 17 0 22 b2 8 (.int .u16 p0_8) h8 (by kernel_rfl) (by kernel_rfl) rfl (by kernel_rfl) ?_)
  refine RegI.pure 1 [1, 3, 9, 11, 13, 15, 17, 18] [(1, .pointer (some ⟨b2, 0, none⟩)), (3, .slice (some ⟨b7, 0, none⟩) (([(⟨#[97, 102, 61]⟩ : ByteArray), (⟨#[98, 99, 61]⟩ : ByteArray), (⟨#[100, 101, 61]⟩ : ByteArray), (⟨#[104, 108, 61]⟩ : ByteArray), (⟨#[105, 120, 61]⟩ : ByteArray), (⟨#[105, 121, 61]⟩ : ByteArray), (⟨#[115, 112, 61]⟩ : ByteArray), (⟨#[112, 99, 61]⟩ : ByteArray)] : List ByteArray).length) 8), (9, .int .u16 p0_0), (11, .int .u16 p0_1), (13, .int .u16 p0_2), (15, .int .u16 p0_3), (17, .int .u16 p0_8), (18, .pointer (some ⟨b2, 9, none⟩))] (by kernel_rfl) ?_
  refine RegI.op (by kernel_rfl) (OpE.loadBox 19 0 22 b2 9 (.int .u16 p0_9) h8 (by kernel_rfl) (by kernel_rfl) rfl (by kernel_rfl) ?_)
  refine RegI.pure 1 [1, 3, 9, 11, 13, 15, 17, 19, 20] [(1, .pointer (some ⟨b2, 0, none⟩)), (3, .slice (some ⟨b7, 0, none⟩) (([(⟨#[97, 102, 61]⟩ : ByteArray), (⟨#[98, 99, 61]⟩ : ByteArray), (⟨#[100, 101, 61]⟩ : ByteArray), (⟨#[104, 108, 61]⟩ : ByteArray), (⟨#[105, 120, 61]⟩ : ByteArray), (⟨#[105, 121, 61]⟩ : ByteArray), (⟨#[115, 112, 61]⟩ : ByteArray), (⟨#[112, 99, 61]⟩ : ByteArray)] : List ByteArray).length) 8), (9, .int .u16 p0_0), (11, .int .u16 p0_1), (13, .int .u16 p0_2), (15, .int .u16 p0_3), (17, .int .u16 p0_8), (19, .int .u16 p0_9), (20, .pointer (some ⟨b2, 10, none⟩))] (by kernel_rfl) ?_
  refine RegI.op (by kernel_rfl) (OpE.loadBox 21 0 22 b2 10 (.int .u16 p0_10) h8 (by kernel_rfl) (by kernel_rfl) rfl (by kernel_rfl) ?_)
  refine RegI.pure 1 [1, 3, 9, 11, 13, 15, 17, 19, 21, 22] [(1, .pointer (some ⟨b2, 0, none⟩)), (3, .slice (some ⟨b7, 0, none⟩) (([(⟨#[97, 102, 61]⟩ : ByteArray), (⟨#[98, 99, 61]⟩ : ByteArray), (⟨#[100, 101, 61]⟩ : ByteArray), (⟨#[104, 108, 61]⟩ : ByteArray), (⟨#[105, 120, 61]⟩ : ByteArray), (⟨#[105, 121, 61]⟩ : ByteArray), (⟨#[115, 112, 61]⟩ : ByteArray), (⟨#[112, 99, 61]⟩ : ByteArray)] : List ByteArray).length) 8), (9, .int .u16 p0_0), (11, .int .u16 p0_1), (13, .int .u16 p0_2), (15, .int .u16 p0_3), (17, .int .u16 p0_8), (19, .int .u16 p0_9), (21, .int .u16 p0_10), (22, .pointer (some ⟨b2, 11, none⟩))] (by kernel_rfl) ?_
  refine RegI.op (by kernel_rfl) (OpE.loadBox 23 0 22 b2 11 (.int .u16 p0_11) h8 (by kernel_rfl) (by kernel_rfl) rfl (by kernel_rfl) ?_)
  refine RegI.op (by kernel_rfl) (OpE.lit 24 22 [.int .u16 p0_0, .int .u16 p0_1, .int .u16 p0_2, .int .u16 p0_3, .int .u16 p0_8, .int .u16 p0_9, .int .u16 p0_10, .int .u16 p0_11] 8 h8 (by kernel_rfl) (by kernel_rfl) ?_)
  intro w11 b12 h13 hb14 hn15
  refine RegI.pure 1 [1, 3, 4] [(1, .pointer (some ⟨b2, 0, none⟩)), (3, .slice (some ⟨b7, 0, none⟩) (([(⟨#[97, 102, 61]⟩ : ByteArray), (⟨#[98, 99, 61]⟩ : ByteArray), (⟨#[100, 101, 61]⟩ : ByteArray), (⟨#[104, 108, 61]⟩ : ByteArray), (⟨#[105, 120, 61]⟩ : ByteArray), (⟨#[105, 121, 61]⟩ : ByteArray), (⟨#[115, 112, 61]⟩ : ByteArray), (⟨#[112, 99, 61]⟩ : ByteArray)] : List ByteArray).length) 8), (4, .slice (some ⟨b12, 0, none⟩) (([p0_0, p0_1, p0_2, p0_3, p0_8, p0_9, p0_10, p0_11] : List Int).length) 8)] (by kernel_rfl) ?_
  refine RegI.done (by kernel_rfl) ?_
  refine RunsI.go 1 [.c 7, .c 8] (by kernel_rfl) ?_
  refine RunsI.region (by kernel_rfl) ?_
  refine RegI.pure 1 [1, 3, 4, 5] [(1, .pointer (some ⟨b2, 0, none⟩)), (3, .slice (some ⟨b7, 0, none⟩) (([(⟨#[97, 102, 61]⟩ : ByteArray), (⟨#[98, 99, 61]⟩ : ByteArray), (⟨#[100, 101, 61]⟩ : ByteArray), (⟨#[104, 108, 61]⟩ : ByteArray), (⟨#[105, 120, 61]⟩ : ByteArray), (⟨#[105, 121, 61]⟩ : ByteArray), (⟨#[115, 112, 61]⟩ : ByteArray), (⟨#[112, 99, 61]⟩ : ByteArray)] : List ByteArray).length) 8), (4, .slice (some ⟨b12, 0, none⟩) (([p0_0, p0_1, p0_2, p0_3, p0_8, p0_9, p0_10, p0_11] : List Int).length) 8), (5, .string (⟨#[]⟩ : ByteArray))] (by kernel_rfl) ?_
  refine RegI.done (by kernel_rfl) ?_
  refine RunsI.go 2 [.c 10, .c 11, .c 23] (by kernel_rfl) ?_
  refine RunsI.region (by kernel_rfl) ?_
  refine RegI.pure 1 [1, 3, 4, 5, 6] [(1, .pointer (some ⟨b2, 0, none⟩)), (3, .slice (some ⟨b7, 0, none⟩) (([(⟨#[97, 102, 61]⟩ : ByteArray), (⟨#[98, 99, 61]⟩ : ByteArray), (⟨#[100, 101, 61]⟩ : ByteArray), (⟨#[104, 108, 61]⟩ : ByteArray), (⟨#[105, 120, 61]⟩ : ByteArray), (⟨#[105, 121, 61]⟩ : ByteArray), (⟨#[115, 112, 61]⟩ : ByteArray), (⟨#[112, 99, 61]⟩ : ByteArray)] : List ByteArray).length) 8), (4, .slice (some ⟨b12, 0, none⟩) (([p0_0, p0_1, p0_2, p0_3, p0_8, p0_9, p0_10, p0_11] : List Int).length) 8), (5, .string (⟨#[]⟩ : ByteArray)), (6, .int .i64 0)] (by kernel_rfl) ?_
  refine RegI.done (by kernel_rfl) ?_
  refine RunsI.go 2 [.c 13, .lp 13, .blk 0, .c 23] (by kernel_rfl) ?_
  obtain ⟨x39, hx40, h⟩ := of_bind h
  have h16 := h13.boxOwn 1 rfl Rp.str ([(⟨#[97, 102, 61]⟩ : ByteArray), (⟨#[98, 99, 61]⟩ : ByteArray), (⟨#[100, 101, 61]⟩ : ByteArray), (⟨#[104, 108, 61]⟩ : ByteArray), (⟨#[105, 120, 61]⟩ : ByteArray), (⟨#[105, 121, 61]⟩ : ByteArray), (⟨#[115, 112, 61]⟩ : ByteArray), (⟨#[112, 99, 61]⟩ : ByteArray)] : List ByteArray) (cells_str _ _ _) (Nat.le_of_ble_eq_true (by kernel_rfl))
  have h17 := h16.boxOwn 2 rfl (Rp.int .u16) ([p0_0, p0_1, p0_2, p0_3, p0_8, p0_9, p0_10, p0_11] : List Int) (cells_int _ _ _ _) (Nat.le_of_ble_eq_true (by kernel_rfl))
  refine RunsI.only [1, 3, 4, 5, 6] [(1, .pointer (some ⟨b2, 0, none⟩)), (3, .slice (some ⟨b7, 0, none⟩) (([(⟨#[97, 102, 61]⟩ : ByteArray), (⟨#[98, 99, 61]⟩ : ByteArray), (⟨#[100, 101, 61]⟩ : ByteArray), (⟨#[104, 108, 61]⟩ : ByteArray), (⟨#[105, 120, 61]⟩ : ByteArray), (⟨#[105, 121, 61]⟩ : ByteArray), (⟨#[115, 112, 61]⟩ : ByteArray), (⟨#[112, 99, 61]⟩ : ByteArray)] : List ByteArray).length) 8), (4, .slice (some ⟨b12, 0, none⟩) (([p0_0, p0_1, p0_2, p0_3, p0_8, p0_9, p0_10, p0_11] : List Int).length) 8), (5, .string (⟨#[]⟩ : ByteArray)), (6, .int .i64 0)] (by kernel_rfl) (by kernel_rfl) ?_
  refine charabancref11_Show_37.l0_ok K M0 w0 p0_0 p0_1 p0_2 p0_3 p0_4 p0_5 p0_6 p0_7 p0_8 p0_9 p0_10 p0_11 p0_12 p0_13 p0_14 p0_15 p0_16 p0_17 p0_18 p0_19 b2 (some ⟨b7, 0, none⟩) (some ⟨b12, 0, none⟩) _ x39 ?_ K (⟨#[]⟩ : ByteArray) 0 w11 hx40 (h17.pick [0, 1, 2] (by decide))
  · intro t41 w43 hq81 h42
    (try rw [hq81] at h)
    refine RunsI.go 1 [.c 24, .c 25] (by kernel_rfl) ?_
    refine RunsI.any 19 (by kernel_rfl) (by kernel_rfl) (by kernel_rfl) (Kp ([] : List Nat) (World.drew w43)) ?_
    have h45 := h42.drew
    generalize World.drew w43 = w44 at h45 ⊢
    have hS46 := Kp.refl ([] : List Nat) w44
    refine AnyE.pure 0 45 (.string t41) (by kernel_rfl) hS46 (fun _ => by kernel_rfl) ?_
    obtain ⟨hc48, h⟩ := of_cond0 h
    refine AnyE.run 1 46 (.string (t41 ++ (⟨#[105, 61]⟩ : ByteArray))) (by kernel_rfl) hS46 (fun _ hk => run_cat (a := t41) (b := (⟨#[105, 61]⟩ : ByteArray)) (by kernel_rfl) hc48) ?_
    refine AnyE.pure 2 47 (.pointer (some ⟨b2, 13, none⟩)) (by kernel_rfl) hS46 (fun _ => by kernel_rfl) ?_
    refine AnyE.loadBox 3 48 0 5 b2 13 (.int .u8 p0_13) [] h45 rfl (by kernel_rfl) hS46 rfl rfl (by kernel_rfl) (by kernel_rfl) ?_
    refine AnyE.pure 4 49 (.int .i64 (IntKind.wrap .i64 p0_13)) (by kernel_rfl) hS46 (fun _ => by kernel_rfl) ?_
    obtain ⟨t50, hg49, h⟩ := of_bind h
    refine AnyE.call 5 50 (.string t50) 53 #[.int .i64 (IntKind.wrap .i64 p0_13), .int .i64 2] (by kernel_rfl) hS46 (fun _ => by kernel_rfl) (fun w hk => charabancref09_Hex_53_ok K (fun _ => False) w (IntKind.wrap .i64 p0_13) 2 (fun _ hf => hf.elim) hg49) ?_
    obtain ⟨hc51, h⟩ := of_cond0 h
    refine AnyE.run 6 51 (.string ((t41 ++ (⟨#[105, 61]⟩ : ByteArray)) ++ t50)) (by kernel_rfl) hS46 (fun _ hk => run_cat (a := (t41 ++ (⟨#[105, 61]⟩ : ByteArray))) (b := t50) (by kernel_rfl) hc51) ?_
    obtain ⟨hc52, h⟩ := of_cond0 h
    refine AnyE.run 7 52 (.string (((t41 ++ (⟨#[105, 61]⟩ : ByteArray)) ++ t50) ++ (⟨#[32, 114, 61]⟩ : ByteArray))) (by kernel_rfl) hS46 (fun _ hk => run_cat (a := ((t41 ++ (⟨#[105, 61]⟩ : ByteArray)) ++ t50)) (b := (⟨#[32, 114, 61]⟩ : ByteArray)) (by kernel_rfl) hc52) ?_
    refine AnyE.pure 8 53 (.pointer (some ⟨b2, 14, none⟩)) (by kernel_rfl) hS46 (fun _ => by kernel_rfl) ?_
    refine AnyE.loadBox 9 54 0 5 b2 14 (.int .u8 p0_14) [] h45 rfl (by kernel_rfl) hS46 rfl rfl (by kernel_rfl) (by kernel_rfl) ?_
    refine AnyE.pure 10 55 (.int .i64 (IntKind.wrap .i64 p0_14)) (by kernel_rfl) hS46 (fun _ => by kernel_rfl) ?_
    obtain ⟨t54, hg53, h⟩ := of_bind h
    refine AnyE.call 11 56 (.string t54) 53 #[.int .i64 (IntKind.wrap .i64 p0_14), .int .i64 2] (by kernel_rfl) hS46 (fun _ => by kernel_rfl) (fun w hk => charabancref09_Hex_53_ok K (fun _ => False) w (IntKind.wrap .i64 p0_14) 2 (fun _ hf => hf.elim) hg53) ?_
    obtain ⟨hc55, h⟩ := of_cond0 h
    refine AnyE.run 12 57 (.string ((((t41 ++ (⟨#[105, 61]⟩ : ByteArray)) ++ t50) ++ (⟨#[32, 114, 61]⟩ : ByteArray)) ++ t54)) (by kernel_rfl) hS46 (fun _ hk => run_cat (a := (((t41 ++ (⟨#[105, 61]⟩ : ByteArray)) ++ t50) ++ (⟨#[32, 114, 61]⟩ : ByteArray))) (b := t54) (by kernel_rfl) hc55) ?_
    obtain ⟨hc56, h⟩ := of_cond0 h
    refine AnyE.run 13 58 (.string (((((t41 ++ (⟨#[105, 61]⟩ : ByteArray)) ++ t50) ++ (⟨#[32, 114, 61]⟩ : ByteArray)) ++ t54) ++ (⟨#[32, 105, 109]⟩ : ByteArray))) (by kernel_rfl) hS46 (fun _ hk => run_cat (a := ((((t41 ++ (⟨#[105, 61]⟩ : ByteArray)) ++ t50) ++ (⟨#[32, 114, 61]⟩ : ByteArray)) ++ t54)) (b := (⟨#[32, 105, 109]⟩ : ByteArray)) (by kernel_rfl) hc56) ?_
    refine AnyE.pure 14 59 (.pointer (some ⟨b2, 19, none⟩)) (by kernel_rfl) hS46 (fun _ => by kernel_rfl) ?_
    refine AnyE.loadBox 15 60 0 3 b2 19 (.int .i64 p0_19) [] h45 rfl (by kernel_rfl) hS46 rfl rfl (by kernel_rfl) (by kernel_rfl) ?_
    obtain ⟨t58, hg57, h⟩ := of_bind h
    refine AnyE.call 16 61 (.string t58) 54 #[.int .i64 p0_19] (by kernel_rfl) hS46 (fun _ => by kernel_rfl) (fun w hk => charabancref11_Number_54_ok K (fun _ => False) w p0_19 (fun _ hf => hf.elim) hg57) ?_
    obtain ⟨hc59, h⟩ := of_cond0 h
    refine AnyE.run 17 62 (.string ((((((t41 ++ (⟨#[105, 61]⟩ : ByteArray)) ++ t50) ++ (⟨#[32, 114, 61]⟩ : ByteArray)) ++ t54) ++ (⟨#[32, 105, 109]⟩ : ByteArray)) ++ t58)) (by kernel_rfl) hS46 (fun _ hk => run_cat (a := (((((t41 ++ (⟨#[105, 61]⟩ : ByteArray)) ++ t50) ++ (⟨#[32, 114, 61]⟩ : ByteArray)) ++ t54) ++ (⟨#[32, 105, 109]⟩ : ByteArray))) (b := t58) (by kernel_rfl) hc59) ?_
    refine AnyE.pure 18 5 (.string ((((((t41 ++ (⟨#[105, 61]⟩ : ByteArray)) ++ t50) ++ (⟨#[32, 114, 61]⟩ : ByteArray)) ++ t54) ++ (⟨#[32, 105, 109]⟩ : ByteArray)) ++ t58)) (by kernel_rfl) hS46 (fun _ => by kernel_rfl) ?_
    refine AnyE.done (by kernel_rfl) (fun w60 hu61 => ?_)
    have h62 := h45.call hu61
    refine RunsI.only [1, 5] [(1, .pointer (some ⟨b2, 0, none⟩)), (5, .string ((((((t41 ++ (⟨#[105, 61]⟩ : ByteArray)) ++ t50) ++ (⟨#[32, 114, 61]⟩ : ByteArray)) ++ t54) ++ (⟨#[32, 105, 109]⟩ : ByteArray)) ++ t58))] (by kernel_rfl) (by kernel_rfl) ?_
    refine RunsI.go 2 [.c 27, .c 28, .c 31] (by kernel_rfl) ?_
    refine RunsI.region (by kernel_rfl) ?_
    refine RegI.pure 1 [1, 5, 63] [(1, .pointer (some ⟨b2, 0, none⟩)), (5, .string ((((((t41 ++ (⟨#[105, 61]⟩ : ByteArray)) ++ t50) ++ (⟨#[32, 114, 61]⟩ : ByteArray)) ++ t54) ++ (⟨#[32, 105, 109]⟩ : ByteArray)) ++ t58)), (63, .pointer (some ⟨b2, 15, none⟩))] (by kernel_rfl) ?_
    refine RegI.op (by kernel_rfl) (OpE.loadBox 64 0 4 b2 15 (.bool p0_15) h62 (by kernel_rfl) (by kernel_rfl) rfl (by kernel_rfl) ?_)
    refine RegI.done (by kernel_rfl) ?_
    obtain ⟨j68, hJ69, h⟩ := of_let h
    have hj70 : ∀ (t65 : ByteArray) (w67 : World), j68 t65 = some r → Holds M0 w0 w67 [box b2 46 [.int .u16 p0_0, .int .u16 p0_1, .int .u16 p0_2, .int .u16 p0_3, .int .u16 p0_4, .int .u16 p0_5, .int .u16 p0_6, .int .u16 p0_7, .int .u16 p0_8, .int .u16 p0_9, .int .u16 p0_10, .int .u16 p0_11, .int .u16 p0_12, .int .u8 p0_13, .int .u8 p0_14, .bool p0_15, .bool p0_16, .bool p0_17, .bool p0_18, .int .i64 p0_19]] → RunsI F37 [.c 31] [(1, .pointer (some ⟨b2, 0, none⟩)), (5, .string t65)] w67 (charabancref11_Show_37.post M0 w0 r) := by
      intro t65 w67 h h66
      rw [hJ69] at h
      clear hJ69
      dsimp only at h
      refine RunsI.go 2 [.c 33, .c 34, .c 37] (by kernel_rfl) ?_
      refine RunsI.region (by kernel_rfl) ?_
      refine RegI.pure 1 [1, 5, 67] [(1, .pointer (some ⟨b2, 0, none⟩)), (5, .string t65), (67, .pointer (some ⟨b2, 16, none⟩))] (by kernel_rfl) ?_
      refine RegI.op (by kernel_rfl) (OpE.loadBox 68 0 4 b2 16 (.bool p0_16) h66 (by kernel_rfl) (by kernel_rfl) rfl (by kernel_rfl) ?_)
      refine RegI.done (by kernel_rfl) ?_
      obtain ⟨j76, hJ77, h⟩ := of_let h
      have hj78 : ∀ (t73 : ByteArray) (w75 : World), j76 t73 = some r → Holds M0 w0 w75 [box b2 46 [.int .u16 p0_0, .int .u16 p0_1, .int .u16 p0_2, .int .u16 p0_3, .int .u16 p0_4, .int .u16 p0_5, .int .u16 p0_6, .int .u16 p0_7, .int .u16 p0_8, .int .u16 p0_9, .int .u16 p0_10, .int .u16 p0_11, .int .u16 p0_12, .int .u8 p0_13, .int .u8 p0_14, .bool p0_15, .bool p0_16, .bool p0_17, .bool p0_18, .int .i64 p0_19]] → RunsI F37 [.c 37] [(1, .pointer (some ⟨b2, 0, none⟩)), (5, .string t73)] w75 (charabancref11_Show_37.post M0 w0 r) := by
        intro t73 w75 h h74
        rw [hJ77] at h
        clear hJ77
        dsimp only at h
        refine RunsI.go 2 [.c 39, .c 40, .c 43] (by kernel_rfl) ?_
        refine RunsI.region (by kernel_rfl) ?_
        refine RegI.pure 1 [5, 71] [(5, .string t73), (71, .pointer (some ⟨b2, 17, none⟩))] (by kernel_rfl) ?_
        refine RegI.op (by kernel_rfl) (OpE.loadBox 72 0 4 b2 17 (.bool p0_17) h74 (by kernel_rfl) (by kernel_rfl) rfl (by kernel_rfl) ?_)
        refine RegI.done (by kernel_rfl) ?_
        rcases of_cond h with ⟨hc79, h⟩ | ⟨hc79, h⟩
        · skip
          refine RunsI.fix 72 true hc79 (by kernel_rfl) (by kernel_rfl) ?_
          refine RunsI.cond true 41 (by kernel_rfl) ?_
          refine RunsI.region (by kernel_rfl) ?_
          refine RegI.pure 1 [73] [(73, .string t73)] (by kernel_rfl) ?_
          obtain ⟨hc80, h⟩ := of_cond0 h
          refine RegI.op (by kernel_rfl) (OpE.run 74 (by kernel_rfl) (run_cat (a := t73) (b := (⟨#[32, 104, 97, 108, 116]⟩ : ByteArray)) (by kernel_rfl) hc80) ?_)
          refine RegI.pure 1 [5] [(5, .string (t73 ++ (⟨#[32, 104, 97, 108, 116]⟩ : ByteArray)))] (by kernel_rfl) ?_
          refine RegI.done (by kernel_rfl) ?_
          refine RunsI.go 1 [.c 44, .c 45] (by kernel_rfl) ?_
          refine RunsI.region (by kernel_rfl) ?_
          refine RegI.pure 2 [2] [(2, .string (t73 ++ (⟨#[32, 104, 97, 108, 116]⟩ : ByteArray)))] (by kernel_rfl) ?_
          refine RegI.done (by kernel_rfl) ?_
          refine RunsI.ret (.string (t73 ++ (⟨#[32, 104, 97, 108, 116]⟩ : ByteArray))) (by kernel_rfl) (by kernel_rfl) ?_
          obtain rfl := Option.some.inj h
          exact ⟨rfl, h74.below⟩
        · skip
          refine RunsI.fix 72 false hc79 (by kernel_rfl) (by kernel_rfl) ?_
          refine RunsI.cond false 42 (by kernel_rfl) ?_
          refine RunsI.go 1 [.c 43] (by kernel_rfl) ?_
          refine RunsI.go 1 [.c 44, .c 45] (by kernel_rfl) ?_
          refine RunsI.region (by kernel_rfl) ?_
          refine RegI.pure 2 [2] [(2, .string t73)] (by kernel_rfl) ?_
          refine RegI.done (by kernel_rfl) ?_
          refine RunsI.ret (.string t73) (by kernel_rfl) (by kernel_rfl) ?_
          obtain rfl := Option.some.inj h
          exact ⟨rfl, h74.below⟩
      clear hJ77
      rcases of_cond h with ⟨hc71, h⟩ | ⟨hc71, h⟩
      · skip
        refine RunsI.fix 68 true hc71 (by kernel_rfl) (by kernel_rfl) ?_
        refine RunsI.cond true 35 (by kernel_rfl) ?_
        refine RunsI.region (by kernel_rfl) ?_
        refine RegI.pure 1 [1, 69] [(1, .pointer (some ⟨b2, 0, none⟩)), (69, .string t65)] (by kernel_rfl) ?_
        obtain ⟨hc72, h⟩ := of_cond0 h
        refine RegI.op (by kernel_rfl) (OpE.run 70 (by kernel_rfl) (run_cat (a := t65) (b := (⟨#[32, 105, 102, 102, 50]⟩ : ByteArray)) (by kernel_rfl) hc72) ?_)
        refine RegI.pure 1 [1, 5] [(1, .pointer (some ⟨b2, 0, none⟩)), (5, .string (t65 ++ (⟨#[32, 105, 102, 102, 50]⟩ : ByteArray)))] (by kernel_rfl) ?_
        refine RegI.done (by kernel_rfl) ?_
        refine RunsI.only [1, 5] [(1, .pointer (some ⟨b2, 0, none⟩)), (5, .string (t65 ++ (⟨#[32, 105, 102, 102, 50]⟩ : ByteArray)))] (by kernel_rfl) (by kernel_rfl) ?_
        exact hj78 (t65 ++ (⟨#[32, 105, 102, 102, 50]⟩ : ByteArray)) w67 h (h66.pick [0] (by decide))
      · skip
        refine RunsI.fix 68 false hc71 (by kernel_rfl) (by kernel_rfl) ?_
        refine RunsI.cond false 36 (by kernel_rfl) ?_
        refine RunsI.go 1 [.c 37] (by kernel_rfl) ?_
        refine RunsI.only [1, 5] [(1, .pointer (some ⟨b2, 0, none⟩)), (5, .string t65)] (by kernel_rfl) (by kernel_rfl) ?_
        exact hj78 t65 w67 h (h66.pick [0] (by decide))
    clear hJ69
    rcases of_cond h with ⟨hc63, h⟩ | ⟨hc63, h⟩
    · skip
      refine RunsI.fix 64 true hc63 (by kernel_rfl) (by kernel_rfl) ?_
      refine RunsI.cond true 29 (by kernel_rfl) ?_
      refine RunsI.region (by kernel_rfl) ?_
      refine RegI.pure 1 [1, 65] [(1, .pointer (some ⟨b2, 0, none⟩)), (65, .string ((((((t41 ++ (⟨#[105, 61]⟩ : ByteArray)) ++ t50) ++ (⟨#[32, 114, 61]⟩ : ByteArray)) ++ t54) ++ (⟨#[32, 105, 109]⟩ : ByteArray)) ++ t58))] (by kernel_rfl) ?_
      obtain ⟨hc64, h⟩ := of_cond0 h
      refine RegI.op (by kernel_rfl) (OpE.run 66 (by kernel_rfl) (run_cat (a := ((((((t41 ++ (⟨#[105, 61]⟩ : ByteArray)) ++ t50) ++ (⟨#[32, 114, 61]⟩ : ByteArray)) ++ t54) ++ (⟨#[32, 105, 109]⟩ : ByteArray)) ++ t58)) (b := (⟨#[32, 105, 102, 102, 49]⟩ : ByteArray)) (by kernel_rfl) hc64) ?_)
      refine RegI.pure 1 [1, 5] [(1, .pointer (some ⟨b2, 0, none⟩)), (5, .string (((((((t41 ++ (⟨#[105, 61]⟩ : ByteArray)) ++ t50) ++ (⟨#[32, 114, 61]⟩ : ByteArray)) ++ t54) ++ (⟨#[32, 105, 109]⟩ : ByteArray)) ++ t58) ++ (⟨#[32, 105, 102, 102, 49]⟩ : ByteArray)))] (by kernel_rfl) ?_
      refine RegI.done (by kernel_rfl) ?_
      refine RunsI.only [1, 5] [(1, .pointer (some ⟨b2, 0, none⟩)), (5, .string (((((((t41 ++ (⟨#[105, 61]⟩ : ByteArray)) ++ t50) ++ (⟨#[32, 114, 61]⟩ : ByteArray)) ++ t54) ++ (⟨#[32, 105, 109]⟩ : ByteArray)) ++ t58) ++ (⟨#[32, 105, 102, 102, 49]⟩ : ByteArray)))] (by kernel_rfl) (by kernel_rfl) ?_
      exact hj70 (((((((t41 ++ (⟨#[105, 61]⟩ : ByteArray)) ++ t50) ++ (⟨#[32, 114, 61]⟩ : ByteArray)) ++ t54) ++ (⟨#[32, 105, 109]⟩ : ByteArray)) ++ t58) ++ (⟨#[32, 105, 102, 102, 49]⟩ : ByteArray)) w60 h (h62.pick [0] (by decide))
    · skip
      refine RunsI.fix 64 false hc63 (by kernel_rfl) (by kernel_rfl) ?_
      refine RunsI.cond false 30 (by kernel_rfl) ?_
      refine RunsI.go 1 [.c 31] (by kernel_rfl) ?_
      refine RunsI.only [1, 5] [(1, .pointer (some ⟨b2, 0, none⟩)), (5, .string ((((((t41 ++ (⟨#[105, 61]⟩ : ByteArray)) ++ t50) ++ (⟨#[32, 114, 61]⟩ : ByteArray)) ++ t54) ++ (⟨#[32, 105, 109]⟩ : ByteArray)) ++ t58))] (by kernel_rfl) (by kernel_rfl) ?_
      exact hj70 ((((((t41 ++ (⟨#[105, 61]⟩ : ByteArray)) ++ t50) ++ (⟨#[32, 114, 61]⟩ : ByteArray)) ++ t54) ++ (⟨#[32, 105, 109]⟩ : ByteArray)) ++ t58) w60 h (h62.pick [0] (by decide))
end

/-! ### charabanc/charabancref11.SetPair (function 41) -/
section
def charabancref11_SetPair_41.post (M0 : Nat → Prop) (w0 : World) (r : Int × Int × Int × Int × Int × Int × Int × Int × Int × Int × Int × Int × Int × Int × Int × Bool × Bool × Bool × Bool × Int) : Ending → World → Prop := fun e w => e = .returned (.agg #[.int .u16 r.1, .int .u16 r.2.1, .int .u16 r.2.2.1, .int .u16 r.2.2.2.1, .int .u16 r.2.2.2.2.1, .int .u16 r.2.2.2.2.2.1, .int .u16 r.2.2.2.2.2.2.1, .int .u16 r.2.2.2.2.2.2.2.1, .int .u16 r.2.2.2.2.2.2.2.2.1, .int .u16 r.2.2.2.2.2.2.2.2.2.1, .int .u16 r.2.2.2.2.2.2.2.2.2.2.1, .int .u16 r.2.2.2.2.2.2.2.2.2.2.2.1, .int .u16 r.2.2.2.2.2.2.2.2.2.2.2.2.1, .int .u8 r.2.2.2.2.2.2.2.2.2.2.2.2.2.1, .int .u8 r.2.2.2.2.2.2.2.2.2.2.2.2.2.2.1, .bool r.2.2.2.2.2.2.2.2.2.2.2.2.2.2.2.1, .bool r.2.2.2.2.2.2.2.2.2.2.2.2.2.2.2.2.1, .bool r.2.2.2.2.2.2.2.2.2.2.2.2.2.2.2.2.2.1, .bool r.2.2.2.2.2.2.2.2.2.2.2.2.2.2.2.2.2.2.1, .int .i64 r.2.2.2.2.2.2.2.2.2.2.2.2.2.2.2.2.2.2.2]) ∧ Below w0.heap.size w0 w
def charabancref11_SetPair_41.f (K : Nat) (p0_0 : Int) (p0_1 : Int) (p0_2 : Int) (p0_3 : Int) (p0_4 : Int) (p0_5 : Int) (p0_6 : Int) (p0_7 : Int) (p0_8 : Int) (p0_9 : Int) (p0_10 : Int) (p0_11 : Int) (p0_12 : Int) (p0_13 : Int) (p0_14 : Int) (p0_15 : Bool) (p0_16 : Bool) (p0_17 : Bool) (p0_18 : Bool) (p0_19 : Int) (p1 : Int) (p2 : Int) (p3 : Int) : Option (Int × Int × Int × Int × Int × Int × Int × Int × Int × Int × Int × Int × Int × Int × Int × Bool × Bool × Bool × Bool × Int) := cond (p2 == 0) (some (p0_0, p3, p0_2, p0_3, p0_4, p0_5, p0_6, p0_7, p0_8, p0_9, p0_10, p0_11, p0_12, p0_13, p0_14, p0_15, p0_16, p0_17, p0_18, p0_19)) (cond (p2 == 1) (some (p0_0, p0_1, p3, p0_3, p0_4, p0_5, p0_6, p0_7, p0_8, p0_9, p0_10, p0_11, p0_12, p0_13, p0_14, p0_15, p0_16, p0_17, p0_18, p0_19)) (Let (fun (t20 : Bool) => cond t20 (some (p0_0, p0_1, p0_2, p0_3, p0_4, p0_5, p0_6, p0_7, p3, p0_9, p0_10, p0_11, p0_12, p0_13, p0_14, p0_15, p0_16, p0_17, p0_18, p0_19)) (Let (fun (t31 : Bool) => cond t31 (some (p0_0, p0_1, p0_2, p0_3, p0_4, p0_5, p0_6, p0_7, p0_8, p3, p0_10, p0_11, p0_12, p0_13, p0_14, p0_15, p0_16, p0_17, p0_18, p0_19)) (cond (p2 == 2) (some (p0_0, p0_1, p0_2, p3, p0_4, p0_5, p0_6, p0_7, p0_8, p0_9, p0_10, p0_11, p0_12, p0_13, p0_14, p0_15, p0_16, p0_17, p0_18, p0_19)) (cond (p2 == 3) (some (p0_0, p0_1, p0_2, p0_3, p0_4, p0_5, p0_6, p0_7, p0_8, p0_9, p3, p0_11, p0_12, p0_13, p0_14, p0_15, p0_16, p0_17, p0_18, p0_19)) (some (p0_0, p0_1, p0_2, p0_3, p0_4, p0_5, p0_6, p0_7, p0_8, p0_9, p0_10, p0_11, p0_12, p0_13, p0_14, p0_15, p0_16, p0_17, p0_18, p0_19))))) (fun j34 => cond (p2 == 2) (j34 (p1 == 4)) (j34 false)))) (fun j23 => cond (p2 == 2) (j23 (p1 == 3)) (j23 false))))
set_option maxRecDepth 100000 in
theorem charabancref11_SetPair_41_ok (K : Nat) (M0 : Nat → Prop) (w0 : World) (p0_0 : Int) (p0_1 : Int) (p0_2 : Int) (p0_3 : Int) (p0_4 : Int) (p0_5 : Int) (p0_6 : Int) (p0_7 : Int) (p0_8 : Int) (p0_9 : Int) (p0_10 : Int) (p0_11 : Int) (p0_12 : Int) (p0_13 : Int) (p0_14 : Int) (p0_15 : Bool) (p0_16 : Bool) (p0_17 : Bool) (p0_18 : Bool) (p0_19 : Int) (p1 : Int) (p2 : Int) (p3 : Int) (ho : ∀ b, M0 b → b < w0.heap.size) {r : Int × Int × Int × Int × Int × Int × Int × Int × Int × Int × Int × Int × Int × Int × Int × Bool × Bool × Bool × Bool × Int} (h : charabancref11_SetPair_41.f K p0_0 p0_1 p0_2 p0_3 p0_4 p0_5 p0_6 p0_7 p0_8 p0_9 p0_10 p0_11 p0_12 p0_13 p0_14 p0_15 p0_16 p0_17 p0_18 p0_19 p1 p2 p3 = some r) :
    Calls Tryd.prog 41 #[.agg #[.int .u16 p0_0, .int .u16 p0_1, .int .u16 p0_2, .int .u16 p0_3, .int .u16 p0_4, .int .u16 p0_5, .int .u16 p0_6, .int .u16 p0_7, .int .u16 p0_8, .int .u16 p0_9, .int .u16 p0_10, .int .u16 p0_11, .int .u16 p0_12, .int .u8 p0_13, .int .u8 p0_14, .bool p0_15, .bool p0_16, .bool p0_17, .bool p0_18, .int .i64 p0_19], .int .i64 p1, .int .i64 p2, .int .u16 p3] w0 (charabancref11_SetPair_41.post M0 w0 r) := by
  unfold charabancref11_SetPair_41.f at h
  have h0 : Holds M0 w0 w0 [] := Holds.start ho
  have h0 : Holds M0 w0 w0 [] := h0
  refine calls_of F41 rfl [.agg #[.int .u16 p0_0, .int .u16 p0_1, .int .u16 p0_2, .int .u16 p0_3, .int .u16 p0_4, .int .u16 p0_5, .int .u16 p0_6, .int .u16 p0_7, .int .u16 p0_8, .int .u16 p0_9, .int .u16 p0_10, .int .u16 p0_11, .int .u16 p0_12, .int .u8 p0_13, .int .u8 p0_14, .bool p0_15, .bool p0_16, .bool p0_17, .bool p0_18, .int .i64 p0_19], .int .i64 p1, .int .i64 p2, .int .u16 p3] (by kernel_rfl) ?_
  refine RunsI.go 1 [.c 1, .c 2] (by kernel_rfl) ?_
  refine RunsI.region (by kernel_rfl) ?_
  refine RegI.op (by kernel_rfl) (OpE.box 4 46 [.int .u16 p0_0, .int .u16 p0_1, .int .u16 p0_2, .int .u16 p0_3, .int .u16 p0_4, .int .u16 p0_5, .int .u16 p0_6, .int .u16 p0_7, .int .u16 p0_8, .int .u16 p0_9, .int .u16 p0_10, .int .u16 p0_11, .int .u16 p0_12, .int .u8 p0_13, .int .u8 p0_14, .bool p0_15, .bool p0_16, .bool p0_17, .bool p0_18, .int .i64 p0_19] h0 (by kernel_rfl) (by kernel_rfl) ?_)
  intro w1 b2 h3 hb4 hn5
  refine RegI.op (by kernel_rfl) (OpE.box 8 46 [.int .u16 0, .int .u16 0, .int .u16 0, .int .u16 0, .int .u16 0, .int .u16 0, .int .u16 0, .int .u16 0, .int .u16 0, .int .u16 0, .int .u16 0, .int .u16 0, .int .u16 0, .int .u8 0, .int .u8 0, .bool false, .bool false, .bool false, .bool false, .int .i64 0] h3 (by kernel_rfl) (by kernel_rfl) ?_)
  intro w6 b7 h8 hb9 hn10
  refine RegI.done (by kernel_rfl) ?_
  refine RunsI.go 3 [.c 5, .c 6, .blk 0, .c 29] (by kernel_rfl) ?_
  refine RunsI.region (by kernel_rfl) ?_
  refine RegI.pure 3 [1, 2, 3, 4, 8, 9] [(1, .int .i64 p1), (2, .int .i64 p2), (3, .int .u16 p3), (4, .pointer (some ⟨b2, 0, none⟩)), (8, .pointer (some ⟨b7, 0, none⟩)), (9, .bool (p2 == 0))] (by kernel_rfl) ?_
  refine RegI.done (by kernel_rfl) ?_
  rcases of_cond h with ⟨hc11, h⟩ | ⟨hc11, h⟩
  · skip
    refine RunsI.fix 9 true hc11 (by kernel_rfl) (by kernel_rfl) ?_
    refine RunsI.cond true 7 (by kernel_rfl) ?_
    refine RunsI.region (by kernel_rfl) ?_
    refine RegI.pure 2 [4, 8, 12, 13] [(4, .pointer (some ⟨b2, 0, none⟩)), (8, .pointer (some ⟨b7, 0, none⟩)), (12, .int .u16 p3), (13, .pointer (some ⟨b2, 1, none⟩))] (by kernel_rfl) ?_
    refine RegI.op (by kernel_rfl) (OpE.storeBox 0 22 b2 1 (.int .u16 p3) [.int .u16 p0_0, .int .u16 p3, .int .u16 p0_2, .int .u16 p0_3, .int .u16 p0_4, .int .u16 p0_5, .int .u16 p0_6, .int .u16 p0_7, .int .u16 p0_8, .int .u16 p0_9, .int .u16 p0_10, .int .u16 p0_11, .int .u16 p0_12, .int .u8 p0_13, .int .u8 p0_14, .bool p0_15, .bool p0_16, .bool p0_17, .bool p0_18, .int .i64 p0_19] h8 (by kernel_rfl) (by kernel_rfl) rfl (by kernel_rfl) (by kernel_rfl) (by kernel_rfl) ?_)
    intro w12 h13 hk14
    refine RegI.done (by kernel_rfl) ?_
    refine RunsI.go 2 [.c 30, .c 31] (by kernel_rfl) ?_
    refine RunsI.region (by kernel_rfl) ?_
    refine RegI.op (by kernel_rfl) (OpE.loadBox 47 0 46 b2 0 (.agg #[.int .u16 p0_0, .int .u16 p3, .int .u16 p0_2, .int .u16 p0_3, .int .u16 p0_4, .int .u16 p0_5, .int .u16 p0_6, .int .u16 p0_7, .int .u16 p0_8, .int .u16 p0_9, .int .u16 p0_10, .int .u16 p0_11, .int .u16 p0_12, .int .u8 p0_13, .int .u8 p0_14, .bool p0_15, .bool p0_16, .bool p0_17, .bool p0_18, .int .i64 p0_19]) h13 (by kernel_rfl) (by kernel_rfl) rfl (by kernel_rfl) ?_)
    refine RegI.op (by kernel_rfl) (OpE.storeBox 1 46 b7 0 (.agg #[.int .u16 p0_0, .int .u16 p3, .int .u16 p0_2, .int .u16 p0_3, .int .u16 p0_4, .int .u16 p0_5, .int .u16 p0_6, .int .u16 p0_7, .int .u16 p0_8, .int .u16 p0_9, .int .u16 p0_10, .int .u16 p0_11, .int .u16 p0_12, .int .u8 p0_13, .int .u8 p0_14, .bool p0_15, .bool p0_16, .bool p0_17, .bool p0_18, .int .i64 p0_19]) [.int .u16 p0_0, .int .u16 p3, .int .u16 p0_2, .int .u16 p0_3, .int .u16 p0_4, .int .u16 p0_5, .int .u16 p0_6, .int .u16 p0_7, .int .u16 p0_8, .int .u16 p0_9, .int .u16 p0_10, .int .u16 p0_11, .int .u16 p0_12, .int .u8 p0_13, .int .u8 p0_14, .bool p0_15, .bool p0_16, .bool p0_17, .bool p0_18, .int .i64 p0_19] h13 (by kernel_rfl) (by kernel_rfl) rfl (by kernel_rfl) (by kernel_rfl) (by kernel_rfl) ?_)
    intro w49 h50 hk51
    refine RegI.done (by kernel_rfl) ?_
    refine RunsI.toRet (by kernel_rfl) ?_
    refine RetI.valW [.cell 8 46] [.agg #[.int .u16 p0_0, .int .u16 p3, .int .u16 p0_2, .int .u16 p0_3, .int .u16 p0_4, .int .u16 p0_5, .int .u16 p0_6, .int .u16 p0_7, .int .u16 p0_8, .int .u16 p0_9, .int .u16 p0_10, .int .u16 p0_11, .int .u16 p0_12, .int .u8 p0_13, .int .u8 p0_14, .bool p0_15, .bool p0_16, .bool p0_17, .bool p0_18, .int .i64 p0_19]] (.agg #[.int .u16 p0_0, .int .u16 p3, .int .u16 p0_2, .int .u16 p0_3, .int .u16 p0_4, .int .u16 p0_5, .int .u16 p0_6, .int .u16 p0_7, .int .u16 p0_8, .int .u16 p0_9, .int .u16 p0_10, .int .u16 p0_11, .int .u16 p0_12, .int .u8 p0_13, .int .u8 p0_14, .bool p0_15, .bool p0_16, .bool p0_17, .bool p0_18, .int .i64 p0_19]) (by kernel_rfl) (ResAt.box 1 46 b7 0 h50 (by kernel_rfl) (by kernel_rfl) rfl (by kernel_rfl) rfl) (by kernel_rfl) ?_
    obtain rfl := Option.some.inj h
    exact ⟨rfl, h50.below⟩
  · skip
    refine RunsI.fix 9 false hc11 (by kernel_rfl) (by kernel_rfl) ?_
    refine RunsI.cond false 8 (by kernel_rfl) ?_
    refine RunsI.go 1 [.c 9, .c 10, .blk 0, .c 29] (by kernel_rfl) ?_
    refine RunsI.region (by kernel_rfl) ?_
    refine RegI.pure 3 [1, 2, 3, 4, 8, 14] [(1, .int .i64 p1), (2, .int .i64 p2), (3, .int .u16 p3), (4, .pointer (some ⟨b2, 0, none⟩)), (8, .pointer (some ⟨b7, 0, none⟩)), (14, .bool (p2 == 1))] (by kernel_rfl) ?_
    refine RegI.done (by kernel_rfl) ?_
    rcases of_cond h with ⟨hc15, h⟩ | ⟨hc15, h⟩
    · skip
      refine RunsI.fix 14 true hc15 (by kernel_rfl) (by kernel_rfl) ?_
      refine RunsI.cond true 11 (by kernel_rfl) ?_
      refine RunsI.region (by kernel_rfl) ?_
      refine RegI.pure 2 [4, 8, 17, 18] [(4, .pointer (some ⟨b2, 0, none⟩)), (8, .pointer (some ⟨b7, 0, none⟩)), (17, .int .u16 p3), (18, .pointer (some ⟨b2, 2, none⟩))] (by kernel_rfl) ?_
      refine RegI.op (by kernel_rfl) (OpE.storeBox 0 22 b2 2 (.int .u16 p3) [.int .u16 p0_0, .int .u16 p0_1, .int .u16 p3, .int .u16 p0_3, .int .u16 p0_4, .int .u16 p0_5, .int .u16 p0_6, .int .u16 p0_7, .int .u16 p0_8, .int .u16 p0_9, .int .u16 p0_10, .int .u16 p0_11, .int .u16 p0_12, .int .u8 p0_13, .int .u8 p0_14, .bool p0_15, .bool p0_16, .bool p0_17, .bool p0_18, .int .i64 p0_19] h8 (by kernel_rfl) (by kernel_rfl) rfl (by kernel_rfl) (by kernel_rfl) (by kernel_rfl) ?_)
      intro w16 h17 hk18
      refine RegI.done (by kernel_rfl) ?_
      refine RunsI.go 2 [.c 30, .c 31] (by kernel_rfl) ?_
      refine RunsI.region (by kernel_rfl) ?_
      refine RegI.op (by kernel_rfl) (OpE.loadBox 47 0 46 b2 0 (.agg #[.int .u16 p0_0, .int .u16 p0_1, .int .u16 p3, .int .u16 p0_3, .int .u16 p0_4, .int .u16 p0_5, .int .u16 p0_6, .int .u16 p0_7, .int .u16 p0_8, .int .u16 p0_9, .int .u16 p0_10, .int .u16 p0_11, .int .u16 p0_12, .int .u8 p0_13, .int .u8 p0_14, .bool p0_15, .bool p0_16, .bool p0_17, .bool p0_18, .int .i64 p0_19]) h17 (by kernel_rfl) (by kernel_rfl) rfl (by kernel_rfl) ?_)
      refine RegI.op (by kernel_rfl) (OpE.storeBox 1 46 b7 0 (.agg #[.int .u16 p0_0, .int .u16 p0_1, .int .u16 p3, .int .u16 p0_3, .int .u16 p0_4, .int .u16 p0_5, .int .u16 p0_6, .int .u16 p0_7, .int .u16 p0_8, .int .u16 p0_9, .int .u16 p0_10, .int .u16 p0_11, .int .u16 p0_12, .int .u8 p0_13, .int .u8 p0_14, .bool p0_15, .bool p0_16, .bool p0_17, .bool p0_18, .int .i64 p0_19]) [.int .u16 p0_0, .int .u16 p0_1, .int .u16 p3, .int .u16 p0_3, .int .u16 p0_4, .int .u16 p0_5, .int .u16 p0_6, .int .u16 p0_7, .int .u16 p0_8, .int .u16 p0_9, .int .u16 p0_10, .int .u16 p0_11, .int .u16 p0_12, .int .u8 p0_13, .int .u8 p0_14, .bool p0_15, .bool p0_16, .bool p0_17, .bool p0_18, .int .i64 p0_19] h17 (by kernel_rfl) (by kernel_rfl) rfl (by kernel_rfl) (by kernel_rfl) (by kernel_rfl) ?_)
      intro w52 h53 hk54
      refine RegI.done (by kernel_rfl) ?_
      refine RunsI.toRet (by kernel_rfl) ?_
      refine RetI.valW [.cell 8 46] [.agg #[.int .u16 p0_0, .int .u16 p0_1, .int .u16 p3, .int .u16 p0_3, .int .u16 p0_4, .int .u16 p0_5, .int .u16 p0_6, .int .u16 p0_7, .int .u16 p0_8, .int .u16 p0_9, .int .u16 p0_10, .int .u16 p0_11, .int .u16 p0_12, .int .u8 p0_13, .int .u8 p0_14, .bool p0_15, .bool p0_16, .bool p0_17, .bool p0_18, .int .i64 p0_19]] (.agg #[.int .u16 p0_0, .int .u16 p0_1, .int .u16 p3, .int .u16 p0_3, .int .u16 p0_4, .int .u16 p0_5, .int .u16 p0_6, .int .u16 p0_7, .int .u16 p0_8, .int .u16 p0_9, .int .u16 p0_10, .int .u16 p0_11, .int .u16 p0_12, .int .u8 p0_13, .int .u8 p0_14, .bool p0_15, .bool p0_16, .bool p0_17, .bool p0_18, .int .i64 p0_19]) (by kernel_rfl) (ResAt.box 1 46 b7 0 h53 (by kernel_rfl) (by kernel_rfl) rfl (by kernel_rfl) rfl) (by kernel_rfl) ?_
      obtain rfl := Option.some.inj h
      exact ⟨rfl, h53.below⟩
    · skip
      refine RunsI.fix 14 false hc15 (by kernel_rfl) (by kernel_rfl) ?_
      refine RunsI.cond false 12 (by kernel_rfl) ?_
      refine RunsI.go 1 [.c 13, .c 14, .blk 0, .c 29] (by kernel_rfl) ?_
      refine RunsI.region (by kernel_rfl) ?_
      refine RegI.pure 3 [1, 2, 3, 4, 8, 22] [(1, .int .i64 p1), (2, .int .i64 p2), (3, .int .u16 p3), (4, .pointer (some ⟨b2, 0, none⟩)), (8, .pointer (some ⟨b7, 0, none⟩)), (22, .bool (p2 == 2))] (by kernel_rfl) ?_
      obtain ⟨j23, hJ24, h⟩ := of_let h
      have hj25 : ∀ (t20 : Bool) (w22 : World), j23 t20 = some r → Holds M0 w0 w22 [box b2 46 [.int .u16 p0_0, .int .u16 p0_1, .int .u16 p0_2, .int .u16 p0_3, .int .u16 p0_4, .int .u16 p0_5, .int .u16 p0_6, .int .u16 p0_7, .int .u16 p0_8, .int .u16 p0_9, .int .u16 p0_10, .int .u16 p0_11, .int .u16 p0_12, .int .u8 p0_13, .int .u8 p0_14, .bool p0_15, .bool p0_16, .bool p0_17, .bool p0_18, .int .i64 p0_19], box b7 46 [.int .u16 0, .int .u16 0, .int .u16 0, .int .u16 0, .int .u16 0, .int .u16 0, .int .u16 0, .int .u16 0, .int .u16 0, .int .u16 0, .int .u16 0, .int .u16 0, .int .u16 0, .int .u8 0, .int .u8 0, .bool false, .bool false, .bool false, .bool false, .int .i64 0]] → RegI F41 13 [.c 14, .blk 0, .c 29] 7 [(1, .int .i64 p1), (2, .int .i64 p2), (3, .int .u16 p3), (4, .pointer (some ⟨b2, 0, none⟩)), (8, .pointer (some ⟨b7, 0, none⟩)), (19, .bool t20)] w22 (charabancref11_SetPair_41.post M0 w0 r) := by
        intro t20 w22 h h21
        rw [hJ24] at h
        clear hJ24
        dsimp only at h
        refine RegI.done (by kernel_rfl) ?_
        rcases of_cond h with ⟨hc26, h⟩ | ⟨hc26, h⟩
        · skip
          refine RunsI.fix 19 true hc26 (by kernel_rfl) (by kernel_rfl) ?_
          refine RunsI.cond true 15 (by kernel_rfl) ?_
          refine RunsI.region (by kernel_rfl) ?_
          refine RegI.pure 2 [4, 8, 26, 27] [(4, .pointer (some ⟨b2, 0, none⟩)), (8, .pointer (some ⟨b7, 0, none⟩)), (26, .int .u16 p3), (27, .pointer (some ⟨b2, 8, none⟩))] (by kernel_rfl) ?_
          refine RegI.op (by kernel_rfl) (OpE.storeBox 0 22 b2 8 (.int .u16 p3) [.int .u16 p0_0, .int .u16 p0_1, .int .u16 p0_2, .int .u16 p0_3, .int .u16 p0_4, .int .u16 p0_5, .int .u16 p0_6, .int .u16 p0_7, .int .u16 p3, .int .u16 p0_9, .int .u16 p0_10, .int .u16 p0_11, .int .u16 p0_12, .int .u8 p0_13, .int .u8 p0_14, .bool p0_15, .bool p0_16, .bool p0_17, .bool p0_18, .int .i64 p0_19] h21 (by kernel_rfl) (by kernel_rfl) rfl (by kernel_rfl) (by kernel_rfl) (by kernel_rfl) ?_)
          intro w27 h28 hk29
          refine RegI.done (by kernel_rfl) ?_
          refine RunsI.go 2 [.c 30, .c 31] (by kernel_rfl) ?_
          refine RunsI.region (by kernel_rfl) ?_
          refine RegI.op (by kernel_rfl) (OpE.loadBox 47 0 46 b2 0 (.agg #[.int .u16 p0_0, .int .u16 p0_1, .int .u16 p0_2, .int .u16 p0_3, .int .u16 p0_4, .int .u16 p0_5, .int .u16 p0_6, .int .u16 p0_7, .int .u16 p3, .int .u16 p0_9, .int .u16 p0_10, .int .u16 p0_11, .int .u16 p0_12, .int .u8 p0_13, .int .u8 p0_14, .bool p0_15, .bool p0_16, .bool p0_17, .bool p0_18, .int .i64 p0_19]) h28 (by kernel_rfl) (by kernel_rfl) rfl (by kernel_rfl) ?_)
          refine RegI.op (by kernel_rfl) (OpE.storeBox 1 46 b7 0 (.agg #[.int .u16 p0_0, .int .u16 p0_1, .int .u16 p0_2, .int .u16 p0_3, .int .u16 p0_4, .int .u16 p0_5, .int .u16 p0_6, .int .u16 p0_7, .int .u16 p3, .int .u16 p0_9, .int .u16 p0_10, .int .u16 p0_11, .int .u16 p0_12, .int .u8 p0_13, .int .u8 p0_14, .bool p0_15, .bool p0_16, .bool p0_17, .bool p0_18, .int .i64 p0_19]) [.int .u16 p0_0, .int .u16 p0_1, .int .u16 p0_2, .int .u16 p0_3, .int .u16 p0_4, .int .u16 p0_5, .int .u16 p0_6, .int .u16 p0_7, .int .u16 p3, .int .u16 p0_9, .int .u16 p0_10, .int .u16 p0_11, .int .u16 p0_12, .int .u8 p0_13, .int .u8 p0_14, .bool p0_15, .bool p0_16, .bool p0_17, .bool p0_18, .int .i64 p0_19] h28 (by kernel_rfl) (by kernel_rfl) rfl (by kernel_rfl) (by kernel_rfl) (by kernel_rfl) ?_)
          intro w55 h56 hk57
          refine RegI.done (by kernel_rfl) ?_
          refine RunsI.toRet (by kernel_rfl) ?_
          refine RetI.valW [.cell 8 46] [.agg #[.int .u16 p0_0, .int .u16 p0_1, .int .u16 p0_2, .int .u16 p0_3, .int .u16 p0_4, .int .u16 p0_5, .int .u16 p0_6, .int .u16 p0_7, .int .u16 p3, .int .u16 p0_9, .int .u16 p0_10, .int .u16 p0_11, .int .u16 p0_12, .int .u8 p0_13, .int .u8 p0_14, .bool p0_15, .bool p0_16, .bool p0_17, .bool p0_18, .int .i64 p0_19]] (.agg #[.int .u16 p0_0, .int .u16 p0_1, .int .u16 p0_2, .int .u16 p0_3, .int .u16 p0_4, .int .u16 p0_5, .int .u16 p0_6, .int .u16 p0_7, .int .u16 p3, .int .u16 p0_9, .int .u16 p0_10, .int .u16 p0_11, .int .u16 p0_12, .int .u8 p0_13, .int .u8 p0_14, .bool p0_15, .bool p0_16, .bool p0_17, .bool p0_18, .int .i64 p0_19]) (by kernel_rfl) (ResAt.box 1 46 b7 0 h56 (by kernel_rfl) (by kernel_rfl) rfl (by kernel_rfl) rfl) (by kernel_rfl) ?_
          obtain rfl := Option.some.inj h
          exact ⟨rfl, h56.below⟩
        · skip
          refine RunsI.fix 19 false hc26 (by kernel_rfl) (by kernel_rfl) ?_
          refine RunsI.cond false 16 (by kernel_rfl) ?_
          refine RunsI.go 1 [.c 17, .c 18, .blk 0, .c 29] (by kernel_rfl) ?_
          refine RunsI.region (by kernel_rfl) ?_
          refine RegI.pure 3 [1, 2, 3, 4, 8, 31] [(1, .int .i64 p1), (2, .int .i64 p2), (3, .int .u16 p3), (4, .pointer (some ⟨b2, 0, none⟩)), (8, .pointer (some ⟨b7, 0, none⟩)), (31, .bool (p2 == 2))] (by kernel_rfl) ?_
          obtain ⟨j34, hJ35, h⟩ := of_let h
          have hj36 : ∀ (t31 : Bool) (w33 : World), j34 t31 = some r → Holds M0 w0 w33 [box b2 46 [.int .u16 p0_0, .int .u16 p0_1, .int .u16 p0_2, .int .u16 p0_3, .int .u16 p0_4, .int .u16 p0_5, .int .u16 p0_6, .int .u16 p0_7, .int .u16 p0_8, .int .u16 p0_9, .int .u16 p0_10, .int .u16 p0_11, .int .u16 p0_12, .int .u8 p0_13, .int .u8 p0_14, .bool p0_15, .bool p0_16, .bool p0_17, .bool p0_18, .int .i64 p0_19], box b7 46 [.int .u16 0, .int .u16 0, .int .u16 0, .int .u16 0, .int .u16 0, .int .u16 0, .int .u16 0, .int .u16 0, .int .u16 0, .int .u16 0, .int .u16 0, .int .u16 0, .int .u16 0, .int .u8 0, .int .u8 0, .bool false, .bool false, .bool false, .bool false, .int .i64 0]] → RegI F41 17 [.c 18, .blk 0, .c 29] 7 [(2, .int .i64 p2), (3, .int .u16 p3), (4, .pointer (some ⟨b2, 0, none⟩)), (8, .pointer (some ⟨b7, 0, none⟩)), (28, .bool t31)] w33 (charabancref11_SetPair_41.post M0 w0 r) := by
            intro t31 w33 h h32
            rw [hJ35] at h
            clear hJ35
            dsimp only at h
            refine RegI.done (by kernel_rfl) ?_
            rcases of_cond h with ⟨hc37, h⟩ | ⟨hc37, h⟩
            · skip
              refine RunsI.fix 28 true hc37 (by kernel_rfl) (by kernel_rfl) ?_
              refine RunsI.cond true 19 (by kernel_rfl) ?_
              refine RunsI.region (by kernel_rfl) ?_
              refine RegI.pure 2 [4, 8, 35, 36] [(4, .pointer (some ⟨b2, 0, none⟩)), (8, .pointer (some ⟨b7, 0, none⟩)), (35, .int .u16 p3), (36, .pointer (some ⟨b2, 9, none⟩))] (by kernel_rfl) ?_
              refine RegI.op (by kernel_rfl) (OpE.storeBox 0 22 b2 9 (.int .u16 p3) [.int .u16 p0_0, .int .u16 p0_1, .int .u16 p0_2, .int .u16 p0_3, .int .u16 p0_4, .int .u16 p0_5, .int .u16 p0_6, .int .u16 p0_7, .int .u16 p0_8, .int .u16 p3, .int .u16 p0_10, .int .u16 p0_11, .int .u16 p0_12, .int .u8 p0_13, .int .u8 p0_14, .bool p0_15, .bool p0_16, .bool p0_17, .bool p0_18, .int .i64 p0_19] h32 (by kernel_rfl) (by kernel_rfl) rfl (by kernel_rfl) (by kernel_rfl) (by kernel_rfl) ?_)
              intro w38 h39 hk40
              refine RegI.done (by kernel_rfl) ?_
              refine RunsI.go 2 [.c 30, .c 31] (by kernel_rfl) ?_
              refine RunsI.region (by kernel_rfl) ?_
              refine RegI.op (by kernel_rfl) (OpE.loadBox 47 0 46 b2 0 (.agg #[.int .u16 p0_0, .int .u16 p0_1, .int .u16 p0_2, .int .u16 p0_3, .int .u16 p0_4, .int .u16 p0_5, .int .u16 p0_6, .int .u16 p0_7, .int .u16 p0_8, .int .u16 p3, .int .u16 p0_10, .int .u16 p0_11, .int .u16 p0_12, .int .u8 p0_13, .int .u8 p0_14, .bool p0_15, .bool p0_16, .bool p0_17, .bool p0_18, .int .i64 p0_19]) h39 (by kernel_rfl) (by kernel_rfl) rfl (by kernel_rfl) ?_)
              refine RegI.op (by kernel_rfl) (OpE.storeBox 1 46 b7 0 (.agg #[.int .u16 p0_0, .int .u16 p0_1, .int .u16 p0_2, .int .u16 p0_3, .int .u16 p0_4, .int .u16 p0_5, .int .u16 p0_6, .int .u16 p0_7, .int .u16 p0_8, .int .u16 p3, .int .u16 p0_10, .int .u16 p0_11, .int .u16 p0_12, .int .u8 p0_13, .int .u8 p0_14, .bool p0_15, .bool p0_16, .bool p0_17, .bool p0_18, .int .i64 p0_19]) [.int .u16 p0_0, .int .u16 p0_1, .int .u16 p0_2, .int .u16 p0_3, .int .u16 p0_4, .int .u16 p0_5, .int .u16 p0_6, .int .u16 p0_7, .int .u16 p0_8, .int .u16 p3, .int .u16 p0_10, .int .u16 p0_11, .int .u16 p0_12, .int .u8 p0_13, .int .u8 p0_14, .bool p0_15, .bool p0_16, .bool p0_17, .bool p0_18, .int .i64 p0_19] h39 (by kernel_rfl) (by kernel_rfl) rfl (by kernel_rfl) (by kernel_rfl) (by kernel_rfl) ?_)
              intro w58 h59 hk60
              refine RegI.done (by kernel_rfl) ?_
              refine RunsI.toRet (by kernel_rfl) ?_
              refine RetI.valW [.cell 8 46] [.agg #[.int .u16 p0_0, .int .u16 p0_1, .int .u16 p0_2, .int .u16 p0_3, .int .u16 p0_4, .int .u16 p0_5, .int .u16 p0_6, .int .u16 p0_7, .int .u16 p0_8, .int .u16 p3, .int .u16 p0_10, .int .u16 p0_11, .int .u16 p0_12, .int .u8 p0_13, .int .u8 p0_14, .bool p0_15, .bool p0_16, .bool p0_17, .bool p0_18, .int .i64 p0_19]] (.agg #[.int .u16 p0_0, .int .u16 p0_1, .int .u16 p0_2, .int .u16 p0_3, .int .u16 p0_4, .int .u16 p0_5, .int .u16 p0_6, .int .u16 p0_7, .int .u16 p0_8, .int .u16 p3, .int .u16 p0_10, .int .u16 p0_11, .int .u16 p0_12, .int .u8 p0_13, .int .u8 p0_14, .bool p0_15, .bool p0_16, .bool p0_17, .bool p0_18, .int .i64 p0_19]) (by kernel_rfl) (ResAt.box 1 46 b7 0 h59 (by kernel_rfl) (by kernel_rfl) rfl (by kernel_rfl) rfl) (by kernel_rfl) ?_
              obtain rfl := Option.some.inj h
              exact ⟨rfl, h59.below⟩
            · skip
              refine RunsI.fix 28 false hc37 (by kernel_rfl) (by kernel_rfl) ?_
              refine RunsI.cond false 20 (by kernel_rfl) ?_
              refine RunsI.go 1 [.c 21, .c 22, .blk 0, .c 29] (by kernel_rfl) ?_
              refine RunsI.region (by kernel_rfl) ?_
              refine RegI.pure 3 [2, 3, 4, 8, 37] [(2, .int .i64 p2), (3, .int .u16 p3), (4, .pointer (some ⟨b2, 0, none⟩)), (8, .pointer (some ⟨b7, 0, none⟩)), (37, .bool (p2 == 2))] (by kernel_rfl) ?_
              refine RegI.done (by kernel_rfl) ?_
              rcases of_cond h with ⟨hc41, h⟩ | ⟨hc41, h⟩
              · skip
                refine RunsI.fix 37 true hc41 (by kernel_rfl) (by kernel_rfl) ?_
                refine RunsI.cond true 23 (by kernel_rfl) ?_
                refine RunsI.region (by kernel_rfl) ?_
                refine RegI.pure 2 [4, 8, 40, 41] [(4, .pointer (some ⟨b2, 0, none⟩)), (8, .pointer (some ⟨b7, 0, none⟩)), (40, .int .u16 p3), (41, .pointer (some ⟨b2, 3, none⟩))] (by kernel_rfl) ?_
                refine RegI.op (by kernel_rfl) (OpE.storeBox 0 22 b2 3 (.int .u16 p3) [.int .u16 p0_0, .int .u16 p0_1, .int .u16 p0_2, .int .u16 p3, .int .u16 p0_4, .int .u16 p0_5, .int .u16 p0_6, .int .u16 p0_7, .int .u16 p0_8, .int .u16 p0_9, .int .u16 p0_10, .int .u16 p0_11, .int .u16 p0_12, .int .u8 p0_13, .int .u8 p0_14, .bool p0_15, .bool p0_16, .bool p0_17, .bool p0_18, .int .i64 p0_19] h32 (by kernel_rfl) (by kernel_rfl) rfl (by kernel_rfl) (by kernel_rfl) (by kernel_rfl) ?_)
                intro w42 h43 hk44
                refine RegI.done (by kernel_rfl) ?_
                refine RunsI.go 2 [.c 30, .c 31] (by kernel_rfl) ?_
                refine RunsI.region (by kernel_rfl) ?_
                refine RegI.op (by kernel_rfl) (OpE.loadBox 47 0 46 b2 0 (.agg #[.int .u16 p0_0, .int .u16 p0_1, .int .u16 p0_2, .int .u16 p3, .int .u16 p0_4, .int .u16 p0_5, .int .u16 p0_6, .int .u16 p0_7, .int .u16 p0_8, .int .u16 p0_9, .int .u16 p0_10, .int .u16 p0_11, .int .u16 p0_12, .int .u8 p0_13, .int .u8 p0_14, .bool p0_15, .bool p0_16, .bool p0_17, .bool p0_18, .int .i64 p0_19]) h43 (by kernel_rfl) (by kernel_rfl) rfl (by kernel_rfl) ?_)
                refine RegI.op (by kernel_rfl) (OpE.storeBox 1 46 b7 0 (.agg #[.int .u16 p0_0, .int .u16 p0_1, .int .u16 p0_2, .int .u16 p3, .int .u16 p0_4, .int .u16 p0_5, .int .u16 p0_6, .int .u16 p0_7, .int .u16 p0_8, .int .u16 p0_9, .int .u16 p0_10, .int .u16 p0_11, .int .u16 p0_12, .int .u8 p0_13, .int .u8 p0_14, .bool p0_15, .bool p0_16, .bool p0_17, .bool p0_18, .int .i64 p0_19]) [.int .u16 p0_0, .int .u16 p0_1, .int .u16 p0_2, .int .u16 p3, .int .u16 p0_4, .int .u16 p0_5, .int .u16 p0_6, .int .u16 p0_7, .int .u16 p0_8, .int .u16 p0_9, .int .u16 p0_10, .int .u16 p0_11, .int .u16 p0_12, .int .u8 p0_13, .int .u8 p0_14, .bool p0_15, .bool p0_16, .bool p0_17, .bool p0_18, .int .i64 p0_19] h43 (by kernel_rfl) (by kernel_rfl) rfl (by kernel_rfl) (by kernel_rfl) (by kernel_rfl) ?_)
                intro w61 h62 hk63
                refine RegI.done (by kernel_rfl) ?_
                refine RunsI.toRet (by kernel_rfl) ?_
                refine RetI.valW [.cell 8 46] [.agg #[.int .u16 p0_0, .int .u16 p0_1, .int .u16 p0_2, .int .u16 p3, .int .u16 p0_4, .int .u16 p0_5, .int .u16 p0_6, .int .u16 p0_7, .int .u16 p0_8, .int .u16 p0_9, .int .u16 p0_10, .int .u16 p0_11, .int .u16 p0_12, .int .u8 p0_13, .int .u8 p0_14, .bool p0_15, .bool p0_16, .bool p0_17, .bool p0_18, .int .i64 p0_19]] (.agg #[.int .u16 p0_0, .int .u16 p0_1, .int .u16 p0_2, .int .u16 p3, .int .u16 p0_4, .int .u16 p0_5, .int .u16 p0_6, .int .u16 p0_7, .int .u16 p0_8, .int .u16 p0_9, .int .u16 p0_10, .int .u16 p0_11, .int .u16 p0_12, .int .u8 p0_13, .int .u8 p0_14, .bool p0_15, .bool p0_16, .bool p0_17, .bool p0_18, .int .i64 p0_19]) (by kernel_rfl) (ResAt.box 1 46 b7 0 h62 (by kernel_rfl) (by kernel_rfl) rfl (by kernel_rfl) rfl) (by kernel_rfl) ?_
                obtain rfl := Option.some.inj h
                exact ⟨rfl, h62.below⟩
              · skip
                refine RunsI.fix 37 false hc41 (by kernel_rfl) (by kernel_rfl) ?_
                refine RunsI.cond false 24 (by kernel_rfl) ?_
                refine RunsI.go 1 [.c 25, .c 26, .blk 0, .c 29] (by kernel_rfl) ?_
                refine RunsI.region (by kernel_rfl) ?_
                refine RegI.pure 3 [3, 4, 8, 42] [(3, .int .u16 p3), (4, .pointer (some ⟨b2, 0, none⟩)), (8, .pointer (some ⟨b7, 0, none⟩)), (42, .bool (p2 == 3))] (by kernel_rfl) ?_
                refine RegI.done (by kernel_rfl) ?_
                rcases of_cond h with ⟨hc45, h⟩ | ⟨hc45, h⟩
                · skip
                  refine RunsI.fix 42 true hc45 (by kernel_rfl) (by kernel_rfl) ?_
                  refine RunsI.cond true 27 (by kernel_rfl) ?_
                  refine RunsI.region (by kernel_rfl) ?_
                  refine RegI.pure 2 [4, 8, 45, 46] [(4, .pointer (some ⟨b2, 0, none⟩)), (8, .pointer (some ⟨b7, 0, none⟩)), (45, .int .u16 p3), (46, .pointer (some ⟨b2, 10, none⟩))] (by kernel_rfl) ?_
                  refine RegI.op (by kernel_rfl) (OpE.storeBox 0 22 b2 10 (.int .u16 p3) [.int .u16 p0_0, .int .u16 p0_1, .int .u16 p0_2, .int .u16 p0_3, .int .u16 p0_4, .int .u16 p0_5, .int .u16 p0_6, .int .u16 p0_7, .int .u16 p0_8, .int .u16 p0_9, .int .u16 p3, .int .u16 p0_11, .int .u16 p0_12, .int .u8 p0_13, .int .u8 p0_14, .bool p0_15, .bool p0_16, .bool p0_17, .bool p0_18, .int .i64 p0_19] h32 (by kernel_rfl) (by kernel_rfl) rfl (by kernel_rfl) (by kernel_rfl) (by kernel_rfl) ?_)
                  intro w46 h47 hk48
                  refine RegI.done (by kernel_rfl) ?_
                  refine RunsI.go 2 [.c 30, .c 31] (by kernel_rfl) ?_
                  refine RunsI.region (by kernel_rfl) ?_
                  refine RegI.op (by kernel_rfl) (OpE.loadBox 47 0 46 b2 0 (.agg #[.int .u16 p0_0, .int .u16 p0_1, .int .u16 p0_2, .int .u16 p0_3, .int .u16 p0_4, .int .u16 p0_5, .int .u16 p0_6, .int .u16 p0_7, .int .u16 p0_8, .int .u16 p0_9, .int .u16 p3, .int .u16 p0_11, .int .u16 p0_12, .int .u8 p0_13, .int .u8 p0_14, .bool p0_15, .bool p0_16, .bool p0_17, .bool p0_18, .int .i64 p0_19]) h47 (by kernel_rfl) (by kernel_rfl) rfl (by kernel_rfl) ?_)
                  refine RegI.op (by kernel_rfl) (OpE.storeBox 1 46 b7 0 (.agg #[.int .u16 p0_0, .int .u16 p0_1, .int .u16 p0_2, .int .u16 p0_3, .int .u16 p0_4, .int .u16 p0_5, .int .u16 p0_6, .int .u16 p0_7, .int .u16 p0_8, .int .u16 p0_9, .int .u16 p3, .int .u16 p0_11, .int .u16 p0_12, .int .u8 p0_13, .int .u8 p0_14, .bool p0_15, .bool p0_16, .bool p0_17, .bool p0_18, .int .i64 p0_19]) [.int .u16 p0_0, .int .u16 p0_1, .int .u16 p0_2, .int .u16 p0_3, .int .u16 p0_4, .int .u16 p0_5, .int .u16 p0_6, .int .u16 p0_7, .int .u16 p0_8, .int .u16 p0_9, .int .u16 p3, .int .u16 p0_11, .int .u16 p0_12, .int .u8 p0_13, .int .u8 p0_14, .bool p0_15, .bool p0_16, .bool p0_17, .bool p0_18, .int .i64 p0_19] h47 (by kernel_rfl) (by kernel_rfl) rfl (by kernel_rfl) (by kernel_rfl) (by kernel_rfl) ?_)
                  intro w64 h65 hk66
                  refine RegI.done (by kernel_rfl) ?_
                  refine RunsI.toRet (by kernel_rfl) ?_
                  refine RetI.valW [.cell 8 46] [.agg #[.int .u16 p0_0, .int .u16 p0_1, .int .u16 p0_2, .int .u16 p0_3, .int .u16 p0_4, .int .u16 p0_5, .int .u16 p0_6, .int .u16 p0_7, .int .u16 p0_8, .int .u16 p0_9, .int .u16 p3, .int .u16 p0_11, .int .u16 p0_12, .int .u8 p0_13, .int .u8 p0_14, .bool p0_15, .bool p0_16, .bool p0_17, .bool p0_18, .int .i64 p0_19]] (.agg #[.int .u16 p0_0, .int .u16 p0_1, .int .u16 p0_2, .int .u16 p0_3, .int .u16 p0_4, .int .u16 p0_5, .int .u16 p0_6, .int .u16 p0_7, .int .u16 p0_8, .int .u16 p0_9, .int .u16 p3, .int .u16 p0_11, .int .u16 p0_12, .int .u8 p0_13, .int .u8 p0_14, .bool p0_15, .bool p0_16, .bool p0_17, .bool p0_18, .int .i64 p0_19]) (by kernel_rfl) (ResAt.box 1 46 b7 0 h65 (by kernel_rfl) (by kernel_rfl) rfl (by kernel_rfl) rfl) (by kernel_rfl) ?_
                  obtain rfl := Option.some.inj h
                  exact ⟨rfl, h65.below⟩
                · skip
                  refine RunsI.fix 42 false hc45 (by kernel_rfl) (by kernel_rfl) ?_
                  refine RunsI.cond false 28 (by kernel_rfl) ?_
                  refine RunsI.go 1 [.blk 0, .c 29] (by kernel_rfl) ?_
                  refine RunsI.go 2 [.c 30, .c 31] (by kernel_rfl) ?_
                  refine RunsI.region (by kernel_rfl) ?_
                  refine RegI.op (by kernel_rfl) (OpE.loadBox 47 0 46 b2 0 (.agg #[.int .u16 p0_0, .int .u16 p0_1, .int .u16 p0_2, .int .u16 p0_3, .int .u16 p0_4, .int .u16 p0_5, .int .u16 p0_6, .int .u16 p0_7, .int .u16 p0_8, .int .u16 p0_9, .int .u16 p0_10, .int .u16 p0_11, .int .u16 p0_12, .int .u8 p0_13, .int .u8 p0_14, .bool p0_15, .bool p0_16, .bool p0_17, .bool p0_18, .int .i64 p0_19]) h32 (by kernel_rfl) (by kernel_rfl) rfl (by kernel_rfl) ?_)
                  refine RegI.op (by kernel_rfl) (OpE.storeBox 1 46 b7 0 (.agg #[.int .u16 p0_0, .int .u16 p0_1, .int .u16 p0_2, .int .u16 p0_3, .int .u16 p0_4, .int .u16 p0_5, .int .u16 p0_6, .int .u16 p0_7, .int .u16 p0_8, .int .u16 p0_9, .int .u16 p0_10, .int .u16 p0_11, .int .u16 p0_12, .int .u8 p0_13, .int .u8 p0_14, .bool p0_15, .bool p0_16, .bool p0_17, .bool p0_18, .int .i64 p0_19]) [.int .u16 p0_0, .int .u16 p0_1, .int .u16 p0_2, .int .u16 p0_3, .int .u16 p0_4, .int .u16 p0_5, .int .u16 p0_6, .int .u16 p0_7, .int .u16 p0_8, .int .u16 p0_9, .int .u16 p0_10, .int .u16 p0_11, .int .u16 p0_12, .int .u8 p0_13, .int .u8 p0_14, .bool p0_15, .bool p0_16, .bool p0_17, .bool p0_18, .int .i64 p0_19] h32 (by kernel_rfl) (by kernel_rfl) rfl (by kernel_rfl) (by kernel_rfl) (by kernel_rfl) ?_)
                  intro w67 h68 hk69
                  refine RegI.done (by kernel_rfl) ?_
                  refine RunsI.toRet (by kernel_rfl) ?_
                  refine RetI.valW [.cell 8 46] [.agg #[.int .u16 p0_0, .int .u16 p0_1, .int .u16 p0_2, .int .u16 p0_3, .int .u16 p0_4, .int .u16 p0_5, .int .u16 p0_6, .int .u16 p0_7, .int .u16 p0_8, .int .u16 p0_9, .int .u16 p0_10, .int .u16 p0_11, .int .u16 p0_12, .int .u8 p0_13, .int .u8 p0_14, .bool p0_15, .bool p0_16, .bool p0_17, .bool p0_18, .int .i64 p0_19]] (.agg #[.int .u16 p0_0, .int .u16 p0_1, .int .u16 p0_2, .int .u16 p0_3, .int .u16 p0_4, .int .u16 p0_5, .int .u16 p0_6, .int .u16 p0_7, .int .u16 p0_8, .int .u16 p0_9, .int .u16 p0_10, .int .u16 p0_11, .int .u16 p0_12, .int .u8 p0_13, .int .u8 p0_14, .bool p0_15, .bool p0_16, .bool p0_17, .bool p0_18, .int .i64 p0_19]) (by kernel_rfl) (ResAt.box 1 46 b7 0 h68 (by kernel_rfl) (by kernel_rfl) rfl (by kernel_rfl) rfl) (by kernel_rfl) ?_
                  obtain rfl := Option.some.inj h
                  exact ⟨rfl, h68.below⟩
          clear hJ35
          rcases of_cond h with ⟨hc30, h⟩ | ⟨hc30, h⟩
          · skip
            refine RegI.fix 31 true hc30 (by kernel_rfl) (by kernel_rfl) ?_
            refine RegI.pure 4 [2, 3, 4, 8, 28] [(2, .int .i64 p2), (3, .int .u16 p3), (4, .pointer (some ⟨b2, 0, none⟩)), (8, .pointer (some ⟨b7, 0, none⟩)), (28, .bool (p1 == 4))] (by kernel_rfl) ?_
            refine RegI.only [2, 3, 4, 8, 28] [(2, .int .i64 p2), (3, .int .u16 p3), (4, .pointer (some ⟨b2, 0, none⟩)), (8, .pointer (some ⟨b7, 0, none⟩)), (28, .bool (p1 == 4))] (by kernel_rfl) (by kernel_rfl) ?_
            exact hj36 (p1 == 4) w22 h (h21.pick [0, 1] (by decide))
          · skip
            refine RegI.fix 31 false hc30 (by kernel_rfl) (by kernel_rfl) ?_
            refine RegI.pure 4 [2, 3, 4, 8, 28] [(2, .int .i64 p2), (3, .int .u16 p3), (4, .pointer (some ⟨b2, 0, none⟩)), (8, .pointer (some ⟨b7, 0, none⟩)), (28, .bool false)] (by kernel_rfl) ?_
            refine RegI.only [2, 3, 4, 8, 28] [(2, .int .i64 p2), (3, .int .u16 p3), (4, .pointer (some ⟨b2, 0, none⟩)), (8, .pointer (some ⟨b7, 0, none⟩)), (28, .bool false)] (by kernel_rfl) (by kernel_rfl) ?_
            exact hj36 false w22 h (h21.pick [0, 1] (by decide))
      clear hJ24
      rcases of_cond h with ⟨hc19, h⟩ | ⟨hc19, h⟩
      · skip
        refine RegI.fix 22 true hc19 (by kernel_rfl) (by kernel_rfl) ?_
        refine RegI.pure 4 [1, 2, 3, 4, 8, 19] [(1, .int .i64 p1), (2, .int .i64 p2), (3, .int .u16 p3), (4, .pointer (some ⟨b2, 0, none⟩)), (8, .pointer (some ⟨b7, 0, none⟩)), (19, .bool (p1 == 3))] (by kernel_rfl) ?_
        refine RegI.only [1, 2, 3, 4, 8, 19] [(1, .int .i64 p1), (2, .int .i64 p2), (3, .int .u16 p3), (4, .pointer (some ⟨b2, 0, none⟩)), (8, .pointer (some ⟨b7, 0, none⟩)), (19, .bool (p1 == 3))] (by kernel_rfl) (by kernel_rfl) ?_
        exact hj25 (p1 == 3) w6 h (h8.pick [0, 1] (by decide))
      · skip
        refine RegI.fix 22 false hc19 (by kernel_rfl) (by kernel_rfl) ?_
        refine RegI.pure 4 [1, 2, 3, 4, 8, 19] [(1, .int .i64 p1), (2, .int .i64 p2), (3, .int .u16 p3), (4, .pointer (some ⟨b2, 0, none⟩)), (8, .pointer (some ⟨b7, 0, none⟩)), (19, .bool false)] (by kernel_rfl) ?_
        refine RegI.only [1, 2, 3, 4, 8, 19] [(1, .int .i64 p1), (2, .int .i64 p2), (3, .int .u16 p3), (4, .pointer (some ⟨b2, 0, none⟩)), (8, .pointer (some ⟨b7, 0, none⟩)), (19, .bool false)] (by kernel_rfl) (by kernel_rfl) ?_
        exact hj25 false w6 h (h8.pick [0, 1] (by decide))
end

/-! ### charabanc/charabancref01.Word (function 57) -/
section
def charabancref01_Word_57.post (M0 : Nat → Prop) (w0 : World) (r : Int) : Ending → World → Prop := fun e w => e = .returned (.int .u16 r) ∧ Below w0.heap.size w0 w
def charabancref01_Word_57.f (K : Nat) (p0 : Int) (p1 : Int) : Option Int := some (IntKind.wrap .u16 (IntKind.wrap .i64 ((IntKind.wrap .i64 (256 * (IntKind.wrap .i64 p0))) + (IntKind.wrap .i64 p1))))
set_option maxRecDepth 100000 in
theorem charabancref01_Word_57_ok (K : Nat) (M0 : Nat → Prop) (w0 : World) (p0 : Int) (p1 : Int) (ho : ∀ b, M0 b → b < w0.heap.size) {r : Int} (h : charabancref01_Word_57.f K p0 p1 = some r) :
    Calls Tryd.prog 57 #[.int .u8 p0, .int .u8 p1] w0 (charabancref01_Word_57.post M0 w0 r) := by
  unfold charabancref01_Word_57.f at h
  have h0 : Holds M0 w0 w0 [] := Holds.start ho
  have h0 : Holds M0 w0 w0 [] := h0
  refine calls_of F57 rfl [.int .u8 p0, .int .u8 p1] (by kernel_rfl) ?_
  refine RunsI.go 1 [.c 1, .c 2] (by kernel_rfl) ?_
  refine RunsI.region (by kernel_rfl) ?_
  refine RegI.pure 1 [0, 1] [(0, .int .u8 p0), (1, .int .u8 p1)] (by kernel_rfl) ?_
  refine RegI.done (by kernel_rfl) ?_
  refine RunsI.go 1 [.c 3, .c 4] (by kernel_rfl) ?_
  refine RunsI.region (by kernel_rfl) ?_
  refine RegI.pure 8 [4] [(4, .int .u16 (IntKind.wrap .u16 (IntKind.wrap .i64 ((IntKind.wrap .i64 (256 * (IntKind.wrap .i64 p0))) + (IntKind.wrap .i64 p1)))))] (by kernel_rfl) ?_
  refine RegI.done (by kernel_rfl) ?_
  refine RunsI.ret (.int .u16 (IntKind.wrap .u16 (IntKind.wrap .i64 ((IntKind.wrap .i64 (256 * (IntKind.wrap .i64 p0))) + (IntKind.wrap .i64 p1))))) (by kernel_rfl) (by kernel_rfl) ?_
  obtain rfl := Option.some.inj h
  exact ⟨rfl, h0.below⟩
end

/-! ### charabanc/charabancref11.Set (function 39) -/
section
def charabancref11_Set_39.post (M0 : Nat → Prop) (w0 : World) (r : Int × Int × Int × Int × Int × Int × Int × Int × Int × Int × Int × Int × Int × Int × Int × Bool × Bool × Bool × Bool × Int) : Ending → World → Prop := fun e w => e = .returned (.agg #[.int .u16 r.1, .int .u16 r.2.1, .int .u16 r.2.2.1, .int .u16 r.2.2.2.1, .int .u16 r.2.2.2.2.1, .int .u16 r.2.2.2.2.2.1, .int .u16 r.2.2.2.2.2.2.1, .int .u16 r.2.2.2.2.2.2.2.1, .int .u16 r.2.2.2.2.2.2.2.2.1, .int .u16 r.2.2.2.2.2.2.2.2.2.1, .int .u16 r.2.2.2.2.2.2.2.2.2.2.1, .int .u16 r.2.2.2.2.2.2.2.2.2.2.2.1, .int .u16 r.2.2.2.2.2.2.2.2.2.2.2.2.1, .int .u8 r.2.2.2.2.2.2.2.2.2.2.2.2.2.1, .int .u8 r.2.2.2.2.2.2.2.2.2.2.2.2.2.2.1, .bool r.2.2.2.2.2.2.2.2.2.2.2.2.2.2.2.1, .bool r.2.2.2.2.2.2.2.2.2.2.2.2.2.2.2.2.1, .bool r.2.2.2.2.2.2.2.2.2.2.2.2.2.2.2.2.2.1, .bool r.2.2.2.2.2.2.2.2.2.2.2.2.2.2.2.2.2.2.1, .int .i64 r.2.2.2.2.2.2.2.2.2.2.2.2.2.2.2.2.2.2.2]) ∧ Below w0.heap.size w0 w
def charabancref11_Set_39.f (K : Nat) (p0_0 : Int) (p0_1 : Int) (p0_2 : Int) (p0_3 : Int) (p0_4 : Int) (p0_5 : Int) (p0_6 : Int) (p0_7 : Int) (p0_8 : Int) (p0_9 : Int) (p0_10 : Int) (p0_11 : Int) (p0_12 : Int) (p0_13 : Int) (p0_14 : Int) (p0_15 : Bool) (p0_16 : Bool) (p0_17 : Bool) (p0_18 : Bool) (p0_19 : Int) (p1 : Int) (p2 : Int) (p3 : Int) : Option (Int × Int × Int × Int × Int × Int × Int × Int × Int × Int × Int × Int × Int × Int × Int × Bool × Bool × Bool × Bool × Int) := cond (p2 == 7) ((charabancref01_Lo_48.f K p0_0).bind fun t16 => (charabancref01_Word_57.f K p3 t16).bind fun t21 => some (t21, p0_1, p0_2, p0_3, p0_4, p0_5, p0_6, p0_7, p0_8, p0_9, p0_10, p0_11, p0_12, p0_13, p0_14, p0_15, p0_16, p0_17, p0_18, p0_19)) (Let (fun (t29 : Bool) => cond t29 (some (p0_0, p0_1, p0_2, p0_3, p0_4, p0_5, p0_6, p0_7, p0_8, p0_9, p0_10, p0_11, p0_12, p0_13, p0_14, p0_15, p0_16, p0_17, p0_18, p0_19)) ((charabancref11_Pair_27.f K p0_0 p0_1 p0_2 p0_3 p0_4 p0_5 p0_6 p0_7 p0_8 p0_9 p0_10 p0_11 p0_12 p0_13 p0_14 p0_15 p0_16 p0_17 p0_18 p0_19 p1 (IntKind.wrap .i64 (Int.tdiv p2 2))).bind fun t43 => cond ((Int.tmod p2 2) == 0) ((charabancref01_Lo_48.f K t43).bind fun t50 => (charabancref01_Word_57.f K p3 t50).bind fun t52 => (charabancref11_SetPair_41.f K p0_0 p0_1 p0_2 p0_3 p0_4 p0_5 p0_6 p0_7 p0_8 p0_9 p0_10 p0_11 p0_12 p0_13 p0_14 p0_15 p0_16 p0_17 p0_18 p0_19 p1 (IntKind.wrap .i64 (Int.tdiv p2 2)) t52).bind fun yt54 => some (yt54.1, yt54.2.1, yt54.2.2.1, yt54.2.2.2.1, yt54.2.2.2.2.1, yt54.2.2.2.2.2.1, yt54.2.2.2.2.2.2.1, yt54.2.2.2.2.2.2.2.1, yt54.2.2.2.2.2.2.2.2.1, yt54.2.2.2.2.2.2.2.2.2.1, yt54.2.2.2.2.2.2.2.2.2.2.1, yt54.2.2.2.2.2.2.2.2.2.2.2.1, yt54.2.2.2.2.2.2.2.2.2.2.2.2.1, yt54.2.2.2.2.2.2.2.2.2.2.2.2.2.1, yt54.2.2.2.2.2.2.2.2.2.2.2.2.2.2.1, yt54.2.2.2.2.2.2.2.2.2.2.2.2.2.2.2.1, yt54.2.2.2.2.2.2.2.2.2.2.2.2.2.2.2.2.1, yt54.2.2.2.2.2.2.2.2.2.2.2.2.2.2.2.2.2.1, yt54.2.2.2.2.2.2.2.2.2.2.2.2.2.2.2.2.2.2.1, yt54.2.2.2.2.2.2.2.2.2.2.2.2.2.2.2.2.2.2.2)) ((charabancref01_Hi_47.f K t43).bind fun t90 => (charabancref01_Word_57.f K t90 p3).bind fun t92 => (charabancref11_SetPair_41.f K p0_0 p0_1 p0_2 p0_3 p0_4 p0_5 p0_6 p0_7 p0_8 p0_9 p0_10 p0_11 p0_12 p0_13 p0_14 p0_15 p0_16 p0_17 p0_18 p0_19 p1 (IntKind.wrap .i64 (Int.tdiv p2 2)) t92).bind fun yt94 => some (yt94.1, yt94.2.1, yt94.2.2.1, yt94.2.2.2.1, yt94.2.2.2.2.1, yt94.2.2.2.2.2.1, yt94.2.2.2.2.2.2.1, yt94.2.2.2.2.2.2.2.1, yt94.2.2.2.2.2.2.2.2.1, yt94.2.2.2.2.2.2.2.2.2.1, yt94.2.2.2.2.2.2.2.2.2.2.1, yt94.2.2.2.2.2.2.2.2.2.2.2.1, yt94.2.2.2.2.2.2.2.2.2.2.2.2.1, yt94.2.2.2.2.2.2.2.2.2.2.2.2.2.1, yt94.2.2.2.2.2.2.2.2.2.2.2.2.2.2.1, yt94.2.2.2.2.2.2.2.2.2.2.2.2.2.2.2.1, yt94.2.2.2.2.2.2.2.2.2.2.2.2.2.2.2.2.1, yt94.2.2.2.2.2.2.2.2.2.2.2.2.2.2.2.2.2.1, yt94.2.2.2.2.2.2.2.2.2.2.2.2.2.2.2.2.2.2.1, yt94.2.2.2.2.2.2.2.2.2.2.2.2.2.2.2.2.2.2.2)))) (fun j32 => cond (decide (p2 < 0)) (j32 true) (j32 (decide (p2 > 5)))))
set_option maxRecDepth 100000 in
theorem charabancref11_Set_39_ok (K : Nat) (M0 : Nat → Prop) (w0 : World) (p0_0 : Int) (p0_1 : Int) (p0_2 : Int) (p0_3 : Int) (p0_4 : Int) (p0_5 : Int) (p0_6 : Int) (p0_7 : Int) (p0_8 : Int) (p0_9 : Int) (p0_10 : Int) (p0_11 : Int) (p0_12 : Int) (p0_13 : Int) (p0_14 : Int) (p0_15 : Bool) (p0_16 : Bool) (p0_17 : Bool) (p0_18 : Bool) (p0_19 : Int) (p1 : Int) (p2 : Int) (p3 : Int) (ho : ∀ b, M0 b → b < w0.heap.size) {r : Int × Int × Int × Int × Int × Int × Int × Int × Int × Int × Int × Int × Int × Int × Int × Bool × Bool × Bool × Bool × Int} (h : charabancref11_Set_39.f K p0_0 p0_1 p0_2 p0_3 p0_4 p0_5 p0_6 p0_7 p0_8 p0_9 p0_10 p0_11 p0_12 p0_13 p0_14 p0_15 p0_16 p0_17 p0_18 p0_19 p1 p2 p3 = some r) :
    Calls Tryd.prog 39 #[.agg #[.int .u16 p0_0, .int .u16 p0_1, .int .u16 p0_2, .int .u16 p0_3, .int .u16 p0_4, .int .u16 p0_5, .int .u16 p0_6, .int .u16 p0_7, .int .u16 p0_8, .int .u16 p0_9, .int .u16 p0_10, .int .u16 p0_11, .int .u16 p0_12, .int .u8 p0_13, .int .u8 p0_14, .bool p0_15, .bool p0_16, .bool p0_17, .bool p0_18, .int .i64 p0_19], .int .i64 p1, .int .i64 p2, .int .u8 p3] w0 (charabancref11_Set_39.post M0 w0 r) := by
  unfold charabancref11_Set_39.f at h
  have h0 : Holds M0 w0 w0 [] := Holds.start ho
  have h0 : Holds M0 w0 w0 [] := h0
  refine calls_of F39 rfl [.agg #[.int .u16 p0_0, .int .u16 p0_1, .int .u16 p0_2, .int .u16 p0_3, .int .u16 p0_4, .int .u16 p0_5, .int .u16 p0_6, .int .u16 p0_7, .int .u16 p0_8, .int .u16 p0_9, .int .u16 p0_10, .int .u16 p0_11, .int .u16 p0_12, .int .u8 p0_13, .int .u8 p0_14, .bool p0_15, .bool p0_16, .bool p0_17, .bool p0_18, .int .i64 p0_19], .int .i64 p1, .int .i64 p2, .int .u8 p3] (by kernel_rfl) ?_
  refine RunsI.go 1 [.c 1, .c 2] (by kernel_rfl) ?_
  refine RunsI.region (by kernel_rfl) ?_
  refine RegI.op (by kernel_rfl) (OpE.box 4 46 [.int .u16 p0_0, .int .u16 p0_1, .int .u16 p0_2, .int .u16 p0_3, .int .u16 p0_4, .int .u16 p0_5, .int .u16 p0_6, .int .u16 p0_7, .int .u16 p0_8, .int .u16 p0_9, .int .u16 p0_10, .int .u16 p0_11, .int .u16 p0_12, .int .u8 p0_13, .int .u8 p0_14, .bool p0_15, .bool p0_16, .bool p0_17, .bool p0_18, .int .i64 p0_19] h0 (by kernel_rfl) (by kernel_rfl) ?_)
  intro w1 b2 h3 hb4 hn5
  refine RegI.op (by kernel_rfl) (OpE.box 8 46 [.int .u16 0, .int .u16 0, .int .u16 0, .int .u16 0, .int .u16 0, .int .u16 0, .int .u16 0, .int .u16 0, .int .u16 0, .int .u16 0, .int .u16 0, .int .u16 0, .int .u16 0, .int .u8 0, .int .u8 0, .bool false, .bool false, .bool false, .bool false, .int .i64 0] h3 (by kernel_rfl) (by kernel_rfl) ?_)
  intro w6 b7 h8 hb9 hn10
  refine RegI.done (by kernel_rfl) ?_
  refine RunsI.go 2 [.c 4, .c 5, .c 12] (by kernel_rfl) ?_
  refine RunsI.region (by kernel_rfl) ?_
  refine RegI.pure 2 [1, 2, 3, 4, 8, 11] [(1, .int .i64 p1), (2, .int .i64 p2), (3, .int .u8 p3), (4, .pointer (some ⟨b2, 0, none⟩)), (8, .pointer (some ⟨b7, 0, none⟩)), (11, .bool (p2 == 7))] (by kernel_rfl) ?_
  refine RegI.done (by kernel_rfl) ?_
  rcases of_cond h with ⟨hc11, h⟩ | ⟨hc11, h⟩
  · skip
    refine RunsI.fix 11 true hc11 (by kernel_rfl) (by kernel_rfl) ?_
    refine RunsI.cond true 6 (by kernel_rfl) ?_
    refine RunsI.go 1 [.c 7, .c 8, .c 12] (by kernel_rfl) ?_
    refine RunsI.region (by kernel_rfl) ?_
    refine RegI.pure 2 [4, 8, 12, 13] [(4, .pointer (some ⟨b2, 0, none⟩)), (8, .pointer (some ⟨b7, 0, none⟩)), (12, .int .u8 p3), (13, .pointer (some ⟨b2, 0, none⟩))] (by kernel_rfl) ?_
    refine RegI.op (by kernel_rfl) (OpE.loadBox 14 0 22 b2 0 (.int .u16 p0_0) h8 (by kernel_rfl) (by kernel_rfl) rfl (by kernel_rfl) ?_)
    obtain ⟨t16, hg15, h⟩ := of_bind h
    refine RegI.op (by kernel_rfl) (OpE.call 15 (by kernel_rfl) 48 #[.int .u16 p0_0] (by kernel_rfl) ((charabancref01_Lo_48_ok K _ w6  p0_0 h8.old' hg15).mono ?_))
    rintro _ w12 ⟨rfl, hb13⟩
    refine ⟨_, rfl, ?_⟩
    have h14 := h8.call hb13
    obtain ⟨t21, hg20, h⟩ := of_bind h
    refine RegI.op (by kernel_rfl) (OpE.call 16 (by kernel_rfl) 57 #[.int .u8 p3, .int .u8 t16] (by kernel_rfl) ((charabancref01_Word_57_ok K _ w12  p3 t16 h14.old' hg20).mono ?_))
    rintro _ w17 ⟨rfl, hb18⟩
    refine ⟨_, rfl, ?_⟩
    have h19 := h14.call hb18
    refine RegI.pure 1 [4, 8, 16, 17] [(4, .pointer (some ⟨b2, 0, none⟩)), (8, .pointer (some ⟨b7, 0, none⟩)), (16, .int .u16 t21), (17, .pointer (some ⟨b2, 0, none⟩))] (by kernel_rfl) ?_
    refine RegI.op (by kernel_rfl) (OpE.storeBox 0 22 b2 0 (.int .u16 t21) [.int .u16 t21, .int .u16 p0_1, .int .u16 p0_2, .int .u16 p0_3, .int .u16 p0_4, .int .u16 p0_5, .int .u16 p0_6, .int .u16 p0_7, .int .u16 p0_8, .int .u16 p0_9, .int .u16 p0_10, .int .u16 p0_11, .int .u16 p0_12, .int .u8 p0_13, .int .u8 p0_14, .bool p0_15, .bool p0_16, .bool p0_17, .bool p0_18, .int .i64 p0_19] h19 (by kernel_rfl) (by kernel_rfl) rfl (by kernel_rfl) (by kernel_rfl) (by kernel_rfl) ?_)
    intro w22 h23 hk24
    refine RegI.done (by kernel_rfl) ?_
    refine RunsI.go 1 [.c 9, .c 10, .c 12] (by kernel_rfl) ?_
    refine RunsI.region (by kernel_rfl) ?_
    refine RegI.op (by kernel_rfl) (OpE.loadBox 18 0 46 b2 0 (.agg #[.int .u16 t21, .int .u16 p0_1, .int .u16 p0_2, .int .u16 p0_3, .int .u16 p0_4, .int .u16 p0_5, .int .u16 p0_6, .int .u16 p0_7, .int .u16 p0_8, .int .u16 p0_9, .int .u16 p0_10, .int .u16 p0_11, .int .u16 p0_12, .int .u8 p0_13, .int .u8 p0_14, .bool p0_15, .bool p0_16, .bool p0_17, .bool p0_18, .int .i64 p0_19]) h23 (by kernel_rfl) (by kernel_rfl) rfl (by kernel_rfl) ?_)
    refine RegI.op (by kernel_rfl) (OpE.storeBox 1 46 b7 0 (.agg #[.int .u16 t21, .int .u16 p0_1, .int .u16 p0_2, .int .u16 p0_3, .int .u16 p0_4, .int .u16 p0_5, .int .u16 p0_6, .int .u16 p0_7, .int .u16 p0_8, .int .u16 p0_9, .int .u16 p0_10, .int .u16 p0_11, .int .u16 p0_12, .int .u8 p0_13, .int .u8 p0_14, .bool p0_15, .bool p0_16, .bool p0_17, .bool p0_18, .int .i64 p0_19]) [.int .u16 t21, .int .u16 p0_1, .int .u16 p0_2, .int .u16 p0_3, .int .u16 p0_4, .int .u16 p0_5, .int .u16 p0_6, .int .u16 p0_7, .int .u16 p0_8, .int .u16 p0_9, .int .u16 p0_10, .int .u16 p0_11, .int .u16 p0_12, .int .u8 p0_13, .int .u8 p0_14, .bool p0_15, .bool p0_16, .bool p0_17, .bool p0_18, .int .i64 p0_19] h23 (by kernel_rfl) (by kernel_rfl) rfl (by kernel_rfl) (by kernel_rfl) (by kernel_rfl) ?_)
    intro w25 h26 hk27
    refine RegI.done (by kernel_rfl) ?_
    refine RunsI.toRet (by kernel_rfl) ?_
    refine RetI.valW [.cell 8 46] [.agg #[.int .u16 t21, .int .u16 p0_1, .int .u16 p0_2, .int .u16 p0_3, .int .u16 p0_4, .int .u16 p0_5, .int .u16 p0_6, .int .u16 p0_7, .int .u16 p0_8, .int .u16 p0_9, .int .u16 p0_10, .int .u16 p0_11, .int .u16 p0_12, .int .u8 p0_13, .int .u8 p0_14, .bool p0_15, .bool p0_16, .bool p0_17, .bool p0_18, .int .i64 p0_19]] (.agg #[.int .u16 t21, .int .u16 p0_1, .int .u16 p0_2, .int .u16 p0_3, .int .u16 p0_4, .int .u16 p0_5, .int .u16 p0_6, .int .u16 p0_7, .int .u16 p0_8, .int .u16 p0_9, .int .u16 p0_10, .int .u16 p0_11, .int .u16 p0_12, .int .u8 p0_13, .int .u8 p0_14, .bool p0_15, .bool p0_16, .bool p0_17, .bool p0_18, .int .i64 p0_19]) (by kernel_rfl) (ResAt.box 1 46 b7 0 h26 (by kernel_rfl) (by kernel_rfl) rfl (by kernel_rfl) rfl) (by kernel_rfl) ?_
    obtain rfl := Option.some.inj h
    exact ⟨rfl, h26.below⟩
  · skip
    refine RunsI.fix 11 false hc11 (by kernel_rfl) (by kernel_rfl) ?_
    refine RunsI.cond false 11 (by kernel_rfl) ?_
    refine RunsI.go 1 [.c 12] (by kernel_rfl) ?_
    refine RunsI.go 2 [.c 14, .c 15, .c 20] (by kernel_rfl) ?_
    refine RunsI.region (by kernel_rfl) ?_
    refine RegI.pure 3 [1, 2, 3, 4, 8, 21] [(1, .int .i64 p1), (2, .int .i64 p2), (3, .int .u8 p3), (4, .pointer (some ⟨b2, 0, none⟩)), (8, .pointer (some ⟨b7, 0, none⟩)), (21, .bool (decide (p2 < 0)))] (by kernel_rfl) ?_
    obtain ⟨j32, hJ33, h⟩ := of_let h
    have hj34 : ∀ (t29 : Bool) (w31 : World), j32 t29 = some r → Holds M0 w0 w31 [box b2 46 [.int .u16 p0_0, .int .u16 p0_1, .int .u16 p0_2, .int .u16 p0_3, .int .u16 p0_4, .int .u16 p0_5, .int .u16 p0_6, .int .u16 p0_7, .int .u16 p0_8, .int .u16 p0_9, .int .u16 p0_10, .int .u16 p0_11, .int .u16 p0_12, .int .u8 p0_13, .int .u8 p0_14, .bool p0_15, .bool p0_16, .bool p0_17, .bool p0_18, .int .i64 p0_19], box b7 46 [.int .u16 0, .int .u16 0, .int .u16 0, .int .u16 0, .int .u16 0, .int .u16 0, .int .u16 0, .int .u16 0, .int .u16 0, .int .u16 0, .int .u16 0, .int .u16 0, .int .u16 0, .int .u8 0, .int .u8 0, .bool false, .bool false, .bool false, .bool false, .int .i64 0]] → RegI F39 14 [.c 15, .c 20] 6 [(1, .int .i64 p1), (2, .int .i64 p2), (3, .int .u8 p3), (4, .pointer (some ⟨b2, 0, none⟩)), (8, .pointer (some ⟨b7, 0, none⟩)), (24, .bool t29)] w31 (charabancref11_Set_39.post M0 w0 r) := by
      intro t29 w31 h h30
      rw [hJ33] at h
      clear hJ33
      dsimp only at h
      refine RegI.done (by kernel_rfl) ?_
      rcases of_cond h with ⟨hc35, h⟩ | ⟨hc35, h⟩
      · skip
        refine RunsI.fix 24 true hc35 (by kernel_rfl) (by kernel_rfl) ?_
        refine RunsI.cond true 16 (by kernel_rfl) ?_
        refine RunsI.go 1 [.c 17, .c 18, .c 20] (by kernel_rfl) ?_
        refine RunsI.region (by kernel_rfl) ?_
        refine RegI.op (by kernel_rfl) (OpE.loadBox 25 0 46 b2 0 (.agg #[.int .u16 p0_0, .int .u16 p0_1, .int .u16 p0_2, .int .u16 p0_3, .int .u16 p0_4, .int .u16 p0_5, .int .u16 p0_6, .int .u16 p0_7, .int .u16 p0_8, .int .u16 p0_9, .int .u16 p0_10, .int .u16 p0_11, .int .u16 p0_12, .int .u8 p0_13, .int .u8 p0_14, .bool p0_15, .bool p0_16, .bool p0_17, .bool p0_18, .int .i64 p0_19]) h30 (by kernel_rfl) (by kernel_rfl) rfl (by kernel_rfl) ?_)
        refine RegI.op (by kernel_rfl) (OpE.storeBox 1 46 b7 0 (.agg #[.int .u16 p0_0, .int .u16 p0_1, .int .u16 p0_2, .int .u16 p0_3, .int .u16 p0_4, .int .u16 p0_5, .int .u16 p0_6, .int .u16 p0_7, .int .u16 p0_8, .int .u16 p0_9, .int .u16 p0_10, .int .u16 p0_11, .int .u16 p0_12, .int .u8 p0_13, .int .u8 p0_14, .bool p0_15, .bool p0_16, .bool p0_17, .bool p0_18, .int .i64 p0_19]) [.int .u16 p0_0, .int .u16 p0_1, .int .u16 p0_2, .int .u16 p0_3, .int .u16 p0_4, .int .u16 p0_5, .int .u16 p0_6, .int .u16 p0_7, .int .u16 p0_8, .int .u16 p0_9, .int .u16 p0_10, .int .u16 p0_11, .int .u16 p0_12, .int .u8 p0_13, .int .u8 p0_14, .bool p0_15, .bool p0_16, .bool p0_17, .bool p0_18, .int .i64 p0_19] h30 (by kernel_rfl) (by kernel_rfl) rfl (by kernel_rfl) (by kernel_rfl) (by kernel_rfl) ?_)
        intro w36 h37 hk38
        refine RegI.done (by kernel_rfl) ?_
        refine RunsI.toRet (by kernel_rfl) ?_
        refine RetI.valW [.cell 8 46] [.agg #[.int .u16 p0_0, .int .u16 p0_1, .int .u16 p0_2, .int .u16 p0_3, .int .u16 p0_4, .int .u16 p0_5, .int .u16 p0_6, .int .u16 p0_7, .int .u16 p0_8, .int .u16 p0_9, .int .u16 p0_10, .int .u16 p0_11, .int .u16 p0_12, .int .u8 p0_13, .int .u8 p0_14, .bool p0_15, .bool p0_16, .bool p0_17, .bool p0_18, .int .i64 p0_19]] (.agg #[.int .u16 p0_0, .int .u16 p0_1, .int .u16 p0_2, .int .u16 p0_3, .int .u16 p0_4, .int .u16 p0_5, .int .u16 p0_6, .int .u16 p0_7, .int .u16 p0_8, .int .u16 p0_9, .int .u16 p0_10, .int .u16 p0_11, .int .u16 p0_12, .int .u8 p0_13, .int .u8 p0_14, .bool p0_15, .bool p0_16, .bool p0_17, .bool p0_18, .int .i64 p0_19]) (by kernel_rfl) (ResAt.box 1 46 b7 0 h37 (by kernel_rfl) (by kernel_rfl) rfl (by kernel_rfl) rfl) (by kernel_rfl) ?_
        obtain rfl := Option.some.inj h
        exact ⟨rfl, h37.below⟩
      · skip
        refine RunsI.fix 24 false hc35 (by kernel_rfl) (by kernel_rfl) ?_
        refine RunsI.cond false 19 (by kernel_rfl) ?_
        refine RunsI.go 1 [.c 20] (by kernel_rfl) ?_
        refine RunsI.go 1 [.c 21, .c 22] (by kernel_rfl) ?_
        refine RunsI.region (by kernel_rfl) ?_
        refine RegI.op (by kernel_rfl) (OpE.loadBox 26 0 46 b2 0 (.agg #[.int .u16 p0_0, .int .u16 p0_1, .int .u16 p0_2, .int .u16 p0_3, .int .u16 p0_4, .int .u16 p0_5, .int .u16 p0_6, .int .u16 p0_7, .int .u16 p0_8, .int .u16 p0_9, .int .u16 p0_10, .int .u16 p0_11, .int .u16 p0_12, .int .u8 p0_13, .int .u8 p0_14, .bool p0_15, .bool p0_16, .bool p0_17, .bool p0_18, .int .i64 p0_19]) h30 (by kernel_rfl) (by kernel_rfl) rfl (by kernel_rfl) ?_)
        refine RegI.pure 3 [1, 2, 3, 4, 8, 26, 27, 29] [(1, .int .i64 p1), (2, .int .i64 p2), (3, .int .u8 p3), (4, .pointer (some ⟨b2, 0, none⟩)), (8, .pointer (some ⟨b7, 0, none⟩)), (26, .agg #[.int .u16 p0_0, .int .u16 p0_1, .int .u16 p0_2, .int .u16 p0_3, .int .u16 p0_4, .int .u16 p0_5, .int .u16 p0_6, .int .u16 p0_7, .int .u16 p0_8, .int .u16 p0_9, .int .u16 p0_10, .int .u16 p0_11, .int .u16 p0_12, .int .u8 p0_13, .int .u8 p0_14, .bool p0_15, .bool p0_16, .bool p0_17, .bool p0_18, .int .i64 p0_19]), (27, .int .i64 p1), (29, .int .i64 (IntKind.wrap .i64 (Int.tdiv p2 2)))] (by kernel_rfl) ?_
        obtain ⟨t43, hg42, h⟩ := of_bind h
        refine RegI.op (by kernel_rfl) (OpE.call 30 (by kernel_rfl) 27 #[.agg #[.int .u16 p0_0, .int .u16 p0_1, .int .u16 p0_2, .int .u16 p0_3, .int .u16 p0_4, .int .u16 p0_5, .int .u16 p0_6, .int .u16 p0_7, .int .u16 p0_8, .int .u16 p0_9, .int .u16 p0_10, .int .u16 p0_11, .int .u16 p0_12, .int .u8 p0_13, .int .u8 p0_14, .bool p0_15, .bool p0_16, .bool p0_17, .bool p0_18, .int .i64 p0_19], .int .i64 p1, .int .i64 (IntKind.wrap .i64 (Int.tdiv p2 2))] (by kernel_rfl) ((charabancref11_Pair_27_ok K _ w31  p0_0 p0_1 p0_2 p0_3 p0_4 p0_5 p0_6 p0_7 p0_8 p0_9 p0_10 p0_11 p0_12 p0_13 p0_14 p0_15 p0_16 p0_17 p0_18 p0_19 p1 (IntKind.wrap .i64 (Int.tdiv p2 2)) h30.old' hg42).mono ?_))
        rintro _ w39 ⟨rfl, hb40⟩
        refine ⟨_, rfl, ?_⟩
        have h41 := h30.call hb40
        refine RegI.pure 1 [1, 2, 3, 4, 8, 9] [(1, .int .i64 p1), (2, .int .i64 p2), (3, .int .u8 p3), (4, .pointer (some ⟨b2, 0, none⟩)), (8, .pointer (some ⟨b7, 0, none⟩)), (9, .int .u16 t43)] (by kernel_rfl) ?_
        refine RegI.done (by kernel_rfl) ?_
        refine RunsI.go 2 [.c 24, .c 25, .c 30] (by kernel_rfl) ?_
        refine RunsI.region (by kernel_rfl) ?_
        refine RegI.pure 3 [1, 2, 3, 4, 8, 9, 33] [(1, .int .i64 p1), (2, .int .i64 p2), (3, .int .u8 p3), (4, .pointer (some ⟨b2, 0, none⟩)), (8, .pointer (some ⟨b7, 0, none⟩)), (9, .int .u16 t43), (33, .bool ((Int.tmod p2 2) == 0))] (by kernel_rfl) ?_
        refine RegI.done (by kernel_rfl) ?_
        rcases of_cond h with ⟨hc44, h⟩ | ⟨hc44, h⟩
        · skip
          refine RunsI.fix 33 true hc44 (by kernel_rfl) (by kernel_rfl) ?_
          refine RunsI.cond true 26 (by kernel_rfl) ?_
          refine RunsI.go 1 [.c 27, .c 28, .c 30] (by kernel_rfl) ?_
          refine RunsI.any 10 (by kernel_rfl) (by kernel_rfl) (by kernel_rfl) (Kp ([] : List Nat) (World.drew w39)) ?_
          have h46 := h41.drew
          generalize World.drew w39 = w45 at h46 ⊢
          have hS47 := Kp.refl ([] : List Nat) w45
          refine AnyE.loadBox 0 34 0 46 b2 0 (.agg #[.int .u16 p0_0, .int .u16 p0_1, .int .u16 p0_2, .int .u16 p0_3, .int .u16 p0_4, .int .u16 p0_5, .int .u16 p0_6, .int .u16 p0_7, .int .u16 p0_8, .int .u16 p0_9, .int .u16 p0_10, .int .u16 p0_11, .int .u16 p0_12, .int .u8 p0_13, .int .u8 p0_14, .bool p0_15, .bool p0_16, .bool p0_17, .bool p0_18, .int .i64 p0_19]) [] h46 rfl (by kernel_rfl) hS47 rfl rfl (by kernel_rfl) (by kernel_rfl) ?_
          refine AnyE.pure 1 35 (.int .i64 p1) (by kernel_rfl) hS47 (fun _ => by kernel_rfl) ?_
          refine AnyE.pure 2 36 (.int .i64 p2) (by kernel_rfl) hS47 (fun _ => by kernel_rfl) ?_
          refine AnyE.pure 3 37 (.int .i64 (IntKind.wrap .i64 (Int.tdiv p2 2))) (by kernel_rfl) hS47 (fun _ => by kernel_rfl) ?_
          refine AnyE.pure 4 38 (.int .u8 p3) (by kernel_rfl) hS47 (fun _ => by kernel_rfl) ?_
          refine AnyE.pure 5 39 (.int .u16 t43) (by kernel_rfl) hS47 (fun _ => by kernel_rfl) ?_
          obtain ⟨t50, hg49, h⟩ := of_bind h
          refine AnyE.call 6 40 (.int .u8 t50) 48 #[.int .u16 t43] (by kernel_rfl) hS47 (fun _ => by kernel_rfl) (fun w hk => charabancref01_Lo_48_ok K (fun _ => False) w t43 (fun _ hf => hf.elim) hg49) ?_
          obtain ⟨t52, hg51, h⟩ := of_bind h
          refine AnyE.call 7 41 (.int .u16 t52) 57 #[.int .u8 p3, .int .u8 t50] (by kernel_rfl) hS47 (fun _ => by kernel_rfl) (fun w hk => charabancref01_Word_57_ok K (fun _ => False) w p3 t50 (fun _ hf => hf.elim) hg51) ?_
          obtain ⟨⟨t54, t55, t56, t57, t58, t59, t60, t61, t62, t63, t64, t65, t66, t67, t68, t69, t70, t71, t72, t73⟩, hg53, h⟩ := of_bind h
          dsimp only at h
          refine AnyE.call 8 42 (.agg #[.int .u16 t54, .int .u16 t55, .int .u16 t56, .int .u16 t57, .int .u16 t58, .int .u16 t59, .int .u16 t60, .int .u16 t61, .int .u16 t62, .int .u16 t63, .int .u16 t64, .int .u16 t65, .int .u16 t66, .int .u8 t67, .int .u8 t68, .bool t69, .bool t70, .bool t71, .bool t72, .int .i64 t73]) 41 #[.agg #[.int .u16 p0_0, .int .u16 p0_1, .int .u16 p0_2, .int .u16 p0_3, .int .u16 p0_4, .int .u16 p0_5, .int .u16 p0_6, .int .u16 p0_7, .int .u16 p0_8, .int .u16 p0_9, .int .u16 p0_10, .int .u16 p0_11, .int .u16 p0_12, .int .u8 p0_13, .int .u8 p0_14, .bool p0_15, .bool p0_16, .bool p0_17, .bool p0_18, .int .i64 p0_19], .int .i64 p1, .int .i64 (IntKind.wrap .i64 (Int.tdiv p2 2)), .int .u16 t52] (by kernel_rfl) hS47 (fun _ => by kernel_rfl) (fun w hk => charabancref11_SetPair_41_ok K (fun _ => False) w p0_0 p0_1 p0_2 p0_3 p0_4 p0_5 p0_6 p0_7 p0_8 p0_9 p0_10 p0_11 p0_12 p0_13 p0_14 p0_15 p0_16 p0_17 p0_18 p0_19 p1 (IntKind.wrap .i64 (Int.tdiv p2 2)) t52 (fun _ hf => hf.elim) hg53) ?_
          refine AnyE.last 9 (by kernel_rfl) (by kernel_rfl) (fun w74 hu75 => ?_)
          have h76 := h46.call hu75
          have hS77 := hS47.up hu75
          refine OpE.storeBox 1 46 b7 0 (.agg #[.int .u16 t54, .int .u16 t55, .int .u16 t56, .int .u16 t57, .int .u16 t58, .int .u16 t59, .int .u16 t60, .int .u16 t61, .int .u16 t62, .int .u16 t63, .int .u16 t64, .int .u16 t65, .int .u16 t66, .int .u8 t67, .int .u8 t68, .bool t69, .bool t70, .bool t71, .bool t72, .int .i64 t73]) [.int .u16 t54, .int .u16 t55, .int .u16 t56, .int .u16 t57, .int .u16 t58, .int .u16 t59, .int .u16 t60, .int .u16 t61, .int .u16 t62, .int .u16 t63, .int .u16 t64, .int .u16 t65, .int .u16 t66, .int .u8 t67, .int .u8 t68, .bool t69, .bool t70, .bool t71, .bool t72, .int .i64 t73] h76 (by kernel_rfl) (by kernel_rfl) rfl (by kernel_rfl) (by kernel_rfl) (by kernel_rfl) ?_
          intro w78 h79 hk80
          refine AnyE.done (by kernel_rfl) (fun w82 hu83 => ?_)
          have h84 := h79.call hu83
          refine RunsI.only [8] [(8, .pointer (some ⟨b7, 0, none⟩))] (by kernel_rfl) (by kernel_rfl) ?_
          refine RunsI.toRet (by kernel_rfl) ?_
          refine RetI.valW [.cell 8 46] [.agg #[.int .u16 t54, .int .u16 t55, .int .u16 t56, .int .u16 t57, .int .u16 t58, .int .u16 t59, .int .u16 t60, .int .u16 t61, .int .u16 t62, .int .u16 t63, .int .u16 t64, .int .u16 t65, .int .u16 t66, .int .u8 t67, .int .u8 t68, .bool t69, .bool t70, .bool t71, .bool t72, .int .i64 t73]] (.agg #[.int .u16 t54, .int .u16 t55, .int .u16 t56, .int .u16 t57, .int .u16 t58, .int .u16 t59, .int .u16 t60, .int .u16 t61, .int .u16 t62, .int .u16 t63, .int .u16 t64, .int .u16 t65, .int .u16 t66, .int .u8 t67, .int .u8 t68, .bool t69, .bool t70, .bool t71, .bool t72, .int .i64 t73]) (by kernel_rfl) (ResAt.box 1 46 b7 0 h84 (by kernel_rfl) (by kernel_rfl) rfl (by kernel_rfl) rfl) (by kernel_rfl) ?_
          obtain rfl := Option.some.inj h
          exact ⟨rfl, h84.below⟩
        · skip
          refine RunsI.fix 33 false hc44 (by kernel_rfl) (by kernel_rfl) ?_
          refine RunsI.cond false 29 (by kernel_rfl) ?_
          refine RunsI.go 1 [.c 30] (by kernel_rfl) ?_
          refine RunsI.go 1 [.c 31, .c 32] (by kernel_rfl) ?_
          refine RunsI.any 10 (by kernel_rfl) (by kernel_rfl) (by kernel_rfl) (Kp ([] : List Nat) (World.drew w39)) ?_
          have h86 := h41.drew
          generalize World.drew w39 = w85 at h86 ⊢
          have hS87 := Kp.refl ([] : List Nat) w85
          refine AnyE.loadBox 0 43 0 46 b2 0 (.agg #[.int .u16 p0_0, .int .u16 p0_1, .int .u16 p0_2, .int .u16 p0_3, .int .u16 p0_4, .int .u16 p0_5, .int .u16 p0_6, .int .u16 p0_7, .int .u16 p0_8, .int .u16 p0_9, .int .u16 p0_10, .int .u16 p0_11, .int .u16 p0_12, .int .u8 p0_13, .int .u8 p0_14, .bool p0_15, .bool p0_16, .bool p0_17, .bool p0_18, .int .i64 p0_19]) [] h86 rfl (by kernel_rfl) hS87 rfl rfl (by kernel_rfl) (by kernel_rfl) ?_
          refine AnyE.pure 1 44 (.int .i64 p1) (by kernel_rfl) hS87 (fun _ => by kernel_rfl) ?_
          refine AnyE.pure 2 45 (.int .i64 p2) (by kernel_rfl) hS87 (fun _ => by kernel_rfl) ?_
          refine AnyE.pure 3 46 (.int .i64 (IntKind.wrap .i64 (Int.tdiv p2 2))) (by kernel_rfl) hS87 (fun _ => by kernel_rfl) ?_
          refine AnyE.pure 4 47 (.int .u16 t43) (by kernel_rfl) hS87 (fun _ => by kernel_rfl) ?_
          obtain ⟨t90, hg89, h⟩ := of_bind h
          refine AnyE.call 5 48 (.int .u8 t90) 47 #[.int .u16 t43] (by kernel_rfl) hS87 (fun _ => by kernel_rfl) (fun w hk => charabancref01_Hi_47_ok K (fun _ => False) w t43 (fun _ hf => hf.elim) hg89) ?_
          refine AnyE.pure 6 49 (.int .u8 p3) (by kernel_rfl) hS87 (fun _ => by kernel_rfl) ?_
          obtain ⟨t92, hg91, h⟩ := of_bind h
          refine AnyE.call 7 50 (.int .u16 t92) 57 #[.int .u8 t90, .int .u8 p3] (by kernel_rfl) hS87 (fun _ => by kernel_rfl) (fun w hk => charabancref01_Word_57_ok K (fun _ => False) w t90 p3 (fun _ hf => hf.elim) hg91) ?_
          obtain ⟨⟨t94, t95, t96, t97, t98, t99, t100, t101, t102, t103, t104, t105, t106, t107, t108, t109, t110, t111, t112, t113⟩, hg93, h⟩ := of_bind h
          dsimp only at h
          refine AnyE.call 8 51 (.agg #[.int .u16 t94, .int .u16 t95, .int .u16 t96, .int .u16 t97, .int .u16 t98, .int .u16 t99, .int .u16 t100, .int .u16 t101, .int .u16 t102, .int .u16 t103, .int .u16 t104, .int .u16 t105, .int .u16 t106, .int .u8 t107, .int .u8 t108, .bool t109, .bool t110, .bool t111, .bool t112, .int .i64 t113]) 41 #[.agg #[.int .u16 p0_0, .int .u16 p0_1, .int .u16 p0_2, .int .u16 p0_3, .int .u16 p0_4, .int .u16 p0_5, .int .u16 p0_6, .int .u16 p0_7, .int .u16 p0_8, .int .u16 p0_9, .int .u16 p0_10, .int .u16 p0_11, .int .u16 p0_12, .int .u8 p0_13, .int .u8 p0_14, .bool p0_15, .bool p0_16, .bool p0_17, .bool p0_18, .int .i64 p0_19], .int .i64 p1, .int .i64 (IntKind.wrap .i64 (Int.tdiv p2 2)), .int .u16 t92] (by kernel_rfl) hS87 (fun _ => by kernel_rfl) (fun w hk => charabancref11_SetPair_41_ok K (fun _ => False) w p0_0 p0_1 p0_2 p0_3 p0_4 p0_5 p0_6 p0_7 p0_8 p0_9 p0_10 p0_11 p0_12 p0_13 p0_14 p0_15 p0_16 p0_17 p0_18 p0_19 p1 (IntKind.wrap .i64 (Int.tdiv p2 2)) t92 (fun _ hf => hf.elim) hg93) ?_
          refine AnyE.last 9 (by kernel_rfl) (by kernel_rfl) (fun w114 hu115 => ?_)
          have h116 := h86.call hu115
          have hS117 := hS87.up hu115
          refine OpE.storeBox 1 46 b7 0 (.agg #[.int .u16 t94, .int .u16 t95, .int .u16 t96, .int .u16 t97, .int .u16 t98, .int .u16 t99, .int .u16 t100, .int .u16 t101, .int .u16 t102, .int .u16 t103, .int .u16 t104, .int .u16 t105, .int .u16 t106, .int .u8 t107, .int .u8 t108, .bool t109, .bool t110, .bool t111, .bool t112, .int .i64 t113]) [.int .u16 t94, .int .u16 t95, .int .u16 t96, .int .u16 t97, .int .u16 t98, .int .u16 t99, .int .u16 t100, .int .u16 t101, .int .u16 t102, .int .u16 t103, .int .u16 t104, .int .u16 t105, .int .u16 t106, .int .u8 t107, .int .u8 t108, .bool t109, .bool t110, .bool t111, .bool t112, .int .i64 t113] h116 (by kernel_rfl) (by kernel_rfl) rfl (by kernel_rfl) (by kernel_rfl) (by kernel_rfl) ?_
          intro w118 h119 hk120
          refine AnyE.done (by kernel_rfl) (fun w122 hu123 => ?_)
          have h124 := h119.call hu123
          refine RunsI.only [8] [(8, .pointer (some ⟨b7, 0, none⟩))] (by kernel_rfl) (by kernel_rfl) ?_
          refine RunsI.toRet (by kernel_rfl) ?_
          refine RetI.valW [.cell 8 46] [.agg #[.int .u16 t94, .int .u16 t95, .int .u16 t96, .int .u16 t97, .int .u16 t98, .int .u16 t99, .int .u16 t100, .int .u16 t101, .int .u16 t102, .int .u16 t103, .int .u16 t104, .int .u16 t105, .int .u16 t106, .int .u8 t107, .int .u8 t108, .bool t109, .bool t110, .bool t111, .bool t112, .int .i64 t113]] (.agg #[.int .u16 t94, .int .u16 t95, .int .u16 t96, .int .u16 t97, .int .u16 t98, .int .u16 t99, .int .u16 t100, .int .u16 t101, .int .u16 t102, .int .u16 t103, .int .u16 t104, .int .u16 t105, .int .u16 t106, .int .u8 t107, .int .u8 t108, .bool t109, .bool t110, .bool t111, .bool t112, .int .i64 t113]) (by kernel_rfl) (ResAt.box 1 46 b7 0 h124 (by kernel_rfl) (by kernel_rfl) rfl (by kernel_rfl) rfl) (by kernel_rfl) ?_
          obtain rfl := Option.some.inj h
          exact ⟨rfl, h124.below⟩
    clear hJ33
    rcases of_cond h with ⟨hc28, h⟩ | ⟨hc28, h⟩
    · skip
      refine RegI.fix 21 true hc28 (by kernel_rfl) (by kernel_rfl) ?_
      refine RegI.pure 3 [1, 2, 3, 4, 8, 24] [(1, .int .i64 p1), (2, .int .i64 p2), (3, .int .u8 p3), (4, .pointer (some ⟨b2, 0, none⟩)), (8, .pointer (some ⟨b7, 0, none⟩)), (24, .bool true)] (by kernel_rfl) ?_
      refine RegI.only [1, 2, 3, 4, 8, 24] [(1, .int .i64 p1), (2, .int .i64 p2), (3, .int .u8 p3), (4, .pointer (some ⟨b2, 0, none⟩)), (8, .pointer (some ⟨b7, 0, none⟩)), (24, .bool true)] (by kernel_rfl) (by kernel_rfl) ?_
      exact hj34 true w6 h (h8.pick [0, 1] (by decide))
    · skip
      refine RegI.fix 21 false hc28 (by kernel_rfl) (by kernel_rfl) ?_
      refine RegI.pure 3 [1, 2, 3, 4, 8, 24] [(1, .int .i64 p1), (2, .int .i64 p2), (3, .int .u8 p3), (4, .pointer (some ⟨b2, 0, none⟩)), (8, .pointer (some ⟨b7, 0, none⟩)), (24, .bool (decide (p2 > 5)))] (by kernel_rfl) ?_
      refine RegI.only [1, 2, 3, 4, 8, 24] [(1, .int .i64 p1), (2, .int .i64 p2), (3, .int .u8 p3), (4, .pointer (some ⟨b2, 0, none⟩)), (8, .pointer (some ⟨b7, 0, none⟩)), (24, .bool (decide (p2 > 5)))] (by kernel_rfl) (by kernel_rfl) ?_
      exact hj34 (decide (p2 > 5)) w6 h (h8.pick [0, 1] (by decide))
end
end Go.Proofs.YtajnhlkkbhobiaaDoor.Reg
