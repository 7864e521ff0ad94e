/- Functions of the program as plain Lean functions, each with the proof that the call comes to it; written by wip/eng.py. -/
import Derived.Test.YtajnhlkkbhobiaaDoorReg
set_option linter.unusedVariables false
set_option linter.unusedSimpArgs false
set_option maxHeartbeats 4000000
namespace Go.Proofs.YtajnhlkkbhobiaaDoor.Reg
open Go.RowKit Go.Eng
/-! ### charabanc/regs.Set (function 38) -/
section
def regs_Set_38.post (M0 : Nat → Prop) (w0 : World) (r : Int × Int × Int × Int × Int × Int × Int × Int × Int × Int × Int × Int × Int × Int × Int × Bool × Bool × Bool × Bool × Int) : Ending → World → Prop := fun e w => e = .returned (.agg #[.int .u16 r.1, .int .u16 r.2.1, .int .u16 r.2.2.1, .int .u16 r.2.2.2.1, .int .u16 r.2.2.2.2.1, .int .u16 r.2.2.2.2.2.1, .int .u16 r.2.2.2.2.2.2.1, .int .u16 r.2.2.2.2.2.2.2.1, .int .u16 r.2.2.2.2.2.2.2.2.1, .int .u16 r.2.2.2.2.2.2.2.2.2.1, .int .u16 r.2.2.2.2.2.2.2.2.2.2.1, .int .u16 r.2.2.2.2.2.2.2.2.2.2.2.1, .int .u16 r.2.2.2.2.2.2.2.2.2.2.2.2.1, .int .u8 r.2.2.2.2.2.2.2.2.2.2.2.2.2.1, .int .u8 r.2.2.2.2.2.2.2.2.2.2.2.2.2.2.1, .bool r.2.2.2.2.2.2.2.2.2.2.2.2.2.2.2.1, .bool r.2.2.2.2.2.2.2.2.2.2.2.2.2.2.2.2.1, .bool r.2.2.2.2.2.2.2.2.2.2.2.2.2.2.2.2.2.1, .bool r.2.2.2.2.2.2.2.2.2.2.2.2.2.2.2.2.2.2.1, .int .i64 r.2.2.2.2.2.2.2.2.2.2.2.2.2.2.2.2.2.2.2]) ∧ Below w0.heap.size w0 w
def regs_Set_38.f (K : Nat) (p0_0 : Int) (p0_1 : Int) (p0_2 : Int) (p0_3 : Int) (p0_4 : Int) (p0_5 : Int) (p0_6 : Int) (p0_7 : Int) (p0_8 : Int) (p0_9 : Int) (p0_10 : Int) (p0_11 : Int) (p0_12 : Int) (p0_13 : Int) (p0_14 : Int) (p0_15 : Bool) (p0_16 : Bool) (p0_17 : Bool) (p0_18 : Bool) (p0_19 : Int) (p1 : Int) (p2 : Int) (p3 : Int) : Option (Int × Int × Int × Int × Int × Int × Int × Int × Int × Int × Int × Int × Int × Int × Int × Bool × Bool × Bool × Bool × Int) := Let (fun (t101 : Bool) => some (p0_0, p0_1, p0_2, p0_3, p0_4, p0_5, p0_6, p0_7, p0_8, p0_9, p0_10, p0_11, p0_12, p0_13, p0_14, p0_15, p0_16, p0_17, p0_18, p0_19)) (fun j104 => cond (p2 == 7) ((bits_Lo_46.f K p0_0).bind fun t80 => (bits_Word_56.f K p3 t80).bind fun t86 => some (t86, p0_1, p0_2, p0_3, p0_4, p0_5, p0_6, p0_7, p0_8, p0_9, p0_10, p0_11, p0_12, p0_13, p0_14, p0_15, p0_16, p0_17, p0_18, p0_19)) (Let (fun (t21 : Bool) => cond t21 (j104 false) (Let (fun (_ : Unit) => cond ((Int.fdiv p2 (2 ^ 1)) == 0) (cond ((band .i64 p2 1) == 0) ((bits_Lo_46.f K p0_1).bind fun t249 => (bits_Word_56.f K p3 t249).bind fun t255 => some (p0_0, t255, p0_2, p0_3, p0_4, p0_5, p0_6, p0_7, p0_8, p0_9, p0_10, p0_11, p0_12, p0_13, p0_14, p0_15, p0_16, p0_17, p0_18, p0_19)) ((bits_Hi_45.f K p0_1).bind fun t271 => (bits_Word_56.f K t271 p3).bind fun t277 => some (p0_0, t277, p0_2, p0_3, p0_4, p0_5, p0_6, p0_7, p0_8, p0_9, p0_10, p0_11, p0_12, p0_13, p0_14, p0_15, p0_16, p0_17, p0_18, p0_19))) (cond ((Int.fdiv p2 (2 ^ 1)) == 1) (cond ((band .i64 p2 1) == 0) ((bits_Lo_46.f K p0_2).bind fun t308 => (bits_Word_56.f K p3 t308).bind fun t314 => some (p0_0, p0_1, t314, p0_3, p0_4, p0_5, p0_6, p0_7, p0_8, p0_9, p0_10, p0_11, p0_12, p0_13, p0_14, p0_15, p0_16, p0_17, p0_18, p0_19)) ((bits_Hi_45.f K p0_2).bind fun t330 => (bits_Word_56.f K t330 p3).bind fun t336 => some (p0_0, p0_1, t336, p0_3, p0_4, p0_5, p0_6, p0_7, p0_8, p0_9, p0_10, p0_11, p0_12, p0_13, p0_14, p0_15, p0_16, p0_17, p0_18, p0_19))) (cond ((Int.fdiv p2 (2 ^ 1)) == 2) (cond ((band .i64 p2 1) == 0) ((bits_Lo_46.f K p0_3).bind fun t367 => (bits_Word_56.f K p3 t367).bind fun t373 => some (p0_0, p0_1, p0_2, t373, p0_4, p0_5, p0_6, p0_7, p0_8, p0_9, p0_10, p0_11, p0_12, p0_13, p0_14, p0_15, p0_16, p0_17, p0_18, p0_19)) ((bits_Hi_45.f K p0_3).bind fun t389 => (bits_Word_56.f K t389 p3).bind fun t395 => some (p0_0, p0_1, p0_2, t395, p0_4, p0_5, p0_6, p0_7, p0_8, p0_9, p0_10, p0_11, p0_12, p0_13, p0_14, p0_15, p0_16, p0_17, p0_18, p0_19))) (cond ((Int.fdiv p2 (2 ^ 1)) == 3) (cond ((band .i64 p2 1) == 0) ((bits_Lo_46.f K p0_10).bind fun t426 => (bits_Word_56.f K p3 t426).bind fun t432 => some (p0_0, p0_1, p0_2, p0_3, p0_4, p0_5, p0_6, p0_7, p0_8, p0_9, t432, p0_11, p0_12, p0_13, p0_14, p0_15, p0_16, p0_17, p0_18, p0_19)) ((bits_Hi_45.f K p0_10).bind fun t448 => (bits_Word_56.f K t448 p3).bind fun t454 => some (p0_0, p0_1, p0_2, p0_3, p0_4, p0_5, p0_6, p0_7, p0_8, p0_9, t454, p0_11, p0_12, p0_13, p0_14, p0_15, p0_16, p0_17, p0_18, p0_19))) (j104 ((band .i64 p2 1) == 0)))))) (fun j44 => cond ((Int.fdiv p2 (2 ^ 1)) == 2) (cond (p1 == 3) (cond ((band .i64 p2 1) == 0) ((bits_Lo_46.f K p0_8).bind fun t131 => (bits_Word_56.f K p3 t131).bind fun t137 => some (p0_0, p0_1, p0_2, p0_3, p0_4, p0_5, p0_6, p0_7, t137, p0_9, p0_10, p0_11, p0_12, p0_13, p0_14, p0_15, p0_16, p0_17, p0_18, p0_19)) ((bits_Hi_45.f K p0_8).bind fun t153 => (bits_Word_56.f K t153 p3).bind fun t159 => some (p0_0, p0_1, p0_2, p0_3, p0_4, p0_5, p0_6, p0_7, t159, p0_9, p0_10, p0_11, p0_12, p0_13, p0_14, p0_15, p0_16, p0_17, p0_18, p0_19))) (cond (p1 == 4) (cond ((band .i64 p2 1) == 0) ((bits_Lo_46.f K p0_9).bind fun t190 => (bits_Word_56.f K p3 t190).bind fun t196 => some (p0_0, p0_1, p0_2, p0_3, p0_4, p0_5, p0_6, p0_7, p0_8, t196, p0_10, p0_11, p0_12, p0_13, p0_14, p0_15, p0_16, p0_17, p0_18, p0_19)) ((bits_Hi_45.f K p0_9).bind fun t212 => (bits_Word_56.f K t212 p3).bind fun t218 => some (p0_0, p0_1, p0_2, p0_3, p0_4, p0_5, p0_6, p0_7, p0_8, t218, p0_10, p0_11, p0_12, p0_13, p0_14, p0_15, p0_16, p0_17, p0_18, p0_19))) (j44 ()))) (j44 ())))) (fun j24 => cond (decide (p2 < 0)) (j24 true) (j24 (decide (p2 > 5))))))
set_option maxRecDepth 100000 in
theorem regs_Set_38_ok (K : Nat) (M0 : Nat → Prop) (w0 : World) (p0_0 : Int) (p0_1 : Int) (p0_2 : Int) (p0_3 : Int) (p0_4 : Int) (p0_5 : Int) (p0_6 : Int) (p0_7 : Int) (p0_8 : Int) (p0_9 : Int) (p0_10 : Int) (p0_11 : Int) (p0_12 : Int) (p0_13 : Int) (p0_14 : Int) (p0_15 : Bool) (p0_16 : Bool) (p0_17 : Bool) (p0_18 : Bool) (p0_19 : Int) (p1 : Int) (p2 : Int) (p3 : Int) (ho : ∀ b, M0 b → b < w0.heap.size) {r : Int × Int × Int × Int × Int × Int × Int × Int × Int × Int × Int × Int × Int × Int × Int × Bool × Bool × Bool × Bool × Int} (h : regs_Set_38.f K p0_0 p0_1 p0_2 p0_3 p0_4 p0_5 p0_6 p0_7 p0_8 p0_9 p0_10 p0_11 p0_12 p0_13 p0_14 p0_15 p0_16 p0_17 p0_18 p0_19 p1 p2 p3 = some r) :
    Calls Tryd.prog 38 #[.agg #[.int .u16 p0_0, .int .u16 p0_1, .int .u16 p0_2, .int .u16 p0_3, .int .u16 p0_4, .int .u16 p0_5, .int .u16 p0_6, .int .u16 p0_7, .int .u16 p0_8, .int .u16 p0_9, .int .u16 p0_10, .int .u16 p0_11, .int .u16 p0_12, .int .u8 p0_13, .int .u8 p0_14, .bool p0_15, .bool p0_16, .bool p0_17, .bool p0_18, .int .i64 p0_19], .int .i64 p1, .int .i64 p2, .int .u8 p3] w0 (regs_Set_38.post M0 w0 r) := by
  unfold regs_Set_38.f at h
  have h0 : Holds M0 w0 w0 [] := Holds.start ho
  have h0 : Holds M0 w0 w0 [] := h0
  refine calls_of F38 rfl [.agg #[.int .u16 p0_0, .int .u16 p0_1, .int .u16 p0_2, .int .u16 p0_3, .int .u16 p0_4, .int .u16 p0_5, .int .u16 p0_6, .int .u16 p0_7, .int .u16 p0_8, .int .u16 p0_9, .int .u16 p0_10, .int .u16 p0_11, .int .u16 p0_12, .int .u8 p0_13, .int .u8 p0_14, .bool p0_15, .bool p0_16, .bool p0_17, .bool p0_18, .int .i64 p0_19], .int .i64 p1, .int .i64 p2, .int .u8 p3] (by kernel_rfl) ?_
  refine RunsI.go 1 [.c 1, .c 2] (by kernel_rfl) ?_
  refine RunsI.region (by kernel_rfl) ?_
  refine RegI.op (by kernel_rfl) (OpE.box 4 46 [.int .u16 p0_0, .int .u16 p0_1, .int .u16 p0_2, .int .u16 p0_3, .int .u16 p0_4, .int .u16 p0_5, .int .u16 p0_6, .int .u16 p0_7, .int .u16 p0_8, .int .u16 p0_9, .int .u16 p0_10, .int .u16 p0_11, .int .u16 p0_12, .int .u8 p0_13, .int .u8 p0_14, .bool p0_15, .bool p0_16, .bool p0_17, .bool p0_18, .int .i64 p0_19] h0 (by kernel_rfl) (by kernel_rfl) ?_)
  intro w1 b2 h3 hb4 hn5
  refine RegI.op (by kernel_rfl) (OpE.box 8 46 [.int .u16 0, .int .u16 0, .int .u16 0, .int .u16 0, .int .u16 0, .int .u16 0, .int .u16 0, .int .u16 0, .int .u16 0, .int .u16 0, .int .u16 0, .int .u16 0, .int .u16 0, .int .u8 0, .int .u8 0, .bool false, .bool false, .bool false, .bool false, .int .i64 0] h3 (by kernel_rfl) (by kernel_rfl) ?_)
  intro w6 b7 h8 hb9 hn10
  refine RegI.done (by kernel_rfl) ?_
  refine RunsI.go 1 [.c 3, .c 4] (by kernel_rfl) ?_
  refine RunsI.region (by kernel_rfl) ?_
  refine RegI.op (by kernel_rfl) (OpE.loadBox 13 0 46 b2 0 (.agg #[.int .u16 p0_0, .int .u16 p0_1, .int .u16 p0_2, .int .u16 p0_3, .int .u16 p0_4, .int .u16 p0_5, .int .u16 p0_6, .int .u16 p0_7, .int .u16 p0_8, .int .u16 p0_9, .int .u16 p0_10, .int .u16 p0_11, .int .u16 p0_12, .int .u8 p0_13, .int .u8 p0_14, .bool p0_15, .bool p0_16, .bool p0_17, .bool p0_18, .int .i64 p0_19]) h8 (by kernel_rfl) (by kernel_rfl) rfl (by kernel_rfl) ?_)
  refine RegI.op (by kernel_rfl) (OpE.box 9 64 [.int .u16 0, .int .u16 0, .int .u16 0, .int .u16 0, .int .u16 0, .int .u16 0, .int .u16 0, .int .u16 0, .int .u16 0, .int .u16 0, .int .u16 0, .int .u16 0, .int .u16 0, .int .u8 0, .int .u8 0, .bool false, .bool false, .bool false, .bool false, .int .i64 0] h8 (by kernel_rfl) (by kernel_rfl) ?_)
  intro w11 b12 h13 hb14 hn15
  refine RegI.op (by kernel_rfl) (OpE.storeBox 2 64 b12 0 (.agg #[.int .u16 p0_0, .int .u16 p0_1, .int .u16 p0_2, .int .u16 p0_3, .int .u16 p0_4, .int .u16 p0_5, .int .u16 p0_6, .int .u16 p0_7, .int .u16 p0_8, .int .u16 p0_9, .int .u16 p0_10, .int .u16 p0_11, .int .u16 p0_12, .int .u8 p0_13, .int .u8 p0_14, .bool p0_15, .bool p0_16, .bool p0_17, .bool p0_18, .int .i64 p0_19]) [.int .u16 p0_0, .int .u16 p0_1, .int .u16 p0_2, .int .u16 p0_3, .int .u16 p0_4, .int .u16 p0_5, .int .u16 p0_6, .int .u16 p0_7, .int .u16 p0_8, .int .u16 p0_9, .int .u16 p0_10, .int .u16 p0_11, .int .u16 p0_12, .int .u8 p0_13, .int .u8 p0_14, .bool p0_15, .bool p0_16, .bool p0_17, .bool p0_18, .int .i64 p0_19] h13 (by kernel_rfl) (by kernel_rfl) rfl (by kernel_rfl) (by kernel_rfl) (by kernel_rfl) ?_)
  intro w16 h17 hk18
  refine RegI.done (by kernel_rfl) ?_
  refine RunsI.go 1 [.c 5, .c 6] (by kernel_rfl) ?_
  refine RunsI.region (by kernel_rfl) ?_
  refine RegI.pure 2 [3, 4, 8, 9, 15, 16] [(3, .int .u8 p3), (4, .pointer (some ⟨b2, 0, none⟩)), (8, .pointer (some ⟨b7, 0, none⟩)), (9, .pointer (some ⟨b12, 0, none⟩)), (15, .int .i64 p1), (16, .int .i64 p2)] (by kernel_rfl) ?_
  refine RegI.enter 17 [3, 4, 8, 9] [(3, .int .u8 p3), (4, .pointer (some ⟨b2, 0, none⟩)), (8, .pointer (some ⟨b7, 0, none⟩)), (9, .pointer (some ⟨b12, 0, none⟩))] (by kernel_rfl) (by kernel_rfl) (by kernel_rfl) (by kernel_rfl) F44 44 rfl [.pointer (some ⟨b12, 0, none⟩), .int .i64 p1, .int .i64 p2] (by kernel_rfl) (by kernel_rfl) ?_
  obtain ⟨j104, hJ105, h⟩ := of_let h
  have hj106 : ∀ (t101 : Bool) (w103 : World), j104 t101 = some r → Holds M0 w0 w103 [box b2 46 [.int .u16 p0_0, .int .u16 p0_1, .int .u16 p0_2, .int .u16 p0_3, .int .u16 p0_4, .int .u16 p0_5, .int .u16 p0_6, .int .u16 p0_7, .int .u16 p0_8, .int .u16 p0_9, .int .u16 p0_10, .int .u16 p0_11, .int .u16 p0_12, .int .u8 p0_13, .int .u8 p0_14, .bool p0_15, .bool p0_16, .bool p0_17, .bool p0_18, .int .i64 p0_19], box b7 46 [.int .u16 0, .int .u16 0, .int .u16 0, .int .u16 0, .int .u16 0, .int .u16 0, .int .u16 0, .int .u16 0, .int .u16 0, .int .u16 0, .int .u16 0, .int .u16 0, .int .u16 0, .int .u8 0, .int .u8 0, .bool false, .bool false, .bool false, .bool false, .int .i64 0], box b12 64 [.int .u16 p0_0, .int .u16 p0_1, .int .u16 p0_2, .int .u16 p0_3, .int .u16 p0_4, .int .u16 p0_5, .int .u16 p0_6, .int .u16 p0_7, .int .u16 p0_8, .int .u16 p0_9, .int .u16 p0_10, .int .u16 p0_11, .int .u16 p0_12, .int .u8 p0_13, .int .u8 p0_14, .bool p0_15, .bool p0_16, .bool p0_17, .bool p0_18, .int .i64 p0_19]] → RegI F38 5 [.c 6] 3 [(3, .int .u8 p3), (4, .pointer (some ⟨b2, 0, none⟩)), (8, .pointer (some ⟨b7, 0, none⟩)), (9, .pointer (some ⟨b12, 0, none⟩)), (17, .tuple #[.pointer none, .bool t101])] w103 (regs_Set_38.post M0 w0 r) := by
    intro t101 w103 h h102
    rw [hJ105] at h
    clear hJ105
    dsimp only at h
    refine RegI.pure 3 [3, 4, 8, 9, 18, 19] [(3, .int .u8 p3), (4, .pointer (some ⟨b2, 0, none⟩)), (8, .pointer (some ⟨b7, 0, none⟩)), (9, .pointer (some ⟨b12, 0, none⟩)), (18, .pointer none), (19, .bool t101)] (by kernel_rfl) ?_
    refine RegI.op (by kernel_rfl) (OpE.box 10 65 [.pointer none] h102 (by kernel_rfl) (by kernel_rfl) ?_)
    intro w107 b108 h109 hb110 hn111
    refine RegI.op (by kernel_rfl) (OpE.storeBox 3 65 b108 0 (.pointer none) [.pointer none] h109 (by kernel_rfl) (by kernel_rfl) rfl (by kernel_rfl) (by kernel_rfl) (by kernel_rfl) ?_)
    intro w112 h113 hk114
    refine RegI.pure 1 [3, 4, 8, 9, 10, 11] [(3, .int .u8 p3), (4, .pointer (some ⟨b2, 0, none⟩)), (8, .pointer (some ⟨b7, 0, none⟩)), (9, .pointer (some ⟨b12, 0, none⟩)), (10, .pointer (some ⟨b108, 0, none⟩)), (11, .bool t101)] (by kernel_rfl) ?_
    refine RegI.done (by kernel_rfl) ?_
    refine RunsI.go 2 [.c 8, .c 9, .c 14] (by kernel_rfl) ?_
    refine RunsI.region (by kernel_rfl) ?_
    refine RegI.op (by kernel_rfl) (OpE.loadBox 20 3 65 b108 0 (.pointer none) h113 (by kernel_rfl) (by kernel_rfl) rfl (by kernel_rfl) ?_)
    refine RegI.pure 1 [3, 4, 8, 9, 10, 11, 21] [(3, .int .u8 p3), (4, .pointer (some ⟨b2, 0, none⟩)), (8, .pointer (some ⟨b7, 0, none⟩)), (9, .pointer (some ⟨b12, 0, none⟩)), (10, .pointer (some ⟨b108, 0, none⟩)), (11, .bool t101), (21, .bool true)] (by kernel_rfl) ?_
    refine RegI.done (by kernel_rfl) ?_
    refine RunsI.cond true 10 (by kernel_rfl) ?_
    refine RunsI.go 1 [.c 11, .c 12, .c 14] (by kernel_rfl) ?_
    refine RunsI.region (by kernel_rfl) ?_
    refine RegI.op (by kernel_rfl) (OpE.loadBox 22 0 46 b2 0 (.agg #[.int .u16 p0_0, .int .u16 p0_1, .int .u16 p0_2, .int .u16 p0_3, .int .u16 p0_4, .int .u16 p0_5, .int .u16 p0_6, .int .u16 p0_7, .int .u16 p0_8, .int .u16 p0_9, .int .u16 p0_10, .int .u16 p0_11, .int .u16 p0_12, .int .u8 p0_13, .int .u8 p0_14, .bool p0_15, .bool p0_16, .bool p0_17, .bool p0_18, .int .i64 p0_19]) h113 (by kernel_rfl) (by kernel_rfl) rfl (by kernel_rfl) ?_)
    refine RegI.op (by kernel_rfl) (OpE.storeBox 1 46 b7 0 (.agg #[.int .u16 p0_0, .int .u16 p0_1, .int .u16 p0_2, .int .u16 p0_3, .int .u16 p0_4, .int .u16 p0_5, .int .u16 p0_6, .int .u16 p0_7, .int .u16 p0_8, .int .u16 p0_9, .int .u16 p0_10, .int .u16 p0_11, .int .u16 p0_12, .int .u8 p0_13, .int .u8 p0_14, .bool p0_15, .bool p0_16, .bool p0_17, .bool p0_18, .int .i64 p0_19]) [.int .u16 p0_0, .int .u16 p0_1, .int .u16 p0_2, .int .u16 p0_3, .int .u16 p0_4, .int .u16 p0_5, .int .u16 p0_6, .int .u16 p0_7, .int .u16 p0_8, .int .u16 p0_9, .int .u16 p0_10, .int .u16 p0_11, .int .u16 p0_12, .int .u8 p0_13, .int .u8 p0_14, .bool p0_15, .bool p0_16, .bool p0_17, .bool p0_18, .int .i64 p0_19] h113 (by kernel_rfl) (by kernel_rfl) rfl (by kernel_rfl) (by kernel_rfl) (by kernel_rfl) ?_)
    intro w115 h116 hk117
    refine RegI.done (by kernel_rfl) ?_
    refine RunsI.toRet (by kernel_rfl) ?_
    refine RetI.valW [.cell 8 46] [.agg #[.int .u16 p0_0, .int .u16 p0_1, .int .u16 p0_2, .int .u16 p0_3, .int .u16 p0_4, .int .u16 p0_5, .int .u16 p0_6, .int .u16 p0_7, .int .u16 p0_8, .int .u16 p0_9, .int .u16 p0_10, .int .u16 p0_11, .int .u16 p0_12, .int .u8 p0_13, .int .u8 p0_14, .bool p0_15, .bool p0_16, .bool p0_17, .bool p0_18, .int .i64 p0_19]] (.agg #[.int .u16 p0_0, .int .u16 p0_1, .int .u16 p0_2, .int .u16 p0_3, .int .u16 p0_4, .int .u16 p0_5, .int .u16 p0_6, .int .u16 p0_7, .int .u16 p0_8, .int .u16 p0_9, .int .u16 p0_10, .int .u16 p0_11, .int .u16 p0_12, .int .u8 p0_13, .int .u8 p0_14, .bool p0_15, .bool p0_16, .bool p0_17, .bool p0_18, .int .i64 p0_19]) (by kernel_rfl) (ResAt.box 1 46 b7 0 h116 (by kernel_rfl) (by kernel_rfl) rfl (by kernel_rfl) rfl) (by kernel_rfl) ?_
    obtain rfl := Option.some.inj h
    exact ⟨rfl, h116.below⟩
  clear hJ105
  refine RunsI.go 1 [.c 1, .c 2] (by kernel_rfl) ?_
  refine RunsI.region (by kernel_rfl) ?_
  refine RegI.pure 2 [0, 1, 2] [(0, .pointer (some ⟨b12, 0, none⟩)), (1, .int .i64 p1), (2, .int .i64 p2)] (by kernel_rfl) ?_
  refine RegI.done (by kernel_rfl) ?_
  refine RunsI.go 3 [.c 5, .c 6, .blk 0, .c 17] (by kernel_rfl) ?_
  refine RunsI.region (by kernel_rfl) ?_
  refine RegI.pure 3 [0, 1, 2, 8] [(0, .pointer (some ⟨b12, 0, none⟩)), (1, .int .i64 p1), (2, .int .i64 p2), (8, .bool (p2 == 7))] (by kernel_rfl) ?_
  refine RegI.done (by kernel_rfl) ?_
  rcases of_cond h with ⟨hc19, h⟩ | ⟨hc19, h⟩
  · skip
    refine RunsI.fix 8 true hc19 (by kernel_rfl) (by kernel_rfl) ?_
    refine RunsI.cond true 7 (by kernel_rfl) ?_
    refine RunsI.go 1 [.c 8, .c 9, .blk 0, .c 17] (by kernel_rfl) ?_
    refine RunsI.region (by kernel_rfl) ?_
    refine RegI.pure 5 [6, 7] [(6, .pointer (some ⟨b12, 0, none⟩)), (7, .bool true)] (by kernel_rfl) ?_
    refine RegI.done (by kernel_rfl) ?_
    refine RunsI.ret (.tuple #[.pointer (some ⟨b12, 0, none⟩), .bool true]) (by kernel_rfl) (by kernel_rfl) ?_
    refine cont_mk ?_
    refine RegI.pure 3 [3, 4, 8, 9, 18, 19] [(3, .int .u8 p3), (4, .pointer (some ⟨b2, 0, none⟩)), (8, .pointer (some ⟨b7, 0, none⟩)), (9, .pointer (some ⟨b12, 0, none⟩)), (18, .pointer (some ⟨b12, 0, none⟩)), (19, .bool true)] (by kernel_rfl) ?_
    refine RegI.op (by kernel_rfl) (OpE.box 10 65 [.pointer none] h17 (by kernel_rfl) (by kernel_rfl) ?_)
    intro w68 b69 h70 hb71 hn72
    refine RegI.op (by kernel_rfl) (OpE.storeBox 3 65 b69 0 (.pointer (some ⟨b12, 0, none⟩)) [.pointer (some ⟨b12, 0, none⟩)] h70 (by kernel_rfl) (by kernel_rfl) rfl (by kernel_rfl) (by kernel_rfl) (by kernel_rfl) ?_)
    intro w73 h74 hk75
    refine RegI.pure 1 [3, 4, 8, 9, 10, 11] [(3, .int .u8 p3), (4, .pointer (some ⟨b2, 0, none⟩)), (8, .pointer (some ⟨b7, 0, none⟩)), (9, .pointer (some ⟨b12, 0, none⟩)), (10, .pointer (some ⟨b69, 0, none⟩)), (11, .bool true)] (by kernel_rfl) ?_
    refine RegI.done (by kernel_rfl) ?_
    refine RunsI.go 2 [.c 8, .c 9, .c 14] (by kernel_rfl) ?_
    refine RunsI.region (by kernel_rfl) ?_
    refine RegI.op (by kernel_rfl) (OpE.loadBox 20 3 65 b69 0 (.pointer (some ⟨b12, 0, none⟩)) h74 (by kernel_rfl) (by kernel_rfl) rfl (by kernel_rfl) ?_)
    refine RegI.pure 1 [3, 4, 8, 9, 10, 11, 21] [(3, .int .u8 p3), (4, .pointer (some ⟨b2, 0, none⟩)), (8, .pointer (some ⟨b7, 0, none⟩)), (9, .pointer (some ⟨b12, 0, none⟩)), (10, .pointer (some ⟨b69, 0, none⟩)), (11, .bool true), (21, .bool false)] (by kernel_rfl) ?_
    refine RegI.done (by kernel_rfl) ?_
    refine RunsI.cond false 13 (by kernel_rfl) ?_
    refine RunsI.go 2 [.c 15, .c 16] (by kernel_rfl) ?_
    refine RunsI.region (by kernel_rfl) ?_
    refine RegI.pure 2 [3, 8, 9, 10, 11, 12] [(3, .int .u8 p3), (8, .pointer (some ⟨b7, 0, none⟩)), (9, .pointer (some ⟨b12, 0, none⟩)), (10, .pointer (some ⟨b69, 0, none⟩)), (11, .bool true), (12, .func (.func 55) #[] #[.pointer (some ⟨b69, 0, none⟩)])] (by kernel_rfl) ?_
    refine RegI.done (by kernel_rfl) ?_
    refine RunsI.go 2 [.c 18, .c 19, .c 22] (by kernel_rfl) ?_
    refine RunsI.region (by kernel_rfl) ?_
    refine RegI.pure 1 [3, 8, 9, 10, 12, 24] [(3, .int .u8 p3), (8, .pointer (some ⟨b7, 0, none⟩)), (9, .pointer (some ⟨b12, 0, none⟩)), (10, .pointer (some ⟨b69, 0, none⟩)), (12, .func (.func 55) #[] #[.pointer (some ⟨b69, 0, none⟩)]), (24, .bool true)] (by kernel_rfl) ?_
    refine RegI.done (by kernel_rfl) ?_
    refine RunsI.cond true 20 (by kernel_rfl) ?_
    refine RunsI.region (by kernel_rfl) ?_
    refine RegI.pure 2 [8, 9, 10, 25, 26] [(8, .pointer (some ⟨b7, 0, none⟩)), (9, .pointer (some ⟨b12, 0, none⟩)), (10, .pointer (some ⟨b69, 0, none⟩)), (25, .func (.func 55) #[] #[.pointer (some ⟨b69, 0, none⟩)]), (26, .int .u8 p3)] (by kernel_rfl) ?_
    refine RegI.op (by kernel_rfl) (OpE.loadBox 27 3 65 b69 0 (.pointer (some ⟨b12, 0, none⟩)) h74 (by kernel_rfl) (by kernel_rfl) rfl (by kernel_rfl) ?_)
    refine RegI.pure 1 [8, 9, 25, 26, 28] [(8, .pointer (some ⟨b7, 0, none⟩)), (9, .pointer (some ⟨b12, 0, none⟩)), (25, .func (.func 55) #[] #[.pointer (some ⟨b69, 0, none⟩)]), (26, .int .u8 p3), (28, .pointer (some ⟨b12, 0, none⟩))] (by kernel_rfl) ?_
    refine RegI.op (by kernel_rfl) (OpE.loadBox 29 2 22 b12 0 (.int .u16 p0_0) h74 (by kernel_rfl) (by kernel_rfl) rfl (by kernel_rfl) ?_)
    obtain ⟨t80, hg79, h⟩ := of_bind h
    refine RegI.op (by kernel_rfl) (OpE.call 30 (by kernel_rfl) 46 #[.int .u16 p0_0] (by kernel_rfl) ((bits_Lo_46_ok K _ w73  p0_0 h74.old' hg79).mono ?_))
    rintro _ w76 ⟨rfl, hb77⟩
    refine ⟨_, rfl, ?_⟩
    have h78 := h74.call hb77
    refine RegI.enter 31 [8, 9] [(8, .pointer (some ⟨b7, 0, none⟩)), (9, .pointer (some ⟨b12, 0, none⟩))] (by kernel_rfl) (by kernel_rfl) (by kernel_rfl) (by kernel_rfl) F55 55 rfl [.int .u8 p3, .int .u8 t80, .pointer (some ⟨b69, 0, none⟩)] (by kernel_rfl) (by kernel_rfl) ?_
    refine RunsI.any 6 (by kernel_rfl) (by kernel_rfl) (by kernel_rfl) (Kp ([] : List Nat) (World.drew w76)) ?_
    have h82 := h78.drew
    generalize World.drew w76 = w81 at h82 ⊢
    have hS83 := Kp.refl ([] : List Nat) w81
    refine AnyE.loadBox 0 5 3 65 b69 0 (.pointer (some ⟨b12, 0, none⟩)) [] h82 rfl (by kernel_rfl) hS83 rfl rfl (by kernel_rfl) (by kernel_rfl) ?_
    refine AnyE.pure 1 6 (.int .u8 p3) (by kernel_rfl) hS83 (fun _ => by kernel_rfl) ?_
    refine AnyE.pure 2 7 (.int .u8 t80) (by kernel_rfl) hS83 (fun _ => by kernel_rfl) ?_
    obtain ⟨t86, hg85, h⟩ := of_bind h
    refine AnyE.call 3 8 (.int .u16 t86) 56 #[.int .u8 p3, .int .u8 t80] (by kernel_rfl) hS83 (fun _ => by kernel_rfl) (fun w hk => bits_Word_56_ok K (fun _ => False) w p3 t80 (fun _ hf => hf.elim) hg85) ?_
    refine AnyE.pure 4 9 (.pointer (some ⟨b12, 0, none⟩)) (by kernel_rfl) hS83 (fun _ => by kernel_rfl) ?_
    refine AnyE.last 5 (by kernel_rfl) (by kernel_rfl) (fun w87 hu88 => ?_)
    have h89 := h82.call hu88
    have hS90 := hS83.up hu88
    refine OpE.storeBox 2 22 b12 0 (.int .u16 t86) [.int .u16 t86, .int .u16 p0_1, .int .u16 p0_2, .int .u16 p0_3, .int .u16 p0_4, .int .u16 p0_5, .int .u16 p0_6, .int .u16 p0_7, .int .u16 p0_8, .int .u16 p0_9, .int .u16 p0_10, .int .u16 p0_11, .int .u16 p0_12, .int .u8 p0_13, .int .u8 p0_14, .bool p0_15, .bool p0_16, .bool p0_17, .bool p0_18, .int .i64 p0_19] h89 (by kernel_rfl) (by kernel_rfl) rfl (by kernel_rfl) (by kernel_rfl) (by kernel_rfl) ?_
    intro w91 h92 hk93
    refine AnyE.done (by kernel_rfl) (fun w95 hu96 => ?_)
    have h97 := h92.call hu96
    refine RunsI.only [] [] (by kernel_rfl) (by kernel_rfl) ?_
    refine RunsI.ret (.tuple #[]) (by kernel_rfl) (by kernel_rfl) ?_
    refine cont_mk ?_
    refine RegI.done (by kernel_rfl) ?_
    refine RunsI.go 1 [.c 23, .c 24] (by kernel_rfl) ?_
    refine RunsI.region (by kernel_rfl) ?_
    refine RegI.op (by kernel_rfl) (OpE.loadBox 39 2 64 b12 0 (.agg #[.int .u16 t86, .int .u16 p0_1, .int .u16 p0_2, .int .u16 p0_3, .int .u16 p0_4, .int .u16 p0_5, .int .u16 p0_6, .int .u16 p0_7, .int .u16 p0_8, .int .u16 p0_9, .int .u16 p0_10, .int .u16 p0_11, .int .u16 p0_12, .int .u8 p0_13, .int .u8 p0_14, .bool p0_15, .bool p0_16, .bool p0_17, .bool p0_18, .int .i64 p0_19]) h97 (by kernel_rfl) (by kernel_rfl) rfl (by kernel_rfl) ?_)
    refine RegI.op (by kernel_rfl) (OpE.storeBox 1 46 b7 0 (.agg #[.int .u16 t86, .int .u16 p0_1, .int .u16 p0_2, .int .u16 p0_3, .int .u16 p0_4, .int .u16 p0_5, .int .u16 p0_6, .int .u16 p0_7, .int .u16 p0_8, .int .u16 p0_9, .int .u16 p0_10, .int .u16 p0_11, .int .u16 p0_12, .int .u8 p0_13, .int .u8 p0_14, .bool p0_15, .bool p0_16, .bool p0_17, .bool p0_18, .int .i64 p0_19]) [.int .u16 t86, .int .u16 p0_1, .int .u16 p0_2, .int .u16 p0_3, .int .u16 p0_4, .int .u16 p0_5, .int .u16 p0_6, .int .u16 p0_7, .int .u16 p0_8, .int .u16 p0_9, .int .u16 p0_10, .int .u16 p0_11, .int .u16 p0_12, .int .u8 p0_13, .int .u8 p0_14, .bool p0_15, .bool p0_16, .bool p0_17, .bool p0_18, .int .i64 p0_19] h97 (by kernel_rfl) (by kernel_rfl) rfl (by kernel_rfl) (by kernel_rfl) (by kernel_rfl) ?_)
    intro w98 h99 hk100
    refine RegI.done (by kernel_rfl) ?_
    refine RunsI.toRet (by kernel_rfl) ?_
    refine RetI.valW [.cell 8 46] [.agg #[.int .u16 t86, .int .u16 p0_1, .int .u16 p0_2, .int .u16 p0_3, .int .u16 p0_4, .int .u16 p0_5, .int .u16 p0_6, .int .u16 p0_7, .int .u16 p0_8, .int .u16 p0_9, .int .u16 p0_10, .int .u16 p0_11, .int .u16 p0_12, .int .u8 p0_13, .int .u8 p0_14, .bool p0_15, .bool p0_16, .bool p0_17, .bool p0_18, .int .i64 p0_19]] (.agg #[.int .u16 t86, .int .u16 p0_1, .int .u16 p0_2, .int .u16 p0_3, .int .u16 p0_4, .int .u16 p0_5, .int .u16 p0_6, .int .u16 p0_7, .int .u16 p0_8, .int .u16 p0_9, .int .u16 p0_10, .int .u16 p0_11, .int .u16 p0_12, .int .u8 p0_13, .int .u8 p0_14, .bool p0_15, .bool p0_16, .bool p0_17, .bool p0_18, .int .i64 p0_19]) (by kernel_rfl) (ResAt.box 1 46 b7 0 h99 (by kernel_rfl) (by kernel_rfl) rfl (by kernel_rfl) rfl) (by kernel_rfl) ?_
    obtain rfl := Option.some.inj h
    exact ⟨rfl, h99.below⟩
  · skip
    refine RunsI.fix 8 false hc19 (by kernel_rfl) (by kernel_rfl) ?_
    refine RunsI.cond false 10 (by kernel_rfl) ?_
    refine RunsI.go 1 [.c 11, .c 12, .blk 0, .c 17] (by kernel_rfl) ?_
    refine RunsI.region (by kernel_rfl) ?_
    refine RegI.pure 3 [0, 1, 2, 17] [(0, .pointer (some ⟨b12, 0, none⟩)), (1, .int .i64 p1), (2, .int .i64 p2), (17, .bool (decide (p2 < 0)))] (by kernel_rfl) ?_
    obtain ⟨j24, hJ25, h⟩ := of_let h
    have hj26 : ∀ (t21 : Bool) (w23 : World), j24 t21 = some r → Holds M0 w0 w23 [box b12 64 [.int .u16 p0_0, .int .u16 p0_1, .int .u16 p0_2, .int .u16 p0_3, .int .u16 p0_4, .int .u16 p0_5, .int .u16 p0_6, .int .u16 p0_7, .int .u16 p0_8, .int .u16 p0_9, .int .u16 p0_10, .int .u16 p0_11, .int .u16 p0_12, .int .u8 p0_13, .int .u8 p0_14, .bool p0_15, .bool p0_16, .bool p0_17, .bool p0_18, .int .i64 p0_19], box b2 46 [.int .u16 p0_0, .int .u16 p0_1, .int .u16 p0_2, .int .u16 p0_3, .int .u16 p0_4, .int .u16 p0_5, .int .u16 p0_6, .int .u16 p0_7, .int .u16 p0_8, .int .u16 p0_9, .int .u16 p0_10, .int .u16 p0_11, .int .u16 p0_12, .int .u8 p0_13, .int .u8 p0_14, .bool p0_15, .bool p0_16, .bool p0_17, .bool p0_18, .int .i64 p0_19], box b7 46 [.int .u16 0, .int .u16 0, .int .u16 0, .int .u16 0, .int .u16 0, .int .u16 0, .int .u16 0, .int .u16 0, .int .u16 0, .int .u16 0, .int .u16 0, .int .u16 0, .int .u16 0, .int .u8 0, .int .u8 0, .bool false, .bool false, .bool false, .bool false, .int .i64 0]] → RegI F44 11 [.c 12, .blk 0, .c 17] 7 [(0, .pointer (some ⟨b12, 0, none⟩)), (1, .int .i64 p1), (2, .int .i64 p2), (14, .bool t21)] w23 (cont (fun e' w' => RegI F38 5 [.c 6] 3 e' w' (regs_Set_38.post M0 w0 r)) 17 [(3, .int .u8 p3), (4, .pointer (some ⟨b2, 0, none⟩)), (8, .pointer (some ⟨b7, 0, none⟩)), (9, .pointer (some ⟨b12, 0, none⟩))]) := by
      intro t21 w23 h h22
      rw [hJ25] at h
      clear hJ25
      dsimp only at h
      refine RegI.done (by kernel_rfl) ?_
      rcases of_cond h with ⟨hc27, h⟩ | ⟨hc27, h⟩
      · skip
        refine RunsI.fix 14 true hc27 (by kernel_rfl) (by kernel_rfl) ?_
        refine RunsI.cond true 13 (by kernel_rfl) ?_
        refine RunsI.go 1 [.c 14, .c 15, .blk 0, .c 17] (by kernel_rfl) ?_
        refine RunsI.region (by kernel_rfl) ?_
        refine RegI.pure 2 [6, 7] [(6, .pointer none), (7, .bool false)] (by kernel_rfl) ?_
        refine RegI.done (by kernel_rfl) ?_
        refine RunsI.ret (.tuple #[.pointer none, .bool false]) (by kernel_rfl) (by kernel_rfl) ?_
        refine cont_mk ?_
        refine RegI.only [3, 4, 8, 9, 17] [(3, .int .u8 p3), (4, .pointer (some ⟨b2, 0, none⟩)), (8, .pointer (some ⟨b7, 0, none⟩)), (9, .pointer (some ⟨b12, 0, none⟩)), (17, .tuple #[.pointer none, .bool false])] (by kernel_rfl) (by kernel_rfl) ?_
        exact hj106 false w23 h (h22.pick [1, 2, 0] (by decide))
      · skip
        refine RunsI.fix 14 false hc27 (by kernel_rfl) (by kernel_rfl) ?_
        refine RunsI.cond false 16 (by kernel_rfl) ?_
        refine RunsI.go 1 [.blk 0, .c 17] (by kernel_rfl) ?_
        refine RunsI.go 2 [.c 18, .c 19] (by kernel_rfl) ?_
        refine RunsI.region (by kernel_rfl) ?_
        refine RegI.pure 4 [2, 21, 22, 24] [(2, .int .i64 p2), (21, .pointer (some ⟨b12, 0, none⟩)), (22, .int .i64 p1), (24, .int .i64 (Int.fdiv p2 (2 ^ 1)))] (by kernel_rfl) ?_
        refine RegI.enter 25 [2] [(2, .int .i64 p2)] (by kernel_rfl) (by kernel_rfl) (by kernel_rfl) (by kernel_rfl) F49 49 rfl [.pointer (some ⟨b12, 0, none⟩), .int .i64 p1, .int .i64 (Int.fdiv p2 (2 ^ 1))] (by kernel_rfl) (by kernel_rfl) ?_
        refine RunsI.go 1 [.c 1, .c 2] (by kernel_rfl) ?_
        refine RunsI.region (by kernel_rfl) ?_
        refine RegI.pure 1 [0, 1, 2] [(0, .pointer (some ⟨b12, 0, none⟩)), (1, .int .i64 p1), (2, .int .i64 (Int.fdiv p2 (2 ^ 1)))] (by kernel_rfl) ?_
        refine RegI.done (by kernel_rfl) ?_
        refine RunsI.go 2 [.c 4, .c 5, .c 16] (by kernel_rfl) ?_
        refine RunsI.region (by kernel_rfl) ?_
        refine RegI.pure 2 [0, 1, 2, 12] [(0, .pointer (some ⟨b12, 0, none⟩)), (1, .int .i64 p1), (2, .int .i64 (Int.fdiv p2 (2 ^ 1))), (12, .bool ((Int.fdiv p2 (2 ^ 1)) == 2))] (by kernel_rfl) ?_
        refine RegI.done (by kernel_rfl) ?_
        obtain ⟨j44, hJ45, h⟩ := of_let h
        have hj46 : ∀ (w43 : World), j44 () = some r → Holds M0 w0 w43 [box b12 64 [.int .u16 p0_0, .int .u16 p0_1, .int .u16 p0_2, .int .u16 p0_3, .int .u16 p0_4, .int .u16 p0_5, .int .u16 p0_6, .int .u16 p0_7, .int .u16 p0_8, .int .u16 p0_9, .int .u16 p0_10, .int .u16 p0_11, .int .u16 p0_12, .int .u8 p0_13, .int .u8 p0_14, .bool p0_15, .bool p0_16, .bool p0_17, .bool p0_18, .int .i64 p0_19], box b2 46 [.int .u16 p0_0, .int .u16 p0_1, .int .u16 p0_2, .int .u16 p0_3, .int .u16 p0_4, .int .u16 p0_5, .int .u16 p0_6, .int .u16 p0_7, .int .u16 p0_8, .int .u16 p0_9, .int .u16 p0_10, .int .u16 p0_11, .int .u16 p0_12, .int .u8 p0_13, .int .u8 p0_14, .bool p0_15, .bool p0_16, .bool p0_17, .bool p0_18, .int .i64 p0_19], box b7 46 [.int .u16 0, .int .u16 0, .int .u16 0, .int .u16 0, .int .u16 0, .int .u16 0, .int .u16 0, .int .u16 0, .int .u16 0, .int .u16 0, .int .u16 0, .int .u16 0, .int .u16 0, .int .u8 0, .int .u8 0, .bool false, .bool false, .bool false, .bool false, .int .i64 0]] → RunsI F49 [.c 16] [(0, .pointer (some ⟨b12, 0, none⟩)), (2, .int .i64 (Int.fdiv p2 (2 ^ 1)))] w43 (cont (fun e' w' => RegI F44 18 [.c 19] 5 e' w' (cont (fun e' w' => RegI F38 5 [.c 6] 3 e' w' (regs_Set_38.post M0 w0 r)) 17 [(3, .int .u8 p3), (4, .pointer (some ⟨b2, 0, none⟩)), (8, .pointer (some ⟨b7, 0, none⟩)), (9, .pointer (some ⟨b12, 0, none⟩))])) 25 [(2, .int .i64 p2)]) := by
          intro w43 h h42
          rw [hJ45] at h
          clear hJ45
          dsimp only at h
          refine RunsI.go 1 [.c 17, .c 18] (by kernel_rfl) ?_
          refine RunsI.region (by kernel_rfl) ?_
          refine RegI.op (by kernel_rfl) (OpE.makeMap 25 (ekI .i64) (fun (v : Value) => v) h42 (by kernel_rfl) (by kernel_rfl) ?_)
          intro w47 b48 h49 hb50 hn51
          refine RegI.op (by kernel_rfl) (OpE.mapSet (ek := (ekI .i64)) (ev := (fun (v : Value) => v)) 3 85 3 82 0 (.func (.func 63) #[] #[]) h49 (by kernel_rfl) rfl (by kernel_rfl) rfl rfl (by kernel_rfl) (KeyOk.int .i64 (by kernel_rfl)) [(0, .func (.func 63) #[] #[])] (by kernel_rfl) ?_)
          intro w52 h53 hk54
          refine RegI.op (by kernel_rfl) (OpE.mapSet (ek := (ekI .i64)) (ev := (fun (v : Value) => v)) 3 85 3 82 1 (.func (.func 64) #[] #[]) h53 (by kernel_rfl) rfl (by kernel_rfl) rfl rfl (by kernel_rfl) (KeyOk.int .i64 (by kernel_rfl)) [(0, .func (.func 63) #[] #[]), (1, .func (.func 64) #[] #[])] (by kernel_rfl) ?_)
          intro w55 h56 hk57
          refine RegI.op (by kernel_rfl) (OpE.mapSet (ek := (ekI .i64)) (ev := (fun (v : Value) => v)) 3 85 3 82 2 (.func (.func 65) #[] #[]) h56 (by kernel_rfl) rfl (by kernel_rfl) rfl rfl (by kernel_rfl) (KeyOk.int .i64 (by kernel_rfl)) [(0, .func (.func 63) #[] #[]), (1, .func (.func 64) #[] #[]), (2, .func (.func 65) #[] #[])] (by kernel_rfl) ?_)
          intro w58 h59 hk60
          refine RegI.op (by kernel_rfl) (OpE.mapSet (ek := (ekI .i64)) (ev := (fun (v : Value) => v)) 3 85 3 82 3 (.func (.func 66) #[] #[]) h59 (by kernel_rfl) rfl (by kernel_rfl) rfl rfl (by kernel_rfl) (KeyOk.int .i64 (by kernel_rfl)) [(0, .func (.func 63) #[] #[]), (1, .func (.func 64) #[] #[]), (2, .func (.func 65) #[] #[]), (3, .func (.func 66) #[] #[])] (by kernel_rfl) ?_)
          intro w61 h62 hk63
          refine RegI.pure 2 [0, 26, 27] [(0, .pointer (some ⟨b12, 0, none⟩)), (26, .map (some b48)), (27, .int .i64 (Int.fdiv p2 (2 ^ 1)))] (by kernel_rfl) ?_
          rcases of_cond h with ⟨hc64, h⟩ | ⟨hc64, h⟩
          · skip
            refine RegI.op (by kernel_rfl) (OpE.lookup (ek := (ekI .i64)) (ev := (fun (v : Value) => v)) (zv := .nilFunc) 28 3 85 3 82 (Int.fdiv p2 (2 ^ 1)) (.tuple #[.func (.func 63) #[] #[], .bool true]) true h62 (by kernel_rfl) rfl (by kernel_rfl) rfl (by kernel_rfl) (KeyOk.int .i64 (by kernel_rfl)) (fun _ => by kernel_rfl) (by simp only [findK, hc64, cond_true, cond_false, Option.map_some, Option.map_none, Option.getD_some, Option.getD_none, Option.isSome_some, Option.isSome_none]) ?_)
            refine RegI.pure 5 [0, 9, 10] [(0, .pointer (some ⟨b12, 0, none⟩)), (9, .func (.func 63) #[] #[]), (10, .bool true)] (by kernel_rfl) ?_
            refine RegI.done (by kernel_rfl) ?_
            refine RunsI.go 2 [.c 20, .c 21, .c 26] (by kernel_rfl) ?_
            refine RunsI.region (by kernel_rfl) ?_
            refine RegI.pure 2 [0, 9, 32] [(0, .pointer (some ⟨b12, 0, none⟩)), (9, .func (.func 63) #[] #[]), (32, .bool false)] (by kernel_rfl) ?_
            refine RegI.done (by kernel_rfl) ?_
            refine RunsI.cond false 25 (by kernel_rfl) ?_
            refine RunsI.go 2 [.c 27, .c 28] (by kernel_rfl) ?_
            refine RunsI.region (by kernel_rfl) ?_
            refine RegI.pure 2 [33, 34] [(33, .func (.func 63) #[] #[]), (34, .pointer (some ⟨b12, 0, none⟩))] (by kernel_rfl) ?_
            refine RegI.enter 35 [] [] (by kernel_rfl) (by kernel_rfl) (by kernel_rfl) (by kernel_rfl) F63 63 rfl [.pointer (some ⟨b12, 0, none⟩)] (by kernel_rfl) (by kernel_rfl) ?_
            refine RunsI.go 1 [.c 1, .c 2] (by kernel_rfl) ?_
            refine RunsI.region (by kernel_rfl) ?_
            refine RegI.pure 1 [0] [(0, .pointer (some ⟨b12, 0, none⟩))] (by kernel_rfl) ?_
            refine RegI.done (by kernel_rfl) ?_
            refine RunsI.go 1 [.c 3, .c 4] (by kernel_rfl) ?_
            refine RunsI.region (by kernel_rfl) ?_
            refine RegI.pure 4 [2] [(2, .pointer (some ⟨b12, 1, none⟩))] (by kernel_rfl) ?_
            refine RegI.done (by kernel_rfl) ?_
            refine RunsI.ret (.pointer (some ⟨b12, 1, none⟩)) (by kernel_rfl) (by kernel_rfl) ?_
            refine cont_mk ?_
            refine RegI.pure 1 [6] [(6, .pointer (some ⟨b12, 1, none⟩))] (by kernel_rfl) ?_
            refine RegI.done (by kernel_rfl) ?_
            refine RunsI.ret (.pointer (some ⟨b12, 1, none⟩)) (by kernel_rfl) (by kernel_rfl) ?_
            refine cont_mk ?_
            refine RegI.pure 5 [6, 7] [(6, .pointer (some ⟨b12, 1, none⟩)), (7, .bool ((band .i64 p2 1) == 0))] (by kernel_rfl) ?_
            refine RegI.done (by kernel_rfl) ?_
            refine RunsI.ret (.tuple #[.pointer (some ⟨b12, 1, none⟩), .bool ((band .i64 p2 1) == 0)]) (by kernel_rfl) (by kernel_rfl) ?_
            refine cont_mk ?_
            refine RegI.pure 3 [3, 4, 8, 9, 18, 19] [(3, .int .u8 p3), (4, .pointer (some ⟨b2, 0, none⟩)), (8, .pointer (some ⟨b7, 0, none⟩)), (9, .pointer (some ⟨b12, 0, none⟩)), (18, .pointer (some ⟨b12, 1, none⟩)), (19, .bool ((band .i64 p2 1) == 0))] (by kernel_rfl) ?_
            refine RegI.op (by kernel_rfl) (OpE.box 10 65 [.pointer none] h62 (by kernel_rfl) (by kernel_rfl) ?_)
            intro w236 b237 h238 hb239 hn240
            refine RegI.op (by kernel_rfl) (OpE.storeBox 4 65 b237 0 (.pointer (some ⟨b12, 1, none⟩)) [.pointer (some ⟨b12, 1, none⟩)] h238 (by kernel_rfl) (by kernel_rfl) rfl (by kernel_rfl) (by kernel_rfl) (by kernel_rfl) ?_)
            intro w241 h242 hk243
            refine RegI.pure 1 [3, 4, 8, 9, 10, 11] [(3, .int .u8 p3), (4, .pointer (some ⟨b2, 0, none⟩)), (8, .pointer (some ⟨b7, 0, none⟩)), (9, .pointer (some ⟨b12, 0, none⟩)), (10, .pointer (some ⟨b237, 0, none⟩)), (11, .bool ((band .i64 p2 1) == 0))] (by kernel_rfl) ?_
            refine RegI.done (by kernel_rfl) ?_
            refine RunsI.go 2 [.c 8, .c 9, .c 14] (by kernel_rfl) ?_
            refine RunsI.region (by kernel_rfl) ?_
            refine RegI.op (by kernel_rfl) (OpE.loadBox 20 4 65 b237 0 (.pointer (some ⟨b12, 1, none⟩)) h242 (by kernel_rfl) (by kernel_rfl) rfl (by kernel_rfl) ?_)
            refine RegI.pure 1 [3, 4, 8, 9, 10, 11, 21] [(3, .int .u8 p3), (4, .pointer (some ⟨b2, 0, none⟩)), (8, .pointer (some ⟨b7, 0, none⟩)), (9, .pointer (some ⟨b12, 0, none⟩)), (10, .pointer (some ⟨b237, 0, none⟩)), (11, .bool ((band .i64 p2 1) == 0)), (21, .bool false)] (by kernel_rfl) ?_
            refine RegI.done (by kernel_rfl) ?_
            refine RunsI.cond false 13 (by kernel_rfl) ?_
            refine RunsI.go 2 [.c 15, .c 16] (by kernel_rfl) ?_
            refine RunsI.region (by kernel_rfl) ?_
            refine RegI.pure 2 [3, 8, 9, 10, 11, 12] [(3, .int .u8 p3), (8, .pointer (some ⟨b7, 0, none⟩)), (9, .pointer (some ⟨b12, 0, none⟩)), (10, .pointer (some ⟨b237, 0, none⟩)), (11, .bool ((band .i64 p2 1) == 0)), (12, .func (.func 55) #[] #[.pointer (some ⟨b237, 0, none⟩)])] (by kernel_rfl) ?_
            refine RegI.done (by kernel_rfl) ?_
            refine RunsI.go 2 [.c 18, .c 19, .c 22] (by kernel_rfl) ?_
            refine RunsI.region (by kernel_rfl) ?_
            refine RegI.pure 1 [3, 8, 9, 10, 12, 24] [(3, .int .u8 p3), (8, .pointer (some ⟨b7, 0, none⟩)), (9, .pointer (some ⟨b12, 0, none⟩)), (10, .pointer (some ⟨b237, 0, none⟩)), (12, .func (.func 55) #[] #[.pointer (some ⟨b237, 0, none⟩)]), (24, .bool ((band .i64 p2 1) == 0))] (by kernel_rfl) ?_
            refine RegI.done (by kernel_rfl) ?_
            rcases of_cond h with ⟨hc244, h⟩ | ⟨hc244, h⟩
            · skip
              refine RunsI.fix 24 true hc244 (by kernel_rfl) (by kernel_rfl) ?_
              refine RunsI.cond true 20 (by kernel_rfl) ?_
              refine RunsI.region (by kernel_rfl) ?_
              refine RegI.pure 2 [8, 9, 10, 25, 26] [(8, .pointer (some ⟨b7, 0, none⟩)), (9, .pointer (some ⟨b12, 0, none⟩)), (10, .pointer (some ⟨b237, 0, none⟩)), (25, .func (.func 55) #[] #[.pointer (some ⟨b237, 0, none⟩)]), (26, .int .u8 p3)] (by kernel_rfl) ?_
              refine RegI.op (by kernel_rfl) (OpE.loadBox 27 4 65 b237 0 (.pointer (some ⟨b12, 1, none⟩)) h242 (by kernel_rfl) (by kernel_rfl) rfl (by kernel_rfl) ?_)
              refine RegI.pure 1 [8, 9, 25, 26, 28] [(8, .pointer (some ⟨b7, 0, none⟩)), (9, .pointer (some ⟨b12, 0, none⟩)), (25, .func (.func 55) #[] #[.pointer (some ⟨b237, 0, none⟩)]), (26, .int .u8 p3), (28, .pointer (some ⟨b12, 1, none⟩))] (by kernel_rfl) ?_
              refine RegI.op (by kernel_rfl) (OpE.loadBox 29 0 22 b12 1 (.int .u16 p0_1) h242 (by kernel_rfl) (by kernel_rfl) rfl (by kernel_rfl) ?_)
              obtain ⟨t249, hg248, h⟩ := of_bind h
              refine RegI.op (by kernel_rfl) (OpE.call 30 (by kernel_rfl) 46 #[.int .u16 p0_1] (by kernel_rfl) ((bits_Lo_46_ok K _ w241  p0_1 h242.old' hg248).mono ?_))
              rintro _ w245 ⟨rfl, hb246⟩
              refine ⟨_, rfl, ?_⟩
              have h247 := h242.call hb246
              refine RegI.enter 31 [8, 9] [(8, .pointer (some ⟨b7, 0, none⟩)), (9, .pointer (some ⟨b12, 0, none⟩))] (by kernel_rfl) (by kernel_rfl) (by kernel_rfl) (by kernel_rfl) F55 55 rfl [.int .u8 p3, .int .u8 t249, .pointer (some ⟨b237, 0, none⟩)] (by kernel_rfl) (by kernel_rfl) ?_
              refine RunsI.any 6 (by kernel_rfl) (by kernel_rfl) (by kernel_rfl) (Kp ([] : List Nat) (World.drew w245)) ?_
              have h251 := h247.drew
              generalize World.drew w245 = w250 at h251 ⊢
              have hS252 := Kp.refl ([] : List Nat) w250
              refine AnyE.loadBox 0 5 4 65 b237 0 (.pointer (some ⟨b12, 1, none⟩)) [] h251 rfl (by kernel_rfl) hS252 rfl rfl (by kernel_rfl) (by kernel_rfl) ?_
              refine AnyE.pure 1 6 (.int .u8 p3) (by kernel_rfl) hS252 (fun _ => by kernel_rfl) ?_
              refine AnyE.pure 2 7 (.int .u8 t249) (by kernel_rfl) hS252 (fun _ => by kernel_rfl) ?_
              obtain ⟨t255, hg254, h⟩ := of_bind h
              refine AnyE.call 3 8 (.int .u16 t255) 56 #[.int .u8 p3, .int .u8 t249] (by kernel_rfl) hS252 (fun _ => by kernel_rfl) (fun w hk => bits_Word_56_ok K (fun _ => False) w p3 t249 (fun _ hf => hf.elim) hg254) ?_
              refine AnyE.pure 4 9 (.pointer (some ⟨b12, 1, none⟩)) (by kernel_rfl) hS252 (fun _ => by kernel_rfl) ?_
              refine AnyE.last 5 (by kernel_rfl) (by kernel_rfl) (fun w256 hu257 => ?_)
              have h258 := h251.call hu257
              have hS259 := hS252.up hu257
              refine OpE.storeBox 0 22 b12 1 (.int .u16 t255) [.int .u16 p0_0, .int .u16 t255, .int .u16 p0_2, .int .u16 p0_3, .int .u16 p0_4, .int .u16 p0_5, .int .u16 p0_6, .int .u16 p0_7, .int .u16 p0_8, .int .u16 p0_9, .int .u16 p0_10, .int .u16 p0_11, .int .u16 p0_12, .int .u8 p0_13, .int .u8 p0_14, .bool p0_15, .bool p0_16, .bool p0_17, .bool p0_18, .int .i64 p0_19] h258 (by kernel_rfl) (by kernel_rfl) rfl (by kernel_rfl) (by kernel_rfl) (by kernel_rfl) ?_
              intro w260 h261 hk262
              refine AnyE.done (by kernel_rfl) (fun w264 hu265 => ?_)
              have h266 := h261.call hu265
              refine RunsI.only [] [] (by kernel_rfl) (by kernel_rfl) ?_
              refine RunsI.ret (.tuple #[]) (by kernel_rfl) (by kernel_rfl) ?_
              refine cont_mk ?_
              refine RegI.done (by kernel_rfl) ?_
              refine RunsI.go 1 [.c 23, .c 24] (by kernel_rfl) ?_
              refine RunsI.region (by kernel_rfl) ?_
              refine RegI.op (by kernel_rfl) (OpE.loadBox 39 0 64 b12 0 (.agg #[.int .u16 p0_0, .int .u16 t255, .int .u16 p0_2, .int .u16 p0_3, .int .u16 p0_4, .int .u16 p0_5, .int .u16 p0_6, .int .u16 p0_7, .int .u16 p0_8, .int .u16 p0_9, .int .u16 p0_10, .int .u16 p0_11, .int .u16 p0_12, .int .u8 p0_13, .int .u8 p0_14, .bool p0_15, .bool p0_16, .bool p0_17, .bool p0_18, .int .i64 p0_19]) h266 (by kernel_rfl) (by kernel_rfl) rfl (by kernel_rfl) ?_)
              refine RegI.op (by kernel_rfl) (OpE.storeBox 2 46 b7 0 (.agg #[.int .u16 p0_0, .int .u16 t255, .int .u16 p0_2, .int .u16 p0_3, .int .u16 p0_4, .int .u16 p0_5, .int .u16 p0_6, .int .u16 p0_7, .int .u16 p0_8, .int .u16 p0_9, .int .u16 p0_10, .int .u16 p0_11, .int .u16 p0_12, .int .u8 p0_13, .int .u8 p0_14, .bool p0_15, .bool p0_16, .bool p0_17, .bool p0_18, .int .i64 p0_19]) [.int .u16 p0_0, .int .u16 t255, .int .u16 p0_2, .int .u16 p0_3, .int .u16 p0_4, .int .u16 p0_5, .int .u16 p0_6, .int .u16 p0_7, .int .u16 p0_8, .int .u16 p0_9, .int .u16 p0_10, .int .u16 p0_11, .int .u16 p0_12, .int .u8 p0_13, .int .u8 p0_14, .bool p0_15, .bool p0_16, .bool p0_17, .bool p0_18, .int .i64 p0_19] h266 (by kernel_rfl) (by kernel_rfl) rfl (by kernel_rfl) (by kernel_rfl) (by kernel_rfl) ?_)
              intro w289 h290 hk291
              refine RegI.done (by kernel_rfl) ?_
              refine RunsI.toRet (by kernel_rfl) ?_
              refine RetI.valW [.cell 8 46] [.agg #[.int .u16 p0_0, .int .u16 t255, .int .u16 p0_2, .int .u16 p0_3, .int .u16 p0_4, .int .u16 p0_5, .int .u16 p0_6, .int .u16 p0_7, .int .u16 p0_8, .int .u16 p0_9, .int .u16 p0_10, .int .u16 p0_11, .int .u16 p0_12, .int .u8 p0_13, .int .u8 p0_14, .bool p0_15, .bool p0_16, .bool p0_17, .bool p0_18, .int .i64 p0_19]] (.agg #[.int .u16 p0_0, .int .u16 t255, .int .u16 p0_2, .int .u16 p0_3, .int .u16 p0_4, .int .u16 p0_5, .int .u16 p0_6, .int .u16 p0_7, .int .u16 p0_8, .int .u16 p0_9, .int .u16 p0_10, .int .u16 p0_11, .int .u16 p0_12, .int .u8 p0_13, .int .u8 p0_14, .bool p0_15, .bool p0_16, .bool p0_17, .bool p0_18, .int .i64 p0_19]) (by kernel_rfl) (ResAt.box 2 46 b7 0 h290 (by kernel_rfl) (by kernel_rfl) rfl (by kernel_rfl) rfl) (by kernel_rfl) ?_
              obtain rfl := Option.some.inj h
              exact ⟨rfl, h290.below⟩
            · skip
              refine RunsI.fix 24 false hc244 (by kernel_rfl) (by kernel_rfl) ?_
              refine RunsI.cond false 21 (by kernel_rfl) ?_
              refine RunsI.region (by kernel_rfl) ?_
              refine RegI.pure 1 [3, 8, 9, 10, 32] [(3, .int .u8 p3), (8, .pointer (some ⟨b7, 0, none⟩)), (9, .pointer (some ⟨b12, 0, none⟩)), (10, .pointer (some ⟨b237, 0, none⟩)), (32, .func (.func 55) #[] #[.pointer (some ⟨b237, 0, none⟩)])] (by kernel_rfl) ?_
              refine RegI.op (by kernel_rfl) (OpE.loadBox 33 4 65 b237 0 (.pointer (some ⟨b12, 1, none⟩)) h242 (by kernel_rfl) (by kernel_rfl) rfl (by kernel_rfl) ?_)
              refine RegI.pure 1 [3, 8, 9, 32, 34] [(3, .int .u8 p3), (8, .pointer (some ⟨b7, 0, none⟩)), (9, .pointer (some ⟨b12, 0, none⟩)), (32, .func (.func 55) #[] #[.pointer (some ⟨b237, 0, none⟩)]), (34, .pointer (some ⟨b12, 1, none⟩))] (by kernel_rfl) ?_
              refine RegI.op (by kernel_rfl) (OpE.loadBox 35 0 22 b12 1 (.int .u16 p0_1) h242 (by kernel_rfl) (by kernel_rfl) rfl (by kernel_rfl) ?_)
              obtain ⟨t271, hg270, h⟩ := of_bind h
              refine RegI.op (by kernel_rfl) (OpE.call 36 (by kernel_rfl) 45 #[.int .u16 p0_1] (by kernel_rfl) ((bits_Hi_45_ok K _ w241  p0_1 h242.old' hg270).mono ?_))
              rintro _ w267 ⟨rfl, hb268⟩
              refine ⟨_, rfl, ?_⟩
              have h269 := h242.call hb268
              refine RegI.pure 1 [8, 9, 32, 36, 37] [(8, .pointer (some ⟨b7, 0, none⟩)), (9, .pointer (some ⟨b12, 0, none⟩)), (32, .func (.func 55) #[] #[.pointer (some ⟨b237, 0, none⟩)]), (36, .int .u8 t271), (37, .int .u8 p3)] (by kernel_rfl) ?_
              refine RegI.enter 38 [8, 9] [(8, .pointer (some ⟨b7, 0, none⟩)), (9, .pointer (some ⟨b12, 0, none⟩))] (by kernel_rfl) (by kernel_rfl) (by kernel_rfl) (by kernel_rfl) F55 55 rfl [.int .u8 t271, .int .u8 p3, .pointer (some ⟨b237, 0, none⟩)] (by kernel_rfl) (by kernel_rfl) ?_
              refine RunsI.any 6 (by kernel_rfl) (by kernel_rfl) (by kernel_rfl) (Kp ([] : List Nat) (World.drew w267)) ?_
              have h273 := h269.drew
              generalize World.drew w267 = w272 at h273 ⊢
              have hS274 := Kp.refl ([] : List Nat) w272
              refine AnyE.loadBox 0 5 4 65 b237 0 (.pointer (some ⟨b12, 1, none⟩)) [] h273 rfl (by kernel_rfl) hS274 rfl rfl (by kernel_rfl) (by kernel_rfl) ?_
              refine AnyE.pure 1 6 (.int .u8 t271) (by kernel_rfl) hS274 (fun _ => by kernel_rfl) ?_
              refine AnyE.pure 2 7 (.int .u8 p3) (by kernel_rfl) hS274 (fun _ => by kernel_rfl) ?_
              obtain ⟨t277, hg276, h⟩ := of_bind h
              refine AnyE.call 3 8 (.int .u16 t277) 56 #[.int .u8 t271, .int .u8 p3] (by kernel_rfl) hS274 (fun _ => by kernel_rfl) (fun w hk => bits_Word_56_ok K (fun _ => False) w t271 p3 (fun _ hf => hf.elim) hg276) ?_
              refine AnyE.pure 4 9 (.pointer (some ⟨b12, 1, none⟩)) (by kernel_rfl) hS274 (fun _ => by kernel_rfl) ?_
              refine AnyE.last 5 (by kernel_rfl) (by kernel_rfl) (fun w278 hu279 => ?_)
              have h280 := h273.call hu279
              have hS281 := hS274.up hu279
              refine OpE.storeBox 0 22 b12 1 (.int .u16 t277) [.int .u16 p0_0, .int .u16 t277, .int .u16 p0_2, .int .u16 p0_3, .int .u16 p0_4, .int .u16 p0_5, .int .u16 p0_6, .int .u16 p0_7, .int .u16 p0_8, .int .u16 p0_9, .int .u16 p0_10, .int .u16 p0_11, .int .u16 p0_12, .int .u8 p0_13, .int .u8 p0_14, .bool p0_15, .bool p0_16, .bool p0_17, .bool p0_18, .int .i64 p0_19] h280 (by kernel_rfl) (by kernel_rfl) rfl (by kernel_rfl) (by kernel_rfl) (by kernel_rfl) ?_
              intro w282 h283 hk284
              refine AnyE.done (by kernel_rfl) (fun w286 hu287 => ?_)
              have h288 := h283.call hu287
              refine RunsI.only [] [] (by kernel_rfl) (by kernel_rfl) ?_
              refine RunsI.ret (.tuple #[]) (by kernel_rfl) (by kernel_rfl) ?_
              refine cont_mk ?_
              refine RegI.done (by kernel_rfl) ?_
              refine RunsI.go 1 [.c 23, .c 24] (by kernel_rfl) ?_
              refine RunsI.region (by kernel_rfl) ?_
              refine RegI.op (by kernel_rfl) (OpE.loadBox 39 0 64 b12 0 (.agg #[.int .u16 p0_0, .int .u16 t277, .int .u16 p0_2, .int .u16 p0_3, .int .u16 p0_4, .int .u16 p0_5, .int .u16 p0_6, .int .u16 p0_7, .int .u16 p0_8, .int .u16 p0_9, .int .u16 p0_10, .int .u16 p0_11, .int .u16 p0_12, .int .u8 p0_13, .int .u8 p0_14, .bool p0_15, .bool p0_16, .bool p0_17, .bool p0_18, .int .i64 p0_19]) h288 (by kernel_rfl) (by kernel_rfl) rfl (by kernel_rfl) ?_)
              refine RegI.op (by kernel_rfl) (OpE.storeBox 2 46 b7 0 (.agg #[.int .u16 p0_0, .int .u16 t277, .int .u16 p0_2, .int .u16 p0_3, .int .u16 p0_4, .int .u16 p0_5, .int .u16 p0_6, .int .u16 p0_7, .int .u16 p0_8, .int .u16 p0_9, .int .u16 p0_10, .int .u16 p0_11, .int .u16 p0_12, .int .u8 p0_13, .int .u8 p0_14, .bool p0_15, .bool p0_16, .bool p0_17, .bool p0_18, .int .i64 p0_19]) [.int .u16 p0_0, .int .u16 t277, .int .u16 p0_2, .int .u16 p0_3, .int .u16 p0_4, .int .u16 p0_5, .int .u16 p0_6, .int .u16 p0_7, .int .u16 p0_8, .int .u16 p0_9, .int .u16 p0_10, .int .u16 p0_11, .int .u16 p0_12, .int .u8 p0_13, .int .u8 p0_14, .bool p0_15, .bool p0_16, .bool p0_17, .bool p0_18, .int .i64 p0_19] h288 (by kernel_rfl) (by kernel_rfl) rfl (by kernel_rfl) (by kernel_rfl) (by kernel_rfl) ?_)
              intro w292 h293 hk294
              refine RegI.done (by kernel_rfl) ?_
              refine RunsI.toRet (by kernel_rfl) ?_
              refine RetI.valW [.cell 8 46] [.agg #[.int .u16 p0_0, .int .u16 t277, .int .u16 p0_2, .int .u16 p0_3, .int .u16 p0_4, .int .u16 p0_5, .int .u16 p0_6, .int .u16 p0_7, .int .u16 p0_8, .int .u16 p0_9, .int .u16 p0_10, .int .u16 p0_11, .int .u16 p0_12, .int .u8 p0_13, .int .u8 p0_14, .bool p0_15, .bool p0_16, .bool p0_17, .bool p0_18, .int .i64 p0_19]] (.agg #[.int .u16 p0_0, .int .u16 t277, .int .u16 p0_2, .int .u16 p0_3, .int .u16 p0_4, .int .u16 p0_5, .int .u16 p0_6, .int .u16 p0_7, .int .u16 p0_8, .int .u16 p0_9, .int .u16 p0_10, .int .u16 p0_11, .int .u16 p0_12, .int .u8 p0_13, .int .u8 p0_14, .bool p0_15, .bool p0_16, .bool p0_17, .bool p0_18, .int .i64 p0_19]) (by kernel_rfl) (ResAt.box 2 46 b7 0 h293 (by kernel_rfl) (by kernel_rfl) rfl (by kernel_rfl) rfl) (by kernel_rfl) ?_
              obtain rfl := Option.some.inj h
              exact ⟨rfl, h293.below⟩
          · skip
            rcases of_cond h with ⟨hc65, h⟩ | ⟨hc65, h⟩
            · skip
              refine RegI.op (by kernel_rfl) (OpE.lookup (ek := (ekI .i64)) (ev := (fun (v : Value) => v)) (zv := .nilFunc) 28 3 85 3 82 (Int.fdiv p2 (2 ^ 1)) (.tuple #[.func (.func 64) #[] #[], .bool true]) true h62 (by kernel_rfl) rfl (by kernel_rfl) rfl (by kernel_rfl) (KeyOk.int .i64 (by kernel_rfl)) (fun _ => by kernel_rfl) (by simp only [findK, hc64, hc65, cond_true, cond_false, Option.map_some, Option.map_none, Option.getD_some, Option.getD_none, Option.isSome_some, Option.isSome_none]) ?_)
              refine RegI.pure 5 [0, 9, 10] [(0, .pointer (some ⟨b12, 0, none⟩)), (9, .func (.func 64) #[] #[]), (10, .bool true)] (by kernel_rfl) ?_
              refine RegI.done (by kernel_rfl) ?_
              refine RunsI.go 2 [.c 20, .c 21, .c 26] (by kernel_rfl) ?_
              refine RunsI.region (by kernel_rfl) ?_
              refine RegI.pure 2 [0, 9, 32] [(0, .pointer (some ⟨b12, 0, none⟩)), (9, .func (.func 64) #[] #[]), (32, .bool false)] (by kernel_rfl) ?_
              refine RegI.done (by kernel_rfl) ?_
              refine RunsI.cond false 25 (by kernel_rfl) ?_
              refine RunsI.go 2 [.c 27, .c 28] (by kernel_rfl) ?_
              refine RunsI.region (by kernel_rfl) ?_
              refine RegI.pure 2 [33, 34] [(33, .func (.func 64) #[] #[]), (34, .pointer (some ⟨b12, 0, none⟩))] (by kernel_rfl) ?_
              refine RegI.enter 35 [] [] (by kernel_rfl) (by kernel_rfl) (by kernel_rfl) (by kernel_rfl) F64 64 rfl [.pointer (some ⟨b12, 0, none⟩)] (by kernel_rfl) (by kernel_rfl) ?_
              refine RunsI.go 1 [.c 1, .c 2] (by kernel_rfl) ?_
              refine RunsI.region (by kernel_rfl) ?_
              refine RegI.pure 1 [0] [(0, .pointer (some ⟨b12, 0, none⟩))] (by kernel_rfl) ?_
              refine RegI.done (by kernel_rfl) ?_
              refine RunsI.go 1 [.c 3, .c 4] (by kernel_rfl) ?_
              refine RunsI.region (by kernel_rfl) ?_
              refine RegI.pure 4 [2] [(2, .pointer (some ⟨b12, 2, none⟩))] (by kernel_rfl) ?_
              refine RegI.done (by kernel_rfl) ?_
              refine RunsI.ret (.pointer (some ⟨b12, 2, none⟩)) (by kernel_rfl) (by kernel_rfl) ?_
              refine cont_mk ?_
              refine RegI.pure 1 [6] [(6, .pointer (some ⟨b12, 2, none⟩))] (by kernel_rfl) ?_
              refine RegI.done (by kernel_rfl) ?_
              refine RunsI.ret (.pointer (some ⟨b12, 2, none⟩)) (by kernel_rfl) (by kernel_rfl) ?_
              refine cont_mk ?_
              refine RegI.pure 5 [6, 7] [(6, .pointer (some ⟨b12, 2, none⟩)), (7, .bool ((band .i64 p2 1) == 0))] (by kernel_rfl) ?_
              refine RegI.done (by kernel_rfl) ?_
              refine RunsI.ret (.tuple #[.pointer (some ⟨b12, 2, none⟩), .bool ((band .i64 p2 1) == 0)]) (by kernel_rfl) (by kernel_rfl) ?_
              refine cont_mk ?_
              refine RegI.pure 3 [3, 4, 8, 9, 18, 19] [(3, .int .u8 p3), (4, .pointer (some ⟨b2, 0, none⟩)), (8, .pointer (some ⟨b7, 0, none⟩)), (9, .pointer (some ⟨b12, 0, none⟩)), (18, .pointer (some ⟨b12, 2, none⟩)), (19, .bool ((band .i64 p2 1) == 0))] (by kernel_rfl) ?_
              refine RegI.op (by kernel_rfl) (OpE.box 10 65 [.pointer none] h62 (by kernel_rfl) (by kernel_rfl) ?_)
              intro w295 b296 h297 hb298 hn299
              refine RegI.op (by kernel_rfl) (OpE.storeBox 4 65 b296 0 (.pointer (some ⟨b12, 2, none⟩)) [.pointer (some ⟨b12, 2, none⟩)] h297 (by kernel_rfl) (by kernel_rfl) rfl (by kernel_rfl) (by kernel_rfl) (by kernel_rfl) ?_)
              intro w300 h301 hk302
              refine RegI.pure 1 [3, 4, 8, 9, 10, 11] [(3, .int .u8 p3), (4, .pointer (some ⟨b2, 0, none⟩)), (8, .pointer (some ⟨b7, 0, none⟩)), (9, .pointer (some ⟨b12, 0, none⟩)), (10, .pointer (some ⟨b296, 0, none⟩)), (11, .bool ((band .i64 p2 1) == 0))] (by kernel_rfl) ?_
              refine RegI.done (by kernel_rfl) ?_
              refine RunsI.go 2 [.c 8, .c 9, .c 14] (by kernel_rfl) ?_
              refine RunsI.region (by kernel_rfl) ?_
              refine RegI.op (by kernel_rfl) (OpE.loadBox 20 4 65 b296 0 (.pointer (some ⟨b12, 2, none⟩)) h301 (by kernel_rfl) (by kernel_rfl) rfl (by kernel_rfl) ?_)
              refine RegI.pure 1 [3, 4, 8, 9, 10, 11, 21] [(3, .int .u8 p3), (4, .pointer (some ⟨b2, 0, none⟩)), (8, .pointer (some ⟨b7, 0, none⟩)), (9, .pointer (some ⟨b12, 0, none⟩)), (10, .pointer (some ⟨b296, 0, none⟩)), (11, .bool ((band .i64 p2 1) == 0)), (21, .bool false)] (by kernel_rfl) ?_
              refine RegI.done (by kernel_rfl) ?_
              refine RunsI.cond false 13 (by kernel_rfl) ?_
              refine RunsI.go 2 [.c 15, .c 16] (by kernel_rfl) ?_
              refine RunsI.region (by kernel_rfl) ?_
              refine RegI.pure 2 [3, 8, 9, 10, 11, 12] [(3, .int .u8 p3), (8, .pointer (some ⟨b7, 0, none⟩)), (9, .pointer (some ⟨b12, 0, none⟩)), (10, .pointer (some ⟨b296, 0, none⟩)), (11, .bool ((band .i64 p2 1) == 0)), (12, .func (.func 55) #[] #[.pointer (some ⟨b296, 0, none⟩)])] (by kernel_rfl) ?_
              refine RegI.done (by kernel_rfl) ?_
              refine RunsI.go 2 [.c 18, .c 19, .c 22] (by kernel_rfl) ?_
              refine RunsI.region (by kernel_rfl) ?_
              refine RegI.pure 1 [3, 8, 9, 10, 12, 24] [(3, .int .u8 p3), (8, .pointer (some ⟨b7, 0, none⟩)), (9, .pointer (some ⟨b12, 0, none⟩)), (10, .pointer (some ⟨b296, 0, none⟩)), (12, .func (.func 55) #[] #[.pointer (some ⟨b296, 0, none⟩)]), (24, .bool ((band .i64 p2 1) == 0))] (by kernel_rfl) ?_
              refine RegI.done (by kernel_rfl) ?_
              rcases of_cond h with ⟨hc303, h⟩ | ⟨hc303, h⟩
              · skip
                refine RunsI.fix 24 true hc303 (by kernel_rfl) (by kernel_rfl) ?_
                refine RunsI.cond true 20 (by kernel_rfl) ?_
                refine RunsI.region (by kernel_rfl) ?_
                refine RegI.pure 2 [8, 9, 10, 25, 26] [(8, .pointer (some ⟨b7, 0, none⟩)), (9, .pointer (some ⟨b12, 0, none⟩)), (10, .pointer (some ⟨b296, 0, none⟩)), (25, .func (.func 55) #[] #[.pointer (some ⟨b296, 0, none⟩)]), (26, .int .u8 p3)] (by kernel_rfl) ?_
                refine RegI.op (by kernel_rfl) (OpE.loadBox 27 4 65 b296 0 (.pointer (some ⟨b12, 2, none⟩)) h301 (by kernel_rfl) (by kernel_rfl) rfl (by kernel_rfl) ?_)
                refine RegI.pure 1 [8, 9, 25, 26, 28] [(8, .pointer (some ⟨b7, 0, none⟩)), (9, .pointer (some ⟨b12, 0, none⟩)), (25, .func (.func 55) #[] #[.pointer (some ⟨b296, 0, none⟩)]), (26, .int .u8 p3), (28, .pointer (some ⟨b12, 2, none⟩))] (by kernel_rfl) ?_
                refine RegI.op (by kernel_rfl) (OpE.loadBox 29 0 22 b12 2 (.int .u16 p0_2) h301 (by kernel_rfl) (by kernel_rfl) rfl (by kernel_rfl) ?_)
                obtain ⟨t308, hg307, h⟩ := of_bind h
                refine RegI.op (by kernel_rfl) (OpE.call 30 (by kernel_rfl) 46 #[.int .u16 p0_2] (by kernel_rfl) ((bits_Lo_46_ok K _ w300  p0_2 h301.old' hg307).mono ?_))
                rintro _ w304 ⟨rfl, hb305⟩
                refine ⟨_, rfl, ?_⟩
                have h306 := h301.call hb305
                refine RegI.enter 31 [8, 9] [(8, .pointer (some ⟨b7, 0, none⟩)), (9, .pointer (some ⟨b12, 0, none⟩))] (by kernel_rfl) (by kernel_rfl) (by kernel_rfl) (by kernel_rfl) F55 55 rfl [.int .u8 p3, .int .u8 t308, .pointer (some ⟨b296, 0, none⟩)] (by kernel_rfl) (by kernel_rfl) ?_
                refine RunsI.any 6 (by kernel_rfl) (by kernel_rfl) (by kernel_rfl) (Kp ([] : List Nat) (World.drew w304)) ?_
                have h310 := h306.drew
                generalize World.drew w304 = w309 at h310 ⊢
                have hS311 := Kp.refl ([] : List Nat) w309
                refine AnyE.loadBox 0 5 4 65 b296 0 (.pointer (some ⟨b12, 2, none⟩)) [] h310 rfl (by kernel_rfl) hS311 rfl rfl (by kernel_rfl) (by kernel_rfl) ?_
                refine AnyE.pure 1 6 (.int .u8 p3) (by kernel_rfl) hS311 (fun _ => by kernel_rfl) ?_
                refine AnyE.pure 2 7 (.int .u8 t308) (by kernel_rfl) hS311 (fun _ => by kernel_rfl) ?_
                obtain ⟨t314, hg313, h⟩ := of_bind h
                refine AnyE.call 3 8 (.int .u16 t314) 56 #[.int .u8 p3, .int .u8 t308] (by kernel_rfl) hS311 (fun _ => by kernel_rfl) (fun w hk => bits_Word_56_ok K (fun _ => False) w p3 t308 (fun _ hf => hf.elim) hg313) ?_
                refine AnyE.pure 4 9 (.pointer (some ⟨b12, 2, none⟩)) (by kernel_rfl) hS311 (fun _ => by kernel_rfl) ?_
                refine AnyE.last 5 (by kernel_rfl) (by kernel_rfl) (fun w315 hu316 => ?_)
                have h317 := h310.call hu316
                have hS318 := hS311.up hu316
                refine OpE.storeBox 0 22 b12 2 (.int .u16 t314) [.int .u16 p0_0, .int .u16 p0_1, .int .u16 t314, .int .u16 p0_3, .int .u16 p0_4, .int .u16 p0_5, .int .u16 p0_6, .int .u16 p0_7, .int .u16 p0_8, .int .u16 p0_9, .int .u16 p0_10, .int .u16 p0_11, .int .u16 p0_12, .int .u8 p0_13, .int .u8 p0_14, .bool p0_15, .bool p0_16, .bool p0_17, .bool p0_18, .int .i64 p0_19] h317 (by kernel_rfl) (by kernel_rfl) rfl (by kernel_rfl) (by kernel_rfl) (by kernel_rfl) ?_
                intro w319 h320 hk321
                refine AnyE.done (by kernel_rfl) (fun w323 hu324 => ?_)
                have h325 := h320.call hu324
                refine RunsI.only [] [] (by kernel_rfl) (by kernel_rfl) ?_
                refine RunsI.ret (.tuple #[]) (by kernel_rfl) (by kernel_rfl) ?_
                refine cont_mk ?_
                refine RegI.done (by kernel_rfl) ?_
                refine RunsI.go 1 [.c 23, .c 24] (by kernel_rfl) ?_
                refine RunsI.region (by kernel_rfl) ?_
                refine RegI.op (by kernel_rfl) (OpE.loadBox 39 0 64 b12 0 (.agg #[.int .u16 p0_0, .int .u16 p0_1, .int .u16 t314, .int .u16 p0_3, .int .u16 p0_4, .int .u16 p0_5, .int .u16 p0_6, .int .u16 p0_7, .int .u16 p0_8, .int .u16 p0_9, .int .u16 p0_10, .int .u16 p0_11, .int .u16 p0_12, .int .u8 p0_13, .int .u8 p0_14, .bool p0_15, .bool p0_16, .bool p0_17, .bool p0_18, .int .i64 p0_19]) h325 (by kernel_rfl) (by kernel_rfl) rfl (by kernel_rfl) ?_)
                refine RegI.op (by kernel_rfl) (OpE.storeBox 2 46 b7 0 (.agg #[.int .u16 p0_0, .int .u16 p0_1, .int .u16 t314, .int .u16 p0_3, .int .u16 p0_4, .int .u16 p0_5, .int .u16 p0_6, .int .u16 p0_7, .int .u16 p0_8, .int .u16 p0_9, .int .u16 p0_10, .int .u16 p0_11, .int .u16 p0_12, .int .u8 p0_13, .int .u8 p0_14, .bool p0_15, .bool p0_16, .bool p0_17, .bool p0_18, .int .i64 p0_19]) [.int .u16 p0_0, .int .u16 p0_1, .int .u16 t314, .int .u16 p0_3, .int .u16 p0_4, .int .u16 p0_5, .int .u16 p0_6, .int .u16 p0_7, .int .u16 p0_8, .int .u16 p0_9, .int .u16 p0_10, .int .u16 p0_11, .int .u16 p0_12, .int .u8 p0_13, .int .u8 p0_14, .bool p0_15, .bool p0_16, .bool p0_17, .bool p0_18, .int .i64 p0_19] h325 (by kernel_rfl) (by kernel_rfl) rfl (by kernel_rfl) (by kernel_rfl) (by kernel_rfl) ?_)
                intro w348 h349 hk350
                refine RegI.done (by kernel_rfl) ?_
                refine RunsI.toRet (by kernel_rfl) ?_
                refine RetI.valW [.cell 8 46] [.agg #[.int .u16 p0_0, .int .u16 p0_1, .int .u16 t314, .int .u16 p0_3, .int .u16 p0_4, .int .u16 p0_5, .int .u16 p0_6, .int .u16 p0_7, .int .u16 p0_8, .int .u16 p0_9, .int .u16 p0_10, .int .u16 p0_11, .int .u16 p0_12, .int .u8 p0_13, .int .u8 p0_14, .bool p0_15, .bool p0_16, .bool p0_17, .bool p0_18, .int .i64 p0_19]] (.agg #[.int .u16 p0_0, .int .u16 p0_1, .int .u16 t314, .int .u16 p0_3, .int .u16 p0_4, .int .u16 p0_5, .int .u16 p0_6, .int .u16 p0_7, .int .u16 p0_8, .int .u16 p0_9, .int .u16 p0_10, .int .u16 p0_11, .int .u16 p0_12, .int .u8 p0_13, .int .u8 p0_14, .bool p0_15, .bool p0_16, .bool p0_17, .bool p0_18, .int .i64 p0_19]) (by kernel_rfl) (ResAt.box 2 46 b7 0 h349 (by kernel_rfl) (by kernel_rfl) rfl (by kernel_rfl) rfl) (by kernel_rfl) ?_
                obtain rfl := Option.some.inj h
                exact ⟨rfl, h349.below⟩
              · skip
                refine RunsI.fix 24 false hc303 (by kernel_rfl) (by kernel_rfl) ?_
                refine RunsI.cond false 21 (by kernel_rfl) ?_
                refine RunsI.region (by kernel_rfl) ?_
                refine RegI.pure 1 [3, 8, 9, 10, 32] [(3, .int .u8 p3), (8, .pointer (some ⟨b7, 0, none⟩)), (9, .pointer (some ⟨b12, 0, none⟩)), (10, .pointer (some ⟨b296, 0, none⟩)), (32, .func (.func 55) #[] #[.pointer (some ⟨b296, 0, none⟩)])] (by kernel_rfl) ?_
                refine RegI.op (by kernel_rfl) (OpE.loadBox 33 4 65 b296 0 (.pointer (some ⟨b12, 2, none⟩)) h301 (by kernel_rfl) (by kernel_rfl) rfl (by kernel_rfl) ?_)
                refine RegI.pure 1 [3, 8, 9, 32, 34] [(3, .int .u8 p3), (8, .pointer (some ⟨b7, 0, none⟩)), (9, .pointer (some ⟨b12, 0, none⟩)), (32, .func (.func 55) #[] #[.pointer (some ⟨b296, 0, none⟩)]), (34, .pointer (some ⟨b12, 2, none⟩))] (by kernel_rfl) ?_
                refine RegI.op (by kernel_rfl) (OpE.loadBox 35 0 22 b12 2 (.int .u16 p0_2) h301 (by kernel_rfl) (by kernel_rfl) rfl (by kernel_rfl) ?_)
                obtain ⟨t330, hg329, h⟩ := of_bind h
                refine RegI.op (by kernel_rfl) (OpE.call 36 (by kernel_rfl) 45 #[.int .u16 p0_2] (by kernel_rfl) ((bits_Hi_45_ok K _ w300  p0_2 h301.old' hg329).mono ?_))
                rintro _ w326 ⟨rfl, hb327⟩
                refine ⟨_, rfl, ?_⟩
                have h328 := h301.call hb327
                refine RegI.pure 1 [8, 9, 32, 36, 37] [(8, .pointer (some ⟨b7, 0, none⟩)), (9, .pointer (some ⟨b12, 0, none⟩)), (32, .func (.func 55) #[] #[.pointer (some ⟨b296, 0, none⟩)]), (36, .int .u8 t330), (37, .int .u8 p3)] (by kernel_rfl) ?_
                refine RegI.enter 38 [8, 9] [(8, .pointer (some ⟨b7, 0, none⟩)), (9, .pointer (some ⟨b12, 0, none⟩))] (by kernel_rfl) (by kernel_rfl) (by kernel_rfl) (by kernel_rfl) F55 55 rfl [.int .u8 t330, .int .u8 p3, .pointer (some ⟨b296, 0, none⟩)] (by kernel_rfl) (by kernel_rfl) ?_
                refine RunsI.any 6 (by kernel_rfl) (by kernel_rfl) (by kernel_rfl) (Kp ([] : List Nat) (World.drew w326)) ?_
                have h332 := h328.drew
                generalize World.drew w326 = w331 at h332 ⊢
                have hS333 := Kp.refl ([] : List Nat) w331
                refine AnyE.loadBox 0 5 4 65 b296 0 (.pointer (some ⟨b12, 2, none⟩)) [] h332 rfl (by kernel_rfl) hS333 rfl rfl (by kernel_rfl) (by kernel_rfl) ?_
                refine AnyE.pure 1 6 (.int .u8 t330) (by kernel_rfl) hS333 (fun _ => by kernel_rfl) ?_
                refine AnyE.pure 2 7 (.int .u8 p3) (by kernel_rfl) hS333 (fun _ => by kernel_rfl) ?_
                obtain ⟨t336, hg335, h⟩ := of_bind h
                refine AnyE.call 3 8 (.int .u16 t336) 56 #[.int .u8 t330, .int .u8 p3] (by kernel_rfl) hS333 (fun _ => by kernel_rfl) (fun w hk => bits_Word_56_ok K (fun _ => False) w t330 p3 (fun _ hf => hf.elim) hg335) ?_
                refine AnyE.pure 4 9 (.pointer (some ⟨b12, 2, none⟩)) (by kernel_rfl) hS333 (fun _ => by kernel_rfl) ?_
                refine AnyE.last 5 (by kernel_rfl) (by kernel_rfl) (fun w337 hu338 => ?_)
                have h339 := h332.call hu338
                have hS340 := hS333.up hu338
                refine OpE.storeBox 0 22 b12 2 (.int .u16 t336) [.int .u16 p0_0, .int .u16 p0_1, .int .u16 t336, .int .u16 p0_3, .int .u16 p0_4, .int .u16 p0_5, .int .u16 p0_6, .int .u16 p0_7, .int .u16 p0_8, .int .u16 p0_9, .int .u16 p0_10, .int .u16 p0_11, .int .u16 p0_12, .int .u8 p0_13, .int .u8 p0_14, .bool p0_15, .bool p0_16, .bool p0_17, .bool p0_18, .int .i64 p0_19] h339 (by kernel_rfl) (by kernel_rfl) rfl (by kernel_rfl) (by kernel_rfl) (by kernel_rfl) ?_
                intro w341 h342 hk343
                refine AnyE.done (by kernel_rfl) (fun w345 hu346 => ?_)
                have h347 := h342.call hu346
                refine RunsI.only [] [] (by kernel_rfl) (by kernel_rfl) ?_
                refine RunsI.ret (.tuple #[]) (by kernel_rfl) (by kernel_rfl) ?_
                refine cont_mk ?_
                refine RegI.done (by kernel_rfl) ?_
                refine RunsI.go 1 [.c 23, .c 24] (by kernel_rfl) ?_
                refine RunsI.region (by kernel_rfl) ?_
                refine RegI.op (by kernel_rfl) (OpE.loadBox 39 0 64 b12 0 (.agg #[.int .u16 p0_0, .int .u16 p0_1, .int .u16 t336, .int .u16 p0_3, .int .u16 p0_4, .int .u16 p0_5, .int .u16 p0_6, .int .u16 p0_7, .int .u16 p0_8, .int .u16 p0_9, .int .u16 p0_10, .int .u16 p0_11, .int .u16 p0_12, .int .u8 p0_13, .int .u8 p0_14, .bool p0_15, .bool p0_16, .bool p0_17, .bool p0_18, .int .i64 p0_19]) h347 (by kernel_rfl) (by kernel_rfl) rfl (by kernel_rfl) ?_)
                refine RegI.op (by kernel_rfl) (OpE.storeBox 2 46 b7 0 (.agg #[.int .u16 p0_0, .int .u16 p0_1, .int .u16 t336, .int .u16 p0_3, .int .u16 p0_4, .int .u16 p0_5, .int .u16 p0_6, .int .u16 p0_7, .int .u16 p0_8, .int .u16 p0_9, .int .u16 p0_10, .int .u16 p0_11, .int .u16 p0_12, .int .u8 p0_13, .int .u8 p0_14, .bool p0_15, .bool p0_16, .bool p0_17, .bool p0_18, .int .i64 p0_19]) [.int .u16 p0_0, .int .u16 p0_1, .int .u16 t336, .int .u16 p0_3, .int .u16 p0_4, .int .u16 p0_5, .int .u16 p0_6, .int .u16 p0_7, .int .u16 p0_8, .int .u16 p0_9, .int .u16 p0_10, .int .u16 p0_11, .int .u16 p0_12, .int .u8 p0_13, .int .u8 p0_14, .bool p0_15, .bool p0_16, .bool p0_17, .bool p0_18, .int .i64 p0_19] h347 (by kernel_rfl) (by kernel_rfl) rfl (by kernel_rfl) (by kernel_rfl) (by kernel_rfl) ?_)
                intro w351 h352 hk353
                refine RegI.done (by kernel_rfl) ?_
                refine RunsI.toRet (by kernel_rfl) ?_
                refine RetI.valW [.cell 8 46] [.agg #[.int .u16 p0_0, .int .u16 p0_1, .int .u16 t336, .int .u16 p0_3, .int .u16 p0_4, .int .u16 p0_5, .int .u16 p0_6, .int .u16 p0_7, .int .u16 p0_8, .int .u16 p0_9, .int .u16 p0_10, .int .u16 p0_11, .int .u16 p0_12, .int .u8 p0_13, .int .u8 p0_14, .bool p0_15, .bool p0_16, .bool p0_17, .bool p0_18, .int .i64 p0_19]] (.agg #[.int .u16 p0_0, .int .u16 p0_1, .int .u16 t336, .int .u16 p0_3, .int .u16 p0_4, .int .u16 p0_5, .int .u16 p0_6, .int .u16 p0_7, .int .u16 p0_8, .int .u16 p0_9, .int .u16 p0_10, .int .u16 p0_11, .int .u16 p0_12, .int .u8 p0_13, .int .u8 p0_14, .bool p0_15, .bool p0_16, .bool p0_17, .bool p0_18, .int .i64 p0_19]) (by kernel_rfl) (ResAt.box 2 46 b7 0 h352 (by kernel_rfl) (by kernel_rfl) rfl (by kernel_rfl) rfl) (by kernel_rfl) ?_
                obtain rfl := Option.some.inj h
                exact ⟨rfl, h352.below⟩
            · skip
              rcases of_cond h with ⟨hc66, h⟩ | ⟨hc66, h⟩
              · skip
                refine RegI.op (by kernel_rfl) (OpE.lookup (ek := (ekI .i64)) (ev := (fun (v : Value) => v)) (zv := .nilFunc) 28 3 85 3 82 (Int.fdiv p2 (2 ^ 1)) (.tuple #[.func (.func 65) #[] #[], .bool true]) true h62 (by kernel_rfl) rfl (by kernel_rfl) rfl (by kernel_rfl) (KeyOk.int .i64 (by kernel_rfl)) (fun _ => by kernel_rfl) (by simp only [findK, hc64, hc65, hc66, cond_true, cond_false, Option.map_some, Option.map_none, Option.getD_some, Option.getD_none, Option.isSome_some, Option.isSome_none]) ?_)
                refine RegI.pure 5 [0, 9, 10] [(0, .pointer (some ⟨b12, 0, none⟩)), (9, .func (.func 65) #[] #[]), (10, .bool true)] (by kernel_rfl) ?_
                refine RegI.done (by kernel_rfl) ?_
                refine RunsI.go 2 [.c 20, .c 21, .c 26] (by kernel_rfl) ?_
                refine RunsI.region (by kernel_rfl) ?_
                refine RegI.pure 2 [0, 9, 32] [(0, .pointer (some ⟨b12, 0, none⟩)), (9, .func (.func 65) #[] #[]), (32, .bool false)] (by kernel_rfl) ?_
                refine RegI.done (by kernel_rfl) ?_
                refine RunsI.cond false 25 (by kernel_rfl) ?_
                refine RunsI.go 2 [.c 27, .c 28] (by kernel_rfl) ?_
                refine RunsI.region (by kernel_rfl) ?_
                refine RegI.pure 2 [33, 34] [(33, .func (.func 65) #[] #[]), (34, .pointer (some ⟨b12, 0, none⟩))] (by kernel_rfl) ?_
                refine RegI.enter 35 [] [] (by kernel_rfl) (by kernel_rfl) (by kernel_rfl) (by kernel_rfl) F65 65 rfl [.pointer (some ⟨b12, 0, none⟩)] (by kernel_rfl) (by kernel_rfl) ?_
                refine RunsI.go 1 [.c 1, .c 2] (by kernel_rfl) ?_
                refine RunsI.region (by kernel_rfl) ?_
                refine RegI.pure 1 [0] [(0, .pointer (some ⟨b12, 0, none⟩))] (by kernel_rfl) ?_
                refine RegI.done (by kernel_rfl) ?_
                refine RunsI.go 1 [.c 3, .c 4] (by kernel_rfl) ?_
                refine RunsI.region (by kernel_rfl) ?_
                refine RegI.pure 4 [2] [(2, .pointer (some ⟨b12, 3, none⟩))] (by kernel_rfl) ?_
                refine RegI.done (by kernel_rfl) ?_
                refine RunsI.ret (.pointer (some ⟨b12, 3, none⟩)) (by kernel_rfl) (by kernel_rfl) ?_
                refine cont_mk ?_
                refine RegI.pure 1 [6] [(6, .pointer (some ⟨b12, 3, none⟩))] (by kernel_rfl) ?_
                refine RegI.done (by kernel_rfl) ?_
                refine RunsI.ret (.pointer (some ⟨b12, 3, none⟩)) (by kernel_rfl) (by kernel_rfl) ?_
                refine cont_mk ?_
                refine RegI.pure 5 [6, 7] [(6, .pointer (some ⟨b12, 3, none⟩)), (7, .bool ((band .i64 p2 1) == 0))] (by kernel_rfl) ?_
                refine RegI.done (by kernel_rfl) ?_
                refine RunsI.ret (.tuple #[.pointer (some ⟨b12, 3, none⟩), .bool ((band .i64 p2 1) == 0)]) (by kernel_rfl) (by kernel_rfl) ?_
                refine cont_mk ?_
                refine RegI.pure 3 [3, 4, 8, 9, 18, 19] [(3, .int .u8 p3), (4, .pointer (some ⟨b2, 0, none⟩)), (8, .pointer (some ⟨b7, 0, none⟩)), (9, .pointer (some ⟨b12, 0, none⟩)), (18, .pointer (some ⟨b12, 3, none⟩)), (19, .bool ((band .i64 p2 1) == 0))] (by kernel_rfl) ?_
                refine RegI.op (by kernel_rfl) (OpE.box 10 65 [.pointer none] h62 (by kernel_rfl) (by kernel_rfl) ?_)
                intro w354 b355 h356 hb357 hn358
                refine RegI.op (by kernel_rfl) (OpE.storeBox 4 65 b355 0 (.pointer (some ⟨b12, 3, none⟩)) [.pointer (some ⟨b12, 3, none⟩)] h356 (by kernel_rfl) (by kernel_rfl) rfl (by kernel_rfl) (by kernel_rfl) (by kernel_rfl) ?_)
                intro w359 h360 hk361
                refine RegI.pure 1 [3, 4, 8, 9, 10, 11] [(3, .int .u8 p3), (4, .pointer (some ⟨b2, 0, none⟩)), (8, .pointer (some ⟨b7, 0, none⟩)), (9, .pointer (some ⟨b12, 0, none⟩)), (10, .pointer (some ⟨b355, 0, none⟩)), (11, .bool ((band .i64 p2 1) == 0))] (by kernel_rfl) ?_
                refine RegI.done (by kernel_rfl) ?_
                refine RunsI.go 2 [.c 8, .c 9, .c 14] (by kernel_rfl) ?_
                refine RunsI.region (by kernel_rfl) ?_
                refine RegI.op (by kernel_rfl) (OpE.loadBox 20 4 65 b355 0 (.pointer (some ⟨b12, 3, none⟩)) h360 (by kernel_rfl) (by kernel_rfl) rfl (by kernel_rfl) ?_)
                refine RegI.pure 1 [3, 4, 8, 9, 10, 11, 21] [(3, .int .u8 p3), (4, .pointer (some ⟨b2, 0, none⟩)), (8, .pointer (some ⟨b7, 0, none⟩)), (9, .pointer (some ⟨b12, 0, none⟩)), (10, .pointer (some ⟨b355, 0, none⟩)), (11, .bool ((band .i64 p2 1) == 0)), (21, .bool false)] (by kernel_rfl) ?_
                refine RegI.done (by kernel_rfl) ?_
                refine RunsI.cond false 13 (by kernel_rfl) ?_
                refine RunsI.go 2 [.c 15, .c 16] (by kernel_rfl) ?_
                refine RunsI.region (by kernel_rfl) ?_
                refine RegI.pure 2 [3, 8, 9, 10, 11, 12] [(3, .int .u8 p3), (8, .pointer (some ⟨b7, 0, none⟩)), (9, .pointer (some ⟨b12, 0, none⟩)), (10, .pointer (some ⟨b355, 0, none⟩)), (11, .bool ((band .i64 p2 1) == 0)), (12, .func (.func 55) #[] #[.pointer (some ⟨b355, 0, none⟩)])] (by kernel_rfl) ?_
                refine RegI.done (by kernel_rfl) ?_
                refine RunsI.go 2 [.c 18, .c 19, .c 22] (by kernel_rfl) ?_
                refine RunsI.region (by kernel_rfl) ?_
                refine RegI.pure 1 [3, 8, 9, 10, 12, 24] [(3, .int .u8 p3), (8, .pointer (some ⟨b7, 0, none⟩)), (9, .pointer (some ⟨b12, 0, none⟩)), (10, .pointer (some ⟨b355, 0, none⟩)), (12, .func (.func 55) #[] #[.pointer (some ⟨b355, 0, none⟩)]), (24, .bool ((band .i64 p2 1) == 0))] (by kernel_rfl) ?_
                refine RegI.done (by kernel_rfl) ?_
                rcases of_cond h with ⟨hc362, h⟩ | ⟨hc362, h⟩
                · skip
                  refine RunsI.fix 24 true hc362 (by kernel_rfl) (by kernel_rfl) ?_
                  refine RunsI.cond true 20 (by kernel_rfl) ?_
                  refine RunsI.region (by kernel_rfl) ?_
                  refine RegI.pure 2 [8, 9, 10, 25, 26] [(8, .pointer (some ⟨b7, 0, none⟩)), (9, .pointer (some ⟨b12, 0, none⟩)), (10, .pointer (some ⟨b355, 0, none⟩)), (25, .func (.func 55) #[] #[.pointer (some ⟨b355, 0, none⟩)]), (26, .int .u8 p3)] (by kernel_rfl) ?_
                  refine RegI.op (by kernel_rfl) (OpE.loadBox 27 4 65 b355 0 (.pointer (some ⟨b12, 3, none⟩)) h360 (by kernel_rfl) (by kernel_rfl) rfl (by kernel_rfl) ?_)
                  refine RegI.pure 1 [8, 9, 25, 26, 28] [(8, .pointer (some ⟨b7, 0, none⟩)), (9, .pointer (some ⟨b12, 0, none⟩)), (25, .func (.func 55) #[] #[.pointer (some ⟨b355, 0, none⟩)]), (26, .int .u8 p3), (28, .pointer (some ⟨b12, 3, none⟩))] (by kernel_rfl) ?_
                  refine RegI.op (by kernel_rfl) (OpE.loadBox 29 0 22 b12 3 (.int .u16 p0_3) h360 (by kernel_rfl) (by kernel_rfl) rfl (by kernel_rfl) ?_)
                  obtain ⟨t367, hg366, h⟩ := of_bind h
                  refine RegI.op (by kernel_rfl) (OpE.call 30 (by kernel_rfl) 46 #[.int .u16 p0_3] (by kernel_rfl) ((bits_Lo_46_ok K _ w359  p0_3 h360.old' hg366).mono ?_))
                  rintro _ w363 ⟨rfl, hb364⟩
                  refine ⟨_, rfl, ?_⟩
                  have h365 := h360.call hb364
                  refine RegI.enter 31 [8, 9] [(8, .pointer (some ⟨b7, 0, none⟩)), (9, .pointer (some ⟨b12, 0, none⟩))] (by kernel_rfl) (by kernel_rfl) (by kernel_rfl) (by kernel_rfl) F55 55 rfl [.int .u8 p3, .int .u8 t367, .pointer (some ⟨b355, 0, none⟩)] (by kernel_rfl) (by kernel_rfl) ?_
                  refine RunsI.any 6 (by kernel_rfl) (by kernel_rfl) (by kernel_rfl) (Kp ([] : List Nat) (World.drew w363)) ?_
                  have h369 := h365.drew
                  generalize World.drew w363 = w368 at h369 ⊢
                  have hS370 := Kp.refl ([] : List Nat) w368
                  refine AnyE.loadBox 0 5 4 65 b355 0 (.pointer (some ⟨b12, 3, none⟩)) [] h369 rfl (by kernel_rfl) hS370 rfl rfl (by kernel_rfl) (by kernel_rfl) ?_
                  refine AnyE.pure 1 6 (.int .u8 p3) (by kernel_rfl) hS370 (fun _ => by kernel_rfl) ?_
                  refine AnyE.pure 2 7 (.int .u8 t367) (by kernel_rfl) hS370 (fun _ => by kernel_rfl) ?_
                  obtain ⟨t373, hg372, h⟩ := of_bind h
                  refine AnyE.call 3 8 (.int .u16 t373) 56 #[.int .u8 p3, .int .u8 t367] (by kernel_rfl) hS370 (fun _ => by kernel_rfl) (fun w hk => bits_Word_56_ok K (fun _ => False) w p3 t367 (fun _ hf => hf.elim) hg372) ?_
                  refine AnyE.pure 4 9 (.pointer (some ⟨b12, 3, none⟩)) (by kernel_rfl) hS370 (fun _ => by kernel_rfl) ?_
                  refine AnyE.last 5 (by kernel_rfl) (by kernel_rfl) (fun w374 hu375 => ?_)
                  have h376 := h369.call hu375
                  have hS377 := hS370.up hu375
                  refine OpE.storeBox 0 22 b12 3 (.int .u16 t373) [.int .u16 p0_0, .int .u16 p0_1, .int .u16 p0_2, .int .u16 t373, .int .u16 p0_4, .int .u16 p0_5, .int .u16 p0_6, .int .u16 p0_7, .int .u16 p0_8, .int .u16 p0_9, .int .u16 p0_10, .int .u16 p0_11, .int .u16 p0_12, .int .u8 p0_13, .int .u8 p0_14, .bool p0_15, .bool p0_16, .bool p0_17, .bool p0_18, .int .i64 p0_19] h376 (by kernel_rfl) (by kernel_rfl) rfl (by kernel_rfl) (by kernel_rfl) (by kernel_rfl) ?_
                  intro w378 h379 hk380
                  refine AnyE.done (by kernel_rfl) (fun w382 hu383 => ?_)
                  have h384 := h379.call hu383
                  refine RunsI.only [] [] (by kernel_rfl) (by kernel_rfl) ?_
                  refine RunsI.ret (.tuple #[]) (by kernel_rfl) (by kernel_rfl) ?_
                  refine cont_mk ?_
                  refine RegI.done (by kernel_rfl) ?_
                  refine RunsI.go 1 [.c 23, .c 24] (by kernel_rfl) ?_
                  refine RunsI.region (by kernel_rfl) ?_
                  refine RegI.op (by kernel_rfl) (OpE.loadBox 39 0 64 b12 0 (.agg #[.int .u16 p0_0, .int .u16 p0_1, .int .u16 p0_2, .int .u16 t373, .int .u16 p0_4, .int .u16 p0_5, .int .u16 p0_6, .int .u16 p0_7, .int .u16 p0_8, .int .u16 p0_9, .int .u16 p0_10, .int .u16 p0_11, .int .u16 p0_12, .int .u8 p0_13, .int .u8 p0_14, .bool p0_15, .bool p0_16, .bool p0_17, .bool p0_18, .int .i64 p0_19]) h384 (by kernel_rfl) (by kernel_rfl) rfl (by kernel_rfl) ?_)
                  refine RegI.op (by kernel_rfl) (OpE.storeBox 2 46 b7 0 (.agg #[.int .u16 p0_0, .int .u16 p0_1, .int .u16 p0_2, .int .u16 t373, .int .u16 p0_4, .int .u16 p0_5, .int .u16 p0_6, .int .u16 p0_7, .int .u16 p0_8, .int .u16 p0_9, .int .u16 p0_10, .int .u16 p0_11, .int .u16 p0_12, .int .u8 p0_13, .int .u8 p0_14, .bool p0_15, .bool p0_16, .bool p0_17, .bool p0_18, .int .i64 p0_19]) [.int .u16 p0_0, .int .u16 p0_1, .int .u16 p0_2, .int .u16 t373, .int .u16 p0_4, .int .u16 p0_5, .int .u16 p0_6, .int .u16 p0_7, .int .u16 p0_8, .int .u16 p0_9, .int .u16 p0_10, .int .u16 p0_11, .int .u16 p0_12, .int .u8 p0_13, .int .u8 p0_14, .bool p0_15, .bool p0_16, .bool p0_17, .bool p0_18, .int .i64 p0_19] h384 (by kernel_rfl) (by kernel_rfl) rfl (by kernel_rfl) (by kernel_rfl) (by kernel_rfl) ?_)
                  intro w407 h408 hk409
                  refine RegI.done (by kernel_rfl) ?_
                  refine RunsI.toRet (by kernel_rfl) ?_
                  refine RetI.valW [.cell 8 46] [.agg #[.int .u16 p0_0, .int .u16 p0_1, .int .u16 p0_2, .int .u16 t373, .int .u16 p0_4, .int .u16 p0_5, .int .u16 p0_6, .int .u16 p0_7, .int .u16 p0_8, .int .u16 p0_9, .int .u16 p0_10, .int .u16 p0_11, .int .u16 p0_12, .int .u8 p0_13, .int .u8 p0_14, .bool p0_15, .bool p0_16, .bool p0_17, .bool p0_18, .int .i64 p0_19]] (.agg #[.int .u16 p0_0, .int .u16 p0_1, .int .u16 p0_2, .int .u16 t373, .int .u16 p0_4, .int .u16 p0_5, .int .u16 p0_6, .int .u16 p0_7, .int .u16 p0_8, .int .u16 p0_9, .int .u16 p0_10, .int .u16 p0_11, .int .u16 p0_12, .int .u8 p0_13, .int .u8 p0_14, .bool p0_15, .bool p0_16, .bool p0_17, .bool p0_18, .int .i64 p0_19]) (by kernel_rfl) (ResAt.box 2 46 b7 0 h408 (by kernel_rfl) (by kernel_rfl) rfl (by kernel_rfl) rfl) (by kernel_rfl) ?_
                  obtain rfl := Option.some.inj h
                  exact ⟨rfl, h408.below⟩
                · skip
                  refine RunsI.fix 24 false hc362 (by kernel_rfl) (by kernel_rfl) ?_
                  refine RunsI.cond false 21 (by kernel_rfl) ?_
                  refine RunsI.region (by kernel_rfl) ?_
                  refine RegI.pure 1 [3, 8, 9, 10, 32] [(3, .int .u8 p3), (8, .pointer (some ⟨b7, 0, none⟩)), (9, .pointer (some ⟨b12, 0, none⟩)), (10, .pointer (some ⟨b355, 0, none⟩)), (32, .func (.func 55) #[] #[.pointer (some ⟨b355, 0, none⟩)])] (by kernel_rfl) ?_
                  refine RegI.op (by kernel_rfl) (OpE.loadBox 33 4 65 b355 0 (.pointer (some ⟨b12, 3, none⟩)) h360 (by kernel_rfl) (by kernel_rfl) rfl (by kernel_rfl) ?_)
                  refine RegI.pure 1 [3, 8, 9, 32, 34] [(3, .int .u8 p3), (8, .pointer (some ⟨b7, 0, none⟩)), (9, .pointer (some ⟨b12, 0, none⟩)), (32, .func (.func 55) #[] #[.pointer (some ⟨b355, 0, none⟩)]), (34, .pointer (some ⟨b12, 3, none⟩))] (by kernel_rfl) ?_
                  refine RegI.op (by kernel_rfl) (OpE.loadBox 35 0 22 b12 3 (.int .u16 p0_3) h360 (by kernel_rfl) (by kernel_rfl) rfl (by kernel_rfl) ?_)
                  obtain ⟨t389, hg388, h⟩ := of_bind h
                  refine RegI.op (by kernel_rfl) (OpE.call 36 (by kernel_rfl) 45 #[.int .u16 p0_3] (by kernel_rfl) ((bits_Hi_45_ok K _ w359  p0_3 h360.old' hg388).mono ?_))
                  rintro _ w385 ⟨rfl, hb386⟩
                  refine ⟨_, rfl, ?_⟩
                  have h387 := h360.call hb386
                  refine RegI.pure 1 [8, 9, 32, 36, 37] [(8, .pointer (some ⟨b7, 0, none⟩)), (9, .pointer (some ⟨b12, 0, none⟩)), (32, .func (.func 55) #[] #[.pointer (some ⟨b355, 0, none⟩)]), (36, .int .u8 t389), (37, .int .u8 p3)] (by kernel_rfl) ?_
                  refine RegI.enter 38 [8, 9] [(8, .pointer (some ⟨b7, 0, none⟩)), (9, .pointer (some ⟨b12, 0, none⟩))] (by kernel_rfl) (by kernel_rfl) (by kernel_rfl) (by kernel_rfl) F55 55 rfl [.int .u8 t389, .int .u8 p3, .pointer (some ⟨b355, 0, none⟩)] (by kernel_rfl) (by kernel_rfl) ?_
                  refine RunsI.any 6 (by kernel_rfl) (by kernel_rfl) (by kernel_rfl) (Kp ([] : List Nat) (World.drew w385)) ?_
                  have h391 := h387.drew
                  generalize World.drew w385 = w390 at h391 ⊢
                  have hS392 := Kp.refl ([] : List Nat) w390
                  refine AnyE.loadBox 0 5 4 65 b355 0 (.pointer (some ⟨b12, 3, none⟩)) [] h391 rfl (by kernel_rfl) hS392 rfl rfl (by kernel_rfl) (by kernel_rfl) ?_
                  refine AnyE.pure 1 6 (.int .u8 t389) (by kernel_rfl) hS392 (fun _ => by kernel_rfl) ?_
                  refine AnyE.pure 2 7 (.int .u8 p3) (by kernel_rfl) hS392 (fun _ => by kernel_rfl) ?_
                  obtain ⟨t395, hg394, h⟩ := of_bind h
                  refine AnyE.call 3 8 (.int .u16 t395) 56 #[.int .u8 t389, .int .u8 p3] (by kernel_rfl) hS392 (fun _ => by kernel_rfl) (fun w hk => bits_Word_56_ok K (fun _ => False) w t389 p3 (fun _ hf => hf.elim) hg394) ?_
                  refine AnyE.pure 4 9 (.pointer (some ⟨b12, 3, none⟩)) (by kernel_rfl) hS392 (fun _ => by kernel_rfl) ?_
                  refine AnyE.last 5 (by kernel_rfl) (by kernel_rfl) (fun w396 hu397 => ?_)
                  have h398 := h391.call hu397
                  have hS399 := hS392.up hu397
                  refine OpE.storeBox 0 22 b12 3 (.int .u16 t395) [.int .u16 p0_0, .int .u16 p0_1, .int .u16 p0_2, .int .u16 t395, .int .u16 p0_4, .int .u16 p0_5, .int .u16 p0_6, .int .u16 p0_7, .int .u16 p0_8, .int .u16 p0_9, .int .u16 p0_10, .int .u16 p0_11, .int .u16 p0_12, .int .u8 p0_13, .int .u8 p0_14, .bool p0_15, .bool p0_16, .bool p0_17, .bool p0_18, .int .i64 p0_19] h398 (by kernel_rfl) (by kernel_rfl) rfl (by kernel_rfl) (by kernel_rfl) (by kernel_rfl) ?_
                  intro w400 h401 hk402
                  refine AnyE.done (by kernel_rfl) (fun w404 hu405 => ?_)
                  have h406 := h401.call hu405
                  refine RunsI.only [] [] (by kernel_rfl) (by kernel_rfl) ?_
                  refine RunsI.ret (.tuple #[]) (by kernel_rfl) (by kernel_rfl) ?_
                  refine cont_mk ?_
                  refine RegI.done (by kernel_rfl) ?_
                  refine RunsI.go 1 [.c 23, .c 24] (by kernel_rfl) ?_
                  refine RunsI.region (by kernel_rfl) ?_
                  refine RegI.op (by kernel_rfl) (OpE.loadBox 39 0 64 b12 0 (.agg #[.int .u16 p0_0, .int .u16 p0_1, .int .u16 p0_2, .int .u16 t395, .int .u16 p0_4, .int .u16 p0_5, .int .u16 p0_6, .int .u16 p0_7, .int .u16 p0_8, .int .u16 p0_9, .int .u16 p0_10, .int .u16 p0_11, .int .u16 p0_12, .int .u8 p0_13, .int .u8 p0_14, .bool p0_15, .bool p0_16, .bool p0_17, .bool p0_18, .int .i64 p0_19]) h406 (by kernel_rfl) (by kernel_rfl) rfl (by kernel_rfl) ?_)
                  refine RegI.op (by kernel_rfl) (OpE.storeBox 2 46 b7 0 (.agg #[.int .u16 p0_0, .int .u16 p0_1, .int .u16 p0_2, .int .u16 t395, .int .u16 p0_4, .int .u16 p0_5, .int .u16 p0_6, .int .u16 p0_7, .int .u16 p0_8, .int .u16 p0_9, .int .u16 p0_10, .int .u16 p0_11, .int .u16 p0_12, .int .u8 p0_13, .int .u8 p0_14, .bool p0_15, .bool p0_16, .bool p0_17, .bool p0_18, .int .i64 p0_19]) [.int .u16 p0_0, .int .u16 p0_1, .int .u16 p0_2, .int .u16 t395, .int .u16 p0_4, .int .u16 p0_5, .int .u16 p0_6, .int .u16 p0_7, .int .u16 p0_8, .int .u16 p0_9, .int .u16 p0_10, .int .u16 p0_11, .int .u16 p0_12, .int .u8 p0_13, .int .u8 p0_14, .bool p0_15, .bool p0_16, .bool p0_17, .bool p0_18, .int .i64 p0_19] h406 (by kernel_rfl) (by kernel_rfl) rfl (by kernel_rfl) (by kernel_rfl) (by kernel_rfl) ?_)
                  intro w410 h411 hk412
                  refine RegI.done (by kernel_rfl) ?_
                  refine RunsI.toRet (by kernel_rfl) ?_
                  refine RetI.valW [.cell 8 46] [.agg #[.int .u16 p0_0, .int .u16 p0_1, .int .u16 p0_2, .int .u16 t395, .int .u16 p0_4, .int .u16 p0_5, .int .u16 p0_6, .int .u16 p0_7, .int .u16 p0_8, .int .u16 p0_9, .int .u16 p0_10, .int .u16 p0_11, .int .u16 p0_12, .int .u8 p0_13, .int .u8 p0_14, .bool p0_15, .bool p0_16, .bool p0_17, .bool p0_18, .int .i64 p0_19]] (.agg #[.int .u16 p0_0, .int .u16 p0_1, .int .u16 p0_2, .int .u16 t395, .int .u16 p0_4, .int .u16 p0_5, .int .u16 p0_6, .int .u16 p0_7, .int .u16 p0_8, .int .u16 p0_9, .int .u16 p0_10, .int .u16 p0_11, .int .u16 p0_12, .int .u8 p0_13, .int .u8 p0_14, .bool p0_15, .bool p0_16, .bool p0_17, .bool p0_18, .int .i64 p0_19]) (by kernel_rfl) (ResAt.box 2 46 b7 0 h411 (by kernel_rfl) (by kernel_rfl) rfl (by kernel_rfl) rfl) (by kernel_rfl) ?_
                  obtain rfl := Option.some.inj h
                  exact ⟨rfl, h411.below⟩
              · skip
                rcases of_cond h with ⟨hc67, h⟩ | ⟨hc67, h⟩
                · skip
                  refine RegI.op (by kernel_rfl) (OpE.lookup (ek := (ekI .i64)) (ev := (fun (v : Value) => v)) (zv := .nilFunc) 28 3 85 3 82 (Int.fdiv p2 (2 ^ 1)) (.tuple #[.func (.func 66) #[] #[], .bool true]) true h62 (by kernel_rfl) rfl (by kernel_rfl) rfl (by kernel_rfl) (KeyOk.int .i64 (by kernel_rfl)) (fun _ => by kernel_rfl) (by simp only [findK, hc64, hc65, hc66, hc67, cond_true, cond_false, Option.map_some, Option.map_none, Option.getD_some, Option.getD_none, Option.isSome_some, Option.isSome_none]) ?_)
                  refine RegI.pure 5 [0, 9, 10] [(0, .pointer (some ⟨b12, 0, none⟩)), (9, .func (.func 66) #[] #[]), (10, .bool true)] (by kernel_rfl) ?_
                  refine RegI.done (by kernel_rfl) ?_
                  refine RunsI.go 2 [.c 20, .c 21, .c 26] (by kernel_rfl) ?_
                  refine RunsI.region (by kernel_rfl) ?_
                  refine RegI.pure 2 [0, 9, 32] [(0, .pointer (some ⟨b12, 0, none⟩)), (9, .func (.func 66) #[] #[]), (32, .bool false)] (by kernel_rfl) ?_
                  refine RegI.done (by kernel_rfl) ?_
                  refine RunsI.cond false 25 (by kernel_rfl) ?_
                  refine RunsI.go 2 [.c 27, .c 28] (by kernel_rfl) ?_
                  refine RunsI.region (by kernel_rfl) ?_
                  refine RegI.pure 2 [33, 34] [(33, .func (.func 66) #[] #[]), (34, .pointer (some ⟨b12, 0, none⟩))] (by kernel_rfl) ?_
                  refine RegI.enter 35 [] [] (by kernel_rfl) (by kernel_rfl) (by kernel_rfl) (by kernel_rfl) F66 66 rfl [.pointer (some ⟨b12, 0, none⟩)] (by kernel_rfl) (by kernel_rfl) ?_
                  refine RunsI.go 1 [.c 1, .c 2] (by kernel_rfl) ?_
                  refine RunsI.region (by kernel_rfl) ?_
                  refine RegI.pure 1 [0] [(0, .pointer (some ⟨b12, 0, none⟩))] (by kernel_rfl) ?_
                  refine RegI.done (by kernel_rfl) ?_
                  refine RunsI.go 1 [.c 3, .c 4] (by kernel_rfl) ?_
                  refine RunsI.region (by kernel_rfl) ?_
                  refine RegI.pure 4 [2] [(2, .pointer (some ⟨b12, 10, none⟩))] (by kernel_rfl) ?_
                  refine RegI.done (by kernel_rfl) ?_
                  refine RunsI.ret (.pointer (some ⟨b12, 10, none⟩)) (by kernel_rfl) (by kernel_rfl) ?_
                  refine cont_mk ?_
                  refine RegI.pure 1 [6] [(6, .pointer (some ⟨b12, 10, none⟩))] (by kernel_rfl) ?_
                  refine RegI.done (by kernel_rfl) ?_
                  refine RunsI.ret (.pointer (some ⟨b12, 10, none⟩)) (by kernel_rfl) (by kernel_rfl) ?_
                  refine cont_mk ?_
                  refine RegI.pure 5 [6, 7] [(6, .pointer (some ⟨b12, 10, none⟩)), (7, .bool ((band .i64 p2 1) == 0))] (by kernel_rfl) ?_
                  refine RegI.done (by kernel_rfl) ?_
                  refine RunsI.ret (.tuple #[.pointer (some ⟨b12, 10, none⟩), .bool ((band .i64 p2 1) == 0)]) (by kernel_rfl) (by kernel_rfl) ?_
                  refine cont_mk ?_
                  refine RegI.pure 3 [3, 4, 8, 9, 18, 19] [(3, .int .u8 p3), (4, .pointer (some ⟨b2, 0, none⟩)), (8, .pointer (some ⟨b7, 0, none⟩)), (9, .pointer (some ⟨b12, 0, none⟩)), (18, .pointer (some ⟨b12, 10, none⟩)), (19, .bool ((band .i64 p2 1) == 0))] (by kernel_rfl) ?_
                  refine RegI.op (by kernel_rfl) (OpE.box 10 65 [.pointer none] h62 (by kernel_rfl) (by kernel_rfl) ?_)
                  intro w413 b414 h415 hb416 hn417
                  refine RegI.op (by kernel_rfl) (OpE.storeBox 4 65 b414 0 (.pointer (some ⟨b12, 10, none⟩)) [.pointer (some ⟨b12, 10, none⟩)] h415 (by kernel_rfl) (by kernel_rfl) rfl (by kernel_rfl) (by kernel_rfl) (by kernel_rfl) ?_)
                  intro w418 h419 hk420
                  refine RegI.pure 1 [3, 4, 8, 9, 10, 11] [(3, .int .u8 p3), (4, .pointer (some ⟨b2, 0, none⟩)), (8, .pointer (some ⟨b7, 0, none⟩)), (9, .pointer (some ⟨b12, 0, none⟩)), (10, .pointer (some ⟨b414, 0, none⟩)), (11, .bool ((band .i64 p2 1) == 0))] (by kernel_rfl) ?_
                  refine RegI.done (by kernel_rfl) ?_
                  refine RunsI.go 2 [.c 8, .c 9, .c 14] (by kernel_rfl) ?_
                  refine RunsI.region (by kernel_rfl) ?_
                  refine RegI.op (by kernel_rfl) (OpE.loadBox 20 4 65 b414 0 (.pointer (some ⟨b12, 10, none⟩)) h419 (by kernel_rfl) (by kernel_rfl) rfl (by kernel_rfl) ?_)
                  refine RegI.pure 1 [3, 4, 8, 9, 10, 11, 21] [(3, .int .u8 p3), (4, .pointer (some ⟨b2, 0, none⟩)), (8, .pointer (some ⟨b7, 0, none⟩)), (9, .pointer (some ⟨b12, 0, none⟩)), (10, .pointer (some ⟨b414, 0, none⟩)), (11, .bool ((band .i64 p2 1) == 0)), (21, .bool false)] (by kernel_rfl) ?_
                  refine RegI.done (by kernel_rfl) ?_
                  refine RunsI.cond false 13 (by kernel_rfl) ?_
                  refine RunsI.go 2 [.c 15, .c 16] (by kernel_rfl) ?_
                  refine RunsI.region (by kernel_rfl) ?_
                  refine RegI.pure 2 [3, 8, 9, 10, 11, 12] [(3, .int .u8 p3), (8, .pointer (some ⟨b7, 0, none⟩)), (9, .pointer (some ⟨b12, 0, none⟩)), (10, .pointer (some ⟨b414, 0, none⟩)), (11, .bool ((band .i64 p2 1) == 0)), (12, .func (.func 55) #[] #[.pointer (some ⟨b414, 0, none⟩)])] (by kernel_rfl) ?_
                  refine RegI.done (by kernel_rfl) ?_
                  refine RunsI.go 2 [.c 18, .c 19, .c 22] (by kernel_rfl) ?_
                  refine RunsI.region (by kernel_rfl) ?_
                  refine RegI.pure 1 [3, 8, 9, 10, 12, 24] [(3, .int .u8 p3), (8, .pointer (some ⟨b7, 0, none⟩)), (9, .pointer (some ⟨b12, 0, none⟩)), (10, .pointer (some ⟨b414, 0, none⟩)), (12, .func (.func 55) #[] #[.pointer (some ⟨b414, 0, none⟩)]), (24, .bool ((band .i64 p2 1) == 0))] (by kernel_rfl) ?_
                  refine RegI.done (by kernel_rfl) ?_
                  rcases of_cond h with ⟨hc421, h⟩ | ⟨hc421, h⟩
                  · skip
                    refine RunsI.fix 24 true hc421 (by kernel_rfl) (by kernel_rfl) ?_
                    refine RunsI.cond true 20 (by kernel_rfl) ?_
                    refine RunsI.region (by kernel_rfl) ?_
                    refine RegI.pure 2 [8, 9, 10, 25, 26] [(8, .pointer (some ⟨b7, 0, none⟩)), (9, .pointer (some ⟨b12, 0, none⟩)), (10, .pointer (some ⟨b414, 0, none⟩)), (25, .func (.func 55) #[] #[.pointer (some ⟨b414, 0, none⟩)]), (26, .int .u8 p3)] (by kernel_rfl) ?_
                    refine RegI.op (by kernel_rfl) (OpE.loadBox 27 4 65 b414 0 (.pointer (some ⟨b12, 10, none⟩)) h419 (by kernel_rfl) (by kernel_rfl) rfl (by kernel_rfl) ?_)
                    refine RegI.pure 1 [8, 9, 25, 26, 28] [(8, .pointer (some ⟨b7, 0, none⟩)), (9, .pointer (some ⟨b12, 0, none⟩)), (25, .func (.func 55) #[] #[.pointer (some ⟨b414, 0, none⟩)]), (26, .int .u8 p3), (28, .pointer (some ⟨b12, 10, none⟩))] (by kernel_rfl) ?_
                    refine RegI.op (by kernel_rfl) (OpE.loadBox 29 0 22 b12 10 (.int .u16 p0_10) h419 (by kernel_rfl) (by kernel_rfl) rfl (by kernel_rfl) ?_)
                    obtain ⟨t426, hg425, h⟩ := of_bind h
                    refine RegI.op (by kernel_rfl) (OpE.call 30 (by kernel_rfl) 46 #[.int .u16 p0_10] (by kernel_rfl) ((bits_Lo_46_ok K _ w418  p0_10 h419.old' hg425).mono ?_))
                    rintro _ w422 ⟨rfl, hb423⟩
                    refine ⟨_, rfl, ?_⟩
                    have h424 := h419.call hb423
                    refine RegI.enter 31 [8, 9] [(8, .pointer (some ⟨b7, 0, none⟩)), (9, .pointer (some ⟨b12, 0, none⟩))] (by kernel_rfl) (by kernel_rfl) (by kernel_rfl) (by kernel_rfl) F55 55 rfl [.int .u8 p3, .int .u8 t426, .pointer (some ⟨b414, 0, none⟩)] (by kernel_rfl) (by kernel_rfl) ?_
                    refine RunsI.any 6 (by kernel_rfl) (by kernel_rfl) (by kernel_rfl) (Kp ([] : List Nat) (World.drew w422)) ?_
                    have h428 := h424.drew
                    generalize World.drew w422 = w427 at h428 ⊢
                    have hS429 := Kp.refl ([] : List Nat) w427
                    refine AnyE.loadBox 0 5 4 65 b414 0 (.pointer (some ⟨b12, 10, none⟩)) [] h428 rfl (by kernel_rfl) hS429 rfl rfl (by kernel_rfl) (by kernel_rfl) ?_
                    refine AnyE.pure 1 6 (.int .u8 p3) (by kernel_rfl) hS429 (fun _ => by kernel_rfl) ?_
                    refine AnyE.pure 2 7 (.int .u8 t426) (by kernel_rfl) hS429 (fun _ => by kernel_rfl) ?_
                    obtain ⟨t432, hg431, h⟩ := of_bind h
                    refine AnyE.call 3 8 (.int .u16 t432) 56 #[.int .u8 p3, .int .u8 t426] (by kernel_rfl) hS429 (fun _ => by kernel_rfl) (fun w hk => bits_Word_56_ok K (fun _ => False) w p3 t426 (fun _ hf => hf.elim) hg431) ?_
                    refine AnyE.pure 4 9 (.pointer (some ⟨b12, 10, none⟩)) (by kernel_rfl) hS429 (fun _ => by kernel_rfl) ?_
                    refine AnyE.last 5 (by kernel_rfl) (by kernel_rfl) (fun w433 hu434 => ?_)
                    have h435 := h428.call hu434
                    have hS436 := hS429.up hu434
                    refine OpE.storeBox 0 22 b12 10 (.int .u16 t432) [.int .u16 p0_0, .int .u16 p0_1, .int .u16 p0_2, .int .u16 p0_3, .int .u16 p0_4, .int .u16 p0_5, .int .u16 p0_6, .int .u16 p0_7, .int .u16 p0_8, .int .u16 p0_9, .int .u16 t432, .int .u16 p0_11, .int .u16 p0_12, .int .u8 p0_13, .int .u8 p0_14, .bool p0_15, .bool p0_16, .bool p0_17, .bool p0_18, .int .i64 p0_19] h435 (by kernel_rfl) (by kernel_rfl) rfl (by kernel_rfl) (by kernel_rfl) (by kernel_rfl) ?_
                    intro w437 h438 hk439
                    refine AnyE.done (by kernel_rfl) (fun w441 hu442 => ?_)
                    have h443 := h438.call hu442
                    refine RunsI.only [] [] (by kernel_rfl) (by kernel_rfl) ?_
                    refine RunsI.ret (.tuple #[]) (by kernel_rfl) (by kernel_rfl) ?_
                    refine cont_mk ?_
                    refine RegI.done (by kernel_rfl) ?_
                    refine RunsI.go 1 [.c 23, .c 24] (by kernel_rfl) ?_
                    refine RunsI.region (by kernel_rfl) ?_
                    refine RegI.op (by kernel_rfl) (OpE.loadBox 39 0 64 b12 0 (.agg #[.int .u16 p0_0, .int .u16 p0_1, .int .u16 p0_2, .int .u16 p0_3, .int .u16 p0_4, .int .u16 p0_5, .int .u16 p0_6, .int .u16 p0_7, .int .u16 p0_8, .int .u16 p0_9, .int .u16 t432, .int .u16 p0_11, .int .u16 p0_12, .int .u8 p0_13, .int .u8 p0_14, .bool p0_15, .bool p0_16, .bool p0_17, .bool p0_18, .int .i64 p0_19]) h443 (by kernel_rfl) (by kernel_rfl) rfl (by kernel_rfl) ?_)
                    refine RegI.op (by kernel_rfl) (OpE.storeBox 2 46 b7 0 (.agg #[.int .u16 p0_0, .int .u16 p0_1, .int .u16 p0_2, .int .u16 p0_3, .int .u16 p0_4, .int .u16 p0_5, .int .u16 p0_6, .int .u16 p0_7, .int .u16 p0_8, .int .u16 p0_9, .int .u16 t432, .int .u16 p0_11, .int .u16 p0_12, .int .u8 p0_13, .int .u8 p0_14, .bool p0_15, .bool p0_16, .bool p0_17, .bool p0_18, .int .i64 p0_19]) [.int .u16 p0_0, .int .u16 p0_1, .int .u16 p0_2, .int .u16 p0_3, .int .u16 p0_4, .int .u16 p0_5, .int .u16 p0_6, .int .u16 p0_7, .int .u16 p0_8, .int .u16 p0_9, .int .u16 t432, .int .u16 p0_11, .int .u16 p0_12, .int .u8 p0_13, .int .u8 p0_14, .bool p0_15, .bool p0_16, .bool p0_17, .bool p0_18, .int .i64 p0_19] h443 (by kernel_rfl) (by kernel_rfl) rfl (by kernel_rfl) (by kernel_rfl) (by kernel_rfl) ?_)
                    intro w466 h467 hk468
                    refine RegI.done (by kernel_rfl) ?_
                    refine RunsI.toRet (by kernel_rfl) ?_
                    refine RetI.valW [.cell 8 46] [.agg #[.int .u16 p0_0, .int .u16 p0_1, .int .u16 p0_2, .int .u16 p0_3, .int .u16 p0_4, .int .u16 p0_5, .int .u16 p0_6, .int .u16 p0_7, .int .u16 p0_8, .int .u16 p0_9, .int .u16 t432, .int .u16 p0_11, .int .u16 p0_12, .int .u8 p0_13, .int .u8 p0_14, .bool p0_15, .bool p0_16, .bool p0_17, .bool p0_18, .int .i64 p0_19]] (.agg #[.int .u16 p0_0, .int .u16 p0_1, .int .u16 p0_2, .int .u16 p0_3, .int .u16 p0_4, .int .u16 p0_5, .int .u16 p0_6, .int .u16 p0_7, .int .u16 p0_8, .int .u16 p0_9, .int .u16 t432, .int .u16 p0_11, .int .u16 p0_12, .int .u8 p0_13, .int .u8 p0_14, .bool p0_15, .bool p0_16, .bool p0_17, .bool p0_18, .int .i64 p0_19]) (by kernel_rfl) (ResAt.box 2 46 b7 0 h467 (by kernel_rfl) (by kernel_rfl) rfl (by kernel_rfl) rfl) (by kernel_rfl) ?_
                    obtain rfl := Option.some.inj h
                    exact ⟨rfl, h467.below⟩
                  · skip
                    refine RunsI.fix 24 false hc421 (by kernel_rfl) (by kernel_rfl) ?_
                    refine RunsI.cond false 21 (by kernel_rfl) ?_
                    refine RunsI.region (by kernel_rfl) ?_
                    refine RegI.pure 1 [3, 8, 9, 10, 32] [(3, .int .u8 p3), (8, .pointer (some ⟨b7, 0, none⟩)), (9, .pointer (some ⟨b12, 0, none⟩)), (10, .pointer (some ⟨b414, 0, none⟩)), (32, .func (.func 55) #[] #[.pointer (some ⟨b414, 0, none⟩)])] (by kernel_rfl) ?_
                    refine RegI.op (by kernel_rfl) (OpE.loadBox 33 4 65 b414 0 (.pointer (some ⟨b12, 10, none⟩)) h419 (by kernel_rfl) (by kernel_rfl) rfl (by kernel_rfl) ?_)
                    refine RegI.pure 1 [3, 8, 9, 32, 34] [(3, .int .u8 p3), (8, .pointer (some ⟨b7, 0, none⟩)), (9, .pointer (some ⟨b12, 0, none⟩)), (32, .func (.func 55) #[] #[.pointer (some ⟨b414, 0, none⟩)]), (34, .pointer (some ⟨b12, 10, none⟩))] (by kernel_rfl) ?_
                    refine RegI.op (by kernel_rfl) (OpE.loadBox 35 0 22 b12 10 (.int .u16 p0_10) h419 (by kernel_rfl) (by kernel_rfl) rfl (by kernel_rfl) ?_)
                    obtain ⟨t448, hg447, h⟩ := of_bind h
                    refine RegI.op (by kernel_rfl) (OpE.call 36 (by kernel_rfl) 45 #[.int .u16 p0_10] (by kernel_rfl) ((bits_Hi_45_ok K _ w418  p0_10 h419.old' hg447).mono ?_))
                    rintro _ w444 ⟨rfl, hb445⟩
                    refine ⟨_, rfl, ?_⟩
                    have h446 := h419.call hb445
                    refine RegI.pure 1 [8, 9, 32, 36, 37] [(8, .pointer (some ⟨b7, 0, none⟩)), (9, .pointer (some ⟨b12, 0, none⟩)), (32, .func (.func 55) #[] #[.pointer (some ⟨b414, 0, none⟩)]), (36, .int .u8 t448), (37, .int .u8 p3)] (by kernel_rfl) ?_
                    refine RegI.enter 38 [8, 9] [(8, .pointer (some ⟨b7, 0, none⟩)), (9, .pointer (some ⟨b12, 0, none⟩))] (by kernel_rfl) (by kernel_rfl) (by kernel_rfl) (by kernel_rfl) F55 55 rfl [.int .u8 t448, .int .u8 p3, .pointer (some ⟨b414, 0, none⟩)] (by kernel_rfl) (by kernel_rfl) ?_
                    refine RunsI.any 6 (by kernel_rfl) (by kernel_rfl) (by kernel_rfl) (Kp ([] : List Nat) (World.drew w444)) ?_
                    have h450 := h446.drew
                    generalize World.drew w444 = w449 at h450 ⊢
                    have hS451 := Kp.refl ([] : List Nat) w449
                    refine AnyE.loadBox 0 5 4 65 b414 0 (.pointer (some ⟨b12, 10, none⟩)) [] h450 rfl (by kernel_rfl) hS451 rfl rfl (by kernel_rfl) (by kernel_rfl) ?_
                    refine AnyE.pure 1 6 (.int .u8 t448) (by kernel_rfl) hS451 (fun _ => by kernel_rfl) ?_
                    refine AnyE.pure 2 7 (.int .u8 p3) (by kernel_rfl) hS451 (fun _ => by kernel_rfl) ?_
                    obtain ⟨t454, hg453, h⟩ := of_bind h
                    refine AnyE.call 3 8 (.int .u16 t454) 56 #[.int .u8 t448, .int .u8 p3] (by kernel_rfl) hS451 (fun _ => by kernel_rfl) (fun w hk => bits_Word_56_ok K (fun _ => False) w t448 p3 (fun _ hf => hf.elim) hg453) ?_
                    refine AnyE.pure 4 9 (.pointer (some ⟨b12, 10, none⟩)) (by kernel_rfl) hS451 (fun _ => by kernel_rfl) ?_
                    refine AnyE.last 5 (by kernel_rfl) (by kernel_rfl) (fun w455 hu456 => ?_)
                    have h457 := h450.call hu456
                    have hS458 := hS451.up hu456
                    refine OpE.storeBox 0 22 b12 10 (.int .u16 t454) [.int .u16 p0_0, .int .u16 p0_1, .int .u16 p0_2, .int .u16 p0_3, .int .u16 p0_4, .int .u16 p0_5, .int .u16 p0_6, .int .u16 p0_7, .int .u16 p0_8, .int .u16 p0_9, .int .u16 t454, .int .u16 p0_11, .int .u16 p0_12, .int .u8 p0_13, .int .u8 p0_14, .bool p0_15, .bool p0_16, .bool p0_17, .bool p0_18, .int .i64 p0_19] h457 (by kernel_rfl) (by kernel_rfl) rfl (by kernel_rfl) (by kernel_rfl) (by kernel_rfl) ?_
                    intro w459 h460 hk461
                    refine AnyE.done (by kernel_rfl) (fun w463 hu464 => ?_)
                    have h465 := h460.call hu464
                    refine RunsI.only [] [] (by kernel_rfl) (by kernel_rfl) ?_
                    refine RunsI.ret (.tuple #[]) (by kernel_rfl) (by kernel_rfl) ?_
                    refine cont_mk ?_
                    refine RegI.done (by kernel_rfl) ?_
                    refine RunsI.go 1 [.c 23, .c 24] (by kernel_rfl) ?_
                    refine RunsI.region (by kernel_rfl) ?_
                    refine RegI.op (by kernel_rfl) (OpE.loadBox 39 0 64 b12 0 (.agg #[.int .u16 p0_0, .int .u16 p0_1, .int .u16 p0_2, .int .u16 p0_3, .int .u16 p0_4, .int .u16 p0_5, .int .u16 p0_6, .int .u16 p0_7, .int .u16 p0_8, .int .u16 p0_9, .int .u16 t454, .int .u16 p0_11, .int .u16 p0_12, .int .u8 p0_13, .int .u8 p0_14, .bool p0_15, .bool p0_16, .bool p0_17, .bool p0_18, .int .i64 p0_19]) h465 (by kernel_rfl) (by kernel_rfl) rfl (by kernel_rfl) ?_)
                    refine RegI.op (by kernel_rfl) (OpE.storeBox 2 46 b7 0 (.agg #[.int .u16 p0_0, .int .u16 p0_1, .int .u16 p0_2, .int .u16 p0_3, .int .u16 p0_4, .int .u16 p0_5, .int .u16 p0_6, .int .u16 p0_7, .int .u16 p0_8, .int .u16 p0_9, .int .u16 t454, .int .u16 p0_11, .int .u16 p0_12, .int .u8 p0_13, .int .u8 p0_14, .bool p0_15, .bool p0_16, .bool p0_17, .bool p0_18, .int .i64 p0_19]) [.int .u16 p0_0, .int .u16 p0_1, .int .u16 p0_2, .int .u16 p0_3, .int .u16 p0_4, .int .u16 p0_5, .int .u16 p0_6, .int .u16 p0_7, .int .u16 p0_8, .int .u16 p0_9, .int .u16 t454, .int .u16 p0_11, .int .u16 p0_12, .int .u8 p0_13, .int .u8 p0_14, .bool p0_15, .bool p0_16, .bool p0_17, .bool p0_18, .int .i64 p0_19] h465 (by kernel_rfl) (by kernel_rfl) rfl (by kernel_rfl) (by kernel_rfl) (by kernel_rfl) ?_)
                    intro w469 h470 hk471
                    refine RegI.done (by kernel_rfl) ?_
                    refine RunsI.toRet (by kernel_rfl) ?_
                    refine RetI.valW [.cell 8 46] [.agg #[.int .u16 p0_0, .int .u16 p0_1, .int .u16 p0_2, .int .u16 p0_3, .int .u16 p0_4, .int .u16 p0_5, .int .u16 p0_6, .int .u16 p0_7, .int .u16 p0_8, .int .u16 p0_9, .int .u16 t454, .int .u16 p0_11, .int .u16 p0_12, .int .u8 p0_13, .int .u8 p0_14, .bool p0_15, .bool p0_16, .bool p0_17, .bool p0_18, .int .i64 p0_19]] (.agg #[.int .u16 p0_0, .int .u16 p0_1, .int .u16 p0_2, .int .u16 p0_3, .int .u16 p0_4, .int .u16 p0_5, .int .u16 p0_6, .int .u16 p0_7, .int .u16 p0_8, .int .u16 p0_9, .int .u16 t454, .int .u16 p0_11, .int .u16 p0_12, .int .u8 p0_13, .int .u8 p0_14, .bool p0_15, .bool p0_16, .bool p0_17, .bool p0_18, .int .i64 p0_19]) (by kernel_rfl) (ResAt.box 2 46 b7 0 h470 (by kernel_rfl) (by kernel_rfl) rfl (by kernel_rfl) rfl) (by kernel_rfl) ?_
                    obtain rfl := Option.some.inj h
                    exact ⟨rfl, h470.below⟩
                · skip
                  refine RegI.op (by kernel_rfl) (OpE.lookup (ek := (ekI .i64)) (ev := (fun (v : Value) => v)) (zv := .nilFunc) 28 3 85 3 82 (Int.fdiv p2 (2 ^ 1)) (.tuple #[.nilFunc, .bool false]) true h62 (by kernel_rfl) rfl (by kernel_rfl) rfl (by kernel_rfl) (KeyOk.int .i64 (by kernel_rfl)) (fun _ => by kernel_rfl) (by simp only [findK, hc64, hc65, hc66, hc67, cond_true, cond_false, Option.map_some, Option.map_none, Option.getD_some, Option.getD_none, Option.isSome_some, Option.isSome_none]) ?_)
                  refine RegI.pure 5 [0, 9, 10] [(0, .pointer (some ⟨b12, 0, none⟩)), (9, .nilFunc), (10, .bool false)] (by kernel_rfl) ?_
                  refine RegI.done (by kernel_rfl) ?_
                  refine RunsI.go 2 [.c 20, .c 21, .c 26] (by kernel_rfl) ?_
                  refine RunsI.region (by kernel_rfl) ?_
                  refine RegI.pure 2 [0, 9, 32] [(0, .pointer (some ⟨b12, 0, none⟩)), (9, .nilFunc), (32, .bool true)] (by kernel_rfl) ?_
                  refine RegI.done (by kernel_rfl) ?_
                  refine RunsI.cond true 22 (by kernel_rfl) ?_
                  refine RunsI.go 1 [.c 23, .c 24, .c 26] (by kernel_rfl) ?_
                  refine RunsI.region (by kernel_rfl) ?_
                  refine RegI.pure 1 [6] [(6, .pointer none)] (by kernel_rfl) ?_
                  refine RegI.done (by kernel_rfl) ?_
                  refine RunsI.ret (.pointer none) (by kernel_rfl) (by kernel_rfl) ?_
                  refine cont_mk ?_
                  refine RegI.pure 5 [6, 7] [(6, .pointer none), (7, .bool ((band .i64 p2 1) == 0))] (by kernel_rfl) ?_
                  refine RegI.done (by kernel_rfl) ?_
                  refine RunsI.ret (.tuple #[.pointer none, .bool ((band .i64 p2 1) == 0)]) (by kernel_rfl) (by kernel_rfl) ?_
                  refine cont_mk ?_
                  refine RegI.only [3, 4, 8, 9, 17] [(3, .int .u8 p3), (4, .pointer (some ⟨b2, 0, none⟩)), (8, .pointer (some ⟨b7, 0, none⟩)), (9, .pointer (some ⟨b12, 0, none⟩)), (17, .tuple #[.pointer none, .bool ((band .i64 p2 1) == 0)])] (by kernel_rfl) (by kernel_rfl) ?_
                  exact hj106 ((band .i64 p2 1) == 0) w61 h (h62.pick [1, 2, 0] (by decide))
        clear hJ45
        rcases of_cond h with ⟨hc28, h⟩ | ⟨hc28, h⟩
        · skip
          refine RunsI.fix 12 true hc28 (by kernel_rfl) (by kernel_rfl) ?_
          refine RunsI.cond true 6 (by kernel_rfl) ?_
          refine RunsI.go 1 [.c 7, .c 8, .c 16] (by kernel_rfl) ?_
          refine RunsI.region (by kernel_rfl) ?_
          refine RegI.op (by kernel_rfl) (OpE.makeMap 14 (ekI .i64) (fun (v : Value) => v) h22 (by kernel_rfl) (by kernel_rfl) ?_)
          intro w29 b30 h31 hb32 hn33
          refine RegI.op (by kernel_rfl) (OpE.mapSet (ek := (ekI .i64)) (ev := (fun (v : Value) => v)) 3 85 3 82 3 (.func (.func 61) #[] #[]) h31 (by kernel_rfl) rfl (by kernel_rfl) rfl rfl (by kernel_rfl) (KeyOk.int .i64 (by kernel_rfl)) [(3, .func (.func 61) #[] #[])] (by kernel_rfl) ?_)
          intro w34 h35 hk36
          refine RegI.op (by kernel_rfl) (OpE.mapSet (ek := (ekI .i64)) (ev := (fun (v : Value) => v)) 3 85 3 82 4 (.func (.func 62) #[] #[]) h35 (by kernel_rfl) rfl (by kernel_rfl) rfl rfl (by kernel_rfl) (KeyOk.int .i64 (by kernel_rfl)) [(3, .func (.func 61) #[] #[]), (4, .func (.func 62) #[] #[])] (by kernel_rfl) ?_)
          intro w37 h38 hk39
          refine RegI.pure 2 [0, 2, 15, 16] [(0, .pointer (some ⟨b12, 0, none⟩)), (2, .int .i64 (Int.fdiv p2 (2 ^ 1))), (15, .map (some b30)), (16, .int .i64 p1)] (by kernel_rfl) ?_
          rcases of_cond h with ⟨hc40, h⟩ | ⟨hc40, h⟩
          · skip
            refine RegI.op (by kernel_rfl) (OpE.lookup (ek := (ekI .i64)) (ev := (fun (v : Value) => v)) (zv := .nilFunc) 17 3 85 3 82 p1 (.tuple #[.func (.func 61) #[] #[], .bool true]) true h38 (by kernel_rfl) rfl (by kernel_rfl) rfl (by kernel_rfl) (KeyOk.int .i64 (by kernel_rfl)) (fun _ => by kernel_rfl) (by simp only [findK, hc40, cond_true, cond_false, Option.map_some, Option.map_none, Option.getD_some, Option.getD_none, Option.isSome_some, Option.isSome_none]) ?_)
            refine RegI.pure 5 [0, 2, 7, 8] [(0, .pointer (some ⟨b12, 0, none⟩)), (2, .int .i64 (Int.fdiv p2 (2 ^ 1))), (7, .func (.func 61) #[] #[]), (8, .bool true)] (by kernel_rfl) ?_
            refine RegI.done (by kernel_rfl) ?_
            refine RunsI.go 1 [.c 9, .c 10, .c 16] (by kernel_rfl) ?_
            refine RunsI.region (by kernel_rfl) ?_
            refine RegI.pure 1 [0, 2, 7, 20] [(0, .pointer (some ⟨b12, 0, none⟩)), (2, .int .i64 (Int.fdiv p2 (2 ^ 1))), (7, .func (.func 61) #[] #[]), (20, .bool true)] (by kernel_rfl) ?_
            refine RegI.done (by kernel_rfl) ?_
            refine RunsI.cond true 11 (by kernel_rfl) ?_
            refine RunsI.go 1 [.c 12, .c 13, .c 16] (by kernel_rfl) ?_
            refine RunsI.region (by kernel_rfl) ?_
            refine RegI.pure 2 [21, 22] [(21, .func (.func 61) #[] #[]), (22, .pointer (some ⟨b12, 0, none⟩))] (by kernel_rfl) ?_
            refine RegI.enter 23 [] [] (by kernel_rfl) (by kernel_rfl) (by kernel_rfl) (by kernel_rfl) F61 61 rfl [.pointer (some ⟨b12, 0, none⟩)] (by kernel_rfl) (by kernel_rfl) ?_
            refine RunsI.go 1 [.c 1, .c 2] (by kernel_rfl) ?_
            refine RunsI.region (by kernel_rfl) ?_
            refine RegI.pure 1 [0] [(0, .pointer (some ⟨b12, 0, none⟩))] (by kernel_rfl) ?_
            refine RegI.done (by kernel_rfl) ?_
            refine RunsI.go 1 [.c 3, .c 4] (by kernel_rfl) ?_
            refine RunsI.region (by kernel_rfl) ?_
            refine RegI.pure 4 [2] [(2, .pointer (some ⟨b12, 8, none⟩))] (by kernel_rfl) ?_
            refine RegI.done (by kernel_rfl) ?_
            refine RunsI.ret (.pointer (some ⟨b12, 8, none⟩)) (by kernel_rfl) (by kernel_rfl) ?_
            refine cont_mk ?_
            refine RegI.pure 1 [6] [(6, .pointer (some ⟨b12, 8, none⟩))] (by kernel_rfl) ?_
            refine RegI.done (by kernel_rfl) ?_
            refine RunsI.ret (.pointer (some ⟨b12, 8, none⟩)) (by kernel_rfl) (by kernel_rfl) ?_
            refine cont_mk ?_
            refine RegI.pure 5 [6, 7] [(6, .pointer (some ⟨b12, 8, none⟩)), (7, .bool ((band .i64 p2 1) == 0))] (by kernel_rfl) ?_
            refine RegI.done (by kernel_rfl) ?_
            refine RunsI.ret (.tuple #[.pointer (some ⟨b12, 8, none⟩), .bool ((band .i64 p2 1) == 0)]) (by kernel_rfl) (by kernel_rfl) ?_
            refine cont_mk ?_
            refine RegI.pure 3 [3, 4, 8, 9, 18, 19] [(3, .int .u8 p3), (4, .pointer (some ⟨b2, 0, none⟩)), (8, .pointer (some ⟨b7, 0, none⟩)), (9, .pointer (some ⟨b12, 0, none⟩)), (18, .pointer (some ⟨b12, 8, none⟩)), (19, .bool ((band .i64 p2 1) == 0))] (by kernel_rfl) ?_
            refine RegI.op (by kernel_rfl) (OpE.box 10 65 [.pointer none] h38 (by kernel_rfl) (by kernel_rfl) ?_)
            intro w118 b119 h120 hb121 hn122
            refine RegI.op (by kernel_rfl) (OpE.storeBox 4 65 b119 0 (.pointer (some ⟨b12, 8, none⟩)) [.pointer (some ⟨b12, 8, none⟩)] h120 (by kernel_rfl) (by kernel_rfl) rfl (by kernel_rfl) (by kernel_rfl) (by kernel_rfl) ?_)
            intro w123 h124 hk125
            refine RegI.pure 1 [3, 4, 8, 9, 10, 11] [(3, .int .u8 p3), (4, .pointer (some ⟨b2, 0, none⟩)), (8, .pointer (some ⟨b7, 0, none⟩)), (9, .pointer (some ⟨b12, 0, none⟩)), (10, .pointer (some ⟨b119, 0, none⟩)), (11, .bool ((band .i64 p2 1) == 0))] (by kernel_rfl) ?_
            refine RegI.done (by kernel_rfl) ?_
            refine RunsI.go 2 [.c 8, .c 9, .c 14] (by kernel_rfl) ?_
            refine RunsI.region (by kernel_rfl) ?_
            refine RegI.op (by kernel_rfl) (OpE.loadBox 20 4 65 b119 0 (.pointer (some ⟨b12, 8, none⟩)) h124 (by kernel_rfl) (by kernel_rfl) rfl (by kernel_rfl) ?_)
            refine RegI.pure 1 [3, 4, 8, 9, 10, 11, 21] [(3, .int .u8 p3), (4, .pointer (some ⟨b2, 0, none⟩)), (8, .pointer (some ⟨b7, 0, none⟩)), (9, .pointer (some ⟨b12, 0, none⟩)), (10, .pointer (some ⟨b119, 0, none⟩)), (11, .bool ((band .i64 p2 1) == 0)), (21, .bool false)] (by kernel_rfl) ?_
            refine RegI.done (by kernel_rfl) ?_
            refine RunsI.cond false 13 (by kernel_rfl) ?_
            refine RunsI.go 2 [.c 15, .c 16] (by kernel_rfl) ?_
            refine RunsI.region (by kernel_rfl) ?_
            refine RegI.pure 2 [3, 8, 9, 10, 11, 12] [(3, .int .u8 p3), (8, .pointer (some ⟨b7, 0, none⟩)), (9, .pointer (some ⟨b12, 0, none⟩)), (10, .pointer (some ⟨b119, 0, none⟩)), (11, .bool ((band .i64 p2 1) == 0)), (12, .func (.func 55) #[] #[.pointer (some ⟨b119, 0, none⟩)])] (by kernel_rfl) ?_
            refine RegI.done (by kernel_rfl) ?_
            refine RunsI.go 2 [.c 18, .c 19, .c 22] (by kernel_rfl) ?_
            refine RunsI.region (by kernel_rfl) ?_
            refine RegI.pure 1 [3, 8, 9, 10, 12, 24] [(3, .int .u8 p3), (8, .pointer (some ⟨b7, 0, none⟩)), (9, .pointer (some ⟨b12, 0, none⟩)), (10, .pointer (some ⟨b119, 0, none⟩)), (12, .func (.func 55) #[] #[.pointer (some ⟨b119, 0, none⟩)]), (24, .bool ((band .i64 p2 1) == 0))] (by kernel_rfl) ?_
            refine RegI.done (by kernel_rfl) ?_
            rcases of_cond h with ⟨hc126, h⟩ | ⟨hc126, h⟩
            · skip
              refine RunsI.fix 24 true hc126 (by kernel_rfl) (by kernel_rfl) ?_
              refine RunsI.cond true 20 (by kernel_rfl) ?_
              refine RunsI.region (by kernel_rfl) ?_
              refine RegI.pure 2 [8, 9, 10, 25, 26] [(8, .pointer (some ⟨b7, 0, none⟩)), (9, .pointer (some ⟨b12, 0, none⟩)), (10, .pointer (some ⟨b119, 0, none⟩)), (25, .func (.func 55) #[] #[.pointer (some ⟨b119, 0, none⟩)]), (26, .int .u8 p3)] (by kernel_rfl) ?_
              refine RegI.op (by kernel_rfl) (OpE.loadBox 27 4 65 b119 0 (.pointer (some ⟨b12, 8, none⟩)) h124 (by kernel_rfl) (by kernel_rfl) rfl (by kernel_rfl) ?_)
              refine RegI.pure 1 [8, 9, 25, 26, 28] [(8, .pointer (some ⟨b7, 0, none⟩)), (9, .pointer (some ⟨b12, 0, none⟩)), (25, .func (.func 55) #[] #[.pointer (some ⟨b119, 0, none⟩)]), (26, .int .u8 p3), (28, .pointer (some ⟨b12, 8, none⟩))] (by kernel_rfl) ?_
              refine RegI.op (by kernel_rfl) (OpE.loadBox 29 0 22 b12 8 (.int .u16 p0_8) h124 (by kernel_rfl) (by kernel_rfl) rfl (by kernel_rfl) ?_)
              obtain ⟨t131, hg130, h⟩ := of_bind h
              refine RegI.op (by kernel_rfl) (OpE.call 30 (by kernel_rfl) 46 #[.int .u16 p0_8] (by kernel_rfl) ((bits_Lo_46_ok K _ w123  p0_8 h124.old' hg130).mono ?_))
              rintro _ w127 ⟨rfl, hb128⟩
              refine ⟨_, rfl, ?_⟩
              have h129 := h124.call hb128
              refine RegI.enter 31 [8, 9] [(8, .pointer (some ⟨b7, 0, none⟩)), (9, .pointer (some ⟨b12, 0, none⟩))] (by kernel_rfl) (by kernel_rfl) (by kernel_rfl) (by kernel_rfl) F55 55 rfl [.int .u8 p3, .int .u8 t131, .pointer (some ⟨b119, 0, none⟩)] (by kernel_rfl) (by kernel_rfl) ?_
              refine RunsI.any 6 (by kernel_rfl) (by kernel_rfl) (by kernel_rfl) (Kp ([] : List Nat) (World.drew w127)) ?_
              have h133 := h129.drew
              generalize World.drew w127 = w132 at h133 ⊢
              have hS134 := Kp.refl ([] : List Nat) w132
              refine AnyE.loadBox 0 5 4 65 b119 0 (.pointer (some ⟨b12, 8, none⟩)) [] h133 rfl (by kernel_rfl) hS134 rfl rfl (by kernel_rfl) (by kernel_rfl) ?_
              refine AnyE.pure 1 6 (.int .u8 p3) (by kernel_rfl) hS134 (fun _ => by kernel_rfl) ?_
              refine AnyE.pure 2 7 (.int .u8 t131) (by kernel_rfl) hS134 (fun _ => by kernel_rfl) ?_
              obtain ⟨t137, hg136, h⟩ := of_bind h
              refine AnyE.call 3 8 (.int .u16 t137) 56 #[.int .u8 p3, .int .u8 t131] (by kernel_rfl) hS134 (fun _ => by kernel_rfl) (fun w hk => bits_Word_56_ok K (fun _ => False) w p3 t131 (fun _ hf => hf.elim) hg136) ?_
              refine AnyE.pure 4 9 (.pointer (some ⟨b12, 8, none⟩)) (by kernel_rfl) hS134 (fun _ => by kernel_rfl) ?_
              refine AnyE.last 5 (by kernel_rfl) (by kernel_rfl) (fun w138 hu139 => ?_)
              have h140 := h133.call hu139
              have hS141 := hS134.up hu139
              refine OpE.storeBox 0 22 b12 8 (.int .u16 t137) [.int .u16 p0_0, .int .u16 p0_1, .int .u16 p0_2, .int .u16 p0_3, .int .u16 p0_4, .int .u16 p0_5, .int .u16 p0_6, .int .u16 p0_7, .int .u16 t137, .int .u16 p0_9, .int .u16 p0_10, .int .u16 p0_11, .int .u16 p0_12, .int .u8 p0_13, .int .u8 p0_14, .bool p0_15, .bool p0_16, .bool p0_17, .bool p0_18, .int .i64 p0_19] h140 (by kernel_rfl) (by kernel_rfl) rfl (by kernel_rfl) (by kernel_rfl) (by kernel_rfl) ?_
              intro w142 h143 hk144
              refine AnyE.done (by kernel_rfl) (fun w146 hu147 => ?_)
              have h148 := h143.call hu147
              refine RunsI.only [] [] (by kernel_rfl) (by kernel_rfl) ?_
              refine RunsI.ret (.tuple #[]) (by kernel_rfl) (by kernel_rfl) ?_
              refine cont_mk ?_
              refine RegI.done (by kernel_rfl) ?_
              refine RunsI.go 1 [.c 23, .c 24] (by kernel_rfl) ?_
              refine RunsI.region (by kernel_rfl) ?_
              refine RegI.op (by kernel_rfl) (OpE.loadBox 39 0 64 b12 0 (.agg #[.int .u16 p0_0, .int .u16 p0_1, .int .u16 p0_2, .int .u16 p0_3, .int .u16 p0_4, .int .u16 p0_5, .int .u16 p0_6, .int .u16 p0_7, .int .u16 t137, .int .u16 p0_9, .int .u16 p0_10, .int .u16 p0_11, .int .u16 p0_12, .int .u8 p0_13, .int .u8 p0_14, .bool p0_15, .bool p0_16, .bool p0_17, .bool p0_18, .int .i64 p0_19]) h148 (by kernel_rfl) (by kernel_rfl) rfl (by kernel_rfl) ?_)
              refine RegI.op (by kernel_rfl) (OpE.storeBox 2 46 b7 0 (.agg #[.int .u16 p0_0, .int .u16 p0_1, .int .u16 p0_2, .int .u16 p0_3, .int .u16 p0_4, .int .u16 p0_5, .int .u16 p0_6, .int .u16 p0_7, .int .u16 t137, .int .u16 p0_9, .int .u16 p0_10, .int .u16 p0_11, .int .u16 p0_12, .int .u8 p0_13, .int .u8 p0_14, .bool p0_15, .bool p0_16, .bool p0_17, .bool p0_18, .int .i64 p0_19]) [.int .u16 p0_0, .int .u16 p0_1, .int .u16 p0_2, .int .u16 p0_3, .int .u16 p0_4, .int .u16 p0_5, .int .u16 p0_6, .int .u16 p0_7, .int .u16 t137, .int .u16 p0_9, .int .u16 p0_10, .int .u16 p0_11, .int .u16 p0_12, .int .u8 p0_13, .int .u8 p0_14, .bool p0_15, .bool p0_16, .bool p0_17, .bool p0_18, .int .i64 p0_19] h148 (by kernel_rfl) (by kernel_rfl) rfl (by kernel_rfl) (by kernel_rfl) (by kernel_rfl) ?_)
              intro w171 h172 hk173
              refine RegI.done (by kernel_rfl) ?_
              refine RunsI.toRet (by kernel_rfl) ?_
              refine RetI.valW [.cell 8 46] [.agg #[.int .u16 p0_0, .int .u16 p0_1, .int .u16 p0_2, .int .u16 p0_3, .int .u16 p0_4, .int .u16 p0_5, .int .u16 p0_6, .int .u16 p0_7, .int .u16 t137, .int .u16 p0_9, .int .u16 p0_10, .int .u16 p0_11, .int .u16 p0_12, .int .u8 p0_13, .int .u8 p0_14, .bool p0_15, .bool p0_16, .bool p0_17, .bool p0_18, .int .i64 p0_19]] (.agg #[.int .u16 p0_0, .int .u16 p0_1, .int .u16 p0_2, .int .u16 p0_3, .int .u16 p0_4, .int .u16 p0_5, .int .u16 p0_6, .int .u16 p0_7, .int .u16 t137, .int .u16 p0_9, .int .u16 p0_10, .int .u16 p0_11, .int .u16 p0_12, .int .u8 p0_13, .int .u8 p0_14, .bool p0_15, .bool p0_16, .bool p0_17, .bool p0_18, .int .i64 p0_19]) (by kernel_rfl) (ResAt.box 2 46 b7 0 h172 (by kernel_rfl) (by kernel_rfl) rfl (by kernel_rfl) rfl) (by kernel_rfl) ?_
              obtain rfl := Option.some.inj h
              exact ⟨rfl, h172.below⟩
            · skip
              refine RunsI.fix 24 false hc126 (by kernel_rfl) (by kernel_rfl) ?_
              refine RunsI.cond false 21 (by kernel_rfl) ?_
              refine RunsI.region (by kernel_rfl) ?_
              refine RegI.pure 1 [3, 8, 9, 10, 32] [(3, .int .u8 p3), (8, .pointer (some ⟨b7, 0, none⟩)), (9, .pointer (some ⟨b12, 0, none⟩)), (10, .pointer (some ⟨b119, 0, none⟩)), (32, .func (.func 55) #[] #[.pointer (some ⟨b119, 0, none⟩)])] (by kernel_rfl) ?_
              refine RegI.op (by kernel_rfl) (OpE.loadBox 33 4 65 b119 0 (.pointer (some ⟨b12, 8, none⟩)) h124 (by kernel_rfl) (by kernel_rfl) rfl (by kernel_rfl) ?_)
              refine RegI.pure 1 [3, 8, 9, 32, 34] [(3, .int .u8 p3), (8, .pointer (some ⟨b7, 0, none⟩)), (9, .pointer (some ⟨b12, 0, none⟩)), (32, .func (.func 55) #[] #[.pointer (some ⟨b119, 0, none⟩)]), (34, .pointer (some ⟨b12, 8, none⟩))] (by kernel_rfl) ?_
              refine RegI.op (by kernel_rfl) (OpE.loadBox 35 0 22 b12 8 (.int .u16 p0_8) h124 (by kernel_rfl) (by kernel_rfl) rfl (by kernel_rfl) ?_)
              obtain ⟨t153, hg152, h⟩ := of_bind h
              refine RegI.op (by kernel_rfl) (OpE.call 36 (by kernel_rfl) 45 #[.int .u16 p0_8] (by kernel_rfl) ((bits_Hi_45_ok K _ w123  p0_8 h124.old' hg152).mono ?_))
              rintro _ w149 ⟨rfl, hb150⟩
              refine ⟨_, rfl, ?_⟩
              have h151 := h124.call hb150
              refine RegI.pure 1 [8, 9, 32, 36, 37] [(8, .pointer (some ⟨b7, 0, none⟩)), (9, .pointer (some ⟨b12, 0, none⟩)), (32, .func (.func 55) #[] #[.pointer (some ⟨b119, 0, none⟩)]), (36, .int .u8 t153), (37, .int .u8 p3)] (by kernel_rfl) ?_
              refine RegI.enter 38 [8, 9] [(8, .pointer (some ⟨b7, 0, none⟩)), (9, .pointer (some ⟨b12, 0, none⟩))] (by kernel_rfl) (by kernel_rfl) (by kernel_rfl) (by kernel_rfl) F55 55 rfl [.int .u8 t153, .int .u8 p3, .pointer (some ⟨b119, 0, none⟩)] (by kernel_rfl) (by kernel_rfl) ?_
              refine RunsI.any 6 (by kernel_rfl) (by kernel_rfl) (by kernel_rfl) (Kp ([] : List Nat) (World.drew w149)) ?_
              have h155 := h151.drew
              generalize World.drew w149 = w154 at h155 ⊢
              have hS156 := Kp.refl ([] : List Nat) w154
              refine AnyE.loadBox 0 5 4 65 b119 0 (.pointer (some ⟨b12, 8, none⟩)) [] h155 rfl (by kernel_rfl) hS156 rfl rfl (by kernel_rfl) (by kernel_rfl) ?_
              refine AnyE.pure 1 6 (.int .u8 t153) (by kernel_rfl) hS156 (fun _ => by kernel_rfl) ?_
              refine AnyE.pure 2 7 (.int .u8 p3) (by kernel_rfl) hS156 (fun _ => by kernel_rfl) ?_
              obtain ⟨t159, hg158, h⟩ := of_bind h
              refine AnyE.call 3 8 (.int .u16 t159) 56 #[.int .u8 t153, .int .u8 p3] (by kernel_rfl) hS156 (fun _ => by kernel_rfl) (fun w hk => bits_Word_56_ok K (fun _ => False) w t153 p3 (fun _ hf => hf.elim) hg158) ?_
              refine AnyE.pure 4 9 (.pointer (some ⟨b12, 8, none⟩)) (by kernel_rfl) hS156 (fun _ => by kernel_rfl) ?_
              refine AnyE.last 5 (by kernel_rfl) (by kernel_rfl) (fun w160 hu161 => ?_)
              have h162 := h155.call hu161
              have hS163 := hS156.up hu161
              refine OpE.storeBox 0 22 b12 8 (.int .u16 t159) [.int .u16 p0_0, .int .u16 p0_1, .int .u16 p0_2, .int .u16 p0_3, .int .u16 p0_4, .int .u16 p0_5, .int .u16 p0_6, .int .u16 p0_7, .int .u16 t159, .int .u16 p0_9, .int .u16 p0_10, .int .u16 p0_11, .int .u16 p0_12, .int .u8 p0_13, .int .u8 p0_14, .bool p0_15, .bool p0_16, .bool p0_17, .bool p0_18, .int .i64 p0_19] h162 (by kernel_rfl) (by kernel_rfl) rfl (by kernel_rfl) (by kernel_rfl) (by kernel_rfl) ?_
              intro w164 h165 hk166
              refine AnyE.done (by kernel_rfl) (fun w168 hu169 => ?_)
              have h170 := h165.call hu169
              refine RunsI.only [] [] (by kernel_rfl) (by kernel_rfl) ?_
              refine RunsI.ret (.tuple #[]) (by kernel_rfl) (by kernel_rfl) ?_
              refine cont_mk ?_
              refine RegI.done (by kernel_rfl) ?_
              refine RunsI.go 1 [.c 23, .c 24] (by kernel_rfl) ?_
              refine RunsI.region (by kernel_rfl) ?_
              refine RegI.op (by kernel_rfl) (OpE.loadBox 39 0 64 b12 0 (.agg #[.int .u16 p0_0, .int .u16 p0_1, .int .u16 p0_2, .int .u16 p0_3, .int .u16 p0_4, .int .u16 p0_5, .int .u16 p0_6, .int .u16 p0_7, .int .u16 t159, .int .u16 p0_9, .int .u16 p0_10, .int .u16 p0_11, .int .u16 p0_12, .int .u8 p0_13, .int .u8 p0_14, .bool p0_15, .bool p0_16, .bool p0_17, .bool p0_18, .int .i64 p0_19]) h170 (by kernel_rfl) (by kernel_rfl) rfl (by kernel_rfl) ?_)
              refine RegI.op (by kernel_rfl) (OpE.storeBox 2 46 b7 0 (.agg #[.int .u16 p0_0, .int .u16 p0_1, .int .u16 p0_2, .int .u16 p0_3, .int .u16 p0_4, .int .u16 p0_5, .int .u16 p0_6, .int .u16 p0_7, .int .u16 t159, .int .u16 p0_9, .int .u16 p0_10, .int .u16 p0_11, .int .u16 p0_12, .int .u8 p0_13, .int .u8 p0_14, .bool p0_15, .bool p0_16, .bool p0_17, .bool p0_18, .int .i64 p0_19]) [.int .u16 p0_0, .int .u16 p0_1, .int .u16 p0_2, .int .u16 p0_3, .int .u16 p0_4, .int .u16 p0_5, .int .u16 p0_6, .int .u16 p0_7, .int .u16 t159, .int .u16 p0_9, .int .u16 p0_10, .int .u16 p0_11, .int .u16 p0_12, .int .u8 p0_13, .int .u8 p0_14, .bool p0_15, .bool p0_16, .bool p0_17, .bool p0_18, .int .i64 p0_19] h170 (by kernel_rfl) (by kernel_rfl) rfl (by kernel_rfl) (by kernel_rfl) (by kernel_rfl) ?_)
              intro w174 h175 hk176
              refine RegI.done (by kernel_rfl) ?_
              refine RunsI.toRet (by kernel_rfl) ?_
              refine RetI.valW [.cell 8 46] [.agg #[.int .u16 p0_0, .int .u16 p0_1, .int .u16 p0_2, .int .u16 p0_3, .int .u16 p0_4, .int .u16 p0_5, .int .u16 p0_6, .int .u16 p0_7, .int .u16 t159, .int .u16 p0_9, .int .u16 p0_10, .int .u16 p0_11, .int .u16 p0_12, .int .u8 p0_13, .int .u8 p0_14, .bool p0_15, .bool p0_16, .bool p0_17, .bool p0_18, .int .i64 p0_19]] (.agg #[.int .u16 p0_0, .int .u16 p0_1, .int .u16 p0_2, .int .u16 p0_3, .int .u16 p0_4, .int .u16 p0_5, .int .u16 p0_6, .int .u16 p0_7, .int .u16 t159, .int .u16 p0_9, .int .u16 p0_10, .int .u16 p0_11, .int .u16 p0_12, .int .u8 p0_13, .int .u8 p0_14, .bool p0_15, .bool p0_16, .bool p0_17, .bool p0_18, .int .i64 p0_19]) (by kernel_rfl) (ResAt.box 2 46 b7 0 h175 (by kernel_rfl) (by kernel_rfl) rfl (by kernel_rfl) rfl) (by kernel_rfl) ?_
              obtain rfl := Option.some.inj h
              exact ⟨rfl, h175.below⟩
          · skip
            rcases of_cond h with ⟨hc41, h⟩ | ⟨hc41, h⟩
            · skip
              refine RegI.op (by kernel_rfl) (OpE.lookup (ek := (ekI .i64)) (ev := (fun (v : Value) => v)) (zv := .nilFunc) 17 3 85 3 82 p1 (.tuple #[.func (.func 62) #[] #[], .bool true]) true h38 (by kernel_rfl) rfl (by kernel_rfl) rfl (by kernel_rfl) (KeyOk.int .i64 (by kernel_rfl)) (fun _ => by kernel_rfl) (by simp only [findK, hc40, hc41, cond_true, cond_false, Option.map_some, Option.map_none, Option.getD_some, Option.getD_none, Option.isSome_some, Option.isSome_none]) ?_)
              refine RegI.pure 5 [0, 2, 7, 8] [(0, .pointer (some ⟨b12, 0, none⟩)), (2, .int .i64 (Int.fdiv p2 (2 ^ 1))), (7, .func (.func 62) #[] #[]), (8, .bool true)] (by kernel_rfl) ?_
              refine RegI.done (by kernel_rfl) ?_
              refine RunsI.go 1 [.c 9, .c 10, .c 16] (by kernel_rfl) ?_
              refine RunsI.region (by kernel_rfl) ?_
              refine RegI.pure 1 [0, 2, 7, 20] [(0, .pointer (some ⟨b12, 0, none⟩)), (2, .int .i64 (Int.fdiv p2 (2 ^ 1))), (7, .func (.func 62) #[] #[]), (20, .bool true)] (by kernel_rfl) ?_
              refine RegI.done (by kernel_rfl) ?_
              refine RunsI.cond true 11 (by kernel_rfl) ?_
              refine RunsI.go 1 [.c 12, .c 13, .c 16] (by kernel_rfl) ?_
              refine RunsI.region (by kernel_rfl) ?_
              refine RegI.pure 2 [21, 22] [(21, .func (.func 62) #[] #[]), (22, .pointer (some ⟨b12, 0, none⟩))] (by kernel_rfl) ?_
              refine RegI.enter 23 [] [] (by kernel_rfl) (by kernel_rfl) (by kernel_rfl) (by kernel_rfl) F62 62 rfl [.pointer (some ⟨b12, 0, none⟩)] (by kernel_rfl) (by kernel_rfl) ?_
              refine RunsI.go 1 [.c 1, .c 2] (by kernel_rfl) ?_
              refine RunsI.region (by kernel_rfl) ?_
              refine RegI.pure 1 [0] [(0, .pointer (some ⟨b12, 0, none⟩))] (by kernel_rfl) ?_
              refine RegI.done (by kernel_rfl) ?_
              refine RunsI.go 1 [.c 3, .c 4] (by kernel_rfl) ?_
              refine RunsI.region (by kernel_rfl) ?_
              refine RegI.pure 4 [2] [(2, .pointer (some ⟨b12, 9, none⟩))] (by kernel_rfl) ?_
              refine RegI.done (by kernel_rfl) ?_
              refine RunsI.ret (.pointer (some ⟨b12, 9, none⟩)) (by kernel_rfl) (by kernel_rfl) ?_
              refine cont_mk ?_
              refine RegI.pure 1 [6] [(6, .pointer (some ⟨b12, 9, none⟩))] (by kernel_rfl) ?_
              refine RegI.done (by kernel_rfl) ?_
              refine RunsI.ret (.pointer (some ⟨b12, 9, none⟩)) (by kernel_rfl) (by kernel_rfl) ?_
              refine cont_mk ?_
              refine RegI.pure 5 [6, 7] [(6, .pointer (some ⟨b12, 9, none⟩)), (7, .bool ((band .i64 p2 1) == 0))] (by kernel_rfl) ?_
              refine RegI.done (by kernel_rfl) ?_
              refine RunsI.ret (.tuple #[.pointer (some ⟨b12, 9, none⟩), .bool ((band .i64 p2 1) == 0)]) (by kernel_rfl) (by kernel_rfl) ?_
              refine cont_mk ?_
              refine RegI.pure 3 [3, 4, 8, 9, 18, 19] [(3, .int .u8 p3), (4, .pointer (some ⟨b2, 0, none⟩)), (8, .pointer (some ⟨b7, 0, none⟩)), (9, .pointer (some ⟨b12, 0, none⟩)), (18, .pointer (some ⟨b12, 9, none⟩)), (19, .bool ((band .i64 p2 1) == 0))] (by kernel_rfl) ?_
              refine RegI.op (by kernel_rfl) (OpE.box 10 65 [.pointer none] h38 (by kernel_rfl) (by kernel_rfl) ?_)
              intro w177 b178 h179 hb180 hn181
              refine RegI.op (by kernel_rfl) (OpE.storeBox 4 65 b178 0 (.pointer (some ⟨b12, 9, none⟩)) [.pointer (some ⟨b12, 9, none⟩)] h179 (by kernel_rfl) (by kernel_rfl) rfl (by kernel_rfl) (by kernel_rfl) (by kernel_rfl) ?_)
              intro w182 h183 hk184
              refine RegI.pure 1 [3, 4, 8, 9, 10, 11] [(3, .int .u8 p3), (4, .pointer (some ⟨b2, 0, none⟩)), (8, .pointer (some ⟨b7, 0, none⟩)), (9, .pointer (some ⟨b12, 0, none⟩)), (10, .pointer (some ⟨b178, 0, none⟩)), (11, .bool ((band .i64 p2 1) == 0))] (by kernel_rfl) ?_
              refine RegI.done (by kernel_rfl) ?_
              refine RunsI.go 2 [.c 8, .c 9, .c 14] (by kernel_rfl) ?_
              refine RunsI.region (by kernel_rfl) ?_
              refine RegI.op (by kernel_rfl) (OpE.loadBox 20 4 65 b178 0 (.pointer (some ⟨b12, 9, none⟩)) h183 (by kernel_rfl) (by kernel_rfl) rfl (by kernel_rfl) ?_)
              refine RegI.pure 1 [3, 4, 8, 9, 10, 11, 21] [(3, .int .u8 p3), (4, .pointer (some ⟨b2, 0, none⟩)), (8, .pointer (some ⟨b7, 0, none⟩)), (9, .pointer (some ⟨b12, 0, none⟩)), (10, .pointer (some ⟨b178, 0, none⟩)), (11, .bool ((band .i64 p2 1) == 0)), (21, .bool false)] (by kernel_rfl) ?_
              refine RegI.done (by kernel_rfl) ?_
              refine RunsI.cond false 13 (by kernel_rfl) ?_
              refine RunsI.go 2 [.c 15, .c 16] (by kernel_rfl) ?_
              refine RunsI.region (by kernel_rfl) ?_
              refine RegI.pure 2 [3, 8, 9, 10, 11, 12] [(3, .int .u8 p3), (8, .pointer (some ⟨b7, 0, none⟩)), (9, .pointer (some ⟨b12, 0, none⟩)), (10, .pointer (some ⟨b178, 0, none⟩)), (11, .bool ((band .i64 p2 1) == 0)), (12, .func (.func 55) #[] #[.pointer (some ⟨b178, 0, none⟩)])] (by kernel_rfl) ?_
              refine RegI.done (by kernel_rfl) ?_
              refine RunsI.go 2 [.c 18, .c 19, .c 22] (by kernel_rfl) ?_
              refine RunsI.region (by kernel_rfl) ?_
              refine RegI.pure 1 [3, 8, 9, 10, 12, 24] [(3, .int .u8 p3), (8, .pointer (some ⟨b7, 0, none⟩)), (9, .pointer (some ⟨b12, 0, none⟩)), (10, .pointer (some ⟨b178, 0, none⟩)), (12, .func (.func 55) #[] #[.pointer (some ⟨b178, 0, none⟩)]), (24, .bool ((band .i64 p2 1) == 0))] (by kernel_rfl) ?_
              refine RegI.done (by kernel_rfl) ?_
              rcases of_cond h with ⟨hc185, h⟩ | ⟨hc185, h⟩
              · skip
                refine RunsI.fix 24 true hc185 (by kernel_rfl) (by kernel_rfl) ?_
                refine RunsI.cond true 20 (by kernel_rfl) ?_
                refine RunsI.region (by kernel_rfl) ?_
                refine RegI.pure 2 [8, 9, 10, 25, 26] [(8, .pointer (some ⟨b7, 0, none⟩)), (9, .pointer (some ⟨b12, 0, none⟩)), (10, .pointer (some ⟨b178, 0, none⟩)), (25, .func (.func 55) #[] #[.pointer (some ⟨b178, 0, none⟩)]), (26, .int .u8 p3)] (by kernel_rfl) ?_
                refine RegI.op (by kernel_rfl) (OpE.loadBox 27 4 65 b178 0 (.pointer (some ⟨b12, 9, none⟩)) h183 (by kernel_rfl) (by kernel_rfl) rfl (by kernel_rfl) ?_)
                refine RegI.pure 1 [8, 9, 25, 26, 28] [(8, .pointer (some ⟨b7, 0, none⟩)), (9, .pointer (some ⟨b12, 0, none⟩)), (25, .func (.func 55) #[] #[.pointer (some ⟨b178, 0, none⟩)]), (26, .int .u8 p3), (28, .pointer (some ⟨b12, 9, none⟩))] (by kernel_rfl) ?_
                refine RegI.op (by kernel_rfl) (OpE.loadBox 29 0 22 b12 9 (.int .u16 p0_9) h183 (by kernel_rfl) (by kernel_rfl) rfl (by kernel_rfl) ?_)
                obtain ⟨t190, hg189, h⟩ := of_bind h
                refine RegI.op (by kernel_rfl) (OpE.call 30 (by kernel_rfl) 46 #[.int .u16 p0_9] (by kernel_rfl) ((bits_Lo_46_ok K _ w182  p0_9 h183.old' hg189).mono ?_))
                rintro _ w186 ⟨rfl, hb187⟩
                refine ⟨_, rfl, ?_⟩
                have h188 := h183.call hb187
                refine RegI.enter 31 [8, 9] [(8, .pointer (some ⟨b7, 0, none⟩)), (9, .pointer (some ⟨b12, 0, none⟩))] (by kernel_rfl) (by kernel_rfl) (by kernel_rfl) (by kernel_rfl) F55 55 rfl [.int .u8 p3, .int .u8 t190, .pointer (some ⟨b178, 0, none⟩)] (by kernel_rfl) (by kernel_rfl) ?_
                refine RunsI.any 6 (by kernel_rfl) (by kernel_rfl) (by kernel_rfl) (Kp ([] : List Nat) (World.drew w186)) ?_
                have h192 := h188.drew
                generalize World.drew w186 = w191 at h192 ⊢
                have hS193 := Kp.refl ([] : List Nat) w191
                refine AnyE.loadBox 0 5 4 65 b178 0 (.pointer (some ⟨b12, 9, none⟩)) [] h192 rfl (by kernel_rfl) hS193 rfl rfl (by kernel_rfl) (by kernel_rfl) ?_
                refine AnyE.pure 1 6 (.int .u8 p3) (by kernel_rfl) hS193 (fun _ => by kernel_rfl) ?_
                refine AnyE.pure 2 7 (.int .u8 t190) (by kernel_rfl) hS193 (fun _ => by kernel_rfl) ?_
                obtain ⟨t196, hg195, h⟩ := of_bind h
                refine AnyE.call 3 8 (.int .u16 t196) 56 #[.int .u8 p3, .int .u8 t190] (by kernel_rfl) hS193 (fun _ => by kernel_rfl) (fun w hk => bits_Word_56_ok K (fun _ => False) w p3 t190 (fun _ hf => hf.elim) hg195) ?_
                refine AnyE.pure 4 9 (.pointer (some ⟨b12, 9, none⟩)) (by kernel_rfl) hS193 (fun _ => by kernel_rfl) ?_
                refine AnyE.last 5 (by kernel_rfl) (by kernel_rfl) (fun w197 hu198 => ?_)
                have h199 := h192.call hu198
                have hS200 := hS193.up hu198
                refine OpE.storeBox 0 22 b12 9 (.int .u16 t196) [.int .u16 p0_0, .int .u16 p0_1, .int .u16 p0_2, .int .u16 p0_3, .int .u16 p0_4, .int .u16 p0_5, .int .u16 p0_6, .int .u16 p0_7, .int .u16 p0_8, .int .u16 t196, .int .u16 p0_10, .int .u16 p0_11, .int .u16 p0_12, .int .u8 p0_13, .int .u8 p0_14, .bool p0_15, .bool p0_16, .bool p0_17, .bool p0_18, .int .i64 p0_19] h199 (by kernel_rfl) (by kernel_rfl) rfl (by kernel_rfl) (by kernel_rfl) (by kernel_rfl) ?_
                intro w201 h202 hk203
                refine AnyE.done (by kernel_rfl) (fun w205 hu206 => ?_)
                have h207 := h202.call hu206
                refine RunsI.only [] [] (by kernel_rfl) (by kernel_rfl) ?_
                refine RunsI.ret (.tuple #[]) (by kernel_rfl) (by kernel_rfl) ?_
                refine cont_mk ?_
                refine RegI.done (by kernel_rfl) ?_
                refine RunsI.go 1 [.c 23, .c 24] (by kernel_rfl) ?_
                refine RunsI.region (by kernel_rfl) ?_
                refine RegI.op (by kernel_rfl) (OpE.loadBox 39 0 64 b12 0 (.agg #[.int .u16 p0_0, .int .u16 p0_1, .int .u16 p0_2, .int .u16 p0_3, .int .u16 p0_4, .int .u16 p0_5, .int .u16 p0_6, .int .u16 p0_7, .int .u16 p0_8, .int .u16 t196, .int .u16 p0_10, .int .u16 p0_11, .int .u16 p0_12, .int .u8 p0_13, .int .u8 p0_14, .bool p0_15, .bool p0_16, .bool p0_17, .bool p0_18, .int .i64 p0_19]) h207 (by kernel_rfl) (by kernel_rfl) rfl (by kernel_rfl) ?_)
                refine RegI.op (by kernel_rfl) (OpE.storeBox 2 46 b7 0 (.agg #[.int .u16 p0_0, .int .u16 p0_1, .int .u16 p0_2, .int .u16 p0_3, .int .u16 p0_4, .int .u16 p0_5, .int .u16 p0_6, .int .u16 p0_7, .int .u16 p0_8, .int .u16 t196, .int .u16 p0_10, .int .u16 p0_11, .int .u16 p0_12, .int .u8 p0_13, .int .u8 p0_14, .bool p0_15, .bool p0_16, .bool p0_17, .bool p0_18, .int .i64 p0_19]) [.int .u16 p0_0, .int .u16 p0_1, .int .u16 p0_2, .int .u16 p0_3, .int .u16 p0_4, .int .u16 p0_5, .int .u16 p0_6, .int .u16 p0_7, .int .u16 p0_8, .int .u16 t196, .int .u16 p0_10, .int .u16 p0_11, .int .u16 p0_12, .int .u8 p0_13, .int .u8 p0_14, .bool p0_15, .bool p0_16, .bool p0_17, .bool p0_18, .int .i64 p0_19] h207 (by kernel_rfl) (by kernel_rfl) rfl (by kernel_rfl) (by kernel_rfl) (by kernel_rfl) ?_)
                intro w230 h231 hk232
                refine RegI.done (by kernel_rfl) ?_
                refine RunsI.toRet (by kernel_rfl) ?_
                refine RetI.valW [.cell 8 46] [.agg #[.int .u16 p0_0, .int .u16 p0_1, .int .u16 p0_2, .int .u16 p0_3, .int .u16 p0_4, .int .u16 p0_5, .int .u16 p0_6, .int .u16 p0_7, .int .u16 p0_8, .int .u16 t196, .int .u16 p0_10, .int .u16 p0_11, .int .u16 p0_12, .int .u8 p0_13, .int .u8 p0_14, .bool p0_15, .bool p0_16, .bool p0_17, .bool p0_18, .int .i64 p0_19]] (.agg #[.int .u16 p0_0, .int .u16 p0_1, .int .u16 p0_2, .int .u16 p0_3, .int .u16 p0_4, .int .u16 p0_5, .int .u16 p0_6, .int .u16 p0_7, .int .u16 p0_8, .int .u16 t196, .int .u16 p0_10, .int .u16 p0_11, .int .u16 p0_12, .int .u8 p0_13, .int .u8 p0_14, .bool p0_15, .bool p0_16, .bool p0_17, .bool p0_18, .int .i64 p0_19]) (by kernel_rfl) (ResAt.box 2 46 b7 0 h231 (by kernel_rfl) (by kernel_rfl) rfl (by kernel_rfl) rfl) (by kernel_rfl) ?_
                obtain rfl := Option.some.inj h
                exact ⟨rfl, h231.below⟩
              · skip
                refine RunsI.fix 24 false hc185 (by kernel_rfl) (by kernel_rfl) ?_
                refine RunsI.cond false 21 (by kernel_rfl) ?_
                refine RunsI.region (by kernel_rfl) ?_
                refine RegI.pure 1 [3, 8, 9, 10, 32] [(3, .int .u8 p3), (8, .pointer (some ⟨b7, 0, none⟩)), (9, .pointer (some ⟨b12, 0, none⟩)), (10, .pointer (some ⟨b178, 0, none⟩)), (32, .func (.func 55) #[] #[.pointer (some ⟨b178, 0, none⟩)])] (by kernel_rfl) ?_
                refine RegI.op (by kernel_rfl) (OpE.loadBox 33 4 65 b178 0 (.pointer (some ⟨b12, 9, none⟩)) h183 (by kernel_rfl) (by kernel_rfl) rfl (by kernel_rfl) ?_)
                refine RegI.pure 1 [3, 8, 9, 32, 34] [(3, .int .u8 p3), (8, .pointer (some ⟨b7, 0, none⟩)), (9, .pointer (some ⟨b12, 0, none⟩)), (32, .func (.func 55) #[] #[.pointer (some ⟨b178, 0, none⟩)]), (34, .pointer (some ⟨b12, 9, none⟩))] (by kernel_rfl) ?_
                refine RegI.op (by kernel_rfl) (OpE.loadBox 35 0 22 b12 9 (.int .u16 p0_9) h183 (by kernel_rfl) (by kernel_rfl) rfl (by kernel_rfl) ?_)
                obtain ⟨t212, hg211, h⟩ := of_bind h
                refine RegI.op (by kernel_rfl) (OpE.call 36 (by kernel_rfl) 45 #[.int .u16 p0_9] (by kernel_rfl) ((bits_Hi_45_ok K _ w182  p0_9 h183.old' hg211).mono ?_))
                rintro _ w208 ⟨rfl, hb209⟩
                refine ⟨_, rfl, ?_⟩
                have h210 := h183.call hb209
                refine RegI.pure 1 [8, 9, 32, 36, 37] [(8, .pointer (some ⟨b7, 0, none⟩)), (9, .pointer (some ⟨b12, 0, none⟩)), (32, .func (.func 55) #[] #[.pointer (some ⟨b178, 0, none⟩)]), (36, .int .u8 t212), (37, .int .u8 p3)] (by kernel_rfl) ?_
                refine RegI.enter 38 [8, 9] [(8, .pointer (some ⟨b7, 0, none⟩)), (9, .pointer (some ⟨b12, 0, none⟩))] (by kernel_rfl) (by kernel_rfl) (by kernel_rfl) (by kernel_rfl) F55 55 rfl [.int .u8 t212, .int .u8 p3, .pointer (some ⟨b178, 0, none⟩)] (by kernel_rfl) (by kernel_rfl) ?_
                refine RunsI.any 6 (by kernel_rfl) (by kernel_rfl) (by kernel_rfl) (Kp ([] : List Nat) (World.drew w208)) ?_
                have h214 := h210.drew
                generalize World.drew w208 = w213 at h214 ⊢
                have hS215 := Kp.refl ([] : List Nat) w213
                refine AnyE.loadBox 0 5 4 65 b178 0 (.pointer (some ⟨b12, 9, none⟩)) [] h214 rfl (by kernel_rfl) hS215 rfl rfl (by kernel_rfl) (by kernel_rfl) ?_
                refine AnyE.pure 1 6 (.int .u8 t212) (by kernel_rfl) hS215 (fun _ => by kernel_rfl) ?_
                refine AnyE.pure 2 7 (.int .u8 p3) (by kernel_rfl) hS215 (fun _ => by kernel_rfl) ?_
                obtain ⟨t218, hg217, h⟩ := of_bind h
                refine AnyE.call 3 8 (.int .u16 t218) 56 #[.int .u8 t212, .int .u8 p3] (by kernel_rfl) hS215 (fun _ => by kernel_rfl) (fun w hk => bits_Word_56_ok K (fun _ => False) w t212 p3 (fun _ hf => hf.elim) hg217) ?_
                refine AnyE.pure 4 9 (.pointer (some ⟨b12, 9, none⟩)) (by kernel_rfl) hS215 (fun _ => by kernel_rfl) ?_
                refine AnyE.last 5 (by kernel_rfl) (by kernel_rfl) (fun w219 hu220 => ?_)
                have h221 := h214.call hu220
                have hS222 := hS215.up hu220
                refine OpE.storeBox 0 22 b12 9 (.int .u16 t218) [.int .u16 p0_0, .int .u16 p0_1, .int .u16 p0_2, .int .u16 p0_3, .int .u16 p0_4, .int .u16 p0_5, .int .u16 p0_6, .int .u16 p0_7, .int .u16 p0_8, .int .u16 t218, .int .u16 p0_10, .int .u16 p0_11, .int .u16 p0_12, .int .u8 p0_13, .int .u8 p0_14, .bool p0_15, .bool p0_16, .bool p0_17, .bool p0_18, .int .i64 p0_19] h221 (by kernel_rfl) (by kernel_rfl) rfl (by kernel_rfl) (by kernel_rfl) (by kernel_rfl) ?_
                intro w223 h224 hk225
                refine AnyE.done (by kernel_rfl) (fun w227 hu228 => ?_)
                have h229 := h224.call hu228
                refine RunsI.only [] [] (by kernel_rfl) (by kernel_rfl) ?_
                refine RunsI.ret (.tuple #[]) (by kernel_rfl) (by kernel_rfl) ?_
                refine cont_mk ?_
                refine RegI.done (by kernel_rfl) ?_
                refine RunsI.go 1 [.c 23, .c 24] (by kernel_rfl) ?_
                refine RunsI.region (by kernel_rfl) ?_
                refine RegI.op (by kernel_rfl) (OpE.loadBox 39 0 64 b12 0 (.agg #[.int .u16 p0_0, .int .u16 p0_1, .int .u16 p0_2, .int .u16 p0_3, .int .u16 p0_4, .int .u16 p0_5, .int .u16 p0_6, .int .u16 p0_7, .int .u16 p0_8, .int .u16 t218, .int .u16 p0_10, .int .u16 p0_11, .int .u16 p0_12, .int .u8 p0_13, .int .u8 p0_14, .bool p0_15, .bool p0_16, .bool p0_17, .bool p0_18, .int .i64 p0_19]) h229 (by kernel_rfl) (by kernel_rfl) rfl (by kernel_rfl) ?_)
                refine RegI.op (by kernel_rfl) (OpE.storeBox 2 46 b7 0 (.agg #[.int .u16 p0_0, .int .u16 p0_1, .int .u16 p0_2, .int .u16 p0_3, .int .u16 p0_4, .int .u16 p0_5, .int .u16 p0_6, .int .u16 p0_7, .int .u16 p0_8, .int .u16 t218, .int .u16 p0_10, .int .u16 p0_11, .int .u16 p0_12, .int .u8 p0_13, .int .u8 p0_14, .bool p0_15, .bool p0_16, .bool p0_17, .bool p0_18, .int .i64 p0_19]) [.int .u16 p0_0, .int .u16 p0_1, .int .u16 p0_2, .int .u16 p0_3, .int .u16 p0_4, .int .u16 p0_5, .int .u16 p0_6, .int .u16 p0_7, .int .u16 p0_8, .int .u16 t218, .int .u16 p0_10, .int .u16 p0_11, .int .u16 p0_12, .int .u8 p0_13, .int .u8 p0_14, .bool p0_15, .bool p0_16, .bool p0_17, .bool p0_18, .int .i64 p0_19] h229 (by kernel_rfl) (by kernel_rfl) rfl (by kernel_rfl) (by kernel_rfl) (by kernel_rfl) ?_)
                intro w233 h234 hk235
                refine RegI.done (by kernel_rfl) ?_
                refine RunsI.toRet (by kernel_rfl) ?_
                refine RetI.valW [.cell 8 46] [.agg #[.int .u16 p0_0, .int .u16 p0_1, .int .u16 p0_2, .int .u16 p0_3, .int .u16 p0_4, .int .u16 p0_5, .int .u16 p0_6, .int .u16 p0_7, .int .u16 p0_8, .int .u16 t218, .int .u16 p0_10, .int .u16 p0_11, .int .u16 p0_12, .int .u8 p0_13, .int .u8 p0_14, .bool p0_15, .bool p0_16, .bool p0_17, .bool p0_18, .int .i64 p0_19]] (.agg #[.int .u16 p0_0, .int .u16 p0_1, .int .u16 p0_2, .int .u16 p0_3, .int .u16 p0_4, .int .u16 p0_5, .int .u16 p0_6, .int .u16 p0_7, .int .u16 p0_8, .int .u16 t218, .int .u16 p0_10, .int .u16 p0_11, .int .u16 p0_12, .int .u8 p0_13, .int .u8 p0_14, .bool p0_15, .bool p0_16, .bool p0_17, .bool p0_18, .int .i64 p0_19]) (by kernel_rfl) (ResAt.box 2 46 b7 0 h234 (by kernel_rfl) (by kernel_rfl) rfl (by kernel_rfl) rfl) (by kernel_rfl) ?_
                obtain rfl := Option.some.inj h
                exact ⟨rfl, h234.below⟩
            · skip
              refine RegI.op (by kernel_rfl) (OpE.lookup (ek := (ekI .i64)) (ev := (fun (v : Value) => v)) (zv := .nilFunc) 17 3 85 3 82 p1 (.tuple #[.nilFunc, .bool false]) true h38 (by kernel_rfl) rfl (by kernel_rfl) rfl (by kernel_rfl) (KeyOk.int .i64 (by kernel_rfl)) (fun _ => by kernel_rfl) (by simp only [findK, hc40, hc41, cond_true, cond_false, Option.map_some, Option.map_none, Option.getD_some, Option.getD_none, Option.isSome_some, Option.isSome_none]) ?_)
              refine RegI.pure 5 [0, 2, 7, 8] [(0, .pointer (some ⟨b12, 0, none⟩)), (2, .int .i64 (Int.fdiv p2 (2 ^ 1))), (7, .nilFunc), (8, .bool false)] (by kernel_rfl) ?_
              refine RegI.done (by kernel_rfl) ?_
              refine RunsI.go 1 [.c 9, .c 10, .c 16] (by kernel_rfl) ?_
              refine RunsI.region (by kernel_rfl) ?_
              refine RegI.pure 1 [0, 2, 7, 20] [(0, .pointer (some ⟨b12, 0, none⟩)), (2, .int .i64 (Int.fdiv p2 (2 ^ 1))), (7, .nilFunc), (20, .bool false)] (by kernel_rfl) ?_
              refine RegI.done (by kernel_rfl) ?_
              refine RunsI.cond false 14 (by kernel_rfl) ?_
              refine RunsI.go 1 [.c 16] (by kernel_rfl) ?_
              refine RunsI.only [0, 2] [(0, .pointer (some ⟨b12, 0, none⟩)), (2, .int .i64 (Int.fdiv p2 (2 ^ 1)))] (by kernel_rfl) (by kernel_rfl) ?_
              exact hj46 w37 h (h38.pick [0, 1, 2] (by decide))
        · skip
          refine RunsI.fix 12 false hc28 (by kernel_rfl) (by kernel_rfl) ?_
          refine RunsI.cond false 15 (by kernel_rfl) ?_
          refine RunsI.go 1 [.c 16] (by kernel_rfl) ?_
          refine RunsI.only [0, 2] [(0, .pointer (some ⟨b12, 0, none⟩)), (2, .int .i64 (Int.fdiv p2 (2 ^ 1)))] (by kernel_rfl) (by kernel_rfl) ?_
          exact hj46 w23 h (h22.pick [0, 1, 2] (by decide))
    clear hJ25
    rcases of_cond h with ⟨hc20, h⟩ | ⟨hc20, h⟩
    · skip
      refine RegI.fix 17 true hc20 (by kernel_rfl) (by kernel_rfl) ?_
      refine RegI.pure 4 [0, 1, 2, 14] [(0, .pointer (some ⟨b12, 0, none⟩)), (1, .int .i64 p1), (2, .int .i64 p2), (14, .bool true)] (by kernel_rfl) ?_
      refine RegI.only [0, 1, 2, 14] [(0, .pointer (some ⟨b12, 0, none⟩)), (1, .int .i64 p1), (2, .int .i64 p2), (14, .bool true)] (by kernel_rfl) (by kernel_rfl) ?_
      exact hj26 true w16 h (h17.pick [2, 0, 1] (by decide))
    · skip
      refine RegI.fix 17 false hc20 (by kernel_rfl) (by kernel_rfl) ?_
      refine RegI.pure 4 [0, 1, 2, 14] [(0, .pointer (some ⟨b12, 0, none⟩)), (1, .int .i64 p1), (2, .int .i64 p2), (14, .bool (decide (p2 > 5)))] (by kernel_rfl) ?_
      refine RegI.only [0, 1, 2, 14] [(0, .pointer (some ⟨b12, 0, none⟩)), (1, .int .i64 p1), (2, .int .i64 p2), (14, .bool (decide (p2 > 5)))] (by kernel_rfl) (by kernel_rfl) ?_
      exact hj26 (decide (p2 > 5)) w16 h (h17.pick [2, 0, 1] (by decide))
end

/-! ### charabanc/regs.SetPair (function 40) -/
section
def regs_SetPair_40.post (M0 : Nat → Prop) (w0 : World) (r : Int × Int × Int × Int × Int × Int × Int × Int × Int × Int × Int × Int × Int × Int × Int × Bool × Bool × Bool × Bool × Int) : Ending → World → Prop := fun e w => e = .returned (.agg #[.int .u16 r.1, .int .u16 r.2.1, .int .u16 r.2.2.1, .int .u16 r.2.2.2.1, .int .u16 r.2.2.2.2.1, .int .u16 r.2.2.2.2.2.1, .int .u16 r.2.2.2.2.2.2.1, .int .u16 r.2.2.2.2.2.2.2.1, .int .u16 r.2.2.2.2.2.2.2.2.1, .int .u16 r.2.2.2.2.2.2.2.2.2.1, .int .u16 r.2.2.2.2.2.2.2.2.2.2.1, .int .u16 r.2.2.2.2.2.2.2.2.2.2.2.1, .int .u16 r.2.2.2.2.2.2.2.2.2.2.2.2.1, .int .u8 r.2.2.2.2.2.2.2.2.2.2.2.2.2.1, .int .u8 r.2.2.2.2.2.2.2.2.2.2.2.2.2.2.1, .bool r.2.2.2.2.2.2.2.2.2.2.2.2.2.2.2.1, .bool r.2.2.2.2.2.2.2.2.2.2.2.2.2.2.2.2.1, .bool r.2.2.2.2.2.2.2.2.2.2.2.2.2.2.2.2.2.1, .bool r.2.2.2.2.2.2.2.2.2.2.2.2.2.2.2.2.2.2.1, .int .i64 r.2.2.2.2.2.2.2.2.2.2.2.2.2.2.2.2.2.2.2]) ∧ Below w0.heap.size w0 w
def regs_SetPair_40.f (K : Nat) (p0_0 : Int) (p0_1 : Int) (p0_2 : Int) (p0_3 : Int) (p0_4 : Int) (p0_5 : Int) (p0_6 : Int) (p0_7 : Int) (p0_8 : Int) (p0_9 : Int) (p0_10 : Int) (p0_11 : Int) (p0_12 : Int) (p0_13 : Int) (p0_14 : Int) (p0_15 : Bool) (p0_16 : Bool) (p0_17 : Bool) (p0_18 : Bool) (p0_19 : Int) (p1 : Int) (p2 : Int) (p3 : Int) : Option (Int × Int × Int × Int × Int × Int × Int × Int × Int × Int × Int × Int × Int × Int × Int × Bool × Bool × Bool × Bool × Int) := Let (fun (_ : Unit) => cond (p2 == 0) (some (p0_0, p3, p0_2, p0_3, p0_4, p0_5, p0_6, p0_7, p0_8, p0_9, p0_10, p0_11, p0_12, p0_13, p0_14, p0_15, p0_16, p0_17, p0_18, p0_19)) (cond (p2 == 1) (some (p0_0, p0_1, p3, p0_3, p0_4, p0_5, p0_6, p0_7, p0_8, p0_9, p0_10, p0_11, p0_12, p0_13, p0_14, p0_15, p0_16, p0_17, p0_18, p0_19)) (cond (p2 == 2) (some (p0_0, p0_1, p0_2, p3, p0_4, p0_5, p0_6, p0_7, p0_8, p0_9, p0_10, p0_11, p0_12, p0_13, p0_14, p0_15, p0_16, p0_17, p0_18, p0_19)) (cond (p2 == 3) (some (p0_0, p0_1, p0_2, p0_3, p0_4, p0_5, p0_6, p0_7, p0_8, p0_9, p3, p0_11, p0_12, p0_13, p0_14, p0_15, p0_16, p0_17, p0_18, p0_19)) (some (p0_0, p0_1, p0_2, p0_3, p0_4, p0_5, p0_6, p0_7, p0_8, p0_9, p0_10, p0_11, p0_12, p0_13, p0_14, p0_15, p0_16, p0_17, p0_18, p0_19)))))) (fun j35 => cond (p2 == 2) (cond (p1 == 3) (some (p0_0, p0_1, p0_2, p0_3, p0_4, p0_5, p0_6, p0_7, p3, p0_9, p0_10, p0_11, p0_12, p0_13, p0_14, p0_15, p0_16, p0_17, p0_18, p0_19)) (cond (p1 == 4) (some (p0_0, p0_1, p0_2, p0_3, p0_4, p0_5, p0_6, p0_7, p0_8, p3, p0_10, p0_11, p0_12, p0_13, p0_14, p0_15, p0_16, p0_17, p0_18, p0_19)) (j35 ()))) (j35 ()))
set_option maxRecDepth 100000 in
theorem regs_SetPair_40_ok (K : Nat) (M0 : Nat → Prop) (w0 : World) (p0_0 : Int) (p0_1 : Int) (p0_2 : Int) (p0_3 : Int) (p0_4 : Int) (p0_5 : Int) (p0_6 : Int) (p0_7 : Int) (p0_8 : Int) (p0_9 : Int) (p0_10 : Int) (p0_11 : Int) (p0_12 : Int) (p0_13 : Int) (p0_14 : Int) (p0_15 : Bool) (p0_16 : Bool) (p0_17 : Bool) (p0_18 : Bool) (p0_19 : Int) (p1 : Int) (p2 : Int) (p3 : Int) (ho : ∀ b, M0 b → b < w0.heap.size) {r : Int × Int × Int × Int × Int × Int × Int × Int × Int × Int × Int × Int × Int × Int × Int × Bool × Bool × Bool × Bool × Int} (h : regs_SetPair_40.f K p0_0 p0_1 p0_2 p0_3 p0_4 p0_5 p0_6 p0_7 p0_8 p0_9 p0_10 p0_11 p0_12 p0_13 p0_14 p0_15 p0_16 p0_17 p0_18 p0_19 p1 p2 p3 = some r) :
    Calls Tryd.prog 40 #[.agg #[.int .u16 p0_0, .int .u16 p0_1, .int .u16 p0_2, .int .u16 p0_3, .int .u16 p0_4, .int .u16 p0_5, .int .u16 p0_6, .int .u16 p0_7, .int .u16 p0_8, .int .u16 p0_9, .int .u16 p0_10, .int .u16 p0_11, .int .u16 p0_12, .int .u8 p0_13, .int .u8 p0_14, .bool p0_15, .bool p0_16, .bool p0_17, .bool p0_18, .int .i64 p0_19], .int .i64 p1, .int .i64 p2, .int .u16 p3] w0 (regs_SetPair_40.post M0 w0 r) := by
  unfold regs_SetPair_40.f at h
  have h0 : Holds M0 w0 w0 [] := Holds.start ho
  have h0 : Holds M0 w0 w0 [] := h0
  refine calls_of F40 rfl [.agg #[.int .u16 p0_0, .int .u16 p0_1, .int .u16 p0_2, .int .u16 p0_3, .int .u16 p0_4, .int .u16 p0_5, .int .u16 p0_6, .int .u16 p0_7, .int .u16 p0_8, .int .u16 p0_9, .int .u16 p0_10, .int .u16 p0_11, .int .u16 p0_12, .int .u8 p0_13, .int .u8 p0_14, .bool p0_15, .bool p0_16, .bool p0_17, .bool p0_18, .int .i64 p0_19], .int .i64 p1, .int .i64 p2, .int .u16 p3] (by kernel_rfl) ?_
  refine RunsI.go 1 [.c 1, .c 2] (by kernel_rfl) ?_
  refine RunsI.region (by kernel_rfl) ?_
  refine RegI.op (by kernel_rfl) (OpE.box 4 46 [.int .u16 p0_0, .int .u16 p0_1, .int .u16 p0_2, .int .u16 p0_3, .int .u16 p0_4, .int .u16 p0_5, .int .u16 p0_6, .int .u16 p0_7, .int .u16 p0_8, .int .u16 p0_9, .int .u16 p0_10, .int .u16 p0_11, .int .u16 p0_12, .int .u8 p0_13, .int .u8 p0_14, .bool p0_15, .bool p0_16, .bool p0_17, .bool p0_18, .int .i64 p0_19] h0 (by kernel_rfl) (by kernel_rfl) ?_)
  intro w1 b2 h3 hb4 hn5
  refine RegI.op (by kernel_rfl) (OpE.box 8 46 [.int .u16 0, .int .u16 0, .int .u16 0, .int .u16 0, .int .u16 0, .int .u16 0, .int .u16 0, .int .u16 0, .int .u16 0, .int .u16 0, .int .u16 0, .int .u16 0, .int .u16 0, .int .u8 0, .int .u8 0, .bool false, .bool false, .bool false, .bool false, .int .i64 0] h3 (by kernel_rfl) (by kernel_rfl) ?_)
  intro w6 b7 h8 hb9 hn10
  refine RegI.done (by kernel_rfl) ?_
  refine RunsI.go 1 [.c 3, .c 4] (by kernel_rfl) ?_
  refine RunsI.region (by kernel_rfl) ?_
  refine RegI.op (by kernel_rfl) (OpE.loadBox 11 0 46 b2 0 (.agg #[.int .u16 p0_0, .int .u16 p0_1, .int .u16 p0_2, .int .u16 p0_3, .int .u16 p0_4, .int .u16 p0_5, .int .u16 p0_6, .int .u16 p0_7, .int .u16 p0_8, .int .u16 p0_9, .int .u16 p0_10, .int .u16 p0_11, .int .u16 p0_12, .int .u8 p0_13, .int .u8 p0_14, .bool p0_15, .bool p0_16, .bool p0_17, .bool p0_18, .int .i64 p0_19]) h8 (by kernel_rfl) (by kernel_rfl) rfl (by kernel_rfl) ?_)
  refine RegI.op (by kernel_rfl) (OpE.box 9 64 [.int .u16 0, .int .u16 0, .int .u16 0, .int .u16 0, .int .u16 0, .int .u16 0, .int .u16 0, .int .u16 0, .int .u16 0, .int .u16 0, .int .u16 0, .int .u16 0, .int .u16 0, .int .u8 0, .int .u8 0, .bool false, .bool false, .bool false, .bool false, .int .i64 0] h8 (by kernel_rfl) (by kernel_rfl) ?_)
  intro w11 b12 h13 hb14 hn15
  refine RegI.op (by kernel_rfl) (OpE.storeBox 2 64 b12 0 (.agg #[.int .u16 p0_0, .int .u16 p0_1, .int .u16 p0_2, .int .u16 p0_3, .int .u16 p0_4, .int .u16 p0_5, .int .u16 p0_6, .int .u16 p0_7, .int .u16 p0_8, .int .u16 p0_9, .int .u16 p0_10, .int .u16 p0_11, .int .u16 p0_12, .int .u8 p0_13, .int .u8 p0_14, .bool p0_15, .bool p0_16, .bool p0_17, .bool p0_18, .int .i64 p0_19]) [.int .u16 p0_0, .int .u16 p0_1, .int .u16 p0_2, .int .u16 p0_3, .int .u16 p0_4, .int .u16 p0_5, .int .u16 p0_6, .int .u16 p0_7, .int .u16 p0_8, .int .u16 p0_9, .int .u16 p0_10, .int .u16 p0_11, .int .u16 p0_12, .int .u8 p0_13, .int .u8 p0_14, .bool p0_15, .bool p0_16, .bool p0_17, .bool p0_18, .int .i64 p0_19] h13 (by kernel_rfl) (by kernel_rfl) rfl (by kernel_rfl) (by kernel_rfl) (by kernel_rfl) ?_)
  intro w16 h17 hk18
  refine RegI.done (by kernel_rfl) ?_
  refine RunsI.go 2 [.c 6, .c 7, .c 12] (by kernel_rfl) ?_
  refine RunsI.region (by kernel_rfl) ?_
  refine RegI.pure 2 [3, 8, 9, 12, 13] [(3, .int .u16 p3), (8, .pointer (some ⟨b7, 0, none⟩)), (9, .pointer (some ⟨b12, 0, none⟩)), (12, .int .i64 p1), (13, .int .i64 p2)] (by kernel_rfl) ?_
  refine RegI.enter 14 [3, 8, 9] [(3, .int .u16 p3), (8, .pointer (some ⟨b7, 0, none⟩)), (9, .pointer (some ⟨b12, 0, none⟩))] (by kernel_rfl) (by kernel_rfl) (by kernel_rfl) (by kernel_rfl) F49 49 rfl [.pointer (some ⟨b12, 0, none⟩), .int .i64 p1, .int .i64 p2] (by kernel_rfl) (by kernel_rfl) ?_
  refine RunsI.go 1 [.c 1, .c 2] (by kernel_rfl) ?_
  refine RunsI.region (by kernel_rfl) ?_
  refine RegI.pure 1 [0, 1, 2] [(0, .pointer (some ⟨b12, 0, none⟩)), (1, .int .i64 p1), (2, .int .i64 p2)] (by kernel_rfl) ?_
  refine RegI.done (by kernel_rfl) ?_
  refine RunsI.go 2 [.c 4, .c 5, .c 16] (by kernel_rfl) ?_
  refine RunsI.region (by kernel_rfl) ?_
  refine RegI.pure 2 [0, 1, 2, 12] [(0, .pointer (some ⟨b12, 0, none⟩)), (1, .int .i64 p1), (2, .int .i64 p2), (12, .bool (p2 == 2))] (by kernel_rfl) ?_
  refine RegI.done (by kernel_rfl) ?_
  obtain ⟨j35, hJ36, h⟩ := of_let h
  have hj37 : ∀ (w34 : World), j35 () = some r → Holds M0 w0 w34 [box b12 64 [.int .u16 p0_0, .int .u16 p0_1, .int .u16 p0_2, .int .u16 p0_3, .int .u16 p0_4, .int .u16 p0_5, .int .u16 p0_6, .int .u16 p0_7, .int .u16 p0_8, .int .u16 p0_9, .int .u16 p0_10, .int .u16 p0_11, .int .u16 p0_12, .int .u8 p0_13, .int .u8 p0_14, .bool p0_15, .bool p0_16, .bool p0_17, .bool p0_18, .int .i64 p0_19], box b7 46 [.int .u16 0, .int .u16 0, .int .u16 0, .int .u16 0, .int .u16 0, .int .u16 0, .int .u16 0, .int .u16 0, .int .u16 0, .int .u16 0, .int .u16 0, .int .u16 0, .int .u16 0, .int .u8 0, .int .u8 0, .bool false, .bool false, .bool false, .bool false, .int .i64 0]] → RunsI F49 [.c 16] [(0, .pointer (some ⟨b12, 0, none⟩)), (2, .int .i64 p2)] w34 (cont (fun e' w' => RegI F40 6 [.c 7, .c 12] 3 e' w' (regs_SetPair_40.post M0 w0 r)) 14 [(3, .int .u16 p3), (8, .pointer (some ⟨b7, 0, none⟩)), (9, .pointer (some ⟨b12, 0, none⟩))]) := by
    intro w34 h h33
    rw [hJ36] at h
    clear hJ36
    dsimp only at h
    refine RunsI.go 1 [.c 17, .c 18] (by kernel_rfl) ?_
    refine RunsI.region (by kernel_rfl) ?_
    refine RegI.op (by kernel_rfl) (OpE.makeMap 25 (ekI .i64) (fun (v : Value) => v) h33 (by kernel_rfl) (by kernel_rfl) ?_)
    intro w38 b39 h40 hb41 hn42
    refine RegI.op (by kernel_rfl) (OpE.mapSet (ek := (ekI .i64)) (ev := (fun (v : Value) => v)) 2 85 3 82 0 (.func (.func 63) #[] #[]) h40 (by kernel_rfl) rfl (by kernel_rfl) rfl rfl (by kernel_rfl) (KeyOk.int .i64 (by kernel_rfl)) [(0, .func (.func 63) #[] #[])] (by kernel_rfl) ?_)
    intro w43 h44 hk45
    refine RegI.op (by kernel_rfl) (OpE.mapSet (ek := (ekI .i64)) (ev := (fun (v : Value) => v)) 2 85 3 82 1 (.func (.func 64) #[] #[]) h44 (by kernel_rfl) rfl (by kernel_rfl) rfl rfl (by kernel_rfl) (KeyOk.int .i64 (by kernel_rfl)) [(0, .func (.func 63) #[] #[]), (1, .func (.func 64) #[] #[])] (by kernel_rfl) ?_)
    intro w46 h47 hk48
    refine RegI.op (by kernel_rfl) (OpE.mapSet (ek := (ekI .i64)) (ev := (fun (v : Value) => v)) 2 85 3 82 2 (.func (.func 65) #[] #[]) h47 (by kernel_rfl) rfl (by kernel_rfl) rfl rfl (by kernel_rfl) (KeyOk.int .i64 (by kernel_rfl)) [(0, .func (.func 63) #[] #[]), (1, .func (.func 64) #[] #[]), (2, .func (.func 65) #[] #[])] (by kernel_rfl) ?_)
    intro w49 h50 hk51
    refine RegI.op (by kernel_rfl) (OpE.mapSet (ek := (ekI .i64)) (ev := (fun (v : Value) => v)) 2 85 3 82 3 (.func (.func 66) #[] #[]) h50 (by kernel_rfl) rfl (by kernel_rfl) rfl rfl (by kernel_rfl) (KeyOk.int .i64 (by kernel_rfl)) [(0, .func (.func 63) #[] #[]), (1, .func (.func 64) #[] #[]), (2, .func (.func 65) #[] #[]), (3, .func (.func 66) #[] #[])] (by kernel_rfl) ?_)
    intro w52 h53 hk54
    refine RegI.pure 2 [0, 26, 27] [(0, .pointer (some ⟨b12, 0, none⟩)), (26, .map (some b39)), (27, .int .i64 p2)] (by kernel_rfl) ?_
    rcases of_cond h with ⟨hc55, h⟩ | ⟨hc55, h⟩
    · skip
      refine RegI.op (by kernel_rfl) (OpE.lookup (ek := (ekI .i64)) (ev := (fun (v : Value) => v)) (zv := .nilFunc) 28 2 85 3 82 p2 (.tuple #[.func (.func 63) #[] #[], .bool true]) true h53 (by kernel_rfl) rfl (by kernel_rfl) rfl (by kernel_rfl) (KeyOk.int .i64 (by kernel_rfl)) (fun _ => by kernel_rfl) (by simp only [findK, hc55, cond_true, cond_false, Option.map_some, Option.map_none, Option.getD_some, Option.getD_none, Option.isSome_some, Option.isSome_none]) ?_)
      refine RegI.pure 5 [0, 9, 10] [(0, .pointer (some ⟨b12, 0, none⟩)), (9, .func (.func 63) #[] #[]), (10, .bool true)] (by kernel_rfl) ?_
      refine RegI.done (by kernel_rfl) ?_
      refine RunsI.go 2 [.c 20, .c 21, .c 26] (by kernel_rfl) ?_
      refine RunsI.region (by kernel_rfl) ?_
      refine RegI.pure 2 [0, 9, 32] [(0, .pointer (some ⟨b12, 0, none⟩)), (9, .func (.func 63) #[] #[]), (32, .bool false)] (by kernel_rfl) ?_
      refine RegI.done (by kernel_rfl) ?_
      refine RunsI.cond false 25 (by kernel_rfl) ?_
      refine RunsI.go 2 [.c 27, .c 28] (by kernel_rfl) ?_
      refine RunsI.region (by kernel_rfl) ?_
      refine RegI.pure 2 [33, 34] [(33, .func (.func 63) #[] #[]), (34, .pointer (some ⟨b12, 0, none⟩))] (by kernel_rfl) ?_
      refine RegI.enter 35 [] [] (by kernel_rfl) (by kernel_rfl) (by kernel_rfl) (by kernel_rfl) F63 63 rfl [.pointer (some ⟨b12, 0, none⟩)] (by kernel_rfl) (by kernel_rfl) ?_
      refine RunsI.go 1 [.c 1, .c 2] (by kernel_rfl) ?_
      refine RunsI.region (by kernel_rfl) ?_
      refine RegI.pure 1 [0] [(0, .pointer (some ⟨b12, 0, none⟩))] (by kernel_rfl) ?_
      refine RegI.done (by kernel_rfl) ?_
      refine RunsI.go 1 [.c 3, .c 4] (by kernel_rfl) ?_
      refine RunsI.region (by kernel_rfl) ?_
      refine RegI.pure 4 [2] [(2, .pointer (some ⟨b12, 1, none⟩))] (by kernel_rfl) ?_
      refine RegI.done (by kernel_rfl) ?_
      refine RunsI.ret (.pointer (some ⟨b12, 1, none⟩)) (by kernel_rfl) (by kernel_rfl) ?_
      refine cont_mk ?_
      refine RegI.pure 1 [6] [(6, .pointer (some ⟨b12, 1, none⟩))] (by kernel_rfl) ?_
      refine RegI.done (by kernel_rfl) ?_
      refine RunsI.ret (.pointer (some ⟨b12, 1, none⟩)) (by kernel_rfl) (by kernel_rfl) ?_
      refine cont_mk ?_
      refine RegI.pure 1 [3, 8, 9, 10] [(3, .int .u16 p3), (8, .pointer (some ⟨b7, 0, none⟩)), (9, .pointer (some ⟨b12, 0, none⟩)), (10, .pointer (some ⟨b12, 1, none⟩))] (by kernel_rfl) ?_
      refine RegI.done (by kernel_rfl) ?_
      refine RunsI.go 1 [.c 8, .c 9, .c 12] (by kernel_rfl) ?_
      refine RunsI.region (by kernel_rfl) ?_
      refine RegI.pure 2 [3, 8, 9, 10, 16] [(3, .int .u16 p3), (8, .pointer (some ⟨b7, 0, none⟩)), (9, .pointer (some ⟨b12, 0, none⟩)), (10, .pointer (some ⟨b12, 1, none⟩)), (16, .bool true)] (by kernel_rfl) ?_
      refine RegI.done (by kernel_rfl) ?_
      refine RunsI.cond true 10 (by kernel_rfl) ?_
      refine RunsI.region (by kernel_rfl) ?_
      refine RegI.pure 3 [8, 9, 18, 19] [(8, .pointer (some ⟨b7, 0, none⟩)), (9, .pointer (some ⟨b12, 0, none⟩)), (18, .int .u16 p3), (19, .pointer (some ⟨b12, 1, none⟩))] (by kernel_rfl) ?_
      refine RegI.op (by kernel_rfl) (OpE.storeBox 0 22 b12 1 (.int .u16 p3) [.int .u16 p0_0, .int .u16 p3, .int .u16 p0_2, .int .u16 p0_3, .int .u16 p0_4, .int .u16 p0_5, .int .u16 p0_6, .int .u16 p0_7, .int .u16 p0_8, .int .u16 p0_9, .int .u16 p0_10, .int .u16 p0_11, .int .u16 p0_12, .int .u8 p0_13, .int .u8 p0_14, .bool p0_15, .bool p0_16, .bool p0_17, .bool p0_18, .int .i64 p0_19] h53 (by kernel_rfl) (by kernel_rfl) rfl (by kernel_rfl) (by kernel_rfl) (by kernel_rfl) ?_)
      intro w71 h72 hk73
      refine RegI.done (by kernel_rfl) ?_
      refine RunsI.go 1 [.c 13, .c 14] (by kernel_rfl) ?_
      refine RunsI.region (by kernel_rfl) ?_
      refine RegI.op (by kernel_rfl) (OpE.loadBox 20 0 64 b12 0 (.agg #[.int .u16 p0_0, .int .u16 p3, .int .u16 p0_2, .int .u16 p0_3, .int .u16 p0_4, .int .u16 p0_5, .int .u16 p0_6, .int .u16 p0_7, .int .u16 p0_8, .int .u16 p0_9, .int .u16 p0_10, .int .u16 p0_11, .int .u16 p0_12, .int .u8 p0_13, .int .u8 p0_14, .bool p0_15, .bool p0_16, .bool p0_17, .bool p0_18, .int .i64 p0_19]) h72 (by kernel_rfl) (by kernel_rfl) rfl (by kernel_rfl) ?_)
      refine RegI.op (by kernel_rfl) (OpE.storeBox 1 46 b7 0 (.agg #[.int .u16 p0_0, .int .u16 p3, .int .u16 p0_2, .int .u16 p0_3, .int .u16 p0_4, .int .u16 p0_5, .int .u16 p0_6, .int .u16 p0_7, .int .u16 p0_8, .int .u16 p0_9, .int .u16 p0_10, .int .u16 p0_11, .int .u16 p0_12, .int .u8 p0_13, .int .u8 p0_14, .bool p0_15, .bool p0_16, .bool p0_17, .bool p0_18, .int .i64 p0_19]) [.int .u16 p0_0, .int .u16 p3, .int .u16 p0_2, .int .u16 p0_3, .int .u16 p0_4, .int .u16 p0_5, .int .u16 p0_6, .int .u16 p0_7, .int .u16 p0_8, .int .u16 p0_9, .int .u16 p0_10, .int .u16 p0_11, .int .u16 p0_12, .int .u8 p0_13, .int .u8 p0_14, .bool p0_15, .bool p0_16, .bool p0_17, .bool p0_18, .int .i64 p0_19] h72 (by kernel_rfl) (by kernel_rfl) rfl (by kernel_rfl) (by kernel_rfl) (by kernel_rfl) ?_)
      intro w74 h75 hk76
      refine RegI.done (by kernel_rfl) ?_
      refine RunsI.toRet (by kernel_rfl) ?_
      refine RetI.valW [.cell 8 46] [.agg #[.int .u16 p0_0, .int .u16 p3, .int .u16 p0_2, .int .u16 p0_3, .int .u16 p0_4, .int .u16 p0_5, .int .u16 p0_6, .int .u16 p0_7, .int .u16 p0_8, .int .u16 p0_9, .int .u16 p0_10, .int .u16 p0_11, .int .u16 p0_12, .int .u8 p0_13, .int .u8 p0_14, .bool p0_15, .bool p0_16, .bool p0_17, .bool p0_18, .int .i64 p0_19]] (.agg #[.int .u16 p0_0, .int .u16 p3, .int .u16 p0_2, .int .u16 p0_3, .int .u16 p0_4, .int .u16 p0_5, .int .u16 p0_6, .int .u16 p0_7, .int .u16 p0_8, .int .u16 p0_9, .int .u16 p0_10, .int .u16 p0_11, .int .u16 p0_12, .int .u8 p0_13, .int .u8 p0_14, .bool p0_15, .bool p0_16, .bool p0_17, .bool p0_18, .int .i64 p0_19]) (by kernel_rfl) (ResAt.box 1 46 b7 0 h75 (by kernel_rfl) (by kernel_rfl) rfl (by kernel_rfl) rfl) (by kernel_rfl) ?_
      obtain rfl := Option.some.inj h
      exact ⟨rfl, h75.below⟩
    · skip
      rcases of_cond h with ⟨hc56, h⟩ | ⟨hc56, h⟩
      · skip
        refine RegI.op (by kernel_rfl) (OpE.lookup (ek := (ekI .i64)) (ev := (fun (v : Value) => v)) (zv := .nilFunc) 28 2 85 3 82 p2 (.tuple #[.func (.func 64) #[] #[], .bool true]) true h53 (by kernel_rfl) rfl (by kernel_rfl) rfl (by kernel_rfl) (KeyOk.int .i64 (by kernel_rfl)) (fun _ => by kernel_rfl) (by simp only [findK, hc55, hc56, cond_true, cond_false, Option.map_some, Option.map_none, Option.getD_some, Option.getD_none, Option.isSome_some, Option.isSome_none]) ?_)
        refine RegI.pure 5 [0, 9, 10] [(0, .pointer (some ⟨b12, 0, none⟩)), (9, .func (.func 64) #[] #[]), (10, .bool true)] (by kernel_rfl) ?_
        refine RegI.done (by kernel_rfl) ?_
        refine RunsI.go 2 [.c 20, .c 21, .c 26] (by kernel_rfl) ?_
        refine RunsI.region (by kernel_rfl) ?_
        refine RegI.pure 2 [0, 9, 32] [(0, .pointer (some ⟨b12, 0, none⟩)), (9, .func (.func 64) #[] #[]), (32, .bool false)] (by kernel_rfl) ?_
        refine RegI.done (by kernel_rfl) ?_
        refine RunsI.cond false 25 (by kernel_rfl) ?_
        refine RunsI.go 2 [.c 27, .c 28] (by kernel_rfl) ?_
        refine RunsI.region (by kernel_rfl) ?_
        refine RegI.pure 2 [33, 34] [(33, .func (.func 64) #[] #[]), (34, .pointer (some ⟨b12, 0, none⟩))] (by kernel_rfl) ?_
        refine RegI.enter 35 [] [] (by kernel_rfl) (by kernel_rfl) (by kernel_rfl) (by kernel_rfl) F64 64 rfl [.pointer (some ⟨b12, 0, none⟩)] (by kernel_rfl) (by kernel_rfl) ?_
        refine RunsI.go 1 [.c 1, .c 2] (by kernel_rfl) ?_
        refine RunsI.region (by kernel_rfl) ?_
        refine RegI.pure 1 [0] [(0, .pointer (some ⟨b12, 0, none⟩))] (by kernel_rfl) ?_
        refine RegI.done (by kernel_rfl) ?_
        refine RunsI.go 1 [.c 3, .c 4] (by kernel_rfl) ?_
        refine RunsI.region (by kernel_rfl) ?_
        refine RegI.pure 4 [2] [(2, .pointer (some ⟨b12, 2, none⟩))] (by kernel_rfl) ?_
        refine RegI.done (by kernel_rfl) ?_
        refine RunsI.ret (.pointer (some ⟨b12, 2, none⟩)) (by kernel_rfl) (by kernel_rfl) ?_
        refine cont_mk ?_
        refine RegI.pure 1 [6] [(6, .pointer (some ⟨b12, 2, none⟩))] (by kernel_rfl) ?_
        refine RegI.done (by kernel_rfl) ?_
        refine RunsI.ret (.pointer (some ⟨b12, 2, none⟩)) (by kernel_rfl) (by kernel_rfl) ?_
        refine cont_mk ?_
        refine RegI.pure 1 [3, 8, 9, 10] [(3, .int .u16 p3), (8, .pointer (some ⟨b7, 0, none⟩)), (9, .pointer (some ⟨b12, 0, none⟩)), (10, .pointer (some ⟨b12, 2, none⟩))] (by kernel_rfl) ?_
        refine RegI.done (by kernel_rfl) ?_
        refine RunsI.go 1 [.c 8, .c 9, .c 12] (by kernel_rfl) ?_
        refine RunsI.region (by kernel_rfl) ?_
        refine RegI.pure 2 [3, 8, 9, 10, 16] [(3, .int .u16 p3), (8, .pointer (some ⟨b7, 0, none⟩)), (9, .pointer (some ⟨b12, 0, none⟩)), (10, .pointer (some ⟨b12, 2, none⟩)), (16, .bool true)] (by kernel_rfl) ?_
        refine RegI.done (by kernel_rfl) ?_
        refine RunsI.cond true 10 (by kernel_rfl) ?_
        refine RunsI.region (by kernel_rfl) ?_
        refine RegI.pure 3 [8, 9, 18, 19] [(8, .pointer (some ⟨b7, 0, none⟩)), (9, .pointer (some ⟨b12, 0, none⟩)), (18, .int .u16 p3), (19, .pointer (some ⟨b12, 2, none⟩))] (by kernel_rfl) ?_
        refine RegI.op (by kernel_rfl) (OpE.storeBox 0 22 b12 2 (.int .u16 p3) [.int .u16 p0_0, .int .u16 p0_1, .int .u16 p3, .int .u16 p0_3, .int .u16 p0_4, .int .u16 p0_5, .int .u16 p0_6, .int .u16 p0_7, .int .u16 p0_8, .int .u16 p0_9, .int .u16 p0_10, .int .u16 p0_11, .int .u16 p0_12, .int .u8 p0_13, .int .u8 p0_14, .bool p0_15, .bool p0_16, .bool p0_17, .bool p0_18, .int .i64 p0_19] h53 (by kernel_rfl) (by kernel_rfl) rfl (by kernel_rfl) (by kernel_rfl) (by kernel_rfl) ?_)
        intro w77 h78 hk79
        refine RegI.done (by kernel_rfl) ?_
        refine RunsI.go 1 [.c 13, .c 14] (by kernel_rfl) ?_
        refine RunsI.region (by kernel_rfl) ?_
        refine RegI.op (by kernel_rfl) (OpE.loadBox 20 0 64 b12 0 (.agg #[.int .u16 p0_0, .int .u16 p0_1, .int .u16 p3, .int .u16 p0_3, .int .u16 p0_4, .int .u16 p0_5, .int .u16 p0_6, .int .u16 p0_7, .int .u16 p0_8, .int .u16 p0_9, .int .u16 p0_10, .int .u16 p0_11, .int .u16 p0_12, .int .u8 p0_13, .int .u8 p0_14, .bool p0_15, .bool p0_16, .bool p0_17, .bool p0_18, .int .i64 p0_19]) h78 (by kernel_rfl) (by kernel_rfl) rfl (by kernel_rfl) ?_)
        refine RegI.op (by kernel_rfl) (OpE.storeBox 1 46 b7 0 (.agg #[.int .u16 p0_0, .int .u16 p0_1, .int .u16 p3, .int .u16 p0_3, .int .u16 p0_4, .int .u16 p0_5, .int .u16 p0_6, .int .u16 p0_7, .int .u16 p0_8, .int .u16 p0_9, .int .u16 p0_10, .int .u16 p0_11, .int .u16 p0_12, .int .u8 p0_13, .int .u8 p0_14, .bool p0_15, .bool p0_16, .bool p0_17, .bool p0_18, .int .i64 p0_19]) [.int .u16 p0_0, .int .u16 p0_1, .int .u16 p3, .int .u16 p0_3, .int .u16 p0_4, .int .u16 p0_5, .int .u16 p0_6, .int .u16 p0_7, .int .u16 p0_8, .int .u16 p0_9, .int .u16 p0_10, .int .u16 p0_11, .int .u16 p0_12, .int .u8 p0_13, .int .u8 p0_14, .bool p0_15, .bool p0_16, .bool p0_17, .bool p0_18, .int .i64 p0_19] h78 (by kernel_rfl) (by kernel_rfl) rfl (by kernel_rfl) (by kernel_rfl) (by kernel_rfl) ?_)
        intro w80 h81 hk82
        refine RegI.done (by kernel_rfl) ?_
        refine RunsI.toRet (by kernel_rfl) ?_
        refine RetI.valW [.cell 8 46] [.agg #[.int .u16 p0_0, .int .u16 p0_1, .int .u16 p3, .int .u16 p0_3, .int .u16 p0_4, .int .u16 p0_5, .int .u16 p0_6, .int .u16 p0_7, .int .u16 p0_8, .int .u16 p0_9, .int .u16 p0_10, .int .u16 p0_11, .int .u16 p0_12, .int .u8 p0_13, .int .u8 p0_14, .bool p0_15, .bool p0_16, .bool p0_17, .bool p0_18, .int .i64 p0_19]] (.agg #[.int .u16 p0_0, .int .u16 p0_1, .int .u16 p3, .int .u16 p0_3, .int .u16 p0_4, .int .u16 p0_5, .int .u16 p0_6, .int .u16 p0_7, .int .u16 p0_8, .int .u16 p0_9, .int .u16 p0_10, .int .u16 p0_11, .int .u16 p0_12, .int .u8 p0_13, .int .u8 p0_14, .bool p0_15, .bool p0_16, .bool p0_17, .bool p0_18, .int .i64 p0_19]) (by kernel_rfl) (ResAt.box 1 46 b7 0 h81 (by kernel_rfl) (by kernel_rfl) rfl (by kernel_rfl) rfl) (by kernel_rfl) ?_
        obtain rfl := Option.some.inj h
        exact ⟨rfl, h81.below⟩
      · skip
        rcases of_cond h with ⟨hc57, h⟩ | ⟨hc57, h⟩
        · skip
          refine RegI.op (by kernel_rfl) (OpE.lookup (ek := (ekI .i64)) (ev := (fun (v : Value) => v)) (zv := .nilFunc) 28 2 85 3 82 p2 (.tuple #[.func (.func 65) #[] #[], .bool true]) true h53 (by kernel_rfl) rfl (by kernel_rfl) rfl (by kernel_rfl) (KeyOk.int .i64 (by kernel_rfl)) (fun _ => by kernel_rfl) (by simp only [findK, hc55, hc56, hc57, cond_true, cond_false, Option.map_some, Option.map_none, Option.getD_some, Option.getD_none, Option.isSome_some, Option.isSome_none]) ?_)
          refine RegI.pure 5 [0, 9, 10] [(0, .pointer (some ⟨b12, 0, none⟩)), (9, .func (.func 65) #[] #[]), (10, .bool true)] (by kernel_rfl) ?_
          refine RegI.done (by kernel_rfl) ?_
          refine RunsI.go 2 [.c 20, .c 21, .c 26] (by kernel_rfl) ?_
          refine RunsI.region (by kernel_rfl) ?_
          refine RegI.pure 2 [0, 9, 32] [(0, .pointer (some ⟨b12, 0, none⟩)), (9, .func (.func 65) #[] #[]), (32, .bool false)] (by kernel_rfl) ?_
          refine RegI.done (by kernel_rfl) ?_
          refine RunsI.cond false 25 (by kernel_rfl) ?_
          refine RunsI.go 2 [.c 27, .c 28] (by kernel_rfl) ?_
          refine RunsI.region (by kernel_rfl) ?_
          refine RegI.pure 2 [33, 34] [(33, .func (.func 65) #[] #[]), (34, .pointer (some ⟨b12, 0, none⟩))] (by kernel_rfl) ?_
          refine RegI.enter 35 [] [] (by kernel_rfl) (by kernel_rfl) (by kernel_rfl) (by kernel_rfl) F65 65 rfl [.pointer (some ⟨b12, 0, none⟩)] (by kernel_rfl) (by kernel_rfl) ?_
          refine RunsI.go 1 [.c 1, .c 2] (by kernel_rfl) ?_
          refine RunsI.region (by kernel_rfl) ?_
          refine RegI.pure 1 [0] [(0, .pointer (some ⟨b12, 0, none⟩))] (by kernel_rfl) ?_
          refine RegI.done (by kernel_rfl) ?_
          refine RunsI.go 1 [.c 3, .c 4] (by kernel_rfl) ?_
          refine RunsI.region (by kernel_rfl) ?_
          refine RegI.pure 4 [2] [(2, .pointer (some ⟨b12, 3, none⟩))] (by kernel_rfl) ?_
          refine RegI.done (by kernel_rfl) ?_
          refine RunsI.ret (.pointer (some ⟨b12, 3, none⟩)) (by kernel_rfl) (by kernel_rfl) ?_
          refine cont_mk ?_
          refine RegI.pure 1 [6] [(6, .pointer (some ⟨b12, 3, none⟩))] (by kernel_rfl) ?_
          refine RegI.done (by kernel_rfl) ?_
          refine RunsI.ret (.pointer (some ⟨b12, 3, none⟩)) (by kernel_rfl) (by kernel_rfl) ?_
          refine cont_mk ?_
          refine RegI.pure 1 [3, 8, 9, 10] [(3, .int .u16 p3), (8, .pointer (some ⟨b7, 0, none⟩)), (9, .pointer (some ⟨b12, 0, none⟩)), (10, .pointer (some ⟨b12, 3, none⟩))] (by kernel_rfl) ?_
          refine RegI.done (by kernel_rfl) ?_
          refine RunsI.go 1 [.c 8, .c 9, .c 12] (by kernel_rfl) ?_
          refine RunsI.region (by kernel_rfl) ?_
          refine RegI.pure 2 [3, 8, 9, 10, 16] [(3, .int .u16 p3), (8, .pointer (some ⟨b7, 0, none⟩)), (9, .pointer (some ⟨b12, 0, none⟩)), (10, .pointer (some ⟨b12, 3, none⟩)), (16, .bool true)] (by kernel_rfl) ?_
          refine RegI.done (by kernel_rfl) ?_
          refine RunsI.cond true 10 (by kernel_rfl) ?_
          refine RunsI.region (by kernel_rfl) ?_
          refine RegI.pure 3 [8, 9, 18, 19] [(8, .pointer (some ⟨b7, 0, none⟩)), (9, .pointer (some ⟨b12, 0, none⟩)), (18, .int .u16 p3), (19, .pointer (some ⟨b12, 3, none⟩))] (by kernel_rfl) ?_
          refine RegI.op (by kernel_rfl) (OpE.storeBox 0 22 b12 3 (.int .u16 p3) [.int .u16 p0_0, .int .u16 p0_1, .int .u16 p0_2, .int .u16 p3, .int .u16 p0_4, .int .u16 p0_5, .int .u16 p0_6, .int .u16 p0_7, .int .u16 p0_8, .int .u16 p0_9, .int .u16 p0_10, .int .u16 p0_11, .int .u16 p0_12, .int .u8 p0_13, .int .u8 p0_14, .bool p0_15, .bool p0_16, .bool p0_17, .bool p0_18, .int .i64 p0_19] h53 (by kernel_rfl) (by kernel_rfl) rfl (by kernel_rfl) (by kernel_rfl) (by kernel_rfl) ?_)
          intro w83 h84 hk85
          refine RegI.done (by kernel_rfl) ?_
          refine RunsI.go 1 [.c 13, .c 14] (by kernel_rfl) ?_
          refine RunsI.region (by kernel_rfl) ?_
          refine RegI.op (by kernel_rfl) (OpE.loadBox 20 0 64 b12 0 (.agg #[.int .u16 p0_0, .int .u16 p0_1, .int .u16 p0_2, .int .u16 p3, .int .u16 p0_4, .int .u16 p0_5, .int .u16 p0_6, .int .u16 p0_7, .int .u16 p0_8, .int .u16 p0_9, .int .u16 p0_10, .int .u16 p0_11, .int .u16 p0_12, .int .u8 p0_13, .int .u8 p0_14, .bool p0_15, .bool p0_16, .bool p0_17, .bool p0_18, .int .i64 p0_19]) h84 (by kernel_rfl) (by kernel_rfl) rfl (by kernel_rfl) ?_)
          refine RegI.op (by kernel_rfl) (OpE.storeBox 1 46 b7 0 (.agg #[.int .u16 p0_0, .int .u16 p0_1, .int .u16 p0_2, .int .u16 p3, .int .u16 p0_4, .int .u16 p0_5, .int .u16 p0_6, .int .u16 p0_7, .int .u16 p0_8, .int .u16 p0_9, .int .u16 p0_10, .int .u16 p0_11, .int .u16 p0_12, .int .u8 p0_13, .int .u8 p0_14, .bool p0_15, .bool p0_16, .bool p0_17, .bool p0_18, .int .i64 p0_19]) [.int .u16 p0_0, .int .u16 p0_1, .int .u16 p0_2, .int .u16 p3, .int .u16 p0_4, .int .u16 p0_5, .int .u16 p0_6, .int .u16 p0_7, .int .u16 p0_8, .int .u16 p0_9, .int .u16 p0_10, .int .u16 p0_11, .int .u16 p0_12, .int .u8 p0_13, .int .u8 p0_14, .bool p0_15, .bool p0_16, .bool p0_17, .bool p0_18, .int .i64 p0_19] h84 (by kernel_rfl) (by kernel_rfl) rfl (by kernel_rfl) (by kernel_rfl) (by kernel_rfl) ?_)
          intro w86 h87 hk88
          refine RegI.done (by kernel_rfl) ?_
          refine RunsI.toRet (by kernel_rfl) ?_
          refine RetI.valW [.cell 8 46] [.agg #[.int .u16 p0_0, .int .u16 p0_1, .int .u16 p0_2, .int .u16 p3, .int .u16 p0_4, .int .u16 p0_5, .int .u16 p0_6, .int .u16 p0_7, .int .u16 p0_8, .int .u16 p0_9, .int .u16 p0_10, .int .u16 p0_11, .int .u16 p0_12, .int .u8 p0_13, .int .u8 p0_14, .bool p0_15, .bool p0_16, .bool p0_17, .bool p0_18, .int .i64 p0_19]] (.agg #[.int .u16 p0_0, .int .u16 p0_1, .int .u16 p0_2, .int .u16 p3, .int .u16 p0_4, .int .u16 p0_5, .int .u16 p0_6, .int .u16 p0_7, .int .u16 p0_8, .int .u16 p0_9, .int .u16 p0_10, .int .u16 p0_11, .int .u16 p0_12, .int .u8 p0_13, .int .u8 p0_14, .bool p0_15, .bool p0_16, .bool p0_17, .bool p0_18, .int .i64 p0_19]) (by kernel_rfl) (ResAt.box 1 46 b7 0 h87 (by kernel_rfl) (by kernel_rfl) rfl (by kernel_rfl) rfl) (by kernel_rfl) ?_
          obtain rfl := Option.some.inj h
          exact ⟨rfl, h87.below⟩
        · skip
          rcases of_cond h with ⟨hc58, h⟩ | ⟨hc58, h⟩
          · skip
            refine RegI.op (by kernel_rfl) (OpE.lookup (ek := (ekI .i64)) (ev := (fun (v : Value) => v)) (zv := .nilFunc) 28 2 85 3 82 p2 (.tuple #[.func (.func 66) #[] #[], .bool true]) true h53 (by kernel_rfl) rfl (by kernel_rfl) rfl (by kernel_rfl) (KeyOk.int .i64 (by kernel_rfl)) (fun _ => by kernel_rfl) (by simp only [findK, hc55, hc56, hc57, hc58, cond_true, cond_false, Option.map_some, Option.map_none, Option.getD_some, Option.getD_none, Option.isSome_some, Option.isSome_none]) ?_)
            refine RegI.pure 5 [0, 9, 10] [(0, .pointer (some ⟨b12, 0, none⟩)), (9, .func (.func 66) #[] #[]), (10, .bool true)] (by kernel_rfl) ?_
            refine RegI.done (by kernel_rfl) ?_
            refine RunsI.go 2 [.c 20, .c 21, .c 26] (by kernel_rfl) ?_
            refine RunsI.region (by kernel_rfl) ?_
            refine RegI.pure 2 [0, 9, 32] [(0, .pointer (some ⟨b12, 0, none⟩)), (9, .func (.func 66) #[] #[]), (32, .bool false)] (by kernel_rfl) ?_
            refine RegI.done (by kernel_rfl) ?_
            refine RunsI.cond false 25 (by kernel_rfl) ?_
            refine RunsI.go 2 [.c 27, .c 28] (by kernel_rfl) ?_
            refine RunsI.region (by kernel_rfl) ?_
            refine RegI.pure 2 [33, 34] [(33, .func (.func 66) #[] #[]), (34, .pointer (some ⟨b12, 0, none⟩))] (by kernel_rfl) ?_
            refine RegI.enter 35 [] [] (by kernel_rfl) (by kernel_rfl) (by kernel_rfl) (by kernel_rfl) F66 66 rfl [.pointer (some ⟨b12, 0, none⟩)] (by kernel_rfl) (by kernel_rfl) ?_
            refine RunsI.go 1 [.c 1, .c 2] (by kernel_rfl) ?_
            refine RunsI.region (by kernel_rfl) ?_
            refine RegI.pure 1 [0] [(0, .pointer (some ⟨b12, 0, none⟩))] (by kernel_rfl) ?_
            refine RegI.done (by kernel_rfl) ?_
            refine RunsI.go 1 [.c 3, .c 4] (by kernel_rfl) ?_
            refine RunsI.region (by kernel_rfl) ?_
            refine RegI.pure 4 [2] [(2, .pointer (some ⟨b12, 10, none⟩))] (by kernel_rfl) ?_
            refine RegI.done (by kernel_rfl) ?_
            refine RunsI.ret (.pointer (some ⟨b12, 10, none⟩)) (by kernel_rfl) (by kernel_rfl) ?_
            refine cont_mk ?_
            refine RegI.pure 1 [6] [(6, .pointer (some ⟨b12, 10, none⟩))] (by kernel_rfl) ?_
            refine RegI.done (by kernel_rfl) ?_
            refine RunsI.ret (.pointer (some ⟨b12, 10, none⟩)) (by kernel_rfl) (by kernel_rfl) ?_
            refine cont_mk ?_
            refine RegI.pure 1 [3, 8, 9, 10] [(3, .int .u16 p3), (8, .pointer (some ⟨b7, 0, none⟩)), (9, .pointer (some ⟨b12, 0, none⟩)), (10, .pointer (some ⟨b12, 10, none⟩))] (by kernel_rfl) ?_
            refine RegI.done (by kernel_rfl) ?_
            refine RunsI.go 1 [.c 8, .c 9, .c 12] (by kernel_rfl) ?_
            refine RunsI.region (by kernel_rfl) ?_
            refine RegI.pure 2 [3, 8, 9, 10, 16] [(3, .int .u16 p3), (8, .pointer (some ⟨b7, 0, none⟩)), (9, .pointer (some ⟨b12, 0, none⟩)), (10, .pointer (some ⟨b12, 10, none⟩)), (16, .bool true)] (by kernel_rfl) ?_
            refine RegI.done (by kernel_rfl) ?_
            refine RunsI.cond true 10 (by kernel_rfl) ?_
            refine RunsI.region (by kernel_rfl) ?_
            refine RegI.pure 3 [8, 9, 18, 19] [(8, .pointer (some ⟨b7, 0, none⟩)), (9, .pointer (some ⟨b12, 0, none⟩)), (18, .int .u16 p3), (19, .pointer (some ⟨b12, 10, none⟩))] (by kernel_rfl) ?_
            refine RegI.op (by kernel_rfl) (OpE.storeBox 0 22 b12 10 (.int .u16 p3) [.int .u16 p0_0, .int .u16 p0_1, .int .u16 p0_2, .int .u16 p0_3, .int .u16 p0_4, .int .u16 p0_5, .int .u16 p0_6, .int .u16 p0_7, .int .u16 p0_8, .int .u16 p0_9, .int .u16 p3, .int .u16 p0_11, .int .u16 p0_12, .int .u8 p0_13, .int .u8 p0_14, .bool p0_15, .bool p0_16, .bool p0_17, .bool p0_18, .int .i64 p0_19] h53 (by kernel_rfl) (by kernel_rfl) rfl (by kernel_rfl) (by kernel_rfl) (by kernel_rfl) ?_)
            intro w89 h90 hk91
            refine RegI.done (by kernel_rfl) ?_
            refine RunsI.go 1 [.c 13, .c 14] (by kernel_rfl) ?_
            refine RunsI.region (by kernel_rfl) ?_
            refine RegI.op (by kernel_rfl) (OpE.loadBox 20 0 64 b12 0 (.agg #[.int .u16 p0_0, .int .u16 p0_1, .int .u16 p0_2, .int .u16 p0_3, .int .u16 p0_4, .int .u16 p0_5, .int .u16 p0_6, .int .u16 p0_7, .int .u16 p0_8, .int .u16 p0_9, .int .u16 p3, .int .u16 p0_11, .int .u16 p0_12, .int .u8 p0_13, .int .u8 p0_14, .bool p0_15, .bool p0_16, .bool p0_17, .bool p0_18, .int .i64 p0_19]) h90 (by kernel_rfl) (by kernel_rfl) rfl (by kernel_rfl) ?_)
            refine RegI.op (by kernel_rfl) (OpE.storeBox 1 46 b7 0 (.agg #[.int .u16 p0_0, .int .u16 p0_1, .int .u16 p0_2, .int .u16 p0_3, .int .u16 p0_4, .int .u16 p0_5, .int .u16 p0_6, .int .u16 p0_7, .int .u16 p0_8, .int .u16 p0_9, .int .u16 p3, .int .u16 p0_11, .int .u16 p0_12, .int .u8 p0_13, .int .u8 p0_14, .bool p0_15, .bool p0_16, .bool p0_17, .bool p0_18, .int .i64 p0_19]) [.int .u16 p0_0, .int .u16 p0_1, .int .u16 p0_2, .int .u16 p0_3, .int .u16 p0_4, .int .u16 p0_5, .int .u16 p0_6, .int .u16 p0_7, .int .u16 p0_8, .int .u16 p0_9, .int .u16 p3, .int .u16 p0_11, .int .u16 p0_12, .int .u8 p0_13, .int .u8 p0_14, .bool p0_15, .bool p0_16, .bool p0_17, .bool p0_18, .int .i64 p0_19] h90 (by kernel_rfl) (by kernel_rfl) rfl (by kernel_rfl) (by kernel_rfl) (by kernel_rfl) ?_)
            intro w92 h93 hk94
            refine RegI.done (by kernel_rfl) ?_
            refine RunsI.toRet (by kernel_rfl) ?_
            refine RetI.valW [.cell 8 46] [.agg #[.int .u16 p0_0, .int .u16 p0_1, .int .u16 p0_2, .int .u16 p0_3, .int .u16 p0_4, .int .u16 p0_5, .int .u16 p0_6, .int .u16 p0_7, .int .u16 p0_8, .int .u16 p0_9, .int .u16 p3, .int .u16 p0_11, .int .u16 p0_12, .int .u8 p0_13, .int .u8 p0_14, .bool p0_15, .bool p0_16, .bool p0_17, .bool p0_18, .int .i64 p0_19]] (.agg #[.int .u16 p0_0, .int .u16 p0_1, .int .u16 p0_2, .int .u16 p0_3, .int .u16 p0_4, .int .u16 p0_5, .int .u16 p0_6, .int .u16 p0_7, .int .u16 p0_8, .int .u16 p0_9, .int .u16 p3, .int .u16 p0_11, .int .u16 p0_12, .int .u8 p0_13, .int .u8 p0_14, .bool p0_15, .bool p0_16, .bool p0_17, .bool p0_18, .int .i64 p0_19]) (by kernel_rfl) (ResAt.box 1 46 b7 0 h93 (by kernel_rfl) (by kernel_rfl) rfl (by kernel_rfl) rfl) (by kernel_rfl) ?_
            obtain rfl := Option.some.inj h
            exact ⟨rfl, h93.below⟩
          · skip
            refine RegI.op (by kernel_rfl) (OpE.lookup (ek := (ekI .i64)) (ev := (fun (v : Value) => v)) (zv := .nilFunc) 28 2 85 3 82 p2 (.tuple #[.nilFunc, .bool false]) true h53 (by kernel_rfl) rfl (by kernel_rfl) rfl (by kernel_rfl) (KeyOk.int .i64 (by kernel_rfl)) (fun _ => by kernel_rfl) (by simp only [findK, hc55, hc56, hc57, hc58, cond_true, cond_false, Option.map_some, Option.map_none, Option.getD_some, Option.getD_none, Option.isSome_some, Option.isSome_none]) ?_)
            refine RegI.pure 5 [0, 9, 10] [(0, .pointer (some ⟨b12, 0, none⟩)), (9, .nilFunc), (10, .bool false)] (by kernel_rfl) ?_
            refine RegI.done (by kernel_rfl) ?_
            refine RunsI.go 2 [.c 20, .c 21, .c 26] (by kernel_rfl) ?_
            refine RunsI.region (by kernel_rfl) ?_
            refine RegI.pure 2 [0, 9, 32] [(0, .pointer (some ⟨b12, 0, none⟩)), (9, .nilFunc), (32, .bool true)] (by kernel_rfl) ?_
            refine RegI.done (by kernel_rfl) ?_
            refine RunsI.cond true 22 (by kernel_rfl) ?_
            refine RunsI.go 1 [.c 23, .c 24, .c 26] (by kernel_rfl) ?_
            refine RunsI.region (by kernel_rfl) ?_
            refine RegI.pure 1 [6] [(6, .pointer none)] (by kernel_rfl) ?_
            refine RegI.done (by kernel_rfl) ?_
            refine RunsI.ret (.pointer none) (by kernel_rfl) (by kernel_rfl) ?_
            refine cont_mk ?_
            refine RegI.pure 1 [3, 8, 9, 10] [(3, .int .u16 p3), (8, .pointer (some ⟨b7, 0, none⟩)), (9, .pointer (some ⟨b12, 0, none⟩)), (10, .pointer none)] (by kernel_rfl) ?_
            refine RegI.done (by kernel_rfl) ?_
            refine RunsI.go 1 [.c 8, .c 9, .c 12] (by kernel_rfl) ?_
            refine RunsI.region (by kernel_rfl) ?_
            refine RegI.pure 2 [3, 8, 9, 10, 16] [(3, .int .u16 p3), (8, .pointer (some ⟨b7, 0, none⟩)), (9, .pointer (some ⟨b12, 0, none⟩)), (10, .pointer none), (16, .bool false)] (by kernel_rfl) ?_
            refine RegI.done (by kernel_rfl) ?_
            refine RunsI.cond false 11 (by kernel_rfl) ?_
            refine RunsI.go 2 [.c 13, .c 14] (by kernel_rfl) ?_
            refine RunsI.region (by kernel_rfl) ?_
            refine RegI.op (by kernel_rfl) (OpE.loadBox 20 0 64 b12 0 (.agg #[.int .u16 p0_0, .int .u16 p0_1, .int .u16 p0_2, .int .u16 p0_3, .int .u16 p0_4, .int .u16 p0_5, .int .u16 p0_6, .int .u16 p0_7, .int .u16 p0_8, .int .u16 p0_9, .int .u16 p0_10, .int .u16 p0_11, .int .u16 p0_12, .int .u8 p0_13, .int .u8 p0_14, .bool p0_15, .bool p0_16, .bool p0_17, .bool p0_18, .int .i64 p0_19]) h53 (by kernel_rfl) (by kernel_rfl) rfl (by kernel_rfl) ?_)
            refine RegI.op (by kernel_rfl) (OpE.storeBox 1 46 b7 0 (.agg #[.int .u16 p0_0, .int .u16 p0_1, .int .u16 p0_2, .int .u16 p0_3, .int .u16 p0_4, .int .u16 p0_5, .int .u16 p0_6, .int .u16 p0_7, .int .u16 p0_8, .int .u16 p0_9, .int .u16 p0_10, .int .u16 p0_11, .int .u16 p0_12, .int .u8 p0_13, .int .u8 p0_14, .bool p0_15, .bool p0_16, .bool p0_17, .bool p0_18, .int .i64 p0_19]) [.int .u16 p0_0, .int .u16 p0_1, .int .u16 p0_2, .int .u16 p0_3, .int .u16 p0_4, .int .u16 p0_5, .int .u16 p0_6, .int .u16 p0_7, .int .u16 p0_8, .int .u16 p0_9, .int .u16 p0_10, .int .u16 p0_11, .int .u16 p0_12, .int .u8 p0_13, .int .u8 p0_14, .bool p0_15, .bool p0_16, .bool p0_17, .bool p0_18, .int .i64 p0_19] h53 (by kernel_rfl) (by kernel_rfl) rfl (by kernel_rfl) (by kernel_rfl) (by kernel_rfl) ?_)
            intro w95 h96 hk97
            refine RegI.done (by kernel_rfl) ?_
            refine RunsI.toRet (by kernel_rfl) ?_
            refine RetI.valW [.cell 8 46] [.agg #[.int .u16 p0_0, .int .u16 p0_1, .int .u16 p0_2, .int .u16 p0_3, .int .u16 p0_4, .int .u16 p0_5, .int .u16 p0_6, .int .u16 p0_7, .int .u16 p0_8, .int .u16 p0_9, .int .u16 p0_10, .int .u16 p0_11, .int .u16 p0_12, .int .u8 p0_13, .int .u8 p0_14, .bool p0_15, .bool p0_16, .bool p0_17, .bool p0_18, .int .i64 p0_19]] (.agg #[.int .u16 p0_0, .int .u16 p0_1, .int .u16 p0_2, .int .u16 p0_3, .int .u16 p0_4, .int .u16 p0_5, .int .u16 p0_6, .int .u16 p0_7, .int .u16 p0_8, .int .u16 p0_9, .int .u16 p0_10, .int .u16 p0_11, .int .u16 p0_12, .int .u8 p0_13, .int .u8 p0_14, .bool p0_15, .bool p0_16, .bool p0_17, .bool p0_18, .int .i64 p0_19]) (by kernel_rfl) (ResAt.box 1 46 b7 0 h96 (by kernel_rfl) (by kernel_rfl) rfl (by kernel_rfl) rfl) (by kernel_rfl) ?_
            obtain rfl := Option.some.inj h
            exact ⟨rfl, h96.below⟩
  clear hJ36
  rcases of_cond h with ⟨hc19, h⟩ | ⟨hc19, h⟩
  · skip
    refine RunsI.fix 12 true hc19 (by kernel_rfl) (by kernel_rfl) ?_
    refine RunsI.cond true 6 (by kernel_rfl) ?_
    refine RunsI.go 1 [.c 7, .c 8, .c 16] (by kernel_rfl) ?_
    refine RunsI.region (by kernel_rfl) ?_
    refine RegI.op (by kernel_rfl) (OpE.makeMap 14 (ekI .i64) (fun (v : Value) => v) h17 (by kernel_rfl) (by kernel_rfl) ?_)
    intro w20 b21 h22 hb23 hn24
    refine RegI.op (by kernel_rfl) (OpE.mapSet (ek := (ekI .i64)) (ev := (fun (v : Value) => v)) 3 85 3 82 3 (.func (.func 61) #[] #[]) h22 (by kernel_rfl) rfl (by kernel_rfl) rfl rfl (by kernel_rfl) (KeyOk.int .i64 (by kernel_rfl)) [(3, .func (.func 61) #[] #[])] (by kernel_rfl) ?_)
    intro w25 h26 hk27
    refine RegI.op (by kernel_rfl) (OpE.mapSet (ek := (ekI .i64)) (ev := (fun (v : Value) => v)) 3 85 3 82 4 (.func (.func 62) #[] #[]) h26 (by kernel_rfl) rfl (by kernel_rfl) rfl rfl (by kernel_rfl) (KeyOk.int .i64 (by kernel_rfl)) [(3, .func (.func 61) #[] #[]), (4, .func (.func 62) #[] #[])] (by kernel_rfl) ?_)
    intro w28 h29 hk30
    refine RegI.pure 2 [0, 2, 15, 16] [(0, .pointer (some ⟨b12, 0, none⟩)), (2, .int .i64 p2), (15, .map (some b21)), (16, .int .i64 p1)] (by kernel_rfl) ?_
    rcases of_cond h with ⟨hc31, h⟩ | ⟨hc31, h⟩
    · skip
      refine RegI.op (by kernel_rfl) (OpE.lookup (ek := (ekI .i64)) (ev := (fun (v : Value) => v)) (zv := .nilFunc) 17 3 85 3 82 p1 (.tuple #[.func (.func 61) #[] #[], .bool true]) true h29 (by kernel_rfl) rfl (by kernel_rfl) rfl (by kernel_rfl) (KeyOk.int .i64 (by kernel_rfl)) (fun _ => by kernel_rfl) (by simp only [findK, hc31, cond_true, cond_false, Option.map_some, Option.map_none, Option.getD_some, Option.getD_none, Option.isSome_some, Option.isSome_none]) ?_)
      refine RegI.pure 5 [0, 2, 7, 8] [(0, .pointer (some ⟨b12, 0, none⟩)), (2, .int .i64 p2), (7, .func (.func 61) #[] #[]), (8, .bool true)] (by kernel_rfl) ?_
      refine RegI.done (by kernel_rfl) ?_
      refine RunsI.go 1 [.c 9, .c 10, .c 16] (by kernel_rfl) ?_
      refine RunsI.region (by kernel_rfl) ?_
      refine RegI.pure 1 [0, 2, 7, 20] [(0, .pointer (some ⟨b12, 0, none⟩)), (2, .int .i64 p2), (7, .func (.func 61) #[] #[]), (20, .bool true)] (by kernel_rfl) ?_
      refine RegI.done (by kernel_rfl) ?_
      refine RunsI.cond true 11 (by kernel_rfl) ?_
      refine RunsI.go 1 [.c 12, .c 13, .c 16] (by kernel_rfl) ?_
      refine RunsI.region (by kernel_rfl) ?_
      refine RegI.pure 2 [21, 22] [(21, .func (.func 61) #[] #[]), (22, .pointer (some ⟨b12, 0, none⟩))] (by kernel_rfl) ?_
      refine RegI.enter 23 [] [] (by kernel_rfl) (by kernel_rfl) (by kernel_rfl) (by kernel_rfl) F61 61 rfl [.pointer (some ⟨b12, 0, none⟩)] (by kernel_rfl) (by kernel_rfl) ?_
      refine RunsI.go 1 [.c 1, .c 2] (by kernel_rfl) ?_
      refine RunsI.region (by kernel_rfl) ?_
      refine RegI.pure 1 [0] [(0, .pointer (some ⟨b12, 0, none⟩))] (by kernel_rfl) ?_
      refine RegI.done (by kernel_rfl) ?_
      refine RunsI.go 1 [.c 3, .c 4] (by kernel_rfl) ?_
      refine RunsI.region (by kernel_rfl) ?_
      refine RegI.pure 4 [2] [(2, .pointer (some ⟨b12, 8, none⟩))] (by kernel_rfl) ?_
      refine RegI.done (by kernel_rfl) ?_
      refine RunsI.ret (.pointer (some ⟨b12, 8, none⟩)) (by kernel_rfl) (by kernel_rfl) ?_
      refine cont_mk ?_
      refine RegI.pure 1 [6] [(6, .pointer (some ⟨b12, 8, none⟩))] (by kernel_rfl) ?_
      refine RegI.done (by kernel_rfl) ?_
      refine RunsI.ret (.pointer (some ⟨b12, 8, none⟩)) (by kernel_rfl) (by kernel_rfl) ?_
      refine cont_mk ?_
      refine RegI.pure 1 [3, 8, 9, 10] [(3, .int .u16 p3), (8, .pointer (some ⟨b7, 0, none⟩)), (9, .pointer (some ⟨b12, 0, none⟩)), (10, .pointer (some ⟨b12, 8, none⟩))] (by kernel_rfl) ?_
      refine RegI.done (by kernel_rfl) ?_
      refine RunsI.go 1 [.c 8, .c 9, .c 12] (by kernel_rfl) ?_
      refine RunsI.region (by kernel_rfl) ?_
      refine RegI.pure 2 [3, 8, 9, 10, 16] [(3, .int .u16 p3), (8, .pointer (some ⟨b7, 0, none⟩)), (9, .pointer (some ⟨b12, 0, none⟩)), (10, .pointer (some ⟨b12, 8, none⟩)), (16, .bool true)] (by kernel_rfl) ?_
      refine RegI.done (by kernel_rfl) ?_
      refine RunsI.cond true 10 (by kernel_rfl) ?_
      refine RunsI.region (by kernel_rfl) ?_
      refine RegI.pure 3 [8, 9, 18, 19] [(8, .pointer (some ⟨b7, 0, none⟩)), (9, .pointer (some ⟨b12, 0, none⟩)), (18, .int .u16 p3), (19, .pointer (some ⟨b12, 8, none⟩))] (by kernel_rfl) ?_
      refine RegI.op (by kernel_rfl) (OpE.storeBox 2 22 b12 8 (.int .u16 p3) [.int .u16 p0_0, .int .u16 p0_1, .int .u16 p0_2, .int .u16 p0_3, .int .u16 p0_4, .int .u16 p0_5, .int .u16 p0_6, .int .u16 p0_7, .int .u16 p3, .int .u16 p0_9, .int .u16 p0_10, .int .u16 p0_11, .int .u16 p0_12, .int .u8 p0_13, .int .u8 p0_14, .bool p0_15, .bool p0_16, .bool p0_17, .bool p0_18, .int .i64 p0_19] h29 (by kernel_rfl) (by kernel_rfl) rfl (by kernel_rfl) (by kernel_rfl) (by kernel_rfl) ?_)
      intro w59 h60 hk61
      refine RegI.done (by kernel_rfl) ?_
      refine RunsI.go 1 [.c 13, .c 14] (by kernel_rfl) ?_
      refine RunsI.region (by kernel_rfl) ?_
      refine RegI.op (by kernel_rfl) (OpE.loadBox 20 2 64 b12 0 (.agg #[.int .u16 p0_0, .int .u16 p0_1, .int .u16 p0_2, .int .u16 p0_3, .int .u16 p0_4, .int .u16 p0_5, .int .u16 p0_6, .int .u16 p0_7, .int .u16 p3, .int .u16 p0_9, .int .u16 p0_10, .int .u16 p0_11, .int .u16 p0_12, .int .u8 p0_13, .int .u8 p0_14, .bool p0_15, .bool p0_16, .bool p0_17, .bool p0_18, .int .i64 p0_19]) h60 (by kernel_rfl) (by kernel_rfl) rfl (by kernel_rfl) ?_)
      refine RegI.op (by kernel_rfl) (OpE.storeBox 1 46 b7 0 (.agg #[.int .u16 p0_0, .int .u16 p0_1, .int .u16 p0_2, .int .u16 p0_3, .int .u16 p0_4, .int .u16 p0_5, .int .u16 p0_6, .int .u16 p0_7, .int .u16 p3, .int .u16 p0_9, .int .u16 p0_10, .int .u16 p0_11, .int .u16 p0_12, .int .u8 p0_13, .int .u8 p0_14, .bool p0_15, .bool p0_16, .bool p0_17, .bool p0_18, .int .i64 p0_19]) [.int .u16 p0_0, .int .u16 p0_1, .int .u16 p0_2, .int .u16 p0_3, .int .u16 p0_4, .int .u16 p0_5, .int .u16 p0_6, .int .u16 p0_7, .int .u16 p3, .int .u16 p0_9, .int .u16 p0_10, .int .u16 p0_11, .int .u16 p0_12, .int .u8 p0_13, .int .u8 p0_14, .bool p0_15, .bool p0_16, .bool p0_17, .bool p0_18, .int .i64 p0_19] h60 (by kernel_rfl) (by kernel_rfl) rfl (by kernel_rfl) (by kernel_rfl) (by kernel_rfl) ?_)
      intro w62 h63 hk64
      refine RegI.done (by kernel_rfl) ?_
      refine RunsI.toRet (by kernel_rfl) ?_
      refine RetI.valW [.cell 8 46] [.agg #[.int .u16 p0_0, .int .u16 p0_1, .int .u16 p0_2, .int .u16 p0_3, .int .u16 p0_4, .int .u16 p0_5, .int .u16 p0_6, .int .u16 p0_7, .int .u16 p3, .int .u16 p0_9, .int .u16 p0_10, .int .u16 p0_11, .int .u16 p0_12, .int .u8 p0_13, .int .u8 p0_14, .bool p0_15, .bool p0_16, .bool p0_17, .bool p0_18, .int .i64 p0_19]] (.agg #[.int .u16 p0_0, .int .u16 p0_1, .int .u16 p0_2, .int .u16 p0_3, .int .u16 p0_4, .int .u16 p0_5, .int .u16 p0_6, .int .u16 p0_7, .int .u16 p3, .int .u16 p0_9, .int .u16 p0_10, .int .u16 p0_11, .int .u16 p0_12, .int .u8 p0_13, .int .u8 p0_14, .bool p0_15, .bool p0_16, .bool p0_17, .bool p0_18, .int .i64 p0_19]) (by kernel_rfl) (ResAt.box 1 46 b7 0 h63 (by kernel_rfl) (by kernel_rfl) rfl (by kernel_rfl) rfl) (by kernel_rfl) ?_
      obtain rfl := Option.some.inj h
      exact ⟨rfl, h63.below⟩
    · skip
      rcases of_cond h with ⟨hc32, h⟩ | ⟨hc32, h⟩
      · skip
        refine RegI.op (by kernel_rfl) (OpE.lookup (ek := (ekI .i64)) (ev := (fun (v : Value) => v)) (zv := .nilFunc) 17 3 85 3 82 p1 (.tuple #[.func (.func 62) #[] #[], .bool true]) true h29 (by kernel_rfl) rfl (by kernel_rfl) rfl (by kernel_rfl) (KeyOk.int .i64 (by kernel_rfl)) (fun _ => by kernel_rfl) (by simp only [findK, hc31, hc32, cond_true, cond_false, Option.map_some, Option.map_none, Option.getD_some, Option.getD_none, Option.isSome_some, Option.isSome_none]) ?_)
        refine RegI.pure 5 [0, 2, 7, 8] [(0, .pointer (some ⟨b12, 0, none⟩)), (2, .int .i64 p2), (7, .func (.func 62) #[] #[]), (8, .bool true)] (by kernel_rfl) ?_
        refine RegI.done (by kernel_rfl) ?_
        refine RunsI.go 1 [.c 9, .c 10, .c 16] (by kernel_rfl) ?_
        refine RunsI.region (by kernel_rfl) ?_
        refine RegI.pure 1 [0, 2, 7, 20] [(0, .pointer (some ⟨b12, 0, none⟩)), (2, .int .i64 p2), (7, .func (.func 62) #[] #[]), (20, .bool true)] (by kernel_rfl) ?_
        refine RegI.done (by kernel_rfl) ?_
        refine RunsI.cond true 11 (by kernel_rfl) ?_
        refine RunsI.go 1 [.c 12, .c 13, .c 16] (by kernel_rfl) ?_
        refine RunsI.region (by kernel_rfl) ?_
        refine RegI.pure 2 [21, 22] [(21, .func (.func 62) #[] #[]), (22, .pointer (some ⟨b12, 0, none⟩))] (by kernel_rfl) ?_
        refine RegI.enter 23 [] [] (by kernel_rfl) (by kernel_rfl) (by kernel_rfl) (by kernel_rfl) F62 62 rfl [.pointer (some ⟨b12, 0, none⟩)] (by kernel_rfl) (by kernel_rfl) ?_
        refine RunsI.go 1 [.c 1, .c 2] (by kernel_rfl) ?_
        refine RunsI.region (by kernel_rfl) ?_
        refine RegI.pure 1 [0] [(0, .pointer (some ⟨b12, 0, none⟩))] (by kernel_rfl) ?_
        refine RegI.done (by kernel_rfl) ?_
        refine RunsI.go 1 [.c 3, .c 4] (by kernel_rfl) ?_
        refine RunsI.region (by kernel_rfl) ?_
        refine RegI.pure 4 [2] [(2, .pointer (some ⟨b12, 9, none⟩))] (by kernel_rfl) ?_
        refine RegI.done (by kernel_rfl) ?_
        refine RunsI.ret (.pointer (some ⟨b12, 9, none⟩)) (by kernel_rfl) (by kernel_rfl) ?_
        refine cont_mk ?_
        refine RegI.pure 1 [6] [(6, .pointer (some ⟨b12, 9, none⟩))] (by kernel_rfl) ?_
        refine RegI.done (by kernel_rfl) ?_
        refine RunsI.ret (.pointer (some ⟨b12, 9, none⟩)) (by kernel_rfl) (by kernel_rfl) ?_
        refine cont_mk ?_
        refine RegI.pure 1 [3, 8, 9, 10] [(3, .int .u16 p3), (8, .pointer (some ⟨b7, 0, none⟩)), (9, .pointer (some ⟨b12, 0, none⟩)), (10, .pointer (some ⟨b12, 9, none⟩))] (by kernel_rfl) ?_
        refine RegI.done (by kernel_rfl) ?_
        refine RunsI.go 1 [.c 8, .c 9, .c 12] (by kernel_rfl) ?_
        refine RunsI.region (by kernel_rfl) ?_
        refine RegI.pure 2 [3, 8, 9, 10, 16] [(3, .int .u16 p3), (8, .pointer (some ⟨b7, 0, none⟩)), (9, .pointer (some ⟨b12, 0, none⟩)), (10, .pointer (some ⟨b12, 9, none⟩)), (16, .bool true)] (by kernel_rfl) ?_
        refine RegI.done (by kernel_rfl) ?_
        refine RunsI.cond true 10 (by kernel_rfl) ?_
        refine RunsI.region (by kernel_rfl) ?_
        refine RegI.pure 3 [8, 9, 18, 19] [(8, .pointer (some ⟨b7, 0, none⟩)), (9, .pointer (some ⟨b12, 0, none⟩)), (18, .int .u16 p3), (19, .pointer (some ⟨b12, 9, none⟩))] (by kernel_rfl) ?_
        refine RegI.op (by kernel_rfl) (OpE.storeBox 2 22 b12 9 (.int .u16 p3) [.int .u16 p0_0, .int .u16 p0_1, .int .u16 p0_2, .int .u16 p0_3, .int .u16 p0_4, .int .u16 p0_5, .int .u16 p0_6, .int .u16 p0_7, .int .u16 p0_8, .int .u16 p3, .int .u16 p0_10, .int .u16 p0_11, .int .u16 p0_12, .int .u8 p0_13, .int .u8 p0_14, .bool p0_15, .bool p0_16, .bool p0_17, .bool p0_18, .int .i64 p0_19] h29 (by kernel_rfl) (by kernel_rfl) rfl (by kernel_rfl) (by kernel_rfl) (by kernel_rfl) ?_)
        intro w65 h66 hk67
        refine RegI.done (by kernel_rfl) ?_
        refine RunsI.go 1 [.c 13, .c 14] (by kernel_rfl) ?_
        refine RunsI.region (by kernel_rfl) ?_
        refine RegI.op (by kernel_rfl) (OpE.loadBox 20 2 64 b12 0 (.agg #[.int .u16 p0_0, .int .u16 p0_1, .int .u16 p0_2, .int .u16 p0_3, .int .u16 p0_4, .int .u16 p0_5, .int .u16 p0_6, .int .u16 p0_7, .int .u16 p0_8, .int .u16 p3, .int .u16 p0_10, .int .u16 p0_11, .int .u16 p0_12, .int .u8 p0_13, .int .u8 p0_14, .bool p0_15, .bool p0_16, .bool p0_17, .bool p0_18, .int .i64 p0_19]) h66 (by kernel_rfl) (by kernel_rfl) rfl (by kernel_rfl) ?_)
        refine RegI.op (by kernel_rfl) (OpE.storeBox 1 46 b7 0 (.agg #[.int .u16 p0_0, .int .u16 p0_1, .int .u16 p0_2, .int .u16 p0_3, .int .u16 p0_4, .int .u16 p0_5, .int .u16 p0_6, .int .u16 p0_7, .int .u16 p0_8, .int .u16 p3, .int .u16 p0_10, .int .u16 p0_11, .int .u16 p0_12, .int .u8 p0_13, .int .u8 p0_14, .bool p0_15, .bool p0_16, .bool p0_17, .bool p0_18, .int .i64 p0_19]) [.int .u16 p0_0, .int .u16 p0_1, .int .u16 p0_2, .int .u16 p0_3, .int .u16 p0_4, .int .u16 p0_5, .int .u16 p0_6, .int .u16 p0_7, .int .u16 p0_8, .int .u16 p3, .int .u16 p0_10, .int .u16 p0_11, .int .u16 p0_12, .int .u8 p0_13, .int .u8 p0_14, .bool p0_15, .bool p0_16, .bool p0_17, .bool p0_18, .int .i64 p0_19] h66 (by kernel_rfl) (by kernel_rfl) rfl (by kernel_rfl) (by kernel_rfl) (by kernel_rfl) ?_)
        intro w68 h69 hk70
        refine RegI.done (by kernel_rfl) ?_
        refine RunsI.toRet (by kernel_rfl) ?_
        refine RetI.valW [.cell 8 46] [.agg #[.int .u16 p0_0, .int .u16 p0_1, .int .u16 p0_2, .int .u16 p0_3, .int .u16 p0_4, .int .u16 p0_5, .int .u16 p0_6, .int .u16 p0_7, .int .u16 p0_8, .int .u16 p3, .int .u16 p0_10, .int .u16 p0_11, .int .u16 p0_12, .int .u8 p0_13, .int .u8 p0_14, .bool p0_15, .bool p0_16, .bool p0_17, .bool p0_18, .int .i64 p0_19]] (.agg #[.int .u16 p0_0, .int .u16 p0_1, .int .u16 p0_2, .int .u16 p0_3, .int .u16 p0_4, .int .u16 p0_5, .int .u16 p0_6, .int .u16 p0_7, .int .u16 p0_8, .int .u16 p3, .int .u16 p0_10, .int .u16 p0_11, .int .u16 p0_12, .int .u8 p0_13, .int .u8 p0_14, .bool p0_15, .bool p0_16, .bool p0_17, .bool p0_18, .int .i64 p0_19]) (by kernel_rfl) (ResAt.box 1 46 b7 0 h69 (by kernel_rfl) (by kernel_rfl) rfl (by kernel_rfl) rfl) (by kernel_rfl) ?_
        obtain rfl := Option.some.inj h
        exact ⟨rfl, h69.below⟩
      · skip
        refine RegI.op (by kernel_rfl) (OpE.lookup (ek := (ekI .i64)) (ev := (fun (v : Value) => v)) (zv := .nilFunc) 17 3 85 3 82 p1 (.tuple #[.nilFunc, .bool false]) true h29 (by kernel_rfl) rfl (by kernel_rfl) rfl (by kernel_rfl) (KeyOk.int .i64 (by kernel_rfl)) (fun _ => by kernel_rfl) (by simp only [findK, hc31, hc32, cond_true, cond_false, Option.map_some, Option.map_none, Option.getD_some, Option.getD_none, Option.isSome_some, Option.isSome_none]) ?_)
        refine RegI.pure 5 [0, 2, 7, 8] [(0, .pointer (some ⟨b12, 0, none⟩)), (2, .int .i64 p2), (7, .nilFunc), (8, .bool false)] (by kernel_rfl) ?_
        refine RegI.done (by kernel_rfl) ?_
        refine RunsI.go 1 [.c 9, .c 10, .c 16] (by kernel_rfl) ?_
        refine RunsI.region (by kernel_rfl) ?_
        refine RegI.pure 1 [0, 2, 7, 20] [(0, .pointer (some ⟨b12, 0, none⟩)), (2, .int .i64 p2), (7, .nilFunc), (20, .bool false)] (by kernel_rfl) ?_
        refine RegI.done (by kernel_rfl) ?_
        refine RunsI.cond false 14 (by kernel_rfl) ?_
        refine RunsI.go 1 [.c 16] (by kernel_rfl) ?_
        refine RunsI.only [0, 2] [(0, .pointer (some ⟨b12, 0, none⟩)), (2, .int .i64 p2)] (by kernel_rfl) (by kernel_rfl) ?_
        exact hj37 w28 h (h29.pick [2, 1] (by decide))
  · skip
    refine RunsI.fix 12 false hc19 (by kernel_rfl) (by kernel_rfl) ?_
    refine RunsI.cond false 15 (by kernel_rfl) ?_
    refine RunsI.go 1 [.c 16] (by kernel_rfl) ?_
    refine RunsI.only [0, 2] [(0, .pointer (some ⟨b12, 0, none⟩)), (2, .int .i64 p2)] (by kernel_rfl) (by kernel_rfl) ?_
    exact hj37 w16 h (h17.pick [2, 1] (by decide))
end

/-! ### charabanc/charabanclaw11.awake (function 23) -/
section
def charabanclaw11_awake_23.post (M0 : Nat → Prop) (w0 : World) (r : Bool) : Ending → World → Prop := fun e w => e = .returned (.bool r) ∧ Below w0.heap.size w0 w
def charabanclaw11_awake_23.f (K : Nat) : Option Bool := (regs_Set_38.f K 0 0 0 0 0 0 0 0 0 0 0 0 0 0 0 false false false false 0 3 4 18).bind fun yt5 => (regs_SetPair_40.f K 0 0 0 0 9 7 0 0 0 0 0 0 0 0 0 false false false false 0 0 2 5).bind fun yt37 => cond ((yt5.1 == 0) && ((yt5.2.1 == 0) && ((yt5.2.2.1 == 0) && ((yt5.2.2.2.1 == 0) && ((yt5.2.2.2.2.1 == 0) && ((yt5.2.2.2.2.2.1 == 0) && ((yt5.2.2.2.2.2.2.1 == 0) && ((yt5.2.2.2.2.2.2.2.1 == 0) && ((yt5.2.2.2.2.2.2.2.2.1 == 4608) && ((yt5.2.2.2.2.2.2.2.2.2.1 == 0) && ((yt5.2.2.2.2.2.2.2.2.2.2.1 == 0) && ((yt5.2.2.2.2.2.2.2.2.2.2.2.1 == 0) && ((yt5.2.2.2.2.2.2.2.2.2.2.2.2.1 == 0) && ((yt5.2.2.2.2.2.2.2.2.2.2.2.2.2.1 == 0) && ((yt5.2.2.2.2.2.2.2.2.2.2.2.2.2.2.1 == 0) && ((yt5.2.2.2.2.2.2.2.2.2.2.2.2.2.2.2.1 == false) && ((yt5.2.2.2.2.2.2.2.2.2.2.2.2.2.2.2.2.1 == false) && ((yt5.2.2.2.2.2.2.2.2.2.2.2.2.2.2.2.2.2.1 == false) && ((yt5.2.2.2.2.2.2.2.2.2.2.2.2.2.2.2.2.2.2.1 == false) && ((yt5.2.2.2.2.2.2.2.2.2.2.2.2.2.2.2.2.2.2.2 == 0) && true)))))))))))))))))))) ((regs_Get_24.f K yt5.1 yt5.2.1 yt5.2.2.1 yt5.2.2.2.1 yt5.2.2.2.2.1 yt5.2.2.2.2.2.1 yt5.2.2.2.2.2.2.1 yt5.2.2.2.2.2.2.2.1 yt5.2.2.2.2.2.2.2.2.1 yt5.2.2.2.2.2.2.2.2.2.1 yt5.2.2.2.2.2.2.2.2.2.2.1 yt5.2.2.2.2.2.2.2.2.2.2.2.1 yt5.2.2.2.2.2.2.2.2.2.2.2.2.1 yt5.2.2.2.2.2.2.2.2.2.2.2.2.2.1 yt5.2.2.2.2.2.2.2.2.2.2.2.2.2.2.1 yt5.2.2.2.2.2.2.2.2.2.2.2.2.2.2.2.1 yt5.2.2.2.2.2.2.2.2.2.2.2.2.2.2.2.2.1 yt5.2.2.2.2.2.2.2.2.2.2.2.2.2.2.2.2.2.1 yt5.2.2.2.2.2.2.2.2.2.2.2.2.2.2.2.2.2.2.1 yt5.2.2.2.2.2.2.2.2.2.2.2.2.2.2.2.2.2.2.2 3 4).bind fun t70 => cond (t70 == 18) (cond (yt37.2.2.2.1 == 5) ((regs_Pair_26.f K yt37.1 yt37.2.1 yt37.2.2.1 yt37.2.2.2.1 yt37.2.2.2.2.1 yt37.2.2.2.2.2.1 yt37.2.2.2.2.2.2.1 yt37.2.2.2.2.2.2.2.1 yt37.2.2.2.2.2.2.2.2.1 yt37.2.2.2.2.2.2.2.2.2.1 yt37.2.2.2.2.2.2.2.2.2.2.1 yt37.2.2.2.2.2.2.2.2.2.2.2.1 yt37.2.2.2.2.2.2.2.2.2.2.2.2.1 yt37.2.2.2.2.2.2.2.2.2.2.2.2.2.1 yt37.2.2.2.2.2.2.2.2.2.2.2.2.2.2.1 yt37.2.2.2.2.2.2.2.2.2.2.2.2.2.2.2.1 yt37.2.2.2.2.2.2.2.2.2.2.2.2.2.2.2.2.1 yt37.2.2.2.2.2.2.2.2.2.2.2.2.2.2.2.2.2.1 yt37.2.2.2.2.2.2.2.2.2.2.2.2.2.2.2.2.2.2.1 yt37.2.2.2.2.2.2.2.2.2.2.2.2.2.2.2.2.2.2.2 0 2).bind fun t77 => cond (t77 == 5) ((regs_Exx_28.f K yt37.1 yt37.2.1 yt37.2.2.1 yt37.2.2.2.1 yt37.2.2.2.2.1 yt37.2.2.2.2.2.1 yt37.2.2.2.2.2.2.1 yt37.2.2.2.2.2.2.2.1 yt37.2.2.2.2.2.2.2.2.1 yt37.2.2.2.2.2.2.2.2.2.1 yt37.2.2.2.2.2.2.2.2.2.2.1 yt37.2.2.2.2.2.2.2.2.2.2.2.1 yt37.2.2.2.2.2.2.2.2.2.2.2.2.1 yt37.2.2.2.2.2.2.2.2.2.2.2.2.2.1 yt37.2.2.2.2.2.2.2.2.2.2.2.2.2.2.1 yt37.2.2.2.2.2.2.2.2.2.2.2.2.2.2.2.1 yt37.2.2.2.2.2.2.2.2.2.2.2.2.2.2.2.2.1 yt37.2.2.2.2.2.2.2.2.2.2.2.2.2.2.2.2.2.1 yt37.2.2.2.2.2.2.2.2.2.2.2.2.2.2.2.2.2.2.1 yt37.2.2.2.2.2.2.2.2.2.2.2.2.2.2.2.2.2.2.2).bind fun yt83 => cond (yt83.2.1 == 7) ((regs_Swap_30.f K yt37.1 yt37.2.1 yt37.2.2.1 yt37.2.2.2.1 yt37.2.2.2.2.1 yt37.2.2.2.2.2.1 yt37.2.2.2.2.2.2.1 yt37.2.2.2.2.2.2.2.1 yt37.2.2.2.2.2.2.2.2.1 yt37.2.2.2.2.2.2.2.2.2.1 yt37.2.2.2.2.2.2.2.2.2.2.1 yt37.2.2.2.2.2.2.2.2.2.2.2.1 yt37.2.2.2.2.2.2.2.2.2.2.2.2.1 yt37.2.2.2.2.2.2.2.2.2.2.2.2.2.1 yt37.2.2.2.2.2.2.2.2.2.2.2.2.2.2.1 yt37.2.2.2.2.2.2.2.2.2.2.2.2.2.2.2.1 yt37.2.2.2.2.2.2.2.2.2.2.2.2.2.2.2.2.1 yt37.2.2.2.2.2.2.2.2.2.2.2.2.2.2.2.2.2.1 yt37.2.2.2.2.2.2.2.2.2.2.2.2.2.2.2.2.2.2.1 yt37.2.2.2.2.2.2.2.2.2.2.2.2.2.2.2.2.2.2.2).bind fun yt108 => cond (yt108.1 == 9) ((regs_Tick_32.f K 0 0 0 0 0 0 0 0 0 0 0 0 0 0 255 false false false false 0 1).bind fun yt133 => cond (yt133.2.2.2.2.2.2.2.2.2.2.2.2.2.2.1 == 128) ((regs_Reset_34.f K 0 0 0 0 0 0 0 0 0 0 0 7 0 0 0 false false false false 0).bind fun yt158 => cond ((yt158.1 == 0) && ((yt158.2.1 == 0) && ((yt158.2.2.1 == 0) && ((yt158.2.2.2.1 == 0) && ((yt158.2.2.2.2.1 == 0) && ((yt158.2.2.2.2.2.1 == 0) && ((yt158.2.2.2.2.2.2.1 == 0) && ((yt158.2.2.2.2.2.2.2.1 == 0) && ((yt158.2.2.2.2.2.2.2.2.1 == 0) && ((yt158.2.2.2.2.2.2.2.2.2.1 == 0) && ((yt158.2.2.2.2.2.2.2.2.2.2.1 == 0) && ((yt158.2.2.2.2.2.2.2.2.2.2.2.1 == 0) && ((yt158.2.2.2.2.2.2.2.2.2.2.2.2.1 == 0) && ((yt158.2.2.2.2.2.2.2.2.2.2.2.2.2.1 == 0) && ((yt158.2.2.2.2.2.2.2.2.2.2.2.2.2.2.1 == 0) && ((yt158.2.2.2.2.2.2.2.2.2.2.2.2.2.2.2.1 == false) && ((yt158.2.2.2.2.2.2.2.2.2.2.2.2.2.2.2.2.1 == false) && ((yt158.2.2.2.2.2.2.2.2.2.2.2.2.2.2.2.2.2.1 == false) && ((yt158.2.2.2.2.2.2.2.2.2.2.2.2.2.2.2.2.2.2.1 == false) && ((yt158.2.2.2.2.2.2.2.2.2.2.2.2.2.2.2.2.2.2.2 == 0) && true)))))))))))))))))))) ((regs_Show_36.f K 0 0 0 0 0 0 0 0 0 0 0 0 0 0 0 false false false false 0).bind fun t183 => some ((ByteArray.toList t183) == (ByteArray.toList (⟨#[97, 102, 61, 48, 48, 48, 48, 104, 32, 98, 99, 61, 48, 48, 48, 48, 104, 32, 100, 101, 61, 48, 48, 48, 48, 104, 32, 104, 108, 61, 48, 48, 48, 48, 104, 32, 105, 120, 61, 48, 48, 48, 48, 104, 32, 105, 121, 61, 48, 48, 48, 48, 104, 32, 115, 112, 61, 48, 48, 48, 48, 104, 32, 112, 99, 61, 48, 48, 48, 48, 104, 32, 105, 61, 48, 48, 104, 32, 114, 61, 48, 48, 104, 32, 105, 109, 48]⟩ : ByteArray)))) (some false)) (some false)) (some false)) (some false)) (some false)) (some false)) (some false)) (some false)
set_option maxRecDepth 100000 in
theorem charabanclaw11_awake_23_ok (K : Nat) (M0 : Nat → Prop) (w0 : World) (ho : ∀ b, M0 b → b < w0.heap.size) (hG2 : (gl 2 (tab_2.flatMap en_2)).ok w0 M0) (hG4 : (gl 4 (tab_4.flatMap en_4)).ok w0 M0) (hG5 : (gl 5 (tab_5.flatMap en_5)).ok w0 M0) {r : Bool} (h : charabanclaw11_awake_23.f K = some r) :
    Calls Tryd.prog 23 #[] w0 (charabanclaw11_awake_23.post M0 w0 r) := by
  unfold charabanclaw11_awake_23.f at h
  have h0 : Holds M0 w0 w0 [] := Holds.start ho
  have h0g2 := h0.add (gl 2 (tab_2.flatMap en_2)) rfl ⟨hG2.1, fun hm => hG2.2.1 (hm.elim id (fun hm => absurd hm (by simp [mines, sl, gl]))), hG2.2.2⟩
  have h0g4 := h0g2.add (gl 4 (tab_4.flatMap en_4)) rfl ⟨hG4.1, fun hm => hG4.2.1 (hm.elim id (fun hm => absurd hm (by simp [mines, sl, gl]))), hG4.2.2⟩
  have h0g5 := h0g4.add (gl 5 (tab_5.flatMap en_5)) rfl ⟨hG5.1, fun hm => hG5.2.1 (hm.elim id (fun hm => absurd hm (by simp [mines, sl, gl]))), hG5.2.2⟩
  have h0 : Holds M0 w0 w0 [gl 2 (tab_2.flatMap en_2), gl 4 (tab_4.flatMap en_4), gl 5 (tab_5.flatMap en_5)] := h0g5
  refine calls_of F23 rfl [] (by kernel_rfl) ?_
  refine RunsI.go 1 [.c 1, .c 2] (by kernel_rfl) ?_
  refine RunsI.region (by kernel_rfl) ?_
  refine RegI.pure 1 [] [] (by kernel_rfl) ?_
  refine RegI.done (by kernel_rfl) ?_
  refine RunsI.go 1 [.c 3, .c 4] (by kernel_rfl) ?_
  refine RunsI.region (by kernel_rfl) ?_
  refine RegI.pure 1 [3] [(3, .agg #[.int .u16 0, .int .u16 0, .int .u16 0, .int .u16 0, .int .u16 0, .int .u16 0, .int .u16 0, .int .u16 0, .int .u16 0, .int .u16 0, .int .u16 0, .int .u16 0, .int .u16 0, .int .u8 0, .int .u8 0, .bool false, .bool false, .bool false, .bool false, .int .i64 0])] (by kernel_rfl) ?_
  obtain ⟨⟨t5, t6, t7, t8, t9, t10, t11, t12, t13, t14, t15, t16, t17, t18, t19, t20, t21, t22, t23, t24⟩, hg4, h⟩ := of_bind h
  dsimp only at h
  refine RegI.op (by kernel_rfl) (OpE.call 4 (by kernel_rfl) 38 #[.agg #[.int .u16 0, .int .u16 0, .int .u16 0, .int .u16 0, .int .u16 0, .int .u16 0, .int .u16 0, .int .u16 0, .int .u16 0, .int .u16 0, .int .u16 0, .int .u16 0, .int .u16 0, .int .u8 0, .int .u8 0, .bool false, .bool false, .bool false, .bool false, .int .i64 0], .int .i64 3, .int .i64 4, .int .u8 18] (by kernel_rfl) ((regs_Set_38_ok K _ w0  0 0 0 0 0 0 0 0 0 0 0 0 0 0 0 false false false false 0 3 4 18 h0.old' hg4).mono ?_))
  rintro _ w1 ⟨rfl, hb2⟩
  refine ⟨_, rfl, ?_⟩
  have h3 := h0.call hb2
  refine RegI.op (by kernel_rfl) (OpE.box 1 46 [.int .u16 0, .int .u16 0, .int .u16 0, .int .u16 0, .int .u16 0, .int .u16 0, .int .u16 0, .int .u16 0, .int .u16 0, .int .u16 0, .int .u16 0, .int .u16 0, .int .u16 0, .int .u8 0, .int .u8 0, .bool false, .bool false, .bool false, .bool false, .int .i64 0] h3 (by kernel_rfl) (by kernel_rfl) ?_)
  intro w25 b26 h27 hb28 hn29
  refine RegI.op (by kernel_rfl) (OpE.storeBox 3 46 b26 0 (.agg #[.int .u16 t5, .int .u16 t6, .int .u16 t7, .int .u16 t8, .int .u16 t9, .int .u16 t10, .int .u16 t11, .int .u16 t12, .int .u16 t13, .int .u16 t14, .int .u16 t15, .int .u16 t16, .int .u16 t17, .int .u8 t18, .int .u8 t19, .bool t20, .bool t21, .bool t22, .bool t23, .int .i64 t24]) [.int .u16 t5, .int .u16 t6, .int .u16 t7, .int .u16 t8, .int .u16 t9, .int .u16 t10, .int .u16 t11, .int .u16 t12, .int .u16 t13, .int .u16 t14, .int .u16 t15, .int .u16 t16, .int .u16 t17, .int .u8 t18, .int .u8 t19, .bool t20, .bool t21, .bool t22, .bool t23, .int .i64 t24] h27 (by kernel_rfl) (by kernel_rfl) rfl (by kernel_rfl) (by kernel_rfl) (by kernel_rfl) ?_)
  intro w30 h31 hk32
  refine RegI.done (by kernel_rfl) ?_
  refine RunsI.go 1 [.c 5, .c 6] (by kernel_rfl) ?_
  refine RunsI.region (by kernel_rfl) ?_
  refine RegI.pure 1 [1, 5] [(1, .pointer (some ⟨b26, 0, none⟩)), (5, .agg #[.int .u16 0, .int .u16 0, .int .u16 0, .int .u16 0, .int .u16 9, .int .u16 7, .int .u16 0, .int .u16 0, .int .u16 0, .int .u16 0, .int .u16 0, .int .u16 0, .int .u16 0, .int .u8 0, .int .u8 0, .bool false, .bool false, .bool false, .bool false, .int .i64 0])] (by kernel_rfl) ?_
  obtain ⟨⟨t37, t38, t39, t40, t41, t42, t43, t44, t45, t46, t47, t48, t49, t50, t51, t52, t53, t54, t55, t56⟩, hg36, h⟩ := of_bind h
  dsimp only at h
  refine RegI.op (by kernel_rfl) (OpE.call 6 (by kernel_rfl) 40 #[.agg #[.int .u16 0, .int .u16 0, .int .u16 0, .int .u16 0, .int .u16 9, .int .u16 7, .int .u16 0, .int .u16 0, .int .u16 0, .int .u16 0, .int .u16 0, .int .u16 0, .int .u16 0, .int .u8 0, .int .u8 0, .bool false, .bool false, .bool false, .bool false, .int .i64 0], .int .i64 0, .int .i64 2, .int .u16 5] (by kernel_rfl) ((regs_SetPair_40_ok K _ w30  0 0 0 0 9 7 0 0 0 0 0 0 0 0 0 false false false false 0 0 2 5 h31.old' hg36).mono ?_))
  rintro _ w33 ⟨rfl, hb34⟩
  refine ⟨_, rfl, ?_⟩
  have h35 := h31.call hb34
  refine RegI.op (by kernel_rfl) (OpE.box 2 46 [.int .u16 0, .int .u16 0, .int .u16 0, .int .u16 0, .int .u16 0, .int .u16 0, .int .u16 0, .int .u16 0, .int .u16 0, .int .u16 0, .int .u16 0, .int .u16 0, .int .u16 0, .int .u8 0, .int .u8 0, .bool false, .bool false, .bool false, .bool false, .int .i64 0] h35 (by kernel_rfl) (by kernel_rfl) ?_)
  intro w57 b58 h59 hb60 hn61
  refine RegI.op (by kernel_rfl) (OpE.storeBox 4 46 b58 0 (.agg #[.int .u16 t37, .int .u16 t38, .int .u16 t39, .int .u16 t40, .int .u16 t41, .int .u16 t42, .int .u16 t43, .int .u16 t44, .int .u16 t45, .int .u16 t46, .int .u16 t47, .int .u16 t48, .int .u16 t49, .int .u8 t50, .int .u8 t51, .bool t52, .bool t53, .bool t54, .bool t55, .int .i64 t56]) [.int .u16 t37, .int .u16 t38, .int .u16 t39, .int .u16 t40, .int .u16 t41, .int .u16 t42, .int .u16 t43, .int .u16 t44, .int .u16 t45, .int .u16 t46, .int .u16 t47, .int .u16 t48, .int .u16 t49, .int .u8 t50, .int .u8 t51, .bool t52, .bool t53, .bool t54, .bool t55, .int .i64 t56] h59 (by kernel_rfl) (by kernel_rfl) rfl (by kernel_rfl) (by kernel_rfl) (by kernel_rfl) ?_)
  intro w62 h63 hk64
  refine RegI.done (by kernel_rfl) ?_
  refine RunsI.go 1 [.c 7, .c 8] (by kernel_rfl) ?_
  refine RunsI.region (by kernel_rfl) ?_
  refine RegI.op (by kernel_rfl) (OpE.loadBox 7 3 46 b26 0 (.agg #[.int .u16 t5, .int .u16 t6, .int .u16 t7, .int .u16 t8, .int .u16 t9, .int .u16 t10, .int .u16 t11, .int .u16 t12, .int .u16 t13, .int .u16 t14, .int .u16 t15, .int .u16 t16, .int .u16 t17, .int .u8 t18, .int .u8 t19, .bool t20, .bool t21, .bool t22, .bool t23, .int .i64 t24]) h63 (by kernel_rfl) (by kernel_rfl) rfl (by kernel_rfl) ?_)
  refine RegI.pure 1 [1, 2, 7, 8] [(1, .pointer (some ⟨b26, 0, none⟩)), (2, .pointer (some ⟨b58, 0, none⟩)), (7, .agg #[.int .u16 t5, .int .u16 t6, .int .u16 t7, .int .u16 t8, .int .u16 t9, .int .u16 t10, .int .u16 t11, .int .u16 t12, .int .u16 t13, .int .u16 t14, .int .u16 t15, .int .u16 t16, .int .u16 t17, .int .u8 t18, .int .u8 t19, .bool t20, .bool t21, .bool t22, .bool t23, .int .i64 t24]), (8, .agg #[.int .u16 0, .int .u16 0, .int .u16 0, .int .u16 0, .int .u16 0, .int .u16 0, .int .u16 0, .int .u16 0, .int .u16 4608, .int .u16 0, .int .u16 0, .int .u16 0, .int .u16 0, .int .u8 0, .int .u8 0, .bool false, .bool false, .bool false, .bool false, .int .i64 0])] (by kernel_rfl) ?_
  refine RegI.op (by kernel_rfl) (OpE.run 9 (by kernel_rfl) (run_eqS (neg := false) (t := 46) (x := .agg #[.int .u16 t5, .int .u16 t6, .int .u16 t7, .int .u16 t8, .int .u16 t9, .int .u16 t10, .int .u16 t11, .int .u16 t12, .int .u16 t13, .int .u16 t14, .int .u16 t15, .int .u16 t16, .int .u16 t17, .int .u8 t18, .int .u8 t19, .bool t20, .bool t21, .bool t22, .bool t23, .int .i64 t24]) (y := .agg #[.int .u16 0, .int .u16 0, .int .u16 0, .int .u16 0, .int .u16 0, .int .u16 0, .int .u16 0, .int .u16 0, .int .u16 4608, .int .u16 0, .int .u16 0, .int .u16 0, .int .u16 0, .int .u8 0, .int .u8 0, .bool false, .bool false, .bool false, .bool false, .int .i64 0]) (b := ((t5 == 0) && ((t6 == 0) && ((t7 == 0) && ((t8 == 0) && ((t9 == 0) && ((t10 == 0) && ((t11 == 0) && ((t12 == 0) && ((t13 == 4608) && ((t14 == 0) && ((t15 == 0) && ((t16 == 0) && ((t17 == 0) && ((t18 == 0) && ((t19 == 0) && ((t20 == false) && ((t21 == false) && ((t22 == false) && ((t23 == false) && ((t24 == 0) && true))))))))))))))))))))) (by kernel_rfl) (by kernel_rfl) (by kernel_rfl) (by kernel_rfl)) ?_)
  refine RegI.pure 1 [1, 2, 10] [(1, .pointer (some ⟨b26, 0, none⟩)), (2, .pointer (some ⟨b58, 0, none⟩)), (10, .bool ((t5 == 0) && ((t6 == 0) && ((t7 == 0) && ((t8 == 0) && ((t9 == 0) && ((t10 == 0) && ((t11 == 0) && ((t12 == 0) && ((t13 == 4608) && ((t14 == 0) && ((t15 == 0) && ((t16 == 0) && ((t17 == 0) && ((t18 == 0) && ((t19 == 0) && ((t20 == false) && ((t21 == false) && ((t22 == false) && ((t23 == false) && ((t24 == 0) && true)))))))))))))))))))))] (by kernel_rfl) ?_
  rcases of_cond h with ⟨hc65, h⟩ | ⟨hc65, h⟩
  · skip
    refine RegI.fix 10 true hc65 (by kernel_rfl) (by kernel_rfl) ?_
    refine RegI.op (by kernel_rfl) (OpE.loadBox 11 3 46 b26 0 (.agg #[.int .u16 t5, .int .u16 t6, .int .u16 t7, .int .u16 t8, .int .u16 t9, .int .u16 t10, .int .u16 t11, .int .u16 t12, .int .u16 t13, .int .u16 t14, .int .u16 t15, .int .u16 t16, .int .u16 t17, .int .u8 t18, .int .u8 t19, .bool t20, .bool t21, .bool t22, .bool t23, .int .i64 t24]) h63 (by kernel_rfl) (by kernel_rfl) rfl (by kernel_rfl) ?_)
    obtain ⟨t70, hg69, h⟩ := of_bind h
    refine RegI.op (by kernel_rfl) (OpE.call 12 (by kernel_rfl) 24 #[.agg #[.int .u16 t5, .int .u16 t6, .int .u16 t7, .int .u16 t8, .int .u16 t9, .int .u16 t10, .int .u16 t11, .int .u16 t12, .int .u16 t13, .int .u16 t14, .int .u16 t15, .int .u16 t16, .int .u16 t17, .int .u8 t18, .int .u8 t19, .bool t20, .bool t21, .bool t22, .bool t23, .int .i64 t24], .int .i64 3, .int .i64 4] (by kernel_rfl) ((regs_Get_24_ok K _ w62  t5 t6 t7 t8 t9 t10 t11 t12 t13 t14 t15 t16 t17 t18 t19 t20 t21 t22 t23 t24 3 4 h63.old' hg69).mono ?_))
    rintro _ w66 ⟨rfl, hb67⟩
    refine ⟨_, rfl, ?_⟩
    have h68 := h63.call hb67
    refine RegI.pure 3 [2, 15] [(2, .pointer (some ⟨b58, 0, none⟩)), (15, .bool (t70 == 18))] (by kernel_rfl) ?_
    rcases of_cond h with ⟨hc71, h⟩ | ⟨hc71, h⟩
    · skip
      refine RegI.fix 15 true hc71 (by kernel_rfl) (by kernel_rfl) ?_
      refine RegI.pure 1 [2, 15, 16] [(2, .pointer (some ⟨b58, 0, none⟩)), (15, .bool true), (16, .pointer (some ⟨b58, 3, none⟩))] (by kernel_rfl) ?_
      refine RegI.op (by kernel_rfl) (OpE.loadBox 17 4 22 b58 3 (.int .u16 t40) h68 (by kernel_rfl) (by kernel_rfl) rfl (by kernel_rfl) ?_)
      refine RegI.pure 3 [2, 20] [(2, .pointer (some ⟨b58, 0, none⟩)), (20, .bool (t40 == 5))] (by kernel_rfl) ?_
      rcases of_cond h with ⟨hc72, h⟩ | ⟨hc72, h⟩
      · skip
        refine RegI.fix 20 true hc72 (by kernel_rfl) (by kernel_rfl) ?_
        refine RegI.op (by kernel_rfl) (OpE.loadBox 21 4 46 b58 0 (.agg #[.int .u16 t37, .int .u16 t38, .int .u16 t39, .int .u16 t40, .int .u16 t41, .int .u16 t42, .int .u16 t43, .int .u16 t44, .int .u16 t45, .int .u16 t46, .int .u16 t47, .int .u16 t48, .int .u16 t49, .int .u8 t50, .int .u8 t51, .bool t52, .bool t53, .bool t54, .bool t55, .int .i64 t56]) h68 (by kernel_rfl) (by kernel_rfl) rfl (by kernel_rfl) ?_)
        obtain ⟨t77, hg76, h⟩ := of_bind h
        refine RegI.op (by kernel_rfl) (OpE.call 22 (by kernel_rfl) 26 #[.agg #[.int .u16 t37, .int .u16 t38, .int .u16 t39, .int .u16 t40, .int .u16 t41, .int .u16 t42, .int .u16 t43, .int .u16 t44, .int .u16 t45, .int .u16 t46, .int .u16 t47, .int .u16 t48, .int .u16 t49, .int .u8 t50, .int .u8 t51, .bool t52, .bool t53, .bool t54, .bool t55, .int .i64 t56], .int .i64 0, .int .i64 2] (by kernel_rfl) ((regs_Pair_26_ok K _ w66  t37 t38 t39 t40 t41 t42 t43 t44 t45 t46 t47 t48 t49 t50 t51 t52 t53 t54 t55 t56 0 2 h68.old' hg76).mono ?_))
        rintro _ w73 ⟨rfl, hb74⟩
        refine ⟨_, rfl, ?_⟩
        have h75 := h68.call hb74
        refine RegI.pure 3 [2, 25] [(2, .pointer (some ⟨b58, 0, none⟩)), (25, .bool (t77 == 5))] (by kernel_rfl) ?_
        rcases of_cond h with ⟨hc78, h⟩ | ⟨hc78, h⟩
        · skip
          refine RegI.fix 25 true hc78 (by kernel_rfl) (by kernel_rfl) ?_
          refine RegI.op (by kernel_rfl) (OpE.loadBox 26 4 46 b58 0 (.agg #[.int .u16 t37, .int .u16 t38, .int .u16 t39, .int .u16 t40, .int .u16 t41, .int .u16 t42, .int .u16 t43, .int .u16 t44, .int .u16 t45, .int .u16 t46, .int .u16 t47, .int .u16 t48, .int .u16 t49, .int .u8 t50, .int .u8 t51, .bool t52, .bool t53, .bool t54, .bool t55, .int .i64 t56]) h75 (by kernel_rfl) (by kernel_rfl) rfl (by kernel_rfl) ?_)
          obtain ⟨⟨t83, t84, t85, t86, t87, t88, t89, t90, t91, t92, t93, t94, t95, t96, t97, t98, t99, t100, t101, t102⟩, hg82, h⟩ := of_bind h
          dsimp only at h
          refine RegI.op (by kernel_rfl) (OpE.call 27 (by kernel_rfl) 28 #[.agg #[.int .u16 t37, .int .u16 t38, .int .u16 t39, .int .u16 t40, .int .u16 t41, .int .u16 t42, .int .u16 t43, .int .u16 t44, .int .u16 t45, .int .u16 t46, .int .u16 t47, .int .u16 t48, .int .u16 t49, .int .u8 t50, .int .u8 t51, .bool t52, .bool t53, .bool t54, .bool t55, .int .i64 t56]] (by kernel_rfl) ((regs_Exx_28_ok K _ w73  t37 t38 t39 t40 t41 t42 t43 t44 t45 t46 t47 t48 t49 t50 t51 t52 t53 t54 t55 t56 h75.old' hg82).mono ?_))
          rintro _ w79 ⟨rfl, hb80⟩
          refine ⟨_, rfl, ?_⟩
          have h81 := h75.call hb80
          refine RegI.pure 4 [2, 31] [(2, .pointer (some ⟨b58, 0, none⟩)), (31, .bool (t84 == 7))] (by kernel_rfl) ?_
          rcases of_cond h with ⟨hc103, h⟩ | ⟨hc103, h⟩
          · skip
            refine RegI.fix 31 true hc103 (by kernel_rfl) (by kernel_rfl) ?_
            refine RegI.op (by kernel_rfl) (OpE.loadBox 32 4 46 b58 0 (.agg #[.int .u16 t37, .int .u16 t38, .int .u16 t39, .int .u16 t40, .int .u16 t41, .int .u16 t42, .int .u16 t43, .int .u16 t44, .int .u16 t45, .int .u16 t46, .int .u16 t47, .int .u16 t48, .int .u16 t49, .int .u8 t50, .int .u8 t51, .bool t52, .bool t53, .bool t54, .bool t55, .int .i64 t56]) h81 (by kernel_rfl) (by kernel_rfl) rfl (by kernel_rfl) ?_)
            obtain ⟨⟨t108, t109, t110, t111, t112, t113, t114, t115, t116, t117, t118, t119, t120, t121, t122, t123, t124, t125, t126, t127⟩, hg107, h⟩ := of_bind h
            dsimp only at h
            refine RegI.op (by kernel_rfl) (OpE.call 33 (by kernel_rfl) 30 #[.agg #[.int .u16 t37, .int .u16 t38, .int .u16 t39, .int .u16 t40, .int .u16 t41, .int .u16 t42, .int .u16 t43, .int .u16 t44, .int .u16 t45, .int .u16 t46, .int .u16 t47, .int .u16 t48, .int .u16 t49, .int .u8 t50, .int .u8 t51, .bool t52, .bool t53, .bool t54, .bool t55, .int .i64 t56]] (by kernel_rfl) ((regs_Swap_30_ok K _ w79  t37 t38 t39 t40 t41 t42 t43 t44 t45 t46 t47 t48 t49 t50 t51 t52 t53 t54 t55 t56 h81.old' hg107).mono ?_))
            rintro _ w104 ⟨rfl, hb105⟩
            refine ⟨_, rfl, ?_⟩
            have h106 := h81.call hb105
            refine RegI.pure 4 [37] [(37, .bool (t108 == 9))] (by kernel_rfl) ?_
            rcases of_cond h with ⟨hc128, h⟩ | ⟨hc128, h⟩
            · skip
              refine RegI.fix 37 true hc128 (by kernel_rfl) (by kernel_rfl) ?_
              refine RegI.pure 1 [37, 38] [(37, .bool true), (38, .agg #[.int .u16 0, .int .u16 0, .int .u16 0, .int .u16 0, .int .u16 0, .int .u16 0, .int .u16 0, .int .u16 0, .int .u16 0, .int .u16 0, .int .u16 0, .int .u16 0, .int .u16 0, .int .u8 0, .int .u8 255, .bool false, .bool false, .bool false, .bool false, .int .i64 0])] (by kernel_rfl) ?_
              obtain ⟨⟨t133, t134, t135, t136, t137, t138, t139, t140, t141, t142, t143, t144, t145, t146, t147, t148, t149, t150, t151, t152⟩, hg132, h⟩ := of_bind h
              dsimp only at h
              refine RegI.op (by kernel_rfl) (OpE.call 39 (by kernel_rfl) 32 #[.agg #[.int .u16 0, .int .u16 0, .int .u16 0, .int .u16 0, .int .u16 0, .int .u16 0, .int .u16 0, .int .u16 0, .int .u16 0, .int .u16 0, .int .u16 0, .int .u16 0, .int .u16 0, .int .u8 0, .int .u8 255, .bool false, .bool false, .bool false, .bool false, .int .i64 0], .int .i64 1] (by kernel_rfl) ((regs_Tick_32_ok K _ w104  0 0 0 0 0 0 0 0 0 0 0 0 0 0 255 false false false false 0 1 h106.old' hg132).mono ?_))
              rintro _ w129 ⟨rfl, hb130⟩
              refine ⟨_, rfl, ?_⟩
              have h131 := h106.call hb130
              refine RegI.pure 4 [43] [(43, .bool (t147 == 128))] (by kernel_rfl) ?_
              rcases of_cond h with ⟨hc153, h⟩ | ⟨hc153, h⟩
              · skip
                refine RegI.fix 43 true hc153 (by kernel_rfl) (by kernel_rfl) ?_
                refine RegI.pure 1 [43, 44] [(43, .bool true), (44, .agg #[.int .u16 0, .int .u16 0, .int .u16 0, .int .u16 0, .int .u16 0, .int .u16 0, .int .u16 0, .int .u16 0, .int .u16 0, .int .u16 0, .int .u16 0, .int .u16 7, .int .u16 0, .int .u8 0, .int .u8 0, .bool false, .bool false, .bool false, .bool false, .int .i64 0])] (by kernel_rfl) ?_
                obtain ⟨⟨t158, t159, t160, t161, t162, t163, t164, t165, t166, t167, t168, t169, t170, t171, t172, t173, t174, t175, t176, t177⟩, hg157, h⟩ := of_bind h
                dsimp only at h
                refine RegI.op (by kernel_rfl) (OpE.call 45 (by kernel_rfl) 34 #[.agg #[.int .u16 0, .int .u16 0, .int .u16 0, .int .u16 0, .int .u16 0, .int .u16 0, .int .u16 0, .int .u16 0, .int .u16 0, .int .u16 0, .int .u16 0, .int .u16 7, .int .u16 0, .int .u8 0, .int .u8 0, .bool false, .bool false, .bool false, .bool false, .int .i64 0]] (by kernel_rfl) ((regs_Reset_34_ok K _ w129  0 0 0 0 0 0 0 0 0 0 0 7 0 0 0 false false false false 0 h131.old' hg157).mono ?_))
                rintro _ w154 ⟨rfl, hb155⟩
                refine ⟨_, rfl, ?_⟩
                have h156 := h131.call hb155
                refine RegI.pure 1 [43, 45, 46] [(43, .bool true), (45, .agg #[.int .u16 t158, .int .u16 t159, .int .u16 t160, .int .u16 t161, .int .u16 t162, .int .u16 t163, .int .u16 t164, .int .u16 t165, .int .u16 t166, .int .u16 t167, .int .u16 t168, .int .u16 t169, .int .u16 t170, .int .u8 t171, .int .u8 t172, .bool t173, .bool t174, .bool t175, .bool t176, .int .i64 t177]), (46, .agg #[.int .u16 0, .int .u16 0, .int .u16 0, .int .u16 0, .int .u16 0, .int .u16 0, .int .u16 0, .int .u16 0, .int .u16 0, .int .u16 0, .int .u16 0, .int .u16 0, .int .u16 0, .int .u8 0, .int .u8 0, .bool false, .bool false, .bool false, .bool false, .int .i64 0])] (by kernel_rfl) ?_
                refine RegI.op (by kernel_rfl) (OpE.run 47 (by kernel_rfl) (run_eqS (neg := false) (t := 46) (x := .agg #[.int .u16 t158, .int .u16 t159, .int .u16 t160, .int .u16 t161, .int .u16 t162, .int .u16 t163, .int .u16 t164, .int .u16 t165, .int .u16 t166, .int .u16 t167, .int .u16 t168, .int .u16 t169, .int .u16 t170, .int .u8 t171, .int .u8 t172, .bool t173, .bool t174, .bool t175, .bool t176, .int .i64 t177]) (y := .agg #[.int .u16 0, .int .u16 0, .int .u16 0, .int .u16 0, .int .u16 0, .int .u16 0, .int .u16 0, .int .u16 0, .int .u16 0, .int .u16 0, .int .u16 0, .int .u16 0, .int .u16 0, .int .u8 0, .int .u8 0, .bool false, .bool false, .bool false, .bool false, .int .i64 0]) (b := ((t158 == 0) && ((t159 == 0) && ((t160 == 0) && ((t161 == 0) && ((t162 == 0) && ((t163 == 0) && ((t164 == 0) && ((t165 == 0) && ((t166 == 0) && ((t167 == 0) && ((t168 == 0) && ((t169 == 0) && ((t170 == 0) && ((t171 == 0) && ((t172 == 0) && ((t173 == false) && ((t174 == false) && ((t175 == false) && ((t176 == false) && ((t177 == 0) && true))))))))))))))))))))) (by kernel_rfl) (by kernel_rfl) (by kernel_rfl) (by kernel_rfl)) ?_)
                refine RegI.pure 2 [49] [(49, .bool ((t158 == 0) && ((t159 == 0) && ((t160 == 0) && ((t161 == 0) && ((t162 == 0) && ((t163 == 0) && ((t164 == 0) && ((t165 == 0) && ((t166 == 0) && ((t167 == 0) && ((t168 == 0) && ((t169 == 0) && ((t170 == 0) && ((t171 == 0) && ((t172 == 0) && ((t173 == false) && ((t174 == false) && ((t175 == false) && ((t176 == false) && ((t177 == 0) && true)))))))))))))))))))))] (by kernel_rfl) ?_
                rcases of_cond h with ⟨hc178, h⟩ | ⟨hc178, h⟩
                · skip
                  refine RegI.fix 49 true hc178 (by kernel_rfl) (by kernel_rfl) ?_
                  refine RegI.pure 1 [49, 50] [(49, .bool true), (50, .agg #[.int .u16 0, .int .u16 0, .int .u16 0, .int .u16 0, .int .u16 0, .int .u16 0, .int .u16 0, .int .u16 0, .int .u16 0, .int .u16 0, .int .u16 0, .int .u16 0, .int .u16 0, .int .u8 0, .int .u8 0, .bool false, .bool false, .bool false, .bool false, .int .i64 0])] (by kernel_rfl) ?_
                  obtain ⟨t183, hg182, h⟩ := of_bind h
                  refine RegI.op (by kernel_rfl) (OpE.call 51 (by kernel_rfl) 36 #[.agg #[.int .u16 0, .int .u16 0, .int .u16 0, .int .u16 0, .int .u16 0, .int .u16 0, .int .u16 0, .int .u16 0, .int .u16 0, .int .u16 0, .int .u16 0, .int .u16 0, .int .u16 0, .int .u8 0, .int .u8 0, .bool false, .bool false, .bool false, .bool false, .int .i64 0]] (by kernel_rfl) ((regs_Show_36_ok K _ w154  0 0 0 0 0 0 0 0 0 0 0 0 0 0 0 false false false false 0 h156.old' (h156.get 0 rfl) (h156.get 1 rfl) (h156.get 2 rfl) hg182).mono ?_))
                  rintro _ w179 ⟨rfl, hb180⟩
                  refine ⟨_, rfl, ?_⟩
                  have h181 := h156.call hb180
                  refine RegI.pure 3 [0] [(0, .bool ((ByteArray.toList t183) == (ByteArray.toList (⟨#[97, 102, 61, 48, 48, 48, 48, 104, 32, 98, 99, 61, 48, 48, 48, 48, 104, 32, 100, 101, 61, 48, 48, 48, 48, 104, 32, 104, 108, 61, 48, 48, 48, 48, 104, 32, 105, 120, 61, 48, 48, 48, 48, 104, 32, 105, 121, 61, 48, 48, 48, 48, 104, 32, 115, 112, 61, 48, 48, 48, 48, 104, 32, 112, 99, 61, 48, 48, 48, 48, 104, 32, 105, 61, 48, 48, 104, 32, 114, 61, 48, 48, 104, 32, 105, 109, 48]⟩ : ByteArray))))] (by kernel_rfl) ?_
                  refine RegI.done (by kernel_rfl) ?_
                  refine RunsI.ret (.bool ((ByteArray.toList t183) == (ByteArray.toList (⟨#[97, 102, 61, 48, 48, 48, 48, 104, 32, 98, 99, 61, 48, 48, 48, 48, 104, 32, 100, 101, 61, 48, 48, 48, 48, 104, 32, 104, 108, 61, 48, 48, 48, 48, 104, 32, 105, 120, 61, 48, 48, 48, 48, 104, 32, 105, 121, 61, 48, 48, 48, 48, 104, 32, 115, 112, 61, 48, 48, 48, 48, 104, 32, 112, 99, 61, 48, 48, 48, 48, 104, 32, 105, 61, 48, 48, 104, 32, 114, 61, 48, 48, 104, 32, 105, 109, 48]⟩ : ByteArray)))) (by kernel_rfl) (by kernel_rfl) ?_
                  obtain rfl := Option.some.inj h
                  exact ⟨rfl, h181.below⟩
                · skip
                  refine RegI.fix 49 false hc178 (by kernel_rfl) (by kernel_rfl) ?_
                  refine RegI.pure 5 [0] [(0, .bool false)] (by kernel_rfl) ?_
                  refine RegI.done (by kernel_rfl) ?_
                  refine RunsI.ret (.bool false) (by kernel_rfl) (by kernel_rfl) ?_
                  obtain rfl := Option.some.inj h
                  exact ⟨rfl, h156.below⟩
              · skip
                refine RegI.fix 43 false hc153 (by kernel_rfl) (by kernel_rfl) ?_
                refine RegI.pure 11 [0] [(0, .bool false)] (by kernel_rfl) ?_
                refine RegI.done (by kernel_rfl) ?_
                refine RunsI.ret (.bool false) (by kernel_rfl) (by kernel_rfl) ?_
                obtain rfl := Option.some.inj h
                exact ⟨rfl, h131.below⟩
            · skip
              refine RegI.fix 37 false hc128 (by kernel_rfl) (by kernel_rfl) ?_
              refine RegI.pure 17 [0] [(0, .bool false)] (by kernel_rfl) ?_
              refine RegI.done (by kernel_rfl) ?_
              refine RunsI.ret (.bool false) (by kernel_rfl) (by kernel_rfl) ?_
              obtain rfl := Option.some.inj h
              exact ⟨rfl, h106.below⟩
          · skip
            refine RegI.fix 31 false hc103 (by kernel_rfl) (by kernel_rfl) ?_
            refine RegI.pure 23 [0] [(0, .bool false)] (by kernel_rfl) ?_
            refine RegI.done (by kernel_rfl) ?_
            refine RunsI.ret (.bool false) (by kernel_rfl) (by kernel_rfl) ?_
            obtain rfl := Option.some.inj h
            exact ⟨rfl, h81.below⟩
        · skip
          refine RegI.fix 25 false hc78 (by kernel_rfl) (by kernel_rfl) ?_
          refine RegI.pure 29 [0] [(0, .bool false)] (by kernel_rfl) ?_
          refine RegI.done (by kernel_rfl) ?_
          refine RunsI.ret (.bool false) (by kernel_rfl) (by kernel_rfl) ?_
          obtain rfl := Option.some.inj h
          exact ⟨rfl, h75.below⟩
      · skip
        refine RegI.fix 20 false hc72 (by kernel_rfl) (by kernel_rfl) ?_
        refine RegI.pure 34 [0] [(0, .bool false)] (by kernel_rfl) ?_
        refine RegI.done (by kernel_rfl) ?_
        refine RunsI.ret (.bool false) (by kernel_rfl) (by kernel_rfl) ?_
        obtain rfl := Option.some.inj h
        exact ⟨rfl, h68.below⟩
    · skip
      refine RegI.fix 15 false hc71 (by kernel_rfl) (by kernel_rfl) ?_
      refine RegI.pure 39 [0] [(0, .bool false)] (by kernel_rfl) ?_
      refine RegI.done (by kernel_rfl) ?_
      refine RunsI.ret (.bool false) (by kernel_rfl) (by kernel_rfl) ?_
      obtain rfl := Option.some.inj h
      exact ⟨rfl, h68.below⟩
  · skip
    refine RegI.fix 10 false hc65 (by kernel_rfl) (by kernel_rfl) ?_
    refine RegI.pure 44 [0] [(0, .bool false)] (by kernel_rfl) ?_
    refine RegI.done (by kernel_rfl) ?_
    refine RunsI.ret (.bool false) (by kernel_rfl) (by kernel_rfl) ?_
    obtain rfl := Option.some.inj h
    exact ⟨rfl, h63.below⟩
end
end Go.Proofs.YtajnhlkkbhobiaaDoor.Reg
