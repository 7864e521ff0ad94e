/- The statement's function RegsGets as a plain Lean function; written by wip/eng.py. -/
import Derived.Test.YtajnhlkkbhobiaaDoorReg3
set_option linter.unusedVariables false
set_option linter.unusedSimpArgs false
set_option maxHeartbeats 4000000
namespace Go.Proofs.YtajnhlkkbhobiaaDoor.Reg
open Go.RowKit Go.Eng
noncomputable def B6 : Code := (Tryd.f6.body).getD .skip
noncomputable def F6 : Fun Tryd.prog := ⟨6, Tryd.f6, B6, 68, Tryd.func6, by kernel_rfl, by kernel_rfl, [], none⟩

/-! ### charabanc/charabanclaw11.RegsGets (function 6) -/
section
def charabanclaw11_RegsGets_6.post (M0 : Nat → Prop) (w0 : World) (r : Bool) : Ending → World → Prop := fun e w => e = .returned (.bool r) ∧ Below w0.heap.size w0 w
def charabanclaw11_RegsGets_6.f (K : Nat) (p0_0 : Int) (p0_1 : Int) (p0_2 : Int) (p0_3 : Int) (p0_4 : Int) (p0_5 : Int) (p0_6 : Int) (p0_7 : Int) (p0_8 : Int) (p0_9 : Int) (p0_10 : Int) (p0_11 : Int) (p0_12 : Int) (p0_13 : Int) (p0_14 : Int) (p0_15 : Bool) (p0_16 : Bool) (p0_17 : Bool) (p0_18 : Bool) (p0_19 : Int) (p1 : Int) (p2 : Int) : Option Bool := (charabanclaw11_awake_23.f K).bind fun t10 => cond (!t10) (some false) ((regs_Get_24.f K p0_0 p0_1 p0_2 p0_3 p0_4 p0_5 p0_6 p0_7 p0_8 p0_9 p0_10 p0_11 p0_12 p0_13 p0_14 p0_15 p0_16 p0_17 p0_18 p0_19 p1 p2).bind fun t17 => (charabancref11_Get_25.f K p0_0 p0_1 p0_2 p0_3 p0_4 p0_5 p0_6 p0_7 p0_8 p0_9 p0_10 p0_11 p0_12 p0_13 p0_14 p0_15 p0_16 p0_17 p0_18 p0_19 p1 p2).bind fun t19 => cond (t17 == t19) ((regs_Pair_26.f K p0_0 p0_1 p0_2 p0_3 p0_4 p0_5 p0_6 p0_7 p0_8 p0_9 p0_10 p0_11 p0_12 p0_13 p0_14 p0_15 p0_16 p0_17 p0_18 p0_19 p1 p2).bind fun t22 => (charabancref11_Pair_27.f K p0_0 p0_1 p0_2 p0_3 p0_4 p0_5 p0_6 p0_7 p0_8 p0_9 p0_10 p0_11 p0_12 p0_13 p0_14 p0_15 p0_16 p0_17 p0_18 p0_19 p1 p2).bind fun t24 => cond (t22 == t24) ((regs_Exx_28.f K p0_0 p0_1 p0_2 p0_3 p0_4 p0_5 p0_6 p0_7 p0_8 p0_9 p0_10 p0_11 p0_12 p0_13 p0_14 p0_15 p0_16 p0_17 p0_18 p0_19).bind fun yt27 => (charabancref11_Exx_29.f K p0_0 p0_1 p0_2 p0_3 p0_4 p0_5 p0_6 p0_7 p0_8 p0_9 p0_10 p0_11 p0_12 p0_13 p0_14 p0_15 p0_16 p0_17 p0_18 p0_19).bind fun yt48 => cond ((yt27.1 == yt48.1) && ((yt27.2.1 == yt48.2.1) && ((yt27.2.2.1 == yt48.2.2.1) && ((yt27.2.2.2.1 == yt48.2.2.2.1) && ((yt27.2.2.2.2.1 == yt48.2.2.2.2.1) && ((yt27.2.2.2.2.2.1 == yt48.2.2.2.2.2.1) && ((yt27.2.2.2.2.2.2.1 == yt48.2.2.2.2.2.2.1) && ((yt27.2.2.2.2.2.2.2.1 == yt48.2.2.2.2.2.2.2.1) && ((yt27.2.2.2.2.2.2.2.2.1 == yt48.2.2.2.2.2.2.2.2.1) && ((yt27.2.2.2.2.2.2.2.2.2.1 == yt48.2.2.2.2.2.2.2.2.2.1) && ((yt27.2.2.2.2.2.2.2.2.2.2.1 == yt48.2.2.2.2.2.2.2.2.2.2.1) && ((yt27.2.2.2.2.2.2.2.2.2.2.2.1 == yt48.2.2.2.2.2.2.2.2.2.2.2.1) && ((yt27.2.2.2.2.2.2.2.2.2.2.2.2.1 == yt48.2.2.2.2.2.2.2.2.2.2.2.2.1) && ((yt27.2.2.2.2.2.2.2.2.2.2.2.2.2.1 == yt48.2.2.2.2.2.2.2.2.2.2.2.2.2.1) && ((yt27.2.2.2.2.2.2.2.2.2.2.2.2.2.2.1 == yt48.2.2.2.2.2.2.2.2.2.2.2.2.2.2.1) && ((yt27.2.2.2.2.2.2.2.2.2.2.2.2.2.2.2.1 == yt48.2.2.2.2.2.2.2.2.2.2.2.2.2.2.2.1) && ((yt27.2.2.2.2.2.2.2.2.2.2.2.2.2.2.2.2.1 == yt48.2.2.2.2.2.2.2.2.2.2.2.2.2.2.2.2.1) && ((yt27.2.2.2.2.2.2.2.2.2.2.2.2.2.2.2.2.2.1 == yt48.2.2.2.2.2.2.2.2.2.2.2.2.2.2.2.2.2.1) && ((yt27.2.2.2.2.2.2.2.2.2.2.2.2.2.2.2.2.2.2.1 == yt48.2.2.2.2.2.2.2.2.2.2.2.2.2.2.2.2.2.2.1) && ((yt27.2.2.2.2.2.2.2.2.2.2.2.2.2.2.2.2.2.2.2 == yt48.2.2.2.2.2.2.2.2.2.2.2.2.2.2.2.2.2.2.2) && true)))))))))))))))))))) ((regs_Swap_30.f K p0_0 p0_1 p0_2 p0_3 p0_4 p0_5 p0_6 p0_7 p0_8 p0_9 p0_10 p0_11 p0_12 p0_13 p0_14 p0_15 p0_16 p0_17 p0_18 p0_19).bind fun yt70 => (charabancref11_Swap_31.f K p0_0 p0_1 p0_2 p0_3 p0_4 p0_5 p0_6 p0_7 p0_8 p0_9 p0_10 p0_11 p0_12 p0_13 p0_14 p0_15 p0_16 p0_17 p0_18 p0_19).bind fun yt91 => cond ((yt70.1 == yt91.1) && ((yt70.2.1 == yt91.2.1) && ((yt70.2.2.1 == yt91.2.2.1) && ((yt70.2.2.2.1 == yt91.2.2.2.1) && ((yt70.2.2.2.2.1 == yt91.2.2.2.2.1) && ((yt70.2.2.2.2.2.1 == yt91.2.2.2.2.2.1) && ((yt70.2.2.2.2.2.2.1 == yt91.2.2.2.2.2.2.1) && ((yt70.2.2.2.2.2.2.2.1 == yt91.2.2.2.2.2.2.2.1) && ((yt70.2.2.2.2.2.2.2.2.1 == yt91.2.2.2.2.2.2.2.2.1) && ((yt70.2.2.2.2.2.2.2.2.2.1 == yt91.2.2.2.2.2.2.2.2.2.1) && ((yt70.2.2.2.2.2.2.2.2.2.2.1 == yt91.2.2.2.2.2.2.2.2.2.2.1) && ((yt70.2.2.2.2.2.2.2.2.2.2.2.1 == yt91.2.2.2.2.2.2.2.2.2.2.2.1) && ((yt70.2.2.2.2.2.2.2.2.2.2.2.2.1 == yt91.2.2.2.2.2.2.2.2.2.2.2.2.1) && ((yt70.2.2.2.2.2.2.2.2.2.2.2.2.2.1 == yt91.2.2.2.2.2.2.2.2.2.2.2.2.2.1) && ((yt70.2.2.2.2.2.2.2.2.2.2.2.2.2.2.1 == yt91.2.2.2.2.2.2.2.2.2.2.2.2.2.2.1) && ((yt70.2.2.2.2.2.2.2.2.2.2.2.2.2.2.2.1 == yt91.2.2.2.2.2.2.2.2.2.2.2.2.2.2.2.1) && ((yt70.2.2.2.2.2.2.2.2.2.2.2.2.2.2.2.2.1 == yt91.2.2.2.2.2.2.2.2.2.2.2.2.2.2.2.2.1) && ((yt70.2.2.2.2.2.2.2.2.2.2.2.2.2.2.2.2.2.1 == yt91.2.2.2.2.2.2.2.2.2.2.2.2.2.2.2.2.2.1) && ((yt70.2.2.2.2.2.2.2.2.2.2.2.2.2.2.2.2.2.2.1 == yt91.2.2.2.2.2.2.2.2.2.2.2.2.2.2.2.2.2.2.1) && ((yt70.2.2.2.2.2.2.2.2.2.2.2.2.2.2.2.2.2.2.2 == yt91.2.2.2.2.2.2.2.2.2.2.2.2.2.2.2.2.2.2.2) && true)))))))))))))))))))) ((regs_Tick_32.f K p0_0 p0_1 p0_2 p0_3 p0_4 p0_5 p0_6 p0_7 p0_8 p0_9 p0_10 p0_11 p0_12 p0_13 p0_14 p0_15 p0_16 p0_17 p0_18 p0_19 p2).bind fun yt113 => (charabancref11_Tick_33.f K p0_0 p0_1 p0_2 p0_3 p0_4 p0_5 p0_6 p0_7 p0_8 p0_9 p0_10 p0_11 p0_12 p0_13 p0_14 p0_15 p0_16 p0_17 p0_18 p0_19 p2).bind fun yt134 => cond ((yt113.1 == yt134.1) && ((yt113.2.1 == yt134.2.1) && ((yt113.2.2.1 == yt134.2.2.1) && ((yt113.2.2.2.1 == yt134.2.2.2.1) && ((yt113.2.2.2.2.1 == yt134.2.2.2.2.1) && ((yt113.2.2.2.2.2.1 == yt134.2.2.2.2.2.1) && ((yt113.2.2.2.2.2.2.1 == yt134.2.2.2.2.2.2.1) && ((yt113.2.2.2.2.2.2.2.1 == yt134.2.2.2.2.2.2.2.1) && ((yt113.2.2.2.2.2.2.2.2.1 == yt134.2.2.2.2.2.2.2.2.1) && ((yt113.2.2.2.2.2.2.2.2.2.1 == yt134.2.2.2.2.2.2.2.2.2.1) && ((yt113.2.2.2.2.2.2.2.2.2.2.1 == yt134.2.2.2.2.2.2.2.2.2.2.1) && ((yt113.2.2.2.2.2.2.2.2.2.2.2.1 == yt134.2.2.2.2.2.2.2.2.2.2.2.1) && ((yt113.2.2.2.2.2.2.2.2.2.2.2.2.1 == yt134.2.2.2.2.2.2.2.2.2.2.2.2.1) && ((yt113.2.2.2.2.2.2.2.2.2.2.2.2.2.1 == yt134.2.2.2.2.2.2.2.2.2.2.2.2.2.1) && ((yt113.2.2.2.2.2.2.2.2.2.2.2.2.2.2.1 == yt134.2.2.2.2.2.2.2.2.2.2.2.2.2.2.1) && ((yt113.2.2.2.2.2.2.2.2.2.2.2.2.2.2.2.1 == yt134.2.2.2.2.2.2.2.2.2.2.2.2.2.2.2.1) && ((yt113.2.2.2.2.2.2.2.2.2.2.2.2.2.2.2.2.1 == yt134.2.2.2.2.2.2.2.2.2.2.2.2.2.2.2.2.1) && ((yt113.2.2.2.2.2.2.2.2.2.2.2.2.2.2.2.2.2.1 == yt134.2.2.2.2.2.2.2.2.2.2.2.2.2.2.2.2.2.1) && ((yt113.2.2.2.2.2.2.2.2.2.2.2.2.2.2.2.2.2.2.1 == yt134.2.2.2.2.2.2.2.2.2.2.2.2.2.2.2.2.2.2.1) && ((yt113.2.2.2.2.2.2.2.2.2.2.2.2.2.2.2.2.2.2.2 == yt134.2.2.2.2.2.2.2.2.2.2.2.2.2.2.2.2.2.2.2) && true)))))))))))))))))))) ((regs_Reset_34.f K p0_0 p0_1 p0_2 p0_3 p0_4 p0_5 p0_6 p0_7 p0_8 p0_9 p0_10 p0_11 p0_12 p0_13 p0_14 p0_15 p0_16 p0_17 p0_18 p0_19).bind fun yt156 => (charabancref11_Reset_35.f K p0_0 p0_1 p0_2 p0_3 p0_4 p0_5 p0_6 p0_7 p0_8 p0_9 p0_10 p0_11 p0_12 p0_13 p0_14 p0_15 p0_16 p0_17 p0_18 p0_19).bind fun yt177 => cond ((yt156.1 == yt177.1) && ((yt156.2.1 == yt177.2.1) && ((yt156.2.2.1 == yt177.2.2.1) && ((yt156.2.2.2.1 == yt177.2.2.2.1) && ((yt156.2.2.2.2.1 == yt177.2.2.2.2.1) && ((yt156.2.2.2.2.2.1 == yt177.2.2.2.2.2.1) && ((yt156.2.2.2.2.2.2.1 == yt177.2.2.2.2.2.2.1) && ((yt156.2.2.2.2.2.2.2.1 == yt177.2.2.2.2.2.2.2.1) && ((yt156.2.2.2.2.2.2.2.2.1 == yt177.2.2.2.2.2.2.2.2.1) && ((yt156.2.2.2.2.2.2.2.2.2.1 == yt177.2.2.2.2.2.2.2.2.2.1) && ((yt156.2.2.2.2.2.2.2.2.2.2.1 == yt177.2.2.2.2.2.2.2.2.2.2.1) && ((yt156.2.2.2.2.2.2.2.2.2.2.2.1 == yt177.2.2.2.2.2.2.2.2.2.2.2.1) && ((yt156.2.2.2.2.2.2.2.2.2.2.2.2.1 == yt177.2.2.2.2.2.2.2.2.2.2.2.2.1) && ((yt156.2.2.2.2.2.2.2.2.2.2.2.2.2.1 == yt177.2.2.2.2.2.2.2.2.2.2.2.2.2.1) && ((yt156.2.2.2.2.2.2.2.2.2.2.2.2.2.2.1 == yt177.2.2.2.2.2.2.2.2.2.2.2.2.2.2.1) && ((yt156.2.2.2.2.2.2.2.2.2.2.2.2.2.2.2.1 == yt177.2.2.2.2.2.2.2.2.2.2.2.2.2.2.2.1) && ((yt156.2.2.2.2.2.2.2.2.2.2.2.2.2.2.2.2.1 == yt177.2.2.2.2.2.2.2.2.2.2.2.2.2.2.2.2.1) && ((yt156.2.2.2.2.2.2.2.2.2.2.2.2.2.2.2.2.2.1 == yt177.2.2.2.2.2.2.2.2.2.2.2.2.2.2.2.2.2.1) && ((yt156.2.2.2.2.2.2.2.2.2.2.2.2.2.2.2.2.2.2.1 == yt177.2.2.2.2.2.2.2.2.2.2.2.2.2.2.2.2.2.2.1) && ((yt156.2.2.2.2.2.2.2.2.2.2.2.2.2.2.2.2.2.2.2 == yt177.2.2.2.2.2.2.2.2.2.2.2.2.2.2.2.2.2.2.2) && true)))))))))))))))))))) ((regs_Show_36.f K p0_0 p0_1 p0_2 p0_3 p0_4 p0_5 p0_6 p0_7 p0_8 p0_9 p0_10 p0_11 p0_12 p0_13 p0_14 p0_15 p0_16 p0_17 p0_18 p0_19).bind fun t199 => (charabancref11_Show_37.f K p0_0 p0_1 p0_2 p0_3 p0_4 p0_5 p0_6 p0_7 p0_8 p0_9 p0_10 p0_11 p0_12 p0_13 p0_14 p0_15 p0_16 p0_17 p0_18 p0_19).bind fun t201 => some ((ByteArray.toList t199) == (ByteArray.toList t201))) (some false)) (some false)) (some false)) (some false)) (some false)) (some false))
set_option maxRecDepth 100000 in
theorem charabanclaw11_RegsGets_6_ok (K : Nat) (M0 : Nat → Prop) (w0 : World) (p0_0 : Int) (p0_1 : Int) (p0_2 : Int) (p0_3 : Int) (p0_4 : Int) (p0_5 : Int) (p0_6 : Int) (p0_7 : Int) (p0_8 : Int) (p0_9 : Int) (p0_10 : Int) (p0_11 : Int) (p0_12 : Int) (p0_13 : Int) (p0_14 : Int) (p0_15 : Bool) (p0_16 : Bool) (p0_17 : Bool) (p0_18 : Bool) (p0_19 : Int) (p1 : Int) (p2 : Int) (ho : ∀ b, M0 b → b < w0.heap.size) (hG2 : (gl 2 (tab_2.flatMap en_2)).ok w0 M0) (hG4 : (gl 4 (tab_4.flatMap en_4)).ok w0 M0) (hG5 : (gl 5 (tab_5.flatMap en_5)).ok w0 M0) {r : Bool} (h : charabanclaw11_RegsGets_6.f K p0_0 p0_1 p0_2 p0_3 p0_4 p0_5 p0_6 p0_7 p0_8 p0_9 p0_10 p0_11 p0_12 p0_13 p0_14 p0_15 p0_16 p0_17 p0_18 p0_19 p1 p2 = some r) :
    Calls Tryd.prog 6 #[.agg #[.int .u16 p0_0, .int .u16 p0_1, .int .u16 p0_2, .int .u16 p0_3, .int .u16 p0_4, .int .u16 p0_5, .int .u16 p0_6, .int .u16 p0_7, .int .u16 p0_8, .int .u16 p0_9, .int .u16 p0_10, .int .u16 p0_11, .int .u16 p0_12, .int .u8 p0_13, .int .u8 p0_14, .bool p0_15, .bool p0_16, .bool p0_17, .bool p0_18, .int .i64 p0_19], .int .i64 p1, .int .i64 p2] w0 (charabanclaw11_RegsGets_6.post M0 w0 r) := by
  unfold charabanclaw11_RegsGets_6.f at h
  have h0 : Holds M0 w0 w0 [] := Holds.start ho
  have h0g2 := h0.add (gl 2 (tab_2.flatMap en_2)) rfl ⟨hG2.1, fun hm => hG2.2.1 (hm.elim id (fun hm => absurd hm (by simp [mines, sl, gl]))), hG2.2.2⟩
  have h0g4 := h0g2.add (gl 4 (tab_4.flatMap en_4)) rfl ⟨hG4.1, fun hm => hG4.2.1 (hm.elim id (fun hm => absurd hm (by simp [mines, sl, gl]))), hG4.2.2⟩
  have h0g5 := h0g4.add (gl 5 (tab_5.flatMap en_5)) rfl ⟨hG5.1, fun hm => hG5.2.1 (hm.elim id (fun hm => absurd hm (by simp [mines, sl, gl]))), hG5.2.2⟩
  have h0 : Holds M0 w0 w0 [gl 2 (tab_2.flatMap en_2), gl 4 (tab_4.flatMap en_4), gl 5 (tab_5.flatMap en_5)] := h0g5
  refine calls_of F6 rfl [.agg #[.int .u16 p0_0, .int .u16 p0_1, .int .u16 p0_2, .int .u16 p0_3, .int .u16 p0_4, .int .u16 p0_5, .int .u16 p0_6, .int .u16 p0_7, .int .u16 p0_8, .int .u16 p0_9, .int .u16 p0_10, .int .u16 p0_11, .int .u16 p0_12, .int .u8 p0_13, .int .u8 p0_14, .bool p0_15, .bool p0_16, .bool p0_17, .bool p0_18, .int .i64 p0_19], .int .i64 p1, .int .i64 p2] (by kernel_rfl) ?_
  refine RunsI.go 1 [.c 1, .c 2] (by kernel_rfl) ?_
  refine RunsI.region (by kernel_rfl) ?_
  refine RegI.op (by kernel_rfl) (OpE.box 3 46 [.int .u16 p0_0, .int .u16 p0_1, .int .u16 p0_2, .int .u16 p0_3, .int .u16 p0_4, .int .u16 p0_5, .int .u16 p0_6, .int .u16 p0_7, .int .u16 p0_8, .int .u16 p0_9, .int .u16 p0_10, .int .u16 p0_11, .int .u16 p0_12, .int .u8 p0_13, .int .u8 p0_14, .bool p0_15, .bool p0_16, .bool p0_17, .bool p0_18, .int .i64 p0_19] h0 (by kernel_rfl) (by kernel_rfl) ?_)
  intro w1 b2 h3 hb4 hn5
  refine RegI.pure 1 [1, 2, 3] [(1, .int .i64 p1), (2, .int .i64 p2), (3, .pointer (some ⟨b2, 0, none⟩))] (by kernel_rfl) ?_
  refine RegI.done (by kernel_rfl) ?_
  refine RunsI.go 1 [.c 3, .c 4] (by kernel_rfl) ?_
  refine RunsI.region (by kernel_rfl) ?_
  obtain ⟨t10, hg9, h⟩ := of_bind h
  refine RegI.op (by kernel_rfl) (OpE.call 8 (by kernel_rfl) 23 #[] (by kernel_rfl) ((charabanclaw11_awake_23_ok K _ w1  h3.old' (h3.get 0 rfl) (h3.get 1 rfl) (h3.get 2 rfl) hg9).mono ?_))
  rintro _ w6 ⟨rfl, hb7⟩
  refine ⟨_, rfl, ?_⟩
  have h8 := h3.call hb7
  refine RegI.pure 1 [1, 2, 3, 7] [(1, .int .i64 p1), (2, .int .i64 p2), (3, .pointer (some ⟨b2, 0, none⟩)), (7, .bool t10)] (by kernel_rfl) ?_
  refine RegI.done (by kernel_rfl) ?_
  refine RunsI.go 2 [.c 6, .c 7, .c 12] (by kernel_rfl) ?_
  refine RunsI.region (by kernel_rfl) ?_
  refine RegI.pure 2 [1, 2, 3, 10] [(1, .int .i64 p1), (2, .int .i64 p2), (3, .pointer (some ⟨b2, 0, none⟩)), (10, .bool (!t10))] (by kernel_rfl) ?_
  refine RegI.done (by kernel_rfl) ?_
  rcases of_cond h with ⟨hc11, h⟩ | ⟨hc11, h⟩
  · skip
    refine RunsI.fix 10 true hc11 (by kernel_rfl) (by kernel_rfl) ?_
    refine RunsI.cond true 8 (by kernel_rfl) ?_
    refine RunsI.go 1 [.c 9, .c 10, .c 12] (by kernel_rfl) ?_
    refine RunsI.region (by kernel_rfl) ?_
    refine RegI.pure 1 [6] [(6, .bool false)] (by kernel_rfl) ?_
    refine RegI.done (by kernel_rfl) ?_
    refine RunsI.ret (.bool false) (by kernel_rfl) (by kernel_rfl) ?_
    obtain rfl := Option.some.inj h
    exact ⟨rfl, h8.below⟩
  · skip
    refine RunsI.fix 10 false hc11 (by kernel_rfl) (by kernel_rfl) ?_
    refine RunsI.cond false 11 (by kernel_rfl) ?_
    refine RunsI.go 1 [.c 12] (by kernel_rfl) ?_
    refine RunsI.go 1 [.c 13, .c 14] (by kernel_rfl) ?_
    refine RunsI.any 58 (by kernel_rfl) (by kernel_rfl) (by kernel_rfl) (Kp ([] : List Nat) (World.drew w6)) ?_
    have h13 := h8.drew
    generalize World.drew w6 = w12 at h13 ⊢
    have hS14 := Kp.refl ([] : List Nat) w12
    refine AnyE.loadBox 0 11 3 46 b2 0 (.agg #[.int .u16 p0_0, .int .u16 p0_1, .int .u16 p0_2, .int .u16 p0_3, .int .u16 p0_4, .int .u16 p0_5, .int .u16 p0_6, .int .u16 p0_7, .int .u16 p0_8, .int .u16 p0_9, .int .u16 p0_10, .int .u16 p0_11, .int .u16 p0_12, .int .u8 p0_13, .int .u8 p0_14, .bool p0_15, .bool p0_16, .bool p0_17, .bool p0_18, .int .i64 p0_19]) [] h13 rfl (by kernel_rfl) hS14 rfl rfl (by kernel_rfl) (by kernel_rfl) ?_
    refine AnyE.pure 1 12 (.int .i64 p1) (by kernel_rfl) hS14 (fun _ => by kernel_rfl) ?_
    refine AnyE.pure 2 13 (.int .i64 p2) (by kernel_rfl) hS14 (fun _ => by kernel_rfl) ?_
    obtain ⟨t17, hg16, h⟩ := of_bind h
    refine AnyE.call 3 14 (.int .u8 t17) 24 #[.agg #[.int .u16 p0_0, .int .u16 p0_1, .int .u16 p0_2, .int .u16 p0_3, .int .u16 p0_4, .int .u16 p0_5, .int .u16 p0_6, .int .u16 p0_7, .int .u16 p0_8, .int .u16 p0_9, .int .u16 p0_10, .int .u16 p0_11, .int .u16 p0_12, .int .u8 p0_13, .int .u8 p0_14, .bool p0_15, .bool p0_16, .bool p0_17, .bool p0_18, .int .i64 p0_19], .int .i64 p1, .int .i64 p2] (by kernel_rfl) hS14 (fun _ => by kernel_rfl) (fun w hk => regs_Get_24_ok K (fun _ => False) w p0_0 p0_1 p0_2 p0_3 p0_4 p0_5 p0_6 p0_7 p0_8 p0_9 p0_10 p0_11 p0_12 p0_13 p0_14 p0_15 p0_16 p0_17 p0_18 p0_19 p1 p2 (fun _ hf => hf.elim) hg16) ?_
    refine AnyE.loadBox 4 15 3 46 b2 0 (.agg #[.int .u16 p0_0, .int .u16 p0_1, .int .u16 p0_2, .int .u16 p0_3, .int .u16 p0_4, .int .u16 p0_5, .int .u16 p0_6, .int .u16 p0_7, .int .u16 p0_8, .int .u16 p0_9, .int .u16 p0_10, .int .u16 p0_11, .int .u16 p0_12, .int .u8 p0_13, .int .u8 p0_14, .bool p0_15, .bool p0_16, .bool p0_17, .bool p0_18, .int .i64 p0_19]) [] h13 rfl (by kernel_rfl) hS14 rfl rfl (by kernel_rfl) (by kernel_rfl) ?_
    refine AnyE.pure 5 16 (.int .i64 p1) (by kernel_rfl) hS14 (fun _ => by kernel_rfl) ?_
    refine AnyE.pure 6 17 (.int .i64 p2) (by kernel_rfl) hS14 (fun _ => by kernel_rfl) ?_
    obtain ⟨t19, hg18, h⟩ := of_bind h
    refine AnyE.call 7 18 (.int .u8 t19) 25 #[.agg #[.int .u16 p0_0, .int .u16 p0_1, .int .u16 p0_2, .int .u16 p0_3, .int .u16 p0_4, .int .u16 p0_5, .int .u16 p0_6, .int .u16 p0_7, .int .u16 p0_8, .int .u16 p0_9, .int .u16 p0_10, .int .u16 p0_11, .int .u16 p0_12, .int .u8 p0_13, .int .u8 p0_14, .bool p0_15, .bool p0_16, .bool p0_17, .bool p0_18, .int .i64 p0_19], .int .i64 p1, .int .i64 p2] (by kernel_rfl) hS14 (fun _ => by kernel_rfl) (fun w hk => charabancref11_Get_25_ok K (fun _ => False) w p0_0 p0_1 p0_2 p0_3 p0_4 p0_5 p0_6 p0_7 p0_8 p0_9 p0_10 p0_11 p0_12 p0_13 p0_14 p0_15 p0_16 p0_17 p0_18 p0_19 p1 p2 (fun _ hf => hf.elim) hg18) ?_
    refine AnyE.pure 8 19 (.bool (t17 == t19)) (by kernel_rfl) hS14 (fun _ => by kernel_rfl) ?_
    refine AnyE.pure 9 20 (.bool (t17 == t19)) (by kernel_rfl) hS14 (fun _ => by kernel_rfl) ?_
    rcases of_cond h with ⟨hc20, h⟩ | ⟨hc20, h⟩
    · skip
      refine AnyE.fix 20 true hc20 (by kernel_rfl) (by kernel_rfl) ?_
      refine AnyE.loadBox 10 21 3 46 b2 0 (.agg #[.int .u16 p0_0, .int .u16 p0_1, .int .u16 p0_2, .int .u16 p0_3, .int .u16 p0_4, .int .u16 p0_5, .int .u16 p0_6, .int .u16 p0_7, .int .u16 p0_8, .int .u16 p0_9, .int .u16 p0_10, .int .u16 p0_11, .int .u16 p0_12, .int .u8 p0_13, .int .u8 p0_14, .bool p0_15, .bool p0_16, .bool p0_17, .bool p0_18, .int .i64 p0_19]) [] h13 rfl (by kernel_rfl) hS14 rfl rfl (by kernel_rfl) (by kernel_rfl) ?_
      refine AnyE.pure 11 22 (.int .i64 p1) (by kernel_rfl) hS14 (fun _ => by kernel_rfl) ?_
      refine AnyE.pure 12 23 (.int .i64 p2) (by kernel_rfl) hS14 (fun _ => by kernel_rfl) ?_
      obtain ⟨t22, hg21, h⟩ := of_bind h
      refine AnyE.call 13 24 (.int .u16 t22) 26 #[.agg #[.int .u16 p0_0, .int .u16 p0_1, .int .u16 p0_2, .int .u16 p0_3, .int .u16 p0_4, .int .u16 p0_5, .int .u16 p0_6, .int .u16 p0_7, .int .u16 p0_8, .int .u16 p0_9, .int .u16 p0_10, .int .u16 p0_11, .int .u16 p0_12, .int .u8 p0_13, .int .u8 p0_14, .bool p0_15, .bool p0_16, .bool p0_17, .bool p0_18, .int .i64 p0_19], .int .i64 p1, .int .i64 p2] (by kernel_rfl) hS14 (fun _ => by kernel_rfl) (fun w hk => regs_Pair_26_ok K (fun _ => False) w p0_0 p0_1 p0_2 p0_3 p0_4 p0_5 p0_6 p0_7 p0_8 p0_9 p0_10 p0_11 p0_12 p0_13 p0_14 p0_15 p0_16 p0_17 p0_18 p0_19 p1 p2 (fun _ hf => hf.elim) hg21) ?_
      refine AnyE.loadBox 14 25 3 46 b2 0 (.agg #[.int .u16 p0_0, .int .u16 p0_1, .int .u16 p0_2, .int .u16 p0_3, .int .u16 p0_4, .int .u16 p0_5, .int .u16 p0_6, .int .u16 p0_7, .int .u16 p0_8, .int .u16 p0_9, .int .u16 p0_10, .int .u16 p0_11, .int .u16 p0_12, .int .u8 p0_13, .int .u8 p0_14, .bool p0_15, .bool p0_16, .bool p0_17, .bool p0_18, .int .i64 p0_19]) [] h13 rfl (by kernel_rfl) hS14 rfl rfl (by kernel_rfl) (by kernel_rfl) ?_
      refine AnyE.pure 15 26 (.int .i64 p1) (by kernel_rfl) hS14 (fun _ => by kernel_rfl) ?_
      refine AnyE.pure 16 27 (.int .i64 p2) (by kernel_rfl) hS14 (fun _ => by kernel_rfl) ?_
      obtain ⟨t24, hg23, h⟩ := of_bind h
      refine AnyE.call 17 28 (.int .u16 t24) 27 #[.agg #[.int .u16 p0_0, .int .u16 p0_1, .int .u16 p0_2, .int .u16 p0_3, .int .u16 p0_4, .int .u16 p0_5, .int .u16 p0_6, .int .u16 p0_7, .int .u16 p0_8, .int .u16 p0_9, .int .u16 p0_10, .int .u16 p0_11, .int .u16 p0_12, .int .u8 p0_13, .int .u8 p0_14, .bool p0_15, .bool p0_16, .bool p0_17, .bool p0_18, .int .i64 p0_19], .int .i64 p1, .int .i64 p2] (by kernel_rfl) hS14 (fun _ => by kernel_rfl) (fun w hk => charabancref11_Pair_27_ok K (fun _ => False) w p0_0 p0_1 p0_2 p0_3 p0_4 p0_5 p0_6 p0_7 p0_8 p0_9 p0_10 p0_11 p0_12 p0_13 p0_14 p0_15 p0_16 p0_17 p0_18 p0_19 p1 p2 (fun _ hf => hf.elim) hg23) ?_
      refine AnyE.pure 18 29 (.bool (t22 == t24)) (by kernel_rfl) hS14 (fun _ => by kernel_rfl) ?_
      refine AnyE.pure 19 30 (.bool (t22 == t24)) (by kernel_rfl) hS14 (fun _ => by kernel_rfl) ?_
      refine AnyE.pure 20 31 (.bool (t22 == t24)) (by kernel_rfl) hS14 (fun _ => by kernel_rfl) ?_
      rcases of_cond h with ⟨hc25, h⟩ | ⟨hc25, h⟩
      · skip
        refine AnyE.fix 31 true hc25 (by kernel_rfl) (by kernel_rfl) ?_
        refine AnyE.loadBox 21 32 3 46 b2 0 (.agg #[.int .u16 p0_0, .int .u16 p0_1, .int .u16 p0_2, .int .u16 p0_3, .int .u16 p0_4, .int .u16 p0_5, .int .u16 p0_6, .int .u16 p0_7, .int .u16 p0_8, .int .u16 p0_9, .int .u16 p0_10, .int .u16 p0_11, .int .u16 p0_12, .int .u8 p0_13, .int .u8 p0_14, .bool p0_15, .bool p0_16, .bool p0_17, .bool p0_18, .int .i64 p0_19]) [] h13 rfl (by kernel_rfl) hS14 rfl rfl (by kernel_rfl) (by kernel_rfl) ?_
        obtain ⟨⟨t27, t28, t29, t30, t31, t32, t33, t34, t35, t36, t37, t38, t39, t40, t41, t42, t43, t44, t45, t46⟩, hg26, h⟩ := of_bind h
        dsimp only at h
        refine AnyE.call 22 33 (.agg #[.int .u16 t27, .int .u16 t28, .int .u16 t29, .int .u16 t30, .int .u16 t31, .int .u16 t32, .int .u16 t33, .int .u16 t34, .int .u16 t35, .int .u16 t36, .int .u16 t37, .int .u16 t38, .int .u16 t39, .int .u8 t40, .int .u8 t41, .bool t42, .bool t43, .bool t44, .bool t45, .int .i64 t46]) 28 #[.agg #[.int .u16 p0_0, .int .u16 p0_1, .int .u16 p0_2, .int .u16 p0_3, .int .u16 p0_4, .int .u16 p0_5, .int .u16 p0_6, .int .u16 p0_7, .int .u16 p0_8, .int .u16 p0_9, .int .u16 p0_10, .int .u16 p0_11, .int .u16 p0_12, .int .u8 p0_13, .int .u8 p0_14, .bool p0_15, .bool p0_16, .bool p0_17, .bool p0_18, .int .i64 p0_19]] (by kernel_rfl) hS14 (fun _ => by kernel_rfl) (fun w hk => regs_Exx_28_ok K (fun _ => False) w p0_0 p0_1 p0_2 p0_3 p0_4 p0_5 p0_6 p0_7 p0_8 p0_9 p0_10 p0_11 p0_12 p0_13 p0_14 p0_15 p0_16 p0_17 p0_18 p0_19 (fun _ hf => hf.elim) hg26) ?_
        refine AnyE.loadBox 23 34 3 46 b2 0 (.agg #[.int .u16 p0_0, .int .u16 p0_1, .int .u16 p0_2, .int .u16 p0_3, .int .u16 p0_4, .int .u16 p0_5, .int .u16 p0_6, .int .u16 p0_7, .int .u16 p0_8, .int .u16 p0_9, .int .u16 p0_10, .int .u16 p0_11, .int .u16 p0_12, .int .u8 p0_13, .int .u8 p0_14, .bool p0_15, .bool p0_16, .bool p0_17, .bool p0_18, .int .i64 p0_19]) [] h13 rfl (by kernel_rfl) hS14 rfl rfl (by kernel_rfl) (by kernel_rfl) ?_
        obtain ⟨⟨t48, t49, t50, t51, t52, t53, t54, t55, t56, t57, t58, t59, t60, t61, t62, t63, t64, t65, t66, t67⟩, hg47, h⟩ := of_bind h
        dsimp only at h
        refine AnyE.call 24 35 (.agg #[.int .u16 t48, .int .u16 t49, .int .u16 t50, .int .u16 t51, .int .u16 t52, .int .u16 t53, .int .u16 t54, .int .u16 t55, .int .u16 t56, .int .u16 t57, .int .u16 t58, .int .u16 t59, .int .u16 t60, .int .u8 t61, .int .u8 t62, .bool t63, .bool t64, .bool t65, .bool t66, .int .i64 t67]) 29 #[.agg #[.int .u16 p0_0, .int .u16 p0_1, .int .u16 p0_2, .int .u16 p0_3, .int .u16 p0_4, .int .u16 p0_5, .int .u16 p0_6, .int .u16 p0_7, .int .u16 p0_8, .int .u16 p0_9, .int .u16 p0_10, .int .u16 p0_11, .int .u16 p0_12, .int .u8 p0_13, .int .u8 p0_14, .bool p0_15, .bool p0_16, .bool p0_17, .bool p0_18, .int .i64 p0_19]] (by kernel_rfl) hS14 (fun _ => by kernel_rfl) (fun w hk => charabancref11_Exx_29_ok K (fun _ => False) w p0_0 p0_1 p0_2 p0_3 p0_4 p0_5 p0_6 p0_7 p0_8 p0_9 p0_10 p0_11 p0_12 p0_13 p0_14 p0_15 p0_16 p0_17 p0_18 p0_19 (fun _ hf => hf.elim) hg47) ?_
        refine AnyE.run 25 36 (.bool ((t27 == t48) && ((t28 == t49) && ((t29 == t50) && ((t30 == t51) && ((t31 == t52) && ((t32 == t53) && ((t33 == t54) && ((t34 == t55) && ((t35 == t56) && ((t36 == t57) && ((t37 == t58) && ((t38 == t59) && ((t39 == t60) && ((t40 == t61) && ((t41 == t62) && ((t42 == t63) && ((t43 == t64) && ((t44 == t65) && ((t45 == t66) && ((t46 == t67) && true))))))))))))))))))))) (by kernel_rfl) hS14 (fun _ hk => run_eqS (neg := false) (t := 46) (x := .agg #[.int .u16 t27, .int .u16 t28, .int .u16 t29, .int .u16 t30, .int .u16 t31, .int .u16 t32, .int .u16 t33, .int .u16 t34, .int .u16 t35, .int .u16 t36, .int .u16 t37, .int .u16 t38, .int .u16 t39, .int .u8 t40, .int .u8 t41, .bool t42, .bool t43, .bool t44, .bool t45, .int .i64 t46]) (y := .agg #[.int .u16 t48, .int .u16 t49, .int .u16 t50, .int .u16 t51, .int .u16 t52, .int .u16 t53, .int .u16 t54, .int .u16 t55, .int .u16 t56, .int .u16 t57, .int .u16 t58, .int .u16 t59, .int .u16 t60, .int .u8 t61, .int .u8 t62, .bool t63, .bool t64, .bool t65, .bool t66, .int .i64 t67]) (b := ((t27 == t48) && ((t28 == t49) && ((t29 == t50) && ((t30 == t51) && ((t31 == t52) && ((t32 == t53) && ((t33 == t54) && ((t34 == t55) && ((t35 == t56) && ((t36 == t57) && ((t37 == t58) && ((t38 == t59) && ((t39 == t60) && ((t40 == t61) && ((t41 == t62) && ((t42 == t63) && ((t43 == t64) && ((t44 == t65) && ((t45 == t66) && ((t46 == t67) && true))))))))))))))))))))) (by kernel_rfl) (by kernel_rfl) (by kernel_rfl) (by kernel_rfl)) ?_
        refine AnyE.pure 26 37 (.bool ((t27 == t48) && ((t28 == t49) && ((t29 == t50) && ((t30 == t51) && ((t31 == t52) && ((t32 == t53) && ((t33 == t54) && ((t34 == t55) && ((t35 == t56) && ((t36 == t57) && ((t37 == t58) && ((t38 == t59) && ((t39 == t60) && ((t40 == t61) && ((t41 == t62) && ((t42 == t63) && ((t43 == t64) && ((t44 == t65) && ((t45 == t66) && ((t46 == t67) && true))))))))))))))))))))) (by kernel_rfl) hS14 (fun _ => by kernel_rfl) ?_
        refine AnyE.pure 27 38 (.bool ((t27 == t48) && ((t28 == t49) && ((t29 == t50) && ((t30 == t51) && ((t31 == t52) && ((t32 == t53) && ((t33 == t54) && ((t34 == t55) && ((t35 == t56) && ((t36 == t57) && ((t37 == t58) && ((t38 == t59) && ((t39 == t60) && ((t40 == t61) && ((t41 == t62) && ((t42 == t63) && ((t43 == t64) && ((t44 == t65) && ((t45 == t66) && ((t46 == t67) && true))))))))))))))))))))) (by kernel_rfl) hS14 (fun _ => by kernel_rfl) ?_
        rcases of_cond h with ⟨hc68, h⟩ | ⟨hc68, h⟩
        · skip
          refine AnyE.fix 38 true hc68 (by kernel_rfl) (by kernel_rfl) ?_
          refine AnyE.loadBox 28 39 3 46 b2 0 (.agg #[.int .u16 p0_0, .int .u16 p0_1, .int .u16 p0_2, .int .u16 p0_3, .int .u16 p0_4, .int .u16 p0_5, .int .u16 p0_6, .int .u16 p0_7, .int .u16 p0_8, .int .u16 p0_9, .int .u16 p0_10, .int .u16 p0_11, .int .u16 p0_12, .int .u8 p0_13, .int .u8 p0_14, .bool p0_15, .bool p0_16, .bool p0_17, .bool p0_18, .int .i64 p0_19]) [] h13 rfl (by kernel_rfl) hS14 rfl rfl (by kernel_rfl) (by kernel_rfl) ?_
          obtain ⟨⟨t70, t71, t72, t73, t74, t75, t76, t77, t78, t79, t80, t81, t82, t83, t84, t85, t86, t87, t88, t89⟩, hg69, h⟩ := of_bind h
          dsimp only at h
          refine AnyE.call 29 40 (.agg #[.int .u16 t70, .int .u16 t71, .int .u16 t72, .int .u16 t73, .int .u16 t74, .int .u16 t75, .int .u16 t76, .int .u16 t77, .int .u16 t78, .int .u16 t79, .int .u16 t80, .int .u16 t81, .int .u16 t82, .int .u8 t83, .int .u8 t84, .bool t85, .bool t86, .bool t87, .bool t88, .int .i64 t89]) 30 #[.agg #[.int .u16 p0_0, .int .u16 p0_1, .int .u16 p0_2, .int .u16 p0_3, .int .u16 p0_4, .int .u16 p0_5, .int .u16 p0_6, .int .u16 p0_7, .int .u16 p0_8, .int .u16 p0_9, .int .u16 p0_10, .int .u16 p0_11, .int .u16 p0_12, .int .u8 p0_13, .int .u8 p0_14, .bool p0_15, .bool p0_16, .bool p0_17, .bool p0_18, .int .i64 p0_19]] (by kernel_rfl) hS14 (fun _ => by kernel_rfl) (fun w hk => regs_Swap_30_ok K (fun _ => False) w p0_0 p0_1 p0_2 p0_3 p0_4 p0_5 p0_6 p0_7 p0_8 p0_9 p0_10 p0_11 p0_12 p0_13 p0_14 p0_15 p0_16 p0_17 p0_18 p0_19 (fun _ hf => hf.elim) hg69) ?_
          refine AnyE.loadBox 30 41 3 46 b2 0 (.agg #[.int .u16 p0_0, .int .u16 p0_1, .int .u16 p0_2, .int .u16 p0_3, .int .u16 p0_4, .int .u16 p0_5, .int .u16 p0_6, .int .u16 p0_7, .int .u16 p0_8, .int .u16 p0_9, .int .u16 p0_10, .int .u16 p0_11, .int .u16 p0_12, .int .u8 p0_13, .int .u8 p0_14, .bool p0_15, .bool p0_16, .bool p0_17, .bool p0_18, .int .i64 p0_19]) [] h13 rfl (by kernel_rfl) hS14 rfl rfl (by kernel_rfl) (by kernel_rfl) ?_
          obtain ⟨⟨t91, t92, t93, t94, t95, t96, t97, t98, t99, t100, t101, t102, t103, t104, t105, t106, t107, t108, t109, t110⟩, hg90, h⟩ := of_bind h
          dsimp only at h
          refine AnyE.call 31 42 (.agg #[.int .u16 t91, .int .u16 t92, .int .u16 t93, .int .u16 t94, .int .u16 t95, .int .u16 t96, .int .u16 t97, .int .u16 t98, .int .u16 t99, .int .u16 t100, .int .u16 t101, .int .u16 t102, .int .u16 t103, .int .u8 t104, .int .u8 t105, .bool t106, .bool t107, .bool t108, .bool t109, .int .i64 t110]) 31 #[.agg #[.int .u16 p0_0, .int .u16 p0_1, .int .u16 p0_2, .int .u16 p0_3, .int .u16 p0_4, .int .u16 p0_5, .int .u16 p0_6, .int .u16 p0_7, .int .u16 p0_8, .int .u16 p0_9, .int .u16 p0_10, .int .u16 p0_11, .int .u16 p0_12, .int .u8 p0_13, .int .u8 p0_14, .bool p0_15, .bool p0_16, .bool p0_17, .bool p0_18, .int .i64 p0_19]] (by kernel_rfl) hS14 (fun _ => by kernel_rfl) (fun w hk => charabancref11_Swap_31_ok K (fun _ => False) w p0_0 p0_1 p0_2 p0_3 p0_4 p0_5 p0_6 p0_7 p0_8 p0_9 p0_10 p0_11 p0_12 p0_13 p0_14 p0_15 p0_16 p0_17 p0_18 p0_19 (fun _ hf => hf.elim) hg90) ?_
          refine AnyE.run 32 43 (.bool ((t70 == t91) && ((t71 == t92) && ((t72 == t93) && ((t73 == t94) && ((t74 == t95) && ((t75 == t96) && ((t76 == t97) && ((t77 == t98) && ((t78 == t99) && ((t79 == t100) && ((t80 == t101) && ((t81 == t102) && ((t82 == t103) && ((t83 == t104) && ((t84 == t105) && ((t85 == t106) && ((t86 == t107) && ((t87 == t108) && ((t88 == t109) && ((t89 == t110) && true))))))))))))))))))))) (by kernel_rfl) hS14 (fun _ hk => run_eqS (neg := false) (t := 46) (x := .agg #[.int .u16 t70, .int .u16 t71, .int .u16 t72, .int .u16 t73, .int .u16 t74, .int .u16 t75, .int .u16 t76, .int .u16 t77, .int .u16 t78, .int .u16 t79, .int .u16 t80, .int .u16 t81, .int .u16 t82, .int .u8 t83, .int .u8 t84, .bool t85, .bool t86, .bool t87, .bool t88, .int .i64 t89]) (y := .agg #[.int .u16 t91, .int .u16 t92, .int .u16 t93, .int .u16 t94, .int .u16 t95, .int .u16 t96, .int .u16 t97, .int .u16 t98, .int .u16 t99, .int .u16 t100, .int .u16 t101, .int .u16 t102, .int .u16 t103, .int .u8 t104, .int .u8 t105, .bool t106, .bool t107, .bool t108, .bool t109, .int .i64 t110]) (b := ((t70 == t91) && ((t71 == t92) && ((t72 == t93) && ((t73 == t94) && ((t74 == t95) && ((t75 == t96) && ((t76 == t97) && ((t77 == t98) && ((t78 == t99) && ((t79 == t100) && ((t80 == t101) && ((t81 == t102) && ((t82 == t103) && ((t83 == t104) && ((t84 == t105) && ((t85 == t106) && ((t86 == t107) && ((t87 == t108) && ((t88 == t109) && ((t89 == t110) && true))))))))))))))))))))) (by kernel_rfl) (by kernel_rfl) (by kernel_rfl) (by kernel_rfl)) ?_
          refine AnyE.pure 33 44 (.bool ((t70 == t91) && ((t71 == t92) && ((t72 == t93) && ((t73 == t94) && ((t74 == t95) && ((t75 == t96) && ((t76 == t97) && ((t77 == t98) && ((t78 == t99) && ((t79 == t100) && ((t80 == t101) && ((t81 == t102) && ((t82 == t103) && ((t83 == t104) && ((t84 == t105) && ((t85 == t106) && ((t86 == t107) && ((t87 == t108) && ((t88 == t109) && ((t89 == t110) && true))))))))))))))))))))) (by kernel_rfl) hS14 (fun _ => by kernel_rfl) ?_
          refine AnyE.pure 34 45 (.bool ((t70 == t91) && ((t71 == t92) && ((t72 == t93) && ((t73 == t94) && ((t74 == t95) && ((t75 == t96) && ((t76 == t97) && ((t77 == t98) && ((t78 == t99) && ((t79 == t100) && ((t80 == t101) && ((t81 == t102) && ((t82 == t103) && ((t83 == t104) && ((t84 == t105) && ((t85 == t106) && ((t86 == t107) && ((t87 == t108) && ((t88 == t109) && ((t89 == t110) && true))))))))))))))))))))) (by kernel_rfl) hS14 (fun _ => by kernel_rfl) ?_
          rcases of_cond h with ⟨hc111, h⟩ | ⟨hc111, h⟩
          · skip
            refine AnyE.fix 45 true hc111 (by kernel_rfl) (by kernel_rfl) ?_
            refine AnyE.loadBox 35 46 3 46 b2 0 (.agg #[.int .u16 p0_0, .int .u16 p0_1, .int .u16 p0_2, .int .u16 p0_3, .int .u16 p0_4, .int .u16 p0_5, .int .u16 p0_6, .int .u16 p0_7, .int .u16 p0_8, .int .u16 p0_9, .int .u16 p0_10, .int .u16 p0_11, .int .u16 p0_12, .int .u8 p0_13, .int .u8 p0_14, .bool p0_15, .bool p0_16, .bool p0_17, .bool p0_18, .int .i64 p0_19]) [] h13 rfl (by kernel_rfl) hS14 rfl rfl (by kernel_rfl) (by kernel_rfl) ?_
            refine AnyE.pure 36 47 (.int .i64 p2) (by kernel_rfl) hS14 (fun _ => by kernel_rfl) ?_
            obtain ⟨⟨t113, t114, t115, t116, t117, t118, t119, t120, t121, t122, t123, t124, t125, t126, t127, t128, t129, t130, t131, t132⟩, hg112, h⟩ := of_bind h
            dsimp only at h
            refine AnyE.call 37 48 (.agg #[.int .u16 t113, .int .u16 t114, .int .u16 t115, .int .u16 t116, .int .u16 t117, .int .u16 t118, .int .u16 t119, .int .u16 t120, .int .u16 t121, .int .u16 t122, .int .u16 t123, .int .u16 t124, .int .u16 t125, .int .u8 t126, .int .u8 t127, .bool t128, .bool t129, .bool t130, .bool t131, .int .i64 t132]) 32 #[.agg #[.int .u16 p0_0, .int .u16 p0_1, .int .u16 p0_2, .int .u16 p0_3, .int .u16 p0_4, .int .u16 p0_5, .int .u16 p0_6, .int .u16 p0_7, .int .u16 p0_8, .int .u16 p0_9, .int .u16 p0_10, .int .u16 p0_11, .int .u16 p0_12, .int .u8 p0_13, .int .u8 p0_14, .bool p0_15, .bool p0_16, .bool p0_17, .bool p0_18, .int .i64 p0_19], .int .i64 p2] (by kernel_rfl) hS14 (fun _ => by kernel_rfl) (fun w hk => regs_Tick_32_ok K (fun _ => False) w p0_0 p0_1 p0_2 p0_3 p0_4 p0_5 p0_6 p0_7 p0_8 p0_9 p0_10 p0_11 p0_12 p0_13 p0_14 p0_15 p0_16 p0_17 p0_18 p0_19 p2 (fun _ hf => hf.elim) hg112) ?_
            refine AnyE.loadBox 38 49 3 46 b2 0 (.agg #[.int .u16 p0_0, .int .u16 p0_1, .int .u16 p0_2, .int .u16 p0_3, .int .u16 p0_4, .int .u16 p0_5, .int .u16 p0_6, .int .u16 p0_7, .int .u16 p0_8, .int .u16 p0_9, .int .u16 p0_10, .int .u16 p0_11, .int .u16 p0_12, .int .u8 p0_13, .int .u8 p0_14, .bool p0_15, .bool p0_16, .bool p0_17, .bool p0_18, .int .i64 p0_19]) [] h13 rfl (by kernel_rfl) hS14 rfl rfl (by kernel_rfl) (by kernel_rfl) ?_
            refine AnyE.pure 39 50 (.int .i64 p2) (by kernel_rfl) hS14 (fun _ => by kernel_rfl) ?_
            obtain ⟨⟨t134, t135, t136, t137, t138, t139, t140, t141, t142, t143, t144, t145, t146, t147, t148, t149, t150, t151, t152, t153⟩, hg133, h⟩ := of_bind h
            dsimp only at h
            refine AnyE.call 40 51 (.agg #[.int .u16 t134, .int .u16 t135, .int .u16 t136, .int .u16 t137, .int .u16 t138, .int .u16 t139, .int .u16 t140, .int .u16 t141, .int .u16 t142, .int .u16 t143, .int .u16 t144, .int .u16 t145, .int .u16 t146, .int .u8 t147, .int .u8 t148, .bool t149, .bool t150, .bool t151, .bool t152, .int .i64 t153]) 33 #[.agg #[.int .u16 p0_0, .int .u16 p0_1, .int .u16 p0_2, .int .u16 p0_3, .int .u16 p0_4, .int .u16 p0_5, .int .u16 p0_6, .int .u16 p0_7, .int .u16 p0_8, .int .u16 p0_9, .int .u16 p0_10, .int .u16 p0_11, .int .u16 p0_12, .int .u8 p0_13, .int .u8 p0_14, .bool p0_15, .bool p0_16, .bool p0_17, .bool p0_18, .int .i64 p0_19], .int .i64 p2] (by kernel_rfl) hS14 (fun _ => by kernel_rfl) (fun w hk => charabancref11_Tick_33_ok K (fun _ => False) w p0_0 p0_1 p0_2 p0_3 p0_4 p0_5 p0_6 p0_7 p0_8 p0_9 p0_10 p0_11 p0_12 p0_13 p0_14 p0_15 p0_16 p0_17 p0_18 p0_19 p2 (fun _ hf => hf.elim) hg133) ?_
            refine AnyE.run 41 52 (.bool ((t113 == t134) && ((t114 == t135) && ((t115 == t136) && ((t116 == t137) && ((t117 == t138) && ((t118 == t139) && ((t119 == t140) && ((t120 == t141) && ((t121 == t142) && ((t122 == t143) && ((t123 == t144) && ((t124 == t145) && ((t125 == t146) && ((t126 == t147) && ((t127 == t148) && ((t128 == t149) && ((t129 == t150) && ((t130 == t151) && ((t131 == t152) && ((t132 == t153) && true))))))))))))))))))))) (by kernel_rfl) hS14 (fun _ hk => run_eqS (neg := false) (t := 46) (x := .agg #[.int .u16 t113, .int .u16 t114, .int .u16 t115, .int .u16 t116, .int .u16 t117, .int .u16 t118, .int .u16 t119, .int .u16 t120, .int .u16 t121, .int .u16 t122, .int .u16 t123, .int .u16 t124, .int .u16 t125, .int .u8 t126, .int .u8 t127, .bool t128, .bool t129, .bool t130, .bool t131, .int .i64 t132]) (y := .agg #[.int .u16 t134, .int .u16 t135, .int .u16 t136, .int .u16 t137, .int .u16 t138, .int .u16 t139, .int .u16 t140, .int .u16 t141, .int .u16 t142, .int .u16 t143, .int .u16 t144, .int .u16 t145, .int .u16 t146, .int .u8 t147, .int .u8 t148, .bool t149, .bool t150, .bool t151, .bool t152, .int .i64 t153]) (b := ((t113 == t134) && ((t114 == t135) && ((t115 == t136) && ((t116 == t137) && ((t117 == t138) && ((t118 == t139) && ((t119 == t140) && ((t120 == t141) && ((t121 == t142) && ((t122 == t143) && ((t123 == t144) && ((t124 == t145) && ((t125 == t146) && ((t126 == t147) && ((t127 == t148) && ((t128 == t149) && ((t129 == t150) && ((t130 == t151) && ((t131 == t152) && ((t132 == t153) && true))))))))))))))))))))) (by kernel_rfl) (by kernel_rfl) (by kernel_rfl) (by kernel_rfl)) ?_
            refine AnyE.pure 42 53 (.bool ((t113 == t134) && ((t114 == t135) && ((t115 == t136) && ((t116 == t137) && ((t117 == t138) && ((t118 == t139) && ((t119 == t140) && ((t120 == t141) && ((t121 == t142) && ((t122 == t143) && ((t123 == t144) && ((t124 == t145) && ((t125 == t146) && ((t126 == t147) && ((t127 == t148) && ((t128 == t149) && ((t129 == t150) && ((t130 == t151) && ((t131 == t152) && ((t132 == t153) && true))))))))))))))))))))) (by kernel_rfl) hS14 (fun _ => by kernel_rfl) ?_
            refine AnyE.pure 43 54 (.bool ((t113 == t134) && ((t114 == t135) && ((t115 == t136) && ((t116 == t137) && ((t117 == t138) && ((t118 == t139) && ((t119 == t140) && ((t120 == t141) && ((t121 == t142) && ((t122 == t143) && ((t123 == t144) && ((t124 == t145) && ((t125 == t146) && ((t126 == t147) && ((t127 == t148) && ((t128 == t149) && ((t129 == t150) && ((t130 == t151) && ((t131 == t152) && ((t132 == t153) && true))))))))))))))))))))) (by kernel_rfl) hS14 (fun _ => by kernel_rfl) ?_
            rcases of_cond h with ⟨hc154, h⟩ | ⟨hc154, h⟩
            · skip
              refine AnyE.fix 54 true hc154 (by kernel_rfl) (by kernel_rfl) ?_
              refine AnyE.loadBox 44 55 3 46 b2 0 (.agg #[.int .u16 p0_0, .int .u16 p0_1, .int .u16 p0_2, .int .u16 p0_3, .int .u16 p0_4, .int .u16 p0_5, .int .u16 p0_6, .int .u16 p0_7, .int .u16 p0_8, .int .u16 p0_9, .int .u16 p0_10, .int .u16 p0_11, .int .u16 p0_12, .int .u8 p0_13, .int .u8 p0_14, .bool p0_15, .bool p0_16, .bool p0_17, .bool p0_18, .int .i64 p0_19]) [] h13 rfl (by kernel_rfl) hS14 rfl rfl (by kernel_rfl) (by kernel_rfl) ?_
              obtain ⟨⟨t156, t157, t158, t159, t160, t161, t162, t163, t164, t165, t166, t167, t168, t169, t170, t171, t172, t173, t174, t175⟩, hg155, h⟩ := of_bind h
              dsimp only at h
              refine AnyE.call 45 56 (.agg #[.int .u16 t156, .int .u16 t157, .int .u16 t158, .int .u16 t159, .int .u16 t160, .int .u16 t161, .int .u16 t162, .int .u16 t163, .int .u16 t164, .int .u16 t165, .int .u16 t166, .int .u16 t167, .int .u16 t168, .int .u8 t169, .int .u8 t170, .bool t171, .bool t172, .bool t173, .bool t174, .int .i64 t175]) 34 #[.agg #[.int .u16 p0_0, .int .u16 p0_1, .int .u16 p0_2, .int .u16 p0_3, .int .u16 p0_4, .int .u16 p0_5, .int .u16 p0_6, .int .u16 p0_7, .int .u16 p0_8, .int .u16 p0_9, .int .u16 p0_10, .int .u16 p0_11, .int .u16 p0_12, .int .u8 p0_13, .int .u8 p0_14, .bool p0_15, .bool p0_16, .bool p0_17, .bool p0_18, .int .i64 p0_19]] (by kernel_rfl) hS14 (fun _ => by kernel_rfl) (fun w hk => regs_Reset_34_ok K (fun _ => False) w p0_0 p0_1 p0_2 p0_3 p0_4 p0_5 p0_6 p0_7 p0_8 p0_9 p0_10 p0_11 p0_12 p0_13 p0_14 p0_15 p0_16 p0_17 p0_18 p0_19 (fun _ hf => hf.elim) hg155) ?_
              refine AnyE.loadBox 46 57 3 46 b2 0 (.agg #[.int .u16 p0_0, .int .u16 p0_1, .int .u16 p0_2, .int .u16 p0_3, .int .u16 p0_4, .int .u16 p0_5, .int .u16 p0_6, .int .u16 p0_7, .int .u16 p0_8, .int .u16 p0_9, .int .u16 p0_10, .int .u16 p0_11, .int .u16 p0_12, .int .u8 p0_13, .int .u8 p0_14, .bool p0_15, .bool p0_16, .bool p0_17, .bool p0_18, .int .i64 p0_19]) [] h13 rfl (by kernel_rfl) hS14 rfl rfl (by kernel_rfl) (by kernel_rfl) ?_
              obtain ⟨⟨t177, t178, t179, t180, t181, t182, t183, t184, t185, t186, t187, t188, t189, t190, t191, t192, t193, t194, t195, t196⟩, hg176, h⟩ := of_bind h
              dsimp only at h
              refine AnyE.call 47 58 (.agg #[.int .u16 t177, .int .u16 t178, .int .u16 t179, .int .u16 t180, .int .u16 t181, .int .u16 t182, .int .u16 t183, .int .u16 t184, .int .u16 t185, .int .u16 t186, .int .u16 t187, .int .u16 t188, .int .u16 t189, .int .u8 t190, .int .u8 t191, .bool t192, .bool t193, .bool t194, .bool t195, .int .i64 t196]) 35 #[.agg #[.int .u16 p0_0, .int .u16 p0_1, .int .u16 p0_2, .int .u16 p0_3, .int .u16 p0_4, .int .u16 p0_5, .int .u16 p0_6, .int .u16 p0_7, .int .u16 p0_8, .int .u16 p0_9, .int .u16 p0_10, .int .u16 p0_11, .int .u16 p0_12, .int .u8 p0_13, .int .u8 p0_14, .bool p0_15, .bool p0_16, .bool p0_17, .bool p0_18, .int .i64 p0_19]] (by kernel_rfl) hS14 (fun _ => by kernel_rfl) (fun w hk => charabancref11_Reset_35_ok K (fun _ => False) w p0_0 p0_1 p0_2 p0_3 p0_4 p0_5 p0_6 p0_7 p0_8 p0_9 p0_10 p0_11 p0_12 p0_13 p0_14 p0_15 p0_16 p0_17 p0_18 p0_19 (fun _ hf => hf.elim) hg176) ?_
              refine AnyE.run 48 59 (.bool ((t156 == t177) && ((t157 == t178) && ((t158 == t179) && ((t159 == t180) && ((t160 == t181) && ((t161 == t182) && ((t162 == t183) && ((t163 == t184) && ((t164 == t185) && ((t165 == t186) && ((t166 == t187) && ((t167 == t188) && ((t168 == t189) && ((t169 == t190) && ((t170 == t191) && ((t171 == t192) && ((t172 == t193) && ((t173 == t194) && ((t174 == t195) && ((t175 == t196) && true))))))))))))))))))))) (by kernel_rfl) hS14 (fun _ hk => run_eqS (neg := false) (t := 46) (x := .agg #[.int .u16 t156, .int .u16 t157, .int .u16 t158, .int .u16 t159, .int .u16 t160, .int .u16 t161, .int .u16 t162, .int .u16 t163, .int .u16 t164, .int .u16 t165, .int .u16 t166, .int .u16 t167, .int .u16 t168, .int .u8 t169, .int .u8 t170, .bool t171, .bool t172, .bool t173, .bool t174, .int .i64 t175]) (y := .agg #[.int .u16 t177, .int .u16 t178, .int .u16 t179, .int .u16 t180, .int .u16 t181, .int .u16 t182, .int .u16 t183, .int .u16 t184, .int .u16 t185, .int .u16 t186, .int .u16 t187, .int .u16 t188, .int .u16 t189, .int .u8 t190, .int .u8 t191, .bool t192, .bool t193, .bool t194, .bool t195, .int .i64 t196]) (b := ((t156 == t177) && ((t157 == t178) && ((t158 == t179) && ((t159 == t180) && ((t160 == t181) && ((t161 == t182) && ((t162 == t183) && ((t163 == t184) && ((t164 == t185) && ((t165 == t186) && ((t166 == t187) && ((t167 == t188) && ((t168 == t189) && ((t169 == t190) && ((t170 == t191) && ((t171 == t192) && ((t172 == t193) && ((t173 == t194) && ((t174 == t195) && ((t175 == t196) && true))))))))))))))))))))) (by kernel_rfl) (by kernel_rfl) (by kernel_rfl) (by kernel_rfl)) ?_
              refine AnyE.pure 49 60 (.bool ((t156 == t177) && ((t157 == t178) && ((t158 == t179) && ((t159 == t180) && ((t160 == t181) && ((t161 == t182) && ((t162 == t183) && ((t163 == t184) && ((t164 == t185) && ((t165 == t186) && ((t166 == t187) && ((t167 == t188) && ((t168 == t189) && ((t169 == t190) && ((t170 == t191) && ((t171 == t192) && ((t172 == t193) && ((t173 == t194) && ((t174 == t195) && ((t175 == t196) && true))))))))))))))))))))) (by kernel_rfl) hS14 (fun _ => by kernel_rfl) ?_
              refine AnyE.pure 50 61 (.bool ((t156 == t177) && ((t157 == t178) && ((t158 == t179) && ((t159 == t180) && ((t160 == t181) && ((t161 == t182) && ((t162 == t183) && ((t163 == t184) && ((t164 == t185) && ((t165 == t186) && ((t166 == t187) && ((t167 == t188) && ((t168 == t189) && ((t169 == t190) && ((t170 == t191) && ((t171 == t192) && ((t172 == t193) && ((t173 == t194) && ((t174 == t195) && ((t175 == t196) && true))))))))))))))))))))) (by kernel_rfl) hS14 (fun _ => by kernel_rfl) ?_
              rcases of_cond h with ⟨hc197, h⟩ | ⟨hc197, h⟩
              · skip
                refine AnyE.fix 61 true hc197 (by kernel_rfl) (by kernel_rfl) ?_
                refine AnyE.loadBox 51 62 3 46 b2 0 (.agg #[.int .u16 p0_0, .int .u16 p0_1, .int .u16 p0_2, .int .u16 p0_3, .int .u16 p0_4, .int .u16 p0_5, .int .u16 p0_6, .int .u16 p0_7, .int .u16 p0_8, .int .u16 p0_9, .int .u16 p0_10, .int .u16 p0_11, .int .u16 p0_12, .int .u8 p0_13, .int .u8 p0_14, .bool p0_15, .bool p0_16, .bool p0_17, .bool p0_18, .int .i64 p0_19]) [] h13 rfl (by kernel_rfl) hS14 rfl rfl (by kernel_rfl) (by kernel_rfl) ?_
                obtain ⟨t199, hg198, h⟩ := of_bind h
                refine AnyE.call 52 63 (.string t199) 36 #[.agg #[.int .u16 p0_0, .int .u16 p0_1, .int .u16 p0_2, .int .u16 p0_3, .int .u16 p0_4, .int .u16 p0_5, .int .u16 p0_6, .int .u16 p0_7, .int .u16 p0_8, .int .u16 p0_9, .int .u16 p0_10, .int .u16 p0_11, .int .u16 p0_12, .int .u8 p0_13, .int .u8 p0_14, .bool p0_15, .bool p0_16, .bool p0_17, .bool p0_18, .int .i64 p0_19]] (by kernel_rfl) hS14 (fun _ => by kernel_rfl) (fun w hk => regs_Show_36_ok K (fun _ => False) w p0_0 p0_1 p0_2 p0_3 p0_4 p0_5 p0_6 p0_7 p0_8 p0_9 p0_10 p0_11 p0_12 p0_13 p0_14 p0_15 p0_16 p0_17 p0_18 p0_19 (fun _ hf => hf.elim) ⟨(h13.atI [] rfl hk 0 rfl rfl).1, fun hf => hf.elim, (h13.atI [] rfl hk 0 rfl rfl).2.2⟩ ⟨(h13.atI [] rfl hk 1 rfl rfl).1, fun hf => hf.elim, (h13.atI [] rfl hk 1 rfl rfl).2.2⟩ ⟨(h13.atI [] rfl hk 2 rfl rfl).1, fun hf => hf.elim, (h13.atI [] rfl hk 2 rfl rfl).2.2⟩ hg198) ?_
                refine AnyE.loadBox 53 64 3 46 b2 0 (.agg #[.int .u16 p0_0, .int .u16 p0_1, .int .u16 p0_2, .int .u16 p0_3, .int .u16 p0_4, .int .u16 p0_5, .int .u16 p0_6, .int .u16 p0_7, .int .u16 p0_8, .int .u16 p0_9, .int .u16 p0_10, .int .u16 p0_11, .int .u16 p0_12, .int .u8 p0_13, .int .u8 p0_14, .bool p0_15, .bool p0_16, .bool p0_17, .bool p0_18, .int .i64 p0_19]) [] h13 rfl (by kernel_rfl) hS14 rfl rfl (by kernel_rfl) (by kernel_rfl) ?_
                obtain ⟨t201, hg200, h⟩ := of_bind h
                refine AnyE.call 54 65 (.string t201) 37 #[.agg #[.int .u16 p0_0, .int .u16 p0_1, .int .u16 p0_2, .int .u16 p0_3, .int .u16 p0_4, .int .u16 p0_5, .int .u16 p0_6, .int .u16 p0_7, .int .u16 p0_8, .int .u16 p0_9, .int .u16 p0_10, .int .u16 p0_11, .int .u16 p0_12, .int .u8 p0_13, .int .u8 p0_14, .bool p0_15, .bool p0_16, .bool p0_17, .bool p0_18, .int .i64 p0_19]] (by kernel_rfl) hS14 (fun _ => by kernel_rfl) (fun w hk => charabancref11_Show_37_ok K (fun _ => False) w p0_0 p0_1 p0_2 p0_3 p0_4 p0_5 p0_6 p0_7 p0_8 p0_9 p0_10 p0_11 p0_12 p0_13 p0_14 p0_15 p0_16 p0_17 p0_18 p0_19 (fun _ hf => hf.elim) hg200) ?_
                refine AnyE.pure 55 66 (.bool ((ByteArray.toList t199) == (ByteArray.toList t201))) (by kernel_rfl) hS14 (fun _ => by kernel_rfl) ?_
                refine AnyE.pure 56 67 (.bool ((ByteArray.toList t199) == (ByteArray.toList t201))) (by kernel_rfl) hS14 (fun _ => by kernel_rfl) ?_
                refine AnyE.pure 57 6 (.bool ((ByteArray.toList t199) == (ByteArray.toList t201))) (by kernel_rfl) hS14 (fun _ => by kernel_rfl) ?_
                refine AnyE.done (by kernel_rfl) (fun w202 hu203 => ?_)
                have h204 := h13.call hu203
                refine RunsI.only [6] [(6, .bool ((ByteArray.toList t199) == (ByteArray.toList t201)))] (by kernel_rfl) (by kernel_rfl) ?_
                refine RunsI.ret (.bool ((ByteArray.toList t199) == (ByteArray.toList t201))) (by kernel_rfl) (by kernel_rfl) ?_
                obtain rfl := Option.some.inj h
                exact ⟨rfl, h204.below⟩
              · skip
                refine AnyE.fix 61 false hc197 (by kernel_rfl) (by kernel_rfl) ?_
                refine AnyE.no 51 62 (by kernel_rfl) hS14 ?_
                refine AnyE.no 52 63 (by kernel_rfl) hS14 ?_
                refine AnyE.no 53 64 (by kernel_rfl) hS14 ?_
                refine AnyE.no 54 65 (by kernel_rfl) hS14 ?_
                refine AnyE.no 55 66 (by kernel_rfl) hS14 ?_
                refine AnyE.pure 56 67 (.bool false) (by kernel_rfl) hS14 (fun _ => by kernel_rfl) ?_
                refine AnyE.pure 57 6 (.bool false) (by kernel_rfl) hS14 (fun _ => by kernel_rfl) ?_
                refine AnyE.done (by kernel_rfl) (fun w205 hu206 => ?_)
                have h207 := h13.call hu206
                refine RunsI.only [6] [(6, .bool false)] (by kernel_rfl) (by kernel_rfl) ?_
                refine RunsI.ret (.bool false) (by kernel_rfl) (by kernel_rfl) ?_
                obtain rfl := Option.some.inj h
                exact ⟨rfl, h207.below⟩
            · skip
              refine AnyE.fix 54 false hc154 (by kernel_rfl) (by kernel_rfl) ?_
              refine AnyE.no 44 55 (by kernel_rfl) hS14 ?_
              refine AnyE.no 45 56 (by kernel_rfl) hS14 ?_
              refine AnyE.no 46 57 (by kernel_rfl) hS14 ?_
              refine AnyE.no 47 58 (by kernel_rfl) hS14 ?_
              refine AnyE.no 48 59 (by kernel_rfl) hS14 ?_
              refine AnyE.pure 49 60 (.bool false) (by kernel_rfl) hS14 (fun _ => by kernel_rfl) ?_
              refine AnyE.pure 50 61 (.bool false) (by kernel_rfl) hS14 (fun _ => by kernel_rfl) ?_
              refine AnyE.no 51 62 (by kernel_rfl) hS14 ?_
              refine AnyE.no 52 63 (by kernel_rfl) hS14 ?_
              refine AnyE.no 53 64 (by kernel_rfl) hS14 ?_
              refine AnyE.no 54 65 (by kernel_rfl) hS14 ?_
              refine AnyE.no 55 66 (by kernel_rfl) hS14 ?_
              refine AnyE.pure 56 67 (.bool false) (by kernel_rfl) hS14 (fun _ => by kernel_rfl) ?_
              refine AnyE.pure 57 6 (.bool false) (by kernel_rfl) hS14 (fun _ => by kernel_rfl) ?_
              refine AnyE.done (by kernel_rfl) (fun w208 hu209 => ?_)
              have h210 := h13.call hu209
              refine RunsI.only [6] [(6, .bool false)] (by kernel_rfl) (by kernel_rfl) ?_
              refine RunsI.ret (.bool false) (by kernel_rfl) (by kernel_rfl) ?_
              obtain rfl := Option.some.inj h
              exact ⟨rfl, h210.below⟩
          · skip
            refine AnyE.fix 45 false hc111 (by kernel_rfl) (by kernel_rfl) ?_
            refine AnyE.no 35 46 (by kernel_rfl) hS14 ?_
            refine AnyE.no 36 47 (by kernel_rfl) hS14 ?_
            refine AnyE.no 37 48 (by kernel_rfl) hS14 ?_
            refine AnyE.no 38 49 (by kernel_rfl) hS14 ?_
            refine AnyE.no 39 50 (by kernel_rfl) hS14 ?_
            refine AnyE.no 40 51 (by kernel_rfl) hS14 ?_
            refine AnyE.no 41 52 (by kernel_rfl) hS14 ?_
            refine AnyE.pure 42 53 (.bool false) (by kernel_rfl) hS14 (fun _ => by kernel_rfl) ?_
            refine AnyE.pure 43 54 (.bool false) (by kernel_rfl) hS14 (fun _ => by kernel_rfl) ?_
            refine AnyE.no 44 55 (by kernel_rfl) hS14 ?_
            refine AnyE.no 45 56 (by kernel_rfl) hS14 ?_
            refine AnyE.no 46 57 (by kernel_rfl) hS14 ?_
            refine AnyE.no 47 58 (by kernel_rfl) hS14 ?_
            refine AnyE.no 48 59 (by kernel_rfl) hS14 ?_
            refine AnyE.pure 49 60 (.bool false) (by kernel_rfl) hS14 (fun _ => by kernel_rfl) ?_
            refine AnyE.pure 50 61 (.bool false) (by kernel_rfl) hS14 (fun _ => by kernel_rfl) ?_
            refine AnyE.no 51 62 (by kernel_rfl) hS14 ?_
            refine AnyE.no 52 63 (by kernel_rfl) hS14 ?_
            refine AnyE.no 53 64 (by kernel_rfl) hS14 ?_
            refine AnyE.no 54 65 (by kernel_rfl) hS14 ?_
            refine AnyE.no 55 66 (by kernel_rfl) hS14 ?_
            refine AnyE.pure 56 67 (.bool false) (by kernel_rfl) hS14 (fun _ => by kernel_rfl) ?_
            refine AnyE.pure 57 6 (.bool false) (by kernel_rfl) hS14 (fun _ => by kernel_rfl) ?_
            refine AnyE.done (by kernel_rfl) (fun w211 hu212 => ?_)
            have h213 := h13.call hu212
            refine RunsI.only [6] [(6, .bool false)] (by kernel_rfl) (by kernel_rfl) ?_
            refine RunsI.ret (.bool false) (by kernel_rfl) (by kernel_rfl) ?_
            obtain rfl := Option.some.inj h
            exact ⟨rfl, h213.below⟩
        · skip
          refine AnyE.fix 38 false hc68 (by kernel_rfl) (by kernel_rfl) ?_
          refine AnyE.no 28 39 (by kernel_rfl) hS14 ?_
          refine AnyE.no 29 40 (by kernel_rfl) hS14 ?_
          refine AnyE.no 30 41 (by kernel_rfl) hS14 ?_
          refine AnyE.no 31 42 (by kernel_rfl) hS14 ?_
          refine AnyE.no 32 43 (by kernel_rfl) hS14 ?_
          refine AnyE.pure 33 44 (.bool false) (by kernel_rfl) hS14 (fun _ => by kernel_rfl) ?_
          refine AnyE.pure 34 45 (.bool false) (by kernel_rfl) hS14 (fun _ => by kernel_rfl) ?_
          refine AnyE.no 35 46 (by kernel_rfl) hS14 ?_
          refine AnyE.no 36 47 (by kernel_rfl) hS14 ?_
          refine AnyE.no 37 48 (by kernel_rfl) hS14 ?_
          refine AnyE.no 38 49 (by kernel_rfl) hS14 ?_
          refine AnyE.no 39 50 (by kernel_rfl) hS14 ?_
          refine AnyE.no 40 51 (by kernel_rfl) hS14 ?_
          refine AnyE.no 41 52 (by kernel_rfl) hS14 ?_
          refine AnyE.pure 42 53 (.bool false) (by kernel_rfl) hS14 (fun _ => by kernel_rfl) ?_
          refine AnyE.pure 43 54 (.bool false) (by kernel_rfl) hS14 (fun _ => by kernel_rfl) ?_
          refine AnyE.no 44 55 (by kernel_rfl) hS14 ?_
          refine AnyE.no 45 56 (by kernel_rfl) hS14 ?_
          refine AnyE.no 46 57 (by kernel_rfl) hS14 ?_
          refine AnyE.no 47 58 (by kernel_rfl) hS14 ?_
          refine AnyE.no 48 59 (by kernel_rfl) hS14 ?_
          refine AnyE.pure 49 60 (.bool false) (by kernel_rfl) hS14 (fun _ => by kernel_rfl) ?_
          refine AnyE.pure 50 61 (.bool false) (by kernel_rfl) hS14 (fun _ => by kernel_rfl) ?_
          refine AnyE.no 51 62 (by kernel_rfl) hS14 ?_
          refine AnyE.no 52 63 (by kernel_rfl) hS14 ?_
          refine AnyE.no 53 64 (by kernel_rfl) hS14 ?_
          refine AnyE.no 54 65 (by kernel_rfl) hS14 ?_
          refine AnyE.no 55 66 (by kernel_rfl) hS14 ?_
          refine AnyE.pure 56 67 (.bool false) (by kernel_rfl) hS14 (fun _ => by kernel_rfl) ?_
          refine AnyE.pure 57 6 (.bool false) (by kernel_rfl) hS14 (fun _ => by kernel_rfl) ?_
          refine AnyE.done (by kernel_rfl) (fun w214 hu215 => ?_)
          have h216 := h13.call hu215
          refine RunsI.only [6] [(6, .bool false)] (by kernel_rfl) (by kernel_rfl) ?_
          refine RunsI.ret (.bool false) (by kernel_rfl) (by kernel_rfl) ?_
          obtain rfl := Option.some.inj h
          exact ⟨rfl, h216.below⟩
      · skip
        refine AnyE.fix 31 false hc25 (by kernel_rfl) (by kernel_rfl) ?_
        refine AnyE.no 21 32 (by kernel_rfl) hS14 ?_
        refine AnyE.no 22 33 (by kernel_rfl) hS14 ?_
        refine AnyE.no 23 34 (by kernel_rfl) hS14 ?_
        refine AnyE.no 24 35 (by kernel_rfl) hS14 ?_
        refine AnyE.no 25 36 (by kernel_rfl) hS14 ?_
        refine AnyE.pure 26 37 (.bool false) (by kernel_rfl) hS14 (fun _ => by kernel_rfl) ?_
        refine AnyE.pure 27 38 (.bool false) (by kernel_rfl) hS14 (fun _ => by kernel_rfl) ?_
        refine AnyE.no 28 39 (by kernel_rfl) hS14 ?_
        refine AnyE.no 29 40 (by kernel_rfl) hS14 ?_
        refine AnyE.no 30 41 (by kernel_rfl) hS14 ?_
        refine AnyE.no 31 42 (by kernel_rfl) hS14 ?_
        refine AnyE.no 32 43 (by kernel_rfl) hS14 ?_
        refine AnyE.pure 33 44 (.bool false) (by kernel_rfl) hS14 (fun _ => by kernel_rfl) ?_
        refine AnyE.pure 34 45 (.bool false) (by kernel_rfl) hS14 (fun _ => by kernel_rfl) ?_
        refine AnyE.no 35 46 (by kernel_rfl) hS14 ?_
        refine AnyE.no 36 47 (by kernel_rfl) hS14 ?_
        refine AnyE.no 37 48 (by kernel_rfl) hS14 ?_
        refine AnyE.no 38 49 (by kernel_rfl) hS14 ?_
        refine AnyE.no 39 50 (by kernel_rfl) hS14 ?_
        refine AnyE.no 40 51 (by kernel_rfl) hS14 ?_
        refine AnyE.no 41 52 (by kernel_rfl) hS14 ?_
        refine AnyE.pure 42 53 (.bool false) (by kernel_rfl) hS14 (fun _ => by kernel_rfl) ?_
        refine AnyE.pure 43 54 (.bool false) (by kernel_rfl) hS14 (fun _ => by kernel_rfl) ?_
        refine AnyE.no 44 55 (by kernel_rfl) hS14 ?_
        refine AnyE.no 45 56 (by kernel_rfl) hS14 ?_
        refine AnyE.no 46 57 (by kernel_rfl) hS14 ?_
        refine AnyE.no 47 58 (by kernel_rfl) hS14 ?_
        refine AnyE.no 48 59 (by kernel_rfl) hS14 ?_
        refine AnyE.pure 49 60 (.bool false) (by kernel_rfl) hS14 (fun _ => by kernel_rfl) ?_
        refine AnyE.pure 50 61 (.bool false) (by kernel_rfl) hS14 (fun _ => by kernel_rfl) ?_
        refine AnyE.no 51 62 (by kernel_rfl) hS14 ?_
        refine AnyE.no 52 63 (by kernel_rfl) hS14 ?_
        refine AnyE.no 53 64 (by kernel_rfl) hS14 ?_
        refine AnyE.no 54 65 (by kernel_rfl) hS14 ?_
        refine AnyE.no 55 66 (by kernel_rfl) hS14 ?_
        refine AnyE.pure 56 67 (.bool false) (by kernel_rfl) hS14 (fun _ => by kernel_rfl) ?_
        refine AnyE.pure 57 6 (.bool false) (by kernel_rfl) hS14 (fun _ => by kernel_rfl) ?_
        refine AnyE.done (by kernel_rfl) (fun w217 hu218 => ?_)
        have h219 := h13.call hu218
        refine RunsI.only [6] [(6, .bool false)] (by kernel_rfl) (by kernel_rfl) ?_
        refine RunsI.ret (.bool false) (by kernel_rfl) (by kernel_rfl) ?_
        obtain rfl := Option.some.inj h
        exact ⟨rfl, h219.below⟩
    · skip
      refine AnyE.fix 20 false hc20 (by kernel_rfl) (by kernel_rfl) ?_
      refine AnyE.no 10 21 (by kernel_rfl) hS14 ?_
      refine AnyE.no 11 22 (by kernel_rfl) hS14 ?_
      refine AnyE.no 12 23 (by kernel_rfl) hS14 ?_
      refine AnyE.no 13 24 (by kernel_rfl) hS14 ?_
      refine AnyE.no 14 25 (by kernel_rfl) hS14 ?_
      refine AnyE.no 15 26 (by kernel_rfl) hS14 ?_
      refine AnyE.no 16 27 (by kernel_rfl) hS14 ?_
      refine AnyE.no 17 28 (by kernel_rfl) hS14 ?_
      refine AnyE.no 18 29 (by kernel_rfl) hS14 ?_
      refine AnyE.pure 19 30 (.bool false) (by kernel_rfl) hS14 (fun _ => by kernel_rfl) ?_
      refine AnyE.pure 20 31 (.bool false) (by kernel_rfl) hS14 (fun _ => by kernel_rfl) ?_
      refine AnyE.no 21 32 (by kernel_rfl) hS14 ?_
      refine AnyE.no 22 33 (by kernel_rfl) hS14 ?_
      refine AnyE.no 23 34 (by kernel_rfl) hS14 ?_
      refine AnyE.no 24 35 (by kernel_rfl) hS14 ?_
      refine AnyE.no 25 36 (by kernel_rfl) hS14 ?_
      refine AnyE.pure 26 37 (.bool false) (by kernel_rfl) hS14 (fun _ => by kernel_rfl) ?_
      refine AnyE.pure 27 38 (.bool false) (by kernel_rfl) hS14 (fun _ => by kernel_rfl) ?_
      refine AnyE.no 28 39 (by kernel_rfl) hS14 ?_
      refine AnyE.no 29 40 (by kernel_rfl) hS14 ?_
      refine AnyE.no 30 41 (by kernel_rfl) hS14 ?_
      refine AnyE.no 31 42 (by kernel_rfl) hS14 ?_
      refine AnyE.no 32 43 (by kernel_rfl) hS14 ?_
      refine AnyE.pure 33 44 (.bool false) (by kernel_rfl) hS14 (fun _ => by kernel_rfl) ?_
      refine AnyE.pure 34 45 (.bool false) (by kernel_rfl) hS14 (fun _ => by kernel_rfl) ?_
      refine AnyE.no 35 46 (by kernel_rfl) hS14 ?_
      refine AnyE.no 36 47 (by kernel_rfl) hS14 ?_
      refine AnyE.no 37 48 (by kernel_rfl) hS14 ?_
      refine AnyE.no 38 49 (by kernel_rfl) hS14 ?_
      refine AnyE.no 39 50 (by kernel_rfl) hS14 ?_
      refine AnyE.no 40 51 (by kernel_rfl) hS14 ?_
      refine AnyE.no 41 52 (by kernel_rfl) hS14 ?_
      refine AnyE.pure 42 53 (.bool false) (by kernel_rfl) hS14 (fun _ => by kernel_rfl) ?_
      refine AnyE.pure 43 54 (.bool false) (by kernel_rfl) hS14 (fun _ => by kernel_rfl) ?_
      refine AnyE.no 44 55 (by kernel_rfl) hS14 ?_
      refine AnyE.no 45 56 (by kernel_rfl) hS14 ?_
      refine AnyE.no 46 57 (by kernel_rfl) hS14 ?_
      refine AnyE.no 47 58 (by kernel_rfl) hS14 ?_
      refine AnyE.no 48 59 (by kernel_rfl) hS14 ?_
      refine AnyE.pure 49 60 (.bool false) (by kernel_rfl) hS14 (fun _ => by kernel_rfl) ?_
      refine AnyE.pure 50 61 (.bool false) (by kernel_rfl) hS14 (fun _ => by kernel_rfl) ?_
      refine AnyE.no 51 62 (by kernel_rfl) hS14 ?_
      refine AnyE.no 52 63 (by kernel_rfl) hS14 ?_
      refine AnyE.no 53 64 (by kernel_rfl) hS14 ?_
      refine AnyE.no 54 65 (by kernel_rfl) hS14 ?_
      refine AnyE.no 55 66 (by kernel_rfl) hS14 ?_
      refine AnyE.pure 56 67 (.bool false) (by kernel_rfl) hS14 (fun _ => by kernel_rfl) ?_
      refine AnyE.pure 57 6 (.bool false) (by kernel_rfl) hS14 (fun _ => by kernel_rfl) ?_
      refine AnyE.done (by kernel_rfl) (fun w220 hu221 => ?_)
      have h222 := h13.call hu221
      refine RunsI.only [6] [(6, .bool false)] (by kernel_rfl) (by kernel_rfl) ?_
      refine RunsI.ret (.bool false) (by kernel_rfl) (by kernel_rfl) ?_
      obtain rfl := Option.some.inj h
      exact ⟨rfl, h222.below⟩
end
end Go.Proofs.YtajnhlkkbhobiaaDoor.Reg
