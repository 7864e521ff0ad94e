/- The statement's function RegsTurned as a plain Lean function; written by wip/eng.py. -/
import Derived.Test.YtajnhlkkbhobiaaDoorReg3
set_option linter.unusedVariables false
set_option linter.unusedSimpArgs false
set_option maxHeartbeats 4000000
namespace Go.Proofs.YtajnhlkkbhobiaaDoor.Reg
open Go.RowKit Go.Eng
noncomputable def B9 : Code := (Tryd.f9.body).getD .skip
noncomputable def F9 : Fun Tryd.prog := ⟨9, Tryd.f9, B9, 78, Tryd.func9, by kernel_rfl, by kernel_rfl, [], none⟩

/-! ### charabanc/charabanclaw11.RegsTurned (function 9) -/
section
def charabanclaw11_RegsTurned_9.post (M0 : Nat → Prop) (w0 : World) (r : Bool) : Ending → World → Prop := fun e w => e = .returned (.bool r) ∧ Below w0.heap.size w0 w
def charabanclaw11_RegsTurned_9.f (K : Nat) (p0_0 : Int) (p0_1 : Int) (p0_2 : Int) (p0_3 : Int) (p0_4 : Int) (p0_5 : Int) (p0_6 : Int) (p0_7 : Int) (p0_8 : Int) (p0_9 : Int) (p0_10 : Int) (p0_11 : Int) (p0_12 : Int) (p0_13 : Int) (p0_14 : Int) (p0_15 : Bool) (p0_16 : Bool) (p0_17 : Bool) (p0_18 : Bool) (p0_19 : Int) (p1 : Int) (p2 : Int) : Option Bool := (charabanclaw11_awake_23.f K).bind fun t10 => cond (!t10) (some false) ((regs_Tick_32.f K p0_0 p0_1 p0_2 p0_3 p0_4 p0_5 p0_6 p0_7 p0_8 p0_9 p0_10 p0_11 p0_12 p0_13 p0_14 p0_15 p0_16 p0_17 p0_18 p0_19 (band .i64 p1 65535)).bind fun yt16 => (regs_Exx_28.f K p0_0 p0_1 p0_2 p0_3 p0_4 p0_5 p0_6 p0_7 p0_8 p0_9 p0_10 p0_11 p0_12 p0_13 p0_14 p0_15 p0_16 p0_17 p0_18 p0_19).bind fun yt49 => (regs_Exx_28.f K yt49.1 yt49.2.1 yt49.2.2.1 yt49.2.2.2.1 yt49.2.2.2.2.1 yt49.2.2.2.2.2.1 yt49.2.2.2.2.2.2.1 yt49.2.2.2.2.2.2.2.1 yt49.2.2.2.2.2.2.2.2.1 yt49.2.2.2.2.2.2.2.2.2.1 yt49.2.2.2.2.2.2.2.2.2.2.1 yt49.2.2.2.2.2.2.2.2.2.2.2.1 yt49.2.2.2.2.2.2.2.2.2.2.2.2.1 yt49.2.2.2.2.2.2.2.2.2.2.2.2.2.1 yt49.2.2.2.2.2.2.2.2.2.2.2.2.2.2.1 yt49.2.2.2.2.2.2.2.2.2.2.2.2.2.2.2.1 yt49.2.2.2.2.2.2.2.2.2.2.2.2.2.2.2.2.1 yt49.2.2.2.2.2.2.2.2.2.2.2.2.2.2.2.2.2.1 yt49.2.2.2.2.2.2.2.2.2.2.2.2.2.2.2.2.2.2.1 yt49.2.2.2.2.2.2.2.2.2.2.2.2.2.2.2.2.2.2.2).bind fun yt70 => cond ((yt70.1 == p0_0) && ((yt70.2.1 == p0_1) && ((yt70.2.2.1 == p0_2) && ((yt70.2.2.2.1 == p0_3) && ((yt70.2.2.2.2.1 == p0_4) && ((yt70.2.2.2.2.2.1 == p0_5) && ((yt70.2.2.2.2.2.2.1 == p0_6) && ((yt70.2.2.2.2.2.2.2.1 == p0_7) && ((yt70.2.2.2.2.2.2.2.2.1 == p0_8) && ((yt70.2.2.2.2.2.2.2.2.2.1 == p0_9) && ((yt70.2.2.2.2.2.2.2.2.2.2.1 == p0_10) && ((yt70.2.2.2.2.2.2.2.2.2.2.2.1 == p0_11) && ((yt70.2.2.2.2.2.2.2.2.2.2.2.2.1 == p0_12) && ((yt70.2.2.2.2.2.2.2.2.2.2.2.2.2.1 == p0_13) && ((yt70.2.2.2.2.2.2.2.2.2.2.2.2.2.2.1 == p0_14) && ((yt70.2.2.2.2.2.2.2.2.2.2.2.2.2.2.2.1 == p0_15) && ((yt70.2.2.2.2.2.2.2.2.2.2.2.2.2.2.2.2.1 == p0_16) && ((yt70.2.2.2.2.2.2.2.2.2.2.2.2.2.2.2.2.2.1 == p0_17) && ((yt70.2.2.2.2.2.2.2.2.2.2.2.2.2.2.2.2.2.2.1 == p0_18) && ((yt70.2.2.2.2.2.2.2.2.2.2.2.2.2.2.2.2.2.2.2 == p0_19) && true)))))))))))))))))))) ((regs_Swap_30.f K p0_0 p0_1 p0_2 p0_3 p0_4 p0_5 p0_6 p0_7 p0_8 p0_9 p0_10 p0_11 p0_12 p0_13 p0_14 p0_15 p0_16 p0_17 p0_18 p0_19).bind fun yt92 => (regs_Swap_30.f K yt92.1 yt92.2.1 yt92.2.2.1 yt92.2.2.2.1 yt92.2.2.2.2.1 yt92.2.2.2.2.2.1 yt92.2.2.2.2.2.2.1 yt92.2.2.2.2.2.2.2.1 yt92.2.2.2.2.2.2.2.2.1 yt92.2.2.2.2.2.2.2.2.2.1 yt92.2.2.2.2.2.2.2.2.2.2.1 yt92.2.2.2.2.2.2.2.2.2.2.2.1 yt92.2.2.2.2.2.2.2.2.2.2.2.2.1 yt92.2.2.2.2.2.2.2.2.2.2.2.2.2.1 yt92.2.2.2.2.2.2.2.2.2.2.2.2.2.2.1 yt92.2.2.2.2.2.2.2.2.2.2.2.2.2.2.2.1 yt92.2.2.2.2.2.2.2.2.2.2.2.2.2.2.2.2.1 yt92.2.2.2.2.2.2.2.2.2.2.2.2.2.2.2.2.2.1 yt92.2.2.2.2.2.2.2.2.2.2.2.2.2.2.2.2.2.2.1 yt92.2.2.2.2.2.2.2.2.2.2.2.2.2.2.2.2.2.2.2).bind fun yt113 => cond ((yt113.1 == p0_0) && ((yt113.2.1 == p0_1) && ((yt113.2.2.1 == p0_2) && ((yt113.2.2.2.1 == p0_3) && ((yt113.2.2.2.2.1 == p0_4) && ((yt113.2.2.2.2.2.1 == p0_5) && ((yt113.2.2.2.2.2.2.1 == p0_6) && ((yt113.2.2.2.2.2.2.2.1 == p0_7) && ((yt113.2.2.2.2.2.2.2.2.1 == p0_8) && ((yt113.2.2.2.2.2.2.2.2.2.1 == p0_9) && ((yt113.2.2.2.2.2.2.2.2.2.2.1 == p0_10) && ((yt113.2.2.2.2.2.2.2.2.2.2.2.1 == p0_11) && ((yt113.2.2.2.2.2.2.2.2.2.2.2.2.1 == p0_12) && ((yt113.2.2.2.2.2.2.2.2.2.2.2.2.2.1 == p0_13) && ((yt113.2.2.2.2.2.2.2.2.2.2.2.2.2.2.1 == p0_14) && ((yt113.2.2.2.2.2.2.2.2.2.2.2.2.2.2.2.1 == p0_15) && ((yt113.2.2.2.2.2.2.2.2.2.2.2.2.2.2.2.2.1 == p0_16) && ((yt113.2.2.2.2.2.2.2.2.2.2.2.2.2.2.2.2.2.1 == p0_17) && ((yt113.2.2.2.2.2.2.2.2.2.2.2.2.2.2.2.2.2.2.1 == p0_18) && ((yt113.2.2.2.2.2.2.2.2.2.2.2.2.2.2.2.2.2.2.2 == p0_19) && true)))))))))))))))))))) ((regs_Tick_32.f K yt16.1 yt16.2.1 yt16.2.2.1 yt16.2.2.2.1 yt16.2.2.2.2.1 yt16.2.2.2.2.2.1 yt16.2.2.2.2.2.2.1 yt16.2.2.2.2.2.2.2.1 yt16.2.2.2.2.2.2.2.2.1 yt16.2.2.2.2.2.2.2.2.2.1 yt16.2.2.2.2.2.2.2.2.2.2.1 yt16.2.2.2.2.2.2.2.2.2.2.2.1 yt16.2.2.2.2.2.2.2.2.2.2.2.2.1 yt16.2.2.2.2.2.2.2.2.2.2.2.2.2.1 yt16.2.2.2.2.2.2.2.2.2.2.2.2.2.2.1 yt16.2.2.2.2.2.2.2.2.2.2.2.2.2.2.2.1 yt16.2.2.2.2.2.2.2.2.2.2.2.2.2.2.2.2.1 yt16.2.2.2.2.2.2.2.2.2.2.2.2.2.2.2.2.2.1 yt16.2.2.2.2.2.2.2.2.2.2.2.2.2.2.2.2.2.2.1 yt16.2.2.2.2.2.2.2.2.2.2.2.2.2.2.2.2.2.2.2 (band .i64 p2 65535)).bind fun yt135 => (regs_Tick_32.f K p0_0 p0_1 p0_2 p0_3 p0_4 p0_5 p0_6 p0_7 p0_8 p0_9 p0_10 p0_11 p0_12 p0_13 p0_14 p0_15 p0_16 p0_17 p0_18 p0_19 (IntKind.wrap .i64 ((band .i64 p1 65535) + (band .i64 p2 65535)))).bind fun yt156 => cond ((yt135.1 == yt156.1) && ((yt135.2.1 == yt156.2.1) && ((yt135.2.2.1 == yt156.2.2.1) && ((yt135.2.2.2.1 == yt156.2.2.2.1) && ((yt135.2.2.2.2.1 == yt156.2.2.2.2.1) && ((yt135.2.2.2.2.2.1 == yt156.2.2.2.2.2.1) && ((yt135.2.2.2.2.2.2.1 == yt156.2.2.2.2.2.2.1) && ((yt135.2.2.2.2.2.2.2.1 == yt156.2.2.2.2.2.2.2.1) && ((yt135.2.2.2.2.2.2.2.2.1 == yt156.2.2.2.2.2.2.2.2.1) && ((yt135.2.2.2.2.2.2.2.2.2.1 == yt156.2.2.2.2.2.2.2.2.2.1) && ((yt135.2.2.2.2.2.2.2.2.2.2.1 == yt156.2.2.2.2.2.2.2.2.2.2.1) && ((yt135.2.2.2.2.2.2.2.2.2.2.2.1 == yt156.2.2.2.2.2.2.2.2.2.2.2.1) && ((yt135.2.2.2.2.2.2.2.2.2.2.2.2.1 == yt156.2.2.2.2.2.2.2.2.2.2.2.2.1) && ((yt135.2.2.2.2.2.2.2.2.2.2.2.2.2.1 == yt156.2.2.2.2.2.2.2.2.2.2.2.2.2.1) && ((yt135.2.2.2.2.2.2.2.2.2.2.2.2.2.2.1 == yt156.2.2.2.2.2.2.2.2.2.2.2.2.2.2.1) && ((yt135.2.2.2.2.2.2.2.2.2.2.2.2.2.2.2.1 == yt156.2.2.2.2.2.2.2.2.2.2.2.2.2.2.2.1) && ((yt135.2.2.2.2.2.2.2.2.2.2.2.2.2.2.2.2.1 == yt156.2.2.2.2.2.2.2.2.2.2.2.2.2.2.2.2.1) && ((yt135.2.2.2.2.2.2.2.2.2.2.2.2.2.2.2.2.2.1 == yt156.2.2.2.2.2.2.2.2.2.2.2.2.2.2.2.2.2.1) && ((yt135.2.2.2.2.2.2.2.2.2.2.2.2.2.2.2.2.2.2.1 == yt156.2.2.2.2.2.2.2.2.2.2.2.2.2.2.2.2.2.2.1) && ((yt135.2.2.2.2.2.2.2.2.2.2.2.2.2.2.2.2.2.2.2 == yt156.2.2.2.2.2.2.2.2.2.2.2.2.2.2.2.2.2.2.2) && true)))))))))))))))))))) (cond ((band .u8 (bxor .u8 yt16.2.2.2.2.2.2.2.2.2.2.2.2.2.2.1 p0_14) 128) == 0) ((regs_Tick_32.f K yt16.1 yt16.2.1 yt16.2.2.1 yt16.2.2.2.1 yt16.2.2.2.2.1 yt16.2.2.2.2.2.1 yt16.2.2.2.2.2.2.1 yt16.2.2.2.2.2.2.2.1 yt16.2.2.2.2.2.2.2.2.1 yt16.2.2.2.2.2.2.2.2.2.1 yt16.2.2.2.2.2.2.2.2.2.2.1 yt16.2.2.2.2.2.2.2.2.2.2.2.1 yt16.2.2.2.2.2.2.2.2.2.2.2.2.1 yt16.2.2.2.2.2.2.2.2.2.2.2.2.2.1 yt16.2.2.2.2.2.2.2.2.2.2.2.2.2.2.1 yt16.2.2.2.2.2.2.2.2.2.2.2.2.2.2.2.1 yt16.2.2.2.2.2.2.2.2.2.2.2.2.2.2.2.2.1 yt16.2.2.2.2.2.2.2.2.2.2.2.2.2.2.2.2.2.1 yt16.2.2.2.2.2.2.2.2.2.2.2.2.2.2.2.2.2.2.1 yt16.2.2.2.2.2.2.2.2.2.2.2.2.2.2.2.2.2.2.2 (IntKind.wrap .i64 (0 - (band .i64 p1 65535)))).bind fun yt179 => cond ((yt179.1 == p0_0) && ((yt179.2.1 == p0_1) && ((yt179.2.2.1 == p0_2) && ((yt179.2.2.2.1 == p0_3) && ((yt179.2.2.2.2.1 == p0_4) && ((yt179.2.2.2.2.2.1 == p0_5) && ((yt179.2.2.2.2.2.2.1 == p0_6) && ((yt179.2.2.2.2.2.2.2.1 == p0_7) && ((yt179.2.2.2.2.2.2.2.2.1 == p0_8) && ((yt179.2.2.2.2.2.2.2.2.2.1 == p0_9) && ((yt179.2.2.2.2.2.2.2.2.2.2.1 == p0_10) && ((yt179.2.2.2.2.2.2.2.2.2.2.2.1 == p0_11) && ((yt179.2.2.2.2.2.2.2.2.2.2.2.2.1 == p0_12) && ((yt179.2.2.2.2.2.2.2.2.2.2.2.2.2.1 == p0_13) && ((yt179.2.2.2.2.2.2.2.2.2.2.2.2.2.2.1 == p0_14) && ((yt179.2.2.2.2.2.2.2.2.2.2.2.2.2.2.2.1 == p0_15) && ((yt179.2.2.2.2.2.2.2.2.2.2.2.2.2.2.2.2.1 == p0_16) && ((yt179.2.2.2.2.2.2.2.2.2.2.2.2.2.2.2.2.2.1 == p0_17) && ((yt179.2.2.2.2.2.2.2.2.2.2.2.2.2.2.2.2.2.2.1 == p0_18) && ((yt179.2.2.2.2.2.2.2.2.2.2.2.2.2.2.2.2.2.2.2 == p0_19) && true)))))))))))))))))))) ((regs_Reset_34.f K p0_0 p0_1 p0_2 p0_3 p0_4 p0_5 p0_6 p0_7 p0_8 p0_9 p0_10 p0_11 p0_12 p0_13 p0_14 p0_15 p0_16 p0_17 p0_18 p0_19).bind fun yt201 => (regs_Reset_34.f K yt201.1 yt201.2.1 yt201.2.2.1 yt201.2.2.2.1 yt201.2.2.2.2.1 yt201.2.2.2.2.2.1 yt201.2.2.2.2.2.2.1 yt201.2.2.2.2.2.2.2.1 yt201.2.2.2.2.2.2.2.2.1 yt201.2.2.2.2.2.2.2.2.2.1 yt201.2.2.2.2.2.2.2.2.2.2.1 yt201.2.2.2.2.2.2.2.2.2.2.2.1 yt201.2.2.2.2.2.2.2.2.2.2.2.2.1 yt201.2.2.2.2.2.2.2.2.2.2.2.2.2.1 yt201.2.2.2.2.2.2.2.2.2.2.2.2.2.2.1 yt201.2.2.2.2.2.2.2.2.2.2.2.2.2.2.2.1 yt201.2.2.2.2.2.2.2.2.2.2.2.2.2.2.2.2.1 yt201.2.2.2.2.2.2.2.2.2.2.2.2.2.2.2.2.2.1 yt201.2.2.2.2.2.2.2.2.2.2.2.2.2.2.2.2.2.2.1 yt201.2.2.2.2.2.2.2.2.2.2.2.2.2.2.2.2.2.2.2).bind fun yt222 => (regs_Reset_34.f K p0_0 p0_1 p0_2 p0_3 p0_4 p0_5 p0_6 p0_7 p0_8 p0_9 p0_10 p0_11 p0_12 p0_13 p0_14 p0_15 p0_16 p0_17 p0_18 p0_19).bind fun yt243 => cond ((yt222.1 == yt243.1) && ((yt222.2.1 == yt243.2.1) && ((yt222.2.2.1 == yt243.2.2.1) && ((yt222.2.2.2.1 == yt243.2.2.2.1) && ((yt222.2.2.2.2.1 == yt243.2.2.2.2.1) && ((yt222.2.2.2.2.2.1 == yt243.2.2.2.2.2.1) && ((yt222.2.2.2.2.2.2.1 == yt243.2.2.2.2.2.2.1) && ((yt222.2.2.2.2.2.2.2.1 == yt243.2.2.2.2.2.2.2.1) && ((yt222.2.2.2.2.2.2.2.2.1 == yt243.2.2.2.2.2.2.2.2.1) && ((yt222.2.2.2.2.2.2.2.2.2.1 == yt243.2.2.2.2.2.2.2.2.2.1) && ((yt222.2.2.2.2.2.2.2.2.2.2.1 == yt243.2.2.2.2.2.2.2.2.2.2.1) && ((yt222.2.2.2.2.2.2.2.2.2.2.2.1 == yt243.2.2.2.2.2.2.2.2.2.2.2.1) && ((yt222.2.2.2.2.2.2.2.2.2.2.2.2.1 == yt243.2.2.2.2.2.2.2.2.2.2.2.2.1) && ((yt222.2.2.2.2.2.2.2.2.2.2.2.2.2.1 == yt243.2.2.2.2.2.2.2.2.2.2.2.2.2.1) && ((yt222.2.2.2.2.2.2.2.2.2.2.2.2.2.2.1 == yt243.2.2.2.2.2.2.2.2.2.2.2.2.2.2.1) && ((yt222.2.2.2.2.2.2.2.2.2.2.2.2.2.2.2.1 == yt243.2.2.2.2.2.2.2.2.2.2.2.2.2.2.2.1) && ((yt222.2.2.2.2.2.2.2.2.2.2.2.2.2.2.2.2.1 == yt243.2.2.2.2.2.2.2.2.2.2.2.2.2.2.2.2.1) && ((yt222.2.2.2.2.2.2.2.2.2.2.2.2.2.2.2.2.2.1 == yt243.2.2.2.2.2.2.2.2.2.2.2.2.2.2.2.2.2.1) && ((yt222.2.2.2.2.2.2.2.2.2.2.2.2.2.2.2.2.2.2.1 == yt243.2.2.2.2.2.2.2.2.2.2.2.2.2.2.2.2.2.2.1) && ((yt222.2.2.2.2.2.2.2.2.2.2.2.2.2.2.2.2.2.2.2 == yt243.2.2.2.2.2.2.2.2.2.2.2.2.2.2.2.2.2.2.2) && true)))))))))))))))))))) ((regs_Swap_30.f K p0_0 p0_1 p0_2 p0_3 p0_4 p0_5 p0_6 p0_7 p0_8 p0_9 p0_10 p0_11 p0_12 p0_13 p0_14 p0_15 p0_16 p0_17 p0_18 p0_19).bind fun yt265 => (regs_Exx_28.f K yt265.1 yt265.2.1 yt265.2.2.1 yt265.2.2.2.1 yt265.2.2.2.2.1 yt265.2.2.2.2.2.1 yt265.2.2.2.2.2.2.1 yt265.2.2.2.2.2.2.2.1 yt265.2.2.2.2.2.2.2.2.1 yt265.2.2.2.2.2.2.2.2.2.1 yt265.2.2.2.2.2.2.2.2.2.2.1 yt265.2.2.2.2.2.2.2.2.2.2.2.1 yt265.2.2.2.2.2.2.2.2.2.2.2.2.1 yt265.2.2.2.2.2.2.2.2.2.2.2.2.2.1 yt265.2.2.2.2.2.2.2.2.2.2.2.2.2.2.1 yt265.2.2.2.2.2.2.2.2.2.2.2.2.2.2.2.1 yt265.2.2.2.2.2.2.2.2.2.2.2.2.2.2.2.2.1 yt265.2.2.2.2.2.2.2.2.2.2.2.2.2.2.2.2.2.1 yt265.2.2.2.2.2.2.2.2.2.2.2.2.2.2.2.2.2.2.1 yt265.2.2.2.2.2.2.2.2.2.2.2.2.2.2.2.2.2.2.2).bind fun yt286 => (regs_Exx_28.f K p0_0 p0_1 p0_2 p0_3 p0_4 p0_5 p0_6 p0_7 p0_8 p0_9 p0_10 p0_11 p0_12 p0_13 p0_14 p0_15 p0_16 p0_17 p0_18 p0_19).bind fun yt307 => (regs_Swap_30.f K yt307.1 yt307.2.1 yt307.2.2.1 yt307.2.2.2.1 yt307.2.2.2.2.1 yt307.2.2.2.2.2.1 yt307.2.2.2.2.2.2.1 yt307.2.2.2.2.2.2.2.1 yt307.2.2.2.2.2.2.2.2.1 yt307.2.2.2.2.2.2.2.2.2.1 yt307.2.2.2.2.2.2.2.2.2.2.1 yt307.2.2.2.2.2.2.2.2.2.2.2.1 yt307.2.2.2.2.2.2.2.2.2.2.2.2.1 yt307.2.2.2.2.2.2.2.2.2.2.2.2.2.1 yt307.2.2.2.2.2.2.2.2.2.2.2.2.2.2.1 yt307.2.2.2.2.2.2.2.2.2.2.2.2.2.2.2.1 yt307.2.2.2.2.2.2.2.2.2.2.2.2.2.2.2.2.1 yt307.2.2.2.2.2.2.2.2.2.2.2.2.2.2.2.2.2.1 yt307.2.2.2.2.2.2.2.2.2.2.2.2.2.2.2.2.2.2.1 yt307.2.2.2.2.2.2.2.2.2.2.2.2.2.2.2.2.2.2.2).bind fun yt328 => some ((yt286.1 == yt328.1) && ((yt286.2.1 == yt328.2.1) && ((yt286.2.2.1 == yt328.2.2.1) && ((yt286.2.2.2.1 == yt328.2.2.2.1) && ((yt286.2.2.2.2.1 == yt328.2.2.2.2.1) && ((yt286.2.2.2.2.2.1 == yt328.2.2.2.2.2.1) && ((yt286.2.2.2.2.2.2.1 == yt328.2.2.2.2.2.2.1) && ((yt286.2.2.2.2.2.2.2.1 == yt328.2.2.2.2.2.2.2.1) && ((yt286.2.2.2.2.2.2.2.2.1 == yt328.2.2.2.2.2.2.2.2.1) && ((yt286.2.2.2.2.2.2.2.2.2.1 == yt328.2.2.2.2.2.2.2.2.2.1) && ((yt286.2.2.2.2.2.2.2.2.2.2.1 == yt328.2.2.2.2.2.2.2.2.2.2.1) && ((yt286.2.2.2.2.2.2.2.2.2.2.2.1 == yt328.2.2.2.2.2.2.2.2.2.2.2.1) && ((yt286.2.2.2.2.2.2.2.2.2.2.2.2.1 == yt328.2.2.2.2.2.2.2.2.2.2.2.2.1) && ((yt286.2.2.2.2.2.2.2.2.2.2.2.2.2.1 == yt328.2.2.2.2.2.2.2.2.2.2.2.2.2.1) && ((yt286.2.2.2.2.2.2.2.2.2.2.2.2.2.2.1 == yt328.2.2.2.2.2.2.2.2.2.2.2.2.2.2.1) && ((yt286.2.2.2.2.2.2.2.2.2.2.2.2.2.2.2.1 == yt328.2.2.2.2.2.2.2.2.2.2.2.2.2.2.2.1) && ((yt286.2.2.2.2.2.2.2.2.2.2.2.2.2.2.2.2.1 == yt328.2.2.2.2.2.2.2.2.2.2.2.2.2.2.2.2.1) && ((yt286.2.2.2.2.2.2.2.2.2.2.2.2.2.2.2.2.2.1 == yt328.2.2.2.2.2.2.2.2.2.2.2.2.2.2.2.2.2.1) && ((yt286.2.2.2.2.2.2.2.2.2.2.2.2.2.2.2.2.2.2.1 == yt328.2.2.2.2.2.2.2.2.2.2.2.2.2.2.2.2.2.2.1) && ((yt286.2.2.2.2.2.2.2.2.2.2.2.2.2.2.2.2.2.2.2 == yt328.2.2.2.2.2.2.2.2.2.2.2.2.2.2.2.2.2.2.2) && true))))))))))))))))))))) (some false)) (some false)) (some false)) (some false)) (some false)) (some false))
set_option maxRecDepth 100000 in
theorem charabanclaw11_RegsTurned_9_ok (K : Nat) (M0 : Nat → Prop) (w0 : World) (p0_0 : Int) (p0_1 : Int) (p0_2 : Int) (p0_3 : Int) (p0_4 : Int) (p0_5 : Int) (p0_6 : Int) (p0_7 : Int) (p0_8 : Int) (p0_9 : Int) (p0_10 : Int) (p0_11 : Int) (p0_12 : Int) (p0_13 : Int) (p0_14 : Int) (p0_15 : Bool) (p0_16 : Bool) (p0_17 : Bool) (p0_18 : Bool) (p0_19 : Int) (p1 : Int) (p2 : Int) (ho : ∀ b, M0 b → b < w0.heap.size) (hG2 : (gl 2 (tab_2.flatMap en_2)).ok w0 M0) (hG4 : (gl 4 (tab_4.flatMap en_4)).ok w0 M0) (hG5 : (gl 5 (tab_5.flatMap en_5)).ok w0 M0) {r : Bool} (h : charabanclaw11_RegsTurned_9.f K p0_0 p0_1 p0_2 p0_3 p0_4 p0_5 p0_6 p0_7 p0_8 p0_9 p0_10 p0_11 p0_12 p0_13 p0_14 p0_15 p0_16 p0_17 p0_18 p0_19 p1 p2 = some r) :
    Calls Tryd.prog 9 #[.agg #[.int .u16 p0_0, .int .u16 p0_1, .int .u16 p0_2, .int .u16 p0_3, .int .u16 p0_4, .int .u16 p0_5, .int .u16 p0_6, .int .u16 p0_7, .int .u16 p0_8, .int .u16 p0_9, .int .u16 p0_10, .int .u16 p0_11, .int .u16 p0_12, .int .u8 p0_13, .int .u8 p0_14, .bool p0_15, .bool p0_16, .bool p0_17, .bool p0_18, .int .i64 p0_19], .int .i64 p1, .int .i64 p2] w0 (charabanclaw11_RegsTurned_9.post M0 w0 r) := by
  unfold charabanclaw11_RegsTurned_9.f at h
  have h0 : Holds M0 w0 w0 [] := Holds.start ho
  have h0g2 := h0.add (gl 2 (tab_2.flatMap en_2)) rfl ⟨hG2.1, fun hm => hG2.2.1 (hm.elim id (fun hm => absurd hm (by simp [mines, sl, gl]))), hG2.2.2⟩
  have h0g4 := h0g2.add (gl 4 (tab_4.flatMap en_4)) rfl ⟨hG4.1, fun hm => hG4.2.1 (hm.elim id (fun hm => absurd hm (by simp [mines, sl, gl]))), hG4.2.2⟩
  have h0g5 := h0g4.add (gl 5 (tab_5.flatMap en_5)) rfl ⟨hG5.1, fun hm => hG5.2.1 (hm.elim id (fun hm => absurd hm (by simp [mines, sl, gl]))), hG5.2.2⟩
  have h0 : Holds M0 w0 w0 [gl 2 (tab_2.flatMap en_2), gl 4 (tab_4.flatMap en_4), gl 5 (tab_5.flatMap en_5)] := h0g5
  refine calls_of F9 rfl [.agg #[.int .u16 p0_0, .int .u16 p0_1, .int .u16 p0_2, .int .u16 p0_3, .int .u16 p0_4, .int .u16 p0_5, .int .u16 p0_6, .int .u16 p0_7, .int .u16 p0_8, .int .u16 p0_9, .int .u16 p0_10, .int .u16 p0_11, .int .u16 p0_12, .int .u8 p0_13, .int .u8 p0_14, .bool p0_15, .bool p0_16, .bool p0_17, .bool p0_18, .int .i64 p0_19], .int .i64 p1, .int .i64 p2] (by kernel_rfl) ?_
  refine RunsI.go 1 [.c 1, .c 2] (by kernel_rfl) ?_
  refine RunsI.region (by kernel_rfl) ?_
  refine RegI.op (by kernel_rfl) (OpE.box 3 46 [.int .u16 p0_0, .int .u16 p0_1, .int .u16 p0_2, .int .u16 p0_3, .int .u16 p0_4, .int .u16 p0_5, .int .u16 p0_6, .int .u16 p0_7, .int .u16 p0_8, .int .u16 p0_9, .int .u16 p0_10, .int .u16 p0_11, .int .u16 p0_12, .int .u8 p0_13, .int .u8 p0_14, .bool p0_15, .bool p0_16, .bool p0_17, .bool p0_18, .int .i64 p0_19] h0 (by kernel_rfl) (by kernel_rfl) ?_)
  intro w1 b2 h3 hb4 hn5
  refine RegI.pure 1 [1, 2, 3] [(1, .int .i64 p1), (2, .int .i64 p2), (3, .pointer (some ⟨b2, 0, none⟩))] (by kernel_rfl) ?_
  refine RegI.done (by kernel_rfl) ?_
  refine RunsI.go 1 [.c 3, .c 4] (by kernel_rfl) ?_
  refine RunsI.region (by kernel_rfl) ?_
  obtain ⟨t10, hg9, h⟩ := of_bind h
  refine RegI.op (by kernel_rfl) (OpE.call 11 (by kernel_rfl) 23 #[] (by kernel_rfl) ((charabanclaw11_awake_23_ok K _ w1  h3.old' (h3.get 0 rfl) (h3.get 1 rfl) (h3.get 2 rfl) hg9).mono ?_))
  rintro _ w6 ⟨rfl, hb7⟩
  refine ⟨_, rfl, ?_⟩
  have h8 := h3.call hb7
  refine RegI.pure 1 [1, 2, 3, 7] [(1, .int .i64 p1), (2, .int .i64 p2), (3, .pointer (some ⟨b2, 0, none⟩)), (7, .bool t10)] (by kernel_rfl) ?_
  refine RegI.done (by kernel_rfl) ?_
  refine RunsI.go 2 [.c 6, .c 7, .c 12] (by kernel_rfl) ?_
  refine RunsI.region (by kernel_rfl) ?_
  refine RegI.pure 2 [1, 2, 3, 13] [(1, .int .i64 p1), (2, .int .i64 p2), (3, .pointer (some ⟨b2, 0, none⟩)), (13, .bool (!t10))] (by kernel_rfl) ?_
  refine RegI.done (by kernel_rfl) ?_
  rcases of_cond h with ⟨hc11, h⟩ | ⟨hc11, h⟩
  · skip
    refine RunsI.fix 13 true hc11 (by kernel_rfl) (by kernel_rfl) ?_
    refine RunsI.cond true 8 (by kernel_rfl) ?_
    refine RunsI.go 1 [.c 9, .c 10, .c 12] (by kernel_rfl) ?_
    refine RunsI.region (by kernel_rfl) ?_
    refine RegI.pure 1 [6] [(6, .bool false)] (by kernel_rfl) ?_
    refine RegI.done (by kernel_rfl) ?_
    refine RunsI.ret (.bool false) (by kernel_rfl) (by kernel_rfl) ?_
    obtain rfl := Option.some.inj h
    exact ⟨rfl, h8.below⟩
  · skip
    refine RunsI.fix 13 false hc11 (by kernel_rfl) (by kernel_rfl) ?_
    refine RunsI.cond false 11 (by kernel_rfl) ?_
    refine RunsI.go 1 [.c 12] (by kernel_rfl) ?_
    refine RunsI.go 1 [.c 13, .c 14] (by kernel_rfl) ?_
    refine RunsI.region (by kernel_rfl) ?_
    refine RegI.pure 3 [2, 3, 8] [(2, .int .i64 p2), (3, .pointer (some ⟨b2, 0, none⟩)), (8, .int .i64 (band .i64 p1 65535))] (by kernel_rfl) ?_
    refine RegI.done (by kernel_rfl) ?_
    refine RunsI.go 1 [.c 15, .c 16] (by kernel_rfl) ?_
    refine RunsI.region (by kernel_rfl) ?_
    refine RegI.pure 3 [3, 8, 9] [(3, .pointer (some ⟨b2, 0, none⟩)), (8, .int .i64 (band .i64 p1 65535)), (9, .int .i64 (band .i64 p2 65535))] (by kernel_rfl) ?_
    refine RegI.done (by kernel_rfl) ?_
    refine RunsI.go 1 [.c 17, .c 18] (by kernel_rfl) ?_
    refine RunsI.region (by kernel_rfl) ?_
    refine RegI.op (by kernel_rfl) (OpE.loadBox 18 3 46 b2 0 (.agg #[.int .u16 p0_0, .int .u16 p0_1, .int .u16 p0_2, .int .u16 p0_3, .int .u16 p0_4, .int .u16 p0_5, .int .u16 p0_6, .int .u16 p0_7, .int .u16 p0_8, .int .u16 p0_9, .int .u16 p0_10, .int .u16 p0_11, .int .u16 p0_12, .int .u8 p0_13, .int .u8 p0_14, .bool p0_15, .bool p0_16, .bool p0_17, .bool p0_18, .int .i64 p0_19]) h8 (by kernel_rfl) (by kernel_rfl) rfl (by kernel_rfl) ?_)
    refine RegI.pure 1 [3, 8, 9, 18, 19] [(3, .pointer (some ⟨b2, 0, none⟩)), (8, .int .i64 (band .i64 p1 65535)), (9, .int .i64 (band .i64 p2 65535)), (18, .agg #[.int .u16 p0_0, .int .u16 p0_1, .int .u16 p0_2, .int .u16 p0_3, .int .u16 p0_4, .int .u16 p0_5, .int .u16 p0_6, .int .u16 p0_7, .int .u16 p0_8, .int .u16 p0_9, .int .u16 p0_10, .int .u16 p0_11, .int .u16 p0_12, .int .u8 p0_13, .int .u8 p0_14, .bool p0_15, .bool p0_16, .bool p0_17, .bool p0_18, .int .i64 p0_19]), (19, .int .i64 (band .i64 p1 65535))] (by kernel_rfl) ?_
    obtain ⟨⟨t16, t17, t18, t19, t20, t21, t22, t23, t24, t25, t26, t27, t28, t29, t30, t31, t32, t33, t34, t35⟩, hg15, h⟩ := of_bind h
    dsimp only at h
    refine RegI.op (by kernel_rfl) (OpE.call 20 (by kernel_rfl) 32 #[.agg #[.int .u16 p0_0, .int .u16 p0_1, .int .u16 p0_2, .int .u16 p0_3, .int .u16 p0_4, .int .u16 p0_5, .int .u16 p0_6, .int .u16 p0_7, .int .u16 p0_8, .int .u16 p0_9, .int .u16 p0_10, .int .u16 p0_11, .int .u16 p0_12, .int .u8 p0_13, .int .u8 p0_14, .bool p0_15, .bool p0_16, .bool p0_17, .bool p0_18, .int .i64 p0_19], .int .i64 (band .i64 p1 65535)] (by kernel_rfl) ((regs_Tick_32_ok K _ w6  p0_0 p0_1 p0_2 p0_3 p0_4 p0_5 p0_6 p0_7 p0_8 p0_9 p0_10 p0_11 p0_12 p0_13 p0_14 p0_15 p0_16 p0_17 p0_18 p0_19 (band .i64 p1 65535) h8.old' hg15).mono ?_))
    rintro _ w12 ⟨rfl, hb13⟩
    refine ⟨_, rfl, ?_⟩
    have h14 := h8.call hb13
    refine RegI.op (by kernel_rfl) (OpE.box 10 46 [.int .u16 0, .int .u16 0, .int .u16 0, .int .u16 0, .int .u16 0, .int .u16 0, .int .u16 0, .int .u16 0, .int .u16 0, .int .u16 0, .int .u16 0, .int .u16 0, .int .u16 0, .int .u8 0, .int .u8 0, .bool false, .bool false, .bool false, .bool false, .int .i64 0] h14 (by kernel_rfl) (by kernel_rfl) ?_)
    intro w36 b37 h38 hb39 hn40
    refine RegI.op (by kernel_rfl) (OpE.storeBox 4 46 b37 0 (.agg #[.int .u16 t16, .int .u16 t17, .int .u16 t18, .int .u16 t19, .int .u16 t20, .int .u16 t21, .int .u16 t22, .int .u16 t23, .int .u16 t24, .int .u16 t25, .int .u16 t26, .int .u16 t27, .int .u16 t28, .int .u8 t29, .int .u8 t30, .bool t31, .bool t32, .bool t33, .bool t34, .int .i64 t35]) [.int .u16 t16, .int .u16 t17, .int .u16 t18, .int .u16 t19, .int .u16 t20, .int .u16 t21, .int .u16 t22, .int .u16 t23, .int .u16 t24, .int .u16 t25, .int .u16 t26, .int .u16 t27, .int .u16 t28, .int .u8 t29, .int .u8 t30, .bool t31, .bool t32, .bool t33, .bool t34, .int .i64 t35] h38 (by kernel_rfl) (by kernel_rfl) rfl (by kernel_rfl) (by kernel_rfl) (by kernel_rfl) ?_)
    intro w41 h42 hk43
    refine RegI.done (by kernel_rfl) ?_
    refine RunsI.go 1 [.c 19, .c 20] (by kernel_rfl) ?_
    refine RunsI.any 58 (by kernel_rfl) (by kernel_rfl) (by kernel_rfl) (Kp ([] : List Nat) (World.drew w41)) ?_
    have h45 := h42.drew
    generalize World.drew w41 = w44 at h45 ⊢
    have hS46 := Kp.refl ([] : List Nat) w44
    refine AnyE.loadBox 0 21 3 46 b2 0 (.agg #[.int .u16 p0_0, .int .u16 p0_1, .int .u16 p0_2, .int .u16 p0_3, .int .u16 p0_4, .int .u16 p0_5, .int .u16 p0_6, .int .u16 p0_7, .int .u16 p0_8, .int .u16 p0_9, .int .u16 p0_10, .int .u16 p0_11, .int .u16 p0_12, .int .u8 p0_13, .int .u8 p0_14, .bool p0_15, .bool p0_16, .bool p0_17, .bool p0_18, .int .i64 p0_19]) [] h45 rfl (by kernel_rfl) hS46 rfl rfl (by kernel_rfl) (by kernel_rfl) ?_
    obtain ⟨⟨t49, t50, t51, t52, t53, t54, t55, t56, t57, t58, t59, t60, t61, t62, t63, t64, t65, t66, t67, t68⟩, hg48, h⟩ := of_bind h
    dsimp only at h
    refine AnyE.call 1 22 (.agg #[.int .u16 t49, .int .u16 t50, .int .u16 t51, .int .u16 t52, .int .u16 t53, .int .u16 t54, .int .u16 t55, .int .u16 t56, .int .u16 t57, .int .u16 t58, .int .u16 t59, .int .u16 t60, .int .u16 t61, .int .u8 t62, .int .u8 t63, .bool t64, .bool t65, .bool t66, .bool t67, .int .i64 t68]) 28 #[.agg #[.int .u16 p0_0, .int .u16 p0_1, .int .u16 p0_2, .int .u16 p0_3, .int .u16 p0_4, .int .u16 p0_5, .int .u16 p0_6, .int .u16 p0_7, .int .u16 p0_8, .int .u16 p0_9, .int .u16 p0_10, .int .u16 p0_11, .int .u16 p0_12, .int .u8 p0_13, .int .u8 p0_14, .bool p0_15, .bool p0_16, .bool p0_17, .bool p0_18, .int .i64 p0_19]] (by kernel_rfl) hS46 (fun _ => by kernel_rfl) (fun w hk => regs_Exx_28_ok K (fun _ => False) w p0_0 p0_1 p0_2 p0_3 p0_4 p0_5 p0_6 p0_7 p0_8 p0_9 p0_10 p0_11 p0_12 p0_13 p0_14 p0_15 p0_16 p0_17 p0_18 p0_19 (fun _ hf => hf.elim) hg48) ?_
    obtain ⟨⟨t70, t71, t72, t73, t74, t75, t76, t77, t78, t79, t80, t81, t82, t83, t84, t85, t86, t87, t88, t89⟩, hg69, h⟩ := of_bind h
    dsimp only at h
    refine AnyE.call 2 23 (.agg #[.int .u16 t70, .int .u16 t71, .int .u16 t72, .int .u16 t73, .int .u16 t74, .int .u16 t75, .int .u16 t76, .int .u16 t77, .int .u16 t78, .int .u16 t79, .int .u16 t80, .int .u16 t81, .int .u16 t82, .int .u8 t83, .int .u8 t84, .bool t85, .bool t86, .bool t87, .bool t88, .int .i64 t89]) 28 #[.agg #[.int .u16 t49, .int .u16 t50, .int .u16 t51, .int .u16 t52, .int .u16 t53, .int .u16 t54, .int .u16 t55, .int .u16 t56, .int .u16 t57, .int .u16 t58, .int .u16 t59, .int .u16 t60, .int .u16 t61, .int .u8 t62, .int .u8 t63, .bool t64, .bool t65, .bool t66, .bool t67, .int .i64 t68]] (by kernel_rfl) hS46 (fun _ => by kernel_rfl) (fun w hk => regs_Exx_28_ok K (fun _ => False) w t49 t50 t51 t52 t53 t54 t55 t56 t57 t58 t59 t60 t61 t62 t63 t64 t65 t66 t67 t68 (fun _ hf => hf.elim) hg69) ?_
    refine AnyE.loadBox 3 24 3 46 b2 0 (.agg #[.int .u16 p0_0, .int .u16 p0_1, .int .u16 p0_2, .int .u16 p0_3, .int .u16 p0_4, .int .u16 p0_5, .int .u16 p0_6, .int .u16 p0_7, .int .u16 p0_8, .int .u16 p0_9, .int .u16 p0_10, .int .u16 p0_11, .int .u16 p0_12, .int .u8 p0_13, .int .u8 p0_14, .bool p0_15, .bool p0_16, .bool p0_17, .bool p0_18, .int .i64 p0_19]) [] h45 rfl (by kernel_rfl) hS46 rfl rfl (by kernel_rfl) (by kernel_rfl) ?_
    refine AnyE.run 4 25 (.bool ((t70 == p0_0) && ((t71 == p0_1) && ((t72 == p0_2) && ((t73 == p0_3) && ((t74 == p0_4) && ((t75 == p0_5) && ((t76 == p0_6) && ((t77 == p0_7) && ((t78 == p0_8) && ((t79 == p0_9) && ((t80 == p0_10) && ((t81 == p0_11) && ((t82 == p0_12) && ((t83 == p0_13) && ((t84 == p0_14) && ((t85 == p0_15) && ((t86 == p0_16) && ((t87 == p0_17) && ((t88 == p0_18) && ((t89 == p0_19) && true))))))))))))))))))))) (by kernel_rfl) hS46 (fun _ hk => run_eqS (neg := false) (t := 46) (x := .agg #[.int .u16 t70, .int .u16 t71, .int .u16 t72, .int .u16 t73, .int .u16 t74, .int .u16 t75, .int .u16 t76, .int .u16 t77, .int .u16 t78, .int .u16 t79, .int .u16 t80, .int .u16 t81, .int .u16 t82, .int .u8 t83, .int .u8 t84, .bool t85, .bool t86, .bool t87, .bool t88, .int .i64 t89]) (y := .agg #[.int .u16 p0_0, .int .u16 p0_1, .int .u16 p0_2, .int .u16 p0_3, .int .u16 p0_4, .int .u16 p0_5, .int .u16 p0_6, .int .u16 p0_7, .int .u16 p0_8, .int .u16 p0_9, .int .u16 p0_10, .int .u16 p0_11, .int .u16 p0_12, .int .u8 p0_13, .int .u8 p0_14, .bool p0_15, .bool p0_16, .bool p0_17, .bool p0_18, .int .i64 p0_19]) (b := ((t70 == p0_0) && ((t71 == p0_1) && ((t72 == p0_2) && ((t73 == p0_3) && ((t74 == p0_4) && ((t75 == p0_5) && ((t76 == p0_6) && ((t77 == p0_7) && ((t78 == p0_8) && ((t79 == p0_9) && ((t80 == p0_10) && ((t81 == p0_11) && ((t82 == p0_12) && ((t83 == p0_13) && ((t84 == p0_14) && ((t85 == p0_15) && ((t86 == p0_16) && ((t87 == p0_17) && ((t88 == p0_18) && ((t89 == p0_19) && true))))))))))))))))))))) (by kernel_rfl) (by kernel_rfl) (by kernel_rfl) (by kernel_rfl)) ?_
    refine AnyE.pure 5 26 (.bool ((t70 == p0_0) && ((t71 == p0_1) && ((t72 == p0_2) && ((t73 == p0_3) && ((t74 == p0_4) && ((t75 == p0_5) && ((t76 == p0_6) && ((t77 == p0_7) && ((t78 == p0_8) && ((t79 == p0_9) && ((t80 == p0_10) && ((t81 == p0_11) && ((t82 == p0_12) && ((t83 == p0_13) && ((t84 == p0_14) && ((t85 == p0_15) && ((t86 == p0_16) && ((t87 == p0_17) && ((t88 == p0_18) && ((t89 == p0_19) && true))))))))))))))))))))) (by kernel_rfl) hS46 (fun _ => by kernel_rfl) ?_
    rcases of_cond h with ⟨hc90, h⟩ | ⟨hc90, h⟩
    · skip
      refine AnyE.fix 26 true hc90 (by kernel_rfl) (by kernel_rfl) ?_
      refine AnyE.loadBox 6 27 3 46 b2 0 (.agg #[.int .u16 p0_0, .int .u16 p0_1, .int .u16 p0_2, .int .u16 p0_3, .int .u16 p0_4, .int .u16 p0_5, .int .u16 p0_6, .int .u16 p0_7, .int .u16 p0_8, .int .u16 p0_9, .int .u16 p0_10, .int .u16 p0_11, .int .u16 p0_12, .int .u8 p0_13, .int .u8 p0_14, .bool p0_15, .bool p0_16, .bool p0_17, .bool p0_18, .int .i64 p0_19]) [] h45 rfl (by kernel_rfl) hS46 rfl rfl (by kernel_rfl) (by kernel_rfl) ?_
      obtain ⟨⟨t92, t93, t94, t95, t96, t97, t98, t99, t100, t101, t102, t103, t104, t105, t106, t107, t108, t109, t110, t111⟩, hg91, h⟩ := of_bind h
      dsimp only at h
      refine AnyE.call 7 28 (.agg #[.int .u16 t92, .int .u16 t93, .int .u16 t94, .int .u16 t95, .int .u16 t96, .int .u16 t97, .int .u16 t98, .int .u16 t99, .int .u16 t100, .int .u16 t101, .int .u16 t102, .int .u16 t103, .int .u16 t104, .int .u8 t105, .int .u8 t106, .bool t107, .bool t108, .bool t109, .bool t110, .int .i64 t111]) 30 #[.agg #[.int .u16 p0_0, .int .u16 p0_1, .int .u16 p0_2, .int .u16 p0_3, .int .u16 p0_4, .int .u16 p0_5, .int .u16 p0_6, .int .u16 p0_7, .int .u16 p0_8, .int .u16 p0_9, .int .u16 p0_10, .int .u16 p0_11, .int .u16 p0_12, .int .u8 p0_13, .int .u8 p0_14, .bool p0_15, .bool p0_16, .bool p0_17, .bool p0_18, .int .i64 p0_19]] (by kernel_rfl) hS46 (fun _ => by kernel_rfl) (fun w hk => regs_Swap_30_ok K (fun _ => False) w p0_0 p0_1 p0_2 p0_3 p0_4 p0_5 p0_6 p0_7 p0_8 p0_9 p0_10 p0_11 p0_12 p0_13 p0_14 p0_15 p0_16 p0_17 p0_18 p0_19 (fun _ hf => hf.elim) hg91) ?_
      obtain ⟨⟨t113, t114, t115, t116, t117, t118, t119, t120, t121, t122, t123, t124, t125, t126, t127, t128, t129, t130, t131, t132⟩, hg112, h⟩ := of_bind h
      dsimp only at h
      refine AnyE.call 8 29 (.agg #[.int .u16 t113, .int .u16 t114, .int .u16 t115, .int .u16 t116, .int .u16 t117, .int .u16 t118, .int .u16 t119, .int .u16 t120, .int .u16 t121, .int .u16 t122, .int .u16 t123, .int .u16 t124, .int .u16 t125, .int .u8 t126, .int .u8 t127, .bool t128, .bool t129, .bool t130, .bool t131, .int .i64 t132]) 30 #[.agg #[.int .u16 t92, .int .u16 t93, .int .u16 t94, .int .u16 t95, .int .u16 t96, .int .u16 t97, .int .u16 t98, .int .u16 t99, .int .u16 t100, .int .u16 t101, .int .u16 t102, .int .u16 t103, .int .u16 t104, .int .u8 t105, .int .u8 t106, .bool t107, .bool t108, .bool t109, .bool t110, .int .i64 t111]] (by kernel_rfl) hS46 (fun _ => by kernel_rfl) (fun w hk => regs_Swap_30_ok K (fun _ => False) w t92 t93 t94 t95 t96 t97 t98 t99 t100 t101 t102 t103 t104 t105 t106 t107 t108 t109 t110 t111 (fun _ hf => hf.elim) hg112) ?_
      refine AnyE.loadBox 9 30 3 46 b2 0 (.agg #[.int .u16 p0_0, .int .u16 p0_1, .int .u16 p0_2, .int .u16 p0_3, .int .u16 p0_4, .int .u16 p0_5, .int .u16 p0_6, .int .u16 p0_7, .int .u16 p0_8, .int .u16 p0_9, .int .u16 p0_10, .int .u16 p0_11, .int .u16 p0_12, .int .u8 p0_13, .int .u8 p0_14, .bool p0_15, .bool p0_16, .bool p0_17, .bool p0_18, .int .i64 p0_19]) [] h45 rfl (by kernel_rfl) hS46 rfl rfl (by kernel_rfl) (by kernel_rfl) ?_
      refine AnyE.run 10 31 (.bool ((t113 == p0_0) && ((t114 == p0_1) && ((t115 == p0_2) && ((t116 == p0_3) && ((t117 == p0_4) && ((t118 == p0_5) && ((t119 == p0_6) && ((t120 == p0_7) && ((t121 == p0_8) && ((t122 == p0_9) && ((t123 == p0_10) && ((t124 == p0_11) && ((t125 == p0_12) && ((t126 == p0_13) && ((t127 == p0_14) && ((t128 == p0_15) && ((t129 == p0_16) && ((t130 == p0_17) && ((t131 == p0_18) && ((t132 == p0_19) && true))))))))))))))))))))) (by kernel_rfl) hS46 (fun _ hk => run_eqS (neg := false) (t := 46) (x := .agg #[.int .u16 t113, .int .u16 t114, .int .u16 t115, .int .u16 t116, .int .u16 t117, .int .u16 t118, .int .u16 t119, .int .u16 t120, .int .u16 t121, .int .u16 t122, .int .u16 t123, .int .u16 t124, .int .u16 t125, .int .u8 t126, .int .u8 t127, .bool t128, .bool t129, .bool t130, .bool t131, .int .i64 t132]) (y := .agg #[.int .u16 p0_0, .int .u16 p0_1, .int .u16 p0_2, .int .u16 p0_3, .int .u16 p0_4, .int .u16 p0_5, .int .u16 p0_6, .int .u16 p0_7, .int .u16 p0_8, .int .u16 p0_9, .int .u16 p0_10, .int .u16 p0_11, .int .u16 p0_12, .int .u8 p0_13, .int .u8 p0_14, .bool p0_15, .bool p0_16, .bool p0_17, .bool p0_18, .int .i64 p0_19]) (b := ((t113 == p0_0) && ((t114 == p0_1) && ((t115 == p0_2) && ((t116 == p0_3) && ((t117 == p0_4) && ((t118 == p0_5) && ((t119 == p0_6) && ((t120 == p0_7) && ((t121 == p0_8) && ((t122 == p0_9) && ((t123 == p0_10) && ((t124 == p0_11) && ((t125 == p0_12) && ((t126 == p0_13) && ((t127 == p0_14) && ((t128 == p0_15) && ((t129 == p0_16) && ((t130 == p0_17) && ((t131 == p0_18) && ((t132 == p0_19) && true))))))))))))))))))))) (by kernel_rfl) (by kernel_rfl) (by kernel_rfl) (by kernel_rfl)) ?_
      refine AnyE.pure 11 32 (.bool ((t113 == p0_0) && ((t114 == p0_1) && ((t115 == p0_2) && ((t116 == p0_3) && ((t117 == p0_4) && ((t118 == p0_5) && ((t119 == p0_6) && ((t120 == p0_7) && ((t121 == p0_8) && ((t122 == p0_9) && ((t123 == p0_10) && ((t124 == p0_11) && ((t125 == p0_12) && ((t126 == p0_13) && ((t127 == p0_14) && ((t128 == p0_15) && ((t129 == p0_16) && ((t130 == p0_17) && ((t131 == p0_18) && ((t132 == p0_19) && true))))))))))))))))))))) (by kernel_rfl) hS46 (fun _ => by kernel_rfl) ?_
      refine AnyE.pure 12 33 (.bool ((t113 == p0_0) && ((t114 == p0_1) && ((t115 == p0_2) && ((t116 == p0_3) && ((t117 == p0_4) && ((t118 == p0_5) && ((t119 == p0_6) && ((t120 == p0_7) && ((t121 == p0_8) && ((t122 == p0_9) && ((t123 == p0_10) && ((t124 == p0_11) && ((t125 == p0_12) && ((t126 == p0_13) && ((t127 == p0_14) && ((t128 == p0_15) && ((t129 == p0_16) && ((t130 == p0_17) && ((t131 == p0_18) && ((t132 == p0_19) && true))))))))))))))))))))) (by kernel_rfl) hS46 (fun _ => by kernel_rfl) ?_
      rcases of_cond h with ⟨hc133, h⟩ | ⟨hc133, h⟩
      · skip
        refine AnyE.fix 33 true hc133 (by kernel_rfl) (by kernel_rfl) ?_
        refine AnyE.loadBox 13 34 4 46 b37 0 (.agg #[.int .u16 t16, .int .u16 t17, .int .u16 t18, .int .u16 t19, .int .u16 t20, .int .u16 t21, .int .u16 t22, .int .u16 t23, .int .u16 t24, .int .u16 t25, .int .u16 t26, .int .u16 t27, .int .u16 t28, .int .u8 t29, .int .u8 t30, .bool t31, .bool t32, .bool t33, .bool t34, .int .i64 t35]) [] h45 rfl (by kernel_rfl) hS46 rfl rfl (by kernel_rfl) (by kernel_rfl) ?_
        refine AnyE.pure 14 35 (.int .i64 (band .i64 p2 65535)) (by kernel_rfl) hS46 (fun _ => by kernel_rfl) ?_
        obtain ⟨⟨t135, t136, t137, t138, t139, t140, t141, t142, t143, t144, t145, t146, t147, t148, t149, t150, t151, t152, t153, t154⟩, hg134, h⟩ := of_bind h
        dsimp only at h
        refine AnyE.call 15 36 (.agg #[.int .u16 t135, .int .u16 t136, .int .u16 t137, .int .u16 t138, .int .u16 t139, .int .u16 t140, .int .u16 t141, .int .u16 t142, .int .u16 t143, .int .u16 t144, .int .u16 t145, .int .u16 t146, .int .u16 t147, .int .u8 t148, .int .u8 t149, .bool t150, .bool t151, .bool t152, .bool t153, .int .i64 t154]) 32 #[.agg #[.int .u16 t16, .int .u16 t17, .int .u16 t18, .int .u16 t19, .int .u16 t20, .int .u16 t21, .int .u16 t22, .int .u16 t23, .int .u16 t24, .int .u16 t25, .int .u16 t26, .int .u16 t27, .int .u16 t28, .int .u8 t29, .int .u8 t30, .bool t31, .bool t32, .bool t33, .bool t34, .int .i64 t35], .int .i64 (band .i64 p2 65535)] (by kernel_rfl) hS46 (fun _ => by kernel_rfl) (fun w hk => regs_Tick_32_ok K (fun _ => False) w t16 t17 t18 t19 t20 t21 t22 t23 t24 t25 t26 t27 t28 t29 t30 t31 t32 t33 t34 t35 (band .i64 p2 65535) (fun _ hf => hf.elim) hg134) ?_
        refine AnyE.loadBox 16 37 3 46 b2 0 (.agg #[.int .u16 p0_0, .int .u16 p0_1, .int .u16 p0_2, .int .u16 p0_3, .int .u16 p0_4, .int .u16 p0_5, .int .u16 p0_6, .int .u16 p0_7, .int .u16 p0_8, .int .u16 p0_9, .int .u16 p0_10, .int .u16 p0_11, .int .u16 p0_12, .int .u8 p0_13, .int .u8 p0_14, .bool p0_15, .bool p0_16, .bool p0_17, .bool p0_18, .int .i64 p0_19]) [] h45 rfl (by kernel_rfl) hS46 rfl rfl (by kernel_rfl) (by kernel_rfl) ?_
        refine AnyE.pure 17 38 (.int .i64 (band .i64 p1 65535)) (by kernel_rfl) hS46 (fun _ => by kernel_rfl) ?_
        refine AnyE.pure 18 39 (.int .i64 (band .i64 p2 65535)) (by kernel_rfl) hS46 (fun _ => by kernel_rfl) ?_
        refine AnyE.pure 19 40 (.int .i64 (IntKind.wrap .i64 ((band .i64 p1 65535) + (band .i64 p2 65535)))) (by kernel_rfl) hS46 (fun _ => by kernel_rfl) ?_
        obtain ⟨⟨t156, t157, t158, t159, t160, t161, t162, t163, t164, t165, t166, t167, t168, t169, t170, t171, t172, t173, t174, t175⟩, hg155, h⟩ := of_bind h
        dsimp only at h
        refine AnyE.call 20 41 (.agg #[.int .u16 t156, .int .u16 t157, .int .u16 t158, .int .u16 t159, .int .u16 t160, .int .u16 t161, .int .u16 t162, .int .u16 t163, .int .u16 t164, .int .u16 t165, .int .u16 t166, .int .u16 t167, .int .u16 t168, .int .u8 t169, .int .u8 t170, .bool t171, .bool t172, .bool t173, .bool t174, .int .i64 t175]) 32 #[.agg #[.int .u16 p0_0, .int .u16 p0_1, .int .u16 p0_2, .int .u16 p0_3, .int .u16 p0_4, .int .u16 p0_5, .int .u16 p0_6, .int .u16 p0_7, .int .u16 p0_8, .int .u16 p0_9, .int .u16 p0_10, .int .u16 p0_11, .int .u16 p0_12, .int .u8 p0_13, .int .u8 p0_14, .bool p0_15, .bool p0_16, .bool p0_17, .bool p0_18, .int .i64 p0_19], .int .i64 (IntKind.wrap .i64 ((band .i64 p1 65535) + (band .i64 p2 65535)))] (by kernel_rfl) hS46 (fun _ => by kernel_rfl) (fun w hk => regs_Tick_32_ok K (fun _ => False) w p0_0 p0_1 p0_2 p0_3 p0_4 p0_5 p0_6 p0_7 p0_8 p0_9 p0_10 p0_11 p0_12 p0_13 p0_14 p0_15 p0_16 p0_17 p0_18 p0_19 (IntKind.wrap .i64 ((band .i64 p1 65535) + (band .i64 p2 65535))) (fun _ hf => hf.elim) hg155) ?_
        refine AnyE.run 21 42 (.bool ((t135 == t156) && ((t136 == t157) && ((t137 == t158) && ((t138 == t159) && ((t139 == t160) && ((t140 == t161) && ((t141 == t162) && ((t142 == t163) && ((t143 == t164) && ((t144 == t165) && ((t145 == t166) && ((t146 == t167) && ((t147 == t168) && ((t148 == t169) && ((t149 == t170) && ((t150 == t171) && ((t151 == t172) && ((t152 == t173) && ((t153 == t174) && ((t154 == t175) && true))))))))))))))))))))) (by kernel_rfl) hS46 (fun _ hk => run_eqS (neg := false) (t := 46) (x := .agg #[.int .u16 t135, .int .u16 t136, .int .u16 t137, .int .u16 t138, .int .u16 t139, .int .u16 t140, .int .u16 t141, .int .u16 t142, .int .u16 t143, .int .u16 t144, .int .u16 t145, .int .u16 t146, .int .u16 t147, .int .u8 t148, .int .u8 t149, .bool t150, .bool t151, .bool t152, .bool t153, .int .i64 t154]) (y := .agg #[.int .u16 t156, .int .u16 t157, .int .u16 t158, .int .u16 t159, .int .u16 t160, .int .u16 t161, .int .u16 t162, .int .u16 t163, .int .u16 t164, .int .u16 t165, .int .u16 t166, .int .u16 t167, .int .u16 t168, .int .u8 t169, .int .u8 t170, .bool t171, .bool t172, .bool t173, .bool t174, .int .i64 t175]) (b := ((t135 == t156) && ((t136 == t157) && ((t137 == t158) && ((t138 == t159) && ((t139 == t160) && ((t140 == t161) && ((t141 == t162) && ((t142 == t163) && ((t143 == t164) && ((t144 == t165) && ((t145 == t166) && ((t146 == t167) && ((t147 == t168) && ((t148 == t169) && ((t149 == t170) && ((t150 == t171) && ((t151 == t172) && ((t152 == t173) && ((t153 == t174) && ((t154 == t175) && true))))))))))))))))))))) (by kernel_rfl) (by kernel_rfl) (by kernel_rfl) (by kernel_rfl)) ?_
        refine AnyE.pure 22 43 (.bool ((t135 == t156) && ((t136 == t157) && ((t137 == t158) && ((t138 == t159) && ((t139 == t160) && ((t140 == t161) && ((t141 == t162) && ((t142 == t163) && ((t143 == t164) && ((t144 == t165) && ((t145 == t166) && ((t146 == t167) && ((t147 == t168) && ((t148 == t169) && ((t149 == t170) && ((t150 == t171) && ((t151 == t172) && ((t152 == t173) && ((t153 == t174) && ((t154 == t175) && true))))))))))))))))))))) (by kernel_rfl) hS46 (fun _ => by kernel_rfl) ?_
        refine AnyE.pure 23 44 (.bool ((t135 == t156) && ((t136 == t157) && ((t137 == t158) && ((t138 == t159) && ((t139 == t160) && ((t140 == t161) && ((t141 == t162) && ((t142 == t163) && ((t143 == t164) && ((t144 == t165) && ((t145 == t166) && ((t146 == t167) && ((t147 == t168) && ((t148 == t169) && ((t149 == t170) && ((t150 == t171) && ((t151 == t172) && ((t152 == t173) && ((t153 == t174) && ((t154 == t175) && true))))))))))))))))))))) (by kernel_rfl) hS46 (fun _ => by kernel_rfl) ?_
        rcases of_cond h with ⟨hc176, h⟩ | ⟨hc176, h⟩
        · skip
          refine AnyE.fix 44 true hc176 (by kernel_rfl) (by kernel_rfl) ?_
          refine AnyE.pure 24 45 (.pointer (some ⟨b37, 14, none⟩)) (by kernel_rfl) hS46 (fun _ => by kernel_rfl) ?_
          refine AnyE.loadBox 25 46 4 5 b37 14 (.int .u8 t30) [] h45 rfl (by kernel_rfl) hS46 rfl rfl (by kernel_rfl) (by kernel_rfl) ?_
          refine AnyE.pure 26 47 (.pointer (some ⟨b2, 14, none⟩)) (by kernel_rfl) hS46 (fun _ => by kernel_rfl) ?_
          refine AnyE.loadBox 27 48 3 5 b2 14 (.int .u8 p0_14) [] h45 rfl (by kernel_rfl) hS46 rfl rfl (by kernel_rfl) (by kernel_rfl) ?_
          refine AnyE.pure 28 49 (.int .u8 (bxor .u8 t30 p0_14)) (by kernel_rfl) hS46 (fun _ => by kernel_rfl) ?_
          refine AnyE.pure 29 50 (.int .u8 (band .u8 (bxor .u8 t30 p0_14) 128)) (by kernel_rfl) hS46 (fun _ => by kernel_rfl) ?_
          refine AnyE.pure 30 51 (.bool ((band .u8 (bxor .u8 t30 p0_14) 128) == 0)) (by kernel_rfl) hS46 (fun _ => by kernel_rfl) ?_
          refine AnyE.pure 31 52 (.bool ((band .u8 (bxor .u8 t30 p0_14) 128) == 0)) (by kernel_rfl) hS46 (fun _ => by kernel_rfl) ?_
          refine AnyE.pure 32 53 (.bool ((band .u8 (bxor .u8 t30 p0_14) 128) == 0)) (by kernel_rfl) hS46 (fun _ => by kernel_rfl) ?_
          rcases of_cond h with ⟨hc177, h⟩ | ⟨hc177, h⟩
          · skip
            refine AnyE.fix 53 true hc177 (by kernel_rfl) (by kernel_rfl) ?_
            refine AnyE.loadBox 33 54 4 46 b37 0 (.agg #[.int .u16 t16, .int .u16 t17, .int .u16 t18, .int .u16 t19, .int .u16 t20, .int .u16 t21, .int .u16 t22, .int .u16 t23, .int .u16 t24, .int .u16 t25, .int .u16 t26, .int .u16 t27, .int .u16 t28, .int .u8 t29, .int .u8 t30, .bool t31, .bool t32, .bool t33, .bool t34, .int .i64 t35]) [] h45 rfl (by kernel_rfl) hS46 rfl rfl (by kernel_rfl) (by kernel_rfl) ?_
            refine AnyE.pure 34 55 (.int .i64 (band .i64 p1 65535)) (by kernel_rfl) hS46 (fun _ => by kernel_rfl) ?_
            refine AnyE.pure 35 56 (.int .i64 (IntKind.wrap .i64 (0 - (band .i64 p1 65535)))) (by kernel_rfl) hS46 (fun _ => by kernel_rfl) ?_
            obtain ⟨⟨t179, t180, t181, t182, t183, t184, t185, t186, t187, t188, t189, t190, t191, t192, t193, t194, t195, t196, t197, t198⟩, hg178, h⟩ := of_bind h
            dsimp only at h
            refine AnyE.call 36 57 (.agg #[.int .u16 t179, .int .u16 t180, .int .u16 t181, .int .u16 t182, .int .u16 t183, .int .u16 t184, .int .u16 t185, .int .u16 t186, .int .u16 t187, .int .u16 t188, .int .u16 t189, .int .u16 t190, .int .u16 t191, .int .u8 t192, .int .u8 t193, .bool t194, .bool t195, .bool t196, .bool t197, .int .i64 t198]) 32 #[.agg #[.int .u16 t16, .int .u16 t17, .int .u16 t18, .int .u16 t19, .int .u16 t20, .int .u16 t21, .int .u16 t22, .int .u16 t23, .int .u16 t24, .int .u16 t25, .int .u16 t26, .int .u16 t27, .int .u16 t28, .int .u8 t29, .int .u8 t30, .bool t31, .bool t32, .bool t33, .bool t34, .int .i64 t35], .int .i64 (IntKind.wrap .i64 (0 - (band .i64 p1 65535)))] (by kernel_rfl) hS46 (fun _ => by kernel_rfl) (fun w hk => regs_Tick_32_ok K (fun _ => False) w t16 t17 t18 t19 t20 t21 t22 t23 t24 t25 t26 t27 t28 t29 t30 t31 t32 t33 t34 t35 (IntKind.wrap .i64 (0 - (band .i64 p1 65535))) (fun _ hf => hf.elim) hg178) ?_
            refine AnyE.loadBox 37 58 3 46 b2 0 (.agg #[.int .u16 p0_0, .int .u16 p0_1, .int .u16 p0_2, .int .u16 p0_3, .int .u16 p0_4, .int .u16 p0_5, .int .u16 p0_6, .int .u16 p0_7, .int .u16 p0_8, .int .u16 p0_9, .int .u16 p0_10, .int .u16 p0_11, .int .u16 p0_12, .int .u8 p0_13, .int .u8 p0_14, .bool p0_15, .bool p0_16, .bool p0_17, .bool p0_18, .int .i64 p0_19]) [] h45 rfl (by kernel_rfl) hS46 rfl rfl (by kernel_rfl) (by kernel_rfl) ?_
            refine AnyE.run 38 59 (.bool ((t179 == p0_0) && ((t180 == p0_1) && ((t181 == p0_2) && ((t182 == p0_3) && ((t183 == p0_4) && ((t184 == p0_5) && ((t185 == p0_6) && ((t186 == p0_7) && ((t187 == p0_8) && ((t188 == p0_9) && ((t189 == p0_10) && ((t190 == p0_11) && ((t191 == p0_12) && ((t192 == p0_13) && ((t193 == p0_14) && ((t194 == p0_15) && ((t195 == p0_16) && ((t196 == p0_17) && ((t197 == p0_18) && ((t198 == p0_19) && true))))))))))))))))))))) (by kernel_rfl) hS46 (fun _ hk => run_eqS (neg := false) (t := 46) (x := .agg #[.int .u16 t179, .int .u16 t180, .int .u16 t181, .int .u16 t182, .int .u16 t183, .int .u16 t184, .int .u16 t185, .int .u16 t186, .int .u16 t187, .int .u16 t188, .int .u16 t189, .int .u16 t190, .int .u16 t191, .int .u8 t192, .int .u8 t193, .bool t194, .bool t195, .bool t196, .bool t197, .int .i64 t198]) (y := .agg #[.int .u16 p0_0, .int .u16 p0_1, .int .u16 p0_2, .int .u16 p0_3, .int .u16 p0_4, .int .u16 p0_5, .int .u16 p0_6, .int .u16 p0_7, .int .u16 p0_8, .int .u16 p0_9, .int .u16 p0_10, .int .u16 p0_11, .int .u16 p0_12, .int .u8 p0_13, .int .u8 p0_14, .bool p0_15, .bool p0_16, .bool p0_17, .bool p0_18, .int .i64 p0_19]) (b := ((t179 == p0_0) && ((t180 == p0_1) && ((t181 == p0_2) && ((t182 == p0_3) && ((t183 == p0_4) && ((t184 == p0_5) && ((t185 == p0_6) && ((t186 == p0_7) && ((t187 == p0_8) && ((t188 == p0_9) && ((t189 == p0_10) && ((t190 == p0_11) && ((t191 == p0_12) && ((t192 == p0_13) && ((t193 == p0_14) && ((t194 == p0_15) && ((t195 == p0_16) && ((t196 == p0_17) && ((t197 == p0_18) && ((t198 == p0_19) && true))))))))))))))))))))) (by kernel_rfl) (by kernel_rfl) (by kernel_rfl) (by kernel_rfl)) ?_
            refine AnyE.pure 39 60 (.bool ((t179 == p0_0) && ((t180 == p0_1) && ((t181 == p0_2) && ((t182 == p0_3) && ((t183 == p0_4) && ((t184 == p0_5) && ((t185 == p0_6) && ((t186 == p0_7) && ((t187 == p0_8) && ((t188 == p0_9) && ((t189 == p0_10) && ((t190 == p0_11) && ((t191 == p0_12) && ((t192 == p0_13) && ((t193 == p0_14) && ((t194 == p0_15) && ((t195 == p0_16) && ((t196 == p0_17) && ((t197 == p0_18) && ((t198 == p0_19) && true))))))))))))))))))))) (by kernel_rfl) hS46 (fun _ => by kernel_rfl) ?_
            refine AnyE.pure 40 61 (.bool ((t179 == p0_0) && ((t180 == p0_1) && ((t181 == p0_2) && ((t182 == p0_3) && ((t183 == p0_4) && ((t184 == p0_5) && ((t185 == p0_6) && ((t186 == p0_7) && ((t187 == p0_8) && ((t188 == p0_9) && ((t189 == p0_10) && ((t190 == p0_11) && ((t191 == p0_12) && ((t192 == p0_13) && ((t193 == p0_14) && ((t194 == p0_15) && ((t195 == p0_16) && ((t196 == p0_17) && ((t197 == p0_18) && ((t198 == p0_19) && true))))))))))))))))))))) (by kernel_rfl) hS46 (fun _ => by kernel_rfl) ?_
            rcases of_cond h with ⟨hc199, h⟩ | ⟨hc199, h⟩
            · skip
              refine AnyE.fix 61 true hc199 (by kernel_rfl) (by kernel_rfl) ?_
              refine AnyE.loadBox 41 62 3 46 b2 0 (.agg #[.int .u16 p0_0, .int .u16 p0_1, .int .u16 p0_2, .int .u16 p0_3, .int .u16 p0_4, .int .u16 p0_5, .int .u16 p0_6, .int .u16 p0_7, .int .u16 p0_8, .int .u16 p0_9, .int .u16 p0_10, .int .u16 p0_11, .int .u16 p0_12, .int .u8 p0_13, .int .u8 p0_14, .bool p0_15, .bool p0_16, .bool p0_17, .bool p0_18, .int .i64 p0_19]) [] h45 rfl (by kernel_rfl) hS46 rfl rfl (by kernel_rfl) (by kernel_rfl) ?_
              obtain ⟨⟨t201, t202, t203, t204, t205, t206, t207, t208, t209, t210, t211, t212, t213, t214, t215, t216, t217, t218, t219, t220⟩, hg200, h⟩ := of_bind h
              dsimp only at h
              refine AnyE.call 42 63 (.agg #[.int .u16 t201, .int .u16 t202, .int .u16 t203, .int .u16 t204, .int .u16 t205, .int .u16 t206, .int .u16 t207, .int .u16 t208, .int .u16 t209, .int .u16 t210, .int .u16 t211, .int .u16 t212, .int .u16 t213, .int .u8 t214, .int .u8 t215, .bool t216, .bool t217, .bool t218, .bool t219, .int .i64 t220]) 34 #[.agg #[.int .u16 p0_0, .int .u16 p0_1, .int .u16 p0_2, .int .u16 p0_3, .int .u16 p0_4, .int .u16 p0_5, .int .u16 p0_6, .int .u16 p0_7, .int .u16 p0_8, .int .u16 p0_9, .int .u16 p0_10, .int .u16 p0_11, .int .u16 p0_12, .int .u8 p0_13, .int .u8 p0_14, .bool p0_15, .bool p0_16, .bool p0_17, .bool p0_18, .int .i64 p0_19]] (by kernel_rfl) hS46 (fun _ => by kernel_rfl) (fun w hk => regs_Reset_34_ok K (fun _ => False) w p0_0 p0_1 p0_2 p0_3 p0_4 p0_5 p0_6 p0_7 p0_8 p0_9 p0_10 p0_11 p0_12 p0_13 p0_14 p0_15 p0_16 p0_17 p0_18 p0_19 (fun _ hf => hf.elim) hg200) ?_
              obtain ⟨⟨t222, t223, t224, t225, t226, t227, t228, t229, t230, t231, t232, t233, t234, t235, t236, t237, t238, t239, t240, t241⟩, hg221, h⟩ := of_bind h
              dsimp only at h
              refine AnyE.call 43 64 (.agg #[.int .u16 t222, .int .u16 t223, .int .u16 t224, .int .u16 t225, .int .u16 t226, .int .u16 t227, .int .u16 t228, .int .u16 t229, .int .u16 t230, .int .u16 t231, .int .u16 t232, .int .u16 t233, .int .u16 t234, .int .u8 t235, .int .u8 t236, .bool t237, .bool t238, .bool t239, .bool t240, .int .i64 t241]) 34 #[.agg #[.int .u16 t201, .int .u16 t202, .int .u16 t203, .int .u16 t204, .int .u16 t205, .int .u16 t206, .int .u16 t207, .int .u16 t208, .int .u16 t209, .int .u16 t210, .int .u16 t211, .int .u16 t212, .int .u16 t213, .int .u8 t214, .int .u8 t215, .bool t216, .bool t217, .bool t218, .bool t219, .int .i64 t220]] (by kernel_rfl) hS46 (fun _ => by kernel_rfl) (fun w hk => regs_Reset_34_ok K (fun _ => False) w t201 t202 t203 t204 t205 t206 t207 t208 t209 t210 t211 t212 t213 t214 t215 t216 t217 t218 t219 t220 (fun _ hf => hf.elim) hg221) ?_
              refine AnyE.loadBox 44 65 3 46 b2 0 (.agg #[.int .u16 p0_0, .int .u16 p0_1, .int .u16 p0_2, .int .u16 p0_3, .int .u16 p0_4, .int .u16 p0_5, .int .u16 p0_6, .int .u16 p0_7, .int .u16 p0_8, .int .u16 p0_9, .int .u16 p0_10, .int .u16 p0_11, .int .u16 p0_12, .int .u8 p0_13, .int .u8 p0_14, .bool p0_15, .bool p0_16, .bool p0_17, .bool p0_18, .int .i64 p0_19]) [] h45 rfl (by kernel_rfl) hS46 rfl rfl (by kernel_rfl) (by kernel_rfl) ?_
              obtain ⟨⟨t243, t244, t245, t246, t247, t248, t249, t250, t251, t252, t253, t254, t255, t256, t257, t258, t259, t260, t261, t262⟩, hg242, h⟩ := of_bind h
              dsimp only at h
              refine AnyE.call 45 66 (.agg #[.int .u16 t243, .int .u16 t244, .int .u16 t245, .int .u16 t246, .int .u16 t247, .int .u16 t248, .int .u16 t249, .int .u16 t250, .int .u16 t251, .int .u16 t252, .int .u16 t253, .int .u16 t254, .int .u16 t255, .int .u8 t256, .int .u8 t257, .bool t258, .bool t259, .bool t260, .bool t261, .int .i64 t262]) 34 #[.agg #[.int .u16 p0_0, .int .u16 p0_1, .int .u16 p0_2, .int .u16 p0_3, .int .u16 p0_4, .int .u16 p0_5, .int .u16 p0_6, .int .u16 p0_7, .int .u16 p0_8, .int .u16 p0_9, .int .u16 p0_10, .int .u16 p0_11, .int .u16 p0_12, .int .u8 p0_13, .int .u8 p0_14, .bool p0_15, .bool p0_16, .bool p0_17, .bool p0_18, .int .i64 p0_19]] (by kernel_rfl) hS46 (fun _ => by kernel_rfl) (fun w hk => regs_Reset_34_ok K (fun _ => False) w p0_0 p0_1 p0_2 p0_3 p0_4 p0_5 p0_6 p0_7 p0_8 p0_9 p0_10 p0_11 p0_12 p0_13 p0_14 p0_15 p0_16 p0_17 p0_18 p0_19 (fun _ hf => hf.elim) hg242) ?_
              refine AnyE.run 46 67 (.bool ((t222 == t243) && ((t223 == t244) && ((t224 == t245) && ((t225 == t246) && ((t226 == t247) && ((t227 == t248) && ((t228 == t249) && ((t229 == t250) && ((t230 == t251) && ((t231 == t252) && ((t232 == t253) && ((t233 == t254) && ((t234 == t255) && ((t235 == t256) && ((t236 == t257) && ((t237 == t258) && ((t238 == t259) && ((t239 == t260) && ((t240 == t261) && ((t241 == t262) && true))))))))))))))))))))) (by kernel_rfl) hS46 (fun _ hk => run_eqS (neg := false) (t := 46) (x := .agg #[.int .u16 t222, .int .u16 t223, .int .u16 t224, .int .u16 t225, .int .u16 t226, .int .u16 t227, .int .u16 t228, .int .u16 t229, .int .u16 t230, .int .u16 t231, .int .u16 t232, .int .u16 t233, .int .u16 t234, .int .u8 t235, .int .u8 t236, .bool t237, .bool t238, .bool t239, .bool t240, .int .i64 t241]) (y := .agg #[.int .u16 t243, .int .u16 t244, .int .u16 t245, .int .u16 t246, .int .u16 t247, .int .u16 t248, .int .u16 t249, .int .u16 t250, .int .u16 t251, .int .u16 t252, .int .u16 t253, .int .u16 t254, .int .u16 t255, .int .u8 t256, .int .u8 t257, .bool t258, .bool t259, .bool t260, .bool t261, .int .i64 t262]) (b := ((t222 == t243) && ((t223 == t244) && ((t224 == t245) && ((t225 == t246) && ((t226 == t247) && ((t227 == t248) && ((t228 == t249) && ((t229 == t250) && ((t230 == t251) && ((t231 == t252) && ((t232 == t253) && ((t233 == t254) && ((t234 == t255) && ((t235 == t256) && ((t236 == t257) && ((t237 == t258) && ((t238 == t259) && ((t239 == t260) && ((t240 == t261) && ((t241 == t262) && true))))))))))))))))))))) (by kernel_rfl) (by kernel_rfl) (by kernel_rfl) (by kernel_rfl)) ?_
              refine AnyE.pure 47 68 (.bool ((t222 == t243) && ((t223 == t244) && ((t224 == t245) && ((t225 == t246) && ((t226 == t247) && ((t227 == t248) && ((t228 == t249) && ((t229 == t250) && ((t230 == t251) && ((t231 == t252) && ((t232 == t253) && ((t233 == t254) && ((t234 == t255) && ((t235 == t256) && ((t236 == t257) && ((t237 == t258) && ((t238 == t259) && ((t239 == t260) && ((t240 == t261) && ((t241 == t262) && true))))))))))))))))))))) (by kernel_rfl) hS46 (fun _ => by kernel_rfl) ?_
              refine AnyE.pure 48 69 (.bool ((t222 == t243) && ((t223 == t244) && ((t224 == t245) && ((t225 == t246) && ((t226 == t247) && ((t227 == t248) && ((t228 == t249) && ((t229 == t250) && ((t230 == t251) && ((t231 == t252) && ((t232 == t253) && ((t233 == t254) && ((t234 == t255) && ((t235 == t256) && ((t236 == t257) && ((t237 == t258) && ((t238 == t259) && ((t239 == t260) && ((t240 == t261) && ((t241 == t262) && true))))))))))))))))))))) (by kernel_rfl) hS46 (fun _ => by kernel_rfl) ?_
              rcases of_cond h with ⟨hc263, h⟩ | ⟨hc263, h⟩
              · skip
                refine AnyE.fix 69 true hc263 (by kernel_rfl) (by kernel_rfl) ?_
                refine AnyE.loadBox 49 70 3 46 b2 0 (.agg #[.int .u16 p0_0, .int .u16 p0_1, .int .u16 p0_2, .int .u16 p0_3, .int .u16 p0_4, .int .u16 p0_5, .int .u16 p0_6, .int .u16 p0_7, .int .u16 p0_8, .int .u16 p0_9, .int .u16 p0_10, .int .u16 p0_11, .int .u16 p0_12, .int .u8 p0_13, .int .u8 p0_14, .bool p0_15, .bool p0_16, .bool p0_17, .bool p0_18, .int .i64 p0_19]) [] h45 rfl (by kernel_rfl) hS46 rfl rfl (by kernel_rfl) (by kernel_rfl) ?_
                obtain ⟨⟨t265, t266, t267, t268, t269, t270, t271, t272, t273, t274, t275, t276, t277, t278, t279, t280, t281, t282, t283, t284⟩, hg264, h⟩ := of_bind h
                dsimp only at h
                refine AnyE.call 50 71 (.agg #[.int .u16 t265, .int .u16 t266, .int .u16 t267, .int .u16 t268, .int .u16 t269, .int .u16 t270, .int .u16 t271, .int .u16 t272, .int .u16 t273, .int .u16 t274, .int .u16 t275, .int .u16 t276, .int .u16 t277, .int .u8 t278, .int .u8 t279, .bool t280, .bool t281, .bool t282, .bool t283, .int .i64 t284]) 30 #[.agg #[.int .u16 p0_0, .int .u16 p0_1, .int .u16 p0_2, .int .u16 p0_3, .int .u16 p0_4, .int .u16 p0_5, .int .u16 p0_6, .int .u16 p0_7, .int .u16 p0_8, .int .u16 p0_9, .int .u16 p0_10, .int .u16 p0_11, .int .u16 p0_12, .int .u8 p0_13, .int .u8 p0_14, .bool p0_15, .bool p0_16, .bool p0_17, .bool p0_18, .int .i64 p0_19]] (by kernel_rfl) hS46 (fun _ => by kernel_rfl) (fun w hk => regs_Swap_30_ok K (fun _ => False) w p0_0 p0_1 p0_2 p0_3 p0_4 p0_5 p0_6 p0_7 p0_8 p0_9 p0_10 p0_11 p0_12 p0_13 p0_14 p0_15 p0_16 p0_17 p0_18 p0_19 (fun _ hf => hf.elim) hg264) ?_
                obtain ⟨⟨t286, t287, t288, t289, t290, t291, t292, t293, t294, t295, t296, t297, t298, t299, t300, t301, t302, t303, t304, t305⟩, hg285, h⟩ := of_bind h
                dsimp only at h
                refine AnyE.call 51 72 (.agg #[.int .u16 t286, .int .u16 t287, .int .u16 t288, .int .u16 t289, .int .u16 t290, .int .u16 t291, .int .u16 t292, .int .u16 t293, .int .u16 t294, .int .u16 t295, .int .u16 t296, .int .u16 t297, .int .u16 t298, .int .u8 t299, .int .u8 t300, .bool t301, .bool t302, .bool t303, .bool t304, .int .i64 t305]) 28 #[.agg #[.int .u16 t265, .int .u16 t266, .int .u16 t267, .int .u16 t268, .int .u16 t269, .int .u16 t270, .int .u16 t271, .int .u16 t272, .int .u16 t273, .int .u16 t274, .int .u16 t275, .int .u16 t276, .int .u16 t277, .int .u8 t278, .int .u8 t279, .bool t280, .bool t281, .bool t282, .bool t283, .int .i64 t284]] (by kernel_rfl) hS46 (fun _ => by kernel_rfl) (fun w hk => regs_Exx_28_ok K (fun _ => False) w t265 t266 t267 t268 t269 t270 t271 t272 t273 t274 t275 t276 t277 t278 t279 t280 t281 t282 t283 t284 (fun _ hf => hf.elim) hg285) ?_
                refine AnyE.loadBox 52 73 3 46 b2 0 (.agg #[.int .u16 p0_0, .int .u16 p0_1, .int .u16 p0_2, .int .u16 p0_3, .int .u16 p0_4, .int .u16 p0_5, .int .u16 p0_6, .int .u16 p0_7, .int .u16 p0_8, .int .u16 p0_9, .int .u16 p0_10, .int .u16 p0_11, .int .u16 p0_12, .int .u8 p0_13, .int .u8 p0_14, .bool p0_15, .bool p0_16, .bool p0_17, .bool p0_18, .int .i64 p0_19]) [] h45 rfl (by kernel_rfl) hS46 rfl rfl (by kernel_rfl) (by kernel_rfl) ?_
                obtain ⟨⟨t307, t308, t309, t310, t311, t312, t313, t314, t315, t316, t317, t318, t319, t320, t321, t322, t323, t324, t325, t326⟩, hg306, h⟩ := of_bind h
                dsimp only at h
                refine AnyE.call 53 74 (.agg #[.int .u16 t307, .int .u16 t308, .int .u16 t309, .int .u16 t310, .int .u16 t311, .int .u16 t312, .int .u16 t313, .int .u16 t314, .int .u16 t315, .int .u16 t316, .int .u16 t317, .int .u16 t318, .int .u16 t319, .int .u8 t320, .int .u8 t321, .bool t322, .bool t323, .bool t324, .bool t325, .int .i64 t326]) 28 #[.agg #[.int .u16 p0_0, .int .u16 p0_1, .int .u16 p0_2, .int .u16 p0_3, .int .u16 p0_4, .int .u16 p0_5, .int .u16 p0_6, .int .u16 p0_7, .int .u16 p0_8, .int .u16 p0_9, .int .u16 p0_10, .int .u16 p0_11, .int .u16 p0_12, .int .u8 p0_13, .int .u8 p0_14, .bool p0_15, .bool p0_16, .bool p0_17, .bool p0_18, .int .i64 p0_19]] (by kernel_rfl) hS46 (fun _ => by kernel_rfl) (fun w hk => regs_Exx_28_ok K (fun _ => False) w p0_0 p0_1 p0_2 p0_3 p0_4 p0_5 p0_6 p0_7 p0_8 p0_9 p0_10 p0_11 p0_12 p0_13 p0_14 p0_15 p0_16 p0_17 p0_18 p0_19 (fun _ hf => hf.elim) hg306) ?_
                obtain ⟨⟨t328, t329, t330, t331, t332, t333, t334, t335, t336, t337, t338, t339, t340, t341, t342, t343, t344, t345, t346, t347⟩, hg327, h⟩ := of_bind h
                dsimp only at h
                refine AnyE.call 54 75 (.agg #[.int .u16 t328, .int .u16 t329, .int .u16 t330, .int .u16 t331, .int .u16 t332, .int .u16 t333, .int .u16 t334, .int .u16 t335, .int .u16 t336, .int .u16 t337, .int .u16 t338, .int .u16 t339, .int .u16 t340, .int .u8 t341, .int .u8 t342, .bool t343, .bool t344, .bool t345, .bool t346, .int .i64 t347]) 30 #[.agg #[.int .u16 t307, .int .u16 t308, .int .u16 t309, .int .u16 t310, .int .u16 t311, .int .u16 t312, .int .u16 t313, .int .u16 t314, .int .u16 t315, .int .u16 t316, .int .u16 t317, .int .u16 t318, .int .u16 t319, .int .u8 t320, .int .u8 t321, .bool t322, .bool t323, .bool t324, .bool t325, .int .i64 t326]] (by kernel_rfl) hS46 (fun _ => by kernel_rfl) (fun w hk => regs_Swap_30_ok K (fun _ => False) w t307 t308 t309 t310 t311 t312 t313 t314 t315 t316 t317 t318 t319 t320 t321 t322 t323 t324 t325 t326 (fun _ hf => hf.elim) hg327) ?_
                refine AnyE.run 55 76 (.bool ((t286 == t328) && ((t287 == t329) && ((t288 == t330) && ((t289 == t331) && ((t290 == t332) && ((t291 == t333) && ((t292 == t334) && ((t293 == t335) && ((t294 == t336) && ((t295 == t337) && ((t296 == t338) && ((t297 == t339) && ((t298 == t340) && ((t299 == t341) && ((t300 == t342) && ((t301 == t343) && ((t302 == t344) && ((t303 == t345) && ((t304 == t346) && ((t305 == t347) && true))))))))))))))))))))) (by kernel_rfl) hS46 (fun _ hk => run_eqS (neg := false) (t := 46) (x := .agg #[.int .u16 t286, .int .u16 t287, .int .u16 t288, .int .u16 t289, .int .u16 t290, .int .u16 t291, .int .u16 t292, .int .u16 t293, .int .u16 t294, .int .u16 t295, .int .u16 t296, .int .u16 t297, .int .u16 t298, .int .u8 t299, .int .u8 t300, .bool t301, .bool t302, .bool t303, .bool t304, .int .i64 t305]) (y := .agg #[.int .u16 t328, .int .u16 t329, .int .u16 t330, .int .u16 t331, .int .u16 t332, .int .u16 t333, .int .u16 t334, .int .u16 t335, .int .u16 t336, .int .u16 t337, .int .u16 t338, .int .u16 t339, .int .u16 t340, .int .u8 t341, .int .u8 t342, .bool t343, .bool t344, .bool t345, .bool t346, .int .i64 t347]) (b := ((t286 == t328) && ((t287 == t329) && ((t288 == t330) && ((t289 == t331) && ((t290 == t332) && ((t291 == t333) && ((t292 == t334) && ((t293 == t335) && ((t294 == t336) && ((t295 == t337) && ((t296 == t338) && ((t297 == t339) && ((t298 == t340) && ((t299 == t341) && ((t300 == t342) && ((t301 == t343) && ((t302 == t344) && ((t303 == t345) && ((t304 == t346) && ((t305 == t347) && true))))))))))))))))))))) (by kernel_rfl) (by kernel_rfl) (by kernel_rfl) (by kernel_rfl)) ?_
                refine AnyE.pure 56 77 (.bool ((t286 == t328) && ((t287 == t329) && ((t288 == t330) && ((t289 == t331) && ((t290 == t332) && ((t291 == t333) && ((t292 == t334) && ((t293 == t335) && ((t294 == t336) && ((t295 == t337) && ((t296 == t338) && ((t297 == t339) && ((t298 == t340) && ((t299 == t341) && ((t300 == t342) && ((t301 == t343) && ((t302 == t344) && ((t303 == t345) && ((t304 == t346) && ((t305 == t347) && true))))))))))))))))))))) (by kernel_rfl) hS46 (fun _ => by kernel_rfl) ?_
                refine AnyE.pure 57 6 (.bool ((t286 == t328) && ((t287 == t329) && ((t288 == t330) && ((t289 == t331) && ((t290 == t332) && ((t291 == t333) && ((t292 == t334) && ((t293 == t335) && ((t294 == t336) && ((t295 == t337) && ((t296 == t338) && ((t297 == t339) && ((t298 == t340) && ((t299 == t341) && ((t300 == t342) && ((t301 == t343) && ((t302 == t344) && ((t303 == t345) && ((t304 == t346) && ((t305 == t347) && true))))))))))))))))))))) (by kernel_rfl) hS46 (fun _ => by kernel_rfl) ?_
                refine AnyE.done (by kernel_rfl) (fun w348 hu349 => ?_)
                have h350 := h45.call hu349
                refine RunsI.only [6] [(6, .bool ((t286 == t328) && ((t287 == t329) && ((t288 == t330) && ((t289 == t331) && ((t290 == t332) && ((t291 == t333) && ((t292 == t334) && ((t293 == t335) && ((t294 == t336) && ((t295 == t337) && ((t296 == t338) && ((t297 == t339) && ((t298 == t340) && ((t299 == t341) && ((t300 == t342) && ((t301 == t343) && ((t302 == t344) && ((t303 == t345) && ((t304 == t346) && ((t305 == t347) && true)))))))))))))))))))))] (by kernel_rfl) (by kernel_rfl) ?_
                refine RunsI.ret (.bool ((t286 == t328) && ((t287 == t329) && ((t288 == t330) && ((t289 == t331) && ((t290 == t332) && ((t291 == t333) && ((t292 == t334) && ((t293 == t335) && ((t294 == t336) && ((t295 == t337) && ((t296 == t338) && ((t297 == t339) && ((t298 == t340) && ((t299 == t341) && ((t300 == t342) && ((t301 == t343) && ((t302 == t344) && ((t303 == t345) && ((t304 == t346) && ((t305 == t347) && true))))))))))))))))))))) (by kernel_rfl) (by kernel_rfl) ?_
                obtain rfl := Option.some.inj h
                exact ⟨rfl, h350.below⟩
              · skip
                refine AnyE.fix 69 false hc263 (by kernel_rfl) (by kernel_rfl) ?_
                refine AnyE.no 49 70 (by kernel_rfl) hS46 ?_
                refine AnyE.no 50 71 (by kernel_rfl) hS46 ?_
                refine AnyE.no 51 72 (by kernel_rfl) hS46 ?_
                refine AnyE.no 52 73 (by kernel_rfl) hS46 ?_
                refine AnyE.no 53 74 (by kernel_rfl) hS46 ?_
                refine AnyE.no 54 75 (by kernel_rfl) hS46 ?_
                refine AnyE.no 55 76 (by kernel_rfl) hS46 ?_
                refine AnyE.pure 56 77 (.bool false) (by kernel_rfl) hS46 (fun _ => by kernel_rfl) ?_
                refine AnyE.pure 57 6 (.bool false) (by kernel_rfl) hS46 (fun _ => by kernel_rfl) ?_
                refine AnyE.done (by kernel_rfl) (fun w351 hu352 => ?_)
                have h353 := h45.call hu352
                refine RunsI.only [6] [(6, .bool false)] (by kernel_rfl) (by kernel_rfl) ?_
                refine RunsI.ret (.bool false) (by kernel_rfl) (by kernel_rfl) ?_
                obtain rfl := Option.some.inj h
                exact ⟨rfl, h353.below⟩
            · skip
              refine AnyE.fix 61 false hc199 (by kernel_rfl) (by kernel_rfl) ?_
              refine AnyE.no 41 62 (by kernel_rfl) hS46 ?_
              refine AnyE.no 42 63 (by kernel_rfl) hS46 ?_
              refine AnyE.no 43 64 (by kernel_rfl) hS46 ?_
              refine AnyE.no 44 65 (by kernel_rfl) hS46 ?_
              refine AnyE.no 45 66 (by kernel_rfl) hS46 ?_
              refine AnyE.no 46 67 (by kernel_rfl) hS46 ?_
              refine AnyE.pure 47 68 (.bool false) (by kernel_rfl) hS46 (fun _ => by kernel_rfl) ?_
              refine AnyE.pure 48 69 (.bool false) (by kernel_rfl) hS46 (fun _ => by kernel_rfl) ?_
              refine AnyE.no 49 70 (by kernel_rfl) hS46 ?_
              refine AnyE.no 50 71 (by kernel_rfl) hS46 ?_
              refine AnyE.no 51 72 (by kernel_rfl) hS46 ?_
              refine AnyE.no 52 73 (by kernel_rfl) hS46 ?_
              refine AnyE.no 53 74 (by kernel_rfl) hS46 ?_
              refine AnyE.no 54 75 (by kernel_rfl) hS46 ?_
              refine AnyE.no 55 76 (by kernel_rfl) hS46 ?_
              refine AnyE.pure 56 77 (.bool false) (by kernel_rfl) hS46 (fun _ => by kernel_rfl) ?_
              refine AnyE.pure 57 6 (.bool false) (by kernel_rfl) hS46 (fun _ => by kernel_rfl) ?_
              refine AnyE.done (by kernel_rfl) (fun w354 hu355 => ?_)
              have h356 := h45.call hu355
              refine RunsI.only [6] [(6, .bool false)] (by kernel_rfl) (by kernel_rfl) ?_
              refine RunsI.ret (.bool false) (by kernel_rfl) (by kernel_rfl) ?_
              obtain rfl := Option.some.inj h
              exact ⟨rfl, h356.below⟩
          · skip
            refine AnyE.fix 53 false hc177 (by kernel_rfl) (by kernel_rfl) ?_
            refine AnyE.no 33 54 (by kernel_rfl) hS46 ?_
            refine AnyE.no 34 55 (by kernel_rfl) hS46 ?_
            refine AnyE.no 35 56 (by kernel_rfl) hS46 ?_
            refine AnyE.no 36 57 (by kernel_rfl) hS46 ?_
            refine AnyE.no 37 58 (by kernel_rfl) hS46 ?_
            refine AnyE.no 38 59 (by kernel_rfl) hS46 ?_
            refine AnyE.pure 39 60 (.bool false) (by kernel_rfl) hS46 (fun _ => by kernel_rfl) ?_
            refine AnyE.pure 40 61 (.bool false) (by kernel_rfl) hS46 (fun _ => by kernel_rfl) ?_
            refine AnyE.no 41 62 (by kernel_rfl) hS46 ?_
            refine AnyE.no 42 63 (by kernel_rfl) hS46 ?_
            refine AnyE.no 43 64 (by kernel_rfl) hS46 ?_
            refine AnyE.no 44 65 (by kernel_rfl) hS46 ?_
            refine AnyE.no 45 66 (by kernel_rfl) hS46 ?_
            refine AnyE.no 46 67 (by kernel_rfl) hS46 ?_
            refine AnyE.pure 47 68 (.bool false) (by kernel_rfl) hS46 (fun _ => by kernel_rfl) ?_
            refine AnyE.pure 48 69 (.bool false) (by kernel_rfl) hS46 (fun _ => by kernel_rfl) ?_
            refine AnyE.no 49 70 (by kernel_rfl) hS46 ?_
            refine AnyE.no 50 71 (by kernel_rfl) hS46 ?_
            refine AnyE.no 51 72 (by kernel_rfl) hS46 ?_
            refine AnyE.no 52 73 (by kernel_rfl) hS46 ?_
            refine AnyE.no 53 74 (by kernel_rfl) hS46 ?_
            refine AnyE.no 54 75 (by kernel_rfl) hS46 ?_
            refine AnyE.no 55 76 (by kernel_rfl) hS46 ?_
            refine AnyE.pure 56 77 (.bool false) (by kernel_rfl) hS46 (fun _ => by kernel_rfl) ?_
            refine AnyE.pure 57 6 (.bool false) (by kernel_rfl) hS46 (fun _ => by kernel_rfl) ?_
            refine AnyE.done (by kernel_rfl) (fun w357 hu358 => ?_)
            have h359 := h45.call hu358
            refine RunsI.only [6] [(6, .bool false)] (by kernel_rfl) (by kernel_rfl) ?_
            refine RunsI.ret (.bool false) (by kernel_rfl) (by kernel_rfl) ?_
            obtain rfl := Option.some.inj h
            exact ⟨rfl, h359.below⟩
        · skip
          refine AnyE.fix 44 false hc176 (by kernel_rfl) (by kernel_rfl) ?_
          refine AnyE.no 24 45 (by kernel_rfl) hS46 ?_
          refine AnyE.no 25 46 (by kernel_rfl) hS46 ?_
          refine AnyE.no 26 47 (by kernel_rfl) hS46 ?_
          refine AnyE.no 27 48 (by kernel_rfl) hS46 ?_
          refine AnyE.no 28 49 (by kernel_rfl) hS46 ?_
          refine AnyE.no 29 50 (by kernel_rfl) hS46 ?_
          refine AnyE.no 30 51 (by kernel_rfl) hS46 ?_
          refine AnyE.pure 31 52 (.bool false) (by kernel_rfl) hS46 (fun _ => by kernel_rfl) ?_
          refine AnyE.pure 32 53 (.bool false) (by kernel_rfl) hS46 (fun _ => by kernel_rfl) ?_
          refine AnyE.no 33 54 (by kernel_rfl) hS46 ?_
          refine AnyE.no 34 55 (by kernel_rfl) hS46 ?_
          refine AnyE.no 35 56 (by kernel_rfl) hS46 ?_
          refine AnyE.no 36 57 (by kernel_rfl) hS46 ?_
          refine AnyE.no 37 58 (by kernel_rfl) hS46 ?_
          refine AnyE.no 38 59 (by kernel_rfl) hS46 ?_
          refine AnyE.pure 39 60 (.bool false) (by kernel_rfl) hS46 (fun _ => by kernel_rfl) ?_
          refine AnyE.pure 40 61 (.bool false) (by kernel_rfl) hS46 (fun _ => by kernel_rfl) ?_
          refine AnyE.no 41 62 (by kernel_rfl) hS46 ?_
          refine AnyE.no 42 63 (by kernel_rfl) hS46 ?_
          refine AnyE.no 43 64 (by kernel_rfl) hS46 ?_
          refine AnyE.no 44 65 (by kernel_rfl) hS46 ?_
          refine AnyE.no 45 66 (by kernel_rfl) hS46 ?_
          refine AnyE.no 46 67 (by kernel_rfl) hS46 ?_
          refine AnyE.pure 47 68 (.bool false) (by kernel_rfl) hS46 (fun _ => by kernel_rfl) ?_
          refine AnyE.pure 48 69 (.bool false) (by kernel_rfl) hS46 (fun _ => by kernel_rfl) ?_
          refine AnyE.no 49 70 (by kernel_rfl) hS46 ?_
          refine AnyE.no 50 71 (by kernel_rfl) hS46 ?_
          refine AnyE.no 51 72 (by kernel_rfl) hS46 ?_
          refine AnyE.no 52 73 (by kernel_rfl) hS46 ?_
          refine AnyE.no 53 74 (by kernel_rfl) hS46 ?_
          refine AnyE.no 54 75 (by kernel_rfl) hS46 ?_
          refine AnyE.no 55 76 (by kernel_rfl) hS46 ?_
          refine AnyE.pure 56 77 (.bool false) (by kernel_rfl) hS46 (fun _ => by kernel_rfl) ?_
          refine AnyE.pure 57 6 (.bool false) (by kernel_rfl) hS46 (fun _ => by kernel_rfl) ?_
          refine AnyE.done (by kernel_rfl) (fun w360 hu361 => ?_)
          have h362 := h45.call hu361
          refine RunsI.only [6] [(6, .bool false)] (by kernel_rfl) (by kernel_rfl) ?_
          refine RunsI.ret (.bool false) (by kernel_rfl) (by kernel_rfl) ?_
          obtain rfl := Option.some.inj h
          exact ⟨rfl, h362.below⟩
      · skip
        refine AnyE.fix 33 false hc133 (by kernel_rfl) (by kernel_rfl) ?_
        refine AnyE.no 13 34 (by kernel_rfl) hS46 ?_
        refine AnyE.no 14 35 (by kernel_rfl) hS46 ?_
        refine AnyE.no 15 36 (by kernel_rfl) hS46 ?_
        refine AnyE.no 16 37 (by kernel_rfl) hS46 ?_
        refine AnyE.no 17 38 (by kernel_rfl) hS46 ?_
        refine AnyE.no 18 39 (by kernel_rfl) hS46 ?_
        refine AnyE.no 19 40 (by kernel_rfl) hS46 ?_
        refine AnyE.no 20 41 (by kernel_rfl) hS46 ?_
        refine AnyE.no 21 42 (by kernel_rfl) hS46 ?_
        refine AnyE.pure 22 43 (.bool false) (by kernel_rfl) hS46 (fun _ => by kernel_rfl) ?_
        refine AnyE.pure 23 44 (.bool false) (by kernel_rfl) hS46 (fun _ => by kernel_rfl) ?_
        refine AnyE.no 24 45 (by kernel_rfl) hS46 ?_
        refine AnyE.no 25 46 (by kernel_rfl) hS46 ?_
        refine AnyE.no 26 47 (by kernel_rfl) hS46 ?_
        refine AnyE.no 27 48 (by kernel_rfl) hS46 ?_
        refine AnyE.no 28 49 (by kernel_rfl) hS46 ?_
        refine AnyE.no 29 50 (by kernel_rfl) hS46 ?_
        refine AnyE.no 30 51 (by kernel_rfl) hS46 ?_
        refine AnyE.pure 31 52 (.bool false) (by kernel_rfl) hS46 (fun _ => by kernel_rfl) ?_
        refine AnyE.pure 32 53 (.bool false) (by kernel_rfl) hS46 (fun _ => by kernel_rfl) ?_
        refine AnyE.no 33 54 (by kernel_rfl) hS46 ?_
        refine AnyE.no 34 55 (by kernel_rfl) hS46 ?_
        refine AnyE.no 35 56 (by kernel_rfl) hS46 ?_
        refine AnyE.no 36 57 (by kernel_rfl) hS46 ?_
        refine AnyE.no 37 58 (by kernel_rfl) hS46 ?_
        refine AnyE.no 38 59 (by kernel_rfl) hS46 ?_
        refine AnyE.pure 39 60 (.bool false) (by kernel_rfl) hS46 (fun _ => by kernel_rfl) ?_
        refine AnyE.pure 40 61 (.bool false) (by kernel_rfl) hS46 (fun _ => by kernel_rfl) ?_
        refine AnyE.no 41 62 (by kernel_rfl) hS46 ?_
        refine AnyE.no 42 63 (by kernel_rfl) hS46 ?_
        refine AnyE.no 43 64 (by kernel_rfl) hS46 ?_
        refine AnyE.no 44 65 (by kernel_rfl) hS46 ?_
        refine AnyE.no 45 66 (by kernel_rfl) hS46 ?_
        refine AnyE.no 46 67 (by kernel_rfl) hS46 ?_
        refine AnyE.pure 47 68 (.bool false) (by kernel_rfl) hS46 (fun _ => by kernel_rfl) ?_
        refine AnyE.pure 48 69 (.bool false) (by kernel_rfl) hS46 (fun _ => by kernel_rfl) ?_
        refine AnyE.no 49 70 (by kernel_rfl) hS46 ?_
        refine AnyE.no 50 71 (by kernel_rfl) hS46 ?_
        refine AnyE.no 51 72 (by kernel_rfl) hS46 ?_
        refine AnyE.no 52 73 (by kernel_rfl) hS46 ?_
        refine AnyE.no 53 74 (by kernel_rfl) hS46 ?_
        refine AnyE.no 54 75 (by kernel_rfl) hS46 ?_
        refine AnyE.no 55 76 (by kernel_rfl) hS46 ?_
        refine AnyE.pure 56 77 (.bool false) (by kernel_rfl) hS46 (fun _ => by kernel_rfl) ?_
        refine AnyE.pure 57 6 (.bool false) (by kernel_rfl) hS46 (fun _ => by kernel_rfl) ?_
        refine AnyE.done (by kernel_rfl) (fun w363 hu364 => ?_)
        have h365 := h45.call hu364
        refine RunsI.only [6] [(6, .bool false)] (by kernel_rfl) (by kernel_rfl) ?_
        refine RunsI.ret (.bool false) (by kernel_rfl) (by kernel_rfl) ?_
        obtain rfl := Option.some.inj h
        exact ⟨rfl, h365.below⟩
    · skip
      refine AnyE.fix 26 false hc90 (by kernel_rfl) (by kernel_rfl) ?_
      refine AnyE.no 6 27 (by kernel_rfl) hS46 ?_
      refine AnyE.no 7 28 (by kernel_rfl) hS46 ?_
      refine AnyE.no 8 29 (by kernel_rfl) hS46 ?_
      refine AnyE.no 9 30 (by kernel_rfl) hS46 ?_
      refine AnyE.no 10 31 (by kernel_rfl) hS46 ?_
      refine AnyE.pure 11 32 (.bool false) (by kernel_rfl) hS46 (fun _ => by kernel_rfl) ?_
      refine AnyE.pure 12 33 (.bool false) (by kernel_rfl) hS46 (fun _ => by kernel_rfl) ?_
      refine AnyE.no 13 34 (by kernel_rfl) hS46 ?_
      refine AnyE.no 14 35 (by kernel_rfl) hS46 ?_
      refine AnyE.no 15 36 (by kernel_rfl) hS46 ?_
      refine AnyE.no 16 37 (by kernel_rfl) hS46 ?_
      refine AnyE.no 17 38 (by kernel_rfl) hS46 ?_
      refine AnyE.no 18 39 (by kernel_rfl) hS46 ?_
      refine AnyE.no 19 40 (by kernel_rfl) hS46 ?_
      refine AnyE.no 20 41 (by kernel_rfl) hS46 ?_
      refine AnyE.no 21 42 (by kernel_rfl) hS46 ?_
      refine AnyE.pure 22 43 (.bool false) (by kernel_rfl) hS46 (fun _ => by kernel_rfl) ?_
      refine AnyE.pure 23 44 (.bool false) (by kernel_rfl) hS46 (fun _ => by kernel_rfl) ?_
      refine AnyE.no 24 45 (by kernel_rfl) hS46 ?_
      refine AnyE.no 25 46 (by kernel_rfl) hS46 ?_
      refine AnyE.no 26 47 (by kernel_rfl) hS46 ?_
      refine AnyE.no 27 48 (by kernel_rfl) hS46 ?_
      refine AnyE.no 28 49 (by kernel_rfl) hS46 ?_
      refine AnyE.no 29 50 (by kernel_rfl) hS46 ?_
      refine AnyE.no 30 51 (by kernel_rfl) hS46 ?_
      refine AnyE.pure 31 52 (.bool false) (by kernel_rfl) hS46 (fun _ => by kernel_rfl) ?_
      refine AnyE.pure 32 53 (.bool false) (by kernel_rfl) hS46 (fun _ => by kernel_rfl) ?_
      refine AnyE.no 33 54 (by kernel_rfl) hS46 ?_
      refine AnyE.no 34 55 (by kernel_rfl) hS46 ?_
      refine AnyE.no 35 56 (by kernel_rfl) hS46 ?_
      refine AnyE.no 36 57 (by kernel_rfl) hS46 ?_
      refine AnyE.no 37 58 (by kernel_rfl) hS46 ?_
      refine AnyE.no 38 59 (by kernel_rfl) hS46 ?_
      refine AnyE.pure 39 60 (.bool false) (by kernel_rfl) hS46 (fun _ => by kernel_rfl) ?_
      refine AnyE.pure 40 61 (.bool false) (by kernel_rfl) hS46 (fun _ => by kernel_rfl) ?_
      refine AnyE.no 41 62 (by kernel_rfl) hS46 ?_
      refine AnyE.no 42 63 (by kernel_rfl) hS46 ?_
      refine AnyE.no 43 64 (by kernel_rfl) hS46 ?_
      refine AnyE.no 44 65 (by kernel_rfl) hS46 ?_
      refine AnyE.no 45 66 (by kernel_rfl) hS46 ?_
      refine AnyE.no 46 67 (by kernel_rfl) hS46 ?_
      refine AnyE.pure 47 68 (.bool false) (by kernel_rfl) hS46 (fun _ => by kernel_rfl) ?_
      refine AnyE.pure 48 69 (.bool false) (by kernel_rfl) hS46 (fun _ => by kernel_rfl) ?_
      refine AnyE.no 49 70 (by kernel_rfl) hS46 ?_
      refine AnyE.no 50 71 (by kernel_rfl) hS46 ?_
      refine AnyE.no 51 72 (by kernel_rfl) hS46 ?_
      refine AnyE.no 52 73 (by kernel_rfl) hS46 ?_
      refine AnyE.no 53 74 (by kernel_rfl) hS46 ?_
      refine AnyE.no 54 75 (by kernel_rfl) hS46 ?_
      refine AnyE.no 55 76 (by kernel_rfl) hS46 ?_
      refine AnyE.pure 56 77 (.bool false) (by kernel_rfl) hS46 (fun _ => by kernel_rfl) ?_
      refine AnyE.pure 57 6 (.bool false) (by kernel_rfl) hS46 (fun _ => by kernel_rfl) ?_
      refine AnyE.done (by kernel_rfl) (fun w366 hu367 => ?_)
      have h368 := h45.call hu367
      refine RunsI.only [6] [(6, .bool false)] (by kernel_rfl) (by kernel_rfl) ?_
      refine RunsI.ret (.bool false) (by kernel_rfl) (by kernel_rfl) ?_
      obtain rfl := Option.some.inj h
      exact ⟨rfl, h368.below⟩
end
end Go.Proofs.YtajnhlkkbhobiaaDoor.Reg
