/- Functions of the program as plain Lean functions, each with the proof that the call comes to it; written by wip/eng.py. -/
import Derived.Test.YtajnhlkkbhobiaaDoorProg
import Derived.Test.YtajnhlkkbhobiaaDoorEngLib
import Derived.Test.YtajnhlkkbhobiaaDoorShelf
set_option linter.unusedVariables false
set_option linter.unusedSimpArgs false
set_option maxHeartbeats 4000000
namespace Go.Proofs.YtajnhlkkbhobiaaDoor.Reg
open Go.RowKit Go.Eng
noncomputable def B23 : Code := (Tryd.f23.body).getD .skip
noncomputable def F23 : Fun Tryd.prog := ⟨23, Tryd.f23, B23, 54, Tryd.func23, by kernel_rfl, by kernel_rfl, [], none⟩
noncomputable def B24 : Code := (Tryd.f24.body).getD .skip
noncomputable def F24 : Fun Tryd.prog := ⟨24, Tryd.f24, B24, 30, Tryd.func24, by kernel_rfl, by kernel_rfl, [], none⟩
noncomputable def B25 : Code := (Tryd.f25.body).getD .skip
noncomputable def F25 : Fun Tryd.prog := ⟨25, Tryd.f25, B25, 31, Tryd.func25, by kernel_rfl, by kernel_rfl, [], none⟩
noncomputable def B26 : Code := (Tryd.f26.body).getD .skip
noncomputable def F26 : Fun Tryd.prog := ⟨26, Tryd.f26, B26, 18, Tryd.func26, by kernel_rfl, by kernel_rfl, [], none⟩
noncomputable def B27 : Code := (Tryd.f27.body).getD .skip
noncomputable def F27 : Fun Tryd.prog := ⟨27, Tryd.f27, B27, 45, Tryd.func27, by kernel_rfl, by kernel_rfl, [], none⟩
noncomputable def B28 : Code := (Tryd.f28.body).getD .skip
noncomputable def F28 : Fun Tryd.prog := ⟨28, Tryd.f28, B28, 22, Tryd.func28, by kernel_rfl, by kernel_rfl, [], none⟩
noncomputable def B29 : Code := (Tryd.f29.body).getD .skip
noncomputable def F29 : Fun Tryd.prog := ⟨29, Tryd.f29, B29, 24, Tryd.func29, by kernel_rfl, by kernel_rfl, [], none⟩
noncomputable def B30 : Code := (Tryd.f30.body).getD .skip
noncomputable def F30 : Fun Tryd.prog := ⟨30, Tryd.f30, B30, 10, Tryd.func30, by kernel_rfl, by kernel_rfl, [], none⟩
noncomputable def B31 : Code := (Tryd.f31.body).getD .skip
noncomputable def F31 : Fun Tryd.prog := ⟨31, Tryd.f31, B31, 12, Tryd.func31, by kernel_rfl, by kernel_rfl, [], none⟩
noncomputable def B32 : Code := (Tryd.f32.body).getD .skip
noncomputable def F32 : Fun Tryd.prog := ⟨32, Tryd.f32, B32, 17, Tryd.func32, by kernel_rfl, by kernel_rfl, [], none⟩
noncomputable def B33 : Code := (Tryd.f33.body).getD .skip
noncomputable def F33 : Fun Tryd.prog := ⟨33, Tryd.f33, B33, 26, Tryd.func33, by kernel_rfl, by kernel_rfl, [], none⟩
noncomputable def B34 : Code := (Tryd.f34.body).getD .skip
noncomputable def F34 : Fun Tryd.prog := ⟨34, Tryd.f34, B34, 12, Tryd.func34, by kernel_rfl, by kernel_rfl, [], none⟩
noncomputable def B35 : Code := (Tryd.f35.body).getD .skip
noncomputable def F35 : Fun Tryd.prog := ⟨35, Tryd.f35, B35, 12, Tryd.func35, by kernel_rfl, by kernel_rfl, [], none⟩
noncomputable def B36 : Code := (Tryd.f36.body).getD .skip
noncomputable def F36 : Fun Tryd.prog := ⟨36, Tryd.f36, B36, 85, Tryd.func36, by kernel_rfl, by kernel_rfl, [], none⟩
noncomputable def B37 : Code := (Tryd.f37.body).getD .skip
noncomputable def F37 : Fun Tryd.prog := ⟨37, Tryd.f37, B37, 76, Tryd.func37, by kernel_rfl, by kernel_rfl, [], none⟩
noncomputable def B38 : Code := (Tryd.f38.body).getD .skip
noncomputable def F38 : Fun Tryd.prog := ⟨38, Tryd.f38, B38, 40, Tryd.func38, by kernel_rfl, by kernel_rfl, [], none⟩
noncomputable def B39 : Code := (Tryd.f39.body).getD .skip
noncomputable def F39 : Fun Tryd.prog := ⟨39, Tryd.f39, B39, 52, Tryd.func39, by kernel_rfl, by kernel_rfl, [], none⟩
noncomputable def B40 : Code := (Tryd.f40.body).getD .skip
noncomputable def F40 : Fun Tryd.prog := ⟨40, Tryd.f40, B40, 21, Tryd.func40, by kernel_rfl, by kernel_rfl, [], none⟩
noncomputable def B41 : Code := (Tryd.f41.body).getD .skip
noncomputable def F41 : Fun Tryd.prog := ⟨41, Tryd.f41, B41, 48, Tryd.func41, by kernel_rfl, by kernel_rfl, [], none⟩
noncomputable def B44 : Code := (Tryd.f44.body).getD .skip
noncomputable def F44 : Fun Tryd.prog := ⟨44, Tryd.f44, B44, 29, Tryd.func44, by kernel_rfl, by kernel_rfl, [], none⟩
noncomputable def B45 : Code := (Tryd.f45.body).getD .skip
noncomputable def F45 : Fun Tryd.prog := ⟨45, Tryd.f45, B45, 6, Tryd.func45, by kernel_rfl, by kernel_rfl, [], none⟩
noncomputable def B46 : Code := (Tryd.f46.body).getD .skip
noncomputable def F46 : Fun Tryd.prog := ⟨46, Tryd.f46, B46, 5, Tryd.func46, by kernel_rfl, by kernel_rfl, [], none⟩
noncomputable def B47 : Code := (Tryd.f47.body).getD .skip
noncomputable def F47 : Fun Tryd.prog := ⟨47, Tryd.f47, B47, 7, Tryd.func47, by kernel_rfl, by kernel_rfl, [], none⟩
noncomputable def B48 : Code := (Tryd.f48.body).getD .skip
noncomputable def F48 : Fun Tryd.prog := ⟨48, Tryd.f48, B48, 7, Tryd.func48, by kernel_rfl, by kernel_rfl, [], none⟩
noncomputable def B49 : Code := (Tryd.f49.body).getD .skip
noncomputable def F49 : Fun Tryd.prog := ⟨49, Tryd.f49, B49, 36, Tryd.func49, by kernel_rfl, by kernel_rfl, [], none⟩
noncomputable def B50 : Code := (Tryd.f50.body).getD .skip
noncomputable def F50 : Fun Tryd.prog := ⟨50, Tryd.f50, B50, 31, Tryd.func50, by kernel_rfl, by kernel_rfl, [], none⟩
noncomputable def B53 : Code := (Tryd.f53.body).getD .skip
noncomputable def F53 : Fun Tryd.prog := ⟨53, Tryd.f53, B53, 24, Tryd.func53, by kernel_rfl, by kernel_rfl, [], none⟩
noncomputable def B54 : Code := (Tryd.f54.body).getD .skip
noncomputable def F54 : Fun Tryd.prog := ⟨54, Tryd.f54, B54, 27, Tryd.func54, by kernel_rfl, by kernel_rfl, [], none⟩
noncomputable def B55 : Code := (Tryd.f55.body).getD .skip
noncomputable def F55 : Fun Tryd.prog := ⟨55, Tryd.f55, B55, 10, Tryd.func55, by kernel_rfl, by kernel_rfl, [], none⟩
noncomputable def B56 : Code := (Tryd.f56.body).getD .skip
noncomputable def F56 : Fun Tryd.prog := ⟨56, Tryd.f56, B56, 11, Tryd.func56, by kernel_rfl, by kernel_rfl, [], none⟩
noncomputable def B57 : Code := (Tryd.f57.body).getD .skip
noncomputable def F57 : Fun Tryd.prog := ⟨57, Tryd.f57, B57, 12, Tryd.func57, by kernel_rfl, by kernel_rfl, [], none⟩
noncomputable def B61 : Code := (Tryd.f61.body).getD .skip
noncomputable def F61 : Fun Tryd.prog := ⟨61, Tryd.f61, B61, 6, Tryd.func61, by kernel_rfl, by kernel_rfl, [], none⟩
noncomputable def B62 : Code := (Tryd.f62.body).getD .skip
noncomputable def F62 : Fun Tryd.prog := ⟨62, Tryd.f62, B62, 6, Tryd.func62, by kernel_rfl, by kernel_rfl, [], none⟩
noncomputable def B63 : Code := (Tryd.f63.body).getD .skip
noncomputable def F63 : Fun Tryd.prog := ⟨63, Tryd.f63, B63, 6, Tryd.func63, by kernel_rfl, by kernel_rfl, [], none⟩
noncomputable def B64 : Code := (Tryd.f64.body).getD .skip
noncomputable def F64 : Fun Tryd.prog := ⟨64, Tryd.f64, B64, 6, Tryd.func64, by kernel_rfl, by kernel_rfl, [], none⟩
noncomputable def B65 : Code := (Tryd.f65.body).getD .skip
noncomputable def F65 : Fun Tryd.prog := ⟨65, Tryd.f65, B65, 6, Tryd.func65, by kernel_rfl, by kernel_rfl, [], none⟩
noncomputable def B66 : Code := (Tryd.f66.body).getD .skip
noncomputable def F66 : Fun Tryd.prog := ⟨66, Tryd.f66, B66, 6, Tryd.func66, by kernel_rfl, by kernel_rfl, [], none⟩
noncomputable def B68 : Code := (Tryd.f68.body).getD .skip
noncomputable def F68 : Fun Tryd.prog := ⟨68, Tryd.f68, B68, 8, Tryd.func68, by kernel_rfl, by kernel_rfl, [], none⟩
noncomputable def B74 : Code := (Tryd.f74.body).getD .skip
noncomputable def F74 : Fun Tryd.prog := ⟨74, Tryd.f74, B74, 36, Tryd.func74, by kernel_rfl, by kernel_rfl, [], none⟩
noncomputable def B76 : Code := (Tryd.f76.body).getD .skip
noncomputable def F76 : Fun Tryd.prog := ⟨76, Tryd.f76, B76, 54, Tryd.func76, by kernel_rfl, by kernel_rfl, [], none⟩
noncomputable def B83 : Code := (Tryd.f83.body).getD .skip
noncomputable def F83 : Fun Tryd.prog := ⟨83, Tryd.f83, B83, 15, Tryd.func83, by kernel_rfl, by kernel_rfl, [], none⟩
noncomputable def B86 : Code := (Tryd.f86.body).getD .skip
noncomputable def F86 : Fun Tryd.prog := ⟨86, Tryd.f86, B86, 102, Tryd.func86, by kernel_rfl, by kernel_rfl, [], none⟩
noncomputable def B91 : Code := (Tryd.f91.body).getD .skip
noncomputable def F91 : Fun Tryd.prog := ⟨91, Tryd.f91, B91, 6, Tryd.func91, by kernel_rfl, by kernel_rfl, [], none⟩
noncomputable def B92 : Code := (Tryd.f92.body).getD .skip
noncomputable def F92 : Fun Tryd.prog := ⟨92, Tryd.f92, B92, 25, Tryd.func92, by kernel_rfl, by kernel_rfl, [], none⟩
noncomputable def B93 : Code := (Tryd.f93.body).getD .skip
noncomputable def F93 : Fun Tryd.prog := ⟨93, Tryd.f93, B93, 4, Tryd.func93, by kernel_rfl, by kernel_rfl, [], none⟩
noncomputable def B94 : Code := (Tryd.f94.body).getD .skip
noncomputable def F94 : Fun Tryd.prog := ⟨94, Tryd.f94, B94, 8, Tryd.func94, by kernel_rfl, by kernel_rfl, [], none⟩
noncomputable def B95 : Code := (Tryd.f95.body).getD .skip
noncomputable def F95 : Fun Tryd.prog := ⟨95, Tryd.f95, B95, 8, Tryd.func95, by kernel_rfl, by kernel_rfl, [], none⟩
noncomputable def B97 : Code := (Tryd.f97.body).getD .skip
noncomputable def F97 : Fun Tryd.prog := ⟨97, Tryd.f97, B97, 14, Tryd.func97, by kernel_rfl, by kernel_rfl, [], none⟩
def tab_2 : List Int := [1, 10, 100, 1000, 10000, 100000, 1000000, 10000000, 100000000, 1000000000, 10000000000, 100000000000, 1000000000000, 10000000000000, 100000000000000, 1000000000000000, 10000000000000000, 100000000000000000, 1000000000000000000, 10000000000000000000]
def en_2 : Int → List Value := fun x => [.int .u64 x]
def tab_4 : List Int := [0, 1, 28, 2, 29, 14, 24, 3, 30, 22, 20, 15, 25, 17, 4, 8, 31, 27, 13, 23, 21, 19, 16, 7, 26, 12, 18, 6, 11, 5, 10, 9]
def en_4 : Int → List Value := fun x => [.int .u8 x]
def tab_5 : List Int := [0, 1, 56, 2, 57, 49, 28, 3, 61, 58, 42, 50, 38, 29, 17, 4, 62, 47, 59, 36, 45, 43, 51, 22, 53, 39, 33, 30, 24, 18, 12, 5, 63, 55, 48, 27, 60, 41, 37, 16, 46, 35, 44, 21, 52, 32, 23, 11, 54, 26, 40, 15, 34, 20, 31, 10, 25, 14, 19, 9, 13, 8, 7, 6]
def en_5 : Int → List Value := fun x => [.int .u8 x]

/-! ### charabanc/bits.Hi (function 45) -/
section
def bits_Hi_45.post (M0 : Nat → Prop) (w0 : World) (r : Int) : Ending → World → Prop := fun e w => e = .returned (.int .u8 r) ∧ Below w0.heap.size w0 w
def bits_Hi_45.f (K : Nat) (p0 : Int) : Option Int := some (IntKind.wrap .u8 (Int.fdiv p0 (2 ^ 8)))
set_option maxRecDepth 100000 in
theorem bits_Hi_45_ok (K : Nat) (M0 : Nat → Prop) (w0 : World) (p0 : Int) (ho : ∀ b, M0 b → b < w0.heap.size) {r : Int} (h : bits_Hi_45.f K p0 = some r) :
    Calls Tryd.prog 45 #[.int .u16 p0] w0 (bits_Hi_45.post M0 w0 r) := by
  unfold bits_Hi_45.f at h
  have h0 : Holds M0 w0 w0 [] := Holds.start ho
  have h0 : Holds M0 w0 w0 [] := h0
  refine calls_of F45 rfl [.int .u16 p0] (by kernel_rfl) ?_
  refine RunsI.go 1 [.c 1, .c 2] (by kernel_rfl) ?_
  refine RunsI.region (by kernel_rfl) ?_
  refine RegI.pure 1 [0] [(0, .int .u16 p0)] (by kernel_rfl) ?_
  refine RegI.done (by kernel_rfl) ?_
  refine RunsI.go 1 [.c 3, .c 4] (by kernel_rfl) ?_
  refine RunsI.region (by kernel_rfl) ?_
  refine RegI.pure 4 [2] [(2, .int .u8 (IntKind.wrap .u8 (Int.fdiv p0 (2 ^ 8))))] (by kernel_rfl) ?_
  refine RegI.done (by kernel_rfl) ?_
  refine RunsI.ret (.int .u8 (IntKind.wrap .u8 (Int.fdiv p0 (2 ^ 8)))) (by kernel_rfl) (by kernel_rfl) ?_
  obtain rfl := Option.some.inj h
  exact ⟨rfl, h0.below⟩
end

/-! ### charabanc/bits.Lo (function 46) -/
section
def bits_Lo_46.post (M0 : Nat → Prop) (w0 : World) (r : Int) : Ending → World → Prop := fun e w => e = .returned (.int .u8 r) ∧ Below w0.heap.size w0 w
def bits_Lo_46.f (K : Nat) (p0 : Int) : Option Int := some (IntKind.wrap .u8 p0)
set_option maxRecDepth 100000 in
theorem bits_Lo_46_ok (K : Nat) (M0 : Nat → Prop) (w0 : World) (p0 : Int) (ho : ∀ b, M0 b → b < w0.heap.size) {r : Int} (h : bits_Lo_46.f K p0 = some r) :
    Calls Tryd.prog 46 #[.int .u16 p0] w0 (bits_Lo_46.post M0 w0 r) := by
  unfold bits_Lo_46.f at h
  have h0 : Holds M0 w0 w0 [] := Holds.start ho
  have h0 : Holds M0 w0 w0 [] := h0
  refine calls_of F46 rfl [.int .u16 p0] (by kernel_rfl) ?_
  refine RunsI.go 1 [.c 1, .c 2] (by kernel_rfl) ?_
  refine RunsI.region (by kernel_rfl) ?_
  refine RegI.pure 1 [0] [(0, .int .u16 p0)] (by kernel_rfl) ?_
  refine RegI.done (by kernel_rfl) ?_
  refine RunsI.go 1 [.c 3, .c 4] (by kernel_rfl) ?_
  refine RunsI.region (by kernel_rfl) ?_
  refine RegI.pure 3 [2] [(2, .int .u8 (IntKind.wrap .u8 p0))] (by kernel_rfl) ?_
  refine RegI.done (by kernel_rfl) ?_
  refine RunsI.ret (.int .u8 (IntKind.wrap .u8 p0)) (by kernel_rfl) (by kernel_rfl) ?_
  obtain rfl := Option.some.inj h
  exact ⟨rfl, h0.below⟩
end

/-! ### charabanc/regs.Get (function 24) -/
section
def regs_Get_24.post (M0 : Nat → Prop) (w0 : World) (r : Int) : Ending → World → Prop := fun e w => e = .returned (.int .u8 r) ∧ Below w0.heap.size w0 w
def regs_Get_24.f (K : Nat) (p0_0 : Int) (p0_1 : Int) (p0_2 : Int) (p0_3 : Int) (p0_4 : Int) (p0_5 : Int) (p0_6 : Int) (p0_7 : Int) (p0_8 : Int) (p0_9 : Int) (p0_10 : Int) (p0_11 : Int) (p0_12 : Int) (p0_13 : Int) (p0_14 : Int) (p0_15 : Bool) (p0_16 : Bool) (p0_17 : Bool) (p0_18 : Bool) (p0_19 : Int) (p1 : Int) (p2 : Int) : Option Int := Let (fun (t68 : Bool) => some 0) (fun j71 => cond (p2 == 7) ((bits_Hi_45.f K p0_0).bind fun t67 => some t67) (Let (fun (t16 : Bool) => cond t16 (j71 false) (Let (fun (_ : Unit) => cond ((Int.fdiv p2 (2 ^ 1)) == 0) (cond ((band .i64 p2 1) == 0) ((bits_Hi_45.f K p0_1).bind fun t101 => some t101) ((bits_Lo_46.f K p0_1).bind fun t106 => some t106)) (cond ((Int.fdiv p2 (2 ^ 1)) == 1) (cond ((band .i64 p2 1) == 0) ((bits_Hi_45.f K p0_2).bind fun t112 => some t112) ((bits_Lo_46.f K p0_2).bind fun t117 => some t117)) (cond ((Int.fdiv p2 (2 ^ 1)) == 2) (cond ((band .i64 p2 1) == 0) ((bits_Hi_45.f K p0_3).bind fun t123 => some t123) ((bits_Lo_46.f K p0_3).bind fun t128 => some t128)) (cond ((Int.fdiv p2 (2 ^ 1)) == 3) (cond ((band .i64 p2 1) == 0) ((bits_Hi_45.f K p0_10).bind fun t134 => some t134) ((bits_Lo_46.f K p0_10).bind fun t139 => some t139)) (j71 ((band .i64 p2 1) == 0)))))) (fun j39 => cond ((Int.fdiv p2 (2 ^ 1)) == 2) (cond (p1 == 3) (cond ((band .i64 p2 1) == 0) ((bits_Hi_45.f K p0_8).bind fun t79 => some t79) ((bits_Lo_46.f K p0_8).bind fun t84 => some t84)) (cond (p1 == 4) (cond ((band .i64 p2 1) == 0) ((bits_Hi_45.f K p0_9).bind fun t90 => some t90) ((bits_Lo_46.f K p0_9).bind fun t95 => some t95)) (j39 ()))) (j39 ())))) (fun j19 => cond (decide (p2 < 0)) (j19 true) (j19 (decide (p2 > 5))))))
set_option maxRecDepth 100000 in
theorem regs_Get_24_ok (K : Nat) (M0 : Nat → Prop) (w0 : World) (p0_0 : Int) (p0_1 : Int) (p0_2 : Int) (p0_3 : Int) (p0_4 : Int) (p0_5 : Int) (p0_6 : Int) (p0_7 : Int) (p0_8 : Int) (p0_9 : Int) (p0_10 : Int) (p0_11 : Int) (p0_12 : Int) (p0_13 : Int) (p0_14 : Int) (p0_15 : Bool) (p0_16 : Bool) (p0_17 : Bool) (p0_18 : Bool) (p0_19 : Int) (p1 : Int) (p2 : Int) (ho : ∀ b, M0 b → b < w0.heap.size) {r : Int} (h : regs_Get_24.f K p0_0 p0_1 p0_2 p0_3 p0_4 p0_5 p0_6 p0_7 p0_8 p0_9 p0_10 p0_11 p0_12 p0_13 p0_14 p0_15 p0_16 p0_17 p0_18 p0_19 p1 p2 = some r) :
    Calls Tryd.prog 24 #[.agg #[.int .u16 p0_0, .int .u16 p0_1, .int .u16 p0_2, .int .u16 p0_3, .int .u16 p0_4, .int .u16 p0_5, .int .u16 p0_6, .int .u16 p0_7, .int .u16 p0_8, .int .u16 p0_9, .int .u16 p0_10, .int .u16 p0_11, .int .u16 p0_12, .int .u8 p0_13, .int .u8 p0_14, .bool p0_15, .bool p0_16, .bool p0_17, .bool p0_18, .int .i64 p0_19], .int .i64 p1, .int .i64 p2] w0 (regs_Get_24.post M0 w0 r) := by
  unfold regs_Get_24.f at h
  have h0 : Holds M0 w0 w0 [] := Holds.start ho
  have h0 : Holds M0 w0 w0 [] := h0
  refine calls_of F24 rfl [.agg #[.int .u16 p0_0, .int .u16 p0_1, .int .u16 p0_2, .int .u16 p0_3, .int .u16 p0_4, .int .u16 p0_5, .int .u16 p0_6, .int .u16 p0_7, .int .u16 p0_8, .int .u16 p0_9, .int .u16 p0_10, .int .u16 p0_11, .int .u16 p0_12, .int .u8 p0_13, .int .u8 p0_14, .bool p0_15, .bool p0_16, .bool p0_17, .bool p0_18, .int .i64 p0_19], .int .i64 p1, .int .i64 p2] (by kernel_rfl) ?_
  refine RunsI.go 1 [.c 1, .c 2] (by kernel_rfl) ?_
  refine RunsI.region (by kernel_rfl) ?_
  refine RegI.op (by kernel_rfl) (OpE.box 3 46 [.int .u16 p0_0, .int .u16 p0_1, .int .u16 p0_2, .int .u16 p0_3, .int .u16 p0_4, .int .u16 p0_5, .int .u16 p0_6, .int .u16 p0_7, .int .u16 p0_8, .int .u16 p0_9, .int .u16 p0_10, .int .u16 p0_11, .int .u16 p0_12, .int .u8 p0_13, .int .u8 p0_14, .bool p0_15, .bool p0_16, .bool p0_17, .bool p0_18, .int .i64 p0_19] h0 (by kernel_rfl) (by kernel_rfl) ?_)
  intro w1 b2 h3 hb4 hn5
  refine RegI.pure 1 [1, 2, 3] [(1, .int .i64 p1), (2, .int .i64 p2), (3, .pointer (some ⟨b2, 0, none⟩))] (by kernel_rfl) ?_
  refine RegI.done (by kernel_rfl) ?_
  refine RunsI.go 1 [.c 3, .c 4] (by kernel_rfl) ?_
  refine RunsI.region (by kernel_rfl) ?_
  refine RegI.op (by kernel_rfl) (OpE.loadBox 10 0 46 b2 0 (.agg #[.int .u16 p0_0, .int .u16 p0_1, .int .u16 p0_2, .int .u16 p0_3, .int .u16 p0_4, .int .u16 p0_5, .int .u16 p0_6, .int .u16 p0_7, .int .u16 p0_8, .int .u16 p0_9, .int .u16 p0_10, .int .u16 p0_11, .int .u16 p0_12, .int .u8 p0_13, .int .u8 p0_14, .bool p0_15, .bool p0_16, .bool p0_17, .bool p0_18, .int .i64 p0_19]) h3 (by kernel_rfl) (by kernel_rfl) rfl (by kernel_rfl) ?_)
  refine RegI.op (by kernel_rfl) (OpE.box 7 64 [.int .u16 0, .int .u16 0, .int .u16 0, .int .u16 0, .int .u16 0, .int .u16 0, .int .u16 0, .int .u16 0, .int .u16 0, .int .u16 0, .int .u16 0, .int .u16 0, .int .u16 0, .int .u8 0, .int .u8 0, .bool false, .bool false, .bool false, .bool false, .int .i64 0] h3 (by kernel_rfl) (by kernel_rfl) ?_)
  intro w6 b7 h8 hb9 hn10
  refine RegI.op (by kernel_rfl) (OpE.storeBox 1 64 b7 0 (.agg #[.int .u16 p0_0, .int .u16 p0_1, .int .u16 p0_2, .int .u16 p0_3, .int .u16 p0_4, .int .u16 p0_5, .int .u16 p0_6, .int .u16 p0_7, .int .u16 p0_8, .int .u16 p0_9, .int .u16 p0_10, .int .u16 p0_11, .int .u16 p0_12, .int .u8 p0_13, .int .u8 p0_14, .bool p0_15, .bool p0_16, .bool p0_17, .bool p0_18, .int .i64 p0_19]) [.int .u16 p0_0, .int .u16 p0_1, .int .u16 p0_2, .int .u16 p0_3, .int .u16 p0_4, .int .u16 p0_5, .int .u16 p0_6, .int .u16 p0_7, .int .u16 p0_8, .int .u16 p0_9, .int .u16 p0_10, .int .u16 p0_11, .int .u16 p0_12, .int .u8 p0_13, .int .u8 p0_14, .bool p0_15, .bool p0_16, .bool p0_17, .bool p0_18, .int .i64 p0_19] h8 (by kernel_rfl) (by kernel_rfl) rfl (by kernel_rfl) (by kernel_rfl) (by kernel_rfl) ?_)
  intro w11 h12 hk13
  refine RegI.done (by kernel_rfl) ?_
  refine RunsI.go 1 [.c 5, .c 6] (by kernel_rfl) ?_
  refine RunsI.region (by kernel_rfl) ?_
  refine RegI.pure 2 [7, 12, 13] [(7, .pointer (some ⟨b7, 0, none⟩)), (12, .int .i64 p1), (13, .int .i64 p2)] (by kernel_rfl) ?_
  refine RegI.enter 14 [] [] (by kernel_rfl) (by kernel_rfl) (by kernel_rfl) (by kernel_rfl) F44 44 rfl [.pointer (some ⟨b7, 0, none⟩), .int .i64 p1, .int .i64 p2] (by kernel_rfl) (by kernel_rfl) ?_
  obtain ⟨j71, hJ72, h⟩ := of_let h
  have hj73 : ∀ (t68 : Bool) (w70 : World), j71 t68 = some r → Holds M0 w0 w70 [] → RegI F24 5 [.c 6] 3 [(14, .tuple #[.pointer none, .bool t68])] w70 (regs_Get_24.post M0 w0 r) := by
    intro t68 w70 h h69
    rw [hJ72] at h
    clear hJ72
    dsimp only at h
    refine RegI.pure 5 [8, 9] [(8, .pointer none), (9, .bool t68)] (by kernel_rfl) ?_
    refine RegI.done (by kernel_rfl) ?_
    refine RunsI.go 3 [.c 9, .c 10, .blk 0, .c 21] (by kernel_rfl) ?_
    refine RunsI.region (by kernel_rfl) ?_
    refine RegI.pure 3 [8, 9, 17] [(8, .pointer none), (9, .bool t68), (17, .bool true)] (by kernel_rfl) ?_
    refine RegI.done (by kernel_rfl) ?_
    refine RunsI.cond true 11 (by kernel_rfl) ?_
    refine RunsI.go 1 [.c 12, .c 13, .blk 0, .c 21] (by kernel_rfl) ?_
    refine RunsI.region (by kernel_rfl) ?_
    refine RegI.pure 1 [6] [(6, .int .u8 0)] (by kernel_rfl) ?_
    refine RegI.done (by kernel_rfl) ?_
    refine RunsI.ret (.int .u8 0) (by kernel_rfl) (by kernel_rfl) ?_
    obtain rfl := Option.some.inj h
    exact ⟨rfl, h69.below⟩
  clear hJ72
  refine RunsI.go 1 [.c 1, .c 2] (by kernel_rfl) ?_
  refine RunsI.region (by kernel_rfl) ?_
  refine RegI.pure 2 [0, 1, 2] [(0, .pointer (some ⟨b7, 0, none⟩)), (1, .int .i64 p1), (2, .int .i64 p2)] (by kernel_rfl) ?_
  refine RegI.done (by kernel_rfl) ?_
  refine RunsI.go 3 [.c 5, .c 6, .blk 0, .c 17] (by kernel_rfl) ?_
  refine RunsI.region (by kernel_rfl) ?_
  refine RegI.pure 3 [0, 1, 2, 8] [(0, .pointer (some ⟨b7, 0, none⟩)), (1, .int .i64 p1), (2, .int .i64 p2), (8, .bool (p2 == 7))] (by kernel_rfl) ?_
  refine RegI.done (by kernel_rfl) ?_
  rcases of_cond h with ⟨hc14, h⟩ | ⟨hc14, h⟩
  · skip
    refine RunsI.fix 8 true hc14 (by kernel_rfl) (by kernel_rfl) ?_
    refine RunsI.cond true 7 (by kernel_rfl) ?_
    refine RunsI.go 1 [.c 8, .c 9, .blk 0, .c 17] (by kernel_rfl) ?_
    refine RunsI.region (by kernel_rfl) ?_
    refine RegI.pure 5 [6, 7] [(6, .pointer (some ⟨b7, 0, none⟩)), (7, .bool true)] (by kernel_rfl) ?_
    refine RegI.done (by kernel_rfl) ?_
    refine RunsI.ret (.tuple #[.pointer (some ⟨b7, 0, none⟩), .bool true]) (by kernel_rfl) (by kernel_rfl) ?_
    refine cont_mk ?_
    refine RegI.pure 5 [8, 9] [(8, .pointer (some ⟨b7, 0, none⟩)), (9, .bool true)] (by kernel_rfl) ?_
    refine RegI.done (by kernel_rfl) ?_
    refine RunsI.go 3 [.c 9, .c 10, .blk 0, .c 21] (by kernel_rfl) ?_
    refine RunsI.region (by kernel_rfl) ?_
    refine RegI.pure 3 [8, 9, 17] [(8, .pointer (some ⟨b7, 0, none⟩)), (9, .bool true), (17, .bool false)] (by kernel_rfl) ?_
    refine RegI.done (by kernel_rfl) ?_
    refine RunsI.cond false 14 (by kernel_rfl) ?_
    refine RunsI.go 1 [.c 15, .c 16, .blk 0, .c 21] (by kernel_rfl) ?_
    refine RunsI.region (by kernel_rfl) ?_
    refine RegI.pure 2 [8, 20] [(8, .pointer (some ⟨b7, 0, none⟩)), (20, .bool true)] (by kernel_rfl) ?_
    refine RegI.done (by kernel_rfl) ?_
    refine RunsI.cond true 17 (by kernel_rfl) ?_
    refine RunsI.go 1 [.c 18, .c 19, .blk 0, .c 21] (by kernel_rfl) ?_
    refine RunsI.region (by kernel_rfl) ?_
    refine RegI.pure 2 [23] [(23, .pointer (some ⟨b7, 0, none⟩))] (by kernel_rfl) ?_
    refine RegI.op (by kernel_rfl) (OpE.loadBox 24 1 22 b7 0 (.int .u16 p0_0) h12 (by kernel_rfl) (by kernel_rfl) rfl (by kernel_rfl) ?_)
    obtain ⟨t67, hg66, h⟩ := of_bind h
    refine RegI.op (by kernel_rfl) (OpE.call 25 (by kernel_rfl) 45 #[.int .u16 p0_0] (by kernel_rfl) ((bits_Hi_45_ok K _ w11  p0_0 h12.old' hg66).mono ?_))
    rintro _ w63 ⟨rfl, hb64⟩
    refine ⟨_, rfl, ?_⟩
    have h65 := h12.call hb64
    refine RegI.pure 1 [6] [(6, .int .u8 t67)] (by kernel_rfl) ?_
    refine RegI.done (by kernel_rfl) ?_
    refine RunsI.ret (.int .u8 t67) (by kernel_rfl) (by kernel_rfl) ?_
    obtain rfl := Option.some.inj h
    exact ⟨rfl, h65.below⟩
  · skip
    refine RunsI.fix 8 false hc14 (by kernel_rfl) (by kernel_rfl) ?_
    refine RunsI.cond false 10 (by kernel_rfl) ?_
    refine RunsI.go 1 [.c 11, .c 12, .blk 0, .c 17] (by kernel_rfl) ?_
    refine RunsI.region (by kernel_rfl) ?_
    refine RegI.pure 3 [0, 1, 2, 17] [(0, .pointer (some ⟨b7, 0, none⟩)), (1, .int .i64 p1), (2, .int .i64 p2), (17, .bool (decide (p2 < 0)))] (by kernel_rfl) ?_
    obtain ⟨j19, hJ20, h⟩ := of_let h
    have hj21 : ∀ (t16 : Bool) (w18 : World), j19 t16 = some r → Holds M0 w0 w18 [box b7 64 [.int .u16 p0_0, .int .u16 p0_1, .int .u16 p0_2, .int .u16 p0_3, .int .u16 p0_4, .int .u16 p0_5, .int .u16 p0_6, .int .u16 p0_7, .int .u16 p0_8, .int .u16 p0_9, .int .u16 p0_10, .int .u16 p0_11, .int .u16 p0_12, .int .u8 p0_13, .int .u8 p0_14, .bool p0_15, .bool p0_16, .bool p0_17, .bool p0_18, .int .i64 p0_19]] → RegI F44 11 [.c 12, .blk 0, .c 17] 7 [(0, .pointer (some ⟨b7, 0, none⟩)), (1, .int .i64 p1), (2, .int .i64 p2), (14, .bool t16)] w18 (cont (fun e' w' => RegI F24 5 [.c 6] 3 e' w' (regs_Get_24.post M0 w0 r)) 14 []) := by
      intro t16 w18 h h17
      rw [hJ20] at h
      clear hJ20
      dsimp only at h
      refine RegI.done (by kernel_rfl) ?_
      rcases of_cond h with ⟨hc22, h⟩ | ⟨hc22, h⟩
      · skip
        refine RunsI.fix 14 true hc22 (by kernel_rfl) (by kernel_rfl) ?_
        refine RunsI.cond true 13 (by kernel_rfl) ?_
        refine RunsI.go 1 [.c 14, .c 15, .blk 0, .c 17] (by kernel_rfl) ?_
        refine RunsI.region (by kernel_rfl) ?_
        refine RegI.pure 2 [6, 7] [(6, .pointer none), (7, .bool false)] (by kernel_rfl) ?_
        refine RegI.done (by kernel_rfl) ?_
        refine RunsI.ret (.tuple #[.pointer none, .bool false]) (by kernel_rfl) (by kernel_rfl) ?_
        refine cont_mk ?_
        refine RegI.only [14] [(14, .tuple #[.pointer none, .bool false])] (by kernel_rfl) (by kernel_rfl) ?_
        exact hj73 false w18 h (h17.pick [] (by decide))
      · skip
        refine RunsI.fix 14 false hc22 (by kernel_rfl) (by kernel_rfl) ?_
        refine RunsI.cond false 16 (by kernel_rfl) ?_
        refine RunsI.go 1 [.blk 0, .c 17] (by kernel_rfl) ?_
        refine RunsI.go 2 [.c 18, .c 19] (by kernel_rfl) ?_
        refine RunsI.region (by kernel_rfl) ?_
        refine RegI.pure 4 [2, 21, 22, 24] [(2, .int .i64 p2), (21, .pointer (some ⟨b7, 0, none⟩)), (22, .int .i64 p1), (24, .int .i64 (Int.fdiv p2 (2 ^ 1)))] (by kernel_rfl) ?_
        refine RegI.enter 25 [2] [(2, .int .i64 p2)] (by kernel_rfl) (by kernel_rfl) (by kernel_rfl) (by kernel_rfl) F49 49 rfl [.pointer (some ⟨b7, 0, none⟩), .int .i64 p1, .int .i64 (Int.fdiv p2 (2 ^ 1))] (by kernel_rfl) (by kernel_rfl) ?_
        refine RunsI.go 1 [.c 1, .c 2] (by kernel_rfl) ?_
        refine RunsI.region (by kernel_rfl) ?_
        refine RegI.pure 1 [0, 1, 2] [(0, .pointer (some ⟨b7, 0, none⟩)), (1, .int .i64 p1), (2, .int .i64 (Int.fdiv p2 (2 ^ 1)))] (by kernel_rfl) ?_
        refine RegI.done (by kernel_rfl) ?_
        refine RunsI.go 2 [.c 4, .c 5, .c 16] (by kernel_rfl) ?_
        refine RunsI.region (by kernel_rfl) ?_
        refine RegI.pure 2 [0, 1, 2, 12] [(0, .pointer (some ⟨b7, 0, none⟩)), (1, .int .i64 p1), (2, .int .i64 (Int.fdiv p2 (2 ^ 1))), (12, .bool ((Int.fdiv p2 (2 ^ 1)) == 2))] (by kernel_rfl) ?_
        refine RegI.done (by kernel_rfl) ?_
        obtain ⟨j39, hJ40, h⟩ := of_let h
        have hj41 : ∀ (w38 : World), j39 () = some r → Holds M0 w0 w38 [box b7 64 [.int .u16 p0_0, .int .u16 p0_1, .int .u16 p0_2, .int .u16 p0_3, .int .u16 p0_4, .int .u16 p0_5, .int .u16 p0_6, .int .u16 p0_7, .int .u16 p0_8, .int .u16 p0_9, .int .u16 p0_10, .int .u16 p0_11, .int .u16 p0_12, .int .u8 p0_13, .int .u8 p0_14, .bool p0_15, .bool p0_16, .bool p0_17, .bool p0_18, .int .i64 p0_19]] → RunsI F49 [.c 16] [(0, .pointer (some ⟨b7, 0, none⟩)), (2, .int .i64 (Int.fdiv p2 (2 ^ 1)))] w38 (cont (fun e' w' => RegI F44 18 [.c 19] 5 e' w' (cont (fun e' w' => RegI F24 5 [.c 6] 3 e' w' (regs_Get_24.post M0 w0 r)) 14 [])) 25 [(2, .int .i64 p2)]) := by
          intro w38 h h37
          rw [hJ40] at h
          clear hJ40
          dsimp only at h
          refine RunsI.go 1 [.c 17, .c 18] (by kernel_rfl) ?_
          refine RunsI.region (by kernel_rfl) ?_
          refine RegI.op (by kernel_rfl) (OpE.makeMap 25 (ekI .i64) (fun (v : Value) => v) h37 (by kernel_rfl) (by kernel_rfl) ?_)
          intro w42 b43 h44 hb45 hn46
          refine RegI.op (by kernel_rfl) (OpE.mapSet (ek := (ekI .i64)) (ev := (fun (v : Value) => v)) 1 85 3 82 0 (.func (.func 63) #[] #[]) h44 (by kernel_rfl) rfl (by kernel_rfl) rfl rfl (by kernel_rfl) (KeyOk.int .i64 (by kernel_rfl)) [(0, .func (.func 63) #[] #[])] (by kernel_rfl) ?_)
          intro w47 h48 hk49
          refine RegI.op (by kernel_rfl) (OpE.mapSet (ek := (ekI .i64)) (ev := (fun (v : Value) => v)) 1 85 3 82 1 (.func (.func 64) #[] #[]) h48 (by kernel_rfl) rfl (by kernel_rfl) rfl rfl (by kernel_rfl) (KeyOk.int .i64 (by kernel_rfl)) [(0, .func (.func 63) #[] #[]), (1, .func (.func 64) #[] #[])] (by kernel_rfl) ?_)
          intro w50 h51 hk52
          refine RegI.op (by kernel_rfl) (OpE.mapSet (ek := (ekI .i64)) (ev := (fun (v : Value) => v)) 1 85 3 82 2 (.func (.func 65) #[] #[]) h51 (by kernel_rfl) rfl (by kernel_rfl) rfl rfl (by kernel_rfl) (KeyOk.int .i64 (by kernel_rfl)) [(0, .func (.func 63) #[] #[]), (1, .func (.func 64) #[] #[]), (2, .func (.func 65) #[] #[])] (by kernel_rfl) ?_)
          intro w53 h54 hk55
          refine RegI.op (by kernel_rfl) (OpE.mapSet (ek := (ekI .i64)) (ev := (fun (v : Value) => v)) 1 85 3 82 3 (.func (.func 66) #[] #[]) h54 (by kernel_rfl) rfl (by kernel_rfl) rfl rfl (by kernel_rfl) (KeyOk.int .i64 (by kernel_rfl)) [(0, .func (.func 63) #[] #[]), (1, .func (.func 64) #[] #[]), (2, .func (.func 65) #[] #[]), (3, .func (.func 66) #[] #[])] (by kernel_rfl) ?_)
          intro w56 h57 hk58
          refine RegI.pure 2 [0, 26, 27] [(0, .pointer (some ⟨b7, 0, none⟩)), (26, .map (some b43)), (27, .int .i64 (Int.fdiv p2 (2 ^ 1)))] (by kernel_rfl) ?_
          rcases of_cond h with ⟨hc59, h⟩ | ⟨hc59, h⟩
          · skip
            refine RegI.op (by kernel_rfl) (OpE.lookup (ek := (ekI .i64)) (ev := (fun (v : Value) => v)) (zv := .nilFunc) 28 1 85 3 82 (Int.fdiv p2 (2 ^ 1)) (.tuple #[.func (.func 63) #[] #[], .bool true]) true h57 (by kernel_rfl) rfl (by kernel_rfl) rfl (by kernel_rfl) (KeyOk.int .i64 (by kernel_rfl)) (fun _ => by kernel_rfl) (by simp only [findK, hc59, cond_true, cond_false, Option.map_some, Option.map_none, Option.getD_some, Option.getD_none, Option.isSome_some, Option.isSome_none]) ?_)
            refine RegI.pure 5 [0, 9, 10] [(0, .pointer (some ⟨b7, 0, none⟩)), (9, .func (.func 63) #[] #[]), (10, .bool true)] (by kernel_rfl) ?_
            refine RegI.done (by kernel_rfl) ?_
            refine RunsI.go 2 [.c 20, .c 21, .c 26] (by kernel_rfl) ?_
            refine RunsI.region (by kernel_rfl) ?_
            refine RegI.pure 2 [0, 9, 32] [(0, .pointer (some ⟨b7, 0, none⟩)), (9, .func (.func 63) #[] #[]), (32, .bool false)] (by kernel_rfl) ?_
            refine RegI.done (by kernel_rfl) ?_
            refine RunsI.cond false 25 (by kernel_rfl) ?_
            refine RunsI.go 2 [.c 27, .c 28] (by kernel_rfl) ?_
            refine RunsI.region (by kernel_rfl) ?_
            refine RegI.pure 2 [33, 34] [(33, .func (.func 63) #[] #[]), (34, .pointer (some ⟨b7, 0, none⟩))] (by kernel_rfl) ?_
            refine RegI.enter 35 [] [] (by kernel_rfl) (by kernel_rfl) (by kernel_rfl) (by kernel_rfl) F63 63 rfl [.pointer (some ⟨b7, 0, none⟩)] (by kernel_rfl) (by kernel_rfl) ?_
            refine RunsI.go 1 [.c 1, .c 2] (by kernel_rfl) ?_
            refine RunsI.region (by kernel_rfl) ?_
            refine RegI.pure 1 [0] [(0, .pointer (some ⟨b7, 0, none⟩))] (by kernel_rfl) ?_
            refine RegI.done (by kernel_rfl) ?_
            refine RunsI.go 1 [.c 3, .c 4] (by kernel_rfl) ?_
            refine RunsI.region (by kernel_rfl) ?_
            refine RegI.pure 4 [2] [(2, .pointer (some ⟨b7, 1, none⟩))] (by kernel_rfl) ?_
            refine RegI.done (by kernel_rfl) ?_
            refine RunsI.ret (.pointer (some ⟨b7, 1, none⟩)) (by kernel_rfl) (by kernel_rfl) ?_
            refine cont_mk ?_
            refine RegI.pure 1 [6] [(6, .pointer (some ⟨b7, 1, none⟩))] (by kernel_rfl) ?_
            refine RegI.done (by kernel_rfl) ?_
            refine RunsI.ret (.pointer (some ⟨b7, 1, none⟩)) (by kernel_rfl) (by kernel_rfl) ?_
            refine cont_mk ?_
            refine RegI.pure 5 [6, 7] [(6, .pointer (some ⟨b7, 1, none⟩)), (7, .bool ((band .i64 p2 1) == 0))] (by kernel_rfl) ?_
            refine RegI.done (by kernel_rfl) ?_
            refine RunsI.ret (.tuple #[.pointer (some ⟨b7, 1, none⟩), .bool ((band .i64 p2 1) == 0)]) (by kernel_rfl) (by kernel_rfl) ?_
            refine cont_mk ?_
            refine RegI.pure 5 [8, 9] [(8, .pointer (some ⟨b7, 1, none⟩)), (9, .bool ((band .i64 p2 1) == 0))] (by kernel_rfl) ?_
            refine RegI.done (by kernel_rfl) ?_
            refine RunsI.go 3 [.c 9, .c 10, .blk 0, .c 21] (by kernel_rfl) ?_
            refine RunsI.region (by kernel_rfl) ?_
            refine RegI.pure 3 [8, 9, 17] [(8, .pointer (some ⟨b7, 1, none⟩)), (9, .bool ((band .i64 p2 1) == 0)), (17, .bool false)] (by kernel_rfl) ?_
            refine RegI.done (by kernel_rfl) ?_
            refine RunsI.cond false 14 (by kernel_rfl) ?_
            refine RunsI.go 1 [.c 15, .c 16, .blk 0, .c 21] (by kernel_rfl) ?_
            refine RunsI.region (by kernel_rfl) ?_
            refine RegI.pure 2 [8, 20] [(8, .pointer (some ⟨b7, 1, none⟩)), (20, .bool ((band .i64 p2 1) == 0))] (by kernel_rfl) ?_
            refine RegI.done (by kernel_rfl) ?_
            rcases of_cond h with ⟨hc96, h⟩ | ⟨hc96, h⟩
            · skip
              refine RunsI.fix 20 true hc96 (by kernel_rfl) (by kernel_rfl) ?_
              refine RunsI.cond true 17 (by kernel_rfl) ?_
              refine RunsI.go 1 [.c 18, .c 19, .blk 0, .c 21] (by kernel_rfl) ?_
              refine RunsI.region (by kernel_rfl) ?_
              refine RegI.pure 2 [23] [(23, .pointer (some ⟨b7, 1, none⟩))] (by kernel_rfl) ?_
              refine RegI.op (by kernel_rfl) (OpE.loadBox 24 0 22 b7 1 (.int .u16 p0_1) h57 (by kernel_rfl) (by kernel_rfl) rfl (by kernel_rfl) ?_)
              obtain ⟨t101, hg100, h⟩ := of_bind h
              refine RegI.op (by kernel_rfl) (OpE.call 25 (by kernel_rfl) 45 #[.int .u16 p0_1] (by kernel_rfl) ((bits_Hi_45_ok K _ w56  p0_1 h57.old' hg100).mono ?_))
              rintro _ w97 ⟨rfl, hb98⟩
              refine ⟨_, rfl, ?_⟩
              have h99 := h57.call hb98
              refine RegI.pure 1 [6] [(6, .int .u8 t101)] (by kernel_rfl) ?_
              refine RegI.done (by kernel_rfl) ?_
              refine RunsI.ret (.int .u8 t101) (by kernel_rfl) (by kernel_rfl) ?_
              obtain rfl := Option.some.inj h
              exact ⟨rfl, h99.below⟩
            · skip
              refine RunsI.fix 20 false hc96 (by kernel_rfl) (by kernel_rfl) ?_
              refine RunsI.cond false 20 (by kernel_rfl) ?_
              refine RunsI.go 1 [.blk 0, .c 21] (by kernel_rfl) ?_
              refine RunsI.go 2 [.c 22, .c 23] (by kernel_rfl) ?_
              refine RunsI.region (by kernel_rfl) ?_
              refine RegI.pure 2 [27] [(27, .pointer (some ⟨b7, 1, none⟩))] (by kernel_rfl) ?_
              refine RegI.op (by kernel_rfl) (OpE.loadBox 28 0 22 b7 1 (.int .u16 p0_1) h57 (by kernel_rfl) (by kernel_rfl) rfl (by kernel_rfl) ?_)
              obtain ⟨t106, hg105, h⟩ := of_bind h
              refine RegI.op (by kernel_rfl) (OpE.call 29 (by kernel_rfl) 46 #[.int .u16 p0_1] (by kernel_rfl) ((bits_Lo_46_ok K _ w56  p0_1 h57.old' hg105).mono ?_))
              rintro _ w102 ⟨rfl, hb103⟩
              refine ⟨_, rfl, ?_⟩
              have h104 := h57.call hb103
              refine RegI.pure 1 [6] [(6, .int .u8 t106)] (by kernel_rfl) ?_
              refine RegI.done (by kernel_rfl) ?_
              refine RunsI.ret (.int .u8 t106) (by kernel_rfl) (by kernel_rfl) ?_
              obtain rfl := Option.some.inj h
              exact ⟨rfl, h104.below⟩
          · skip
            rcases of_cond h with ⟨hc60, h⟩ | ⟨hc60, h⟩
            · skip
              refine RegI.op (by kernel_rfl) (OpE.lookup (ek := (ekI .i64)) (ev := (fun (v : Value) => v)) (zv := .nilFunc) 28 1 85 3 82 (Int.fdiv p2 (2 ^ 1)) (.tuple #[.func (.func 64) #[] #[], .bool true]) true h57 (by kernel_rfl) rfl (by kernel_rfl) rfl (by kernel_rfl) (KeyOk.int .i64 (by kernel_rfl)) (fun _ => by kernel_rfl) (by simp only [findK, hc59, hc60, cond_true, cond_false, Option.map_some, Option.map_none, Option.getD_some, Option.getD_none, Option.isSome_some, Option.isSome_none]) ?_)
              refine RegI.pure 5 [0, 9, 10] [(0, .pointer (some ⟨b7, 0, none⟩)), (9, .func (.func 64) #[] #[]), (10, .bool true)] (by kernel_rfl) ?_
              refine RegI.done (by kernel_rfl) ?_
              refine RunsI.go 2 [.c 20, .c 21, .c 26] (by kernel_rfl) ?_
              refine RunsI.region (by kernel_rfl) ?_
              refine RegI.pure 2 [0, 9, 32] [(0, .pointer (some ⟨b7, 0, none⟩)), (9, .func (.func 64) #[] #[]), (32, .bool false)] (by kernel_rfl) ?_
              refine RegI.done (by kernel_rfl) ?_
              refine RunsI.cond false 25 (by kernel_rfl) ?_
              refine RunsI.go 2 [.c 27, .c 28] (by kernel_rfl) ?_
              refine RunsI.region (by kernel_rfl) ?_
              refine RegI.pure 2 [33, 34] [(33, .func (.func 64) #[] #[]), (34, .pointer (some ⟨b7, 0, none⟩))] (by kernel_rfl) ?_
              refine RegI.enter 35 [] [] (by kernel_rfl) (by kernel_rfl) (by kernel_rfl) (by kernel_rfl) F64 64 rfl [.pointer (some ⟨b7, 0, none⟩)] (by kernel_rfl) (by kernel_rfl) ?_
              refine RunsI.go 1 [.c 1, .c 2] (by kernel_rfl) ?_
              refine RunsI.region (by kernel_rfl) ?_
              refine RegI.pure 1 [0] [(0, .pointer (some ⟨b7, 0, none⟩))] (by kernel_rfl) ?_
              refine RegI.done (by kernel_rfl) ?_
              refine RunsI.go 1 [.c 3, .c 4] (by kernel_rfl) ?_
              refine RunsI.region (by kernel_rfl) ?_
              refine RegI.pure 4 [2] [(2, .pointer (some ⟨b7, 2, none⟩))] (by kernel_rfl) ?_
              refine RegI.done (by kernel_rfl) ?_
              refine RunsI.ret (.pointer (some ⟨b7, 2, none⟩)) (by kernel_rfl) (by kernel_rfl) ?_
              refine cont_mk ?_
              refine RegI.pure 1 [6] [(6, .pointer (some ⟨b7, 2, none⟩))] (by kernel_rfl) ?_
              refine RegI.done (by kernel_rfl) ?_
              refine RunsI.ret (.pointer (some ⟨b7, 2, none⟩)) (by kernel_rfl) (by kernel_rfl) ?_
              refine cont_mk ?_
              refine RegI.pure 5 [6, 7] [(6, .pointer (some ⟨b7, 2, none⟩)), (7, .bool ((band .i64 p2 1) == 0))] (by kernel_rfl) ?_
              refine RegI.done (by kernel_rfl) ?_
              refine RunsI.ret (.tuple #[.pointer (some ⟨b7, 2, none⟩), .bool ((band .i64 p2 1) == 0)]) (by kernel_rfl) (by kernel_rfl) ?_
              refine cont_mk ?_
              refine RegI.pure 5 [8, 9] [(8, .pointer (some ⟨b7, 2, none⟩)), (9, .bool ((band .i64 p2 1) == 0))] (by kernel_rfl) ?_
              refine RegI.done (by kernel_rfl) ?_
              refine RunsI.go 3 [.c 9, .c 10, .blk 0, .c 21] (by kernel_rfl) ?_
              refine RunsI.region (by kernel_rfl) ?_
              refine RegI.pure 3 [8, 9, 17] [(8, .pointer (some ⟨b7, 2, none⟩)), (9, .bool ((band .i64 p2 1) == 0)), (17, .bool false)] (by kernel_rfl) ?_
              refine RegI.done (by kernel_rfl) ?_
              refine RunsI.cond false 14 (by kernel_rfl) ?_
              refine RunsI.go 1 [.c 15, .c 16, .blk 0, .c 21] (by kernel_rfl) ?_
              refine RunsI.region (by kernel_rfl) ?_
              refine RegI.pure 2 [8, 20] [(8, .pointer (some ⟨b7, 2, none⟩)), (20, .bool ((band .i64 p2 1) == 0))] (by kernel_rfl) ?_
              refine RegI.done (by kernel_rfl) ?_
              rcases of_cond h with ⟨hc107, h⟩ | ⟨hc107, h⟩
              · skip
                refine RunsI.fix 20 true hc107 (by kernel_rfl) (by kernel_rfl) ?_
                refine RunsI.cond true 17 (by kernel_rfl) ?_
                refine RunsI.go 1 [.c 18, .c 19, .blk 0, .c 21] (by kernel_rfl) ?_
                refine RunsI.region (by kernel_rfl) ?_
                refine RegI.pure 2 [23] [(23, .pointer (some ⟨b7, 2, none⟩))] (by kernel_rfl) ?_
                refine RegI.op (by kernel_rfl) (OpE.loadBox 24 0 22 b7 2 (.int .u16 p0_2) h57 (by kernel_rfl) (by kernel_rfl) rfl (by kernel_rfl) ?_)
                obtain ⟨t112, hg111, h⟩ := of_bind h
                refine RegI.op (by kernel_rfl) (OpE.call 25 (by kernel_rfl) 45 #[.int .u16 p0_2] (by kernel_rfl) ((bits_Hi_45_ok K _ w56  p0_2 h57.old' hg111).mono ?_))
                rintro _ w108 ⟨rfl, hb109⟩
                refine ⟨_, rfl, ?_⟩
                have h110 := h57.call hb109
                refine RegI.pure 1 [6] [(6, .int .u8 t112)] (by kernel_rfl) ?_
                refine RegI.done (by kernel_rfl) ?_
                refine RunsI.ret (.int .u8 t112) (by kernel_rfl) (by kernel_rfl) ?_
                obtain rfl := Option.some.inj h
                exact ⟨rfl, h110.below⟩
              · skip
                refine RunsI.fix 20 false hc107 (by kernel_rfl) (by kernel_rfl) ?_
                refine RunsI.cond false 20 (by kernel_rfl) ?_
                refine RunsI.go 1 [.blk 0, .c 21] (by kernel_rfl) ?_
                refine RunsI.go 2 [.c 22, .c 23] (by kernel_rfl) ?_
                refine RunsI.region (by kernel_rfl) ?_
                refine RegI.pure 2 [27] [(27, .pointer (some ⟨b7, 2, none⟩))] (by kernel_rfl) ?_
                refine RegI.op (by kernel_rfl) (OpE.loadBox 28 0 22 b7 2 (.int .u16 p0_2) h57 (by kernel_rfl) (by kernel_rfl) rfl (by kernel_rfl) ?_)
                obtain ⟨t117, hg116, h⟩ := of_bind h
                refine RegI.op (by kernel_rfl) (OpE.call 29 (by kernel_rfl) 46 #[.int .u16 p0_2] (by kernel_rfl) ((bits_Lo_46_ok K _ w56  p0_2 h57.old' hg116).mono ?_))
                rintro _ w113 ⟨rfl, hb114⟩
                refine ⟨_, rfl, ?_⟩
                have h115 := h57.call hb114
                refine RegI.pure 1 [6] [(6, .int .u8 t117)] (by kernel_rfl) ?_
                refine RegI.done (by kernel_rfl) ?_
                refine RunsI.ret (.int .u8 t117) (by kernel_rfl) (by kernel_rfl) ?_
                obtain rfl := Option.some.inj h
                exact ⟨rfl, h115.below⟩
            · skip
              rcases of_cond h with ⟨hc61, h⟩ | ⟨hc61, h⟩
              · skip
                refine RegI.op (by kernel_rfl) (OpE.lookup (ek := (ekI .i64)) (ev := (fun (v : Value) => v)) (zv := .nilFunc) 28 1 85 3 82 (Int.fdiv p2 (2 ^ 1)) (.tuple #[.func (.func 65) #[] #[], .bool true]) true h57 (by kernel_rfl) rfl (by kernel_rfl) rfl (by kernel_rfl) (KeyOk.int .i64 (by kernel_rfl)) (fun _ => by kernel_rfl) (by simp only [findK, hc59, hc60, hc61, cond_true, cond_false, Option.map_some, Option.map_none, Option.getD_some, Option.getD_none, Option.isSome_some, Option.isSome_none]) ?_)
                refine RegI.pure 5 [0, 9, 10] [(0, .pointer (some ⟨b7, 0, none⟩)), (9, .func (.func 65) #[] #[]), (10, .bool true)] (by kernel_rfl) ?_
                refine RegI.done (by kernel_rfl) ?_
                refine RunsI.go 2 [.c 20, .c 21, .c 26] (by kernel_rfl) ?_
                refine RunsI.region (by kernel_rfl) ?_
                refine RegI.pure 2 [0, 9, 32] [(0, .pointer (some ⟨b7, 0, none⟩)), (9, .func (.func 65) #[] #[]), (32, .bool false)] (by kernel_rfl) ?_
                refine RegI.done (by kernel_rfl) ?_
                refine RunsI.cond false 25 (by kernel_rfl) ?_
                refine RunsI.go 2 [.c 27, .c 28] (by kernel_rfl) ?_
                refine RunsI.region (by kernel_rfl) ?_
                refine RegI.pure 2 [33, 34] [(33, .func (.func 65) #[] #[]), (34, .pointer (some ⟨b7, 0, none⟩))] (by kernel_rfl) ?_
                refine RegI.enter 35 [] [] (by kernel_rfl) (by kernel_rfl) (by kernel_rfl) (by kernel_rfl) F65 65 rfl [.pointer (some ⟨b7, 0, none⟩)] (by kernel_rfl) (by kernel_rfl) ?_
                refine RunsI.go 1 [.c 1, .c 2] (by kernel_rfl) ?_
                refine RunsI.region (by kernel_rfl) ?_
                refine RegI.pure 1 [0] [(0, .pointer (some ⟨b7, 0, none⟩))] (by kernel_rfl) ?_
                refine RegI.done (by kernel_rfl) ?_
                refine RunsI.go 1 [.c 3, .c 4] (by kernel_rfl) ?_
                refine RunsI.region (by kernel_rfl) ?_
                refine RegI.pure 4 [2] [(2, .pointer (some ⟨b7, 3, none⟩))] (by kernel_rfl) ?_
                refine RegI.done (by kernel_rfl) ?_
                refine RunsI.ret (.pointer (some ⟨b7, 3, none⟩)) (by kernel_rfl) (by kernel_rfl) ?_
                refine cont_mk ?_
                refine RegI.pure 1 [6] [(6, .pointer (some ⟨b7, 3, none⟩))] (by kernel_rfl) ?_
                refine RegI.done (by kernel_rfl) ?_
                refine RunsI.ret (.pointer (some ⟨b7, 3, none⟩)) (by kernel_rfl) (by kernel_rfl) ?_
                refine cont_mk ?_
                refine RegI.pure 5 [6, 7] [(6, .pointer (some ⟨b7, 3, none⟩)), (7, .bool ((band .i64 p2 1) == 0))] (by kernel_rfl) ?_
                refine RegI.done (by kernel_rfl) ?_
                refine RunsI.ret (.tuple #[.pointer (some ⟨b7, 3, none⟩), .bool ((band .i64 p2 1) == 0)]) (by kernel_rfl) (by kernel_rfl) ?_
                refine cont_mk ?_
                refine RegI.pure 5 [8, 9] [(8, .pointer (some ⟨b7, 3, none⟩)), (9, .bool ((band .i64 p2 1) == 0))] (by kernel_rfl) ?_
                refine RegI.done (by kernel_rfl) ?_
                refine RunsI.go 3 [.c 9, .c 10, .blk 0, .c 21] (by kernel_rfl) ?_
                refine RunsI.region (by kernel_rfl) ?_
                refine RegI.pure 3 [8, 9, 17] [(8, .pointer (some ⟨b7, 3, none⟩)), (9, .bool ((band .i64 p2 1) == 0)), (17, .bool false)] (by kernel_rfl) ?_
                refine RegI.done (by kernel_rfl) ?_
                refine RunsI.cond false 14 (by kernel_rfl) ?_
                refine RunsI.go 1 [.c 15, .c 16, .blk 0, .c 21] (by kernel_rfl) ?_
                refine RunsI.region (by kernel_rfl) ?_
                refine RegI.pure 2 [8, 20] [(8, .pointer (some ⟨b7, 3, none⟩)), (20, .bool ((band .i64 p2 1) == 0))] (by kernel_rfl) ?_
                refine RegI.done (by kernel_rfl) ?_
                rcases of_cond h with ⟨hc118, h⟩ | ⟨hc118, h⟩
                · skip
                  refine RunsI.fix 20 true hc118 (by kernel_rfl) (by kernel_rfl) ?_
                  refine RunsI.cond true 17 (by kernel_rfl) ?_
                  refine RunsI.go 1 [.c 18, .c 19, .blk 0, .c 21] (by kernel_rfl) ?_
                  refine RunsI.region (by kernel_rfl) ?_
                  refine RegI.pure 2 [23] [(23, .pointer (some ⟨b7, 3, none⟩))] (by kernel_rfl) ?_
                  refine RegI.op (by kernel_rfl) (OpE.loadBox 24 0 22 b7 3 (.int .u16 p0_3) h57 (by kernel_rfl) (by kernel_rfl) rfl (by kernel_rfl) ?_)
                  obtain ⟨t123, hg122, h⟩ := of_bind h
                  refine RegI.op (by kernel_rfl) (OpE.call 25 (by kernel_rfl) 45 #[.int .u16 p0_3] (by kernel_rfl) ((bits_Hi_45_ok K _ w56  p0_3 h57.old' hg122).mono ?_))
                  rintro _ w119 ⟨rfl, hb120⟩
                  refine ⟨_, rfl, ?_⟩
                  have h121 := h57.call hb120
                  refine RegI.pure 1 [6] [(6, .int .u8 t123)] (by kernel_rfl) ?_
                  refine RegI.done (by kernel_rfl) ?_
                  refine RunsI.ret (.int .u8 t123) (by kernel_rfl) (by kernel_rfl) ?_
                  obtain rfl := Option.some.inj h
                  exact ⟨rfl, h121.below⟩
                · skip
                  refine RunsI.fix 20 false hc118 (by kernel_rfl) (by kernel_rfl) ?_
                  refine RunsI.cond false 20 (by kernel_rfl) ?_
                  refine RunsI.go 1 [.blk 0, .c 21] (by kernel_rfl) ?_
                  refine RunsI.go 2 [.c 22, .c 23] (by kernel_rfl) ?_
                  refine RunsI.region (by kernel_rfl) ?_
                  refine RegI.pure 2 [27] [(27, .pointer (some ⟨b7, 3, none⟩))] (by kernel_rfl) ?_
                  refine RegI.op (by kernel_rfl) (OpE.loadBox 28 0 22 b7 3 (.int .u16 p0_3) h57 (by kernel_rfl) (by kernel_rfl) rfl (by kernel_rfl) ?_)
                  obtain ⟨t128, hg127, h⟩ := of_bind h
                  refine RegI.op (by kernel_rfl) (OpE.call 29 (by kernel_rfl) 46 #[.int .u16 p0_3] (by kernel_rfl) ((bits_Lo_46_ok K _ w56  p0_3 h57.old' hg127).mono ?_))
                  rintro _ w124 ⟨rfl, hb125⟩
                  refine ⟨_, rfl, ?_⟩
                  have h126 := h57.call hb125
                  refine RegI.pure 1 [6] [(6, .int .u8 t128)] (by kernel_rfl) ?_
                  refine RegI.done (by kernel_rfl) ?_
                  refine RunsI.ret (.int .u8 t128) (by kernel_rfl) (by kernel_rfl) ?_
                  obtain rfl := Option.some.inj h
                  exact ⟨rfl, h126.below⟩
              · skip
                rcases of_cond h with ⟨hc62, h⟩ | ⟨hc62, h⟩
                · skip
                  refine RegI.op (by kernel_rfl) (OpE.lookup (ek := (ekI .i64)) (ev := (fun (v : Value) => v)) (zv := .nilFunc) 28 1 85 3 82 (Int.fdiv p2 (2 ^ 1)) (.tuple #[.func (.func 66) #[] #[], .bool true]) true h57 (by kernel_rfl) rfl (by kernel_rfl) rfl (by kernel_rfl) (KeyOk.int .i64 (by kernel_rfl)) (fun _ => by kernel_rfl) (by simp only [findK, hc59, hc60, hc61, hc62, cond_true, cond_false, Option.map_some, Option.map_none, Option.getD_some, Option.getD_none, Option.isSome_some, Option.isSome_none]) ?_)
                  refine RegI.pure 5 [0, 9, 10] [(0, .pointer (some ⟨b7, 0, none⟩)), (9, .func (.func 66) #[] #[]), (10, .bool true)] (by kernel_rfl) ?_
                  refine RegI.done (by kernel_rfl) ?_
                  refine RunsI.go 2 [.c 20, .c 21, .c 26] (by kernel_rfl) ?_
                  refine RunsI.region (by kernel_rfl) ?_
                  refine RegI.pure 2 [0, 9, 32] [(0, .pointer (some ⟨b7, 0, none⟩)), (9, .func (.func 66) #[] #[]), (32, .bool false)] (by kernel_rfl) ?_
                  refine RegI.done (by kernel_rfl) ?_
                  refine RunsI.cond false 25 (by kernel_rfl) ?_
                  refine RunsI.go 2 [.c 27, .c 28] (by kernel_rfl) ?_
                  refine RunsI.region (by kernel_rfl) ?_
                  refine RegI.pure 2 [33, 34] [(33, .func (.func 66) #[] #[]), (34, .pointer (some ⟨b7, 0, none⟩))] (by kernel_rfl) ?_
                  refine RegI.enter 35 [] [] (by kernel_rfl) (by kernel_rfl) (by kernel_rfl) (by kernel_rfl) F66 66 rfl [.pointer (some ⟨b7, 0, none⟩)] (by kernel_rfl) (by kernel_rfl) ?_
                  refine RunsI.go 1 [.c 1, .c 2] (by kernel_rfl) ?_
                  refine RunsI.region (by kernel_rfl) ?_
                  refine RegI.pure 1 [0] [(0, .pointer (some ⟨b7, 0, none⟩))] (by kernel_rfl) ?_
                  refine RegI.done (by kernel_rfl) ?_
                  refine RunsI.go 1 [.c 3, .c 4] (by kernel_rfl) ?_
                  refine RunsI.region (by kernel_rfl) ?_
                  refine RegI.pure 4 [2] [(2, .pointer (some ⟨b7, 10, none⟩))] (by kernel_rfl) ?_
                  refine RegI.done (by kernel_rfl) ?_
                  refine RunsI.ret (.pointer (some ⟨b7, 10, none⟩)) (by kernel_rfl) (by kernel_rfl) ?_
                  refine cont_mk ?_
                  refine RegI.pure 1 [6] [(6, .pointer (some ⟨b7, 10, none⟩))] (by kernel_rfl) ?_
                  refine RegI.done (by kernel_rfl) ?_
                  refine RunsI.ret (.pointer (some ⟨b7, 10, none⟩)) (by kernel_rfl) (by kernel_rfl) ?_
                  refine cont_mk ?_
                  refine RegI.pure 5 [6, 7] [(6, .pointer (some ⟨b7, 10, none⟩)), (7, .bool ((band .i64 p2 1) == 0))] (by kernel_rfl) ?_
                  refine RegI.done (by kernel_rfl) ?_
                  refine RunsI.ret (.tuple #[.pointer (some ⟨b7, 10, none⟩), .bool ((band .i64 p2 1) == 0)]) (by kernel_rfl) (by kernel_rfl) ?_
                  refine cont_mk ?_
                  refine RegI.pure 5 [8, 9] [(8, .pointer (some ⟨b7, 10, none⟩)), (9, .bool ((band .i64 p2 1) == 0))] (by kernel_rfl) ?_
                  refine RegI.done (by kernel_rfl) ?_
                  refine RunsI.go 3 [.c 9, .c 10, .blk 0, .c 21] (by kernel_rfl) ?_
                  refine RunsI.region (by kernel_rfl) ?_
                  refine RegI.pure 3 [8, 9, 17] [(8, .pointer (some ⟨b7, 10, none⟩)), (9, .bool ((band .i64 p2 1) == 0)), (17, .bool false)] (by kernel_rfl) ?_
                  refine RegI.done (by kernel_rfl) ?_
                  refine RunsI.cond false 14 (by kernel_rfl) ?_
                  refine RunsI.go 1 [.c 15, .c 16, .blk 0, .c 21] (by kernel_rfl) ?_
                  refine RunsI.region (by kernel_rfl) ?_
                  refine RegI.pure 2 [8, 20] [(8, .pointer (some ⟨b7, 10, none⟩)), (20, .bool ((band .i64 p2 1) == 0))] (by kernel_rfl) ?_
                  refine RegI.done (by kernel_rfl) ?_
                  rcases of_cond h with ⟨hc129, h⟩ | ⟨hc129, h⟩
                  · skip
                    refine RunsI.fix 20 true hc129 (by kernel_rfl) (by kernel_rfl) ?_
                    refine RunsI.cond true 17 (by kernel_rfl) ?_
                    refine RunsI.go 1 [.c 18, .c 19, .blk 0, .c 21] (by kernel_rfl) ?_
                    refine RunsI.region (by kernel_rfl) ?_
                    refine RegI.pure 2 [23] [(23, .pointer (some ⟨b7, 10, none⟩))] (by kernel_rfl) ?_
                    refine RegI.op (by kernel_rfl) (OpE.loadBox 24 0 22 b7 10 (.int .u16 p0_10) h57 (by kernel_rfl) (by kernel_rfl) rfl (by kernel_rfl) ?_)
                    obtain ⟨t134, hg133, h⟩ := of_bind h
                    refine RegI.op (by kernel_rfl) (OpE.call 25 (by kernel_rfl) 45 #[.int .u16 p0_10] (by kernel_rfl) ((bits_Hi_45_ok K _ w56  p0_10 h57.old' hg133).mono ?_))
                    rintro _ w130 ⟨rfl, hb131⟩
                    refine ⟨_, rfl, ?_⟩
                    have h132 := h57.call hb131
                    refine RegI.pure 1 [6] [(6, .int .u8 t134)] (by kernel_rfl) ?_
                    refine RegI.done (by kernel_rfl) ?_
                    refine RunsI.ret (.int .u8 t134) (by kernel_rfl) (by kernel_rfl) ?_
                    obtain rfl := Option.some.inj h
                    exact ⟨rfl, h132.below⟩
                  · skip
                    refine RunsI.fix 20 false hc129 (by kernel_rfl) (by kernel_rfl) ?_
                    refine RunsI.cond false 20 (by kernel_rfl) ?_
                    refine RunsI.go 1 [.blk 0, .c 21] (by kernel_rfl) ?_
                    refine RunsI.go 2 [.c 22, .c 23] (by kernel_rfl) ?_
                    refine RunsI.region (by kernel_rfl) ?_
                    refine RegI.pure 2 [27] [(27, .pointer (some ⟨b7, 10, none⟩))] (by kernel_rfl) ?_
                    refine RegI.op (by kernel_rfl) (OpE.loadBox 28 0 22 b7 10 (.int .u16 p0_10) h57 (by kernel_rfl) (by kernel_rfl) rfl (by kernel_rfl) ?_)
                    obtain ⟨t139, hg138, h⟩ := of_bind h
                    refine RegI.op (by kernel_rfl) (OpE.call 29 (by kernel_rfl) 46 #[.int .u16 p0_10] (by kernel_rfl) ((bits_Lo_46_ok K _ w56  p0_10 h57.old' hg138).mono ?_))
                    rintro _ w135 ⟨rfl, hb136⟩
                    refine ⟨_, rfl, ?_⟩
                    have h137 := h57.call hb136
                    refine RegI.pure 1 [6] [(6, .int .u8 t139)] (by kernel_rfl) ?_
                    refine RegI.done (by kernel_rfl) ?_
                    refine RunsI.ret (.int .u8 t139) (by kernel_rfl) (by kernel_rfl) ?_
                    obtain rfl := Option.some.inj h
                    exact ⟨rfl, h137.below⟩
                · skip
                  refine RegI.op (by kernel_rfl) (OpE.lookup (ek := (ekI .i64)) (ev := (fun (v : Value) => v)) (zv := .nilFunc) 28 1 85 3 82 (Int.fdiv p2 (2 ^ 1)) (.tuple #[.nilFunc, .bool false]) true h57 (by kernel_rfl) rfl (by kernel_rfl) rfl (by kernel_rfl) (KeyOk.int .i64 (by kernel_rfl)) (fun _ => by kernel_rfl) (by simp only [findK, hc59, hc60, hc61, hc62, cond_true, cond_false, Option.map_some, Option.map_none, Option.getD_some, Option.getD_none, Option.isSome_some, Option.isSome_none]) ?_)
                  refine RegI.pure 5 [0, 9, 10] [(0, .pointer (some ⟨b7, 0, none⟩)), (9, .nilFunc), (10, .bool false)] (by kernel_rfl) ?_
                  refine RegI.done (by kernel_rfl) ?_
                  refine RunsI.go 2 [.c 20, .c 21, .c 26] (by kernel_rfl) ?_
                  refine RunsI.region (by kernel_rfl) ?_
                  refine RegI.pure 2 [0, 9, 32] [(0, .pointer (some ⟨b7, 0, none⟩)), (9, .nilFunc), (32, .bool true)] (by kernel_rfl) ?_
                  refine RegI.done (by kernel_rfl) ?_
                  refine RunsI.cond true 22 (by kernel_rfl) ?_
                  refine RunsI.go 1 [.c 23, .c 24, .c 26] (by kernel_rfl) ?_
                  refine RunsI.region (by kernel_rfl) ?_
                  refine RegI.pure 1 [6] [(6, .pointer none)] (by kernel_rfl) ?_
                  refine RegI.done (by kernel_rfl) ?_
                  refine RunsI.ret (.pointer none) (by kernel_rfl) (by kernel_rfl) ?_
                  refine cont_mk ?_
                  refine RegI.pure 5 [6, 7] [(6, .pointer none), (7, .bool ((band .i64 p2 1) == 0))] (by kernel_rfl) ?_
                  refine RegI.done (by kernel_rfl) ?_
                  refine RunsI.ret (.tuple #[.pointer none, .bool ((band .i64 p2 1) == 0)]) (by kernel_rfl) (by kernel_rfl) ?_
                  refine cont_mk ?_
                  refine RegI.only [14] [(14, .tuple #[.pointer none, .bool ((band .i64 p2 1) == 0)])] (by kernel_rfl) (by kernel_rfl) ?_
                  exact hj73 ((band .i64 p2 1) == 0) w56 h (h57.pick [] (by decide))
        clear hJ40
        rcases of_cond h with ⟨hc23, h⟩ | ⟨hc23, h⟩
        · skip
          refine RunsI.fix 12 true hc23 (by kernel_rfl) (by kernel_rfl) ?_
          refine RunsI.cond true 6 (by kernel_rfl) ?_
          refine RunsI.go 1 [.c 7, .c 8, .c 16] (by kernel_rfl) ?_
          refine RunsI.region (by kernel_rfl) ?_
          refine RegI.op (by kernel_rfl) (OpE.makeMap 14 (ekI .i64) (fun (v : Value) => v) h17 (by kernel_rfl) (by kernel_rfl) ?_)
          intro w24 b25 h26 hb27 hn28
          refine RegI.op (by kernel_rfl) (OpE.mapSet (ek := (ekI .i64)) (ev := (fun (v : Value) => v)) 1 85 3 82 3 (.func (.func 61) #[] #[]) h26 (by kernel_rfl) rfl (by kernel_rfl) rfl rfl (by kernel_rfl) (KeyOk.int .i64 (by kernel_rfl)) [(3, .func (.func 61) #[] #[])] (by kernel_rfl) ?_)
          intro w29 h30 hk31
          refine RegI.op (by kernel_rfl) (OpE.mapSet (ek := (ekI .i64)) (ev := (fun (v : Value) => v)) 1 85 3 82 4 (.func (.func 62) #[] #[]) h30 (by kernel_rfl) rfl (by kernel_rfl) rfl rfl (by kernel_rfl) (KeyOk.int .i64 (by kernel_rfl)) [(3, .func (.func 61) #[] #[]), (4, .func (.func 62) #[] #[])] (by kernel_rfl) ?_)
          intro w32 h33 hk34
          refine RegI.pure 2 [0, 2, 15, 16] [(0, .pointer (some ⟨b7, 0, none⟩)), (2, .int .i64 (Int.fdiv p2 (2 ^ 1))), (15, .map (some b25)), (16, .int .i64 p1)] (by kernel_rfl) ?_
          rcases of_cond h with ⟨hc35, h⟩ | ⟨hc35, h⟩
          · skip
            refine RegI.op (by kernel_rfl) (OpE.lookup (ek := (ekI .i64)) (ev := (fun (v : Value) => v)) (zv := .nilFunc) 17 1 85 3 82 p1 (.tuple #[.func (.func 61) #[] #[], .bool true]) true h33 (by kernel_rfl) rfl (by kernel_rfl) rfl (by kernel_rfl) (KeyOk.int .i64 (by kernel_rfl)) (fun _ => by kernel_rfl) (by simp only [findK, hc35, cond_true, cond_false, Option.map_some, Option.map_none, Option.getD_some, Option.getD_none, Option.isSome_some, Option.isSome_none]) ?_)
            refine RegI.pure 5 [0, 2, 7, 8] [(0, .pointer (some ⟨b7, 0, none⟩)), (2, .int .i64 (Int.fdiv p2 (2 ^ 1))), (7, .func (.func 61) #[] #[]), (8, .bool true)] (by kernel_rfl) ?_
            refine RegI.done (by kernel_rfl) ?_
            refine RunsI.go 1 [.c 9, .c 10, .c 16] (by kernel_rfl) ?_
            refine RunsI.region (by kernel_rfl) ?_
            refine RegI.pure 1 [0, 2, 7, 20] [(0, .pointer (some ⟨b7, 0, none⟩)), (2, .int .i64 (Int.fdiv p2 (2 ^ 1))), (7, .func (.func 61) #[] #[]), (20, .bool true)] (by kernel_rfl) ?_
            refine RegI.done (by kernel_rfl) ?_
            refine RunsI.cond true 11 (by kernel_rfl) ?_
            refine RunsI.go 1 [.c 12, .c 13, .c 16] (by kernel_rfl) ?_
            refine RunsI.region (by kernel_rfl) ?_
            refine RegI.pure 2 [21, 22] [(21, .func (.func 61) #[] #[]), (22, .pointer (some ⟨b7, 0, none⟩))] (by kernel_rfl) ?_
            refine RegI.enter 23 [] [] (by kernel_rfl) (by kernel_rfl) (by kernel_rfl) (by kernel_rfl) F61 61 rfl [.pointer (some ⟨b7, 0, none⟩)] (by kernel_rfl) (by kernel_rfl) ?_
            refine RunsI.go 1 [.c 1, .c 2] (by kernel_rfl) ?_
            refine RunsI.region (by kernel_rfl) ?_
            refine RegI.pure 1 [0] [(0, .pointer (some ⟨b7, 0, none⟩))] (by kernel_rfl) ?_
            refine RegI.done (by kernel_rfl) ?_
            refine RunsI.go 1 [.c 3, .c 4] (by kernel_rfl) ?_
            refine RunsI.region (by kernel_rfl) ?_
            refine RegI.pure 4 [2] [(2, .pointer (some ⟨b7, 8, none⟩))] (by kernel_rfl) ?_
            refine RegI.done (by kernel_rfl) ?_
            refine RunsI.ret (.pointer (some ⟨b7, 8, none⟩)) (by kernel_rfl) (by kernel_rfl) ?_
            refine cont_mk ?_
            refine RegI.pure 1 [6] [(6, .pointer (some ⟨b7, 8, none⟩))] (by kernel_rfl) ?_
            refine RegI.done (by kernel_rfl) ?_
            refine RunsI.ret (.pointer (some ⟨b7, 8, none⟩)) (by kernel_rfl) (by kernel_rfl) ?_
            refine cont_mk ?_
            refine RegI.pure 5 [6, 7] [(6, .pointer (some ⟨b7, 8, none⟩)), (7, .bool ((band .i64 p2 1) == 0))] (by kernel_rfl) ?_
            refine RegI.done (by kernel_rfl) ?_
            refine RunsI.ret (.tuple #[.pointer (some ⟨b7, 8, none⟩), .bool ((band .i64 p2 1) == 0)]) (by kernel_rfl) (by kernel_rfl) ?_
            refine cont_mk ?_
            refine RegI.pure 5 [8, 9] [(8, .pointer (some ⟨b7, 8, none⟩)), (9, .bool ((band .i64 p2 1) == 0))] (by kernel_rfl) ?_
            refine RegI.done (by kernel_rfl) ?_
            refine RunsI.go 3 [.c 9, .c 10, .blk 0, .c 21] (by kernel_rfl) ?_
            refine RunsI.region (by kernel_rfl) ?_
            refine RegI.pure 3 [8, 9, 17] [(8, .pointer (some ⟨b7, 8, none⟩)), (9, .bool ((band .i64 p2 1) == 0)), (17, .bool false)] (by kernel_rfl) ?_
            refine RegI.done (by kernel_rfl) ?_
            refine RunsI.cond false 14 (by kernel_rfl) ?_
            refine RunsI.go 1 [.c 15, .c 16, .blk 0, .c 21] (by kernel_rfl) ?_
            refine RunsI.region (by kernel_rfl) ?_
            refine RegI.pure 2 [8, 20] [(8, .pointer (some ⟨b7, 8, none⟩)), (20, .bool ((band .i64 p2 1) == 0))] (by kernel_rfl) ?_
            refine RegI.done (by kernel_rfl) ?_
            rcases of_cond h with ⟨hc74, h⟩ | ⟨hc74, h⟩
            · skip
              refine RunsI.fix 20 true hc74 (by kernel_rfl) (by kernel_rfl) ?_
              refine RunsI.cond true 17 (by kernel_rfl) ?_
              refine RunsI.go 1 [.c 18, .c 19, .blk 0, .c 21] (by kernel_rfl) ?_
              refine RunsI.region (by kernel_rfl) ?_
              refine RegI.pure 2 [23] [(23, .pointer (some ⟨b7, 8, none⟩))] (by kernel_rfl) ?_
              refine RegI.op (by kernel_rfl) (OpE.loadBox 24 0 22 b7 8 (.int .u16 p0_8) h33 (by kernel_rfl) (by kernel_rfl) rfl (by kernel_rfl) ?_)
              obtain ⟨t79, hg78, h⟩ := of_bind h
              refine RegI.op (by kernel_rfl) (OpE.call 25 (by kernel_rfl) 45 #[.int .u16 p0_8] (by kernel_rfl) ((bits_Hi_45_ok K _ w32  p0_8 h33.old' hg78).mono ?_))
              rintro _ w75 ⟨rfl, hb76⟩
              refine ⟨_, rfl, ?_⟩
              have h77 := h33.call hb76
              refine RegI.pure 1 [6] [(6, .int .u8 t79)] (by kernel_rfl) ?_
              refine RegI.done (by kernel_rfl) ?_
              refine RunsI.ret (.int .u8 t79) (by kernel_rfl) (by kernel_rfl) ?_
              obtain rfl := Option.some.inj h
              exact ⟨rfl, h77.below⟩
            · skip
              refine RunsI.fix 20 false hc74 (by kernel_rfl) (by kernel_rfl) ?_
              refine RunsI.cond false 20 (by kernel_rfl) ?_
              refine RunsI.go 1 [.blk 0, .c 21] (by kernel_rfl) ?_
              refine RunsI.go 2 [.c 22, .c 23] (by kernel_rfl) ?_
              refine RunsI.region (by kernel_rfl) ?_
              refine RegI.pure 2 [27] [(27, .pointer (some ⟨b7, 8, none⟩))] (by kernel_rfl) ?_
              refine RegI.op (by kernel_rfl) (OpE.loadBox 28 0 22 b7 8 (.int .u16 p0_8) h33 (by kernel_rfl) (by kernel_rfl) rfl (by kernel_rfl) ?_)
              obtain ⟨t84, hg83, h⟩ := of_bind h
              refine RegI.op (by kernel_rfl) (OpE.call 29 (by kernel_rfl) 46 #[.int .u16 p0_8] (by kernel_rfl) ((bits_Lo_46_ok K _ w32  p0_8 h33.old' hg83).mono ?_))
              rintro _ w80 ⟨rfl, hb81⟩
              refine ⟨_, rfl, ?_⟩
              have h82 := h33.call hb81
              refine RegI.pure 1 [6] [(6, .int .u8 t84)] (by kernel_rfl) ?_
              refine RegI.done (by kernel_rfl) ?_
              refine RunsI.ret (.int .u8 t84) (by kernel_rfl) (by kernel_rfl) ?_
              obtain rfl := Option.some.inj h
              exact ⟨rfl, h82.below⟩
          · skip
            rcases of_cond h with ⟨hc36, h⟩ | ⟨hc36, h⟩
            · skip
              refine RegI.op (by kernel_rfl) (OpE.lookup (ek := (ekI .i64)) (ev := (fun (v : Value) => v)) (zv := .nilFunc) 17 1 85 3 82 p1 (.tuple #[.func (.func 62) #[] #[], .bool true]) true h33 (by kernel_rfl) rfl (by kernel_rfl) rfl (by kernel_rfl) (KeyOk.int .i64 (by kernel_rfl)) (fun _ => by kernel_rfl) (by simp only [findK, hc35, hc36, cond_true, cond_false, Option.map_some, Option.map_none, Option.getD_some, Option.getD_none, Option.isSome_some, Option.isSome_none]) ?_)
              refine RegI.pure 5 [0, 2, 7, 8] [(0, .pointer (some ⟨b7, 0, none⟩)), (2, .int .i64 (Int.fdiv p2 (2 ^ 1))), (7, .func (.func 62) #[] #[]), (8, .bool true)] (by kernel_rfl) ?_
              refine RegI.done (by kernel_rfl) ?_
              refine RunsI.go 1 [.c 9, .c 10, .c 16] (by kernel_rfl) ?_
              refine RunsI.region (by kernel_rfl) ?_
              refine RegI.pure 1 [0, 2, 7, 20] [(0, .pointer (some ⟨b7, 0, none⟩)), (2, .int .i64 (Int.fdiv p2 (2 ^ 1))), (7, .func (.func 62) #[] #[]), (20, .bool true)] (by kernel_rfl) ?_
              refine RegI.done (by kernel_rfl) ?_
              refine RunsI.cond true 11 (by kernel_rfl) ?_
              refine RunsI.go 1 [.c 12, .c 13, .c 16] (by kernel_rfl) ?_
              refine RunsI.region (by kernel_rfl) ?_
              refine RegI.pure 2 [21, 22] [(21, .func (.func 62) #[] #[]), (22, .pointer (some ⟨b7, 0, none⟩))] (by kernel_rfl) ?_
              refine RegI.enter 23 [] [] (by kernel_rfl) (by kernel_rfl) (by kernel_rfl) (by kernel_rfl) F62 62 rfl [.pointer (some ⟨b7, 0, none⟩)] (by kernel_rfl) (by kernel_rfl) ?_
              refine RunsI.go 1 [.c 1, .c 2] (by kernel_rfl) ?_
              refine RunsI.region (by kernel_rfl) ?_
              refine RegI.pure 1 [0] [(0, .pointer (some ⟨b7, 0, none⟩))] (by kernel_rfl) ?_
              refine RegI.done (by kernel_rfl) ?_
              refine RunsI.go 1 [.c 3, .c 4] (by kernel_rfl) ?_
              refine RunsI.region (by kernel_rfl) ?_
              refine RegI.pure 4 [2] [(2, .pointer (some ⟨b7, 9, none⟩))] (by kernel_rfl) ?_
              refine RegI.done (by kernel_rfl) ?_
              refine RunsI.ret (.pointer (some ⟨b7, 9, none⟩)) (by kernel_rfl) (by kernel_rfl) ?_
              refine cont_mk ?_
              refine RegI.pure 1 [6] [(6, .pointer (some ⟨b7, 9, none⟩))] (by kernel_rfl) ?_
              refine RegI.done (by kernel_rfl) ?_
              refine RunsI.ret (.pointer (some ⟨b7, 9, none⟩)) (by kernel_rfl) (by kernel_rfl) ?_
              refine cont_mk ?_
              refine RegI.pure 5 [6, 7] [(6, .pointer (some ⟨b7, 9, none⟩)), (7, .bool ((band .i64 p2 1) == 0))] (by kernel_rfl) ?_
              refine RegI.done (by kernel_rfl) ?_
              refine RunsI.ret (.tuple #[.pointer (some ⟨b7, 9, none⟩), .bool ((band .i64 p2 1) == 0)]) (by kernel_rfl) (by kernel_rfl) ?_
              refine cont_mk ?_
              refine RegI.pure 5 [8, 9] [(8, .pointer (some ⟨b7, 9, none⟩)), (9, .bool ((band .i64 p2 1) == 0))] (by kernel_rfl) ?_
              refine RegI.done (by kernel_rfl) ?_
              refine RunsI.go 3 [.c 9, .c 10, .blk 0, .c 21] (by kernel_rfl) ?_
              refine RunsI.region (by kernel_rfl) ?_
              refine RegI.pure 3 [8, 9, 17] [(8, .pointer (some ⟨b7, 9, none⟩)), (9, .bool ((band .i64 p2 1) == 0)), (17, .bool false)] (by kernel_rfl) ?_
              refine RegI.done (by kernel_rfl) ?_
              refine RunsI.cond false 14 (by kernel_rfl) ?_
              refine RunsI.go 1 [.c 15, .c 16, .blk 0, .c 21] (by kernel_rfl) ?_
              refine RunsI.region (by kernel_rfl) ?_
              refine RegI.pure 2 [8, 20] [(8, .pointer (some ⟨b7, 9, none⟩)), (20, .bool ((band .i64 p2 1) == 0))] (by kernel_rfl) ?_
              refine RegI.done (by kernel_rfl) ?_
              rcases of_cond h with ⟨hc85, h⟩ | ⟨hc85, h⟩
              · skip
                refine RunsI.fix 20 true hc85 (by kernel_rfl) (by kernel_rfl) ?_
                refine RunsI.cond true 17 (by kernel_rfl) ?_
                refine RunsI.go 1 [.c 18, .c 19, .blk 0, .c 21] (by kernel_rfl) ?_
                refine RunsI.region (by kernel_rfl) ?_
                refine RegI.pure 2 [23] [(23, .pointer (some ⟨b7, 9, none⟩))] (by kernel_rfl) ?_
                refine RegI.op (by kernel_rfl) (OpE.loadBox 24 0 22 b7 9 (.int .u16 p0_9) h33 (by kernel_rfl) (by kernel_rfl) rfl (by kernel_rfl) ?_)
                obtain ⟨t90, hg89, h⟩ := of_bind h
                refine RegI.op (by kernel_rfl) (OpE.call 25 (by kernel_rfl) 45 #[.int .u16 p0_9] (by kernel_rfl) ((bits_Hi_45_ok K _ w32  p0_9 h33.old' hg89).mono ?_))
                rintro _ w86 ⟨rfl, hb87⟩
                refine ⟨_, rfl, ?_⟩
                have h88 := h33.call hb87
                refine RegI.pure 1 [6] [(6, .int .u8 t90)] (by kernel_rfl) ?_
                refine RegI.done (by kernel_rfl) ?_
                refine RunsI.ret (.int .u8 t90) (by kernel_rfl) (by kernel_rfl) ?_
                obtain rfl := Option.some.inj h
                exact ⟨rfl, h88.below⟩
              · skip
                refine RunsI.fix 20 false hc85 (by kernel_rfl) (by kernel_rfl) ?_
                refine RunsI.cond false 20 (by kernel_rfl) ?_
                refine RunsI.go 1 [.blk 0, .c 21] (by kernel_rfl) ?_
                refine RunsI.go 2 [.c 22, .c 23] (by kernel_rfl) ?_
                refine RunsI.region (by kernel_rfl) ?_
                refine RegI.pure 2 [27] [(27, .pointer (some ⟨b7, 9, none⟩))] (by kernel_rfl) ?_
                refine RegI.op (by kernel_rfl) (OpE.loadBox 28 0 22 b7 9 (.int .u16 p0_9) h33 (by kernel_rfl) (by kernel_rfl) rfl (by kernel_rfl) ?_)
                obtain ⟨t95, hg94, h⟩ := of_bind h
                refine RegI.op (by kernel_rfl) (OpE.call 29 (by kernel_rfl) 46 #[.int .u16 p0_9] (by kernel_rfl) ((bits_Lo_46_ok K _ w32  p0_9 h33.old' hg94).mono ?_))
                rintro _ w91 ⟨rfl, hb92⟩
                refine ⟨_, rfl, ?_⟩
                have h93 := h33.call hb92
                refine RegI.pure 1 [6] [(6, .int .u8 t95)] (by kernel_rfl) ?_
                refine RegI.done (by kernel_rfl) ?_
                refine RunsI.ret (.int .u8 t95) (by kernel_rfl) (by kernel_rfl) ?_
                obtain rfl := Option.some.inj h
                exact ⟨rfl, h93.below⟩
            · skip
              refine RegI.op (by kernel_rfl) (OpE.lookup (ek := (ekI .i64)) (ev := (fun (v : Value) => v)) (zv := .nilFunc) 17 1 85 3 82 p1 (.tuple #[.nilFunc, .bool false]) true h33 (by kernel_rfl) rfl (by kernel_rfl) rfl (by kernel_rfl) (KeyOk.int .i64 (by kernel_rfl)) (fun _ => by kernel_rfl) (by simp only [findK, hc35, hc36, cond_true, cond_false, Option.map_some, Option.map_none, Option.getD_some, Option.getD_none, Option.isSome_some, Option.isSome_none]) ?_)
              refine RegI.pure 5 [0, 2, 7, 8] [(0, .pointer (some ⟨b7, 0, none⟩)), (2, .int .i64 (Int.fdiv p2 (2 ^ 1))), (7, .nilFunc), (8, .bool false)] (by kernel_rfl) ?_
              refine RegI.done (by kernel_rfl) ?_
              refine RunsI.go 1 [.c 9, .c 10, .c 16] (by kernel_rfl) ?_
              refine RunsI.region (by kernel_rfl) ?_
              refine RegI.pure 1 [0, 2, 7, 20] [(0, .pointer (some ⟨b7, 0, none⟩)), (2, .int .i64 (Int.fdiv p2 (2 ^ 1))), (7, .nilFunc), (20, .bool false)] (by kernel_rfl) ?_
              refine RegI.done (by kernel_rfl) ?_
              refine RunsI.cond false 14 (by kernel_rfl) ?_
              refine RunsI.go 1 [.c 16] (by kernel_rfl) ?_
              refine RunsI.only [0, 2] [(0, .pointer (some ⟨b7, 0, none⟩)), (2, .int .i64 (Int.fdiv p2 (2 ^ 1)))] (by kernel_rfl) (by kernel_rfl) ?_
              exact hj41 w32 h (h33.pick [0] (by decide))
        · skip
          refine RunsI.fix 12 false hc23 (by kernel_rfl) (by kernel_rfl) ?_
          refine RunsI.cond false 15 (by kernel_rfl) ?_
          refine RunsI.go 1 [.c 16] (by kernel_rfl) ?_
          refine RunsI.only [0, 2] [(0, .pointer (some ⟨b7, 0, none⟩)), (2, .int .i64 (Int.fdiv p2 (2 ^ 1)))] (by kernel_rfl) (by kernel_rfl) ?_
          exact hj41 w18 h (h17.pick [0] (by decide))
    clear hJ20
    rcases of_cond h with ⟨hc15, h⟩ | ⟨hc15, h⟩
    · skip
      refine RegI.fix 17 true hc15 (by kernel_rfl) (by kernel_rfl) ?_
      refine RegI.pure 4 [0, 1, 2, 14] [(0, .pointer (some ⟨b7, 0, none⟩)), (1, .int .i64 p1), (2, .int .i64 p2), (14, .bool true)] (by kernel_rfl) ?_
      refine RegI.only [0, 1, 2, 14] [(0, .pointer (some ⟨b7, 0, none⟩)), (1, .int .i64 p1), (2, .int .i64 p2), (14, .bool true)] (by kernel_rfl) (by kernel_rfl) ?_
      exact hj21 true w11 h (h12.pick [1] (by decide))
    · skip
      refine RegI.fix 17 false hc15 (by kernel_rfl) (by kernel_rfl) ?_
      refine RegI.pure 4 [0, 1, 2, 14] [(0, .pointer (some ⟨b7, 0, none⟩)), (1, .int .i64 p1), (2, .int .i64 p2), (14, .bool (decide (p2 > 5)))] (by kernel_rfl) ?_
      refine RegI.only [0, 1, 2, 14] [(0, .pointer (some ⟨b7, 0, none⟩)), (1, .int .i64 p1), (2, .int .i64 p2), (14, .bool (decide (p2 > 5)))] (by kernel_rfl) (by kernel_rfl) ?_
      exact hj21 (decide (p2 > 5)) w11 h (h12.pick [1] (by decide))
end

/-! ### charabanc/regs.Pair (function 26) -/
section
def regs_Pair_26.post (M0 : Nat → Prop) (w0 : World) (r : Int) : Ending → World → Prop := fun e w => e = .returned (.int .u16 r) ∧ Below w0.heap.size w0 w
def regs_Pair_26.f (K : Nat) (p0_0 : Int) (p0_1 : Int) (p0_2 : Int) (p0_3 : Int) (p0_4 : Int) (p0_5 : Int) (p0_6 : Int) (p0_7 : Int) (p0_8 : Int) (p0_9 : Int) (p0_10 : Int) (p0_11 : Int) (p0_12 : Int) (p0_13 : Int) (p0_14 : Int) (p0_15 : Bool) (p0_16 : Bool) (p0_17 : Bool) (p0_18 : Bool) (p0_19 : Int) (p1 : Int) (p2 : Int) : Option Int := Let (fun (_ : Unit) => cond (p2 == 0) (some p0_1) (cond (p2 == 1) (some p0_2) (cond (p2 == 2) (some p0_3) (cond (p2 == 3) (some p0_10) (some 0))))) (fun j30 => cond (p2 == 2) (cond (p1 == 3) (some p0_8) (cond (p1 == 4) (some p0_9) (j30 ()))) (j30 ()))
set_option maxRecDepth 100000 in
theorem regs_Pair_26_ok (K : Nat) (M0 : Nat → Prop) (w0 : World) (p0_0 : Int) (p0_1 : Int) (p0_2 : Int) (p0_3 : Int) (p0_4 : Int) (p0_5 : Int) (p0_6 : Int) (p0_7 : Int) (p0_8 : Int) (p0_9 : Int) (p0_10 : Int) (p0_11 : Int) (p0_12 : Int) (p0_13 : Int) (p0_14 : Int) (p0_15 : Bool) (p0_16 : Bool) (p0_17 : Bool) (p0_18 : Bool) (p0_19 : Int) (p1 : Int) (p2 : Int) (ho : ∀ b, M0 b → b < w0.heap.size) {r : Int} (h : regs_Pair_26.f K p0_0 p0_1 p0_2 p0_3 p0_4 p0_5 p0_6 p0_7 p0_8 p0_9 p0_10 p0_11 p0_12 p0_13 p0_14 p0_15 p0_16 p0_17 p0_18 p0_19 p1 p2 = some r) :
    Calls Tryd.prog 26 #[.agg #[.int .u16 p0_0, .int .u16 p0_1, .int .u16 p0_2, .int .u16 p0_3, .int .u16 p0_4, .int .u16 p0_5, .int .u16 p0_6, .int .u16 p0_7, .int .u16 p0_8, .int .u16 p0_9, .int .u16 p0_10, .int .u16 p0_11, .int .u16 p0_12, .int .u8 p0_13, .int .u8 p0_14, .bool p0_15, .bool p0_16, .bool p0_17, .bool p0_18, .int .i64 p0_19], .int .i64 p1, .int .i64 p2] w0 (regs_Pair_26.post M0 w0 r) := by
  unfold regs_Pair_26.f at h
  have h0 : Holds M0 w0 w0 [] := Holds.start ho
  have h0 : Holds M0 w0 w0 [] := h0
  refine calls_of F26 rfl [.agg #[.int .u16 p0_0, .int .u16 p0_1, .int .u16 p0_2, .int .u16 p0_3, .int .u16 p0_4, .int .u16 p0_5, .int .u16 p0_6, .int .u16 p0_7, .int .u16 p0_8, .int .u16 p0_9, .int .u16 p0_10, .int .u16 p0_11, .int .u16 p0_12, .int .u8 p0_13, .int .u8 p0_14, .bool p0_15, .bool p0_16, .bool p0_17, .bool p0_18, .int .i64 p0_19], .int .i64 p1, .int .i64 p2] (by kernel_rfl) ?_
  refine RunsI.go 1 [.c 1, .c 2] (by kernel_rfl) ?_
  refine RunsI.region (by kernel_rfl) ?_
  refine RegI.op (by kernel_rfl) (OpE.box 3 46 [.int .u16 p0_0, .int .u16 p0_1, .int .u16 p0_2, .int .u16 p0_3, .int .u16 p0_4, .int .u16 p0_5, .int .u16 p0_6, .int .u16 p0_7, .int .u16 p0_8, .int .u16 p0_9, .int .u16 p0_10, .int .u16 p0_11, .int .u16 p0_12, .int .u8 p0_13, .int .u8 p0_14, .bool p0_15, .bool p0_16, .bool p0_17, .bool p0_18, .int .i64 p0_19] h0 (by kernel_rfl) (by kernel_rfl) ?_)
  intro w1 b2 h3 hb4 hn5
  refine RegI.pure 1 [1, 2, 3] [(1, .int .i64 p1), (2, .int .i64 p2), (3, .pointer (some ⟨b2, 0, none⟩))] (by kernel_rfl) ?_
  refine RegI.done (by kernel_rfl) ?_
  refine RunsI.go 1 [.c 3, .c 4] (by kernel_rfl) ?_
  refine RunsI.region (by kernel_rfl) ?_
  refine RegI.op (by kernel_rfl) (OpE.loadBox 9 0 46 b2 0 (.agg #[.int .u16 p0_0, .int .u16 p0_1, .int .u16 p0_2, .int .u16 p0_3, .int .u16 p0_4, .int .u16 p0_5, .int .u16 p0_6, .int .u16 p0_7, .int .u16 p0_8, .int .u16 p0_9, .int .u16 p0_10, .int .u16 p0_11, .int .u16 p0_12, .int .u8 p0_13, .int .u8 p0_14, .bool p0_15, .bool p0_16, .bool p0_17, .bool p0_18, .int .i64 p0_19]) h3 (by kernel_rfl) (by kernel_rfl) rfl (by kernel_rfl) ?_)
  refine RegI.op (by kernel_rfl) (OpE.box 7 64 [.int .u16 0, .int .u16 0, .int .u16 0, .int .u16 0, .int .u16 0, .int .u16 0, .int .u16 0, .int .u16 0, .int .u16 0, .int .u16 0, .int .u16 0, .int .u16 0, .int .u16 0, .int .u8 0, .int .u8 0, .bool false, .bool false, .bool false, .bool false, .int .i64 0] h3 (by kernel_rfl) (by kernel_rfl) ?_)
  intro w6 b7 h8 hb9 hn10
  refine RegI.op (by kernel_rfl) (OpE.storeBox 1 64 b7 0 (.agg #[.int .u16 p0_0, .int .u16 p0_1, .int .u16 p0_2, .int .u16 p0_3, .int .u16 p0_4, .int .u16 p0_5, .int .u16 p0_6, .int .u16 p0_7, .int .u16 p0_8, .int .u16 p0_9, .int .u16 p0_10, .int .u16 p0_11, .int .u16 p0_12, .int .u8 p0_13, .int .u8 p0_14, .bool p0_15, .bool p0_16, .bool p0_17, .bool p0_18, .int .i64 p0_19]) [.int .u16 p0_0, .int .u16 p0_1, .int .u16 p0_2, .int .u16 p0_3, .int .u16 p0_4, .int .u16 p0_5, .int .u16 p0_6, .int .u16 p0_7, .int .u16 p0_8, .int .u16 p0_9, .int .u16 p0_10, .int .u16 p0_11, .int .u16 p0_12, .int .u8 p0_13, .int .u8 p0_14, .bool p0_15, .bool p0_16, .bool p0_17, .bool p0_18, .int .i64 p0_19] h8 (by kernel_rfl) (by kernel_rfl) rfl (by kernel_rfl) (by kernel_rfl) (by kernel_rfl) ?_)
  intro w11 h12 hk13
  refine RegI.done (by kernel_rfl) ?_
  refine RunsI.go 2 [.c 6, .c 7, .c 14] (by kernel_rfl) ?_
  refine RunsI.region (by kernel_rfl) ?_
  refine RegI.pure 2 [7, 10, 11] [(7, .pointer (some ⟨b7, 0, none⟩)), (10, .int .i64 p1), (11, .int .i64 p2)] (by kernel_rfl) ?_
  refine RegI.enter 12 [] [] (by kernel_rfl) (by kernel_rfl) (by kernel_rfl) (by kernel_rfl) F49 49 rfl [.pointer (some ⟨b7, 0, none⟩), .int .i64 p1, .int .i64 p2] (by kernel_rfl) (by kernel_rfl) ?_
  refine RunsI.go 1 [.c 1, .c 2] (by kernel_rfl) ?_
  refine RunsI.region (by kernel_rfl) ?_
  refine RegI.pure 1 [0, 1, 2] [(0, .pointer (some ⟨b7, 0, none⟩)), (1, .int .i64 p1), (2, .int .i64 p2)] (by kernel_rfl) ?_
  refine RegI.done (by kernel_rfl) ?_
  refine RunsI.go 2 [.c 4, .c 5, .c 16] (by kernel_rfl) ?_
  refine RunsI.region (by kernel_rfl) ?_
  refine RegI.pure 2 [0, 1, 2, 12] [(0, .pointer (some ⟨b7, 0, none⟩)), (1, .int .i64 p1), (2, .int .i64 p2), (12, .bool (p2 == 2))] (by kernel_rfl) ?_
  refine RegI.done (by kernel_rfl) ?_
  obtain ⟨j30, hJ31, h⟩ := of_let h
  have hj32 : ∀ (w29 : World), j30 () = some r → Holds M0 w0 w29 [box b7 64 [.int .u16 p0_0, .int .u16 p0_1, .int .u16 p0_2, .int .u16 p0_3, .int .u16 p0_4, .int .u16 p0_5, .int .u16 p0_6, .int .u16 p0_7, .int .u16 p0_8, .int .u16 p0_9, .int .u16 p0_10, .int .u16 p0_11, .int .u16 p0_12, .int .u8 p0_13, .int .u8 p0_14, .bool p0_15, .bool p0_16, .bool p0_17, .bool p0_18, .int .i64 p0_19]] → RunsI F49 [.c 16] [(0, .pointer (some ⟨b7, 0, none⟩)), (2, .int .i64 p2)] w29 (cont (fun e' w' => RegI F26 6 [.c 7, .c 14] 3 e' w' (regs_Pair_26.post M0 w0 r)) 12 []) := by
    intro w29 h h28
    rw [hJ31] at h
    clear hJ31
    dsimp only at h
    refine RunsI.go 1 [.c 17, .c 18] (by kernel_rfl) ?_
    refine RunsI.region (by kernel_rfl) ?_
    refine RegI.op (by kernel_rfl) (OpE.makeMap 25 (ekI .i64) (fun (v : Value) => v) h28 (by kernel_rfl) (by kernel_rfl) ?_)
    intro w33 b34 h35 hb36 hn37
    refine RegI.op (by kernel_rfl) (OpE.mapSet (ek := (ekI .i64)) (ev := (fun (v : Value) => v)) 1 85 3 82 0 (.func (.func 63) #[] #[]) h35 (by kernel_rfl) rfl (by kernel_rfl) rfl rfl (by kernel_rfl) (KeyOk.int .i64 (by kernel_rfl)) [(0, .func (.func 63) #[] #[])] (by kernel_rfl) ?_)
    intro w38 h39 hk40
    refine RegI.op (by kernel_rfl) (OpE.mapSet (ek := (ekI .i64)) (ev := (fun (v : Value) => v)) 1 85 3 82 1 (.func (.func 64) #[] #[]) h39 (by kernel_rfl) rfl (by kernel_rfl) rfl rfl (by kernel_rfl) (KeyOk.int .i64 (by kernel_rfl)) [(0, .func (.func 63) #[] #[]), (1, .func (.func 64) #[] #[])] (by kernel_rfl) ?_)
    intro w41 h42 hk43
    refine RegI.op (by kernel_rfl) (OpE.mapSet (ek := (ekI .i64)) (ev := (fun (v : Value) => v)) 1 85 3 82 2 (.func (.func 65) #[] #[]) h42 (by kernel_rfl) rfl (by kernel_rfl) rfl rfl (by kernel_rfl) (KeyOk.int .i64 (by kernel_rfl)) [(0, .func (.func 63) #[] #[]), (1, .func (.func 64) #[] #[]), (2, .func (.func 65) #[] #[])] (by kernel_rfl) ?_)
    intro w44 h45 hk46
    refine RegI.op (by kernel_rfl) (OpE.mapSet (ek := (ekI .i64)) (ev := (fun (v : Value) => v)) 1 85 3 82 3 (.func (.func 66) #[] #[]) h45 (by kernel_rfl) rfl (by kernel_rfl) rfl rfl (by kernel_rfl) (KeyOk.int .i64 (by kernel_rfl)) [(0, .func (.func 63) #[] #[]), (1, .func (.func 64) #[] #[]), (2, .func (.func 65) #[] #[]), (3, .func (.func 66) #[] #[])] (by kernel_rfl) ?_)
    intro w47 h48 hk49
    refine RegI.pure 2 [0, 26, 27] [(0, .pointer (some ⟨b7, 0, none⟩)), (26, .map (some b34)), (27, .int .i64 p2)] (by kernel_rfl) ?_
    rcases of_cond h with ⟨hc50, h⟩ | ⟨hc50, h⟩
    · skip
      refine RegI.op (by kernel_rfl) (OpE.lookup (ek := (ekI .i64)) (ev := (fun (v : Value) => v)) (zv := .nilFunc) 28 1 85 3 82 p2 (.tuple #[.func (.func 63) #[] #[], .bool true]) true h48 (by kernel_rfl) rfl (by kernel_rfl) rfl (by kernel_rfl) (KeyOk.int .i64 (by kernel_rfl)) (fun _ => by kernel_rfl) (by simp only [findK, hc50, cond_true, cond_false, Option.map_some, Option.map_none, Option.getD_some, Option.getD_none, Option.isSome_some, Option.isSome_none]) ?_)
      refine RegI.pure 5 [0, 9, 10] [(0, .pointer (some ⟨b7, 0, none⟩)), (9, .func (.func 63) #[] #[]), (10, .bool true)] (by kernel_rfl) ?_
      refine RegI.done (by kernel_rfl) ?_
      refine RunsI.go 2 [.c 20, .c 21, .c 26] (by kernel_rfl) ?_
      refine RunsI.region (by kernel_rfl) ?_
      refine RegI.pure 2 [0, 9, 32] [(0, .pointer (some ⟨b7, 0, none⟩)), (9, .func (.func 63) #[] #[]), (32, .bool false)] (by kernel_rfl) ?_
      refine RegI.done (by kernel_rfl) ?_
      refine RunsI.cond false 25 (by kernel_rfl) ?_
      refine RunsI.go 2 [.c 27, .c 28] (by kernel_rfl) ?_
      refine RunsI.region (by kernel_rfl) ?_
      refine RegI.pure 2 [33, 34] [(33, .func (.func 63) #[] #[]), (34, .pointer (some ⟨b7, 0, none⟩))] (by kernel_rfl) ?_
      refine RegI.enter 35 [] [] (by kernel_rfl) (by kernel_rfl) (by kernel_rfl) (by kernel_rfl) F63 63 rfl [.pointer (some ⟨b7, 0, none⟩)] (by kernel_rfl) (by kernel_rfl) ?_
      refine RunsI.go 1 [.c 1, .c 2] (by kernel_rfl) ?_
      refine RunsI.region (by kernel_rfl) ?_
      refine RegI.pure 1 [0] [(0, .pointer (some ⟨b7, 0, none⟩))] (by kernel_rfl) ?_
      refine RegI.done (by kernel_rfl) ?_
      refine RunsI.go 1 [.c 3, .c 4] (by kernel_rfl) ?_
      refine RunsI.region (by kernel_rfl) ?_
      refine RegI.pure 4 [2] [(2, .pointer (some ⟨b7, 1, none⟩))] (by kernel_rfl) ?_
      refine RegI.done (by kernel_rfl) ?_
      refine RunsI.ret (.pointer (some ⟨b7, 1, none⟩)) (by kernel_rfl) (by kernel_rfl) ?_
      refine cont_mk ?_
      refine RegI.pure 1 [6] [(6, .pointer (some ⟨b7, 1, none⟩))] (by kernel_rfl) ?_
      refine RegI.done (by kernel_rfl) ?_
      refine RunsI.ret (.pointer (some ⟨b7, 1, none⟩)) (by kernel_rfl) (by kernel_rfl) ?_
      refine cont_mk ?_
      refine RegI.pure 1 [8] [(8, .pointer (some ⟨b7, 1, none⟩))] (by kernel_rfl) ?_
      refine RegI.done (by kernel_rfl) ?_
      refine RunsI.go 1 [.c 8, .c 9, .c 14] (by kernel_rfl) ?_
      refine RunsI.region (by kernel_rfl) ?_
      refine RegI.pure 2 [8, 14] [(8, .pointer (some ⟨b7, 1, none⟩)), (14, .bool true)] (by kernel_rfl) ?_
      refine RegI.done (by kernel_rfl) ?_
      refine RunsI.cond true 10 (by kernel_rfl) ?_
      refine RunsI.go 1 [.c 11, .c 12, .c 14] (by kernel_rfl) ?_
      refine RunsI.region (by kernel_rfl) ?_
      refine RegI.pure 2 [16] [(16, .pointer (some ⟨b7, 1, none⟩))] (by kernel_rfl) ?_
      refine RegI.op (by kernel_rfl) (OpE.loadBox 17 0 22 b7 1 (.int .u16 p0_1) h48 (by kernel_rfl) (by kernel_rfl) rfl (by kernel_rfl) ?_)
      refine RegI.pure 1 [6] [(6, .int .u16 p0_1)] (by kernel_rfl) ?_
      refine RegI.done (by kernel_rfl) ?_
      refine RunsI.ret (.int .u16 p0_1) (by kernel_rfl) (by kernel_rfl) ?_
      obtain rfl := Option.some.inj h
      exact ⟨rfl, h48.below⟩
    · skip
      rcases of_cond h with ⟨hc51, h⟩ | ⟨hc51, h⟩
      · skip
        refine RegI.op (by kernel_rfl) (OpE.lookup (ek := (ekI .i64)) (ev := (fun (v : Value) => v)) (zv := .nilFunc) 28 1 85 3 82 p2 (.tuple #[.func (.func 64) #[] #[], .bool true]) true h48 (by kernel_rfl) rfl (by kernel_rfl) rfl (by kernel_rfl) (KeyOk.int .i64 (by kernel_rfl)) (fun _ => by kernel_rfl) (by simp only [findK, hc50, hc51, cond_true, cond_false, Option.map_some, Option.map_none, Option.getD_some, Option.getD_none, Option.isSome_some, Option.isSome_none]) ?_)
        refine RegI.pure 5 [0, 9, 10] [(0, .pointer (some ⟨b7, 0, none⟩)), (9, .func (.func 64) #[] #[]), (10, .bool true)] (by kernel_rfl) ?_
        refine RegI.done (by kernel_rfl) ?_
        refine RunsI.go 2 [.c 20, .c 21, .c 26] (by kernel_rfl) ?_
        refine RunsI.region (by kernel_rfl) ?_
        refine RegI.pure 2 [0, 9, 32] [(0, .pointer (some ⟨b7, 0, none⟩)), (9, .func (.func 64) #[] #[]), (32, .bool false)] (by kernel_rfl) ?_
        refine RegI.done (by kernel_rfl) ?_
        refine RunsI.cond false 25 (by kernel_rfl) ?_
        refine RunsI.go 2 [.c 27, .c 28] (by kernel_rfl) ?_
        refine RunsI.region (by kernel_rfl) ?_
        refine RegI.pure 2 [33, 34] [(33, .func (.func 64) #[] #[]), (34, .pointer (some ⟨b7, 0, none⟩))] (by kernel_rfl) ?_
        refine RegI.enter 35 [] [] (by kernel_rfl) (by kernel_rfl) (by kernel_rfl) (by kernel_rfl) F64 64 rfl [.pointer (some ⟨b7, 0, none⟩)] (by kernel_rfl) (by kernel_rfl) ?_
        refine RunsI.go 1 [.c 1, .c 2] (by kernel_rfl) ?_
        refine RunsI.region (by kernel_rfl) ?_
        refine RegI.pure 1 [0] [(0, .pointer (some ⟨b7, 0, none⟩))] (by kernel_rfl) ?_
        refine RegI.done (by kernel_rfl) ?_
        refine RunsI.go 1 [.c 3, .c 4] (by kernel_rfl) ?_
        refine RunsI.region (by kernel_rfl) ?_
        refine RegI.pure 4 [2] [(2, .pointer (some ⟨b7, 2, none⟩))] (by kernel_rfl) ?_
        refine RegI.done (by kernel_rfl) ?_
        refine RunsI.ret (.pointer (some ⟨b7, 2, none⟩)) (by kernel_rfl) (by kernel_rfl) ?_
        refine cont_mk ?_
        refine RegI.pure 1 [6] [(6, .pointer (some ⟨b7, 2, none⟩))] (by kernel_rfl) ?_
        refine RegI.done (by kernel_rfl) ?_
        refine RunsI.ret (.pointer (some ⟨b7, 2, none⟩)) (by kernel_rfl) (by kernel_rfl) ?_
        refine cont_mk ?_
        refine RegI.pure 1 [8] [(8, .pointer (some ⟨b7, 2, none⟩))] (by kernel_rfl) ?_
        refine RegI.done (by kernel_rfl) ?_
        refine RunsI.go 1 [.c 8, .c 9, .c 14] (by kernel_rfl) ?_
        refine RunsI.region (by kernel_rfl) ?_
        refine RegI.pure 2 [8, 14] [(8, .pointer (some ⟨b7, 2, none⟩)), (14, .bool true)] (by kernel_rfl) ?_
        refine RegI.done (by kernel_rfl) ?_
        refine RunsI.cond true 10 (by kernel_rfl) ?_
        refine RunsI.go 1 [.c 11, .c 12, .c 14] (by kernel_rfl) ?_
        refine RunsI.region (by kernel_rfl) ?_
        refine RegI.pure 2 [16] [(16, .pointer (some ⟨b7, 2, none⟩))] (by kernel_rfl) ?_
        refine RegI.op (by kernel_rfl) (OpE.loadBox 17 0 22 b7 2 (.int .u16 p0_2) h48 (by kernel_rfl) (by kernel_rfl) rfl (by kernel_rfl) ?_)
        refine RegI.pure 1 [6] [(6, .int .u16 p0_2)] (by kernel_rfl) ?_
        refine RegI.done (by kernel_rfl) ?_
        refine RunsI.ret (.int .u16 p0_2) (by kernel_rfl) (by kernel_rfl) ?_
        obtain rfl := Option.some.inj h
        exact ⟨rfl, h48.below⟩
      · skip
        rcases of_cond h with ⟨hc52, h⟩ | ⟨hc52, h⟩
        · skip
          refine RegI.op (by kernel_rfl) (OpE.lookup (ek := (ekI .i64)) (ev := (fun (v : Value) => v)) (zv := .nilFunc) 28 1 85 3 82 p2 (.tuple #[.func (.func 65) #[] #[], .bool true]) true h48 (by kernel_rfl) rfl (by kernel_rfl) rfl (by kernel_rfl) (KeyOk.int .i64 (by kernel_rfl)) (fun _ => by kernel_rfl) (by simp only [findK, hc50, hc51, hc52, cond_true, cond_false, Option.map_some, Option.map_none, Option.getD_some, Option.getD_none, Option.isSome_some, Option.isSome_none]) ?_)
          refine RegI.pure 5 [0, 9, 10] [(0, .pointer (some ⟨b7, 0, none⟩)), (9, .func (.func 65) #[] #[]), (10, .bool true)] (by kernel_rfl) ?_
          refine RegI.done (by kernel_rfl) ?_
          refine RunsI.go 2 [.c 20, .c 21, .c 26] (by kernel_rfl) ?_
          refine RunsI.region (by kernel_rfl) ?_
          refine RegI.pure 2 [0, 9, 32] [(0, .pointer (some ⟨b7, 0, none⟩)), (9, .func (.func 65) #[] #[]), (32, .bool false)] (by kernel_rfl) ?_
          refine RegI.done (by kernel_rfl) ?_
          refine RunsI.cond false 25 (by kernel_rfl) ?_
          refine RunsI.go 2 [.c 27, .c 28] (by kernel_rfl) ?_
          refine RunsI.region (by kernel_rfl) ?_
          refine RegI.pure 2 [33, 34] [(33, .func (.func 65) #[] #[]), (34, .pointer (some ⟨b7, 0, none⟩))] (by kernel_rfl) ?_
          refine RegI.enter 35 [] [] (by kernel_rfl) (by kernel_rfl) (by kernel_rfl) (by kernel_rfl) F65 65 rfl [.pointer (some ⟨b7, 0, none⟩)] (by kernel_rfl) (by kernel_rfl) ?_
          refine RunsI.go 1 [.c 1, .c 2] (by kernel_rfl) ?_
          refine RunsI.region (by kernel_rfl) ?_
          refine RegI.pure 1 [0] [(0, .pointer (some ⟨b7, 0, none⟩))] (by kernel_rfl) ?_
          refine RegI.done (by kernel_rfl) ?_
          refine RunsI.go 1 [.c 3, .c 4] (by kernel_rfl) ?_
          refine RunsI.region (by kernel_rfl) ?_
          refine RegI.pure 4 [2] [(2, .pointer (some ⟨b7, 3, none⟩))] (by kernel_rfl) ?_
          refine RegI.done (by kernel_rfl) ?_
          refine RunsI.ret (.pointer (some ⟨b7, 3, none⟩)) (by kernel_rfl) (by kernel_rfl) ?_
          refine cont_mk ?_
          refine RegI.pure 1 [6] [(6, .pointer (some ⟨b7, 3, none⟩))] (by kernel_rfl) ?_
          refine RegI.done (by kernel_rfl) ?_
          refine RunsI.ret (.pointer (some ⟨b7, 3, none⟩)) (by kernel_rfl) (by kernel_rfl) ?_
          refine cont_mk ?_
          refine RegI.pure 1 [8] [(8, .pointer (some ⟨b7, 3, none⟩))] (by kernel_rfl) ?_
          refine RegI.done (by kernel_rfl) ?_
          refine RunsI.go 1 [.c 8, .c 9, .c 14] (by kernel_rfl) ?_
          refine RunsI.region (by kernel_rfl) ?_
          refine RegI.pure 2 [8, 14] [(8, .pointer (some ⟨b7, 3, none⟩)), (14, .bool true)] (by kernel_rfl) ?_
          refine RegI.done (by kernel_rfl) ?_
          refine RunsI.cond true 10 (by kernel_rfl) ?_
          refine RunsI.go 1 [.c 11, .c 12, .c 14] (by kernel_rfl) ?_
          refine RunsI.region (by kernel_rfl) ?_
          refine RegI.pure 2 [16] [(16, .pointer (some ⟨b7, 3, none⟩))] (by kernel_rfl) ?_
          refine RegI.op (by kernel_rfl) (OpE.loadBox 17 0 22 b7 3 (.int .u16 p0_3) h48 (by kernel_rfl) (by kernel_rfl) rfl (by kernel_rfl) ?_)
          refine RegI.pure 1 [6] [(6, .int .u16 p0_3)] (by kernel_rfl) ?_
          refine RegI.done (by kernel_rfl) ?_
          refine RunsI.ret (.int .u16 p0_3) (by kernel_rfl) (by kernel_rfl) ?_
          obtain rfl := Option.some.inj h
          exact ⟨rfl, h48.below⟩
        · skip
          rcases of_cond h with ⟨hc53, h⟩ | ⟨hc53, h⟩
          · skip
            refine RegI.op (by kernel_rfl) (OpE.lookup (ek := (ekI .i64)) (ev := (fun (v : Value) => v)) (zv := .nilFunc) 28 1 85 3 82 p2 (.tuple #[.func (.func 66) #[] #[], .bool true]) true h48 (by kernel_rfl) rfl (by kernel_rfl) rfl (by kernel_rfl) (KeyOk.int .i64 (by kernel_rfl)) (fun _ => by kernel_rfl) (by simp only [findK, hc50, hc51, hc52, hc53, cond_true, cond_false, Option.map_some, Option.map_none, Option.getD_some, Option.getD_none, Option.isSome_some, Option.isSome_none]) ?_)
            refine RegI.pure 5 [0, 9, 10] [(0, .pointer (some ⟨b7, 0, none⟩)), (9, .func (.func 66) #[] #[]), (10, .bool true)] (by kernel_rfl) ?_
            refine RegI.done (by kernel_rfl) ?_
            refine RunsI.go 2 [.c 20, .c 21, .c 26] (by kernel_rfl) ?_
            refine RunsI.region (by kernel_rfl) ?_
            refine RegI.pure 2 [0, 9, 32] [(0, .pointer (some ⟨b7, 0, none⟩)), (9, .func (.func 66) #[] #[]), (32, .bool false)] (by kernel_rfl) ?_
            refine RegI.done (by kernel_rfl) ?_
            refine RunsI.cond false 25 (by kernel_rfl) ?_
            refine RunsI.go 2 [.c 27, .c 28] (by kernel_rfl) ?_
            refine RunsI.region (by kernel_rfl) ?_
            refine RegI.pure 2 [33, 34] [(33, .func (.func 66) #[] #[]), (34, .pointer (some ⟨b7, 0, none⟩))] (by kernel_rfl) ?_
            refine RegI.enter 35 [] [] (by kernel_rfl) (by kernel_rfl) (by kernel_rfl) (by kernel_rfl) F66 66 rfl [.pointer (some ⟨b7, 0, none⟩)] (by kernel_rfl) (by kernel_rfl) ?_
            refine RunsI.go 1 [.c 1, .c 2] (by kernel_rfl) ?_
            refine RunsI.region (by kernel_rfl) ?_
            refine RegI.pure 1 [0] [(0, .pointer (some ⟨b7, 0, none⟩))] (by kernel_rfl) ?_
            refine RegI.done (by kernel_rfl) ?_
            refine RunsI.go 1 [.c 3, .c 4] (by kernel_rfl) ?_
            refine RunsI.region (by kernel_rfl) ?_
            refine RegI.pure 4 [2] [(2, .pointer (some ⟨b7, 10, none⟩))] (by kernel_rfl) ?_
            refine RegI.done (by kernel_rfl) ?_
            refine RunsI.ret (.pointer (some ⟨b7, 10, none⟩)) (by kernel_rfl) (by kernel_rfl) ?_
            refine cont_mk ?_
            refine RegI.pure 1 [6] [(6, .pointer (some ⟨b7, 10, none⟩))] (by kernel_rfl) ?_
            refine RegI.done (by kernel_rfl) ?_
            refine RunsI.ret (.pointer (some ⟨b7, 10, none⟩)) (by kernel_rfl) (by kernel_rfl) ?_
            refine cont_mk ?_
            refine RegI.pure 1 [8] [(8, .pointer (some ⟨b7, 10, none⟩))] (by kernel_rfl) ?_
            refine RegI.done (by kernel_rfl) ?_
            refine RunsI.go 1 [.c 8, .c 9, .c 14] (by kernel_rfl) ?_
            refine RunsI.region (by kernel_rfl) ?_
            refine RegI.pure 2 [8, 14] [(8, .pointer (some ⟨b7, 10, none⟩)), (14, .bool true)] (by kernel_rfl) ?_
            refine RegI.done (by kernel_rfl) ?_
            refine RunsI.cond true 10 (by kernel_rfl) ?_
            refine RunsI.go 1 [.c 11, .c 12, .c 14] (by kernel_rfl) ?_
            refine RunsI.region (by kernel_rfl) ?_
            refine RegI.pure 2 [16] [(16, .pointer (some ⟨b7, 10, none⟩))] (by kernel_rfl) ?_
            refine RegI.op (by kernel_rfl) (OpE.loadBox 17 0 22 b7 10 (.int .u16 p0_10) h48 (by kernel_rfl) (by kernel_rfl) rfl (by kernel_rfl) ?_)
            refine RegI.pure 1 [6] [(6, .int .u16 p0_10)] (by kernel_rfl) ?_
            refine RegI.done (by kernel_rfl) ?_
            refine RunsI.ret (.int .u16 p0_10) (by kernel_rfl) (by kernel_rfl) ?_
            obtain rfl := Option.some.inj h
            exact ⟨rfl, h48.below⟩
          · skip
            refine RegI.op (by kernel_rfl) (OpE.lookup (ek := (ekI .i64)) (ev := (fun (v : Value) => v)) (zv := .nilFunc) 28 1 85 3 82 p2 (.tuple #[.nilFunc, .bool false]) true h48 (by kernel_rfl) rfl (by kernel_rfl) rfl (by kernel_rfl) (KeyOk.int .i64 (by kernel_rfl)) (fun _ => by kernel_rfl) (by simp only [findK, hc50, hc51, hc52, hc53, cond_true, cond_false, Option.map_some, Option.map_none, Option.getD_some, Option.getD_none, Option.isSome_some, Option.isSome_none]) ?_)
            refine RegI.pure 5 [0, 9, 10] [(0, .pointer (some ⟨b7, 0, none⟩)), (9, .nilFunc), (10, .bool false)] (by kernel_rfl) ?_
            refine RegI.done (by kernel_rfl) ?_
            refine RunsI.go 2 [.c 20, .c 21, .c 26] (by kernel_rfl) ?_
            refine RunsI.region (by kernel_rfl) ?_
            refine RegI.pure 2 [0, 9, 32] [(0, .pointer (some ⟨b7, 0, none⟩)), (9, .nilFunc), (32, .bool true)] (by kernel_rfl) ?_
            refine RegI.done (by kernel_rfl) ?_
            refine RunsI.cond true 22 (by kernel_rfl) ?_
            refine RunsI.go 1 [.c 23, .c 24, .c 26] (by kernel_rfl) ?_
            refine RunsI.region (by kernel_rfl) ?_
            refine RegI.pure 1 [6] [(6, .pointer none)] (by kernel_rfl) ?_
            refine RegI.done (by kernel_rfl) ?_
            refine RunsI.ret (.pointer none) (by kernel_rfl) (by kernel_rfl) ?_
            refine cont_mk ?_
            refine RegI.pure 1 [8] [(8, .pointer none)] (by kernel_rfl) ?_
            refine RegI.done (by kernel_rfl) ?_
            refine RunsI.go 1 [.c 8, .c 9, .c 14] (by kernel_rfl) ?_
            refine RunsI.region (by kernel_rfl) ?_
            refine RegI.pure 2 [8, 14] [(8, .pointer none), (14, .bool false)] (by kernel_rfl) ?_
            refine RegI.done (by kernel_rfl) ?_
            refine RunsI.cond false 13 (by kernel_rfl) ?_
            refine RunsI.go 2 [.c 15, .c 16] (by kernel_rfl) ?_
            refine RunsI.region (by kernel_rfl) ?_
            refine RegI.pure 1 [6] [(6, .int .u16 0)] (by kernel_rfl) ?_
            refine RegI.done (by kernel_rfl) ?_
            refine RunsI.ret (.int .u16 0) (by kernel_rfl) (by kernel_rfl) ?_
            obtain rfl := Option.some.inj h
            exact ⟨rfl, h48.below⟩
  clear hJ31
  rcases of_cond h with ⟨hc14, h⟩ | ⟨hc14, h⟩
  · skip
    refine RunsI.fix 12 true hc14 (by kernel_rfl) (by kernel_rfl) ?_
    refine RunsI.cond true 6 (by kernel_rfl) ?_
    refine RunsI.go 1 [.c 7, .c 8, .c 16] (by kernel_rfl) ?_
    refine RunsI.region (by kernel_rfl) ?_
    refine RegI.op (by kernel_rfl) (OpE.makeMap 14 (ekI .i64) (fun (v : Value) => v) h12 (by kernel_rfl) (by kernel_rfl) ?_)
    intro w15 b16 h17 hb18 hn19
    refine RegI.op (by kernel_rfl) (OpE.mapSet (ek := (ekI .i64)) (ev := (fun (v : Value) => v)) 2 85 3 82 3 (.func (.func 61) #[] #[]) h17 (by kernel_rfl) rfl (by kernel_rfl) rfl rfl (by kernel_rfl) (KeyOk.int .i64 (by kernel_rfl)) [(3, .func (.func 61) #[] #[])] (by kernel_rfl) ?_)
    intro w20 h21 hk22
    refine RegI.op (by kernel_rfl) (OpE.mapSet (ek := (ekI .i64)) (ev := (fun (v : Value) => v)) 2 85 3 82 4 (.func (.func 62) #[] #[]) h21 (by kernel_rfl) rfl (by kernel_rfl) rfl rfl (by kernel_rfl) (KeyOk.int .i64 (by kernel_rfl)) [(3, .func (.func 61) #[] #[]), (4, .func (.func 62) #[] #[])] (by kernel_rfl) ?_)
    intro w23 h24 hk25
    refine RegI.pure 2 [0, 2, 15, 16] [(0, .pointer (some ⟨b7, 0, none⟩)), (2, .int .i64 p2), (15, .map (some b16)), (16, .int .i64 p1)] (by kernel_rfl) ?_
    rcases of_cond h with ⟨hc26, h⟩ | ⟨hc26, h⟩
    · skip
      refine RegI.op (by kernel_rfl) (OpE.lookup (ek := (ekI .i64)) (ev := (fun (v : Value) => v)) (zv := .nilFunc) 17 2 85 3 82 p1 (.tuple #[.func (.func 61) #[] #[], .bool true]) true h24 (by kernel_rfl) rfl (by kernel_rfl) rfl (by kernel_rfl) (KeyOk.int .i64 (by kernel_rfl)) (fun _ => by kernel_rfl) (by simp only [findK, hc26, cond_true, cond_false, Option.map_some, Option.map_none, Option.getD_some, Option.getD_none, Option.isSome_some, Option.isSome_none]) ?_)
      refine RegI.pure 5 [0, 2, 7, 8] [(0, .pointer (some ⟨b7, 0, none⟩)), (2, .int .i64 p2), (7, .func (.func 61) #[] #[]), (8, .bool true)] (by kernel_rfl) ?_
      refine RegI.done (by kernel_rfl) ?_
      refine RunsI.go 1 [.c 9, .c 10, .c 16] (by kernel_rfl) ?_
      refine RunsI.region (by kernel_rfl) ?_
      refine RegI.pure 1 [0, 2, 7, 20] [(0, .pointer (some ⟨b7, 0, none⟩)), (2, .int .i64 p2), (7, .func (.func 61) #[] #[]), (20, .bool true)] (by kernel_rfl) ?_
      refine RegI.done (by kernel_rfl) ?_
      refine RunsI.cond true 11 (by kernel_rfl) ?_
      refine RunsI.go 1 [.c 12, .c 13, .c 16] (by kernel_rfl) ?_
      refine RunsI.region (by kernel_rfl) ?_
      refine RegI.pure 2 [21, 22] [(21, .func (.func 61) #[] #[]), (22, .pointer (some ⟨b7, 0, none⟩))] (by kernel_rfl) ?_
      refine RegI.enter 23 [] [] (by kernel_rfl) (by kernel_rfl) (by kernel_rfl) (by kernel_rfl) F61 61 rfl [.pointer (some ⟨b7, 0, none⟩)] (by kernel_rfl) (by kernel_rfl) ?_
      refine RunsI.go 1 [.c 1, .c 2] (by kernel_rfl) ?_
      refine RunsI.region (by kernel_rfl) ?_
      refine RegI.pure 1 [0] [(0, .pointer (some ⟨b7, 0, none⟩))] (by kernel_rfl) ?_
      refine RegI.done (by kernel_rfl) ?_
      refine RunsI.go 1 [.c 3, .c 4] (by kernel_rfl) ?_
      refine RunsI.region (by kernel_rfl) ?_
      refine RegI.pure 4 [2] [(2, .pointer (some ⟨b7, 8, none⟩))] (by kernel_rfl) ?_
      refine RegI.done (by kernel_rfl) ?_
      refine RunsI.ret (.pointer (some ⟨b7, 8, none⟩)) (by kernel_rfl) (by kernel_rfl) ?_
      refine cont_mk ?_
      refine RegI.pure 1 [6] [(6, .pointer (some ⟨b7, 8, none⟩))] (by kernel_rfl) ?_
      refine RegI.done (by kernel_rfl) ?_
      refine RunsI.ret (.pointer (some ⟨b7, 8, none⟩)) (by kernel_rfl) (by kernel_rfl) ?_
      refine cont_mk ?_
      refine RegI.pure 1 [8] [(8, .pointer (some ⟨b7, 8, none⟩))] (by kernel_rfl) ?_
      refine RegI.done (by kernel_rfl) ?_
      refine RunsI.go 1 [.c 8, .c 9, .c 14] (by kernel_rfl) ?_
      refine RunsI.region (by kernel_rfl) ?_
      refine RegI.pure 2 [8, 14] [(8, .pointer (some ⟨b7, 8, none⟩)), (14, .bool true)] (by kernel_rfl) ?_
      refine RegI.done (by kernel_rfl) ?_
      refine RunsI.cond true 10 (by kernel_rfl) ?_
      refine RunsI.go 1 [.c 11, .c 12, .c 14] (by kernel_rfl) ?_
      refine RunsI.region (by kernel_rfl) ?_
      refine RegI.pure 2 [16] [(16, .pointer (some ⟨b7, 8, none⟩))] (by kernel_rfl) ?_
      refine RegI.op (by kernel_rfl) (OpE.loadBox 17 1 22 b7 8 (.int .u16 p0_8) h24 (by kernel_rfl) (by kernel_rfl) rfl (by kernel_rfl) ?_)
      refine RegI.pure 1 [6] [(6, .int .u16 p0_8)] (by kernel_rfl) ?_
      refine RegI.done (by kernel_rfl) ?_
      refine RunsI.ret (.int .u16 p0_8) (by kernel_rfl) (by kernel_rfl) ?_
      obtain rfl := Option.some.inj h
      exact ⟨rfl, h24.below⟩
    · skip
      rcases of_cond h with ⟨hc27, h⟩ | ⟨hc27, h⟩
      · skip
        refine RegI.op (by kernel_rfl) (OpE.lookup (ek := (ekI .i64)) (ev := (fun (v : Value) => v)) (zv := .nilFunc) 17 2 85 3 82 p1 (.tuple #[.func (.func 62) #[] #[], .bool true]) true h24 (by kernel_rfl) rfl (by kernel_rfl) rfl (by kernel_rfl) (KeyOk.int .i64 (by kernel_rfl)) (fun _ => by kernel_rfl) (by simp only [findK, hc26, hc27, cond_true, cond_false, Option.map_some, Option.map_none, Option.getD_some, Option.getD_none, Option.isSome_some, Option.isSome_none]) ?_)
        refine RegI.pure 5 [0, 2, 7, 8] [(0, .pointer (some ⟨b7, 0, none⟩)), (2, .int .i64 p2), (7, .func (.func 62) #[] #[]), (8, .bool true)] (by kernel_rfl) ?_
        refine RegI.done (by kernel_rfl) ?_
        refine RunsI.go 1 [.c 9, .c 10, .c 16] (by kernel_rfl) ?_
        refine RunsI.region (by kernel_rfl) ?_
        refine RegI.pure 1 [0, 2, 7, 20] [(0, .pointer (some ⟨b7, 0, none⟩)), (2, .int .i64 p2), (7, .func (.func 62) #[] #[]), (20, .bool true)] (by kernel_rfl) ?_
        refine RegI.done (by kernel_rfl) ?_
        refine RunsI.cond true 11 (by kernel_rfl) ?_
        refine RunsI.go 1 [.c 12, .c 13, .c 16] (by kernel_rfl) ?_
        refine RunsI.region (by kernel_rfl) ?_
        refine RegI.pure 2 [21, 22] [(21, .func (.func 62) #[] #[]), (22, .pointer (some ⟨b7, 0, none⟩))] (by kernel_rfl) ?_
        refine RegI.enter 23 [] [] (by kernel_rfl) (by kernel_rfl) (by kernel_rfl) (by kernel_rfl) F62 62 rfl [.pointer (some ⟨b7, 0, none⟩)] (by kernel_rfl) (by kernel_rfl) ?_
        refine RunsI.go 1 [.c 1, .c 2] (by kernel_rfl) ?_
        refine RunsI.region (by kernel_rfl) ?_
        refine RegI.pure 1 [0] [(0, .pointer (some ⟨b7, 0, none⟩))] (by kernel_rfl) ?_
        refine RegI.done (by kernel_rfl) ?_
        refine RunsI.go 1 [.c 3, .c 4] (by kernel_rfl) ?_
        refine RunsI.region (by kernel_rfl) ?_
        refine RegI.pure 4 [2] [(2, .pointer (some ⟨b7, 9, none⟩))] (by kernel_rfl) ?_
        refine RegI.done (by kernel_rfl) ?_
        refine RunsI.ret (.pointer (some ⟨b7, 9, none⟩)) (by kernel_rfl) (by kernel_rfl) ?_
        refine cont_mk ?_
        refine RegI.pure 1 [6] [(6, .pointer (some ⟨b7, 9, none⟩))] (by kernel_rfl) ?_
        refine RegI.done (by kernel_rfl) ?_
        refine RunsI.ret (.pointer (some ⟨b7, 9, none⟩)) (by kernel_rfl) (by kernel_rfl) ?_
        refine cont_mk ?_
        refine RegI.pure 1 [8] [(8, .pointer (some ⟨b7, 9, none⟩))] (by kernel_rfl) ?_
        refine RegI.done (by kernel_rfl) ?_
        refine RunsI.go 1 [.c 8, .c 9, .c 14] (by kernel_rfl) ?_
        refine RunsI.region (by kernel_rfl) ?_
        refine RegI.pure 2 [8, 14] [(8, .pointer (some ⟨b7, 9, none⟩)), (14, .bool true)] (by kernel_rfl) ?_
        refine RegI.done (by kernel_rfl) ?_
        refine RunsI.cond true 10 (by kernel_rfl) ?_
        refine RunsI.go 1 [.c 11, .c 12, .c 14] (by kernel_rfl) ?_
        refine RunsI.region (by kernel_rfl) ?_
        refine RegI.pure 2 [16] [(16, .pointer (some ⟨b7, 9, none⟩))] (by kernel_rfl) ?_
        refine RegI.op (by kernel_rfl) (OpE.loadBox 17 1 22 b7 9 (.int .u16 p0_9) h24 (by kernel_rfl) (by kernel_rfl) rfl (by kernel_rfl) ?_)
        refine RegI.pure 1 [6] [(6, .int .u16 p0_9)] (by kernel_rfl) ?_
        refine RegI.done (by kernel_rfl) ?_
        refine RunsI.ret (.int .u16 p0_9) (by kernel_rfl) (by kernel_rfl) ?_
        obtain rfl := Option.some.inj h
        exact ⟨rfl, h24.below⟩
      · skip
        refine RegI.op (by kernel_rfl) (OpE.lookup (ek := (ekI .i64)) (ev := (fun (v : Value) => v)) (zv := .nilFunc) 17 2 85 3 82 p1 (.tuple #[.nilFunc, .bool false]) true h24 (by kernel_rfl) rfl (by kernel_rfl) rfl (by kernel_rfl) (KeyOk.int .i64 (by kernel_rfl)) (fun _ => by kernel_rfl) (by simp only [findK, hc26, hc27, cond_true, cond_false, Option.map_some, Option.map_none, Option.getD_some, Option.getD_none, Option.isSome_some, Option.isSome_none]) ?_)
        refine RegI.pure 5 [0, 2, 7, 8] [(0, .pointer (some ⟨b7, 0, none⟩)), (2, .int .i64 p2), (7, .nilFunc), (8, .bool false)] (by kernel_rfl) ?_
        refine RegI.done (by kernel_rfl) ?_
        refine RunsI.go 1 [.c 9, .c 10, .c 16] (by kernel_rfl) ?_
        refine RunsI.region (by kernel_rfl) ?_
        refine RegI.pure 1 [0, 2, 7, 20] [(0, .pointer (some ⟨b7, 0, none⟩)), (2, .int .i64 p2), (7, .nilFunc), (20, .bool false)] (by kernel_rfl) ?_
        refine RegI.done (by kernel_rfl) ?_
        refine RunsI.cond false 14 (by kernel_rfl) ?_
        refine RunsI.go 1 [.c 16] (by kernel_rfl) ?_
        refine RunsI.only [0, 2] [(0, .pointer (some ⟨b7, 0, none⟩)), (2, .int .i64 p2)] (by kernel_rfl) (by kernel_rfl) ?_
        exact hj32 w23 h (h24.pick [1] (by decide))
  · skip
    refine RunsI.fix 12 false hc14 (by kernel_rfl) (by kernel_rfl) ?_
    refine RunsI.cond false 15 (by kernel_rfl) ?_
    refine RunsI.go 1 [.c 16] (by kernel_rfl) ?_
    refine RunsI.only [0, 2] [(0, .pointer (some ⟨b7, 0, none⟩)), (2, .int .i64 p2)] (by kernel_rfl) (by kernel_rfl) ?_
    exact hj32 w11 h (h12.pick [1] (by decide))
end

/-! ### charabanc/regs.Exx (function 28) -/
section
def regs_Exx_28.post (M0 : Nat → Prop) (w0 : World) (r : Int × Int × Int × Int × Int × Int × Int × Int × Int × Int × Int × Int × Int × Int × Int × Bool × Bool × Bool × Bool × Int) : Ending → World → Prop := fun e w => e = .returned (.agg #[.int .u16 r.1, .int .u16 r.2.1, .int .u16 r.2.2.1, .int .u16 r.2.2.2.1, .int .u16 r.2.2.2.2.1, .int .u16 r.2.2.2.2.2.1, .int .u16 r.2.2.2.2.2.2.1, .int .u16 r.2.2.2.2.2.2.2.1, .int .u16 r.2.2.2.2.2.2.2.2.1, .int .u16 r.2.2.2.2.2.2.2.2.2.1, .int .u16 r.2.2.2.2.2.2.2.2.2.2.1, .int .u16 r.2.2.2.2.2.2.2.2.2.2.2.1, .int .u16 r.2.2.2.2.2.2.2.2.2.2.2.2.1, .int .u8 r.2.2.2.2.2.2.2.2.2.2.2.2.2.1, .int .u8 r.2.2.2.2.2.2.2.2.2.2.2.2.2.2.1, .bool r.2.2.2.2.2.2.2.2.2.2.2.2.2.2.2.1, .bool r.2.2.2.2.2.2.2.2.2.2.2.2.2.2.2.2.1, .bool r.2.2.2.2.2.2.2.2.2.2.2.2.2.2.2.2.2.1, .bool r.2.2.2.2.2.2.2.2.2.2.2.2.2.2.2.2.2.2.1, .int .i64 r.2.2.2.2.2.2.2.2.2.2.2.2.2.2.2.2.2.2.2]) ∧ Below w0.heap.size w0 w
def regs_Exx_28.f (K : Nat) (p0_0 : Int) (p0_1 : Int) (p0_2 : Int) (p0_3 : Int) (p0_4 : Int) (p0_5 : Int) (p0_6 : Int) (p0_7 : Int) (p0_8 : Int) (p0_9 : Int) (p0_10 : Int) (p0_11 : Int) (p0_12 : Int) (p0_13 : Int) (p0_14 : Int) (p0_15 : Bool) (p0_16 : Bool) (p0_17 : Bool) (p0_18 : Bool) (p0_19 : Int) : Option (Int × Int × Int × Int × Int × Int × Int × Int × Int × Int × Int × Int × Int × Int × Int × Bool × Bool × Bool × Bool × Int) := some (p0_0, p0_5, p0_6, p0_7, p0_4, p0_1, p0_2, p0_3, p0_8, p0_9, p0_10, p0_11, p0_12, p0_13, p0_14, p0_15, p0_16, p0_17, p0_18, p0_19)
set_option maxRecDepth 100000 in
theorem regs_Exx_28_ok (K : Nat) (M0 : Nat → Prop) (w0 : World) (p0_0 : Int) (p0_1 : Int) (p0_2 : Int) (p0_3 : Int) (p0_4 : Int) (p0_5 : Int) (p0_6 : Int) (p0_7 : Int) (p0_8 : Int) (p0_9 : Int) (p0_10 : Int) (p0_11 : Int) (p0_12 : Int) (p0_13 : Int) (p0_14 : Int) (p0_15 : Bool) (p0_16 : Bool) (p0_17 : Bool) (p0_18 : Bool) (p0_19 : Int) (ho : ∀ b, M0 b → b < w0.heap.size) {r : Int × Int × Int × Int × Int × Int × Int × Int × Int × Int × Int × Int × Int × Int × Int × Bool × Bool × Bool × Bool × Int} (h : regs_Exx_28.f K p0_0 p0_1 p0_2 p0_3 p0_4 p0_5 p0_6 p0_7 p0_8 p0_9 p0_10 p0_11 p0_12 p0_13 p0_14 p0_15 p0_16 p0_17 p0_18 p0_19 = some r) :
    Calls Tryd.prog 28 #[.agg #[.int .u16 p0_0, .int .u16 p0_1, .int .u16 p0_2, .int .u16 p0_3, .int .u16 p0_4, .int .u16 p0_5, .int .u16 p0_6, .int .u16 p0_7, .int .u16 p0_8, .int .u16 p0_9, .int .u16 p0_10, .int .u16 p0_11, .int .u16 p0_12, .int .u8 p0_13, .int .u8 p0_14, .bool p0_15, .bool p0_16, .bool p0_17, .bool p0_18, .int .i64 p0_19]] w0 (regs_Exx_28.post M0 w0 r) := by
  unfold regs_Exx_28.f at h
  have h0 : Holds M0 w0 w0 [] := Holds.start ho
  have h0 : Holds M0 w0 w0 [] := h0
  refine calls_of F28 rfl [.agg #[.int .u16 p0_0, .int .u16 p0_1, .int .u16 p0_2, .int .u16 p0_3, .int .u16 p0_4, .int .u16 p0_5, .int .u16 p0_6, .int .u16 p0_7, .int .u16 p0_8, .int .u16 p0_9, .int .u16 p0_10, .int .u16 p0_11, .int .u16 p0_12, .int .u8 p0_13, .int .u8 p0_14, .bool p0_15, .bool p0_16, .bool p0_17, .bool p0_18, .int .i64 p0_19]] (by kernel_rfl) ?_
  refine RunsI.go 1 [.c 1, .c 2] (by kernel_rfl) ?_
  refine RunsI.region (by kernel_rfl) ?_
  refine RegI.op (by kernel_rfl) (OpE.box 1 46 [.int .u16 p0_0, .int .u16 p0_1, .int .u16 p0_2, .int .u16 p0_3, .int .u16 p0_4, .int .u16 p0_5, .int .u16 p0_6, .int .u16 p0_7, .int .u16 p0_8, .int .u16 p0_9, .int .u16 p0_10, .int .u16 p0_11, .int .u16 p0_12, .int .u8 p0_13, .int .u8 p0_14, .bool p0_15, .bool p0_16, .bool p0_17, .bool p0_18, .int .i64 p0_19] h0 (by kernel_rfl) (by kernel_rfl) ?_)
  intro w1 b2 h3 hb4 hn5
  refine RegI.op (by kernel_rfl) (OpE.box 2 46 [.int .u16 0, .int .u16 0, .int .u16 0, .int .u16 0, .int .u16 0, .int .u16 0, .int .u16 0, .int .u16 0, .int .u16 0, .int .u16 0, .int .u16 0, .int .u16 0, .int .u16 0, .int .u8 0, .int .u8 0, .bool false, .bool false, .bool false, .bool false, .int .i64 0] h3 (by kernel_rfl) (by kernel_rfl) ?_)
  intro w6 b7 h8 hb9 hn10
  refine RegI.done (by kernel_rfl) ?_
  refine RunsI.go 1 [.c 3, .c 4] (by kernel_rfl) ?_
  refine RunsI.region (by kernel_rfl) ?_
  refine RegI.pure 1 [1, 2, 3] [(1, .pointer (some ⟨b2, 0, none⟩)), (2, .pointer (some ⟨b7, 0, none⟩)), (3, .pointer (some ⟨b2, 5, none⟩))] (by kernel_rfl) ?_
  refine RegI.op (by kernel_rfl) (OpE.loadBox 4 0 22 b2 5 (.int .u16 p0_5) h8 (by kernel_rfl) (by kernel_rfl) rfl (by kernel_rfl) ?_)
  refine RegI.pure 1 [1, 2, 4, 5] [(1, .pointer (some ⟨b2, 0, none⟩)), (2, .pointer (some ⟨b7, 0, none⟩)), (4, .int .u16 p0_5), (5, .pointer (some ⟨b2, 1, none⟩))] (by kernel_rfl) ?_
  refine RegI.op (by kernel_rfl) (OpE.loadBox 6 0 22 b2 1 (.int .u16 p0_1) h8 (by kernel_rfl) (by kernel_rfl) rfl (by kernel_rfl) ?_)
  refine RegI.pure 1 [1, 2, 4, 6, 7] [(1, .pointer (some ⟨b2, 0, none⟩)), (2, .pointer (some ⟨b7, 0, none⟩)), (4, .int .u16 p0_5), (6, .int .u16 p0_1), (7, .pointer (some ⟨b2, 1, none⟩))] (by kernel_rfl) ?_
  refine RegI.op (by kernel_rfl) (OpE.storeBox 0 22 b2 1 (.int .u16 p0_5) [.int .u16 p0_0, .int .u16 p0_5, .int .u16 p0_2, .int .u16 p0_3, .int .u16 p0_4, .int .u16 p0_5, .int .u16 p0_6, .int .u16 p0_7, .int .u16 p0_8, .int .u16 p0_9, .int .u16 p0_10, .int .u16 p0_11, .int .u16 p0_12, .int .u8 p0_13, .int .u8 p0_14, .bool p0_15, .bool p0_16, .bool p0_17, .bool p0_18, .int .i64 p0_19] h8 (by kernel_rfl) (by kernel_rfl) rfl (by kernel_rfl) (by kernel_rfl) (by kernel_rfl) ?_)
  intro w11 h12 hk13
  refine RegI.pure 1 [1, 2, 6, 8] [(1, .pointer (some ⟨b2, 0, none⟩)), (2, .pointer (some ⟨b7, 0, none⟩)), (6, .int .u16 p0_1), (8, .pointer (some ⟨b2, 5, none⟩))] (by kernel_rfl) ?_
  refine RegI.op (by kernel_rfl) (OpE.storeBox 0 22 b2 5 (.int .u16 p0_1) [.int .u16 p0_0, .int .u16 p0_5, .int .u16 p0_2, .int .u16 p0_3, .int .u16 p0_4, .int .u16 p0_1, .int .u16 p0_6, .int .u16 p0_7, .int .u16 p0_8, .int .u16 p0_9, .int .u16 p0_10, .int .u16 p0_11, .int .u16 p0_12, .int .u8 p0_13, .int .u8 p0_14, .bool p0_15, .bool p0_16, .bool p0_17, .bool p0_18, .int .i64 p0_19] h12 (by kernel_rfl) (by kernel_rfl) rfl (by kernel_rfl) (by kernel_rfl) (by kernel_rfl) ?_)
  intro w14 h15 hk16
  refine RegI.done (by kernel_rfl) ?_
  refine RunsI.go 1 [.c 5, .c 6] (by kernel_rfl) ?_
  refine RunsI.region (by kernel_rfl) ?_
  refine RegI.pure 1 [1, 2, 9] [(1, .pointer (some ⟨b2, 0, none⟩)), (2, .pointer (some ⟨b7, 0, none⟩)), (9, .pointer (some ⟨b2, 6, none⟩))] (by kernel_rfl) ?_
  refine RegI.op (by kernel_rfl) (OpE.loadBox 10 0 22 b2 6 (.int .u16 p0_6) h15 (by kernel_rfl) (by kernel_rfl) rfl (by kernel_rfl) ?_)
  refine RegI.pure 1 [1, 2, 10, 11] [(1, .pointer (some ⟨b2, 0, none⟩)), (2, .pointer (some ⟨b7, 0, none⟩)), (10, .int .u16 p0_6), (11, .pointer (some ⟨b2, 2, none⟩))] (by kernel_rfl) ?_
  refine RegI.op (by kernel_rfl) (OpE.loadBox 12 0 22 b2 2 (.int .u16 p0_2) h15 (by kernel_rfl) (by kernel_rfl) rfl (by kernel_rfl) ?_)
  refine RegI.pure 1 [1, 2, 10, 12, 13] [(1, .pointer (some ⟨b2, 0, none⟩)), (2, .pointer (some ⟨b7, 0, none⟩)), (10, .int .u16 p0_6), (12, .int .u16 p0_2), (13, .pointer (some ⟨b2, 2, none⟩))] (by kernel_rfl) ?_
  refine RegI.op (by kernel_rfl) (OpE.storeBox 0 22 b2 2 (.int .u16 p0_6) [.int .u16 p0_0, .int .u16 p0_5, .int .u16 p0_6, .int .u16 p0_3, .int .u16 p0_4, .int .u16 p0_1, .int .u16 p0_6, .int .u16 p0_7, .int .u16 p0_8, .int .u16 p0_9, .int .u16 p0_10, .int .u16 p0_11, .int .u16 p0_12, .int .u8 p0_13, .int .u8 p0_14, .bool p0_15, .bool p0_16, .bool p0_17, .bool p0_18, .int .i64 p0_19] h15 (by kernel_rfl) (by kernel_rfl) rfl (by kernel_rfl) (by kernel_rfl) (by kernel_rfl) ?_)
  intro w17 h18 hk19
  refine RegI.pure 1 [1, 2, 12, 14] [(1, .pointer (some ⟨b2, 0, none⟩)), (2, .pointer (some ⟨b7, 0, none⟩)), (12, .int .u16 p0_2), (14, .pointer (some ⟨b2, 6, none⟩))] (by kernel_rfl) ?_
  refine RegI.op (by kernel_rfl) (OpE.storeBox 0 22 b2 6 (.int .u16 p0_2) [.int .u16 p0_0, .int .u16 p0_5, .int .u16 p0_6, .int .u16 p0_3, .int .u16 p0_4, .int .u16 p0_1, .int .u16 p0_2, .int .u16 p0_7, .int .u16 p0_8, .int .u16 p0_9, .int .u16 p0_10, .int .u16 p0_11, .int .u16 p0_12, .int .u8 p0_13, .int .u8 p0_14, .bool p0_15, .bool p0_16, .bool p0_17, .bool p0_18, .int .i64 p0_19] h18 (by kernel_rfl) (by kernel_rfl) rfl (by kernel_rfl) (by kernel_rfl) (by kernel_rfl) ?_)
  intro w20 h21 hk22
  refine RegI.done (by kernel_rfl) ?_
  refine RunsI.go 1 [.c 7, .c 8] (by kernel_rfl) ?_
  refine RunsI.region (by kernel_rfl) ?_
  refine RegI.pure 1 [1, 2, 15] [(1, .pointer (some ⟨b2, 0, none⟩)), (2, .pointer (some ⟨b7, 0, none⟩)), (15, .pointer (some ⟨b2, 7, none⟩))] (by kernel_rfl) ?_
  refine RegI.op (by kernel_rfl) (OpE.loadBox 16 0 22 b2 7 (.int .u16 p0_7) h21 (by kernel_rfl) (by kernel_rfl) rfl (by kernel_rfl) ?_)
  refine RegI.pure 1 [1, 2, 16, 17] [(1, .pointer (some ⟨b2, 0, none⟩)), (2, .pointer (some ⟨b7, 0, none⟩)), (16, .int .u16 p0_7), (17, .pointer (some ⟨b2, 3, none⟩))] (by kernel_rfl) ?_
  refine RegI.op (by kernel_rfl) (OpE.loadBox 18 0 22 b2 3 (.int .u16 p0_3) h21 (by kernel_rfl) (by kernel_rfl) rfl (by kernel_rfl) ?_)
  refine RegI.pure 1 [1, 2, 16, 18, 19] [(1, .pointer (some ⟨b2, 0, none⟩)), (2, .pointer (some ⟨b7, 0, none⟩)), (16, .int .u16 p0_7), (18, .int .u16 p0_3), (19, .pointer (some ⟨b2, 3, none⟩))] (by kernel_rfl) ?_
  refine RegI.op (by kernel_rfl) (OpE.storeBox 0 22 b2 3 (.int .u16 p0_7) [.int .u16 p0_0, .int .u16 p0_5, .int .u16 p0_6, .int .u16 p0_7, .int .u16 p0_4, .int .u16 p0_1, .int .u16 p0_2, .int .u16 p0_7, .int .u16 p0_8, .int .u16 p0_9, .int .u16 p0_10, .int .u16 p0_11, .int .u16 p0_12, .int .u8 p0_13, .int .u8 p0_14, .bool p0_15, .bool p0_16, .bool p0_17, .bool p0_18, .int .i64 p0_19] h21 (by kernel_rfl) (by kernel_rfl) rfl (by kernel_rfl) (by kernel_rfl) (by kernel_rfl) ?_)
  intro w23 h24 hk25
  refine RegI.pure 1 [1, 2, 18, 20] [(1, .pointer (some ⟨b2, 0, none⟩)), (2, .pointer (some ⟨b7, 0, none⟩)), (18, .int .u16 p0_3), (20, .pointer (some ⟨b2, 7, none⟩))] (by kernel_rfl) ?_
  refine RegI.op (by kernel_rfl) (OpE.storeBox 0 22 b2 7 (.int .u16 p0_3) [.int .u16 p0_0, .int .u16 p0_5, .int .u16 p0_6, .int .u16 p0_7, .int .u16 p0_4, .int .u16 p0_1, .int .u16 p0_2, .int .u16 p0_3, .int .u16 p0_8, .int .u16 p0_9, .int .u16 p0_10, .int .u16 p0_11, .int .u16 p0_12, .int .u8 p0_13, .int .u8 p0_14, .bool p0_15, .bool p0_16, .bool p0_17, .bool p0_18, .int .i64 p0_19] h24 (by kernel_rfl) (by kernel_rfl) rfl (by kernel_rfl) (by kernel_rfl) (by kernel_rfl) ?_)
  intro w26 h27 hk28
  refine RegI.done (by kernel_rfl) ?_
  refine RunsI.go 1 [.c 9, .c 10] (by kernel_rfl) ?_
  refine RunsI.region (by kernel_rfl) ?_
  refine RegI.op (by kernel_rfl) (OpE.loadBox 21 0 46 b2 0 (.agg #[.int .u16 p0_0, .int .u16 p0_5, .int .u16 p0_6, .int .u16 p0_7, .int .u16 p0_4, .int .u16 p0_1, .int .u16 p0_2, .int .u16 p0_3, .int .u16 p0_8, .int .u16 p0_9, .int .u16 p0_10, .int .u16 p0_11, .int .u16 p0_12, .int .u8 p0_13, .int .u8 p0_14, .bool p0_15, .bool p0_16, .bool p0_17, .bool p0_18, .int .i64 p0_19]) h27 (by kernel_rfl) (by kernel_rfl) rfl (by kernel_rfl) ?_)
  refine RegI.op (by kernel_rfl) (OpE.storeBox 1 46 b7 0 (.agg #[.int .u16 p0_0, .int .u16 p0_5, .int .u16 p0_6, .int .u16 p0_7, .int .u16 p0_4, .int .u16 p0_1, .int .u16 p0_2, .int .u16 p0_3, .int .u16 p0_8, .int .u16 p0_9, .int .u16 p0_10, .int .u16 p0_11, .int .u16 p0_12, .int .u8 p0_13, .int .u8 p0_14, .bool p0_15, .bool p0_16, .bool p0_17, .bool p0_18, .int .i64 p0_19]) [.int .u16 p0_0, .int .u16 p0_5, .int .u16 p0_6, .int .u16 p0_7, .int .u16 p0_4, .int .u16 p0_1, .int .u16 p0_2, .int .u16 p0_3, .int .u16 p0_8, .int .u16 p0_9, .int .u16 p0_10, .int .u16 p0_11, .int .u16 p0_12, .int .u8 p0_13, .int .u8 p0_14, .bool p0_15, .bool p0_16, .bool p0_17, .bool p0_18, .int .i64 p0_19] h27 (by kernel_rfl) (by kernel_rfl) rfl (by kernel_rfl) (by kernel_rfl) (by kernel_rfl) ?_)
  intro w29 h30 hk31
  refine RegI.done (by kernel_rfl) ?_
  refine RunsI.toRet (by kernel_rfl) ?_
  refine RetI.valW [.cell 2 46] [.agg #[.int .u16 p0_0, .int .u16 p0_5, .int .u16 p0_6, .int .u16 p0_7, .int .u16 p0_4, .int .u16 p0_1, .int .u16 p0_2, .int .u16 p0_3, .int .u16 p0_8, .int .u16 p0_9, .int .u16 p0_10, .int .u16 p0_11, .int .u16 p0_12, .int .u8 p0_13, .int .u8 p0_14, .bool p0_15, .bool p0_16, .bool p0_17, .bool p0_18, .int .i64 p0_19]] (.agg #[.int .u16 p0_0, .int .u16 p0_5, .int .u16 p0_6, .int .u16 p0_7, .int .u16 p0_4, .int .u16 p0_1, .int .u16 p0_2, .int .u16 p0_3, .int .u16 p0_8, .int .u16 p0_9, .int .u16 p0_10, .int .u16 p0_11, .int .u16 p0_12, .int .u8 p0_13, .int .u8 p0_14, .bool p0_15, .bool p0_16, .bool p0_17, .bool p0_18, .int .i64 p0_19]) (by kernel_rfl) (ResAt.box 1 46 b7 0 h30 (by kernel_rfl) (by kernel_rfl) rfl (by kernel_rfl) rfl) (by kernel_rfl) ?_
  obtain rfl := Option.some.inj h
  exact ⟨rfl, h30.below⟩
end

/-! ### charabanc/regs.Swap (function 30) -/
section
def regs_Swap_30.post (M0 : Nat → Prop) (w0 : World) (r : Int × Int × Int × Int × Int × Int × Int × Int × Int × Int × Int × Int × Int × Int × Int × Bool × Bool × Bool × Bool × Int) : Ending → World → Prop := fun e w => e = .returned (.agg #[.int .u16 r.1, .int .u16 r.2.1, .int .u16 r.2.2.1, .int .u16 r.2.2.2.1, .int .u16 r.2.2.2.2.1, .int .u16 r.2.2.2.2.2.1, .int .u16 r.2.2.2.2.2.2.1, .int .u16 r.2.2.2.2.2.2.2.1, .int .u16 r.2.2.2.2.2.2.2.2.1, .int .u16 r.2.2.2.2.2.2.2.2.2.1, .int .u16 r.2.2.2.2.2.2.2.2.2.2.1, .int .u16 r.2.2.2.2.2.2.2.2.2.2.2.1, .int .u16 r.2.2.2.2.2.2.2.2.2.2.2.2.1, .int .u8 r.2.2.2.2.2.2.2.2.2.2.2.2.2.1, .int .u8 r.2.2.2.2.2.2.2.2.2.2.2.2.2.2.1, .bool r.2.2.2.2.2.2.2.2.2.2.2.2.2.2.2.1, .bool r.2.2.2.2.2.2.2.2.2.2.2.2.2.2.2.2.1, .bool r.2.2.2.2.2.2.2.2.2.2.2.2.2.2.2.2.2.1, .bool r.2.2.2.2.2.2.2.2.2.2.2.2.2.2.2.2.2.2.1, .int .i64 r.2.2.2.2.2.2.2.2.2.2.2.2.2.2.2.2.2.2.2]) ∧ Below w0.heap.size w0 w
def regs_Swap_30.f (K : Nat) (p0_0 : Int) (p0_1 : Int) (p0_2 : Int) (p0_3 : Int) (p0_4 : Int) (p0_5 : Int) (p0_6 : Int) (p0_7 : Int) (p0_8 : Int) (p0_9 : Int) (p0_10 : Int) (p0_11 : Int) (p0_12 : Int) (p0_13 : Int) (p0_14 : Int) (p0_15 : Bool) (p0_16 : Bool) (p0_17 : Bool) (p0_18 : Bool) (p0_19 : Int) : Option (Int × Int × Int × Int × Int × Int × Int × Int × Int × Int × Int × Int × Int × Int × Int × Bool × Bool × Bool × Bool × Int) := some (p0_4, p0_1, p0_2, p0_3, p0_0, p0_5, p0_6, p0_7, p0_8, p0_9, p0_10, p0_11, p0_12, p0_13, p0_14, p0_15, p0_16, p0_17, p0_18, p0_19)
set_option maxRecDepth 100000 in
theorem regs_Swap_30_ok (K : Nat) (M0 : Nat → Prop) (w0 : World) (p0_0 : Int) (p0_1 : Int) (p0_2 : Int) (p0_3 : Int) (p0_4 : Int) (p0_5 : Int) (p0_6 : Int) (p0_7 : Int) (p0_8 : Int) (p0_9 : Int) (p0_10 : Int) (p0_11 : Int) (p0_12 : Int) (p0_13 : Int) (p0_14 : Int) (p0_15 : Bool) (p0_16 : Bool) (p0_17 : Bool) (p0_18 : Bool) (p0_19 : Int) (ho : ∀ b, M0 b → b < w0.heap.size) {r : Int × Int × Int × Int × Int × Int × Int × Int × Int × Int × Int × Int × Int × Int × Int × Bool × Bool × Bool × Bool × Int} (h : regs_Swap_30.f K p0_0 p0_1 p0_2 p0_3 p0_4 p0_5 p0_6 p0_7 p0_8 p0_9 p0_10 p0_11 p0_12 p0_13 p0_14 p0_15 p0_16 p0_17 p0_18 p0_19 = some r) :
    Calls Tryd.prog 30 #[.agg #[.int .u16 p0_0, .int .u16 p0_1, .int .u16 p0_2, .int .u16 p0_3, .int .u16 p0_4, .int .u16 p0_5, .int .u16 p0_6, .int .u16 p0_7, .int .u16 p0_8, .int .u16 p0_9, .int .u16 p0_10, .int .u16 p0_11, .int .u16 p0_12, .int .u8 p0_13, .int .u8 p0_14, .bool p0_15, .bool p0_16, .bool p0_17, .bool p0_18, .int .i64 p0_19]] w0 (regs_Swap_30.post M0 w0 r) := by
  unfold regs_Swap_30.f at h
  have h0 : Holds M0 w0 w0 [] := Holds.start ho
  have h0 : Holds M0 w0 w0 [] := h0
  refine calls_of F30 rfl [.agg #[.int .u16 p0_0, .int .u16 p0_1, .int .u16 p0_2, .int .u16 p0_3, .int .u16 p0_4, .int .u16 p0_5, .int .u16 p0_6, .int .u16 p0_7, .int .u16 p0_8, .int .u16 p0_9, .int .u16 p0_10, .int .u16 p0_11, .int .u16 p0_12, .int .u8 p0_13, .int .u8 p0_14, .bool p0_15, .bool p0_16, .bool p0_17, .bool p0_18, .int .i64 p0_19]] (by kernel_rfl) ?_
  refine RunsI.go 1 [.c 1, .c 2] (by kernel_rfl) ?_
  refine RunsI.region (by kernel_rfl) ?_
  refine RegI.op (by kernel_rfl) (OpE.box 1 46 [.int .u16 p0_0, .int .u16 p0_1, .int .u16 p0_2, .int .u16 p0_3, .int .u16 p0_4, .int .u16 p0_5, .int .u16 p0_6, .int .u16 p0_7, .int .u16 p0_8, .int .u16 p0_9, .int .u16 p0_10, .int .u16 p0_11, .int .u16 p0_12, .int .u8 p0_13, .int .u8 p0_14, .bool p0_15, .bool p0_16, .bool p0_17, .bool p0_18, .int .i64 p0_19] h0 (by kernel_rfl) (by kernel_rfl) ?_)
  intro w1 b2 h3 hb4 hn5
  refine RegI.op (by kernel_rfl) (OpE.box 2 46 [.int .u16 0, .int .u16 0, .int .u16 0, .int .u16 0, .int .u16 0, .int .u16 0, .int .u16 0, .int .u16 0, .int .u16 0, .int .u16 0, .int .u16 0, .int .u16 0, .int .u16 0, .int .u8 0, .int .u8 0, .bool false, .bool false, .bool false, .bool false, .int .i64 0] h3 (by kernel_rfl) (by kernel_rfl) ?_)
  intro w6 b7 h8 hb9 hn10
  refine RegI.done (by kernel_rfl) ?_
  refine RunsI.go 1 [.c 3, .c 4] (by kernel_rfl) ?_
  refine RunsI.region (by kernel_rfl) ?_
  refine RegI.pure 1 [1, 2, 3] [(1, .pointer (some ⟨b2, 0, none⟩)), (2, .pointer (some ⟨b7, 0, none⟩)), (3, .pointer (some ⟨b2, 4, none⟩))] (by kernel_rfl) ?_
  refine RegI.op (by kernel_rfl) (OpE.loadBox 4 0 22 b2 4 (.int .u16 p0_4) h8 (by kernel_rfl) (by kernel_rfl) rfl (by kernel_rfl) ?_)
  refine RegI.pure 1 [1, 2, 4, 5] [(1, .pointer (some ⟨b2, 0, none⟩)), (2, .pointer (some ⟨b7, 0, none⟩)), (4, .int .u16 p0_4), (5, .pointer (some ⟨b2, 0, none⟩))] (by kernel_rfl) ?_
  refine RegI.op (by kernel_rfl) (OpE.loadBox 6 0 22 b2 0 (.int .u16 p0_0) h8 (by kernel_rfl) (by kernel_rfl) rfl (by kernel_rfl) ?_)
  refine RegI.pure 1 [1, 2, 4, 6, 7] [(1, .pointer (some ⟨b2, 0, none⟩)), (2, .pointer (some ⟨b7, 0, none⟩)), (4, .int .u16 p0_4), (6, .int .u16 p0_0), (7, .pointer (some ⟨b2, 0, none⟩))] (by kernel_rfl) ?_
  refine RegI.op (by kernel_rfl) (OpE.storeBox 0 22 b2 0 (.int .u16 p0_4) [.int .u16 p0_4, .int .u16 p0_1, .int .u16 p0_2, .int .u16 p0_3, .int .u16 p0_4, .int .u16 p0_5, .int .u16 p0_6, .int .u16 p0_7, .int .u16 p0_8, .int .u16 p0_9, .int .u16 p0_10, .int .u16 p0_11, .int .u16 p0_12, .int .u8 p0_13, .int .u8 p0_14, .bool p0_15, .bool p0_16, .bool p0_17, .bool p0_18, .int .i64 p0_19] h8 (by kernel_rfl) (by kernel_rfl) rfl (by kernel_rfl) (by kernel_rfl) (by kernel_rfl) ?_)
  intro w11 h12 hk13
  refine RegI.pure 1 [1, 2, 6, 8] [(1, .pointer (some ⟨b2, 0, none⟩)), (2, .pointer (some ⟨b7, 0, none⟩)), (6, .int .u16 p0_0), (8, .pointer (some ⟨b2, 4, none⟩))] (by kernel_rfl) ?_
  refine RegI.op (by kernel_rfl) (OpE.storeBox 0 22 b2 4 (.int .u16 p0_0) [.int .u16 p0_4, .int .u16 p0_1, .int .u16 p0_2, .int .u16 p0_3, .int .u16 p0_0, .int .u16 p0_5, .int .u16 p0_6, .int .u16 p0_7, .int .u16 p0_8, .int .u16 p0_9, .int .u16 p0_10, .int .u16 p0_11, .int .u16 p0_12, .int .u8 p0_13, .int .u8 p0_14, .bool p0_15, .bool p0_16, .bool p0_17, .bool p0_18, .int .i64 p0_19] h12 (by kernel_rfl) (by kernel_rfl) rfl (by kernel_rfl) (by kernel_rfl) (by kernel_rfl) ?_)
  intro w14 h15 hk16
  refine RegI.done (by kernel_rfl) ?_
  refine RunsI.go 1 [.c 5, .c 6] (by kernel_rfl) ?_
  refine RunsI.region (by kernel_rfl) ?_
  refine RegI.op (by kernel_rfl) (OpE.loadBox 9 0 46 b2 0 (.agg #[.int .u16 p0_4, .int .u16 p0_1, .int .u16 p0_2, .int .u16 p0_3, .int .u16 p0_0, .int .u16 p0_5, .int .u16 p0_6, .int .u16 p0_7, .int .u16 p0_8, .int .u16 p0_9, .int .u16 p0_10, .int .u16 p0_11, .int .u16 p0_12, .int .u8 p0_13, .int .u8 p0_14, .bool p0_15, .bool p0_16, .bool p0_17, .bool p0_18, .int .i64 p0_19]) h15 (by kernel_rfl) (by kernel_rfl) rfl (by kernel_rfl) ?_)
  refine RegI.op (by kernel_rfl) (OpE.storeBox 1 46 b7 0 (.agg #[.int .u16 p0_4, .int .u16 p0_1, .int .u16 p0_2, .int .u16 p0_3, .int .u16 p0_0, .int .u16 p0_5, .int .u16 p0_6, .int .u16 p0_7, .int .u16 p0_8, .int .u16 p0_9, .int .u16 p0_10, .int .u16 p0_11, .int .u16 p0_12, .int .u8 p0_13, .int .u8 p0_14, .bool p0_15, .bool p0_16, .bool p0_17, .bool p0_18, .int .i64 p0_19]) [.int .u16 p0_4, .int .u16 p0_1, .int .u16 p0_2, .int .u16 p0_3, .int .u16 p0_0, .int .u16 p0_5, .int .u16 p0_6, .int .u16 p0_7, .int .u16 p0_8, .int .u16 p0_9, .int .u16 p0_10, .int .u16 p0_11, .int .u16 p0_12, .int .u8 p0_13, .int .u8 p0_14, .bool p0_15, .bool p0_16, .bool p0_17, .bool p0_18, .int .i64 p0_19] h15 (by kernel_rfl) (by kernel_rfl) rfl (by kernel_rfl) (by kernel_rfl) (by kernel_rfl) ?_)
  intro w17 h18 hk19
  refine RegI.done (by kernel_rfl) ?_
  refine RunsI.toRet (by kernel_rfl) ?_
  refine RetI.valW [.cell 2 46] [.agg #[.int .u16 p0_4, .int .u16 p0_1, .int .u16 p0_2, .int .u16 p0_3, .int .u16 p0_0, .int .u16 p0_5, .int .u16 p0_6, .int .u16 p0_7, .int .u16 p0_8, .int .u16 p0_9, .int .u16 p0_10, .int .u16 p0_11, .int .u16 p0_12, .int .u8 p0_13, .int .u8 p0_14, .bool p0_15, .bool p0_16, .bool p0_17, .bool p0_18, .int .i64 p0_19]] (.agg #[.int .u16 p0_4, .int .u16 p0_1, .int .u16 p0_2, .int .u16 p0_3, .int .u16 p0_0, .int .u16 p0_5, .int .u16 p0_6, .int .u16 p0_7, .int .u16 p0_8, .int .u16 p0_9, .int .u16 p0_10, .int .u16 p0_11, .int .u16 p0_12, .int .u8 p0_13, .int .u8 p0_14, .bool p0_15, .bool p0_16, .bool p0_17, .bool p0_18, .int .i64 p0_19]) (by kernel_rfl) (ResAt.box 1 46 b7 0 h18 (by kernel_rfl) (by kernel_rfl) rfl (by kernel_rfl) rfl) (by kernel_rfl) ?_
  obtain rfl := Option.some.inj h
  exact ⟨rfl, h18.below⟩
end

/-! ### charabanc/regs.Tick (function 32) -/
section
def regs_Tick_32.post (M0 : Nat → Prop) (w0 : World) (r : Int × Int × Int × Int × Int × Int × Int × Int × Int × Int × Int × Int × Int × Int × Int × Bool × Bool × Bool × Bool × Int) : Ending → World → Prop := fun e w => e = .returned (.agg #[.int .u16 r.1, .int .u16 r.2.1, .int .u16 r.2.2.1, .int .u16 r.2.2.2.1, .int .u16 r.2.2.2.2.1, .int .u16 r.2.2.2.2.2.1, .int .u16 r.2.2.2.2.2.2.1, .int .u16 r.2.2.2.2.2.2.2.1, .int .u16 r.2.2.2.2.2.2.2.2.1, .int .u16 r.2.2.2.2.2.2.2.2.2.1, .int .u16 r.2.2.2.2.2.2.2.2.2.2.1, .int .u16 r.2.2.2.2.2.2.2.2.2.2.2.1, .int .u16 r.2.2.2.2.2.2.2.2.2.2.2.2.1, .int .u8 r.2.2.2.2.2.2.2.2.2.2.2.2.2.1, .int .u8 r.2.2.2.2.2.2.2.2.2.2.2.2.2.2.1, .bool r.2.2.2.2.2.2.2.2.2.2.2.2.2.2.2.1, .bool r.2.2.2.2.2.2.2.2.2.2.2.2.2.2.2.2.1, .bool r.2.2.2.2.2.2.2.2.2.2.2.2.2.2.2.2.2.1, .bool r.2.2.2.2.2.2.2.2.2.2.2.2.2.2.2.2.2.2.1, .int .i64 r.2.2.2.2.2.2.2.2.2.2.2.2.2.2.2.2.2.2.2]) ∧ Below w0.heap.size w0 w
def regs_Tick_32.f (K : Nat) (p0_0 : Int) (p0_1 : Int) (p0_2 : Int) (p0_3 : Int) (p0_4 : Int) (p0_5 : Int) (p0_6 : Int) (p0_7 : Int) (p0_8 : Int) (p0_9 : Int) (p0_10 : Int) (p0_11 : Int) (p0_12 : Int) (p0_13 : Int) (p0_14 : Int) (p0_15 : Bool) (p0_16 : Bool) (p0_17 : Bool) (p0_18 : Bool) (p0_19 : Int) (p1 : Int) : Option (Int × Int × Int × Int × Int × Int × Int × Int × Int × Int × Int × Int × Int × Int × Int × Bool × Bool × Bool × Bool × Int) := some (p0_0, p0_1, p0_2, p0_3, p0_4, p0_5, p0_6, p0_7, p0_8, p0_9, p0_10, p0_11, p0_12, p0_13, (bor .u8 (bandn .u8 p0_14 127) (band .u8 (IntKind.wrap .u8 (p0_14 + (IntKind.wrap .u8 p1))) 127)), p0_15, p0_16, p0_17, p0_18, p0_19)
set_option maxRecDepth 100000 in
theorem regs_Tick_32_ok (K : Nat) (M0 : Nat → Prop) (w0 : World) (p0_0 : Int) (p0_1 : Int) (p0_2 : Int) (p0_3 : Int) (p0_4 : Int) (p0_5 : Int) (p0_6 : Int) (p0_7 : Int) (p0_8 : Int) (p0_9 : Int) (p0_10 : Int) (p0_11 : Int) (p0_12 : Int) (p0_13 : Int) (p0_14 : Int) (p0_15 : Bool) (p0_16 : Bool) (p0_17 : Bool) (p0_18 : Bool) (p0_19 : Int) (p1 : Int) (ho : ∀ b, M0 b → b < w0.heap.size) {r : Int × Int × Int × Int × Int × Int × Int × Int × Int × Int × Int × Int × Int × Int × Int × Bool × Bool × Bool × Bool × Int} (h : regs_Tick_32.f K p0_0 p0_1 p0_2 p0_3 p0_4 p0_5 p0_6 p0_7 p0_8 p0_9 p0_10 p0_11 p0_12 p0_13 p0_14 p0_15 p0_16 p0_17 p0_18 p0_19 p1 = some r) :
    Calls Tryd.prog 32 #[.agg #[.int .u16 p0_0, .int .u16 p0_1, .int .u16 p0_2, .int .u16 p0_3, .int .u16 p0_4, .int .u16 p0_5, .int .u16 p0_6, .int .u16 p0_7, .int .u16 p0_8, .int .u16 p0_9, .int .u16 p0_10, .int .u16 p0_11, .int .u16 p0_12, .int .u8 p0_13, .int .u8 p0_14, .bool p0_15, .bool p0_16, .bool p0_17, .bool p0_18, .int .i64 p0_19], .int .i64 p1] w0 (regs_Tick_32.post M0 w0 r) := by
  unfold regs_Tick_32.f at h
  have h0 : Holds M0 w0 w0 [] := Holds.start ho
  have h0 : Holds M0 w0 w0 [] := h0
  refine calls_of F32 rfl [.agg #[.int .u16 p0_0, .int .u16 p0_1, .int .u16 p0_2, .int .u16 p0_3, .int .u16 p0_4, .int .u16 p0_5, .int .u16 p0_6, .int .u16 p0_7, .int .u16 p0_8, .int .u16 p0_9, .int .u16 p0_10, .int .u16 p0_11, .int .u16 p0_12, .int .u8 p0_13, .int .u8 p0_14, .bool p0_15, .bool p0_16, .bool p0_17, .bool p0_18, .int .i64 p0_19], .int .i64 p1] (by kernel_rfl) ?_
  refine RunsI.go 1 [.c 1, .c 2] (by kernel_rfl) ?_
  refine RunsI.region (by kernel_rfl) ?_
  refine RegI.op (by kernel_rfl) (OpE.box 2 46 [.int .u16 p0_0, .int .u16 p0_1, .int .u16 p0_2, .int .u16 p0_3, .int .u16 p0_4, .int .u16 p0_5, .int .u16 p0_6, .int .u16 p0_7, .int .u16 p0_8, .int .u16 p0_9, .int .u16 p0_10, .int .u16 p0_11, .int .u16 p0_12, .int .u8 p0_13, .int .u8 p0_14, .bool p0_15, .bool p0_16, .bool p0_17, .bool p0_18, .int .i64 p0_19] h0 (by kernel_rfl) (by kernel_rfl) ?_)
  intro w1 b2 h3 hb4 hn5
  refine RegI.op (by kernel_rfl) (OpE.box 4 46 [.int .u16 0, .int .u16 0, .int .u16 0, .int .u16 0, .int .u16 0, .int .u16 0, .int .u16 0, .int .u16 0, .int .u16 0, .int .u16 0, .int .u16 0, .int .u16 0, .int .u16 0, .int .u8 0, .int .u8 0, .bool false, .bool false, .bool false, .bool false, .int .i64 0] h3 (by kernel_rfl) (by kernel_rfl) ?_)
  intro w6 b7 h8 hb9 hn10
  refine RegI.done (by kernel_rfl) ?_
  refine RunsI.go 1 [.c 3, .c 4] (by kernel_rfl) ?_
  refine RunsI.region (by kernel_rfl) ?_
  refine RegI.pure 1 [1, 2, 4, 5] [(1, .int .i64 p1), (2, .pointer (some ⟨b2, 0, none⟩)), (4, .pointer (some ⟨b7, 0, none⟩)), (5, .pointer (some ⟨b2, 14, none⟩))] (by kernel_rfl) ?_
  refine RegI.op (by kernel_rfl) (OpE.loadBox 6 0 5 b2 14 (.int .u8 p0_14) h8 (by kernel_rfl) (by kernel_rfl) rfl (by kernel_rfl) ?_)
  refine RegI.pure 2 [1, 2, 4, 7, 8] [(1, .int .i64 p1), (2, .pointer (some ⟨b2, 0, none⟩)), (4, .pointer (some ⟨b7, 0, none⟩)), (7, .int .u8 (bandn .u8 p0_14 127)), (8, .pointer (some ⟨b2, 14, none⟩))] (by kernel_rfl) ?_
  refine RegI.op (by kernel_rfl) (OpE.loadBox 9 0 5 b2 14 (.int .u8 p0_14) h8 (by kernel_rfl) (by kernel_rfl) rfl (by kernel_rfl) ?_)
  refine RegI.pure 6 [2, 4, 14, 15] [(2, .pointer (some ⟨b2, 0, none⟩)), (4, .pointer (some ⟨b7, 0, none⟩)), (14, .int .u8 (bor .u8 (bandn .u8 p0_14 127) (band .u8 (IntKind.wrap .u8 (p0_14 + (IntKind.wrap .u8 p1))) 127))), (15, .pointer (some ⟨b2, 14, none⟩))] (by kernel_rfl) ?_
  refine RegI.op (by kernel_rfl) (OpE.storeBox 0 5 b2 14 (.int .u8 (bor .u8 (bandn .u8 p0_14 127) (band .u8 (IntKind.wrap .u8 (p0_14 + (IntKind.wrap .u8 p1))) 127))) [.int .u16 p0_0, .int .u16 p0_1, .int .u16 p0_2, .int .u16 p0_3, .int .u16 p0_4, .int .u16 p0_5, .int .u16 p0_6, .int .u16 p0_7, .int .u16 p0_8, .int .u16 p0_9, .int .u16 p0_10, .int .u16 p0_11, .int .u16 p0_12, .int .u8 p0_13, .int .u8 (bor .u8 (bandn .u8 p0_14 127) (band .u8 (IntKind.wrap .u8 (p0_14 + (IntKind.wrap .u8 p1))) 127)), .bool p0_15, .bool p0_16, .bool p0_17, .bool p0_18, .int .i64 p0_19] h8 (by kernel_rfl) (by kernel_rfl) rfl (by kernel_rfl) (by kernel_rfl) (by kernel_rfl) ?_)
  intro w11 h12 hk13
  refine RegI.done (by kernel_rfl) ?_
  refine RunsI.go 1 [.c 5, .c 6] (by kernel_rfl) ?_
  refine RunsI.region (by kernel_rfl) ?_
  refine RegI.op (by kernel_rfl) (OpE.loadBox 16 0 46 b2 0 (.agg #[.int .u16 p0_0, .int .u16 p0_1, .int .u16 p0_2, .int .u16 p0_3, .int .u16 p0_4, .int .u16 p0_5, .int .u16 p0_6, .int .u16 p0_7, .int .u16 p0_8, .int .u16 p0_9, .int .u16 p0_10, .int .u16 p0_11, .int .u16 p0_12, .int .u8 p0_13, .int .u8 (bor .u8 (bandn .u8 p0_14 127) (band .u8 (IntKind.wrap .u8 (p0_14 + (IntKind.wrap .u8 p1))) 127)), .bool p0_15, .bool p0_16, .bool p0_17, .bool p0_18, .int .i64 p0_19]) h12 (by kernel_rfl) (by kernel_rfl) rfl (by kernel_rfl) ?_)
  refine RegI.op (by kernel_rfl) (OpE.storeBox 1 46 b7 0 (.agg #[.int .u16 p0_0, .int .u16 p0_1, .int .u16 p0_2, .int .u16 p0_3, .int .u16 p0_4, .int .u16 p0_5, .int .u16 p0_6, .int .u16 p0_7, .int .u16 p0_8, .int .u16 p0_9, .int .u16 p0_10, .int .u16 p0_11, .int .u16 p0_12, .int .u8 p0_13, .int .u8 (bor .u8 (bandn .u8 p0_14 127) (band .u8 (IntKind.wrap .u8 (p0_14 + (IntKind.wrap .u8 p1))) 127)), .bool p0_15, .bool p0_16, .bool p0_17, .bool p0_18, .int .i64 p0_19]) [.int .u16 p0_0, .int .u16 p0_1, .int .u16 p0_2, .int .u16 p0_3, .int .u16 p0_4, .int .u16 p0_5, .int .u16 p0_6, .int .u16 p0_7, .int .u16 p0_8, .int .u16 p0_9, .int .u16 p0_10, .int .u16 p0_11, .int .u16 p0_12, .int .u8 p0_13, .int .u8 (bor .u8 (bandn .u8 p0_14 127) (band .u8 (IntKind.wrap .u8 (p0_14 + (IntKind.wrap .u8 p1))) 127)), .bool p0_15, .bool p0_16, .bool p0_17, .bool p0_18, .int .i64 p0_19] h12 (by kernel_rfl) (by kernel_rfl) rfl (by kernel_rfl) (by kernel_rfl) (by kernel_rfl) ?_)
  intro w14 h15 hk16
  refine RegI.done (by kernel_rfl) ?_
  refine RunsI.toRet (by kernel_rfl) ?_
  refine RetI.valW [.cell 4 46] [.agg #[.int .u16 p0_0, .int .u16 p0_1, .int .u16 p0_2, .int .u16 p0_3, .int .u16 p0_4, .int .u16 p0_5, .int .u16 p0_6, .int .u16 p0_7, .int .u16 p0_8, .int .u16 p0_9, .int .u16 p0_10, .int .u16 p0_11, .int .u16 p0_12, .int .u8 p0_13, .int .u8 (bor .u8 (bandn .u8 p0_14 127) (band .u8 (IntKind.wrap .u8 (p0_14 + (IntKind.wrap .u8 p1))) 127)), .bool p0_15, .bool p0_16, .bool p0_17, .bool p0_18, .int .i64 p0_19]] (.agg #[.int .u16 p0_0, .int .u16 p0_1, .int .u16 p0_2, .int .u16 p0_3, .int .u16 p0_4, .int .u16 p0_5, .int .u16 p0_6, .int .u16 p0_7, .int .u16 p0_8, .int .u16 p0_9, .int .u16 p0_10, .int .u16 p0_11, .int .u16 p0_12, .int .u8 p0_13, .int .u8 (bor .u8 (bandn .u8 p0_14 127) (band .u8 (IntKind.wrap .u8 (p0_14 + (IntKind.wrap .u8 p1))) 127)), .bool p0_15, .bool p0_16, .bool p0_17, .bool p0_18, .int .i64 p0_19]) (by kernel_rfl) (ResAt.box 1 46 b7 0 h15 (by kernel_rfl) (by kernel_rfl) rfl (by kernel_rfl) rfl) (by kernel_rfl) ?_
  obtain rfl := Option.some.inj h
  exact ⟨rfl, h15.below⟩
end

/-! ### charabanc/regs.Reset (function 34) -/
section
def regs_Reset_34.post (M0 : Nat → Prop) (w0 : World) (r : Int × Int × Int × Int × Int × Int × Int × Int × Int × Int × Int × Int × Int × Int × Int × Bool × Bool × Bool × Bool × Int) : Ending → World → Prop := fun e w => e = .returned (.agg #[.int .u16 r.1, .int .u16 r.2.1, .int .u16 r.2.2.1, .int .u16 r.2.2.2.1, .int .u16 r.2.2.2.2.1, .int .u16 r.2.2.2.2.2.1, .int .u16 r.2.2.2.2.2.2.1, .int .u16 r.2.2.2.2.2.2.2.1, .int .u16 r.2.2.2.2.2.2.2.2.1, .int .u16 r.2.2.2.2.2.2.2.2.2.1, .int .u16 r.2.2.2.2.2.2.2.2.2.2.1, .int .u16 r.2.2.2.2.2.2.2.2.2.2.2.1, .int .u16 r.2.2.2.2.2.2.2.2.2.2.2.2.1, .int .u8 r.2.2.2.2.2.2.2.2.2.2.2.2.2.1, .int .u8 r.2.2.2.2.2.2.2.2.2.2.2.2.2.2.1, .bool r.2.2.2.2.2.2.2.2.2.2.2.2.2.2.2.1, .bool r.2.2.2.2.2.2.2.2.2.2.2.2.2.2.2.2.1, .bool r.2.2.2.2.2.2.2.2.2.2.2.2.2.2.2.2.2.1, .bool r.2.2.2.2.2.2.2.2.2.2.2.2.2.2.2.2.2.2.1, .int .i64 r.2.2.2.2.2.2.2.2.2.2.2.2.2.2.2.2.2.2.2]) ∧ Below w0.heap.size w0 w
def regs_Reset_34.f (K : Nat) (p0_0 : Int) (p0_1 : Int) (p0_2 : Int) (p0_3 : Int) (p0_4 : Int) (p0_5 : Int) (p0_6 : Int) (p0_7 : Int) (p0_8 : Int) (p0_9 : Int) (p0_10 : Int) (p0_11 : Int) (p0_12 : Int) (p0_13 : Int) (p0_14 : Int) (p0_15 : Bool) (p0_16 : Bool) (p0_17 : Bool) (p0_18 : Bool) (p0_19 : Int) : Option (Int × Int × Int × Int × Int × Int × Int × Int × Int × Int × Int × Int × Int × Int × Int × Bool × Bool × Bool × Bool × Int) := some (p0_0, p0_1, p0_2, p0_3, p0_4, p0_5, p0_6, p0_7, p0_8, p0_9, p0_10, 0, p0_12, 0, 0, false, false, false, false, 0)
set_option maxRecDepth 100000 in
theorem regs_Reset_34_ok (K : Nat) (M0 : Nat → Prop) (w0 : World) (p0_0 : Int) (p0_1 : Int) (p0_2 : Int) (p0_3 : Int) (p0_4 : Int) (p0_5 : Int) (p0_6 : Int) (p0_7 : Int) (p0_8 : Int) (p0_9 : Int) (p0_10 : Int) (p0_11 : Int) (p0_12 : Int) (p0_13 : Int) (p0_14 : Int) (p0_15 : Bool) (p0_16 : Bool) (p0_17 : Bool) (p0_18 : Bool) (p0_19 : Int) (ho : ∀ b, M0 b → b < w0.heap.size) {r : Int × Int × Int × Int × Int × Int × Int × Int × Int × Int × Int × Int × Int × Int × Int × Bool × Bool × Bool × Bool × Int} (h : regs_Reset_34.f K p0_0 p0_1 p0_2 p0_3 p0_4 p0_5 p0_6 p0_7 p0_8 p0_9 p0_10 p0_11 p0_12 p0_13 p0_14 p0_15 p0_16 p0_17 p0_18 p0_19 = some r) :
    Calls Tryd.prog 34 #[.agg #[.int .u16 p0_0, .int .u16 p0_1, .int .u16 p0_2, .int .u16 p0_3, .int .u16 p0_4, .int .u16 p0_5, .int .u16 p0_6, .int .u16 p0_7, .int .u16 p0_8, .int .u16 p0_9, .int .u16 p0_10, .int .u16 p0_11, .int .u16 p0_12, .int .u8 p0_13, .int .u8 p0_14, .bool p0_15, .bool p0_16, .bool p0_17, .bool p0_18, .int .i64 p0_19]] w0 (regs_Reset_34.post M0 w0 r) := by
  unfold regs_Reset_34.f at h
  have h0 : Holds M0 w0 w0 [] := Holds.start ho
  have h0 : Holds M0 w0 w0 [] := h0
  refine calls_of F34 rfl [.agg #[.int .u16 p0_0, .int .u16 p0_1, .int .u16 p0_2, .int .u16 p0_3, .int .u16 p0_4, .int .u16 p0_5, .int .u16 p0_6, .int .u16 p0_7, .int .u16 p0_8, .int .u16 p0_9, .int .u16 p0_10, .int .u16 p0_11, .int .u16 p0_12, .int .u8 p0_13, .int .u8 p0_14, .bool p0_15, .bool p0_16, .bool p0_17, .bool p0_18, .int .i64 p0_19]] (by kernel_rfl) ?_
  refine RunsI.go 1 [.c 1, .c 2] (by kernel_rfl) ?_
  refine RunsI.region (by kernel_rfl) ?_
  refine RegI.op (by kernel_rfl) (OpE.box 1 46 [.int .u16 p0_0, .int .u16 p0_1, .int .u16 p0_2, .int .u16 p0_3, .int .u16 p0_4, .int .u16 p0_5, .int .u16 p0_6, .int .u16 p0_7, .int .u16 p0_8, .int .u16 p0_9, .int .u16 p0_10, .int .u16 p0_11, .int .u16 p0_12, .int .u8 p0_13, .int .u8 p0_14, .bool p0_15, .bool p0_16, .bool p0_17, .bool p0_18, .int .i64 p0_19] h0 (by kernel_rfl) (by kernel_rfl) ?_)
  intro w1 b2 h3 hb4 hn5
  refine RegI.op (by kernel_rfl) (OpE.box 2 46 [.int .u16 0, .int .u16 0, .int .u16 0, .int .u16 0, .int .u16 0, .int .u16 0, .int .u16 0, .int .u16 0, .int .u16 0, .int .u16 0, .int .u16 0, .int .u16 0, .int .u16 0, .int .u8 0, .int .u8 0, .bool false, .bool false, .bool false, .bool false, .int .i64 0] h3 (by kernel_rfl) (by kernel_rfl) ?_)
  intro w6 b7 h8 hb9 hn10
  refine RegI.done (by kernel_rfl) ?_
  refine RunsI.go 1 [.c 3, .c 4] (by kernel_rfl) ?_
  refine RunsI.region (by kernel_rfl) ?_
  refine RegI.pure 1 [1, 2, 3] [(1, .pointer (some ⟨b2, 0, none⟩)), (2, .pointer (some ⟨b7, 0, none⟩)), (3, .pointer (some ⟨b2, 11, none⟩))] (by kernel_rfl) ?_
  refine RegI.op (by kernel_rfl) (OpE.storeBox 0 22 b2 11 (.int .u16 0) [.int .u16 p0_0, .int .u16 p0_1, .int .u16 p0_2, .int .u16 p0_3, .int .u16 p0_4, .int .u16 p0_5, .int .u16 p0_6, .int .u16 p0_7, .int .u16 p0_8, .int .u16 p0_9, .int .u16 p0_10, .int .u16 0, .int .u16 p0_12, .int .u8 p0_13, .int .u8 p0_14, .bool p0_15, .bool p0_16, .bool p0_17, .bool p0_18, .int .i64 p0_19] h8 (by kernel_rfl) (by kernel_rfl) rfl (by kernel_rfl) (by kernel_rfl) (by kernel_rfl) ?_)
  intro w11 h12 hk13
  refine RegI.pure 1 [1, 2, 4] [(1, .pointer (some ⟨b2, 0, none⟩)), (2, .pointer (some ⟨b7, 0, none⟩)), (4, .pointer (some ⟨b2, 13, none⟩))] (by kernel_rfl) ?_
  refine RegI.op (by kernel_rfl) (OpE.storeBox 0 5 b2 13 (.int .u8 0) [.int .u16 p0_0, .int .u16 p0_1, .int .u16 p0_2, .int .u16 p0_3, .int .u16 p0_4, .int .u16 p0_5, .int .u16 p0_6, .int .u16 p0_7, .int .u16 p0_8, .int .u16 p0_9, .int .u16 p0_10, .int .u16 0, .int .u16 p0_12, .int .u8 0, .int .u8 p0_14, .bool p0_15, .bool p0_16, .bool p0_17, .bool p0_18, .int .i64 p0_19] h12 (by kernel_rfl) (by kernel_rfl) rfl (by kernel_rfl) (by kernel_rfl) (by kernel_rfl) ?_)
  intro w14 h15 hk16
  refine RegI.pure 1 [1, 2, 5] [(1, .pointer (some ⟨b2, 0, none⟩)), (2, .pointer (some ⟨b7, 0, none⟩)), (5, .pointer (some ⟨b2, 14, none⟩))] (by kernel_rfl) ?_
  refine RegI.op (by kernel_rfl) (OpE.storeBox 0 5 b2 14 (.int .u8 0) [.int .u16 p0_0, .int .u16 p0_1, .int .u16 p0_2, .int .u16 p0_3, .int .u16 p0_4, .int .u16 p0_5, .int .u16 p0_6, .int .u16 p0_7, .int .u16 p0_8, .int .u16 p0_9, .int .u16 p0_10, .int .u16 0, .int .u16 p0_12, .int .u8 0, .int .u8 0, .bool p0_15, .bool p0_16, .bool p0_17, .bool p0_18, .int .i64 p0_19] h15 (by kernel_rfl) (by kernel_rfl) rfl (by kernel_rfl) (by kernel_rfl) (by kernel_rfl) ?_)
  intro w17 h18 hk19
  refine RegI.pure 1 [1, 2, 6] [(1, .pointer (some ⟨b2, 0, none⟩)), (2, .pointer (some ⟨b7, 0, none⟩)), (6, .pointer (some ⟨b2, 19, none⟩))] (by kernel_rfl) ?_
  refine RegI.op (by kernel_rfl) (OpE.storeBox 0 3 b2 19 (.int .i64 0) [.int .u16 p0_0, .int .u16 p0_1, .int .u16 p0_2, .int .u16 p0_3, .int .u16 p0_4, .int .u16 p0_5, .int .u16 p0_6, .int .u16 p0_7, .int .u16 p0_8, .int .u16 p0_9, .int .u16 p0_10, .int .u16 0, .int .u16 p0_12, .int .u8 0, .int .u8 0, .bool p0_15, .bool p0_16, .bool p0_17, .bool p0_18, .int .i64 0] h18 (by kernel_rfl) (by kernel_rfl) rfl (by kernel_rfl) (by kernel_rfl) (by kernel_rfl) ?_)
  intro w20 h21 hk22
  refine RegI.done (by kernel_rfl) ?_
  refine RunsI.go 1 [.c 5, .c 6] (by kernel_rfl) ?_
  refine RunsI.region (by kernel_rfl) ?_
  refine RegI.pure 1 [1, 2, 7] [(1, .pointer (some ⟨b2, 0, none⟩)), (2, .pointer (some ⟨b7, 0, none⟩)), (7, .pointer (some ⟨b2, 15, none⟩))] (by kernel_rfl) ?_
  refine RegI.op (by kernel_rfl) (OpE.storeBox 0 4 b2 15 (.bool false) [.int .u16 p0_0, .int .u16 p0_1, .int .u16 p0_2, .int .u16 p0_3, .int .u16 p0_4, .int .u16 p0_5, .int .u16 p0_6, .int .u16 p0_7, .int .u16 p0_8, .int .u16 p0_9, .int .u16 p0_10, .int .u16 0, .int .u16 p0_12, .int .u8 0, .int .u8 0, .bool false, .bool p0_16, .bool p0_17, .bool p0_18, .int .i64 0] h21 (by kernel_rfl) (by kernel_rfl) rfl (by kernel_rfl) (by kernel_rfl) (by kernel_rfl) ?_)
  intro w23 h24 hk25
  refine RegI.pure 1 [1, 2, 8] [(1, .pointer (some ⟨b2, 0, none⟩)), (2, .pointer (some ⟨b7, 0, none⟩)), (8, .pointer (some ⟨b2, 16, none⟩))] (by kernel_rfl) ?_
  refine RegI.op (by kernel_rfl) (OpE.storeBox 0 4 b2 16 (.bool false) [.int .u16 p0_0, .int .u16 p0_1, .int .u16 p0_2, .int .u16 p0_3, .int .u16 p0_4, .int .u16 p0_5, .int .u16 p0_6, .int .u16 p0_7, .int .u16 p0_8, .int .u16 p0_9, .int .u16 p0_10, .int .u16 0, .int .u16 p0_12, .int .u8 0, .int .u8 0, .bool false, .bool false, .bool p0_17, .bool p0_18, .int .i64 0] h24 (by kernel_rfl) (by kernel_rfl) rfl (by kernel_rfl) (by kernel_rfl) (by kernel_rfl) ?_)
  intro w26 h27 hk28
  refine RegI.pure 1 [1, 2, 9] [(1, .pointer (some ⟨b2, 0, none⟩)), (2, .pointer (some ⟨b7, 0, none⟩)), (9, .pointer (some ⟨b2, 17, none⟩))] (by kernel_rfl) ?_
  refine RegI.op (by kernel_rfl) (OpE.storeBox 0 4 b2 17 (.bool false) [.int .u16 p0_0, .int .u16 p0_1, .int .u16 p0_2, .int .u16 p0_3, .int .u16 p0_4, .int .u16 p0_5, .int .u16 p0_6, .int .u16 p0_7, .int .u16 p0_8, .int .u16 p0_9, .int .u16 p0_10, .int .u16 0, .int .u16 p0_12, .int .u8 0, .int .u8 0, .bool false, .bool false, .bool false, .bool p0_18, .int .i64 0] h27 (by kernel_rfl) (by kernel_rfl) rfl (by kernel_rfl) (by kernel_rfl) (by kernel_rfl) ?_)
  intro w29 h30 hk31
  refine RegI.pure 1 [1, 2, 10] [(1, .pointer (some ⟨b2, 0, none⟩)), (2, .pointer (some ⟨b7, 0, none⟩)), (10, .pointer (some ⟨b2, 18, none⟩))] (by kernel_rfl) ?_
  refine RegI.op (by kernel_rfl) (OpE.storeBox 0 4 b2 18 (.bool false) [.int .u16 p0_0, .int .u16 p0_1, .int .u16 p0_2, .int .u16 p0_3, .int .u16 p0_4, .int .u16 p0_5, .int .u16 p0_6, .int .u16 p0_7, .int .u16 p0_8, .int .u16 p0_9, .int .u16 p0_10, .int .u16 0, .int .u16 p0_12, .int .u8 0, .int .u8 0, .bool false, .bool false, .bool false, .bool false, .int .i64 0] h30 (by kernel_rfl) (by kernel_rfl) rfl (by kernel_rfl) (by kernel_rfl) (by kernel_rfl) ?_)
  intro w32 h33 hk34
  refine RegI.done (by kernel_rfl) ?_
  refine RunsI.go 1 [.c 7, .c 8] (by kernel_rfl) ?_
  refine RunsI.region (by kernel_rfl) ?_
  refine RegI.op (by kernel_rfl) (OpE.loadBox 11 0 46 b2 0 (.agg #[.int .u16 p0_0, .int .u16 p0_1, .int .u16 p0_2, .int .u16 p0_3, .int .u16 p0_4, .int .u16 p0_5, .int .u16 p0_6, .int .u16 p0_7, .int .u16 p0_8, .int .u16 p0_9, .int .u16 p0_10, .int .u16 0, .int .u16 p0_12, .int .u8 0, .int .u8 0, .bool false, .bool false, .bool false, .bool false, .int .i64 0]) h33 (by kernel_rfl) (by kernel_rfl) rfl (by kernel_rfl) ?_)
  refine RegI.op (by kernel_rfl) (OpE.storeBox 1 46 b7 0 (.agg #[.int .u16 p0_0, .int .u16 p0_1, .int .u16 p0_2, .int .u16 p0_3, .int .u16 p0_4, .int .u16 p0_5, .int .u16 p0_6, .int .u16 p0_7, .int .u16 p0_8, .int .u16 p0_9, .int .u16 p0_10, .int .u16 0, .int .u16 p0_12, .int .u8 0, .int .u8 0, .bool false, .bool false, .bool false, .bool false, .int .i64 0]) [.int .u16 p0_0, .int .u16 p0_1, .int .u16 p0_2, .int .u16 p0_3, .int .u16 p0_4, .int .u16 p0_5, .int .u16 p0_6, .int .u16 p0_7, .int .u16 p0_8, .int .u16 p0_9, .int .u16 p0_10, .int .u16 0, .int .u16 p0_12, .int .u8 0, .int .u8 0, .bool false, .bool false, .bool false, .bool false, .int .i64 0] h33 (by kernel_rfl) (by kernel_rfl) rfl (by kernel_rfl) (by kernel_rfl) (by kernel_rfl) ?_)
  intro w35 h36 hk37
  refine RegI.done (by kernel_rfl) ?_
  refine RunsI.toRet (by kernel_rfl) ?_
  refine RetI.valW [.cell 2 46] [.agg #[.int .u16 p0_0, .int .u16 p0_1, .int .u16 p0_2, .int .u16 p0_3, .int .u16 p0_4, .int .u16 p0_5, .int .u16 p0_6, .int .u16 p0_7, .int .u16 p0_8, .int .u16 p0_9, .int .u16 p0_10, .int .u16 0, .int .u16 p0_12, .int .u8 0, .int .u8 0, .bool false, .bool false, .bool false, .bool false, .int .i64 0]] (.agg #[.int .u16 p0_0, .int .u16 p0_1, .int .u16 p0_2, .int .u16 p0_3, .int .u16 p0_4, .int .u16 p0_5, .int .u16 p0_6, .int .u16 p0_7, .int .u16 p0_8, .int .u16 p0_9, .int .u16 p0_10, .int .u16 0, .int .u16 p0_12, .int .u8 0, .int .u8 0, .bool false, .bool false, .bool false, .bool false, .int .i64 0]) (by kernel_rfl) (ResAt.box 1 46 b7 0 h36 (by kernel_rfl) (by kernel_rfl) rfl (by kernel_rfl) rfl) (by kernel_rfl) ?_
  obtain rfl := Option.some.inj h
  exact ⟨rfl, h36.below⟩
end

/-! ### strings.CutPrefix (function 67) -/
section
def strings_CutPrefix_67.post (M0 : Nat → Prop) (w0 : World) (r : ByteArray × Bool) : Ending → World → Prop := fun e w => e = .returned (.tuple #[.string r.1, .bool r.2]) ∧ Below w0.heap.size w0 w
def strings_CutPrefix_67.f (K : Nat) (p0 : ByteArray) (p1 : ByteArray) : Option (ByteArray × Bool) := some ((⟨(Lib.trimPrefix p0.data.toList p1.data.toList).toArray⟩ : ByteArray), Lib.hasPrefix p0.data.toList p1.data.toList)
theorem strings_CutPrefix_67_ok (K : Nat) (M0 : Nat → Prop) (w0 : World) (p0 : ByteArray) (p1 : ByteArray) (ho : ∀ b, M0 b → b < w0.heap.size) {r : ByteArray × Bool} (h : strings_CutPrefix_67.f K p0 p1 = some r) : Calls Tryd.prog 67 #[.string p0, .string p1] w0 (strings_CutPrefix_67.post M0 w0 r) := by
  obtain rfl := Option.some.inj h
  refine (Tryd.strings_CutPrefix p0 p1 w0).mono ?_
  rintro e w' ⟨rfl, rfl⟩
  exact ⟨rfl, Below.refl _ _⟩
end

/-! ### strings.Repeat (function 69) -/
section
def strings_Repeat_69.post (M0 : Nat → Prop) (w0 : World) (r : ByteArray) : Ending → World → Prop := fun e w => e = .returned (.string r) ∧ Below w0.heap.size w0 w
def strings_Repeat_69.f (K : Nat) (p0 : ByteArray) (p1 : Int) : Option ByteArray := cond (repR p0.size p1) (some (⟨(Lib.repeatL p0.data.toList p1.toNat).toArray⟩ : ByteArray)) none
theorem strings_Repeat_69_ok (K : Nat) (M0 : Nat → Prop) (w0 : World) (p0 : ByteArray) (p1 : Int) (ho : ∀ b, M0 b → b < w0.heap.size) {r : ByteArray} (h : strings_Repeat_69.f K p0 p1 = some r) : Calls Tryd.prog 69 #[.string p0, .int .i64 p1] w0 (strings_Repeat_69.post M0 w0 r) := by
  obtain ⟨hc, h⟩ := of_cond0 h
  obtain rfl := Option.some.inj h
  obtain ⟨h1, h2, h3⟩ := repR_of hc
  have hq : ((p1.toNat : Nat) : Int) = p1 := Int.toNat_of_nonneg h1
  rw [← hq]
  refine (Tryd.strings_Repeat p0 p1.toNat w0 h2 h3).mono ?_
  rintro e w' ⟨rfl, hb⟩
  exact ⟨by rw [hq], hb⟩
end

/-! ### charabanc/text.Hex (function 50) -/
section
def text_Hex_50.post (M0 : Nat → Prop) (w0 : World) (r : ByteArray) : Ending → World → Prop := fun e w => e = .returned (.string r) ∧ Below w0.heap.size w0 w
def text_Hex_50.l0 (K : Nat) (p0 : Int) (p1 : Int) : Nat → Int → (List Int) → Int → Option (Int × (List Int) × Int)
  | 0, _, _, _ => none
  | k + 1, t13, t15, t16 => cond (decide (t13 ≥ 16)) (cond (inR (band .u64 t13 15) (⟨#[48, 49, 50, 51, 52, 53, 54, 55, 56, 57, 97, 98, 99, 100, 101, 102, 103, 104, 105, 106, 107, 108, 109, 110, 111, 112, 113, 114, 115, 116, 117, 118, 119, 120, 121, 122]⟩ : ByteArray).size) (cond (inR (IntKind.wrap .i64 (t16 - 1)) 65) (cond (inR (IntKind.wrap .i64 (t16 - 1)) t15.length) (text_Hex_50.l0 K p0 p1 k (Int.fdiv t13 (2 ^ 4)) (stD t15 (IntKind.wrap .i64 (t16 - 1)) (btD (⟨#[48, 49, 50, 51, 52, 53, 54, 55, 56, 57, 97, 98, 99, 100, 101, 102, 103, 104, 105, 106, 107, 108, 109, 110, 111, 112, 113, 114, 115, 116, 117, 118, 119, 120, 121, 122]⟩ : ByteArray) (band .u64 t13 15))) (IntKind.wrap .i64 (t16 - 1))) none) none) none) (some (t13, t15, t16))
set_option maxRecDepth 100000 in
theorem text_Hex_50.l0_ok (K : Nat) (M0 : Nat → Prop) (w0 : World) (p0 : Int) (p1 : Int) (b14 : Nat) (R : Ending → World → Prop) (x : Int × (List Int) × Int) (hk0 : ∀ (t24 : Int) (t25 : List Int) (t26 : Int) (w1 : World), x = (t24, t25, t26) → Holds M0 w0 w1 [box b14 122 (List.flatMap (fun (x : Int) => ([.int .u8 x] : List Value)) t25), gl 2 (tab_2.flatMap en_2), gl 4 (tab_4.flatMap en_4), gl 5 (tab_5.flatMap en_5)] → RunsI F86 [.c 43, .c 68] [(0, .slice none 0 0), (1, .int .u64 t24), (3, .bool (decide (p0 < 0))), (4, .bool false), (10, .slice none 0 0), (11, .string (⟨#[]⟩ : ByteArray)), (12, .pointer (some ⟨b14, 0, none⟩)), (13, .int .i64 t26)] w1 R) :
    ∀ (k : Nat) (t13 : Int) (t15 : List Int) (t16 : Int) (w : World), text_Hex_50.l0 K p0 p1 k t13 t15 t16 = some x → Holds M0 w0 w [box b14 122 (List.flatMap (fun (x : Int) => ([.int .u8 x] : List Value)) t15), gl 2 (tab_2.flatMap en_2), gl 4 (tab_4.flatMap en_4), gl 5 (tab_5.flatMap en_5)] → RunsI F86 [.c 31, .lp 31, .blk 0, .c 43, .c 68] [(0, .slice none 0 0), (1, .int .u64 t13), (3, .bool (decide (p0 < 0))), (4, .bool false), (10, .slice none 0 0), (11, .string (⟨#[]⟩ : ByteArray)), (12, .pointer (some ⟨b14, 0, none⟩)), (13, .int .i64 t16), (14, .int .u64 4), (15, .int .u64 16), (16, .int .u64 15)] w R := by
  intro k
  induction k with
  | zero => intro t13 t15 t16 w h hH; exact absurd h (by simp [text_Hex_50.l0])
  | succ k ih =>
    intro t13 t15 t16 w h hH
    rw [text_Hex_50.l0.eq_2] at h
    refine RunsI.go 1 [.c 32, .c 37, .lp 31, .blk 0, .c 43, .c 68] (by kernel_rfl) ?_
    refine RunsI.go 1 [.c 33, .c 34, .c 37, .lp 31, .blk 0, .c 43, .c 68] (by kernel_rfl) ?_
    refine RunsI.region (by kernel_rfl) ?_
    refine RegI.pure 3 [0, 1, 3, 4, 10, 11, 12, 13, 14, 15, 16, 46] [(0, .slice none 0 0), (1, .int .u64 t13), (3, .bool (decide (p0 < 0))), (4, .bool false), (10, .slice none 0 0), (11, .string (⟨#[]⟩ : ByteArray)), (12, .pointer (some ⟨b14, 0, none⟩)), (13, .int .i64 t16), (14, .int .u64 4), (15, .int .u64 16), (16, .int .u64 15), (46, .bool (decide (t13 ≥ 16)))] (by kernel_rfl) ?_
    refine RegI.done (by kernel_rfl) ?_
    rcases of_cond h with ⟨hc17, h⟩ | ⟨hc17, h⟩
    · skip
      refine RunsI.fix 46 true hc17 (by kernel_rfl) (by kernel_rfl) ?_
      refine RunsI.cond true 35 (by kernel_rfl) ?_
      refine RunsI.go 1 [.c 37, .lp 31, .blk 0, .c 43, .c 68] (by kernel_rfl) ?_
      refine RunsI.go 2 [.c 39, .c 40, .blk 1, .lp 31, .blk 0, .c 43, .c 68] (by kernel_rfl) ?_
      refine RunsI.region (by kernel_rfl) ?_
      refine RegI.pure 3 [0, 1, 3, 4, 10, 11, 12, 13, 14, 15, 16] [(0, .slice none 0 0), (1, .int .u64 t13), (3, .bool (decide (p0 < 0))), (4, .bool false), (10, .slice none 0 0), (11, .string (⟨#[]⟩ : ByteArray)), (12, .pointer (some ⟨b14, 0, none⟩)), (13, .int .i64 (IntKind.wrap .i64 (t16 - 1))), (14, .int .u64 4), (15, .int .u64 16), (16, .int .u64 15)] (by kernel_rfl) ?_
      refine RegI.done (by kernel_rfl) ?_
      refine RunsI.go 1 [.c 41, .c 42, .blk 1, .lp 31, .blk 0, .c 43, .c 68] (by kernel_rfl) ?_
      refine RunsI.region (by kernel_rfl) ?_
      refine RegI.pure 4 [0, 1, 3, 4, 10, 11, 12, 13, 14, 15, 16, 49, 52] [(0, .slice none 0 0), (1, .int .u64 t13), (3, .bool (decide (p0 < 0))), (4, .bool false), (10, .slice none 0 0), (11, .string (⟨#[]⟩ : ByteArray)), (12, .pointer (some ⟨b14, 0, none⟩)), (13, .int .i64 (IntKind.wrap .i64 (t16 - 1))), (14, .int .u64 4), (15, .int .u64 16), (16, .int .u64 15), (49, .int .i64 (IntKind.wrap .i64 (t16 - 1))), (52, .int .u64 (band .u64 t13 15))] (by kernel_rfl) ?_
      obtain ⟨hc18, h⟩ := of_cond0 h
      refine RegI.op (by kernel_rfl) (OpE.run 53 (by kernel_rfl) (run_strIdx (T0 := 9) (s := (⟨#[48, 49, 50, 51, 52, 53, 54, 55, 56, 57, 97, 98, 99, 100, 101, 102, 103, 104, 105, 106, 107, 108, 109, 110, 111, 112, 113, 114, 115, 116, 117, 118, 119, 120, 121, 122]⟩ : ByteArray)) (j := (band .u64 t13 15)) (by kernel_rfl) (by kernel_rfl) hc18) ?_)
      obtain ⟨hc19, h⟩ := of_cond0 h
      refine RegI.op (by kernel_rfl) (OpE.run 54 (by kernel_rfl) (run_idxArr (T := 122) (b := b14) (o := 0) (ix := (IntKind.wrap .i64 (t16 - 1))) (len := 65) (s := 1) (by kernel_rfl) (by kernel_rfl) hc19) ?_)
      obtain ⟨hc20, h⟩ := of_cond0 h
      refine RegI.op (by kernel_rfl) (OpE.storeArr (en := (fun (x : Int) => ([.int .u8 x] : List Value))) 0 5 b14 1 (IntKind.wrap .i64 (t16 - 1)) (.int .u8 (btD (⟨#[48, 49, 50, 51, 52, 53, 54, 55, 56, 57, 97, 98, 99, 100, 101, 102, 103, 104, 105, 106, 107, 108, 109, 110, 111, 112, 113, 114, 115, 116, 117, 118, 119, 120, 121, 122]⟩ : ByteArray) (band .u64 t13 15))) (xs := t15) (btD (⟨#[48, 49, 50, 51, 52, 53, 54, 55, 56, 57, 97, 98, 99, 100, 101, 102, 103, 104, 105, 106, 107, 108, 109, 110, 111, 112, 113, 114, 115, 116, 117, 118, 119, 120, 121, 122]⟩ : ByteArray) (band .u64 t13 15)) (o := 0 + (Int.toNat (IntKind.wrap .i64 (t16 - 1))) * 1) hH (by kernel_rfl) (by kernel_rfl) rfl (fun _ => rfl) (by omega) (by kernel_rfl) (by kernel_rfl) hc20 ?_)
      intro w21 h22 hk23
      refine RegI.done (by kernel_rfl) ?_
      refine RunsI.region (by kernel_rfl) ?_
      refine RegI.pure 4 [0, 1, 3, 4, 10, 11, 12, 13, 14, 15, 16] [(0, .slice none 0 0), (1, .int .u64 (Int.fdiv t13 (2 ^ 4))), (3, .bool (decide (p0 < 0))), (4, .bool false), (10, .slice none 0 0), (11, .string (⟨#[]⟩ : ByteArray)), (12, .pointer (some ⟨b14, 0, none⟩)), (13, .int .i64 (IntKind.wrap .i64 (t16 - 1))), (14, .int .u64 4), (15, .int .u64 16), (16, .int .u64 15)] (by kernel_rfl) ?_
      refine RegI.done (by kernel_rfl) ?_
      refine RunsI.go 2 [.c 31, .lp 31, .blk 0, .c 43, .c 68] (by kernel_rfl) ?_
      refine RunsI.only [0, 1, 3, 4, 10, 11, 12, 13, 14, 15, 16] [(0, .slice none 0 0), (1, .int .u64 (Int.fdiv t13 (2 ^ 4))), (3, .bool (decide (p0 < 0))), (4, .bool false), (10, .slice none 0 0), (11, .string (⟨#[]⟩ : ByteArray)), (12, .pointer (some ⟨b14, 0, none⟩)), (13, .int .i64 (IntKind.wrap .i64 (t16 - 1))), (14, .int .u64 4), (15, .int .u64 16), (16, .int .u64 15)] (by kernel_rfl) (by kernel_rfl) ?_
      exact ih (Int.fdiv t13 (2 ^ 4)) (stD t15 (IntKind.wrap .i64 (t16 - 1)) (btD (⟨#[48, 49, 50, 51, 52, 53, 54, 55, 56, 57, 97, 98, 99, 100, 101, 102, 103, 104, 105, 106, 107, 108, 109, 110, 111, 112, 113, 114, 115, 116, 117, 118, 119, 120, 121, 122]⟩ : ByteArray) (band .u64 t13 15))) (IntKind.wrap .i64 (t16 - 1)) w21 h (h22.pick [0, 1, 2, 3] (by decide))
    · skip
      refine RunsI.fix 46 false hc17 (by kernel_rfl) (by kernel_rfl) ?_
      refine RunsI.cond false 36 (by kernel_rfl) ?_
      refine RunsI.go 1 [.c 43, .c 68] (by kernel_rfl) ?_
      refine RunsI.only [0, 1, 3, 4, 10, 11, 12, 13] [(0, .slice none 0 0), (1, .int .u64 t13), (3, .bool (decide (p0 < 0))), (4, .bool false), (10, .slice none 0 0), (11, .string (⟨#[]⟩ : ByteArray)), (12, .pointer (some ⟨b14, 0, none⟩)), (13, .int .i64 t16)] (by kernel_rfl) (by kernel_rfl) ?_
      exact hk0 t13 t15 t16 w (Option.some.inj h).symm (hH.pick [0, 1, 2, 3] (by decide))
def text_Hex_50.f (K : Nat) (p0 : Int) (p1 : Int) : Option ByteArray := Let (fun (t7 : Int) => (text_Hex_50.l0 K p0 p1 K t7 (List.replicate 65 0) 65).bind (fun yx27 => cond (inR yx27.1 (⟨#[48, 49, 50, 51, 52, 53, 54, 55, 56, 57, 97, 98, 99, 100, 101, 102, 103, 104, 105, 106, 107, 108, 109, 110, 111, 112, 113, 114, 115, 116, 117, 118, 119, 120, 121, 122]⟩ : ByteArray).size) (cond (inR (IntKind.wrap .i64 (yx27.2.2 - 1)) 65) (cond (inR (IntKind.wrap .i64 (yx27.2.2 - 1)) yx27.2.1.length) (Let (fun (yj50 : (List Int) × Int) => cond (cutR yj50.2 65 65) (cond (Nat.beq yj50.1.length 65) ((strings_CutPrefix_67.f K (strOf (cutL yj50.1 yj50.2 65)) (⟨#[45]⟩ : ByteArray)).bind fun yt59 => Let (fun (t68 : ByteArray) => cond yt59.2 (cond (mayCat (⟨#[45]⟩ : ByteArray).size t68.size) (cond (mayCat ((⟨#[45]⟩ : ByteArray) ++ t68).size (⟨#[104]⟩ : ByteArray).size) (some (((⟨#[45]⟩ : ByteArray) ++ t68) ++ (⟨#[104]⟩ : ByteArray))) none) none) (cond (mayCat t68.size (⟨#[104]⟩ : ByteArray).size) (some (t68 ++ (⟨#[104]⟩ : ByteArray))) none)) (fun j71 => cond (decide ((IntKind.wrap .i64 ((if (if 8 < p1 then 8 else p1) > 0 then (if 8 < p1 then 8 else p1) else 0) - (yt59.1.size : Int))) > 0)) ((strings_Repeat_69.f K (⟨#[48]⟩ : ByteArray) (IntKind.wrap .i64 ((if (if 8 < p1 then 8 else p1) > 0 then (if 8 < p1 then 8 else p1) else 0) - (yt59.1.size : Int)))).bind fun t66 => cond (mayCat t66.size yt59.1.size) (j71 (t66 ++ yt59.1)) none) (j71 yt59.1))) none) none) (fun j50 => cond (decide (p0 < 0)) (cond (inR (IntKind.wrap .i64 ((IntKind.wrap .i64 (yx27.2.2 - 1)) - 1)) 65) (cond (inR (IntKind.wrap .i64 ((IntKind.wrap .i64 (yx27.2.2 - 1)) - 1)) (stD yx27.2.1 (IntKind.wrap .i64 (yx27.2.2 - 1)) (btD (⟨#[48, 49, 50, 51, 52, 53, 54, 55, 56, 57, 97, 98, 99, 100, 101, 102, 103, 104, 105, 106, 107, 108, 109, 110, 111, 112, 113, 114, 115, 116, 117, 118, 119, 120, 121, 122]⟩ : ByteArray) yx27.1)).length) (j50 ((stD (stD yx27.2.1 (IntKind.wrap .i64 (yx27.2.2 - 1)) (btD (⟨#[48, 49, 50, 51, 52, 53, 54, 55, 56, 57, 97, 98, 99, 100, 101, 102, 103, 104, 105, 106, 107, 108, 109, 110, 111, 112, 113, 114, 115, 116, 117, 118, 119, 120, 121, 122]⟩ : ByteArray) yx27.1)) (IntKind.wrap .i64 ((IntKind.wrap .i64 (yx27.2.2 - 1)) - 1)) 45), (IntKind.wrap .i64 ((IntKind.wrap .i64 (yx27.2.2 - 1)) - 1)))) none) none) (j50 ((stD yx27.2.1 (IntKind.wrap .i64 (yx27.2.2 - 1)) (btD (⟨#[48, 49, 50, 51, 52, 53, 54, 55, 56, 57, 97, 98, 99, 100, 101, 102, 103, 104, 105, 106, 107, 108, 109, 110, 111, 112, 113, 114, 115, 116, 117, 118, 119, 120, 121, 122]⟩ : ByteArray) yx27.1)), (IntKind.wrap .i64 (yx27.2.2 - 1)))))) none) none) none)) (fun j10 => cond (decide (p0 < 0)) (j10 (IntKind.wrap .u64 (0 - (IntKind.wrap .u64 p0)))) (j10 (IntKind.wrap .u64 p0)))
set_option maxRecDepth 100000 in
theorem text_Hex_50_ok (K : Nat) (M0 : Nat → Prop) (w0 : World) (p0 : Int) (p1 : Int) (ho : ∀ b, M0 b → b < w0.heap.size) (hG2 : (gl 2 (tab_2.flatMap en_2)).ok w0 M0) (hG4 : (gl 4 (tab_4.flatMap en_4)).ok w0 M0) (hG5 : (gl 5 (tab_5.flatMap en_5)).ok w0 M0) {r : ByteArray} (h : text_Hex_50.f K p0 p1 = some r) :
    Calls Tryd.prog 50 #[.int .i64 p0, .int .i64 p1] w0 (text_Hex_50.post M0 w0 r) := by
  unfold text_Hex_50.f at h
  have h0 : Holds M0 w0 w0 [] := Holds.start ho
  have h0g2 := h0.add (gl 2 (tab_2.flatMap en_2)) rfl ⟨hG2.1, fun hm => hG2.2.1 (hm.elim id (fun hm => absurd hm (by simp [mines, sl, gl]))), hG2.2.2⟩
  have h0g4 := h0g2.add (gl 4 (tab_4.flatMap en_4)) rfl ⟨hG4.1, fun hm => hG4.2.1 (hm.elim id (fun hm => absurd hm (by simp [mines, sl, gl]))), hG4.2.2⟩
  have h0g5 := h0g4.add (gl 5 (tab_5.flatMap en_5)) rfl ⟨hG5.1, fun hm => hG5.2.1 (hm.elim id (fun hm => absurd hm (by simp [mines, sl, gl]))), hG5.2.2⟩
  have h0 : Holds M0 w0 w0 [gl 2 (tab_2.flatMap en_2), gl 4 (tab_4.flatMap en_4), gl 5 (tab_5.flatMap en_5)] := h0g5
  refine calls_of F50 rfl [.int .i64 p0, .int .i64 p1] (by kernel_rfl) ?_
  refine RunsI.go 1 [.c 1, .c 2] (by kernel_rfl) ?_
  refine RunsI.region (by kernel_rfl) ?_
  refine RegI.pure 1 [0, 1] [(0, .int .i64 p0), (1, .int .i64 p1)] (by kernel_rfl) ?_
  refine RegI.done (by kernel_rfl) ?_
  refine RunsI.go 1 [.c 3, .c 4] (by kernel_rfl) ?_
  refine RunsI.region (by kernel_rfl) ?_
  refine RegI.pure 1 [1, 9] [(1, .int .i64 p1), (9, .int .i64 p0)] (by kernel_rfl) ?_
  refine RegI.enter 10 [1] [(1, .int .i64 p1)] (by kernel_rfl) (by kernel_rfl) (by kernel_rfl) (by kernel_rfl) F68 68 rfl [.int .i64 p0, .int .i64 16] (by kernel_rfl) (by kernel_rfl) ?_
  refine RunsI.go 1 [.c 1, .c 2] (by kernel_rfl) ?_
  refine RunsI.region (by kernel_rfl) ?_
  refine RegI.pure 1 [0, 1] [(0, .int .i64 p0), (1, .int .i64 16)] (by kernel_rfl) ?_
  refine RegI.done (by kernel_rfl) ?_
  refine RunsI.go 1 [.c 3, .c 4] (by kernel_rfl) ?_
  refine RunsI.region (by kernel_rfl) ?_
  refine RegI.pure 2 [5, 6] [(5, .int .i64 p0), (6, .int .i64 16)] (by kernel_rfl) ?_
  refine RegI.enter 7 [] [] (by kernel_rfl) (by kernel_rfl) (by kernel_rfl) (by kernel_rfl) F76 76 rfl [.int .i64 p0, .int .i64 16] (by kernel_rfl) (by kernel_rfl) ?_
  refine RunsI.go 1 [.c 1, .c 2] (by kernel_rfl) ?_
  refine RunsI.region (by kernel_rfl) ?_
  refine RegI.pure 1 [0, 1] [(0, .int .i64 p0), (1, .int .i64 16)] (by kernel_rfl) ?_
  refine RegI.done (by kernel_rfl) ?_
  refine RunsI.go 2 [.c 4, .c 5, .c 42] (by kernel_rfl) ?_
  refine RunsI.region (by kernel_rfl) ?_
  refine RegI.pure 2 [0, 1, 11] [(0, .int .i64 p0), (1, .int .i64 16), (11, .bool false)] (by kernel_rfl) ?_
  refine RegI.done (by kernel_rfl) ?_
  refine RunsI.cond false 41 (by kernel_rfl) ?_
  refine RunsI.go 2 [.c 43, .c 44] (by kernel_rfl) ?_
  refine RunsI.region (by kernel_rfl) ?_
  refine RegI.pure 5 [46, 47, 49] [(46, .int .u64 (IntKind.wrap .u64 p0)), (47, .int .i64 16), (49, .bool (decide (p0 < 0)))] (by kernel_rfl) ?_
  refine RegI.enter 50 [] [] (by kernel_rfl) (by kernel_rfl) (by kernel_rfl) (by kernel_rfl) F86 86 rfl [.slice none 0 0, .int .u64 (IntKind.wrap .u64 p0), .int .i64 16, .bool (decide (p0 < 0)), .bool false] (by kernel_rfl) (by kernel_rfl) ?_
  refine RunsI.go 1 [.c 1, .c 2] (by kernel_rfl) ?_
  refine RunsI.region (by kernel_rfl) ?_
  refine RegI.pure 2 [0, 1, 2, 3, 4, 10, 11] [(0, .slice none 0 0), (1, .int .u64 (IntKind.wrap .u64 p0)), (2, .int .i64 16), (3, .bool (decide (p0 < 0))), (4, .bool false), (10, .slice none 0 0), (11, .string (⟨#[]⟩ : ByteArray))] (by kernel_rfl) ?_
  refine RegI.done (by kernel_rfl) ?_
  refine RunsI.go 2 [.c 4, .c 5, .c 8] (by kernel_rfl) ?_
  refine RunsI.region (by kernel_rfl) ?_
  refine RegI.pure 10 [0, 1, 2, 3, 4, 10, 11, 28] [(0, .slice none 0 0), (1, .int .u64 (IntKind.wrap .u64 p0)), (2, .int .i64 16), (3, .bool (decide (p0 < 0))), (4, .bool false), (10, .slice none 0 0), (11, .string (⟨#[]⟩ : ByteArray)), (28, .bool false)] (by kernel_rfl) ?_
  refine RegI.done (by kernel_rfl) ?_
  refine RunsI.cond false 7 (by kernel_rfl) ?_
  refine RunsI.go 2 [.c 9, .c 10] (by kernel_rfl) ?_
  refine RunsI.region (by kernel_rfl) ?_
  refine RegI.op (by kernel_rfl) (OpE.box 12 122 (List.flatMap (fun (x : Int) => ([.int .u8 x] : List Value)) (List.replicate 65 0)) h0 (by kernel_rfl) (by kernel_rfl) ?_)
  intro w1 b2 h3 hb4 hn5
  refine RegI.done (by kernel_rfl) ?_
  refine RunsI.go 1 [.c 11, .c 12] (by kernel_rfl) ?_
  refine RunsI.region (by kernel_rfl) ?_
  refine RegI.pure 1 [0, 1, 2, 3, 4, 10, 11, 12, 13] [(0, .slice none 0 0), (1, .int .u64 (IntKind.wrap .u64 p0)), (2, .int .i64 16), (3, .bool (decide (p0 < 0))), (4, .bool false), (10, .slice none 0 0), (11, .string (⟨#[]⟩ : ByteArray)), (12, .pointer (some ⟨b2, 0, none⟩)), (13, .int .i64 65)] (by kernel_rfl) ?_
  refine RegI.done (by kernel_rfl) ?_
  refine RunsI.go 2 [.c 14, .c 15, .c 18] (by kernel_rfl) ?_
  refine RunsI.region (by kernel_rfl) ?_
  refine RegI.pure 1 [0, 1, 2, 3, 4, 10, 11, 12, 13, 30] [(0, .slice none 0 0), (1, .int .u64 (IntKind.wrap .u64 p0)), (2, .int .i64 16), (3, .bool (decide (p0 < 0))), (4, .bool false), (10, .slice none 0 0), (11, .string (⟨#[]⟩ : ByteArray)), (12, .pointer (some ⟨b2, 0, none⟩)), (13, .int .i64 65), (30, .bool (decide (p0 < 0)))] (by kernel_rfl) ?_
  refine RegI.done (by kernel_rfl) ?_
  obtain ⟨j10, hJ11, h⟩ := of_let h
  have hj12 : ∀ (t7 : Int) (w9 : World), j10 t7 = some r → Holds M0 w0 w9 [box b2 122 (List.flatMap (fun (x : Int) => ([.int .u8 x] : List Value)) (List.replicate 65 0)), gl 2 (tab_2.flatMap en_2), gl 4 (tab_4.flatMap en_4), gl 5 (tab_5.flatMap en_5)] → RunsI F86 [.c 18] [(0, .slice none 0 0), (1, .int .u64 t7), (2, .int .i64 16), (3, .bool (decide (p0 < 0))), (4, .bool false), (10, .slice none 0 0), (11, .string (⟨#[]⟩ : ByteArray)), (12, .pointer (some ⟨b2, 0, none⟩)), (13, .int .i64 65)] w9 (cont (fun e' w' => RegI F76 43 [.c 44] 6 e' w' (cont (fun e' w' => RegI F68 3 [.c 4] 3 e' w' (cont (fun e' w' => RegI F50 3 [.c 4] 2 e' w' (text_Hex_50.post M0 w0 r)) 10 [(1, .int .i64 p1)])) 7 [])) 50 []) := by
    intro t7 w9 h h8
    rw [hJ11] at h
    clear hJ11
    dsimp only at h
    refine RunsI.go 2 [.c 20, .c 21, .c 68] (by kernel_rfl) ?_
    refine RunsI.region (by kernel_rfl) ?_
    refine RegI.pure 1 [0, 1, 2, 3, 4, 10, 11, 12, 13, 33] [(0, .slice none 0 0), (1, .int .u64 t7), (2, .int .i64 16), (3, .bool (decide (p0 < 0))), (4, .bool false), (10, .slice none 0 0), (11, .string (⟨#[]⟩ : ByteArray)), (12, .pointer (some ⟨b2, 0, none⟩)), (13, .int .i64 65), (33, .int .i64 16)] (by kernel_rfl) ?_
    refine RegI.enter 34 [0, 1, 2, 3, 4, 10, 11, 12, 13] [(0, .slice none 0 0), (1, .int .u64 t7), (2, .int .i64 16), (3, .bool (decide (p0 < 0))), (4, .bool false), (10, .slice none 0 0), (11, .string (⟨#[]⟩ : ByteArray)), (12, .pointer (some ⟨b2, 0, none⟩)), (13, .int .i64 65)] (by kernel_rfl) (by kernel_rfl) (by kernel_rfl) (by kernel_rfl) F94 94 rfl [.int .i64 16] (by kernel_rfl) (by kernel_rfl) ?_
    refine RunsI.go 1 [.c 1, .c 2] (by kernel_rfl) ?_
    refine RunsI.region (by kernel_rfl) ?_
    refine RegI.pure 1 [0] [(0, .int .i64 16)] (by kernel_rfl) ?_
    refine RegI.done (by kernel_rfl) ?_
    refine RunsI.go 1 [.c 3, .c 4] (by kernel_rfl) ?_
    refine RunsI.region (by kernel_rfl) ?_
    refine RegI.pure 6 [2] [(2, .bool true)] (by kernel_rfl) ?_
    refine RegI.done (by kernel_rfl) ?_
    refine RunsI.ret (.bool true) (by kernel_rfl) (by kernel_rfl) ?_
    refine cont_mk ?_
    refine RegI.done (by kernel_rfl) ?_
    refine RunsI.cond true 22 (by kernel_rfl) ?_
    refine RunsI.go 1 [.c 23, .c 24, .c 68] (by kernel_rfl) ?_
    refine RunsI.region (by kernel_rfl) ?_
    refine RegI.pure 2 [0, 1, 2, 3, 4, 10, 11, 12, 13, 36] [(0, .slice none 0 0), (1, .int .u64 t7), (2, .int .i64 16), (3, .bool (decide (p0 < 0))), (4, .bool false), (10, .slice none 0 0), (11, .string (⟨#[]⟩ : ByteArray)), (12, .pointer (some ⟨b2, 0, none⟩)), (13, .int .i64 65), (36, .int .u64 16)] (by kernel_rfl) ?_
    refine RegI.enter 37 [0, 1, 2, 3, 4, 10, 11, 12, 13] [(0, .slice none 0 0), (1, .int .u64 t7), (2, .int .i64 16), (3, .bool (decide (p0 < 0))), (4, .bool false), (10, .slice none 0 0), (11, .string (⟨#[]⟩ : ByteArray)), (12, .pointer (some ⟨b2, 0, none⟩)), (13, .int .i64 65)] (by kernel_rfl) (by kernel_rfl) (by kernel_rfl) (by kernel_rfl) F95 95 rfl [.int .u64 16] (by kernel_rfl) (by kernel_rfl) ?_
    refine RunsI.go 1 [.c 1, .c 2] (by kernel_rfl) ?_
    refine RunsI.region (by kernel_rfl) ?_
    refine RegI.pure 1 [0] [(0, .int .u64 16)] (by kernel_rfl) ?_
    refine RegI.done (by kernel_rfl) ?_
    refine RunsI.go 1 [.c 3, .c 8] (by kernel_rfl) ?_
    refine RunsI.cond false 7 (by kernel_rfl) ?_
    refine RunsI.go 2 [.c 9, .c 10] (by kernel_rfl) ?_
    refine RunsI.region (by kernel_rfl) ?_
    refine RegI.pure 1 [6] [(6, .int .u64 16)] (by kernel_rfl) ?_
    refine RegI.enter 7 [] [] (by kernel_rfl) (by kernel_rfl) (by kernel_rfl) (by kernel_rfl) F97 97 rfl [.int .u64 16] (by kernel_rfl) (by kernel_rfl) ?_
    refine RunsI.go 1 [.c 1, .c 2] (by kernel_rfl) ?_
    refine RunsI.region (by kernel_rfl) ?_
    refine RegI.pure 1 [0] [(0, .int .u64 16)] (by kernel_rfl) ?_
    refine RegI.done (by kernel_rfl) ?_
    refine RunsI.go 2 [.c 4, .c 5, .c 10] (by kernel_rfl) ?_
    refine RunsI.region (by kernel_rfl) ?_
    refine RegI.pure 2 [0, 4] [(0, .int .u64 16), (4, .bool false)] (by kernel_rfl) ?_
    refine RegI.done (by kernel_rfl) ?_
    refine RunsI.cond false 9 (by kernel_rfl) ?_
    refine RunsI.go 2 [.c 11, .c 12] (by kernel_rfl) ?_
    refine RunsI.region (by kernel_rfl) ?_
    refine RegI.pure 6 [10] [(10, .int .u64 15)] (by kernel_rfl) ?_
    refine RegI.op (by kernel_rfl) (OpE.run 11 (by kernel_rfl) (run_idxArr (T := 127) (b := 5) (o := 0) (ix := 15) (len := 64) (s := 1) (by kernel_rfl) (by kernel_rfl) (by kernel_rfl)) ?_)
    refine RegI.op (by kernel_rfl) (OpE.loadTab 12 3 5 en_5 tab_5 0 1 15 (.int .u8 4) (o := 0 + (Int.toNat 15) * 1 + 0) h8 (by kernel_rfl) rfl (fun _ => rfl) (by kernel_rfl) (by omega) (by kernel_rfl) (fun _ => by kernel_rfl) ?_)
    refine RegI.pure 2 [2] [(2, .int .i64 4)] (by kernel_rfl) ?_
    refine RegI.done (by kernel_rfl) ?_
    refine RunsI.ret (.int .i64 4) (by kernel_rfl) (by kernel_rfl) ?_
    refine cont_mk ?_
    refine RegI.pure 1 [2] [(2, .int .i64 4)] (by kernel_rfl) ?_
    refine RegI.done (by kernel_rfl) ?_
    refine RunsI.ret (.int .i64 4) (by kernel_rfl) (by kernel_rfl) ?_
    refine cont_mk ?_
    refine RegI.pure 2 [0, 1, 2, 3, 4, 10, 11, 12, 13, 14] [(0, .slice none 0 0), (1, .int .u64 t7), (2, .int .i64 16), (3, .bool (decide (p0 < 0))), (4, .bool false), (10, .slice none 0 0), (11, .string (⟨#[]⟩ : ByteArray)), (12, .pointer (some ⟨b2, 0, none⟩)), (13, .int .i64 65), (14, .int .u64 4)] (by kernel_rfl) ?_
    refine RegI.done (by kernel_rfl) ?_
    refine RunsI.go 1 [.c 25, .c 26, .c 68] (by kernel_rfl) ?_
    refine RunsI.region (by kernel_rfl) ?_
    refine RegI.pure 3 [0, 1, 2, 3, 4, 10, 11, 12, 13, 14, 15] [(0, .slice none 0 0), (1, .int .u64 t7), (2, .int .i64 16), (3, .bool (decide (p0 < 0))), (4, .bool false), (10, .slice none 0 0), (11, .string (⟨#[]⟩ : ByteArray)), (12, .pointer (some ⟨b2, 0, none⟩)), (13, .int .i64 65), (14, .int .u64 4), (15, .int .u64 16)] (by kernel_rfl) ?_
    refine RegI.done (by kernel_rfl) ?_
    refine RunsI.go 1 [.c 27, .c 28, .c 68] (by kernel_rfl) ?_
    refine RunsI.region (by kernel_rfl) ?_
    refine RegI.pure 4 [0, 1, 3, 4, 10, 11, 12, 13, 14, 15, 16] [(0, .slice none 0 0), (1, .int .u64 t7), (3, .bool (decide (p0 < 0))), (4, .bool false), (10, .slice none 0 0), (11, .string (⟨#[]⟩ : ByteArray)), (12, .pointer (some ⟨b2, 0, none⟩)), (13, .int .i64 65), (14, .int .u64 4), (15, .int .u64 16), (16, .int .u64 15)] (by kernel_rfl) ?_
    refine RegI.done (by kernel_rfl) ?_
    refine RunsI.go 3 [.c 31, .lp 31, .blk 0, .c 43, .c 68] (by kernel_rfl) ?_
    obtain ⟨x27, hx28, h⟩ := of_bind h
    refine RunsI.only [0, 1, 3, 4, 10, 11, 12, 13, 14, 15, 16] [(0, .slice none 0 0), (1, .int .u64 t7), (3, .bool (decide (p0 < 0))), (4, .bool false), (10, .slice none 0 0), (11, .string (⟨#[]⟩ : ByteArray)), (12, .pointer (some ⟨b2, 0, none⟩)), (13, .int .i64 65), (14, .int .u64 4), (15, .int .u64 16), (16, .int .u64 15)] (by kernel_rfl) (by kernel_rfl) ?_
    refine text_Hex_50.l0_ok K M0 w0 p0 p1 b2 _ x27 ?_ K t7 (List.replicate 65 0) 65 w9 hx28 (h8.pick [0, 1, 2, 3] (by decide))
    · intro t29 t30 t31 w33 hq78 h32
      (try rw [hq78] at h)
      dsimp only at h
      refine RunsI.go 1 [.c 44, .c 45, .c 68] (by kernel_rfl) ?_
      refine RunsI.region (by kernel_rfl) ?_
      refine RegI.pure 3 [0, 1, 3, 4, 10, 11, 12, 13] [(0, .slice none 0 0), (1, .int .u64 t29), (3, .bool (decide (p0 < 0))), (4, .bool false), (10, .slice none 0 0), (11, .string (⟨#[]⟩ : ByteArray)), (12, .pointer (some ⟨b2, 0, none⟩)), (13, .int .i64 (IntKind.wrap .i64 (t31 - 1)))] (by kernel_rfl) ?_
      refine RegI.done (by kernel_rfl) ?_
      refine RunsI.region (by kernel_rfl) ?_
      refine RegI.pure 2 [0, 3, 4, 10, 11, 12, 13, 60, 61] [(0, .slice none 0 0), (3, .bool (decide (p0 < 0))), (4, .bool false), (10, .slice none 0 0), (11, .string (⟨#[]⟩ : ByteArray)), (12, .pointer (some ⟨b2, 0, none⟩)), (13, .int .i64 (IntKind.wrap .i64 (t31 - 1))), (60, .int .i64 (IntKind.wrap .i64 (t31 - 1))), (61, .int .u64 t29)] (by kernel_rfl) ?_
      obtain ⟨hc34, h⟩ := of_cond0 h
      refine RegI.op (by kernel_rfl) (OpE.run 62 (by kernel_rfl) (run_strIdx (T0 := 9) (s := (⟨#[48, 49, 50, 51, 52, 53, 54, 55, 56, 57, 97, 98, 99, 100, 101, 102, 103, 104, 105, 106, 107, 108, 109, 110, 111, 112, 113, 114, 115, 116, 117, 118, 119, 120, 121, 122]⟩ : ByteArray)) (j := t29) (by kernel_rfl) (by kernel_rfl) hc34) ?_)
      obtain ⟨hc35, h⟩ := of_cond0 h
      refine RegI.op (by kernel_rfl) (OpE.run 63 (by kernel_rfl) (run_idxArr (T := 122) (b := b2) (o := 0) (ix := (IntKind.wrap .i64 (t31 - 1))) (len := 65) (s := 1) (by kernel_rfl) (by kernel_rfl) hc35) ?_)
      obtain ⟨hc36, h⟩ := of_cond0 h
      refine RegI.op (by kernel_rfl) (OpE.storeArr (en := (fun (x : Int) => ([.int .u8 x] : List Value))) 0 5 b2 1 (IntKind.wrap .i64 (t31 - 1)) (.int .u8 (btD (⟨#[48, 49, 50, 51, 52, 53, 54, 55, 56, 57, 97, 98, 99, 100, 101, 102, 103, 104, 105, 106, 107, 108, 109, 110, 111, 112, 113, 114, 115, 116, 117, 118, 119, 120, 121, 122]⟩ : ByteArray) t29)) (xs := t30) (btD (⟨#[48, 49, 50, 51, 52, 53, 54, 55, 56, 57, 97, 98, 99, 100, 101, 102, 103, 104, 105, 106, 107, 108, 109, 110, 111, 112, 113, 114, 115, 116, 117, 118, 119, 120, 121, 122]⟩ : ByteArray) t29) (o := 0 + (Int.toNat (IntKind.wrap .i64 (t31 - 1))) * 1) h32 (by kernel_rfl) (by kernel_rfl) rfl (fun _ => rfl) (by omega) (by kernel_rfl) (by kernel_rfl) hc36 ?_)
      intro w37 h38 hk39
      refine RegI.done (by kernel_rfl) ?_
      refine RunsI.go 2 [.c 70, .c 71, .c 76] (by kernel_rfl) ?_
      refine RunsI.region (by kernel_rfl) ?_
      refine RegI.pure 1 [0, 4, 10, 11, 12, 13, 89] [(0, .slice none 0 0), (4, .bool false), (10, .slice none 0 0), (11, .string (⟨#[]⟩ : ByteArray)), (12, .pointer (some ⟨b2, 0, none⟩)), (13, .int .i64 (IntKind.wrap .i64 (t31 - 1))), (89, .bool (decide (p0 < 0)))] (by kernel_rfl) ?_
      refine RegI.done (by kernel_rfl) ?_
      obtain ⟨j50, hJ51, h⟩ := of_let h
      have hj52 : ∀ (t46 : List Int) (t47 : Int) (w49 : World), j50 (t46, t47) = some r → Holds M0 w0 w49 [box b2 122 (List.flatMap (fun (x : Int) => ([.int .u8 x] : List Value)) t46), gl 2 (tab_2.flatMap en_2), gl 4 (tab_4.flatMap en_4), gl 5 (tab_5.flatMap en_5)] → RunsI F86 [.c 76] [(0, .slice none 0 0), (4, .bool false), (10, .slice none 0 0), (11, .string (⟨#[]⟩ : ByteArray)), (12, .pointer (some ⟨b2, 0, none⟩)), (13, .int .i64 t47)] w49 (cont (fun e' w' => RegI F76 43 [.c 44] 6 e' w' (cont (fun e' w' => RegI F68 3 [.c 4] 3 e' w' (cont (fun e' w' => RegI F50 3 [.c 4] 2 e' w' (text_Hex_50.post M0 w0 r)) 10 [(1, .int .i64 p1)])) 7 [])) 50 []) := by
        intro t46 t47 w49 h h48
        rw [hJ51] at h
        clear hJ51
        dsimp only at h
        refine RunsI.go 2 [.c 78, .c 79, .c 84] (by kernel_rfl) ?_
        refine RunsI.region (by kernel_rfl) ?_
        refine RegI.pure 1 [0, 10, 11, 12, 13, 94] [(0, .slice none 0 0), (10, .slice none 0 0), (11, .string (⟨#[]⟩ : ByteArray)), (12, .pointer (some ⟨b2, 0, none⟩)), (13, .int .i64 t47), (94, .bool false)] (by kernel_rfl) ?_
        refine RegI.done (by kernel_rfl) ?_
        refine RunsI.cond false 83 (by kernel_rfl) ?_
        refine RunsI.go 2 [.c 85, .c 86] (by kernel_rfl) ?_
        refine RunsI.region (by kernel_rfl) ?_
        refine RegI.pure 1 [10, 12, 99] [(10, .slice none 0 0), (12, .pointer (some ⟨b2, 0, none⟩)), (99, .int .i64 t47)] (by kernel_rfl) ?_
        obtain ⟨hc53, h⟩ := of_cond0 h
        refine RegI.op (by kernel_rfl) (OpE.run 100 (by kernel_rfl) (run_cutArr (T := 122) (b := b2) (lo := (some t47)) (hi := none) (len := 65) (sz := 1) (by kernel_rfl) (by kernel_rfl) hc53) ?_)
        obtain ⟨hc54, h⟩ := of_cond0 h
        refine RegI.op (by kernel_rfl) (OpE.run 101 (by kernel_rfl) (run_toStr (s := 91) (d := 9) (v := (slicedAt ⟨b2, 0, none⟩ (Int.toNat t47) (Int.toNat 65) 65 1)) (by kernel_rfl) (by kernel_rfl) (h48.rdArr 0 rfl t47 65 hc54 hc53)) ?_)
        refine RegI.pure 1 [10, 11] [(10, .slice none 0 0), (11, .string (strOf (cutL t46 t47 65)))] (by kernel_rfl) ?_
        refine RegI.done (by kernel_rfl) ?_
        refine RunsI.ret (.tuple #[.slice none 0 0, .string (strOf (cutL t46 t47 65))]) (by kernel_rfl) (by kernel_rfl) ?_
        refine cont_mk ?_
        refine RegI.pure 5 [9] [(9, .string (strOf (cutL t46 t47 65)))] (by kernel_rfl) ?_
        refine RegI.done (by kernel_rfl) ?_
        refine RunsI.go 1 [.c 45, .c 46] (by kernel_rfl) ?_
        refine RunsI.region (by kernel_rfl) ?_
        refine RegI.pure 2 [4] [(4, .string (strOf (cutL t46 t47 65)))] (by kernel_rfl) ?_
        refine RegI.done (by kernel_rfl) ?_
        refine RunsI.ret (.string (strOf (cutL t46 t47 65))) (by kernel_rfl) (by kernel_rfl) ?_
        refine cont_mk ?_
        refine RegI.pure 1 [4] [(4, .string (strOf (cutL t46 t47 65)))] (by kernel_rfl) ?_
        refine RegI.done (by kernel_rfl) ?_
        refine RunsI.ret (.string (strOf (cutL t46 t47 65))) (by kernel_rfl) (by kernel_rfl) ?_
        refine cont_mk ?_
        obtain ⟨⟨t59, t60⟩, hg58, h⟩ := of_bind h
        dsimp only at h
        refine RegI.op (by kernel_rfl) (OpE.call 11 (by kernel_rfl) 67 #[.string (strOf (cutL t46 t47 65)), .string (⟨#[45]⟩ : ByteArray)] (by kernel_rfl) ((strings_CutPrefix_67_ok K _ w49  (strOf (cutL t46 t47 65)) (⟨#[45]⟩ : ByteArray) h48.old' hg58).mono ?_))
        rintro _ w55 ⟨rfl, hb56⟩
        refine ⟨_, rfl, ?_⟩
        have h57 := h48.call hb56
        refine RegI.pure 5 [1, 5, 6] [(1, .int .i64 p1), (5, .string t59), (6, .bool t60)] (by kernel_rfl) ?_
        refine RegI.done (by kernel_rfl) ?_
        refine RunsI.go 2 [.c 6, .c 7, .c 12] (by kernel_rfl) ?_
        refine RunsI.region (by kernel_rfl) ?_
        refine RegI.pure 7 [5, 6, 7] [(5, .string t59), (6, .bool t60), (7, .int .i64 (IntKind.wrap .i64 ((if (if 8 < p1 then 8 else p1) > 0 then (if 8 < p1 then 8 else p1) else 0) - (t59.size : Int))))] (by kernel_rfl) ?_
        refine RegI.done (by kernel_rfl) ?_
        refine RunsI.go 1 [.c 8, .c 9, .c 12] (by kernel_rfl) ?_
        refine RunsI.region (by kernel_rfl) ?_
        refine RegI.pure 2 [5, 6, 7, 21] [(5, .string t59), (6, .bool t60), (7, .int .i64 (IntKind.wrap .i64 ((if (if 8 < p1 then 8 else p1) > 0 then (if 8 < p1 then 8 else p1) else 0) - (t59.size : Int)))), (21, .bool (decide ((IntKind.wrap .i64 ((if (if 8 < p1 then 8 else p1) > 0 then (if 8 < p1 then 8 else p1) else 0) - (t59.size : Int))) > 0)))] (by kernel_rfl) ?_
        refine RegI.done (by kernel_rfl) ?_
        obtain ⟨j71, hJ72, h⟩ := of_let h
        have hj73 : ∀ (t68 : ByteArray) (w70 : World), j71 t68 = some r → Holds M0 w0 w70 [gl 2 (tab_2.flatMap en_2), gl 4 (tab_4.flatMap en_4), gl 5 (tab_5.flatMap en_5)] → RunsI F50 [.c 12] [(5, .string t68), (6, .bool t60)] w70 (text_Hex_50.post M0 w0 r) := by
          intro t68 w70 h h69
          rw [hJ72] at h
          clear hJ72
          dsimp only at h
          refine RunsI.go 2 [.c 14, .c 15, .c 18] (by kernel_rfl) ?_
          refine RunsI.region (by kernel_rfl) ?_
          refine RegI.pure 1 [5, 26] [(5, .string t68), (26, .bool t60)] (by kernel_rfl) ?_
          refine RegI.done (by kernel_rfl) ?_
          rcases of_cond h with ⟨hc74, h⟩ | ⟨hc74, h⟩
          · skip
            refine RunsI.fix 26 true hc74 (by kernel_rfl) (by kernel_rfl) ?_
            refine RunsI.cond true 16 (by kernel_rfl) ?_
            refine RunsI.region (by kernel_rfl) ?_
            refine RegI.pure 1 [27] [(27, .string t68)] (by kernel_rfl) ?_
            obtain ⟨hc75, h⟩ := of_cond0 h
            refine RegI.op (by kernel_rfl) (OpE.run 28 (by kernel_rfl) (run_cat (a := (⟨#[45]⟩ : ByteArray)) (b := t68) (by kernel_rfl) hc75) ?_)
            refine RegI.pure 1 [5] [(5, .string ((⟨#[45]⟩ : ByteArray) ++ t68))] (by kernel_rfl) ?_
            refine RegI.done (by kernel_rfl) ?_
            refine RunsI.go 1 [.c 19, .c 20] (by kernel_rfl) ?_
            refine RunsI.region (by kernel_rfl) ?_
            refine RegI.pure 1 [29] [(29, .string ((⟨#[45]⟩ : ByteArray) ++ t68))] (by kernel_rfl) ?_
            obtain ⟨hc76, h⟩ := of_cond0 h
            refine RegI.op (by kernel_rfl) (OpE.run 30 (by kernel_rfl) (run_cat (a := ((⟨#[45]⟩ : ByteArray) ++ t68)) (b := (⟨#[104]⟩ : ByteArray)) (by kernel_rfl) hc76) ?_)
            refine RegI.pure 1 [4] [(4, .string (((⟨#[45]⟩ : ByteArray) ++ t68) ++ (⟨#[104]⟩ : ByteArray)))] (by kernel_rfl) ?_
            refine RegI.done (by kernel_rfl) ?_
            refine RunsI.ret (.string (((⟨#[45]⟩ : ByteArray) ++ t68) ++ (⟨#[104]⟩ : ByteArray))) (by kernel_rfl) (by kernel_rfl) ?_
            obtain rfl := Option.some.inj h
            exact ⟨rfl, h69.below⟩
          · skip
            refine RunsI.fix 26 false hc74 (by kernel_rfl) (by kernel_rfl) ?_
            refine RunsI.cond false 17 (by kernel_rfl) ?_
            refine RunsI.go 1 [.c 18] (by kernel_rfl) ?_
            refine RunsI.go 1 [.c 19, .c 20] (by kernel_rfl) ?_
            refine RunsI.region (by kernel_rfl) ?_
            refine RegI.pure 1 [29] [(29, .string t68)] (by kernel_rfl) ?_
            obtain ⟨hc77, h⟩ := of_cond0 h
            refine RegI.op (by kernel_rfl) (OpE.run 30 (by kernel_rfl) (run_cat (a := t68) (b := (⟨#[104]⟩ : ByteArray)) (by kernel_rfl) hc77) ?_)
            refine RegI.pure 1 [4] [(4, .string (t68 ++ (⟨#[104]⟩ : ByteArray)))] (by kernel_rfl) ?_
            refine RegI.done (by kernel_rfl) ?_
            refine RunsI.ret (.string (t68 ++ (⟨#[104]⟩ : ByteArray))) (by kernel_rfl) (by kernel_rfl) ?_
            obtain rfl := Option.some.inj h
            exact ⟨rfl, h69.below⟩
        clear hJ72
        rcases of_cond h with ⟨hc61, h⟩ | ⟨hc61, h⟩
        · skip
          refine RunsI.fix 21 true hc61 (by kernel_rfl) (by kernel_rfl) ?_
          refine RunsI.cond true 10 (by kernel_rfl) ?_
          refine RunsI.region (by kernel_rfl) ?_
          refine RegI.pure 1 [5, 6, 22] [(5, .string t59), (6, .bool t60), (22, .int .i64 (IntKind.wrap .i64 ((if (if 8 < p1 then 8 else p1) > 0 then (if 8 < p1 then 8 else p1) else 0) - (t59.size : Int))))] (by kernel_rfl) ?_
          obtain ⟨t66, hg65, h⟩ := of_bind h
          refine RegI.op (by kernel_rfl) (OpE.call 23 (by kernel_rfl) 69 #[.string (⟨#[48]⟩ : ByteArray), .int .i64 (IntKind.wrap .i64 ((if (if 8 < p1 then 8 else p1) > 0 then (if 8 < p1 then 8 else p1) else 0) - (t59.size : Int)))] (by kernel_rfl) ((strings_Repeat_69_ok K _ w55  (⟨#[48]⟩ : ByteArray) (IntKind.wrap .i64 ((if (if 8 < p1 then 8 else p1) > 0 then (if 8 < p1 then 8 else p1) else 0) - (t59.size : Int))) h57.old' hg65).mono ?_))
          rintro _ w62 ⟨rfl, hb63⟩
          refine ⟨_, rfl, ?_⟩
          have h64 := h57.call hb63
          refine RegI.pure 1 [6, 23, 24] [(6, .bool t60), (23, .string t66), (24, .string t59)] (by kernel_rfl) ?_
          obtain ⟨hc67, h⟩ := of_cond0 h
          refine RegI.op (by kernel_rfl) (OpE.run 25 (by kernel_rfl) (run_cat (a := t66) (b := t59) (by kernel_rfl) hc67) ?_)
          refine RegI.pure 1 [5, 6] [(5, .string (t66 ++ t59)), (6, .bool t60)] (by kernel_rfl) ?_
          refine RegI.done (by kernel_rfl) ?_
          refine RunsI.only [5, 6] [(5, .string (t66 ++ t59)), (6, .bool t60)] (by kernel_rfl) (by kernel_rfl) ?_
          exact hj73 (t66 ++ t59) w62 h (h64.pick [1, 2, 3] (by decide))
        · skip
          refine RunsI.fix 21 false hc61 (by kernel_rfl) (by kernel_rfl) ?_
          refine RunsI.cond false 11 (by kernel_rfl) ?_
          refine RunsI.go 1 [.c 12] (by kernel_rfl) ?_
          refine RunsI.only [5, 6] [(5, .string t59), (6, .bool t60)] (by kernel_rfl) (by kernel_rfl) ?_
          exact hj73 t59 w55 h (h57.pick [1, 2, 3] (by decide))
      clear hJ51
      rcases of_cond h with ⟨hc40, h⟩ | ⟨hc40, h⟩
      · skip
        refine RunsI.fix 89 true hc40 (by kernel_rfl) (by kernel_rfl) ?_
        refine RunsI.cond true 72 (by kernel_rfl) ?_
        refine RunsI.go 1 [.c 73, .c 74, .c 76] (by kernel_rfl) ?_
        refine RunsI.region (by kernel_rfl) ?_
        refine RegI.pure 3 [0, 4, 10, 11, 12, 13] [(0, .slice none 0 0), (4, .bool false), (10, .slice none 0 0), (11, .string (⟨#[]⟩ : ByteArray)), (12, .pointer (some ⟨b2, 0, none⟩)), (13, .int .i64 (IntKind.wrap .i64 ((IntKind.wrap .i64 (t31 - 1)) - 1)))] (by kernel_rfl) ?_
        refine RegI.done (by kernel_rfl) ?_
        refine RunsI.region (by kernel_rfl) ?_
        refine RegI.pure 1 [0, 4, 10, 11, 12, 13, 92] [(0, .slice none 0 0), (4, .bool false), (10, .slice none 0 0), (11, .string (⟨#[]⟩ : ByteArray)), (12, .pointer (some ⟨b2, 0, none⟩)), (13, .int .i64 (IntKind.wrap .i64 ((IntKind.wrap .i64 (t31 - 1)) - 1))), (92, .int .i64 (IntKind.wrap .i64 ((IntKind.wrap .i64 (t31 - 1)) - 1)))] (by kernel_rfl) ?_
        obtain ⟨hc41, h⟩ := of_cond0 h
        refine RegI.op (by kernel_rfl) (OpE.run 93 (by kernel_rfl) (run_idxArr (T := 122) (b := b2) (o := 0) (ix := (IntKind.wrap .i64 ((IntKind.wrap .i64 (t31 - 1)) - 1))) (len := 65) (s := 1) (by kernel_rfl) (by kernel_rfl) hc41) ?_)
        obtain ⟨hc42, h⟩ := of_cond0 h
        refine RegI.op (by kernel_rfl) (OpE.storeArr (en := (fun (x : Int) => ([.int .u8 x] : List Value))) 0 5 b2 1 (IntKind.wrap .i64 ((IntKind.wrap .i64 (t31 - 1)) - 1)) (.int .u8 45) (xs := (stD t30 (IntKind.wrap .i64 (t31 - 1)) (btD (⟨#[48, 49, 50, 51, 52, 53, 54, 55, 56, 57, 97, 98, 99, 100, 101, 102, 103, 104, 105, 106, 107, 108, 109, 110, 111, 112, 113, 114, 115, 116, 117, 118, 119, 120, 121, 122]⟩ : ByteArray) t29))) 45 (o := 0 + (Int.toNat (IntKind.wrap .i64 ((IntKind.wrap .i64 (t31 - 1)) - 1))) * 1) h38 (by kernel_rfl) (by kernel_rfl) rfl (fun _ => rfl) (by omega) (by kernel_rfl) (by kernel_rfl) hc42 ?_)
        intro w43 h44 hk45
        refine RegI.done (by kernel_rfl) ?_
        refine RunsI.only [0, 4, 10, 11, 12, 13] [(0, .slice none 0 0), (4, .bool false), (10, .slice none 0 0), (11, .string (⟨#[]⟩ : ByteArray)), (12, .pointer (some ⟨b2, 0, none⟩)), (13, .int .i64 (IntKind.wrap .i64 ((IntKind.wrap .i64 (t31 - 1)) - 1)))] (by kernel_rfl) (by kernel_rfl) ?_
        exact hj52 (stD (stD t30 (IntKind.wrap .i64 (t31 - 1)) (btD (⟨#[48, 49, 50, 51, 52, 53, 54, 55, 56, 57, 97, 98, 99, 100, 101, 102, 103, 104, 105, 106, 107, 108, 109, 110, 111, 112, 113, 114, 115, 116, 117, 118, 119, 120, 121, 122]⟩ : ByteArray) t29)) (IntKind.wrap .i64 ((IntKind.wrap .i64 (t31 - 1)) - 1)) 45) (IntKind.wrap .i64 ((IntKind.wrap .i64 (t31 - 1)) - 1)) w43 h (h44.pick [0, 1, 2, 3] (by decide))
      · skip
        refine RunsI.fix 89 false hc40 (by kernel_rfl) (by kernel_rfl) ?_
        refine RunsI.cond false 75 (by kernel_rfl) ?_
        refine RunsI.go 1 [.c 76] (by kernel_rfl) ?_
        refine RunsI.only [0, 4, 10, 11, 12, 13] [(0, .slice none 0 0), (4, .bool false), (10, .slice none 0 0), (11, .string (⟨#[]⟩ : ByteArray)), (12, .pointer (some ⟨b2, 0, none⟩)), (13, .int .i64 (IntKind.wrap .i64 (t31 - 1)))] (by kernel_rfl) (by kernel_rfl) ?_
        exact hj52 (stD t30 (IntKind.wrap .i64 (t31 - 1)) (btD (⟨#[48, 49, 50, 51, 52, 53, 54, 55, 56, 57, 97, 98, 99, 100, 101, 102, 103, 104, 105, 106, 107, 108, 109, 110, 111, 112, 113, 114, 115, 116, 117, 118, 119, 120, 121, 122]⟩ : ByteArray) t29)) (IntKind.wrap .i64 (t31 - 1)) w37 h (h38.pick [0, 1, 2, 3] (by decide))
  clear hJ11
  rcases of_cond h with ⟨hc6, h⟩ | ⟨hc6, h⟩
  · skip
    refine RunsI.fix 30 true hc6 (by kernel_rfl) (by kernel_rfl) ?_
    refine RunsI.cond true 16 (by kernel_rfl) ?_
    refine RunsI.region (by kernel_rfl) ?_
    refine RegI.pure 3 [0, 1, 2, 3, 4, 10, 11, 12, 13] [(0, .slice none 0 0), (1, .int .u64 (IntKind.wrap .u64 (0 - (IntKind.wrap .u64 p0)))), (2, .int .i64 16), (3, .bool (decide (p0 < 0))), (4, .bool false), (10, .slice none 0 0), (11, .string (⟨#[]⟩ : ByteArray)), (12, .pointer (some ⟨b2, 0, none⟩)), (13, .int .i64 65)] (by kernel_rfl) ?_
    refine RegI.done (by kernel_rfl) ?_
    refine RunsI.only [0, 1, 2, 3, 4, 10, 11, 12, 13] [(0, .slice none 0 0), (1, .int .u64 (IntKind.wrap .u64 (0 - (IntKind.wrap .u64 p0)))), (2, .int .i64 16), (3, .bool (decide (p0 < 0))), (4, .bool false), (10, .slice none 0 0), (11, .string (⟨#[]⟩ : ByteArray)), (12, .pointer (some ⟨b2, 0, none⟩)), (13, .int .i64 65)] (by kernel_rfl) (by kernel_rfl) ?_
    exact hj12 (IntKind.wrap .u64 (0 - (IntKind.wrap .u64 p0))) w1 h (h3.pick [3, 0, 1, 2] (by decide))
  · skip
    refine RunsI.fix 30 false hc6 (by kernel_rfl) (by kernel_rfl) ?_
    refine RunsI.cond false 17 (by kernel_rfl) ?_
    refine RunsI.go 1 [.c 18] (by kernel_rfl) ?_
    refine RunsI.only [0, 1, 2, 3, 4, 10, 11, 12, 13] [(0, .slice none 0 0), (1, .int .u64 (IntKind.wrap .u64 p0)), (2, .int .i64 16), (3, .bool (decide (p0 < 0))), (4, .bool false), (10, .slice none 0 0), (11, .string (⟨#[]⟩ : ByteArray)), (12, .pointer (some ⟨b2, 0, none⟩)), (13, .int .i64 65)] (by kernel_rfl) (by kernel_rfl) ?_
    exact hj12 (IntKind.wrap .u64 p0) w1 h (h3.pick [3, 0, 1, 2] (by decide))
end

/-! ### strconv.Itoa (function 51) -/
section
def strconv_Itoa_51.post (M0 : Nat → Prop) (w0 : World) (r : ByteArray) : Ending → World → Prop := fun e w => e = .returned (.string r) ∧ Below w0.heap.size w0 w
def strconv_Itoa_51.f (K : Nat) (p0 : Int) : Option ByteArray := cond (in64 p0) (some (⟨(Lib.itoa p0).toArray⟩ : ByteArray)) none
theorem strconv_Itoa_51_ok (K : Nat) (M0 : Nat → Prop) (w0 : World) (p0 : Int) (ho : ∀ b, M0 b → b < w0.heap.size) (hG2 : (gl 2 (tab_2.flatMap en_2)).ok w0 M0) {r : ByteArray} (h : strconv_Itoa_51.f K p0 = some r) : Calls Tryd.prog 51 #[.int .i64 p0] w0 (strconv_Itoa_51.post M0 w0 r) := by
  obtain ⟨hc, h⟩ := of_cond0 h
  obtain rfl := Option.some.inj h
  refine (Tryd.strconv_Itoa p0 (in64_l hc) (in64_r hc) w0 (tabIs_of_gl hG2 (by kernel_rfl) (by kernel_rfl))).mono ?_
  rintro e w' ⟨rfl, k, os, rfl⟩
  exact ⟨rfl, Lib.below_grow _ _ (Nat.le_refl _) _ _⟩
end

/-! ### strings.Join (function 52) -/
section
def strings_Join_52.post (M0 : Nat → Prop) (w0 : World) (r : ByteArray) : Ending → World → Prop := fun e w => e = .returned (.string r) ∧ Below w0.heap.size w0 w
def strings_Join_52.f (K : Nat) (p0 : List ByteArray) (p1 : ByteArray) : Option ByteArray := cond (joinR p0 p1) (some (⟨(Lib.join (p0.map (·.data.toList)) p1.data.toList).toArray⟩ : ByteArray)) none
theorem strings_Join_52_ok (K : Nat) (M0 : Nat → Prop) (w0 : World) (pA0 : Option Addr) (pc0 : Nat) (p0 : List ByteArray) (p1 : ByteArray) (ho : ∀ b, M0 b → b < w0.heap.size) (hs0 : Sl Rp.str w0 M0 (.slice pA0 p0.length pc0) p0) {r : ByteArray} (h : strings_Join_52.f K p0 p1 = some r) : Calls Tryd.prog 52 #[.slice pA0 p0.length pc0, .string p1] w0 (strings_Join_52.post M0 w0 r) := by
  obtain ⟨hc, h⟩ := of_cond0 h
  obtain rfl := Option.some.inj h
  obtain ⟨h1, h2⟩ := joinR_of hc
  by_cases h0 : 0 < p0.length
  · obtain ⟨b, o, rfl, hb, hcs, hcap⟩ := sl_strs hs0 h0
    refine (Tryd.strings_Join b o pc0 p0 p1 w0 hcs hb h1 hcap h2).mono ?_
    rintro e w' ⟨rfl, hb⟩
    exact ⟨rfl, hb⟩
  · obtain rfl : p0 = [] := List.eq_nil_of_length_eq_zero (by omega)
    refine (Tryd.strings_Join_none pA0 pc0 p1 w0).mono ?_
    rintro e w' ⟨rfl, rfl⟩
    exact ⟨rfl, Below.refl _ _⟩
end

/-! ### charabanc/regs.Show (function 36) -/
section
def regs_Show_36.post (M0 : Nat → Prop) (w0 : World) (r : ByteArray) : Ending → World → Prop := fun e w => e = .returned (.string r) ∧ Below w0.heap.size w0 w
def regs_Show_36.l0 (K : Nat) (p0_0 : Int) (p0_1 : Int) (p0_2 : Int) (p0_3 : Int) (p0_4 : Int) (p0_5 : Int) (p0_6 : Int) (p0_7 : Int) (p0_8 : Int) (p0_9 : Int) (p0_10 : Int) (p0_11 : Int) (p0_12 : Int) (p0_13 : Int) (p0_14 : Int) (p0_15 : Bool) (p0_16 : Bool) (p0_17 : Bool) (p0_18 : Bool) (p0_19 : Int) : Nat → (List ByteArray) → Int → Option (List ByteArray)
  | 0, _, _ => none
  | k + 1, t16, t18 => cond (decide (t18 < (([p0_0, p0_1, p0_2, p0_3, p0_8, p0_9, p0_10, p0_11] : List Int).length : Int))) (cond (inR t18 ([p0_0, p0_1, p0_2, p0_3, p0_8, p0_9, p0_10, p0_11] : List Int).length) (cond (inR t18 8) (cond (mayCat (rdD ([(⟨#[97, 102]⟩ : ByteArray), (⟨#[98, 99]⟩ : ByteArray), (⟨#[100, 101]⟩ : ByteArray), (⟨#[104, 108]⟩ : ByteArray), (⟨#[105, 120]⟩ : ByteArray), (⟨#[105, 121]⟩ : ByteArray), (⟨#[115, 112]⟩ : ByteArray), (⟨#[112, 99]⟩ : ByteArray)] : List ByteArray) t18).size (⟨#[61]⟩ : ByteArray).size) ((text_Hex_50.f K (IntKind.wrap .i64 (rdD ([p0_0, p0_1, p0_2, p0_3, p0_8, p0_9, p0_10, p0_11] : List Int) t18)) 4).bind fun t30 => cond (mayCat ((rdD ([(⟨#[97, 102]⟩ : ByteArray), (⟨#[98, 99]⟩ : ByteArray), (⟨#[100, 101]⟩ : ByteArray), (⟨#[104, 108]⟩ : ByteArray), (⟨#[105, 120]⟩ : ByteArray), (⟨#[105, 121]⟩ : ByteArray), (⟨#[115, 112]⟩ : ByteArray), (⟨#[112, 99]⟩ : ByteArray)] : List ByteArray) t18) ++ (⟨#[61]⟩ : ByteArray)).size t30.size) (cond (mayBe (t16.length + ([(((rdD ([(⟨#[97, 102]⟩ : ByteArray), (⟨#[98, 99]⟩ : ByteArray), (⟨#[100, 101]⟩ : ByteArray), (⟨#[104, 108]⟩ : ByteArray), (⟨#[105, 120]⟩ : ByteArray), (⟨#[105, 121]⟩ : ByteArray), (⟨#[115, 112]⟩ : ByteArray), (⟨#[112, 99]⟩ : ByteArray)] : List ByteArray) t18) ++ (⟨#[61]⟩ : ByteArray)) ++ t30)] : List ByteArray).length) 16) (regs_Show_36.l0 K p0_0 p0_1 p0_2 p0_3 p0_4 p0_5 p0_6 p0_7 p0_8 p0_9 p0_10 p0_11 p0_12 p0_13 p0_14 p0_15 p0_16 p0_17 p0_18 p0_19 k (t16 ++ ([(((rdD ([(⟨#[97, 102]⟩ : ByteArray), (⟨#[98, 99]⟩ : ByteArray), (⟨#[100, 101]⟩ : ByteArray), (⟨#[104, 108]⟩ : ByteArray), (⟨#[105, 120]⟩ : ByteArray), (⟨#[105, 121]⟩ : ByteArray), (⟨#[115, 112]⟩ : ByteArray), (⟨#[112, 99]⟩ : ByteArray)] : List ByteArray) t18) ++ (⟨#[61]⟩ : ByteArray)) ++ t30)] : List ByteArray)) (IntKind.wrap .i64 (t18 + 1))) none) none) none) none) none) (some t16)
set_option maxRecDepth 100000 in
theorem regs_Show_36.l0_ok (K : Nat) (M0 : Nat → Prop) (w0 : World) (p0_0 : Int) (p0_1 : Int) (p0_2 : Int) (p0_3 : Int) (p0_4 : Int) (p0_5 : Int) (p0_6 : Int) (p0_7 : Int) (p0_8 : Int) (p0_9 : Int) (p0_10 : Int) (p0_11 : Int) (p0_12 : Int) (p0_13 : Int) (p0_14 : Int) (p0_15 : Bool) (p0_16 : Bool) (p0_17 : Bool) (p0_18 : Bool) (p0_19 : Int) (b13 : Nat) (A17 : Option Addr) (R : Ending → World → Prop) (x : (List ByteArray)) (hk0 : ∀ (t59 : List ByteArray) (A57 : Option Addr) (c58 : Nat) (w1 : World), x = t59 → Holds M0 w0 w1 [box b13 46 [.int .u16 p0_0, .int .u16 p0_1, .int .u16 p0_2, .int .u16 p0_3, .int .u16 p0_4, .int .u16 p0_5, .int .u16 p0_6, .int .u16 p0_7, .int .u16 p0_8, .int .u16 p0_9, .int .u16 p0_10, .int .u16 p0_11, .int .u16 p0_12, .int .u8 p0_13, .int .u8 p0_14, .bool p0_15, .bool p0_16, .bool p0_17, .bool p0_18, .int .i64 p0_19], own Rp.str 9 (.slice A57 t59.length c58) t59, gl 2 (tab_2.flatMap en_2), gl 4 (tab_4.flatMap en_4), gl 5 (tab_5.flatMap en_5)] → RunsI F36 [.c 21] [(1, .pointer (some ⟨b13, 0, none⟩)), (3, .slice A57 t59.length c58)] w1 R) :
    ∀ (k : Nat) (t16 : List ByteArray) (t18 : Int) (A14 : Option Addr) (c15 : Nat) (w : World), regs_Show_36.l0 K p0_0 p0_1 p0_2 p0_3 p0_4 p0_5 p0_6 p0_7 p0_8 p0_9 p0_10 p0_11 p0_12 p0_13 p0_14 p0_15 p0_16 p0_17 p0_18 p0_19 k t16 t18 = some x → Holds M0 w0 w [box b13 46 [.int .u16 p0_0, .int .u16 p0_1, .int .u16 p0_2, .int .u16 p0_3, .int .u16 p0_4, .int .u16 p0_5, .int .u16 p0_6, .int .u16 p0_7, .int .u16 p0_8, .int .u16 p0_9, .int .u16 p0_10, .int .u16 p0_11, .int .u16 p0_12, .int .u8 p0_13, .int .u8 p0_14, .bool p0_15, .bool p0_16, .bool p0_17, .bool p0_18, .int .i64 p0_19], own Rp.str 9 (.slice A14 t16.length c15) t16, own (Rp.int .u16) 22 (.slice A17 (([p0_0, p0_1, p0_2, p0_3, p0_8, p0_9, p0_10, p0_11] : List Int).length) 8) ([p0_0, p0_1, p0_2, p0_3, p0_8, p0_9, p0_10, p0_11] : List Int), gl 2 (tab_2.flatMap en_2), gl 4 (tab_4.flatMap en_4), gl 5 (tab_5.flatMap en_5)] → RunsI F36 [.c 9, .lp 9, .blk 0, .c 21] [(1, .pointer (some ⟨b13, 0, none⟩)), (3, .slice A14 t16.length c15), (24, .slice A17 (([p0_0, p0_1, p0_2, p0_3, p0_8, p0_9, p0_10, p0_11] : List Int).length) 8), (25, .int .i64 (([p0_0, p0_1, p0_2, p0_3, p0_8, p0_9, p0_10, p0_11] : List Int).length : Int)), (26, .int .i64 t18)] w R := by
  intro k
  induction k with
  | zero => intro t16 t18 A14 c15 w h hH; exact absurd h (by simp [regs_Show_36.l0])
  | succ k ih =>
    intro t16 t18 A14 c15 w h hH
    rw [regs_Show_36.l0.eq_2] at h
    refine RunsI.go 1 [.c 10, .c 11, .lp 9, .blk 0, .c 21] (by kernel_rfl) ?_
    refine RunsI.region (by kernel_rfl) ?_
    refine RegI.pure 1 [1, 3, 24, 25, 26, 27] [(1, .pointer (some ⟨b13, 0, none⟩)), (3, .slice A14 t16.length c15), (24, .slice A17 (([p0_0, p0_1, p0_2, p0_3, p0_8, p0_9, p0_10, p0_11] : List Int).length) 8), (25, .int .i64 (([p0_0, p0_1, p0_2, p0_3, p0_8, p0_9, p0_10, p0_11] : List Int).length : Int)), (26, .int .i64 t18), (27, .bool (decide (t18 < (([p0_0, p0_1, p0_2, p0_3, p0_8, p0_9, p0_10, p0_11] : List Int).length : Int))))] (by kernel_rfl) ?_
    refine RegI.done (by kernel_rfl) ?_
    refine RunsI.go 1 [.c 12, .c 15, .lp 9, .blk 0, .c 21] (by kernel_rfl) ?_
    rcases of_cond h with ⟨hc19, h⟩ | ⟨hc19, h⟩
    · skip
      refine RunsI.fix 27 true hc19 (by kernel_rfl) (by kernel_rfl) ?_
      refine RunsI.cond true 13 (by kernel_rfl) ?_
      refine RunsI.go 1 [.c 15, .lp 9, .blk 0, .c 21] (by kernel_rfl) ?_
      refine RunsI.go 3 [.c 18, .c 19, .blk 1, .c 20, .lp 9, .blk 0, .c 21] (by kernel_rfl) ?_
      refine RunsI.region (by kernel_rfl) ?_
      refine RegI.pure 1 [1, 3, 24, 25, 26, 28] [(1, .pointer (some ⟨b13, 0, none⟩)), (3, .slice A14 t16.length c15), (24, .slice A17 (([p0_0, p0_1, p0_2, p0_3, p0_8, p0_9, p0_10, p0_11] : List Int).length) 8), (25, .int .i64 (([p0_0, p0_1, p0_2, p0_3, p0_8, p0_9, p0_10, p0_11] : List Int).length : Int)), (26, .int .i64 t18), (28, .int .i64 t18)] (by kernel_rfl) ?_
      obtain ⟨hc20, h⟩ := of_cond0 h
      refine RegI.op (by kernel_rfl) (OpE.idxOwnA 29 2 70 22 t18 hH (by kernel_rfl) rfl (by kernel_rfl) (by kernel_rfl) hc20 ?_)
      refine RegI.op (by kernel_rfl) (OpE.loadOwnA 30 2 22 22 t18 0 (o := (Int.toNat t18) * 1 + 0) hH (by kernel_rfl) rfl (by kernel_rfl) (by kernel_rfl) hc20 (fun cs21 hk22 => ?_))
      obtain rfl := hk22
      refine ⟨.int .u16 (rdD ([p0_0, p0_1, p0_2, p0_3, p0_8, p0_9, p0_10, p0_11] : List Int) t18), by kernel_rfl, ?_⟩
      refine RegI.pure 2 [1, 3, 4, 5, 24, 25, 26] [(1, .pointer (some ⟨b13, 0, none⟩)), (3, .slice A14 t16.length c15), (4, .int .i64 t18), (5, .int .u16 (rdD ([p0_0, p0_1, p0_2, p0_3, p0_8, p0_9, p0_10, p0_11] : List Int) t18)), (24, .slice A17 (([p0_0, p0_1, p0_2, p0_3, p0_8, p0_9, p0_10, p0_11] : List Int).length) 8), (25, .int .i64 (([p0_0, p0_1, p0_2, p0_3, p0_8, p0_9, p0_10, p0_11] : List Int).length : Int)), (26, .int .i64 t18)] (by kernel_rfl) ?_
      refine RegI.done (by kernel_rfl) ?_
      refine RunsI.any 12 (by kernel_rfl) (by kernel_rfl) (by kernel_rfl) (Kp (mines (pick [box b13 46 [.int .u16 p0_0, .int .u16 p0_1, .int .u16 p0_2, .int .u16 p0_3, .int .u16 p0_4, .int .u16 p0_5, .int .u16 p0_6, .int .u16 p0_7, .int .u16 p0_8, .int .u16 p0_9, .int .u16 p0_10, .int .u16 p0_11, .int .u16 p0_12, .int .u8 p0_13, .int .u8 p0_14, .bool p0_15, .bool p0_16, .bool p0_17, .bool p0_18, .int .i64 p0_19], own Rp.str 9 (.slice A14 t16.length c15) t16, own (Rp.int .u16) 22 (.slice A17 (([p0_0, p0_1, p0_2, p0_3, p0_8, p0_9, p0_10, p0_11] : List Int).length) 8) ([p0_0, p0_1, p0_2, p0_3, p0_8, p0_9, p0_10, p0_11] : List Int), gl 2 (tab_2.flatMap en_2), gl 4 (tab_4.flatMap en_4), gl 5 (tab_5.flatMap en_5)] [1])) (World.drew w)) ?_
      have h24 := hH.drew
      generalize World.drew w = w23 at h24 ⊢
      have hS25 := Kp.refl (mines (pick [box b13 46 [.int .u16 p0_0, .int .u16 p0_1, .int .u16 p0_2, .int .u16 p0_3, .int .u16 p0_4, .int .u16 p0_5, .int .u16 p0_6, .int .u16 p0_7, .int .u16 p0_8, .int .u16 p0_9, .int .u16 p0_10, .int .u16 p0_11, .int .u16 p0_12, .int .u8 p0_13, .int .u8 p0_14, .bool p0_15, .bool p0_16, .bool p0_17, .bool p0_18, .int .i64 p0_19], own Rp.str 9 (.slice A14 t16.length c15) t16, own (Rp.int .u16) 22 (.slice A17 (([p0_0, p0_1, p0_2, p0_3, p0_8, p0_9, p0_10, p0_11] : List Int).length) 8) ([p0_0, p0_1, p0_2, p0_3, p0_8, p0_9, p0_10, p0_11] : List Int), gl 2 (tab_2.flatMap en_2), gl 4 (tab_4.flatMap en_4), gl 5 (tab_5.flatMap en_5)] [1])) w23
      refine AnyE.pure 0 31 (.slice A14 t16.length c15) (by kernel_rfl) hS25 (fun _ => by kernel_rfl) ?_
      refine AnyE.pure 1 32 (.agg (List.flatMap (fun (x : ByteArray) => ([.string x] : List Value)) ([(⟨#[97, 102]⟩ : ByteArray), (⟨#[98, 99]⟩ : ByteArray), (⟨#[100, 101]⟩ : ByteArray), (⟨#[104, 108]⟩ : ByteArray), (⟨#[105, 120]⟩ : ByteArray), (⟨#[105, 121]⟩ : ByteArray), (⟨#[115, 112]⟩ : ByteArray), (⟨#[112, 99]⟩ : ByteArray)] : List ByteArray)).toArray) (by kernel_rfl) hS25 (fun _ => by kernel_rfl) ?_
      refine AnyE.pure 2 33 (.int .i64 t18) (by kernel_rfl) hS25 (fun _ => by kernel_rfl) ?_
      obtain ⟨hc27, h⟩ := of_cond0 h
      refine AnyE.run 3 34 (.string (rdD ([(⟨#[97, 102]⟩ : ByteArray), (⟨#[98, 99]⟩ : ByteArray), (⟨#[100, 101]⟩ : ByteArray), (⟨#[104, 108]⟩ : ByteArray), (⟨#[105, 120]⟩ : ByteArray), (⟨#[105, 121]⟩ : ByteArray), (⟨#[115, 112]⟩ : ByteArray), (⟨#[112, 99]⟩ : ByteArray)] : List ByteArray) t18)) (by kernel_rfl) hS25 (fun _ hk => run_indexTab (T0 := 71) (en := (fun (x : ByteArray) => ([.string x] : List Value))) (tab := ([(⟨#[97, 102]⟩ : ByteArray), (⟨#[98, 99]⟩ : ByteArray), (⟨#[100, 101]⟩ : ByteArray), (⟨#[104, 108]⟩ : ByteArray), (⟨#[105, 120]⟩ : ByteArray), (⟨#[105, 121]⟩ : ByteArray), (⟨#[115, 112]⟩ : ByteArray), (⟨#[112, 99]⟩ : ByteArray)] : List ByteArray)) (len := 8) (sz := 1) (j := t18) (v := .string (rdD ([(⟨#[97, 102]⟩ : ByteArray), (⟨#[98, 99]⟩ : ByteArray), (⟨#[100, 101]⟩ : ByteArray), (⟨#[104, 108]⟩ : ByteArray), (⟨#[105, 120]⟩ : ByteArray), (⟨#[105, 121]⟩ : ByteArray), (⟨#[115, 112]⟩ : ByteArray), (⟨#[112, 99]⟩ : ByteArray)] : List ByteArray) t18)) (fun _ => rfl) (by kernel_rfl) (by kernel_rfl) rfl hc27 (fun _ => by kernel_rfl)) ?_
      obtain ⟨hc28, h⟩ := of_cond0 h
      refine AnyE.run 4 35 (.string ((rdD ([(⟨#[97, 102]⟩ : ByteArray), (⟨#[98, 99]⟩ : ByteArray), (⟨#[100, 101]⟩ : ByteArray), (⟨#[104, 108]⟩ : ByteArray), (⟨#[105, 120]⟩ : ByteArray), (⟨#[105, 121]⟩ : ByteArray), (⟨#[115, 112]⟩ : ByteArray), (⟨#[112, 99]⟩ : ByteArray)] : List ByteArray) t18) ++ (⟨#[61]⟩ : ByteArray))) (by kernel_rfl) hS25 (fun _ hk => run_cat (a := (rdD ([(⟨#[97, 102]⟩ : ByteArray), (⟨#[98, 99]⟩ : ByteArray), (⟨#[100, 101]⟩ : ByteArray), (⟨#[104, 108]⟩ : ByteArray), (⟨#[105, 120]⟩ : ByteArray), (⟨#[105, 121]⟩ : ByteArray), (⟨#[115, 112]⟩ : ByteArray), (⟨#[112, 99]⟩ : ByteArray)] : List ByteArray) t18)) (b := (⟨#[61]⟩ : ByteArray)) (by kernel_rfl) hc28) ?_
      refine AnyE.pure 5 36 (.int .u16 (rdD ([p0_0, p0_1, p0_2, p0_3, p0_8, p0_9, p0_10, p0_11] : List Int) t18)) (by kernel_rfl) hS25 (fun _ => by kernel_rfl) ?_
      refine AnyE.pure 6 37 (.int .i64 (IntKind.wrap .i64 (rdD ([p0_0, p0_1, p0_2, p0_3, p0_8, p0_9, p0_10, p0_11] : List Int) t18))) (by kernel_rfl) hS25 (fun _ => by kernel_rfl) ?_
      obtain ⟨t30, hg29, h⟩ := of_bind h
      refine AnyE.call 7 38 (.string t30) 50 #[.int .i64 (IntKind.wrap .i64 (rdD ([p0_0, p0_1, p0_2, p0_3, p0_8, p0_9, p0_10, p0_11] : List Int) t18)), .int .i64 4] (by kernel_rfl) hS25 (fun _ => by kernel_rfl) (fun w hk => text_Hex_50_ok K (fun _ => False) w (IntKind.wrap .i64 (rdD ([p0_0, p0_1, p0_2, p0_3, p0_8, p0_9, p0_10, p0_11] : List Int) t18)) 4 (fun _ hf => hf.elim) ⟨(h24.atI [1] rfl hk 3 rfl rfl).1, fun hf => hf.elim, (h24.atI [1] rfl hk 3 rfl rfl).2.2⟩ ⟨(h24.atI [1] rfl hk 4 rfl rfl).1, fun hf => hf.elim, (h24.atI [1] rfl hk 4 rfl rfl).2.2⟩ ⟨(h24.atI [1] rfl hk 5 rfl rfl).1, fun hf => hf.elim, (h24.atI [1] rfl hk 5 rfl rfl).2.2⟩ hg29) ?_
      obtain ⟨hc31, h⟩ := of_cond0 h
      refine AnyE.run 8 39 (.string (((rdD ([(⟨#[97, 102]⟩ : ByteArray), (⟨#[98, 99]⟩ : ByteArray), (⟨#[100, 101]⟩ : ByteArray), (⟨#[104, 108]⟩ : ByteArray), (⟨#[105, 120]⟩ : ByteArray), (⟨#[105, 121]⟩ : ByteArray), (⟨#[115, 112]⟩ : ByteArray), (⟨#[112, 99]⟩ : ByteArray)] : List ByteArray) t18) ++ (⟨#[61]⟩ : ByteArray)) ++ t30)) (by kernel_rfl) hS25 (fun _ hk => run_cat (a := ((rdD ([(⟨#[97, 102]⟩ : ByteArray), (⟨#[98, 99]⟩ : ByteArray), (⟨#[100, 101]⟩ : ByteArray), (⟨#[104, 108]⟩ : ByteArray), (⟨#[105, 120]⟩ : ByteArray), (⟨#[105, 121]⟩ : ByteArray), (⟨#[115, 112]⟩ : ByteArray), (⟨#[112, 99]⟩ : ByteArray)] : List ByteArray) t18) ++ (⟨#[61]⟩ : ByteArray))) (b := t30) (by kernel_rfl) hc31) ?_
      refine AnyE.one 9 (by kernel_rfl) (fun w32 hu33 => ?_)
      have h34 := h24.call hu33
      have hS35 := hS25.up hu33
      refine OpE.lit 40 9 [.string (((rdD ([(⟨#[97, 102]⟩ : ByteArray), (⟨#[98, 99]⟩ : ByteArray), (⟨#[100, 101]⟩ : ByteArray), (⟨#[104, 108]⟩ : ByteArray), (⟨#[105, 120]⟩ : ByteArray), (⟨#[105, 121]⟩ : ByteArray), (⟨#[115, 112]⟩ : ByteArray), (⟨#[112, 99]⟩ : ByteArray)] : List ByteArray) t18) ++ (⟨#[61]⟩ : ByteArray)) ++ t30)] 1 h34 (by kernel_rfl) (by kernel_rfl) ?_
      intro w36 b37 h38 hb39 hn40
      have hn41 := Nat.le_trans hS35.1 hn40
      have hS42 := hS35.up hb39
      refine ⟨hS42, ?_⟩
      refine AnyE.one 10 (by kernel_rfl) (fun w43 hu44 => ?_)
      have h45 := h38.call hu44
      have hS46 := hS42.up hu44
      obtain ⟨hc47, h⟩ := of_cond0 h
      refine OpE.appendBox 41 1 6 42 9 16 ([(((rdD ([(⟨#[97, 102]⟩ : ByteArray), (⟨#[98, 99]⟩ : ByteArray), (⟨#[100, 101]⟩ : ByteArray), (⟨#[104, 108]⟩ : ByteArray), (⟨#[105, 120]⟩ : ByteArray), (⟨#[105, 121]⟩ : ByteArray), (⟨#[115, 112]⟩ : ByteArray), (⟨#[112, 99]⟩ : ByteArray)] : List ByteArray) t18) ++ (⟨#[61]⟩ : ByteArray)) ++ t30)] : List ByteArray) 0 h45 (by kernel_rfl) (by kernel_rfl) (by kernel_rfl) rfl rfl rfl (cells_str _ _ _) hc47 ?_
      intro w48 A49 c50 h51 hk52
      have hS53 := hS46.trans hk52 (Kp.turned h24 [1] rfl 1 rfl rfl)
      refine ⟨hS53, ?_⟩
      refine AnyE.pure 11 3 (.slice A49 ((t16 ++ ([(((rdD ([(⟨#[97, 102]⟩ : ByteArray), (⟨#[98, 99]⟩ : ByteArray), (⟨#[100, 101]⟩ : ByteArray), (⟨#[104, 108]⟩ : ByteArray), (⟨#[105, 120]⟩ : ByteArray), (⟨#[105, 121]⟩ : ByteArray), (⟨#[115, 112]⟩ : ByteArray), (⟨#[112, 99]⟩ : ByteArray)] : List ByteArray) t18) ++ (⟨#[61]⟩ : ByteArray)) ++ t30)] : List ByteArray)).length) c50) (by kernel_rfl) hS53 (fun _ => by kernel_rfl) ?_
      refine AnyE.done (by kernel_rfl) (fun w54 hu55 => ?_)
      have h56 := h51.call hu55
      refine RunsI.only [1, 3, 24, 25, 26] [(1, .pointer (some ⟨b13, 0, none⟩)), (3, .slice A49 ((t16 ++ ([(((rdD ([(⟨#[97, 102]⟩ : ByteArray), (⟨#[98, 99]⟩ : ByteArray), (⟨#[100, 101]⟩ : ByteArray), (⟨#[104, 108]⟩ : ByteArray), (⟨#[105, 120]⟩ : ByteArray), (⟨#[105, 121]⟩ : ByteArray), (⟨#[115, 112]⟩ : ByteArray), (⟨#[112, 99]⟩ : ByteArray)] : List ByteArray) t18) ++ (⟨#[61]⟩ : ByteArray)) ++ t30)] : List ByteArray)).length) c50), (24, .slice A17 (([p0_0, p0_1, p0_2, p0_3, p0_8, p0_9, p0_10, p0_11] : List Int).length) 8), (25, .int .i64 (([p0_0, p0_1, p0_2, p0_3, p0_8, p0_9, p0_10, p0_11] : List Int).length : Int)), (26, .int .i64 t18)] (by kernel_rfl) (by kernel_rfl) ?_
      refine RunsI.go 1 [.c 20, .lp 9, .blk 0, .c 21] (by kernel_rfl) ?_
      refine RunsI.region (by kernel_rfl) ?_
      refine RegI.pure 2 [1, 3, 24, 25, 26] [(1, .pointer (some ⟨b13, 0, none⟩)), (3, .slice A49 ((t16 ++ ([(((rdD ([(⟨#[97, 102]⟩ : ByteArray), (⟨#[98, 99]⟩ : ByteArray), (⟨#[100, 101]⟩ : ByteArray), (⟨#[104, 108]⟩ : ByteArray), (⟨#[105, 120]⟩ : ByteArray), (⟨#[105, 121]⟩ : ByteArray), (⟨#[115, 112]⟩ : ByteArray), (⟨#[112, 99]⟩ : ByteArray)] : List ByteArray) t18) ++ (⟨#[61]⟩ : ByteArray)) ++ t30)] : List ByteArray)).length) c50), (24, .slice A17 (([p0_0, p0_1, p0_2, p0_3, p0_8, p0_9, p0_10, p0_11] : List Int).length) 8), (25, .int .i64 (([p0_0, p0_1, p0_2, p0_3, p0_8, p0_9, p0_10, p0_11] : List Int).length : Int)), (26, .int .i64 (IntKind.wrap .i64 (t18 + 1)))] (by kernel_rfl) ?_
      refine RegI.done (by kernel_rfl) ?_
      refine RunsI.go 1 [.c 9, .lp 9, .blk 0, .c 21] (by kernel_rfl) ?_
      refine RunsI.only [1, 3, 24, 25, 26] [(1, .pointer (some ⟨b13, 0, none⟩)), (3, .slice A49 ((t16 ++ ([(((rdD ([(⟨#[97, 102]⟩ : ByteArray), (⟨#[98, 99]⟩ : ByteArray), (⟨#[100, 101]⟩ : ByteArray), (⟨#[104, 108]⟩ : ByteArray), (⟨#[105, 120]⟩ : ByteArray), (⟨#[105, 121]⟩ : ByteArray), (⟨#[115, 112]⟩ : ByteArray), (⟨#[112, 99]⟩ : ByteArray)] : List ByteArray) t18) ++ (⟨#[61]⟩ : ByteArray)) ++ t30)] : List ByteArray)).length) c50), (24, .slice A17 (([p0_0, p0_1, p0_2, p0_3, p0_8, p0_9, p0_10, p0_11] : List Int).length) 8), (25, .int .i64 (([p0_0, p0_1, p0_2, p0_3, p0_8, p0_9, p0_10, p0_11] : List Int).length : Int)), (26, .int .i64 (IntKind.wrap .i64 (t18 + 1)))] (by kernel_rfl) (by kernel_rfl) ?_
      exact ih (t16 ++ ([(((rdD ([(⟨#[97, 102]⟩ : ByteArray), (⟨#[98, 99]⟩ : ByteArray), (⟨#[100, 101]⟩ : ByteArray), (⟨#[104, 108]⟩ : ByteArray), (⟨#[105, 120]⟩ : ByteArray), (⟨#[105, 121]⟩ : ByteArray), (⟨#[115, 112]⟩ : ByteArray), (⟨#[112, 99]⟩ : ByteArray)] : List ByteArray) t18) ++ (⟨#[61]⟩ : ByteArray)) ++ t30)] : List ByteArray)) (IntKind.wrap .i64 (t18 + 1)) A49 c50 w54 h (h56.pick [0, 1, 2, 3, 4, 5] (by decide))
    · skip
      refine RunsI.fix 27 false hc19 (by kernel_rfl) (by kernel_rfl) ?_
      refine RunsI.cond false 14 (by kernel_rfl) ?_
      refine RunsI.go 1 [.c 21] (by kernel_rfl) ?_
      refine RunsI.only [1, 3] [(1, .pointer (some ⟨b13, 0, none⟩)), (3, .slice A14 t16.length c15)] (by kernel_rfl) (by kernel_rfl) ?_
      exact hk0 t16 A14 c15 w (Option.some.inj h).symm (hH.pick [0, 1, 3, 4, 5] (by decide))
def regs_Show_36.l1 (K : Nat) (p0_0 : Int) (p0_1 : Int) (p0_2 : Int) (p0_3 : Int) (p0_4 : Int) (p0_5 : Int) (p0_6 : Int) (p0_7 : Int) (p0_8 : Int) (p0_9 : Int) (p0_10 : Int) (p0_11 : Int) (p0_12 : Int) (p0_13 : Int) (p0_14 : Int) (p0_15 : Bool) (p0_16 : Bool) (p0_17 : Bool) (p0_18 : Bool) (p0_19 : Int) : Nat → (List ByteArray) → Int → Option (List ByteArray)
  | 0, _, _ => none
  | k + 1, t113, t115 => cond (decide (t115 < (([(p0_15, (⟨#[105, 102, 102, 49]⟩ : ByteArray)), (p0_16, (⟨#[105, 102, 102, 50]⟩ : ByteArray)), (p0_17, (⟨#[104, 97, 108, 116]⟩ : ByteArray))] : List (Bool × ByteArray)).length : Int))) (cond (inR t115 ([(p0_15, (⟨#[105, 102, 102, 49]⟩ : ByteArray)), (p0_16, (⟨#[105, 102, 102, 50]⟩ : ByteArray)), (p0_17, (⟨#[104, 97, 108, 116]⟩ : ByteArray))] : List (Bool × ByteArray)).length) (cond ((rdD ([(p0_15, (⟨#[105, 102, 102, 49]⟩ : ByteArray)), (p0_16, (⟨#[105, 102, 102, 50]⟩ : ByteArray)), (p0_17, (⟨#[104, 97, 108, 116]⟩ : ByteArray))] : List (Bool × ByteArray)) t115).1) (cond (mayBe (t113.length + ([(rdD ([(p0_15, (⟨#[105, 102, 102, 49]⟩ : ByteArray)), (p0_16, (⟨#[105, 102, 102, 50]⟩ : ByteArray)), (p0_17, (⟨#[104, 97, 108, 116]⟩ : ByteArray))] : List (Bool × ByteArray)) t115).2] : List ByteArray).length) 16) (regs_Show_36.l1 K p0_0 p0_1 p0_2 p0_3 p0_4 p0_5 p0_6 p0_7 p0_8 p0_9 p0_10 p0_11 p0_12 p0_13 p0_14 p0_15 p0_16 p0_17 p0_18 p0_19 k (t113 ++ ([(rdD ([(p0_15, (⟨#[105, 102, 102, 49]⟩ : ByteArray)), (p0_16, (⟨#[105, 102, 102, 50]⟩ : ByteArray)), (p0_17, (⟨#[104, 97, 108, 116]⟩ : ByteArray))] : List (Bool × ByteArray)) t115).2] : List ByteArray)) (IntKind.wrap .i64 (t115 + 1))) none) (regs_Show_36.l1 K p0_0 p0_1 p0_2 p0_3 p0_4 p0_5 p0_6 p0_7 p0_8 p0_9 p0_10 p0_11 p0_12 p0_13 p0_14 p0_15 p0_16 p0_17 p0_18 p0_19 k t113 (IntKind.wrap .i64 (t115 + 1)))) none) (some t113)
set_option maxRecDepth 100000 in
theorem regs_Show_36.l1_ok (K : Nat) (M0 : Nat → Prop) (w0 : World) (p0_0 : Int) (p0_1 : Int) (p0_2 : Int) (p0_3 : Int) (p0_4 : Int) (p0_5 : Int) (p0_6 : Int) (p0_7 : Int) (p0_8 : Int) (p0_9 : Int) (p0_10 : Int) (p0_11 : Int) (p0_12 : Int) (p0_13 : Int) (p0_14 : Int) (p0_15 : Bool) (p0_16 : Bool) (p0_17 : Bool) (p0_18 : Bool) (p0_19 : Int) (A114 : Option Addr) (R : Ending → World → Prop) (x : (List ByteArray)) (hk0 : ∀ (t142 : List ByteArray) (A140 : Option Addr) (c141 : Nat) (w1 : World), x = t142 → Holds M0 w0 w1 [own Rp.str 9 (.slice A140 t142.length c141) t142, gl 2 (tab_2.flatMap en_2), gl 4 (tab_4.flatMap en_4), gl 5 (tab_5.flatMap en_5)] → RunsI F36 [.c 44] [(3, .slice A140 t142.length c141)] w1 R) :
    ∀ (k : Nat) (t113 : List ByteArray) (t115 : Int) (A111 : Option Addr) (c112 : Nat) (w : World), regs_Show_36.l1 K p0_0 p0_1 p0_2 p0_3 p0_4 p0_5 p0_6 p0_7 p0_8 p0_9 p0_10 p0_11 p0_12 p0_13 p0_14 p0_15 p0_16 p0_17 p0_18 p0_19 k t113 t115 = some x → Holds M0 w0 w [own Rp.str 9 (.slice A111 t113.length c112) t113, own (Rp.pair Rp.bool Rp.str) 74 (.slice A114 (([(p0_15, (⟨#[105, 102, 102, 49]⟩ : ByteArray)), (p0_16, (⟨#[105, 102, 102, 50]⟩ : ByteArray)), (p0_17, (⟨#[104, 97, 108, 116]⟩ : ByteArray))] : List (Bool × ByteArray)).length) 3) ([(p0_15, (⟨#[105, 102, 102, 49]⟩ : ByteArray)), (p0_16, (⟨#[105, 102, 102, 50]⟩ : ByteArray)), (p0_17, (⟨#[104, 97, 108, 116]⟩ : ByteArray))] : List (Bool × ByteArray)), gl 2 (tab_2.flatMap en_2), gl 4 (tab_4.flatMap en_4), gl 5 (tab_5.flatMap en_5)] → RunsI F36 [.c 28, .lp 28, .blk 2, .c 44] [(3, .slice A111 t113.length c112), (69, .slice A114 (([(p0_15, (⟨#[105, 102, 102, 49]⟩ : ByteArray)), (p0_16, (⟨#[105, 102, 102, 50]⟩ : ByteArray)), (p0_17, (⟨#[104, 97, 108, 116]⟩ : ByteArray))] : List (Bool × ByteArray)).length) 3), (70, .int .i64 (([(p0_15, (⟨#[105, 102, 102, 49]⟩ : ByteArray)), (p0_16, (⟨#[105, 102, 102, 50]⟩ : ByteArray)), (p0_17, (⟨#[104, 97, 108, 116]⟩ : ByteArray))] : List (Bool × ByteArray)).length : Int)), (71, .int .i64 t115)] w R := by
  intro k
  induction k with
  | zero => intro t113 t115 A111 c112 w h hH; exact absurd h (by simp [regs_Show_36.l1])
  | succ k ih =>
    intro t113 t115 A111 c112 w h hH
    rw [regs_Show_36.l1.eq_2] at h
    refine RunsI.go 1 [.c 29, .c 30, .lp 28, .blk 2, .c 44] (by kernel_rfl) ?_
    refine RunsI.region (by kernel_rfl) ?_
    refine RegI.pure 1 [3, 69, 70, 71, 72] [(3, .slice A111 t113.length c112), (69, .slice A114 (([(p0_15, (⟨#[105, 102, 102, 49]⟩ : ByteArray)), (p0_16, (⟨#[105, 102, 102, 50]⟩ : ByteArray)), (p0_17, (⟨#[104, 97, 108, 116]⟩ : ByteArray))] : List (Bool × ByteArray)).length) 3), (70, .int .i64 (([(p0_15, (⟨#[105, 102, 102, 49]⟩ : ByteArray)), (p0_16, (⟨#[105, 102, 102, 50]⟩ : ByteArray)), (p0_17, (⟨#[104, 97, 108, 116]⟩ : ByteArray))] : List (Bool × ByteArray)).length : Int)), (71, .int .i64 t115), (72, .bool (decide (t115 < (([(p0_15, (⟨#[105, 102, 102, 49]⟩ : ByteArray)), (p0_16, (⟨#[105, 102, 102, 50]⟩ : ByteArray)), (p0_17, (⟨#[104, 97, 108, 116]⟩ : ByteArray))] : List (Bool × ByteArray)).length : Int))))] (by kernel_rfl) ?_
    refine RegI.done (by kernel_rfl) ?_
    refine RunsI.go 1 [.c 31, .c 34, .lp 28, .blk 2, .c 44] (by kernel_rfl) ?_
    rcases of_cond h with ⟨hc116, h⟩ | ⟨hc116, h⟩
    · skip
      refine RunsI.fix 72 true hc116 (by kernel_rfl) (by kernel_rfl) ?_
      refine RunsI.cond true 32 (by kernel_rfl) ?_
      refine RunsI.go 1 [.c 34, .lp 28, .blk 2, .c 44] (by kernel_rfl) ?_
      refine RunsI.go 3 [.c 37, .c 38, .blk 3, .c 43, .lp 28, .blk 2, .c 44] (by kernel_rfl) ?_
      refine RunsI.region (by kernel_rfl) ?_
      obtain ⟨hc117, h⟩ := of_cond0 h
      refine RegI.op (by kernel_rfl) (OpE.idxOwnA 73 1 75 74 t115 hH (by kernel_rfl) rfl (by kernel_rfl) (by kernel_rfl) hc117 ?_)
      refine RegI.op (by kernel_rfl) (OpE.loadOwnA 74 1 74 74 t115 0 (o := (Int.toNat t115) * 2 + 0) hH (by kernel_rfl) rfl (by kernel_rfl) (by kernel_rfl) hc117 (fun cs118 hk119 => ?_))
      obtain ⟨_, _, rfl, rfl, rfl⟩ := hk119
      refine ⟨.agg #[.bool ((rdD ([(p0_15, (⟨#[105, 102, 102, 49]⟩ : ByteArray)), (p0_16, (⟨#[105, 102, 102, 50]⟩ : ByteArray)), (p0_17, (⟨#[104, 97, 108, 116]⟩ : ByteArray))] : List (Bool × ByteArray)) t115).1), .string ((rdD ([(p0_15, (⟨#[105, 102, 102, 49]⟩ : ByteArray)), (p0_16, (⟨#[105, 102, 102, 50]⟩ : ByteArray)), (p0_17, (⟨#[104, 97, 108, 116]⟩ : ByteArray))] : List (Bool × ByteArray)) t115).2)], by kernel_rfl, ?_⟩
      refine RegI.op (by kernel_rfl) (OpE.box 7 74 [.bool false, .string ByteArray.empty] hH (by kernel_rfl) (by kernel_rfl) ?_)
      intro w120 b121 h122 hb123 hn124
      refine RegI.op (by kernel_rfl) (OpE.storeBox 5 74 b121 0 (.agg #[.bool ((rdD ([(p0_15, (⟨#[105, 102, 102, 49]⟩ : ByteArray)), (p0_16, (⟨#[105, 102, 102, 50]⟩ : ByteArray)), (p0_17, (⟨#[104, 97, 108, 116]⟩ : ByteArray))] : List (Bool × ByteArray)) t115).1), .string ((rdD ([(p0_15, (⟨#[105, 102, 102, 49]⟩ : ByteArray)), (p0_16, (⟨#[105, 102, 102, 50]⟩ : ByteArray)), (p0_17, (⟨#[104, 97, 108, 116]⟩ : ByteArray))] : List (Bool × ByteArray)) t115).2)]) [.bool ((rdD ([(p0_15, (⟨#[105, 102, 102, 49]⟩ : ByteArray)), (p0_16, (⟨#[105, 102, 102, 50]⟩ : ByteArray)), (p0_17, (⟨#[104, 97, 108, 116]⟩ : ByteArray))] : List (Bool × ByteArray)) t115).1), .string ((rdD ([(p0_15, (⟨#[105, 102, 102, 49]⟩ : ByteArray)), (p0_16, (⟨#[105, 102, 102, 50]⟩ : ByteArray)), (p0_17, (⟨#[104, 97, 108, 116]⟩ : ByteArray))] : List (Bool × ByteArray)) t115).2)] h122 (by kernel_rfl) (by kernel_rfl) rfl (by kernel_rfl) (by kernel_rfl) (by kernel_rfl) ?_)
      intro w125 h126 hk127
      refine RegI.done (by kernel_rfl) ?_
      refine RunsI.go 1 [.c 39, .c 40, .blk 3, .c 43, .lp 28, .blk 2, .c 44] (by kernel_rfl) ?_
      refine RunsI.region (by kernel_rfl) ?_
      refine RegI.pure 1 [3, 7, 69, 70, 71, 75] [(3, .slice A111 t113.length c112), (7, .pointer (some ⟨b121, 0, none⟩)), (69, .slice A114 (([(p0_15, (⟨#[105, 102, 102, 49]⟩ : ByteArray)), (p0_16, (⟨#[105, 102, 102, 50]⟩ : ByteArray)), (p0_17, (⟨#[104, 97, 108, 116]⟩ : ByteArray))] : List (Bool × ByteArray)).length) 3), (70, .int .i64 (([(p0_15, (⟨#[105, 102, 102, 49]⟩ : ByteArray)), (p0_16, (⟨#[105, 102, 102, 50]⟩ : ByteArray)), (p0_17, (⟨#[104, 97, 108, 116]⟩ : ByteArray))] : List (Bool × ByteArray)).length : Int)), (71, .int .i64 t115), (75, .pointer (some ⟨b121, 0, none⟩))] (by kernel_rfl) ?_
      refine RegI.op (by kernel_rfl) (OpE.loadBox 76 5 4 b121 0 (.bool ((rdD ([(p0_15, (⟨#[105, 102, 102, 49]⟩ : ByteArray)), (p0_16, (⟨#[105, 102, 102, 50]⟩ : ByteArray)), (p0_17, (⟨#[104, 97, 108, 116]⟩ : ByteArray))] : List (Bool × ByteArray)) t115).1)) h126 (by kernel_rfl) (by kernel_rfl) rfl (by kernel_rfl) ?_)
      refine RegI.done (by kernel_rfl) ?_
      rcases of_cond h with ⟨hc128, h⟩ | ⟨hc128, h⟩
      · skip
        refine RunsI.fix 76 true hc128 (by kernel_rfl) (by kernel_rfl) ?_
        refine RunsI.cond true 41 (by kernel_rfl) ?_
        refine RunsI.region (by kernel_rfl) ?_
        refine RegI.pure 2 [69, 70, 71, 77, 78] [(69, .slice A114 (([(p0_15, (⟨#[105, 102, 102, 49]⟩ : ByteArray)), (p0_16, (⟨#[105, 102, 102, 50]⟩ : ByteArray)), (p0_17, (⟨#[104, 97, 108, 116]⟩ : ByteArray))] : List (Bool × ByteArray)).length) 3), (70, .int .i64 (([(p0_15, (⟨#[105, 102, 102, 49]⟩ : ByteArray)), (p0_16, (⟨#[105, 102, 102, 50]⟩ : ByteArray)), (p0_17, (⟨#[104, 97, 108, 116]⟩ : ByteArray))] : List (Bool × ByteArray)).length : Int)), (71, .int .i64 t115), (77, .slice A111 t113.length c112), (78, .pointer (some ⟨b121, 1, none⟩))] (by kernel_rfl) ?_
        refine RegI.op (by kernel_rfl) (OpE.loadBox 79 5 9 b121 1 (.string ((rdD ([(p0_15, (⟨#[105, 102, 102, 49]⟩ : ByteArray)), (p0_16, (⟨#[105, 102, 102, 50]⟩ : ByteArray)), (p0_17, (⟨#[104, 97, 108, 116]⟩ : ByteArray))] : List (Bool × ByteArray)) t115).2)) h126 (by kernel_rfl) (by kernel_rfl) rfl (by kernel_rfl) ?_)
        refine RegI.op (by kernel_rfl) (OpE.lit 80 9 [.string ((rdD ([(p0_15, (⟨#[105, 102, 102, 49]⟩ : ByteArray)), (p0_16, (⟨#[105, 102, 102, 50]⟩ : ByteArray)), (p0_17, (⟨#[104, 97, 108, 116]⟩ : ByteArray))] : List (Bool × ByteArray)) t115).2)] 1 h126 (by kernel_rfl) (by kernel_rfl) ?_)
        intro w129 b130 h131 hb132 hn133
        obtain ⟨hc134, h⟩ := of_cond0 h
        refine RegI.op (by kernel_rfl) (OpE.appendBox 81 0 6 42 9 16 ([(rdD ([(p0_15, (⟨#[105, 102, 102, 49]⟩ : ByteArray)), (p0_16, (⟨#[105, 102, 102, 50]⟩ : ByteArray)), (p0_17, (⟨#[104, 97, 108, 116]⟩ : ByteArray))] : List (Bool × ByteArray)) t115).2] : List ByteArray) 0 h131 (by kernel_rfl) (by kernel_rfl) (by kernel_rfl) rfl rfl rfl (cells_str _ _ _) hc134 ?_)
        intro w135 A136 c137 h138 hk139
        refine RegI.pure 1 [3, 69, 70, 71] [(3, .slice A136 ((t113 ++ ([(rdD ([(p0_15, (⟨#[105, 102, 102, 49]⟩ : ByteArray)), (p0_16, (⟨#[105, 102, 102, 50]⟩ : ByteArray)), (p0_17, (⟨#[104, 97, 108, 116]⟩ : ByteArray))] : List (Bool × ByteArray)) t115).2] : List ByteArray)).length) c137), (69, .slice A114 (([(p0_15, (⟨#[105, 102, 102, 49]⟩ : ByteArray)), (p0_16, (⟨#[105, 102, 102, 50]⟩ : ByteArray)), (p0_17, (⟨#[104, 97, 108, 116]⟩ : ByteArray))] : List (Bool × ByteArray)).length) 3), (70, .int .i64 (([(p0_15, (⟨#[105, 102, 102, 49]⟩ : ByteArray)), (p0_16, (⟨#[105, 102, 102, 50]⟩ : ByteArray)), (p0_17, (⟨#[104, 97, 108, 116]⟩ : ByteArray))] : List (Bool × ByteArray)).length : Int)), (71, .int .i64 t115)] (by kernel_rfl) ?_
        refine RegI.done (by kernel_rfl) ?_
        refine RunsI.go 1 [.c 43, .lp 28, .blk 2, .c 44] (by kernel_rfl) ?_
        refine RunsI.region (by kernel_rfl) ?_
        refine RegI.pure 2 [3, 69, 70, 71] [(3, .slice A136 ((t113 ++ ([(rdD ([(p0_15, (⟨#[105, 102, 102, 49]⟩ : ByteArray)), (p0_16, (⟨#[105, 102, 102, 50]⟩ : ByteArray)), (p0_17, (⟨#[104, 97, 108, 116]⟩ : ByteArray))] : List (Bool × ByteArray)) t115).2] : List ByteArray)).length) c137), (69, .slice A114 (([(p0_15, (⟨#[105, 102, 102, 49]⟩ : ByteArray)), (p0_16, (⟨#[105, 102, 102, 50]⟩ : ByteArray)), (p0_17, (⟨#[104, 97, 108, 116]⟩ : ByteArray))] : List (Bool × ByteArray)).length) 3), (70, .int .i64 (([(p0_15, (⟨#[105, 102, 102, 49]⟩ : ByteArray)), (p0_16, (⟨#[105, 102, 102, 50]⟩ : ByteArray)), (p0_17, (⟨#[104, 97, 108, 116]⟩ : ByteArray))] : List (Bool × ByteArray)).length : Int)), (71, .int .i64 (IntKind.wrap .i64 (t115 + 1)))] (by kernel_rfl) ?_
        refine RegI.done (by kernel_rfl) ?_
        refine RunsI.go 1 [.c 28, .lp 28, .blk 2, .c 44] (by kernel_rfl) ?_
        refine RunsI.only [3, 69, 70, 71] [(3, .slice A136 ((t113 ++ ([(rdD ([(p0_15, (⟨#[105, 102, 102, 49]⟩ : ByteArray)), (p0_16, (⟨#[105, 102, 102, 50]⟩ : ByteArray)), (p0_17, (⟨#[104, 97, 108, 116]⟩ : ByteArray))] : List (Bool × ByteArray)) t115).2] : List ByteArray)).length) c137), (69, .slice A114 (([(p0_15, (⟨#[105, 102, 102, 49]⟩ : ByteArray)), (p0_16, (⟨#[105, 102, 102, 50]⟩ : ByteArray)), (p0_17, (⟨#[104, 97, 108, 116]⟩ : ByteArray))] : List (Bool × ByteArray)).length) 3), (70, .int .i64 (([(p0_15, (⟨#[105, 102, 102, 49]⟩ : ByteArray)), (p0_16, (⟨#[105, 102, 102, 50]⟩ : ByteArray)), (p0_17, (⟨#[104, 97, 108, 116]⟩ : ByteArray))] : List (Bool × ByteArray)).length : Int)), (71, .int .i64 (IntKind.wrap .i64 (t115 + 1)))] (by kernel_rfl) (by kernel_rfl) ?_
        exact ih (t113 ++ ([(rdD ([(p0_15, (⟨#[105, 102, 102, 49]⟩ : ByteArray)), (p0_16, (⟨#[105, 102, 102, 50]⟩ : ByteArray)), (p0_17, (⟨#[104, 97, 108, 116]⟩ : ByteArray))] : List (Bool × ByteArray)) t115).2] : List ByteArray)) (IntKind.wrap .i64 (t115 + 1)) A136 c137 w135 h (h138.pick [0, 1, 2, 3, 4] (by decide))
      · skip
        refine RunsI.fix 76 false hc128 (by kernel_rfl) (by kernel_rfl) ?_
        refine RunsI.cond false 42 (by kernel_rfl) ?_
        refine RunsI.go 1 [.blk 3, .c 43, .lp 28, .blk 2, .c 44] (by kernel_rfl) ?_
        refine RunsI.go 1 [.c 43, .lp 28, .blk 2, .c 44] (by kernel_rfl) ?_
        refine RunsI.region (by kernel_rfl) ?_
        refine RegI.pure 2 [3, 69, 70, 71] [(3, .slice A111 t113.length c112), (69, .slice A114 (([(p0_15, (⟨#[105, 102, 102, 49]⟩ : ByteArray)), (p0_16, (⟨#[105, 102, 102, 50]⟩ : ByteArray)), (p0_17, (⟨#[104, 97, 108, 116]⟩ : ByteArray))] : List (Bool × ByteArray)).length) 3), (70, .int .i64 (([(p0_15, (⟨#[105, 102, 102, 49]⟩ : ByteArray)), (p0_16, (⟨#[105, 102, 102, 50]⟩ : ByteArray)), (p0_17, (⟨#[104, 97, 108, 116]⟩ : ByteArray))] : List (Bool × ByteArray)).length : Int)), (71, .int .i64 (IntKind.wrap .i64 (t115 + 1)))] (by kernel_rfl) ?_
        refine RegI.done (by kernel_rfl) ?_
        refine RunsI.go 1 [.c 28, .lp 28, .blk 2, .c 44] (by kernel_rfl) ?_
        refine RunsI.only [3, 69, 70, 71] [(3, .slice A111 t113.length c112), (69, .slice A114 (([(p0_15, (⟨#[105, 102, 102, 49]⟩ : ByteArray)), (p0_16, (⟨#[105, 102, 102, 50]⟩ : ByteArray)), (p0_17, (⟨#[104, 97, 108, 116]⟩ : ByteArray))] : List (Bool × ByteArray)).length) 3), (70, .int .i64 (([(p0_15, (⟨#[105, 102, 102, 49]⟩ : ByteArray)), (p0_16, (⟨#[105, 102, 102, 50]⟩ : ByteArray)), (p0_17, (⟨#[104, 97, 108, 116]⟩ : ByteArray))] : List (Bool × ByteArray)).length : Int)), (71, .int .i64 (IntKind.wrap .i64 (t115 + 1)))] (by kernel_rfl) (by kernel_rfl) ?_
        exact ih t113 (IntKind.wrap .i64 (t115 + 1)) A111 c112 w125 h (h126.pick [0, 1, 2, 3, 4] (by decide))
    · skip
      refine RunsI.fix 72 false hc116 (by kernel_rfl) (by kernel_rfl) ?_
      refine RunsI.cond false 33 (by kernel_rfl) ?_
      refine RunsI.go 1 [.c 44] (by kernel_rfl) ?_
      refine RunsI.only [3] [(3, .slice A111 t113.length c112)] (by kernel_rfl) (by kernel_rfl) ?_
      exact hk0 t113 A111 c112 w (Option.some.inj h).symm (hH.pick [0, 2, 3, 4] (by decide))
def regs_Show_36.f (K : Nat) (p0_0 : Int) (p0_1 : Int) (p0_2 : Int) (p0_3 : Int) (p0_4 : Int) (p0_5 : Int) (p0_6 : Int) (p0_7 : Int) (p0_8 : Int) (p0_9 : Int) (p0_10 : Int) (p0_11 : Int) (p0_12 : Int) (p0_13 : Int) (p0_14 : Int) (p0_15 : Bool) (p0_16 : Bool) (p0_17 : Bool) (p0_18 : Bool) (p0_19 : Int) : Option ByteArray := (regs_Show_36.l0 K p0_0 p0_1 p0_2 p0_3 p0_4 p0_5 p0_6 p0_7 p0_8 p0_9 p0_10 p0_11 p0_12 p0_13 p0_14 p0_15 p0_16 p0_17 p0_18 p0_19 K ([] : List ByteArray) 0).bind (fun t64 => (text_Hex_50.f K (IntKind.wrap .i64 p0_13) 2).bind fun t72 => cond (mayCat (⟨#[105, 61]⟩ : ByteArray).size t72.size) ((text_Hex_50.f K (IntKind.wrap .i64 p0_14) 2).bind fun t75 => cond (mayCat (⟨#[114, 61]⟩ : ByteArray).size t75.size) ((strconv_Itoa_51.f K p0_19).bind fun t78 => cond (mayCat (⟨#[105, 109]⟩ : ByteArray).size t78.size) (cond (mayBe (t64.length + ([((⟨#[105, 61]⟩ : ByteArray) ++ t72), ((⟨#[114, 61]⟩ : ByteArray) ++ t75), ((⟨#[105, 109]⟩ : ByteArray) ++ t78)] : List ByteArray).length) 16) ((regs_Show_36.l1 K p0_0 p0_1 p0_2 p0_3 p0_4 p0_5 p0_6 p0_7 p0_8 p0_9 p0_10 p0_11 p0_12 p0_13 p0_14 p0_15 p0_16 p0_17 p0_18 p0_19 K (t64 ++ ([((⟨#[105, 61]⟩ : ByteArray) ++ t72), ((⟨#[114, 61]⟩ : ByteArray) ++ t75), ((⟨#[105, 109]⟩ : ByteArray) ++ t78)] : List ByteArray)) 0).bind (fun t147 => (strings_Join_52.f K t147 (⟨#[32]⟩ : ByteArray)).bind fun t154 => some t154)) none) none) none) none)
set_option maxRecDepth 100000 in
theorem regs_Show_36_ok (K : Nat) (M0 : Nat → Prop) (w0 : World) (p0_0 : Int) (p0_1 : Int) (p0_2 : Int) (p0_3 : Int) (p0_4 : Int) (p0_5 : Int) (p0_6 : Int) (p0_7 : Int) (p0_8 : Int) (p0_9 : Int) (p0_10 : Int) (p0_11 : Int) (p0_12 : Int) (p0_13 : Int) (p0_14 : Int) (p0_15 : Bool) (p0_16 : Bool) (p0_17 : Bool) (p0_18 : Bool) (p0_19 : Int) (ho : ∀ b, M0 b → b < w0.heap.size) (hG2 : (gl 2 (tab_2.flatMap en_2)).ok w0 M0) (hG4 : (gl 4 (tab_4.flatMap en_4)).ok w0 M0) (hG5 : (gl 5 (tab_5.flatMap en_5)).ok w0 M0) {r : ByteArray} (h : regs_Show_36.f K p0_0 p0_1 p0_2 p0_3 p0_4 p0_5 p0_6 p0_7 p0_8 p0_9 p0_10 p0_11 p0_12 p0_13 p0_14 p0_15 p0_16 p0_17 p0_18 p0_19 = some r) :
    Calls Tryd.prog 36 #[.agg #[.int .u16 p0_0, .int .u16 p0_1, .int .u16 p0_2, .int .u16 p0_3, .int .u16 p0_4, .int .u16 p0_5, .int .u16 p0_6, .int .u16 p0_7, .int .u16 p0_8, .int .u16 p0_9, .int .u16 p0_10, .int .u16 p0_11, .int .u16 p0_12, .int .u8 p0_13, .int .u8 p0_14, .bool p0_15, .bool p0_16, .bool p0_17, .bool p0_18, .int .i64 p0_19]] w0 (regs_Show_36.post M0 w0 r) := by
  unfold regs_Show_36.f at h
  have h0 : Holds M0 w0 w0 [] := Holds.start ho
  have h0g2 := h0.add (gl 2 (tab_2.flatMap en_2)) rfl ⟨hG2.1, fun hm => hG2.2.1 (hm.elim id (fun hm => absurd hm (by simp [mines, sl, gl]))), hG2.2.2⟩
  have h0g4 := h0g2.add (gl 4 (tab_4.flatMap en_4)) rfl ⟨hG4.1, fun hm => hG4.2.1 (hm.elim id (fun hm => absurd hm (by simp [mines, sl, gl]))), hG4.2.2⟩
  have h0g5 := h0g4.add (gl 5 (tab_5.flatMap en_5)) rfl ⟨hG5.1, fun hm => hG5.2.1 (hm.elim id (fun hm => absurd hm (by simp [mines, sl, gl]))), hG5.2.2⟩
  have h0 : Holds M0 w0 w0 [gl 2 (tab_2.flatMap en_2), gl 4 (tab_4.flatMap en_4), gl 5 (tab_5.flatMap en_5)] := h0g5
  refine calls_of F36 rfl [.agg #[.int .u16 p0_0, .int .u16 p0_1, .int .u16 p0_2, .int .u16 p0_3, .int .u16 p0_4, .int .u16 p0_5, .int .u16 p0_6, .int .u16 p0_7, .int .u16 p0_8, .int .u16 p0_9, .int .u16 p0_10, .int .u16 p0_11, .int .u16 p0_12, .int .u8 p0_13, .int .u8 p0_14, .bool p0_15, .bool p0_16, .bool p0_17, .bool p0_18, .int .i64 p0_19]] (by kernel_rfl) ?_
  refine RunsI.go 1 [.c 1, .c 2] (by kernel_rfl) ?_
  refine RunsI.region (by kernel_rfl) ?_
  refine RegI.op (by kernel_rfl) (OpE.box 1 46 [.int .u16 p0_0, .int .u16 p0_1, .int .u16 p0_2, .int .u16 p0_3, .int .u16 p0_4, .int .u16 p0_5, .int .u16 p0_6, .int .u16 p0_7, .int .u16 p0_8, .int .u16 p0_9, .int .u16 p0_10, .int .u16 p0_11, .int .u16 p0_12, .int .u8 p0_13, .int .u8 p0_14, .bool p0_15, .bool p0_16, .bool p0_17, .bool p0_18, .int .i64 p0_19] h0 (by kernel_rfl) (by kernel_rfl) ?_)
  intro w1 b2 h3 hb4 hn5
  refine RegI.pure 1 [1] [(1, .pointer (some ⟨b2, 0, none⟩))] (by kernel_rfl) ?_
  refine RegI.done (by kernel_rfl) ?_
  refine RunsI.go 1 [.c 3, .c 4] (by kernel_rfl) ?_
  refine RunsI.region (by kernel_rfl) ?_
  refine RegI.pure 1 [1, 3] [(1, .pointer (some ⟨b2, 0, none⟩)), (3, .slice none 0 0)] (by kernel_rfl) ?_
  refine RegI.done (by kernel_rfl) ?_
  refine RunsI.go 2 [.c 6, .c 7, .c 21] (by kernel_rfl) ?_
  refine RunsI.region (by kernel_rfl) ?_
  refine RegI.pure 1 [1, 3, 8] [(1, .pointer (some ⟨b2, 0, none⟩)), (3, .slice none 0 0), (8, .pointer (some ⟨b2, 0, none⟩))] (by kernel_rfl) ?_
  refine RegI.op (by kernel_rfl) (OpE.loadBox 9 3 22 b2 0 (.int .u16 p0_0) h3 (by kernel_rfl) (by kernel_rfl) rfl (by kernel_rfl) ?_)
  refine RegI.pure 1 [1, 3, 9, 10] [(1, .pointer (some ⟨b2, 0, none⟩)), (3, .slice none 0 0), (9, .int .u16 p0_0), (10, .pointer (some ⟨b2, 1, none⟩))] (by kernel_rfl) ?_
  refine RegI.op (by kernel_rfl) (OpE.loadBox 11 3 22 b2 1 (.int .u16 p0_1) h3 (by kernel_rfl) (by kernel_rfl) rfl (by kernel_rfl) ?_)
  refine RegI.pure 1 [1, 3, 9, 11, 12] [(1, .pointer (some ⟨b2, 0, none⟩)), (3, .slice none 0 0), (9, .int .u16 p0_0), (11, .int .u16 p0_1), (12, .pointer (some ⟨b2, 2, none⟩))] (by kernel_rfl) ?_
  refine RegI.op (by kernel_rfl) (OpE.loadBox 13 3 22 b2 2 (.int .u16 p0_2) h3 (by kernel_rfl) (by kernel_rfl) rfl (by kernel_rfl) ?_)
  refine RegI.pure 1 [1, 3, 9, 11, 13, 14] [(1, .pointer (some ⟨b2, 0, none⟩)), (3, .slice none 0 0), (9, .int .u16 p0_0), (11, .int .u16 p0_1), (13, .int .u16 p0_2), (14, .pointer (some ⟨b2, 3, none⟩))] (by kernel_rfl) ?_
  refine RegI.op (by kernel_rfl) (OpE.loadBox 15 3 22 b2 3 (.int .u16 p0_3) h3 (by kernel_rfl) (by kernel_rfl) rfl (by kernel_rfl) ?_)
  refine RegI.pure 1 [1, 3, 9, 11, 13, 15, 16] [(1, .pointer (some ⟨b2, 0, none⟩)), (3, .slice none 0 0), (9, .int .u16 p0_0), (11, .int .u16 p0_1), (13, .int .u16 p0_2), (15, .int .u16 p0_3), (16, .pointer (some ⟨b2, 8, none⟩))] (by kernel_rfl) ?_
  refine RegI.op (by kernel_rfl) (OpE.loadBox 17 3 22 b2 8 (.int .u16 p0_8) h3 (by kernel_rfl) (by kernel_rfl) rfl (by kernel_rfl) ?_)
  refine RegI.pure 1 [1, 3, 9, 11, 13, 15, 17, 18] [(1, .pointer (some ⟨b2, 0, none⟩)), (3, .slice none 0 0), (9, .int .u16 p0_0), (11, .int .u16 p0_1), (13, .int .u16 p0_2), (15, .int .u16 p0_3), (17, .int .u16 p0_8), (18, .pointer (some ⟨b2, 9, none⟩))] (by kernel_rfl) ?_
  refine RegI.op (by kernel_rfl) (OpE.loadBox 19 3 22 b2 9 (.int .u16 p0_9) h3 (by kernel_rfl) (by kernel_rfl) rfl (by kernel_rfl) ?_)
  refine RegI.pure 1 [1, 3, 9, 11, 13, 15, 17, 19, 20] [(1, .pointer (some ⟨b2, 0, none⟩)), (3, .slice none 0 0), (9, .int .u16 p0_0), (11, .int .u16 p0_1), (13, .int .u16 p0_2), (15, .int .u16 p0_3), (17, .int .u16 p0_8), (19, .int .u16 p0_9), (20, .pointer (some ⟨b2, 10, none⟩))] (by kernel_rfl) ?_
  refine RegI.op (by kernel_rfl) (OpE.loadBox 21 3 22 b2 10 (.int .u16 p0_10) h3 (by kernel_rfl) (by kernel_rfl) rfl (by kernel_rfl) ?_)
  refine RegI.pure 1 [1, 3, 9, 11, 13, 15, 17, 19, 21, 22] [(1, .pointer (some ⟨b2, 0, none⟩)), (3, .slice none 0 0), (9, .int .u16 p0_0), (11, .int .u16 p0_1), (13, .int .u16 p0_2), (15, .int .u16 p0_3), (17, .int .u16 p0_8), (19, .int .u16 p0_9), (21, .int .u16 p0_10), (22, .pointer (some ⟨b2, 11, none⟩))] (by kernel_rfl) ?_
  refine RegI.op (by kernel_rfl) (OpE.loadBox 23 3 22 b2 11 (.int .u16 p0_11) h3 (by kernel_rfl) (by kernel_rfl) rfl (by kernel_rfl) ?_)
  refine RegI.op (by kernel_rfl) (OpE.lit 24 22 [.int .u16 p0_0, .int .u16 p0_1, .int .u16 p0_2, .int .u16 p0_3, .int .u16 p0_8, .int .u16 p0_9, .int .u16 p0_10, .int .u16 p0_11] 8 h3 (by kernel_rfl) (by kernel_rfl) ?_)
  intro w6 b7 h8 hb9 hn10
  refine RegI.pure 2 [1, 3, 24, 25, 26] [(1, .pointer (some ⟨b2, 0, none⟩)), (3, .slice none 0 0), (24, .slice (some ⟨b7, 0, none⟩) (([p0_0, p0_1, p0_2, p0_3, p0_8, p0_9, p0_10, p0_11] : List Int).length) 8), (25, .int .i64 (([p0_0, p0_1, p0_2, p0_3, p0_8, p0_9, p0_10, p0_11] : List Int).length : Int)), (26, .int .i64 0)] (by kernel_rfl) ?_
  refine RegI.done (by kernel_rfl) ?_
  refine RunsI.go 2 [.c 9, .lp 9, .blk 0, .c 21] (by kernel_rfl) ?_
  obtain ⟨x60, hx61, h⟩ := of_bind h
  have h11 := h8.addOwnNil Rp.str 9
  have h12 := h11.boxOwn 4 rfl (Rp.int .u16) ([p0_0, p0_1, p0_2, p0_3, p0_8, p0_9, p0_10, p0_11] : List Int) (cells_int _ _ _ _) (Nat.le_of_ble_eq_true (by kernel_rfl))
  refine RunsI.only [1, 3, 24, 25, 26] [(1, .pointer (some ⟨b2, 0, none⟩)), (3, .slice none (([] : List ByteArray).length) 0), (24, .slice (some ⟨b7, 0, none⟩) (([p0_0, p0_1, p0_2, p0_3, p0_8, p0_9, p0_10, p0_11] : List Int).length) 8), (25, .int .i64 (([p0_0, p0_1, p0_2, p0_3, p0_8, p0_9, p0_10, p0_11] : List Int).length : Int)), (26, .int .i64 0)] (by kernel_rfl) (by kernel_rfl) ?_
  refine regs_Show_36.l0_ok K M0 w0 p0_0 p0_1 p0_2 p0_3 p0_4 p0_5 p0_6 p0_7 p0_8 p0_9 p0_10 p0_11 p0_12 p0_13 p0_14 p0_15 p0_16 p0_17 p0_18 p0_19 b2 (some ⟨b7, 0, none⟩) _ x60 ?_ K ([] : List ByteArray) 0 none 0 w6 hx61 (h12.pick [3, 5, 4, 0, 1, 2] (by decide))
  · intro t64 A62 c63 w66 hq155 h65
    (try rw [hq155] at h)
    refine RunsI.go 1 [.c 22, .c 23] (by kernel_rfl) ?_
    refine RunsI.any 18 (by kernel_rfl) (by kernel_rfl) (by kernel_rfl) (Kp (mines (pick [box b2 46 [.int .u16 p0_0, .int .u16 p0_1, .int .u16 p0_2, .int .u16 p0_3, .int .u16 p0_4, .int .u16 p0_5, .int .u16 p0_6, .int .u16 p0_7, .int .u16 p0_8, .int .u16 p0_9, .int .u16 p0_10, .int .u16 p0_11, .int .u16 p0_12, .int .u8 p0_13, .int .u8 p0_14, .bool p0_15, .bool p0_16, .bool p0_17, .bool p0_18, .int .i64 p0_19], own Rp.str 9 (.slice A62 t64.length c63) t64, gl 2 (tab_2.flatMap en_2), gl 4 (tab_4.flatMap en_4), gl 5 (tab_5.flatMap en_5)] [1])) (World.drew w66)) ?_
    have h68 := h65.drew
    generalize World.drew w66 = w67 at h68 ⊢
    have hS69 := Kp.refl (mines (pick [box b2 46 [.int .u16 p0_0, .int .u16 p0_1, .int .u16 p0_2, .int .u16 p0_3, .int .u16 p0_4, .int .u16 p0_5, .int .u16 p0_6, .int .u16 p0_7, .int .u16 p0_8, .int .u16 p0_9, .int .u16 p0_10, .int .u16 p0_11, .int .u16 p0_12, .int .u8 p0_13, .int .u8 p0_14, .bool p0_15, .bool p0_16, .bool p0_17, .bool p0_18, .int .i64 p0_19], own Rp.str 9 (.slice A62 t64.length c63) t64, gl 2 (tab_2.flatMap en_2), gl 4 (tab_4.flatMap en_4), gl 5 (tab_5.flatMap en_5)] [1])) w67
    refine AnyE.pure 0 43 (.slice A62 t64.length c63) (by kernel_rfl) hS69 (fun _ => by kernel_rfl) ?_
    refine AnyE.pure 1 44 (.pointer (some ⟨b2, 13, none⟩)) (by kernel_rfl) hS69 (fun _ => by kernel_rfl) ?_
    refine AnyE.loadBox 2 45 0 5 b2 13 (.int .u8 p0_13) [1] h68 rfl (by kernel_rfl) hS69 rfl rfl (by kernel_rfl) (by kernel_rfl) ?_
    refine AnyE.pure 3 46 (.int .i64 (IntKind.wrap .i64 p0_13)) (by kernel_rfl) hS69 (fun _ => by kernel_rfl) ?_
    obtain ⟨t72, hg71, h⟩ := of_bind h
    refine AnyE.call 4 47 (.string t72) 50 #[.int .i64 (IntKind.wrap .i64 p0_13), .int .i64 2] (by kernel_rfl) hS69 (fun _ => by kernel_rfl) (fun w hk => text_Hex_50_ok K (fun _ => False) w (IntKind.wrap .i64 p0_13) 2 (fun _ hf => hf.elim) ⟨(h68.atI [1] rfl hk 2 rfl rfl).1, fun hf => hf.elim, (h68.atI [1] rfl hk 2 rfl rfl).2.2⟩ ⟨(h68.atI [1] rfl hk 3 rfl rfl).1, fun hf => hf.elim, (h68.atI [1] rfl hk 3 rfl rfl).2.2⟩ ⟨(h68.atI [1] rfl hk 4 rfl rfl).1, fun hf => hf.elim, (h68.atI [1] rfl hk 4 rfl rfl).2.2⟩ hg71) ?_
    obtain ⟨hc73, h⟩ := of_cond0 h
    refine AnyE.run 5 48 (.string ((⟨#[105, 61]⟩ : ByteArray) ++ t72)) (by kernel_rfl) hS69 (fun _ hk => run_cat (a := (⟨#[105, 61]⟩ : ByteArray)) (b := t72) (by kernel_rfl) hc73) ?_
    refine AnyE.pure 6 49 (.pointer (some ⟨b2, 14, none⟩)) (by kernel_rfl) hS69 (fun _ => by kernel_rfl) ?_
    refine AnyE.loadBox 7 50 0 5 b2 14 (.int .u8 p0_14) [1] h68 rfl (by kernel_rfl) hS69 rfl rfl (by kernel_rfl) (by kernel_rfl) ?_
    refine AnyE.pure 8 51 (.int .i64 (IntKind.wrap .i64 p0_14)) (by kernel_rfl) hS69 (fun _ => by kernel_rfl) ?_
    obtain ⟨t75, hg74, h⟩ := of_bind h
    refine AnyE.call 9 52 (.string t75) 50 #[.int .i64 (IntKind.wrap .i64 p0_14), .int .i64 2] (by kernel_rfl) hS69 (fun _ => by kernel_rfl) (fun w hk => text_Hex_50_ok K (fun _ => False) w (IntKind.wrap .i64 p0_14) 2 (fun _ hf => hf.elim) ⟨(h68.atI [1] rfl hk 2 rfl rfl).1, fun hf => hf.elim, (h68.atI [1] rfl hk 2 rfl rfl).2.2⟩ ⟨(h68.atI [1] rfl hk 3 rfl rfl).1, fun hf => hf.elim, (h68.atI [1] rfl hk 3 rfl rfl).2.2⟩ ⟨(h68.atI [1] rfl hk 4 rfl rfl).1, fun hf => hf.elim, (h68.atI [1] rfl hk 4 rfl rfl).2.2⟩ hg74) ?_
    obtain ⟨hc76, h⟩ := of_cond0 h
    refine AnyE.run 10 53 (.string ((⟨#[114, 61]⟩ : ByteArray) ++ t75)) (by kernel_rfl) hS69 (fun _ hk => run_cat (a := (⟨#[114, 61]⟩ : ByteArray)) (b := t75) (by kernel_rfl) hc76) ?_
    refine AnyE.pure 11 54 (.pointer (some ⟨b2, 19, none⟩)) (by kernel_rfl) hS69 (fun _ => by kernel_rfl) ?_
    refine AnyE.loadBox 12 55 0 3 b2 19 (.int .i64 p0_19) [1] h68 rfl (by kernel_rfl) hS69 rfl rfl (by kernel_rfl) (by kernel_rfl) ?_
    obtain ⟨t78, hg77, h⟩ := of_bind h
    refine AnyE.call 13 56 (.string t78) 51 #[.int .i64 p0_19] (by kernel_rfl) hS69 (fun _ => by kernel_rfl) (fun w hk => strconv_Itoa_51_ok K (fun _ => False) w p0_19 (fun _ hf => hf.elim) ⟨(h68.atI [1] rfl hk 2 rfl rfl).1, fun hf => hf.elim, (h68.atI [1] rfl hk 2 rfl rfl).2.2⟩ hg77) ?_
    obtain ⟨hc79, h⟩ := of_cond0 h
    refine AnyE.run 14 57 (.string ((⟨#[105, 109]⟩ : ByteArray) ++ t78)) (by kernel_rfl) hS69 (fun _ hk => run_cat (a := (⟨#[105, 109]⟩ : ByteArray)) (b := t78) (by kernel_rfl) hc79) ?_
    refine AnyE.one 15 (by kernel_rfl) (fun w80 hu81 => ?_)
    have h82 := h68.call hu81
    have hS83 := hS69.up hu81
    refine OpE.lit 58 9 [.string ((⟨#[105, 61]⟩ : ByteArray) ++ t72), .string ((⟨#[114, 61]⟩ : ByteArray) ++ t75), .string ((⟨#[105, 109]⟩ : ByteArray) ++ t78)] 3 h82 (by kernel_rfl) (by kernel_rfl) ?_
    intro w84 b85 h86 hb87 hn88
    have hn89 := Nat.le_trans hS83.1 hn88
    have hS90 := hS83.up hb87
    refine ⟨hS90, ?_⟩
    refine AnyE.one 16 (by kernel_rfl) (fun w91 hu92 => ?_)
    have h93 := h86.call hu92
    have hS94 := hS90.up hu92
    obtain ⟨hc95, h⟩ := of_cond0 h
    refine OpE.appendBox 59 1 5 42 9 16 ([((⟨#[105, 61]⟩ : ByteArray) ++ t72), ((⟨#[114, 61]⟩ : ByteArray) ++ t75), ((⟨#[105, 109]⟩ : ByteArray) ++ t78)] : List ByteArray) 2 h93 (by kernel_rfl) (by kernel_rfl) (by kernel_rfl) rfl rfl rfl (cells_str _ _ _) hc95 ?_
    intro w96 A97 c98 h99 hk100
    have hS101 := hS94.trans hk100 (Kp.turned h68 [1] rfl 1 rfl rfl)
    refine ⟨hS101, ?_⟩
    refine AnyE.pure 17 3 (.slice A97 ((t64 ++ ([((⟨#[105, 61]⟩ : ByteArray) ++ t72), ((⟨#[114, 61]⟩ : ByteArray) ++ t75), ((⟨#[105, 109]⟩ : ByteArray) ++ t78)] : List ByteArray)).length) c98) (by kernel_rfl) hS101 (fun _ => by kernel_rfl) ?_
    refine AnyE.done (by kernel_rfl) (fun w102 hu103 => ?_)
    have h104 := h99.call hu103
    refine RunsI.only [1, 3] [(1, .pointer (some ⟨b2, 0, none⟩)), (3, .slice A97 ((t64 ++ ([((⟨#[105, 61]⟩ : ByteArray) ++ t72), ((⟨#[114, 61]⟩ : ByteArray) ++ t75), ((⟨#[105, 109]⟩ : ByteArray) ++ t78)] : List ByteArray)).length) c98)] (by kernel_rfl) (by kernel_rfl) ?_
    refine RunsI.go 2 [.c 25, .c 26, .c 44] (by kernel_rfl) ?_
    refine RunsI.region (by kernel_rfl) ?_
    refine RegI.pure 1 [1, 3, 60] [(1, .pointer (some ⟨b2, 0, none⟩)), (3, .slice A97 ((t64 ++ ([((⟨#[105, 61]⟩ : ByteArray) ++ t72), ((⟨#[114, 61]⟩ : ByteArray) ++ t75), ((⟨#[105, 109]⟩ : ByteArray) ++ t78)] : List ByteArray)).length) c98), (60, .pointer (some ⟨b2, 15, none⟩))] (by kernel_rfl) ?_
    refine RegI.op (by kernel_rfl) (OpE.loadBox 61 0 4 b2 15 (.bool p0_15) h104 (by kernel_rfl) (by kernel_rfl) rfl (by kernel_rfl) ?_)
    refine RegI.pure 2 [1, 3, 62, 63] [(1, .pointer (some ⟨b2, 0, none⟩)), (3, .slice A97 ((t64 ++ ([((⟨#[105, 61]⟩ : ByteArray) ++ t72), ((⟨#[114, 61]⟩ : ByteArray) ++ t75), ((⟨#[105, 109]⟩ : ByteArray) ++ t78)] : List ByteArray)).length) c98), (62, .agg #[.bool p0_15, .string (⟨#[105, 102, 102, 49]⟩ : ByteArray)]), (63, .pointer (some ⟨b2, 16, none⟩))] (by kernel_rfl) ?_
    refine RegI.op (by kernel_rfl) (OpE.loadBox 64 0 4 b2 16 (.bool p0_16) h104 (by kernel_rfl) (by kernel_rfl) rfl (by kernel_rfl) ?_)
    refine RegI.pure 2 [3, 62, 65, 66] [(3, .slice A97 ((t64 ++ ([((⟨#[105, 61]⟩ : ByteArray) ++ t72), ((⟨#[114, 61]⟩ : ByteArray) ++ t75), ((⟨#[105, 109]⟩ : ByteArray) ++ t78)] : List ByteArray)).length) c98), (62, .agg #[.bool p0_15, .string (⟨#[105, 102, 102, 49]⟩ : ByteArray)]), (65, .agg #[.bool p0_16, .string (⟨#[105, 102, 102, 50]⟩ : ByteArray)]), (66, .pointer (some ⟨b2, 17, none⟩))] (by kernel_rfl) ?_
    refine RegI.op (by kernel_rfl) (OpE.loadBox 67 0 4 b2 17 (.bool p0_17) h104 (by kernel_rfl) (by kernel_rfl) rfl (by kernel_rfl) ?_)
    refine RegI.pure 1 [3, 62, 65, 68] [(3, .slice A97 ((t64 ++ ([((⟨#[105, 61]⟩ : ByteArray) ++ t72), ((⟨#[114, 61]⟩ : ByteArray) ++ t75), ((⟨#[105, 109]⟩ : ByteArray) ++ t78)] : List ByteArray)).length) c98), (62, .agg #[.bool p0_15, .string (⟨#[105, 102, 102, 49]⟩ : ByteArray)]), (65, .agg #[.bool p0_16, .string (⟨#[105, 102, 102, 50]⟩ : ByteArray)]), (68, .agg #[.bool p0_17, .string (⟨#[104, 97, 108, 116]⟩ : ByteArray)])] (by kernel_rfl) ?_
    refine RegI.op (by kernel_rfl) (OpE.lit 69 74 [.bool p0_15, .string (⟨#[105, 102, 102, 49]⟩ : ByteArray), .bool p0_16, .string (⟨#[105, 102, 102, 50]⟩ : ByteArray), .bool p0_17, .string (⟨#[104, 97, 108, 116]⟩ : ByteArray)] 3 h104 (by kernel_rfl) (by kernel_rfl) ?_)
    intro w105 b106 h107 hb108 hn109
    refine RegI.pure 2 [3, 69, 70, 71] [(3, .slice A97 ((t64 ++ ([((⟨#[105, 61]⟩ : ByteArray) ++ t72), ((⟨#[114, 61]⟩ : ByteArray) ++ t75), ((⟨#[105, 109]⟩ : ByteArray) ++ t78)] : List ByteArray)).length) c98), (69, .slice (some ⟨b106, 0, none⟩) (([(p0_15, (⟨#[105, 102, 102, 49]⟩ : ByteArray)), (p0_16, (⟨#[105, 102, 102, 50]⟩ : ByteArray)), (p0_17, (⟨#[104, 97, 108, 116]⟩ : ByteArray))] : List (Bool × ByteArray)).length) 3), (70, .int .i64 (([(p0_15, (⟨#[105, 102, 102, 49]⟩ : ByteArray)), (p0_16, (⟨#[105, 102, 102, 50]⟩ : ByteArray)), (p0_17, (⟨#[104, 97, 108, 116]⟩ : ByteArray))] : List (Bool × ByteArray)).length : Int)), (71, .int .i64 0)] (by kernel_rfl) ?_
    refine RegI.done (by kernel_rfl) ?_
    refine RunsI.go 2 [.c 28, .lp 28, .blk 2, .c 44] (by kernel_rfl) ?_
    obtain ⟨x143, hx144, h⟩ := of_bind h
    have h110 := h107.boxOwn 6 rfl (Rp.pair Rp.bool Rp.str) ([(p0_15, (⟨#[105, 102, 102, 49]⟩ : ByteArray)), (p0_16, (⟨#[105, 102, 102, 50]⟩ : ByteArray)), (p0_17, (⟨#[104, 97, 108, 116]⟩ : ByteArray))] : List (Bool × ByteArray)) (⟨[_, _], _, rfl, ⟨[_], [_], rfl, rfl, rfl⟩, ⟨[_, _], _, rfl, ⟨[_], [_], rfl, rfl, rfl⟩, ⟨[_, _], _, rfl, ⟨[_], [_], rfl, rfl, rfl⟩, rfl⟩⟩⟩) (Nat.le_of_ble_eq_true (by kernel_rfl))
    refine RunsI.only [3, 69, 70, 71] [(3, .slice A97 ((t64 ++ ([((⟨#[105, 61]⟩ : ByteArray) ++ t72), ((⟨#[114, 61]⟩ : ByteArray) ++ t75), ((⟨#[105, 109]⟩ : ByteArray) ++ t78)] : List ByteArray)).length) c98), (69, .slice (some ⟨b106, 0, none⟩) (([(p0_15, (⟨#[105, 102, 102, 49]⟩ : ByteArray)), (p0_16, (⟨#[105, 102, 102, 50]⟩ : ByteArray)), (p0_17, (⟨#[104, 97, 108, 116]⟩ : ByteArray))] : List (Bool × ByteArray)).length) 3), (70, .int .i64 (([(p0_15, (⟨#[105, 102, 102, 49]⟩ : ByteArray)), (p0_16, (⟨#[105, 102, 102, 50]⟩ : ByteArray)), (p0_17, (⟨#[104, 97, 108, 116]⟩ : ByteArray))] : List (Bool × ByteArray)).length : Int)), (71, .int .i64 0)] (by kernel_rfl) (by kernel_rfl) ?_
    refine regs_Show_36.l1_ok K M0 w0 p0_0 p0_1 p0_2 p0_3 p0_4 p0_5 p0_6 p0_7 p0_8 p0_9 p0_10 p0_11 p0_12 p0_13 p0_14 p0_15 p0_16 p0_17 p0_18 p0_19 (some ⟨b106, 0, none⟩) _ x143 ?_ K (t64 ++ ([((⟨#[105, 61]⟩ : ByteArray) ++ t72), ((⟨#[114, 61]⟩ : ByteArray) ++ t75), ((⟨#[105, 109]⟩ : ByteArray) ++ t78)] : List ByteArray)) 0 A97 c98 w105 hx144 (h110.pick [1, 6, 2, 3, 4] (by decide))
    · intro t147 A145 c146 w149 hq156 h148
      (try rw [hq156] at h)
      refine RunsI.go 1 [.c 45, .c 46] (by kernel_rfl) ?_
      refine RunsI.region (by kernel_rfl) ?_
      refine RegI.pure 1 [83] [(83, .slice A145 t147.length c146)] (by kernel_rfl) ?_
      obtain ⟨t154, hg153, h⟩ := of_bind h
      refine RegI.op (by kernel_rfl) (OpE.call 84 (by kernel_rfl) 52 #[.slice A145 t147.length c146, .string (⟨#[32]⟩ : ByteArray)] (by kernel_rfl) ((strings_Join_52_ok K (fun _ => False) w149  A145 c146 t147 (⟨#[32]⟩ : ByteArray) (fun _ hf => hf.elim) (h148.ownSl 0 rfl) hg153).mono ?_))
      rintro _ w150 ⟨rfl, hb151⟩
      refine ⟨_, rfl, ?_⟩
      have h152 := h148.call hb151
      refine RegI.pure 1 [2] [(2, .string t154)] (by kernel_rfl) ?_
      refine RegI.done (by kernel_rfl) ?_
      refine RunsI.ret (.string t154) (by kernel_rfl) (by kernel_rfl) ?_
      obtain rfl := Option.some.inj h
      exact ⟨rfl, h152.below⟩
end

/-! ### charabanc/bits.Word (function 56) -/
section
def bits_Word_56.post (M0 : Nat → Prop) (w0 : World) (r : Int) : Ending → World → Prop := fun e w => e = .returned (.int .u16 r) ∧ Below w0.heap.size w0 w
def bits_Word_56.f (K : Nat) (p0 : Int) (p1 : Int) : Option Int := some (bor .u16 (IntKind.wrap .u16 ((IntKind.wrap .u16 p0) * 2 ^ 8)) (IntKind.wrap .u16 p1))
set_option maxRecDepth 100000 in
theorem bits_Word_56_ok (K : Nat) (M0 : Nat → Prop) (w0 : World) (p0 : Int) (p1 : Int) (ho : ∀ b, M0 b → b < w0.heap.size) {r : Int} (h : bits_Word_56.f K p0 p1 = some r) :
    Calls Tryd.prog 56 #[.int .u8 p0, .int .u8 p1] w0 (bits_Word_56.post M0 w0 r) := by
  unfold bits_Word_56.f at h
  have h0 : Holds M0 w0 w0 [] := Holds.start ho
  have h0 : Holds M0 w0 w0 [] := h0
  refine calls_of F56 rfl [.int .u8 p0, .int .u8 p1] (by kernel_rfl) ?_
  refine RunsI.go 1 [.c 1, .c 2] (by kernel_rfl) ?_
  refine RunsI.region (by kernel_rfl) ?_
  refine RegI.pure 1 [0, 1] [(0, .int .u8 p0), (1, .int .u8 p1)] (by kernel_rfl) ?_
  refine RegI.done (by kernel_rfl) ?_
  refine RunsI.go 1 [.c 3, .c 4] (by kernel_rfl) ?_
  refine RunsI.region (by kernel_rfl) ?_
  refine RegI.pure 7 [4] [(4, .int .u16 (bor .u16 (IntKind.wrap .u16 ((IntKind.wrap .u16 p0) * 2 ^ 8)) (IntKind.wrap .u16 p1)))] (by kernel_rfl) ?_
  refine RegI.done (by kernel_rfl) ?_
  refine RunsI.ret (.int .u16 (bor .u16 (IntKind.wrap .u16 ((IntKind.wrap .u16 p0) * 2 ^ 8)) (IntKind.wrap .u16 p1))) (by kernel_rfl) (by kernel_rfl) ?_
  obtain rfl := Option.some.inj h
  exact ⟨rfl, h0.below⟩
end
end Go.Proofs.YtajnhlkkbhobiaaDoor.Reg
