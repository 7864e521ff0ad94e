/- Functions of the program as plain Lean functions, each with the proof that the call comes to it; written by wip/eng.py. -/
import Derived.Test.YtbcepghanbkncaaDoorProg
import Derived.Test.YtbcepghanbkncaaDoorEngLib
import Derived.Test.YtbcepghanbkncaaDoorEngBld
import Derived.Test.YtbcepghanbkncaaDoorEngMid
import Derived.Test.YtbcepghanbkncaaDoorEngMap
import Derived.Test.YtbcepghanbkncaaDoorShelf
set_option linter.unusedVariables false
set_option linter.unusedSimpArgs false
set_option maxHeartbeats 4000000
namespace Go.Proofs.YtbcepghanbkncaaDoor.Im
open Go.RowKit Go.Eng
noncomputable def B6 : Code := (Tryd.f6.body).getD .skip
noncomputable def F6 : Fun Tryd.prog := ⟨6, Tryd.f6, B6, 91, Tryd.func6, by kernel_rfl, by kernel_rfl, [], none⟩
noncomputable def B7 : Code := (Tryd.f7.body).getD .skip
noncomputable def F7 : Fun Tryd.prog := ⟨7, Tryd.f7, B7, 38, Tryd.func7, by kernel_rfl, by kernel_rfl, [], none⟩
noncomputable def B8 : Code := (Tryd.f8.body).getD .skip
noncomputable def F8 : Fun Tryd.prog := ⟨8, Tryd.f8, B8, 62, Tryd.func8, by kernel_rfl, by kernel_rfl, [], none⟩
noncomputable def B9 : Code := (Tryd.f9.body).getD .skip
noncomputable def F9 : Fun Tryd.prog := ⟨9, Tryd.f9, B9, 26, Tryd.func9, by kernel_rfl, by kernel_rfl, [], none⟩
noncomputable def B10 : Code := (Tryd.f10.body).getD .skip
noncomputable def F10 : Fun Tryd.prog := ⟨10, Tryd.f10, B10, 34, Tryd.func10, by kernel_rfl, by kernel_rfl, [], none⟩
noncomputable def B11 : Code := (Tryd.f11.body).getD .skip
noncomputable def F11 : Fun Tryd.prog := ⟨11, Tryd.f11, B11, 17, Tryd.func11, by kernel_rfl, by kernel_rfl, [], none⟩
noncomputable def B12 : Code := (Tryd.f12.body).getD .skip
noncomputable def F12 : Fun Tryd.prog := ⟨12, Tryd.f12, B12, 47, Tryd.func12, by kernel_rfl, by kernel_rfl, [], none⟩
noncomputable def B13 : Code := (Tryd.f13.body).getD .skip
noncomputable def F13 : Fun Tryd.prog := ⟨13, Tryd.f13, B13, 18, Tryd.func13, by kernel_rfl, by kernel_rfl, [], none⟩
noncomputable def B14 : Code := (Tryd.f14.body).getD .skip
noncomputable def F14 : Fun Tryd.prog := ⟨14, Tryd.f14, B14, 42, Tryd.func14, by kernel_rfl, by kernel_rfl, [], none⟩
noncomputable def B15 : Code := (Tryd.f15.body).getD .skip
noncomputable def F15 : Fun Tryd.prog := ⟨15, Tryd.f15, B15, 15, Tryd.func15, by kernel_rfl, by kernel_rfl, [], none⟩
noncomputable def B16 : Code := (Tryd.f16.body).getD .skip
noncomputable def F16 : Fun Tryd.prog := ⟨16, Tryd.f16, B16, 63, Tryd.func16, by kernel_rfl, by kernel_rfl, [], none⟩
noncomputable def B17 : Code := (Tryd.f17.body).getD .skip
noncomputable def F17 : Fun Tryd.prog := ⟨17, Tryd.f17, B17, 84, Tryd.func17, by kernel_rfl, by kernel_rfl, [], none⟩
noncomputable def B18 : Code := (Tryd.f18.body).getD .skip
noncomputable def F18 : Fun Tryd.prog := ⟨18, Tryd.f18, B18, 6, Tryd.func18, by kernel_rfl, by kernel_rfl, [], none⟩
noncomputable def B19 : Code := (Tryd.f19.body).getD .skip
noncomputable def F19 : Fun Tryd.prog := ⟨19, Tryd.f19, B19, 6, Tryd.func19, by kernel_rfl, by kernel_rfl, [], none⟩
noncomputable def B20 : Code := (Tryd.f20.body).getD .skip
noncomputable def F20 : Fun Tryd.prog := ⟨20, Tryd.f20, B20, 8, Tryd.func20, by kernel_rfl, by kernel_rfl, [], none⟩
noncomputable def B21 : Code := (Tryd.f21.body).getD .skip
noncomputable def F21 : Fun Tryd.prog := ⟨21, Tryd.f21, B21, 42, Tryd.func21, by kernel_rfl, by kernel_rfl, [], none⟩
noncomputable def B22 : Code := (Tryd.f22.body).getD .skip
noncomputable def F22 : Fun Tryd.prog := ⟨22, Tryd.f22, B22, 153, Tryd.func22, by kernel_rfl, by kernel_rfl, [], none⟩
noncomputable def B23 : Code := (Tryd.f23.body).getD .skip
noncomputable def F23 : Fun Tryd.prog := ⟨23, Tryd.f23, B23, 9, Tryd.func23, by kernel_rfl, by kernel_rfl, [], none⟩
noncomputable def B24 : Code := (Tryd.f24.body).getD .skip
noncomputable def F24 : Fun Tryd.prog := ⟨24, Tryd.f24, B24, 31, Tryd.func24, by kernel_rfl, by kernel_rfl, [], none⟩
noncomputable def B25 : Code := (Tryd.f25.body).getD .skip
noncomputable def F25 : Fun Tryd.prog := ⟨25, Tryd.f25, B25, 30, Tryd.func25, by kernel_rfl, by kernel_rfl, [], none⟩
noncomputable def B26 : Code := (Tryd.f26.body).getD .skip
noncomputable def F26 : Fun Tryd.prog := ⟨26, Tryd.f26, B26, 54, Tryd.func26, by kernel_rfl, by kernel_rfl, [], none⟩
noncomputable def B27 : Code := (Tryd.f27.body).getD .skip
noncomputable def F27 : Fun Tryd.prog := ⟨27, Tryd.f27, B27, 19, Tryd.func27, by kernel_rfl, by kernel_rfl, [], none⟩
noncomputable def B28 : Code := (Tryd.f28.body).getD .skip
noncomputable def F28 : Fun Tryd.prog := ⟨28, Tryd.f28, B28, 16, Tryd.func28, by kernel_rfl, by kernel_rfl, [], none⟩
noncomputable def B29 : Code := (Tryd.f29.body).getD .skip
noncomputable def F29 : Fun Tryd.prog := ⟨29, Tryd.f29, B29, 14, Tryd.func29, by kernel_rfl, by kernel_rfl, [], none⟩
noncomputable def B30 : Code := (Tryd.f30.body).getD .skip
noncomputable def F30 : Fun Tryd.prog := ⟨30, Tryd.f30, B30, 7, Tryd.func30, by kernel_rfl, by kernel_rfl, [], none⟩
noncomputable def B32 : Code := (Tryd.f32.body).getD .skip
noncomputable def F32 : Fun Tryd.prog := ⟨32, Tryd.f32, B32, 23, Tryd.func32, by kernel_rfl, by kernel_rfl, [], none⟩
noncomputable def B33 : Code := (Tryd.f33.body).getD .skip
noncomputable def F33 : Fun Tryd.prog := ⟨33, Tryd.f33, B33, 46, Tryd.func33, by kernel_rfl, by kernel_rfl, [], none⟩
noncomputable def B34 : Code := (Tryd.f34.body).getD .skip
noncomputable def F34 : Fun Tryd.prog := ⟨34, Tryd.f34, B34, 76, Tryd.func34, by kernel_rfl, by kernel_rfl, [], none⟩
noncomputable def B35 : Code := (Tryd.f35.body).getD .skip
noncomputable def F35 : Fun Tryd.prog := ⟨35, Tryd.f35, B35, 66, Tryd.func35, by kernel_rfl, by kernel_rfl, [], none⟩
noncomputable def B37 : Code := (Tryd.f37.body).getD .skip
noncomputable def F37 : Fun Tryd.prog := ⟨37, Tryd.f37, B37, 13, Tryd.func37, by kernel_rfl, by kernel_rfl, [], none⟩
noncomputable def B38 : Code := (Tryd.f38.body).getD .skip
noncomputable def F38 : Fun Tryd.prog := ⟨38, Tryd.f38, B38, 13, Tryd.func38, by kernel_rfl, by kernel_rfl, [], none⟩
noncomputable def B39 : Code := (Tryd.f39.body).getD .skip
noncomputable def F39 : Fun Tryd.prog := ⟨39, Tryd.f39, B39, 21, Tryd.func39, by kernel_rfl, by kernel_rfl, [], none⟩
noncomputable def B40 : Code := (Tryd.f40.body).getD .skip
noncomputable def F40 : Fun Tryd.prog := ⟨40, Tryd.f40, B40, 13, Tryd.func40, by kernel_rfl, by kernel_rfl, [], none⟩
noncomputable def B41 : Code := (Tryd.f41.body).getD .skip
noncomputable def F41 : Fun Tryd.prog := ⟨41, Tryd.f41, B41, 16, Tryd.func41, by kernel_rfl, by kernel_rfl, [], none⟩
noncomputable def B42 : Code := (Tryd.f42.body).getD .skip
noncomputable def F42 : Fun Tryd.prog := ⟨42, Tryd.f42, B42, 22, Tryd.func42, by kernel_rfl, by kernel_rfl, [], none⟩
noncomputable def B43 : Code := (Tryd.f43.body).getD .skip
noncomputable def F43 : Fun Tryd.prog := ⟨43, Tryd.f43, B43, 50, Tryd.func43, by kernel_rfl, by kernel_rfl, [], none⟩
noncomputable def B44 : Code := (Tryd.f44.body).getD .skip
noncomputable def F44 : Fun Tryd.prog := ⟨44, Tryd.f44, B44, 24, Tryd.func44, by kernel_rfl, by kernel_rfl, [], none⟩
noncomputable def B45 : Code := (Tryd.f45.body).getD .skip
noncomputable def F45 : Fun Tryd.prog := ⟨45, Tryd.f45, B45, 23, Tryd.func45, by kernel_rfl, by kernel_rfl, [], none⟩
noncomputable def B46 : Code := (Tryd.f46.body).getD .skip
noncomputable def F46 : Fun Tryd.prog := ⟨46, Tryd.f46, B46, 21, Tryd.func46, by kernel_rfl, by kernel_rfl, [], none⟩
noncomputable def B47 : Code := (Tryd.f47.body).getD .skip
noncomputable def F47 : Fun Tryd.prog := ⟨47, Tryd.f47, B47, 24, Tryd.func47, by kernel_rfl, by kernel_rfl, [], none⟩
noncomputable def B48 : Code := (Tryd.f48.body).getD .skip
noncomputable def F48 : Fun Tryd.prog := ⟨48, Tryd.f48, B48, 31, Tryd.func48, by kernel_rfl, by kernel_rfl, [], none⟩
noncomputable def B50 : Code := (Tryd.f50.body).getD .skip
noncomputable def F50 : Fun Tryd.prog := ⟨50, Tryd.f50, B50, 22, Tryd.func50, by kernel_rfl, by kernel_rfl, [], none⟩
noncomputable def B52 : Code := (Tryd.f52.body).getD .skip
noncomputable def F52 : Fun Tryd.prog := ⟨52, Tryd.f52, B52, 8, Tryd.func52, by kernel_rfl, by kernel_rfl, [], none⟩
noncomputable def B55 : Code := (Tryd.f55.body).getD .skip
noncomputable def F55 : Fun Tryd.prog := ⟨55, Tryd.f55, B55, 18, Tryd.func55, by kernel_rfl, by kernel_rfl, [], none⟩
noncomputable def B56 : Code := (Tryd.f56.body).getD .skip
noncomputable def F56 : Fun Tryd.prog := ⟨56, Tryd.f56, B56, 9, Tryd.func56, by kernel_rfl, by kernel_rfl, [], none⟩
noncomputable def B57 : Code := (Tryd.f57.body).getD .skip
noncomputable def F57 : Fun Tryd.prog := ⟨57, Tryd.f57, B57, 26, Tryd.func57, by kernel_rfl, by kernel_rfl, [], none⟩
noncomputable def B58 : Code := (Tryd.f58.body).getD .skip
noncomputable def F58 : Fun Tryd.prog := ⟨58, Tryd.f58, B58, 5, Tryd.func58, by kernel_rfl, by kernel_rfl, [], none⟩
noncomputable def B63 : Code := (Tryd.f63.body).getD .skip
noncomputable def F63 : Fun Tryd.prog := ⟨63, Tryd.f63, B63, 23, Tryd.func63, by kernel_rfl, by kernel_rfl, [], none⟩
noncomputable def B64 : Code := (Tryd.f64.body).getD .skip
noncomputable def F64 : Fun Tryd.prog := ⟨64, Tryd.f64, B64, 43, Tryd.func64, by kernel_rfl, by kernel_rfl, [], none⟩
noncomputable def B65 : Code := (Tryd.f65.body).getD .skip
noncomputable def F65 : Fun Tryd.prog := ⟨65, Tryd.f65, B65, 58, Tryd.func65, by kernel_rfl, by kernel_rfl, [], none⟩
noncomputable def B68 : Code := (Tryd.f68.body).getD .skip
noncomputable def F68 : Fun Tryd.prog := ⟨68, Tryd.f68, B68, 54, Tryd.func68, by kernel_rfl, by kernel_rfl, [], none⟩
noncomputable def B72 : Code := (Tryd.f72.body).getD .skip
noncomputable def F72 : Fun Tryd.prog := ⟨72, Tryd.f72, B72, 19, Tryd.func72, by kernel_rfl, by kernel_rfl, [], none⟩
noncomputable def B77 : Code := (Tryd.f77.body).getD .skip
noncomputable def F77 : Fun Tryd.prog := ⟨77, Tryd.f77, B77, 14, Tryd.func77, by kernel_rfl, by kernel_rfl, [], none⟩
noncomputable def B78 : Code := (Tryd.f78.body).getD .skip
noncomputable def F78 : Fun Tryd.prog := ⟨78, Tryd.f78, B78, 9, Tryd.func78, by kernel_rfl, by kernel_rfl, [], none⟩
noncomputable def B79 : Code := (Tryd.f79.body).getD .skip
noncomputable def F79 : Fun Tryd.prog := ⟨79, Tryd.f79, B79, 20, Tryd.func79, by kernel_rfl, by kernel_rfl, [], none⟩
noncomputable def B80 : Code := (Tryd.f80.body).getD .skip
noncomputable def F80 : Fun Tryd.prog := ⟨80, Tryd.f80, B80, 8, Tryd.func80, by kernel_rfl, by kernel_rfl, [], none⟩
noncomputable def B81 : Code := (Tryd.f81.body).getD .skip
noncomputable def F81 : Fun Tryd.prog := ⟨81, Tryd.f81, B81, 42, Tryd.func81, by kernel_rfl, by kernel_rfl, [], none⟩
noncomputable def B82 : Code := (Tryd.f82.body).getD .skip
noncomputable def F82 : Fun Tryd.prog := ⟨82, Tryd.f82, B82, 8, Tryd.func82, by kernel_rfl, by kernel_rfl, [], none⟩
noncomputable def B84 : Code := (Tryd.f84.body).getD .skip
noncomputable def F84 : Fun Tryd.prog := ⟨84, Tryd.f84, B84, 15, Tryd.func84, by kernel_rfl, by kernel_rfl, [], none⟩
noncomputable def B87 : Code := (Tryd.f87.body).getD .skip
noncomputable def F87 : Fun Tryd.prog := ⟨87, Tryd.f87, B87, 102, Tryd.func87, by kernel_rfl, by kernel_rfl, [], none⟩
noncomputable def B95 : Code := (Tryd.f95.body).getD .skip
noncomputable def F95 : Fun Tryd.prog := ⟨95, Tryd.f95, B95, 6, Tryd.func95, by kernel_rfl, by kernel_rfl, [], none⟩
noncomputable def B96 : Code := (Tryd.f96.body).getD .skip
noncomputable def F96 : Fun Tryd.prog := ⟨96, Tryd.f96, B96, 6, Tryd.func96, by kernel_rfl, by kernel_rfl, [], none⟩
noncomputable def B97 : Code := (Tryd.f97.body).getD .skip
noncomputable def F97 : Fun Tryd.prog := ⟨97, Tryd.f97, B97, 25, Tryd.func97, by kernel_rfl, by kernel_rfl, [], none⟩
noncomputable def B98 : Code := (Tryd.f98.body).getD .skip
noncomputable def F98 : Fun Tryd.prog := ⟨98, Tryd.f98, B98, 4, Tryd.func98, by kernel_rfl, by kernel_rfl, [], none⟩
noncomputable def B99 : Code := (Tryd.f99.body).getD .skip
noncomputable def F99 : Fun Tryd.prog := ⟨99, Tryd.f99, B99, 8, Tryd.func99, by kernel_rfl, by kernel_rfl, [], none⟩
noncomputable def B100 : Code := (Tryd.f100.body).getD .skip
noncomputable def F100 : Fun Tryd.prog := ⟨100, Tryd.f100, B100, 8, Tryd.func100, by kernel_rfl, by kernel_rfl, [], none⟩
noncomputable def B103 : Code := (Tryd.f103.body).getD .skip
noncomputable def F103 : Fun Tryd.prog := ⟨103, Tryd.f103, B103, 14, Tryd.func103, by kernel_rfl, by kernel_rfl, [], none⟩
def tab_1 : List Int := [1, 10, 100, 1000, 10000, 100000, 1000000, 10000000, 100000000, 1000000000, 10000000000, 100000000000, 1000000000000, 10000000000000, 100000000000000, 1000000000000000, 10000000000000000, 100000000000000000, 1000000000000000000, 10000000000000000000]
def en_1 : Int → List Value := fun x => [.int .u64 x]
def tab_4 : List Int := [0, 1, 28, 2, 29, 14, 24, 3, 30, 22, 20, 15, 25, 17, 4, 8, 31, 27, 13, 23, 21, 19, 16, 7, 26, 12, 18, 6, 11, 5, 10, 9]
def en_4 : Int → List Value := fun x => [.int .u8 x]
def tab_5 : List Int := [0, 1, 56, 2, 57, 49, 28, 3, 61, 58, 42, 50, 38, 29, 17, 4, 62, 47, 59, 36, 45, 43, 51, 22, 53, 39, 33, 30, 24, 18, 12, 5, 63, 55, 48, 27, 60, 41, 37, 16, 46, 35, 44, 21, 52, 32, 23, 11, 54, 26, 40, 15, 34, 20, 31, 10, 25, 14, 19, 9, 13, 8, 7, 6]
def en_5 : Int → List Value := fun x => [.int .u8 x]

/-! ### charabanc/banks.Check$2 (function 58) -/
section
def banks_Check_2_58.post (M0 : Nat → Prop) (w0 : World) (r : Int) : Ending → World → Prop := fun e w => e = .returned (.int .i64 r) ∧ Below w0.heap.size w0 w
def banks_Check_2_58.f (K : Nat) (p0_0 : Int) (p0_1 : Int) : Option Int := some p0_0
set_option maxRecDepth 100000 in
theorem banks_Check_2_58_ok (K : Nat) (M0 : Nat → Prop) (w0 : World) (p0_0 : Int) (p0_1 : Int) (ho : ∀ b, M0 b → b < w0.heap.size) {r : Int} (h : banks_Check_2_58.f K p0_0 p0_1 = some r) :
  Calls Tryd.prog 58 #[.agg #[.int .i64 p0_0, .int .u8 p0_1]] w0 (banks_Check_2_58.post M0 w0 r) := by
 unfold banks_Check_2_58.f at h
 have h0 : Holds M0 w0 w0 [] := Holds.start ho
 have h0 : Holds M0 w0 w0 [] := h0
 refine calls_of F58 rfl [.agg #[.int .i64 p0_0, .int .u8 p0_1]] (by kernel_rfl) ?_
 refine RunsI.g 1 [.c 1, .c 2] ?_
 refine RunsI.r ?_
 refine RegI.o (OpE.box 1 64 [.int .i64 p0_0, .int .u8 p0_1] h0 (by kernel_rfl) (by kernel_rfl) ?_)
 intro w1 b2 h3 hb4 hn5
 refine RegI.p 1 [(1, .pointer (some ⟨b2, 0, none⟩))] ?_
 refine RegI.d ?_
 refine RunsI.g 1 [.c 3, .c 4] ?_
 refine RunsI.r ?_
 refine RegI.p 1 [(3, .pointer (some ⟨b2, 0, none⟩))] ?_
 refine RegI.o (OpE.loadBox 4 0 3 b2 0 (.int .i64 p0_0) h3 (by kernel_rfl) (by kernel_rfl) rfl (by kernel_rfl) ?_)
 refine RegI.p 1 [(2, .int .i64 p0_0)] ?_
 refine RegI.d ?_
 refine RunsI.t (.int .i64 p0_0) ?_
 obtain rfl := Option.some.inj h
 exact ⟨rfl, h3.below⟩
end

/-! ### charabanc/banks.Check (function 33) -/
section
def banks_Check_33.post (M0 : Nat → Prop) (w0 : World) (r : Int) : Ending → World → Prop := fun e w => e = .returned (.int .i64 r) ∧ Below w0.heap.size w0 w
def banks_Check_33.l0 (K : Nat) (p0_0 : List Int) (p0_1 : Int) (p0_2 : Int) (p0_3 : List (Int × Int)) : Nat → Int → Option (Lp Int Unit)
 | 0, _ => none
 | k + 1, t26 => cond (decide (t26 < (p0_3.length : Int))) (cond (inR t26 p0_3.length) (Let (fun (t42 : Bool) => cond t42 (some (Lp.ret t26)) (banks_Check_33.l0 K p0_0 p0_1 p0_2 p0_3 k (IntKind.wrap .i64 (t26 + 1)))) (fun j45 => cond (((rdD p0_3 t26).2) == 0) (j45 true) (cond (decide (((rdD p0_3 t26).1) < 0)) (j45 true) (j45 (decide (((rdD p0_3 t26).1) ≥ (IntKind.wrap .i64 (65536 + (IntKind.wrap .i64 (16384 * p0_1)))))))))) none) (some (Lp.go ()))
set_option maxRecDepth 100000 in
theorem banks_Check_33.l0_ok (K : Nat) (M0 : Nat → Prop) (w0 : World) (pA0_0 : Option Addr) (pc0_0 : Nat) (pA0_3 : Option Addr) (pc0_3 : Nat) (p0_0 : List Int) (p0_1 : Int) (p0_2 : Int) (p0_3 : List (Int × Int)) (b25 : Nat) (b27 : Nat) (R : Ending → World → Prop) (x : Lp Int Unit) (hk0 : ∀ (w1 : World), x = Lp.go () → Holds M0 w0 w1 [box b27 26 [.slice pA0_0 p0_0.length pc0_0, .int .i64 p0_1, .int .i64 p0_2, .slice pA0_3 p0_3.length pc0_3], sl (Rp.int .u8) (.slice pA0_0 p0_0.length pc0_0) p0_0, sl (Rp.pair (Rp.int .i64) (Rp.int .u8)) (.slice pA0_3 p0_3.length pc0_3) p0_3] → RunsI F72 [.c 25] [] w1 R) (hk1 : ∀ (t49 : Int) (w1 : World), x = Lp.ret t49 → Holds M0 w0 w1 [box b27 26 [.slice pA0_0 p0_0.length pc0_0, .int .i64 p0_1, .int .i64 p0_2, .slice pA0_3 p0_3.length pc0_3], sl (Rp.int .u8) (.slice pA0_0 p0_0.length pc0_0) p0_0, sl (Rp.pair (Rp.int .i64) (Rp.int .u8)) (.slice pA0_3 p0_3.length pc0_3) p0_3] → R (.returned (.int .i64 t49)) w1) :
  ∀ (k : Nat) (t26 : Int) (w : World), banks_Check_33.l0 K p0_0 p0_1 p0_2 p0_3 k t26 = some x → Holds M0 w0 w [sl (Rp.pair (Rp.int .i64) (Rp.int .u8)) (.slice pA0_3 p0_3.length pc0_3) p0_3, box b25 3 [.int .i64 (IntKind.wrap .i64 (65536 + (IntKind.wrap .i64 (16384 * p0_1))))], box b27 26 [.slice pA0_0 p0_0.length pc0_0, .int .i64 p0_1, .int .i64 p0_2, .slice pA0_3 p0_3.length pc0_3], sl (Rp.int .u8) (.slice pA0_0 p0_0.length pc0_0) p0_0] → RunsI F72 [.c 7, .lp 7, .blk 0, .c 25] [(0, .slice pA0_3 p0_3.length pc0_3), (1, .func (.func 55) #[] #[.pointer (some ⟨b25, 0, none⟩)]), (7, .int .i64 (p0_3.length : Int)), (8, .int .i64 t26)] w R := by
 intro k
 induction k with
 | zero => intro t26 w h hH; exact absurd h (by simp [banks_Check_33.l0])
 | succ k ih =>
  intro t26 w h hH
  rw [banks_Check_33.l0.eq_2] at h
  refine RunsI.g 1 [.c 8, .c 9, .lp 7, .blk 0, .c 25] ?_
  refine RunsI.r ?_
  refine RegI.p 1 [(0, .slice pA0_3 p0_3.length pc0_3), (1, .func (.func 55) #[] #[.pointer (some ⟨b25, 0, none⟩)]), (7, .int .i64 (p0_3.length : Int)), (8, .int .i64 t26), (9, .bool (decide (t26 < (p0_3.length : Int))))] ?_
  refine RegI.d ?_
  refine RunsI.g 1 [.c 10, .c 13, .lp 7, .blk 0, .c 25] ?_
  rcases of_cond h with ⟨hc28, h⟩ | ⟨hc28, h⟩
  ·skip
   refine RunsI.f 9 true hc28 ?_
   refine RunsI.b true 11 ?_
   refine RunsI.g 1 [.c 13, .lp 7, .blk 0, .c 25] ?_
   refine RunsI.g 3 [.c 16, .c 17, .blk 1, .c 24, .lp 7, .blk 0, .c 25] ?_
   refine RunsI.r ?_
   refine RegI.p 2 [(0, .slice pA0_3 p0_3.length pc0_3), (1, .func (.func 55) #[] #[.pointer (some ⟨b25, 0, none⟩)]), (5, .int .i64 t26), (7, .int .i64 (p0_3.length : Int)), (8, .int .i64 t26)] ?_
   refine RegI.d ?_
   refine RunsI.g 1 [.c 18, .c 19, .blk 1, .c 24, .lp 7, .blk 0, .c 25] ?_
   refine RunsI.r ?_
   refine RegI.p 3 [(0, .slice pA0_3 p0_3.length pc0_3), (1, .func (.func 55) #[] #[.pointer (some ⟨b25, 0, none⟩)]), (5, .int .i64 t26), (7, .int .i64 (p0_3.length : Int)), (8, .int .i64 t26), (11, .func (.func 55) #[] #[.pointer (some ⟨b25, 0, none⟩)]), (12, .slice pA0_3 p0_3.length pc0_3), (13, .int .i64 t26)] ?_
   obtain ⟨hc29, h⟩ := of_cond0 h
   refine RegI.o (OpE.idxSl 14 0 24 t26 hH (by kernel_rfl) rfl (by kernel_rfl) (by kernel_rfl) hc29 ?_)
   intro b30 o31 cs32 hk33 h34
   obtain ⟨_, _, rfl, rfl, rfl⟩ := hk33
   refine RegI.o (OpE.loadCel 15 4 64 b30 o31 0 (.agg #[.int .i64 ((rdD p0_3 t26).1), .int .u8 ((rdD p0_3 t26).2)]) h34 (by kernel_rfl) (by kernel_rfl) rfl (by kernel_rfl) ?_)
   refine RegI.enter 16 [0, 1, 5, 7, 8] [(0, .slice pA0_3 p0_3.length pc0_3), (1, .func (.func 55) #[] #[.pointer (some ⟨b25, 0, none⟩)]), (5, .int .i64 t26), (7, .int .i64 (p0_3.length : Int)), (8, .int .i64 t26)] (by kernel_rfl) (by kernel_rfl) (by kernel_rfl) (by kernel_rfl) F55 55 rfl [.agg #[.int .i64 ((rdD p0_3 t26).1), .int .u8 ((rdD p0_3 t26).2)], .pointer (some ⟨b25, 0, none⟩)] (by kernel_rfl) (by kernel_rfl) ?_
   obtain ⟨j45, hJ46, h⟩ := of_let h
   have hj47 : ∀ (t42 : Bool) (w44 : World), j45 t42 = some x → Holds M0 w0 w44 [sl (Rp.pair (Rp.int .i64) (Rp.int .u8)) (.slice pA0_3 p0_3.length pc0_3) p0_3, box b25 3 [.int .i64 (IntKind.wrap .i64 (65536 + (IntKind.wrap .i64 (16384 * p0_1))))], box b27 26 [.slice pA0_0 p0_0.length pc0_0, .int .i64 p0_1, .int .i64 p0_2, .slice pA0_3 p0_3.length pc0_3], sl (Rp.int .u8) (.slice pA0_0 p0_0.length pc0_0) p0_0] → RegI F72 18 [.c 19, .blk 1, .c 24, .lp 7, .blk 0, .c 25] 6 [(0, .slice pA0_3 p0_3.length pc0_3), (1, .func (.func 55) #[] #[.pointer (some ⟨b25, 0, none⟩)]), (5, .int .i64 t26), (7, .int .i64 (p0_3.length : Int)), (8, .int .i64 t26), (16, .bool t42)] w44 R := by
    intro t42 w44 h h43
    rw [hJ46] at h
    clear hJ46
    dsimp only at h
    refine RegI.d ?_
    rcases of_cond h with ⟨hc48, h⟩ | ⟨hc48, h⟩
    ·skip
     refine RunsI.f 16 true hc48 ?_
     refine RunsI.b true 20 ?_
     refine RunsI.g 1 [.c 21, .c 22, .blk 1, .c 24, .lp 7, .blk 0, .c 25] ?_
     refine RunsI.r ?_
     refine RegI.p 2 [(4, .int .i64 t26)] ?_
     refine RegI.d ?_
     refine RunsI.t (.int .i64 t26) ?_
     exact hk1 t26 w44 (Option.some.inj h).symm (h43.pick [2, 3, 0] (by decide))
    ·skip
     refine RunsI.f 16 false hc48 ?_
     refine RunsI.b false 23 ?_
     refine RunsI.g 1 [.blk 1, .c 24, .lp 7, .blk 0, .c 25] ?_
     refine RunsI.g 1 [.c 24, .lp 7, .blk 0, .c 25] ?_
     refine RunsI.r ?_
     refine RegI.p 2 [(0, .slice pA0_3 p0_3.length pc0_3), (1, .func (.func 55) #[] #[.pointer (some ⟨b25, 0, none⟩)]), (7, .int .i64 (p0_3.length : Int)), (8, .int .i64 (IntKind.wrap .i64 (t26 + 1)))] ?_
     refine RegI.d ?_
     refine RunsI.g 1 [.c 7, .lp 7, .blk 0, .c 25] ?_
     refine RunsI.l [0, 1, 7, 8] [(0, .slice pA0_3 p0_3.length pc0_3), (1, .func (.func 55) #[] #[.pointer (some ⟨b25, 0, none⟩)]), (7, .int .i64 (p0_3.length : Int)), (8, .int .i64 (IntKind.wrap .i64 (t26 + 1)))] ?_
     exact ih (IntKind.wrap .i64 (t26 + 1)) w44 h (h43.pick [0, 1, 2, 3] (by decide))
   clear hJ46
   refine RunsI.g 1 [.c 1, .c 2] ?_
   refine RunsI.r ?_
   refine RegI.o (OpE.box 2 64 [.int .i64 ((rdD p0_3 t26).1), .int .u8 ((rdD p0_3 t26).2)] h34 (by kernel_rfl) (by kernel_rfl) ?_)
   intro w35 b36 h37 hb38 hn39
   refine RegI.p 1 [(1, .pointer (some ⟨b25, 0, none⟩)), (2, .pointer (some ⟨b36, 0, none⟩))] ?_
   refine RegI.d ?_
   refine RunsI.g 1 [.c 3, .c 4] ?_
   refine RunsI.r ?_
   refine RegI.p 1 [(1, .pointer (some ⟨b25, 0, none⟩)), (2, .pointer (some ⟨b36, 0, none⟩)), (4, .pointer (some ⟨b36, 1, none⟩))] ?_
   refine RegI.o (OpE.loadBox 5 5 5 b36 1 (.int .u8 ((rdD p0_3 t26).2)) h37 (by kernel_rfl) (by kernel_rfl) rfl (by kernel_rfl) ?_)
   refine RegI.p 2 [(1, .pointer (some ⟨b25, 0, none⟩)), (2, .pointer (some ⟨b36, 0, none⟩)), (7, .bool (((rdD p0_3 t26).2) == 0))] ?_
   rcases of_cond h with ⟨hc40, h⟩ | ⟨hc40, h⟩
   ·skip
    refine RegI.f 7 true hc40 ?_
    refine RegI.p 11 [(3, .bool true)] ?_
    refine RegI.d ?_
    refine RunsI.t (.bool true) ?_
    refine cont_mk ?_
    refine RegI.l [0, 1, 5, 7, 8, 16] [(0, .slice pA0_3 p0_3.length pc0_3), (1, .func (.func 55) #[] #[.pointer (some ⟨b25, 0, none⟩)]), (5, .int .i64 t26), (7, .int .i64 (p0_3.length : Int)), (8, .int .i64 t26), (16, .bool true)] ?_
    exact hj47 true w35 h (h37.pick [0, 1, 2, 3] (by decide))
   ·skip
    refine RegI.f 7 false hc40 ?_
    refine RegI.p 1 [(1, .pointer (some ⟨b25, 0, none⟩)), (2, .pointer (some ⟨b36, 0, none⟩)), (7, .bool false), (8, .pointer (some ⟨b36, 0, none⟩))] ?_
    refine RegI.o (OpE.loadBox 9 5 3 b36 0 (.int .i64 ((rdD p0_3 t26).1)) h37 (by kernel_rfl) (by kernel_rfl) rfl (by kernel_rfl) ?_)
    refine RegI.p 3 [(1, .pointer (some ⟨b25, 0, none⟩)), (2, .pointer (some ⟨b36, 0, none⟩)), (12, .bool (decide (((rdD p0_3 t26).1) < 0)))] ?_
    rcases of_cond h with ⟨hc41, h⟩ | ⟨hc41, h⟩
    ·skip
     refine RegI.f 12 true hc41 ?_
     refine RegI.p 6 [(3, .bool true)] ?_
     refine RegI.d ?_
     refine RunsI.t (.bool true) ?_
     refine cont_mk ?_
     refine RegI.l [0, 1, 5, 7, 8, 16] [(0, .slice pA0_3 p0_3.length pc0_3), (1, .func (.func 55) #[] #[.pointer (some ⟨b25, 0, none⟩)]), (5, .int .i64 t26), (7, .int .i64 (p0_3.length : Int)), (8, .int .i64 t26), (16, .bool true)] ?_
     exact hj47 true w35 h (h37.pick [0, 1, 2, 3] (by decide))
    ·skip
     refine RegI.f 12 false hc41 ?_
     refine RegI.p 1 [(1, .pointer (some ⟨b25, 0, none⟩)), (12, .bool false), (13, .pointer (some ⟨b36, 0, none⟩))] ?_
     refine RegI.o (OpE.loadBox 14 5 3 b36 0 (.int .i64 ((rdD p0_3 t26).1)) h37 (by kernel_rfl) (by kernel_rfl) rfl (by kernel_rfl) ?_)
     refine RegI.o (OpE.loadBox 15 1 3 b25 0 (.int .i64 (IntKind.wrap .i64 (65536 + (IntKind.wrap .i64 (16384 * p0_1))))) h37 (by kernel_rfl) (by kernel_rfl) rfl (by kernel_rfl) ?_)
     refine RegI.p 3 [(3, .bool (decide (((rdD p0_3 t26).1) ≥ (IntKind.wrap .i64 (65536 + (IntKind.wrap .i64 (16384 * p0_1)))))))] ?_
     refine RegI.d ?_
     refine RunsI.t (.bool (decide (((rdD p0_3 t26).1) ≥ (IntKind.wrap .i64 (65536 + (IntKind.wrap .i64 (16384 * p0_1))))))) ?_
     refine cont_mk ?_
     refine RegI.l [0, 1, 5, 7, 8, 16] [(0, .slice pA0_3 p0_3.length pc0_3), (1, .func (.func 55) #[] #[.pointer (some ⟨b25, 0, none⟩)]), (5, .int .i64 t26), (7, .int .i64 (p0_3.length : Int)), (8, .int .i64 t26), (16, .bool (decide (((rdD p0_3 t26).1) ≥ (IntKind.wrap .i64 (65536 + (IntKind.wrap .i64 (16384 * p0_1)))))))] ?_
     exact hj47 (decide (((rdD p0_3 t26).1) ≥ (IntKind.wrap .i64 (65536 + (IntKind.wrap .i64 (16384 * p0_1)))))) w35 h (h37.pick [0, 1, 2, 3] (by decide))
  ·skip
   refine RunsI.f 9 false hc28 ?_
   refine RunsI.b false 12 ?_
   refine RunsI.g 1 [.c 25] ?_
   refine RunsI.l [] [] ?_
   exact hk0 w (Option.some.inj h).symm (hH.pick [2, 3, 0] (by decide))
def banks_Check_33.l1 (K : Nat) (p0_0 : List Int) (p0_1 : Int) (p0_2 : Int) (p0_3 : List (Int × Int)) : Nat → Int → Option (Lp Unit Unit)
 | 0, _ => none
 | k + 1, t64 => cond (decide (t64 < (p0_3.length : Int))) (cond (inR t64 p0_3.length) ((banks_Check_2_58.f K ((rdD p0_3 t64).1) ((rdD p0_3 t64).2)).bind fun t77 => cond (inR (IntKind.wrap .i64 (t64 - 1)) p0_3.length) ((banks_Check_2_58.f K ((rdD p0_3 (IntKind.wrap .i64 (t64 - 1))).1) ((rdD p0_3 (IntKind.wrap .i64 (t64 - 1))).2)).bind fun t85 => cond (decide (t77 ≤ t85)) (some (Lp.ret ())) (banks_Check_33.l1 K p0_0 p0_1 p0_2 p0_3 k (IntKind.wrap .i64 (t64 + 1)))) none) none) (some (Lp.go ()))
set_option maxRecDepth 100000 in
theorem banks_Check_33.l1_ok (K : Nat) (M0 : Nat → Prop) (w0 : World) (pA0_0 : Option Addr) (pc0_0 : Nat) (pA0_3 : Option Addr) (pc0_3 : Nat) (p0_0 : List Int) (p0_1 : Int) (p0_2 : Int) (p0_3 : List (Int × Int)) (R : Ending → World → Prop) (x : Lp Unit Unit) (hk0 : ∀ (w1 : World), x = Lp.go () → Holds M0 w0 w1 [] → RunsI F57 [.c 23] [] w1 R) (hk1 : ∀ (w1 : World), x = Lp.ret () → Holds M0 w0 w1 [] → R (.returned (.bool false)) w1) :
  ∀ (k : Nat) (t64 : Int) (w : World), banks_Check_33.l1 K p0_0 p0_1 p0_2 p0_3 k t64 = some x → Holds M0 w0 w [sl (Rp.pair (Rp.int .i64) (Rp.int .u8)) (.slice pA0_3 p0_3.length pc0_3) p0_3] → RunsI F57 [.c 7, .lp 7, .blk 0, .c 23] [(0, .slice pA0_3 p0_3.length pc0_3), (1, .func (.func 58) #[] #[]), (5, .int .i64 t64)] w R := by
 intro k
 induction k with
 | zero => intro t64 w h hH; exact absurd h (by simp [banks_Check_33.l1])
 | succ k ih =>
  intro t64 w h hH
  rw [banks_Check_33.l1.eq_2] at h
  refine RunsI.g 1 [.c 8, .c 13, .lp 7, .blk 0, .c 23] ?_
  refine RunsI.g 1 [.c 9, .c 10, .c 13, .lp 7, .blk 0, .c 23] ?_
  refine RunsI.r ?_
  refine RegI.p 4 [(0, .slice pA0_3 p0_3.length pc0_3), (1, .func (.func 58) #[] #[]), (5, .int .i64 t64), (9, .bool (decide (t64 < (p0_3.length : Int))))] ?_
  refine RegI.d ?_
  rcases of_cond h with ⟨hc65, h⟩ | ⟨hc65, h⟩
  ·skip
   refine RunsI.f 9 true hc65 ?_
   refine RunsI.b true 11 ?_
   refine RunsI.g 1 [.c 13, .lp 7, .blk 0, .c 23] ?_
   refine RunsI.g 3 [.c 16, .c 17, .blk 1, .c 22, .lp 7, .blk 0, .c 23] ?_
   refine RunsI.any 14 (by kernel_rfl) (by kernel_rfl) (by kernel_rfl) (Kp ([] : List Nat) (World.drew w)) ?_
   have h67 := hH.drew
   generalize World.drew w = w66 at h67 ⊢
   have hS68 := Kp.refl ([] : List Nat) w66
   refine AnyE.pure 0 12 (.func (.func 58) #[] #[]) (by kernel_rfl) hS68 (fun _ => by kernel_rfl) ?_
   refine AnyE.pure 1 13 (.slice pA0_3 p0_3.length pc0_3) (by kernel_rfl) hS68 (fun _ => by kernel_rfl) ?_
   refine AnyE.pure 2 14 (.int .i64 t64) (by kernel_rfl) hS68 (fun _ => by kernel_rfl) ?_
   obtain ⟨hc70, h⟩ := of_cond0 h
   refine AnyE.idxSl 3 15 0 24 t64 h67 (by kernel_rfl) hS68 rfl (by kernel_rfl) (by kernel_rfl) hc70 ?_
   intro b71 o72 cs73 hk74 h75
   obtain ⟨_, _, rfl, rfl, rfl⟩ := hk74
   refine AnyE.loadCel 4 16 1 64 b71 o72 0 (.agg #[.int .i64 ((rdD p0_3 t64).1), .int .u8 ((rdD p0_3 t64).2)]) [] h75 rfl (by kernel_rfl) hS68 rfl rfl (by kernel_rfl) (by kernel_rfl) ?_
   obtain ⟨t77, hg76, h⟩ := of_bind h
   refine AnyE.call 5 17 (.int .i64 t77) 58 #[.agg #[.int .i64 ((rdD p0_3 t64).1), .int .u8 ((rdD p0_3 t64).2)]] (by kernel_rfl) hS68 (fun _ => by kernel_rfl) (fun w hk => banks_Check_2_58_ok K (fun _ => False) w ((rdD p0_3 t64).1) ((rdD p0_3 t64).2) (fun _ hf => hf.elim) hg76) ?_
   refine AnyE.pure 6 18 (.func (.func 58) #[] #[]) (by kernel_rfl) hS68 (fun _ => by kernel_rfl) ?_
   refine AnyE.pure 7 19 (.slice pA0_3 p0_3.length pc0_3) (by kernel_rfl) hS68 (fun _ => by kernel_rfl) ?_
   refine AnyE.pure 8 20 (.int .i64 t64) (by kernel_rfl) hS68 (fun _ => by kernel_rfl) ?_
   refine AnyE.pure 9 21 (.int .i64 (IntKind.wrap .i64 (t64 - 1))) (by kernel_rfl) hS68 (fun _ => by kernel_rfl) ?_
   obtain ⟨hc78, h⟩ := of_cond0 h
   refine AnyE.idxSl 10 22 0 24 (IntKind.wrap .i64 (t64 - 1)) h75 (by kernel_rfl) hS68 rfl (by kernel_rfl) (by kernel_rfl) hc78 ?_
   intro b79 o80 cs81 hk82 h83
   obtain ⟨_, _, rfl, rfl, rfl⟩ := hk82
   refine AnyE.loadCel 11 23 2 64 b79 o80 0 (.agg #[.int .i64 ((rdD p0_3 (IntKind.wrap .i64 (t64 - 1))).1), .int .u8 ((rdD p0_3 (IntKind.wrap .i64 (t64 - 1))).2)]) [] h83 rfl (by kernel_rfl) hS68 rfl rfl (by kernel_rfl) (by kernel_rfl) ?_
   obtain ⟨t85, hg84, h⟩ := of_bind h
   refine AnyE.call 12 24 (.int .i64 t85) 58 #[.agg #[.int .i64 ((rdD p0_3 (IntKind.wrap .i64 (t64 - 1))).1), .int .u8 ((rdD p0_3 (IntKind.wrap .i64 (t64 - 1))).2)]] (by kernel_rfl) hS68 (fun _ => by kernel_rfl) (fun w hk => banks_Check_2_58_ok K (fun _ => False) w ((rdD p0_3 (IntKind.wrap .i64 (t64 - 1))).1) ((rdD p0_3 (IntKind.wrap .i64 (t64 - 1))).2) (fun _ hf => hf.elim) hg84) ?_
   refine AnyE.pure 13 25 (.bool (decide (t77 ≤ t85))) (by kernel_rfl) hS68 (fun _ => by kernel_rfl) ?_
   refine AnyE.done (by kernel_rfl) (fun w86 hu87 => ?_)
   have h88 := h83.call hu87
   refine RunsI.l [0, 1, 5, 25] [(0, .slice pA0_3 p0_3.length pc0_3), (1, .func (.func 58) #[] #[]), (5, .int .i64 t64), (25, .bool (decide (t77 ≤ t85)))] ?_
   rcases of_cond h with ⟨hc89, h⟩ | ⟨hc89, h⟩
   ·skip
    refine RunsI.f 25 true hc89 ?_
    refine RunsI.b true 18 ?_
    refine RunsI.g 1 [.c 19, .c 20, .blk 1, .c 22, .lp 7, .blk 0, .c 23] ?_
    refine RunsI.r ?_
    refine RegI.p 1 [(4, .bool false)] ?_
    refine RegI.d ?_
    refine RunsI.t (.bool false) ?_
    exact hk1 w86 (Option.some.inj h).symm (h88.pick [] (by decide))
   ·skip
    refine RunsI.f 25 false hc89 ?_
    refine RunsI.b false 21 ?_
    refine RunsI.g 1 [.blk 1, .c 22, .lp 7, .blk 0, .c 23] ?_
    refine RunsI.g 1 [.c 22, .lp 7, .blk 0, .c 23] ?_
    refine RunsI.r ?_
    refine RegI.p 3 [(0, .slice pA0_3 p0_3.length pc0_3), (1, .func (.func 58) #[] #[]), (5, .int .i64 (IntKind.wrap .i64 (t64 + 1)))] ?_
    refine RegI.d ?_
    refine RunsI.g 1 [.c 7, .lp 7, .blk 0, .c 23] ?_
    refine RunsI.l [0, 1, 5] [(0, .slice pA0_3 p0_3.length pc0_3), (1, .func (.func 58) #[] #[]), (5, .int .i64 (IntKind.wrap .i64 (t64 + 1)))] ?_
    exact ih (IntKind.wrap .i64 (t64 + 1)) w86 h (h88.pick [0] (by decide))
  ·skip
   refine RunsI.f 9 false hc65 ?_
   refine RunsI.b false 12 ?_
   refine RunsI.g 1 [.c 23] ?_
   refine RunsI.l [] [] ?_
   exact hk0 w (Option.some.inj h).symm (hH.pick [] (by decide))
def banks_Check_33.f (K : Nat) (p0_0 : List Int) (p0_1 : Int) (p0_2 : Int) (p0_3 : List (Int × Int)) : Option Int := Let (fun (t10 : Bool) => cond t10 (some 140) (Let (fun (t57 : Int) => Let (fun (t102 : Bool) => cond t102 (some 140) (some 0)) (fun j105 => cond (decide (t57 ≥ 0)) (j105 true) (Let (fun (t96 : Bool) => j105 (!t96)) (fun j99 => (banks_Check_33.l1 K p0_0 p0_1 p0_2 p0_3 K 1).bind (fun x90 => Lp.elim x90 (fun _ => j99 false) (fun _ => j99 true)))))) (fun j60 => (banks_Check_33.l0 K p0_0 p0_1 p0_2 p0_3 K 0).bind (fun x50 => Lp.elim x50 (fun t54 => j60 t54) (fun _ => j60 (-1)))))) (fun j13 => cond (decide ((p0_0.length : Int) > 32768)) (j13 true) (cond (decide (p0_1 < 1)) (j13 true) (cond (decide (p0_1 > 8)) (j13 true) (cond (decide (p0_2 < 0)) (j13 true) (j13 (decide (p0_2 ≥ p0_1)))))))
set_option maxRecDepth 100000 in
theorem banks_Check_33_ok (K : Nat) (M0 : Nat → Prop) (w0 : World) (pA0_0 : Option Addr) (pc0_0 : Nat) (pA0_3 : Option Addr) (pc0_3 : Nat) (p0_0 : List Int) (p0_1 : Int) (p0_2 : Int) (p0_3 : List (Int × Int)) (ho : ∀ b, M0 b → b < w0.heap.size) (hs0_0 : Sl (Rp.int .u8) w0 M0 (.slice pA0_0 p0_0.length pc0_0) p0_0) (hs0_3 : Sl (Rp.pair (Rp.int .i64) (Rp.int .u8)) w0 M0 (.slice pA0_3 p0_3.length pc0_3) p0_3) {r : Int} (h : banks_Check_33.f K p0_0 p0_1 p0_2 p0_3 = some r) :
  Calls Tryd.prog 33 #[.agg #[.slice pA0_0 p0_0.length pc0_0, .int .i64 p0_1, .int .i64 p0_2, .slice pA0_3 p0_3.length pc0_3]] w0 (banks_Check_33.post M0 w0 r) := by
 unfold banks_Check_33.f at h
 have h0 : Holds M0 w0 w0 [] := Holds.start ho
 have h00_0 := h0.addSl (Rp.int .u8) (.slice pA0_0 p0_0.length pc0_0) p0_0 (hs0_0.mono (fun _ _ hm => hm.elim id (fun hm => absurd hm (by simp [mines, sl]))))
 have h00_3 := h00_0.addSl (Rp.pair (Rp.int .i64) (Rp.int .u8)) (.slice pA0_3 p0_3.length pc0_3) p0_3 (hs0_3.mono (fun _ _ hm => hm.elim id (fun hm => absurd hm (by simp [mines, sl]))))
 have h0 : Holds M0 w0 w0 [sl (Rp.int .u8) (.slice pA0_0 p0_0.length pc0_0) p0_0, sl (Rp.pair (Rp.int .i64) (Rp.int .u8)) (.slice pA0_3 p0_3.length pc0_3) p0_3] := h00_3
 refine calls_of F33 rfl [.agg #[.slice pA0_0 p0_0.length pc0_0, .int .i64 p0_1, .int .i64 p0_2, .slice pA0_3 p0_3.length pc0_3]] (by kernel_rfl) ?_
 refine RunsI.g 1 [.c 1, .c 2] ?_
 refine RunsI.r ?_
 refine RegI.o (OpE.box 1 26 [.slice pA0_0 p0_0.length pc0_0, .int .i64 p0_1, .int .i64 p0_2, .slice pA0_3 p0_3.length pc0_3] h0 (by kernel_rfl) (by kernel_rfl) ?_)
 intro w1 b2 h3 hb4 hn5
 refine RegI.p 1 [(1, .pointer (some ⟨b2, 0, none⟩))] ?_
 refine RegI.d ?_
 refine RunsI.g 2 [.c 4, .c 5, .c 10] ?_
 refine RunsI.r ?_
 refine RegI.p 1 [(1, .pointer (some ⟨b2, 0, none⟩)), (5, .pointer (some ⟨b2, 0, none⟩))] ?_
 refine RegI.o (OpE.loadBox 6 2 22 b2 0 (.slice pA0_0 p0_0.length pc0_0) h3 (by kernel_rfl) (by kernel_rfl) rfl (by kernel_rfl) ?_)
 refine RegI.p 3 [(1, .pointer (some ⟨b2, 0, none⟩)), (9, .bool (decide ((p0_0.length : Int) > 32768)))] ?_
 obtain ⟨j13, hJ14, h⟩ := of_let h
 have hj15 : ∀ (t10 : Bool) (w12 : World), j13 t10 = some r → Holds M0 w0 w12 [box b2 26 [.slice pA0_0 p0_0.length pc0_0, .int .i64 p0_1, .int .i64 p0_2, .slice pA0_3 p0_3.length pc0_3], sl (Rp.int .u8) (.slice pA0_0 p0_0.length pc0_0) p0_0, sl (Rp.pair (Rp.int .i64) (Rp.int .u8)) (.slice pA0_3 p0_3.length pc0_3) p0_3] → RegI F33 4 [.c 5, .c 10] 26 [(1, .pointer (some ⟨b2, 0, none⟩)), (30, .bool t10)] w12 (banks_Check_33.post M0 w0 r) := by
  intro t10 w12 h h11
  rw [hJ14] at h
  clear hJ14
  dsimp only at h
  refine RegI.d ?_
  rcases of_cond h with ⟨hc16, h⟩ | ⟨hc16, h⟩
  ·skip
   refine RunsI.f 30 true hc16 ?_
   refine RunsI.b true 6 ?_
   refine RunsI.g 1 [.c 7, .c 8, .c 10] ?_
   refine RunsI.r ?_
   refine RegI.p 1 [(2, .int .i64 140)] ?_
   refine RegI.d ?_
   refine RunsI.t (.int .i64 140) ?_
   obtain rfl := Option.some.inj h
   exact ⟨rfl, h11.below⟩
  ·skip
   refine RunsI.f 30 false hc16 ?_
   refine RunsI.b false 9 ?_
   refine RunsI.g 1 [.c 10] ?_
   refine RunsI.g 1 [.c 11, .c 12] ?_
   refine RunsI.r ?_
   refine RegI.p 1 [(1, .pointer (some ⟨b2, 0, none⟩)), (31, .pointer (some ⟨b2, 1, none⟩))] ?_
   refine RegI.o (OpE.loadBox 32 0 3 b2 1 (.int .i64 p0_1) h11 (by kernel_rfl) (by kernel_rfl) rfl (by kernel_rfl) ?_)
   refine RegI.p 2 [(1, .pointer (some ⟨b2, 0, none⟩)), (34, .int .i64 (IntKind.wrap .i64 (65536 + (IntKind.wrap .i64 (16384 * p0_1)))))] ?_
   refine RegI.o (OpE.box 3 3 [.int .i64 0] h11 (by kernel_rfl) (by kernel_rfl) ?_)
   intro w17 b18 h19 hb20 hn21
   refine RegI.o (OpE.storeBox 3 3 b18 0 (.int .i64 (IntKind.wrap .i64 (65536 + (IntKind.wrap .i64 (16384 * p0_1))))) [.int .i64 (IntKind.wrap .i64 (65536 + (IntKind.wrap .i64 (16384 * p0_1))))] h19 (by kernel_rfl) (by kernel_rfl) rfl (by kernel_rfl) (by kernel_rfl) (by kernel_rfl) ?_)
   intro w22 h23 hk24
   refine RegI.d ?_
   refine RunsI.g 1 [.c 13, .c 14] ?_
   refine RunsI.r ?_
   refine RegI.p 2 [(1, .pointer (some ⟨b2, 0, none⟩)), (4, .func (.func 55) #[] #[.pointer (some ⟨b18, 0, none⟩)])] ?_
   refine RegI.d ?_
   refine RunsI.g 2 [.c 16, .c 17, .c 22] ?_
   refine RunsI.r ?_
   refine RegI.p 1 [(1, .pointer (some ⟨b2, 0, none⟩)), (4, .func (.func 55) #[] #[.pointer (some ⟨b18, 0, none⟩)]), (36, .pointer (some ⟨b2, 3, none⟩))] ?_
   refine RegI.o (OpE.loadBox 37 0 24 b2 3 (.slice pA0_3 p0_3.length pc0_3) h23 (by kernel_rfl) (by kernel_rfl) rfl (by kernel_rfl) ?_)
   refine RegI.p 1 [(1, .pointer (some ⟨b2, 0, none⟩)), (37, .slice pA0_3 p0_3.length pc0_3), (38, .func (.func 55) #[] #[.pointer (some ⟨b18, 0, none⟩)])] ?_
   refine RegI.enter 39 [1] [(1, .pointer (some ⟨b2, 0, none⟩))] (by kernel_rfl) (by kernel_rfl) (by kernel_rfl) (by kernel_rfl) F56 56 rfl [.slice pA0_3 p0_3.length pc0_3, .func (.func 55) #[] #[.pointer (some ⟨b18, 0, none⟩)]] (by kernel_rfl) (by kernel_rfl) ?_
   refine RunsI.g 1 [.c 1, .c 2] ?_
   refine RunsI.r ?_
   refine RegI.p 1 [(0, .slice pA0_3 p0_3.length pc0_3), (1, .func (.func 55) #[] #[.pointer (some ⟨b18, 0, none⟩)])] ?_
   refine RegI.d ?_
   refine RunsI.g 1 [.c 3, .c 4] ?_
   refine RunsI.r ?_
   refine RegI.p 2 [(5, .slice pA0_3 p0_3.length pc0_3), (6, .func (.func 55) #[] #[.pointer (some ⟨b18, 0, none⟩)])] ?_
   refine RegI.enter 7 [] [] (by kernel_rfl) (by kernel_rfl) (by kernel_rfl) (by kernel_rfl) F72 72 rfl [.slice pA0_3 p0_3.length pc0_3, .func (.func 55) #[] #[.pointer (some ⟨b18, 0, none⟩)]] (by kernel_rfl) (by kernel_rfl) ?_
   obtain ⟨j60, hJ61, h⟩ := of_let h
   have hj62 : ∀ (t57 : Int) (w59 : World), j60 t57 = some r → Holds M0 w0 w59 [box b2 26 [.slice pA0_0 p0_0.length pc0_0, .int .i64 p0_1, .int .i64 p0_2, .slice pA0_3 p0_3.length pc0_3], sl (Rp.int .u8) (.slice pA0_0 p0_0.length pc0_0) p0_0, sl (Rp.pair (Rp.int .i64) (Rp.int .u8)) (.slice pA0_3 p0_3.length pc0_3) p0_3] → RegI F56 3 [.c 4] 3 [(7, .int .i64 t57)] w59 (cont (fun e' w' => RegI F33 16 [.c 17, .c 22] 4 e' w' (banks_Check_33.post M0 w0 r)) 39 [(1, .pointer (some ⟨b2, 0, none⟩))]) := by
    intro t57 w59 h h58
    rw [hJ61] at h
    clear hJ61
    dsimp only at h
    refine RegI.p 2 [(4, .bool (decide (t57 ≥ 0)))] ?_
    refine RegI.d ?_
    refine RunsI.t (.bool (decide (t57 ≥ 0))) ?_
    refine cont_mk ?_
    refine RegI.p 1 [(1, .pointer (some ⟨b2, 0, none⟩)), (40, .bool (decide (t57 ≥ 0)))] ?_
    obtain ⟨j105, hJ106, h⟩ := of_let h
    have hj107 : ∀ (t102 : Bool) (w104 : World), j105 t102 = some r → Holds M0 w0 w104 [] → RegI F33 16 [.c 17, .c 22] 10 [(45, .bool t102)] w104 (banks_Check_33.post M0 w0 r) := by
     intro t102 w104 h h103
     rw [hJ106] at h
     clear hJ106
     dsimp only at h
     refine RegI.d ?_
     rcases of_cond h with ⟨hc108, h⟩ | ⟨hc108, h⟩
     ·skip
      refine RunsI.f 45 true hc108 ?_
      refine RunsI.b true 18 ?_
      refine RunsI.g 1 [.c 19, .c 20, .c 22] ?_
      refine RunsI.r ?_
      refine RegI.p 1 [(2, .int .i64 140)] ?_
      refine RegI.d ?_
      refine RunsI.t (.int .i64 140) ?_
      obtain rfl := Option.some.inj h
      exact ⟨rfl, h103.below⟩
     ·skip
      refine RunsI.f 45 false hc108 ?_
      refine RunsI.b false 21 ?_
      refine RunsI.g 1 [.c 22] ?_
      refine RunsI.g 1 [.c 23, .c 24] ?_
      refine RunsI.r ?_
      refine RegI.p 1 [(2, .int .i64 0)] ?_
      refine RegI.d ?_
      refine RunsI.t (.int .i64 0) ?_
      obtain rfl := Option.some.inj h
      exact ⟨rfl, h103.below⟩
    clear hJ106
    rcases of_cond h with ⟨hc63, h⟩ | ⟨hc63, h⟩
    ·skip
     refine RegI.f 40 true hc63 ?_
     refine RegI.p 5 [(45, .bool true)] ?_
     refine RegI.l [45] [(45, .bool true)] ?_
     exact hj107 true w59 h (h58.pick [] (by decide))
    ·skip
     refine RegI.f 40 false hc63 ?_
     refine RegI.p 1 [(40, .bool false), (41, .pointer (some ⟨b2, 3, none⟩))] ?_
     refine RegI.o (OpE.loadBox 42 0 24 b2 3 (.slice pA0_3 p0_3.length pc0_3) h58 (by kernel_rfl) (by kernel_rfl) rfl (by kernel_rfl) ?_)
     refine RegI.enter 43 [40] [(40, .bool false)] (by kernel_rfl) (by kernel_rfl) (by kernel_rfl) (by kernel_rfl) F57 57 rfl [.slice pA0_3 p0_3.length pc0_3, .func (.func 58) #[] #[]] (by kernel_rfl) (by kernel_rfl) ?_
     obtain ⟨j99, hJ100, h⟩ := of_let h
     have hj101 : ∀ (t96 : Bool) (w98 : World), j99 t96 = some r → Holds M0 w0 w98 [] → RegI F33 16 [.c 17, .c 22] 8 [(40, .bool false), (43, .bool t96)] w98 (banks_Check_33.post M0 w0 r) := by
      intro t96 w98 h h97
      rw [hJ100] at h
      clear hJ100
      dsimp only at h
      refine RegI.p 2 [(45, .bool (!t96))] ?_
      refine RegI.l [45] [(45, .bool (!t96))] ?_
      exact hj107 (!t96) w98 h (h97.pick [] (by decide))
     clear hJ100
     refine RunsI.g 1 [.c 1, .c 2] ?_
     refine RunsI.r ?_
     refine RegI.p 1 [(0, .slice pA0_3 p0_3.length pc0_3), (1, .func (.func 58) #[] #[])] ?_
     refine RegI.d ?_
     refine RunsI.g 2 [.c 4, .c 5, .c 23] ?_
     refine RunsI.r ?_
     refine RegI.p 1 [(0, .slice pA0_3 p0_3.length pc0_3), (1, .func (.func 58) #[] #[]), (5, .int .i64 1)] ?_
     refine RegI.d ?_
     refine RunsI.g 2 [.c 7, .lp 7, .blk 0, .c 23] ?_
     obtain ⟨x90, hx91, h⟩ := of_bind h
     refine RunsI.l [0, 1, 5] [(0, .slice pA0_3 p0_3.length pc0_3), (1, .func (.func 58) #[] #[]), (5, .int .i64 1)] ?_
     refine banks_Check_33.l1_ok K M0 w0 pA0_0 pc0_0 pA0_3 pc0_3 p0_0 p0_1 p0_2 p0_3 _ x90 ?_ ?_ K 1 w59 hx91 (h58.pick [2] (by decide))
     ·intro w93 hq109 h92
      (try rw [hq109] at h)
      dsimp only [Lp.elim] at h
      refine RunsI.g 1 [.c 24, .c 25] ?_
      refine RunsI.r ?_
      refine RegI.p 1 [(4, .bool true)] ?_
      refine RegI.d ?_
      refine RunsI.t (.bool true) ?_
      refine cont_mk ?_
      refine RegI.l [40, 43] [(40, .bool false), (43, .bool true)] ?_
      exact hj101 true w93 h (h92.pick [] (by decide))
     ·intro w95 hq110 h94
      (try rw [hq110] at h)
      dsimp only [Lp.elim] at h
      refine cont_mk ?_
      refine RegI.l [40, 43] [(40, .bool false), (43, .bool false)] ?_
      exact hj101 false w95 h (h94.pick [] (by decide))
   clear hJ61
   refine RunsI.g 1 [.c 1, .c 2] ?_
   refine RunsI.r ?_
   refine RegI.p 1 [(0, .slice pA0_3 p0_3.length pc0_3), (1, .func (.func 55) #[] #[.pointer (some ⟨b18, 0, none⟩)])] ?_
   refine RegI.d ?_
   refine RunsI.g 2 [.c 4, .c 5, .c 25] ?_
   refine RunsI.r ?_
   refine RegI.p 3 [(0, .slice pA0_3 p0_3.length pc0_3), (1, .func (.func 55) #[] #[.pointer (some ⟨b18, 0, none⟩)]), (7, .int .i64 (p0_3.length : Int)), (8, .int .i64 0)] ?_
   refine RegI.d ?_
   refine RunsI.g 2 [.c 7, .lp 7, .blk 0, .c 25] ?_
   obtain ⟨x50, hx51, h⟩ := of_bind h
   refine RunsI.l [0, 1, 7, 8] [(0, .slice pA0_3 p0_3.length pc0_3), (1, .func (.func 55) #[] #[.pointer (some ⟨b18, 0, none⟩)]), (7, .int .i64 (p0_3.length : Int)), (8, .int .i64 0)] ?_
   refine banks_Check_33.l0_ok K M0 w0 pA0_0 pc0_0 pA0_3 pc0_3 p0_0 p0_1 p0_2 p0_3 b18 b2 _ x50 ?_ ?_ K 0 w22 hx51 (h23.pick [2, 3, 0, 1] (by decide))
   ·intro w53 hq111 h52
    (try rw [hq111] at h)
    dsimp only [Lp.elim] at h
    refine RunsI.g 1 [.c 26, .c 27] ?_
    refine RunsI.r ?_
    refine RegI.p 1 [(4, .int .i64 (-1))] ?_
    refine RegI.d ?_
    refine RunsI.t (.int .i64 (-1)) ?_
    refine cont_mk ?_
    refine RegI.l [7] [(7, .int .i64 (-1))] ?_
    exact hj62 (-1) w53 h (h52.pick [0, 1, 2] (by decide))
   ·intro t54 w56 hq112 h55
    (try rw [hq112] at h)
    dsimp only [Lp.elim] at h
    refine cont_mk ?_
    refine RegI.l [7] [(7, .int .i64 t54)] ?_
    exact hj62 t54 w56 h (h55.pick [0, 1, 2] (by decide))
 clear hJ14
 rcases of_cond h with ⟨hc6, h⟩ | ⟨hc6, h⟩
 ·skip
  refine RegI.f 9 true hc6 ?_
  refine RegI.p 21 [(1, .pointer (some ⟨b2, 0, none⟩)), (30, .bool true)] ?_
  refine RegI.l [1, 30] [(1, .pointer (some ⟨b2, 0, none⟩)), (30, .bool true)] ?_
  exact hj15 true w1 h (h3.pick [2, 0, 1] (by decide))
 ·skip
  refine RegI.f 9 false hc6 ?_
  refine RegI.p 1 [(1, .pointer (some ⟨b2, 0, none⟩)), (9, .bool false), (10, .pointer (some ⟨b2, 1, none⟩))] ?_
  refine RegI.o (OpE.loadBox 11 2 3 b2 1 (.int .i64 p0_1) h3 (by kernel_rfl) (by kernel_rfl) rfl (by kernel_rfl) ?_)
  refine RegI.p 3 [(1, .pointer (some ⟨b2, 0, none⟩)), (14, .bool (decide (p0_1 < 1)))] ?_
  rcases of_cond h with ⟨hc7, h⟩ | ⟨hc7, h⟩
  ·skip
   refine RegI.f 14 true hc7 ?_
   refine RegI.p 16 [(1, .pointer (some ⟨b2, 0, none⟩)), (30, .bool true)] ?_
   refine RegI.l [1, 30] [(1, .pointer (some ⟨b2, 0, none⟩)), (30, .bool true)] ?_
   exact hj15 true w1 h (h3.pick [2, 0, 1] (by decide))
  ·skip
   refine RegI.f 14 false hc7 ?_
   refine RegI.p 1 [(1, .pointer (some ⟨b2, 0, none⟩)), (14, .bool false), (15, .pointer (some ⟨b2, 1, none⟩))] ?_
   refine RegI.o (OpE.loadBox 16 2 3 b2 1 (.int .i64 p0_1) h3 (by kernel_rfl) (by kernel_rfl) rfl (by kernel_rfl) ?_)
   refine RegI.p 3 [(1, .pointer (some ⟨b2, 0, none⟩)), (19, .bool (decide (p0_1 > 8)))] ?_
   rcases of_cond h with ⟨hc8, h⟩ | ⟨hc8, h⟩
   ·skip
    refine RegI.f 19 true hc8 ?_
    refine RegI.p 11 [(1, .pointer (some ⟨b2, 0, none⟩)), (30, .bool true)] ?_
    refine RegI.l [1, 30] [(1, .pointer (some ⟨b2, 0, none⟩)), (30, .bool true)] ?_
    exact hj15 true w1 h (h3.pick [2, 0, 1] (by decide))
   ·skip
    refine RegI.f 19 false hc8 ?_
    refine RegI.p 1 [(1, .pointer (some ⟨b2, 0, none⟩)), (19, .bool false), (20, .pointer (some ⟨b2, 2, none⟩))] ?_
    refine RegI.o (OpE.loadBox 21 2 3 b2 2 (.int .i64 p0_2) h3 (by kernel_rfl) (by kernel_rfl) rfl (by kernel_rfl) ?_)
    refine RegI.p 3 [(1, .pointer (some ⟨b2, 0, none⟩)), (24, .bool (decide (p0_2 < 0)))] ?_
    rcases of_cond h with ⟨hc9, h⟩ | ⟨hc9, h⟩
    ·skip
     refine RegI.f 24 true hc9 ?_
     refine RegI.p 6 [(1, .pointer (some ⟨b2, 0, none⟩)), (30, .bool true)] ?_
     refine RegI.l [1, 30] [(1, .pointer (some ⟨b2, 0, none⟩)), (30, .bool true)] ?_
     exact hj15 true w1 h (h3.pick [2, 0, 1] (by decide))
    ·skip
     refine RegI.f 24 false hc9 ?_
     refine RegI.p 1 [(1, .pointer (some ⟨b2, 0, none⟩)), (24, .bool false), (25, .pointer (some ⟨b2, 2, none⟩))] ?_
     refine RegI.o (OpE.loadBox 26 2 3 b2 2 (.int .i64 p0_2) h3 (by kernel_rfl) (by kernel_rfl) rfl (by kernel_rfl) ?_)
     refine RegI.p 1 [(1, .pointer (some ⟨b2, 0, none⟩)), (24, .bool false), (26, .int .i64 p0_2), (27, .pointer (some ⟨b2, 1, none⟩))] ?_
     refine RegI.o (OpE.loadBox 28 2 3 b2 1 (.int .i64 p0_1) h3 (by kernel_rfl) (by kernel_rfl) rfl (by kernel_rfl) ?_)
     refine RegI.p 2 [(1, .pointer (some ⟨b2, 0, none⟩)), (30, .bool (decide (p0_2 ≥ p0_1)))] ?_
     refine RegI.l [1, 30] [(1, .pointer (some ⟨b2, 0, none⟩)), (30, .bool (decide (p0_2 ≥ p0_1)))] ?_
     exact hj15 (decide (p0_2 ≥ p0_1)) w1 h (h3.pick [2, 0, 1] (by decide))
end

/-! ### charabanc/image.Check (function 18) -/
section
def image_Check_18.post (M0 : Nat → Prop) (w0 : World) (r : Int) : Ending → World → Prop := fun e w => e = .returned (.int .i64 r) ∧ Below w0.heap.size w0 w
def image_Check_18.f (K : Nat) (p0_0_0 : List Int) (p0_0_1 : Int) (p0_0_2 : Int) (p0_0_3 : List (Int × Int)) (p0_1 : Int) : Option Int := (banks_Check_33.f K p0_0_0 p0_0_1 p0_0_2 p0_0_3).bind fun t10 => some t10
set_option maxRecDepth 100000 in
theorem image_Check_18_ok (K : Nat) (M0 : Nat → Prop) (w0 : World) (pA0_0_0 : Option Addr) (pc0_0_0 : Nat) (pA0_0_3 : Option Addr) (pc0_0_3 : Nat) (p0_0_0 : List Int) (p0_0_1 : Int) (p0_0_2 : Int) (p0_0_3 : List (Int × Int)) (p0_1 : Int) (ho : ∀ b, M0 b → b < w0.heap.size) (hs0_0_0 : Sl (Rp.int .u8) w0 M0 (.slice pA0_0_0 p0_0_0.length pc0_0_0) p0_0_0) (hs0_0_3 : Sl (Rp.pair (Rp.int .i64) (Rp.int .u8)) w0 M0 (.slice pA0_0_3 p0_0_3.length pc0_0_3) p0_0_3) {r : Int} (h : image_Check_18.f K p0_0_0 p0_0_1 p0_0_2 p0_0_3 p0_1 = some r) :
  Calls Tryd.prog 18 #[.agg #[.slice pA0_0_0 p0_0_0.length pc0_0_0, .int .i64 p0_0_1, .int .i64 p0_0_2, .slice pA0_0_3 p0_0_3.length pc0_0_3, .int .u16 p0_1]] w0 (image_Check_18.post M0 w0 r) := by
 unfold image_Check_18.f at h
 have h0 : Holds M0 w0 w0 [] := Holds.start ho
 have h00_0_0 := h0.addSl (Rp.int .u8) (.slice pA0_0_0 p0_0_0.length pc0_0_0) p0_0_0 (hs0_0_0.mono (fun _ _ hm => hm.elim id (fun hm => absurd hm (by simp [mines, sl]))))
 have h00_0_3 := h00_0_0.addSl (Rp.pair (Rp.int .i64) (Rp.int .u8)) (.slice pA0_0_3 p0_0_3.length pc0_0_3) p0_0_3 (hs0_0_3.mono (fun _ _ hm => hm.elim id (fun hm => absurd hm (by simp [mines, sl]))))
 have h0 : Holds M0 w0 w0 [sl (Rp.int .u8) (.slice pA0_0_0 p0_0_0.length pc0_0_0) p0_0_0, sl (Rp.pair (Rp.int .i64) (Rp.int .u8)) (.slice pA0_0_3 p0_0_3.length pc0_0_3) p0_0_3] := h00_0_3
 refine calls_of F18 rfl [.agg #[.slice pA0_0_0 p0_0_0.length pc0_0_0, .int .i64 p0_0_1, .int .i64 p0_0_2, .slice pA0_0_3 p0_0_3.length pc0_0_3, .int .u16 p0_1]] (by kernel_rfl) ?_
 refine RunsI.g 1 [.c 1, .c 2] ?_
 refine RunsI.r ?_
 refine RegI.o (OpE.box 1 29 [.slice pA0_0_0 p0_0_0.length pc0_0_0, .int .i64 p0_0_1, .int .i64 p0_0_2, .slice pA0_0_3 p0_0_3.length pc0_0_3, .int .u16 p0_1] h0 (by kernel_rfl) (by kernel_rfl) ?_)
 intro w1 b2 h3 hb4 hn5
 refine RegI.p 1 [(1, .pointer (some ⟨b2, 0, none⟩))] ?_
 refine RegI.d ?_
 refine RunsI.g 1 [.c 3, .c 4] ?_
 refine RunsI.r ?_
 refine RegI.p 1 [(3, .pointer (some ⟨b2, 0, none⟩))] ?_
 refine RegI.o (OpE.loadBox 4 2 26 b2 0 (.agg #[.slice pA0_0_0 p0_0_0.length pc0_0_0, .int .i64 p0_0_1, .int .i64 p0_0_2, .slice pA0_0_3 p0_0_3.length pc0_0_3]) h3 (by kernel_rfl) (by kernel_rfl) rfl (by kernel_rfl) ?_)
 obtain ⟨t10, hg9, h⟩ := of_bind h
 refine RegI.o (OpE.call 5 (by kernel_rfl) 33 #[.agg #[.slice pA0_0_0 p0_0_0.length pc0_0_0, .int .i64 p0_0_1, .int .i64 p0_0_2, .slice pA0_0_3 p0_0_3.length pc0_0_3]] (by kernel_rfl) ((banks_Check_33_ok K _ w1  pA0_0_0 pc0_0_0 pA0_0_3 pc0_0_3 p0_0_0 p0_0_1 p0_0_2 p0_0_3 h3.old' (h3.get 0 rfl) (h3.get 1 rfl) hg9).mono ?_))
 rintro _ w6 ⟨rfl, hb7⟩
 refine ⟨_, rfl, ?_⟩
 have h8 := h3.call hb7
 refine RegI.p 1 [(2, .int .i64 t10)] ?_
 refine RegI.d ?_
 refine RunsI.t (.int .i64 t10) ?_
 obtain rfl := Option.some.inj h
 exact ⟨rfl, h8.below⟩
end

/-! ### strings.Count (function 60) -/
section
def strings_Count_60.post (M0 : Nat → Prop) (w0 : World) (r : Int) : Ending → World → Prop := fun e w => e = .returned (.int .i64 r) ∧ Below w0.heap.size w0 w
def strings_Count_60.f (K : Nat) (p0 : ByteArray) (p1 : ByteArray) : Option Int := cond (oneR p1) (some (Lib.countByte p0.data.toList (oneB p1))) none
theorem strings_Count_60_ok (K : Nat) (M0 : Nat → Prop) (w0 : World) (p0 : ByteArray) (p1 : ByteArray) (ho : ∀ b, M0 b → b < w0.heap.size) {r : Int} (h : strings_Count_60.f K p0 p1 = some r) : Calls Tryd.prog 60 #[.string p0, .string p1] w0 (strings_Count_60.post M0 w0 r) := by
 obtain ⟨hc, h⟩ := of_cond0 h
 obtain rfl := Option.some.inj h
 rw [oneR_of hc]
 refine (Tryd.strings_Count_one p0 (oneB p1) w0).mono ?_
 rintro e w' ⟨rfl, rfl⟩
 exact ⟨by rw [← oneR_of hc], Below.refl _ _⟩
end

/-! ### strings.Index (function 61) -/
section
def strings_Index_61.post (M0 : Nat → Prop) (w0 : World) (r : Int) : Ending → World → Prop := fun e w => e = .returned (.int .i64 r) ∧ Below w0.heap.size w0 w
def strings_Index_61.f (K : Nat) (p0 : ByteArray) (p1 : ByteArray) : Option Int := cond (oneR p1) (some (Lib.indexByte p0.data.toList (oneB p1))) none
theorem strings_Index_61_ok (K : Nat) (M0 : Nat → Prop) (w0 : World) (p0 : ByteArray) (p1 : ByteArray) (ho : ∀ b, M0 b → b < w0.heap.size) {r : Int} (h : strings_Index_61.f K p0 p1 = some r) : Calls Tryd.prog 61 #[.string p0, .string p1] w0 (strings_Index_61.post M0 w0 r) := by
 obtain ⟨hc, h⟩ := of_cond0 h
 obtain rfl := Option.some.inj h
 rw [oneR_of hc]
 refine (Tryd.strings_Index_one p0 (oneB p1) w0).mono ?_
 rintro e w' ⟨rfl, rfl⟩
 exact ⟨by rw [← oneR_of hc], Below.refl _ _⟩
end

/-! ### strings.HasPrefix (function 36) -/
section
def strings_HasPrefix_36.post (M0 : Nat → Prop) (w0 : World) (r : Bool) : Ending → World → Prop := fun e w => e = .returned (.bool r) ∧ Below w0.heap.size w0 w
def strings_HasPrefix_36.f (K : Nat) (p0 : ByteArray) (p1 : ByteArray) : Option Bool := some (Lib.hasPrefix p0.data.toList p1.data.toList)
theorem strings_HasPrefix_36_ok (K : Nat) (M0 : Nat → Prop) (w0 : World) (p0 : ByteArray) (p1 : ByteArray) (ho : ∀ b, M0 b → b < w0.heap.size) {r : Bool} (h : strings_HasPrefix_36.f K p0 p1 = some r) : Calls Tryd.prog 36 #[.string p0, .string p1] w0 (strings_HasPrefix_36.post M0 w0 r) := by
 obtain rfl := Option.some.inj h
 refine (Tryd.strings_HasPrefix p0 p1 w0).mono ?_
 rintro e w' ⟨rfl, rfl⟩
 exact ⟨rfl, Below.refl _ _⟩
end

/-! ### internal/stringslite.Index (function 76) -/
section
def stringslite_Index_76.post (M0 : Nat → Prop) (w0 : World) (r : Int) : Ending → World → Prop := fun e w => e = .returned (.int .i64 r) ∧ Below w0.heap.size w0 w
def stringslite_Index_76.f (K : Nat) (p0 : ByteArray) (p1 : ByteArray) : Option Int := cond (oneR p1) (some (Lib.indexByte p0.data.toList (oneB p1))) none
theorem stringslite_Index_76_ok (K : Nat) (M0 : Nat → Prop) (w0 : World) (p0 : ByteArray) (p1 : ByteArray) (ho : ∀ b, M0 b → b < w0.heap.size) {r : Int} (h : stringslite_Index_76.f K p0 p1 = some r) : Calls Tryd.prog 76 #[.string p0, .string p1] w0 (stringslite_Index_76.post M0 w0 r) := by
 obtain ⟨hc, h⟩ := of_cond0 h
 obtain rfl := Option.some.inj h
 rw [oneR_of hc]
 refine (Tryd.stringslite_Index_one p0 (oneB p1) w0).mono ?_
 rintro e w' ⟨rfl, rfl⟩
 exact ⟨by rw [← oneR_of hc], Below.refl _ _⟩
end

/-! ### strings.IndexByte (function 49) -/
section
def strings_IndexByte_49.post (M0 : Nat → Prop) (w0 : World) (r : Int) : Ending → World → Prop := fun e w => e = .returned (.int .i64 r) ∧ Below w0.heap.size w0 w
def strings_IndexByte_49.f (K : Nat) (p0 : ByteArray) (p1 : Int) : Option Int := some (Lib.indexByte p0.data.toList p1.toNat.toUInt8)
theorem strings_IndexByte_49_ok (K : Nat) (M0 : Nat → Prop) (w0 : World) (p0 : ByteArray) (p1 : Int) (ho : ∀ b, M0 b → b < w0.heap.size) {r : Int} (h : strings_IndexByte_49.f K p0 p1 = some r) : Calls Tryd.prog 49 #[.string p0, .int .u8 p1] w0 (strings_IndexByte_49.post M0 w0 r) := by
 obtain rfl := Option.some.inj h
 refine (Tryd.strings_IndexByte p0 p1 w0).mono ?_
 rintro e w' ⟨rfl, rfl⟩
 exact ⟨rfl, Below.refl _ _⟩
end

/-! ### charabanc/image.few (function 39) -/
section
def image_few_39.post (M0 : Nat → Prop) (w0 : World) (r : Int × Bool) : Ending → World → Prop := fun e w => e = .returned (.tuple #[.int .i64 r.1, .bool r.2]) ∧ Below w0.heap.size w0 w
def image_few_39.f (K : Nat) (p0 : ByteArray) : Option (Int × Bool) := cond (cutR 0 9 (⟨#[48, 49, 50, 51, 52, 53, 54, 55, 56, 57, 97, 98, 99, 100, 101, 102]⟩ : ByteArray).size) (cond (Nat.ble p0.size 140737488355328) (cond (mayBe ((bytesI p0).length + ([0] : List Int).length) 1) (cond (inR 0 ((bytesI p0) ++ ([0] : List Int)).length) ((strings_IndexByte_49.f K (strCut (⟨#[48, 49, 50, 51, 52, 53, 54, 55, 56, 57, 97, 98, 99, 100, 101, 102]⟩ : ByteArray) 0 9) (rdD ((bytesI p0) ++ ([0] : List Int)) 0)).bind fun t59 => cond ((p0.size : Int) == 1) (some (t59, (decide (t59 ≥ 0)))) (some (t59, false))) none) none) none) none
set_option maxRecDepth 100000 in
theorem image_few_39_ok (K : Nat) (M0 : Nat → Prop) (w0 : World) (p0 : ByteArray) (ho : ∀ b, M0 b → b < w0.heap.size) {r : Int × Bool} (h : image_few_39.f K p0 = some r) :
  Calls Tryd.prog 39 #[.string p0] w0 (image_few_39.post M0 w0 r) := by
 unfold image_few_39.f at h
 have h0 : Holds M0 w0 w0 [] := Holds.start ho
 have h0 : Holds M0 w0 w0 [] := h0
 refine calls_of F39 rfl [.string p0] (by kernel_rfl) ?_
 refine RunsI.g 1 [.c 1, .c 2] ?_
 refine RunsI.r ?_
 refine RegI.p 2 [(0, .string p0)] ?_
 refine RegI.d ?_
 refine RunsI.g 1 [.c 3, .c 4] ?_
 refine RunsI.any 9 (by kernel_rfl) (by kernel_rfl) (by kernel_rfl) (Kp ([] : List Nat) (World.drew w0)) ?_
 have h2 := h0.drew
 generalize World.drew w0 = w1 at h2 ⊢
 have hS3 := Kp.refl ([] : List Nat) w1
 obtain ⟨hc5, h⟩ := of_cond0 h
 refine AnyE.run 0 5 (.string (strCut (⟨#[48, 49, 50, 51, 52, 53, 54, 55, 56, 57, 97, 98, 99, 100, 101, 102]⟩ : ByteArray) 0 9)) (by kernel_rfl) hS3 (fun _ hk => run_strCut (T := 9) (s := (⟨#[48, 49, 50, 51, 52, 53, 54, 55, 56, 57, 97, 98, 99, 100, 101, 102]⟩ : ByteArray)) (lo := none) (hi := (some 9)) (by kernel_rfl) (by kernel_rfl) hc5) ?_
 refine AnyE.pure 1 6 (.string p0) (by kernel_rfl) hS3 (fun _ => by kernel_rfl) ?_
 refine AnyE.two 2 3 (by kernel_rfl) ?_ ?_
 ·skip
  intro w6 hu7
  have h8 := h2.call hu7
  have hS9 := hS3.up hu7
  obtain ⟨hc10, h⟩ := of_cond0 h
  refine OpE.bytesOwn 7 9 22 5 p0 h8 (by kernel_rfl) (by kernel_rfl) (by kernel_rfl) hc10 ?_
  intro c13
  intro w11 b12 h14 hb15 hn16
  have hn17 := Nat.le_trans hS9.1 hn16
  have hS18 := hS9.up hb15
  refine ⟨hS18, ?_⟩
  refine AnyE.one 3 (by kernel_rfl) (fun w19 hu20 => ?_)
  have h21 := h14.call hu20
  have hS22 := hS18.up hu20
  refine OpE.lit 8 5 [.int .u8 0] 1 h21 (by kernel_rfl) (by kernel_rfl) ?_
  intro w23 b24 h25 hb26 hn27
  have hn28 := Nat.le_trans hS22.1 hn27
  have hS29 := hS22.up hb26
  refine ⟨hS29, ?_⟩
  refine AnyE.one 4 (by kernel_rfl) (fun w30 hu31 => ?_)
  have h32 := h25.call hu31
  have hS33 := hS29.up hu31
  obtain ⟨hc34, h⟩ := of_cond0 h
  refine OpE.appendBoxS 9 0 1 22 5 1 ([0] : List Int) 0 h32 (by kernel_rfl) (by decide) (by kernel_rfl) (by kernel_rfl) rfl rfl rfl (cells_int _ _ _ _) (fun _ _ => (cells_int _ _ _ _)) hc34 ?_
  intro w35 A36 c37 h38 hk39
  have hS40 := hS33.trans hk39 (fun x hx => .inr (by rw [List.mem_singleton.1 hx]; exact hn17))
  refine ⟨hS40, ?_⟩
  refine AnyE.one 5 (by kernel_rfl) (fun w41 hu42 => ?_)
  have h43 := h38.call hu42
  have hS44 := hS40.up hu42
  obtain ⟨hc45, h⟩ := of_cond0 h
  have h46 := h43.releaseS 0 rfl
  refine OpE.idxSl 10 0 22 0 h46 (by kernel_rfl) rfl (by kernel_rfl) (by kernel_rfl) hc45 ?_
  intro b47 o48 cs49 hk50 h51
  obtain rfl := hk50
  refine ⟨hS44, ?_⟩
  refine AnyE.one 6 (by kernel_rfl) (fun w53 hu54 => ?_)
  have h55 := h51.call hu54
  have hS56 := hS44.up hu54
  refine OpE.loadCel 11 2 5 b47 o48 0 (.int .u8 (rdD ((bytesI p0) ++ ([0] : List Int)) 0)) h55 (by kernel_rfl) (by kernel_rfl) rfl (by kernel_rfl) ?_
  refine ⟨hS56, ?_⟩
  obtain ⟨t59, hg58, h⟩ := of_bind h
  refine AnyE.call 7 12 (.int .i64 t59) 49 #[.string (strCut (⟨#[48, 49, 50, 51, 52, 53, 54, 55, 56, 57, 97, 98, 99, 100, 101, 102]⟩ : ByteArray) 0 9), .int .u8 (rdD ((bytesI p0) ++ ([0] : List Int)) 0)] (by kernel_rfl) hS56 (fun _ => by kernel_rfl) (fun w hk => strings_IndexByte_49_ok K (fun _ => False) w (strCut (⟨#[48, 49, 50, 51, 52, 53, 54, 55, 56, 57, 97, 98, 99, 100, 101, 102]⟩ : ByteArray) 0 9) (rdD ((bytesI p0) ++ ([0] : List Int)) 0) (fun _ hf => hf.elim) hg58) ?_
  refine AnyE.pure 8 4 (.int .i64 t59) (by kernel_rfl) hS56 (fun _ => by kernel_rfl) ?_
  refine AnyE.done (by kernel_rfl) (fun w60 hu61 => ?_)
  have h62 := h55.call hu61
  refine RunsI.l [0, 4] [(0, .string p0), (4, .int .i64 t59)] ?_
  refine RunsI.g 1 [.c 5, .c 6] ?_
  refine RunsI.r ?_
  refine RegI.p 5 [(4, .int .i64 t59), (13, .int .i64 t59), (17, .bool ((p0.size : Int) == 1))] ?_
  rcases of_cond h with ⟨hc120, h⟩ | ⟨hc120, h⟩
  ·skip
   refine RegI.f 17 true hc120 ?_
   refine RegI.p 5 [(2, .int .i64 t59), (3, .bool (decide (t59 ≥ 0)))] ?_
   refine RegI.d ?_
   refine RunsI.t (.tuple #[.int .i64 t59, .bool (decide (t59 ≥ 0))]) ?_
   obtain rfl := Option.some.inj h
   exact ⟨rfl, h62.below⟩
  ·skip
   refine RegI.f 17 false hc120 ?_
   refine RegI.p 5 [(2, .int .i64 t59), (3, .bool false)] ?_
   refine RegI.d ?_
   refine RunsI.t (.tuple #[.int .i64 t59, .bool false]) ?_
   obtain rfl := Option.some.inj h
   exact ⟨rfl, h62.below⟩
 ·skip
  intro w63 hu64
  have h65 := h2.call hu64
  have hS66 := hS3.up hu64
  refine OpE.lit 8 5 [.int .u8 0] 1 h65 (by kernel_rfl) (by kernel_rfl) ?_
  intro w67 b68 h69 hb70 hn71
  have hn72 := Nat.le_trans hS66.1 hn71
  have hS73 := hS66.up hb70
  refine ⟨hS73, ?_⟩
  refine AnyE.one 2 (by kernel_rfl) (fun w74 hu75 => ?_)
  have h76 := h69.call hu75
  have hS77 := hS73.up hu75
  obtain ⟨hc78, h⟩ := of_cond0 h
  refine OpE.bytesOwn 7 9 22 5 p0 h76 (by kernel_rfl) (by kernel_rfl) (by kernel_rfl) hc78 ?_
  intro c81
  intro w79 b80 h82 hb83 hn84
  have hn85 := Nat.le_trans hS77.1 hn84
  have hS86 := hS77.up hb83
  refine ⟨hS86, ?_⟩
  refine AnyE.one 4 (by kernel_rfl) (fun w87 hu88 => ?_)
  have h89 := h82.call hu88
  have hS90 := hS86.up hu88
  obtain ⟨hc91, h⟩ := of_cond0 h
  refine OpE.appendBoxS 9 1 0 22 5 1 ([0] : List Int) 0 h89 (by kernel_rfl) (by decide) (by kernel_rfl) (by kernel_rfl) rfl rfl rfl (cells_int _ _ _ _) (fun _ _ => (cells_int _ _ _ _)) hc91 ?_
  intro w92 A93 c94 h95 hk96
  have hS97 := hS90.trans hk96 (fun x hx => .inr (by rw [List.mem_singleton.1 hx]; exact hn85))
  refine ⟨hS97, ?_⟩
  refine AnyE.one 5 (by kernel_rfl) (fun w98 hu99 => ?_)
  have h100 := h95.call hu99
  have hS101 := hS97.up hu99
  obtain ⟨hc102, h⟩ := of_cond0 h
  have h103 := h100.releaseS 1 rfl
  refine OpE.idxSl 10 1 22 0 h103 (by kernel_rfl) rfl (by kernel_rfl) (by kernel_rfl) hc102 ?_
  intro b104 o105 cs106 hk107 h108
  obtain rfl := hk107
  refine ⟨hS101, ?_⟩
  refine AnyE.one 6 (by kernel_rfl) (fun w110 hu111 => ?_)
  have h112 := h108.call hu111
  have hS113 := hS101.up hu111
  refine OpE.loadCel 11 2 5 b104 o105 0 (.int .u8 (rdD ((bytesI p0) ++ ([0] : List Int)) 0)) h112 (by kernel_rfl) (by kernel_rfl) rfl (by kernel_rfl) ?_
  refine ⟨hS113, ?_⟩
  obtain ⟨t116, hg115, h⟩ := of_bind h
  refine AnyE.call 7 12 (.int .i64 t116) 49 #[.string (strCut (⟨#[48, 49, 50, 51, 52, 53, 54, 55, 56, 57, 97, 98, 99, 100, 101, 102]⟩ : ByteArray) 0 9), .int .u8 (rdD ((bytesI p0) ++ ([0] : List Int)) 0)] (by kernel_rfl) hS113 (fun _ => by kernel_rfl) (fun w hk => strings_IndexByte_49_ok K (fun _ => False) w (strCut (⟨#[48, 49, 50, 51, 52, 53, 54, 55, 56, 57, 97, 98, 99, 100, 101, 102]⟩ : ByteArray) 0 9) (rdD ((bytesI p0) ++ ([0] : List Int)) 0) (fun _ hf => hf.elim) hg115) ?_
  refine AnyE.pure 8 4 (.int .i64 t116) (by kernel_rfl) hS113 (fun _ => by kernel_rfl) ?_
  refine AnyE.done (by kernel_rfl) (fun w117 hu118 => ?_)
  have h119 := h112.call hu118
  refine RunsI.l [0, 4] [(0, .string p0), (4, .int .i64 t116)] ?_
  refine RunsI.g 1 [.c 5, .c 6] ?_
  refine RunsI.r ?_
  refine RegI.p 5 [(4, .int .i64 t116), (13, .int .i64 t116), (17, .bool ((p0.size : Int) == 1))] ?_
  rcases of_cond h with ⟨hc121, h⟩ | ⟨hc121, h⟩
  ·skip
   refine RegI.f 17 true hc121 ?_
   refine RegI.p 5 [(2, .int .i64 t116), (3, .bool (decide (t116 ≥ 0)))] ?_
   refine RegI.d ?_
   refine RunsI.t (.tuple #[.int .i64 t116, .bool (decide (t116 ≥ 0))]) ?_
   obtain rfl := Option.some.inj h
   exact ⟨rfl, h119.below⟩
  ·skip
   refine RegI.f 17 false hc121 ?_
   refine RegI.p 5 [(2, .int .i64 t116), (3, .bool false)] ?_
   refine RegI.d ?_
   refine RunsI.t (.tuple #[.int .i64 t116, .bool false]) ?_
   obtain rfl := Option.some.inj h
   exact ⟨rfl, h119.below⟩
end

/-! ### charabanc/image.number (function 24) -/
section
def image_number_24.post (M0 : Nat → Prop) (w0 : World) (r : Int × Bool) : Ending → World → Prop := fun e w => e = .returned (.tuple #[.int .i64 r.1, .bool r.2]) ∧ Below w0.heap.size w0 w
def image_number_24.l0 (K : Nat) (p0 : ByteArray) (p1 : Int) : Nat → Int → Int → Option (Lp Unit Int)
 | 0, _, _ => none
 | k + 1, t7, t10 => cond (decide (t10 < ((bytesI p0).length : Int))) (cond (inR t10 (bytesI p0).length) ((strings_IndexByte_49.f K (⟨#[48, 49, 50, 51, 52, 53, 54, 55, 56, 57, 97, 98, 99, 100, 101, 102]⟩ : ByteArray) (rdD (bytesI p0) t10)).bind fun t22 => cond (decide (t22 < 0)) (some (Lp.ret ())) (image_number_24.l0 K p0 p1 k (bor .i64 (IntKind.wrap .i64 (t7 * 2 ^ 4)) t22) (IntKind.wrap .i64 (t10 + 1)))) none) (some (Lp.go t7))
set_option maxRecDepth 100000 in
theorem image_number_24.l0_ok (K : Nat) (M0 : Nat → Prop) (w0 : World) (p0 : ByteArray) (p1 : Int) (A8 : Option Addr) (c9 : Nat) (R : Ending → World → Prop) (x : Lp Unit Int) (hk0 : ∀ (t24 : Int) (w1 : World), x = Lp.go t24 → Holds M0 w0 w1 [] → RunsI F24 [.c 31] [(0, .string p0), (1, .int .i64 p1), (6, .int .i64 t24)] w1 R) (hk1 : ∀ (w1 : World), x = Lp.ret () → Holds M0 w0 w1 [] → R (.returned (.tuple #[.int .i64 0, .bool false])) w1) :
  ∀ (k : Nat) (t7 : Int) (t10 : Int) (w : World), image_number_24.l0 K p0 p1 k t7 t10 = some x → Holds M0 w0 w [sl (Rp.int .u8) (.slice A8 ((bytesI p0).length) c9) (bytesI p0)] → RunsI F24 [.c 9, .lp 9, .blk 0, .c 31] [(0, .string p0), (1, .int .i64 p1), (6, .int .i64 t7), (11, .slice A8 ((bytesI p0).length) c9), (12, .int .i64 ((bytesI p0).length : Int)), (13, .int .i64 t10)] w R := by
 intro k
 induction k with
 | zero => intro t7 t10 w h hH; exact absurd h (by simp [image_number_24.l0])
 | succ k ih =>
  intro t7 t10 w h hH
  rw [image_number_24.l0.eq_2] at h
  refine RunsI.g 1 [.c 10, .c 11, .lp 9, .blk 0, .c 31] ?_
  refine RunsI.r ?_
  refine RegI.p 1 [(0, .string p0), (1, .int .i64 p1), (6, .int .i64 t7), (11, .slice A8 ((bytesI p0).length) c9), (12, .int .i64 ((bytesI p0).length : Int)), (13, .int .i64 t10), (14, .bool (decide (t10 < ((bytesI p0).length : Int))))] ?_
  refine RegI.d ?_
  refine RunsI.g 1 [.c 12, .c 15, .lp 9, .blk 0, .c 31] ?_
  rcases of_cond h with ⟨hc11, h⟩ | ⟨hc11, h⟩
  ·skip
   refine RunsI.f 14 true hc11 ?_
   refine RunsI.b true 13 ?_
   refine RunsI.g 1 [.c 15, .lp 9, .blk 0, .c 31] ?_
   refine RunsI.g 3 [.c 18, .c 19, .blk 1, .c 30, .lp 9, .blk 0, .c 31] ?_
   refine RunsI.r ?_
   obtain ⟨hc12, h⟩ := of_cond0 h
   refine RegI.o (OpE.idxSl 15 0 22 t10 hH (by kernel_rfl) rfl (by kernel_rfl) (by kernel_rfl) hc12 ?_)
   intro b13 o14 cs15 hk16 h17
   obtain rfl := hk16
   refine RegI.o (OpE.loadCel 16 1 5 b13 o14 0 (.int .u8 (rdD (bytesI p0) t10)) h17 (by kernel_rfl) (by kernel_rfl) rfl (by kernel_rfl) ?_)
   refine RegI.p 1 [(0, .string p0), (1, .int .i64 p1), (6, .int .i64 t7), (8, .int .u8 (rdD (bytesI p0) t10)), (11, .slice A8 ((bytesI p0).length) c9), (12, .int .i64 ((bytesI p0).length : Int)), (13, .int .i64 t10)] ?_
   refine RegI.d ?_
   refine RunsI.g 1 [.c 20, .c 21, .blk 1, .c 30, .lp 9, .blk 0, .c 31] ?_
   refine RunsI.r ?_
   refine RegI.p 1 [(0, .string p0), (1, .int .i64 p1), (6, .int .i64 t7), (11, .slice A8 ((bytesI p0).length) c9), (12, .int .i64 ((bytesI p0).length : Int)), (13, .int .i64 t10), (17, .int .u8 (rdD (bytesI p0) t10))] ?_
   obtain ⟨t22, hg21, h⟩ := of_bind h
   refine RegI.o (OpE.call 18 (by kernel_rfl) 49 #[.string (⟨#[48, 49, 50, 51, 52, 53, 54, 55, 56, 57, 97, 98, 99, 100, 101, 102]⟩ : ByteArray), .int .u8 (rdD (bytesI p0) t10)] (by kernel_rfl) ((strings_IndexByte_49_ok K _ w  (⟨#[48, 49, 50, 51, 52, 53, 54, 55, 56, 57, 97, 98, 99, 100, 101, 102]⟩ : ByteArray) (rdD (bytesI p0) t10) h17.old' hg21).mono ?_))
   rintro _ w18 ⟨rfl, hb19⟩
   refine ⟨_, rfl, ?_⟩
   have h20 := h17.call hb19
   refine RegI.p 1 [(0, .string p0), (1, .int .i64 p1), (6, .int .i64 t7), (9, .int .i64 t22), (11, .slice A8 ((bytesI p0).length) c9), (12, .int .i64 ((bytesI p0).length : Int)), (13, .int .i64 t10)] ?_
   refine RegI.d ?_
   refine RunsI.g 2 [.c 23, .c 24, .c 29, .blk 1, .c 30, .lp 9, .blk 0, .c 31] ?_
   refine RunsI.r ?_
   refine RegI.p 2 [(0, .string p0), (1, .int .i64 p1), (6, .int .i64 t7), (9, .int .i64 t22), (11, .slice A8 ((bytesI p0).length) c9), (12, .int .i64 ((bytesI p0).length : Int)), (13, .int .i64 t10), (20, .bool (decide (t22 < 0)))] ?_
   refine RegI.d ?_
   rcases of_cond h with ⟨hc23, h⟩ | ⟨hc23, h⟩
   ·skip
    refine RunsI.f 20 true hc23 ?_
    refine RunsI.b true 25 ?_
    refine RunsI.g 1 [.c 26, .c 27, .c 29, .blk 1, .c 30, .lp 9, .blk 0, .c 31] ?_
    refine RunsI.r ?_
    refine RegI.p 2 [(4, .int .i64 0), (5, .bool false)] ?_
    refine RegI.d ?_
    refine RunsI.t (.tuple #[.int .i64 0, .bool false]) ?_
    exact hk1 w18 (Option.some.inj h).symm (h20.pick [] (by decide))
   ·skip
    refine RunsI.f 20 false hc23 ?_
    refine RunsI.b false 28 ?_
    refine RunsI.g 1 [.c 29, .blk 1, .c 30, .lp 9, .blk 0, .c 31] ?_
    refine RunsI.r ?_
    refine RegI.p 5 [(0, .string p0), (1, .int .i64 p1), (6, .int .i64 (bor .i64 (IntKind.wrap .i64 (t7 * 2 ^ 4)) t22)), (11, .slice A8 ((bytesI p0).length) c9), (12, .int .i64 ((bytesI p0).length : Int)), (13, .int .i64 t10)] ?_
    refine RegI.d ?_
    refine RunsI.g 1 [.c 30, .lp 9, .blk 0, .c 31] ?_
    refine RunsI.r ?_
    refine RegI.p 2 [(0, .string p0), (1, .int .i64 p1), (6, .int .i64 (bor .i64 (IntKind.wrap .i64 (t7 * 2 ^ 4)) t22)), (11, .slice A8 ((bytesI p0).length) c9), (12, .int .i64 ((bytesI p0).length : Int)), (13, .int .i64 (IntKind.wrap .i64 (t10 + 1)))] ?_
    refine RegI.d ?_
    refine RunsI.g 1 [.c 9, .lp 9, .blk 0, .c 31] ?_
    refine RunsI.l [0, 1, 6, 11, 12, 13] [(0, .string p0), (1, .int .i64 p1), (6, .int .i64 (bor .i64 (IntKind.wrap .i64 (t7 * 2 ^ 4)) t22)), (11, .slice A8 ((bytesI p0).length) c9), (12, .int .i64 ((bytesI p0).length : Int)), (13, .int .i64 (IntKind.wrap .i64 (t10 + 1)))] ?_
    exact ih (bor .i64 (IntKind.wrap .i64 (t7 * 2 ^ 4)) t22) (IntKind.wrap .i64 (t10 + 1)) w18 h (h20.pick [0] (by decide))
  ·skip
   refine RunsI.f 14 false hc11 ?_
   refine RunsI.b false 14 ?_
   refine RunsI.g 1 [.c 31] ?_
   refine RunsI.l [0, 1, 6] [(0, .string p0), (1, .int .i64 p1), (6, .int .i64 t7)] ?_
   exact hk0 t7 w (Option.some.inj h).symm (hH.pick [] (by decide))
def image_number_24.f (K : Nat) (p0 : ByteArray) (p1 : Int) : Option (Int × Bool) := cond (Nat.ble p0.size 140737488355328) ((image_number_24.l0 K p0 p1 K 0 0).bind (fun x25 => Lp.elim x25 (fun _ => some (0, false)) (fun t27 => some (t27, ((p0.size : Int) == p1))))) none
set_option maxRecDepth 100000 in
theorem image_number_24_ok (K : Nat) (M0 : Nat → Prop) (w0 : World) (p0 : ByteArray) (p1 : Int) (ho : ∀ b, M0 b → b < w0.heap.size) {r : Int × Bool} (h : image_number_24.f K p0 p1 = some r) :
  Calls Tryd.prog 24 #[.string p0, .int .i64 p1] w0 (image_number_24.post M0 w0 r) := by
 unfold image_number_24.f at h
 have h0 : Holds M0 w0 w0 [] := Holds.start ho
 have h0 : Holds M0 w0 w0 [] := h0
 refine calls_of F24 rfl [.string p0, .int .i64 p1] (by kernel_rfl) ?_
 refine RunsI.g 1 [.c 1, .c 2] ?_
 refine RunsI.r ?_
 refine RegI.p 2 [(0, .string p0), (1, .int .i64 p1)] ?_
 refine RegI.d ?_
 refine RunsI.g 1 [.c 3, .c 4] ?_
 refine RunsI.r ?_
 refine RegI.p 1 [(0, .string p0), (1, .int .i64 p1), (6, .int .i64 0)] ?_
 refine RegI.d ?_
 refine RunsI.g 2 [.c 6, .c 7, .c 31] ?_
 refine RunsI.r ?_
 refine RegI.p 1 [(0, .string p0), (1, .int .i64 p1), (6, .int .i64 0), (10, .string p0)] ?_
 obtain ⟨hc1, h⟩ := of_cond0 h
 refine RegI.o (OpE.bytesOf 11 9 22 p0 h0 (by kernel_rfl) (by kernel_rfl) (by kernel_rfl) hc1 ?_)
 intro w2 A3 c4 h5 hb6
 refine RegI.p 2 [(0, .string p0), (1, .int .i64 p1), (6, .int .i64 0), (11, .slice A3 ((bytesI p0).length) c4), (12, .int .i64 ((bytesI p0).length : Int)), (13, .int .i64 0)] ?_
 refine RegI.d ?_
 refine RunsI.g 2 [.c 9, .lp 9, .blk 0, .c 31] ?_
 obtain ⟨x25, hx26, h⟩ := of_bind h
 refine RunsI.l [0, 1, 6, 11, 12, 13] [(0, .string p0), (1, .int .i64 p1), (6, .int .i64 0), (11, .slice A3 ((bytesI p0).length) c4), (12, .int .i64 ((bytesI p0).length : Int)), (13, .int .i64 0)] ?_
 refine image_number_24.l0_ok K M0 w0 p0 p1 A3 c4 _ x25 ?_ ?_ K 0 0 w2 hx26 (h5.pick [0] (by decide))
 ·intro t27 w29 hq32 h28
  (try rw [hq32] at h)
  dsimp only [Lp.elim] at h
  refine RunsI.g 1 [.c 32, .c 33] ?_
  refine RunsI.r ?_
  refine RegI.p 7 [(4, .int .i64 t27), (5, .bool ((p0.size : Int) == p1))] ?_
  refine RegI.d ?_
  refine RunsI.t (.tuple #[.int .i64 t27, .bool ((p0.size : Int) == p1)]) ?_
  obtain rfl := Option.some.inj h
  exact ⟨rfl, h28.below⟩
 ·intro w31 hq33 h30
  (try rw [hq33] at h)
  dsimp only [Lp.elim] at h
  obtain rfl := Option.some.inj h
  exact ⟨rfl, h30.below⟩
end

/-! ### charabanc/image.Bytes (function 9) -/
section
def image_Bytes_9.post (M0 : Nat → Prop) (w0 : World) (r : (List Int) × Bool) : Ending → World → Prop := fun e w => ∃ (A1 : Option Addr) (c1 : Nat), e = .returned (.tuple #[.slice A1 r.1.length c1, .bool r.2]) ∧ Holds M0 w0 w [own (Rp.int .u8) 5 (.slice A1 r.1.length c1) r.1]
def image_Bytes_9.l0 (K : Nat) (p0 : ByteArray) : Nat → (List Int) → Int → Option (Lp (List Int) (List Int))
 | 0, _, _ => none
 | k + 1, t46, t51 => cond (decide (t51 < ((bytesI p0).length : Int))) (cond (cutR t51 ((bytesI p0).length : Int) (bytesI p0).length) (cond (cutR t51 (IntKind.wrap .i64 (t51 + (if ((cutL (bytesI p0) t51 ((bytesI p0).length : Int)).length : Int) < 2 then ((cutL (bytesI p0) t51 ((bytesI p0).length : Int)).length : Int) else 2))) (bytesI p0).length) ((image_number_24.f K (strOf (cutL (bytesI p0) t51 (IntKind.wrap .i64 (t51 + (if ((cutL (bytesI p0) t51 ((bytesI p0).length : Int)).length : Int) < 2 then ((cutL (bytesI p0) t51 ((bytesI p0).length : Int)).length : Int) else 2))))) 2).bind fun yt76 => cond (!yt76.2) (some (Lp.ret t46)) (cond (mayBe (t46.length + ([(IntKind.wrap .u8 yt76.1)] : List Int).length) 1) (image_Bytes_9.l0 K p0 k (t46 ++ ([(IntKind.wrap .u8 yt76.1)] : List Int)) (IntKind.wrap .i64 (t51 + 2))) none)) none) none) (some (Lp.go t46))
set_option maxRecDepth 100000 in
theorem image_Bytes_9.l0_ok (K : Nat) (M0 : Nat → Prop) (w0 : World) (p0 : ByteArray) (b40 : Nat) (b41 : Nat) (b42 : Nat) (b43 : Nat) (b47 : Nat) (A48 : Option Addr) (c49 : Nat) (b50 : Nat) (b52 : Nat) (R : Ending → World → Prop) (x : Lp (List Int) (List Int)) (hk0 : ∀ (t107 : List Int) (A105 : Option Addr) (c106 : Nat) (w1 : World), x = Lp.go t107 → Holds M0 w0 w1 [box b41 22 [.slice none 0 0], box b42 4 [.bool false], box b43 22 [.slice A105 t107.length c106], own (Rp.int .u8) 5 (.slice A105 t107.length c106) t107, box b47 22 [.slice A48 ((bytesI p0).length) c49], sl (Rp.int .u8) (.slice A48 ((bytesI p0).length) c49) (bytesI p0), box b50 3 [.int .i64 2], rng F9 8 b40 [(2, .pointer (some ⟨b41, 0, none⟩)), (3, .pointer (some ⟨b42, 0, none⟩)), (4, .pointer (some ⟨b43, 0, none⟩)), (10, .func (.func 48) #[] #[.pointer (some ⟨b47, 0, none⟩), .pointer (some ⟨b50, 0, none⟩)])] .ready none, dfr b52] → RunsI F48 [] [] w1 R) (hk1 : ∀ (t110 : List Int) (A108 : Option Addr) (c109 : Nat) (w1 : World), x = Lp.ret t110 → Holds M0 w0 w1 [box b41 22 [.slice none 0 0], box b42 4 [.bool false], box b43 22 [.slice A108 t110.length c109], own (Rp.int .u8) 5 (.slice A108 t110.length c109) t110, box b47 22 [.slice A48 ((bytesI p0).length) c49], sl (Rp.int .u8) (.slice A48 ((bytesI p0).length) c49) (bytesI p0), box b50 3 [.int .i64 2], rng F9 8 b40 [(2, .pointer (some ⟨b41, 0, none⟩)), (3, .pointer (some ⟨b42, 0, none⟩)), (4, .pointer (some ⟨b43, 0, none⟩)), (10, .func (.func 48) #[] #[.pointer (some ⟨b47, 0, none⟩), .pointer (some ⟨b50, 0, none⟩)])] .done (some 19), dfr b52] → R (.returned (.tuple #[])) w1) :
  ∀ (k : Nat) (t46 : List Int) (t51 : Int) (A44 : Option Addr) (c45 : Nat) (w : World), image_Bytes_9.l0 K p0 k t46 t51 = some x → Holds M0 w0 w [rng F9 8 b40 [(2, .pointer (some ⟨b41, 0, none⟩)), (3, .pointer (some ⟨b42, 0, none⟩)), (4, .pointer (some ⟨b43, 0, none⟩)), (10, .func (.func 48) #[] #[.pointer (some ⟨b47, 0, none⟩), .pointer (some ⟨b50, 0, none⟩)])] .ready none, box b41 22 [.slice none 0 0], box b42 4 [.bool false], box b43 22 [.slice A44 t46.length c45], own (Rp.int .u8) 5 (.slice A44 t46.length c45) t46, box b47 22 [.slice A48 ((bytesI p0).length) c49], sl (Rp.int .u8) (.slice A48 ((bytesI p0).length) c49) (bytesI p0), box b50 3 [.int .i64 2], dfr b52] → RunsI F48 [.c 4, .lp 4, .blk 0] [(0, .func (.yield b40) #[] #[]), (1, .pointer (some ⟨b47, 0, none⟩)), (2, .pointer (some ⟨b50, 0, none⟩)), (4, .int .i64 t51)] w R := by
 intro k
 induction k with
 | zero => intro t46 t51 A44 c45 w h hH; exact absurd h (by simp [image_Bytes_9.l0])
 | succ k ih =>
  intro t46 t51 A44 c45 w h hH
  rw [image_Bytes_9.l0.eq_2] at h
  refine RunsI.g 1 [.c 5, .c 10, .lp 4, .blk 0] ?_
  refine RunsI.g 1 [.c 6, .c 7, .c 10, .lp 4, .blk 0] ?_
  refine RunsI.r ?_
  refine RegI.p 1 [(0, .func (.yield b40) #[] #[]), (1, .pointer (some ⟨b47, 0, none⟩)), (2, .pointer (some ⟨b50, 0, none⟩)), (4, .int .i64 t51), (6, .int .i64 t51)] ?_
  refine RegI.o (OpE.loadBox 7 5 22 b47 0 (.slice A48 ((bytesI p0).length) c49) hH (by kernel_rfl) (by kernel_rfl) rfl (by kernel_rfl) ?_)
  refine RegI.p 2 [(0, .func (.yield b40) #[] #[]), (1, .pointer (some ⟨b47, 0, none⟩)), (2, .pointer (some ⟨b50, 0, none⟩)), (4, .int .i64 t51), (9, .bool (decide (t51 < ((bytesI p0).length : Int))))] ?_
  refine RegI.d ?_
  rcases of_cond h with ⟨hc53, h⟩ | ⟨hc53, h⟩
  ·skip
   refine RunsI.f 9 true hc53 ?_
   refine RunsI.b true 8 ?_
   refine RunsI.g 1 [.c 10, .lp 4, .blk 0] ?_
   refine RunsI.g 3 [.c 13, .c 14, .blk 1, .c 19, .lp 4, .blk 0] ?_
   refine RunsI.any 7 (by kernel_rfl) (by kernel_rfl) (by kernel_rfl) (Kp ([] : List Nat) (World.drew w)) ?_
   have h55 := hH.drew
   generalize World.drew w = w54 at h55 ⊢
   have hS56 := Kp.refl ([] : List Nat) w54
   refine AnyE.loadBox 0 13 7 3 b50 0 (.int .i64 2) [] h55 rfl (by kernel_rfl) hS56 rfl rfl (by kernel_rfl) (by kernel_rfl) ?_
   refine AnyE.loadBox 1 14 5 22 b47 0 (.slice A48 ((bytesI p0).length) c49) [] h55 rfl (by kernel_rfl) hS56 rfl rfl (by kernel_rfl) (by kernel_rfl) ?_
   refine AnyE.pure 2 15 (.int .i64 t51) (by kernel_rfl) hS56 (fun _ => by kernel_rfl) ?_
   obtain ⟨hc58, h⟩ := of_cond0 h
   refine AnyE.cutSl 3 16 6 22 (some t51) none h55 (by kernel_rfl) hS56 rfl (by kernel_rfl) (by kernel_rfl) hc58 ?_
   intro A59 c60 h61
   refine AnyE.pure 4 17 (.int .i64 ((cutL (bytesI p0) t51 ((bytesI p0).length : Int)).length : Int)) (by kernel_rfl) hS56 (fun _ => by kernel_rfl) ?_
   refine AnyE.pure 5 18 (.int .i64 (if ((cutL (bytesI p0) t51 ((bytesI p0).length : Int)).length : Int) < 2 then ((cutL (bytesI p0) t51 ((bytesI p0).length : Int)).length : Int) else 2)) (by kernel_rfl) hS56 (fun _ => by kernel_rfl) ?_
   refine AnyE.pure 6 5 (.int .i64 (if ((cutL (bytesI p0) t51 ((bytesI p0).length : Int)).length : Int) < 2 then ((cutL (bytesI p0) t51 ((bytesI p0).length : Int)).length : Int) else 2)) (by kernel_rfl) hS56 (fun _ => by kernel_rfl) ?_
   refine AnyE.done (by kernel_rfl) (fun w62 hu63 => ?_)
   have h64 := h61.call hu63
   refine RunsI.l [0, 1, 2, 4, 5] [(0, .func (.yield b40) #[] #[]), (1, .pointer (some ⟨b47, 0, none⟩)), (2, .pointer (some ⟨b50, 0, none⟩)), (4, .int .i64 t51), (5, .int .i64 (if ((cutL (bytesI p0) t51 ((bytesI p0).length : Int)).length : Int) < 2 then ((cutL (bytesI p0) t51 ((bytesI p0).length : Int)).length : Int) else 2))] ?_
   refine RunsI.g 1 [.c 15, .c 16, .blk 1, .c 19, .lp 4, .blk 0] ?_
   refine RunsI.r ?_
   refine RegI.p 1 [(0, .func (.yield b40) #[] #[]), (1, .pointer (some ⟨b47, 0, none⟩)), (2, .pointer (some ⟨b50, 0, none⟩)), (4, .int .i64 t51), (5, .int .i64 (if ((cutL (bytesI p0) t51 ((bytesI p0).length : Int)).length : Int) < 2 then ((cutL (bytesI p0) t51 ((bytesI p0).length : Int)).length : Int) else 2)), (19, .func (.yield b40) #[] #[])] ?_
   refine RegI.o (OpE.loadBox 20 5 22 b47 0 (.slice A48 ((bytesI p0).length) c49) h64 (by kernel_rfl) (by kernel_rfl) rfl (by kernel_rfl) ?_)
   refine RegI.p 7 [(0, .func (.yield b40) #[] #[]), (1, .pointer (some ⟨b47, 0, none⟩)), (2, .pointer (some ⟨b50, 0, none⟩)), (4, .int .i64 t51), (19, .func (.yield b40) #[] #[]), (20, .slice A48 ((bytesI p0).length) c49), (21, .int .i64 t51), (24, .int .i64 (IntKind.wrap .i64 (t51 + (if ((cutL (bytesI p0) t51 ((bytesI p0).length : Int)).length : Int) < 2 then ((cutL (bytesI p0) t51 ((bytesI p0).length : Int)).length : Int) else 2)))), (27, .int .i64 (IntKind.wrap .i64 (t51 + (if ((cutL (bytesI p0) t51 ((bytesI p0).length : Int)).length : Int) < 2 then ((cutL (bytesI p0) t51 ((bytesI p0).length : Int)).length : Int) else 2))))] ?_
   obtain ⟨hc65, h⟩ := of_cond0 h
   refine RegI.o (OpE.cutSlM 28 6 22 t51 (IntKind.wrap .i64 (t51 + (if ((cutL (bytesI p0) t51 ((bytesI p0).length : Int)).length : Int) < 2 then ((cutL (bytesI p0) t51 ((bytesI p0).length : Int)).length : Int) else 2))) h64 (by kernel_rfl) rfl (by kernel_rfl) (by kernel_rfl) hc65 ?_)
   intro A66 c67 h68
   refine RegI.yield 29 b40 8 0 [.slice A66 ((cutL (bytesI p0) t51 (IntKind.wrap .i64 (t51 + (if ((cutL (bytesI p0) t51 ((bytesI p0).length : Int)).length : Int) < 2 then ((cutL (bytesI p0) t51 ((bytesI p0).length : Int)).length : Int) else 2)))).length) c67] [0, 1, 2, 4] [(0, .func (.yield b40) #[] #[]), (1, .pointer (some ⟨b47, 0, none⟩)), (2, .pointer (some ⟨b50, 0, none⟩)), (4, .int .i64 t51)] h68 (by kernel_rfl) (by kernel_rfl) (by kernel_rfl) (by kernel_rfl) rfl (by kernel_rfl) (by kernel_rfl) (by kernel_rfl) [.c 9, .bg, .c 10] (by kernel_rfl) [(11, .slice A66 ((cutL (bytesI p0) t51 (IntKind.wrap .i64 (t51 + (if ((cutL (bytesI p0) t51 ((bytesI p0).length : Int)).length : Int) < 2 then ((cutL (bytesI p0) t51 ((bytesI p0).length : Int)).length : Int) else 2)))).length) c67), (2, .pointer (some ⟨b41, 0, none⟩)), (3, .pointer (some ⟨b42, 0, none⟩)), (4, .pointer (some ⟨b43, 0, none⟩)), (10, .func (.func 48) #[] #[.pointer (some ⟨b47, 0, none⟩), .pointer (some ⟨b50, 0, none⟩)])] (by kernel_rfl) ?_
   refine RunsI.l [2, 3, 4, 11] [(2, .pointer (some ⟨b41, 0, none⟩)), (3, .pointer (some ⟨b42, 0, none⟩)), (4, .pointer (some ⟨b43, 0, none⟩)), (11, .slice A66 ((cutL (bytesI p0) t51 (IntKind.wrap .i64 (t51 + (if ((cutL (bytesI p0) t51 ((bytesI p0).length : Int)).length : Int) < 2 then ((cutL (bytesI p0) t51 ((bytesI p0).length : Int)).length : Int) else 2)))).length) c67)] ?_
   refine RunsI.r ?_
   refine RegI.p 1 [(2, .pointer (some ⟨b41, 0, none⟩)), (3, .pointer (some ⟨b42, 0, none⟩)), (4, .pointer (some ⟨b43, 0, none⟩)), (5, .slice A66 ((cutL (bytesI p0) t51 (IntKind.wrap .i64 (t51 + (if ((cutL (bytesI p0) t51 ((bytesI p0).length : Int)).length : Int) < 2 then ((cutL (bytesI p0) t51 ((bytesI p0).length : Int)).length : Int) else 2)))).length) c67)] ?_
   refine RegI.d ?_
   refine RunsI.begin 0 h68 rfl rfl ?_
   intro w69 h70 hk71
   refine RunsI.g 2 [.c 12, .c 13, .blk 1] ?_
   refine RunsI.r ?_
   refine RegI.p 1 [(2, .pointer (some ⟨b41, 0, none⟩)), (3, .pointer (some ⟨b42, 0, none⟩)), (4, .pointer (some ⟨b43, 0, none⟩)), (13, .slice A66 ((cutL (bytesI p0) t51 (IntKind.wrap .i64 (t51 + (if ((cutL (bytesI p0) t51 ((bytesI p0).length : Int)).length : Int) < 2 then ((cutL (bytesI p0) t51 ((bytesI p0).length : Int)).length : Int) else 2)))).length) c67)] ?_
   refine RegI.o (OpE.run 14 (by kernel_rfl) (run_toStr (s := 22) (d := 9) (v := .slice A66 ((cutL (bytesI p0) t51 (IntKind.wrap .i64 (t51 + (if ((cutL (bytesI p0) t51 ((bytesI p0).length : Int)).length : Int) < 2 then ((cutL (bytesI p0) t51 ((bytesI p0).length : Int)).length : Int) else 2)))).length) c67) (by kernel_rfl) (by kernel_rfl) (h70.rdSl 10 rfl)) ?_)
   obtain ⟨⟨t76, t77⟩, hg75, h⟩ := of_bind h
   dsimp only at h
   refine RegI.o (OpE.call 15 (by kernel_rfl) 24 #[.string (strOf (cutL (bytesI p0) t51 (IntKind.wrap .i64 (t51 + (if ((cutL (bytesI p0) t51 ((bytesI p0).length : Int)).length : Int) < 2 then ((cutL (bytesI p0) t51 ((bytesI p0).length : Int)).length : Int) else 2))))), .int .i64 2] (by kernel_rfl) ((image_number_24_ok K _ w69  (strOf (cutL (bytesI p0) t51 (IntKind.wrap .i64 (t51 + (if ((cutL (bytesI p0) t51 ((bytesI p0).length : Int)).length : Int) < 2 then ((cutL (bytesI p0) t51 ((bytesI p0).length : Int)).length : Int) else 2))))) 2 h70.old' hg75).mono ?_))
   rintro _ w72 ⟨rfl, hb73⟩
   refine ⟨_, rfl, ?_⟩
   have h74 := h70.call hb73
   refine RegI.p 5 [(2, .pointer (some ⟨b41, 0, none⟩)), (3, .pointer (some ⟨b42, 0, none⟩)), (4, .pointer (some ⟨b43, 0, none⟩)), (6, .int .i64 t76), (7, .bool t77)] ?_
   refine RegI.d ?_
   refine RunsI.g 2 [.c 15, .c 16, .c 21, .blk 1] ?_
   refine RunsI.r ?_
   refine RegI.p 2 [(2, .pointer (some ⟨b41, 0, none⟩)), (3, .pointer (some ⟨b42, 0, none⟩)), (4, .pointer (some ⟨b43, 0, none⟩)), (6, .int .i64 t76), (19, .bool (!t77))] ?_
   refine RegI.d ?_
   rcases of_cond h with ⟨hc78, h⟩ | ⟨hc78, h⟩
   ·skip
    refine RunsI.f 19 true hc78 ?_
    refine RunsI.b true 17 ?_
    refine RunsI.g 1 [.c 18, .c 19, .c 21, .blk 1] ?_
    refine RunsI.r ?_
    refine RegI.o (OpE.storeBox 1 22 b41 0 (.slice none 0 0) [.slice none 0 0] h74 (by kernel_rfl) (by kernel_rfl) rfl (by kernel_rfl) (by kernel_rfl) (by kernel_rfl) ?_)
    intro w79 h80 hk81
    refine RegI.o (OpE.storeBox 2 4 b42 0 (.bool false) [.bool false] h80 (by kernel_rfl) (by kernel_rfl) rfl (by kernel_rfl) (by kernel_rfl) (by kernel_rfl) ?_)
    intro w82 h83 hk84
    refine RegI.d ?_
    refine RunsI.roundJump 0 19 h83 rfl rfl (by kernel_rfl) rfl ?_
    intro w85 h86 hk87
    refine cont_mk ?_
    refine RegI.p 1 [(0, .func (.yield b40) #[] #[]), (1, .pointer (some ⟨b47, 0, none⟩)), (2, .pointer (some ⟨b50, 0, none⟩)), (4, .int .i64 t51), (30, .bool true)] ?_
    refine RegI.d ?_
    refine RunsI.b true 17 ?_
    refine RunsI.t (.tuple #[]) ?_
    exact hk1 t46 A44 c45 w85 (Option.some.inj h).symm (h86.pick [1, 2, 3, 4, 5, 6, 7, 0, 8] (by decide))
   ·skip
    refine RunsI.f 19 false hc78 ?_
    refine RunsI.b false 20 ?_
    refine RunsI.g 1 [.c 21, .blk 1] ?_
    refine RunsI.r ?_
    refine RegI.o (OpE.loadBox 20 3 22 b43 0 (.slice A44 t46.length c45) h74 (by kernel_rfl) (by kernel_rfl) rfl (by kernel_rfl) ?_)
    refine RegI.p 2 [(2, .pointer (some ⟨b41, 0, none⟩)), (3, .pointer (some ⟨b42, 0, none⟩)), (4, .pointer (some ⟨b43, 0, none⟩)), (20, .slice A44 t46.length c45), (22, .int .u8 (IntKind.wrap .u8 t76))] ?_
    refine RegI.o (OpE.lit 23 5 [.int .u8 (IntKind.wrap .u8 t76)] 1 h74 (by kernel_rfl) (by kernel_rfl) ?_)
    intro w88 b89 h90 hb91 hn92
    obtain ⟨hc93, h⟩ := of_cond0 h
    refine RegI.o (OpE.appendBox 24 4 11 22 5 1 ([(IntKind.wrap .u8 t76)] : List Int) 0 h90 (by kernel_rfl) (by kernel_rfl) (by kernel_rfl) rfl rfl rfl (cells_int _ _ _ _) hc93 ?_)
    intro w94 A95 c96 h97 hk98
    refine RegI.o (OpE.storeBox 3 22 b43 0 (.slice A95 ((t46 ++ ([(IntKind.wrap .u8 t76)] : List Int)).length) c96) [.slice A95 ((t46 ++ ([(IntKind.wrap .u8 t76)] : List Int)).length) c96] h97 (by kernel_rfl) (by kernel_rfl) rfl (by kernel_rfl) (by kernel_rfl) (by kernel_rfl) ?_)
    intro w99 h100 hk101
    refine RegI.d ?_
    refine RunsI.g 1 [] ?_
    refine RunsI.roundEnd 0 h100 rfl rfl ?_
    intro w102 h103 hk104
    refine cont_mk ?_
    refine RegI.p 1 [(0, .func (.yield b40) #[] #[]), (1, .pointer (some ⟨b47, 0, none⟩)), (2, .pointer (some ⟨b50, 0, none⟩)), (4, .int .i64 t51), (30, .bool false)] ?_
    refine RegI.d ?_
    refine RunsI.b false 18 ?_
    refine RunsI.g 2 [.c 19, .lp 4, .blk 0] ?_
    refine RunsI.r ?_
    refine RegI.p 1 [(0, .func (.yield b40) #[] #[]), (1, .pointer (some ⟨b47, 0, none⟩)), (2, .pointer (some ⟨b50, 0, none⟩)), (10, .int .i64 t51)] ?_
    refine RegI.o (OpE.loadBox 11 7 3 b50 0 (.int .i64 2) h103 (by kernel_rfl) (by kernel_rfl) rfl (by kernel_rfl) ?_)
    refine RegI.p 2 [(0, .func (.yield b40) #[] #[]), (1, .pointer (some ⟨b47, 0, none⟩)), (2, .pointer (some ⟨b50, 0, none⟩)), (4, .int .i64 (IntKind.wrap .i64 (t51 + 2)))] ?_
    refine RegI.d ?_
    refine RunsI.g 1 [.c 4, .lp 4, .blk 0] ?_
    refine RunsI.l [0, 1, 2, 4] [(0, .func (.yield b40) #[] #[]), (1, .pointer (some ⟨b47, 0, none⟩)), (2, .pointer (some ⟨b50, 0, none⟩)), (4, .int .i64 (IntKind.wrap .i64 (t51 + 2)))] ?_
    exact ih (t46 ++ ([(IntKind.wrap .u8 t76)] : List Int)) (IntKind.wrap .i64 (t51 + 2)) A95 c96 w102 h (h103.pick [0, 1, 2, 3, 4, 5, 6, 7, 8] (by decide))
  ·skip
   refine RunsI.f 9 false hc53 ?_
   refine RunsI.b false 9 ?_
   refine RunsI.g 1 [] ?_
   refine RunsI.l [] [] ?_
   exact hk0 t46 A44 c45 w (Option.some.inj h).symm (hH.pick [1, 2, 3, 4, 5, 6, 7, 0, 8] (by decide))
def image_Bytes_9.f (K : Nat) (p0 : ByteArray) : Option ((List Int) × Bool) := cond (Nat.ble p0.size 140737488355328) ((image_Bytes_9.l0 K p0 K ([] : List Int) 0).bind (fun x111 => Lp.elim x111 (fun t120 => some (([] : List Int), false)) (fun t115 => some (t115, true)))) none
set_option maxRecDepth 100000 in
theorem image_Bytes_9_ok (K : Nat) (M0 : Nat → Prop) (w0 : World) (p0 : ByteArray) (ho : ∀ b, M0 b → b < w0.heap.size) {r : (List Int) × Bool} (h : image_Bytes_9.f K p0 = some r) :
  Calls Tryd.prog 9 #[.string p0] w0 (image_Bytes_9.post M0 w0 r) := by
 unfold image_Bytes_9.f at h
 have h0 : Holds M0 w0 w0 [] := Holds.start ho
 have h0 : Holds M0 w0 w0 [] := h0
 refine calls_of F9 rfl [.string p0] (by kernel_rfl) ?_
 refine RunsI.g 1 [.c 1, .c 2] ?_
 refine RunsI.r ?_
 refine RegI.o (OpE.box 2 22 [.slice none 0 0] h0 (by kernel_rfl) (by kernel_rfl) ?_)
 intro w1 b2 h3 hb4 hn5
 refine RegI.o (OpE.box 3 4 [.bool false] h3 (by kernel_rfl) (by kernel_rfl) ?_)
 intro w6 b7 h8 hb9 hn10
 refine RegI.d ?_
 refine RunsI.g 1 [.c 3, .c 4] ?_
 refine RunsI.r ?_
 refine RegI.o (OpE.box 4 22 [.slice none 0 0] h8 (by kernel_rfl) (by kernel_rfl) ?_)
 intro w11 b12 h13 hb14 hn15
 refine RegI.d ?_
 refine RunsI.g 2 [.c 6, .c 7, .c 22] ?_
 refine RunsI.r ?_
 refine RegI.p 1 [(2, .pointer (some ⟨b2, 0, none⟩)), (3, .pointer (some ⟨b7, 0, none⟩)), (4, .pointer (some ⟨b12, 0, none⟩)), (8, .string p0)] ?_
 obtain ⟨hc16, h⟩ := of_cond0 h
 refine RegI.o (OpE.bytesOf 9 9 22 p0 h13 (by kernel_rfl) (by kernel_rfl) (by kernel_rfl) hc16 ?_)
 intro w17 A18 c19 h20 hb21
 refine RegI.enter 10 [2, 3, 4] [(2, .pointer (some ⟨b2, 0, none⟩)), (3, .pointer (some ⟨b7, 0, none⟩)), (4, .pointer (some ⟨b12, 0, none⟩))] (by kernel_rfl) (by kernel_rfl) (by kernel_rfl) (by kernel_rfl) F23 23 rfl [.slice A18 ((bytesI p0).length) c19, .int .i64 2] (by kernel_rfl) (by kernel_rfl) ?_
 refine RunsI.g 1 [.c 1, .c 2] ?_
 refine RunsI.r ?_
 refine RegI.o (OpE.box 2 22 [.slice A18 ((bytesI p0).length) c19] h20 (by kernel_rfl) (by kernel_rfl) ?_)
 intro w22 b23 h24 hb25 hn26
 refine RegI.o (OpE.box 3 3 [.int .i64 2] h24 (by kernel_rfl) (by kernel_rfl) ?_)
 intro w27 b28 h29 hb30 hn31
 refine RegI.p 1 [(2, .pointer (some ⟨b23, 0, none⟩)), (3, .pointer (some ⟨b28, 0, none⟩))] ?_
 refine RegI.d ?_
 refine RunsI.g 2 [.c 4, .c 5, .c 8] ?_
 refine RunsI.r ?_
 refine RegI.o (OpE.loadBox 5 5 3 b28 0 (.int .i64 2) h29 (by kernel_rfl) (by kernel_rfl) rfl (by kernel_rfl) ?_)
 refine RegI.p 1 [(2, .pointer (some ⟨b23, 0, none⟩)), (3, .pointer (some ⟨b28, 0, none⟩)), (6, .bool false)] ?_
 refine RegI.d ?_
 refine RunsI.b false 7 ?_
 refine RunsI.g 2 [.c 9, .c 10] ?_
 refine RunsI.r ?_
 refine RegI.p 2 [(4, .func (.func 48) #[] #[.pointer (some ⟨b23, 0, none⟩), .pointer (some ⟨b28, 0, none⟩)])] ?_
 refine RegI.d ?_
 refine RunsI.t (.func (.func 48) #[] #[.pointer (some ⟨b23, 0, none⟩), .pointer (some ⟨b28, 0, none⟩)]) ?_
 refine cont_mk ?_
 refine RegI.d ?_
 refine RunsI.g 1 [.c 8, .blk 0, .c 22] ?_
 refine RunsI.rangeFunc (G := F48) [2, 3, 4, 10] [(2, .pointer (some ⟨b2, 0, none⟩)), (3, .pointer (some ⟨b7, 0, none⟩)), (4, .pointer (some ⟨b12, 0, none⟩)), (10, .func (.func 48) #[] #[.pointer (some ⟨b23, 0, none⟩), .pointer (some ⟨b28, 0, none⟩)])] 48 [.pointer (some ⟨b23, 0, none⟩), .pointer (some ⟨b28, 0, none⟩)] h29 (by kernel_rfl) (by kernel_rfl) (by kernel_rfl) (fun _ _ => by kernel_rfl) rfl rfl (by kernel_rfl) rfl rfl ?_
 intro b32 b33 w34 h35 hb36 hn37 hn38
 refine RunsI.g 1 [.c 1, .c 2] ?_
 refine RunsI.r ?_
 refine RegI.p 1 [(0, .func (.yield b33) #[] #[]), (1, .pointer (some ⟨b23, 0, none⟩)), (2, .pointer (some ⟨b28, 0, none⟩)), (4, .int .i64 0)] ?_
 refine RegI.d ?_
 refine RunsI.g 2 [.c 4, .lp 4, .blk 0] ?_
 obtain ⟨x111, hx112, h⟩ := of_bind h
 have h39 := h35.addOwnNil (Rp.int .u8) 5
 refine RunsI.l [0, 1, 2, 4] [(0, .func (.yield b33) #[] #[]), (1, .pointer (some ⟨b23, 0, none⟩)), (2, .pointer (some ⟨b28, 0, none⟩)), (4, .int .i64 0)] ?_
 refine image_Bytes_9.l0_ok K M0 w0 p0 b33 b2 b7 b12 b23 A18 c19 b28 b32 _ x111 ?_ ?_ K ([] : List Int) 0 none 0 w34 hx112 (h39.pick [7, 0, 1, 2, 8, 4, 3, 5, 6] (by decide))
 ·intro t115 A113 c114 w117 hq141 h116
  (try rw [hq141] at h)
  dsimp only [Lp.elim] at h
  refine RunsI.t (.tuple #[]) ?_
  refine contR_mk ?_
  refine RunsI.endLoop 7 h116 rfl rfl (by intro hh; cases hh) [.blk 0, .c 22] (by kernel_rfl) ?_
  intro w123 h124 hk125
  refine RunsI.g 2 [.c 23, .c 24] ?_
  refine RunsI.r ?_
  refine RegI.o (OpE.loadBox 25 2 22 b12 0 (.slice A113 t115.length c114) h124 (by kernel_rfl) (by kernel_rfl) rfl (by kernel_rfl) ?_)
  refine RegI.o (OpE.storeBox 0 22 b2 0 (.slice A113 t115.length c114) [.slice A113 t115.length c114] h124 (by kernel_rfl) (by kernel_rfl) rfl (by kernel_rfl) (by kernel_rfl) (by kernel_rfl) ?_)
  intro w126 h127 hk128
  refine RegI.o (OpE.storeBox 1 4 b7 0 (.bool true) [.bool true] h127 (by kernel_rfl) (by kernel_rfl) rfl (by kernel_rfl) (by kernel_rfl) (by kernel_rfl) ?_)
  intro w129 h130 hk131
  refine RegI.d ?_
  refine RunsI.toRet (by kernel_rfl) ?_
  refine RetI.takeH 8 b32 h130 rfl ?_
  intro w132 h133 hk134
  refine RetI.valW [.cell 2 22, .cell 3 4] [.slice A113 t115.length c114, .bool true] (.tuple #[.slice A113 t115.length c114, .bool true]) (by kernel_rfl) (ResAt.box 0 22 b2 0 h133 (by kernel_rfl) (by kernel_rfl) rfl (by kernel_rfl) (ResAt.box 1 4 b7 0 h133 (by kernel_rfl) (by kernel_rfl) rfl (by kernel_rfl) rfl)) (by kernel_rfl) ?_
  obtain rfl := Option.some.inj h
  exact ⟨A113, c114, rfl, h133.pick [3] (by decide)⟩
 ·intro t120 A118 c119 w122 hq142 h121
  (try rw [hq142] at h)
  dsimp only [Lp.elim] at h
  refine contR_mk ?_
  refine RunsI.endLoop 7 h121 rfl rfl (by intro hh; cases hh) [.c 19, .blk 0, .c 22] (by kernel_rfl) ?_
  intro w135 h136 hk137
  refine RunsI.toRet (by kernel_rfl) ?_
  refine RetI.takeH 8 b32 h136 rfl ?_
  intro w138 h139 hk140
  refine RetI.valW [.cell 2 22, .cell 3 4] [.slice none 0 0, .bool false] (.tuple #[.slice none 0 0, .bool false]) (by kernel_rfl) (ResAt.box 0 22 b2 0 h139 (by kernel_rfl) (by kernel_rfl) rfl (by kernel_rfl) (ResAt.box 1 4 b7 0 h139 (by kernel_rfl) (by kernel_rfl) rfl (by kernel_rfl) rfl)) (by kernel_rfl) ?_
  have h143 := h139.addOwnNil (Rp.int .u8) 5
  obtain rfl := Option.some.inj h
  exact ⟨none, 0, rfl, h143.pick [9] (by decide)⟩
end

/-! ### cmp.isNaN[int] (function 95) -/
section
def cmp_isNaN_int_95.post (M0 : Nat → Prop) (w0 : World) (r : Bool) : Ending → World → Prop := fun e w => e = .returned (.bool r) ∧ Below w0.heap.size w0 w
def cmp_isNaN_int_95.f (K : Nat) (p0 : Int) : Option Bool := some (p0 != p0)
set_option maxRecDepth 100000 in
theorem cmp_isNaN_int_95_ok (K : Nat) (M0 : Nat → Prop) (w0 : World) (p0 : Int) (ho : ∀ b, M0 b → b < w0.heap.size) {r : Bool} (h : cmp_isNaN_int_95.f K p0 = some r) :
  Calls Tryd.prog 95 #[.int .i64 p0] w0 (cmp_isNaN_int_95.post M0 w0 r) := by
 unfold cmp_isNaN_int_95.f at h
 have h0 : Holds M0 w0 w0 [] := Holds.start ho
 have h0 : Holds M0 w0 w0 [] := h0
 refine calls_of F95 rfl [.int .i64 p0] (by kernel_rfl) ?_
 refine RunsI.g 1 [.c 1, .c 2] ?_
 refine RunsI.r ?_
 refine RegI.p 1 [(0, .int .i64 p0)] ?_
 refine RegI.d ?_
 refine RunsI.g 1 [.c 3, .c 4] ?_
 refine RunsI.r ?_
 refine RegI.p 4 [(2, .bool (p0 != p0))] ?_
 refine RegI.d ?_
 refine RunsI.t (.bool (p0 != p0)) ?_
 obtain rfl := Option.some.inj h
 exact ⟨rfl, h0.below⟩
end

/-! ### cmp.Compare[int] (function 79) -/
section
def cmp_Compare_int_79.post (M0 : Nat → Prop) (w0 : World) (r : Int) : Ending → World → Prop := fun e w => e = .returned (.int .i64 r) ∧ Below w0.heap.size w0 w
def cmp_Compare_int_79.f (K : Nat) (p0 : Int) (p1 : Int) : Option Int := (cmp_isNaN_int_95.f K p0).bind fun t5 => (cmp_isNaN_int_95.f K p1).bind fun t10 => cond t5 (cond t10 (some 0) (some (-1))) (cond t10 (some 1) (cond (decide (p0 < p1)) (some (-1)) (cond (decide (p0 > p1)) (some 1) (some 0))))
set_option maxRecDepth 100000 in
theorem cmp_Compare_int_79_ok (K : Nat) (M0 : Nat → Prop) (w0 : World) (p0 : Int) (p1 : Int) (ho : ∀ b, M0 b → b < w0.heap.size) {r : Int} (h : cmp_Compare_int_79.f K p0 p1 = some r) :
  Calls Tryd.prog 79 #[.int .i64 p0, .int .i64 p1] w0 (cmp_Compare_int_79.post M0 w0 r) := by
 unfold cmp_Compare_int_79.f at h
 have h0 : Holds M0 w0 w0 [] := Holds.start ho
 have h0 : Holds M0 w0 w0 [] := h0
 refine calls_of F79 rfl [.int .i64 p0, .int .i64 p1] (by kernel_rfl) ?_
 refine RunsI.g 1 [.c 1, .c 2] ?_
 refine RunsI.r ?_
 refine RegI.p 1 [(0, .int .i64 p0), (1, .int .i64 p1)] ?_
 refine RegI.d ?_
 refine RunsI.g 1 [.c 3, .c 4] ?_
 refine RunsI.r ?_
 refine RegI.p 1 [(0, .int .i64 p0), (1, .int .i64 p1), (7, .int .i64 p0)] ?_
 obtain ⟨t5, hg4, h⟩ := of_bind h
 refine RegI.o (OpE.call 8 (by kernel_rfl) 95 #[.int .i64 p0] (by kernel_rfl) ((cmp_isNaN_int_95_ok K _ w0  p0 h0.old' hg4).mono ?_))
 rintro _ w1 ⟨rfl, hb2⟩
 refine ⟨_, rfl, ?_⟩
 have h3 := h0.call hb2
 refine RegI.p 1 [(0, .int .i64 p0), (1, .int .i64 p1), (5, .bool t5)] ?_
 refine RegI.d ?_
 refine RunsI.g 1 [.c 5, .c 6] ?_
 refine RunsI.r ?_
 refine RegI.p 1 [(0, .int .i64 p0), (1, .int .i64 p1), (5, .bool t5), (9, .int .i64 p1)] ?_
 obtain ⟨t10, hg9, h⟩ := of_bind h
 refine RegI.o (OpE.call 10 (by kernel_rfl) 95 #[.int .i64 p1] (by kernel_rfl) ((cmp_isNaN_int_95_ok K _ w1  p1 h3.old' hg9).mono ?_))
 rintro _ w6 ⟨rfl, hb7⟩
 refine ⟨_, rfl, ?_⟩
 have h8 := h3.call hb7
 refine RegI.p 1 [(0, .int .i64 p0), (1, .int .i64 p1), (5, .bool t5), (6, .bool t10)] ?_
 refine RegI.d ?_
 refine RunsI.g 2 [.c 8, .c 9, .c 22] ?_
 refine RunsI.r ?_
 refine RegI.p 1 [(0, .int .i64 p0), (1, .int .i64 p1), (6, .bool t10), (11, .bool t5)] ?_
 refine RegI.d ?_
 rcases of_cond h with ⟨hc11, h⟩ | ⟨hc11, h⟩
 ·skip
  refine RunsI.f 11 true hc11 ?_
  refine RunsI.b true 10 ?_
  refine RunsI.g 2 [.c 12, .c 13, .c 18, .c 22] ?_
  refine RunsI.r ?_
  refine RegI.p 1 [(12, .bool t10)] ?_
  refine RegI.d ?_
  rcases of_cond h with ⟨hc12, h⟩ | ⟨hc12, h⟩
  ·skip
   refine RunsI.f 12 true hc12 ?_
   refine RunsI.b true 14 ?_
   refine RunsI.g 1 [.c 15, .c 16, .c 18, .c 22] ?_
   refine RunsI.r ?_
   refine RegI.p 1 [(4, .int .i64 0)] ?_
   refine RegI.d ?_
   refine RunsI.t (.int .i64 0) ?_
   obtain rfl := Option.some.inj h
   exact ⟨rfl, h8.below⟩
  ·skip
   refine RunsI.f 12 false hc12 ?_
   refine RunsI.b false 17 ?_
   refine RunsI.g 1 [.c 18, .c 22] ?_
   refine RunsI.g 1 [.c 19, .c 20, .c 22] ?_
   refine RunsI.r ?_
   refine RegI.p 1 [(4, .int .i64 (-1))] ?_
   refine RegI.d ?_
   refine RunsI.t (.int .i64 (-1)) ?_
   obtain rfl := Option.some.inj h
   exact ⟨rfl, h8.below⟩
 ·skip
  refine RunsI.f 11 false hc11 ?_
  refine RunsI.b false 21 ?_
  refine RunsI.g 1 [.c 22] ?_
  refine RunsI.g 2 [.c 24, .c 25, .c 30] ?_
  refine RunsI.r ?_
  refine RegI.p 1 [(0, .int .i64 p0), (1, .int .i64 p1), (13, .bool t10)] ?_
  refine RegI.d ?_
  rcases of_cond h with ⟨hc13, h⟩ | ⟨hc13, h⟩
  ·skip
   refine RunsI.f 13 true hc13 ?_
   refine RunsI.b true 26 ?_
   refine RunsI.g 1 [.c 27, .c 28, .c 30] ?_
   refine RunsI.r ?_
   refine RegI.p 1 [(4, .int .i64 1)] ?_
   refine RegI.d ?_
   refine RunsI.t (.int .i64 1) ?_
   obtain rfl := Option.some.inj h
   exact ⟨rfl, h8.below⟩
  ·skip
   refine RunsI.f 13 false hc13 ?_
   refine RunsI.b false 29 ?_
   refine RunsI.g 1 [.c 30] ?_
   refine RunsI.g 2 [.c 32, .c 33, .c 38] ?_
   refine RunsI.r ?_
   refine RegI.p 3 [(0, .int .i64 p0), (1, .int .i64 p1), (16, .bool (decide (p0 < p1)))] ?_
   refine RegI.d ?_
   rcases of_cond h with ⟨hc14, h⟩ | ⟨hc14, h⟩
   ·skip
    refine RunsI.f 16 true hc14 ?_
    refine RunsI.b true 34 ?_
    refine RunsI.g 1 [.c 35, .c 36, .c 38] ?_
    refine RunsI.r ?_
    refine RegI.p 1 [(4, .int .i64 (-1))] ?_
    refine RegI.d ?_
    refine RunsI.t (.int .i64 (-1)) ?_
    obtain rfl := Option.some.inj h
    exact ⟨rfl, h8.below⟩
   ·skip
    refine RunsI.f 16 false hc14 ?_
    refine RunsI.b false 37 ?_
    refine RunsI.g 1 [.c 38] ?_
    refine RunsI.g 2 [.c 40, .c 41, .c 46] ?_
    refine RunsI.r ?_
    refine RegI.p 3 [(19, .bool (decide (p0 > p1)))] ?_
    refine RegI.d ?_
    rcases of_cond h with ⟨hc15, h⟩ | ⟨hc15, h⟩
    ·skip
     refine RunsI.f 19 true hc15 ?_
     refine RunsI.b true 42 ?_
     refine RunsI.g 1 [.c 43, .c 44, .c 46] ?_
     refine RunsI.r ?_
     refine RegI.p 1 [(4, .int .i64 1)] ?_
     refine RegI.d ?_
     refine RunsI.t (.int .i64 1) ?_
     obtain rfl := Option.some.inj h
     exact ⟨rfl, h8.below⟩
    ·skip
     refine RunsI.f 19 false hc15 ?_
     refine RunsI.b false 45 ?_
     refine RunsI.g 1 [.c 46] ?_
     refine RunsI.g 1 [.c 47, .c 48] ?_
     refine RunsI.r ?_
     refine RegI.p 1 [(4, .int .i64 0)] ?_
     refine RegI.d ?_
     refine RunsI.t (.int .i64 0) ?_
     obtain rfl := Option.some.inj h
     exact ⟨rfl, h8.below⟩
end

/-! ### slices.Clone[[]charabanc/banks.Spot,charabanc/banks.Spot] (function 82) -/
section
def banks_Spot_82.post (M0 : Nat → Prop) (w0 : World) (r : (List (Int × Int))) : Ending → World → Prop := fun e w => ∃ (A1 : Option Addr) (c1 : Nat), e = .returned (.slice A1 r.length c1) ∧ Holds M0 w0 w [own (Rp.pair (Rp.int .i64) (Rp.int .u8)) 64 (.slice A1 r.length c1) r]
def banks_Spot_82.f (K : Nat) (p0 : List (Int × Int)) : Option (List (Int × Int)) := cond (mayBe (([] : List (Int × Int)).length + p0.length) 16) (some (([] : List (Int × Int)) ++ p0)) none
set_option maxRecDepth 100000 in
theorem banks_Spot_82_ok (K : Nat) (M0 : Nat → Prop) (w0 : World) (pA0 : Option Addr) (pc0 : Nat) (p0 : List (Int × Int)) (ho : ∀ b, M0 b → b < w0.heap.size) (hs0 : Sl (Rp.pair (Rp.int .i64) (Rp.int .u8)) w0 M0 (.slice pA0 p0.length pc0) p0) {r : (List (Int × Int))} (h : banks_Spot_82.f K p0 = some r) :
  Calls Tryd.prog 82 #[.slice pA0 p0.length pc0] w0 (banks_Spot_82.post M0 w0 r) := by
 unfold banks_Spot_82.f at h
 have h0 : Holds M0 w0 w0 [] := Holds.start ho
 have h00 := h0.addSl (Rp.pair (Rp.int .i64) (Rp.int .u8)) (.slice pA0 p0.length pc0) p0 (hs0.mono (fun _ _ hm => hm.elim id (fun hm => absurd hm (by simp [mines, sl]))))
 have h0 : Holds M0 w0 w0 [sl (Rp.pair (Rp.int .i64) (Rp.int .u8)) (.slice pA0 p0.length pc0) p0] := h00
 refine calls_of F82 rfl [.slice pA0 p0.length pc0] (by kernel_rfl) ?_
 refine RunsI.g 1 [.c 1, .c 2] ?_
 refine RunsI.r ?_
 refine RegI.p 1 [(0, .slice pA0 p0.length pc0)] ?_
 refine RegI.d ?_
 refine RunsI.g 2 [.c 4, .c 5, .c 10] ?_
 refine RunsI.r ?_
 refine RegI.p 1 [(0, .slice pA0 p0.length pc0), (3, .slice pA0 p0.length pc0)] ?_
 rcases pA0 with _ | a1
 ·obtain ⟨rfl, rfl⟩ := Sl.nilOf (h0.get 0 rfl)
  have h : (some ([] : List (Int × Int))) = some r := by first | exact h | simpa using h
  refine RegI.p 1 [(0, .slice none (([] : List (Int × Int)).length) 0), (4, .bool true)] ?_
  refine RegI.d ?_
  refine RunsI.b true 6 ?_
  refine RunsI.g 1 [.c 7, .c 8, .c 10] ?_
  refine RunsI.r ?_
  refine RegI.p 1 [(2, .slice none 0 0)] ?_
  refine RegI.d ?_
  refine RunsI.t (.slice none 0 0) ?_
  have h14 := h0.addOwnNil (Rp.pair (Rp.int .i64) (Rp.int .u8)) 64
  obtain rfl := Option.some.inj h
  exact ⟨none, 0, rfl, h14.pick [1] (by decide)⟩
 ·skip
  refine RegI.p 1 [(0, .slice (some a1) p0.length pc0), (4, .bool false)] ?_
  refine RegI.d ?_
  refine RunsI.b false 9 ?_
  refine RunsI.g 2 [.c 11, .c 12] ?_
  refine RunsI.r ?_
  refine RegI.o (OpE.lit 5 64 [] 0 h0 (by kernel_rfl) (by kernel_rfl) ?_)
  intro w2 b3 h4 hb5 hn6
  refine RegI.p 1 [(5, .slice (some ⟨b3, 0, none⟩) (([] : List (Int × Int)).length) 0), (6, .slice (some a1) p0.length pc0)] ?_
  have h7 := h4.boxOwn 1 rfl (Rp.pair (Rp.int .i64) (Rp.int .u8)) ([] : List (Int × Int)) (rfl) (Nat.le_of_ble_eq_true (by kernel_rfl))
  obtain ⟨hc8, h⟩ := of_cond0 h
  refine RegI.o (OpE.appendRow 7 1 24 64 16 (ys := p0) h7 (by kernel_rfl) (by kernel_rfl) (by kernel_rfl) rfl (h7.rdSl 0 rfl) hc8 ?_)
  intro w9 A10 c11 h12 hk13
  refine RegI.p 1 [(2, .slice A10 ((([] : List (Int × Int)) ++ p0).length) c11)] ?_
  refine RegI.d ?_
  refine RunsI.t (.slice A10 ((([] : List (Int × Int)) ++ p0).length) c11) ?_
  obtain rfl := Option.some.inj h
  exact ⟨A10, c11, rfl, h12.pick [1] (by decide)⟩
end

/-! ### (charabanc/banks.Store).put (function 64) -/
section
def banks_Store_put_64.post (pA0_0 : Option Addr) (pc0_0 : Nat) (p0_0 : List Int) (M0 : Nat → Prop) (w0 : World) (r : (List Int) × Int × Int × (List (Int × Int))) : Ending → World → Prop := fun e w => ∃ (A4 : Option Addr) (c4 : Nat), e = .returned (.agg #[.slice pA0_0 p0_0.length pc0_0, .int .i64 r.2.1, .int .i64 r.2.2.1, .slice A4 r.2.2.2.length c4]) ∧ p0_0 = r.1 ∧ Holds M0 w0 w [own (Rp.pair (Rp.int .i64) (Rp.int .u8)) 64 (.slice A4 r.2.2.2.length c4) r.2.2.2]
def banks_Store_put_64.l0 (K : Nat) (p0_0 : List Int) (p0_1 : Int) (p0_2 : Int) (p0_3 : List (Int × Int)) (p1 : Int) (p2 : Int) : Nat → Int → Option (Lp Int Unit)
 | 0, _ => none
 | k + 1, t17 => cond (decide (t17 < (p0_3.length : Int))) (cond (inR t17 p0_3.length) ((cmp_Compare_int_79.f K ((rdD p0_3 t17).1) p1).bind fun t36 => cond (decide (t36 > 0)) (some (Lp.ret t17)) (banks_Store_put_64.l0 K p0_0 p0_1 p0_2 p0_3 p1 p2 k (IntKind.wrap .i64 (t17 + 1)))) none) (some (Lp.go ()))
set_option maxRecDepth 100000 in
theorem banks_Store_put_64.l0_ok (K : Nat) (M0 : Nat → Prop) (w0 : World) (pA0_0 : Option Addr) (pc0_0 : Nat) (pA0_3 : Option Addr) (pc0_3 : Nat) (p0_0 : List Int) (p0_1 : Int) (p0_2 : Int) (p0_3 : List (Int × Int)) (p1 : Int) (p2 : Int) (b16 : Nat) (b18 : Nat) (b19 : Nat) (R : Ending → World → Prop) (x : Lp Int Unit) (hk0 : ∀ (w1 : World), x = Lp.go () → Holds M0 w0 w1 [box b18 26 [.slice pA0_0 p0_0.length pc0_0, .int .i64 p0_1, .int .i64 p0_2, .slice pA0_3 p0_3.length pc0_3], sl (Rp.pair (Rp.int .i64) (Rp.int .u8)) (.slice pA0_3 p0_3.length pc0_3) p0_3, box b16 3 [.int .i64 p1], box b19 26 [.slice none 0 0, .int .i64 0, .int .i64 0, .slice none 0 0]] → RunsI F72 [.c 25] [] w1 R) (hk1 : ∀ (t38 : Int) (w1 : World), x = Lp.ret t38 → Holds M0 w0 w1 [box b18 26 [.slice pA0_0 p0_0.length pc0_0, .int .i64 p0_1, .int .i64 p0_2, .slice pA0_3 p0_3.length pc0_3], sl (Rp.pair (Rp.int .i64) (Rp.int .u8)) (.slice pA0_3 p0_3.length pc0_3) p0_3, box b16 3 [.int .i64 p1], box b19 26 [.slice none 0 0, .int .i64 0, .int .i64 0, .slice none 0 0]] → R (.returned (.int .i64 t38)) w1) :
  ∀ (k : Nat) (t17 : Int) (w : World), banks_Store_put_64.l0 K p0_0 p0_1 p0_2 p0_3 p1 p2 k t17 = some x → Holds M0 w0 w [sl (Rp.pair (Rp.int .i64) (Rp.int .u8)) (.slice pA0_3 p0_3.length pc0_3) p0_3, box b16 3 [.int .i64 p1], box b18 26 [.slice pA0_0 p0_0.length pc0_0, .int .i64 p0_1, .int .i64 p0_2, .slice pA0_3 p0_3.length pc0_3], box b19 26 [.slice none 0 0, .int .i64 0, .int .i64 0, .slice none 0 0]] → RunsI F72 [.c 7, .lp 7, .blk 0, .c 25] [(0, .slice pA0_3 p0_3.length pc0_3), (1, .func (.func 78) #[] #[.pointer (some ⟨b16, 0, none⟩)]), (7, .int .i64 (p0_3.length : Int)), (8, .int .i64 t17)] w R := by
 intro k
 induction k with
 | zero => intro t17 w h hH; exact absurd h (by simp [banks_Store_put_64.l0])
 | succ k ih =>
  intro t17 w h hH
  rw [banks_Store_put_64.l0.eq_2] at h
  refine RunsI.g 1 [.c 8, .c 9, .lp 7, .blk 0, .c 25] ?_
  refine RunsI.r ?_
  refine RegI.p 1 [(0, .slice pA0_3 p0_3.length pc0_3), (1, .func (.func 78) #[] #[.pointer (some ⟨b16, 0, none⟩)]), (7, .int .i64 (p0_3.length : Int)), (8, .int .i64 t17), (9, .bool (decide (t17 < (p0_3.length : Int))))] ?_
  refine RegI.d ?_
  refine RunsI.g 1 [.c 10, .c 13, .lp 7, .blk 0, .c 25] ?_
  rcases of_cond h with ⟨hc20, h⟩ | ⟨hc20, h⟩
  ·skip
   refine RunsI.f 9 true hc20 ?_
   refine RunsI.b true 11 ?_
   refine RunsI.g 1 [.c 13, .lp 7, .blk 0, .c 25] ?_
   refine RunsI.g 3 [.c 16, .c 17, .blk 1, .c 24, .lp 7, .blk 0, .c 25] ?_
   refine RunsI.r ?_
   refine RegI.p 2 [(0, .slice pA0_3 p0_3.length pc0_3), (1, .func (.func 78) #[] #[.pointer (some ⟨b16, 0, none⟩)]), (5, .int .i64 t17), (7, .int .i64 (p0_3.length : Int)), (8, .int .i64 t17)] ?_
   refine RegI.d ?_
   refine RunsI.g 1 [.c 18, .c 19, .blk 1, .c 24, .lp 7, .blk 0, .c 25] ?_
   refine RunsI.r ?_
   refine RegI.p 3 [(0, .slice pA0_3 p0_3.length pc0_3), (1, .func (.func 78) #[] #[.pointer (some ⟨b16, 0, none⟩)]), (5, .int .i64 t17), (7, .int .i64 (p0_3.length : Int)), (8, .int .i64 t17), (11, .func (.func 78) #[] #[.pointer (some ⟨b16, 0, none⟩)]), (12, .slice pA0_3 p0_3.length pc0_3), (13, .int .i64 t17)] ?_
   obtain ⟨hc21, h⟩ := of_cond0 h
   refine RegI.o (OpE.idxSl 14 0 24 t17 hH (by kernel_rfl) rfl (by kernel_rfl) (by kernel_rfl) hc21 ?_)
   intro b22 o23 cs24 hk25 h26
   obtain ⟨_, _, rfl, rfl, rfl⟩ := hk25
   refine RegI.o (OpE.loadCel 15 4 64 b22 o23 0 (.agg #[.int .i64 ((rdD p0_3 t17).1), .int .u8 ((rdD p0_3 t17).2)]) h26 (by kernel_rfl) (by kernel_rfl) rfl (by kernel_rfl) ?_)
   refine RegI.enter 16 [0, 1, 5, 7, 8] [(0, .slice pA0_3 p0_3.length pc0_3), (1, .func (.func 78) #[] #[.pointer (some ⟨b16, 0, none⟩)]), (5, .int .i64 t17), (7, .int .i64 (p0_3.length : Int)), (8, .int .i64 t17)] (by kernel_rfl) (by kernel_rfl) (by kernel_rfl) (by kernel_rfl) F78 78 rfl [.agg #[.int .i64 ((rdD p0_3 t17).1), .int .u8 ((rdD p0_3 t17).2)], .pointer (some ⟨b16, 0, none⟩)] (by kernel_rfl) (by kernel_rfl) ?_
   refine RunsI.g 1 [.c 1, .c 2] ?_
   refine RunsI.r ?_
   refine RegI.o (OpE.box 2 64 [.int .i64 ((rdD p0_3 t17).1), .int .u8 ((rdD p0_3 t17).2)] h26 (by kernel_rfl) (by kernel_rfl) ?_)
   intro w27 b28 h29 hb30 hn31
   refine RegI.p 1 [(1, .pointer (some ⟨b16, 0, none⟩)), (2, .pointer (some ⟨b28, 0, none⟩))] ?_
   refine RegI.d ?_
   refine RunsI.g 1 [.c 3, .c 4] ?_
   refine RunsI.r ?_
   refine RegI.p 1 [(1, .pointer (some ⟨b16, 0, none⟩)), (4, .pointer (some ⟨b28, 0, none⟩))] ?_
   refine RegI.o (OpE.loadBox 5 5 3 b28 0 (.int .i64 ((rdD p0_3 t17).1)) h29 (by kernel_rfl) (by kernel_rfl) rfl (by kernel_rfl) ?_)
   refine RegI.o (OpE.loadBox 6 1 3 b16 0 (.int .i64 p1) h29 (by kernel_rfl) (by kernel_rfl) rfl (by kernel_rfl) ?_)
   obtain ⟨t36, hg35, h⟩ := of_bind h
   refine RegI.o (OpE.call 7 (by kernel_rfl) 79 #[.int .i64 ((rdD p0_3 t17).1), .int .i64 p1] (by kernel_rfl) ((cmp_Compare_int_79_ok K _ w27  ((rdD p0_3 t17).1) p1 h29.old' hg35).mono ?_))
   rintro _ w32 ⟨rfl, hb33⟩
   refine ⟨_, rfl, ?_⟩
   have h34 := h29.call hb33
   refine RegI.p 2 [(3, .bool (decide (t36 > 0)))] ?_
   refine RegI.d ?_
   refine RunsI.t (.bool (decide (t36 > 0))) ?_
   refine cont_mk ?_
   refine RegI.d ?_
   rcases of_cond h with ⟨hc37, h⟩ | ⟨hc37, h⟩
   ·skip
    refine RunsI.f 16 true hc37 ?_
    refine RunsI.b true 20 ?_
    refine RunsI.g 1 [.c 21, .c 22, .blk 1, .c 24, .lp 7, .blk 0, .c 25] ?_
    refine RunsI.r ?_
    refine RegI.p 2 [(4, .int .i64 t17)] ?_
    refine RegI.d ?_
    refine RunsI.t (.int .i64 t17) ?_
    exact hk1 t17 w32 (Option.some.inj h).symm (h34.pick [2, 0, 1, 3] (by decide))
   ·skip
    refine RunsI.f 16 false hc37 ?_
    refine RunsI.b false 23 ?_
    refine RunsI.g 1 [.blk 1, .c 24, .lp 7, .blk 0, .c 25] ?_
    refine RunsI.g 1 [.c 24, .lp 7, .blk 0, .c 25] ?_
    refine RunsI.r ?_
    refine RegI.p 2 [(0, .slice pA0_3 p0_3.length pc0_3), (1, .func (.func 78) #[] #[.pointer (some ⟨b16, 0, none⟩)]), (7, .int .i64 (p0_3.length : Int)), (8, .int .i64 (IntKind.wrap .i64 (t17 + 1)))] ?_
    refine RegI.d ?_
    refine RunsI.g 1 [.c 7, .lp 7, .blk 0, .c 25] ?_
    refine RunsI.l [0, 1, 7, 8] [(0, .slice pA0_3 p0_3.length pc0_3), (1, .func (.func 78) #[] #[.pointer (some ⟨b16, 0, none⟩)]), (7, .int .i64 (p0_3.length : Int)), (8, .int .i64 (IntKind.wrap .i64 (t17 + 1)))] ?_
    exact ih (IntKind.wrap .i64 (t17 + 1)) w32 h (h34.pick [0, 1, 2, 3] (by decide))
  ·skip
   refine RunsI.f 9 false hc20 ?_
   refine RunsI.b false 12 ?_
   refine RunsI.g 1 [.c 25] ?_
   refine RunsI.l [] [] ?_
   exact hk0 w (Option.some.inj h).symm (hH.pick [2, 0, 1, 3] (by decide))
def banks_Store_put_64.l1 (K : Nat) (p0_0 : List Int) (p0_1 : Int) (p0_2 : Int) (p0_3 : List (Int × Int)) (p1 : Int) (p2 : Int) (t74 : List (Int × Int)) (t76 : Int) : Nat → Int → Option (Lp Int Unit)
 | 0, _ => none
 | k + 1, t77 => cond (decide (t77 < t76)) (cond (inR t77 t74.length) (cond (((rdD t74 t77).1) == p1) (some (Lp.ret t77)) (banks_Store_put_64.l1 K p0_0 p0_1 p0_2 p0_3 p1 p2 t74 t76 k (IntKind.wrap .i64 (t77 + 1)))) none) (some (Lp.go ()))
set_option maxRecDepth 100000 in
theorem banks_Store_put_64.l1_ok (K : Nat) (M0 : Nat → Prop) (w0 : World) (pA0_0 : Option Addr) (pc0_0 : Nat) (pA0_3 : Option Addr) (pc0_3 : Nat) (p0_0 : List Int) (p0_1 : Int) (p0_2 : Int) (p0_3 : List (Int × Int)) (p1 : Int) (p2 : Int) (t74 : List (Int × Int)) (t76 : Int) (A72 : Option Addr) (c73 : Nat) (b75 : Nat) (b78 : Nat) (b79 : Nat) (R : Ending → World → Prop) (x : Lp Int Unit) (hk0 : ∀ (w1 : World), x = Lp.go () → Holds M0 w0 w1 [box b78 26 [.slice pA0_0 p0_0.length pc0_0, .int .i64 p0_1, .int .i64 p0_2, .slice pA0_3 p0_3.length pc0_3], sl (Rp.pair (Rp.int .i64) (Rp.int .u8)) (.slice pA0_3 p0_3.length pc0_3) p0_3, box b75 3 [.int .i64 p1], box b79 26 [.slice none 0 0, .int .i64 0, .int .i64 0, .slice none 0 0], own (Rp.pair (Rp.int .i64) (Rp.int .u8)) 64 (.slice A72 t74.length c73) t74] → RunsI F72 [.c 25] [] w1 R) (hk1 : ∀ (t90 : Int) (w1 : World), x = Lp.ret t90 → Holds M0 w0 w1 [box b78 26 [.slice pA0_0 p0_0.length pc0_0, .int .i64 p0_1, .int .i64 p0_2, .slice pA0_3 p0_3.length pc0_3], sl (Rp.pair (Rp.int .i64) (Rp.int .u8)) (.slice pA0_3 p0_3.length pc0_3) p0_3, box b75 3 [.int .i64 p1], box b79 26 [.slice none 0 0, .int .i64 0, .int .i64 0, .slice none 0 0], own (Rp.pair (Rp.int .i64) (Rp.int .u8)) 64 (.slice A72 t74.length c73) t74] → R (.returned (.int .i64 t90)) w1) :
  ∀ (k : Nat) (t77 : Int) (w : World), banks_Store_put_64.l1 K p0_0 p0_1 p0_2 p0_3 p1 p2 t74 t76 k t77 = some x → Holds M0 w0 w [own (Rp.pair (Rp.int .i64) (Rp.int .u8)) 64 (.slice A72 t74.length c73) t74, box b75 3 [.int .i64 p1], box b78 26 [.slice pA0_0 p0_0.length pc0_0, .int .i64 p0_1, .int .i64 p0_2, .slice pA0_3 p0_3.length pc0_3], sl (Rp.pair (Rp.int .i64) (Rp.int .u8)) (.slice pA0_3 p0_3.length pc0_3) p0_3, box b79 26 [.slice none 0 0, .int .i64 0, .int .i64 0, .slice none 0 0]] → RunsI F72 [.c 7, .lp 7, .blk 0, .c 25] [(0, .slice A72 t74.length c73), (1, .func (.func 80) #[] #[.pointer (some ⟨b75, 0, none⟩)]), (7, .int .i64 t76), (8, .int .i64 t77)] w R := by
 intro k
 induction k with
 | zero => intro t77 w h hH; exact absurd h (by simp [banks_Store_put_64.l1])
 | succ k ih =>
  intro t77 w h hH
  rw [banks_Store_put_64.l1.eq_2] at h
  refine RunsI.g 1 [.c 8, .c 9, .lp 7, .blk 0, .c 25] ?_
  refine RunsI.r ?_
  refine RegI.p 1 [(0, .slice A72 t74.length c73), (1, .func (.func 80) #[] #[.pointer (some ⟨b75, 0, none⟩)]), (7, .int .i64 t76), (8, .int .i64 t77), (9, .bool (decide (t77 < t76)))] ?_
  refine RegI.d ?_
  refine RunsI.g 1 [.c 10, .c 13, .lp 7, .blk 0, .c 25] ?_
  rcases of_cond h with ⟨hc80, h⟩ | ⟨hc80, h⟩
  ·skip
   refine RunsI.f 9 true hc80 ?_
   refine RunsI.b true 11 ?_
   refine RunsI.g 1 [.c 13, .lp 7, .blk 0, .c 25] ?_
   refine RunsI.g 3 [.c 16, .c 17, .blk 1, .c 24, .lp 7, .blk 0, .c 25] ?_
   refine RunsI.r ?_
   refine RegI.p 2 [(0, .slice A72 t74.length c73), (1, .func (.func 80) #[] #[.pointer (some ⟨b75, 0, none⟩)]), (5, .int .i64 t77), (7, .int .i64 t76), (8, .int .i64 t77)] ?_
   refine RegI.d ?_
   refine RunsI.g 1 [.c 18, .c 19, .blk 1, .c 24, .lp 7, .blk 0, .c 25] ?_
   refine RunsI.r ?_
   refine RegI.p 3 [(0, .slice A72 t74.length c73), (1, .func (.func 80) #[] #[.pointer (some ⟨b75, 0, none⟩)]), (5, .int .i64 t77), (7, .int .i64 t76), (8, .int .i64 t77), (11, .func (.func 80) #[] #[.pointer (some ⟨b75, 0, none⟩)]), (12, .slice A72 t74.length c73), (13, .int .i64 t77)] ?_
   obtain ⟨hc81, h⟩ := of_cond0 h
   refine RegI.o (OpE.idxOwnA 14 0 24 64 t77 hH (by kernel_rfl) rfl (by kernel_rfl) (by kernel_rfl) hc81 ?_)
   refine RegI.o (OpE.loadOwnA 15 0 64 64 t77 0 (o := (Int.toNat t77) * 2 + 0) hH (by kernel_rfl) rfl (by kernel_rfl) (by kernel_rfl) hc81 (fun cs82 hk83 => ?_))
   obtain ⟨_, _, rfl, rfl, rfl⟩ := hk83
   refine ⟨.agg #[.int .i64 ((rdD t74 t77).1), .int .u8 ((rdD t74 t77).2)], by kernel_rfl, ?_⟩
   refine RegI.enter 16 [0, 1, 5, 7, 8] [(0, .slice A72 t74.length c73), (1, .func (.func 80) #[] #[.pointer (some ⟨b75, 0, none⟩)]), (5, .int .i64 t77), (7, .int .i64 t76), (8, .int .i64 t77)] (by kernel_rfl) (by kernel_rfl) (by kernel_rfl) (by kernel_rfl) F80 80 rfl [.agg #[.int .i64 ((rdD t74 t77).1), .int .u8 ((rdD t74 t77).2)], .pointer (some ⟨b75, 0, none⟩)] (by kernel_rfl) (by kernel_rfl) ?_
   refine RunsI.g 1 [.c 1, .c 2] ?_
   refine RunsI.r ?_
   refine RegI.o (OpE.box 2 64 [.int .i64 ((rdD t74 t77).1), .int .u8 ((rdD t74 t77).2)] hH (by kernel_rfl) (by kernel_rfl) ?_)
   intro w84 b85 h86 hb87 hn88
   refine RegI.p 1 [(1, .pointer (some ⟨b75, 0, none⟩)), (2, .pointer (some ⟨b85, 0, none⟩))] ?_
   refine RegI.d ?_
   refine RunsI.g 1 [.c 3, .c 4] ?_
   refine RunsI.r ?_
   refine RegI.p 1 [(1, .pointer (some ⟨b75, 0, none⟩)), (4, .pointer (some ⟨b85, 0, none⟩))] ?_
   refine RegI.o (OpE.loadBox 5 5 3 b85 0 (.int .i64 ((rdD t74 t77).1)) h86 (by kernel_rfl) (by kernel_rfl) rfl (by kernel_rfl) ?_)
   refine RegI.o (OpE.loadBox 6 1 3 b75 0 (.int .i64 p1) h86 (by kernel_rfl) (by kernel_rfl) rfl (by kernel_rfl) ?_)
   refine RegI.p 2 [(3, .bool (((rdD t74 t77).1) == p1))] ?_
   refine RegI.d ?_
   refine RunsI.t (.bool (((rdD t74 t77).1) == p1)) ?_
   refine cont_mk ?_
   refine RegI.d ?_
   rcases of_cond h with ⟨hc89, h⟩ | ⟨hc89, h⟩
   ·skip
    refine RunsI.f 16 true hc89 ?_
    refine RunsI.b true 20 ?_
    refine RunsI.g 1 [.c 21, .c 22, .blk 1, .c 24, .lp 7, .blk 0, .c 25] ?_
    refine RunsI.r ?_
    refine RegI.p 2 [(4, .int .i64 t77)] ?_
    refine RegI.d ?_
    refine RunsI.t (.int .i64 t77) ?_
    exact hk1 t77 w84 (Option.some.inj h).symm (h86.pick [2, 3, 1, 4, 0] (by decide))
   ·skip
    refine RunsI.f 16 false hc89 ?_
    refine RunsI.b false 23 ?_
    refine RunsI.g 1 [.blk 1, .c 24, .lp 7, .blk 0, .c 25] ?_
    refine RunsI.g 1 [.c 24, .lp 7, .blk 0, .c 25] ?_
    refine RunsI.r ?_
    refine RegI.p 2 [(0, .slice A72 t74.length c73), (1, .func (.func 80) #[] #[.pointer (some ⟨b75, 0, none⟩)]), (7, .int .i64 t76), (8, .int .i64 (IntKind.wrap .i64 (t77 + 1)))] ?_
    refine RegI.d ?_
    refine RunsI.g 1 [.c 7, .lp 7, .blk 0, .c 25] ?_
    refine RunsI.l [0, 1, 7, 8] [(0, .slice A72 t74.length c73), (1, .func (.func 80) #[] #[.pointer (some ⟨b75, 0, none⟩)]), (7, .int .i64 t76), (8, .int .i64 (IntKind.wrap .i64 (t77 + 1)))] ?_
    exact ih (IntKind.wrap .i64 (t77 + 1)) w84 h (h86.pick [0, 1, 2, 3, 4] (by decide))
  ·skip
   refine RunsI.f 9 false hc80 ?_
   refine RunsI.b false 12 ?_
   refine RunsI.g 1 [.c 25] ?_
   refine RunsI.l [] [] ?_
   exact hk0 w (Option.some.inj h).symm (hH.pick [2, 3, 1, 4, 0] (by decide))
def banks_Store_put_64.l2 (K : Nat) (p0_0 : List Int) (p0_1 : Int) (p0_2 : Int) (p0_3 : List (Int × Int)) (p1 : Int) (p2 : Int) : Nat → (List (Int × Int)) → Int → Int → Option ((List (Int × Int)) × Int)
 | 0, _, _, _ => none
 | k + 1, t107, t109, t110 => cond (decide (t110 < (t107.length : Int))) (cond (inR t110 t107.length) (cond (!(((rdD t107 t110).1) == p1)) (cond (inR t109 t107.length) (banks_Store_put_64.l2 K p0_0 p0_1 p0_2 p0_3 p1 p2 k (stD t107 t109 ((rdD t107 t110).1, (rdD t107 t110).2)) (IntKind.wrap .i64 (t109 + 1)) (IntKind.wrap .i64 (t110 + 1))) none) (banks_Store_put_64.l2 K p0_0 p0_1 p0_2 p0_3 p1 p2 k t107 t109 (IntKind.wrap .i64 (t110 + 1)))) none) (some (t107, t109))
set_option maxRecDepth 100000 in
theorem banks_Store_put_64.l2_ok (K : Nat) (M0 : Nat → Prop) (w0 : World) (pA0_0 : Option Addr) (pc0_0 : Nat) (pA0_3 : Option Addr) (pc0_3 : Nat) (p0_0 : List Int) (p0_1 : Int) (p0_2 : Int) (p0_3 : List (Int × Int)) (p1 : Int) (p2 : Int) (A105 : Option Addr) (c106 : Nat) (b108 : Nat) (b111 : Nat) (b112 : Nat) (R : Ending → World → Prop) (x : (List (Int × Int)) × Int) (hk0 : ∀ (t136 : List (Int × Int)) (t137 : Int) (w1 : World), x = (t136, t137) → Holds M0 w0 w1 [own (Rp.pair (Rp.int .i64) (Rp.int .u8)) 64 (.slice A105 t136.length c106) t136, box b111 26 [.slice pA0_0 p0_0.length pc0_0, .int .i64 p0_1, .int .i64 p0_2, .slice pA0_3 p0_3.length pc0_3], sl (Rp.pair (Rp.int .i64) (Rp.int .u8)) (.slice pA0_3 p0_3.length pc0_3) p0_3, box b108 3 [.int .i64 p1], box b112 26 [.slice none 0 0, .int .i64 0, .int .i64 0, .slice none 0 0]] → RunsI F81 [.c 35] [(0, .slice A105 t136.length c106), (5, .int .i64 t137)] w1 R) :
  ∀ (k : Nat) (t107 : List (Int × Int)) (t109 : Int) (t110 : Int) (w : World), banks_Store_put_64.l2 K p0_0 p0_1 p0_2 p0_3 p1 p2 k t107 t109 t110 = some x → Holds M0 w0 w [own (Rp.pair (Rp.int .i64) (Rp.int .u8)) 64 (.slice A105 t107.length c106) t107, box b108 3 [.int .i64 p1], box b111 26 [.slice pA0_0 p0_0.length pc0_0, .int .i64 p0_1, .int .i64 p0_2, .slice pA0_3 p0_3.length pc0_3], sl (Rp.pair (Rp.int .i64) (Rp.int .u8)) (.slice pA0_3 p0_3.length pc0_3) p0_3, box b112 26 [.slice none 0 0, .int .i64 0, .int .i64 0, .slice none 0 0]] → RunsI F81 [.c 17, .lp 17, .blk 0, .c 35] [(0, .slice A105 t107.length c106), (1, .func (.func 80) #[] #[.pointer (some ⟨b108, 0, none⟩)]), (5, .int .i64 t109), (6, .int .i64 t110)] w R := by
 intro k
 induction k with
 | zero => intro t107 t109 t110 w h hH; exact absurd h (by simp [banks_Store_put_64.l2])
 | succ k ih =>
  intro t107 t109 t110 w h hH
  rw [banks_Store_put_64.l2.eq_2] at h
  refine RunsI.g 1 [.c 18, .c 23, .lp 17, .blk 0, .c 35] ?_
  refine RunsI.g 1 [.c 19, .c 20, .c 23, .lp 17, .blk 0, .c 35] ?_
  refine RunsI.r ?_
  refine RegI.p 4 [(0, .slice A105 t107.length c106), (1, .func (.func 80) #[] #[.pointer (some ⟨b108, 0, none⟩)]), (5, .int .i64 t109), (6, .int .i64 t110), (19, .bool (decide (t110 < (t107.length : Int))))] ?_
  refine RegI.d ?_
  rcases of_cond h with ⟨hc113, h⟩ | ⟨hc113, h⟩
  ·skip
   refine RunsI.f 19 true hc113 ?_
   refine RunsI.b true 21 ?_
   refine RunsI.g 1 [.c 23, .lp 17, .blk 0, .c 35] ?_
   refine RunsI.g 3 [.c 26, .c 27, .blk 1, .c 34, .lp 17, .blk 0, .c 35] ?_
   refine RunsI.r ?_
   refine RegI.p 2 [(0, .slice A105 t107.length c106), (1, .func (.func 80) #[] #[.pointer (some ⟨b108, 0, none⟩)]), (5, .int .i64 t109), (6, .int .i64 t110), (22, .slice A105 t107.length c106), (23, .int .i64 t110)] ?_
   obtain ⟨hc114, h⟩ := of_cond0 h
   refine RegI.o (OpE.idxOwnA 24 0 24 64 t110 hH (by kernel_rfl) rfl (by kernel_rfl) (by kernel_rfl) hc114 ?_)
   refine RegI.o (OpE.loadOwnA 25 0 64 64 t110 0 (o := (Int.toNat t110) * 2 + 0) hH (by kernel_rfl) rfl (by kernel_rfl) (by kernel_rfl) hc114 (fun cs115 hk116 => ?_))
   obtain ⟨_, _, rfl, rfl, rfl⟩ := hk116
   refine ⟨.agg #[.int .i64 ((rdD t107 t110).1), .int .u8 ((rdD t107 t110).2)], by kernel_rfl, ?_⟩
   refine RegI.o (OpE.box 7 64 [.int .i64 0, .int .u8 0] hH (by kernel_rfl) (by kernel_rfl) ?_)
   intro w117 b118 h119 hb120 hn121
   refine RegI.o (OpE.storeBox 5 64 b118 0 (.agg #[.int .i64 ((rdD t107 t110).1), .int .u8 ((rdD t107 t110).2)]) [.int .i64 ((rdD t107 t110).1), .int .u8 ((rdD t107 t110).2)] h119 (by kernel_rfl) (by kernel_rfl) rfl (by kernel_rfl) (by kernel_rfl) (by kernel_rfl) ?_)
   intro w122 h123 hk124
   refine RegI.d ?_
   refine RunsI.g 1 [.c 28, .c 29, .blk 1, .c 34, .lp 17, .blk 0, .c 35] ?_
   refine RunsI.r ?_
   refine RegI.p 1 [(0, .slice A105 t107.length c106), (1, .func (.func 80) #[] #[.pointer (some ⟨b108, 0, none⟩)]), (5, .int .i64 t109), (6, .int .i64 t110), (7, .pointer (some ⟨b118, 0, none⟩)), (26, .func (.func 80) #[] #[.pointer (some ⟨b108, 0, none⟩)])] ?_
   refine RegI.o (OpE.loadBox 27 5 64 b118 0 (.agg #[.int .i64 ((rdD t107 t110).1), .int .u8 ((rdD t107 t110).2)]) h123 (by kernel_rfl) (by kernel_rfl) rfl (by kernel_rfl) ?_)
   refine RegI.enter 28 [0, 1, 5, 6, 7] [(0, .slice A105 t107.length c106), (1, .func (.func 80) #[] #[.pointer (some ⟨b108, 0, none⟩)]), (5, .int .i64 t109), (6, .int .i64 t110), (7, .pointer (some ⟨b118, 0, none⟩))] (by kernel_rfl) (by kernel_rfl) (by kernel_rfl) (by kernel_rfl) F80 80 rfl [.agg #[.int .i64 ((rdD t107 t110).1), .int .u8 ((rdD t107 t110).2)], .pointer (some ⟨b108, 0, none⟩)] (by kernel_rfl) (by kernel_rfl) ?_
   refine RunsI.g 1 [.c 1, .c 2] ?_
   refine RunsI.r ?_
   refine RegI.o (OpE.box 2 64 [.int .i64 ((rdD t107 t110).1), .int .u8 ((rdD t107 t110).2)] h123 (by kernel_rfl) (by kernel_rfl) ?_)
   intro w125 b126 h127 hb128 hn129
   refine RegI.p 1 [(1, .pointer (some ⟨b108, 0, none⟩)), (2, .pointer (some ⟨b126, 0, none⟩))] ?_
   refine RegI.d ?_
   refine RunsI.g 1 [.c 3, .c 4] ?_
   refine RunsI.r ?_
   refine RegI.p 1 [(1, .pointer (some ⟨b108, 0, none⟩)), (4, .pointer (some ⟨b126, 0, none⟩))] ?_
   refine RegI.o (OpE.loadBox 5 6 3 b126 0 (.int .i64 ((rdD t107 t110).1)) h127 (by kernel_rfl) (by kernel_rfl) rfl (by kernel_rfl) ?_)
   refine RegI.o (OpE.loadBox 6 1 3 b108 0 (.int .i64 p1) h127 (by kernel_rfl) (by kernel_rfl) rfl (by kernel_rfl) ?_)
   refine RegI.p 2 [(3, .bool (((rdD t107 t110).1) == p1))] ?_
   refine RegI.d ?_
   refine RunsI.t (.bool (((rdD t107 t110).1) == p1)) ?_
   refine cont_mk ?_
   refine RegI.p 1 [(0, .slice A105 t107.length c106), (1, .func (.func 80) #[] #[.pointer (some ⟨b108, 0, none⟩)]), (5, .int .i64 t109), (6, .int .i64 t110), (7, .pointer (some ⟨b118, 0, none⟩)), (29, .bool (!(((rdD t107 t110).1) == p1)))] ?_
   refine RegI.d ?_
   rcases of_cond h with ⟨hc130, h⟩ | ⟨hc130, h⟩
   ·skip
    refine RunsI.f 29 true hc130 ?_
    refine RunsI.b true 30 ?_
    refine RunsI.g 1 [.c 31, .c 32, .blk 1, .c 34, .lp 17, .blk 0, .c 35] ?_
    refine RunsI.r ?_
    refine RegI.p 2 [(0, .slice A105 t107.length c106), (1, .func (.func 80) #[] #[.pointer (some ⟨b108, 0, none⟩)]), (5, .int .i64 t109), (6, .int .i64 t110), (7, .pointer (some ⟨b118, 0, none⟩)), (30, .slice A105 t107.length c106), (31, .int .i64 t109)] ?_
    refine RegI.o (OpE.loadBox 32 5 64 b118 0 (.agg #[.int .i64 ((rdD t107 t110).1), .int .u8 ((rdD t107 t110).2)]) h127 (by kernel_rfl) (by kernel_rfl) rfl (by kernel_rfl) ?_)
    obtain ⟨hc131, h⟩ := of_cond0 h
    refine RegI.o (OpE.idxOwnA 33 0 24 64 t109 h127 (by kernel_rfl) rfl (by kernel_rfl) (by kernel_rfl) hc131 ?_)
    refine RegI.o (OpE.storeOwnA 0 64 64 t109 0 (.agg #[.int .i64 ((rdD t107 t110).1), .int .u8 ((rdD t107 t110).2)]) (o := (Int.toNat t109) * 2 + 0) ((rdD t107 t110).1, (rdD t107 t110).2) h127 (by kernel_rfl) (by kernel_rfl) rfl (by kernel_rfl) (by kernel_rfl) (by kernel_rfl) hc131 (fun _ hk => by obtain ⟨_, _, rfl, rfl, rfl⟩ := hk; exact ⟨[_], [_], rfl, rfl, rfl⟩) ?_)
    intro w132 h133 hk134
    refine RegI.d ?_
    refine RunsI.r ?_
    refine RegI.p 3 [(0, .slice A105 t107.length c106), (1, .func (.func 80) #[] #[.pointer (some ⟨b108, 0, none⟩)]), (5, .int .i64 (IntKind.wrap .i64 (t109 + 1))), (6, .int .i64 t110)] ?_
    refine RegI.d ?_
    refine RunsI.g 1 [.c 34, .lp 17, .blk 0, .c 35] ?_
    refine RunsI.r ?_
    refine RegI.p 3 [(0, .slice A105 t107.length c106), (1, .func (.func 80) #[] #[.pointer (some ⟨b108, 0, none⟩)]), (5, .int .i64 (IntKind.wrap .i64 (t109 + 1))), (6, .int .i64 (IntKind.wrap .i64 (t110 + 1)))] ?_
    refine RegI.d ?_
    refine RunsI.g 1 [.c 17, .lp 17, .blk 0, .c 35] ?_
    refine RunsI.l [0, 1, 5, 6] [(0, .slice A105 t107.length c106), (1, .func (.func 80) #[] #[.pointer (some ⟨b108, 0, none⟩)]), (5, .int .i64 (IntKind.wrap .i64 (t109 + 1))), (6, .int .i64 (IntKind.wrap .i64 (t110 + 1)))] ?_
    have h135 : Holds M0 w0 w132 [own (Rp.pair (Rp.int .i64) (Rp.int .u8)) 64 (.slice A105 ((stD t107 t109 ((rdD t107 t110).1, (rdD t107 t110).2)).length) c106) (stD t107 t109 ((rdD t107 t110).1, (rdD t107 t110).2)), box b108 3 [.int .i64 p1], box b111 26 [.slice pA0_0 p0_0.length pc0_0, .int .i64 p0_1, .int .i64 p0_2, .slice pA0_3 p0_3.length pc0_3], sl (Rp.pair (Rp.int .i64) (Rp.int .u8)) (.slice pA0_3 p0_3.length pc0_3) p0_3, box b112 26 [.slice none 0 0, .int .i64 0, .int .i64 0, .slice none 0 0], box b118 64 [.int .i64 ((rdD t107 t110).1), .int .u8 ((rdD t107 t110).2)], box b126 64 [.int .i64 ((rdD t107 t110).1), .int .u8 ((rdD t107 t110).2)]] := by have hY : Holds M0 w0 w132 [own (Rp.pair (Rp.int .i64) (Rp.int .u8)) 64 (.slice A105 t107.length c106) (stD t107 t109 ((rdD t107 t110).1, (rdD t107 t110).2)), box b108 3 [.int .i64 p1], box b111 26 [.slice pA0_0 p0_0.length pc0_0, .int .i64 p0_1, .int .i64 p0_2, .slice pA0_3 p0_3.length pc0_3], sl (Rp.pair (Rp.int .i64) (Rp.int .u8)) (.slice pA0_3 p0_3.length pc0_3) p0_3, box b112 26 [.slice none 0 0, .int .i64 0, .int .i64 0, .slice none 0 0], box b118 64 [.int .i64 ((rdD t107 t110).1), .int .u8 ((rdD t107 t110).2)], box b126 64 [.int .i64 ((rdD t107 t110).1), .int .u8 ((rdD t107 t110).2)]] := h133; simpa only [stD_length] using hY
    refine RunsI.is [(0, .slice A105 ((stD t107 t109 ((rdD t107 t110).1, (rdD t107 t110).2)).length) c106), (1, .func (.func 80) #[] #[.pointer (some ⟨b108, 0, none⟩)]), (5, .int .i64 (IntKind.wrap .i64 (t109 + 1))), (6, .int .i64 (IntKind.wrap .i64 (t110 + 1)))] (by simp only [stD_length]) ?_
    refine RunsI.l [0, 1, 5, 6] [(0, .slice A105 ((stD t107 t109 ((rdD t107 t110).1, (rdD t107 t110).2)).length) c106), (1, .func (.func 80) #[] #[.pointer (some ⟨b108, 0, none⟩)]), (5, .int .i64 (IntKind.wrap .i64 (t109 + 1))), (6, .int .i64 (IntKind.wrap .i64 (t110 + 1)))] ?_
    exact ih (stD t107 t109 ((rdD t107 t110).1, (rdD t107 t110).2)) (IntKind.wrap .i64 (t109 + 1)) (IntKind.wrap .i64 (t110 + 1)) w132 h (h135.pick [0, 1, 2, 3, 4] (by decide))
   ·skip
    refine RunsI.f 29 false hc130 ?_
    refine RunsI.b false 33 ?_
    refine RunsI.g 1 [.blk 1, .c 34, .lp 17, .blk 0, .c 35] ?_
    refine RunsI.g 1 [.c 34, .lp 17, .blk 0, .c 35] ?_
    refine RunsI.r ?_
    refine RegI.p 3 [(0, .slice A105 t107.length c106), (1, .func (.func 80) #[] #[.pointer (some ⟨b108, 0, none⟩)]), (5, .int .i64 t109), (6, .int .i64 (IntKind.wrap .i64 (t110 + 1)))] ?_
    refine RegI.d ?_
    refine RunsI.g 1 [.c 17, .lp 17, .blk 0, .c 35] ?_
    refine RunsI.l [0, 1, 5, 6] [(0, .slice A105 t107.length c106), (1, .func (.func 80) #[] #[.pointer (some ⟨b108, 0, none⟩)]), (5, .int .i64 t109), (6, .int .i64 (IntKind.wrap .i64 (t110 + 1)))] ?_
    exact ih t107 t109 (IntKind.wrap .i64 (t110 + 1)) w125 h (h127.pick [0, 1, 2, 3, 4] (by decide))
  ·skip
   refine RunsI.f 19 false hc113 ?_
   refine RunsI.b false 22 ?_
   refine RunsI.g 1 [.c 35] ?_
   refine RunsI.l [0, 5] [(0, .slice A105 t107.length c106), (5, .int .i64 t109)] ?_
   exact hk0 t107 t109 w (Option.some.inj h).symm (hH.pick [0, 2, 3, 1, 4] (by decide))
def banks_Store_put_64.l3 (K : Nat) (p0_0 : List Int) (p0_1 : Int) (p0_2 : Int) (p0_3 : List (Int × Int)) (p1 : Int) (p2 : Int) (t175 : List (Int × Int)) (t177 : Int) (t183 : List (Int × Int)) : Nat → Int → Option (Lp Int Unit)
 | 0, _ => none
 | k + 1, t178 => cond (decide (t178 < t177)) (cond (inR t178 t175.length) (cond (((rdD t175 t178).1) == p1) (some (Lp.ret t178)) (banks_Store_put_64.l3 K p0_0 p0_1 p0_2 p0_3 p1 p2 t175 t177 t183 k (IntKind.wrap .i64 (t178 + 1)))) none) (some (Lp.go ()))
set_option maxRecDepth 100000 in
theorem banks_Store_put_64.l3_ok (K : Nat) (M0 : Nat → Prop) (w0 : World) (pA0_0 : Option Addr) (pc0_0 : Nat) (pA0_3 : Option Addr) (pc0_3 : Nat) (p0_0 : List Int) (p0_1 : Int) (p0_2 : Int) (p0_3 : List (Int × Int)) (p1 : Int) (p2 : Int) (t175 : List (Int × Int)) (t177 : Int) (t183 : List (Int × Int)) (A173 : Option Addr) (c174 : Nat) (b176 : Nat) (b179 : Nat) (b180 : Nat) (A181 : Option Addr) (c182 : Nat) (R : Ending → World → Prop) (x : Lp Int Unit) (hk0 : ∀ (w1 : World), x = Lp.go () → Holds M0 w0 w1 [box b179 26 [.slice pA0_0 p0_0.length pc0_0, .int .i64 p0_1, .int .i64 p0_2, .slice pA0_3 p0_3.length pc0_3], sl (Rp.pair (Rp.int .i64) (Rp.int .u8)) (.slice pA0_3 p0_3.length pc0_3) p0_3, box b176 3 [.int .i64 p1], box b180 26 [.slice none 0 0, .int .i64 0, .int .i64 0, .slice none 0 0], own (Rp.pair (Rp.int .i64) (Rp.int .u8)) 64 (.slice A181 t183.length c182) t183, own (Rp.pair (Rp.int .i64) (Rp.int .u8)) 64 (.slice A173 t175.length c174) t175] → RunsI F72 [.c 25] [] w1 R) (hk1 : ∀ (t194 : Int) (w1 : World), x = Lp.ret t194 → Holds M0 w0 w1 [box b179 26 [.slice pA0_0 p0_0.length pc0_0, .int .i64 p0_1, .int .i64 p0_2, .slice pA0_3 p0_3.length pc0_3], sl (Rp.pair (Rp.int .i64) (Rp.int .u8)) (.slice pA0_3 p0_3.length pc0_3) p0_3, box b176 3 [.int .i64 p1], box b180 26 [.slice none 0 0, .int .i64 0, .int .i64 0, .slice none 0 0], own (Rp.pair (Rp.int .i64) (Rp.int .u8)) 64 (.slice A181 t183.length c182) t183, own (Rp.pair (Rp.int .i64) (Rp.int .u8)) 64 (.slice A173 t175.length c174) t175] → R (.returned (.int .i64 t194)) w1) :
  ∀ (k : Nat) (t178 : Int) (w : World), banks_Store_put_64.l3 K p0_0 p0_1 p0_2 p0_3 p1 p2 t175 t177 t183 k t178 = some x → Holds M0 w0 w [own (Rp.pair (Rp.int .i64) (Rp.int .u8)) 64 (.slice A173 t175.length c174) t175, box b176 3 [.int .i64 p1], box b179 26 [.slice pA0_0 p0_0.length pc0_0, .int .i64 p0_1, .int .i64 p0_2, .slice pA0_3 p0_3.length pc0_3], sl (Rp.pair (Rp.int .i64) (Rp.int .u8)) (.slice pA0_3 p0_3.length pc0_3) p0_3, box b180 26 [.slice none 0 0, .int .i64 0, .int .i64 0, .slice none 0 0], own (Rp.pair (Rp.int .i64) (Rp.int .u8)) 64 (.slice A181 t183.length c182) t183] → RunsI F72 [.c 7, .lp 7, .blk 0, .c 25] [(0, .slice A173 t175.length c174), (1, .func (.func 80) #[] #[.pointer (some ⟨b176, 0, none⟩)]), (7, .int .i64 t177), (8, .int .i64 t178)] w R := by
 intro k
 induction k with
 | zero => intro t178 w h hH; exact absurd h (by simp [banks_Store_put_64.l3])
 | succ k ih =>
  intro t178 w h hH
  rw [banks_Store_put_64.l3.eq_2] at h
  refine RunsI.g 1 [.c 8, .c 9, .lp 7, .blk 0, .c 25] ?_
  refine RunsI.r ?_
  refine RegI.p 1 [(0, .slice A173 t175.length c174), (1, .func (.func 80) #[] #[.pointer (some ⟨b176, 0, none⟩)]), (7, .int .i64 t177), (8, .int .i64 t178), (9, .bool (decide (t178 < t177)))] ?_
  refine RegI.d ?_
  refine RunsI.g 1 [.c 10, .c 13, .lp 7, .blk 0, .c 25] ?_
  rcases of_cond h with ⟨hc184, h⟩ | ⟨hc184, h⟩
  ·skip
   refine RunsI.f 9 true hc184 ?_
   refine RunsI.b true 11 ?_
   refine RunsI.g 1 [.c 13, .lp 7, .blk 0, .c 25] ?_
   refine RunsI.g 3 [.c 16, .c 17, .blk 1, .c 24, .lp 7, .blk 0, .c 25] ?_
   refine RunsI.r ?_
   refine RegI.p 2 [(0, .slice A173 t175.length c174), (1, .func (.func 80) #[] #[.pointer (some ⟨b176, 0, none⟩)]), (5, .int .i64 t178), (7, .int .i64 t177), (8, .int .i64 t178)] ?_
   refine RegI.d ?_
   refine RunsI.g 1 [.c 18, .c 19, .blk 1, .c 24, .lp 7, .blk 0, .c 25] ?_
   refine RunsI.r ?_
   refine RegI.p 3 [(0, .slice A173 t175.length c174), (1, .func (.func 80) #[] #[.pointer (some ⟨b176, 0, none⟩)]), (5, .int .i64 t178), (7, .int .i64 t177), (8, .int .i64 t178), (11, .func (.func 80) #[] #[.pointer (some ⟨b176, 0, none⟩)]), (12, .slice A173 t175.length c174), (13, .int .i64 t178)] ?_
   obtain ⟨hc185, h⟩ := of_cond0 h
   refine RegI.o (OpE.idxOwnA 14 0 24 64 t178 hH (by kernel_rfl) rfl (by kernel_rfl) (by kernel_rfl) hc185 ?_)
   refine RegI.o (OpE.loadOwnA 15 0 64 64 t178 0 (o := (Int.toNat t178) * 2 + 0) hH (by kernel_rfl) rfl (by kernel_rfl) (by kernel_rfl) hc185 (fun cs186 hk187 => ?_))
   obtain ⟨_, _, rfl, rfl, rfl⟩ := hk187
   refine ⟨.agg #[.int .i64 ((rdD t175 t178).1), .int .u8 ((rdD t175 t178).2)], by kernel_rfl, ?_⟩
   refine RegI.enter 16 [0, 1, 5, 7, 8] [(0, .slice A173 t175.length c174), (1, .func (.func 80) #[] #[.pointer (some ⟨b176, 0, none⟩)]), (5, .int .i64 t178), (7, .int .i64 t177), (8, .int .i64 t178)] (by kernel_rfl) (by kernel_rfl) (by kernel_rfl) (by kernel_rfl) F80 80 rfl [.agg #[.int .i64 ((rdD t175 t178).1), .int .u8 ((rdD t175 t178).2)], .pointer (some ⟨b176, 0, none⟩)] (by kernel_rfl) (by kernel_rfl) ?_
   refine RunsI.g 1 [.c 1, .c 2] ?_
   refine RunsI.r ?_
   refine RegI.o (OpE.box 2 64 [.int .i64 ((rdD t175 t178).1), .int .u8 ((rdD t175 t178).2)] hH (by kernel_rfl) (by kernel_rfl) ?_)
   intro w188 b189 h190 hb191 hn192
   refine RegI.p 1 [(1, .pointer (some ⟨b176, 0, none⟩)), (2, .pointer (some ⟨b189, 0, none⟩))] ?_
   refine RegI.d ?_
   refine RunsI.g 1 [.c 3, .c 4] ?_
   refine RunsI.r ?_
   refine RegI.p 1 [(1, .pointer (some ⟨b176, 0, none⟩)), (4, .pointer (some ⟨b189, 0, none⟩))] ?_
   refine RegI.o (OpE.loadBox 5 6 3 b189 0 (.int .i64 ((rdD t175 t178).1)) h190 (by kernel_rfl) (by kernel_rfl) rfl (by kernel_rfl) ?_)
   refine RegI.o (OpE.loadBox 6 1 3 b176 0 (.int .i64 p1) h190 (by kernel_rfl) (by kernel_rfl) rfl (by kernel_rfl) ?_)
   refine RegI.p 2 [(3, .bool (((rdD t175 t178).1) == p1))] ?_
   refine RegI.d ?_
   refine RunsI.t (.bool (((rdD t175 t178).1) == p1)) ?_
   refine cont_mk ?_
   refine RegI.d ?_
   rcases of_cond h with ⟨hc193, h⟩ | ⟨hc193, h⟩
   ·skip
    refine RunsI.f 16 true hc193 ?_
    refine RunsI.b true 20 ?_
    refine RunsI.g 1 [.c 21, .c 22, .blk 1, .c 24, .lp 7, .blk 0, .c 25] ?_
    refine RunsI.r ?_
    refine RegI.p 2 [(4, .int .i64 t178)] ?_
    refine RegI.d ?_
    refine RunsI.t (.int .i64 t178) ?_
    exact hk1 t178 w188 (Option.some.inj h).symm (h190.pick [2, 3, 1, 4, 5, 0] (by decide))
   ·skip
    refine RunsI.f 16 false hc193 ?_
    refine RunsI.b false 23 ?_
    refine RunsI.g 1 [.blk 1, .c 24, .lp 7, .blk 0, .c 25] ?_
    refine RunsI.g 1 [.c 24, .lp 7, .blk 0, .c 25] ?_
    refine RunsI.r ?_
    refine RegI.p 2 [(0, .slice A173 t175.length c174), (1, .func (.func 80) #[] #[.pointer (some ⟨b176, 0, none⟩)]), (7, .int .i64 t177), (8, .int .i64 (IntKind.wrap .i64 (t178 + 1)))] ?_
    refine RegI.d ?_
    refine RunsI.g 1 [.c 7, .lp 7, .blk 0, .c 25] ?_
    refine RunsI.l [0, 1, 7, 8] [(0, .slice A173 t175.length c174), (1, .func (.func 80) #[] #[.pointer (some ⟨b176, 0, none⟩)]), (7, .int .i64 t177), (8, .int .i64 (IntKind.wrap .i64 (t178 + 1)))] ?_
    exact ih (IntKind.wrap .i64 (t178 + 1)) w188 h (h190.pick [0, 1, 2, 3, 4, 5] (by decide))
  ·skip
   refine RunsI.f 9 false hc184 ?_
   refine RunsI.b false 12 ?_
   refine RunsI.g 1 [.c 25] ?_
   refine RunsI.l [] [] ?_
   exact hk0 w (Option.some.inj h).symm (hH.pick [2, 3, 1, 4, 5, 0] (by decide))
def banks_Store_put_64.l4 (K : Nat) (p0_0 : List Int) (p0_1 : Int) (p0_2 : Int) (p0_3 : List (Int × Int)) (p1 : Int) (p2 : Int) (t219 : List (Int × Int)) : Nat → (List (Int × Int)) → Int → Int → Option ((List (Int × Int)) × Int)
 | 0, _, _, _ => none
 | k + 1, t211, t213, t214 => cond (decide (t214 < (t211.length : Int))) (cond (inR t214 t211.length) (cond (!(((rdD t211 t214).1) == p1)) (cond (inR t213 t211.length) (banks_Store_put_64.l4 K p0_0 p0_1 p0_2 p0_3 p1 p2 t219 k (stD t211 t213 ((rdD t211 t214).1, (rdD t211 t214).2)) (IntKind.wrap .i64 (t213 + 1)) (IntKind.wrap .i64 (t214 + 1))) none) (banks_Store_put_64.l4 K p0_0 p0_1 p0_2 p0_3 p1 p2 t219 k t211 t213 (IntKind.wrap .i64 (t214 + 1)))) none) (some (t211, t213))
set_option maxRecDepth 100000 in
theorem banks_Store_put_64.l4_ok (K : Nat) (M0 : Nat → Prop) (w0 : World) (pA0_0 : Option Addr) (pc0_0 : Nat) (pA0_3 : Option Addr) (pc0_3 : Nat) (p0_0 : List Int) (p0_1 : Int) (p0_2 : Int) (p0_3 : List (Int × Int)) (p1 : Int) (p2 : Int) (t219 : List (Int × Int)) (A209 : Option Addr) (c210 : Nat) (b212 : Nat) (b215 : Nat) (b216 : Nat) (A217 : Option Addr) (c218 : Nat) (R : Ending → World → Prop) (x : (List (Int × Int)) × Int) (hk0 : ∀ (t243 : List (Int × Int)) (t244 : Int) (w1 : World), x = (t243, t244) → Holds M0 w0 w1 [own (Rp.pair (Rp.int .i64) (Rp.int .u8)) 64 (.slice A209 t243.length c210) t243, box b215 26 [.slice pA0_0 p0_0.length pc0_0, .int .i64 p0_1, .int .i64 p0_2, .slice pA0_3 p0_3.length pc0_3], sl (Rp.pair (Rp.int .i64) (Rp.int .u8)) (.slice pA0_3 p0_3.length pc0_3) p0_3, box b212 3 [.int .i64 p1], box b216 26 [.slice none 0 0, .int .i64 0, .int .i64 0, .slice none 0 0], own (Rp.pair (Rp.int .i64) (Rp.int .u8)) 64 (.slice A217 t219.length c218) t219] → RunsI F81 [.c 35] [(0, .slice A209 t243.length c210), (5, .int .i64 t244)] w1 R) :
  ∀ (k : Nat) (t211 : List (Int × Int)) (t213 : Int) (t214 : Int) (w : World), banks_Store_put_64.l4 K p0_0 p0_1 p0_2 p0_3 p1 p2 t219 k t211 t213 t214 = some x → Holds M0 w0 w [own (Rp.pair (Rp.int .i64) (Rp.int .u8)) 64 (.slice A209 t211.length c210) t211, box b212 3 [.int .i64 p1], box b215 26 [.slice pA0_0 p0_0.length pc0_0, .int .i64 p0_1, .int .i64 p0_2, .slice pA0_3 p0_3.length pc0_3], sl (Rp.pair (Rp.int .i64) (Rp.int .u8)) (.slice pA0_3 p0_3.length pc0_3) p0_3, box b216 26 [.slice none 0 0, .int .i64 0, .int .i64 0, .slice none 0 0], own (Rp.pair (Rp.int .i64) (Rp.int .u8)) 64 (.slice A217 t219.length c218) t219] → RunsI F81 [.c 17, .lp 17, .blk 0, .c 35] [(0, .slice A209 t211.length c210), (1, .func (.func 80) #[] #[.pointer (some ⟨b212, 0, none⟩)]), (5, .int .i64 t213), (6, .int .i64 t214)] w R := by
 intro k
 induction k with
 | zero => intro t211 t213 t214 w h hH; exact absurd h (by simp [banks_Store_put_64.l4])
 | succ k ih =>
  intro t211 t213 t214 w h hH
  rw [banks_Store_put_64.l4.eq_2] at h
  refine RunsI.g 1 [.c 18, .c 23, .lp 17, .blk 0, .c 35] ?_
  refine RunsI.g 1 [.c 19, .c 20, .c 23, .lp 17, .blk 0, .c 35] ?_
  refine RunsI.r ?_
  refine RegI.p 4 [(0, .slice A209 t211.length c210), (1, .func (.func 80) #[] #[.pointer (some ⟨b212, 0, none⟩)]), (5, .int .i64 t213), (6, .int .i64 t214), (19, .bool (decide (t214 < (t211.length : Int))))] ?_
  refine RegI.d ?_
  rcases of_cond h with ⟨hc220, h⟩ | ⟨hc220, h⟩
  ·skip
   refine RunsI.f 19 true hc220 ?_
   refine RunsI.b true 21 ?_
   refine RunsI.g 1 [.c 23, .lp 17, .blk 0, .c 35] ?_
   refine RunsI.g 3 [.c 26, .c 27, .blk 1, .c 34, .lp 17, .blk 0, .c 35] ?_
   refine RunsI.r ?_
   refine RegI.p 2 [(0, .slice A209 t211.length c210), (1, .func (.func 80) #[] #[.pointer (some ⟨b212, 0, none⟩)]), (5, .int .i64 t213), (6, .int .i64 t214), (22, .slice A209 t211.length c210), (23, .int .i64 t214)] ?_
   obtain ⟨hc221, h⟩ := of_cond0 h
   refine RegI.o (OpE.idxOwnA 24 0 24 64 t214 hH (by kernel_rfl) rfl (by kernel_rfl) (by kernel_rfl) hc221 ?_)
   refine RegI.o (OpE.loadOwnA 25 0 64 64 t214 0 (o := (Int.toNat t214) * 2 + 0) hH (by kernel_rfl) rfl (by kernel_rfl) (by kernel_rfl) hc221 (fun cs222 hk223 => ?_))
   obtain ⟨_, _, rfl, rfl, rfl⟩ := hk223
   refine ⟨.agg #[.int .i64 ((rdD t211 t214).1), .int .u8 ((rdD t211 t214).2)], by kernel_rfl, ?_⟩
   refine RegI.o (OpE.box 7 64 [.int .i64 0, .int .u8 0] hH (by kernel_rfl) (by kernel_rfl) ?_)
   intro w224 b225 h226 hb227 hn228
   refine RegI.o (OpE.storeBox 6 64 b225 0 (.agg #[.int .i64 ((rdD t211 t214).1), .int .u8 ((rdD t211 t214).2)]) [.int .i64 ((rdD t211 t214).1), .int .u8 ((rdD t211 t214).2)] h226 (by kernel_rfl) (by kernel_rfl) rfl (by kernel_rfl) (by kernel_rfl) (by kernel_rfl) ?_)
   intro w229 h230 hk231
   refine RegI.d ?_
   refine RunsI.g 1 [.c 28, .c 29, .blk 1, .c 34, .lp 17, .blk 0, .c 35] ?_
   refine RunsI.r ?_
   refine RegI.p 1 [(0, .slice A209 t211.length c210), (1, .func (.func 80) #[] #[.pointer (some ⟨b212, 0, none⟩)]), (5, .int .i64 t213), (6, .int .i64 t214), (7, .pointer (some ⟨b225, 0, none⟩)), (26, .func (.func 80) #[] #[.pointer (some ⟨b212, 0, none⟩)])] ?_
   refine RegI.o (OpE.loadBox 27 6 64 b225 0 (.agg #[.int .i64 ((rdD t211 t214).1), .int .u8 ((rdD t211 t214).2)]) h230 (by kernel_rfl) (by kernel_rfl) rfl (by kernel_rfl) ?_)
   refine RegI.enter 28 [0, 1, 5, 6, 7] [(0, .slice A209 t211.length c210), (1, .func (.func 80) #[] #[.pointer (some ⟨b212, 0, none⟩)]), (5, .int .i64 t213), (6, .int .i64 t214), (7, .pointer (some ⟨b225, 0, none⟩))] (by kernel_rfl) (by kernel_rfl) (by kernel_rfl) (by kernel_rfl) F80 80 rfl [.agg #[.int .i64 ((rdD t211 t214).1), .int .u8 ((rdD t211 t214).2)], .pointer (some ⟨b212, 0, none⟩)] (by kernel_rfl) (by kernel_rfl) ?_
   refine RunsI.g 1 [.c 1, .c 2] ?_
   refine RunsI.r ?_
   refine RegI.o (OpE.box 2 64 [.int .i64 ((rdD t211 t214).1), .int .u8 ((rdD t211 t214).2)] h230 (by kernel_rfl) (by kernel_rfl) ?_)
   intro w232 b233 h234 hb235 hn236
   refine RegI.p 1 [(1, .pointer (some ⟨b212, 0, none⟩)), (2, .pointer (some ⟨b233, 0, none⟩))] ?_
   refine RegI.d ?_
   refine RunsI.g 1 [.c 3, .c 4] ?_
   refine RunsI.r ?_
   refine RegI.p 1 [(1, .pointer (some ⟨b212, 0, none⟩)), (4, .pointer (some ⟨b233, 0, none⟩))] ?_
   refine RegI.o (OpE.loadBox 5 7 3 b233 0 (.int .i64 ((rdD t211 t214).1)) h234 (by kernel_rfl) (by kernel_rfl) rfl (by kernel_rfl) ?_)
   refine RegI.o (OpE.loadBox 6 1 3 b212 0 (.int .i64 p1) h234 (by kernel_rfl) (by kernel_rfl) rfl (by kernel_rfl) ?_)
   refine RegI.p 2 [(3, .bool (((rdD t211 t214).1) == p1))] ?_
   refine RegI.d ?_
   refine RunsI.t (.bool (((rdD t211 t214).1) == p1)) ?_
   refine cont_mk ?_
   refine RegI.p 1 [(0, .slice A209 t211.length c210), (1, .func (.func 80) #[] #[.pointer (some ⟨b212, 0, none⟩)]), (5, .int .i64 t213), (6, .int .i64 t214), (7, .pointer (some ⟨b225, 0, none⟩)), (29, .bool (!(((rdD t211 t214).1) == p1)))] ?_
   refine RegI.d ?_
   rcases of_cond h with ⟨hc237, h⟩ | ⟨hc237, h⟩
   ·skip
    refine RunsI.f 29 true hc237 ?_
    refine RunsI.b true 30 ?_
    refine RunsI.g 1 [.c 31, .c 32, .blk 1, .c 34, .lp 17, .blk 0, .c 35] ?_
    refine RunsI.r ?_
    refine RegI.p 2 [(0, .slice A209 t211.length c210), (1, .func (.func 80) #[] #[.pointer (some ⟨b212, 0, none⟩)]), (5, .int .i64 t213), (6, .int .i64 t214), (7, .pointer (some ⟨b225, 0, none⟩)), (30, .slice A209 t211.length c210), (31, .int .i64 t213)] ?_
    refine RegI.o (OpE.loadBox 32 6 64 b225 0 (.agg #[.int .i64 ((rdD t211 t214).1), .int .u8 ((rdD t211 t214).2)]) h234 (by kernel_rfl) (by kernel_rfl) rfl (by kernel_rfl) ?_)
    obtain ⟨hc238, h⟩ := of_cond0 h
    refine RegI.o (OpE.idxOwnA 33 0 24 64 t213 h234 (by kernel_rfl) rfl (by kernel_rfl) (by kernel_rfl) hc238 ?_)
    refine RegI.o (OpE.storeOwnA 0 64 64 t213 0 (.agg #[.int .i64 ((rdD t211 t214).1), .int .u8 ((rdD t211 t214).2)]) (o := (Int.toNat t213) * 2 + 0) ((rdD t211 t214).1, (rdD t211 t214).2) h234 (by kernel_rfl) (by kernel_rfl) rfl (by kernel_rfl) (by kernel_rfl) (by kernel_rfl) hc238 (fun _ hk => by obtain ⟨_, _, rfl, rfl, rfl⟩ := hk; exact ⟨[_], [_], rfl, rfl, rfl⟩) ?_)
    intro w239 h240 hk241
    refine RegI.d ?_
    refine RunsI.r ?_
    refine RegI.p 3 [(0, .slice A209 t211.length c210), (1, .func (.func 80) #[] #[.pointer (some ⟨b212, 0, none⟩)]), (5, .int .i64 (IntKind.wrap .i64 (t213 + 1))), (6, .int .i64 t214)] ?_
    refine RegI.d ?_
    refine RunsI.g 1 [.c 34, .lp 17, .blk 0, .c 35] ?_
    refine RunsI.r ?_
    refine RegI.p 3 [(0, .slice A209 t211.length c210), (1, .func (.func 80) #[] #[.pointer (some ⟨b212, 0, none⟩)]), (5, .int .i64 (IntKind.wrap .i64 (t213 + 1))), (6, .int .i64 (IntKind.wrap .i64 (t214 + 1)))] ?_
    refine RegI.d ?_
    refine RunsI.g 1 [.c 17, .lp 17, .blk 0, .c 35] ?_
    refine RunsI.l [0, 1, 5, 6] [(0, .slice A209 t211.length c210), (1, .func (.func 80) #[] #[.pointer (some ⟨b212, 0, none⟩)]), (5, .int .i64 (IntKind.wrap .i64 (t213 + 1))), (6, .int .i64 (IntKind.wrap .i64 (t214 + 1)))] ?_
    have h242 : Holds M0 w0 w239 [own (Rp.pair (Rp.int .i64) (Rp.int .u8)) 64 (.slice A209 ((stD t211 t213 ((rdD t211 t214).1, (rdD t211 t214).2)).length) c210) (stD t211 t213 ((rdD t211 t214).1, (rdD t211 t214).2)), box b212 3 [.int .i64 p1], box b215 26 [.slice pA0_0 p0_0.length pc0_0, .int .i64 p0_1, .int .i64 p0_2, .slice pA0_3 p0_3.length pc0_3], sl (Rp.pair (Rp.int .i64) (Rp.int .u8)) (.slice pA0_3 p0_3.length pc0_3) p0_3, box b216 26 [.slice none 0 0, .int .i64 0, .int .i64 0, .slice none 0 0], own (Rp.pair (Rp.int .i64) (Rp.int .u8)) 64 (.slice A217 t219.length c218) t219, box b225 64 [.int .i64 ((rdD t211 t214).1), .int .u8 ((rdD t211 t214).2)], box b233 64 [.int .i64 ((rdD t211 t214).1), .int .u8 ((rdD t211 t214).2)]] := by have hY : Holds M0 w0 w239 [own (Rp.pair (Rp.int .i64) (Rp.int .u8)) 64 (.slice A209 t211.length c210) (stD t211 t213 ((rdD t211 t214).1, (rdD t211 t214).2)), box b212 3 [.int .i64 p1], box b215 26 [.slice pA0_0 p0_0.length pc0_0, .int .i64 p0_1, .int .i64 p0_2, .slice pA0_3 p0_3.length pc0_3], sl (Rp.pair (Rp.int .i64) (Rp.int .u8)) (.slice pA0_3 p0_3.length pc0_3) p0_3, box b216 26 [.slice none 0 0, .int .i64 0, .int .i64 0, .slice none 0 0], own (Rp.pair (Rp.int .i64) (Rp.int .u8)) 64 (.slice A217 t219.length c218) t219, box b225 64 [.int .i64 ((rdD t211 t214).1), .int .u8 ((rdD t211 t214).2)], box b233 64 [.int .i64 ((rdD t211 t214).1), .int .u8 ((rdD t211 t214).2)]] := h240; simpa only [stD_length] using hY
    refine RunsI.is [(0, .slice A209 ((stD t211 t213 ((rdD t211 t214).1, (rdD t211 t214).2)).length) c210), (1, .func (.func 80) #[] #[.pointer (some ⟨b212, 0, none⟩)]), (5, .int .i64 (IntKind.wrap .i64 (t213 + 1))), (6, .int .i64 (IntKind.wrap .i64 (t214 + 1)))] (by simp only [stD_length]) ?_
    refine RunsI.l [0, 1, 5, 6] [(0, .slice A209 ((stD t211 t213 ((rdD t211 t214).1, (rdD t211 t214).2)).length) c210), (1, .func (.func 80) #[] #[.pointer (some ⟨b212, 0, none⟩)]), (5, .int .i64 (IntKind.wrap .i64 (t213 + 1))), (6, .int .i64 (IntKind.wrap .i64 (t214 + 1)))] ?_
    exact ih (stD t211 t213 ((rdD t211 t214).1, (rdD t211 t214).2)) (IntKind.wrap .i64 (t213 + 1)) (IntKind.wrap .i64 (t214 + 1)) w239 h (h242.pick [0, 1, 2, 3, 4, 5] (by decide))
   ·skip
    refine RunsI.f 29 false hc237 ?_
    refine RunsI.b false 33 ?_
    refine RunsI.g 1 [.blk 1, .c 34, .lp 17, .blk 0, .c 35] ?_
    refine RunsI.g 1 [.c 34, .lp 17, .blk 0, .c 35] ?_
    refine RunsI.r ?_
    refine RegI.p 3 [(0, .slice A209 t211.length c210), (1, .func (.func 80) #[] #[.pointer (some ⟨b212, 0, none⟩)]), (5, .int .i64 t213), (6, .int .i64 (IntKind.wrap .i64 (t214 + 1)))] ?_
    refine RegI.d ?_
    refine RunsI.g 1 [.c 17, .lp 17, .blk 0, .c 35] ?_
    refine RunsI.l [0, 1, 5, 6] [(0, .slice A209 t211.length c210), (1, .func (.func 80) #[] #[.pointer (some ⟨b212, 0, none⟩)]), (5, .int .i64 t213), (6, .int .i64 (IntKind.wrap .i64 (t214 + 1)))] ?_
    exact ih t211 t213 (IntKind.wrap .i64 (t214 + 1)) w232 h (h234.pick [0, 1, 2, 3, 4, 5] (by decide))
  ·skip
   refine RunsI.f 19 false hc220 ?_
   refine RunsI.b false 22 ?_
   refine RunsI.g 1 [.c 35] ?_
   refine RunsI.l [0, 5] [(0, .slice A209 t211.length c210), (5, .int .i64 t213)] ?_
   exact hk0 t211 t213 w (Option.some.inj h).symm (hH.pick [0, 2, 3, 1, 4, 5] (by decide))
def banks_Store_put_64.f (K : Nat) (p0_0 : List Int) (p0_1 : Int) (p0_2 : Int) (p0_3 : List (Int × Int)) (p1 : Int) (p2 : Int) : Option ((List Int) × Int × Int × (List (Int × Int))) := Let (fun (t53 : Int) => cond (cutR 0 t53 p0_3.length) ((banks_Spot_82.f K (cutL p0_3 0 t53)).bind fun t67 => Let (fun (t154 : (List (Int × Int))) => cond (cutR t53 (p0_3.length : Int) p0_3.length) ((banks_Spot_82.f K (cutL p0_3 t53 (p0_3.length : Int))).bind fun t168 => Let (fun (t261 : (List (Int × Int))) => cond (p2 != 0) (cond (mayBe (t154.length + ([(p1, p2)] : List (Int × Int)).length) 16) (cond (mayBe ((t154 ++ ([(p1, p2)] : List (Int × Int))).length + t261.length) 16) (some (p0_0, p0_1, p0_2, ((t154 ++ ([(p1, p2)] : List (Int × Int))) ++ t261))) none) none) (cond (mayBe (t154.length + t261.length) 16) (some (p0_0, p0_1, p0_2, (t154 ++ t261))) none)) (fun j264 => Let (fun (t202 : Int) => cond (t202 == (-1)) (j264 t168) ((banks_Store_put_64.l4 K p0_0 p0_1 p0_2 p0_3 p1 p2 t154 K t168 t202 (IntKind.wrap .i64 (t202 + 1))).bind (fun yx245 => cond (cutR yx245.2 (yx245.1.length : Int) yx245.1.length) (cond (cutR 0 yx245.2 (clrD yx245.1 yx245.2 (0, 0)).length) (j264 (cutL (clrD yx245.1 yx245.2 (0, 0)) 0 yx245.2)) none) none))) (fun j205 => (banks_Store_put_64.l3 K p0_0 p0_1 p0_2 p0_3 p1 p2 t168 (t168.length : Int) t154 K 0).bind (fun x195 => Lp.elim x195 (fun t199 => j205 t199) (fun _ => j205 (-1)))))) none) (fun j157 => Let (fun (t98 : Int) => cond (t98 == (-1)) (j157 t67) ((banks_Store_put_64.l2 K p0_0 p0_1 p0_2 p0_3 p1 p2 K t67 t98 (IntKind.wrap .i64 (t98 + 1))).bind (fun yx138 => cond (cutR yx138.2 (yx138.1.length : Int) yx138.1.length) (cond (cutR 0 yx138.2 (clrD yx138.1 yx138.2 (0, 0)).length) (j157 (cutL (clrD yx138.1 yx138.2 (0, 0)) 0 yx138.2)) none) none))) (fun j101 => (banks_Store_put_64.l1 K p0_0 p0_1 p0_2 p0_3 p1 p2 t67 (t67.length : Int) K 0).bind (fun x91 => Lp.elim x91 (fun t95 => j101 t95) (fun _ => j101 (-1)))))) none) (fun j56 => Let (fun (t46 : Int) => cond (decide (t46 ≥ 0)) (j56 t46) (j56 (p0_3.length : Int))) (fun j49 => (banks_Store_put_64.l0 K p0_0 p0_1 p0_2 p0_3 p1 p2 K 0).bind (fun x39 => Lp.elim x39 (fun t43 => j49 t43) (fun _ => j49 (-1)))))
set_option maxRecDepth 100000 in
theorem banks_Store_put_64_ok (K : Nat) (M0 : Nat → Prop) (w0 : World) (pA0_0 : Option Addr) (pc0_0 : Nat) (pA0_3 : Option Addr) (pc0_3 : Nat) (p0_0 : List Int) (p0_1 : Int) (p0_2 : Int) (p0_3 : List (Int × Int)) (p1 : Int) (p2 : Int) (ho : ∀ b, M0 b → b < w0.heap.size) (hs0_3 : Sl (Rp.pair (Rp.int .i64) (Rp.int .u8)) w0 M0 (.slice pA0_3 p0_3.length pc0_3) p0_3) {r : (List Int) × Int × Int × (List (Int × Int))} (h : banks_Store_put_64.f K p0_0 p0_1 p0_2 p0_3 p1 p2 = some r) :
  Calls Tryd.prog 64 #[.agg #[.slice pA0_0 p0_0.length pc0_0, .int .i64 p0_1, .int .i64 p0_2, .slice pA0_3 p0_3.length pc0_3], .int .i64 p1, .int .u8 p2] w0 (banks_Store_put_64.post pA0_0 pc0_0 p0_0 M0 w0 r) := by
 unfold banks_Store_put_64.f at h
 have h0 : Holds M0 w0 w0 [] := Holds.start ho
 have h00_3 := h0.addSl (Rp.pair (Rp.int .i64) (Rp.int .u8)) (.slice pA0_3 p0_3.length pc0_3) p0_3 (hs0_3.mono (fun _ _ hm => hm.elim id (fun hm => absurd hm (by simp [mines, sl]))))
 have h0 : Holds M0 w0 w0 [sl (Rp.pair (Rp.int .i64) (Rp.int .u8)) (.slice pA0_3 p0_3.length pc0_3) p0_3] := h00_3
 refine calls_of F64 rfl [.agg #[.slice pA0_0 p0_0.length pc0_0, .int .i64 p0_1, .int .i64 p0_2, .slice pA0_3 p0_3.length pc0_3], .int .i64 p1, .int .u8 p2] (by kernel_rfl) ?_
 refine RunsI.g 1 [.c 1, .c 2] ?_
 refine RunsI.r ?_
 refine RegI.o (OpE.box 3 26 [.slice pA0_0 p0_0.length pc0_0, .int .i64 p0_1, .int .i64 p0_2, .slice pA0_3 p0_3.length pc0_3] h0 (by kernel_rfl) (by kernel_rfl) ?_)
 intro w1 b2 h3 hb4 hn5
 refine RegI.o (OpE.box 4 3 [.int .i64 p1] h3 (by kernel_rfl) (by kernel_rfl) ?_)
 intro w6 b7 h8 hb9 hn10
 refine RegI.o (OpE.box 6 26 [.slice none 0 0, .int .i64 0, .int .i64 0, .slice none 0 0] h8 (by kernel_rfl) (by kernel_rfl) ?_)
 intro w11 b12 h13 hb14 hn15
 refine RegI.d ?_
 refine RunsI.g 1 [.c 3, .c 4] ?_
 refine RunsI.r ?_
 refine RegI.p 1 [(2, .int .u8 p2), (3, .pointer (some ⟨b2, 0, none⟩)), (4, .pointer (some ⟨b7, 0, none⟩)), (6, .pointer (some ⟨b12, 0, none⟩)), (11, .pointer (some ⟨b2, 3, none⟩))] ?_
 refine RegI.o (OpE.loadBox 12 1 24 b2 3 (.slice pA0_3 p0_3.length pc0_3) h13 (by kernel_rfl) (by kernel_rfl) rfl (by kernel_rfl) ?_)
 refine RegI.p 1 [(2, .int .u8 p2), (3, .pointer (some ⟨b2, 0, none⟩)), (4, .pointer (some ⟨b7, 0, none⟩)), (6, .pointer (some ⟨b12, 0, none⟩)), (12, .slice pA0_3 p0_3.length pc0_3), (13, .func (.func 78) #[] #[.pointer (some ⟨b7, 0, none⟩)])] ?_
 refine RegI.enter 14 [2, 3, 4, 6] [(2, .int .u8 p2), (3, .pointer (some ⟨b2, 0, none⟩)), (4, .pointer (some ⟨b7, 0, none⟩)), (6, .pointer (some ⟨b12, 0, none⟩))] (by kernel_rfl) (by kernel_rfl) (by kernel_rfl) (by kernel_rfl) F77 77 rfl [.slice pA0_3 p0_3.length pc0_3, .func (.func 78) #[] #[.pointer (some ⟨b7, 0, none⟩)]] (by kernel_rfl) (by kernel_rfl) ?_
 obtain ⟨j56, hJ57, h⟩ := of_let h
 have hj58 : ∀ (t53 : Int) (w55 : World), j56 t53 = some r → Holds M0 w0 w55 [box b2 26 [.slice pA0_0 p0_0.length pc0_0, .int .i64 p0_1, .int .i64 p0_2, .slice pA0_3 p0_3.length pc0_3], sl (Rp.pair (Rp.int .i64) (Rp.int .u8)) (.slice pA0_3 p0_3.length pc0_3) p0_3, box b7 3 [.int .i64 p1], box b12 26 [.slice none 0 0, .int .i64 0, .int .i64 0, .slice none 0 0]] → RegI F64 3 [.c 4] 4 [(2, .int .u8 p2), (3, .pointer (some ⟨b2, 0, none⟩)), (4, .pointer (some ⟨b7, 0, none⟩)), (6, .pointer (some ⟨b12, 0, none⟩)), (14, .int .i64 t53)] w55 (banks_Store_put_64.post pA0_0 pc0_0 p0_0 M0 w0 r) := by
  intro t53 w55 h h54
  rw [hJ57] at h
  clear hJ57
  dsimp only at h
  refine RegI.p 1 [(2, .int .u8 p2), (3, .pointer (some ⟨b2, 0, none⟩)), (4, .pointer (some ⟨b7, 0, none⟩)), (6, .pointer (some ⟨b12, 0, none⟩)), (7, .int .i64 t53)] ?_
  refine RegI.d ?_
  refine RunsI.g 1 [.c 5, .c 6] ?_
  refine RunsI.r ?_
  refine RegI.p 2 [(2, .int .u8 p2), (3, .pointer (some ⟨b2, 0, none⟩)), (4, .pointer (some ⟨b7, 0, none⟩)), (6, .pointer (some ⟨b12, 0, none⟩)), (7, .int .i64 t53), (8, .func (.func 80) #[] #[.pointer (some ⟨b7, 0, none⟩)])] ?_
  refine RegI.d ?_
  refine RunsI.g 1 [.c 7, .c 8] ?_
  refine RunsI.r ?_
  refine RegI.p 1 [(2, .int .u8 p2), (3, .pointer (some ⟨b2, 0, none⟩)), (4, .pointer (some ⟨b7, 0, none⟩)), (6, .pointer (some ⟨b12, 0, none⟩)), (7, .int .i64 t53), (8, .func (.func 80) #[] #[.pointer (some ⟨b7, 0, none⟩)]), (16, .pointer (some ⟨b2, 3, none⟩))] ?_
  refine RegI.o (OpE.loadBox 17 0 24 b2 3 (.slice pA0_3 p0_3.length pc0_3) h54 (by kernel_rfl) (by kernel_rfl) rfl (by kernel_rfl) ?_)
  refine RegI.p 1 [(2, .int .u8 p2), (3, .pointer (some ⟨b2, 0, none⟩)), (4, .pointer (some ⟨b7, 0, none⟩)), (6, .pointer (some ⟨b12, 0, none⟩)), (7, .int .i64 t53), (8, .func (.func 80) #[] #[.pointer (some ⟨b7, 0, none⟩)]), (17, .slice pA0_3 p0_3.length pc0_3), (18, .int .i64 t53)] ?_
  obtain ⟨hc59, h⟩ := of_cond0 h
  refine RegI.o (OpE.cutSl 19 1 24 none (some t53) h54 (by kernel_rfl) rfl (by kernel_rfl) (by kernel_rfl) hc59 ?_)
  intro A60 c61 h62
  obtain ⟨t67, hg66, h⟩ := of_bind h
  refine RegI.o (OpE.call 20 (by kernel_rfl) 82 #[.slice A60 ((cutL p0_3 0 t53).length) c61] (by kernel_rfl) ((banks_Spot_82_ok K _ w55  A60 c61 (cutL p0_3 0 t53) h62.old' (h62.get 4 rfl) hg66).mono ?_))
  rintro _ w63 ⟨A68, c69, rfl, hr71⟩
  refine ⟨_, rfl, ?_⟩
  have hb64 := hr71.below
  have h65 := h62.join hr71
  refine RegI.p 1 [(2, .int .u8 p2), (3, .pointer (some ⟨b2, 0, none⟩)), (4, .pointer (some ⟨b7, 0, none⟩)), (6, .pointer (some ⟨b12, 0, none⟩)), (7, .int .i64 t53), (8, .func (.func 80) #[] #[.pointer (some ⟨b7, 0, none⟩)]), (20, .slice A68 t67.length c69), (21, .func (.func 80) #[] #[.pointer (some ⟨b7, 0, none⟩)])] ?_
  refine RegI.enter 22 [2, 3, 4, 6, 7, 8] [(2, .int .u8 p2), (3, .pointer (some ⟨b2, 0, none⟩)), (4, .pointer (some ⟨b7, 0, none⟩)), (6, .pointer (some ⟨b12, 0, none⟩)), (7, .int .i64 t53), (8, .func (.func 80) #[] #[.pointer (some ⟨b7, 0, none⟩)])] (by kernel_rfl) (by kernel_rfl) (by kernel_rfl) (by kernel_rfl) F81 81 rfl [.slice A68 t67.length c69, .func (.func 80) #[] #[.pointer (some ⟨b7, 0, none⟩)]] (by kernel_rfl) (by kernel_rfl) ?_
  obtain ⟨j157, hJ158, h⟩ := of_let h
  have hj159 : ∀ (t154 : List (Int × Int)) (A152 : Option Addr) (c153 : Nat) (w156 : World), j157 t154 = some r → Holds M0 w0 w156 [box b2 26 [.slice pA0_0 p0_0.length pc0_0, .int .i64 p0_1, .int .i64 p0_2, .slice pA0_3 p0_3.length pc0_3], sl (Rp.pair (Rp.int .i64) (Rp.int .u8)) (.slice pA0_3 p0_3.length pc0_3) p0_3, box b7 3 [.int .i64 p1], box b12 26 [.slice none 0 0, .int .i64 0, .int .i64 0, .slice none 0 0], own (Rp.pair (Rp.int .i64) (Rp.int .u8)) 64 (.slice A152 t154.length c153) t154] → RegI F64 7 [.c 8] 7 [(2, .int .u8 p2), (3, .pointer (some ⟨b2, 0, none⟩)), (4, .pointer (some ⟨b7, 0, none⟩)), (6, .pointer (some ⟨b12, 0, none⟩)), (7, .int .i64 t53), (8, .func (.func 80) #[] #[.pointer (some ⟨b7, 0, none⟩)]), (22, .slice A152 t154.length c153)] w156 (banks_Store_put_64.post pA0_0 pc0_0 p0_0 M0 w0 r) := by
   intro t154 A152 c153 w156 h h155
   rw [hJ158] at h
   clear hJ158
   dsimp only at h
   refine RegI.p 1 [(2, .int .u8 p2), (3, .pointer (some ⟨b2, 0, none⟩)), (4, .pointer (some ⟨b7, 0, none⟩)), (6, .pointer (some ⟨b12, 0, none⟩)), (7, .int .i64 t53), (8, .func (.func 80) #[] #[.pointer (some ⟨b7, 0, none⟩)]), (9, .slice A152 t154.length c153)] ?_
   refine RegI.d ?_
   refine RunsI.g 1 [.c 9, .c 10] ?_
   refine RunsI.r ?_
   refine RegI.p 1 [(2, .int .u8 p2), (3, .pointer (some ⟨b2, 0, none⟩)), (4, .pointer (some ⟨b7, 0, none⟩)), (6, .pointer (some ⟨b12, 0, none⟩)), (7, .int .i64 t53), (8, .func (.func 80) #[] #[.pointer (some ⟨b7, 0, none⟩)]), (9, .slice A152 t154.length c153), (23, .pointer (some ⟨b2, 3, none⟩))] ?_
   refine RegI.o (OpE.loadBox 24 0 24 b2 3 (.slice pA0_3 p0_3.length pc0_3) h155 (by kernel_rfl) (by kernel_rfl) rfl (by kernel_rfl) ?_)
   refine RegI.p 1 [(2, .int .u8 p2), (3, .pointer (some ⟨b2, 0, none⟩)), (4, .pointer (some ⟨b7, 0, none⟩)), (6, .pointer (some ⟨b12, 0, none⟩)), (8, .func (.func 80) #[] #[.pointer (some ⟨b7, 0, none⟩)]), (9, .slice A152 t154.length c153), (24, .slice pA0_3 p0_3.length pc0_3), (25, .int .i64 t53)] ?_
   obtain ⟨hc160, h⟩ := of_cond0 h
   refine RegI.o (OpE.cutSl 26 1 24 (some t53) none h155 (by kernel_rfl) rfl (by kernel_rfl) (by kernel_rfl) hc160 ?_)
   intro A161 c162 h163
   obtain ⟨t168, hg167, h⟩ := of_bind h
   refine RegI.o (OpE.call 27 (by kernel_rfl) 82 #[.slice A161 ((cutL p0_3 t53 (p0_3.length : Int)).length) c162] (by kernel_rfl) ((banks_Spot_82_ok K _ w156  A161 c162 (cutL p0_3 t53 (p0_3.length : Int)) h163.old' (h163.get 5 rfl) hg167).mono ?_))
   rintro _ w164 ⟨A169, c170, rfl, hr172⟩
   refine ⟨_, rfl, ?_⟩
   have hb165 := hr172.below
   have h166 := h163.join hr172
   refine RegI.p 1 [(2, .int .u8 p2), (3, .pointer (some ⟨b2, 0, none⟩)), (4, .pointer (some ⟨b7, 0, none⟩)), (6, .pointer (some ⟨b12, 0, none⟩)), (9, .slice A152 t154.length c153), (27, .slice A169 t168.length c170), (28, .func (.func 80) #[] #[.pointer (some ⟨b7, 0, none⟩)])] ?_
   refine RegI.enter 29 [2, 3, 4, 6, 9] [(2, .int .u8 p2), (3, .pointer (some ⟨b2, 0, none⟩)), (4, .pointer (some ⟨b7, 0, none⟩)), (6, .pointer (some ⟨b12, 0, none⟩)), (9, .slice A152 t154.length c153)] (by kernel_rfl) (by kernel_rfl) (by kernel_rfl) (by kernel_rfl) F81 81 rfl [.slice A169 t168.length c170, .func (.func 80) #[] #[.pointer (some ⟨b7, 0, none⟩)]] (by kernel_rfl) (by kernel_rfl) ?_
   obtain ⟨j264, hJ265, h⟩ := of_let h
   have hj266 : ∀ (t261 : List (Int × Int)) (A259 : Option Addr) (c260 : Nat) (w263 : World), j264 t261 = some r → Holds M0 w0 w263 [box b2 26 [.slice pA0_0 p0_0.length pc0_0, .int .i64 p0_1, .int .i64 p0_2, .slice pA0_3 p0_3.length pc0_3], sl (Rp.pair (Rp.int .i64) (Rp.int .u8)) (.slice pA0_3 p0_3.length pc0_3) p0_3, box b7 3 [.int .i64 p1], box b12 26 [.slice none 0 0, .int .i64 0, .int .i64 0, .slice none 0 0], own (Rp.pair (Rp.int .i64) (Rp.int .u8)) 64 (.slice A152 t154.length c153) t154, own (Rp.pair (Rp.int .i64) (Rp.int .u8)) 64 (.slice A259 t261.length c260) t261] → RegI F64 9 [.c 10] 7 [(2, .int .u8 p2), (3, .pointer (some ⟨b2, 0, none⟩)), (4, .pointer (some ⟨b7, 0, none⟩)), (6, .pointer (some ⟨b12, 0, none⟩)), (9, .slice A152 t154.length c153), (29, .slice A259 t261.length c260)] w263 (banks_Store_put_64.post pA0_0 pc0_0 p0_0 M0 w0 r) := by
    intro t261 A259 c260 w263 h h262
    rw [hJ265] at h
    clear hJ265
    dsimp only at h
    refine RegI.p 1 [(2, .int .u8 p2), (3, .pointer (some ⟨b2, 0, none⟩)), (4, .pointer (some ⟨b7, 0, none⟩)), (6, .pointer (some ⟨b12, 0, none⟩)), (9, .slice A152 t154.length c153), (10, .slice A259 t261.length c260)] ?_
    refine RegI.d ?_
    refine RunsI.g 2 [.c 12, .c 13, .c 16] ?_
    refine RunsI.r ?_
    refine RegI.p 2 [(2, .int .u8 p2), (3, .pointer (some ⟨b2, 0, none⟩)), (4, .pointer (some ⟨b7, 0, none⟩)), (6, .pointer (some ⟨b12, 0, none⟩)), (9, .slice A152 t154.length c153), (10, .slice A259 t261.length c260), (31, .bool (p2 != 0))] ?_
    refine RegI.d ?_
    rcases of_cond h with ⟨hc267, h⟩ | ⟨hc267, h⟩
    ·skip
     refine RunsI.f 31 true hc267 ?_
     refine RunsI.b true 14 ?_
     refine RunsI.r ?_
     refine RegI.p 1 [(2, .int .u8 p2), (3, .pointer (some ⟨b2, 0, none⟩)), (4, .pointer (some ⟨b7, 0, none⟩)), (6, .pointer (some ⟨b12, 0, none⟩)), (10, .slice A259 t261.length c260), (32, .slice A152 t154.length c153)] ?_
     refine RegI.o (OpE.loadBox 33 2 3 b7 0 (.int .i64 p1) h262 (by kernel_rfl) (by kernel_rfl) rfl (by kernel_rfl) ?_)
     refine RegI.p 2 [(3, .pointer (some ⟨b2, 0, none⟩)), (6, .pointer (some ⟨b12, 0, none⟩)), (10, .slice A259 t261.length c260), (32, .slice A152 t154.length c153), (35, .agg #[.int .i64 p1, .int .u8 p2])] ?_
     refine RegI.o (OpE.lit 36 64 [.int .i64 p1, .int .u8 p2] 1 h262 (by kernel_rfl) (by kernel_rfl) ?_)
     intro w268 b269 h270 hb271 hn272
     obtain ⟨hc273, h⟩ := of_cond0 h
     refine RegI.o (OpE.appendBox 37 4 6 24 64 16 ([(p1, p2)] : List (Int × Int)) 0 h270 (by kernel_rfl) (by kernel_rfl) (by kernel_rfl) rfl rfl rfl (⟨[_, _], _, rfl, ⟨[_], [_], rfl, rfl, rfl⟩, rfl⟩) hc273 ?_)
     intro w274 A275 c276 h277 hk278
     refine RegI.p 1 [(3, .pointer (some ⟨b2, 0, none⟩)), (6, .pointer (some ⟨b12, 0, none⟩)), (9, .slice A275 ((t154 ++ ([(p1, p2)] : List (Int × Int))).length) c276), (10, .slice A259 t261.length c260)] ?_
     refine RegI.d ?_
     refine RunsI.g 1 [.c 17, .c 18] ?_
     refine RunsI.r ?_
     refine RegI.p 2 [(3, .pointer (some ⟨b2, 0, none⟩)), (6, .pointer (some ⟨b12, 0, none⟩)), (38, .slice A275 ((t154 ++ ([(p1, p2)] : List (Int × Int))).length) c276), (39, .slice A259 t261.length c260)] ?_
     obtain ⟨hc279, h⟩ := of_cond0 h
     refine RegI.o (OpE.appendRow 40 4 24 64 16 (ys := t261) h277 (by kernel_rfl) (by kernel_rfl) (by kernel_rfl) rfl (h277.rdOwn 5 rfl) hc279 ?_)
     intro w280 A281 c282 h283 hk284
     refine RegI.p 1 [(3, .pointer (some ⟨b2, 0, none⟩)), (6, .pointer (some ⟨b12, 0, none⟩)), (40, .slice A281 (((t154 ++ ([(p1, p2)] : List (Int × Int))) ++ t261).length) c282), (41, .pointer (some ⟨b2, 3, none⟩))] ?_
     refine RegI.o (OpE.storeBox 0 24 b2 3 (.slice A281 (((t154 ++ ([(p1, p2)] : List (Int × Int))) ++ t261).length) c282) [.slice pA0_0 p0_0.length pc0_0, .int .i64 p0_1, .int .i64 p0_2, .slice A281 (((t154 ++ ([(p1, p2)] : List (Int × Int))) ++ t261).length) c282] h283 (by kernel_rfl) (by kernel_rfl) rfl (by kernel_rfl) (by kernel_rfl) (by kernel_rfl) ?_)
     intro w285 h286 hk287
     refine RegI.d ?_
     refine RunsI.g 1 [.c 19, .c 20] ?_
     refine RunsI.r ?_
     refine RegI.o (OpE.loadBox 42 0 26 b2 0 (.agg #[.slice pA0_0 p0_0.length pc0_0, .int .i64 p0_1, .int .i64 p0_2, .slice A281 (((t154 ++ ([(p1, p2)] : List (Int × Int))) ++ t261).length) c282]) h286 (by kernel_rfl) (by kernel_rfl) rfl (by kernel_rfl) ?_)
     refine RegI.o (OpE.storeBox 3 26 b12 0 (.agg #[.slice pA0_0 p0_0.length pc0_0, .int .i64 p0_1, .int .i64 p0_2, .slice A281 (((t154 ++ ([(p1, p2)] : List (Int × Int))) ++ t261).length) c282]) [.slice pA0_0 p0_0.length pc0_0, .int .i64 p0_1, .int .i64 p0_2, .slice A281 (((t154 ++ ([(p1, p2)] : List (Int × Int))) ++ t261).length) c282] h286 (by kernel_rfl) (by kernel_rfl) rfl (by kernel_rfl) (by kernel_rfl) (by kernel_rfl) ?_)
     intro w288 h289 hk290
     refine RegI.d ?_
     refine RunsI.toRet (by kernel_rfl) ?_
     refine RetI.valW [.cell 6 26] [.agg #[.slice pA0_0 p0_0.length pc0_0, .int .i64 p0_1, .int .i64 p0_2, .slice A281 (((t154 ++ ([(p1, p2)] : List (Int × Int))) ++ t261).length) c282]] (.agg #[.slice pA0_0 p0_0.length pc0_0, .int .i64 p0_1, .int .i64 p0_2, .slice A281 (((t154 ++ ([(p1, p2)] : List (Int × Int))) ++ t261).length) c282]) (by kernel_rfl) (ResAt.box 3 26 b12 0 h289 (by kernel_rfl) (by kernel_rfl) rfl (by kernel_rfl) rfl) (by kernel_rfl) ?_
     obtain rfl := Option.some.inj h
     exact ⟨A281, c282, rfl, rfl, h289.pick [4] (by decide)⟩
    ·skip
     refine RunsI.f 31 false hc267 ?_
     refine RunsI.b false 15 ?_
     refine RunsI.g 1 [.c 16] ?_
     refine RunsI.g 1 [.c 17, .c 18] ?_
     refine RunsI.r ?_
     refine RegI.p 2 [(3, .pointer (some ⟨b2, 0, none⟩)), (6, .pointer (some ⟨b12, 0, none⟩)), (38, .slice A152 t154.length c153), (39, .slice A259 t261.length c260)] ?_
     obtain ⟨hc291, h⟩ := of_cond0 h
     refine RegI.o (OpE.appendRow 40 4 24 64 16 (ys := t261) h262 (by kernel_rfl) (by kernel_rfl) (by kernel_rfl) rfl (h262.rdOwn 5 rfl) hc291 ?_)
     intro w292 A293 c294 h295 hk296
     refine RegI.p 1 [(3, .pointer (some ⟨b2, 0, none⟩)), (6, .pointer (some ⟨b12, 0, none⟩)), (40, .slice A293 ((t154 ++ t261).length) c294), (41, .pointer (some ⟨b2, 3, none⟩))] ?_
     refine RegI.o (OpE.storeBox 0 24 b2 3 (.slice A293 ((t154 ++ t261).length) c294) [.slice pA0_0 p0_0.length pc0_0, .int .i64 p0_1, .int .i64 p0_2, .slice A293 ((t154 ++ t261).length) c294] h295 (by kernel_rfl) (by kernel_rfl) rfl (by kernel_rfl) (by kernel_rfl) (by kernel_rfl) ?_)
     intro w297 h298 hk299
     refine RegI.d ?_
     refine RunsI.g 1 [.c 19, .c 20] ?_
     refine RunsI.r ?_
     refine RegI.o (OpE.loadBox 42 0 26 b2 0 (.agg #[.slice pA0_0 p0_0.length pc0_0, .int .i64 p0_1, .int .i64 p0_2, .slice A293 ((t154 ++ t261).length) c294]) h298 (by kernel_rfl) (by kernel_rfl) rfl (by kernel_rfl) ?_)
     refine RegI.o (OpE.storeBox 3 26 b12 0 (.agg #[.slice pA0_0 p0_0.length pc0_0, .int .i64 p0_1, .int .i64 p0_2, .slice A293 ((t154 ++ t261).length) c294]) [.slice pA0_0 p0_0.length pc0_0, .int .i64 p0_1, .int .i64 p0_2, .slice A293 ((t154 ++ t261).length) c294] h298 (by kernel_rfl) (by kernel_rfl) rfl (by kernel_rfl) (by kernel_rfl) (by kernel_rfl) ?_)
     intro w300 h301 hk302
     refine RegI.d ?_
     refine RunsI.toRet (by kernel_rfl) ?_
     refine RetI.valW [.cell 6 26] [.agg #[.slice pA0_0 p0_0.length pc0_0, .int .i64 p0_1, .int .i64 p0_2, .slice A293 ((t154 ++ t261).length) c294]] (.agg #[.slice pA0_0 p0_0.length pc0_0, .int .i64 p0_1, .int .i64 p0_2, .slice A293 ((t154 ++ t261).length) c294]) (by kernel_rfl) (ResAt.box 3 26 b12 0 h301 (by kernel_rfl) (by kernel_rfl) rfl (by kernel_rfl) rfl) (by kernel_rfl) ?_
     obtain rfl := Option.some.inj h
     exact ⟨A293, c294, rfl, rfl, h301.pick [4] (by decide)⟩
   clear hJ265
   refine RunsI.g 1 [.c 1, .c 2] ?_
   refine RunsI.r ?_
   refine RegI.p 1 [(0, .slice A169 t168.length c170), (1, .func (.func 80) #[] #[.pointer (some ⟨b7, 0, none⟩)])] ?_
   refine RegI.d ?_
   refine RunsI.g 1 [.c 3, .c 4] ?_
   refine RunsI.r ?_
   refine RegI.p 2 [(0, .slice A169 t168.length c170), (1, .func (.func 80) #[] #[.pointer (some ⟨b7, 0, none⟩)]), (8, .slice A169 t168.length c170), (9, .func (.func 80) #[] #[.pointer (some ⟨b7, 0, none⟩)])] ?_
   refine RegI.enter 10 [0, 1] [(0, .slice A169 t168.length c170), (1, .func (.func 80) #[] #[.pointer (some ⟨b7, 0, none⟩)])] (by kernel_rfl) (by kernel_rfl) (by kernel_rfl) (by kernel_rfl) F72 72 rfl [.slice A169 t168.length c170, .func (.func 80) #[] #[.pointer (some ⟨b7, 0, none⟩)]] (by kernel_rfl) (by kernel_rfl) ?_
   obtain ⟨j205, hJ206, h⟩ := of_let h
   have hj207 : ∀ (t202 : Int) (w204 : World), j205 t202 = some r → Holds M0 w0 w204 [own (Rp.pair (Rp.int .i64) (Rp.int .u8)) 64 (.slice A169 t168.length c170) t168, box b7 3 [.int .i64 p1], box b2 26 [.slice pA0_0 p0_0.length pc0_0, .int .i64 p0_1, .int .i64 p0_2, .slice pA0_3 p0_3.length pc0_3], sl (Rp.pair (Rp.int .i64) (Rp.int .u8)) (.slice pA0_3 p0_3.length pc0_3) p0_3, box b12 26 [.slice none 0 0, .int .i64 0, .int .i64 0, .slice none 0 0], own (Rp.pair (Rp.int .i64) (Rp.int .u8)) 64 (.slice A152 t154.length c153) t154] → RegI F81 3 [.c 4] 3 [(0, .slice A169 t168.length c170), (1, .func (.func 80) #[] #[.pointer (some ⟨b7, 0, none⟩)]), (10, .int .i64 t202)] w204 (cont (fun e' w' => RegI F64 9 [.c 10] 7 e' w' (banks_Store_put_64.post pA0_0 pc0_0 p0_0 M0 w0 r)) 29 [(2, .int .u8 p2), (3, .pointer (some ⟨b2, 0, none⟩)), (4, .pointer (some ⟨b7, 0, none⟩)), (6, .pointer (some ⟨b12, 0, none⟩)), (9, .slice A152 t154.length c153)]) := by
    intro t202 w204 h h203
    rw [hJ206] at h
    clear hJ206
    dsimp only at h
    refine RegI.p 1 [(0, .slice A169 t168.length c170), (1, .func (.func 80) #[] #[.pointer (some ⟨b7, 0, none⟩)]), (5, .int .i64 t202)] ?_
    refine RegI.d ?_
    refine RunsI.g 2 [.c 6, .c 7, .c 12] ?_
    refine RunsI.r ?_
    refine RegI.p 2 [(0, .slice A169 t168.length c170), (1, .func (.func 80) #[] #[.pointer (some ⟨b7, 0, none⟩)]), (5, .int .i64 t202), (12, .bool (t202 == (-1)))] ?_
    refine RegI.d ?_
    rcases of_cond h with ⟨hc208, h⟩ | ⟨hc208, h⟩
    ·skip
     refine RunsI.f 12 true hc208 ?_
     refine RunsI.b true 8 ?_
     refine RunsI.g 1 [.c 9, .c 10, .c 12] ?_
     refine RunsI.r ?_
     refine RegI.p 2 [(4, .slice A169 t168.length c170)] ?_
     refine RegI.d ?_
     refine RunsI.t (.slice A169 t168.length c170) ?_
     refine cont_mk ?_
     refine RegI.l [2, 3, 4, 6, 9, 29] [(2, .int .u8 p2), (3, .pointer (some ⟨b2, 0, none⟩)), (4, .pointer (some ⟨b7, 0, none⟩)), (6, .pointer (some ⟨b12, 0, none⟩)), (9, .slice A152 t154.length c153), (29, .slice A169 t168.length c170)] ?_
     exact hj266 t168 A169 c170 w204 h (h203.pick [2, 3, 1, 4, 5, 0] (by decide))
    ·skip
     refine RunsI.f 12 false hc208 ?_
     refine RunsI.b false 11 ?_
     refine RunsI.g 1 [.c 12] ?_
     refine RunsI.g 2 [.c 14, .c 15, .c 35] ?_
     refine RunsI.r ?_
     refine RegI.p 3 [(0, .slice A169 t168.length c170), (1, .func (.func 80) #[] #[.pointer (some ⟨b7, 0, none⟩)]), (5, .int .i64 t202), (6, .int .i64 (IntKind.wrap .i64 (t202 + 1)))] ?_
     refine RegI.d ?_
     refine RunsI.g 2 [.c 17, .lp 17, .blk 0, .c 35] ?_
     obtain ⟨x245, hx246, h⟩ := of_bind h
     refine RunsI.l [0, 1, 5, 6] [(0, .slice A169 t168.length c170), (1, .func (.func 80) #[] #[.pointer (some ⟨b7, 0, none⟩)]), (5, .int .i64 t202), (6, .int .i64 (IntKind.wrap .i64 (t202 + 1)))] ?_
     refine banks_Store_put_64.l4_ok K M0 w0 pA0_0 pc0_0 pA0_3 pc0_3 p0_0 p0_1 p0_2 p0_3 p1 p2 t154 A169 c170 b7 b2 b12 A152 c153 _ x245 ?_ K t168 t202 (IntKind.wrap .i64 (t202 + 1)) w204 hx246 (h203.pick [0, 1, 2, 3, 4, 5] (by decide))
     ·intro t247 t248 w250 hq303 h249
      (try rw [hq303] at h)
      dsimp only at h
      refine RunsI.g 1 [.c 36, .c 37] ?_
      refine RunsI.r ?_
      refine RegI.p 2 [(0, .slice A169 t247.length c170), (5, .int .i64 t248), (36, .slice A169 t247.length c170), (37, .int .i64 t248)] ?_
      obtain ⟨hc251, h⟩ := of_cond0 h
      refine RegI.o (OpE.cutView 38 0 24 64 t248 h249 (by kernel_rfl) rfl (by kernel_rfl) (by kernel_rfl) hc251 ?_)
      refine RegI.o (OpE.clearEnd 0 24 64 t248 16 [.int .i64 0, .int .u8 0] (Rp.pair (Rp.int .i64) (Rp.int .u8)) (0, 0) h249 (by kernel_rfl) rfl (by kernel_rfl) (by kernel_rfl) (by kernel_rfl) (fun _ _ => ⟨[_], [_], rfl, rfl, rfl⟩) hc251 ?_)
      intro w252 h253 hk254
      refine RegI.d ?_
      refine RunsI.g 1 [.c 38, .c 39] ?_
      refine RunsI.r ?_
      refine RegI.p 2 [(39, .slice A169 t247.length c170), (40, .int .i64 t248)] ?_
      obtain ⟨hc255, h⟩ := of_cond0 h
      refine RegI.o (OpE.cutOwn 41 0 24 64 (some t248) h253 (by kernel_rfl) rfl (by kernel_rfl) (by kernel_rfl) hc255 ?_)
      intro A256 c257 h258
      refine RegI.p 1 [(4, .slice A256 ((cutL (clrD t247 t248 (0, 0)) 0 t248).length) c257)] ?_
      refine RegI.d ?_
      refine RunsI.t (.slice A256 ((cutL (clrD t247 t248 (0, 0)) 0 t248).length) c257) ?_
      refine cont_mk ?_
      refine RegI.l [2, 3, 4, 6, 9, 29] [(2, .int .u8 p2), (3, .pointer (some ⟨b2, 0, none⟩)), (4, .pointer (some ⟨b7, 0, none⟩)), (6, .pointer (some ⟨b12, 0, none⟩)), (9, .slice A152 t154.length c153), (29, .slice A256 ((cutL (clrD t247 t248 (0, 0)) 0 t248).length) c257)] ?_
      exact hj266 (cutL (clrD t247 t248 (0, 0)) 0 t248) A256 c257 w252 h (h258.pick [1, 2, 3, 4, 5, 0] (by decide))
   clear hJ206
   refine RunsI.g 1 [.c 1, .c 2] ?_
   refine RunsI.r ?_
   refine RegI.p 1 [(0, .slice A169 t168.length c170), (1, .func (.func 80) #[] #[.pointer (some ⟨b7, 0, none⟩)])] ?_
   refine RegI.d ?_
   refine RunsI.g 2 [.c 4, .c 5, .c 25] ?_
   refine RunsI.r ?_
   refine RegI.p 3 [(0, .slice A169 t168.length c170), (1, .func (.func 80) #[] #[.pointer (some ⟨b7, 0, none⟩)]), (7, .int .i64 (t168.length : Int)), (8, .int .i64 0)] ?_
   refine RegI.d ?_
   refine RunsI.g 2 [.c 7, .lp 7, .blk 0, .c 25] ?_
   obtain ⟨x195, hx196, h⟩ := of_bind h
   refine RunsI.l [0, 1, 7, 8] [(0, .slice A169 t168.length c170), (1, .func (.func 80) #[] #[.pointer (some ⟨b7, 0, none⟩)]), (7, .int .i64 (t168.length : Int)), (8, .int .i64 0)] ?_
   refine banks_Store_put_64.l3_ok K M0 w0 pA0_0 pc0_0 pA0_3 pc0_3 p0_0 p0_1 p0_2 p0_3 p1 p2 t168 (t168.length : Int) t154 A169 c170 b7 b2 b12 A152 c153 _ x195 ?_ ?_ K 0 w164 hx196 (h166.pick [6, 2, 0, 1, 3, 4] (by decide))
   ·intro w198 hq304 h197
    (try rw [hq304] at h)
    dsimp only [Lp.elim] at h
    refine RunsI.g 1 [.c 26, .c 27] ?_
    refine RunsI.r ?_
    refine RegI.p 1 [(4, .int .i64 (-1))] ?_
    refine RegI.d ?_
    refine RunsI.t (.int .i64 (-1)) ?_
    refine cont_mk ?_
    refine RegI.l [0, 1, 10] [(0, .slice A169 t168.length c170), (1, .func (.func 80) #[] #[.pointer (some ⟨b7, 0, none⟩)]), (10, .int .i64 (-1))] ?_
    exact hj207 (-1) w198 h (h197.pick [5, 2, 0, 1, 3, 4] (by decide))
   ·intro t199 w201 hq305 h200
    (try rw [hq305] at h)
    dsimp only [Lp.elim] at h
    refine cont_mk ?_
    refine RegI.l [0, 1, 10] [(0, .slice A169 t168.length c170), (1, .func (.func 80) #[] #[.pointer (some ⟨b7, 0, none⟩)]), (10, .int .i64 t199)] ?_
    exact hj207 t199 w201 h (h200.pick [5, 2, 0, 1, 3, 4] (by decide))
  clear hJ158
  refine RunsI.g 1 [.c 1, .c 2] ?_
  refine RunsI.r ?_
  refine RegI.p 1 [(0, .slice A68 t67.length c69), (1, .func (.func 80) #[] #[.pointer (some ⟨b7, 0, none⟩)])] ?_
  refine RegI.d ?_
  refine RunsI.g 1 [.c 3, .c 4] ?_
  refine RunsI.r ?_
  refine RegI.p 2 [(0, .slice A68 t67.length c69), (1, .func (.func 80) #[] #[.pointer (some ⟨b7, 0, none⟩)]), (8, .slice A68 t67.length c69), (9, .func (.func 80) #[] #[.pointer (some ⟨b7, 0, none⟩)])] ?_
  refine RegI.enter 10 [0, 1] [(0, .slice A68 t67.length c69), (1, .func (.func 80) #[] #[.pointer (some ⟨b7, 0, none⟩)])] (by kernel_rfl) (by kernel_rfl) (by kernel_rfl) (by kernel_rfl) F72 72 rfl [.slice A68 t67.length c69, .func (.func 80) #[] #[.pointer (some ⟨b7, 0, none⟩)]] (by kernel_rfl) (by kernel_rfl) ?_
  obtain ⟨j101, hJ102, h⟩ := of_let h
  have hj103 : ∀ (t98 : Int) (w100 : World), j101 t98 = some r → Holds M0 w0 w100 [own (Rp.pair (Rp.int .i64) (Rp.int .u8)) 64 (.slice A68 t67.length c69) t67, box b7 3 [.int .i64 p1], box b2 26 [.slice pA0_0 p0_0.length pc0_0, .int .i64 p0_1, .int .i64 p0_2, .slice pA0_3 p0_3.length pc0_3], sl (Rp.pair (Rp.int .i64) (Rp.int .u8)) (.slice pA0_3 p0_3.length pc0_3) p0_3, box b12 26 [.slice none 0 0, .int .i64 0, .int .i64 0, .slice none 0 0]] → RegI F81 3 [.c 4] 3 [(0, .slice A68 t67.length c69), (1, .func (.func 80) #[] #[.pointer (some ⟨b7, 0, none⟩)]), (10, .int .i64 t98)] w100 (cont (fun e' w' => RegI F64 7 [.c 8] 7 e' w' (banks_Store_put_64.post pA0_0 pc0_0 p0_0 M0 w0 r)) 22 [(2, .int .u8 p2), (3, .pointer (some ⟨b2, 0, none⟩)), (4, .pointer (some ⟨b7, 0, none⟩)), (6, .pointer (some ⟨b12, 0, none⟩)), (7, .int .i64 t53), (8, .func (.func 80) #[] #[.pointer (some ⟨b7, 0, none⟩)])]) := by
   intro t98 w100 h h99
   rw [hJ102] at h
   clear hJ102
   dsimp only at h
   refine RegI.p 1 [(0, .slice A68 t67.length c69), (1, .func (.func 80) #[] #[.pointer (some ⟨b7, 0, none⟩)]), (5, .int .i64 t98)] ?_
   refine RegI.d ?_
   refine RunsI.g 2 [.c 6, .c 7, .c 12] ?_
   refine RunsI.r ?_
   refine RegI.p 2 [(0, .slice A68 t67.length c69), (1, .func (.func 80) #[] #[.pointer (some ⟨b7, 0, none⟩)]), (5, .int .i64 t98), (12, .bool (t98 == (-1)))] ?_
   refine RegI.d ?_
   rcases of_cond h with ⟨hc104, h⟩ | ⟨hc104, h⟩
   ·skip
    refine RunsI.f 12 true hc104 ?_
    refine RunsI.b true 8 ?_
    refine RunsI.g 1 [.c 9, .c 10, .c 12] ?_
    refine RunsI.r ?_
    refine RegI.p 2 [(4, .slice A68 t67.length c69)] ?_
    refine RegI.d ?_
    refine RunsI.t (.slice A68 t67.length c69) ?_
    refine cont_mk ?_
    refine RegI.l [2, 3, 4, 6, 7, 8, 22] [(2, .int .u8 p2), (3, .pointer (some ⟨b2, 0, none⟩)), (4, .pointer (some ⟨b7, 0, none⟩)), (6, .pointer (some ⟨b12, 0, none⟩)), (7, .int .i64 t53), (8, .func (.func 80) #[] #[.pointer (some ⟨b7, 0, none⟩)]), (22, .slice A68 t67.length c69)] ?_
    exact hj159 t67 A68 c69 w100 h (h99.pick [2, 3, 1, 4, 0] (by decide))
   ·skip
    refine RunsI.f 12 false hc104 ?_
    refine RunsI.b false 11 ?_
    refine RunsI.g 1 [.c 12] ?_
    refine RunsI.g 2 [.c 14, .c 15, .c 35] ?_
    refine RunsI.r ?_
    refine RegI.p 3 [(0, .slice A68 t67.length c69), (1, .func (.func 80) #[] #[.pointer (some ⟨b7, 0, none⟩)]), (5, .int .i64 t98), (6, .int .i64 (IntKind.wrap .i64 (t98 + 1)))] ?_
    refine RegI.d ?_
    refine RunsI.g 2 [.c 17, .lp 17, .blk 0, .c 35] ?_
    obtain ⟨x138, hx139, h⟩ := of_bind h
    refine RunsI.l [0, 1, 5, 6] [(0, .slice A68 t67.length c69), (1, .func (.func 80) #[] #[.pointer (some ⟨b7, 0, none⟩)]), (5, .int .i64 t98), (6, .int .i64 (IntKind.wrap .i64 (t98 + 1)))] ?_
    refine banks_Store_put_64.l2_ok K M0 w0 pA0_0 pc0_0 pA0_3 pc0_3 p0_0 p0_1 p0_2 p0_3 p1 p2 A68 c69 b7 b2 b12 _ x138 ?_ K t67 t98 (IntKind.wrap .i64 (t98 + 1)) w100 hx139 (h99.pick [0, 1, 2, 3, 4] (by decide))
    ·intro t140 t141 w143 hq306 h142
     (try rw [hq306] at h)
     dsimp only at h
     refine RunsI.g 1 [.c 36, .c 37] ?_
     refine RunsI.r ?_
     refine RegI.p 2 [(0, .slice A68 t140.length c69), (5, .int .i64 t141), (36, .slice A68 t140.length c69), (37, .int .i64 t141)] ?_
     obtain ⟨hc144, h⟩ := of_cond0 h
     refine RegI.o (OpE.cutView 38 0 24 64 t141 h142 (by kernel_rfl) rfl (by kernel_rfl) (by kernel_rfl) hc144 ?_)
     refine RegI.o (OpE.clearEnd 0 24 64 t141 16 [.int .i64 0, .int .u8 0] (Rp.pair (Rp.int .i64) (Rp.int .u8)) (0, 0) h142 (by kernel_rfl) rfl (by kernel_rfl) (by kernel_rfl) (by kernel_rfl) (fun _ _ => ⟨[_], [_], rfl, rfl, rfl⟩) hc144 ?_)
     intro w145 h146 hk147
     refine RegI.d ?_
     refine RunsI.g 1 [.c 38, .c 39] ?_
     refine RunsI.r ?_
     refine RegI.p 2 [(39, .slice A68 t140.length c69), (40, .int .i64 t141)] ?_
     obtain ⟨hc148, h⟩ := of_cond0 h
     refine RegI.o (OpE.cutOwn 41 0 24 64 (some t141) h146 (by kernel_rfl) rfl (by kernel_rfl) (by kernel_rfl) hc148 ?_)
     intro A149 c150 h151
     refine RegI.p 1 [(4, .slice A149 ((cutL (clrD t140 t141 (0, 0)) 0 t141).length) c150)] ?_
     refine RegI.d ?_
     refine RunsI.t (.slice A149 ((cutL (clrD t140 t141 (0, 0)) 0 t141).length) c150) ?_
     refine cont_mk ?_
     refine RegI.l [2, 3, 4, 6, 7, 8, 22] [(2, .int .u8 p2), (3, .pointer (some ⟨b2, 0, none⟩)), (4, .pointer (some ⟨b7, 0, none⟩)), (6, .pointer (some ⟨b12, 0, none⟩)), (7, .int .i64 t53), (8, .func (.func 80) #[] #[.pointer (some ⟨b7, 0, none⟩)]), (22, .slice A149 ((cutL (clrD t140 t141 (0, 0)) 0 t141).length) c150)] ?_
     exact hj159 (cutL (clrD t140 t141 (0, 0)) 0 t141) A149 c150 w145 h (h151.pick [1, 2, 3, 4, 0] (by decide))
  clear hJ102
  refine RunsI.g 1 [.c 1, .c 2] ?_
  refine RunsI.r ?_
  refine RegI.p 1 [(0, .slice A68 t67.length c69), (1, .func (.func 80) #[] #[.pointer (some ⟨b7, 0, none⟩)])] ?_
  refine RegI.d ?_
  refine RunsI.g 2 [.c 4, .c 5, .c 25] ?_
  refine RunsI.r ?_
  refine RegI.p 3 [(0, .slice A68 t67.length c69), (1, .func (.func 80) #[] #[.pointer (some ⟨b7, 0, none⟩)]), (7, .int .i64 (t67.length : Int)), (8, .int .i64 0)] ?_
  refine RegI.d ?_
  refine RunsI.g 2 [.c 7, .lp 7, .blk 0, .c 25] ?_
  obtain ⟨x91, hx92, h⟩ := of_bind h
  refine RunsI.l [0, 1, 7, 8] [(0, .slice A68 t67.length c69), (1, .func (.func 80) #[] #[.pointer (some ⟨b7, 0, none⟩)]), (7, .int .i64 (t67.length : Int)), (8, .int .i64 0)] ?_
  refine banks_Store_put_64.l1_ok K M0 w0 pA0_0 pc0_0 pA0_3 pc0_3 p0_0 p0_1 p0_2 p0_3 p1 p2 t67 (t67.length : Int) A68 c69 b7 b2 b12 _ x91 ?_ ?_ K 0 w63 hx92 (h65.pick [5, 2, 0, 1, 3] (by decide))
  ·intro w94 hq307 h93
   (try rw [hq307] at h)
   dsimp only [Lp.elim] at h
   refine RunsI.g 1 [.c 26, .c 27] ?_
   refine RunsI.r ?_
   refine RegI.p 1 [(4, .int .i64 (-1))] ?_
   refine RegI.d ?_
   refine RunsI.t (.int .i64 (-1)) ?_
   refine cont_mk ?_
   refine RegI.l [0, 1, 10] [(0, .slice A68 t67.length c69), (1, .func (.func 80) #[] #[.pointer (some ⟨b7, 0, none⟩)]), (10, .int .i64 (-1))] ?_
   exact hj103 (-1) w94 h (h93.pick [4, 2, 0, 1, 3] (by decide))
  ·intro t95 w97 hq308 h96
   (try rw [hq308] at h)
   dsimp only [Lp.elim] at h
   refine cont_mk ?_
   refine RegI.l [0, 1, 10] [(0, .slice A68 t67.length c69), (1, .func (.func 80) #[] #[.pointer (some ⟨b7, 0, none⟩)]), (10, .int .i64 t95)] ?_
   exact hj103 t95 w97 h (h96.pick [4, 2, 0, 1, 3] (by decide))
 clear hJ57
 refine RunsI.g 1 [.c 1, .c 2] ?_
 refine RunsI.r ?_
 refine RegI.p 1 [(0, .slice pA0_3 p0_3.length pc0_3), (1, .func (.func 78) #[] #[.pointer (some ⟨b7, 0, none⟩)])] ?_
 refine RegI.d ?_
 refine RunsI.g 2 [.c 4, .c 5, .c 12] ?_
 refine RunsI.r ?_
 refine RegI.p 2 [(0, .slice pA0_3 p0_3.length pc0_3), (6, .slice pA0_3 p0_3.length pc0_3), (7, .func (.func 78) #[] #[.pointer (some ⟨b7, 0, none⟩)])] ?_
 refine RegI.enter 8 [0] [(0, .slice pA0_3 p0_3.length pc0_3)] (by kernel_rfl) (by kernel_rfl) (by kernel_rfl) (by kernel_rfl) F72 72 rfl [.slice pA0_3 p0_3.length pc0_3, .func (.func 78) #[] #[.pointer (some ⟨b7, 0, none⟩)]] (by kernel_rfl) (by kernel_rfl) ?_
 obtain ⟨j49, hJ50, h⟩ := of_let h
 have hj51 : ∀ (t46 : Int) (w48 : World), j49 t46 = some r → Holds M0 w0 w48 [sl (Rp.pair (Rp.int .i64) (Rp.int .u8)) (.slice pA0_3 p0_3.length pc0_3) p0_3, box b2 26 [.slice pA0_0 p0_0.length pc0_0, .int .i64 p0_1, .int .i64 p0_2, .slice pA0_3 p0_3.length pc0_3], box b7 3 [.int .i64 p1], box b12 26 [.slice none 0 0, .int .i64 0, .int .i64 0, .slice none 0 0]] → RegI F77 4 [.c 5, .c 12] 3 [(0, .slice pA0_3 p0_3.length pc0_3), (8, .int .i64 t46)] w48 (cont (fun e' w' => RegI F64 3 [.c 4] 4 e' w' (banks_Store_put_64.post pA0_0 pc0_0 p0_0 M0 w0 r)) 14 [(2, .int .u8 p2), (3, .pointer (some ⟨b2, 0, none⟩)), (4, .pointer (some ⟨b7, 0, none⟩)), (6, .pointer (some ⟨b12, 0, none⟩))]) := by
  intro t46 w48 h h47
  rw [hJ50] at h
  clear hJ50
  dsimp only at h
  refine RegI.p 1 [(0, .slice pA0_3 p0_3.length pc0_3), (5, .int .i64 t46)] ?_
  refine RegI.d ?_
  refine RunsI.g 1 [.c 6, .c 7, .c 12] ?_
  refine RunsI.r ?_
  refine RegI.p 2 [(0, .slice pA0_3 p0_3.length pc0_3), (5, .int .i64 t46), (10, .bool (decide (t46 ≥ 0)))] ?_
  refine RegI.d ?_
  rcases of_cond h with ⟨hc52, h⟩ | ⟨hc52, h⟩
  ·skip
   refine RunsI.f 10 true hc52 ?_
   refine RunsI.b true 8 ?_
   refine RunsI.g 1 [.c 9, .c 10, .c 12] ?_
   refine RunsI.r ?_
   refine RegI.p 2 [(4, .int .i64 t46)] ?_
   refine RegI.d ?_
   refine RunsI.t (.int .i64 t46) ?_
   refine cont_mk ?_
   refine RegI.l [2, 3, 4, 6, 14] [(2, .int .u8 p2), (3, .pointer (some ⟨b2, 0, none⟩)), (4, .pointer (some ⟨b7, 0, none⟩)), (6, .pointer (some ⟨b12, 0, none⟩)), (14, .int .i64 t46)] ?_
   exact hj58 t46 w48 h (h47.pick [1, 0, 2, 3] (by decide))
  ·skip
   refine RunsI.f 10 false hc52 ?_
   refine RunsI.b false 11 ?_
   refine RunsI.g 1 [.c 12] ?_
   refine RunsI.g 1 [.c 13, .c 14] ?_
   refine RunsI.r ?_
   refine RegI.p 3 [(4, .int .i64 (p0_3.length : Int))] ?_
   refine RegI.d ?_
   refine RunsI.t (.int .i64 (p0_3.length : Int)) ?_
   refine cont_mk ?_
   refine RegI.l [2, 3, 4, 6, 14] [(2, .int .u8 p2), (3, .pointer (some ⟨b2, 0, none⟩)), (4, .pointer (some ⟨b7, 0, none⟩)), (6, .pointer (some ⟨b12, 0, none⟩)), (14, .int .i64 (p0_3.length : Int))] ?_
   exact hj58 (p0_3.length : Int) w48 h (h47.pick [1, 0, 2, 3] (by decide))
 clear hJ50
 refine RunsI.g 1 [.c 1, .c 2] ?_
 refine RunsI.r ?_
 refine RegI.p 1 [(0, .slice pA0_3 p0_3.length pc0_3), (1, .func (.func 78) #[] #[.pointer (some ⟨b7, 0, none⟩)])] ?_
 refine RegI.d ?_
 refine RunsI.g 2 [.c 4, .c 5, .c 25] ?_
 refine RunsI.r ?_
 refine RegI.p 3 [(0, .slice pA0_3 p0_3.length pc0_3), (1, .func (.func 78) #[] #[.pointer (some ⟨b7, 0, none⟩)]), (7, .int .i64 (p0_3.length : Int)), (8, .int .i64 0)] ?_
 refine RegI.d ?_
 refine RunsI.g 2 [.c 7, .lp 7, .blk 0, .c 25] ?_
 obtain ⟨x39, hx40, h⟩ := of_bind h
 refine RunsI.l [0, 1, 7, 8] [(0, .slice pA0_3 p0_3.length pc0_3), (1, .func (.func 78) #[] #[.pointer (some ⟨b7, 0, none⟩)]), (7, .int .i64 (p0_3.length : Int)), (8, .int .i64 0)] ?_
 refine banks_Store_put_64.l0_ok K M0 w0 pA0_0 pc0_0 pA0_3 pc0_3 p0_0 p0_1 p0_2 p0_3 p1 p2 b7 b2 b12 _ x39 ?_ ?_ K 0 w11 hx40 (h13.pick [0, 2, 1, 3] (by decide))
 ·intro w42 hq309 h41
  (try rw [hq309] at h)
  dsimp only [Lp.elim] at h
  refine RunsI.g 1 [.c 26, .c 27] ?_
  refine RunsI.r ?_
  refine RegI.p 1 [(4, .int .i64 (-1))] ?_
  refine RegI.d ?_
  refine RunsI.t (.int .i64 (-1)) ?_
  refine cont_mk ?_
  refine RegI.l [0, 8] [(0, .slice pA0_3 p0_3.length pc0_3), (8, .int .i64 (-1))] ?_
  exact hj51 (-1) w42 h (h41.pick [1, 0, 2, 3] (by decide))
 ·intro t43 w45 hq310 h44
  (try rw [hq310] at h)
  dsimp only [Lp.elim] at h
  refine cont_mk ?_
  refine RegI.l [0, 8] [(0, .slice pA0_3 p0_3.length pc0_3), (8, .int .i64 t43)] ?_
  exact hj51 t43 w45 h (h44.pick [1, 0, 2, 3] (by decide))
end

/-! ### charabanc/banks.Load (function 44) -/
section
def banks_Load_44.post (pA0_0 : Option Addr) (pc0_0 : Nat) (p0_0 : List Int) (M0 : Nat → Prop) (w0 : World) (r : (List Int) × Int × Int × (List (Int × Int))) : Ending → World → Prop := fun e w => ∃ (A4 : Option Addr) (c4 : Nat), e = .returned (.agg #[.slice pA0_0 p0_0.length pc0_0, .int .i64 r.2.1, .int .i64 r.2.2.1, .slice A4 r.2.2.2.length c4]) ∧ p0_0 = r.1 ∧ Holds M0 w0 w [sl (Rp.pair (Rp.int .i64) (Rp.int .u8)) (.slice A4 r.2.2.2.length c4) r.2.2.2]
def banks_Load_44.l0 (K : Nat) (p0_0 : List Int) (p0_1 : Int) (p0_2 : Int) (p0_3 : List (Int × Int)) (p1 : Int) (p2 : List Int) : Nat → Int → Int → (List (Int × Int)) → Int → Option (Int × Int × (List (Int × Int)))
 | 0, _, _, _, _ => none
 | k + 1, t12, t13, t16, t18 => cond (decide (t18 < (p2.length : Int))) (cond (inR t18 p2.length) ((banks_Store_put_64.f K p0_0 t12 t13 t16 (IntKind.wrap .i64 (p1 + t18)) (rdD p2 t18)).bind fun yt30 => banks_Load_44.l0 K p0_0 p0_1 p0_2 p0_3 p1 p2 k yt30.2.1 yt30.2.2.1 yt30.2.2.2 (IntKind.wrap .i64 (t18 + 1))) none) (some (t12, t13, t16))
set_option maxRecDepth 100000 in
theorem banks_Load_44.l0_ok (K : Nat) (M0 : Nat → Prop) (w0 : World) (pA0_0 : Option Addr) (pc0_0 : Nat) (pA0_3 : Option Addr) (pc0_3 : Nat) (pA2 : Option Addr) (pc2 : Nat) (p0_0 : List Int) (p0_1 : Int) (p0_2 : Int) (p0_3 : List (Int × Int)) (p1 : Int) (p2 : List Int) (b11 : Nat) (b17 : Nat) (R : Ending → World → Prop) (x : Int × Int × (List (Int × Int))) (hk0 : ∀ (t43 : Int) (t44 : Int) (t47 : List (Int × Int)) (A45 : Option Addr) (c46 : Nat) (w1 : World), x = (t43, t44, t47) → Holds M0 w0 w1 [box b11 26 [.slice pA0_0 p0_0.length pc0_0, .int .i64 t43, .int .i64 t44, .slice A45 t47.length c46], sl (Rp.pair (Rp.int .i64) (Rp.int .u8)) (.slice A45 t47.length c46) t47, box b17 26 [.slice none 0 0, .int .i64 0, .int .i64 0, .slice none 0 0]] → RunsI F44 [.c 19] [(3, .pointer (some ⟨b11, 0, none⟩)), (6, .pointer (some ⟨b17, 0, none⟩))] w1 R) :
  ∀ (k : Nat) (t12 : Int) (t13 : Int) (t16 : List (Int × Int)) (t18 : Int) (A14 : Option Addr) (c15 : Nat) (w : World), banks_Load_44.l0 K p0_0 p0_1 p0_2 p0_3 p1 p2 k t12 t13 t16 t18 = some x → Holds M0 w0 w [box b11 26 [.slice pA0_0 p0_0.length pc0_0, .int .i64 t12, .int .i64 t13, .slice A14 t16.length c15], sl (Rp.pair (Rp.int .i64) (Rp.int .u8)) (.slice A14 t16.length c15) t16, box b17 26 [.slice none 0 0, .int .i64 0, .int .i64 0, .slice none 0 0], sl (Rp.int .u8) (.slice pA2 p2.length pc2) p2] → RunsI F44 [.c 7, .lp 7, .blk 0, .c 19] [(1, .int .i64 p1), (3, .pointer (some ⟨b11, 0, none⟩)), (6, .pointer (some ⟨b17, 0, none⟩)), (9, .slice pA2 p2.length pc2), (10, .int .i64 (p2.length : Int)), (11, .int .i64 t18)] w R := by
 intro k
 induction k with
 | zero => intro t12 t13 t16 t18 A14 c15 w h hH; exact absurd h (by simp [banks_Load_44.l0])
 | succ k ih =>
  intro t12 t13 t16 t18 A14 c15 w h hH
  rw [banks_Load_44.l0.eq_2] at h
  refine RunsI.g 1 [.c 8, .c 9, .lp 7, .blk 0, .c 19] ?_
  refine RunsI.r ?_
  refine RegI.p 1 [(1, .int .i64 p1), (3, .pointer (some ⟨b11, 0, none⟩)), (6, .pointer (some ⟨b17, 0, none⟩)), (9, .slice pA2 p2.length pc2), (10, .int .i64 (p2.length : Int)), (11, .int .i64 t18), (12, .bool (decide (t18 < (p2.length : Int))))] ?_
  refine RegI.d ?_
  refine RunsI.g 1 [.c 10, .c 13, .lp 7, .blk 0, .c 19] ?_
  rcases of_cond h with ⟨hc19, h⟩ | ⟨hc19, h⟩
  ·skip
   refine RunsI.f 12 true hc19 ?_
   refine RunsI.b true 11 ?_
   refine RunsI.g 1 [.c 13, .lp 7, .blk 0, .c 19] ?_
   refine RunsI.g 3 [.c 16, .c 17, .blk 1, .c 18, .lp 7, .blk 0, .c 19] ?_
   refine RunsI.r ?_
   refine RegI.p 1 [(1, .int .i64 p1), (3, .pointer (some ⟨b11, 0, none⟩)), (6, .pointer (some ⟨b17, 0, none⟩)), (9, .slice pA2 p2.length pc2), (10, .int .i64 (p2.length : Int)), (11, .int .i64 t18), (13, .int .i64 t18)] ?_
   obtain ⟨hc20, h⟩ := of_cond0 h
   refine RegI.o (OpE.idxSl 14 3 22 t18 hH (by kernel_rfl) rfl (by kernel_rfl) (by kernel_rfl) hc20 ?_)
   intro b21 o22 cs23 hk24 h25
   obtain rfl := hk24
   refine RegI.o (OpE.loadCel 15 4 5 b21 o22 0 (.int .u8 (rdD p2 t18)) h25 (by kernel_rfl) (by kernel_rfl) rfl (by kernel_rfl) ?_)
   refine RegI.p 2 [(1, .int .i64 p1), (3, .pointer (some ⟨b11, 0, none⟩)), (6, .pointer (some ⟨b17, 0, none⟩)), (7, .int .i64 t18), (8, .int .u8 (rdD p2 t18)), (9, .slice pA2 p2.length pc2), (10, .int .i64 (p2.length : Int)), (11, .int .i64 t18)] ?_
   refine RegI.d ?_
   refine RunsI.r ?_
   refine RegI.o (OpE.loadBox 16 0 26 b11 0 (.agg #[.slice pA0_0 p0_0.length pc0_0, .int .i64 t12, .int .i64 t13, .slice A14 t16.length c15]) h25 (by kernel_rfl) (by kernel_rfl) rfl (by kernel_rfl) ?_)
   refine RegI.p 4 [(1, .int .i64 p1), (3, .pointer (some ⟨b11, 0, none⟩)), (6, .pointer (some ⟨b17, 0, none⟩)), (9, .slice pA2 p2.length pc2), (10, .int .i64 (p2.length : Int)), (11, .int .i64 t18), (16, .agg #[.slice pA0_0 p0_0.length pc0_0, .int .i64 t12, .int .i64 t13, .slice A14 t16.length c15]), (19, .int .i64 (IntKind.wrap .i64 (p1 + t18))), (20, .int .u8 (rdD p2 t18))] ?_
   obtain ⟨⟨t30, t32, t33, t34⟩, hg29, h⟩ := of_bind h
   dsimp only at h
   refine RegI.o (OpE.call 21 (by kernel_rfl) 64 #[.agg #[.slice pA0_0 p0_0.length pc0_0, .int .i64 t12, .int .i64 t13, .slice A14 t16.length c15], .int .i64 (IntKind.wrap .i64 (p1 + t18)), .int .u8 (rdD p2 t18)] (by kernel_rfl) ((banks_Store_put_64_ok K _ w  pA0_0 pc0_0 A14 c15 p0_0 t12 t13 t16 (IntKind.wrap .i64 (p1 + t18)) (rdD p2 t18) h25.old' (h25.get 1 rfl) hg29).mono ?_))
   rintro _ w26 ⟨A35, c36, rfl, hq31, hr38⟩
   have hq31 : p0_0 = t30 := hq31
   subst hq31
   refine ⟨_, rfl, ?_⟩
   have hb27 := hr38.below
   have h28 := h25.join hr38
   refine RegI.o (OpE.storeBox 0 26 b11 0 (.agg #[.slice pA0_0 p0_0.length pc0_0, .int .i64 t32, .int .i64 t33, .slice A35 t34.length c36]) [.slice pA0_0 p0_0.length pc0_0, .int .i64 t32, .int .i64 t33, .slice A35 t34.length c36] h28 (by kernel_rfl) (by kernel_rfl) rfl (by kernel_rfl) (by kernel_rfl) (by kernel_rfl) ?_)
   intro w39 h40 hk41
   refine RegI.d ?_
   refine RunsI.g 1 [.c 18, .lp 7, .blk 0, .c 19] ?_
   refine RunsI.r ?_
   refine RegI.p 2 [(1, .int .i64 p1), (3, .pointer (some ⟨b11, 0, none⟩)), (6, .pointer (some ⟨b17, 0, none⟩)), (9, .slice pA2 p2.length pc2), (10, .int .i64 (p2.length : Int)), (11, .int .i64 (IntKind.wrap .i64 (t18 + 1)))] ?_
   refine RegI.d ?_
   refine RunsI.g 1 [.c 7, .lp 7, .blk 0, .c 19] ?_
   have h42 := h40.release 5 rfl
   refine RunsI.l [1, 3, 6, 9, 10, 11] [(1, .int .i64 p1), (3, .pointer (some ⟨b11, 0, none⟩)), (6, .pointer (some ⟨b17, 0, none⟩)), (9, .slice pA2 p2.length pc2), (10, .int .i64 (p2.length : Int)), (11, .int .i64 (IntKind.wrap .i64 (t18 + 1)))] ?_
   exact ih t32 t33 t34 (IntKind.wrap .i64 (t18 + 1)) A35 c36 w39 h (h42.pick [0, 5, 2, 3] (by decide))
  ·skip
   refine RunsI.f 12 false hc19 ?_
   refine RunsI.b false 12 ?_
   refine RunsI.g 1 [.c 19] ?_
   refine RunsI.l [3, 6] [(3, .pointer (some ⟨b11, 0, none⟩)), (6, .pointer (some ⟨b17, 0, none⟩))] ?_
   exact hk0 t12 t13 t16 A14 c15 w (Option.some.inj h).symm (hH.pick [0, 1, 2] (by decide))
def banks_Load_44.f (K : Nat) (p0_0 : List Int) (p0_1 : Int) (p0_2 : Int) (p0_3 : List (Int × Int)) (p1 : Int) (p2 : List Int) : Option ((List Int) × Int × Int × (List (Int × Int))) := (banks_Load_44.l0 K p0_0 p0_1 p0_2 p0_3 p1 p2 K p0_1 p0_2 p0_3 0).bind (fun yx48 => some (p0_0, yx48.1, yx48.2.1, yx48.2.2))
set_option maxRecDepth 100000 in
theorem banks_Load_44_ok (K : Nat) (M0 : Nat → Prop) (w0 : World) (pA0_0 : Option Addr) (pc0_0 : Nat) (pA0_3 : Option Addr) (pc0_3 : Nat) (pA2 : Option Addr) (pc2 : Nat) (p0_0 : List Int) (p0_1 : Int) (p0_2 : Int) (p0_3 : List (Int × Int)) (p1 : Int) (p2 : List Int) (ho : ∀ b, M0 b → b < w0.heap.size) (hs0_3 : Sl (Rp.pair (Rp.int .i64) (Rp.int .u8)) w0 M0 (.slice pA0_3 p0_3.length pc0_3) p0_3) (hs2 : Sl (Rp.int .u8) w0 M0 (.slice pA2 p2.length pc2) p2) {r : (List Int) × Int × Int × (List (Int × Int))} (h : banks_Load_44.f K p0_0 p0_1 p0_2 p0_3 p1 p2 = some r) :
  Calls Tryd.prog 44 #[.agg #[.slice pA0_0 p0_0.length pc0_0, .int .i64 p0_1, .int .i64 p0_2, .slice pA0_3 p0_3.length pc0_3], .int .i64 p1, .slice pA2 p2.length pc2] w0 (banks_Load_44.post pA0_0 pc0_0 p0_0 M0 w0 r) := by
 unfold banks_Load_44.f at h
 have h0 : Holds M0 w0 w0 [] := Holds.start ho
 have h00_3 := h0.addSl (Rp.pair (Rp.int .i64) (Rp.int .u8)) (.slice pA0_3 p0_3.length pc0_3) p0_3 (hs0_3.mono (fun _ _ hm => hm.elim id (fun hm => absurd hm (by simp [mines, sl]))))
 have h02 := h00_3.addSl (Rp.int .u8) (.slice pA2 p2.length pc2) p2 (hs2.mono (fun _ _ hm => hm.elim id (fun hm => absurd hm (by simp [mines, sl]))))
 have h0 : Holds M0 w0 w0 [sl (Rp.pair (Rp.int .i64) (Rp.int .u8)) (.slice pA0_3 p0_3.length pc0_3) p0_3, sl (Rp.int .u8) (.slice pA2 p2.length pc2) p2] := h02
 refine calls_of F44 rfl [.agg #[.slice pA0_0 p0_0.length pc0_0, .int .i64 p0_1, .int .i64 p0_2, .slice pA0_3 p0_3.length pc0_3], .int .i64 p1, .slice pA2 p2.length pc2] (by kernel_rfl) ?_
 refine RunsI.g 1 [.c 1, .c 2] ?_
 refine RunsI.r ?_
 refine RegI.o (OpE.box 3 26 [.slice pA0_0 p0_0.length pc0_0, .int .i64 p0_1, .int .i64 p0_2, .slice pA0_3 p0_3.length pc0_3] h0 (by kernel_rfl) (by kernel_rfl) ?_)
 intro w1 b2 h3 hb4 hn5
 refine RegI.o (OpE.box 6 26 [.slice none 0 0, .int .i64 0, .int .i64 0, .slice none 0 0] h3 (by kernel_rfl) (by kernel_rfl) ?_)
 intro w6 b7 h8 hb9 hn10
 refine RegI.d ?_
 refine RunsI.g 2 [.c 4, .c 5, .c 19] ?_
 refine RunsI.r ?_
 refine RegI.p 3 [(1, .int .i64 p1), (3, .pointer (some ⟨b2, 0, none⟩)), (6, .pointer (some ⟨b7, 0, none⟩)), (9, .slice pA2 p2.length pc2), (10, .int .i64 (p2.length : Int)), (11, .int .i64 0)] ?_
 refine RegI.d ?_
 refine RunsI.g 2 [.c 7, .lp 7, .blk 0, .c 19] ?_
 obtain ⟨x48, hx49, h⟩ := of_bind h
 refine RunsI.l [1, 3, 6, 9, 10, 11] [(1, .int .i64 p1), (3, .pointer (some ⟨b2, 0, none⟩)), (6, .pointer (some ⟨b7, 0, none⟩)), (9, .slice pA2 p2.length pc2), (10, .int .i64 (p2.length : Int)), (11, .int .i64 0)] ?_
 refine banks_Load_44.l0_ok K M0 w0 pA0_0 pc0_0 pA0_3 pc0_3 pA2 pc2 p0_0 p0_1 p0_2 p0_3 p1 p2 b2 b7 _ x48 ?_ K p0_1 p0_2 p0_3 0 pA0_3 pc0_3 w6 hx49 (h8.pick [2, 0, 3, 1] (by decide))
 ·intro t50 t51 t54 A52 c53 w56 hq60 h55
  (try rw [hq60] at h)
  dsimp only at h
  refine RunsI.g 1 [.c 20, .c 21] ?_
  refine RunsI.r ?_
  refine RegI.o (OpE.loadBox 23 0 26 b2 0 (.agg #[.slice pA0_0 p0_0.length pc0_0, .int .i64 t50, .int .i64 t51, .slice A52 t54.length c53]) h55 (by kernel_rfl) (by kernel_rfl) rfl (by kernel_rfl) ?_)
  refine RegI.o (OpE.storeBox 2 26 b7 0 (.agg #[.slice pA0_0 p0_0.length pc0_0, .int .i64 t50, .int .i64 t51, .slice A52 t54.length c53]) [.slice pA0_0 p0_0.length pc0_0, .int .i64 t50, .int .i64 t51, .slice A52 t54.length c53] h55 (by kernel_rfl) (by kernel_rfl) rfl (by kernel_rfl) (by kernel_rfl) (by kernel_rfl) ?_)
  intro w57 h58 hk59
  refine RegI.d ?_
  refine RunsI.toRet (by kernel_rfl) ?_
  refine RetI.valW [.cell 6 26] [.agg #[.slice pA0_0 p0_0.length pc0_0, .int .i64 t50, .int .i64 t51, .slice A52 t54.length c53]] (.agg #[.slice pA0_0 p0_0.length pc0_0, .int .i64 t50, .int .i64 t51, .slice A52 t54.length c53]) (by kernel_rfl) (ResAt.box 2 26 b7 0 h58 (by kernel_rfl) (by kernel_rfl) rfl (by kernel_rfl) rfl) (by kernel_rfl) ?_
  obtain rfl := Option.some.inj h
  exact ⟨A52, c53, rfl, rfl, h58.pick [1] (by decide)⟩
end
end Go.Proofs.YtbcepghanbkncaaDoor.Im
