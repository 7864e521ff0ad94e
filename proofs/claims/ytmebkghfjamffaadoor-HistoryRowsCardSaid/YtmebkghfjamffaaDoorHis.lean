/- Functions of the program as plain Lean functions, each with the proof that the call comes to it; written by wip/eng.py. -/
import Derived.Test.YtmebkghfjamffaaDoorProg
import Derived.Test.YtmebkghfjamffaaDoorEngLib
import Derived.Test.YtmebkghfjamffaaDoorShelf
set_option linter.unusedVariables false
set_option linter.unusedSimpArgs false
set_option maxHeartbeats 4000000
namespace Go.Proofs.YtmebkghfjamffaaDoor.His
open Go.RowKit Go.Eng
noncomputable def B9 : Code := (Tryd.f9.body).getD .skip
noncomputable def F9 : Fun Tryd.prog := ⟨9, Tryd.f9, B9, 65, Tryd.func9, by kernel_rfl, by kernel_rfl, [], none⟩
noncomputable def B10 : Code := (Tryd.f10.body).getD .skip
noncomputable def F10 : Fun Tryd.prog := ⟨10, Tryd.f10, B10, 13, Tryd.func10, by kernel_rfl, by kernel_rfl, [], none⟩
noncomputable def B11 : Code := (Tryd.f11.body).getD .skip
noncomputable def F11 : Fun Tryd.prog := ⟨11, Tryd.f11, B11, 19, Tryd.func11, by kernel_rfl, by kernel_rfl, [], none⟩
noncomputable def B12 : Code := (Tryd.f12.body).getD .skip
noncomputable def F12 : Fun Tryd.prog := ⟨12, Tryd.f12, B12, 38, Tryd.func12, by kernel_rfl, by kernel_rfl, [], none⟩
noncomputable def B13 : Code := (Tryd.f13.body).getD .skip
noncomputable def F13 : Fun Tryd.prog := ⟨13, Tryd.f13, B13, 38, Tryd.func13, by kernel_rfl, by kernel_rfl, [], none⟩
noncomputable def B14 : Code := (Tryd.f14.body).getD .skip
noncomputable def F14 : Fun Tryd.prog := ⟨14, Tryd.f14, B14, 62, Tryd.func14, by kernel_rfl, by kernel_rfl, [], none⟩
noncomputable def B15 : Code := (Tryd.f15.body).getD .skip
noncomputable def F15 : Fun Tryd.prog := ⟨15, Tryd.f15, B15, 54, Tryd.func15, by kernel_rfl, by kernel_rfl, [], none⟩
noncomputable def B16 : Code := (Tryd.f16.body).getD .skip
noncomputable def F16 : Fun Tryd.prog := ⟨16, Tryd.f16, B16, 18, Tryd.func16, by kernel_rfl, by kernel_rfl, [], none⟩
noncomputable def B17 : Code := (Tryd.f17.body).getD .skip
noncomputable def F17 : Fun Tryd.prog := ⟨17, Tryd.f17, B17, 30, Tryd.func17, by kernel_rfl, by kernel_rfl, [], none⟩
noncomputable def B18 : Code := (Tryd.f18.body).getD .skip
noncomputable def F18 : Fun Tryd.prog := ⟨18, Tryd.f18, B18, 67, Tryd.func18, by kernel_rfl, by kernel_rfl, [], none⟩
noncomputable def B19 : Code := (Tryd.f19.body).getD .skip
noncomputable def F19 : Fun Tryd.prog := ⟨19, Tryd.f19, B19, 23, Tryd.func19, by kernel_rfl, by kernel_rfl, [], none⟩
noncomputable def B20 : Code := (Tryd.f20.body).getD .skip
noncomputable def F20 : Fun Tryd.prog := ⟨20, Tryd.f20, B20, 16, Tryd.func20, by kernel_rfl, by kernel_rfl, [], none⟩
noncomputable def B21 : Code := (Tryd.f21.body).getD .skip
noncomputable def F21 : Fun Tryd.prog := ⟨21, Tryd.f21, B21, 67, Tryd.func21, by kernel_rfl, by kernel_rfl, [], none⟩
noncomputable def B22 : Code := (Tryd.f22.body).getD .skip
noncomputable def F22 : Fun Tryd.prog := ⟨22, Tryd.f22, B22, 43, Tryd.func22, by kernel_rfl, by kernel_rfl, [], none⟩
noncomputable def B23 : Code := (Tryd.f23.body).getD .skip
noncomputable def F23 : Fun Tryd.prog := ⟨23, Tryd.f23, B23, 26, Tryd.func23, by kernel_rfl, by kernel_rfl, [], none⟩
noncomputable def B24 : Code := (Tryd.f24.body).getD .skip
noncomputable def F24 : Fun Tryd.prog := ⟨24, Tryd.f24, B24, 9, Tryd.func24, by kernel_rfl, by kernel_rfl, [], none⟩
noncomputable def B25 : Code := (Tryd.f25.body).getD .skip
noncomputable def F25 : Fun Tryd.prog := ⟨25, Tryd.f25, B25, 28, Tryd.func25, by kernel_rfl, by kernel_rfl, [], none⟩
noncomputable def B26 : Code := (Tryd.f26.body).getD .skip
noncomputable def F26 : Fun Tryd.prog := ⟨26, Tryd.f26, B26, 36, Tryd.func26, by kernel_rfl, by kernel_rfl, [], none⟩
noncomputable def B27 : Code := (Tryd.f27.body).getD .skip
noncomputable def F27 : Fun Tryd.prog := ⟨27, Tryd.f27, B27, 43, Tryd.func27, by kernel_rfl, by kernel_rfl, [], none⟩
noncomputable def B42 : Code := (Tryd.f42.body).getD .skip
noncomputable def F42 : Fun Tryd.prog := ⟨42, Tryd.f42, B42, 36, Tryd.func42, by kernel_rfl, by kernel_rfl, [], none⟩
noncomputable def B43 : Code := (Tryd.f43.body).getD .skip
noncomputable def F43 : Fun Tryd.prog := ⟨43, Tryd.f43, B43, 35, Tryd.func43, by kernel_rfl, by kernel_rfl, [], none⟩
noncomputable def B44 : Code := (Tryd.f44.body).getD .skip
noncomputable def F44 : Fun Tryd.prog := ⟨44, Tryd.f44, B44, 6, Tryd.func44, by kernel_rfl, by kernel_rfl, [], none⟩
noncomputable def B45 : Code := (Tryd.f45.body).getD .skip
noncomputable def F45 : Fun Tryd.prog := ⟨45, Tryd.f45, B45, 29, Tryd.func45, by kernel_rfl, by kernel_rfl, [], none⟩
noncomputable def B46 : Code := (Tryd.f46.body).getD .skip
noncomputable def F46 : Fun Tryd.prog := ⟨46, Tryd.f46, B46, 42, Tryd.func46, by kernel_rfl, by kernel_rfl, [], none⟩
noncomputable def B47 : Code := (Tryd.f47.body).getD .skip
noncomputable def F47 : Fun Tryd.prog := ⟨47, Tryd.f47, B47, 33, Tryd.func47, by kernel_rfl, by kernel_rfl, [], none⟩
noncomputable def B48 : Code := (Tryd.f48.body).getD .skip
noncomputable def F48 : Fun Tryd.prog := ⟨48, Tryd.f48, B48, 4, Tryd.func48, by kernel_rfl, by kernel_rfl, [], none⟩
noncomputable def B49 : Code := (Tryd.f49.body).getD .skip
noncomputable def F49 : Fun Tryd.prog := ⟨49, Tryd.f49, B49, 9, Tryd.func49, by kernel_rfl, by kernel_rfl, [], none⟩
noncomputable def B50 : Code := (Tryd.f50.body).getD .skip
noncomputable def F50 : Fun Tryd.prog := ⟨50, Tryd.f50, B50, 9, Tryd.func50, by kernel_rfl, by kernel_rfl, [], none⟩
noncomputable def B51 : Code := (Tryd.f51.body).getD .skip
noncomputable def F51 : Fun Tryd.prog := ⟨51, Tryd.f51, B51, 20, Tryd.func51, by kernel_rfl, by kernel_rfl, [], none⟩
noncomputable def B52 : Code := (Tryd.f52.body).getD .skip
noncomputable def F52 : Fun Tryd.prog := ⟨52, Tryd.f52, B52, 21, Tryd.func52, by kernel_rfl, by kernel_rfl, [], none⟩
noncomputable def B53 : Code := (Tryd.f53.body).getD .skip
noncomputable def F53 : Fun Tryd.prog := ⟨53, Tryd.f53, B53, 42, Tryd.func53, by kernel_rfl, by kernel_rfl, [], none⟩
noncomputable def B54 : Code := (Tryd.f54.body).getD .skip
noncomputable def F54 : Fun Tryd.prog := ⟨54, Tryd.f54, B54, 8, Tryd.func54, by kernel_rfl, by kernel_rfl, [], none⟩
noncomputable def B55 : Code := (Tryd.f55.body).getD .skip
noncomputable def F55 : Fun Tryd.prog := ⟨55, Tryd.f55, B55, 8, Tryd.func55, by kernel_rfl, by kernel_rfl, [], none⟩
noncomputable def B57 : Code := (Tryd.f57.body).getD .skip
noncomputable def F57 : Fun Tryd.prog := ⟨57, Tryd.f57, B57, 12, Tryd.func57, by kernel_rfl, by kernel_rfl, [], none⟩
noncomputable def B58 : Code := (Tryd.f58.body).getD .skip
noncomputable def F58 : Fun Tryd.prog := ⟨58, Tryd.f58, B58, 31, Tryd.func58, by kernel_rfl, by kernel_rfl, [], none⟩
noncomputable def B59 : Code := (Tryd.f59.body).getD .skip
noncomputable def F59 : Fun Tryd.prog := ⟨59, Tryd.f59, B59, 27, Tryd.func59, by kernel_rfl, by kernel_rfl, [], none⟩
noncomputable def B60 : Code := (Tryd.f60.body).getD .skip
noncomputable def F60 : Fun Tryd.prog := ⟨60, Tryd.f60, B60, 16, Tryd.func60, by kernel_rfl, by kernel_rfl, [], none⟩
noncomputable def B61 : Code := (Tryd.f61.body).getD .skip
noncomputable def F61 : Fun Tryd.prog := ⟨61, Tryd.f61, B61, 24, Tryd.func61, by kernel_rfl, by kernel_rfl, [], none⟩
noncomputable def B76 : Code := (Tryd.f76.body).getD .skip
noncomputable def F76 : Fun Tryd.prog := ⟨76, Tryd.f76, B76, 30, Tryd.func76, by kernel_rfl, by kernel_rfl, [], none⟩
noncomputable def B77 : Code := (Tryd.f77.body).getD .skip
noncomputable def F77 : Fun Tryd.prog := ⟨77, Tryd.f77, B77, 14, Tryd.func77, by kernel_rfl, by kernel_rfl, [], none⟩
noncomputable def B78 : Code := (Tryd.f78.body).getD .skip
noncomputable def F78 : Fun Tryd.prog := ⟨78, Tryd.f78, B78, 8, Tryd.func78, by kernel_rfl, by kernel_rfl, [], none⟩
noncomputable def B79 : Code := (Tryd.f79.body).getD .skip
noncomputable def F79 : Fun Tryd.prog := ⟨79, Tryd.f79, B79, 22, Tryd.func79, by kernel_rfl, by kernel_rfl, [], none⟩
noncomputable def B80 : Code := (Tryd.f80.body).getD .skip
noncomputable def F80 : Fun Tryd.prog := ⟨80, Tryd.f80, B80, 24, Tryd.func80, by kernel_rfl, by kernel_rfl, [], none⟩
noncomputable def B81 : Code := (Tryd.f81.body).getD .skip
noncomputable def F81 : Fun Tryd.prog := ⟨81, Tryd.f81, B81, 7, Tryd.func81, by kernel_rfl, by kernel_rfl, [], none⟩
noncomputable def B82 : Code := (Tryd.f82.body).getD .skip
noncomputable def F82 : Fun Tryd.prog := ⟨82, Tryd.f82, B82, 15, Tryd.func82, by kernel_rfl, by kernel_rfl, [], none⟩
noncomputable def B83 : Code := (Tryd.f83.body).getD .skip
noncomputable def F83 : Fun Tryd.prog := ⟨83, Tryd.f83, B83, 22, Tryd.func83, by kernel_rfl, by kernel_rfl, [], none⟩
noncomputable def B84 : Code := (Tryd.f84.body).getD .skip
noncomputable def F84 : Fun Tryd.prog := ⟨84, Tryd.f84, B84, 28, Tryd.func84, by kernel_rfl, by kernel_rfl, [], none⟩
noncomputable def B85 : Code := (Tryd.f85.body).getD .skip
noncomputable def F85 : Fun Tryd.prog := ⟨85, Tryd.f85, B85, 22, Tryd.func85, by kernel_rfl, by kernel_rfl, [], none⟩
noncomputable def B86 : Code := (Tryd.f86.body).getD .skip
noncomputable def F86 : Fun Tryd.prog := ⟨86, Tryd.f86, B86, 28, Tryd.func86, by kernel_rfl, by kernel_rfl, [], none⟩
noncomputable def B87 : Code := (Tryd.f87.body).getD .skip
noncomputable def F87 : Fun Tryd.prog := ⟨87, Tryd.f87, B87, 15, Tryd.func87, by kernel_rfl, by kernel_rfl, [], none⟩
noncomputable def B88 : Code := (Tryd.f88.body).getD .skip
noncomputable def F88 : Fun Tryd.prog := ⟨88, Tryd.f88, B88, 23, Tryd.func88, by kernel_rfl, by kernel_rfl, [], none⟩
noncomputable def B89 : Code := (Tryd.f89.body).getD .skip
noncomputable def F89 : Fun Tryd.prog := ⟨89, Tryd.f89, B89, 19, Tryd.func89, by kernel_rfl, by kernel_rfl, [], none⟩
noncomputable def B90 : Code := (Tryd.f90.body).getD .skip
noncomputable def F90 : Fun Tryd.prog := ⟨90, Tryd.f90, B90, 11, Tryd.func90, by kernel_rfl, by kernel_rfl, [], none⟩
noncomputable def B91 : Code := (Tryd.f91.body).getD .skip
noncomputable def F91 : Fun Tryd.prog := ⟨91, Tryd.f91, B91, 19, Tryd.func91, by kernel_rfl, by kernel_rfl, [], none⟩
noncomputable def B94 : Code := (Tryd.f94.body).getD .skip
noncomputable def F94 : Fun Tryd.prog := ⟨94, Tryd.f94, B94, 8, Tryd.func94, by kernel_rfl, by kernel_rfl, [], none⟩
noncomputable def B96 : Code := (Tryd.f96.body).getD .skip
noncomputable def F96 : Fun Tryd.prog := ⟨96, Tryd.f96, B96, 36, Tryd.func96, by kernel_rfl, by kernel_rfl, [], none⟩
noncomputable def B119 : Code := (Tryd.f119.body).getD .skip
noncomputable def F119 : Fun Tryd.prog := ⟨119, Tryd.f119, B119, 19, Tryd.func119, by kernel_rfl, by kernel_rfl, [], none⟩
noncomputable def B120 : Code := (Tryd.f120.body).getD .skip
noncomputable def F120 : Fun Tryd.prog := ⟨120, Tryd.f120, B120, 58, Tryd.func120, by kernel_rfl, by kernel_rfl, [], none⟩
noncomputable def B121 : Code := (Tryd.f121.body).getD .skip
noncomputable def F121 : Fun Tryd.prog := ⟨121, Tryd.f121, B121, 43, Tryd.func121, by kernel_rfl, by kernel_rfl, [], none⟩
noncomputable def B122 : Code := (Tryd.f122.body).getD .skip
noncomputable def F122 : Fun Tryd.prog := ⟨122, Tryd.f122, B122, 54, Tryd.func122, by kernel_rfl, by kernel_rfl, [], none⟩
noncomputable def B134 : Code := (Tryd.f134.body).getD .skip
noncomputable def F134 : Fun Tryd.prog := ⟨134, Tryd.f134, B134, 9, Tryd.func134, by kernel_rfl, by kernel_rfl, [], none⟩
noncomputable def B135 : Code := (Tryd.f135.body).getD .skip
noncomputable def F135 : Fun Tryd.prog := ⟨135, Tryd.f135, B135, 20, Tryd.func135, by kernel_rfl, by kernel_rfl, [], none⟩
noncomputable def B136 : Code := (Tryd.f136.body).getD .skip
noncomputable def F136 : Fun Tryd.prog := ⟨136, Tryd.f136, B136, 8, Tryd.func136, by kernel_rfl, by kernel_rfl, [], none⟩
noncomputable def B137 : Code := (Tryd.f137.body).getD .skip
noncomputable def F137 : Fun Tryd.prog := ⟨137, Tryd.f137, B137, 42, Tryd.func137, by kernel_rfl, by kernel_rfl, [], none⟩
noncomputable def B138 : Code := (Tryd.f138.body).getD .skip
noncomputable def F138 : Fun Tryd.prog := ⟨138, Tryd.f138, B138, 8, Tryd.func138, by kernel_rfl, by kernel_rfl, [], none⟩
noncomputable def B139 : Code := (Tryd.f139.body).getD .skip
noncomputable def F139 : Fun Tryd.prog := ⟨139, Tryd.f139, B139, 15, Tryd.func139, by kernel_rfl, by kernel_rfl, [], none⟩
noncomputable def B142 : Code := (Tryd.f142.body).getD .skip
noncomputable def F142 : Fun Tryd.prog := ⟨142, Tryd.f142, B142, 102, Tryd.func142, by kernel_rfl, by kernel_rfl, [], none⟩
noncomputable def B151 : Code := (Tryd.f151.body).getD .skip
noncomputable def F151 : Fun Tryd.prog := ⟨151, Tryd.f151, B151, 6, Tryd.func151, by kernel_rfl, by kernel_rfl, [], none⟩
noncomputable def B152 : Code := (Tryd.f152.body).getD .skip
noncomputable def F152 : Fun Tryd.prog := ⟨152, Tryd.f152, B152, 6, Tryd.func152, by kernel_rfl, by kernel_rfl, [], none⟩
noncomputable def B153 : Code := (Tryd.f153.body).getD .skip
noncomputable def F153 : Fun Tryd.prog := ⟨153, Tryd.f153, B153, 25, Tryd.func153, by kernel_rfl, by kernel_rfl, [], none⟩
noncomputable def B154 : Code := (Tryd.f154.body).getD .skip
noncomputable def F154 : Fun Tryd.prog := ⟨154, Tryd.f154, B154, 4, Tryd.func154, by kernel_rfl, by kernel_rfl, [], none⟩
noncomputable def B155 : Code := (Tryd.f155.body).getD .skip
noncomputable def F155 : Fun Tryd.prog := ⟨155, Tryd.f155, B155, 8, Tryd.func155, by kernel_rfl, by kernel_rfl, [], none⟩
noncomputable def B156 : Code := (Tryd.f156.body).getD .skip
noncomputable def F156 : Fun Tryd.prog := ⟨156, Tryd.f156, B156, 8, Tryd.func156, by kernel_rfl, by kernel_rfl, [], none⟩
noncomputable def B162 : Code := (Tryd.f162.body).getD .skip
noncomputable def F162 : Fun Tryd.prog := ⟨162, Tryd.f162, B162, 14, Tryd.func162, by kernel_rfl, by kernel_rfl, [], none⟩
def tab_0 : List ByteArray := [(⟨#[63]⟩ : ByteArray), (⟨#[99, 112, 117, 48]⟩ : ByteArray), (⟨#[99, 112, 117, 49]⟩ : ByteArray), (⟨#[100, 109, 97]⟩ : ByteArray)]
def en_0 : ByteArray → List Value := fun x => [.string x]
def tab_1 : List ByteArray := [(⟨#[]⟩ : ByteArray), (⟨#[102, 101, 116, 99, 104]⟩ : ByteArray), (⟨#[114, 101, 97, 100]⟩ : ByteArray), (⟨#[119, 114, 105, 116, 101]⟩ : ByteArray), (⟨#[105, 110]⟩ : ByteArray), (⟨#[111, 117, 116]⟩ : ByteArray), (⟨#[97, 99, 107]⟩ : ByteArray), (⟨#[105, 110, 110, 101, 114]⟩ : ByteArray)]
def en_1 : ByteArray → List Value := fun x => [.string x]
def tab_2 : List (Int × Int) := [(0, 0), (0, 4), (4, 4), (8, 4), (12, 1), (14, 1), (15, 1)]
def en_2 : (Int × Int) → List Value := fun x => [.int .i64 x.1, .int .i64 x.2]
def tab_3 : List Int := [1, 10, 100, 1000, 10000, 100000, 1000000, 10000000, 100000000, 1000000000, 10000000000, 100000000000, 1000000000000, 10000000000000, 100000000000000, 1000000000000000, 10000000000000000, 100000000000000000, 1000000000000000000, 10000000000000000000]
def en_3 : Int → List Value := fun x => [.int .u64 x]
def tab_7 : List Int := [0, 1, 28, 2, 29, 14, 24, 3, 30, 22, 20, 15, 25, 17, 4, 8, 31, 27, 13, 23, 21, 19, 16, 7, 26, 12, 18, 6, 11, 5, 10, 9]
def en_7 : Int → List Value := fun x => [.int .u8 x]
def tab_8 : List Int := [0, 1, 56, 2, 57, 49, 28, 3, 61, 58, 42, 50, 38, 29, 17, 4, 62, 47, 59, 36, 45, 43, 51, 22, 53, 39, 33, 30, 24, 18, 12, 5, 63, 55, 48, 27, 60, 41, 37, 16, 46, 35, 44, 21, 52, 32, 23, 11, 54, 26, 40, 15, 34, 20, 31, 10, 25, 14, 19, 9, 13, 8, 7, 6]
def en_8 : Int → List Value := fun x => [.int .u8 x]

/-! ### charabanc/banks.Where (function 76) -/
section
def banks_Where_76.post (M0 : Nat → Prop) (w0 : World) (r : Int × Bool) : Ending → World → Prop := fun e w => e = .returned (.tuple #[.int .i64 r.1, .bool r.2]) ∧ Below w0.heap.size w0 w
def banks_Where_76.f (K : Nat) (p0_0 : List Int) (p0_1 : Int) (p0_2 : Int) (p0_3 : List (Int × Int)) (p1 : Int) : Option (Int × Bool) := cond (decide ((IntKind.wrap .i64 p1) < (p0_0.length : Int))) (some (0, false)) (Let (fun (t8 : Bool) => cond t8 (some ((IntKind.wrap .i64 ((IntKind.wrap .i64 ((IntKind.wrap .i64 (65536 + (IntKind.wrap .i64 (16384 * p0_2)))) + (IntKind.wrap .i64 p1))) - 32768)), true)) (some ((IntKind.wrap .i64 p1), true))) (fun j11 => cond (decide ((IntKind.wrap .i64 p1) ≥ 32768)) (j11 (decide ((IntKind.wrap .i64 p1) < 49152))) (j11 false)))
set_option maxRecDepth 100000 in
theorem banks_Where_76_ok (K : Nat) (M0 : Nat → Prop) (w0 : World) (pA0_0 : Option Addr) (pc0_0 : Nat) (pA0_3 : Option Addr) (pc0_3 : Nat) (p0_0 : List Int) (p0_1 : Int) (p0_2 : Int) (p0_3 : List (Int × Int)) (p1 : Int) (ho : ∀ b, M0 b → b < w0.heap.size) (hs0_0 : Sl (Rp.int .u8) w0 M0 (.slice pA0_0 p0_0.length pc0_0) p0_0) (hs0_3 : Sl (Rp.pair (Rp.int .i64) (Rp.int .u8)) w0 M0 (.slice pA0_3 p0_3.length pc0_3) p0_3) {r : Int × Bool} (h : banks_Where_76.f K p0_0 p0_1 p0_2 p0_3 p1 = some r) :
    Calls Tryd.prog 76 #[.agg #[.slice pA0_0 p0_0.length pc0_0, .int .i64 p0_1, .int .i64 p0_2, .slice pA0_3 p0_3.length pc0_3], .int .u16 p1] w0 (banks_Where_76.post M0 w0 r) := by
  unfold banks_Where_76.f at h
  have h0 : Holds M0 w0 w0 [] := Holds.start ho
  have h00_0 := h0.addSl (Rp.int .u8) (.slice pA0_0 p0_0.length pc0_0) p0_0 (hs0_0.mono (fun _ _ hm => hm.elim id (fun hm => absurd hm (by simp [mines, sl]))))
  have h00_3 := h00_0.addSl (Rp.pair (Rp.int .i64) (Rp.int .u8)) (.slice pA0_3 p0_3.length pc0_3) p0_3 (hs0_3.mono (fun _ _ hm => hm.elim id (fun hm => absurd hm (by simp [mines, sl]))))
  have h0 : Holds M0 w0 w0 [sl (Rp.int .u8) (.slice pA0_0 p0_0.length pc0_0) p0_0, sl (Rp.pair (Rp.int .i64) (Rp.int .u8)) (.slice pA0_3 p0_3.length pc0_3) p0_3] := h00_3
  refine calls_of F76 rfl [.agg #[.slice pA0_0 p0_0.length pc0_0, .int .i64 p0_1, .int .i64 p0_2, .slice pA0_3 p0_3.length pc0_3], .int .u16 p1] (by kernel_rfl) ?_
  refine RunsI.go 1 [.c 1, .c 2] (by kernel_rfl) ?_
  refine RunsI.region (by kernel_rfl) ?_
  refine RegI.op (by kernel_rfl) (OpE.box 2 25 [.slice pA0_0 p0_0.length pc0_0, .int .i64 p0_1, .int .i64 p0_2, .slice pA0_3 p0_3.length pc0_3] h0 (by kernel_rfl) (by kernel_rfl) ?_)
  intro w1 b2 h3 hb4 hn5
  refine RegI.pure 2 [1, 2] [(1, .int .u16 p1), (2, .pointer (some ⟨b2, 0, none⟩))] (by kernel_rfl) ?_
  refine RegI.done (by kernel_rfl) ?_
  refine RunsI.go 1 [.c 3, .c 4] (by kernel_rfl) ?_
  refine RunsI.region (by kernel_rfl) ?_
  refine RegI.pure 3 [2, 6] [(2, .pointer (some ⟨b2, 0, none⟩)), (6, .int .i64 (IntKind.wrap .i64 p1))] (by kernel_rfl) ?_
  refine RegI.done (by kernel_rfl) ?_
  refine RunsI.go 3 [.c 7, .c 8, .blk 0, .c 19] (by kernel_rfl) ?_
  refine RunsI.region (by kernel_rfl) ?_
  refine RegI.pure 2 [2, 6, 10, 11] [(2, .pointer (some ⟨b2, 0, none⟩)), (6, .int .i64 (IntKind.wrap .i64 p1)), (10, .int .i64 (IntKind.wrap .i64 p1)), (11, .pointer (some ⟨b2, 0, none⟩))] (by kernel_rfl) ?_
  refine RegI.op (by kernel_rfl) (OpE.loadBox 12 2 22 b2 0 (.slice pA0_0 p0_0.length pc0_0) h3 (by kernel_rfl) (by kernel_rfl) rfl (by kernel_rfl) ?_)
  refine RegI.pure 3 [2, 6, 9] [(2, .pointer (some ⟨b2, 0, none⟩)), (6, .int .i64 (IntKind.wrap .i64 p1)), (9, .bool (decide ((IntKind.wrap .i64 p1) < (p0_0.length : Int))))] (by kernel_rfl) ?_
  refine RegI.done (by kernel_rfl) ?_
  rcases of_cond h with ⟨hc6, h⟩ | ⟨hc6, h⟩
  · skip
    refine RunsI.fix 9 true hc6 (by kernel_rfl) (by kernel_rfl) ?_
    refine RunsI.cond true 9 (by kernel_rfl) ?_
    refine RunsI.go 1 [.c 10, .c 11, .blk 0, .c 19] (by kernel_rfl) ?_
    refine RunsI.region (by kernel_rfl) ?_
    refine RegI.pure 2 [4, 5] [(4, .int .i64 0), (5, .bool false)] (by kernel_rfl) ?_
    refine RegI.done (by kernel_rfl) ?_
    refine RunsI.ret (.tuple #[.int .i64 0, .bool false]) (by kernel_rfl) (by kernel_rfl) ?_
    obtain rfl := Option.some.inj h
    exact ⟨rfl, h3.below⟩
  · skip
    refine RunsI.fix 9 false hc6 (by kernel_rfl) (by kernel_rfl) ?_
    refine RunsI.cond false 12 (by kernel_rfl) ?_
    refine RunsI.go 1 [.c 13, .c 14, .blk 0, .c 19] (by kernel_rfl) ?_
    refine RunsI.region (by kernel_rfl) ?_
    refine RegI.pure 3 [2, 6, 18] [(2, .pointer (some ⟨b2, 0, none⟩)), (6, .int .i64 (IntKind.wrap .i64 p1)), (18, .bool (decide ((IntKind.wrap .i64 p1) ≥ 32768)))] (by kernel_rfl) ?_
    obtain ⟨j11, hJ12, h⟩ := of_let h
    have hj13 : ∀ (t8 : Bool) (w10 : World), j11 t8 = some r → Holds M0 w0 w10 [box b2 25 [.slice pA0_0 p0_0.length pc0_0, .int .i64 p0_1, .int .i64 p0_2, .slice pA0_3 p0_3.length pc0_3], sl (Rp.int .u8) (.slice pA0_0 p0_0.length pc0_0) p0_0, sl (Rp.pair (Rp.int .i64) (Rp.int .u8)) (.slice pA0_3 p0_3.length pc0_3) p0_3] → RegI F76 13 [.c 14, .blk 0, .c 19] 7 [(2, .pointer (some ⟨b2, 0, none⟩)), (6, .int .i64 (IntKind.wrap .i64 p1)), (15, .bool t8)] w10 (banks_Where_76.post M0 w0 r) := by
      intro t8 w10 h h9
      rw [hJ12] at h
      clear hJ12
      dsimp only at h
      refine RegI.done (by kernel_rfl) ?_
      rcases of_cond h with ⟨hc14, h⟩ | ⟨hc14, h⟩
      · skip
        refine RunsI.fix 15 true hc14 (by kernel_rfl) (by kernel_rfl) ?_
        refine RunsI.cond true 15 (by kernel_rfl) ?_
        refine RunsI.go 1 [.c 16, .c 17, .blk 0, .c 19] (by kernel_rfl) ?_
        refine RunsI.region (by kernel_rfl) ?_
        refine RegI.pure 1 [6, 22] [(6, .int .i64 (IntKind.wrap .i64 p1)), (22, .pointer (some ⟨b2, 2, none⟩))] (by kernel_rfl) ?_
        refine RegI.op (by kernel_rfl) (OpE.loadBox 23 0 3 b2 2 (.int .i64 p0_2) h9 (by kernel_rfl) (by kernel_rfl) rfl (by kernel_rfl) ?_)
        refine RegI.pure 7 [4, 5] [(4, .int .i64 (IntKind.wrap .i64 ((IntKind.wrap .i64 ((IntKind.wrap .i64 (65536 + (IntKind.wrap .i64 (16384 * p0_2)))) + (IntKind.wrap .i64 p1))) - 32768))), (5, .bool true)] (by kernel_rfl) ?_
        refine RegI.done (by kernel_rfl) ?_
        refine RunsI.ret (.tuple #[.int .i64 (IntKind.wrap .i64 ((IntKind.wrap .i64 ((IntKind.wrap .i64 (65536 + (IntKind.wrap .i64 (16384 * p0_2)))) + (IntKind.wrap .i64 p1))) - 32768)), .bool true]) (by kernel_rfl) (by kernel_rfl) ?_
        obtain rfl := Option.some.inj h
        exact ⟨rfl, h9.below⟩
      · skip
        refine RunsI.fix 15 false hc14 (by kernel_rfl) (by kernel_rfl) ?_
        refine RunsI.cond false 18 (by kernel_rfl) ?_
        refine RunsI.go 1 [.blk 0, .c 19] (by kernel_rfl) ?_
        refine RunsI.go 2 [.c 20, .c 21] (by kernel_rfl) ?_
        refine RunsI.region (by kernel_rfl) ?_
        refine RegI.pure 3 [4, 5] [(4, .int .i64 (IntKind.wrap .i64 p1)), (5, .bool true)] (by kernel_rfl) ?_
        refine RegI.done (by kernel_rfl) ?_
        refine RunsI.ret (.tuple #[.int .i64 (IntKind.wrap .i64 p1), .bool true]) (by kernel_rfl) (by kernel_rfl) ?_
        obtain rfl := Option.some.inj h
        exact ⟨rfl, h9.below⟩
    clear hJ12
    rcases of_cond h with ⟨hc7, h⟩ | ⟨hc7, h⟩
    · skip
      refine RegI.fix 18 true hc7 (by kernel_rfl) (by kernel_rfl) ?_
      refine RegI.pure 4 [2, 6, 15] [(2, .pointer (some ⟨b2, 0, none⟩)), (6, .int .i64 (IntKind.wrap .i64 p1)), (15, .bool (decide ((IntKind.wrap .i64 p1) < 49152)))] (by kernel_rfl) ?_
      refine RegI.only [2, 6, 15] [(2, .pointer (some ⟨b2, 0, none⟩)), (6, .int .i64 (IntKind.wrap .i64 p1)), (15, .bool (decide ((IntKind.wrap .i64 p1) < 49152)))] (by kernel_rfl) (by kernel_rfl) ?_
      exact hj13 (decide ((IntKind.wrap .i64 p1) < 49152)) w1 h (h3.pick [2, 0, 1] (by decide))
    · skip
      refine RegI.fix 18 false hc7 (by kernel_rfl) (by kernel_rfl) ?_
      refine RegI.pure 4 [2, 6, 15] [(2, .pointer (some ⟨b2, 0, none⟩)), (6, .int .i64 (IntKind.wrap .i64 p1)), (15, .bool false)] (by kernel_rfl) ?_
      refine RegI.only [2, 6, 15] [(2, .pointer (some ⟨b2, 0, none⟩)), (6, .int .i64 (IntKind.wrap .i64 p1)), (15, .bool false)] (by kernel_rfl) (by kernel_rfl) ?_
      exact hj13 false w1 h (h3.pick [2, 0, 1] (by decide))
end

/-! ### cmp.isNaN[int] (function 151) -/
section
def cmp_isNaN_int_151.post (M0 : Nat → Prop) (w0 : World) (r : Bool) : Ending → World → Prop := fun e w => e = .returned (.bool r) ∧ Below w0.heap.size w0 w
def cmp_isNaN_int_151.f (K : Nat) (p0 : Int) : Option Bool := some (p0 != p0)
set_option maxRecDepth 100000 in
theorem cmp_isNaN_int_151_ok (K : Nat) (M0 : Nat → Prop) (w0 : World) (p0 : Int) (ho : ∀ b, M0 b → b < w0.heap.size) {r : Bool} (h : cmp_isNaN_int_151.f K p0 = some r) :
    Calls Tryd.prog 151 #[.int .i64 p0] w0 (cmp_isNaN_int_151.post M0 w0 r) := by
  unfold cmp_isNaN_int_151.f at h
  have h0 : Holds M0 w0 w0 [] := Holds.start ho
  have h0 : Holds M0 w0 w0 [] := h0
  refine calls_of F151 rfl [.int .i64 p0] (by kernel_rfl) ?_
  refine RunsI.go 1 [.c 1, .c 2] (by kernel_rfl) ?_
  refine RunsI.region (by kernel_rfl) ?_
  refine RegI.pure 1 [0] [(0, .int .i64 p0)] (by kernel_rfl) ?_
  refine RegI.done (by kernel_rfl) ?_
  refine RunsI.go 1 [.c 3, .c 4] (by kernel_rfl) ?_
  refine RunsI.region (by kernel_rfl) ?_
  refine RegI.pure 4 [2] [(2, .bool (p0 != p0))] (by kernel_rfl) ?_
  refine RegI.done (by kernel_rfl) ?_
  refine RunsI.ret (.bool (p0 != p0)) (by kernel_rfl) (by kernel_rfl) ?_
  obtain rfl := Option.some.inj h
  exact ⟨rfl, h0.below⟩
end

/-! ### cmp.Compare[int] (function 135) -/
section
def cmp_Compare_int_135.post (M0 : Nat → Prop) (w0 : World) (r : Int) : Ending → World → Prop := fun e w => e = .returned (.int .i64 r) ∧ Below w0.heap.size w0 w
def cmp_Compare_int_135.f (K : Nat) (p0 : Int) (p1 : Int) : Option Int := (cmp_isNaN_int_151.f K p0).bind fun t5 => (cmp_isNaN_int_151.f K p1).bind fun t10 => cond t5 (cond t10 (some 0) (some (-1))) (cond t10 (some 1) (cond (decide (p0 < p1)) (some (-1)) (cond (decide (p0 > p1)) (some 1) (some 0))))
set_option maxRecDepth 100000 in
theorem cmp_Compare_int_135_ok (K : Nat) (M0 : Nat → Prop) (w0 : World) (p0 : Int) (p1 : Int) (ho : ∀ b, M0 b → b < w0.heap.size) {r : Int} (h : cmp_Compare_int_135.f K p0 p1 = some r) :
    Calls Tryd.prog 135 #[.int .i64 p0, .int .i64 p1] w0 (cmp_Compare_int_135.post M0 w0 r) := by
  unfold cmp_Compare_int_135.f at h
  have h0 : Holds M0 w0 w0 [] := Holds.start ho
  have h0 : Holds M0 w0 w0 [] := h0
  refine calls_of F135 rfl [.int .i64 p0, .int .i64 p1] (by kernel_rfl) ?_
  refine RunsI.go 1 [.c 1, .c 2] (by kernel_rfl) ?_
  refine RunsI.region (by kernel_rfl) ?_
  refine RegI.pure 1 [0, 1] [(0, .int .i64 p0), (1, .int .i64 p1)] (by kernel_rfl) ?_
  refine RegI.done (by kernel_rfl) ?_
  refine RunsI.go 1 [.c 3, .c 4] (by kernel_rfl) ?_
  refine RunsI.region (by kernel_rfl) ?_
  refine RegI.pure 1 [0, 1, 7] [(0, .int .i64 p0), (1, .int .i64 p1), (7, .int .i64 p0)] (by kernel_rfl) ?_
  obtain ⟨t5, hg4, h⟩ := of_bind h
  refine RegI.op (by kernel_rfl) (OpE.call 8 (by kernel_rfl) 151 #[.int .i64 p0] (by kernel_rfl) ((cmp_isNaN_int_151_ok K _ w0  p0 h0.old' hg4).mono ?_))
  rintro _ w1 ⟨rfl, hb2⟩
  refine ⟨_, rfl, ?_⟩
  have h3 := h0.call hb2
  refine RegI.pure 1 [0, 1, 5] [(0, .int .i64 p0), (1, .int .i64 p1), (5, .bool t5)] (by kernel_rfl) ?_
  refine RegI.done (by kernel_rfl) ?_
  refine RunsI.go 1 [.c 5, .c 6] (by kernel_rfl) ?_
  refine RunsI.region (by kernel_rfl) ?_
  refine RegI.pure 1 [0, 1, 5, 9] [(0, .int .i64 p0), (1, .int .i64 p1), (5, .bool t5), (9, .int .i64 p1)] (by kernel_rfl) ?_
  obtain ⟨t10, hg9, h⟩ := of_bind h
  refine RegI.op (by kernel_rfl) (OpE.call 10 (by kernel_rfl) 151 #[.int .i64 p1] (by kernel_rfl) ((cmp_isNaN_int_151_ok K _ w1  p1 h3.old' hg9).mono ?_))
  rintro _ w6 ⟨rfl, hb7⟩
  refine ⟨_, rfl, ?_⟩
  have h8 := h3.call hb7
  refine RegI.pure 1 [0, 1, 5, 6] [(0, .int .i64 p0), (1, .int .i64 p1), (5, .bool t5), (6, .bool t10)] (by kernel_rfl) ?_
  refine RegI.done (by kernel_rfl) ?_
  refine RunsI.go 2 [.c 8, .c 9, .c 22] (by kernel_rfl) ?_
  refine RunsI.region (by kernel_rfl) ?_
  refine RegI.pure 1 [0, 1, 6, 11] [(0, .int .i64 p0), (1, .int .i64 p1), (6, .bool t10), (11, .bool t5)] (by kernel_rfl) ?_
  refine RegI.done (by kernel_rfl) ?_
  rcases of_cond h with ⟨hc11, h⟩ | ⟨hc11, h⟩
  · skip
    refine RunsI.fix 11 true hc11 (by kernel_rfl) (by kernel_rfl) ?_
    refine RunsI.cond true 10 (by kernel_rfl) ?_
    refine RunsI.go 2 [.c 12, .c 13, .c 18, .c 22] (by kernel_rfl) ?_
    refine RunsI.region (by kernel_rfl) ?_
    refine RegI.pure 1 [12] [(12, .bool t10)] (by kernel_rfl) ?_
    refine RegI.done (by kernel_rfl) ?_
    rcases of_cond h with ⟨hc12, h⟩ | ⟨hc12, h⟩
    · skip
      refine RunsI.fix 12 true hc12 (by kernel_rfl) (by kernel_rfl) ?_
      refine RunsI.cond true 14 (by kernel_rfl) ?_
      refine RunsI.go 1 [.c 15, .c 16, .c 18, .c 22] (by kernel_rfl) ?_
      refine RunsI.region (by kernel_rfl) ?_
      refine RegI.pure 1 [4] [(4, .int .i64 0)] (by kernel_rfl) ?_
      refine RegI.done (by kernel_rfl) ?_
      refine RunsI.ret (.int .i64 0) (by kernel_rfl) (by kernel_rfl) ?_
      obtain rfl := Option.some.inj h
      exact ⟨rfl, h8.below⟩
    · skip
      refine RunsI.fix 12 false hc12 (by kernel_rfl) (by kernel_rfl) ?_
      refine RunsI.cond false 17 (by kernel_rfl) ?_
      refine RunsI.go 1 [.c 18, .c 22] (by kernel_rfl) ?_
      refine RunsI.go 1 [.c 19, .c 20, .c 22] (by kernel_rfl) ?_
      refine RunsI.region (by kernel_rfl) ?_
      refine RegI.pure 1 [4] [(4, .int .i64 (-1))] (by kernel_rfl) ?_
      refine RegI.done (by kernel_rfl) ?_
      refine RunsI.ret (.int .i64 (-1)) (by kernel_rfl) (by kernel_rfl) ?_
      obtain rfl := Option.some.inj h
      exact ⟨rfl, h8.below⟩
  · skip
    refine RunsI.fix 11 false hc11 (by kernel_rfl) (by kernel_rfl) ?_
    refine RunsI.cond false 21 (by kernel_rfl) ?_
    refine RunsI.go 1 [.c 22] (by kernel_rfl) ?_
    refine RunsI.go 2 [.c 24, .c 25, .c 30] (by kernel_rfl) ?_
    refine RunsI.region (by kernel_rfl) ?_
    refine RegI.pure 1 [0, 1, 13] [(0, .int .i64 p0), (1, .int .i64 p1), (13, .bool t10)] (by kernel_rfl) ?_
    refine RegI.done (by kernel_rfl) ?_
    rcases of_cond h with ⟨hc13, h⟩ | ⟨hc13, h⟩
    · skip
      refine RunsI.fix 13 true hc13 (by kernel_rfl) (by kernel_rfl) ?_
      refine RunsI.cond true 26 (by kernel_rfl) ?_
      refine RunsI.go 1 [.c 27, .c 28, .c 30] (by kernel_rfl) ?_
      refine RunsI.region (by kernel_rfl) ?_
      refine RegI.pure 1 [4] [(4, .int .i64 1)] (by kernel_rfl) ?_
      refine RegI.done (by kernel_rfl) ?_
      refine RunsI.ret (.int .i64 1) (by kernel_rfl) (by kernel_rfl) ?_
      obtain rfl := Option.some.inj h
      exact ⟨rfl, h8.below⟩
    · skip
      refine RunsI.fix 13 false hc13 (by kernel_rfl) (by kernel_rfl) ?_
      refine RunsI.cond false 29 (by kernel_rfl) ?_
      refine RunsI.go 1 [.c 30] (by kernel_rfl) ?_
      refine RunsI.go 2 [.c 32, .c 33, .c 38] (by kernel_rfl) ?_
      refine RunsI.region (by kernel_rfl) ?_
      refine RegI.pure 3 [0, 1, 16] [(0, .int .i64 p0), (1, .int .i64 p1), (16, .bool (decide (p0 < p1)))] (by kernel_rfl) ?_
      refine RegI.done (by kernel_rfl) ?_
      rcases of_cond h with ⟨hc14, h⟩ | ⟨hc14, h⟩
      · skip
        refine RunsI.fix 16 true hc14 (by kernel_rfl) (by kernel_rfl) ?_
        refine RunsI.cond true 34 (by kernel_rfl) ?_
        refine RunsI.go 1 [.c 35, .c 36, .c 38] (by kernel_rfl) ?_
        refine RunsI.region (by kernel_rfl) ?_
        refine RegI.pure 1 [4] [(4, .int .i64 (-1))] (by kernel_rfl) ?_
        refine RegI.done (by kernel_rfl) ?_
        refine RunsI.ret (.int .i64 (-1)) (by kernel_rfl) (by kernel_rfl) ?_
        obtain rfl := Option.some.inj h
        exact ⟨rfl, h8.below⟩
      · skip
        refine RunsI.fix 16 false hc14 (by kernel_rfl) (by kernel_rfl) ?_
        refine RunsI.cond false 37 (by kernel_rfl) ?_
        refine RunsI.go 1 [.c 38] (by kernel_rfl) ?_
        refine RunsI.go 2 [.c 40, .c 41, .c 46] (by kernel_rfl) ?_
        refine RunsI.region (by kernel_rfl) ?_
        refine RegI.pure 3 [19] [(19, .bool (decide (p0 > p1)))] (by kernel_rfl) ?_
        refine RegI.done (by kernel_rfl) ?_
        rcases of_cond h with ⟨hc15, h⟩ | ⟨hc15, h⟩
        · skip
          refine RunsI.fix 19 true hc15 (by kernel_rfl) (by kernel_rfl) ?_
          refine RunsI.cond true 42 (by kernel_rfl) ?_
          refine RunsI.go 1 [.c 43, .c 44, .c 46] (by kernel_rfl) ?_
          refine RunsI.region (by kernel_rfl) ?_
          refine RegI.pure 1 [4] [(4, .int .i64 1)] (by kernel_rfl) ?_
          refine RegI.done (by kernel_rfl) ?_
          refine RunsI.ret (.int .i64 1) (by kernel_rfl) (by kernel_rfl) ?_
          obtain rfl := Option.some.inj h
          exact ⟨rfl, h8.below⟩
        · skip
          refine RunsI.fix 19 false hc15 (by kernel_rfl) (by kernel_rfl) ?_
          refine RunsI.cond false 45 (by kernel_rfl) ?_
          refine RunsI.go 1 [.c 46] (by kernel_rfl) ?_
          refine RunsI.go 1 [.c 47, .c 48] (by kernel_rfl) ?_
          refine RunsI.region (by kernel_rfl) ?_
          refine RegI.pure 1 [4] [(4, .int .i64 0)] (by kernel_rfl) ?_
          refine RegI.done (by kernel_rfl) ?_
          refine RunsI.ret (.int .i64 0) (by kernel_rfl) (by kernel_rfl) ?_
          obtain rfl := Option.some.inj h
          exact ⟨rfl, h8.below⟩
end

/-! ### slices.Clone[[]charabanc/banks.Spot,charabanc/banks.Spot] (function 138) -/
section
def banks_Spot_138.post (M0 : Nat → Prop) (w0 : World) (r : (List (Int × Int))) : Ending → World → Prop := fun e w => ∃ (A1 : Option Addr) (c1 : Nat), e = .returned (.slice A1 r.length c1) ∧ Holds M0 w0 w [own (Rp.pair (Rp.int .i64) (Rp.int .u8)) 80 (.slice A1 r.length c1) r]
def banks_Spot_138.f (K : Nat) (p0 : List (Int × Int)) : Option (List (Int × Int)) := cond (mayBe (([] : List (Int × Int)).length + p0.length) 16) (some (([] : List (Int × Int)) ++ p0)) none
set_option maxRecDepth 100000 in
theorem banks_Spot_138_ok (K : Nat) (M0 : Nat → Prop) (w0 : World) (pA0 : Option Addr) (pc0 : Nat) (p0 : List (Int × Int)) (ho : ∀ b, M0 b → b < w0.heap.size) (hs0 : Sl (Rp.pair (Rp.int .i64) (Rp.int .u8)) w0 M0 (.slice pA0 p0.length pc0) p0) {r : (List (Int × Int))} (h : banks_Spot_138.f K p0 = some r) :
    Calls Tryd.prog 138 #[.slice pA0 p0.length pc0] w0 (banks_Spot_138.post M0 w0 r) := by
  unfold banks_Spot_138.f at h
  have h0 : Holds M0 w0 w0 [] := Holds.start ho
  have h00 := h0.addSl (Rp.pair (Rp.int .i64) (Rp.int .u8)) (.slice pA0 p0.length pc0) p0 (hs0.mono (fun _ _ hm => hm.elim id (fun hm => absurd hm (by simp [mines, sl]))))
  have h0 : Holds M0 w0 w0 [sl (Rp.pair (Rp.int .i64) (Rp.int .u8)) (.slice pA0 p0.length pc0) p0] := h00
  refine calls_of F138 rfl [.slice pA0 p0.length pc0] (by kernel_rfl) ?_
  refine RunsI.go 1 [.c 1, .c 2] (by kernel_rfl) ?_
  refine RunsI.region (by kernel_rfl) ?_
  refine RegI.pure 1 [0] [(0, .slice pA0 p0.length pc0)] (by kernel_rfl) ?_
  refine RegI.done (by kernel_rfl) ?_
  refine RunsI.go 2 [.c 4, .c 5, .c 10] (by kernel_rfl) ?_
  refine RunsI.region (by kernel_rfl) ?_
  refine RegI.pure 1 [0, 3] [(0, .slice pA0 p0.length pc0), (3, .slice pA0 p0.length pc0)] (by kernel_rfl) ?_
  rcases pA0 with _ | a1
  · obtain ⟨rfl, rfl⟩ := Sl.nilOf (h0.get 0 rfl)
    have h : (some ([] : List (Int × Int))) = some r := by first | exact h | simpa using h
    refine RegI.pure 1 [0, 4] [(0, .slice none (([] : List (Int × Int)).length) 0), (4, .bool true)] (by kernel_rfl) ?_
    refine RegI.done (by kernel_rfl) ?_
    refine RunsI.cond true 6 (by kernel_rfl) ?_
    refine RunsI.go 1 [.c 7, .c 8, .c 10] (by kernel_rfl) ?_
    refine RunsI.region (by kernel_rfl) ?_
    refine RegI.pure 1 [2] [(2, .slice none 0 0)] (by kernel_rfl) ?_
    refine RegI.done (by kernel_rfl) ?_
    refine RunsI.ret (.slice none 0 0) (by kernel_rfl) (by kernel_rfl) ?_
    have h14 := h0.addOwnNil (Rp.pair (Rp.int .i64) (Rp.int .u8)) 80
    obtain rfl := Option.some.inj h
    exact ⟨none, 0, rfl, h14.pick [1] (by decide)⟩
  · skip
    refine RegI.pure 1 [0, 4] [(0, .slice (some a1) p0.length pc0), (4, .bool false)] (by kernel_rfl) ?_
    refine RegI.done (by kernel_rfl) ?_
    refine RunsI.cond false 9 (by kernel_rfl) ?_
    refine RunsI.go 2 [.c 11, .c 12] (by kernel_rfl) ?_
    refine RunsI.region (by kernel_rfl) ?_
    refine RegI.op (by kernel_rfl) (OpE.lit 5 80 [] 0 h0 (by kernel_rfl) (by kernel_rfl) ?_)
    intro w2 b3 h4 hb5 hn6
    refine RegI.pure 1 [5, 6] [(5, .slice (some ⟨b3, 0, none⟩) (([] : List (Int × Int)).length) 0), (6, .slice (some a1) p0.length pc0)] (by kernel_rfl) ?_
    have h7 := h4.boxOwn 1 rfl (Rp.pair (Rp.int .i64) (Rp.int .u8)) ([] : List (Int × Int)) (rfl) (Nat.le_of_ble_eq_true (by kernel_rfl))
    obtain ⟨hc8, h⟩ := of_cond0 h
    refine RegI.op (by kernel_rfl) (OpE.appendRow 7 1 23 80 16 (ys := p0) h7 (by kernel_rfl) (by kernel_rfl) (by kernel_rfl) rfl (h7.rdSl 0 rfl) hc8 ?_)
    intro w9 A10 c11 h12 hk13
    refine RegI.pure 1 [2] [(2, .slice A10 ((([] : List (Int × Int)) ++ p0).length) c11)] (by kernel_rfl) ?_
    refine RegI.done (by kernel_rfl) ?_
    refine RunsI.ret (.slice A10 ((([] : List (Int × Int)) ++ p0).length) c11) (by kernel_rfl) (by kernel_rfl) ?_
    obtain rfl := Option.some.inj h
    exact ⟨A10, c11, rfl, h12.pick [1] (by decide)⟩
end

/-! ### (charabanc/banks.Store).put (function 121) -/
section
def banks_Store_put_121.post (M0 : Nat → Prop) (w0 : World) (r : (List Int) × Int × Int × (List (Int × Int))) : Ending → World → Prop := fun e w => ∃ (A1 : Option Addr) (c1 : Nat) (A4 : Option Addr) (c4 : Nat), e = .returned (.agg #[.slice A1 r.1.length c1, .int .i64 r.2.1, .int .i64 r.2.2.1, .slice A4 r.2.2.2.length c4]) ∧ Holds M0 w0 w [sl (Rp.int .u8) (.slice A1 r.1.length c1) r.1, own (Rp.pair (Rp.int .i64) (Rp.int .u8)) 80 (.slice A4 r.2.2.2.length c4) r.2.2.2]
def banks_Store_put_121.l0 (K : Nat) (p0_0 : List Int) (p0_1 : Int) (p0_2 : Int) (p0_3 : List (Int × Int)) (p1 : Int) (p2 : Int) : Nat → Int → Option (Lp Int Unit)
  | 0, _ => none
  | k + 1, t17 => cond (decide (t17 < (p0_3.length : Int))) (cond (inR t17 p0_3.length) ((cmp_Compare_int_135.f K ((rdD p0_3 t17).1) p1).bind fun t36 => cond (decide (t36 > 0)) (some (Lp.ret t17)) (banks_Store_put_121.l0 K p0_0 p0_1 p0_2 p0_3 p1 p2 k (IntKind.wrap .i64 (t17 + 1)))) none) (some (Lp.go ()))
set_option maxRecDepth 100000 in
theorem banks_Store_put_121.l0_ok (K : Nat) (M0 : Nat → Prop) (w0 : World) (pA0_0 : Option Addr) (pc0_0 : Nat) (pA0_3 : Option Addr) (pc0_3 : Nat) (p0_0 : List Int) (p0_1 : Int) (p0_2 : Int) (p0_3 : List (Int × Int)) (p1 : Int) (p2 : Int) (b16 : Nat) (b18 : Nat) (b19 : Nat) (R : Ending → World → Prop) (x : Lp Int Unit) (hk0 : ∀ (w1 : World), x = Lp.go () → Holds M0 w0 w1 [box b18 25 [.slice pA0_0 p0_0.length pc0_0, .int .i64 p0_1, .int .i64 p0_2, .slice pA0_3 p0_3.length pc0_3], sl (Rp.int .u8) (.slice pA0_0 p0_0.length pc0_0) p0_0, sl (Rp.pair (Rp.int .i64) (Rp.int .u8)) (.slice pA0_3 p0_3.length pc0_3) p0_3, box b16 3 [.int .i64 p1], box b19 25 [.slice none 0 0, .int .i64 0, .int .i64 0, .slice none 0 0]] → RunsI F119 [.c 25] [] w1 R) (hk1 : ∀ (t38 : Int) (w1 : World), x = Lp.ret t38 → Holds M0 w0 w1 [box b18 25 [.slice pA0_0 p0_0.length pc0_0, .int .i64 p0_1, .int .i64 p0_2, .slice pA0_3 p0_3.length pc0_3], sl (Rp.int .u8) (.slice pA0_0 p0_0.length pc0_0) p0_0, sl (Rp.pair (Rp.int .i64) (Rp.int .u8)) (.slice pA0_3 p0_3.length pc0_3) p0_3, box b16 3 [.int .i64 p1], box b19 25 [.slice none 0 0, .int .i64 0, .int .i64 0, .slice none 0 0]] → R (.returned (.int .i64 t38)) w1) :
    ∀ (k : Nat) (t17 : Int) (w : World), banks_Store_put_121.l0 K p0_0 p0_1 p0_2 p0_3 p1 p2 k t17 = some x → Holds M0 w0 w [sl (Rp.pair (Rp.int .i64) (Rp.int .u8)) (.slice pA0_3 p0_3.length pc0_3) p0_3, box b16 3 [.int .i64 p1], box b18 25 [.slice pA0_0 p0_0.length pc0_0, .int .i64 p0_1, .int .i64 p0_2, .slice pA0_3 p0_3.length pc0_3], sl (Rp.int .u8) (.slice pA0_0 p0_0.length pc0_0) p0_0, box b19 25 [.slice none 0 0, .int .i64 0, .int .i64 0, .slice none 0 0]] → RunsI F119 [.c 7, .lp 7, .blk 0, .c 25] [(0, .slice pA0_3 p0_3.length pc0_3), (1, .func (.func 134) #[] #[.pointer (some ⟨b16, 0, none⟩)]), (7, .int .i64 (p0_3.length : Int)), (8, .int .i64 t17)] w R := by
  intro k
  induction k with
  | zero => intro t17 w h hH; exact absurd h (by simp [banks_Store_put_121.l0])
  | succ k ih =>
    intro t17 w h hH
    rw [banks_Store_put_121.l0.eq_2] at h
    refine RunsI.go 1 [.c 8, .c 9, .lp 7, .blk 0, .c 25] (by kernel_rfl) ?_
    refine RunsI.region (by kernel_rfl) ?_
    refine RegI.pure 1 [0, 1, 7, 8, 9] [(0, .slice pA0_3 p0_3.length pc0_3), (1, .func (.func 134) #[] #[.pointer (some ⟨b16, 0, none⟩)]), (7, .int .i64 (p0_3.length : Int)), (8, .int .i64 t17), (9, .bool (decide (t17 < (p0_3.length : Int))))] (by kernel_rfl) ?_
    refine RegI.done (by kernel_rfl) ?_
    refine RunsI.go 1 [.c 10, .c 13, .lp 7, .blk 0, .c 25] (by kernel_rfl) ?_
    rcases of_cond h with ⟨hc20, h⟩ | ⟨hc20, h⟩
    · skip
      refine RunsI.fix 9 true hc20 (by kernel_rfl) (by kernel_rfl) ?_
      refine RunsI.cond true 11 (by kernel_rfl) ?_
      refine RunsI.go 1 [.c 13, .lp 7, .blk 0, .c 25] (by kernel_rfl) ?_
      refine RunsI.go 3 [.c 16, .c 17, .blk 1, .c 24, .lp 7, .blk 0, .c 25] (by kernel_rfl) ?_
      refine RunsI.region (by kernel_rfl) ?_
      refine RegI.pure 2 [0, 1, 5, 7, 8] [(0, .slice pA0_3 p0_3.length pc0_3), (1, .func (.func 134) #[] #[.pointer (some ⟨b16, 0, none⟩)]), (5, .int .i64 t17), (7, .int .i64 (p0_3.length : Int)), (8, .int .i64 t17)] (by kernel_rfl) ?_
      refine RegI.done (by kernel_rfl) ?_
      refine RunsI.go 1 [.c 18, .c 19, .blk 1, .c 24, .lp 7, .blk 0, .c 25] (by kernel_rfl) ?_
      refine RunsI.region (by kernel_rfl) ?_
      refine RegI.pure 3 [0, 1, 5, 7, 8, 11, 12, 13] [(0, .slice pA0_3 p0_3.length pc0_3), (1, .func (.func 134) #[] #[.pointer (some ⟨b16, 0, none⟩)]), (5, .int .i64 t17), (7, .int .i64 (p0_3.length : Int)), (8, .int .i64 t17), (11, .func (.func 134) #[] #[.pointer (some ⟨b16, 0, none⟩)]), (12, .slice pA0_3 p0_3.length pc0_3), (13, .int .i64 t17)] (by kernel_rfl) ?_
      obtain ⟨hc21, h⟩ := of_cond0 h
      refine RegI.op (by kernel_rfl) (OpE.idxSl 14 0 23 t17 hH (by kernel_rfl) rfl (by kernel_rfl) (by kernel_rfl) hc21 ?_)
      intro b22 o23 cs24 hk25 h26
      obtain ⟨_, _, rfl, rfl, rfl⟩ := hk25
      refine RegI.op (by kernel_rfl) (OpE.loadCel 15 5 80 b22 o23 0 (.agg #[.int .i64 ((rdD p0_3 t17).1), .int .u8 ((rdD p0_3 t17).2)]) h26 (by kernel_rfl) (by kernel_rfl) rfl (by kernel_rfl) ?_)
      refine RegI.enter 16 [0, 1, 5, 7, 8] [(0, .slice pA0_3 p0_3.length pc0_3), (1, .func (.func 134) #[] #[.pointer (some ⟨b16, 0, none⟩)]), (5, .int .i64 t17), (7, .int .i64 (p0_3.length : Int)), (8, .int .i64 t17)] (by kernel_rfl) (by kernel_rfl) (by kernel_rfl) (by kernel_rfl) F134 134 rfl [.agg #[.int .i64 ((rdD p0_3 t17).1), .int .u8 ((rdD p0_3 t17).2)], .pointer (some ⟨b16, 0, none⟩)] (by kernel_rfl) (by kernel_rfl) ?_
      refine RunsI.go 1 [.c 1, .c 2] (by kernel_rfl) ?_
      refine RunsI.region (by kernel_rfl) ?_
      refine RegI.op (by kernel_rfl) (OpE.box 2 80 [.int .i64 ((rdD p0_3 t17).1), .int .u8 ((rdD p0_3 t17).2)] h26 (by kernel_rfl) (by kernel_rfl) ?_)
      intro w27 b28 h29 hb30 hn31
      refine RegI.pure 1 [1, 2] [(1, .pointer (some ⟨b16, 0, none⟩)), (2, .pointer (some ⟨b28, 0, none⟩))] (by kernel_rfl) ?_
      refine RegI.done (by kernel_rfl) ?_
      refine RunsI.go 1 [.c 3, .c 4] (by kernel_rfl) ?_
      refine RunsI.region (by kernel_rfl) ?_
      refine RegI.pure 1 [1, 4] [(1, .pointer (some ⟨b16, 0, none⟩)), (4, .pointer (some ⟨b28, 0, none⟩))] (by kernel_rfl) ?_
      refine RegI.op (by kernel_rfl) (OpE.loadBox 5 6 3 b28 0 (.int .i64 ((rdD p0_3 t17).1)) h29 (by kernel_rfl) (by kernel_rfl) rfl (by kernel_rfl) ?_)
      refine RegI.op (by kernel_rfl) (OpE.loadBox 6 1 3 b16 0 (.int .i64 p1) h29 (by kernel_rfl) (by kernel_rfl) rfl (by kernel_rfl) ?_)
      obtain ⟨t36, hg35, h⟩ := of_bind h
      refine RegI.op (by kernel_rfl) (OpE.call 7 (by kernel_rfl) 135 #[.int .i64 ((rdD p0_3 t17).1), .int .i64 p1] (by kernel_rfl) ((cmp_Compare_int_135_ok K _ w27  ((rdD p0_3 t17).1) p1 h29.old' hg35).mono ?_))
      rintro _ w32 ⟨rfl, hb33⟩
      refine ⟨_, rfl, ?_⟩
      have h34 := h29.call hb33
      refine RegI.pure 2 [3] [(3, .bool (decide (t36 > 0)))] (by kernel_rfl) ?_
      refine RegI.done (by kernel_rfl) ?_
      refine RunsI.ret (.bool (decide (t36 > 0))) (by kernel_rfl) (by kernel_rfl) ?_
      refine cont_mk ?_
      refine RegI.done (by kernel_rfl) ?_
      rcases of_cond h with ⟨hc37, h⟩ | ⟨hc37, h⟩
      · skip
        refine RunsI.fix 16 true hc37 (by kernel_rfl) (by kernel_rfl) ?_
        refine RunsI.cond true 20 (by kernel_rfl) ?_
        refine RunsI.go 1 [.c 21, .c 22, .blk 1, .c 24, .lp 7, .blk 0, .c 25] (by kernel_rfl) ?_
        refine RunsI.region (by kernel_rfl) ?_
        refine RegI.pure 2 [4] [(4, .int .i64 t17)] (by kernel_rfl) ?_
        refine RegI.done (by kernel_rfl) ?_
        refine RunsI.ret (.int .i64 t17) (by kernel_rfl) (by kernel_rfl) ?_
        exact hk1 t17 w32 (Option.some.inj h).symm (h34.pick [2, 3, 0, 1, 4] (by decide))
      · skip
        refine RunsI.fix 16 false hc37 (by kernel_rfl) (by kernel_rfl) ?_
        refine RunsI.cond false 23 (by kernel_rfl) ?_
        refine RunsI.go 1 [.blk 1, .c 24, .lp 7, .blk 0, .c 25] (by kernel_rfl) ?_
        refine RunsI.go 1 [.c 24, .lp 7, .blk 0, .c 25] (by kernel_rfl) ?_
        refine RunsI.region (by kernel_rfl) ?_
        refine RegI.pure 2 [0, 1, 7, 8] [(0, .slice pA0_3 p0_3.length pc0_3), (1, .func (.func 134) #[] #[.pointer (some ⟨b16, 0, none⟩)]), (7, .int .i64 (p0_3.length : Int)), (8, .int .i64 (IntKind.wrap .i64 (t17 + 1)))] (by kernel_rfl) ?_
        refine RegI.done (by kernel_rfl) ?_
        refine RunsI.go 1 [.c 7, .lp 7, .blk 0, .c 25] (by kernel_rfl) ?_
        refine RunsI.only [0, 1, 7, 8] [(0, .slice pA0_3 p0_3.length pc0_3), (1, .func (.func 134) #[] #[.pointer (some ⟨b16, 0, none⟩)]), (7, .int .i64 (p0_3.length : Int)), (8, .int .i64 (IntKind.wrap .i64 (t17 + 1)))] (by kernel_rfl) (by kernel_rfl) ?_
        exact ih (IntKind.wrap .i64 (t17 + 1)) w32 h (h34.pick [0, 1, 2, 3, 4] (by decide))
    · skip
      refine RunsI.fix 9 false hc20 (by kernel_rfl) (by kernel_rfl) ?_
      refine RunsI.cond false 12 (by kernel_rfl) ?_
      refine RunsI.go 1 [.c 25] (by kernel_rfl) ?_
      refine RunsI.only [] [] (by kernel_rfl) (by kernel_rfl) ?_
      exact hk0 w (Option.some.inj h).symm (hH.pick [2, 3, 0, 1, 4] (by decide))
def banks_Store_put_121.l1 (K : Nat) (p0_0 : List Int) (p0_1 : Int) (p0_2 : Int) (p0_3 : List (Int × Int)) (p1 : Int) (p2 : Int) (t74 : List (Int × Int)) (t76 : Int) : Nat → Int → Option (Lp Int Unit)
  | 0, _ => none
  | k + 1, t77 => cond (decide (t77 < t76)) (cond (inR t77 t74.length) (cond (((rdD t74 t77).1) == p1) (some (Lp.ret t77)) (banks_Store_put_121.l1 K p0_0 p0_1 p0_2 p0_3 p1 p2 t74 t76 k (IntKind.wrap .i64 (t77 + 1)))) none) (some (Lp.go ()))
set_option maxRecDepth 100000 in
theorem banks_Store_put_121.l1_ok (K : Nat) (M0 : Nat → Prop) (w0 : World) (pA0_0 : Option Addr) (pc0_0 : Nat) (pA0_3 : Option Addr) (pc0_3 : Nat) (p0_0 : List Int) (p0_1 : Int) (p0_2 : Int) (p0_3 : List (Int × Int)) (p1 : Int) (p2 : Int) (t74 : List (Int × Int)) (t76 : Int) (A72 : Option Addr) (c73 : Nat) (b75 : Nat) (b78 : Nat) (b79 : Nat) (R : Ending → World → Prop) (x : Lp Int Unit) (hk0 : ∀ (w1 : World), x = Lp.go () → Holds M0 w0 w1 [box b78 25 [.slice pA0_0 p0_0.length pc0_0, .int .i64 p0_1, .int .i64 p0_2, .slice pA0_3 p0_3.length pc0_3], sl (Rp.int .u8) (.slice pA0_0 p0_0.length pc0_0) p0_0, sl (Rp.pair (Rp.int .i64) (Rp.int .u8)) (.slice pA0_3 p0_3.length pc0_3) p0_3, box b75 3 [.int .i64 p1], box b79 25 [.slice none 0 0, .int .i64 0, .int .i64 0, .slice none 0 0], own (Rp.pair (Rp.int .i64) (Rp.int .u8)) 80 (.slice A72 t74.length c73) t74] → RunsI F119 [.c 25] [] w1 R) (hk1 : ∀ (t90 : Int) (w1 : World), x = Lp.ret t90 → Holds M0 w0 w1 [box b78 25 [.slice pA0_0 p0_0.length pc0_0, .int .i64 p0_1, .int .i64 p0_2, .slice pA0_3 p0_3.length pc0_3], sl (Rp.int .u8) (.slice pA0_0 p0_0.length pc0_0) p0_0, sl (Rp.pair (Rp.int .i64) (Rp.int .u8)) (.slice pA0_3 p0_3.length pc0_3) p0_3, box b75 3 [.int .i64 p1], box b79 25 [.slice none 0 0, .int .i64 0, .int .i64 0, .slice none 0 0], own (Rp.pair (Rp.int .i64) (Rp.int .u8)) 80 (.slice A72 t74.length c73) t74] → R (.returned (.int .i64 t90)) w1) :
    ∀ (k : Nat) (t77 : Int) (w : World), banks_Store_put_121.l1 K p0_0 p0_1 p0_2 p0_3 p1 p2 t74 t76 k t77 = some x → Holds M0 w0 w [own (Rp.pair (Rp.int .i64) (Rp.int .u8)) 80 (.slice A72 t74.length c73) t74, box b75 3 [.int .i64 p1], box b78 25 [.slice pA0_0 p0_0.length pc0_0, .int .i64 p0_1, .int .i64 p0_2, .slice pA0_3 p0_3.length pc0_3], sl (Rp.int .u8) (.slice pA0_0 p0_0.length pc0_0) p0_0, sl (Rp.pair (Rp.int .i64) (Rp.int .u8)) (.slice pA0_3 p0_3.length pc0_3) p0_3, box b79 25 [.slice none 0 0, .int .i64 0, .int .i64 0, .slice none 0 0]] → RunsI F119 [.c 7, .lp 7, .blk 0, .c 25] [(0, .slice A72 t74.length c73), (1, .func (.func 136) #[] #[.pointer (some ⟨b75, 0, none⟩)]), (7, .int .i64 t76), (8, .int .i64 t77)] w R := by
  intro k
  induction k with
  | zero => intro t77 w h hH; exact absurd h (by simp [banks_Store_put_121.l1])
  | succ k ih =>
    intro t77 w h hH
    rw [banks_Store_put_121.l1.eq_2] at h
    refine RunsI.go 1 [.c 8, .c 9, .lp 7, .blk 0, .c 25] (by kernel_rfl) ?_
    refine RunsI.region (by kernel_rfl) ?_
    refine RegI.pure 1 [0, 1, 7, 8, 9] [(0, .slice A72 t74.length c73), (1, .func (.func 136) #[] #[.pointer (some ⟨b75, 0, none⟩)]), (7, .int .i64 t76), (8, .int .i64 t77), (9, .bool (decide (t77 < t76)))] (by kernel_rfl) ?_
    refine RegI.done (by kernel_rfl) ?_
    refine RunsI.go 1 [.c 10, .c 13, .lp 7, .blk 0, .c 25] (by kernel_rfl) ?_
    rcases of_cond h with ⟨hc80, h⟩ | ⟨hc80, h⟩
    · skip
      refine RunsI.fix 9 true hc80 (by kernel_rfl) (by kernel_rfl) ?_
      refine RunsI.cond true 11 (by kernel_rfl) ?_
      refine RunsI.go 1 [.c 13, .lp 7, .blk 0, .c 25] (by kernel_rfl) ?_
      refine RunsI.go 3 [.c 16, .c 17, .blk 1, .c 24, .lp 7, .blk 0, .c 25] (by kernel_rfl) ?_
      refine RunsI.region (by kernel_rfl) ?_
      refine RegI.pure 2 [0, 1, 5, 7, 8] [(0, .slice A72 t74.length c73), (1, .func (.func 136) #[] #[.pointer (some ⟨b75, 0, none⟩)]), (5, .int .i64 t77), (7, .int .i64 t76), (8, .int .i64 t77)] (by kernel_rfl) ?_
      refine RegI.done (by kernel_rfl) ?_
      refine RunsI.go 1 [.c 18, .c 19, .blk 1, .c 24, .lp 7, .blk 0, .c 25] (by kernel_rfl) ?_
      refine RunsI.region (by kernel_rfl) ?_
      refine RegI.pure 3 [0, 1, 5, 7, 8, 11, 12, 13] [(0, .slice A72 t74.length c73), (1, .func (.func 136) #[] #[.pointer (some ⟨b75, 0, none⟩)]), (5, .int .i64 t77), (7, .int .i64 t76), (8, .int .i64 t77), (11, .func (.func 136) #[] #[.pointer (some ⟨b75, 0, none⟩)]), (12, .slice A72 t74.length c73), (13, .int .i64 t77)] (by kernel_rfl) ?_
      obtain ⟨hc81, h⟩ := of_cond0 h
      refine RegI.op (by kernel_rfl) (OpE.idxOwnA 14 0 23 80 t77 hH (by kernel_rfl) rfl (by kernel_rfl) (by kernel_rfl) hc81 ?_)
      refine RegI.op (by kernel_rfl) (OpE.loadOwnA 15 0 80 80 t77 0 (o := (Int.toNat t77) * 2 + 0) hH (by kernel_rfl) rfl (by kernel_rfl) (by kernel_rfl) hc81 (fun cs82 hk83 => ?_))
      obtain ⟨_, _, rfl, rfl, rfl⟩ := hk83
      refine ⟨.agg #[.int .i64 ((rdD t74 t77).1), .int .u8 ((rdD t74 t77).2)], by kernel_rfl, ?_⟩
      refine RegI.enter 16 [0, 1, 5, 7, 8] [(0, .slice A72 t74.length c73), (1, .func (.func 136) #[] #[.pointer (some ⟨b75, 0, none⟩)]), (5, .int .i64 t77), (7, .int .i64 t76), (8, .int .i64 t77)] (by kernel_rfl) (by kernel_rfl) (by kernel_rfl) (by kernel_rfl) F136 136 rfl [.agg #[.int .i64 ((rdD t74 t77).1), .int .u8 ((rdD t74 t77).2)], .pointer (some ⟨b75, 0, none⟩)] (by kernel_rfl) (by kernel_rfl) ?_
      refine RunsI.go 1 [.c 1, .c 2] (by kernel_rfl) ?_
      refine RunsI.region (by kernel_rfl) ?_
      refine RegI.op (by kernel_rfl) (OpE.box 2 80 [.int .i64 ((rdD t74 t77).1), .int .u8 ((rdD t74 t77).2)] hH (by kernel_rfl) (by kernel_rfl) ?_)
      intro w84 b85 h86 hb87 hn88
      refine RegI.pure 1 [1, 2] [(1, .pointer (some ⟨b75, 0, none⟩)), (2, .pointer (some ⟨b85, 0, none⟩))] (by kernel_rfl) ?_
      refine RegI.done (by kernel_rfl) ?_
      refine RunsI.go 1 [.c 3, .c 4] (by kernel_rfl) ?_
      refine RunsI.region (by kernel_rfl) ?_
      refine RegI.pure 1 [1, 4] [(1, .pointer (some ⟨b75, 0, none⟩)), (4, .pointer (some ⟨b85, 0, none⟩))] (by kernel_rfl) ?_
      refine RegI.op (by kernel_rfl) (OpE.loadBox 5 6 3 b85 0 (.int .i64 ((rdD t74 t77).1)) h86 (by kernel_rfl) (by kernel_rfl) rfl (by kernel_rfl) ?_)
      refine RegI.op (by kernel_rfl) (OpE.loadBox 6 1 3 b75 0 (.int .i64 p1) h86 (by kernel_rfl) (by kernel_rfl) rfl (by kernel_rfl) ?_)
      refine RegI.pure 2 [3] [(3, .bool (((rdD t74 t77).1) == p1))] (by kernel_rfl) ?_
      refine RegI.done (by kernel_rfl) ?_
      refine RunsI.ret (.bool (((rdD t74 t77).1) == p1)) (by kernel_rfl) (by kernel_rfl) ?_
      refine cont_mk ?_
      refine RegI.done (by kernel_rfl) ?_
      rcases of_cond h with ⟨hc89, h⟩ | ⟨hc89, h⟩
      · skip
        refine RunsI.fix 16 true hc89 (by kernel_rfl) (by kernel_rfl) ?_
        refine RunsI.cond true 20 (by kernel_rfl) ?_
        refine RunsI.go 1 [.c 21, .c 22, .blk 1, .c 24, .lp 7, .blk 0, .c 25] (by kernel_rfl) ?_
        refine RunsI.region (by kernel_rfl) ?_
        refine RegI.pure 2 [4] [(4, .int .i64 t77)] (by kernel_rfl) ?_
        refine RegI.done (by kernel_rfl) ?_
        refine RunsI.ret (.int .i64 t77) (by kernel_rfl) (by kernel_rfl) ?_
        exact hk1 t77 w84 (Option.some.inj h).symm (h86.pick [2, 3, 4, 1, 5, 0] (by decide))
      · skip
        refine RunsI.fix 16 false hc89 (by kernel_rfl) (by kernel_rfl) ?_
        refine RunsI.cond false 23 (by kernel_rfl) ?_
        refine RunsI.go 1 [.blk 1, .c 24, .lp 7, .blk 0, .c 25] (by kernel_rfl) ?_
        refine RunsI.go 1 [.c 24, .lp 7, .blk 0, .c 25] (by kernel_rfl) ?_
        refine RunsI.region (by kernel_rfl) ?_
        refine RegI.pure 2 [0, 1, 7, 8] [(0, .slice A72 t74.length c73), (1, .func (.func 136) #[] #[.pointer (some ⟨b75, 0, none⟩)]), (7, .int .i64 t76), (8, .int .i64 (IntKind.wrap .i64 (t77 + 1)))] (by kernel_rfl) ?_
        refine RegI.done (by kernel_rfl) ?_
        refine RunsI.go 1 [.c 7, .lp 7, .blk 0, .c 25] (by kernel_rfl) ?_
        refine RunsI.only [0, 1, 7, 8] [(0, .slice A72 t74.length c73), (1, .func (.func 136) #[] #[.pointer (some ⟨b75, 0, none⟩)]), (7, .int .i64 t76), (8, .int .i64 (IntKind.wrap .i64 (t77 + 1)))] (by kernel_rfl) (by kernel_rfl) ?_
        exact ih (IntKind.wrap .i64 (t77 + 1)) w84 h (h86.pick [0, 1, 2, 3, 4, 5] (by decide))
    · skip
      refine RunsI.fix 9 false hc80 (by kernel_rfl) (by kernel_rfl) ?_
      refine RunsI.cond false 12 (by kernel_rfl) ?_
      refine RunsI.go 1 [.c 25] (by kernel_rfl) ?_
      refine RunsI.only [] [] (by kernel_rfl) (by kernel_rfl) ?_
      exact hk0 w (Option.some.inj h).symm (hH.pick [2, 3, 4, 1, 5, 0] (by decide))
def banks_Store_put_121.l2 (K : Nat) (p0_0 : List Int) (p0_1 : Int) (p0_2 : Int) (p0_3 : List (Int × Int)) (p1 : Int) (p2 : Int) : Nat → (List (Int × Int)) → Int → Int → Option ((List (Int × Int)) × Int)
  | 0, _, _, _ => none
  | k + 1, t107, t109, t110 => cond (decide (t110 < (t107.length : Int))) (cond (inR t110 t107.length) (cond (!(((rdD t107 t110).1) == p1)) (cond (inR t109 t107.length) (banks_Store_put_121.l2 K p0_0 p0_1 p0_2 p0_3 p1 p2 k (stD t107 t109 ((rdD t107 t110).1, (rdD t107 t110).2)) (IntKind.wrap .i64 (t109 + 1)) (IntKind.wrap .i64 (t110 + 1))) none) (banks_Store_put_121.l2 K p0_0 p0_1 p0_2 p0_3 p1 p2 k t107 t109 (IntKind.wrap .i64 (t110 + 1)))) none) (some (t107, t109))
set_option maxRecDepth 100000 in
theorem banks_Store_put_121.l2_ok (K : Nat) (M0 : Nat → Prop) (w0 : World) (pA0_0 : Option Addr) (pc0_0 : Nat) (pA0_3 : Option Addr) (pc0_3 : Nat) (p0_0 : List Int) (p0_1 : Int) (p0_2 : Int) (p0_3 : List (Int × Int)) (p1 : Int) (p2 : Int) (A105 : Option Addr) (c106 : Nat) (b108 : Nat) (b111 : Nat) (b112 : Nat) (R : Ending → World → Prop) (x : (List (Int × Int)) × Int) (hk0 : ∀ (t136 : List (Int × Int)) (t137 : Int) (w1 : World), x = (t136, t137) → Holds M0 w0 w1 [own (Rp.pair (Rp.int .i64) (Rp.int .u8)) 80 (.slice A105 t136.length c106) t136, box b111 25 [.slice pA0_0 p0_0.length pc0_0, .int .i64 p0_1, .int .i64 p0_2, .slice pA0_3 p0_3.length pc0_3], sl (Rp.int .u8) (.slice pA0_0 p0_0.length pc0_0) p0_0, sl (Rp.pair (Rp.int .i64) (Rp.int .u8)) (.slice pA0_3 p0_3.length pc0_3) p0_3, box b108 3 [.int .i64 p1], box b112 25 [.slice none 0 0, .int .i64 0, .int .i64 0, .slice none 0 0]] → RunsI F137 [.c 35] [(0, .slice A105 t136.length c106), (5, .int .i64 t137)] w1 R) :
    ∀ (k : Nat) (t107 : List (Int × Int)) (t109 : Int) (t110 : Int) (w : World), banks_Store_put_121.l2 K p0_0 p0_1 p0_2 p0_3 p1 p2 k t107 t109 t110 = some x → Holds M0 w0 w [own (Rp.pair (Rp.int .i64) (Rp.int .u8)) 80 (.slice A105 t107.length c106) t107, box b108 3 [.int .i64 p1], box b111 25 [.slice pA0_0 p0_0.length pc0_0, .int .i64 p0_1, .int .i64 p0_2, .slice pA0_3 p0_3.length pc0_3], sl (Rp.int .u8) (.slice pA0_0 p0_0.length pc0_0) p0_0, sl (Rp.pair (Rp.int .i64) (Rp.int .u8)) (.slice pA0_3 p0_3.length pc0_3) p0_3, box b112 25 [.slice none 0 0, .int .i64 0, .int .i64 0, .slice none 0 0]] → RunsI F137 [.c 17, .lp 17, .blk 0, .c 35] [(0, .slice A105 t107.length c106), (1, .func (.func 136) #[] #[.pointer (some ⟨b108, 0, none⟩)]), (5, .int .i64 t109), (6, .int .i64 t110)] w R := by
  intro k
  induction k with
  | zero => intro t107 t109 t110 w h hH; exact absurd h (by simp [banks_Store_put_121.l2])
  | succ k ih =>
    intro t107 t109 t110 w h hH
    rw [banks_Store_put_121.l2.eq_2] at h
    refine RunsI.go 1 [.c 18, .c 23, .lp 17, .blk 0, .c 35] (by kernel_rfl) ?_
    refine RunsI.go 1 [.c 19, .c 20, .c 23, .lp 17, .blk 0, .c 35] (by kernel_rfl) ?_
    refine RunsI.region (by kernel_rfl) ?_
    refine RegI.pure 4 [0, 1, 5, 6, 19] [(0, .slice A105 t107.length c106), (1, .func (.func 136) #[] #[.pointer (some ⟨b108, 0, none⟩)]), (5, .int .i64 t109), (6, .int .i64 t110), (19, .bool (decide (t110 < (t107.length : Int))))] (by kernel_rfl) ?_
    refine RegI.done (by kernel_rfl) ?_
    rcases of_cond h with ⟨hc113, h⟩ | ⟨hc113, h⟩
    · skip
      refine RunsI.fix 19 true hc113 (by kernel_rfl) (by kernel_rfl) ?_
      refine RunsI.cond true 21 (by kernel_rfl) ?_
      refine RunsI.go 1 [.c 23, .lp 17, .blk 0, .c 35] (by kernel_rfl) ?_
      refine RunsI.go 3 [.c 26, .c 27, .blk 1, .c 34, .lp 17, .blk 0, .c 35] (by kernel_rfl) ?_
      refine RunsI.region (by kernel_rfl) ?_
      refine RegI.pure 2 [0, 1, 5, 6, 22, 23] [(0, .slice A105 t107.length c106), (1, .func (.func 136) #[] #[.pointer (some ⟨b108, 0, none⟩)]), (5, .int .i64 t109), (6, .int .i64 t110), (22, .slice A105 t107.length c106), (23, .int .i64 t110)] (by kernel_rfl) ?_
      obtain ⟨hc114, h⟩ := of_cond0 h
      refine RegI.op (by kernel_rfl) (OpE.idxOwnA 24 0 23 80 t110 hH (by kernel_rfl) rfl (by kernel_rfl) (by kernel_rfl) hc114 ?_)
      refine RegI.op (by kernel_rfl) (OpE.loadOwnA 25 0 80 80 t110 0 (o := (Int.toNat t110) * 2 + 0) hH (by kernel_rfl) rfl (by kernel_rfl) (by kernel_rfl) hc114 (fun cs115 hk116 => ?_))
      obtain ⟨_, _, rfl, rfl, rfl⟩ := hk116
      refine ⟨.agg #[.int .i64 ((rdD t107 t110).1), .int .u8 ((rdD t107 t110).2)], by kernel_rfl, ?_⟩
      refine RegI.op (by kernel_rfl) (OpE.box 7 80 [.int .i64 0, .int .u8 0] hH (by kernel_rfl) (by kernel_rfl) ?_)
      intro w117 b118 h119 hb120 hn121
      refine RegI.op (by kernel_rfl) (OpE.storeBox 6 80 b118 0 (.agg #[.int .i64 ((rdD t107 t110).1), .int .u8 ((rdD t107 t110).2)]) [.int .i64 ((rdD t107 t110).1), .int .u8 ((rdD t107 t110).2)] h119 (by kernel_rfl) (by kernel_rfl) rfl (by kernel_rfl) (by kernel_rfl) (by kernel_rfl) ?_)
      intro w122 h123 hk124
      refine RegI.done (by kernel_rfl) ?_
      refine RunsI.go 1 [.c 28, .c 29, .blk 1, .c 34, .lp 17, .blk 0, .c 35] (by kernel_rfl) ?_
      refine RunsI.region (by kernel_rfl) ?_
      refine RegI.pure 1 [0, 1, 5, 6, 7, 26] [(0, .slice A105 t107.length c106), (1, .func (.func 136) #[] #[.pointer (some ⟨b108, 0, none⟩)]), (5, .int .i64 t109), (6, .int .i64 t110), (7, .pointer (some ⟨b118, 0, none⟩)), (26, .func (.func 136) #[] #[.pointer (some ⟨b108, 0, none⟩)])] (by kernel_rfl) ?_
      refine RegI.op (by kernel_rfl) (OpE.loadBox 27 6 80 b118 0 (.agg #[.int .i64 ((rdD t107 t110).1), .int .u8 ((rdD t107 t110).2)]) h123 (by kernel_rfl) (by kernel_rfl) rfl (by kernel_rfl) ?_)
      refine RegI.enter 28 [0, 1, 5, 6, 7] [(0, .slice A105 t107.length c106), (1, .func (.func 136) #[] #[.pointer (some ⟨b108, 0, none⟩)]), (5, .int .i64 t109), (6, .int .i64 t110), (7, .pointer (some ⟨b118, 0, none⟩))] (by kernel_rfl) (by kernel_rfl) (by kernel_rfl) (by kernel_rfl) F136 136 rfl [.agg #[.int .i64 ((rdD t107 t110).1), .int .u8 ((rdD t107 t110).2)], .pointer (some ⟨b108, 0, none⟩)] (by kernel_rfl) (by kernel_rfl) ?_
      refine RunsI.go 1 [.c 1, .c 2] (by kernel_rfl) ?_
      refine RunsI.region (by kernel_rfl) ?_
      refine RegI.op (by kernel_rfl) (OpE.box 2 80 [.int .i64 ((rdD t107 t110).1), .int .u8 ((rdD t107 t110).2)] h123 (by kernel_rfl) (by kernel_rfl) ?_)
      intro w125 b126 h127 hb128 hn129
      refine RegI.pure 1 [1, 2] [(1, .pointer (some ⟨b108, 0, none⟩)), (2, .pointer (some ⟨b126, 0, none⟩))] (by kernel_rfl) ?_
      refine RegI.done (by kernel_rfl) ?_
      refine RunsI.go 1 [.c 3, .c 4] (by kernel_rfl) ?_
      refine RunsI.region (by kernel_rfl) ?_
      refine RegI.pure 1 [1, 4] [(1, .pointer (some ⟨b108, 0, none⟩)), (4, .pointer (some ⟨b126, 0, none⟩))] (by kernel_rfl) ?_
      refine RegI.op (by kernel_rfl) (OpE.loadBox 5 7 3 b126 0 (.int .i64 ((rdD t107 t110).1)) h127 (by kernel_rfl) (by kernel_rfl) rfl (by kernel_rfl) ?_)
      refine RegI.op (by kernel_rfl) (OpE.loadBox 6 1 3 b108 0 (.int .i64 p1) h127 (by kernel_rfl) (by kernel_rfl) rfl (by kernel_rfl) ?_)
      refine RegI.pure 2 [3] [(3, .bool (((rdD t107 t110).1) == p1))] (by kernel_rfl) ?_
      refine RegI.done (by kernel_rfl) ?_
      refine RunsI.ret (.bool (((rdD t107 t110).1) == p1)) (by kernel_rfl) (by kernel_rfl) ?_
      refine cont_mk ?_
      refine RegI.pure 1 [0, 1, 5, 6, 7, 29] [(0, .slice A105 t107.length c106), (1, .func (.func 136) #[] #[.pointer (some ⟨b108, 0, none⟩)]), (5, .int .i64 t109), (6, .int .i64 t110), (7, .pointer (some ⟨b118, 0, none⟩)), (29, .bool (!(((rdD t107 t110).1) == p1)))] (by kernel_rfl) ?_
      refine RegI.done (by kernel_rfl) ?_
      rcases of_cond h with ⟨hc130, h⟩ | ⟨hc130, h⟩
      · skip
        refine RunsI.fix 29 true hc130 (by kernel_rfl) (by kernel_rfl) ?_
        refine RunsI.cond true 30 (by kernel_rfl) ?_
        refine RunsI.go 1 [.c 31, .c 32, .blk 1, .c 34, .lp 17, .blk 0, .c 35] (by kernel_rfl) ?_
        refine RunsI.region (by kernel_rfl) ?_
        refine RegI.pure 2 [0, 1, 5, 6, 7, 30, 31] [(0, .slice A105 t107.length c106), (1, .func (.func 136) #[] #[.pointer (some ⟨b108, 0, none⟩)]), (5, .int .i64 t109), (6, .int .i64 t110), (7, .pointer (some ⟨b118, 0, none⟩)), (30, .slice A105 t107.length c106), (31, .int .i64 t109)] (by kernel_rfl) ?_
        refine RegI.op (by kernel_rfl) (OpE.loadBox 32 6 80 b118 0 (.agg #[.int .i64 ((rdD t107 t110).1), .int .u8 ((rdD t107 t110).2)]) h127 (by kernel_rfl) (by kernel_rfl) rfl (by kernel_rfl) ?_)
        obtain ⟨hc131, h⟩ := of_cond0 h
        refine RegI.op (by kernel_rfl) (OpE.idxOwnA 33 0 23 80 t109 h127 (by kernel_rfl) rfl (by kernel_rfl) (by kernel_rfl) hc131 ?_)
        refine RegI.op (by kernel_rfl) (OpE.storeOwnA 0 80 80 t109 0 (.agg #[.int .i64 ((rdD t107 t110).1), .int .u8 ((rdD t107 t110).2)]) (o := (Int.toNat t109) * 2 + 0) ((rdD t107 t110).1, (rdD t107 t110).2) h127 (by kernel_rfl) (by kernel_rfl) rfl (by kernel_rfl) (by kernel_rfl) (by kernel_rfl) hc131 (fun _ hk => by obtain ⟨_, _, rfl, rfl, rfl⟩ := hk; exact ⟨[_], [_], rfl, rfl, rfl⟩) ?_)
        intro w132 h133 hk134
        refine RegI.done (by kernel_rfl) ?_
        refine RunsI.region (by kernel_rfl) ?_
        refine RegI.pure 3 [0, 1, 5, 6] [(0, .slice A105 t107.length c106), (1, .func (.func 136) #[] #[.pointer (some ⟨b108, 0, none⟩)]), (5, .int .i64 (IntKind.wrap .i64 (t109 + 1))), (6, .int .i64 t110)] (by kernel_rfl) ?_
        refine RegI.done (by kernel_rfl) ?_
        refine RunsI.go 1 [.c 34, .lp 17, .blk 0, .c 35] (by kernel_rfl) ?_
        refine RunsI.region (by kernel_rfl) ?_
        refine RegI.pure 3 [0, 1, 5, 6] [(0, .slice A105 t107.length c106), (1, .func (.func 136) #[] #[.pointer (some ⟨b108, 0, none⟩)]), (5, .int .i64 (IntKind.wrap .i64 (t109 + 1))), (6, .int .i64 (IntKind.wrap .i64 (t110 + 1)))] (by kernel_rfl) ?_
        refine RegI.done (by kernel_rfl) ?_
        refine RunsI.go 1 [.c 17, .lp 17, .blk 0, .c 35] (by kernel_rfl) ?_
        refine RunsI.only [0, 1, 5, 6] [(0, .slice A105 t107.length c106), (1, .func (.func 136) #[] #[.pointer (some ⟨b108, 0, none⟩)]), (5, .int .i64 (IntKind.wrap .i64 (t109 + 1))), (6, .int .i64 (IntKind.wrap .i64 (t110 + 1)))] (by kernel_rfl) (by kernel_rfl) ?_
        have h135 : Holds M0 w0 w132 [own (Rp.pair (Rp.int .i64) (Rp.int .u8)) 80 (.slice A105 ((stD t107 t109 ((rdD t107 t110).1, (rdD t107 t110).2)).length) c106) (stD t107 t109 ((rdD t107 t110).1, (rdD t107 t110).2)), box b108 3 [.int .i64 p1], box b111 25 [.slice pA0_0 p0_0.length pc0_0, .int .i64 p0_1, .int .i64 p0_2, .slice pA0_3 p0_3.length pc0_3], sl (Rp.int .u8) (.slice pA0_0 p0_0.length pc0_0) p0_0, sl (Rp.pair (Rp.int .i64) (Rp.int .u8)) (.slice pA0_3 p0_3.length pc0_3) p0_3, box b112 25 [.slice none 0 0, .int .i64 0, .int .i64 0, .slice none 0 0], box b118 80 [.int .i64 ((rdD t107 t110).1), .int .u8 ((rdD t107 t110).2)], box b126 80 [.int .i64 ((rdD t107 t110).1), .int .u8 ((rdD t107 t110).2)]] := by have hY : Holds M0 w0 w132 [own (Rp.pair (Rp.int .i64) (Rp.int .u8)) 80 (.slice A105 t107.length c106) (stD t107 t109 ((rdD t107 t110).1, (rdD t107 t110).2)), box b108 3 [.int .i64 p1], box b111 25 [.slice pA0_0 p0_0.length pc0_0, .int .i64 p0_1, .int .i64 p0_2, .slice pA0_3 p0_3.length pc0_3], sl (Rp.int .u8) (.slice pA0_0 p0_0.length pc0_0) p0_0, sl (Rp.pair (Rp.int .i64) (Rp.int .u8)) (.slice pA0_3 p0_3.length pc0_3) p0_3, box b112 25 [.slice none 0 0, .int .i64 0, .int .i64 0, .slice none 0 0], box b118 80 [.int .i64 ((rdD t107 t110).1), .int .u8 ((rdD t107 t110).2)], box b126 80 [.int .i64 ((rdD t107 t110).1), .int .u8 ((rdD t107 t110).2)]] := h133; simpa only [stD_length] using hY
        refine RunsI.is [(0, .slice A105 ((stD t107 t109 ((rdD t107 t110).1, (rdD t107 t110).2)).length) c106), (1, .func (.func 136) #[] #[.pointer (some ⟨b108, 0, none⟩)]), (5, .int .i64 (IntKind.wrap .i64 (t109 + 1))), (6, .int .i64 (IntKind.wrap .i64 (t110 + 1)))] (by simp only [stD_length]) ?_
        refine RunsI.only [0, 1, 5, 6] [(0, .slice A105 ((stD t107 t109 ((rdD t107 t110).1, (rdD t107 t110).2)).length) c106), (1, .func (.func 136) #[] #[.pointer (some ⟨b108, 0, none⟩)]), (5, .int .i64 (IntKind.wrap .i64 (t109 + 1))), (6, .int .i64 (IntKind.wrap .i64 (t110 + 1)))] (by kernel_rfl) (by kernel_rfl) ?_
        exact ih (stD t107 t109 ((rdD t107 t110).1, (rdD t107 t110).2)) (IntKind.wrap .i64 (t109 + 1)) (IntKind.wrap .i64 (t110 + 1)) w132 h (h135.pick [0, 1, 2, 3, 4, 5] (by decide))
      · skip
        refine RunsI.fix 29 false hc130 (by kernel_rfl) (by kernel_rfl) ?_
        refine RunsI.cond false 33 (by kernel_rfl) ?_
        refine RunsI.go 1 [.blk 1, .c 34, .lp 17, .blk 0, .c 35] (by kernel_rfl) ?_
        refine RunsI.go 1 [.c 34, .lp 17, .blk 0, .c 35] (by kernel_rfl) ?_
        refine RunsI.region (by kernel_rfl) ?_
        refine RegI.pure 3 [0, 1, 5, 6] [(0, .slice A105 t107.length c106), (1, .func (.func 136) #[] #[.pointer (some ⟨b108, 0, none⟩)]), (5, .int .i64 t109), (6, .int .i64 (IntKind.wrap .i64 (t110 + 1)))] (by kernel_rfl) ?_
        refine RegI.done (by kernel_rfl) ?_
        refine RunsI.go 1 [.c 17, .lp 17, .blk 0, .c 35] (by kernel_rfl) ?_
        refine RunsI.only [0, 1, 5, 6] [(0, .slice A105 t107.length c106), (1, .func (.func 136) #[] #[.pointer (some ⟨b108, 0, none⟩)]), (5, .int .i64 t109), (6, .int .i64 (IntKind.wrap .i64 (t110 + 1)))] (by kernel_rfl) (by kernel_rfl) ?_
        exact ih t107 t109 (IntKind.wrap .i64 (t110 + 1)) w125 h (h127.pick [0, 1, 2, 3, 4, 5] (by decide))
    · skip
      refine RunsI.fix 19 false hc113 (by kernel_rfl) (by kernel_rfl) ?_
      refine RunsI.cond false 22 (by kernel_rfl) ?_
      refine RunsI.go 1 [.c 35] (by kernel_rfl) ?_
      refine RunsI.only [0, 5] [(0, .slice A105 t107.length c106), (5, .int .i64 t109)] (by kernel_rfl) (by kernel_rfl) ?_
      exact hk0 t107 t109 w (Option.some.inj h).symm (hH.pick [0, 2, 3, 4, 1, 5] (by decide))
def banks_Store_put_121.l3 (K : Nat) (p0_0 : List Int) (p0_1 : Int) (p0_2 : Int) (p0_3 : List (Int × Int)) (p1 : Int) (p2 : Int) (t175 : List (Int × Int)) (t177 : Int) (t183 : List (Int × Int)) : Nat → Int → Option (Lp Int Unit)
  | 0, _ => none
  | k + 1, t178 => cond (decide (t178 < t177)) (cond (inR t178 t175.length) (cond (((rdD t175 t178).1) == p1) (some (Lp.ret t178)) (banks_Store_put_121.l3 K p0_0 p0_1 p0_2 p0_3 p1 p2 t175 t177 t183 k (IntKind.wrap .i64 (t178 + 1)))) none) (some (Lp.go ()))
set_option maxRecDepth 100000 in
theorem banks_Store_put_121.l3_ok (K : Nat) (M0 : Nat → Prop) (w0 : World) (pA0_0 : Option Addr) (pc0_0 : Nat) (pA0_3 : Option Addr) (pc0_3 : Nat) (p0_0 : List Int) (p0_1 : Int) (p0_2 : Int) (p0_3 : List (Int × Int)) (p1 : Int) (p2 : Int) (t175 : List (Int × Int)) (t177 : Int) (t183 : List (Int × Int)) (A173 : Option Addr) (c174 : Nat) (b176 : Nat) (b179 : Nat) (b180 : Nat) (A181 : Option Addr) (c182 : Nat) (R : Ending → World → Prop) (x : Lp Int Unit) (hk0 : ∀ (w1 : World), x = Lp.go () → Holds M0 w0 w1 [box b179 25 [.slice pA0_0 p0_0.length pc0_0, .int .i64 p0_1, .int .i64 p0_2, .slice pA0_3 p0_3.length pc0_3], sl (Rp.int .u8) (.slice pA0_0 p0_0.length pc0_0) p0_0, sl (Rp.pair (Rp.int .i64) (Rp.int .u8)) (.slice pA0_3 p0_3.length pc0_3) p0_3, box b176 3 [.int .i64 p1], box b180 25 [.slice none 0 0, .int .i64 0, .int .i64 0, .slice none 0 0], own (Rp.pair (Rp.int .i64) (Rp.int .u8)) 80 (.slice A181 t183.length c182) t183, own (Rp.pair (Rp.int .i64) (Rp.int .u8)) 80 (.slice A173 t175.length c174) t175] → RunsI F119 [.c 25] [] w1 R) (hk1 : ∀ (t194 : Int) (w1 : World), x = Lp.ret t194 → Holds M0 w0 w1 [box b179 25 [.slice pA0_0 p0_0.length pc0_0, .int .i64 p0_1, .int .i64 p0_2, .slice pA0_3 p0_3.length pc0_3], sl (Rp.int .u8) (.slice pA0_0 p0_0.length pc0_0) p0_0, sl (Rp.pair (Rp.int .i64) (Rp.int .u8)) (.slice pA0_3 p0_3.length pc0_3) p0_3, box b176 3 [.int .i64 p1], box b180 25 [.slice none 0 0, .int .i64 0, .int .i64 0, .slice none 0 0], own (Rp.pair (Rp.int .i64) (Rp.int .u8)) 80 (.slice A181 t183.length c182) t183, own (Rp.pair (Rp.int .i64) (Rp.int .u8)) 80 (.slice A173 t175.length c174) t175] → R (.returned (.int .i64 t194)) w1) :
    ∀ (k : Nat) (t178 : Int) (w : World), banks_Store_put_121.l3 K p0_0 p0_1 p0_2 p0_3 p1 p2 t175 t177 t183 k t178 = some x → Holds M0 w0 w [own (Rp.pair (Rp.int .i64) (Rp.int .u8)) 80 (.slice A173 t175.length c174) t175, box b176 3 [.int .i64 p1], box b179 25 [.slice pA0_0 p0_0.length pc0_0, .int .i64 p0_1, .int .i64 p0_2, .slice pA0_3 p0_3.length pc0_3], sl (Rp.int .u8) (.slice pA0_0 p0_0.length pc0_0) p0_0, sl (Rp.pair (Rp.int .i64) (Rp.int .u8)) (.slice pA0_3 p0_3.length pc0_3) p0_3, box b180 25 [.slice none 0 0, .int .i64 0, .int .i64 0, .slice none 0 0], own (Rp.pair (Rp.int .i64) (Rp.int .u8)) 80 (.slice A181 t183.length c182) t183] → RunsI F119 [.c 7, .lp 7, .blk 0, .c 25] [(0, .slice A173 t175.length c174), (1, .func (.func 136) #[] #[.pointer (some ⟨b176, 0, none⟩)]), (7, .int .i64 t177), (8, .int .i64 t178)] w R := by
  intro k
  induction k with
  | zero => intro t178 w h hH; exact absurd h (by simp [banks_Store_put_121.l3])
  | succ k ih =>
    intro t178 w h hH
    rw [banks_Store_put_121.l3.eq_2] at h
    refine RunsI.go 1 [.c 8, .c 9, .lp 7, .blk 0, .c 25] (by kernel_rfl) ?_
    refine RunsI.region (by kernel_rfl) ?_
    refine RegI.pure 1 [0, 1, 7, 8, 9] [(0, .slice A173 t175.length c174), (1, .func (.func 136) #[] #[.pointer (some ⟨b176, 0, none⟩)]), (7, .int .i64 t177), (8, .int .i64 t178), (9, .bool (decide (t178 < t177)))] (by kernel_rfl) ?_
    refine RegI.done (by kernel_rfl) ?_
    refine RunsI.go 1 [.c 10, .c 13, .lp 7, .blk 0, .c 25] (by kernel_rfl) ?_
    rcases of_cond h with ⟨hc184, h⟩ | ⟨hc184, h⟩
    · skip
      refine RunsI.fix 9 true hc184 (by kernel_rfl) (by kernel_rfl) ?_
      refine RunsI.cond true 11 (by kernel_rfl) ?_
      refine RunsI.go 1 [.c 13, .lp 7, .blk 0, .c 25] (by kernel_rfl) ?_
      refine RunsI.go 3 [.c 16, .c 17, .blk 1, .c 24, .lp 7, .blk 0, .c 25] (by kernel_rfl) ?_
      refine RunsI.region (by kernel_rfl) ?_
      refine RegI.pure 2 [0, 1, 5, 7, 8] [(0, .slice A173 t175.length c174), (1, .func (.func 136) #[] #[.pointer (some ⟨b176, 0, none⟩)]), (5, .int .i64 t178), (7, .int .i64 t177), (8, .int .i64 t178)] (by kernel_rfl) ?_
      refine RegI.done (by kernel_rfl) ?_
      refine RunsI.go 1 [.c 18, .c 19, .blk 1, .c 24, .lp 7, .blk 0, .c 25] (by kernel_rfl) ?_
      refine RunsI.region (by kernel_rfl) ?_
      refine RegI.pure 3 [0, 1, 5, 7, 8, 11, 12, 13] [(0, .slice A173 t175.length c174), (1, .func (.func 136) #[] #[.pointer (some ⟨b176, 0, none⟩)]), (5, .int .i64 t178), (7, .int .i64 t177), (8, .int .i64 t178), (11, .func (.func 136) #[] #[.pointer (some ⟨b176, 0, none⟩)]), (12, .slice A173 t175.length c174), (13, .int .i64 t178)] (by kernel_rfl) ?_
      obtain ⟨hc185, h⟩ := of_cond0 h
      refine RegI.op (by kernel_rfl) (OpE.idxOwnA 14 0 23 80 t178 hH (by kernel_rfl) rfl (by kernel_rfl) (by kernel_rfl) hc185 ?_)
      refine RegI.op (by kernel_rfl) (OpE.loadOwnA 15 0 80 80 t178 0 (o := (Int.toNat t178) * 2 + 0) hH (by kernel_rfl) rfl (by kernel_rfl) (by kernel_rfl) hc185 (fun cs186 hk187 => ?_))
      obtain ⟨_, _, rfl, rfl, rfl⟩ := hk187
      refine ⟨.agg #[.int .i64 ((rdD t175 t178).1), .int .u8 ((rdD t175 t178).2)], by kernel_rfl, ?_⟩
      refine RegI.enter 16 [0, 1, 5, 7, 8] [(0, .slice A173 t175.length c174), (1, .func (.func 136) #[] #[.pointer (some ⟨b176, 0, none⟩)]), (5, .int .i64 t178), (7, .int .i64 t177), (8, .int .i64 t178)] (by kernel_rfl) (by kernel_rfl) (by kernel_rfl) (by kernel_rfl) F136 136 rfl [.agg #[.int .i64 ((rdD t175 t178).1), .int .u8 ((rdD t175 t178).2)], .pointer (some ⟨b176, 0, none⟩)] (by kernel_rfl) (by kernel_rfl) ?_
      refine RunsI.go 1 [.c 1, .c 2] (by kernel_rfl) ?_
      refine RunsI.region (by kernel_rfl) ?_
      refine RegI.op (by kernel_rfl) (OpE.box 2 80 [.int .i64 ((rdD t175 t178).1), .int .u8 ((rdD t175 t178).2)] hH (by kernel_rfl) (by kernel_rfl) ?_)
      intro w188 b189 h190 hb191 hn192
      refine RegI.pure 1 [1, 2] [(1, .pointer (some ⟨b176, 0, none⟩)), (2, .pointer (some ⟨b189, 0, none⟩))] (by kernel_rfl) ?_
      refine RegI.done (by kernel_rfl) ?_
      refine RunsI.go 1 [.c 3, .c 4] (by kernel_rfl) ?_
      refine RunsI.region (by kernel_rfl) ?_
      refine RegI.pure 1 [1, 4] [(1, .pointer (some ⟨b176, 0, none⟩)), (4, .pointer (some ⟨b189, 0, none⟩))] (by kernel_rfl) ?_
      refine RegI.op (by kernel_rfl) (OpE.loadBox 5 7 3 b189 0 (.int .i64 ((rdD t175 t178).1)) h190 (by kernel_rfl) (by kernel_rfl) rfl (by kernel_rfl) ?_)
      refine RegI.op (by kernel_rfl) (OpE.loadBox 6 1 3 b176 0 (.int .i64 p1) h190 (by kernel_rfl) (by kernel_rfl) rfl (by kernel_rfl) ?_)
      refine RegI.pure 2 [3] [(3, .bool (((rdD t175 t178).1) == p1))] (by kernel_rfl) ?_
      refine RegI.done (by kernel_rfl) ?_
      refine RunsI.ret (.bool (((rdD t175 t178).1) == p1)) (by kernel_rfl) (by kernel_rfl) ?_
      refine cont_mk ?_
      refine RegI.done (by kernel_rfl) ?_
      rcases of_cond h with ⟨hc193, h⟩ | ⟨hc193, h⟩
      · skip
        refine RunsI.fix 16 true hc193 (by kernel_rfl) (by kernel_rfl) ?_
        refine RunsI.cond true 20 (by kernel_rfl) ?_
        refine RunsI.go 1 [.c 21, .c 22, .blk 1, .c 24, .lp 7, .blk 0, .c 25] (by kernel_rfl) ?_
        refine RunsI.region (by kernel_rfl) ?_
        refine RegI.pure 2 [4] [(4, .int .i64 t178)] (by kernel_rfl) ?_
        refine RegI.done (by kernel_rfl) ?_
        refine RunsI.ret (.int .i64 t178) (by kernel_rfl) (by kernel_rfl) ?_
        exact hk1 t178 w188 (Option.some.inj h).symm (h190.pick [2, 3, 4, 1, 5, 6, 0] (by decide))
      · skip
        refine RunsI.fix 16 false hc193 (by kernel_rfl) (by kernel_rfl) ?_
        refine RunsI.cond false 23 (by kernel_rfl) ?_
        refine RunsI.go 1 [.blk 1, .c 24, .lp 7, .blk 0, .c 25] (by kernel_rfl) ?_
        refine RunsI.go 1 [.c 24, .lp 7, .blk 0, .c 25] (by kernel_rfl) ?_
        refine RunsI.region (by kernel_rfl) ?_
        refine RegI.pure 2 [0, 1, 7, 8] [(0, .slice A173 t175.length c174), (1, .func (.func 136) #[] #[.pointer (some ⟨b176, 0, none⟩)]), (7, .int .i64 t177), (8, .int .i64 (IntKind.wrap .i64 (t178 + 1)))] (by kernel_rfl) ?_
        refine RegI.done (by kernel_rfl) ?_
        refine RunsI.go 1 [.c 7, .lp 7, .blk 0, .c 25] (by kernel_rfl) ?_
        refine RunsI.only [0, 1, 7, 8] [(0, .slice A173 t175.length c174), (1, .func (.func 136) #[] #[.pointer (some ⟨b176, 0, none⟩)]), (7, .int .i64 t177), (8, .int .i64 (IntKind.wrap .i64 (t178 + 1)))] (by kernel_rfl) (by kernel_rfl) ?_
        exact ih (IntKind.wrap .i64 (t178 + 1)) w188 h (h190.pick [0, 1, 2, 3, 4, 5, 6] (by decide))
    · skip
      refine RunsI.fix 9 false hc184 (by kernel_rfl) (by kernel_rfl) ?_
      refine RunsI.cond false 12 (by kernel_rfl) ?_
      refine RunsI.go 1 [.c 25] (by kernel_rfl) ?_
      refine RunsI.only [] [] (by kernel_rfl) (by kernel_rfl) ?_
      exact hk0 w (Option.some.inj h).symm (hH.pick [2, 3, 4, 1, 5, 6, 0] (by decide))
def banks_Store_put_121.l4 (K : Nat) (p0_0 : List Int) (p0_1 : Int) (p0_2 : Int) (p0_3 : List (Int × Int)) (p1 : Int) (p2 : Int) (t219 : List (Int × Int)) : Nat → (List (Int × Int)) → Int → Int → Option ((List (Int × Int)) × Int)
  | 0, _, _, _ => none
  | k + 1, t211, t213, t214 => cond (decide (t214 < (t211.length : Int))) (cond (inR t214 t211.length) (cond (!(((rdD t211 t214).1) == p1)) (cond (inR t213 t211.length) (banks_Store_put_121.l4 K p0_0 p0_1 p0_2 p0_3 p1 p2 t219 k (stD t211 t213 ((rdD t211 t214).1, (rdD t211 t214).2)) (IntKind.wrap .i64 (t213 + 1)) (IntKind.wrap .i64 (t214 + 1))) none) (banks_Store_put_121.l4 K p0_0 p0_1 p0_2 p0_3 p1 p2 t219 k t211 t213 (IntKind.wrap .i64 (t214 + 1)))) none) (some (t211, t213))
set_option maxRecDepth 100000 in
theorem banks_Store_put_121.l4_ok (K : Nat) (M0 : Nat → Prop) (w0 : World) (pA0_0 : Option Addr) (pc0_0 : Nat) (pA0_3 : Option Addr) (pc0_3 : Nat) (p0_0 : List Int) (p0_1 : Int) (p0_2 : Int) (p0_3 : List (Int × Int)) (p1 : Int) (p2 : Int) (t219 : List (Int × Int)) (A209 : Option Addr) (c210 : Nat) (b212 : Nat) (b215 : Nat) (b216 : Nat) (A217 : Option Addr) (c218 : Nat) (R : Ending → World → Prop) (x : (List (Int × Int)) × Int) (hk0 : ∀ (t243 : List (Int × Int)) (t244 : Int) (w1 : World), x = (t243, t244) → Holds M0 w0 w1 [own (Rp.pair (Rp.int .i64) (Rp.int .u8)) 80 (.slice A209 t243.length c210) t243, box b215 25 [.slice pA0_0 p0_0.length pc0_0, .int .i64 p0_1, .int .i64 p0_2, .slice pA0_3 p0_3.length pc0_3], sl (Rp.int .u8) (.slice pA0_0 p0_0.length pc0_0) p0_0, sl (Rp.pair (Rp.int .i64) (Rp.int .u8)) (.slice pA0_3 p0_3.length pc0_3) p0_3, box b212 3 [.int .i64 p1], box b216 25 [.slice none 0 0, .int .i64 0, .int .i64 0, .slice none 0 0], own (Rp.pair (Rp.int .i64) (Rp.int .u8)) 80 (.slice A217 t219.length c218) t219] → RunsI F137 [.c 35] [(0, .slice A209 t243.length c210), (5, .int .i64 t244)] w1 R) :
    ∀ (k : Nat) (t211 : List (Int × Int)) (t213 : Int) (t214 : Int) (w : World), banks_Store_put_121.l4 K p0_0 p0_1 p0_2 p0_3 p1 p2 t219 k t211 t213 t214 = some x → Holds M0 w0 w [own (Rp.pair (Rp.int .i64) (Rp.int .u8)) 80 (.slice A209 t211.length c210) t211, box b212 3 [.int .i64 p1], box b215 25 [.slice pA0_0 p0_0.length pc0_0, .int .i64 p0_1, .int .i64 p0_2, .slice pA0_3 p0_3.length pc0_3], sl (Rp.int .u8) (.slice pA0_0 p0_0.length pc0_0) p0_0, sl (Rp.pair (Rp.int .i64) (Rp.int .u8)) (.slice pA0_3 p0_3.length pc0_3) p0_3, box b216 25 [.slice none 0 0, .int .i64 0, .int .i64 0, .slice none 0 0], own (Rp.pair (Rp.int .i64) (Rp.int .u8)) 80 (.slice A217 t219.length c218) t219] → RunsI F137 [.c 17, .lp 17, .blk 0, .c 35] [(0, .slice A209 t211.length c210), (1, .func (.func 136) #[] #[.pointer (some ⟨b212, 0, none⟩)]), (5, .int .i64 t213), (6, .int .i64 t214)] w R := by
  intro k
  induction k with
  | zero => intro t211 t213 t214 w h hH; exact absurd h (by simp [banks_Store_put_121.l4])
  | succ k ih =>
    intro t211 t213 t214 w h hH
    rw [banks_Store_put_121.l4.eq_2] at h
    refine RunsI.go 1 [.c 18, .c 23, .lp 17, .blk 0, .c 35] (by kernel_rfl) ?_
    refine RunsI.go 1 [.c 19, .c 20, .c 23, .lp 17, .blk 0, .c 35] (by kernel_rfl) ?_
    refine RunsI.region (by kernel_rfl) ?_
    refine RegI.pure 4 [0, 1, 5, 6, 19] [(0, .slice A209 t211.length c210), (1, .func (.func 136) #[] #[.pointer (some ⟨b212, 0, none⟩)]), (5, .int .i64 t213), (6, .int .i64 t214), (19, .bool (decide (t214 < (t211.length : Int))))] (by kernel_rfl) ?_
    refine RegI.done (by kernel_rfl) ?_
    rcases of_cond h with ⟨hc220, h⟩ | ⟨hc220, h⟩
    · skip
      refine RunsI.fix 19 true hc220 (by kernel_rfl) (by kernel_rfl) ?_
      refine RunsI.cond true 21 (by kernel_rfl) ?_
      refine RunsI.go 1 [.c 23, .lp 17, .blk 0, .c 35] (by kernel_rfl) ?_
      refine RunsI.go 3 [.c 26, .c 27, .blk 1, .c 34, .lp 17, .blk 0, .c 35] (by kernel_rfl) ?_
      refine RunsI.region (by kernel_rfl) ?_
      refine RegI.pure 2 [0, 1, 5, 6, 22, 23] [(0, .slice A209 t211.length c210), (1, .func (.func 136) #[] #[.pointer (some ⟨b212, 0, none⟩)]), (5, .int .i64 t213), (6, .int .i64 t214), (22, .slice A209 t211.length c210), (23, .int .i64 t214)] (by kernel_rfl) ?_
      obtain ⟨hc221, h⟩ := of_cond0 h
      refine RegI.op (by kernel_rfl) (OpE.idxOwnA 24 0 23 80 t214 hH (by kernel_rfl) rfl (by kernel_rfl) (by kernel_rfl) hc221 ?_)
      refine RegI.op (by kernel_rfl) (OpE.loadOwnA 25 0 80 80 t214 0 (o := (Int.toNat t214) * 2 + 0) hH (by kernel_rfl) rfl (by kernel_rfl) (by kernel_rfl) hc221 (fun cs222 hk223 => ?_))
      obtain ⟨_, _, rfl, rfl, rfl⟩ := hk223
      refine ⟨.agg #[.int .i64 ((rdD t211 t214).1), .int .u8 ((rdD t211 t214).2)], by kernel_rfl, ?_⟩
      refine RegI.op (by kernel_rfl) (OpE.box 7 80 [.int .i64 0, .int .u8 0] hH (by kernel_rfl) (by kernel_rfl) ?_)
      intro w224 b225 h226 hb227 hn228
      refine RegI.op (by kernel_rfl) (OpE.storeBox 7 80 b225 0 (.agg #[.int .i64 ((rdD t211 t214).1), .int .u8 ((rdD t211 t214).2)]) [.int .i64 ((rdD t211 t214).1), .int .u8 ((rdD t211 t214).2)] h226 (by kernel_rfl) (by kernel_rfl) rfl (by kernel_rfl) (by kernel_rfl) (by kernel_rfl) ?_)
      intro w229 h230 hk231
      refine RegI.done (by kernel_rfl) ?_
      refine RunsI.go 1 [.c 28, .c 29, .blk 1, .c 34, .lp 17, .blk 0, .c 35] (by kernel_rfl) ?_
      refine RunsI.region (by kernel_rfl) ?_
      refine RegI.pure 1 [0, 1, 5, 6, 7, 26] [(0, .slice A209 t211.length c210), (1, .func (.func 136) #[] #[.pointer (some ⟨b212, 0, none⟩)]), (5, .int .i64 t213), (6, .int .i64 t214), (7, .pointer (some ⟨b225, 0, none⟩)), (26, .func (.func 136) #[] #[.pointer (some ⟨b212, 0, none⟩)])] (by kernel_rfl) ?_
      refine RegI.op (by kernel_rfl) (OpE.loadBox 27 7 80 b225 0 (.agg #[.int .i64 ((rdD t211 t214).1), .int .u8 ((rdD t211 t214).2)]) h230 (by kernel_rfl) (by kernel_rfl) rfl (by kernel_rfl) ?_)
      refine RegI.enter 28 [0, 1, 5, 6, 7] [(0, .slice A209 t211.length c210), (1, .func (.func 136) #[] #[.pointer (some ⟨b212, 0, none⟩)]), (5, .int .i64 t213), (6, .int .i64 t214), (7, .pointer (some ⟨b225, 0, none⟩))] (by kernel_rfl) (by kernel_rfl) (by kernel_rfl) (by kernel_rfl) F136 136 rfl [.agg #[.int .i64 ((rdD t211 t214).1), .int .u8 ((rdD t211 t214).2)], .pointer (some ⟨b212, 0, none⟩)] (by kernel_rfl) (by kernel_rfl) ?_
      refine RunsI.go 1 [.c 1, .c 2] (by kernel_rfl) ?_
      refine RunsI.region (by kernel_rfl) ?_
      refine RegI.op (by kernel_rfl) (OpE.box 2 80 [.int .i64 ((rdD t211 t214).1), .int .u8 ((rdD t211 t214).2)] h230 (by kernel_rfl) (by kernel_rfl) ?_)
      intro w232 b233 h234 hb235 hn236
      refine RegI.pure 1 [1, 2] [(1, .pointer (some ⟨b212, 0, none⟩)), (2, .pointer (some ⟨b233, 0, none⟩))] (by kernel_rfl) ?_
      refine RegI.done (by kernel_rfl) ?_
      refine RunsI.go 1 [.c 3, .c 4] (by kernel_rfl) ?_
      refine RunsI.region (by kernel_rfl) ?_
      refine RegI.pure 1 [1, 4] [(1, .pointer (some ⟨b212, 0, none⟩)), (4, .pointer (some ⟨b233, 0, none⟩))] (by kernel_rfl) ?_
      refine RegI.op (by kernel_rfl) (OpE.loadBox 5 8 3 b233 0 (.int .i64 ((rdD t211 t214).1)) h234 (by kernel_rfl) (by kernel_rfl) rfl (by kernel_rfl) ?_)
      refine RegI.op (by kernel_rfl) (OpE.loadBox 6 1 3 b212 0 (.int .i64 p1) h234 (by kernel_rfl) (by kernel_rfl) rfl (by kernel_rfl) ?_)
      refine RegI.pure 2 [3] [(3, .bool (((rdD t211 t214).1) == p1))] (by kernel_rfl) ?_
      refine RegI.done (by kernel_rfl) ?_
      refine RunsI.ret (.bool (((rdD t211 t214).1) == p1)) (by kernel_rfl) (by kernel_rfl) ?_
      refine cont_mk ?_
      refine RegI.pure 1 [0, 1, 5, 6, 7, 29] [(0, .slice A209 t211.length c210), (1, .func (.func 136) #[] #[.pointer (some ⟨b212, 0, none⟩)]), (5, .int .i64 t213), (6, .int .i64 t214), (7, .pointer (some ⟨b225, 0, none⟩)), (29, .bool (!(((rdD t211 t214).1) == p1)))] (by kernel_rfl) ?_
      refine RegI.done (by kernel_rfl) ?_
      rcases of_cond h with ⟨hc237, h⟩ | ⟨hc237, h⟩
      · skip
        refine RunsI.fix 29 true hc237 (by kernel_rfl) (by kernel_rfl) ?_
        refine RunsI.cond true 30 (by kernel_rfl) ?_
        refine RunsI.go 1 [.c 31, .c 32, .blk 1, .c 34, .lp 17, .blk 0, .c 35] (by kernel_rfl) ?_
        refine RunsI.region (by kernel_rfl) ?_
        refine RegI.pure 2 [0, 1, 5, 6, 7, 30, 31] [(0, .slice A209 t211.length c210), (1, .func (.func 136) #[] #[.pointer (some ⟨b212, 0, none⟩)]), (5, .int .i64 t213), (6, .int .i64 t214), (7, .pointer (some ⟨b225, 0, none⟩)), (30, .slice A209 t211.length c210), (31, .int .i64 t213)] (by kernel_rfl) ?_
        refine RegI.op (by kernel_rfl) (OpE.loadBox 32 7 80 b225 0 (.agg #[.int .i64 ((rdD t211 t214).1), .int .u8 ((rdD t211 t214).2)]) h234 (by kernel_rfl) (by kernel_rfl) rfl (by kernel_rfl) ?_)
        obtain ⟨hc238, h⟩ := of_cond0 h
        refine RegI.op (by kernel_rfl) (OpE.idxOwnA 33 0 23 80 t213 h234 (by kernel_rfl) rfl (by kernel_rfl) (by kernel_rfl) hc238 ?_)
        refine RegI.op (by kernel_rfl) (OpE.storeOwnA 0 80 80 t213 0 (.agg #[.int .i64 ((rdD t211 t214).1), .int .u8 ((rdD t211 t214).2)]) (o := (Int.toNat t213) * 2 + 0) ((rdD t211 t214).1, (rdD t211 t214).2) h234 (by kernel_rfl) (by kernel_rfl) rfl (by kernel_rfl) (by kernel_rfl) (by kernel_rfl) hc238 (fun _ hk => by obtain ⟨_, _, rfl, rfl, rfl⟩ := hk; exact ⟨[_], [_], rfl, rfl, rfl⟩) ?_)
        intro w239 h240 hk241
        refine RegI.done (by kernel_rfl) ?_
        refine RunsI.region (by kernel_rfl) ?_
        refine RegI.pure 3 [0, 1, 5, 6] [(0, .slice A209 t211.length c210), (1, .func (.func 136) #[] #[.pointer (some ⟨b212, 0, none⟩)]), (5, .int .i64 (IntKind.wrap .i64 (t213 + 1))), (6, .int .i64 t214)] (by kernel_rfl) ?_
        refine RegI.done (by kernel_rfl) ?_
        refine RunsI.go 1 [.c 34, .lp 17, .blk 0, .c 35] (by kernel_rfl) ?_
        refine RunsI.region (by kernel_rfl) ?_
        refine RegI.pure 3 [0, 1, 5, 6] [(0, .slice A209 t211.length c210), (1, .func (.func 136) #[] #[.pointer (some ⟨b212, 0, none⟩)]), (5, .int .i64 (IntKind.wrap .i64 (t213 + 1))), (6, .int .i64 (IntKind.wrap .i64 (t214 + 1)))] (by kernel_rfl) ?_
        refine RegI.done (by kernel_rfl) ?_
        refine RunsI.go 1 [.c 17, .lp 17, .blk 0, .c 35] (by kernel_rfl) ?_
        refine RunsI.only [0, 1, 5, 6] [(0, .slice A209 t211.length c210), (1, .func (.func 136) #[] #[.pointer (some ⟨b212, 0, none⟩)]), (5, .int .i64 (IntKind.wrap .i64 (t213 + 1))), (6, .int .i64 (IntKind.wrap .i64 (t214 + 1)))] (by kernel_rfl) (by kernel_rfl) ?_
        have h242 : Holds M0 w0 w239 [own (Rp.pair (Rp.int .i64) (Rp.int .u8)) 80 (.slice A209 ((stD t211 t213 ((rdD t211 t214).1, (rdD t211 t214).2)).length) c210) (stD t211 t213 ((rdD t211 t214).1, (rdD t211 t214).2)), box b212 3 [.int .i64 p1], box b215 25 [.slice pA0_0 p0_0.length pc0_0, .int .i64 p0_1, .int .i64 p0_2, .slice pA0_3 p0_3.length pc0_3], sl (Rp.int .u8) (.slice pA0_0 p0_0.length pc0_0) p0_0, sl (Rp.pair (Rp.int .i64) (Rp.int .u8)) (.slice pA0_3 p0_3.length pc0_3) p0_3, box b216 25 [.slice none 0 0, .int .i64 0, .int .i64 0, .slice none 0 0], own (Rp.pair (Rp.int .i64) (Rp.int .u8)) 80 (.slice A217 t219.length c218) t219, box b225 80 [.int .i64 ((rdD t211 t214).1), .int .u8 ((rdD t211 t214).2)], box b233 80 [.int .i64 ((rdD t211 t214).1), .int .u8 ((rdD t211 t214).2)]] := by have hY : Holds M0 w0 w239 [own (Rp.pair (Rp.int .i64) (Rp.int .u8)) 80 (.slice A209 t211.length c210) (stD t211 t213 ((rdD t211 t214).1, (rdD t211 t214).2)), box b212 3 [.int .i64 p1], box b215 25 [.slice pA0_0 p0_0.length pc0_0, .int .i64 p0_1, .int .i64 p0_2, .slice pA0_3 p0_3.length pc0_3], sl (Rp.int .u8) (.slice pA0_0 p0_0.length pc0_0) p0_0, sl (Rp.pair (Rp.int .i64) (Rp.int .u8)) (.slice pA0_3 p0_3.length pc0_3) p0_3, box b216 25 [.slice none 0 0, .int .i64 0, .int .i64 0, .slice none 0 0], own (Rp.pair (Rp.int .i64) (Rp.int .u8)) 80 (.slice A217 t219.length c218) t219, box b225 80 [.int .i64 ((rdD t211 t214).1), .int .u8 ((rdD t211 t214).2)], box b233 80 [.int .i64 ((rdD t211 t214).1), .int .u8 ((rdD t211 t214).2)]] := h240; simpa only [stD_length] using hY
        refine RunsI.is [(0, .slice A209 ((stD t211 t213 ((rdD t211 t214).1, (rdD t211 t214).2)).length) c210), (1, .func (.func 136) #[] #[.pointer (some ⟨b212, 0, none⟩)]), (5, .int .i64 (IntKind.wrap .i64 (t213 + 1))), (6, .int .i64 (IntKind.wrap .i64 (t214 + 1)))] (by simp only [stD_length]) ?_
        refine RunsI.only [0, 1, 5, 6] [(0, .slice A209 ((stD t211 t213 ((rdD t211 t214).1, (rdD t211 t214).2)).length) c210), (1, .func (.func 136) #[] #[.pointer (some ⟨b212, 0, none⟩)]), (5, .int .i64 (IntKind.wrap .i64 (t213 + 1))), (6, .int .i64 (IntKind.wrap .i64 (t214 + 1)))] (by kernel_rfl) (by kernel_rfl) ?_
        exact ih (stD t211 t213 ((rdD t211 t214).1, (rdD t211 t214).2)) (IntKind.wrap .i64 (t213 + 1)) (IntKind.wrap .i64 (t214 + 1)) w239 h (h242.pick [0, 1, 2, 3, 4, 5, 6] (by decide))
      · skip
        refine RunsI.fix 29 false hc237 (by kernel_rfl) (by kernel_rfl) ?_
        refine RunsI.cond false 33 (by kernel_rfl) ?_
        refine RunsI.go 1 [.blk 1, .c 34, .lp 17, .blk 0, .c 35] (by kernel_rfl) ?_
        refine RunsI.go 1 [.c 34, .lp 17, .blk 0, .c 35] (by kernel_rfl) ?_
        refine RunsI.region (by kernel_rfl) ?_
        refine RegI.pure 3 [0, 1, 5, 6] [(0, .slice A209 t211.length c210), (1, .func (.func 136) #[] #[.pointer (some ⟨b212, 0, none⟩)]), (5, .int .i64 t213), (6, .int .i64 (IntKind.wrap .i64 (t214 + 1)))] (by kernel_rfl) ?_
        refine RegI.done (by kernel_rfl) ?_
        refine RunsI.go 1 [.c 17, .lp 17, .blk 0, .c 35] (by kernel_rfl) ?_
        refine RunsI.only [0, 1, 5, 6] [(0, .slice A209 t211.length c210), (1, .func (.func 136) #[] #[.pointer (some ⟨b212, 0, none⟩)]), (5, .int .i64 t213), (6, .int .i64 (IntKind.wrap .i64 (t214 + 1)))] (by kernel_rfl) (by kernel_rfl) ?_
        exact ih t211 t213 (IntKind.wrap .i64 (t214 + 1)) w232 h (h234.pick [0, 1, 2, 3, 4, 5, 6] (by decide))
    · skip
      refine RunsI.fix 19 false hc220 (by kernel_rfl) (by kernel_rfl) ?_
      refine RunsI.cond false 22 (by kernel_rfl) ?_
      refine RunsI.go 1 [.c 35] (by kernel_rfl) ?_
      refine RunsI.only [0, 5] [(0, .slice A209 t211.length c210), (5, .int .i64 t213)] (by kernel_rfl) (by kernel_rfl) ?_
      exact hk0 t211 t213 w (Option.some.inj h).symm (hH.pick [0, 2, 3, 4, 1, 5, 6] (by decide))
def banks_Store_put_121.f (K : Nat) (p0_0 : List Int) (p0_1 : Int) (p0_2 : Int) (p0_3 : List (Int × Int)) (p1 : Int) (p2 : Int) : Option ((List Int) × Int × Int × (List (Int × Int))) := Let (fun (t53 : Int) => cond (cutR 0 t53 p0_3.length) ((banks_Spot_138.f K (cutL p0_3 0 t53)).bind fun t67 => Let (fun (t154 : (List (Int × Int))) => cond (cutR t53 (p0_3.length : Int) p0_3.length) ((banks_Spot_138.f K (cutL p0_3 t53 (p0_3.length : Int))).bind fun t168 => Let (fun (t261 : (List (Int × Int))) => cond (p2 != 0) (cond (mayBe (t154.length + ([(p1, p2)] : List (Int × Int)).length) 16) (cond (mayBe ((t154 ++ ([(p1, p2)] : List (Int × Int))).length + t261.length) 16) (some (p0_0, p0_1, p0_2, ((t154 ++ ([(p1, p2)] : List (Int × Int))) ++ t261))) none) none) (cond (mayBe (t154.length + t261.length) 16) (some (p0_0, p0_1, p0_2, (t154 ++ t261))) none)) (fun j264 => Let (fun (t202 : Int) => cond (t202 == (-1)) (j264 t168) ((banks_Store_put_121.l4 K p0_0 p0_1 p0_2 p0_3 p1 p2 t154 K t168 t202 (IntKind.wrap .i64 (t202 + 1))).bind (fun yx245 => cond (cutR yx245.2 (yx245.1.length : Int) yx245.1.length) (cond (cutR 0 yx245.2 (clrD yx245.1 yx245.2 (0, 0)).length) (j264 (cutL (clrD yx245.1 yx245.2 (0, 0)) 0 yx245.2)) none) none))) (fun j205 => (banks_Store_put_121.l3 K p0_0 p0_1 p0_2 p0_3 p1 p2 t168 (t168.length : Int) t154 K 0).bind (fun x195 => Lp.elim x195 (fun t199 => j205 t199) (fun _ => j205 (-1)))))) none) (fun j157 => Let (fun (t98 : Int) => cond (t98 == (-1)) (j157 t67) ((banks_Store_put_121.l2 K p0_0 p0_1 p0_2 p0_3 p1 p2 K t67 t98 (IntKind.wrap .i64 (t98 + 1))).bind (fun yx138 => cond (cutR yx138.2 (yx138.1.length : Int) yx138.1.length) (cond (cutR 0 yx138.2 (clrD yx138.1 yx138.2 (0, 0)).length) (j157 (cutL (clrD yx138.1 yx138.2 (0, 0)) 0 yx138.2)) none) none))) (fun j101 => (banks_Store_put_121.l1 K p0_0 p0_1 p0_2 p0_3 p1 p2 t67 (t67.length : Int) K 0).bind (fun x91 => Lp.elim x91 (fun t95 => j101 t95) (fun _ => j101 (-1)))))) none) (fun j56 => Let (fun (t46 : Int) => cond (decide (t46 ≥ 0)) (j56 t46) (j56 (p0_3.length : Int))) (fun j49 => (banks_Store_put_121.l0 K p0_0 p0_1 p0_2 p0_3 p1 p2 K 0).bind (fun x39 => Lp.elim x39 (fun t43 => j49 t43) (fun _ => j49 (-1)))))
set_option maxRecDepth 100000 in
theorem banks_Store_put_121_ok (K : Nat) (M0 : Nat → Prop) (w0 : World) (pA0_0 : Option Addr) (pc0_0 : Nat) (pA0_3 : Option Addr) (pc0_3 : Nat) (p0_0 : List Int) (p0_1 : Int) (p0_2 : Int) (p0_3 : List (Int × Int)) (p1 : Int) (p2 : Int) (ho : ∀ b, M0 b → b < w0.heap.size) (hs0_0 : Sl (Rp.int .u8) w0 M0 (.slice pA0_0 p0_0.length pc0_0) p0_0) (hs0_3 : Sl (Rp.pair (Rp.int .i64) (Rp.int .u8)) w0 M0 (.slice pA0_3 p0_3.length pc0_3) p0_3) {r : (List Int) × Int × Int × (List (Int × Int))} (h : banks_Store_put_121.f K p0_0 p0_1 p0_2 p0_3 p1 p2 = some r) :
    Calls Tryd.prog 121 #[.agg #[.slice pA0_0 p0_0.length pc0_0, .int .i64 p0_1, .int .i64 p0_2, .slice pA0_3 p0_3.length pc0_3], .int .i64 p1, .int .u8 p2] w0 (banks_Store_put_121.post M0 w0 r) := by
  unfold banks_Store_put_121.f at h
  have h0 : Holds M0 w0 w0 [] := Holds.start ho
  have h00_0 := h0.addSl (Rp.int .u8) (.slice pA0_0 p0_0.length pc0_0) p0_0 (hs0_0.mono (fun _ _ hm => hm.elim id (fun hm => absurd hm (by simp [mines, sl]))))
  have h00_3 := h00_0.addSl (Rp.pair (Rp.int .i64) (Rp.int .u8)) (.slice pA0_3 p0_3.length pc0_3) p0_3 (hs0_3.mono (fun _ _ hm => hm.elim id (fun hm => absurd hm (by simp [mines, sl]))))
  have h0 : Holds M0 w0 w0 [sl (Rp.int .u8) (.slice pA0_0 p0_0.length pc0_0) p0_0, sl (Rp.pair (Rp.int .i64) (Rp.int .u8)) (.slice pA0_3 p0_3.length pc0_3) p0_3] := h00_3
  refine calls_of F121 rfl [.agg #[.slice pA0_0 p0_0.length pc0_0, .int .i64 p0_1, .int .i64 p0_2, .slice pA0_3 p0_3.length pc0_3], .int .i64 p1, .int .u8 p2] (by kernel_rfl) ?_
  refine RunsI.go 1 [.c 1, .c 2] (by kernel_rfl) ?_
  refine RunsI.region (by kernel_rfl) ?_
  refine RegI.op (by kernel_rfl) (OpE.box 3 25 [.slice pA0_0 p0_0.length pc0_0, .int .i64 p0_1, .int .i64 p0_2, .slice pA0_3 p0_3.length pc0_3] h0 (by kernel_rfl) (by kernel_rfl) ?_)
  intro w1 b2 h3 hb4 hn5
  refine RegI.op (by kernel_rfl) (OpE.box 4 3 [.int .i64 p1] h3 (by kernel_rfl) (by kernel_rfl) ?_)
  intro w6 b7 h8 hb9 hn10
  refine RegI.op (by kernel_rfl) (OpE.box 6 25 [.slice none 0 0, .int .i64 0, .int .i64 0, .slice none 0 0] h8 (by kernel_rfl) (by kernel_rfl) ?_)
  intro w11 b12 h13 hb14 hn15
  refine RegI.done (by kernel_rfl) ?_
  refine RunsI.go 1 [.c 3, .c 4] (by kernel_rfl) ?_
  refine RunsI.region (by kernel_rfl) ?_
  refine RegI.pure 1 [2, 3, 4, 6, 11] [(2, .int .u8 p2), (3, .pointer (some ⟨b2, 0, none⟩)), (4, .pointer (some ⟨b7, 0, none⟩)), (6, .pointer (some ⟨b12, 0, none⟩)), (11, .pointer (some ⟨b2, 3, none⟩))] (by kernel_rfl) ?_
  refine RegI.op (by kernel_rfl) (OpE.loadBox 12 2 23 b2 3 (.slice pA0_3 p0_3.length pc0_3) h13 (by kernel_rfl) (by kernel_rfl) rfl (by kernel_rfl) ?_)
  refine RegI.pure 1 [2, 3, 4, 6, 12, 13] [(2, .int .u8 p2), (3, .pointer (some ⟨b2, 0, none⟩)), (4, .pointer (some ⟨b7, 0, none⟩)), (6, .pointer (some ⟨b12, 0, none⟩)), (12, .slice pA0_3 p0_3.length pc0_3), (13, .func (.func 134) #[] #[.pointer (some ⟨b7, 0, none⟩)])] (by kernel_rfl) ?_
  refine RegI.enter 14 [2, 3, 4, 6] [(2, .int .u8 p2), (3, .pointer (some ⟨b2, 0, none⟩)), (4, .pointer (some ⟨b7, 0, none⟩)), (6, .pointer (some ⟨b12, 0, none⟩))] (by kernel_rfl) (by kernel_rfl) (by kernel_rfl) (by kernel_rfl) F77 77 rfl [.slice pA0_3 p0_3.length pc0_3, .func (.func 134) #[] #[.pointer (some ⟨b7, 0, none⟩)]] (by kernel_rfl) (by kernel_rfl) ?_
  obtain ⟨j56, hJ57, h⟩ := of_let h
  have hj58 : ∀ (t53 : Int) (w55 : World), j56 t53 = some r → Holds M0 w0 w55 [box b2 25 [.slice pA0_0 p0_0.length pc0_0, .int .i64 p0_1, .int .i64 p0_2, .slice pA0_3 p0_3.length pc0_3], sl (Rp.int .u8) (.slice pA0_0 p0_0.length pc0_0) p0_0, sl (Rp.pair (Rp.int .i64) (Rp.int .u8)) (.slice pA0_3 p0_3.length pc0_3) p0_3, box b7 3 [.int .i64 p1], box b12 25 [.slice none 0 0, .int .i64 0, .int .i64 0, .slice none 0 0]] → RegI F121 3 [.c 4] 4 [(2, .int .u8 p2), (3, .pointer (some ⟨b2, 0, none⟩)), (4, .pointer (some ⟨b7, 0, none⟩)), (6, .pointer (some ⟨b12, 0, none⟩)), (14, .int .i64 t53)] w55 (banks_Store_put_121.post M0 w0 r) := by
    intro t53 w55 h h54
    rw [hJ57] at h
    clear hJ57
    dsimp only at h
    refine RegI.pure 1 [2, 3, 4, 6, 7] [(2, .int .u8 p2), (3, .pointer (some ⟨b2, 0, none⟩)), (4, .pointer (some ⟨b7, 0, none⟩)), (6, .pointer (some ⟨b12, 0, none⟩)), (7, .int .i64 t53)] (by kernel_rfl) ?_
    refine RegI.done (by kernel_rfl) ?_
    refine RunsI.go 1 [.c 5, .c 6] (by kernel_rfl) ?_
    refine RunsI.region (by kernel_rfl) ?_
    refine RegI.pure 2 [2, 3, 4, 6, 7, 8] [(2, .int .u8 p2), (3, .pointer (some ⟨b2, 0, none⟩)), (4, .pointer (some ⟨b7, 0, none⟩)), (6, .pointer (some ⟨b12, 0, none⟩)), (7, .int .i64 t53), (8, .func (.func 136) #[] #[.pointer (some ⟨b7, 0, none⟩)])] (by kernel_rfl) ?_
    refine RegI.done (by kernel_rfl) ?_
    refine RunsI.go 1 [.c 7, .c 8] (by kernel_rfl) ?_
    refine RunsI.region (by kernel_rfl) ?_
    refine RegI.pure 1 [2, 3, 4, 6, 7, 8, 16] [(2, .int .u8 p2), (3, .pointer (some ⟨b2, 0, none⟩)), (4, .pointer (some ⟨b7, 0, none⟩)), (6, .pointer (some ⟨b12, 0, none⟩)), (7, .int .i64 t53), (8, .func (.func 136) #[] #[.pointer (some ⟨b7, 0, none⟩)]), (16, .pointer (some ⟨b2, 3, none⟩))] (by kernel_rfl) ?_
    refine RegI.op (by kernel_rfl) (OpE.loadBox 17 0 23 b2 3 (.slice pA0_3 p0_3.length pc0_3) h54 (by kernel_rfl) (by kernel_rfl) rfl (by kernel_rfl) ?_)
    refine RegI.pure 1 [2, 3, 4, 6, 7, 8, 17, 18] [(2, .int .u8 p2), (3, .pointer (some ⟨b2, 0, none⟩)), (4, .pointer (some ⟨b7, 0, none⟩)), (6, .pointer (some ⟨b12, 0, none⟩)), (7, .int .i64 t53), (8, .func (.func 136) #[] #[.pointer (some ⟨b7, 0, none⟩)]), (17, .slice pA0_3 p0_3.length pc0_3), (18, .int .i64 t53)] (by kernel_rfl) ?_
    obtain ⟨hc59, h⟩ := of_cond0 h
    refine RegI.op (by kernel_rfl) (OpE.cutSl 19 2 23 none (some t53) h54 (by kernel_rfl) rfl (by kernel_rfl) (by kernel_rfl) hc59 ?_)
    intro A60 c61 h62
    obtain ⟨t67, hg66, h⟩ := of_bind h
    refine RegI.op (by kernel_rfl) (OpE.call 20 (by kernel_rfl) 138 #[.slice A60 ((cutL p0_3 0 t53).length) c61] (by kernel_rfl) ((banks_Spot_138_ok K _ w55  A60 c61 (cutL p0_3 0 t53) h62.old' (h62.get 5 rfl) hg66).mono ?_))
    rintro _ w63 ⟨A68, c69, rfl, hr71⟩
    refine ⟨_, rfl, ?_⟩
    have hb64 := hr71.below
    have h65 := h62.join hr71
    refine RegI.pure 1 [2, 3, 4, 6, 7, 8, 20, 21] [(2, .int .u8 p2), (3, .pointer (some ⟨b2, 0, none⟩)), (4, .pointer (some ⟨b7, 0, none⟩)), (6, .pointer (some ⟨b12, 0, none⟩)), (7, .int .i64 t53), (8, .func (.func 136) #[] #[.pointer (some ⟨b7, 0, none⟩)]), (20, .slice A68 t67.length c69), (21, .func (.func 136) #[] #[.pointer (some ⟨b7, 0, none⟩)])] (by kernel_rfl) ?_
    refine RegI.enter 22 [2, 3, 4, 6, 7, 8] [(2, .int .u8 p2), (3, .pointer (some ⟨b2, 0, none⟩)), (4, .pointer (some ⟨b7, 0, none⟩)), (6, .pointer (some ⟨b12, 0, none⟩)), (7, .int .i64 t53), (8, .func (.func 136) #[] #[.pointer (some ⟨b7, 0, none⟩)])] (by kernel_rfl) (by kernel_rfl) (by kernel_rfl) (by kernel_rfl) F137 137 rfl [.slice A68 t67.length c69, .func (.func 136) #[] #[.pointer (some ⟨b7, 0, none⟩)]] (by kernel_rfl) (by kernel_rfl) ?_
    obtain ⟨j157, hJ158, h⟩ := of_let h
    have hj159 : ∀ (t154 : List (Int × Int)) (A152 : Option Addr) (c153 : Nat) (w156 : World), j157 t154 = some r → Holds M0 w0 w156 [box b2 25 [.slice pA0_0 p0_0.length pc0_0, .int .i64 p0_1, .int .i64 p0_2, .slice pA0_3 p0_3.length pc0_3], sl (Rp.int .u8) (.slice pA0_0 p0_0.length pc0_0) p0_0, sl (Rp.pair (Rp.int .i64) (Rp.int .u8)) (.slice pA0_3 p0_3.length pc0_3) p0_3, box b7 3 [.int .i64 p1], box b12 25 [.slice none 0 0, .int .i64 0, .int .i64 0, .slice none 0 0], own (Rp.pair (Rp.int .i64) (Rp.int .u8)) 80 (.slice A152 t154.length c153) t154] → RegI F121 7 [.c 8] 7 [(2, .int .u8 p2), (3, .pointer (some ⟨b2, 0, none⟩)), (4, .pointer (some ⟨b7, 0, none⟩)), (6, .pointer (some ⟨b12, 0, none⟩)), (7, .int .i64 t53), (8, .func (.func 136) #[] #[.pointer (some ⟨b7, 0, none⟩)]), (22, .slice A152 t154.length c153)] w156 (banks_Store_put_121.post M0 w0 r) := by
      intro t154 A152 c153 w156 h h155
      rw [hJ158] at h
      clear hJ158
      dsimp only at h
      refine RegI.pure 1 [2, 3, 4, 6, 7, 8, 9] [(2, .int .u8 p2), (3, .pointer (some ⟨b2, 0, none⟩)), (4, .pointer (some ⟨b7, 0, none⟩)), (6, .pointer (some ⟨b12, 0, none⟩)), (7, .int .i64 t53), (8, .func (.func 136) #[] #[.pointer (some ⟨b7, 0, none⟩)]), (9, .slice A152 t154.length c153)] (by kernel_rfl) ?_
      refine RegI.done (by kernel_rfl) ?_
      refine RunsI.go 1 [.c 9, .c 10] (by kernel_rfl) ?_
      refine RunsI.region (by kernel_rfl) ?_
      refine RegI.pure 1 [2, 3, 4, 6, 7, 8, 9, 23] [(2, .int .u8 p2), (3, .pointer (some ⟨b2, 0, none⟩)), (4, .pointer (some ⟨b7, 0, none⟩)), (6, .pointer (some ⟨b12, 0, none⟩)), (7, .int .i64 t53), (8, .func (.func 136) #[] #[.pointer (some ⟨b7, 0, none⟩)]), (9, .slice A152 t154.length c153), (23, .pointer (some ⟨b2, 3, none⟩))] (by kernel_rfl) ?_
      refine RegI.op (by kernel_rfl) (OpE.loadBox 24 0 23 b2 3 (.slice pA0_3 p0_3.length pc0_3) h155 (by kernel_rfl) (by kernel_rfl) rfl (by kernel_rfl) ?_)
      refine RegI.pure 1 [2, 3, 4, 6, 8, 9, 24, 25] [(2, .int .u8 p2), (3, .pointer (some ⟨b2, 0, none⟩)), (4, .pointer (some ⟨b7, 0, none⟩)), (6, .pointer (some ⟨b12, 0, none⟩)), (8, .func (.func 136) #[] #[.pointer (some ⟨b7, 0, none⟩)]), (9, .slice A152 t154.length c153), (24, .slice pA0_3 p0_3.length pc0_3), (25, .int .i64 t53)] (by kernel_rfl) ?_
      obtain ⟨hc160, h⟩ := of_cond0 h
      refine RegI.op (by kernel_rfl) (OpE.cutSl 26 2 23 (some t53) none h155 (by kernel_rfl) rfl (by kernel_rfl) (by kernel_rfl) hc160 ?_)
      intro A161 c162 h163
      obtain ⟨t168, hg167, h⟩ := of_bind h
      refine RegI.op (by kernel_rfl) (OpE.call 27 (by kernel_rfl) 138 #[.slice A161 ((cutL p0_3 t53 (p0_3.length : Int)).length) c162] (by kernel_rfl) ((banks_Spot_138_ok K _ w156  A161 c162 (cutL p0_3 t53 (p0_3.length : Int)) h163.old' (h163.get 6 rfl) hg167).mono ?_))
      rintro _ w164 ⟨A169, c170, rfl, hr172⟩
      refine ⟨_, rfl, ?_⟩
      have hb165 := hr172.below
      have h166 := h163.join hr172
      refine RegI.pure 1 [2, 3, 4, 6, 9, 27, 28] [(2, .int .u8 p2), (3, .pointer (some ⟨b2, 0, none⟩)), (4, .pointer (some ⟨b7, 0, none⟩)), (6, .pointer (some ⟨b12, 0, none⟩)), (9, .slice A152 t154.length c153), (27, .slice A169 t168.length c170), (28, .func (.func 136) #[] #[.pointer (some ⟨b7, 0, none⟩)])] (by kernel_rfl) ?_
      refine RegI.enter 29 [2, 3, 4, 6, 9] [(2, .int .u8 p2), (3, .pointer (some ⟨b2, 0, none⟩)), (4, .pointer (some ⟨b7, 0, none⟩)), (6, .pointer (some ⟨b12, 0, none⟩)), (9, .slice A152 t154.length c153)] (by kernel_rfl) (by kernel_rfl) (by kernel_rfl) (by kernel_rfl) F137 137 rfl [.slice A169 t168.length c170, .func (.func 136) #[] #[.pointer (some ⟨b7, 0, none⟩)]] (by kernel_rfl) (by kernel_rfl) ?_
      obtain ⟨j264, hJ265, h⟩ := of_let h
      have hj266 : ∀ (t261 : List (Int × Int)) (A259 : Option Addr) (c260 : Nat) (w263 : World), j264 t261 = some r → Holds M0 w0 w263 [box b2 25 [.slice pA0_0 p0_0.length pc0_0, .int .i64 p0_1, .int .i64 p0_2, .slice pA0_3 p0_3.length pc0_3], sl (Rp.int .u8) (.slice pA0_0 p0_0.length pc0_0) p0_0, sl (Rp.pair (Rp.int .i64) (Rp.int .u8)) (.slice pA0_3 p0_3.length pc0_3) p0_3, box b7 3 [.int .i64 p1], box b12 25 [.slice none 0 0, .int .i64 0, .int .i64 0, .slice none 0 0], own (Rp.pair (Rp.int .i64) (Rp.int .u8)) 80 (.slice A152 t154.length c153) t154, own (Rp.pair (Rp.int .i64) (Rp.int .u8)) 80 (.slice A259 t261.length c260) t261] → RegI F121 9 [.c 10] 7 [(2, .int .u8 p2), (3, .pointer (some ⟨b2, 0, none⟩)), (4, .pointer (some ⟨b7, 0, none⟩)), (6, .pointer (some ⟨b12, 0, none⟩)), (9, .slice A152 t154.length c153), (29, .slice A259 t261.length c260)] w263 (banks_Store_put_121.post M0 w0 r) := by
        intro t261 A259 c260 w263 h h262
        rw [hJ265] at h
        clear hJ265
        dsimp only at h
        refine RegI.pure 1 [2, 3, 4, 6, 9, 10] [(2, .int .u8 p2), (3, .pointer (some ⟨b2, 0, none⟩)), (4, .pointer (some ⟨b7, 0, none⟩)), (6, .pointer (some ⟨b12, 0, none⟩)), (9, .slice A152 t154.length c153), (10, .slice A259 t261.length c260)] (by kernel_rfl) ?_
        refine RegI.done (by kernel_rfl) ?_
        refine RunsI.go 2 [.c 12, .c 13, .c 16] (by kernel_rfl) ?_
        refine RunsI.region (by kernel_rfl) ?_
        refine RegI.pure 2 [2, 3, 4, 6, 9, 10, 31] [(2, .int .u8 p2), (3, .pointer (some ⟨b2, 0, none⟩)), (4, .pointer (some ⟨b7, 0, none⟩)), (6, .pointer (some ⟨b12, 0, none⟩)), (9, .slice A152 t154.length c153), (10, .slice A259 t261.length c260), (31, .bool (p2 != 0))] (by kernel_rfl) ?_
        refine RegI.done (by kernel_rfl) ?_
        rcases of_cond h with ⟨hc267, h⟩ | ⟨hc267, h⟩
        · skip
          refine RunsI.fix 31 true hc267 (by kernel_rfl) (by kernel_rfl) ?_
          refine RunsI.cond true 14 (by kernel_rfl) ?_
          refine RunsI.region (by kernel_rfl) ?_
          refine RegI.pure 1 [2, 3, 4, 6, 10, 32] [(2, .int .u8 p2), (3, .pointer (some ⟨b2, 0, none⟩)), (4, .pointer (some ⟨b7, 0, none⟩)), (6, .pointer (some ⟨b12, 0, none⟩)), (10, .slice A259 t261.length c260), (32, .slice A152 t154.length c153)] (by kernel_rfl) ?_
          refine RegI.op (by kernel_rfl) (OpE.loadBox 33 3 3 b7 0 (.int .i64 p1) h262 (by kernel_rfl) (by kernel_rfl) rfl (by kernel_rfl) ?_)
          refine RegI.pure 2 [3, 6, 10, 32, 35] [(3, .pointer (some ⟨b2, 0, none⟩)), (6, .pointer (some ⟨b12, 0, none⟩)), (10, .slice A259 t261.length c260), (32, .slice A152 t154.length c153), (35, .agg #[.int .i64 p1, .int .u8 p2])] (by kernel_rfl) ?_
          refine RegI.op (by kernel_rfl) (OpE.lit 36 80 [.int .i64 p1, .int .u8 p2] 1 h262 (by kernel_rfl) (by kernel_rfl) ?_)
          intro w268 b269 h270 hb271 hn272
          obtain ⟨hc273, h⟩ := of_cond0 h
          refine RegI.op (by kernel_rfl) (OpE.appendBox 37 5 7 23 80 16 ([(p1, p2)] : List (Int × Int)) 0 h270 (by kernel_rfl) (by kernel_rfl) (by kernel_rfl) rfl rfl rfl (⟨[_, _], _, rfl, ⟨[_], [_], rfl, rfl, rfl⟩, rfl⟩) hc273 ?_)
          intro w274 A275 c276 h277 hk278
          refine RegI.pure 1 [3, 6, 9, 10] [(3, .pointer (some ⟨b2, 0, none⟩)), (6, .pointer (some ⟨b12, 0, none⟩)), (9, .slice A275 ((t154 ++ ([(p1, p2)] : List (Int × Int))).length) c276), (10, .slice A259 t261.length c260)] (by kernel_rfl) ?_
          refine RegI.done (by kernel_rfl) ?_
          refine RunsI.go 1 [.c 17, .c 18] (by kernel_rfl) ?_
          refine RunsI.region (by kernel_rfl) ?_
          refine RegI.pure 2 [3, 6, 38, 39] [(3, .pointer (some ⟨b2, 0, none⟩)), (6, .pointer (some ⟨b12, 0, none⟩)), (38, .slice A275 ((t154 ++ ([(p1, p2)] : List (Int × Int))).length) c276), (39, .slice A259 t261.length c260)] (by kernel_rfl) ?_
          obtain ⟨hc279, h⟩ := of_cond0 h
          refine RegI.op (by kernel_rfl) (OpE.appendRow 40 5 23 80 16 (ys := t261) h277 (by kernel_rfl) (by kernel_rfl) (by kernel_rfl) rfl (h277.rdOwn 6 rfl) hc279 ?_)
          intro w280 A281 c282 h283 hk284
          refine RegI.pure 1 [3, 6, 40, 41] [(3, .pointer (some ⟨b2, 0, none⟩)), (6, .pointer (some ⟨b12, 0, none⟩)), (40, .slice A281 (((t154 ++ ([(p1, p2)] : List (Int × Int))) ++ t261).length) c282), (41, .pointer (some ⟨b2, 3, none⟩))] (by kernel_rfl) ?_
          refine RegI.op (by kernel_rfl) (OpE.storeBox 0 23 b2 3 (.slice A281 (((t154 ++ ([(p1, p2)] : List (Int × Int))) ++ t261).length) c282) [.slice pA0_0 p0_0.length pc0_0, .int .i64 p0_1, .int .i64 p0_2, .slice A281 (((t154 ++ ([(p1, p2)] : List (Int × Int))) ++ t261).length) c282] h283 (by kernel_rfl) (by kernel_rfl) rfl (by kernel_rfl) (by kernel_rfl) (by kernel_rfl) ?_)
          intro w285 h286 hk287
          refine RegI.done (by kernel_rfl) ?_
          refine RunsI.go 1 [.c 19, .c 20] (by kernel_rfl) ?_
          refine RunsI.region (by kernel_rfl) ?_
          refine RegI.op (by kernel_rfl) (OpE.loadBox 42 0 25 b2 0 (.agg #[.slice pA0_0 p0_0.length pc0_0, .int .i64 p0_1, .int .i64 p0_2, .slice A281 (((t154 ++ ([(p1, p2)] : List (Int × Int))) ++ t261).length) c282]) h286 (by kernel_rfl) (by kernel_rfl) rfl (by kernel_rfl) ?_)
          refine RegI.op (by kernel_rfl) (OpE.storeBox 4 25 b12 0 (.agg #[.slice pA0_0 p0_0.length pc0_0, .int .i64 p0_1, .int .i64 p0_2, .slice A281 (((t154 ++ ([(p1, p2)] : List (Int × Int))) ++ t261).length) c282]) [.slice pA0_0 p0_0.length pc0_0, .int .i64 p0_1, .int .i64 p0_2, .slice A281 (((t154 ++ ([(p1, p2)] : List (Int × Int))) ++ t261).length) c282] h286 (by kernel_rfl) (by kernel_rfl) rfl (by kernel_rfl) (by kernel_rfl) (by kernel_rfl) ?_)
          intro w288 h289 hk290
          refine RegI.done (by kernel_rfl) ?_
          refine RunsI.toRet (by kernel_rfl) ?_
          refine RetI.valW [.cell 6 25] [.agg #[.slice pA0_0 p0_0.length pc0_0, .int .i64 p0_1, .int .i64 p0_2, .slice A281 (((t154 ++ ([(p1, p2)] : List (Int × Int))) ++ t261).length) c282]] (.agg #[.slice pA0_0 p0_0.length pc0_0, .int .i64 p0_1, .int .i64 p0_2, .slice A281 (((t154 ++ ([(p1, p2)] : List (Int × Int))) ++ t261).length) c282]) (by kernel_rfl) (ResAt.box 4 25 b12 0 h289 (by kernel_rfl) (by kernel_rfl) rfl (by kernel_rfl) rfl) (by kernel_rfl) ?_
          obtain rfl := Option.some.inj h
          exact ⟨pA0_0, pc0_0, A281, c282, rfl, h289.pick [1, 5] (by decide)⟩
        · skip
          refine RunsI.fix 31 false hc267 (by kernel_rfl) (by kernel_rfl) ?_
          refine RunsI.cond false 15 (by kernel_rfl) ?_
          refine RunsI.go 1 [.c 16] (by kernel_rfl) ?_
          refine RunsI.go 1 [.c 17, .c 18] (by kernel_rfl) ?_
          refine RunsI.region (by kernel_rfl) ?_
          refine RegI.pure 2 [3, 6, 38, 39] [(3, .pointer (some ⟨b2, 0, none⟩)), (6, .pointer (some ⟨b12, 0, none⟩)), (38, .slice A152 t154.length c153), (39, .slice A259 t261.length c260)] (by kernel_rfl) ?_
          obtain ⟨hc291, h⟩ := of_cond0 h
          refine RegI.op (by kernel_rfl) (OpE.appendRow 40 5 23 80 16 (ys := t261) h262 (by kernel_rfl) (by kernel_rfl) (by kernel_rfl) rfl (h262.rdOwn 6 rfl) hc291 ?_)
          intro w292 A293 c294 h295 hk296
          refine RegI.pure 1 [3, 6, 40, 41] [(3, .pointer (some ⟨b2, 0, none⟩)), (6, .pointer (some ⟨b12, 0, none⟩)), (40, .slice A293 ((t154 ++ t261).length) c294), (41, .pointer (some ⟨b2, 3, none⟩))] (by kernel_rfl) ?_
          refine RegI.op (by kernel_rfl) (OpE.storeBox 0 23 b2 3 (.slice A293 ((t154 ++ t261).length) c294) [.slice pA0_0 p0_0.length pc0_0, .int .i64 p0_1, .int .i64 p0_2, .slice A293 ((t154 ++ t261).length) c294] h295 (by kernel_rfl) (by kernel_rfl) rfl (by kernel_rfl) (by kernel_rfl) (by kernel_rfl) ?_)
          intro w297 h298 hk299
          refine RegI.done (by kernel_rfl) ?_
          refine RunsI.go 1 [.c 19, .c 20] (by kernel_rfl) ?_
          refine RunsI.region (by kernel_rfl) ?_
          refine RegI.op (by kernel_rfl) (OpE.loadBox 42 0 25 b2 0 (.agg #[.slice pA0_0 p0_0.length pc0_0, .int .i64 p0_1, .int .i64 p0_2, .slice A293 ((t154 ++ t261).length) c294]) h298 (by kernel_rfl) (by kernel_rfl) rfl (by kernel_rfl) ?_)
          refine RegI.op (by kernel_rfl) (OpE.storeBox 4 25 b12 0 (.agg #[.slice pA0_0 p0_0.length pc0_0, .int .i64 p0_1, .int .i64 p0_2, .slice A293 ((t154 ++ t261).length) c294]) [.slice pA0_0 p0_0.length pc0_0, .int .i64 p0_1, .int .i64 p0_2, .slice A293 ((t154 ++ t261).length) c294] h298 (by kernel_rfl) (by kernel_rfl) rfl (by kernel_rfl) (by kernel_rfl) (by kernel_rfl) ?_)
          intro w300 h301 hk302
          refine RegI.done (by kernel_rfl) ?_
          refine RunsI.toRet (by kernel_rfl) ?_
          refine RetI.valW [.cell 6 25] [.agg #[.slice pA0_0 p0_0.length pc0_0, .int .i64 p0_1, .int .i64 p0_2, .slice A293 ((t154 ++ t261).length) c294]] (.agg #[.slice pA0_0 p0_0.length pc0_0, .int .i64 p0_1, .int .i64 p0_2, .slice A293 ((t154 ++ t261).length) c294]) (by kernel_rfl) (ResAt.box 4 25 b12 0 h301 (by kernel_rfl) (by kernel_rfl) rfl (by kernel_rfl) rfl) (by kernel_rfl) ?_
          obtain rfl := Option.some.inj h
          exact ⟨pA0_0, pc0_0, A293, c294, rfl, h301.pick [1, 5] (by decide)⟩
      clear hJ265
      refine RunsI.go 1 [.c 1, .c 2] (by kernel_rfl) ?_
      refine RunsI.region (by kernel_rfl) ?_
      refine RegI.pure 1 [0, 1] [(0, .slice A169 t168.length c170), (1, .func (.func 136) #[] #[.pointer (some ⟨b7, 0, none⟩)])] (by kernel_rfl) ?_
      refine RegI.done (by kernel_rfl) ?_
      refine RunsI.go 1 [.c 3, .c 4] (by kernel_rfl) ?_
      refine RunsI.region (by kernel_rfl) ?_
      refine RegI.pure 2 [0, 1, 8, 9] [(0, .slice A169 t168.length c170), (1, .func (.func 136) #[] #[.pointer (some ⟨b7, 0, none⟩)]), (8, .slice A169 t168.length c170), (9, .func (.func 136) #[] #[.pointer (some ⟨b7, 0, none⟩)])] (by kernel_rfl) ?_
      refine RegI.enter 10 [0, 1] [(0, .slice A169 t168.length c170), (1, .func (.func 136) #[] #[.pointer (some ⟨b7, 0, none⟩)])] (by kernel_rfl) (by kernel_rfl) (by kernel_rfl) (by kernel_rfl) F119 119 rfl [.slice A169 t168.length c170, .func (.func 136) #[] #[.pointer (some ⟨b7, 0, none⟩)]] (by kernel_rfl) (by kernel_rfl) ?_
      obtain ⟨j205, hJ206, h⟩ := of_let h
      have hj207 : ∀ (t202 : Int) (w204 : World), j205 t202 = some r → Holds M0 w0 w204 [own (Rp.pair (Rp.int .i64) (Rp.int .u8)) 80 (.slice A169 t168.length c170) t168, box b7 3 [.int .i64 p1], box b2 25 [.slice pA0_0 p0_0.length pc0_0, .int .i64 p0_1, .int .i64 p0_2, .slice pA0_3 p0_3.length pc0_3], sl (Rp.int .u8) (.slice pA0_0 p0_0.length pc0_0) p0_0, sl (Rp.pair (Rp.int .i64) (Rp.int .u8)) (.slice pA0_3 p0_3.length pc0_3) p0_3, box b12 25 [.slice none 0 0, .int .i64 0, .int .i64 0, .slice none 0 0], own (Rp.pair (Rp.int .i64) (Rp.int .u8)) 80 (.slice A152 t154.length c153) t154] → RegI F137 3 [.c 4] 3 [(0, .slice A169 t168.length c170), (1, .func (.func 136) #[] #[.pointer (some ⟨b7, 0, none⟩)]), (10, .int .i64 t202)] w204 (cont (fun e' w' => RegI F121 9 [.c 10] 7 e' w' (banks_Store_put_121.post M0 w0 r)) 29 [(2, .int .u8 p2), (3, .pointer (some ⟨b2, 0, none⟩)), (4, .pointer (some ⟨b7, 0, none⟩)), (6, .pointer (some ⟨b12, 0, none⟩)), (9, .slice A152 t154.length c153)]) := by
        intro t202 w204 h h203
        rw [hJ206] at h
        clear hJ206
        dsimp only at h
        refine RegI.pure 1 [0, 1, 5] [(0, .slice A169 t168.length c170), (1, .func (.func 136) #[] #[.pointer (some ⟨b7, 0, none⟩)]), (5, .int .i64 t202)] (by kernel_rfl) ?_
        refine RegI.done (by kernel_rfl) ?_
        refine RunsI.go 2 [.c 6, .c 7, .c 12] (by kernel_rfl) ?_
        refine RunsI.region (by kernel_rfl) ?_
        refine RegI.pure 2 [0, 1, 5, 12] [(0, .slice A169 t168.length c170), (1, .func (.func 136) #[] #[.pointer (some ⟨b7, 0, none⟩)]), (5, .int .i64 t202), (12, .bool (t202 == (-1)))] (by kernel_rfl) ?_
        refine RegI.done (by kernel_rfl) ?_
        rcases of_cond h with ⟨hc208, h⟩ | ⟨hc208, h⟩
        · skip
          refine RunsI.fix 12 true hc208 (by kernel_rfl) (by kernel_rfl) ?_
          refine RunsI.cond true 8 (by kernel_rfl) ?_
          refine RunsI.go 1 [.c 9, .c 10, .c 12] (by kernel_rfl) ?_
          refine RunsI.region (by kernel_rfl) ?_
          refine RegI.pure 2 [4] [(4, .slice A169 t168.length c170)] (by kernel_rfl) ?_
          refine RegI.done (by kernel_rfl) ?_
          refine RunsI.ret (.slice A169 t168.length c170) (by kernel_rfl) (by kernel_rfl) ?_
          refine cont_mk ?_
          refine RegI.only [2, 3, 4, 6, 9, 29] [(2, .int .u8 p2), (3, .pointer (some ⟨b2, 0, none⟩)), (4, .pointer (some ⟨b7, 0, none⟩)), (6, .pointer (some ⟨b12, 0, none⟩)), (9, .slice A152 t154.length c153), (29, .slice A169 t168.length c170)] (by kernel_rfl) (by kernel_rfl) ?_
          exact hj266 t168 A169 c170 w204 h (h203.pick [2, 3, 4, 1, 5, 6, 0] (by decide))
        · skip
          refine RunsI.fix 12 false hc208 (by kernel_rfl) (by kernel_rfl) ?_
          refine RunsI.cond false 11 (by kernel_rfl) ?_
          refine RunsI.go 1 [.c 12] (by kernel_rfl) ?_
          refine RunsI.go 2 [.c 14, .c 15, .c 35] (by kernel_rfl) ?_
          refine RunsI.region (by kernel_rfl) ?_
          refine RegI.pure 3 [0, 1, 5, 6] [(0, .slice A169 t168.length c170), (1, .func (.func 136) #[] #[.pointer (some ⟨b7, 0, none⟩)]), (5, .int .i64 t202), (6, .int .i64 (IntKind.wrap .i64 (t202 + 1)))] (by kernel_rfl) ?_
          refine RegI.done (by kernel_rfl) ?_
          refine RunsI.go 2 [.c 17, .lp 17, .blk 0, .c 35] (by kernel_rfl) ?_
          obtain ⟨x245, hx246, h⟩ := of_bind h
          refine RunsI.only [0, 1, 5, 6] [(0, .slice A169 t168.length c170), (1, .func (.func 136) #[] #[.pointer (some ⟨b7, 0, none⟩)]), (5, .int .i64 t202), (6, .int .i64 (IntKind.wrap .i64 (t202 + 1)))] (by kernel_rfl) (by kernel_rfl) ?_
          refine banks_Store_put_121.l4_ok K M0 w0 pA0_0 pc0_0 pA0_3 pc0_3 p0_0 p0_1 p0_2 p0_3 p1 p2 t154 A169 c170 b7 b2 b12 A152 c153 _ x245 ?_ K t168 t202 (IntKind.wrap .i64 (t202 + 1)) w204 hx246 (h203.pick [0, 1, 2, 3, 4, 5, 6] (by decide))
          · intro t247 t248 w250 hq303 h249
            (try rw [hq303] at h)
            dsimp only at h
            refine RunsI.go 1 [.c 36, .c 37] (by kernel_rfl) ?_
            refine RunsI.region (by kernel_rfl) ?_
            refine RegI.pure 2 [0, 5, 36, 37] [(0, .slice A169 t247.length c170), (5, .int .i64 t248), (36, .slice A169 t247.length c170), (37, .int .i64 t248)] (by kernel_rfl) ?_
            obtain ⟨hc251, h⟩ := of_cond0 h
            refine RegI.op (by kernel_rfl) (OpE.cutView 38 0 23 80 t248 h249 (by kernel_rfl) rfl (by kernel_rfl) (by kernel_rfl) hc251 ?_)
            refine RegI.op (by kernel_rfl) (OpE.clearEnd 0 23 80 t248 16 [.int .i64 0, .int .u8 0] (Rp.pair (Rp.int .i64) (Rp.int .u8)) (0, 0) h249 (by kernel_rfl) rfl (by kernel_rfl) (by kernel_rfl) (by kernel_rfl) (fun _ _ => ⟨[_], [_], rfl, rfl, rfl⟩) hc251 ?_)
            intro w252 h253 hk254
            refine RegI.done (by kernel_rfl) ?_
            refine RunsI.go 1 [.c 38, .c 39] (by kernel_rfl) ?_
            refine RunsI.region (by kernel_rfl) ?_
            refine RegI.pure 2 [39, 40] [(39, .slice A169 t247.length c170), (40, .int .i64 t248)] (by kernel_rfl) ?_
            obtain ⟨hc255, h⟩ := of_cond0 h
            refine RegI.op (by kernel_rfl) (OpE.cutOwn 41 0 23 80 (some t248) h253 (by kernel_rfl) rfl (by kernel_rfl) (by kernel_rfl) hc255 ?_)
            intro A256 c257 h258
            refine RegI.pure 1 [4] [(4, .slice A256 ((cutL (clrD t247 t248 (0, 0)) 0 t248).length) c257)] (by kernel_rfl) ?_
            refine RegI.done (by kernel_rfl) ?_
            refine RunsI.ret (.slice A256 ((cutL (clrD t247 t248 (0, 0)) 0 t248).length) c257) (by kernel_rfl) (by kernel_rfl) ?_
            refine cont_mk ?_
            refine RegI.only [2, 3, 4, 6, 9, 29] [(2, .int .u8 p2), (3, .pointer (some ⟨b2, 0, none⟩)), (4, .pointer (some ⟨b7, 0, none⟩)), (6, .pointer (some ⟨b12, 0, none⟩)), (9, .slice A152 t154.length c153), (29, .slice A256 ((cutL (clrD t247 t248 (0, 0)) 0 t248).length) c257)] (by kernel_rfl) (by kernel_rfl) ?_
            exact hj266 (cutL (clrD t247 t248 (0, 0)) 0 t248) A256 c257 w252 h (h258.pick [1, 2, 3, 4, 5, 6, 0] (by decide))
      clear hJ206
      refine RunsI.go 1 [.c 1, .c 2] (by kernel_rfl) ?_
      refine RunsI.region (by kernel_rfl) ?_
      refine RegI.pure 1 [0, 1] [(0, .slice A169 t168.length c170), (1, .func (.func 136) #[] #[.pointer (some ⟨b7, 0, none⟩)])] (by kernel_rfl) ?_
      refine RegI.done (by kernel_rfl) ?_
      refine RunsI.go 2 [.c 4, .c 5, .c 25] (by kernel_rfl) ?_
      refine RunsI.region (by kernel_rfl) ?_
      refine RegI.pure 3 [0, 1, 7, 8] [(0, .slice A169 t168.length c170), (1, .func (.func 136) #[] #[.pointer (some ⟨b7, 0, none⟩)]), (7, .int .i64 (t168.length : Int)), (8, .int .i64 0)] (by kernel_rfl) ?_
      refine RegI.done (by kernel_rfl) ?_
      refine RunsI.go 2 [.c 7, .lp 7, .blk 0, .c 25] (by kernel_rfl) ?_
      obtain ⟨x195, hx196, h⟩ := of_bind h
      refine RunsI.only [0, 1, 7, 8] [(0, .slice A169 t168.length c170), (1, .func (.func 136) #[] #[.pointer (some ⟨b7, 0, none⟩)]), (7, .int .i64 (t168.length : Int)), (8, .int .i64 0)] (by kernel_rfl) (by kernel_rfl) ?_
      refine banks_Store_put_121.l3_ok K M0 w0 pA0_0 pc0_0 pA0_3 pc0_3 p0_0 p0_1 p0_2 p0_3 p1 p2 t168 (t168.length : Int) t154 A169 c170 b7 b2 b12 A152 c153 _ x195 ?_ ?_ K 0 w164 hx196 (h166.pick [7, 3, 0, 1, 2, 4, 5] (by decide))
      · intro w198 hq304 h197
        (try rw [hq304] at h)
        dsimp only [Lp.elim] at h
        refine RunsI.go 1 [.c 26, .c 27] (by kernel_rfl) ?_
        refine RunsI.region (by kernel_rfl) ?_
        refine RegI.pure 1 [4] [(4, .int .i64 (-1))] (by kernel_rfl) ?_
        refine RegI.done (by kernel_rfl) ?_
        refine RunsI.ret (.int .i64 (-1)) (by kernel_rfl) (by kernel_rfl) ?_
        refine cont_mk ?_
        refine RegI.only [0, 1, 10] [(0, .slice A169 t168.length c170), (1, .func (.func 136) #[] #[.pointer (some ⟨b7, 0, none⟩)]), (10, .int .i64 (-1))] (by kernel_rfl) (by kernel_rfl) ?_
        exact hj207 (-1) w198 h (h197.pick [6, 3, 0, 1, 2, 4, 5] (by decide))
      · intro t199 w201 hq305 h200
        (try rw [hq305] at h)
        dsimp only [Lp.elim] at h
        refine cont_mk ?_
        refine RegI.only [0, 1, 10] [(0, .slice A169 t168.length c170), (1, .func (.func 136) #[] #[.pointer (some ⟨b7, 0, none⟩)]), (10, .int .i64 t199)] (by kernel_rfl) (by kernel_rfl) ?_
        exact hj207 t199 w201 h (h200.pick [6, 3, 0, 1, 2, 4, 5] (by decide))
    clear hJ158
    refine RunsI.go 1 [.c 1, .c 2] (by kernel_rfl) ?_
    refine RunsI.region (by kernel_rfl) ?_
    refine RegI.pure 1 [0, 1] [(0, .slice A68 t67.length c69), (1, .func (.func 136) #[] #[.pointer (some ⟨b7, 0, none⟩)])] (by kernel_rfl) ?_
    refine RegI.done (by kernel_rfl) ?_
    refine RunsI.go 1 [.c 3, .c 4] (by kernel_rfl) ?_
    refine RunsI.region (by kernel_rfl) ?_
    refine RegI.pure 2 [0, 1, 8, 9] [(0, .slice A68 t67.length c69), (1, .func (.func 136) #[] #[.pointer (some ⟨b7, 0, none⟩)]), (8, .slice A68 t67.length c69), (9, .func (.func 136) #[] #[.pointer (some ⟨b7, 0, none⟩)])] (by kernel_rfl) ?_
    refine RegI.enter 10 [0, 1] [(0, .slice A68 t67.length c69), (1, .func (.func 136) #[] #[.pointer (some ⟨b7, 0, none⟩)])] (by kernel_rfl) (by kernel_rfl) (by kernel_rfl) (by kernel_rfl) F119 119 rfl [.slice A68 t67.length c69, .func (.func 136) #[] #[.pointer (some ⟨b7, 0, none⟩)]] (by kernel_rfl) (by kernel_rfl) ?_
    obtain ⟨j101, hJ102, h⟩ := of_let h
    have hj103 : ∀ (t98 : Int) (w100 : World), j101 t98 = some r → Holds M0 w0 w100 [own (Rp.pair (Rp.int .i64) (Rp.int .u8)) 80 (.slice A68 t67.length c69) t67, box b7 3 [.int .i64 p1], box b2 25 [.slice pA0_0 p0_0.length pc0_0, .int .i64 p0_1, .int .i64 p0_2, .slice pA0_3 p0_3.length pc0_3], sl (Rp.int .u8) (.slice pA0_0 p0_0.length pc0_0) p0_0, sl (Rp.pair (Rp.int .i64) (Rp.int .u8)) (.slice pA0_3 p0_3.length pc0_3) p0_3, box b12 25 [.slice none 0 0, .int .i64 0, .int .i64 0, .slice none 0 0]] → RegI F137 3 [.c 4] 3 [(0, .slice A68 t67.length c69), (1, .func (.func 136) #[] #[.pointer (some ⟨b7, 0, none⟩)]), (10, .int .i64 t98)] w100 (cont (fun e' w' => RegI F121 7 [.c 8] 7 e' w' (banks_Store_put_121.post M0 w0 r)) 22 [(2, .int .u8 p2), (3, .pointer (some ⟨b2, 0, none⟩)), (4, .pointer (some ⟨b7, 0, none⟩)), (6, .pointer (some ⟨b12, 0, none⟩)), (7, .int .i64 t53), (8, .func (.func 136) #[] #[.pointer (some ⟨b7, 0, none⟩)])]) := by
      intro t98 w100 h h99
      rw [hJ102] at h
      clear hJ102
      dsimp only at h
      refine RegI.pure 1 [0, 1, 5] [(0, .slice A68 t67.length c69), (1, .func (.func 136) #[] #[.pointer (some ⟨b7, 0, none⟩)]), (5, .int .i64 t98)] (by kernel_rfl) ?_
      refine RegI.done (by kernel_rfl) ?_
      refine RunsI.go 2 [.c 6, .c 7, .c 12] (by kernel_rfl) ?_
      refine RunsI.region (by kernel_rfl) ?_
      refine RegI.pure 2 [0, 1, 5, 12] [(0, .slice A68 t67.length c69), (1, .func (.func 136) #[] #[.pointer (some ⟨b7, 0, none⟩)]), (5, .int .i64 t98), (12, .bool (t98 == (-1)))] (by kernel_rfl) ?_
      refine RegI.done (by kernel_rfl) ?_
      rcases of_cond h with ⟨hc104, h⟩ | ⟨hc104, h⟩
      · skip
        refine RunsI.fix 12 true hc104 (by kernel_rfl) (by kernel_rfl) ?_
        refine RunsI.cond true 8 (by kernel_rfl) ?_
        refine RunsI.go 1 [.c 9, .c 10, .c 12] (by kernel_rfl) ?_
        refine RunsI.region (by kernel_rfl) ?_
        refine RegI.pure 2 [4] [(4, .slice A68 t67.length c69)] (by kernel_rfl) ?_
        refine RegI.done (by kernel_rfl) ?_
        refine RunsI.ret (.slice A68 t67.length c69) (by kernel_rfl) (by kernel_rfl) ?_
        refine cont_mk ?_
        refine RegI.only [2, 3, 4, 6, 7, 8, 22] [(2, .int .u8 p2), (3, .pointer (some ⟨b2, 0, none⟩)), (4, .pointer (some ⟨b7, 0, none⟩)), (6, .pointer (some ⟨b12, 0, none⟩)), (7, .int .i64 t53), (8, .func (.func 136) #[] #[.pointer (some ⟨b7, 0, none⟩)]), (22, .slice A68 t67.length c69)] (by kernel_rfl) (by kernel_rfl) ?_
        exact hj159 t67 A68 c69 w100 h (h99.pick [2, 3, 4, 1, 5, 0] (by decide))
      · skip
        refine RunsI.fix 12 false hc104 (by kernel_rfl) (by kernel_rfl) ?_
        refine RunsI.cond false 11 (by kernel_rfl) ?_
        refine RunsI.go 1 [.c 12] (by kernel_rfl) ?_
        refine RunsI.go 2 [.c 14, .c 15, .c 35] (by kernel_rfl) ?_
        refine RunsI.region (by kernel_rfl) ?_
        refine RegI.pure 3 [0, 1, 5, 6] [(0, .slice A68 t67.length c69), (1, .func (.func 136) #[] #[.pointer (some ⟨b7, 0, none⟩)]), (5, .int .i64 t98), (6, .int .i64 (IntKind.wrap .i64 (t98 + 1)))] (by kernel_rfl) ?_
        refine RegI.done (by kernel_rfl) ?_
        refine RunsI.go 2 [.c 17, .lp 17, .blk 0, .c 35] (by kernel_rfl) ?_
        obtain ⟨x138, hx139, h⟩ := of_bind h
        refine RunsI.only [0, 1, 5, 6] [(0, .slice A68 t67.length c69), (1, .func (.func 136) #[] #[.pointer (some ⟨b7, 0, none⟩)]), (5, .int .i64 t98), (6, .int .i64 (IntKind.wrap .i64 (t98 + 1)))] (by kernel_rfl) (by kernel_rfl) ?_
        refine banks_Store_put_121.l2_ok K M0 w0 pA0_0 pc0_0 pA0_3 pc0_3 p0_0 p0_1 p0_2 p0_3 p1 p2 A68 c69 b7 b2 b12 _ x138 ?_ K t67 t98 (IntKind.wrap .i64 (t98 + 1)) w100 hx139 (h99.pick [0, 1, 2, 3, 4, 5] (by decide))
        · intro t140 t141 w143 hq306 h142
          (try rw [hq306] at h)
          dsimp only at h
          refine RunsI.go 1 [.c 36, .c 37] (by kernel_rfl) ?_
          refine RunsI.region (by kernel_rfl) ?_
          refine RegI.pure 2 [0, 5, 36, 37] [(0, .slice A68 t140.length c69), (5, .int .i64 t141), (36, .slice A68 t140.length c69), (37, .int .i64 t141)] (by kernel_rfl) ?_
          obtain ⟨hc144, h⟩ := of_cond0 h
          refine RegI.op (by kernel_rfl) (OpE.cutView 38 0 23 80 t141 h142 (by kernel_rfl) rfl (by kernel_rfl) (by kernel_rfl) hc144 ?_)
          refine RegI.op (by kernel_rfl) (OpE.clearEnd 0 23 80 t141 16 [.int .i64 0, .int .u8 0] (Rp.pair (Rp.int .i64) (Rp.int .u8)) (0, 0) h142 (by kernel_rfl) rfl (by kernel_rfl) (by kernel_rfl) (by kernel_rfl) (fun _ _ => ⟨[_], [_], rfl, rfl, rfl⟩) hc144 ?_)
          intro w145 h146 hk147
          refine RegI.done (by kernel_rfl) ?_
          refine RunsI.go 1 [.c 38, .c 39] (by kernel_rfl) ?_
          refine RunsI.region (by kernel_rfl) ?_
          refine RegI.pure 2 [39, 40] [(39, .slice A68 t140.length c69), (40, .int .i64 t141)] (by kernel_rfl) ?_
          obtain ⟨hc148, h⟩ := of_cond0 h
          refine RegI.op (by kernel_rfl) (OpE.cutOwn 41 0 23 80 (some t141) h146 (by kernel_rfl) rfl (by kernel_rfl) (by kernel_rfl) hc148 ?_)
          intro A149 c150 h151
          refine RegI.pure 1 [4] [(4, .slice A149 ((cutL (clrD t140 t141 (0, 0)) 0 t141).length) c150)] (by kernel_rfl) ?_
          refine RegI.done (by kernel_rfl) ?_
          refine RunsI.ret (.slice A149 ((cutL (clrD t140 t141 (0, 0)) 0 t141).length) c150) (by kernel_rfl) (by kernel_rfl) ?_
          refine cont_mk ?_
          refine RegI.only [2, 3, 4, 6, 7, 8, 22] [(2, .int .u8 p2), (3, .pointer (some ⟨b2, 0, none⟩)), (4, .pointer (some ⟨b7, 0, none⟩)), (6, .pointer (some ⟨b12, 0, none⟩)), (7, .int .i64 t53), (8, .func (.func 136) #[] #[.pointer (some ⟨b7, 0, none⟩)]), (22, .slice A149 ((cutL (clrD t140 t141 (0, 0)) 0 t141).length) c150)] (by kernel_rfl) (by kernel_rfl) ?_
          exact hj159 (cutL (clrD t140 t141 (0, 0)) 0 t141) A149 c150 w145 h (h151.pick [1, 2, 3, 4, 5, 0] (by decide))
    clear hJ102
    refine RunsI.go 1 [.c 1, .c 2] (by kernel_rfl) ?_
    refine RunsI.region (by kernel_rfl) ?_
    refine RegI.pure 1 [0, 1] [(0, .slice A68 t67.length c69), (1, .func (.func 136) #[] #[.pointer (some ⟨b7, 0, none⟩)])] (by kernel_rfl) ?_
    refine RegI.done (by kernel_rfl) ?_
    refine RunsI.go 2 [.c 4, .c 5, .c 25] (by kernel_rfl) ?_
    refine RunsI.region (by kernel_rfl) ?_
    refine RegI.pure 3 [0, 1, 7, 8] [(0, .slice A68 t67.length c69), (1, .func (.func 136) #[] #[.pointer (some ⟨b7, 0, none⟩)]), (7, .int .i64 (t67.length : Int)), (8, .int .i64 0)] (by kernel_rfl) ?_
    refine RegI.done (by kernel_rfl) ?_
    refine RunsI.go 2 [.c 7, .lp 7, .blk 0, .c 25] (by kernel_rfl) ?_
    obtain ⟨x91, hx92, h⟩ := of_bind h
    refine RunsI.only [0, 1, 7, 8] [(0, .slice A68 t67.length c69), (1, .func (.func 136) #[] #[.pointer (some ⟨b7, 0, none⟩)]), (7, .int .i64 (t67.length : Int)), (8, .int .i64 0)] (by kernel_rfl) (by kernel_rfl) ?_
    refine banks_Store_put_121.l1_ok K M0 w0 pA0_0 pc0_0 pA0_3 pc0_3 p0_0 p0_1 p0_2 p0_3 p1 p2 t67 (t67.length : Int) A68 c69 b7 b2 b12 _ x91 ?_ ?_ K 0 w63 hx92 (h65.pick [6, 3, 0, 1, 2, 4] (by decide))
    · intro w94 hq307 h93
      (try rw [hq307] at h)
      dsimp only [Lp.elim] at h
      refine RunsI.go 1 [.c 26, .c 27] (by kernel_rfl) ?_
      refine RunsI.region (by kernel_rfl) ?_
      refine RegI.pure 1 [4] [(4, .int .i64 (-1))] (by kernel_rfl) ?_
      refine RegI.done (by kernel_rfl) ?_
      refine RunsI.ret (.int .i64 (-1)) (by kernel_rfl) (by kernel_rfl) ?_
      refine cont_mk ?_
      refine RegI.only [0, 1, 10] [(0, .slice A68 t67.length c69), (1, .func (.func 136) #[] #[.pointer (some ⟨b7, 0, none⟩)]), (10, .int .i64 (-1))] (by kernel_rfl) (by kernel_rfl) ?_
      exact hj103 (-1) w94 h (h93.pick [5, 3, 0, 1, 2, 4] (by decide))
    · intro t95 w97 hq308 h96
      (try rw [hq308] at h)
      dsimp only [Lp.elim] at h
      refine cont_mk ?_
      refine RegI.only [0, 1, 10] [(0, .slice A68 t67.length c69), (1, .func (.func 136) #[] #[.pointer (some ⟨b7, 0, none⟩)]), (10, .int .i64 t95)] (by kernel_rfl) (by kernel_rfl) ?_
      exact hj103 t95 w97 h (h96.pick [5, 3, 0, 1, 2, 4] (by decide))
  clear hJ57
  refine RunsI.go 1 [.c 1, .c 2] (by kernel_rfl) ?_
  refine RunsI.region (by kernel_rfl) ?_
  refine RegI.pure 1 [0, 1] [(0, .slice pA0_3 p0_3.length pc0_3), (1, .func (.func 134) #[] #[.pointer (some ⟨b7, 0, none⟩)])] (by kernel_rfl) ?_
  refine RegI.done (by kernel_rfl) ?_
  refine RunsI.go 2 [.c 4, .c 5, .c 12] (by kernel_rfl) ?_
  refine RunsI.region (by kernel_rfl) ?_
  refine RegI.pure 2 [0, 6, 7] [(0, .slice pA0_3 p0_3.length pc0_3), (6, .slice pA0_3 p0_3.length pc0_3), (7, .func (.func 134) #[] #[.pointer (some ⟨b7, 0, none⟩)])] (by kernel_rfl) ?_
  refine RegI.enter 8 [0] [(0, .slice pA0_3 p0_3.length pc0_3)] (by kernel_rfl) (by kernel_rfl) (by kernel_rfl) (by kernel_rfl) F119 119 rfl [.slice pA0_3 p0_3.length pc0_3, .func (.func 134) #[] #[.pointer (some ⟨b7, 0, none⟩)]] (by kernel_rfl) (by kernel_rfl) ?_
  obtain ⟨j49, hJ50, h⟩ := of_let h
  have hj51 : ∀ (t46 : Int) (w48 : World), j49 t46 = some r → Holds M0 w0 w48 [sl (Rp.pair (Rp.int .i64) (Rp.int .u8)) (.slice pA0_3 p0_3.length pc0_3) p0_3, box b2 25 [.slice pA0_0 p0_0.length pc0_0, .int .i64 p0_1, .int .i64 p0_2, .slice pA0_3 p0_3.length pc0_3], sl (Rp.int .u8) (.slice pA0_0 p0_0.length pc0_0) p0_0, box b7 3 [.int .i64 p1], box b12 25 [.slice none 0 0, .int .i64 0, .int .i64 0, .slice none 0 0]] → RegI F77 4 [.c 5, .c 12] 3 [(0, .slice pA0_3 p0_3.length pc0_3), (8, .int .i64 t46)] w48 (cont (fun e' w' => RegI F121 3 [.c 4] 4 e' w' (banks_Store_put_121.post M0 w0 r)) 14 [(2, .int .u8 p2), (3, .pointer (some ⟨b2, 0, none⟩)), (4, .pointer (some ⟨b7, 0, none⟩)), (6, .pointer (some ⟨b12, 0, none⟩))]) := by
    intro t46 w48 h h47
    rw [hJ50] at h
    clear hJ50
    dsimp only at h
    refine RegI.pure 1 [0, 5] [(0, .slice pA0_3 p0_3.length pc0_3), (5, .int .i64 t46)] (by kernel_rfl) ?_
    refine RegI.done (by kernel_rfl) ?_
    refine RunsI.go 1 [.c 6, .c 7, .c 12] (by kernel_rfl) ?_
    refine RunsI.region (by kernel_rfl) ?_
    refine RegI.pure 2 [0, 5, 10] [(0, .slice pA0_3 p0_3.length pc0_3), (5, .int .i64 t46), (10, .bool (decide (t46 ≥ 0)))] (by kernel_rfl) ?_
    refine RegI.done (by kernel_rfl) ?_
    rcases of_cond h with ⟨hc52, h⟩ | ⟨hc52, h⟩
    · skip
      refine RunsI.fix 10 true hc52 (by kernel_rfl) (by kernel_rfl) ?_
      refine RunsI.cond true 8 (by kernel_rfl) ?_
      refine RunsI.go 1 [.c 9, .c 10, .c 12] (by kernel_rfl) ?_
      refine RunsI.region (by kernel_rfl) ?_
      refine RegI.pure 2 [4] [(4, .int .i64 t46)] (by kernel_rfl) ?_
      refine RegI.done (by kernel_rfl) ?_
      refine RunsI.ret (.int .i64 t46) (by kernel_rfl) (by kernel_rfl) ?_
      refine cont_mk ?_
      refine RegI.only [2, 3, 4, 6, 14] [(2, .int .u8 p2), (3, .pointer (some ⟨b2, 0, none⟩)), (4, .pointer (some ⟨b7, 0, none⟩)), (6, .pointer (some ⟨b12, 0, none⟩)), (14, .int .i64 t46)] (by kernel_rfl) (by kernel_rfl) ?_
      exact hj58 t46 w48 h (h47.pick [1, 2, 0, 3, 4] (by decide))
    · skip
      refine RunsI.fix 10 false hc52 (by kernel_rfl) (by kernel_rfl) ?_
      refine RunsI.cond false 11 (by kernel_rfl) ?_
      refine RunsI.go 1 [.c 12] (by kernel_rfl) ?_
      refine RunsI.go 1 [.c 13, .c 14] (by kernel_rfl) ?_
      refine RunsI.region (by kernel_rfl) ?_
      refine RegI.pure 3 [4] [(4, .int .i64 (p0_3.length : Int))] (by kernel_rfl) ?_
      refine RegI.done (by kernel_rfl) ?_
      refine RunsI.ret (.int .i64 (p0_3.length : Int)) (by kernel_rfl) (by kernel_rfl) ?_
      refine cont_mk ?_
      refine RegI.only [2, 3, 4, 6, 14] [(2, .int .u8 p2), (3, .pointer (some ⟨b2, 0, none⟩)), (4, .pointer (some ⟨b7, 0, none⟩)), (6, .pointer (some ⟨b12, 0, none⟩)), (14, .int .i64 (p0_3.length : Int))] (by kernel_rfl) (by kernel_rfl) ?_
      exact hj58 (p0_3.length : Int) w48 h (h47.pick [1, 2, 0, 3, 4] (by decide))
  clear hJ50
  refine RunsI.go 1 [.c 1, .c 2] (by kernel_rfl) ?_
  refine RunsI.region (by kernel_rfl) ?_
  refine RegI.pure 1 [0, 1] [(0, .slice pA0_3 p0_3.length pc0_3), (1, .func (.func 134) #[] #[.pointer (some ⟨b7, 0, none⟩)])] (by kernel_rfl) ?_
  refine RegI.done (by kernel_rfl) ?_
  refine RunsI.go 2 [.c 4, .c 5, .c 25] (by kernel_rfl) ?_
  refine RunsI.region (by kernel_rfl) ?_
  refine RegI.pure 3 [0, 1, 7, 8] [(0, .slice pA0_3 p0_3.length pc0_3), (1, .func (.func 134) #[] #[.pointer (some ⟨b7, 0, none⟩)]), (7, .int .i64 (p0_3.length : Int)), (8, .int .i64 0)] (by kernel_rfl) ?_
  refine RegI.done (by kernel_rfl) ?_
  refine RunsI.go 2 [.c 7, .lp 7, .blk 0, .c 25] (by kernel_rfl) ?_
  obtain ⟨x39, hx40, h⟩ := of_bind h
  refine RunsI.only [0, 1, 7, 8] [(0, .slice pA0_3 p0_3.length pc0_3), (1, .func (.func 134) #[] #[.pointer (some ⟨b7, 0, none⟩)]), (7, .int .i64 (p0_3.length : Int)), (8, .int .i64 0)] (by kernel_rfl) (by kernel_rfl) ?_
  refine banks_Store_put_121.l0_ok K M0 w0 pA0_0 pc0_0 pA0_3 pc0_3 p0_0 p0_1 p0_2 p0_3 p1 p2 b7 b2 b12 _ x39 ?_ ?_ K 0 w11 hx40 (h13.pick [1, 3, 2, 0, 4] (by decide))
  · intro w42 hq309 h41
    (try rw [hq309] at h)
    dsimp only [Lp.elim] at h
    refine RunsI.go 1 [.c 26, .c 27] (by kernel_rfl) ?_
    refine RunsI.region (by kernel_rfl) ?_
    refine RegI.pure 1 [4] [(4, .int .i64 (-1))] (by kernel_rfl) ?_
    refine RegI.done (by kernel_rfl) ?_
    refine RunsI.ret (.int .i64 (-1)) (by kernel_rfl) (by kernel_rfl) ?_
    refine cont_mk ?_
    refine RegI.only [0, 8] [(0, .slice pA0_3 p0_3.length pc0_3), (8, .int .i64 (-1))] (by kernel_rfl) (by kernel_rfl) ?_
    exact hj51 (-1) w42 h (h41.pick [2, 0, 1, 3, 4] (by decide))
  · intro t43 w45 hq310 h44
    (try rw [hq310] at h)
    dsimp only [Lp.elim] at h
    refine cont_mk ?_
    refine RegI.only [0, 8] [(0, .slice pA0_3 p0_3.length pc0_3), (8, .int .i64 t43)] (by kernel_rfl) (by kernel_rfl) ?_
    exact hj51 t43 w45 h (h44.pick [2, 0, 1, 3, 4] (by decide))
end

/-! ### charabanc/banks.Write (function 85) -/
section
def banks_Write_85.post (M0 : Nat → Prop) (w0 : World) (r : (List Int) × Int × Int × (List (Int × Int))) : Ending → World → Prop := fun e w => ∃ (A1 : Option Addr) (c1 : Nat) (A4 : Option Addr) (c4 : Nat), e = .returned (.agg #[.slice A1 r.1.length c1, .int .i64 r.2.1, .int .i64 r.2.2.1, .slice A4 r.2.2.2.length c4]) ∧ Holds M0 w0 w [sl (Rp.int .u8) (.slice A1 r.1.length c1) r.1, sl (Rp.pair (Rp.int .i64) (Rp.int .u8)) (.slice A4 r.2.2.2.length c4) r.2.2.2]
def banks_Write_85.f (K : Nat) (p0_0 : List Int) (p0_1 : Int) (p0_2 : Int) (p0_3 : List (Int × Int)) (p1 : Int) (p2 : Int) : Option ((List Int) × Int × Int × (List (Int × Int))) := (banks_Where_76.f K p0_0 p0_1 p0_2 p0_3 p1).bind fun yt15 => cond (!yt15.2) (some (p0_0, p0_1, p0_2, p0_3)) ((banks_Store_put_121.f K p0_0 p0_1 p0_2 p0_3 yt15.1 p2).bind fun yt25 => some (yt25.1, yt25.2.1, yt25.2.2.1, yt25.2.2.2))
set_option maxRecDepth 100000 in
theorem banks_Write_85_ok (K : Nat) (M0 : Nat → Prop) (w0 : World) (pA0_0 : Option Addr) (pc0_0 : Nat) (pA0_3 : Option Addr) (pc0_3 : Nat) (p0_0 : List Int) (p0_1 : Int) (p0_2 : Int) (p0_3 : List (Int × Int)) (p1 : Int) (p2 : Int) (ho : ∀ b, M0 b → b < w0.heap.size) (hs0_0 : Sl (Rp.int .u8) w0 M0 (.slice pA0_0 p0_0.length pc0_0) p0_0) (hs0_3 : Sl (Rp.pair (Rp.int .i64) (Rp.int .u8)) w0 M0 (.slice pA0_3 p0_3.length pc0_3) p0_3) {r : (List Int) × Int × Int × (List (Int × Int))} (h : banks_Write_85.f K p0_0 p0_1 p0_2 p0_3 p1 p2 = some r) :
    Calls Tryd.prog 85 #[.agg #[.slice pA0_0 p0_0.length pc0_0, .int .i64 p0_1, .int .i64 p0_2, .slice pA0_3 p0_3.length pc0_3], .int .u16 p1, .int .u8 p2] w0 (banks_Write_85.post M0 w0 r) := by
  unfold banks_Write_85.f at h
  have h0 : Holds M0 w0 w0 [] := Holds.start ho
  have h00_0 := h0.addSl (Rp.int .u8) (.slice pA0_0 p0_0.length pc0_0) p0_0 (hs0_0.mono (fun _ _ hm => hm.elim id (fun hm => absurd hm (by simp [mines, sl]))))
  have h00_3 := h00_0.addSl (Rp.pair (Rp.int .i64) (Rp.int .u8)) (.slice pA0_3 p0_3.length pc0_3) p0_3 (hs0_3.mono (fun _ _ hm => hm.elim id (fun hm => absurd hm (by simp [mines, sl]))))
  have h0 : Holds M0 w0 w0 [sl (Rp.int .u8) (.slice pA0_0 p0_0.length pc0_0) p0_0, sl (Rp.pair (Rp.int .i64) (Rp.int .u8)) (.slice pA0_3 p0_3.length pc0_3) p0_3] := h00_3
  refine calls_of F85 rfl [.agg #[.slice pA0_0 p0_0.length pc0_0, .int .i64 p0_1, .int .i64 p0_2, .slice pA0_3 p0_3.length pc0_3], .int .u16 p1, .int .u8 p2] (by kernel_rfl) ?_
  refine RunsI.go 1 [.c 1, .c 2] (by kernel_rfl) ?_
  refine RunsI.region (by kernel_rfl) ?_
  refine RegI.op (by kernel_rfl) (OpE.box 3 25 [.slice pA0_0 p0_0.length pc0_0, .int .i64 p0_1, .int .i64 p0_2, .slice pA0_3 p0_3.length pc0_3] h0 (by kernel_rfl) (by kernel_rfl) ?_)
  intro w1 b2 h3 hb4 hn5
  refine RegI.op (by kernel_rfl) (OpE.box 6 25 [.slice none 0 0, .int .i64 0, .int .i64 0, .slice none 0 0] h3 (by kernel_rfl) (by kernel_rfl) ?_)
  intro w6 b7 h8 hb9 hn10
  refine RegI.done (by kernel_rfl) ?_
  refine RunsI.go 1 [.c 3, .c 4] (by kernel_rfl) ?_
  refine RunsI.region (by kernel_rfl) ?_
  refine RegI.op (by kernel_rfl) (OpE.loadBox 10 2 25 b2 0 (.agg #[.slice pA0_0 p0_0.length pc0_0, .int .i64 p0_1, .int .i64 p0_2, .slice pA0_3 p0_3.length pc0_3]) h8 (by kernel_rfl) (by kernel_rfl) rfl (by kernel_rfl) ?_)
  refine RegI.pure 1 [2, 3, 6, 10, 11] [(2, .int .u8 p2), (3, .pointer (some ⟨b2, 0, none⟩)), (6, .pointer (some ⟨b7, 0, none⟩)), (10, .agg #[.slice pA0_0 p0_0.length pc0_0, .int .i64 p0_1, .int .i64 p0_2, .slice pA0_3 p0_3.length pc0_3]), (11, .int .u16 p1)] (by kernel_rfl) ?_
  obtain ⟨⟨t15, t16⟩, hg14, h⟩ := of_bind h
  dsimp only at h
  refine RegI.op (by kernel_rfl) (OpE.call 12 (by kernel_rfl) 76 #[.agg #[.slice pA0_0 p0_0.length pc0_0, .int .i64 p0_1, .int .i64 p0_2, .slice pA0_3 p0_3.length pc0_3], .int .u16 p1] (by kernel_rfl) ((banks_Where_76_ok K _ w6  pA0_0 pc0_0 pA0_3 pc0_3 p0_0 p0_1 p0_2 p0_3 p1 h8.old' (h8.get 0 rfl) (h8.get 1 rfl) hg14).mono ?_))
  rintro _ w11 ⟨rfl, hb12⟩
  refine ⟨_, rfl, ?_⟩
  have h13 := h8.call hb12
  refine RegI.pure 5 [2, 3, 6, 7, 8] [(2, .int .u8 p2), (3, .pointer (some ⟨b2, 0, none⟩)), (6, .pointer (some ⟨b7, 0, none⟩)), (7, .int .i64 t15), (8, .bool t16)] (by kernel_rfl) ?_
  refine RegI.done (by kernel_rfl) ?_
  refine RunsI.go 2 [.c 6, .c 7, .c 12] (by kernel_rfl) ?_
  refine RunsI.region (by kernel_rfl) ?_
  refine RegI.pure 2 [2, 3, 6, 7, 16] [(2, .int .u8 p2), (3, .pointer (some ⟨b2, 0, none⟩)), (6, .pointer (some ⟨b7, 0, none⟩)), (7, .int .i64 t15), (16, .bool (!t16))] (by kernel_rfl) ?_
  refine RegI.done (by kernel_rfl) ?_
  rcases of_cond h with ⟨hc17, h⟩ | ⟨hc17, h⟩
  · skip
    refine RunsI.fix 16 true hc17 (by kernel_rfl) (by kernel_rfl) ?_
    refine RunsI.cond true 8 (by kernel_rfl) ?_
    refine RunsI.go 1 [.c 9, .c 10, .c 12] (by kernel_rfl) ?_
    refine RunsI.region (by kernel_rfl) ?_
    refine RegI.op (by kernel_rfl) (OpE.loadBox 17 2 25 b2 0 (.agg #[.slice pA0_0 p0_0.length pc0_0, .int .i64 p0_1, .int .i64 p0_2, .slice pA0_3 p0_3.length pc0_3]) h13 (by kernel_rfl) (by kernel_rfl) rfl (by kernel_rfl) ?_)
    refine RegI.op (by kernel_rfl) (OpE.storeBox 3 25 b7 0 (.agg #[.slice pA0_0 p0_0.length pc0_0, .int .i64 p0_1, .int .i64 p0_2, .slice pA0_3 p0_3.length pc0_3]) [.slice pA0_0 p0_0.length pc0_0, .int .i64 p0_1, .int .i64 p0_2, .slice pA0_3 p0_3.length pc0_3] h13 (by kernel_rfl) (by kernel_rfl) rfl (by kernel_rfl) (by kernel_rfl) (by kernel_rfl) ?_)
    intro w18 h19 hk20
    refine RegI.done (by kernel_rfl) ?_
    refine RunsI.toRet (by kernel_rfl) ?_
    refine RetI.valW [.cell 6 25] [.agg #[.slice pA0_0 p0_0.length pc0_0, .int .i64 p0_1, .int .i64 p0_2, .slice pA0_3 p0_3.length pc0_3]] (.agg #[.slice pA0_0 p0_0.length pc0_0, .int .i64 p0_1, .int .i64 p0_2, .slice pA0_3 p0_3.length pc0_3]) (by kernel_rfl) (ResAt.box 3 25 b7 0 h19 (by kernel_rfl) (by kernel_rfl) rfl (by kernel_rfl) rfl) (by kernel_rfl) ?_
    obtain rfl := Option.some.inj h
    exact ⟨pA0_0, pc0_0, pA0_3, pc0_3, rfl, h19.pick [0, 1] (by decide)⟩
  · skip
    refine RunsI.fix 16 false hc17 (by kernel_rfl) (by kernel_rfl) ?_
    refine RunsI.cond false 11 (by kernel_rfl) ?_
    refine RunsI.go 1 [.c 12] (by kernel_rfl) ?_
    refine RunsI.go 1 [.c 13, .c 14] (by kernel_rfl) ?_
    refine RunsI.region (by kernel_rfl) ?_
    refine RegI.op (by kernel_rfl) (OpE.loadBox 18 2 25 b2 0 (.agg #[.slice pA0_0 p0_0.length pc0_0, .int .i64 p0_1, .int .i64 p0_2, .slice pA0_3 p0_3.length pc0_3]) h13 (by kernel_rfl) (by kernel_rfl) rfl (by kernel_rfl) ?_)
    refine RegI.pure 2 [6, 18, 19, 20] [(6, .pointer (some ⟨b7, 0, none⟩)), (18, .agg #[.slice pA0_0 p0_0.length pc0_0, .int .i64 p0_1, .int .i64 p0_2, .slice pA0_3 p0_3.length pc0_3]), (19, .int .i64 t15), (20, .int .u8 p2)] (by kernel_rfl) ?_
    obtain ⟨⟨t25, t29, t30, t31⟩, hg24, h⟩ := of_bind h
    dsimp only at h
    refine RegI.op (by kernel_rfl) (OpE.call 21 (by kernel_rfl) 121 #[.agg #[.slice pA0_0 p0_0.length pc0_0, .int .i64 p0_1, .int .i64 p0_2, .slice pA0_3 p0_3.length pc0_3], .int .i64 t15, .int .u8 p2] (by kernel_rfl) ((banks_Store_put_121_ok K _ w11  pA0_0 pc0_0 pA0_3 pc0_3 p0_0 p0_1 p0_2 p0_3 t15 p2 h13.old' (h13.get 0 rfl) (h13.get 1 rfl) hg24).mono ?_))
    rintro _ w21 ⟨A26, c27, A32, c33, rfl, hr35⟩
    refine ⟨_, rfl, ?_⟩
    have hb22 := hr35.below
    have h23 := h13.join hr35
    refine RegI.op (by kernel_rfl) (OpE.storeBox 3 25 b7 0 (.agg #[.slice A26 t25.length c27, .int .i64 t29, .int .i64 t30, .slice A32 t31.length c33]) [.slice A26 t25.length c27, .int .i64 t29, .int .i64 t30, .slice A32 t31.length c33] h23 (by kernel_rfl) (by kernel_rfl) rfl (by kernel_rfl) (by kernel_rfl) (by kernel_rfl) ?_)
    intro w36 h37 hk38
    refine RegI.done (by kernel_rfl) ?_
    refine RunsI.toRet (by kernel_rfl) ?_
    refine RetI.valW [.cell 6 25] [.agg #[.slice A26 t25.length c27, .int .i64 t29, .int .i64 t30, .slice A32 t31.length c33]] (.agg #[.slice A26 t25.length c27, .int .i64 t29, .int .i64 t30, .slice A32 t31.length c33]) (by kernel_rfl) (ResAt.box 3 25 b7 0 h37 (by kernel_rfl) (by kernel_rfl) rfl (by kernel_rfl) rfl) (by kernel_rfl) ?_
    have h39 := h37.release 5 rfl
    obtain rfl := Option.some.inj h
    exact ⟨A26, c27, A32, c33, rfl, h39.pick [4, 5] (by decide)⟩
end

/-! ### charabanc/latch.Device (function 86) -/
section
def latch_Device_86.post (M0 : Nat → Prop) (w0 : World) (r : Int × Int) : Ending → World → Prop := fun e w => e = .returned (.tuple #[.int .i64 r.1, .int .i64 r.2]) ∧ Below w0.heap.size w0 w
def latch_Device_86.l0 (K : Nat) (p0 : Int) : Nat → Int → Option (Lp (Int × Int) Unit)
  | 0, _ => none
  | k + 1, t1 => cond (decide (t1 < 7)) (cond (inR t1 7) (Let (fun (t13 : Bool) => cond t13 (some (Lp.ret (t1, (IntKind.wrap .i64 ((IntKind.wrap .i64 p0) - ((rdD tab_2 t1).1)))))) (latch_Device_86.l0 K p0 k (IntKind.wrap .i64 (t1 + 1)))) (fun j16 => cond (decide ((IntKind.wrap .i64 ((IntKind.wrap .i64 p0) - ((rdD tab_2 t1).1))) ≥ 0)) (j16 (decide ((IntKind.wrap .i64 ((IntKind.wrap .i64 p0) - ((rdD tab_2 t1).1))) < ((rdD tab_2 t1).2)))) (j16 false))) none) (some (Lp.go ()))
set_option maxRecDepth 100000 in
theorem latch_Device_86.l0_ok (K : Nat) (M0 : Nat → Prop) (w0 : World) (p0 : Int) (R : Ending → World → Prop) (x : Lp (Int × Int) Unit) (hk0 : ∀ (w1 : World), x = Lp.go () → Holds M0 w0 w1 [gl 2 (tab_2.flatMap en_2)] → RunsI F86 [.c 27] [] w1 R) (hk1 : ∀ (t20 : Int) (t21 : Int) (w1 : World), x = Lp.ret (t20, t21) → Holds M0 w0 w1 [gl 2 (tab_2.flatMap en_2)] → R (.returned (.tuple #[.int .i64 t20, .int .i64 t21])) w1) :
    ∀ (k : Nat) (t1 : Int) (w : World), latch_Device_86.l0 K p0 k t1 = some x → Holds M0 w0 w [gl 2 (tab_2.flatMap en_2)] → RunsI F86 [.c 7, .lp 7, .blk 0, .c 27] [(0, .int .u8 p0), (7, .agg (List.flatMap en_2 tab_2).toArray), (8, .int .i64 t1)] w R := by
  intro k
  induction k with
  | zero => intro t1 w h hH; exact absurd h (by simp [latch_Device_86.l0])
  | succ k ih =>
    intro t1 w h hH
    rw [latch_Device_86.l0.eq_2] at h
    refine RunsI.go 1 [.c 8, .c 9, .lp 7, .blk 0, .c 27] (by kernel_rfl) ?_
    refine RunsI.region (by kernel_rfl) ?_
    refine RegI.pure 1 [0, 7, 8, 9] [(0, .int .u8 p0), (7, .agg (List.flatMap en_2 tab_2).toArray), (8, .int .i64 t1), (9, .bool (decide (t1 < 7)))] (by kernel_rfl) ?_
    refine RegI.done (by kernel_rfl) ?_
    refine RunsI.go 1 [.c 10, .c 13, .lp 7, .blk 0, .c 27] (by kernel_rfl) ?_
    rcases of_cond h with ⟨hc2, h⟩ | ⟨hc2, h⟩
    · skip
      refine RunsI.fix 9 true hc2 (by kernel_rfl) (by kernel_rfl) ?_
      refine RunsI.cond true 11 (by kernel_rfl) ?_
      refine RunsI.go 1 [.c 13, .lp 7, .blk 0, .c 27] (by kernel_rfl) ?_
      refine RunsI.go 3 [.c 16, .c 17, .blk 1, .c 26, .lp 7, .blk 0, .c 27] (by kernel_rfl) ?_
      refine RunsI.region (by kernel_rfl) ?_
      refine RegI.pure 1 [0, 7, 8, 10] [(0, .int .u8 p0), (7, .agg (List.flatMap en_2 tab_2).toArray), (8, .int .i64 t1), (10, .int .i64 t1)] (by kernel_rfl) ?_
      obtain ⟨hc3, h⟩ := of_cond0 h
      refine RegI.op (by kernel_rfl) (OpE.run 11 (by kernel_rfl) (run_indexTab (T0 := 166) (en := en_2) (tab := tab_2) (len := 7) (sz := 2) (j := t1) (v := .agg #[.int .i64 ((rdD tab_2 t1).1), .int .i64 ((rdD tab_2 t1).2)]) (fun _ => rfl) (by kernel_rfl) (by kernel_rfl) rfl hc3 (fun _ => by kernel_rfl)) ?_)
      refine RegI.op (by kernel_rfl) (OpE.box 5 165 [.int .i64 0, .int .i64 0] hH (by kernel_rfl) (by kernel_rfl) ?_)
      intro w4 b5 h6 hb7 hn8
      refine RegI.pure 1 [0, 4, 5, 7, 8, 11] [(0, .int .u8 p0), (4, .int .i64 t1), (5, .pointer (some ⟨b5, 0, none⟩)), (7, .agg (List.flatMap en_2 tab_2).toArray), (8, .int .i64 t1), (11, .agg #[.int .i64 ((rdD tab_2 t1).1), .int .i64 ((rdD tab_2 t1).2)])] (by kernel_rfl) ?_
      refine RegI.op (by kernel_rfl) (OpE.storeBox 1 165 b5 0 (.agg #[.int .i64 ((rdD tab_2 t1).1), .int .i64 ((rdD tab_2 t1).2)]) [.int .i64 ((rdD tab_2 t1).1), .int .i64 ((rdD tab_2 t1).2)] h6 (by kernel_rfl) (by kernel_rfl) rfl (by kernel_rfl) (by kernel_rfl) (by kernel_rfl) ?_)
      intro w9 h10 hk11
      refine RegI.done (by kernel_rfl) ?_
      refine RunsI.go 1 [.c 18, .c 19, .blk 1, .c 26, .lp 7, .blk 0, .c 27] (by kernel_rfl) ?_
      refine RunsI.region (by kernel_rfl) ?_
      refine RegI.pure 3 [0, 4, 5, 7, 8, 13, 14] [(0, .int .u8 p0), (4, .int .i64 t1), (5, .pointer (some ⟨b5, 0, none⟩)), (7, .agg (List.flatMap en_2 tab_2).toArray), (8, .int .i64 t1), (13, .int .i64 (IntKind.wrap .i64 p0)), (14, .pointer (some ⟨b5, 0, none⟩))] (by kernel_rfl) ?_
      refine RegI.op (by kernel_rfl) (OpE.loadBox 15 1 3 b5 0 (.int .i64 ((rdD tab_2 t1).1)) h10 (by kernel_rfl) (by kernel_rfl) rfl (by kernel_rfl) ?_)
      refine RegI.pure 2 [0, 4, 5, 6, 7, 8] [(0, .int .u8 p0), (4, .int .i64 t1), (5, .pointer (some ⟨b5, 0, none⟩)), (6, .int .i64 (IntKind.wrap .i64 ((IntKind.wrap .i64 p0) - ((rdD tab_2 t1).1)))), (7, .agg (List.flatMap en_2 tab_2).toArray), (8, .int .i64 t1)] (by kernel_rfl) ?_
      refine RegI.done (by kernel_rfl) ?_
      refine RunsI.go 1 [.c 20, .c 21, .blk 1, .c 26, .lp 7, .blk 0, .c 27] (by kernel_rfl) ?_
      refine RunsI.region (by kernel_rfl) ?_
      refine RegI.pure 3 [0, 4, 5, 6, 7, 8, 19] [(0, .int .u8 p0), (4, .int .i64 t1), (5, .pointer (some ⟨b5, 0, none⟩)), (6, .int .i64 (IntKind.wrap .i64 ((IntKind.wrap .i64 p0) - ((rdD tab_2 t1).1)))), (7, .agg (List.flatMap en_2 tab_2).toArray), (8, .int .i64 t1), (19, .bool (decide ((IntKind.wrap .i64 ((IntKind.wrap .i64 p0) - ((rdD tab_2 t1).1))) ≥ 0)))] (by kernel_rfl) ?_
      obtain ⟨j16, hJ17, h⟩ := of_let h
      have hj18 : ∀ (t13 : Bool) (w15 : World), j16 t13 = some x → Holds M0 w0 w15 [gl 2 (tab_2.flatMap en_2)] → RegI F86 20 [.c 21, .blk 1, .c 26, .lp 7, .blk 0, .c 27] 8 [(0, .int .u8 p0), (4, .int .i64 t1), (6, .int .i64 (IntKind.wrap .i64 ((IntKind.wrap .i64 p0) - ((rdD tab_2 t1).1)))), (7, .agg (List.flatMap en_2 tab_2).toArray), (8, .int .i64 t1), (24, .bool t13)] w15 R := by
        intro t13 w15 h h14
        rw [hJ17] at h
        clear hJ17
        dsimp only at h
        refine RegI.done (by kernel_rfl) ?_
        rcases of_cond h with ⟨hc19, h⟩ | ⟨hc19, h⟩
        · skip
          refine RunsI.fix 24 true hc19 (by kernel_rfl) (by kernel_rfl) ?_
          refine RunsI.cond true 22 (by kernel_rfl) ?_
          refine RunsI.go 1 [.c 23, .c 24, .blk 1, .c 26, .lp 7, .blk 0, .c 27] (by kernel_rfl) ?_
          refine RunsI.region (by kernel_rfl) ?_
          refine RegI.pure 4 [2, 3] [(2, .int .i64 t1), (3, .int .i64 (IntKind.wrap .i64 ((IntKind.wrap .i64 p0) - ((rdD tab_2 t1).1))))] (by kernel_rfl) ?_
          refine RegI.done (by kernel_rfl) ?_
          refine RunsI.ret (.tuple #[.int .i64 t1, .int .i64 (IntKind.wrap .i64 ((IntKind.wrap .i64 p0) - ((rdD tab_2 t1).1)))]) (by kernel_rfl) (by kernel_rfl) ?_
          exact hk1 t1 (IntKind.wrap .i64 ((IntKind.wrap .i64 p0) - ((rdD tab_2 t1).1))) w15 (Option.some.inj h).symm (h14.pick [0] (by decide))
        · skip
          refine RunsI.fix 24 false hc19 (by kernel_rfl) (by kernel_rfl) ?_
          refine RunsI.cond false 25 (by kernel_rfl) ?_
          refine RunsI.go 1 [.blk 1, .c 26, .lp 7, .blk 0, .c 27] (by kernel_rfl) ?_
          refine RunsI.go 1 [.c 26, .lp 7, .blk 0, .c 27] (by kernel_rfl) ?_
          refine RunsI.region (by kernel_rfl) ?_
          refine RegI.pure 2 [0, 7, 8] [(0, .int .u8 p0), (7, .agg (List.flatMap en_2 tab_2).toArray), (8, .int .i64 (IntKind.wrap .i64 (t1 + 1)))] (by kernel_rfl) ?_
          refine RegI.done (by kernel_rfl) ?_
          refine RunsI.go 1 [.c 7, .lp 7, .blk 0, .c 27] (by kernel_rfl) ?_
          refine RunsI.only [0, 7, 8] [(0, .int .u8 p0), (7, .agg (List.flatMap en_2 tab_2).toArray), (8, .int .i64 (IntKind.wrap .i64 (t1 + 1)))] (by kernel_rfl) (by kernel_rfl) ?_
          exact ih (IntKind.wrap .i64 (t1 + 1)) w15 h (h14.pick [0] (by decide))
      clear hJ17
      rcases of_cond h with ⟨hc12, h⟩ | ⟨hc12, h⟩
      · skip
        refine RegI.fix 19 true hc12 (by kernel_rfl) (by kernel_rfl) ?_
        refine RegI.pure 2 [0, 4, 6, 7, 8, 19, 20, 21] [(0, .int .u8 p0), (4, .int .i64 t1), (6, .int .i64 (IntKind.wrap .i64 ((IntKind.wrap .i64 p0) - ((rdD tab_2 t1).1)))), (7, .agg (List.flatMap en_2 tab_2).toArray), (8, .int .i64 t1), (19, .bool true), (20, .int .i64 (IntKind.wrap .i64 ((IntKind.wrap .i64 p0) - ((rdD tab_2 t1).1)))), (21, .pointer (some ⟨b5, 1, none⟩))] (by kernel_rfl) ?_
        refine RegI.op (by kernel_rfl) (OpE.loadBox 22 1 3 b5 1 (.int .i64 ((rdD tab_2 t1).2)) h10 (by kernel_rfl) (by kernel_rfl) rfl (by kernel_rfl) ?_)
        refine RegI.pure 2 [0, 4, 6, 7, 8, 24] [(0, .int .u8 p0), (4, .int .i64 t1), (6, .int .i64 (IntKind.wrap .i64 ((IntKind.wrap .i64 p0) - ((rdD tab_2 t1).1)))), (7, .agg (List.flatMap en_2 tab_2).toArray), (8, .int .i64 t1), (24, .bool (decide ((IntKind.wrap .i64 ((IntKind.wrap .i64 p0) - ((rdD tab_2 t1).1))) < ((rdD tab_2 t1).2))))] (by kernel_rfl) ?_
        refine RegI.only [0, 4, 6, 7, 8, 24] [(0, .int .u8 p0), (4, .int .i64 t1), (6, .int .i64 (IntKind.wrap .i64 ((IntKind.wrap .i64 p0) - ((rdD tab_2 t1).1)))), (7, .agg (List.flatMap en_2 tab_2).toArray), (8, .int .i64 t1), (24, .bool (decide ((IntKind.wrap .i64 ((IntKind.wrap .i64 p0) - ((rdD tab_2 t1).1))) < ((rdD tab_2 t1).2))))] (by kernel_rfl) (by kernel_rfl) ?_
        exact hj18 (decide ((IntKind.wrap .i64 ((IntKind.wrap .i64 p0) - ((rdD tab_2 t1).1))) < ((rdD tab_2 t1).2))) w9 h (h10.pick [0] (by decide))
      · skip
        refine RegI.fix 19 false hc12 (by kernel_rfl) (by kernel_rfl) ?_
        refine RegI.pure 5 [0, 4, 6, 7, 8, 24] [(0, .int .u8 p0), (4, .int .i64 t1), (6, .int .i64 (IntKind.wrap .i64 ((IntKind.wrap .i64 p0) - ((rdD tab_2 t1).1)))), (7, .agg (List.flatMap en_2 tab_2).toArray), (8, .int .i64 t1), (24, .bool false)] (by kernel_rfl) ?_
        refine RegI.only [0, 4, 6, 7, 8, 24] [(0, .int .u8 p0), (4, .int .i64 t1), (6, .int .i64 (IntKind.wrap .i64 ((IntKind.wrap .i64 p0) - ((rdD tab_2 t1).1)))), (7, .agg (List.flatMap en_2 tab_2).toArray), (8, .int .i64 t1), (24, .bool false)] (by kernel_rfl) (by kernel_rfl) ?_
        exact hj18 false w9 h (h10.pick [0] (by decide))
    · skip
      refine RunsI.fix 9 false hc2 (by kernel_rfl) (by kernel_rfl) ?_
      refine RunsI.cond false 12 (by kernel_rfl) ?_
      refine RunsI.go 1 [.c 27] (by kernel_rfl) ?_
      refine RunsI.only [] [] (by kernel_rfl) (by kernel_rfl) ?_
      exact hk0 w (Option.some.inj h).symm (hH.pick [0] (by decide))
def latch_Device_86.f (K : Nat) (p0 : Int) : Option (Int × Int) := (latch_Device_86.l0 K p0 K 0).bind (fun x22 => Lp.elim x22 (fun yx22 => some (yx22.1, yx22.2)) (fun _ => some (0, 0)))
set_option maxRecDepth 100000 in
theorem latch_Device_86_ok (K : Nat) (M0 : Nat → Prop) (w0 : World) (p0 : Int) (ho : ∀ b, M0 b → b < w0.heap.size) (hG2 : (gl 2 (tab_2.flatMap en_2)).ok w0 M0) {r : Int × Int} (h : latch_Device_86.f K p0 = some r) :
    Calls Tryd.prog 86 #[.int .u8 p0] w0 (latch_Device_86.post M0 w0 r) := by
  unfold latch_Device_86.f at h
  have h0 : Holds M0 w0 w0 [] := Holds.start ho
  have h0g2 := h0.add (gl 2 (tab_2.flatMap en_2)) rfl ⟨hG2.1, fun hm => hG2.2.1 (hm.elim id (fun hm => absurd hm (by simp [mines, sl, gl]))), hG2.2.2⟩
  have h0 : Holds M0 w0 w0 [gl 2 (tab_2.flatMap en_2)] := h0g2
  refine calls_of F86 rfl [.int .u8 p0] (by kernel_rfl) ?_
  refine RunsI.go 1 [.c 1, .c 2] (by kernel_rfl) ?_
  refine RunsI.region (by kernel_rfl) ?_
  refine RegI.pure 2 [0] [(0, .int .u8 p0)] (by kernel_rfl) ?_
  refine RegI.done (by kernel_rfl) ?_
  refine RunsI.go 2 [.c 4, .c 5, .c 27] (by kernel_rfl) ?_
  refine RunsI.region (by kernel_rfl) ?_
  refine RegI.op (by kernel_rfl) (OpE.loadGl 7 0 166 2 (.agg (List.flatMap en_2 tab_2).toArray) h0 (by kernel_rfl) (by kernel_rfl) rfl (by kernel_rfl) ?_)
  refine RegI.pure 1 [0, 7, 8] [(0, .int .u8 p0), (7, .agg (List.flatMap en_2 tab_2).toArray), (8, .int .i64 0)] (by kernel_rfl) ?_
  refine RegI.done (by kernel_rfl) ?_
  refine RunsI.go 2 [.c 7, .lp 7, .blk 0, .c 27] (by kernel_rfl) ?_
  obtain ⟨x22, hx23, h⟩ := of_bind h
  refine RunsI.only [0, 7, 8] [(0, .int .u8 p0), (7, .agg (List.flatMap en_2 tab_2).toArray), (8, .int .i64 0)] (by kernel_rfl) (by kernel_rfl) ?_
  refine latch_Device_86.l0_ok K M0 w0 p0 _ x22 ?_ ?_ K 0 w0 hx23 (h0.pick [0] (by decide))
  · intro w25 hq30 h24
    (try rw [hq30] at h)
    dsimp only [Lp.elim] at h
    refine RunsI.go 1 [.c 28, .c 29] (by kernel_rfl) ?_
    refine RunsI.region (by kernel_rfl) ?_
    refine RegI.pure 2 [2, 3] [(2, .int .i64 0), (3, .int .i64 0)] (by kernel_rfl) ?_
    refine RegI.done (by kernel_rfl) ?_
    refine RunsI.ret (.tuple #[.int .i64 0, .int .i64 0]) (by kernel_rfl) (by kernel_rfl) ?_
    obtain rfl := Option.some.inj h
    exact ⟨rfl, h24.below⟩
  · intro t26 t27 w29 hq31 h28
    (try rw [hq31] at h)
    dsimp only [Lp.elim] at h
    obtain rfl := Option.some.inj h
    exact ⟨rfl, h28.below⟩
end

/-! ### charabanc/banks.Select (function 87) -/
section
def banks_Select_87.post (M0 : Nat → Prop) (w0 : World) (r : (List Int) × Int × Int × (List (Int × Int))) : Ending → World → Prop := fun e w => ∃ (A1 : Option Addr) (c1 : Nat) (A4 : Option Addr) (c4 : Nat), e = .returned (.agg #[.slice A1 r.1.length c1, .int .i64 r.2.1, .int .i64 r.2.2.1, .slice A4 r.2.2.2.length c4]) ∧ Holds M0 w0 w [sl (Rp.int .u8) (.slice A1 r.1.length c1) r.1, sl (Rp.pair (Rp.int .i64) (Rp.int .u8)) (.slice A4 r.2.2.2.length c4) r.2.2.2]
def banks_Select_87.f (K : Nat) (p0_0 : List Int) (p0_1 : Int) (p0_2 : Int) (p0_3 : List (Int × Int)) (p1 : Int) : Option ((List Int) × Int × Int × (List (Int × Int))) := cond (decide (p0_1 > 0)) (cond (p0_1 != 0) (some (p0_0, p0_1, (Int.tmod (IntKind.wrap .i64 p1) p0_1), p0_3)) none) (some (p0_0, p0_1, p0_2, p0_3))
set_option maxRecDepth 100000 in
theorem banks_Select_87_ok (K : Nat) (M0 : Nat → Prop) (w0 : World) (pA0_0 : Option Addr) (pc0_0 : Nat) (pA0_3 : Option Addr) (pc0_3 : Nat) (p0_0 : List Int) (p0_1 : Int) (p0_2 : Int) (p0_3 : List (Int × Int)) (p1 : Int) (ho : ∀ b, M0 b → b < w0.heap.size) (hs0_0 : Sl (Rp.int .u8) w0 M0 (.slice pA0_0 p0_0.length pc0_0) p0_0) (hs0_3 : Sl (Rp.pair (Rp.int .i64) (Rp.int .u8)) w0 M0 (.slice pA0_3 p0_3.length pc0_3) p0_3) {r : (List Int) × Int × Int × (List (Int × Int))} (h : banks_Select_87.f K p0_0 p0_1 p0_2 p0_3 p1 = some r) :
    Calls Tryd.prog 87 #[.agg #[.slice pA0_0 p0_0.length pc0_0, .int .i64 p0_1, .int .i64 p0_2, .slice pA0_3 p0_3.length pc0_3], .int .u8 p1] w0 (banks_Select_87.post M0 w0 r) := by
  unfold banks_Select_87.f at h
  have h0 : Holds M0 w0 w0 [] := Holds.start ho
  have h00_0 := h0.addSl (Rp.int .u8) (.slice pA0_0 p0_0.length pc0_0) p0_0 (hs0_0.mono (fun _ _ hm => hm.elim id (fun hm => absurd hm (by simp [mines, sl]))))
  have h00_3 := h00_0.addSl (Rp.pair (Rp.int .i64) (Rp.int .u8)) (.slice pA0_3 p0_3.length pc0_3) p0_3 (hs0_3.mono (fun _ _ hm => hm.elim id (fun hm => absurd hm (by simp [mines, sl]))))
  have h0 : Holds M0 w0 w0 [sl (Rp.int .u8) (.slice pA0_0 p0_0.length pc0_0) p0_0, sl (Rp.pair (Rp.int .i64) (Rp.int .u8)) (.slice pA0_3 p0_3.length pc0_3) p0_3] := h00_3
  refine calls_of F87 rfl [.agg #[.slice pA0_0 p0_0.length pc0_0, .int .i64 p0_1, .int .i64 p0_2, .slice pA0_3 p0_3.length pc0_3], .int .u8 p1] (by kernel_rfl) ?_
  refine RunsI.go 1 [.c 1, .c 2] (by kernel_rfl) ?_
  refine RunsI.region (by kernel_rfl) ?_
  refine RegI.op (by kernel_rfl) (OpE.box 2 25 [.slice pA0_0 p0_0.length pc0_0, .int .i64 p0_1, .int .i64 p0_2, .slice pA0_3 p0_3.length pc0_3] h0 (by kernel_rfl) (by kernel_rfl) ?_)
  intro w1 b2 h3 hb4 hn5
  refine RegI.op (by kernel_rfl) (OpE.box 4 25 [.slice none 0 0, .int .i64 0, .int .i64 0, .slice none 0 0] h3 (by kernel_rfl) (by kernel_rfl) ?_)
  intro w6 b7 h8 hb9 hn10
  refine RegI.done (by kernel_rfl) ?_
  refine RunsI.go 2 [.c 4, .c 5, .c 8] (by kernel_rfl) ?_
  refine RunsI.region (by kernel_rfl) ?_
  refine RegI.pure 1 [1, 2, 4, 5] [(1, .int .u8 p1), (2, .pointer (some ⟨b2, 0, none⟩)), (4, .pointer (some ⟨b7, 0, none⟩)), (5, .pointer (some ⟨b2, 1, none⟩))] (by kernel_rfl) ?_
  refine RegI.op (by kernel_rfl) (OpE.loadBox 6 2 3 b2 1 (.int .i64 p0_1) h8 (by kernel_rfl) (by kernel_rfl) rfl (by kernel_rfl) ?_)
  refine RegI.pure 1 [1, 2, 4, 7] [(1, .int .u8 p1), (2, .pointer (some ⟨b2, 0, none⟩)), (4, .pointer (some ⟨b7, 0, none⟩)), (7, .bool (decide (p0_1 > 0)))] (by kernel_rfl) ?_
  refine RegI.done (by kernel_rfl) ?_
  rcases of_cond h with ⟨hc11, h⟩ | ⟨hc11, h⟩
  · skip
    refine RunsI.fix 7 true hc11 (by kernel_rfl) (by kernel_rfl) ?_
    refine RunsI.cond true 6 (by kernel_rfl) ?_
    refine RunsI.region (by kernel_rfl) ?_
    refine RegI.pure 3 [2, 4, 9, 10] [(2, .pointer (some ⟨b2, 0, none⟩)), (4, .pointer (some ⟨b7, 0, none⟩)), (9, .int .i64 (IntKind.wrap .i64 p1)), (10, .pointer (some ⟨b2, 1, none⟩))] (by kernel_rfl) ?_
    refine RegI.op (by kernel_rfl) (OpE.loadBox 11 2 3 b2 1 (.int .i64 p0_1) h8 (by kernel_rfl) (by kernel_rfl) rfl (by kernel_rfl) ?_)
    obtain ⟨hc12, h⟩ := of_cond0 h
    refine RegI.op (by kernel_rfl) (OpE.run 12 (by kernel_rfl) (run_rem (k := .i64) (a := (IntKind.wrap .i64 p1)) (b := p0_1) (by kernel_rfl) hc12) ?_)
    refine RegI.pure 1 [2, 4, 12, 13] [(2, .pointer (some ⟨b2, 0, none⟩)), (4, .pointer (some ⟨b7, 0, none⟩)), (12, .int .i64 (Int.tmod (IntKind.wrap .i64 p1) p0_1)), (13, .pointer (some ⟨b2, 2, none⟩))] (by kernel_rfl) ?_
    refine RegI.op (by kernel_rfl) (OpE.storeBox 2 3 b2 2 (.int .i64 (Int.tmod (IntKind.wrap .i64 p1) p0_1)) [.slice pA0_0 p0_0.length pc0_0, .int .i64 p0_1, .int .i64 (Int.tmod (IntKind.wrap .i64 p1) p0_1), .slice pA0_3 p0_3.length pc0_3] h8 (by kernel_rfl) (by kernel_rfl) rfl (by kernel_rfl) (by kernel_rfl) (by kernel_rfl) ?_)
    intro w13 h14 hk15
    refine RegI.done (by kernel_rfl) ?_
    refine RunsI.go 1 [.c 9, .c 10] (by kernel_rfl) ?_
    refine RunsI.region (by kernel_rfl) ?_
    refine RegI.op (by kernel_rfl) (OpE.loadBox 14 2 25 b2 0 (.agg #[.slice pA0_0 p0_0.length pc0_0, .int .i64 p0_1, .int .i64 (Int.tmod (IntKind.wrap .i64 p1) p0_1), .slice pA0_3 p0_3.length pc0_3]) h14 (by kernel_rfl) (by kernel_rfl) rfl (by kernel_rfl) ?_)
    refine RegI.op (by kernel_rfl) (OpE.storeBox 3 25 b7 0 (.agg #[.slice pA0_0 p0_0.length pc0_0, .int .i64 p0_1, .int .i64 (Int.tmod (IntKind.wrap .i64 p1) p0_1), .slice pA0_3 p0_3.length pc0_3]) [.slice pA0_0 p0_0.length pc0_0, .int .i64 p0_1, .int .i64 (Int.tmod (IntKind.wrap .i64 p1) p0_1), .slice pA0_3 p0_3.length pc0_3] h14 (by kernel_rfl) (by kernel_rfl) rfl (by kernel_rfl) (by kernel_rfl) (by kernel_rfl) ?_)
    intro w16 h17 hk18
    refine RegI.done (by kernel_rfl) ?_
    refine RunsI.toRet (by kernel_rfl) ?_
    refine RetI.valW [.cell 4 25] [.agg #[.slice pA0_0 p0_0.length pc0_0, .int .i64 p0_1, .int .i64 (Int.tmod (IntKind.wrap .i64 p1) p0_1), .slice pA0_3 p0_3.length pc0_3]] (.agg #[.slice pA0_0 p0_0.length pc0_0, .int .i64 p0_1, .int .i64 (Int.tmod (IntKind.wrap .i64 p1) p0_1), .slice pA0_3 p0_3.length pc0_3]) (by kernel_rfl) (ResAt.box 3 25 b7 0 h17 (by kernel_rfl) (by kernel_rfl) rfl (by kernel_rfl) rfl) (by kernel_rfl) ?_
    obtain rfl := Option.some.inj h
    exact ⟨pA0_0, pc0_0, pA0_3, pc0_3, rfl, h17.pick [0, 1] (by decide)⟩
  · skip
    refine RunsI.fix 7 false hc11 (by kernel_rfl) (by kernel_rfl) ?_
    refine RunsI.cond false 7 (by kernel_rfl) ?_
    refine RunsI.go 1 [.c 8] (by kernel_rfl) ?_
    refine RunsI.go 1 [.c 9, .c 10] (by kernel_rfl) ?_
    refine RunsI.region (by kernel_rfl) ?_
    refine RegI.op (by kernel_rfl) (OpE.loadBox 14 2 25 b2 0 (.agg #[.slice pA0_0 p0_0.length pc0_0, .int .i64 p0_1, .int .i64 p0_2, .slice pA0_3 p0_3.length pc0_3]) h8 (by kernel_rfl) (by kernel_rfl) rfl (by kernel_rfl) ?_)
    refine RegI.op (by kernel_rfl) (OpE.storeBox 3 25 b7 0 (.agg #[.slice pA0_0 p0_0.length pc0_0, .int .i64 p0_1, .int .i64 p0_2, .slice pA0_3 p0_3.length pc0_3]) [.slice pA0_0 p0_0.length pc0_0, .int .i64 p0_1, .int .i64 p0_2, .slice pA0_3 p0_3.length pc0_3] h8 (by kernel_rfl) (by kernel_rfl) rfl (by kernel_rfl) (by kernel_rfl) (by kernel_rfl) ?_)
    intro w19 h20 hk21
    refine RegI.done (by kernel_rfl) ?_
    refine RunsI.toRet (by kernel_rfl) ?_
    refine RetI.valW [.cell 4 25] [.agg #[.slice pA0_0 p0_0.length pc0_0, .int .i64 p0_1, .int .i64 p0_2, .slice pA0_3 p0_3.length pc0_3]] (.agg #[.slice pA0_0 p0_0.length pc0_0, .int .i64 p0_1, .int .i64 p0_2, .slice pA0_3 p0_3.length pc0_3]) (by kernel_rfl) (ResAt.box 3 25 b7 0 h20 (by kernel_rfl) (by kernel_rfl) rfl (by kernel_rfl) rfl) (by kernel_rfl) ?_
    obtain rfl := Option.some.inj h
    exact ⟨pA0_0, pc0_0, pA0_3, pc0_3, rfl, h20.pick [0, 1] (by decide)⟩
end

/-! ### charabanc/history.step (function 47) -/
section
def history_step_47.post (M0 : Nat → Prop) (w0 : World) (r : (List Int) × Int × Int × (List (Int × Int))) : Ending → World → Prop := fun e w => ∃ (A1 : Option Addr) (c1 : Nat) (A4 : Option Addr) (c4 : Nat), e = .returned (.agg #[.slice A1 r.1.length c1, .int .i64 r.2.1, .int .i64 r.2.2.1, .slice A4 r.2.2.2.length c4]) ∧ Holds M0 w0 w [sl (Rp.int .u8) (.slice A1 r.1.length c1) r.1, sl (Rp.pair (Rp.int .i64) (Rp.int .u8)) (.slice A4 r.2.2.2.length c4) r.2.2.2]
def history_step_47.f (K : Nat) (p0_0 : List Int) (p0_1 : Int) (p0_2 : Int) (p0_3 : List (Int × Int)) (p1_0 : Int) (p1_1 : Int) (p1_2 : Int) (p1_3 : Int) (p1_4 : Int) (p1_5 : Int) : Option ((List Int) × Int × Int × (List (Int × Int))) := cond (p1_2 == 3) ((banks_Write_85.f K p0_0 p0_1 p0_2 p0_3 p1_3 p1_5).bind fun yt21 => some (yt21.1, yt21.2.1, yt21.2.2.1, yt21.2.2.2)) (cond (p1_2 == 5) ((latch_Device_86.f K (IntKind.wrap .u8 p1_3)).bind fun yt40 => cond (yt40.1 == 5) ((banks_Select_87.f K p0_0 p0_1 p0_2 p0_3 p1_5).bind fun yt47 => some (yt47.1, yt47.2.1, yt47.2.2.1, yt47.2.2.2)) (some (p0_0, p0_1, p0_2, p0_3))) (some (p0_0, p0_1, p0_2, p0_3)))
set_option maxRecDepth 100000 in
theorem history_step_47_ok (K : Nat) (M0 : Nat → Prop) (w0 : World) (pA0_0 : Option Addr) (pc0_0 : Nat) (pA0_3 : Option Addr) (pc0_3 : Nat) (p0_0 : List Int) (p0_1 : Int) (p0_2 : Int) (p0_3 : List (Int × Int)) (p1_0 : Int) (p1_1 : Int) (p1_2 : Int) (p1_3 : Int) (p1_4 : Int) (p1_5 : Int) (ho : ∀ b, M0 b → b < w0.heap.size) (hs0_0 : Sl (Rp.int .u8) w0 M0 (.slice pA0_0 p0_0.length pc0_0) p0_0) (hs0_3 : Sl (Rp.pair (Rp.int .i64) (Rp.int .u8)) w0 M0 (.slice pA0_3 p0_3.length pc0_3) p0_3) (hG2 : (gl 2 (tab_2.flatMap en_2)).ok w0 M0) {r : (List Int) × Int × Int × (List (Int × Int))} (h : history_step_47.f K p0_0 p0_1 p0_2 p0_3 p1_0 p1_1 p1_2 p1_3 p1_4 p1_5 = some r) :
    Calls Tryd.prog 47 #[.agg #[.slice pA0_0 p0_0.length pc0_0, .int .i64 p0_1, .int .i64 p0_2, .slice pA0_3 p0_3.length pc0_3], .agg #[.int .i64 p1_0, .int .i64 p1_1, .int .i64 p1_2, .int .u16 p1_3, .int .i64 p1_4, .int .u8 p1_5]] w0 (history_step_47.post M0 w0 r) := by
  unfold history_step_47.f at h
  have h0 : Holds M0 w0 w0 [] := Holds.start ho
  have h00_0 := h0.addSl (Rp.int .u8) (.slice pA0_0 p0_0.length pc0_0) p0_0 (hs0_0.mono (fun _ _ hm => hm.elim id (fun hm => absurd hm (by simp [mines, sl]))))
  have h00_3 := h00_0.addSl (Rp.pair (Rp.int .i64) (Rp.int .u8)) (.slice pA0_3 p0_3.length pc0_3) p0_3 (hs0_3.mono (fun _ _ hm => hm.elim id (fun hm => absurd hm (by simp [mines, sl]))))
  have h0g2 := h00_3.add (gl 2 (tab_2.flatMap en_2)) rfl ⟨hG2.1, fun hm => hG2.2.1 (hm.elim id (fun hm => absurd hm (by simp [mines, sl, gl]))), hG2.2.2⟩
  have h0 : Holds M0 w0 w0 [sl (Rp.int .u8) (.slice pA0_0 p0_0.length pc0_0) p0_0, sl (Rp.pair (Rp.int .i64) (Rp.int .u8)) (.slice pA0_3 p0_3.length pc0_3) p0_3, gl 2 (tab_2.flatMap en_2)] := h0g2
  refine calls_of F47 rfl [.agg #[.slice pA0_0 p0_0.length pc0_0, .int .i64 p0_1, .int .i64 p0_2, .slice pA0_3 p0_3.length pc0_3], .agg #[.int .i64 p1_0, .int .i64 p1_1, .int .i64 p1_2, .int .u16 p1_3, .int .i64 p1_4, .int .u8 p1_5]] (by kernel_rfl) ?_
  refine RunsI.go 1 [.c 1, .c 2] (by kernel_rfl) ?_
  refine RunsI.region (by kernel_rfl) ?_
  refine RegI.op (by kernel_rfl) (OpE.box 2 25 [.slice pA0_0 p0_0.length pc0_0, .int .i64 p0_1, .int .i64 p0_2, .slice pA0_3 p0_3.length pc0_3] h0 (by kernel_rfl) (by kernel_rfl) ?_)
  intro w1 b2 h3 hb4 hn5
  refine RegI.op (by kernel_rfl) (OpE.box 3 54 [.int .i64 p1_0, .int .i64 p1_1, .int .i64 p1_2, .int .u16 p1_3, .int .i64 p1_4, .int .u8 p1_5] h3 (by kernel_rfl) (by kernel_rfl) ?_)
  intro w6 b7 h8 hb9 hn10
  refine RegI.op (by kernel_rfl) (OpE.box 4 25 [.slice none 0 0, .int .i64 0, .int .i64 0, .slice none 0 0] h8 (by kernel_rfl) (by kernel_rfl) ?_)
  intro w11 b12 h13 hb14 hn15
  refine RegI.done (by kernel_rfl) ?_
  refine RunsI.go 2 [.c 4, .c 5, .c 25] (by kernel_rfl) ?_
  refine RunsI.region (by kernel_rfl) ?_
  refine RegI.pure 1 [2, 3, 4, 7] [(2, .pointer (some ⟨b2, 0, none⟩)), (3, .pointer (some ⟨b7, 0, none⟩)), (4, .pointer (some ⟨b12, 0, none⟩)), (7, .pointer (some ⟨b7, 2, none⟩))] (by kernel_rfl) ?_
  refine RegI.op (by kernel_rfl) (OpE.loadBox 8 4 3 b7 2 (.int .i64 p1_2) h13 (by kernel_rfl) (by kernel_rfl) rfl (by kernel_rfl) ?_)
  refine RegI.done (by kernel_rfl) ?_
  refine RunsI.go 2 [.c 7, .c 8, .blk 0, .c 25] (by kernel_rfl) ?_
  refine RunsI.region (by kernel_rfl) ?_
  refine RegI.pure 2 [2, 3, 4, 8, 9] [(2, .pointer (some ⟨b2, 0, none⟩)), (3, .pointer (some ⟨b7, 0, none⟩)), (4, .pointer (some ⟨b12, 0, none⟩)), (8, .int .i64 p1_2), (9, .bool (p1_2 == 3))] (by kernel_rfl) ?_
  refine RegI.done (by kernel_rfl) ?_
  rcases of_cond h with ⟨hc16, h⟩ | ⟨hc16, h⟩
  · skip
    refine RunsI.fix 9 true hc16 (by kernel_rfl) (by kernel_rfl) ?_
    refine RunsI.cond true 9 (by kernel_rfl) ?_
    refine RunsI.go 1 [.c 10, .c 11, .blk 0, .c 25] (by kernel_rfl) ?_
    refine RunsI.region (by kernel_rfl) ?_
    refine RegI.op (by kernel_rfl) (OpE.loadBox 11 3 25 b2 0 (.agg #[.slice pA0_0 p0_0.length pc0_0, .int .i64 p0_1, .int .i64 p0_2, .slice pA0_3 p0_3.length pc0_3]) h13 (by kernel_rfl) (by kernel_rfl) rfl (by kernel_rfl) ?_)
    refine RegI.pure 1 [3, 4, 11, 12] [(3, .pointer (some ⟨b7, 0, none⟩)), (4, .pointer (some ⟨b12, 0, none⟩)), (11, .agg #[.slice pA0_0 p0_0.length pc0_0, .int .i64 p0_1, .int .i64 p0_2, .slice pA0_3 p0_3.length pc0_3]), (12, .pointer (some ⟨b7, 3, none⟩))] (by kernel_rfl) ?_
    refine RegI.op (by kernel_rfl) (OpE.loadBox 13 4 52 b7 3 (.int .u16 p1_3) h13 (by kernel_rfl) (by kernel_rfl) rfl (by kernel_rfl) ?_)
    refine RegI.pure 1 [4, 11, 13, 14] [(4, .pointer (some ⟨b12, 0, none⟩)), (11, .agg #[.slice pA0_0 p0_0.length pc0_0, .int .i64 p0_1, .int .i64 p0_2, .slice pA0_3 p0_3.length pc0_3]), (13, .int .u16 p1_3), (14, .pointer (some ⟨b7, 5, none⟩))] (by kernel_rfl) ?_
    refine RegI.op (by kernel_rfl) (OpE.loadBox 15 4 5 b7 5 (.int .u8 p1_5) h13 (by kernel_rfl) (by kernel_rfl) rfl (by kernel_rfl) ?_)
    obtain ⟨⟨t21, t25, t26, t27⟩, hg20, h⟩ := of_bind h
    dsimp only at h
    refine RegI.op (by kernel_rfl) (OpE.call 16 (by kernel_rfl) 85 #[.agg #[.slice pA0_0 p0_0.length pc0_0, .int .i64 p0_1, .int .i64 p0_2, .slice pA0_3 p0_3.length pc0_3], .int .u16 p1_3, .int .u8 p1_5] (by kernel_rfl) ((banks_Write_85_ok K _ w11  pA0_0 pc0_0 pA0_3 pc0_3 p0_0 p0_1 p0_2 p0_3 p1_3 p1_5 h13.old' (h13.get 0 rfl) (h13.get 1 rfl) hg20).mono ?_))
    rintro _ w17 ⟨A22, c23, A28, c29, rfl, hr31⟩
    refine ⟨_, rfl, ?_⟩
    have hb18 := hr31.below
    have h19 := h13.join hr31
    refine RegI.op (by kernel_rfl) (OpE.storeBox 5 25 b12 0 (.agg #[.slice A22 t21.length c23, .int .i64 t25, .int .i64 t26, .slice A28 t27.length c29]) [.slice A22 t21.length c23, .int .i64 t25, .int .i64 t26, .slice A28 t27.length c29] h19 (by kernel_rfl) (by kernel_rfl) rfl (by kernel_rfl) (by kernel_rfl) (by kernel_rfl) ?_)
    intro w32 h33 hk34
    refine RegI.done (by kernel_rfl) ?_
    refine RunsI.toRet (by kernel_rfl) ?_
    refine RetI.valW [.cell 4 25] [.agg #[.slice A22 t21.length c23, .int .i64 t25, .int .i64 t26, .slice A28 t27.length c29]] (.agg #[.slice A22 t21.length c23, .int .i64 t25, .int .i64 t26, .slice A28 t27.length c29]) (by kernel_rfl) (ResAt.box 5 25 b12 0 h33 (by kernel_rfl) (by kernel_rfl) rfl (by kernel_rfl) rfl) (by kernel_rfl) ?_
    obtain rfl := Option.some.inj h
    exact ⟨A22, c23, A28, c29, rfl, h33.pick [6, 7] (by decide)⟩
  · skip
    refine RunsI.fix 9 false hc16 (by kernel_rfl) (by kernel_rfl) ?_
    refine RunsI.cond false 12 (by kernel_rfl) ?_
    refine RunsI.go 1 [.c 13, .c 14, .blk 0, .c 25] (by kernel_rfl) ?_
    refine RunsI.region (by kernel_rfl) ?_
    refine RegI.pure 2 [2, 3, 4, 17] [(2, .pointer (some ⟨b2, 0, none⟩)), (3, .pointer (some ⟨b7, 0, none⟩)), (4, .pointer (some ⟨b12, 0, none⟩)), (17, .bool (p1_2 == 5))] (by kernel_rfl) ?_
    refine RegI.done (by kernel_rfl) ?_
    rcases of_cond h with ⟨hc35, h⟩ | ⟨hc35, h⟩
    · skip
      refine RunsI.fix 17 true hc35 (by kernel_rfl) (by kernel_rfl) ?_
      refine RunsI.cond true 15 (by kernel_rfl) ?_
      refine RunsI.go 1 [.c 16, .c 17, .blk 0, .c 25] (by kernel_rfl) ?_
      refine RunsI.region (by kernel_rfl) ?_
      refine RegI.pure 1 [2, 3, 4, 20] [(2, .pointer (some ⟨b2, 0, none⟩)), (3, .pointer (some ⟨b7, 0, none⟩)), (4, .pointer (some ⟨b12, 0, none⟩)), (20, .pointer (some ⟨b7, 3, none⟩))] (by kernel_rfl) ?_
      refine RegI.op (by kernel_rfl) (OpE.loadBox 21 4 52 b7 3 (.int .u16 p1_3) h13 (by kernel_rfl) (by kernel_rfl) rfl (by kernel_rfl) ?_)
      refine RegI.pure 1 [2, 3, 4, 22] [(2, .pointer (some ⟨b2, 0, none⟩)), (3, .pointer (some ⟨b7, 0, none⟩)), (4, .pointer (some ⟨b12, 0, none⟩)), (22, .int .u8 (IntKind.wrap .u8 p1_3))] (by kernel_rfl) ?_
      obtain ⟨⟨t40, t41⟩, hg39, h⟩ := of_bind h
      dsimp only at h
      refine RegI.op (by kernel_rfl) (OpE.call 23 (by kernel_rfl) 86 #[.int .u8 (IntKind.wrap .u8 p1_3)] (by kernel_rfl) ((latch_Device_86_ok K _ w11  (IntKind.wrap .u8 p1_3) h13.old' (h13.get 2 rfl) hg39).mono ?_))
      rintro _ w36 ⟨rfl, hb37⟩
      refine ⟨_, rfl, ?_⟩
      have h38 := h13.call hb37
      refine RegI.pure 5 [2, 3, 4, 5] [(2, .pointer (some ⟨b2, 0, none⟩)), (3, .pointer (some ⟨b7, 0, none⟩)), (4, .pointer (some ⟨b12, 0, none⟩)), (5, .int .i64 t40)] (by kernel_rfl) ?_
      refine RegI.done (by kernel_rfl) ?_
      refine RunsI.go 1 [.c 18, .c 19, .blk 0, .c 25] (by kernel_rfl) ?_
      refine RunsI.region (by kernel_rfl) ?_
      refine RegI.pure 2 [2, 3, 4, 27] [(2, .pointer (some ⟨b2, 0, none⟩)), (3, .pointer (some ⟨b7, 0, none⟩)), (4, .pointer (some ⟨b12, 0, none⟩)), (27, .bool (t40 == 5))] (by kernel_rfl) ?_
      refine RegI.done (by kernel_rfl) ?_
      rcases of_cond h with ⟨hc42, h⟩ | ⟨hc42, h⟩
      · skip
        refine RunsI.fix 27 true hc42 (by kernel_rfl) (by kernel_rfl) ?_
        refine RunsI.cond true 20 (by kernel_rfl) ?_
        refine RunsI.go 1 [.c 21, .c 22, .blk 0, .c 25] (by kernel_rfl) ?_
        refine RunsI.region (by kernel_rfl) ?_
        refine RegI.op (by kernel_rfl) (OpE.loadBox 28 3 25 b2 0 (.agg #[.slice pA0_0 p0_0.length pc0_0, .int .i64 p0_1, .int .i64 p0_2, .slice pA0_3 p0_3.length pc0_3]) h38 (by kernel_rfl) (by kernel_rfl) rfl (by kernel_rfl) ?_)
        refine RegI.pure 1 [4, 28, 29] [(4, .pointer (some ⟨b12, 0, none⟩)), (28, .agg #[.slice pA0_0 p0_0.length pc0_0, .int .i64 p0_1, .int .i64 p0_2, .slice pA0_3 p0_3.length pc0_3]), (29, .pointer (some ⟨b7, 5, none⟩))] (by kernel_rfl) ?_
        refine RegI.op (by kernel_rfl) (OpE.loadBox 30 4 5 b7 5 (.int .u8 p1_5) h38 (by kernel_rfl) (by kernel_rfl) rfl (by kernel_rfl) ?_)
        obtain ⟨⟨t47, t51, t52, t53⟩, hg46, h⟩ := of_bind h
        dsimp only at h
        refine RegI.op (by kernel_rfl) (OpE.call 31 (by kernel_rfl) 87 #[.agg #[.slice pA0_0 p0_0.length pc0_0, .int .i64 p0_1, .int .i64 p0_2, .slice pA0_3 p0_3.length pc0_3], .int .u8 p1_5] (by kernel_rfl) ((banks_Select_87_ok K _ w36  pA0_0 pc0_0 pA0_3 pc0_3 p0_0 p0_1 p0_2 p0_3 p1_5 h38.old' (h38.get 0 rfl) (h38.get 1 rfl) hg46).mono ?_))
        rintro _ w43 ⟨A48, c49, A54, c55, rfl, hr57⟩
        refine ⟨_, rfl, ?_⟩
        have hb44 := hr57.below
        have h45 := h38.join hr57
        refine RegI.op (by kernel_rfl) (OpE.storeBox 5 25 b12 0 (.agg #[.slice A48 t47.length c49, .int .i64 t51, .int .i64 t52, .slice A54 t53.length c55]) [.slice A48 t47.length c49, .int .i64 t51, .int .i64 t52, .slice A54 t53.length c55] h45 (by kernel_rfl) (by kernel_rfl) rfl (by kernel_rfl) (by kernel_rfl) (by kernel_rfl) ?_)
        intro w58 h59 hk60
        refine RegI.done (by kernel_rfl) ?_
        refine RunsI.toRet (by kernel_rfl) ?_
        refine RetI.valW [.cell 4 25] [.agg #[.slice A48 t47.length c49, .int .i64 t51, .int .i64 t52, .slice A54 t53.length c55]] (.agg #[.slice A48 t47.length c49, .int .i64 t51, .int .i64 t52, .slice A54 t53.length c55]) (by kernel_rfl) (ResAt.box 5 25 b12 0 h59 (by kernel_rfl) (by kernel_rfl) rfl (by kernel_rfl) rfl) (by kernel_rfl) ?_
        obtain rfl := Option.some.inj h
        exact ⟨A48, c49, A54, c55, rfl, h59.pick [6, 7] (by decide)⟩
      · skip
        refine RunsI.fix 27 false hc42 (by kernel_rfl) (by kernel_rfl) ?_
        refine RunsI.cond false 23 (by kernel_rfl) ?_
        refine RunsI.go 1 [.blk 0, .c 25] (by kernel_rfl) ?_
        refine RunsI.go 2 [.c 26, .c 27] (by kernel_rfl) ?_
        refine RunsI.region (by kernel_rfl) ?_
        refine RegI.op (by kernel_rfl) (OpE.loadBox 32 3 25 b2 0 (.agg #[.slice pA0_0 p0_0.length pc0_0, .int .i64 p0_1, .int .i64 p0_2, .slice pA0_3 p0_3.length pc0_3]) h38 (by kernel_rfl) (by kernel_rfl) rfl (by kernel_rfl) ?_)
        refine RegI.op (by kernel_rfl) (OpE.storeBox 5 25 b12 0 (.agg #[.slice pA0_0 p0_0.length pc0_0, .int .i64 p0_1, .int .i64 p0_2, .slice pA0_3 p0_3.length pc0_3]) [.slice pA0_0 p0_0.length pc0_0, .int .i64 p0_1, .int .i64 p0_2, .slice pA0_3 p0_3.length pc0_3] h38 (by kernel_rfl) (by kernel_rfl) rfl (by kernel_rfl) (by kernel_rfl) (by kernel_rfl) ?_)
        intro w61 h62 hk63
        refine RegI.done (by kernel_rfl) ?_
        refine RunsI.toRet (by kernel_rfl) ?_
        refine RetI.valW [.cell 4 25] [.agg #[.slice pA0_0 p0_0.length pc0_0, .int .i64 p0_1, .int .i64 p0_2, .slice pA0_3 p0_3.length pc0_3]] (.agg #[.slice pA0_0 p0_0.length pc0_0, .int .i64 p0_1, .int .i64 p0_2, .slice pA0_3 p0_3.length pc0_3]) (by kernel_rfl) (ResAt.box 5 25 b12 0 h62 (by kernel_rfl) (by kernel_rfl) rfl (by kernel_rfl) rfl) (by kernel_rfl) ?_
        obtain rfl := Option.some.inj h
        exact ⟨pA0_0, pc0_0, pA0_3, pc0_3, rfl, h62.pick [0, 1] (by decide)⟩
    · skip
      refine RunsI.fix 17 false hc35 (by kernel_rfl) (by kernel_rfl) ?_
      refine RunsI.cond false 24 (by kernel_rfl) ?_
      refine RunsI.go 1 [.blk 0, .c 25] (by kernel_rfl) ?_
      refine RunsI.go 2 [.c 26, .c 27] (by kernel_rfl) ?_
      refine RunsI.region (by kernel_rfl) ?_
      refine RegI.op (by kernel_rfl) (OpE.loadBox 32 3 25 b2 0 (.agg #[.slice pA0_0 p0_0.length pc0_0, .int .i64 p0_1, .int .i64 p0_2, .slice pA0_3 p0_3.length pc0_3]) h13 (by kernel_rfl) (by kernel_rfl) rfl (by kernel_rfl) ?_)
      refine RegI.op (by kernel_rfl) (OpE.storeBox 5 25 b12 0 (.agg #[.slice pA0_0 p0_0.length pc0_0, .int .i64 p0_1, .int .i64 p0_2, .slice pA0_3 p0_3.length pc0_3]) [.slice pA0_0 p0_0.length pc0_0, .int .i64 p0_1, .int .i64 p0_2, .slice pA0_3 p0_3.length pc0_3] h13 (by kernel_rfl) (by kernel_rfl) rfl (by kernel_rfl) (by kernel_rfl) (by kernel_rfl) ?_)
      intro w64 h65 hk66
      refine RegI.done (by kernel_rfl) ?_
      refine RunsI.toRet (by kernel_rfl) ?_
      refine RetI.valW [.cell 4 25] [.agg #[.slice pA0_0 p0_0.length pc0_0, .int .i64 p0_1, .int .i64 p0_2, .slice pA0_3 p0_3.length pc0_3]] (.agg #[.slice pA0_0 p0_0.length pc0_0, .int .i64 p0_1, .int .i64 p0_2, .slice pA0_3 p0_3.length pc0_3]) (by kernel_rfl) (ResAt.box 5 25 b12 0 h65 (by kernel_rfl) (by kernel_rfl) rfl (by kernel_rfl) rfl) (by kernel_rfl) ?_
      obtain rfl := Option.some.inj h
      exact ⟨pA0_0, pc0_0, pA0_3, pc0_3, rfl, h65.pick [0, 1] (by decide)⟩
end

/-! ### charabanc/banks.Read (function 42) -/
section
def banks_Read_42.post (M0 : Nat → Prop) (w0 : World) (r : Int) : Ending → World → Prop := fun e w => e = .returned (.int .u8 r) ∧ Below w0.heap.size w0 w
def banks_Read_42.l0 (K : Nat) (p0_0 : List Int) (p0_1 : Int) (p0_2 : Int) (p0_3 : List (Int × Int)) (p1 : Int) (t28 : Int) : Nat → Int → Option (Lp Int Unit)
  | 0, _ => none
  | k + 1, t29 => cond (decide (t29 < (p0_3.length : Int))) (cond (inR t29 p0_3.length) (cond (((rdD p0_3 t29).1) == t28) (some (Lp.ret t29)) (banks_Read_42.l0 K p0_0 p0_1 p0_2 p0_3 p1 t28 k (IntKind.wrap .i64 (t29 + 1)))) none) (some (Lp.go ()))
set_option maxRecDepth 100000 in
theorem banks_Read_42.l0_ok (K : Nat) (M0 : Nat → Prop) (w0 : World) (pA0_0 : Option Addr) (pc0_0 : Nat) (pA0_3 : Option Addr) (pc0_3 : Nat) (p0_0 : List Int) (p0_1 : Int) (p0_2 : Int) (p0_3 : List (Int × Int)) (p1 : Int) (t28 : Int) (b27 : Nat) (b30 : Nat) (R : Ending → World → Prop) (x : Lp Int Unit) (hk0 : ∀ (w1 : World), x = Lp.go () → Holds M0 w0 w1 [box b30 25 [.slice pA0_0 p0_0.length pc0_0, .int .i64 p0_1, .int .i64 p0_2, .slice pA0_3 p0_3.length pc0_3], sl (Rp.int .u8) (.slice pA0_0 p0_0.length pc0_0) p0_0, sl (Rp.pair (Rp.int .i64) (Rp.int .u8)) (.slice pA0_3 p0_3.length pc0_3) p0_3] → RunsI F119 [.c 25] [] w1 R) (hk1 : ∀ (t44 : Int) (w1 : World), x = Lp.ret t44 → Holds M0 w0 w1 [box b30 25 [.slice pA0_0 p0_0.length pc0_0, .int .i64 p0_1, .int .i64 p0_2, .slice pA0_3 p0_3.length pc0_3], sl (Rp.int .u8) (.slice pA0_0 p0_0.length pc0_0) p0_0, sl (Rp.pair (Rp.int .i64) (Rp.int .u8)) (.slice pA0_3 p0_3.length pc0_3) p0_3] → R (.returned (.int .i64 t44)) w1) :
    ∀ (k : Nat) (t29 : Int) (w : World), banks_Read_42.l0 K p0_0 p0_1 p0_2 p0_3 p1 t28 k t29 = some x → Holds M0 w0 w [sl (Rp.pair (Rp.int .i64) (Rp.int .u8)) (.slice pA0_3 p0_3.length pc0_3) p0_3, box b27 3 [.int .i64 t28], box b30 25 [.slice pA0_0 p0_0.length pc0_0, .int .i64 p0_1, .int .i64 p0_2, .slice pA0_3 p0_3.length pc0_3], sl (Rp.int .u8) (.slice pA0_0 p0_0.length pc0_0) p0_0] → RunsI F119 [.c 7, .lp 7, .blk 0, .c 25] [(0, .slice pA0_3 p0_3.length pc0_3), (1, .func (.func 78) #[] #[.pointer (some ⟨b27, 0, none⟩)]), (7, .int .i64 (p0_3.length : Int)), (8, .int .i64 t29)] w R := by
  intro k
  induction k with
  | zero => intro t29 w h hH; exact absurd h (by simp [banks_Read_42.l0])
  | succ k ih =>
    intro t29 w h hH
    rw [banks_Read_42.l0.eq_2] at h
    refine RunsI.go 1 [.c 8, .c 9, .lp 7, .blk 0, .c 25] (by kernel_rfl) ?_
    refine RunsI.region (by kernel_rfl) ?_
    refine RegI.pure 1 [0, 1, 7, 8, 9] [(0, .slice pA0_3 p0_3.length pc0_3), (1, .func (.func 78) #[] #[.pointer (some ⟨b27, 0, none⟩)]), (7, .int .i64 (p0_3.length : Int)), (8, .int .i64 t29), (9, .bool (decide (t29 < (p0_3.length : Int))))] (by kernel_rfl) ?_
    refine RegI.done (by kernel_rfl) ?_
    refine RunsI.go 1 [.c 10, .c 13, .lp 7, .blk 0, .c 25] (by kernel_rfl) ?_
    rcases of_cond h with ⟨hc31, h⟩ | ⟨hc31, h⟩
    · skip
      refine RunsI.fix 9 true hc31 (by kernel_rfl) (by kernel_rfl) ?_
      refine RunsI.cond true 11 (by kernel_rfl) ?_
      refine RunsI.go 1 [.c 13, .lp 7, .blk 0, .c 25] (by kernel_rfl) ?_
      refine RunsI.go 3 [.c 16, .c 17, .blk 1, .c 24, .lp 7, .blk 0, .c 25] (by kernel_rfl) ?_
      refine RunsI.region (by kernel_rfl) ?_
      refine RegI.pure 2 [0, 1, 5, 7, 8] [(0, .slice pA0_3 p0_3.length pc0_3), (1, .func (.func 78) #[] #[.pointer (some ⟨b27, 0, none⟩)]), (5, .int .i64 t29), (7, .int .i64 (p0_3.length : Int)), (8, .int .i64 t29)] (by kernel_rfl) ?_
      refine RegI.done (by kernel_rfl) ?_
      refine RunsI.go 1 [.c 18, .c 19, .blk 1, .c 24, .lp 7, .blk 0, .c 25] (by kernel_rfl) ?_
      refine RunsI.region (by kernel_rfl) ?_
      refine RegI.pure 3 [0, 1, 5, 7, 8, 11, 12, 13] [(0, .slice pA0_3 p0_3.length pc0_3), (1, .func (.func 78) #[] #[.pointer (some ⟨b27, 0, none⟩)]), (5, .int .i64 t29), (7, .int .i64 (p0_3.length : Int)), (8, .int .i64 t29), (11, .func (.func 78) #[] #[.pointer (some ⟨b27, 0, none⟩)]), (12, .slice pA0_3 p0_3.length pc0_3), (13, .int .i64 t29)] (by kernel_rfl) ?_
      obtain ⟨hc32, h⟩ := of_cond0 h
      refine RegI.op (by kernel_rfl) (OpE.idxSl 14 0 23 t29 hH (by kernel_rfl) rfl (by kernel_rfl) (by kernel_rfl) hc32 ?_)
      intro b33 o34 cs35 hk36 h37
      obtain ⟨_, _, rfl, rfl, rfl⟩ := hk36
      refine RegI.op (by kernel_rfl) (OpE.loadCel 15 4 80 b33 o34 0 (.agg #[.int .i64 ((rdD p0_3 t29).1), .int .u8 ((rdD p0_3 t29).2)]) h37 (by kernel_rfl) (by kernel_rfl) rfl (by kernel_rfl) ?_)
      refine RegI.enter 16 [0, 1, 5, 7, 8] [(0, .slice pA0_3 p0_3.length pc0_3), (1, .func (.func 78) #[] #[.pointer (some ⟨b27, 0, none⟩)]), (5, .int .i64 t29), (7, .int .i64 (p0_3.length : Int)), (8, .int .i64 t29)] (by kernel_rfl) (by kernel_rfl) (by kernel_rfl) (by kernel_rfl) F78 78 rfl [.agg #[.int .i64 ((rdD p0_3 t29).1), .int .u8 ((rdD p0_3 t29).2)], .pointer (some ⟨b27, 0, none⟩)] (by kernel_rfl) (by kernel_rfl) ?_
      refine RunsI.go 1 [.c 1, .c 2] (by kernel_rfl) ?_
      refine RunsI.region (by kernel_rfl) ?_
      refine RegI.op (by kernel_rfl) (OpE.box 2 80 [.int .i64 ((rdD p0_3 t29).1), .int .u8 ((rdD p0_3 t29).2)] h37 (by kernel_rfl) (by kernel_rfl) ?_)
      intro w38 b39 h40 hb41 hn42
      refine RegI.pure 1 [1, 2] [(1, .pointer (some ⟨b27, 0, none⟩)), (2, .pointer (some ⟨b39, 0, none⟩))] (by kernel_rfl) ?_
      refine RegI.done (by kernel_rfl) ?_
      refine RunsI.go 1 [.c 3, .c 4] (by kernel_rfl) ?_
      refine RunsI.region (by kernel_rfl) ?_
      refine RegI.pure 1 [1, 4] [(1, .pointer (some ⟨b27, 0, none⟩)), (4, .pointer (some ⟨b39, 0, none⟩))] (by kernel_rfl) ?_
      refine RegI.op (by kernel_rfl) (OpE.loadBox 5 5 3 b39 0 (.int .i64 ((rdD p0_3 t29).1)) h40 (by kernel_rfl) (by kernel_rfl) rfl (by kernel_rfl) ?_)
      refine RegI.op (by kernel_rfl) (OpE.loadBox 6 1 3 b27 0 (.int .i64 t28) h40 (by kernel_rfl) (by kernel_rfl) rfl (by kernel_rfl) ?_)
      refine RegI.pure 2 [3] [(3, .bool (((rdD p0_3 t29).1) == t28))] (by kernel_rfl) ?_
      refine RegI.done (by kernel_rfl) ?_
      refine RunsI.ret (.bool (((rdD p0_3 t29).1) == t28)) (by kernel_rfl) (by kernel_rfl) ?_
      refine cont_mk ?_
      refine RegI.done (by kernel_rfl) ?_
      rcases of_cond h with ⟨hc43, h⟩ | ⟨hc43, h⟩
      · skip
        refine RunsI.fix 16 true hc43 (by kernel_rfl) (by kernel_rfl) ?_
        refine RunsI.cond true 20 (by kernel_rfl) ?_
        refine RunsI.go 1 [.c 21, .c 22, .blk 1, .c 24, .lp 7, .blk 0, .c 25] (by kernel_rfl) ?_
        refine RunsI.region (by kernel_rfl) ?_
        refine RegI.pure 2 [4] [(4, .int .i64 t29)] (by kernel_rfl) ?_
        refine RegI.done (by kernel_rfl) ?_
        refine RunsI.ret (.int .i64 t29) (by kernel_rfl) (by kernel_rfl) ?_
        exact hk1 t29 w38 (Option.some.inj h).symm (h40.pick [2, 3, 0] (by decide))
      · skip
        refine RunsI.fix 16 false hc43 (by kernel_rfl) (by kernel_rfl) ?_
        refine RunsI.cond false 23 (by kernel_rfl) ?_
        refine RunsI.go 1 [.blk 1, .c 24, .lp 7, .blk 0, .c 25] (by kernel_rfl) ?_
        refine RunsI.go 1 [.c 24, .lp 7, .blk 0, .c 25] (by kernel_rfl) ?_
        refine RunsI.region (by kernel_rfl) ?_
        refine RegI.pure 2 [0, 1, 7, 8] [(0, .slice pA0_3 p0_3.length pc0_3), (1, .func (.func 78) #[] #[.pointer (some ⟨b27, 0, none⟩)]), (7, .int .i64 (p0_3.length : Int)), (8, .int .i64 (IntKind.wrap .i64 (t29 + 1)))] (by kernel_rfl) ?_
        refine RegI.done (by kernel_rfl) ?_
        refine RunsI.go 1 [.c 7, .lp 7, .blk 0, .c 25] (by kernel_rfl) ?_
        refine RunsI.only [0, 1, 7, 8] [(0, .slice pA0_3 p0_3.length pc0_3), (1, .func (.func 78) #[] #[.pointer (some ⟨b27, 0, none⟩)]), (7, .int .i64 (p0_3.length : Int)), (8, .int .i64 (IntKind.wrap .i64 (t29 + 1)))] (by kernel_rfl) (by kernel_rfl) ?_
        exact ih (IntKind.wrap .i64 (t29 + 1)) w38 h (h40.pick [0, 1, 2, 3] (by decide))
    · skip
      refine RunsI.fix 9 false hc31 (by kernel_rfl) (by kernel_rfl) ?_
      refine RunsI.cond false 12 (by kernel_rfl) ?_
      refine RunsI.go 1 [.c 25] (by kernel_rfl) ?_
      refine RunsI.only [] [] (by kernel_rfl) (by kernel_rfl) ?_
      exact hk0 w (Option.some.inj h).symm (hH.pick [2, 3, 0] (by decide))
def banks_Read_42.f (K : Nat) (p0_0 : List Int) (p0_1 : Int) (p0_2 : Int) (p0_3 : List (Int × Int)) (p1 : Int) : Option Int := (banks_Where_76.f K p0_0 p0_1 p0_2 p0_3 p1).bind fun yt10 => cond (!yt10.2) (cond (inR p1 p0_0.length) (some (rdD p0_0 p1)) none) (Let (fun (t59 : Int) => cond (decide (t59 < (p0_3.length : Int))) (cond (inR t59 p0_3.length) (some ((rdD p0_3 t59).2)) none) (some 0)) (fun j62 => Let (fun (t52 : Int) => cond (decide (t52 ≥ 0)) (j62 t52) (j62 (p0_3.length : Int))) (fun j55 => (banks_Read_42.l0 K p0_0 p0_1 p0_2 p0_3 p1 yt10.1 K 0).bind (fun x45 => Lp.elim x45 (fun t49 => j55 t49) (fun _ => j55 (-1))))))
set_option maxRecDepth 100000 in
theorem banks_Read_42_ok (K : Nat) (M0 : Nat → Prop) (w0 : World) (pA0_0 : Option Addr) (pc0_0 : Nat) (pA0_3 : Option Addr) (pc0_3 : Nat) (p0_0 : List Int) (p0_1 : Int) (p0_2 : Int) (p0_3 : List (Int × Int)) (p1 : Int) (ho : ∀ b, M0 b → b < w0.heap.size) (hs0_0 : Sl (Rp.int .u8) w0 M0 (.slice pA0_0 p0_0.length pc0_0) p0_0) (hs0_3 : Sl (Rp.pair (Rp.int .i64) (Rp.int .u8)) w0 M0 (.slice pA0_3 p0_3.length pc0_3) p0_3) {r : Int} (h : banks_Read_42.f K p0_0 p0_1 p0_2 p0_3 p1 = some r) :
    Calls Tryd.prog 42 #[.agg #[.slice pA0_0 p0_0.length pc0_0, .int .i64 p0_1, .int .i64 p0_2, .slice pA0_3 p0_3.length pc0_3], .int .u16 p1] w0 (banks_Read_42.post M0 w0 r) := by
  unfold banks_Read_42.f at h
  have h0 : Holds M0 w0 w0 [] := Holds.start ho
  have h00_0 := h0.addSl (Rp.int .u8) (.slice pA0_0 p0_0.length pc0_0) p0_0 (hs0_0.mono (fun _ _ hm => hm.elim id (fun hm => absurd hm (by simp [mines, sl]))))
  have h00_3 := h00_0.addSl (Rp.pair (Rp.int .i64) (Rp.int .u8)) (.slice pA0_3 p0_3.length pc0_3) p0_3 (hs0_3.mono (fun _ _ hm => hm.elim id (fun hm => absurd hm (by simp [mines, sl]))))
  have h0 : Holds M0 w0 w0 [sl (Rp.int .u8) (.slice pA0_0 p0_0.length pc0_0) p0_0, sl (Rp.pair (Rp.int .i64) (Rp.int .u8)) (.slice pA0_3 p0_3.length pc0_3) p0_3] := h00_3
  refine calls_of F42 rfl [.agg #[.slice pA0_0 p0_0.length pc0_0, .int .i64 p0_1, .int .i64 p0_2, .slice pA0_3 p0_3.length pc0_3], .int .u16 p1] (by kernel_rfl) ?_
  refine RunsI.go 1 [.c 1, .c 2] (by kernel_rfl) ?_
  refine RunsI.region (by kernel_rfl) ?_
  refine RegI.op (by kernel_rfl) (OpE.box 2 25 [.slice pA0_0 p0_0.length pc0_0, .int .i64 p0_1, .int .i64 p0_2, .slice pA0_3 p0_3.length pc0_3] h0 (by kernel_rfl) (by kernel_rfl) ?_)
  intro w1 b2 h3 hb4 hn5
  refine RegI.pure 1 [1, 2] [(1, .int .u16 p1), (2, .pointer (some ⟨b2, 0, none⟩))] (by kernel_rfl) ?_
  refine RegI.done (by kernel_rfl) ?_
  refine RunsI.go 1 [.c 3, .c 4] (by kernel_rfl) ?_
  refine RunsI.region (by kernel_rfl) ?_
  refine RegI.op (by kernel_rfl) (OpE.loadBox 9 2 25 b2 0 (.agg #[.slice pA0_0 p0_0.length pc0_0, .int .i64 p0_1, .int .i64 p0_2, .slice pA0_3 p0_3.length pc0_3]) h3 (by kernel_rfl) (by kernel_rfl) rfl (by kernel_rfl) ?_)
  refine RegI.pure 1 [1, 2, 9, 10] [(1, .int .u16 p1), (2, .pointer (some ⟨b2, 0, none⟩)), (9, .agg #[.slice pA0_0 p0_0.length pc0_0, .int .i64 p0_1, .int .i64 p0_2, .slice pA0_3 p0_3.length pc0_3]), (10, .int .u16 p1)] (by kernel_rfl) ?_
  obtain ⟨⟨t10, t11⟩, hg9, h⟩ := of_bind h
  dsimp only at h
  refine RegI.op (by kernel_rfl) (OpE.call 11 (by kernel_rfl) 76 #[.agg #[.slice pA0_0 p0_0.length pc0_0, .int .i64 p0_1, .int .i64 p0_2, .slice pA0_3 p0_3.length pc0_3], .int .u16 p1] (by kernel_rfl) ((banks_Where_76_ok K _ w1  pA0_0 pc0_0 pA0_3 pc0_3 p0_0 p0_1 p0_2 p0_3 p1 h3.old' (h3.get 0 rfl) (h3.get 1 rfl) hg9).mono ?_))
  rintro _ w6 ⟨rfl, hb7⟩
  refine ⟨_, rfl, ?_⟩
  have h8 := h3.call hb7
  refine RegI.pure 3 [1, 2, 12, 13] [(1, .int .u16 p1), (2, .pointer (some ⟨b2, 0, none⟩)), (12, .int .i64 t10), (13, .bool t11)] (by kernel_rfl) ?_
  refine RegI.op (by kernel_rfl) (OpE.box 5 3 [.int .i64 0] h8 (by kernel_rfl) (by kernel_rfl) ?_)
  intro w12 b13 h14 hb15 hn16
  refine RegI.op (by kernel_rfl) (OpE.storeBox 3 3 b13 0 (.int .i64 t10) [.int .i64 t10] h14 (by kernel_rfl) (by kernel_rfl) rfl (by kernel_rfl) (by kernel_rfl) (by kernel_rfl) ?_)
  intro w17 h18 hk19
  refine RegI.pure 1 [1, 2, 5, 6] [(1, .int .u16 p1), (2, .pointer (some ⟨b2, 0, none⟩)), (5, .pointer (some ⟨b13, 0, none⟩)), (6, .bool t11)] (by kernel_rfl) ?_
  refine RegI.done (by kernel_rfl) ?_
  refine RunsI.go 2 [.c 6, .c 7, .c 12] (by kernel_rfl) ?_
  refine RunsI.region (by kernel_rfl) ?_
  refine RegI.pure 2 [1, 2, 5, 15] [(1, .int .u16 p1), (2, .pointer (some ⟨b2, 0, none⟩)), (5, .pointer (some ⟨b13, 0, none⟩)), (15, .bool (!t11))] (by kernel_rfl) ?_
  refine RegI.done (by kernel_rfl) ?_
  rcases of_cond h with ⟨hc20, h⟩ | ⟨hc20, h⟩
  · skip
    refine RunsI.fix 15 true hc20 (by kernel_rfl) (by kernel_rfl) ?_
    refine RunsI.cond true 8 (by kernel_rfl) ?_
    refine RunsI.go 1 [.c 9, .c 10, .c 12] (by kernel_rfl) ?_
    refine RunsI.region (by kernel_rfl) ?_
    refine RegI.pure 1 [1, 16] [(1, .int .u16 p1), (16, .pointer (some ⟨b2, 0, none⟩))] (by kernel_rfl) ?_
    refine RegI.op (by kernel_rfl) (OpE.loadBox 17 2 22 b2 0 (.slice pA0_0 p0_0.length pc0_0) h18 (by kernel_rfl) (by kernel_rfl) rfl (by kernel_rfl) ?_)
    refine RegI.pure 1 [17, 18] [(17, .slice pA0_0 p0_0.length pc0_0), (18, .int .u16 p1)] (by kernel_rfl) ?_
    obtain ⟨hc21, h⟩ := of_cond0 h
    refine RegI.op (by kernel_rfl) (OpE.idxSl 19 0 22 p1 h18 (by kernel_rfl) rfl (by kernel_rfl) (by kernel_rfl) hc21 ?_)
    intro b22 o23 cs24 hk25 h26
    obtain rfl := hk25
    refine RegI.op (by kernel_rfl) (OpE.loadCel 20 4 5 b22 o23 0 (.int .u8 (rdD p0_0 p1)) h26 (by kernel_rfl) (by kernel_rfl) rfl (by kernel_rfl) ?_)
    refine RegI.pure 1 [4] [(4, .int .u8 (rdD p0_0 p1))] (by kernel_rfl) ?_
    refine RegI.done (by kernel_rfl) ?_
    refine RunsI.ret (.int .u8 (rdD p0_0 p1)) (by kernel_rfl) (by kernel_rfl) ?_
    obtain rfl := Option.some.inj h
    exact ⟨rfl, h26.below⟩
  · skip
    refine RunsI.fix 15 false hc20 (by kernel_rfl) (by kernel_rfl) ?_
    refine RunsI.cond false 11 (by kernel_rfl) ?_
    refine RunsI.go 1 [.c 12] (by kernel_rfl) ?_
    refine RunsI.go 2 [.c 14, .c 15, .c 22] (by kernel_rfl) ?_
    refine RunsI.region (by kernel_rfl) ?_
    refine RegI.pure 1 [2, 5, 21] [(2, .pointer (some ⟨b2, 0, none⟩)), (5, .pointer (some ⟨b13, 0, none⟩)), (21, .pointer (some ⟨b2, 3, none⟩))] (by kernel_rfl) ?_
    refine RegI.op (by kernel_rfl) (OpE.loadBox 22 2 23 b2 3 (.slice pA0_3 p0_3.length pc0_3) h18 (by kernel_rfl) (by kernel_rfl) rfl (by kernel_rfl) ?_)
    refine RegI.pure 1 [2, 22, 23] [(2, .pointer (some ⟨b2, 0, none⟩)), (22, .slice pA0_3 p0_3.length pc0_3), (23, .func (.func 78) #[] #[.pointer (some ⟨b13, 0, none⟩)])] (by kernel_rfl) ?_
    refine RegI.enter 24 [2] [(2, .pointer (some ⟨b2, 0, none⟩))] (by kernel_rfl) (by kernel_rfl) (by kernel_rfl) (by kernel_rfl) F77 77 rfl [.slice pA0_3 p0_3.length pc0_3, .func (.func 78) #[] #[.pointer (some ⟨b13, 0, none⟩)]] (by kernel_rfl) (by kernel_rfl) ?_
    obtain ⟨j62, hJ63, h⟩ := of_let h
    have hj64 : ∀ (t59 : Int) (w61 : World), j62 t59 = some r → Holds M0 w0 w61 [box b2 25 [.slice pA0_0 p0_0.length pc0_0, .int .i64 p0_1, .int .i64 p0_2, .slice pA0_3 p0_3.length pc0_3], sl (Rp.int .u8) (.slice pA0_0 p0_0.length pc0_0) p0_0, sl (Rp.pair (Rp.int .i64) (Rp.int .u8)) (.slice pA0_3 p0_3.length pc0_3) p0_3] → RegI F42 14 [.c 15, .c 22] 4 [(2, .pointer (some ⟨b2, 0, none⟩)), (24, .int .i64 t59)] w61 (banks_Read_42.post M0 w0 r) := by
      intro t59 w61 h h60
      rw [hJ63] at h
      clear hJ63
      dsimp only at h
      refine RegI.pure 1 [2, 7] [(2, .pointer (some ⟨b2, 0, none⟩)), (7, .int .i64 t59)] (by kernel_rfl) ?_
      refine RegI.done (by kernel_rfl) ?_
      refine RunsI.go 1 [.c 16, .c 17, .c 22] (by kernel_rfl) ?_
      refine RunsI.region (by kernel_rfl) ?_
      refine RegI.pure 2 [2, 7, 25, 26] [(2, .pointer (some ⟨b2, 0, none⟩)), (7, .int .i64 t59), (25, .int .i64 t59), (26, .pointer (some ⟨b2, 3, none⟩))] (by kernel_rfl) ?_
      refine RegI.op (by kernel_rfl) (OpE.loadBox 27 0 23 b2 3 (.slice pA0_3 p0_3.length pc0_3) h60 (by kernel_rfl) (by kernel_rfl) rfl (by kernel_rfl) ?_)
      refine RegI.pure 2 [2, 7, 29] [(2, .pointer (some ⟨b2, 0, none⟩)), (7, .int .i64 t59), (29, .bool (decide (t59 < (p0_3.length : Int))))] (by kernel_rfl) ?_
      refine RegI.done (by kernel_rfl) ?_
      rcases of_cond h with ⟨hc65, h⟩ | ⟨hc65, h⟩
      · skip
        refine RunsI.fix 29 true hc65 (by kernel_rfl) (by kernel_rfl) ?_
        refine RunsI.cond true 18 (by kernel_rfl) ?_
        refine RunsI.go 1 [.c 19, .c 20, .c 22] (by kernel_rfl) ?_
        refine RunsI.region (by kernel_rfl) ?_
        refine RegI.pure 1 [7, 30] [(7, .int .i64 t59), (30, .pointer (some ⟨b2, 3, none⟩))] (by kernel_rfl) ?_
        refine RegI.op (by kernel_rfl) (OpE.loadBox 31 0 23 b2 3 (.slice pA0_3 p0_3.length pc0_3) h60 (by kernel_rfl) (by kernel_rfl) rfl (by kernel_rfl) ?_)
        refine RegI.pure 1 [31, 32] [(31, .slice pA0_3 p0_3.length pc0_3), (32, .int .i64 t59)] (by kernel_rfl) ?_
        obtain ⟨hc66, h⟩ := of_cond0 h
        refine RegI.op (by kernel_rfl) (OpE.idxSl 33 2 23 t59 h60 (by kernel_rfl) rfl (by kernel_rfl) (by kernel_rfl) hc66 ?_)
        intro b67 o68 cs69 hk70 h71
        obtain ⟨_, _, rfl, rfl, rfl⟩ := hk70
        refine RegI.pure 1 [34] [(34, .pointer (some ⟨b67, o68 + 1, none⟩))] (by kernel_rfl) ?_
        refine RegI.op (by kernel_rfl) (OpE.loadCel 35 3 5 b67 o68 1 (.int .u8 ((rdD p0_3 t59).2)) h71 (by kernel_rfl) (by kernel_rfl) rfl (by kernel_rfl) ?_)
        refine RegI.pure 1 [4] [(4, .int .u8 ((rdD p0_3 t59).2))] (by kernel_rfl) ?_
        refine RegI.done (by kernel_rfl) ?_
        refine RunsI.ret (.int .u8 ((rdD p0_3 t59).2)) (by kernel_rfl) (by kernel_rfl) ?_
        obtain rfl := Option.some.inj h
        exact ⟨rfl, h71.below⟩
      · skip
        refine RunsI.fix 29 false hc65 (by kernel_rfl) (by kernel_rfl) ?_
        refine RunsI.cond false 21 (by kernel_rfl) ?_
        refine RunsI.go 1 [.c 22] (by kernel_rfl) ?_
        refine RunsI.go 1 [.c 23, .c 24] (by kernel_rfl) ?_
        refine RunsI.region (by kernel_rfl) ?_
        refine RegI.pure 1 [4] [(4, .int .u8 0)] (by kernel_rfl) ?_
        refine RegI.done (by kernel_rfl) ?_
        refine RunsI.ret (.int .u8 0) (by kernel_rfl) (by kernel_rfl) ?_
        obtain rfl := Option.some.inj h
        exact ⟨rfl, h60.below⟩
    clear hJ63
    refine RunsI.go 1 [.c 1, .c 2] (by kernel_rfl) ?_
    refine RunsI.region (by kernel_rfl) ?_
    refine RegI.pure 1 [0, 1] [(0, .slice pA0_3 p0_3.length pc0_3), (1, .func (.func 78) #[] #[.pointer (some ⟨b13, 0, none⟩)])] (by kernel_rfl) ?_
    refine RegI.done (by kernel_rfl) ?_
    refine RunsI.go 2 [.c 4, .c 5, .c 12] (by kernel_rfl) ?_
    refine RunsI.region (by kernel_rfl) ?_
    refine RegI.pure 2 [0, 6, 7] [(0, .slice pA0_3 p0_3.length pc0_3), (6, .slice pA0_3 p0_3.length pc0_3), (7, .func (.func 78) #[] #[.pointer (some ⟨b13, 0, none⟩)])] (by kernel_rfl) ?_
    refine RegI.enter 8 [0] [(0, .slice pA0_3 p0_3.length pc0_3)] (by kernel_rfl) (by kernel_rfl) (by kernel_rfl) (by kernel_rfl) F119 119 rfl [.slice pA0_3 p0_3.length pc0_3, .func (.func 78) #[] #[.pointer (some ⟨b13, 0, none⟩)]] (by kernel_rfl) (by kernel_rfl) ?_
    obtain ⟨j55, hJ56, h⟩ := of_let h
    have hj57 : ∀ (t52 : Int) (w54 : World), j55 t52 = some r → Holds M0 w0 w54 [sl (Rp.pair (Rp.int .i64) (Rp.int .u8)) (.slice pA0_3 p0_3.length pc0_3) p0_3, box b2 25 [.slice pA0_0 p0_0.length pc0_0, .int .i64 p0_1, .int .i64 p0_2, .slice pA0_3 p0_3.length pc0_3], sl (Rp.int .u8) (.slice pA0_0 p0_0.length pc0_0) p0_0] → RegI F77 4 [.c 5, .c 12] 3 [(0, .slice pA0_3 p0_3.length pc0_3), (8, .int .i64 t52)] w54 (cont (fun e' w' => RegI F42 14 [.c 15, .c 22] 4 e' w' (banks_Read_42.post M0 w0 r)) 24 [(2, .pointer (some ⟨b2, 0, none⟩))]) := by
      intro t52 w54 h h53
      rw [hJ56] at h
      clear hJ56
      dsimp only at h
      refine RegI.pure 1 [0, 5] [(0, .slice pA0_3 p0_3.length pc0_3), (5, .int .i64 t52)] (by kernel_rfl) ?_
      refine RegI.done (by kernel_rfl) ?_
      refine RunsI.go 1 [.c 6, .c 7, .c 12] (by kernel_rfl) ?_
      refine RunsI.region (by kernel_rfl) ?_
      refine RegI.pure 2 [0, 5, 10] [(0, .slice pA0_3 p0_3.length pc0_3), (5, .int .i64 t52), (10, .bool (decide (t52 ≥ 0)))] (by kernel_rfl) ?_
      refine RegI.done (by kernel_rfl) ?_
      rcases of_cond h with ⟨hc58, h⟩ | ⟨hc58, h⟩
      · skip
        refine RunsI.fix 10 true hc58 (by kernel_rfl) (by kernel_rfl) ?_
        refine RunsI.cond true 8 (by kernel_rfl) ?_
        refine RunsI.go 1 [.c 9, .c 10, .c 12] (by kernel_rfl) ?_
        refine RunsI.region (by kernel_rfl) ?_
        refine RegI.pure 2 [4] [(4, .int .i64 t52)] (by kernel_rfl) ?_
        refine RegI.done (by kernel_rfl) ?_
        refine RunsI.ret (.int .i64 t52) (by kernel_rfl) (by kernel_rfl) ?_
        refine cont_mk ?_
        refine RegI.only [2, 24] [(2, .pointer (some ⟨b2, 0, none⟩)), (24, .int .i64 t52)] (by kernel_rfl) (by kernel_rfl) ?_
        exact hj64 t52 w54 h (h53.pick [1, 2, 0] (by decide))
      · skip
        refine RunsI.fix 10 false hc58 (by kernel_rfl) (by kernel_rfl) ?_
        refine RunsI.cond false 11 (by kernel_rfl) ?_
        refine RunsI.go 1 [.c 12] (by kernel_rfl) ?_
        refine RunsI.go 1 [.c 13, .c 14] (by kernel_rfl) ?_
        refine RunsI.region (by kernel_rfl) ?_
        refine RegI.pure 3 [4] [(4, .int .i64 (p0_3.length : Int))] (by kernel_rfl) ?_
        refine RegI.done (by kernel_rfl) ?_
        refine RunsI.ret (.int .i64 (p0_3.length : Int)) (by kernel_rfl) (by kernel_rfl) ?_
        refine cont_mk ?_
        refine RegI.only [2, 24] [(2, .pointer (some ⟨b2, 0, none⟩)), (24, .int .i64 (p0_3.length : Int))] (by kernel_rfl) (by kernel_rfl) ?_
        exact hj64 (p0_3.length : Int) w54 h (h53.pick [1, 2, 0] (by decide))
    clear hJ56
    refine RunsI.go 1 [.c 1, .c 2] (by kernel_rfl) ?_
    refine RunsI.region (by kernel_rfl) ?_
    refine RegI.pure 1 [0, 1] [(0, .slice pA0_3 p0_3.length pc0_3), (1, .func (.func 78) #[] #[.pointer (some ⟨b13, 0, none⟩)])] (by kernel_rfl) ?_
    refine RegI.done (by kernel_rfl) ?_
    refine RunsI.go 2 [.c 4, .c 5, .c 25] (by kernel_rfl) ?_
    refine RunsI.region (by kernel_rfl) ?_
    refine RegI.pure 3 [0, 1, 7, 8] [(0, .slice pA0_3 p0_3.length pc0_3), (1, .func (.func 78) #[] #[.pointer (some ⟨b13, 0, none⟩)]), (7, .int .i64 (p0_3.length : Int)), (8, .int .i64 0)] (by kernel_rfl) ?_
    refine RegI.done (by kernel_rfl) ?_
    refine RunsI.go 2 [.c 7, .lp 7, .blk 0, .c 25] (by kernel_rfl) ?_
    obtain ⟨x45, hx46, h⟩ := of_bind h
    refine RunsI.only [0, 1, 7, 8] [(0, .slice pA0_3 p0_3.length pc0_3), (1, .func (.func 78) #[] #[.pointer (some ⟨b13, 0, none⟩)]), (7, .int .i64 (p0_3.length : Int)), (8, .int .i64 0)] (by kernel_rfl) (by kernel_rfl) ?_
    refine banks_Read_42.l0_ok K M0 w0 pA0_0 pc0_0 pA0_3 pc0_3 p0_0 p0_1 p0_2 p0_3 p1 t10 b13 b2 _ x45 ?_ ?_ K 0 w17 hx46 (h18.pick [1, 3, 2, 0] (by decide))
    · intro w48 hq72 h47
      (try rw [hq72] at h)
      dsimp only [Lp.elim] at h
      refine RunsI.go 1 [.c 26, .c 27] (by kernel_rfl) ?_
      refine RunsI.region (by kernel_rfl) ?_
      refine RegI.pure 1 [4] [(4, .int .i64 (-1))] (by kernel_rfl) ?_
      refine RegI.done (by kernel_rfl) ?_
      refine RunsI.ret (.int .i64 (-1)) (by kernel_rfl) (by kernel_rfl) ?_
      refine cont_mk ?_
      refine RegI.only [0, 8] [(0, .slice pA0_3 p0_3.length pc0_3), (8, .int .i64 (-1))] (by kernel_rfl) (by kernel_rfl) ?_
      exact hj57 (-1) w48 h (h47.pick [2, 0, 1] (by decide))
    · intro t49 w51 hq73 h50
      (try rw [hq73] at h)
      dsimp only [Lp.elim] at h
      refine cont_mk ?_
      refine RegI.only [0, 8] [(0, .slice pA0_3 p0_3.length pc0_3), (8, .int .i64 t49)] (by kernel_rfl) (by kernel_rfl) ?_
      exact hj57 t49 w51 h (h50.pick [2, 0, 1] (by decide))
end

/-! ### charabanc/history.follows (function 45) -/
section
def history_follows_45.post (M0 : Nat → Prop) (w0 : World) (r : Bool) : Ending → World → Prop := fun e w => e = .returned (.bool r) ∧ Below w0.heap.size w0 w
def history_follows_45.f (K : Nat) (p0_0 : List Int) (p0_1 : Int) (p0_2 : Int) (p0_3 : List (Int × Int)) (p1_0 : Int) (p1_1 : Int) (p1_2 : Int) (p1_3 : Int) (p1_4 : Int) (p1_5 : Int) : Option Bool := Let (fun (t12 : Bool) => cond t12 (cond (p1_4 == p0_2) ((banks_Read_42.f K p0_0 p0_1 p0_2 p0_3 p1_3).bind fun t25 => some (p1_5 == t25)) (some false)) (some (p1_4 == p0_2))) (fun j15 => cond (p1_2 == 1) (j15 true) (j15 (p1_2 == 2)))
set_option maxRecDepth 100000 in
theorem history_follows_45_ok (K : Nat) (M0 : Nat → Prop) (w0 : World) (pA0_0 : Option Addr) (pc0_0 : Nat) (pA0_3 : Option Addr) (pc0_3 : Nat) (p0_0 : List Int) (p0_1 : Int) (p0_2 : Int) (p0_3 : List (Int × Int)) (p1_0 : Int) (p1_1 : Int) (p1_2 : Int) (p1_3 : Int) (p1_4 : Int) (p1_5 : Int) (ho : ∀ b, M0 b → b < w0.heap.size) (hs0_0 : Sl (Rp.int .u8) w0 M0 (.slice pA0_0 p0_0.length pc0_0) p0_0) (hs0_3 : Sl (Rp.pair (Rp.int .i64) (Rp.int .u8)) w0 M0 (.slice pA0_3 p0_3.length pc0_3) p0_3) {r : Bool} (h : history_follows_45.f K p0_0 p0_1 p0_2 p0_3 p1_0 p1_1 p1_2 p1_3 p1_4 p1_5 = some r) :
    Calls Tryd.prog 45 #[.agg #[.slice pA0_0 p0_0.length pc0_0, .int .i64 p0_1, .int .i64 p0_2, .slice pA0_3 p0_3.length pc0_3], .agg #[.int .i64 p1_0, .int .i64 p1_1, .int .i64 p1_2, .int .u16 p1_3, .int .i64 p1_4, .int .u8 p1_5]] w0 (history_follows_45.post M0 w0 r) := by
  unfold history_follows_45.f at h
  have h0 : Holds M0 w0 w0 [] := Holds.start ho
  have h00_0 := h0.addSl (Rp.int .u8) (.slice pA0_0 p0_0.length pc0_0) p0_0 (hs0_0.mono (fun _ _ hm => hm.elim id (fun hm => absurd hm (by simp [mines, sl]))))
  have h00_3 := h00_0.addSl (Rp.pair (Rp.int .i64) (Rp.int .u8)) (.slice pA0_3 p0_3.length pc0_3) p0_3 (hs0_3.mono (fun _ _ hm => hm.elim id (fun hm => absurd hm (by simp [mines, sl]))))
  have h0 : Holds M0 w0 w0 [sl (Rp.int .u8) (.slice pA0_0 p0_0.length pc0_0) p0_0, sl (Rp.pair (Rp.int .i64) (Rp.int .u8)) (.slice pA0_3 p0_3.length pc0_3) p0_3] := h00_3
  refine calls_of F45 rfl [.agg #[.slice pA0_0 p0_0.length pc0_0, .int .i64 p0_1, .int .i64 p0_2, .slice pA0_3 p0_3.length pc0_3], .agg #[.int .i64 p1_0, .int .i64 p1_1, .int .i64 p1_2, .int .u16 p1_3, .int .i64 p1_4, .int .u8 p1_5]] (by kernel_rfl) ?_
  refine RunsI.go 1 [.c 1, .c 2] (by kernel_rfl) ?_
  refine RunsI.region (by kernel_rfl) ?_
  refine RegI.op (by kernel_rfl) (OpE.box 2 25 [.slice pA0_0 p0_0.length pc0_0, .int .i64 p0_1, .int .i64 p0_2, .slice pA0_3 p0_3.length pc0_3] h0 (by kernel_rfl) (by kernel_rfl) ?_)
  intro w1 b2 h3 hb4 hn5
  refine RegI.op (by kernel_rfl) (OpE.box 3 54 [.int .i64 p1_0, .int .i64 p1_1, .int .i64 p1_2, .int .u16 p1_3, .int .i64 p1_4, .int .u8 p1_5] h3 (by kernel_rfl) (by kernel_rfl) ?_)
  intro w6 b7 h8 hb9 hn10
  refine RegI.pure 1 [2, 3] [(2, .pointer (some ⟨b2, 0, none⟩)), (3, .pointer (some ⟨b7, 0, none⟩))] (by kernel_rfl) ?_
  refine RegI.done (by kernel_rfl) ?_
  refine RunsI.go 2 [.c 4, .c 5, .c 17] (by kernel_rfl) ?_
  refine RunsI.region (by kernel_rfl) ?_
  refine RegI.pure 1 [2, 3, 5] [(2, .pointer (some ⟨b2, 0, none⟩)), (3, .pointer (some ⟨b7, 0, none⟩)), (5, .pointer (some ⟨b7, 2, none⟩))] (by kernel_rfl) ?_
  refine RegI.op (by kernel_rfl) (OpE.loadBox 6 3 3 b7 2 (.int .i64 p1_2) h8 (by kernel_rfl) (by kernel_rfl) rfl (by kernel_rfl) ?_)
  refine RegI.done (by kernel_rfl) ?_
  refine RunsI.go 3 [.c 8, .c 9, .c 12, .blk 0, .c 17] (by kernel_rfl) ?_
  refine RunsI.region (by kernel_rfl) ?_
  refine RegI.pure 2 [2, 3, 6, 7] [(2, .pointer (some ⟨b2, 0, none⟩)), (3, .pointer (some ⟨b7, 0, none⟩)), (6, .int .i64 p1_2), (7, .bool (p1_2 == 1))] (by kernel_rfl) ?_
  refine RegI.done (by kernel_rfl) ?_
  obtain ⟨j15, hJ16, h⟩ := of_let h
  have hj17 : ∀ (t12 : Bool) (w14 : World), j15 t12 = some r → Holds M0 w0 w14 [box b2 25 [.slice pA0_0 p0_0.length pc0_0, .int .i64 p0_1, .int .i64 p0_2, .slice pA0_3 p0_3.length pc0_3], sl (Rp.int .u8) (.slice pA0_0 p0_0.length pc0_0) p0_0, sl (Rp.pair (Rp.int .i64) (Rp.int .u8)) (.slice pA0_3 p0_3.length pc0_3) p0_3, box b7 54 [.int .i64 p1_0, .int .i64 p1_1, .int .i64 p1_2, .int .u16 p1_3, .int .i64 p1_4, .int .u8 p1_5]] → RunsI F45 [.c 12, .blk 0, .c 17] [(2, .pointer (some ⟨b2, 0, none⟩)), (3, .pointer (some ⟨b7, 0, none⟩)), (7, .bool t12)] w14 (history_follows_45.post M0 w0 r) := by
    intro t12 w14 h h13
    rw [hJ16] at h
    clear hJ16
    dsimp only at h
    rcases of_cond h with ⟨hc18, h⟩ | ⟨hc18, h⟩
    · skip
      refine RunsI.fix 7 true hc18 (by kernel_rfl) (by kernel_rfl) ?_
      refine RunsI.cond true 13 (by kernel_rfl) ?_
      refine RunsI.go 1 [.c 14, .c 15, .blk 0, .c 17] (by kernel_rfl) ?_
      refine RunsI.any 15 (by kernel_rfl) (by kernel_rfl) (by kernel_rfl) (Kp ([] : List Nat) (World.drew w14)) ?_
      have h20 := h13.drew
      generalize World.drew w14 = w19 at h20 ⊢
      have hS21 := Kp.refl ([] : List Nat) w19
      refine AnyE.pure 0 10 (.pointer (some ⟨b7, 4, none⟩)) (by kernel_rfl) hS21 (fun _ => by kernel_rfl) ?_
      refine AnyE.loadBox 1 11 3 3 b7 4 (.int .i64 p1_4) [] h20 rfl (by kernel_rfl) hS21 rfl rfl (by kernel_rfl) (by kernel_rfl) ?_
      refine AnyE.pure 2 12 (.pointer (some ⟨b2, 2, none⟩)) (by kernel_rfl) hS21 (fun _ => by kernel_rfl) ?_
      refine AnyE.loadBox 3 13 0 3 b2 2 (.int .i64 p0_2) [] h20 rfl (by kernel_rfl) hS21 rfl rfl (by kernel_rfl) (by kernel_rfl) ?_
      refine AnyE.pure 4 14 (.bool (p1_4 == p0_2)) (by kernel_rfl) hS21 (fun _ => by kernel_rfl) ?_
      refine AnyE.pure 5 15 (.bool (p1_4 == p0_2)) (by kernel_rfl) hS21 (fun _ => by kernel_rfl) ?_
      rcases of_cond h with ⟨hc23, h⟩ | ⟨hc23, h⟩
      · skip
        refine AnyE.fix 15 true hc23 (by kernel_rfl) (by kernel_rfl) ?_
        refine AnyE.pure 6 16 (.pointer (some ⟨b7, 5, none⟩)) (by kernel_rfl) hS21 (fun _ => by kernel_rfl) ?_
        refine AnyE.loadBox 7 17 3 5 b7 5 (.int .u8 p1_5) [] h20 rfl (by kernel_rfl) hS21 rfl rfl (by kernel_rfl) (by kernel_rfl) ?_
        refine AnyE.loadBox 8 18 0 25 b2 0 (.agg #[.slice pA0_0 p0_0.length pc0_0, .int .i64 p0_1, .int .i64 p0_2, .slice pA0_3 p0_3.length pc0_3]) [] h20 rfl (by kernel_rfl) hS21 rfl rfl (by kernel_rfl) (by kernel_rfl) ?_
        refine AnyE.pure 9 19 (.pointer (some ⟨b7, 3, none⟩)) (by kernel_rfl) hS21 (fun _ => by kernel_rfl) ?_
        refine AnyE.loadBox 10 20 3 52 b7 3 (.int .u16 p1_3) [] h20 rfl (by kernel_rfl) hS21 rfl rfl (by kernel_rfl) (by kernel_rfl) ?_
        obtain ⟨t25, hg24, h⟩ := of_bind h
        refine AnyE.call 11 21 (.int .u8 t25) 42 #[.agg #[.slice pA0_0 p0_0.length pc0_0, .int .i64 p0_1, .int .i64 p0_2, .slice pA0_3 p0_3.length pc0_3], .int .u16 p1_3] (by kernel_rfl) hS21 (fun _ => by kernel_rfl) (fun w hk => banks_Read_42_ok K (fun _ => False) w pA0_0 pc0_0 pA0_3 pc0_3 p0_0 p0_1 p0_2 p0_3 p1_3 (fun _ hf => hf.elim) (Sl.mono (h20.atI [] rfl hk 1 rfl rfl) (fun _ _ hf => hf.elim)) (Sl.mono (h20.atI [] rfl hk 2 rfl rfl) (fun _ _ hf => hf.elim)) hg24) ?_
        refine AnyE.pure 12 22 (.bool (p1_5 == t25)) (by kernel_rfl) hS21 (fun _ => by kernel_rfl) ?_
        refine AnyE.pure 13 23 (.bool (p1_5 == t25)) (by kernel_rfl) hS21 (fun _ => by kernel_rfl) ?_
        refine AnyE.pure 14 4 (.bool (p1_5 == t25)) (by kernel_rfl) hS21 (fun _ => by kernel_rfl) ?_
        refine AnyE.done (by kernel_rfl) (fun w26 hu27 => ?_)
        have h28 := h20.call hu27
        refine RunsI.only [4] [(4, .bool (p1_5 == t25))] (by kernel_rfl) (by kernel_rfl) ?_
        refine RunsI.ret (.bool (p1_5 == t25)) (by kernel_rfl) (by kernel_rfl) ?_
        obtain rfl := Option.some.inj h
        exact ⟨rfl, h28.below⟩
      · skip
        refine AnyE.fix 15 false hc23 (by kernel_rfl) (by kernel_rfl) ?_
        refine AnyE.no 6 16 (by kernel_rfl) hS21 ?_
        refine AnyE.no 7 17 (by kernel_rfl) hS21 ?_
        refine AnyE.no 8 18 (by kernel_rfl) hS21 ?_
        refine AnyE.no 9 19 (by kernel_rfl) hS21 ?_
        refine AnyE.no 10 20 (by kernel_rfl) hS21 ?_
        refine AnyE.no 11 21 (by kernel_rfl) hS21 ?_
        refine AnyE.no 12 22 (by kernel_rfl) hS21 ?_
        refine AnyE.pure 13 23 (.bool false) (by kernel_rfl) hS21 (fun _ => by kernel_rfl) ?_
        refine AnyE.pure 14 4 (.bool false) (by kernel_rfl) hS21 (fun _ => by kernel_rfl) ?_
        refine AnyE.done (by kernel_rfl) (fun w29 hu30 => ?_)
        have h31 := h20.call hu30
        refine RunsI.only [4] [(4, .bool false)] (by kernel_rfl) (by kernel_rfl) ?_
        refine RunsI.ret (.bool false) (by kernel_rfl) (by kernel_rfl) ?_
        obtain rfl := Option.some.inj h
        exact ⟨rfl, h31.below⟩
    · skip
      refine RunsI.fix 7 false hc18 (by kernel_rfl) (by kernel_rfl) ?_
      refine RunsI.cond false 16 (by kernel_rfl) ?_
      refine RunsI.go 1 [.blk 0, .c 17] (by kernel_rfl) ?_
      refine RunsI.go 2 [.c 18, .c 19] (by kernel_rfl) ?_
      refine RunsI.region (by kernel_rfl) ?_
      refine RegI.pure 1 [2, 24] [(2, .pointer (some ⟨b2, 0, none⟩)), (24, .pointer (some ⟨b7, 4, none⟩))] (by kernel_rfl) ?_
      refine RegI.op (by kernel_rfl) (OpE.loadBox 25 3 3 b7 4 (.int .i64 p1_4) h13 (by kernel_rfl) (by kernel_rfl) rfl (by kernel_rfl) ?_)
      refine RegI.pure 1 [25, 26] [(25, .int .i64 p1_4), (26, .pointer (some ⟨b2, 2, none⟩))] (by kernel_rfl) ?_
      refine RegI.op (by kernel_rfl) (OpE.loadBox 27 0 3 b2 2 (.int .i64 p0_2) h13 (by kernel_rfl) (by kernel_rfl) rfl (by kernel_rfl) ?_)
      refine RegI.pure 2 [4] [(4, .bool (p1_4 == p0_2))] (by kernel_rfl) ?_
      refine RegI.done (by kernel_rfl) ?_
      refine RunsI.ret (.bool (p1_4 == p0_2)) (by kernel_rfl) (by kernel_rfl) ?_
      obtain rfl := Option.some.inj h
      exact ⟨rfl, h13.below⟩
  clear hJ16
  rcases of_cond h with ⟨hc11, h⟩ | ⟨hc11, h⟩
  · skip
    refine RunsI.fix 7 true hc11 (by kernel_rfl) (by kernel_rfl) ?_
    refine RunsI.cond true 10 (by kernel_rfl) ?_
    refine RunsI.go 1 [.c 12, .blk 0, .c 17] (by kernel_rfl) ?_
    refine RunsI.only [2, 3, 7] [(2, .pointer (some ⟨b2, 0, none⟩)), (3, .pointer (some ⟨b7, 0, none⟩)), (7, .bool true)] (by kernel_rfl) (by kernel_rfl) ?_
    exact hj17 true w6 h (h8.pick [2, 0, 1, 3] (by decide))
  · skip
    refine RunsI.fix 7 false hc11 (by kernel_rfl) (by kernel_rfl) ?_
    refine RunsI.cond false 11 (by kernel_rfl) ?_
    refine RunsI.region (by kernel_rfl) ?_
    refine RegI.pure 2 [2, 3, 7] [(2, .pointer (some ⟨b2, 0, none⟩)), (3, .pointer (some ⟨b7, 0, none⟩)), (7, .bool (p1_2 == 2))] (by kernel_rfl) ?_
    refine RegI.done (by kernel_rfl) ?_
    refine RunsI.only [2, 3, 7] [(2, .pointer (some ⟨b2, 0, none⟩)), (3, .pointer (some ⟨b7, 0, none⟩)), (7, .bool (p1_2 == 2))] (by kernel_rfl) (by kernel_rfl) ?_
    exact hj17 (p1_2 == 2) w6 h (h8.pick [2, 0, 1, 3] (by decide))
end

/-! ### charabanc/history.Legal (function 13) -/
section
def history_Legal_13.post (M0 : Nat → Prop) (w0 : World) (r : Int) : Ending → World → Prop := fun e w => e = .returned (.int .i64 r) ∧ Below w0.heap.size w0 w
def history_Legal_13.l0 (K : Nat) (p0_0 : List Int) (p0_1 : Int) (p0_2 : Int) (p0_3 : List (Int × Int)) (p1 : List (Int × Int × Int × Int × Int × Int)) : Nat → (List Int) → Int → Int → (List (Int × Int)) → Int → Option (Lp (Int × (List Int) × Int × Int × (List (Int × Int))) ((List Int) × Int × Int × (List (Int × Int))))
  | 0, _, _, _, _, _ => none
  | k + 1, t40, t41, t42, t45, t46 => cond (decide (t46 < (p1.length : Int))) (cond (inR t46 p1.length) (Let (fun (t114 : Bool) => cond t114 (some (Lp.ret (t46, t40, t41, t42, t45))) ((history_step_47.f K t40 t41 t42 t45 ((rdD p1 t46).1) ((rdD p1 t46).2.1) ((rdD p1 t46).2.2.1) ((rdD p1 t46).2.2.2.1) ((rdD p1 t46).2.2.2.2.1) ((rdD p1 t46).2.2.2.2.2)).bind fun yt134 => history_Legal_13.l0 K p0_0 p0_1 p0_2 p0_3 p1 k yt134.1 yt134.2.1 yt134.2.2.1 yt134.2.2.2 (IntKind.wrap .i64 (t46 + 1)))) (fun j117 => cond (decide (t46 > 0)) (cond (inR (IntKind.wrap .i64 (t46 - 1)) p1.length) (cond (decide (((rdD p1 t46).1) ≤ ((rdD p1 (IntKind.wrap .i64 (t46 - 1))).1))) (j117 true) ((history_follows_45.f K t40 t41 t42 t45 ((rdD p1 t46).1) ((rdD p1 t46).2.1) ((rdD p1 t46).2.2.1) ((rdD p1 t46).2.2.2.1) ((rdD p1 t46).2.2.2.2.1) ((rdD p1 t46).2.2.2.2.2)).bind fun t100 => j117 (!t100))) none) ((history_follows_45.f K t40 t41 t42 t45 ((rdD p1 t46).1) ((rdD p1 t46).2.1) ((rdD p1 t46).2.2.1) ((rdD p1 t46).2.2.2.1) ((rdD p1 t46).2.2.2.2.1) ((rdD p1 t46).2.2.2.2.2)).bind fun t110 => j117 (!t110)))) none) (some (Lp.go (t40, t41, t42, t45)))
set_option maxRecDepth 100000 in
theorem history_Legal_13.l0_ok (K : Nat) (M0 : Nat → Prop) (w0 : World) (pA0_0 : Option Addr) (pc0_0 : Nat) (pA0_3 : Option Addr) (pc0_3 : Nat) (pA1 : Option Addr) (pc1 : Nat) (p0_0 : List Int) (p0_1 : Int) (p0_2 : Int) (p0_3 : List (Int × Int)) (p1 : List (Int × Int × Int × Int × Int × Int)) (b33 : Nat) (b34 : Nat) (b35 : Nat) (b36 : Nat) (b37 : Nat) (b47 : Nat) (R : Ending → World → Prop) (x : Lp (Int × (List Int) × Int × Int × (List (Int × Int))) ((List Int) × Int × Int × (List (Int × Int)))) (hk0 : ∀ (t150 : List Int) (t151 : Int) (t152 : Int) (t155 : List (Int × Int)) (A148 : Option Addr) (c149 : Nat) (A153 : Option Addr) (c154 : Nat) (w1 : World), x = Lp.go (t150, t151, t152, t155) → Holds M0 w0 w1 [box b35 3 [.int .i64 0], rng F13 6 b33 [(3, .pointer (some ⟨b34, 0, none⟩)), (4, .pointer (some ⟨b35, 0, none⟩)), (9, .func (.func 83) #[] #[.pointer (some ⟨b36, 0, none⟩), .pointer (some ⟨b37, 0, none⟩)])] .ready none, box b34 26 [.slice pA1 p1.length pc1], sl (Rp.pair (Rp.int .i64) (Rp.pair (Rp.int .i64) (Rp.pair (Rp.int .i64) (Rp.pair (Rp.int .u16) (Rp.pair (Rp.int .i64) (Rp.int .u8)))))) (.slice pA1 p1.length pc1) p1, box b36 26 [.slice pA1 p1.length pc1], box b37 25 [.slice A148 t150.length c149, .int .i64 t151, .int .i64 t152, .slice A153 t155.length c154], sl (Rp.int .u8) (.slice A148 t150.length c149) t150, sl (Rp.pair (Rp.int .i64) (Rp.int .u8)) (.slice A153 t155.length c154) t155, dfr b47, gl 2 (tab_2.flatMap en_2)] → RunsI F83 [] [] w1 R) (hk1 : ∀ (t156 : Int) (t159 : List Int) (t160 : Int) (t161 : Int) (t164 : List (Int × Int)) (A157 : Option Addr) (c158 : Nat) (A162 : Option Addr) (c163 : Nat) (w1 : World), x = Lp.ret (t156, t159, t160, t161, t164) → Holds M0 w0 w1 [box b35 3 [.int .i64 t156], rng F13 6 b33 [(3, .pointer (some ⟨b34, 0, none⟩)), (4, .pointer (some ⟨b35, 0, none⟩)), (9, .func (.func 83) #[] #[.pointer (some ⟨b36, 0, none⟩), .pointer (some ⟨b37, 0, none⟩)])] .done (some 16), box b34 26 [.slice pA1 p1.length pc1], sl (Rp.pair (Rp.int .i64) (Rp.pair (Rp.int .i64) (Rp.pair (Rp.int .i64) (Rp.pair (Rp.int .u16) (Rp.pair (Rp.int .i64) (Rp.int .u8)))))) (.slice pA1 p1.length pc1) p1, box b36 26 [.slice pA1 p1.length pc1], box b37 25 [.slice A157 t159.length c158, .int .i64 t160, .int .i64 t161, .slice A162 t164.length c163], sl (Rp.int .u8) (.slice A157 t159.length c158) t159, sl (Rp.pair (Rp.int .i64) (Rp.int .u8)) (.slice A162 t164.length c163) t164, dfr b47, gl 2 (tab_2.flatMap en_2)] → R (.returned (.tuple #[])) w1) :
    ∀ (k : Nat) (t40 : List Int) (t41 : Int) (t42 : Int) (t45 : List (Int × Int)) (t46 : Int) (A38 : Option Addr) (c39 : Nat) (A43 : Option Addr) (c44 : Nat) (w : World), history_Legal_13.l0 K p0_0 p0_1 p0_2 p0_3 p1 k t40 t41 t42 t45 t46 = some x → Holds M0 w0 w [rng F13 6 b33 [(3, .pointer (some ⟨b34, 0, none⟩)), (4, .pointer (some ⟨b35, 0, none⟩)), (9, .func (.func 83) #[] #[.pointer (some ⟨b36, 0, none⟩), .pointer (some ⟨b37, 0, none⟩)])] .ready none, box b34 26 [.slice pA1 p1.length pc1], sl (Rp.pair (Rp.int .i64) (Rp.pair (Rp.int .i64) (Rp.pair (Rp.int .i64) (Rp.pair (Rp.int .u16) (Rp.pair (Rp.int .i64) (Rp.int .u8)))))) (.slice pA1 p1.length pc1) p1, box b35 3 [.int .i64 0], box b36 26 [.slice pA1 p1.length pc1], box b37 25 [.slice A38 t40.length c39, .int .i64 t41, .int .i64 t42, .slice A43 t45.length c44], sl (Rp.int .u8) (.slice A38 t40.length c39) t40, sl (Rp.pair (Rp.int .i64) (Rp.int .u8)) (.slice A43 t45.length c44) t45, dfr b47, gl 2 (tab_2.flatMap en_2)] → RunsI F83 [.c 4, .lp 4, .blk 0] [(0, .func (.yield b33) #[] #[]), (2, .pointer (some ⟨b37, 0, none⟩)), (6, .slice pA1 p1.length pc1), (7, .int .i64 (p1.length : Int)), (8, .int .i64 t46)] w R := by
  intro k
  induction k with
  | zero => intro t40 t41 t42 t45 t46 A38 c39 A43 c44 w h hH; exact absurd h (by simp [history_Legal_13.l0])
  | succ k ih =>
    intro t40 t41 t42 t45 t46 A38 c39 A43 c44 w h hH
    rw [history_Legal_13.l0.eq_2] at h
    refine RunsI.go 1 [.c 5, .c 6, .lp 4, .blk 0] (by kernel_rfl) ?_
    refine RunsI.region (by kernel_rfl) ?_
    refine RegI.pure 1 [0, 2, 6, 7, 8, 9] [(0, .func (.yield b33) #[] #[]), (2, .pointer (some ⟨b37, 0, none⟩)), (6, .slice pA1 p1.length pc1), (7, .int .i64 (p1.length : Int)), (8, .int .i64 t46), (9, .bool (decide (t46 < (p1.length : Int))))] (by kernel_rfl) ?_
    refine RegI.done (by kernel_rfl) ?_
    refine RunsI.go 1 [.c 7, .c 10, .lp 4, .blk 0] (by kernel_rfl) ?_
    rcases of_cond h with ⟨hc48, h⟩ | ⟨hc48, h⟩
    · skip
      refine RunsI.fix 9 true hc48 (by kernel_rfl) (by kernel_rfl) ?_
      refine RunsI.cond true 8 (by kernel_rfl) ?_
      refine RunsI.go 1 [.c 10, .lp 4, .blk 0] (by kernel_rfl) ?_
      refine RunsI.go 3 [.c 13, .c 14, .blk 1, .c 21, .lp 4, .blk 0] (by kernel_rfl) ?_
      refine RunsI.region (by kernel_rfl) ?_
      refine RegI.pure 1 [0, 2, 6, 7, 8, 10] [(0, .func (.yield b33) #[] #[]), (2, .pointer (some ⟨b37, 0, none⟩)), (6, .slice pA1 p1.length pc1), (7, .int .i64 (p1.length : Int)), (8, .int .i64 t46), (10, .int .i64 t46)] (by kernel_rfl) ?_
      obtain ⟨hc49, h⟩ := of_cond0 h
      refine RegI.op (by kernel_rfl) (OpE.idxSl 11 2 26 t46 hH (by kernel_rfl) rfl (by kernel_rfl) (by kernel_rfl) hc49 ?_)
      intro b50 o51 cs52 hk53 h54
      obtain ⟨_, _, rfl, rfl, ⟨_, _, rfl, rfl, ⟨_, _, rfl, rfl, ⟨_, _, rfl, rfl, ⟨_, _, rfl, rfl, rfl⟩⟩⟩⟩⟩ := hk53
      refine RegI.op (by kernel_rfl) (OpE.loadCel 12 10 54 b50 o51 0 (.agg #[.int .i64 ((rdD p1 t46).1), .int .i64 ((rdD p1 t46).2.1), .int .i64 ((rdD p1 t46).2.2.1), .int .u16 ((rdD p1 t46).2.2.2.1), .int .i64 ((rdD p1 t46).2.2.2.2.1), .int .u8 ((rdD p1 t46).2.2.2.2.2)]) h54 (by kernel_rfl) (by kernel_rfl) rfl (by kernel_rfl) ?_)
      refine RegI.op (by kernel_rfl) (OpE.box 5 54 [.int .i64 0, .int .i64 0, .int .i64 0, .int .u16 0, .int .i64 0, .int .u8 0] h54 (by kernel_rfl) (by kernel_rfl) ?_)
      intro w55 b56 h57 hb58 hn59
      refine RegI.pure 1 [0, 2, 4, 5, 6, 7, 8, 12] [(0, .func (.yield b33) #[] #[]), (2, .pointer (some ⟨b37, 0, none⟩)), (4, .int .i64 t46), (5, .pointer (some ⟨b56, 0, none⟩)), (6, .slice pA1 p1.length pc1), (7, .int .i64 (p1.length : Int)), (8, .int .i64 t46), (12, .agg #[.int .i64 ((rdD p1 t46).1), .int .i64 ((rdD p1 t46).2.1), .int .i64 ((rdD p1 t46).2.2.1), .int .u16 ((rdD p1 t46).2.2.2.1), .int .i64 ((rdD p1 t46).2.2.2.2.1), .int .u8 ((rdD p1 t46).2.2.2.2.2)])] (by kernel_rfl) ?_
      refine RegI.op (by kernel_rfl) (OpE.storeBox 11 54 b56 0 (.agg #[.int .i64 ((rdD p1 t46).1), .int .i64 ((rdD p1 t46).2.1), .int .i64 ((rdD p1 t46).2.2.1), .int .u16 ((rdD p1 t46).2.2.2.1), .int .i64 ((rdD p1 t46).2.2.2.2.1), .int .u8 ((rdD p1 t46).2.2.2.2.2)]) [.int .i64 ((rdD p1 t46).1), .int .i64 ((rdD p1 t46).2.1), .int .i64 ((rdD p1 t46).2.2.1), .int .u16 ((rdD p1 t46).2.2.2.1), .int .i64 ((rdD p1 t46).2.2.2.2.1), .int .u8 ((rdD p1 t46).2.2.2.2.2)] h57 (by kernel_rfl) (by kernel_rfl) rfl (by kernel_rfl) (by kernel_rfl) (by kernel_rfl) ?_)
      intro w60 h61 hk62
      refine RegI.done (by kernel_rfl) ?_
      refine RunsI.go 2 [.c 16, .c 17, .c 20, .blk 1, .c 21, .lp 4, .blk 0] (by kernel_rfl) ?_
      refine RunsI.region (by kernel_rfl) ?_
      refine RegI.pure 2 [0, 2, 5, 6, 7, 8, 13, 14] [(0, .func (.yield b33) #[] #[]), (2, .pointer (some ⟨b37, 0, none⟩)), (5, .pointer (some ⟨b56, 0, none⟩)), (6, .slice pA1 p1.length pc1), (7, .int .i64 (p1.length : Int)), (8, .int .i64 t46), (13, .func (.yield b33) #[] #[]), (14, .int .i64 t46)] (by kernel_rfl) ?_
      refine RegI.op (by kernel_rfl) (OpE.loadBox 15 5 25 b37 0 (.agg #[.slice A38 t40.length c39, .int .i64 t41, .int .i64 t42, .slice A43 t45.length c44]) h61 (by kernel_rfl) (by kernel_rfl) rfl (by kernel_rfl) ?_)
      refine RegI.yield 16 b33 6 0 [.int .i64 t46, .agg #[.slice A38 t40.length c39, .int .i64 t41, .int .i64 t42, .slice A43 t45.length c44]] [0, 2, 5, 6, 7, 8] [(0, .func (.yield b33) #[] #[]), (2, .pointer (some ⟨b37, 0, none⟩)), (5, .pointer (some ⟨b56, 0, none⟩)), (6, .slice pA1 p1.length pc1), (7, .int .i64 (p1.length : Int)), (8, .int .i64 t46)] h61 (by kernel_rfl) (by kernel_rfl) (by kernel_rfl) (by kernel_rfl) rfl (by kernel_rfl) (by kernel_rfl) (by kernel_rfl) [.c 7, .bg, .c 10] (by kernel_rfl) [(11, .agg #[.slice A38 t40.length c39, .int .i64 t41, .int .i64 t42, .slice A43 t45.length c44]), (10, .int .i64 t46), (3, .pointer (some ⟨b34, 0, none⟩)), (4, .pointer (some ⟨b35, 0, none⟩)), (9, .func (.func 83) #[] #[.pointer (some ⟨b36, 0, none⟩), .pointer (some ⟨b37, 0, none⟩)])] (by kernel_rfl) ?_
      refine RunsI.only [3, 4, 10, 11] [(3, .pointer (some ⟨b34, 0, none⟩)), (4, .pointer (some ⟨b35, 0, none⟩)), (10, .int .i64 t46), (11, .agg #[.slice A38 t40.length c39, .int .i64 t41, .int .i64 t42, .slice A43 t45.length c44])] (by kernel_rfl) (by kernel_rfl) ?_
      refine RunsI.go 1 [.c 8, .c 9, .bg, .c 10] (by kernel_rfl) ?_
      refine RunsI.region (by kernel_rfl) ?_
      refine RegI.pure 1 [3, 4, 5, 11] [(3, .pointer (some ⟨b34, 0, none⟩)), (4, .pointer (some ⟨b35, 0, none⟩)), (5, .int .i64 t46), (11, .agg #[.slice A38 t40.length c39, .int .i64 t41, .int .i64 t42, .slice A43 t45.length c44])] (by kernel_rfl) ?_
      refine RegI.done (by kernel_rfl) ?_
      refine RunsI.region (by kernel_rfl) ?_
      refine RegI.op (by kernel_rfl) (OpE.box 6 25 [.slice none 0 0, .int .i64 0, .int .i64 0, .slice none 0 0] h61 (by kernel_rfl) (by kernel_rfl) ?_)
      intro w63 b64 h65 hb66 hn67
      refine RegI.op (by kernel_rfl) (OpE.storeBox 12 25 b64 0 (.agg #[.slice A38 t40.length c39, .int .i64 t41, .int .i64 t42, .slice A43 t45.length c44]) [.slice A38 t40.length c39, .int .i64 t41, .int .i64 t42, .slice A43 t45.length c44] h65 (by kernel_rfl) (by kernel_rfl) rfl (by kernel_rfl) (by kernel_rfl) (by kernel_rfl) ?_)
      intro w68 h69 hk70
      refine RegI.done (by kernel_rfl) ?_
      refine RunsI.begin 0 h69 rfl rfl ?_
      intro w71 h72 hk73
      refine RunsI.go 2 [.c 12, .c 13, .blk 1] (by kernel_rfl) ?_
      refine RunsI.any 25 (by kernel_rfl) (by kernel_rfl) (by kernel_rfl) (Kp ([] : List Nat) (World.drew w71)) ?_
      have h75 := h72.drew
      generalize World.drew w71 = w74 at h75 ⊢
      have hS76 := Kp.refl ([] : List Nat) w74
      refine AnyE.pure 0 12 (.int .i64 t46) (by kernel_rfl) hS76 (fun _ => by kernel_rfl) ?_
      refine AnyE.pure 1 13 (.bool (decide (t46 > 0))) (by kernel_rfl) hS76 (fun _ => by kernel_rfl) ?_
      refine AnyE.pure 2 14 (.bool (decide (t46 > 0))) (by kernel_rfl) hS76 (fun _ => by kernel_rfl) ?_
      obtain ⟨j117, hJ118, h⟩ := of_let h
      have hj119 : ∀ (t114 : Bool) (w116 : World), j117 t114 = some x → Holds M0 w0 w116 [box b35 3 [.int .i64 0], rng F13 6 b33 [(3, .pointer (some ⟨b34, 0, none⟩)), (4, .pointer (some ⟨b35, 0, none⟩)), (9, .func (.func 83) #[] #[.pointer (some ⟨b36, 0, none⟩), .pointer (some ⟨b37, 0, none⟩)])] .busy none, box b34 26 [.slice pA1 p1.length pc1], sl (Rp.pair (Rp.int .i64) (Rp.pair (Rp.int .i64) (Rp.pair (Rp.int .i64) (Rp.pair (Rp.int .u16) (Rp.pair (Rp.int .i64) (Rp.int .u8)))))) (.slice pA1 p1.length pc1) p1, box b36 26 [.slice pA1 p1.length pc1], box b37 25 [.slice A38 t40.length c39, .int .i64 t41, .int .i64 t42, .slice A43 t45.length c44], sl (Rp.int .u8) (.slice A38 t40.length c39) t40, sl (Rp.pair (Rp.int .i64) (Rp.int .u8)) (.slice A43 t45.length c44) t45, box b56 54 [.int .i64 ((rdD p1 t46).1), .int .i64 ((rdD p1 t46).2.1), .int .i64 ((rdD p1 t46).2.2.1), .int .u16 ((rdD p1 t46).2.2.2.1), .int .i64 ((rdD p1 t46).2.2.2.2.1), .int .u8 ((rdD p1 t46).2.2.2.2.2)], dfr b47, gl 2 (tab_2.flatMap en_2)] → RunsI (F13.rd b33) [.c 13, .blk 1] [(4, .pointer (some ⟨b35, 0, none⟩)), (5, .int .i64 t46), (36, .bool t114)] w116 (cont (fun e' w' => RegI F83 16 [.c 17, .c 20, .blk 1, .c 21, .lp 4, .blk 0] 4 e' w' R) 16 [(0, .func (.yield b33) #[] #[]), (2, .pointer (some ⟨b37, 0, none⟩)), (5, .pointer (some ⟨b56, 0, none⟩)), (6, .slice pA1 p1.length pc1), (7, .int .i64 (p1.length : Int)), (8, .int .i64 t46)]) := by
        intro t114 w116 h h115
        rw [hJ118] at h
        clear hJ118
        dsimp only at h
        rcases of_cond h with ⟨hc120, h⟩ | ⟨hc120, h⟩
        · skip
          refine RunsI.fix 36 true hc120 (by kernel_rfl) (by kernel_rfl) ?_
          refine RunsI.cond true 14 (by kernel_rfl) ?_
          refine RunsI.go 1 [.c 15, .c 16, .blk 1] (by kernel_rfl) ?_
          refine RunsI.region (by kernel_rfl) ?_
          refine RegI.pure 1 [4, 37] [(4, .pointer (some ⟨b35, 0, none⟩)), (37, .int .i64 t46)] (by kernel_rfl) ?_
          refine RegI.op (by kernel_rfl) (OpE.storeBox 0 3 b35 0 (.int .i64 t46) [.int .i64 t46] h115 (by kernel_rfl) (by kernel_rfl) rfl (by kernel_rfl) (by kernel_rfl) (by kernel_rfl) ?_)
          intro w121 h122 hk123
          refine RegI.done (by kernel_rfl) ?_
          refine RunsI.roundJump 1 16 h122 rfl rfl (by kernel_rfl) rfl ?_
          intro w124 h125 hk126
          refine cont_mk ?_
          refine RegI.pure 1 [0, 2, 5, 6, 7, 8, 17] [(0, .func (.yield b33) #[] #[]), (2, .pointer (some ⟨b37, 0, none⟩)), (5, .pointer (some ⟨b56, 0, none⟩)), (6, .slice pA1 p1.length pc1), (7, .int .i64 (p1.length : Int)), (8, .int .i64 t46), (17, .bool true)] (by kernel_rfl) ?_
          refine RegI.done (by kernel_rfl) ?_
          refine RunsI.cond true 18 (by kernel_rfl) ?_
          refine RunsI.ret (.tuple #[]) (by kernel_rfl) (by kernel_rfl) ?_
          exact hk1 t46 t40 t41 t42 t45 A38 c39 A43 c44 w124 (Option.some.inj h).symm (h125.pick [0, 1, 2, 3, 4, 5, 6, 7, 9, 10] (by decide))
        · skip
          refine RunsI.fix 36 false hc120 (by kernel_rfl) (by kernel_rfl) ?_
          refine RunsI.cond false 17 (by kernel_rfl) ?_
          refine RunsI.go 1 [.blk 1] (by kernel_rfl) ?_
          refine RunsI.go 1 [] (by kernel_rfl) ?_
          refine RunsI.roundEnd 1 h115 rfl rfl ?_
          intro w127 h128 hk129
          refine cont_mk ?_
          refine RegI.pure 1 [0, 2, 5, 6, 7, 8, 17] [(0, .func (.yield b33) #[] #[]), (2, .pointer (some ⟨b37, 0, none⟩)), (5, .pointer (some ⟨b56, 0, none⟩)), (6, .slice pA1 p1.length pc1), (7, .int .i64 (p1.length : Int)), (8, .int .i64 t46), (17, .bool false)] (by kernel_rfl) ?_
          refine RegI.done (by kernel_rfl) ?_
          refine RunsI.cond false 19 (by kernel_rfl) ?_
          refine RunsI.go 1 [.c 20, .blk 1, .c 21, .lp 4, .blk 0] (by kernel_rfl) ?_
          refine RunsI.region (by kernel_rfl) ?_
          refine RegI.op (by kernel_rfl) (OpE.loadBox 18 5 25 b37 0 (.agg #[.slice A38 t40.length c39, .int .i64 t41, .int .i64 t42, .slice A43 t45.length c44]) h128 (by kernel_rfl) (by kernel_rfl) rfl (by kernel_rfl) ?_)
          refine RegI.op (by kernel_rfl) (OpE.loadBox 19 8 54 b56 0 (.agg #[.int .i64 ((rdD p1 t46).1), .int .i64 ((rdD p1 t46).2.1), .int .i64 ((rdD p1 t46).2.2.1), .int .u16 ((rdD p1 t46).2.2.2.1), .int .i64 ((rdD p1 t46).2.2.2.2.1), .int .u8 ((rdD p1 t46).2.2.2.2.2)]) h128 (by kernel_rfl) (by kernel_rfl) rfl (by kernel_rfl) ?_)
          obtain ⟨⟨t134, t138, t139, t140⟩, hg133, h⟩ := of_bind h
          dsimp only at h
          refine RegI.op (by kernel_rfl) (OpE.call 20 (by kernel_rfl) 47 #[.agg #[.slice A38 t40.length c39, .int .i64 t41, .int .i64 t42, .slice A43 t45.length c44], .agg #[.int .i64 ((rdD p1 t46).1), .int .i64 ((rdD p1 t46).2.1), .int .i64 ((rdD p1 t46).2.2.1), .int .u16 ((rdD p1 t46).2.2.2.1), .int .i64 ((rdD p1 t46).2.2.2.2.1), .int .u8 ((rdD p1 t46).2.2.2.2.2)]] (by kernel_rfl) ((history_step_47_ok K _ w127  A38 c39 A43 c44 t40 t41 t42 t45 ((rdD p1 t46).1) ((rdD p1 t46).2.1) ((rdD p1 t46).2.2.1) ((rdD p1 t46).2.2.2.1) ((rdD p1 t46).2.2.2.2.1) ((rdD p1 t46).2.2.2.2.2) h128.old' (h128.get 6 rfl) (h128.get 7 rfl) (h128.get 10 rfl) hg133).mono ?_))
          rintro _ w130 ⟨A135, c136, A141, c142, rfl, hr144⟩
          refine ⟨_, rfl, ?_⟩
          have hb131 := hr144.below
          have h132 := h128.join hr144
          refine RegI.op (by kernel_rfl) (OpE.storeBox 5 25 b37 0 (.agg #[.slice A135 t134.length c136, .int .i64 t138, .int .i64 t139, .slice A141 t140.length c142]) [.slice A135 t134.length c136, .int .i64 t138, .int .i64 t139, .slice A141 t140.length c142] h132 (by kernel_rfl) (by kernel_rfl) rfl (by kernel_rfl) (by kernel_rfl) (by kernel_rfl) ?_)
          intro w145 h146 hk147
          refine RegI.done (by kernel_rfl) ?_
          refine RunsI.go 1 [.c 21, .lp 4, .blk 0] (by kernel_rfl) ?_
          refine RunsI.region (by kernel_rfl) ?_
          refine RegI.pure 2 [0, 2, 6, 7, 8] [(0, .func (.yield b33) #[] #[]), (2, .pointer (some ⟨b37, 0, none⟩)), (6, .slice pA1 p1.length pc1), (7, .int .i64 (p1.length : Int)), (8, .int .i64 (IntKind.wrap .i64 (t46 + 1)))] (by kernel_rfl) ?_
          refine RegI.done (by kernel_rfl) ?_
          refine RunsI.go 1 [.c 4, .lp 4, .blk 0] (by kernel_rfl) ?_
          refine RunsI.only [0, 2, 6, 7, 8] [(0, .func (.yield b33) #[] #[]), (2, .pointer (some ⟨b37, 0, none⟩)), (6, .slice pA1 p1.length pc1), (7, .int .i64 (p1.length : Int)), (8, .int .i64 (IntKind.wrap .i64 (t46 + 1)))] (by kernel_rfl) (by kernel_rfl) ?_
          exact ih t134 t138 t139 t140 (IntKind.wrap .i64 (t46 + 1)) A135 c136 A141 c142 w145 h (h146.pick [1, 2, 3, 0, 4, 5, 11, 12, 9, 10] (by decide))
      clear hJ118
      rcases of_cond h with ⟨hc78, h⟩ | ⟨hc78, h⟩
      · skip
        refine AnyE.fix 14 true hc78 (by kernel_rfl) (by kernel_rfl) ?_
        refine AnyE.loadBox 3 15 1 26 b34 0 (.slice pA1 p1.length pc1) [] h75 rfl (by kernel_rfl) hS76 rfl rfl (by kernel_rfl) (by kernel_rfl) ?_
        refine AnyE.pure 4 16 (.int .i64 t46) (by kernel_rfl) hS76 (fun _ => by kernel_rfl) ?_
        refine AnyE.idxSl 5 17 2 26 t46 h75 (by kernel_rfl) hS76 rfl (by kernel_rfl) (by kernel_rfl) hc49 ?_
        intro b79 o80 cs81 hk82 h83
        obtain ⟨_, _, rfl, rfl, ⟨_, _, rfl, rfl, ⟨_, _, rfl, rfl, ⟨_, _, rfl, rfl, ⟨_, _, rfl, rfl, rfl⟩⟩⟩⟩⟩ := hk82
        refine AnyE.pure 6 18 (.pointer (some ⟨b79, o80, none⟩)) (by kernel_rfl) hS76 (fun _ => by kernel_rfl) ?_
        refine AnyE.loadCel 7 19 13 3 b79 o80 0 (.int .i64 ((rdD p1 t46).1)) [] h83 rfl (by kernel_rfl) hS76 rfl rfl (by kernel_rfl) (by kernel_rfl) ?_
        refine AnyE.loadBox 8 20 1 26 b34 0 (.slice pA1 p1.length pc1) [] h83 rfl (by kernel_rfl) hS76 rfl rfl (by kernel_rfl) (by kernel_rfl) ?_
        refine AnyE.pure 9 21 (.int .i64 t46) (by kernel_rfl) hS76 (fun _ => by kernel_rfl) ?_
        refine AnyE.pure 10 22 (.int .i64 (IntKind.wrap .i64 (t46 - 1))) (by kernel_rfl) hS76 (fun _ => by kernel_rfl) ?_
        obtain ⟨hc84, h⟩ := of_cond0 h
        refine AnyE.idxSl 11 23 2 26 (IntKind.wrap .i64 (t46 - 1)) h83 (by kernel_rfl) hS76 rfl (by kernel_rfl) (by kernel_rfl) hc84 ?_
        intro b85 o86 cs87 hk88 h89
        obtain ⟨_, _, rfl, rfl, ⟨_, _, rfl, rfl, ⟨_, _, rfl, rfl, ⟨_, _, rfl, rfl, ⟨_, _, rfl, rfl, rfl⟩⟩⟩⟩⟩ := hk88
        refine AnyE.pure 12 24 (.pointer (some ⟨b85, o86, none⟩)) (by kernel_rfl) hS76 (fun _ => by kernel_rfl) ?_
        refine AnyE.loadCel 13 25 14 3 b85 o86 0 (.int .i64 ((rdD p1 (IntKind.wrap .i64 (t46 - 1))).1)) [] h89 rfl (by kernel_rfl) hS76 rfl rfl (by kernel_rfl) (by kernel_rfl) ?_
        refine AnyE.pure 14 26 (.bool (decide (((rdD p1 t46).1) ≤ ((rdD p1 (IntKind.wrap .i64 (t46 - 1))).1)))) (by kernel_rfl) hS76 (fun _ => by kernel_rfl) ?_
        refine AnyE.pure 15 27 (.bool (decide (((rdD p1 t46).1) ≤ ((rdD p1 (IntKind.wrap .i64 (t46 - 1))).1)))) (by kernel_rfl) hS76 (fun _ => by kernel_rfl) ?_
        refine AnyE.pure 16 28 (.bool (decide (((rdD p1 t46).1) ≤ ((rdD p1 (IntKind.wrap .i64 (t46 - 1))).1)))) (by kernel_rfl) hS76 (fun _ => by kernel_rfl) ?_
        rcases of_cond h with ⟨hc90, h⟩ | ⟨hc90, h⟩
        · skip
          refine AnyE.fix 28 true hc90 (by kernel_rfl) (by kernel_rfl) ?_
          refine AnyE.no 17 29 (by kernel_rfl) hS76 ?_
          refine AnyE.no 18 30 (by kernel_rfl) hS76 ?_
          refine AnyE.no 19 31 (by kernel_rfl) hS76 ?_
          refine AnyE.no 20 32 (by kernel_rfl) hS76 ?_
          refine AnyE.no 21 33 (by kernel_rfl) hS76 ?_
          refine AnyE.no 22 34 (by kernel_rfl) hS76 ?_
          refine AnyE.no 23 35 (by kernel_rfl) hS76 ?_
          refine AnyE.pure 24 36 (.bool true) (by kernel_rfl) hS76 (fun _ => by kernel_rfl) ?_
          refine AnyE.done (by kernel_rfl) (fun w91 hu92 => ?_)
          have h93 := h89.call hu92
          refine RunsI.only [4, 5, 36] [(4, .pointer (some ⟨b35, 0, none⟩)), (5, .int .i64 t46), (36, .bool true)] (by kernel_rfl) (by kernel_rfl) ?_
          refine RunsI.only [4, 5, 36] [(4, .pointer (some ⟨b35, 0, none⟩)), (5, .int .i64 t46), (36, .bool true)] (by kernel_rfl) (by kernel_rfl) ?_
          exact hj119 true w91 h (h93.pick [3, 0, 1, 2, 4, 5, 6, 7, 11, 8, 9] (by decide))
        · skip
          refine AnyE.fix 28 false hc90 (by kernel_rfl) (by kernel_rfl) ?_
          refine AnyE.loadBox 17 29 12 25 b64 0 (.agg #[.slice A38 t40.length c39, .int .i64 t41, .int .i64 t42, .slice A43 t45.length c44]) [] h89 rfl (by kernel_rfl) hS76 rfl rfl (by kernel_rfl) (by kernel_rfl) ?_
          refine AnyE.loadBox 18 30 1 26 b34 0 (.slice pA1 p1.length pc1) [] h89 rfl (by kernel_rfl) hS76 rfl rfl (by kernel_rfl) (by kernel_rfl) ?_
          refine AnyE.pure 19 31 (.int .i64 t46) (by kernel_rfl) hS76 (fun _ => by kernel_rfl) ?_
          refine AnyE.idxSl 20 32 2 26 t46 h89 (by kernel_rfl) hS76 rfl (by kernel_rfl) (by kernel_rfl) hc49 ?_
          intro b94 o95 cs96 hk97 h98
          obtain ⟨_, _, rfl, rfl, ⟨_, _, rfl, rfl, ⟨_, _, rfl, rfl, ⟨_, _, rfl, rfl, ⟨_, _, rfl, rfl, rfl⟩⟩⟩⟩⟩ := hk97
          refine AnyE.loadCel 21 33 15 54 b94 o95 0 (.agg #[.int .i64 ((rdD p1 t46).1), .int .i64 ((rdD p1 t46).2.1), .int .i64 ((rdD p1 t46).2.2.1), .int .u16 ((rdD p1 t46).2.2.2.1), .int .i64 ((rdD p1 t46).2.2.2.2.1), .int .u8 ((rdD p1 t46).2.2.2.2.2)]) [] h98 rfl (by kernel_rfl) hS76 rfl rfl (by kernel_rfl) (by kernel_rfl) ?_
          obtain ⟨t100, hg99, h⟩ := of_bind h
          refine AnyE.call 22 34 (.bool t100) 45 #[.agg #[.slice A38 t40.length c39, .int .i64 t41, .int .i64 t42, .slice A43 t45.length c44], .agg #[.int .i64 ((rdD p1 t46).1), .int .i64 ((rdD p1 t46).2.1), .int .i64 ((rdD p1 t46).2.2.1), .int .u16 ((rdD p1 t46).2.2.2.1), .int .i64 ((rdD p1 t46).2.2.2.2.1), .int .u8 ((rdD p1 t46).2.2.2.2.2)]] (by kernel_rfl) hS76 (fun _ => by kernel_rfl) (fun w hk => history_follows_45_ok K (fun _ => False) w A38 c39 A43 c44 t40 t41 t42 t45 ((rdD p1 t46).1) ((rdD p1 t46).2.1) ((rdD p1 t46).2.2.1) ((rdD p1 t46).2.2.2.1) ((rdD p1 t46).2.2.2.2.1) ((rdD p1 t46).2.2.2.2.2) (fun _ hf => hf.elim) (Sl.mono (h98.atI [] rfl hk 6 rfl rfl) (fun _ _ hf => hf.elim)) (Sl.mono (h98.atI [] rfl hk 7 rfl rfl) (fun _ _ hf => hf.elim)) hg99) ?_
          refine AnyE.pure 23 35 (.bool (!t100)) (by kernel_rfl) hS76 (fun _ => by kernel_rfl) ?_
          refine AnyE.pure 24 36 (.bool (!t100)) (by kernel_rfl) hS76 (fun _ => by kernel_rfl) ?_
          refine AnyE.done (by kernel_rfl) (fun w101 hu102 => ?_)
          have h103 := h98.call hu102
          refine RunsI.only [4, 5, 36] [(4, .pointer (some ⟨b35, 0, none⟩)), (5, .int .i64 t46), (36, .bool (!t100))] (by kernel_rfl) (by kernel_rfl) ?_
          refine RunsI.only [4, 5, 36] [(4, .pointer (some ⟨b35, 0, none⟩)), (5, .int .i64 t46), (36, .bool (!t100))] (by kernel_rfl) (by kernel_rfl) ?_
          exact hj119 (!t100) w101 h (h103.pick [3, 0, 1, 2, 4, 5, 6, 7, 11, 8, 9] (by decide))
      · skip
        refine AnyE.fix 14 false hc78 (by kernel_rfl) (by kernel_rfl) ?_
        refine AnyE.no 3 15 (by kernel_rfl) hS76 ?_
        refine AnyE.no 4 16 (by kernel_rfl) hS76 ?_
        refine AnyE.no 5 17 (by kernel_rfl) hS76 ?_
        refine AnyE.no 6 18 (by kernel_rfl) hS76 ?_
        refine AnyE.no 7 19 (by kernel_rfl) hS76 ?_
        refine AnyE.no 8 20 (by kernel_rfl) hS76 ?_
        refine AnyE.no 9 21 (by kernel_rfl) hS76 ?_
        refine AnyE.no 10 22 (by kernel_rfl) hS76 ?_
        refine AnyE.no 11 23 (by kernel_rfl) hS76 ?_
        refine AnyE.no 12 24 (by kernel_rfl) hS76 ?_
        refine AnyE.no 13 25 (by kernel_rfl) hS76 ?_
        refine AnyE.no 14 26 (by kernel_rfl) hS76 ?_
        refine AnyE.pure 15 27 (.bool false) (by kernel_rfl) hS76 (fun _ => by kernel_rfl) ?_
        refine AnyE.pure 16 28 (.bool false) (by kernel_rfl) hS76 (fun _ => by kernel_rfl) ?_
        refine AnyE.loadBox 17 29 12 25 b64 0 (.agg #[.slice A38 t40.length c39, .int .i64 t41, .int .i64 t42, .slice A43 t45.length c44]) [] h75 rfl (by kernel_rfl) hS76 rfl rfl (by kernel_rfl) (by kernel_rfl) ?_
        refine AnyE.loadBox 18 30 1 26 b34 0 (.slice pA1 p1.length pc1) [] h75 rfl (by kernel_rfl) hS76 rfl rfl (by kernel_rfl) (by kernel_rfl) ?_
        refine AnyE.pure 19 31 (.int .i64 t46) (by kernel_rfl) hS76 (fun _ => by kernel_rfl) ?_
        refine AnyE.idxSl 20 32 2 26 t46 h75 (by kernel_rfl) hS76 rfl (by kernel_rfl) (by kernel_rfl) hc49 ?_
        intro b104 o105 cs106 hk107 h108
        obtain ⟨_, _, rfl, rfl, ⟨_, _, rfl, rfl, ⟨_, _, rfl, rfl, ⟨_, _, rfl, rfl, ⟨_, _, rfl, rfl, rfl⟩⟩⟩⟩⟩ := hk107
        refine AnyE.loadCel 21 33 13 54 b104 o105 0 (.agg #[.int .i64 ((rdD p1 t46).1), .int .i64 ((rdD p1 t46).2.1), .int .i64 ((rdD p1 t46).2.2.1), .int .u16 ((rdD p1 t46).2.2.2.1), .int .i64 ((rdD p1 t46).2.2.2.2.1), .int .u8 ((rdD p1 t46).2.2.2.2.2)]) [] h108 rfl (by kernel_rfl) hS76 rfl rfl (by kernel_rfl) (by kernel_rfl) ?_
        obtain ⟨t110, hg109, h⟩ := of_bind h
        refine AnyE.call 22 34 (.bool t110) 45 #[.agg #[.slice A38 t40.length c39, .int .i64 t41, .int .i64 t42, .slice A43 t45.length c44], .agg #[.int .i64 ((rdD p1 t46).1), .int .i64 ((rdD p1 t46).2.1), .int .i64 ((rdD p1 t46).2.2.1), .int .u16 ((rdD p1 t46).2.2.2.1), .int .i64 ((rdD p1 t46).2.2.2.2.1), .int .u8 ((rdD p1 t46).2.2.2.2.2)]] (by kernel_rfl) hS76 (fun _ => by kernel_rfl) (fun w hk => history_follows_45_ok K (fun _ => False) w A38 c39 A43 c44 t40 t41 t42 t45 ((rdD p1 t46).1) ((rdD p1 t46).2.1) ((rdD p1 t46).2.2.1) ((rdD p1 t46).2.2.2.1) ((rdD p1 t46).2.2.2.2.1) ((rdD p1 t46).2.2.2.2.2) (fun _ hf => hf.elim) (Sl.mono (h108.atI [] rfl hk 6 rfl rfl) (fun _ _ hf => hf.elim)) (Sl.mono (h108.atI [] rfl hk 7 rfl rfl) (fun _ _ hf => hf.elim)) hg109) ?_
        refine AnyE.pure 23 35 (.bool (!t110)) (by kernel_rfl) hS76 (fun _ => by kernel_rfl) ?_
        refine AnyE.pure 24 36 (.bool (!t110)) (by kernel_rfl) hS76 (fun _ => by kernel_rfl) ?_
        refine AnyE.done (by kernel_rfl) (fun w111 hu112 => ?_)
        have h113 := h108.call hu112
        refine RunsI.only [4, 5, 36] [(4, .pointer (some ⟨b35, 0, none⟩)), (5, .int .i64 t46), (36, .bool (!t110))] (by kernel_rfl) (by kernel_rfl) ?_
        refine RunsI.only [4, 5, 36] [(4, .pointer (some ⟨b35, 0, none⟩)), (5, .int .i64 t46), (36, .bool (!t110))] (by kernel_rfl) (by kernel_rfl) ?_
        exact hj119 (!t110) w111 h (h113.pick [3, 0, 1, 2, 4, 5, 6, 7, 11, 8, 9] (by decide))
    · skip
      refine RunsI.fix 9 false hc48 (by kernel_rfl) (by kernel_rfl) ?_
      refine RunsI.cond false 9 (by kernel_rfl) ?_
      refine RunsI.go 1 [] (by kernel_rfl) ?_
      refine RunsI.only [] [] (by kernel_rfl) (by kernel_rfl) ?_
      exact hk0 t40 t41 t42 t45 A38 c39 A43 c44 w (Option.some.inj h).symm (hH.pick [3, 0, 1, 2, 4, 5, 6, 7, 8, 9] (by decide))
def history_Legal_13.f (K : Nat) (p0_0 : List Int) (p0_1 : Int) (p0_2 : Int) (p0_3 : List (Int × Int)) (p1 : List (Int × Int × Int × Int × Int × Int)) : Option Int := (history_Legal_13.l0 K p0_0 p0_1 p0_2 p0_3 p1 K p0_0 p0_1 p0_2 p0_3 0).bind (fun x165 => Lp.elim x165 (fun yx165 => some yx165.1) (fun yx165 => some (-1)))
set_option maxRecDepth 100000 in
theorem history_Legal_13_ok (K : Nat) (M0 : Nat → Prop) (w0 : World) (pA0_0 : Option Addr) (pc0_0 : Nat) (pA0_3 : Option Addr) (pc0_3 : Nat) (pA1 : Option Addr) (pc1 : Nat) (p0_0 : List Int) (p0_1 : Int) (p0_2 : Int) (p0_3 : List (Int × Int)) (p1 : List (Int × Int × Int × Int × Int × Int)) (ho : ∀ b, M0 b → b < w0.heap.size) (hs0_0 : Sl (Rp.int .u8) w0 M0 (.slice pA0_0 p0_0.length pc0_0) p0_0) (hs0_3 : Sl (Rp.pair (Rp.int .i64) (Rp.int .u8)) w0 M0 (.slice pA0_3 p0_3.length pc0_3) p0_3) (hs1 : Sl (Rp.pair (Rp.int .i64) (Rp.pair (Rp.int .i64) (Rp.pair (Rp.int .i64) (Rp.pair (Rp.int .u16) (Rp.pair (Rp.int .i64) (Rp.int .u8)))))) w0 M0 (.slice pA1 p1.length pc1) p1) (hG2 : (gl 2 (tab_2.flatMap en_2)).ok w0 M0) {r : Int} (h : history_Legal_13.f K p0_0 p0_1 p0_2 p0_3 p1 = some r) :
    Calls Tryd.prog 13 #[.agg #[.slice pA0_0 p0_0.length pc0_0, .int .i64 p0_1, .int .i64 p0_2, .slice pA0_3 p0_3.length pc0_3], .slice pA1 p1.length pc1] w0 (history_Legal_13.post M0 w0 r) := by
  unfold history_Legal_13.f at h
  have h0 : Holds M0 w0 w0 [] := Holds.start ho
  have h00_0 := h0.addSl (Rp.int .u8) (.slice pA0_0 p0_0.length pc0_0) p0_0 (hs0_0.mono (fun _ _ hm => hm.elim id (fun hm => absurd hm (by simp [mines, sl]))))
  have h00_3 := h00_0.addSl (Rp.pair (Rp.int .i64) (Rp.int .u8)) (.slice pA0_3 p0_3.length pc0_3) p0_3 (hs0_3.mono (fun _ _ hm => hm.elim id (fun hm => absurd hm (by simp [mines, sl]))))
  have h01 := h00_3.addSl (Rp.pair (Rp.int .i64) (Rp.pair (Rp.int .i64) (Rp.pair (Rp.int .i64) (Rp.pair (Rp.int .u16) (Rp.pair (Rp.int .i64) (Rp.int .u8)))))) (.slice pA1 p1.length pc1) p1 (hs1.mono (fun _ _ hm => hm.elim id (fun hm => absurd hm (by simp [mines, sl]))))
  have h0g2 := h01.add (gl 2 (tab_2.flatMap en_2)) rfl ⟨hG2.1, fun hm => hG2.2.1 (hm.elim id (fun hm => absurd hm (by simp [mines, sl, gl]))), hG2.2.2⟩
  have h0 : Holds M0 w0 w0 [sl (Rp.int .u8) (.slice pA0_0 p0_0.length pc0_0) p0_0, sl (Rp.pair (Rp.int .i64) (Rp.int .u8)) (.slice pA0_3 p0_3.length pc0_3) p0_3, sl (Rp.pair (Rp.int .i64) (Rp.pair (Rp.int .i64) (Rp.pair (Rp.int .i64) (Rp.pair (Rp.int .u16) (Rp.pair (Rp.int .i64) (Rp.int .u8)))))) (.slice pA1 p1.length pc1) p1, gl 2 (tab_2.flatMap en_2)] := h0g2
  refine calls_of F13 rfl [.agg #[.slice pA0_0 p0_0.length pc0_0, .int .i64 p0_1, .int .i64 p0_2, .slice pA0_3 p0_3.length pc0_3], .slice pA1 p1.length pc1] (by kernel_rfl) ?_
  refine RunsI.go 1 [.c 1, .c 2] (by kernel_rfl) ?_
  refine RunsI.region (by kernel_rfl) ?_
  refine RegI.op (by kernel_rfl) (OpE.box 2 25 [.slice pA0_0 p0_0.length pc0_0, .int .i64 p0_1, .int .i64 p0_2, .slice pA0_3 p0_3.length pc0_3] h0 (by kernel_rfl) (by kernel_rfl) ?_)
  intro w1 b2 h3 hb4 hn5
  refine RegI.op (by kernel_rfl) (OpE.box 3 26 [.slice pA1 p1.length pc1] h3 (by kernel_rfl) (by kernel_rfl) ?_)
  intro w6 b7 h8 hb9 hn10
  refine RegI.op (by kernel_rfl) (OpE.box 4 3 [.int .i64 0] h8 (by kernel_rfl) (by kernel_rfl) ?_)
  intro w11 b12 h13 hb14 hn15
  refine RegI.done (by kernel_rfl) ?_
  refine RunsI.go 2 [.c 4, .c 5, .c 18] (by kernel_rfl) ?_
  refine RunsI.region (by kernel_rfl) ?_
  refine RegI.op (by kernel_rfl) (OpE.loadBox 7 4 25 b2 0 (.agg #[.slice pA0_0 p0_0.length pc0_0, .int .i64 p0_1, .int .i64 p0_2, .slice pA0_3 p0_3.length pc0_3]) h13 (by kernel_rfl) (by kernel_rfl) rfl (by kernel_rfl) ?_)
  refine RegI.op (by kernel_rfl) (OpE.loadBox 8 5 26 b7 0 (.slice pA1 p1.length pc1) h13 (by kernel_rfl) (by kernel_rfl) rfl (by kernel_rfl) ?_)
  refine RegI.enter 9 [3, 4] [(3, .pointer (some ⟨b7, 0, none⟩)), (4, .pointer (some ⟨b12, 0, none⟩))] (by kernel_rfl) (by kernel_rfl) (by kernel_rfl) (by kernel_rfl) F44 44 rfl [.agg #[.slice pA0_0 p0_0.length pc0_0, .int .i64 p0_1, .int .i64 p0_2, .slice pA0_3 p0_3.length pc0_3], .slice pA1 p1.length pc1] (by kernel_rfl) (by kernel_rfl) ?_
  refine RunsI.go 1 [.c 1, .c 2] (by kernel_rfl) ?_
  refine RunsI.region (by kernel_rfl) ?_
  refine RegI.op (by kernel_rfl) (OpE.box 2 25 [.slice pA0_0 p0_0.length pc0_0, .int .i64 p0_1, .int .i64 p0_2, .slice pA0_3 p0_3.length pc0_3] h13 (by kernel_rfl) (by kernel_rfl) ?_)
  intro w16 b17 h18 hb19 hn20
  refine RegI.op (by kernel_rfl) (OpE.box 3 26 [.slice pA1 p1.length pc1] h18 (by kernel_rfl) (by kernel_rfl) ?_)
  intro w21 b22 h23 hb24 hn25
  refine RegI.pure 1 [2, 3] [(2, .pointer (some ⟨b17, 0, none⟩)), (3, .pointer (some ⟨b22, 0, none⟩))] (by kernel_rfl) ?_
  refine RegI.done (by kernel_rfl) ?_
  refine RunsI.go 1 [.c 3, .c 4] (by kernel_rfl) ?_
  refine RunsI.region (by kernel_rfl) ?_
  refine RegI.pure 2 [4] [(4, .func (.func 83) #[] #[.pointer (some ⟨b22, 0, none⟩), .pointer (some ⟨b17, 0, none⟩)])] (by kernel_rfl) ?_
  refine RegI.done (by kernel_rfl) ?_
  refine RunsI.ret (.func (.func 83) #[] #[.pointer (some ⟨b22, 0, none⟩), .pointer (some ⟨b17, 0, none⟩)]) (by kernel_rfl) (by kernel_rfl) ?_
  refine cont_mk ?_
  refine RegI.done (by kernel_rfl) ?_
  refine RunsI.go 1 [.c 6, .blk 0, .c 18] (by kernel_rfl) ?_
  refine RunsI.rangeFunc (G := F83) [3, 4, 9] [(3, .pointer (some ⟨b7, 0, none⟩)), (4, .pointer (some ⟨b12, 0, none⟩)), (9, .func (.func 83) #[] #[.pointer (some ⟨b22, 0, none⟩), .pointer (some ⟨b17, 0, none⟩)])] 83 [.pointer (some ⟨b22, 0, none⟩), .pointer (some ⟨b17, 0, none⟩)] h23 (by kernel_rfl) (by kernel_rfl) (by kernel_rfl) (fun _ _ => by kernel_rfl) rfl rfl (by kernel_rfl) rfl rfl ?_
  intro b26 b27 w28 h29 hb30 hn31 hn32
  refine RunsI.go 1 [.c 1, .c 2] (by kernel_rfl) ?_
  refine RunsI.region (by kernel_rfl) ?_
  refine RegI.op (by kernel_rfl) (OpE.loadBox 6 8 26 b22 0 (.slice pA1 p1.length pc1) h29 (by kernel_rfl) (by kernel_rfl) rfl (by kernel_rfl) ?_)
  refine RegI.pure 2 [0, 2, 6, 7, 8] [(0, .func (.yield b27) #[] #[]), (2, .pointer (some ⟨b17, 0, none⟩)), (6, .slice pA1 p1.length pc1), (7, .int .i64 (p1.length : Int)), (8, .int .i64 0)] (by kernel_rfl) ?_
  refine RegI.done (by kernel_rfl) ?_
  refine RunsI.go 2 [.c 4, .lp 4, .blk 0] (by kernel_rfl) ?_
  obtain ⟨x165, hx166, h⟩ := of_bind h
  refine RunsI.only [0, 2, 6, 7, 8] [(0, .func (.yield b27) #[] #[]), (2, .pointer (some ⟨b17, 0, none⟩)), (6, .slice pA1 p1.length pc1), (7, .int .i64 (p1.length : Int)), (8, .int .i64 0)] (by kernel_rfl) (by kernel_rfl) ?_
  refine history_Legal_13.l0_ok K M0 w0 pA0_0 pc0_0 pA0_3 pc0_3 pA1 pc1 p0_0 p0_1 p0_2 p0_3 p1 b27 b7 b12 b22 b17 b26 _ x165 ?_ ?_ K p0_0 p0_1 p0_2 p0_3 0 pA0_0 pc0_0 pA0_3 pc0_3 w28 hx166 (h29.pick [10, 5, 2, 6, 8, 7, 0, 1, 9, 3] (by decide))
  · intro t169 t170 t171 t174 A167 c168 A172 c173 w176 hq203 h175
    (try rw [hq203] at h)
    dsimp only [Lp.elim] at h
    refine RunsI.ret (.tuple #[]) (by kernel_rfl) (by kernel_rfl) ?_
    refine contR_mk ?_
    refine RunsI.endLoop 1 h175 rfl rfl (by intro hh; cases hh) [.blk 0, .c 18] (by kernel_rfl) ?_
    intro w188 h189 hk190
    refine RunsI.go 2 [.c 19, .c 20] (by kernel_rfl) ?_
    refine RunsI.region (by kernel_rfl) ?_
    refine RegI.op (by kernel_rfl) (OpE.storeBox 0 3 b12 0 (.int .i64 (-1)) [.int .i64 (-1)] h189 (by kernel_rfl) (by kernel_rfl) rfl (by kernel_rfl) (by kernel_rfl) (by kernel_rfl) ?_)
    intro w191 h192 hk193
    refine RegI.done (by kernel_rfl) ?_
    refine RunsI.toRet (by kernel_rfl) ?_
    refine RetI.takeH 8 b26 h192 rfl ?_
    intro w194 h195 hk196
    refine RetI.valW [.cell 4 3] [.int .i64 (-1)] (.int .i64 (-1)) (by kernel_rfl) (ResAt.box 0 3 b12 0 h195 (by kernel_rfl) (by kernel_rfl) rfl (by kernel_rfl) rfl) (by kernel_rfl) ?_
    obtain rfl := Option.some.inj h
    exact ⟨rfl, h195.below⟩
  · intro t177 t180 t181 t182 t185 A178 c179 A183 c184 w187 hq204 h186
    (try rw [hq204] at h)
    dsimp only [Lp.elim] at h
    refine contR_mk ?_
    refine RunsI.endLoop 1 h186 rfl rfl (by intro hh; cases hh) [.c 16, .blk 0, .c 18] (by kernel_rfl) ?_
    intro w197 h198 hk199
    refine RunsI.toRet (by kernel_rfl) ?_
    refine RetI.takeH 8 b26 h198 rfl ?_
    intro w200 h201 hk202
    refine RetI.valW [.cell 4 3] [.int .i64 t177] (.int .i64 t177) (by kernel_rfl) (ResAt.box 0 3 b12 0 h201 (by kernel_rfl) (by kernel_rfl) rfl (by kernel_rfl) rfl) (by kernel_rfl) ?_
    obtain rfl := Option.some.inj h
    exact ⟨rfl, h201.below⟩
end
end Go.Proofs.YtmebkghfjamffaaDoor.His
