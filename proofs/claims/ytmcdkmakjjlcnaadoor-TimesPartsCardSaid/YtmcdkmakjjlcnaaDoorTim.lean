/- Functions of the program as plain Lean functions, each with the proof that the call comes to it; written by wip/eng.py. -/
import Derived.Test.YtmcdkmakjjlcnaaDoorProg
import Derived.Test.YtmcdkmakjjlcnaaDoorEngArr
set_option linter.unusedVariables false
set_option linter.unusedSimpArgs false
set_option maxHeartbeats 4000000
namespace Go.Proofs.YtmcdkmakjjlcnaaDoor.Tim
open Go.RowKit Go.Eng
noncomputable def B8 : Code := (Tryd.f8.body).getD .skip
noncomputable def F8 : Fun Tryd.prog := ⟨8, Tryd.f8, B8, 28, Tryd.func8, by kernel_rfl, by kernel_rfl, [], none⟩
noncomputable def B9 : Code := (Tryd.f9.body).getD .skip
noncomputable def F9 : Fun Tryd.prog := ⟨9, Tryd.f9, B9, 59, Tryd.func9, by kernel_rfl, by kernel_rfl, [], none⟩
noncomputable def B10 : Code := (Tryd.f10.body).getD .skip
noncomputable def F10 : Fun Tryd.prog := ⟨10, Tryd.f10, B10, 86, Tryd.func10, by kernel_rfl, by kernel_rfl, [], none⟩
noncomputable def B11 : Code := (Tryd.f11.body).getD .skip
noncomputable def F11 : Fun Tryd.prog := ⟨11, Tryd.f11, B11, 8, Tryd.func11, by kernel_rfl, by kernel_rfl, [], none⟩
noncomputable def B12 : Code := (Tryd.f12.body).getD .skip
noncomputable def F12 : Fun Tryd.prog := ⟨12, Tryd.f12, B12, 8, Tryd.func12, by kernel_rfl, by kernel_rfl, [], none⟩
noncomputable def B13 : Code := (Tryd.f13.body).getD .skip
noncomputable def F13 : Fun Tryd.prog := ⟨13, Tryd.f13, B13, 25, Tryd.func13, by kernel_rfl, by kernel_rfl, [], none⟩
noncomputable def B14 : Code := (Tryd.f14.body).getD .skip
noncomputable def F14 : Fun Tryd.prog := ⟨14, Tryd.f14, B14, 26, Tryd.func14, by kernel_rfl, by kernel_rfl, [], none⟩
noncomputable def B15 : Code := (Tryd.f15.body).getD .skip
noncomputable def F15 : Fun Tryd.prog := ⟨15, Tryd.f15, B15, 2, Tryd.func15, by kernel_rfl, by kernel_rfl, [], none⟩
noncomputable def B16 : Code := (Tryd.f16.body).getD .skip
noncomputable def F16 : Fun Tryd.prog := ⟨16, Tryd.f16, B16, 16, Tryd.func16, by kernel_rfl, by kernel_rfl, [], none⟩
noncomputable def B17 : Code := (Tryd.f17.body).getD .skip
noncomputable def F17 : Fun Tryd.prog := ⟨17, Tryd.f17, B17, 25, Tryd.func17, by kernel_rfl, by kernel_rfl, [], none⟩
noncomputable def B18 : Code := (Tryd.f18.body).getD .skip
noncomputable def F18 : Fun Tryd.prog := ⟨18, Tryd.f18, B18, 53, Tryd.func18, by kernel_rfl, by kernel_rfl, [], none⟩
noncomputable def B19 : Code := (Tryd.f19.body).getD .skip
noncomputable def F19 : Fun Tryd.prog := ⟨19, Tryd.f19, B19, 63, Tryd.func19, by kernel_rfl, by kernel_rfl, [], none⟩
noncomputable def B20 : Code := (Tryd.f20.body).getD .skip
noncomputable def F20 : Fun Tryd.prog := ⟨20, Tryd.f20, B20, 32, Tryd.func20, by kernel_rfl, by kernel_rfl, [], none⟩
noncomputable def B21 : Code := (Tryd.f21.body).getD .skip
noncomputable def F21 : Fun Tryd.prog := ⟨21, Tryd.f21, B21, 63, Tryd.func21, by kernel_rfl, by kernel_rfl, [], none⟩
noncomputable def B22 : Code := (Tryd.f22.body).getD .skip
noncomputable def F22 : Fun Tryd.prog := ⟨22, Tryd.f22, B22, 23, Tryd.func22, by kernel_rfl, by kernel_rfl, [], none⟩
noncomputable def B23 : Code := (Tryd.f23.body).getD .skip
noncomputable def F23 : Fun Tryd.prog := ⟨23, Tryd.f23, B23, 34, Tryd.func23, by kernel_rfl, by kernel_rfl, [], none⟩
noncomputable def B24 : Code := (Tryd.f24.body).getD .skip
noncomputable def F24 : Fun Tryd.prog := ⟨24, Tryd.f24, B24, 46, Tryd.func24, by kernel_rfl, by kernel_rfl, [], none⟩
noncomputable def B25 : Code := (Tryd.f25.body).getD .skip
noncomputable def F25 : Fun Tryd.prog := ⟨25, Tryd.f25, B25, 49, Tryd.func25, by kernel_rfl, by kernel_rfl, [], none⟩
noncomputable def B26 : Code := (Tryd.f26.body).getD .skip
noncomputable def F26 : Fun Tryd.prog := ⟨26, Tryd.f26, B26, 44, Tryd.func26, by kernel_rfl, by kernel_rfl, [], none⟩
noncomputable def B27 : Code := (Tryd.f27.body).getD .skip
noncomputable def F27 : Fun Tryd.prog := ⟨27, Tryd.f27, B27, 22, Tryd.func27, by kernel_rfl, by kernel_rfl, [], none⟩
noncomputable def B28 : Code := (Tryd.f28.body).getD .skip
noncomputable def F28 : Fun Tryd.prog := ⟨28, Tryd.f28, B28, 129, Tryd.func28, by kernel_rfl, by kernel_rfl, [], none⟩
noncomputable def B29 : Code := (Tryd.f29.body).getD .skip
noncomputable def F29 : Fun Tryd.prog := ⟨29, Tryd.f29, B29, 24, Tryd.func29, by kernel_rfl, by kernel_rfl, [], none⟩
noncomputable def B30 : Code := (Tryd.f30.body).getD .skip
noncomputable def F30 : Fun Tryd.prog := ⟨30, Tryd.f30, B30, 4, Tryd.func30, by kernel_rfl, by kernel_rfl, [], none⟩
noncomputable def B31 : Code := (Tryd.f31.body).getD .skip
noncomputable def F31 : Fun Tryd.prog := ⟨31, Tryd.f31, B31, 13, Tryd.func31, by kernel_rfl, by kernel_rfl, [], none⟩
noncomputable def B32 : Code := (Tryd.f32.body).getD .skip
noncomputable def F32 : Fun Tryd.prog := ⟨32, Tryd.f32, B32, 31, Tryd.func32, by kernel_rfl, by kernel_rfl, [], none⟩
noncomputable def B33 : Code := (Tryd.f33.body).getD .skip
noncomputable def F33 : Fun Tryd.prog := ⟨33, Tryd.f33, B33, 45, Tryd.func33, by kernel_rfl, by kernel_rfl, [], none⟩
noncomputable def B34 : Code := (Tryd.f34.body).getD .skip
noncomputable def F34 : Fun Tryd.prog := ⟨34, Tryd.f34, B34, 22, Tryd.func34, by kernel_rfl, by kernel_rfl, [], none⟩
noncomputable def B35 : Code := (Tryd.f35.body).getD .skip
noncomputable def F35 : Fun Tryd.prog := ⟨35, Tryd.f35, B35, 98, Tryd.func35, by kernel_rfl, by kernel_rfl, [], none⟩
noncomputable def B36 : Code := (Tryd.f36.body).getD .skip
noncomputable def F36 : Fun Tryd.prog := ⟨36, Tryd.f36, B36, 37, Tryd.func36, by kernel_rfl, by kernel_rfl, [], none⟩
noncomputable def B37 : Code := (Tryd.f37.body).getD .skip
noncomputable def F37 : Fun Tryd.prog := ⟨37, Tryd.f37, B37, 57, Tryd.func37, by kernel_rfl, by kernel_rfl, [], none⟩
noncomputable def B38 : Code := (Tryd.f38.body).getD .skip
noncomputable def F38 : Fun Tryd.prog := ⟨38, Tryd.f38, B38, 4, Tryd.func38, by kernel_rfl, by kernel_rfl, [], none⟩
noncomputable def B39 : Code := (Tryd.f39.body).getD .skip
noncomputable def F39 : Fun Tryd.prog := ⟨39, Tryd.f39, B39, 24, Tryd.func39, by kernel_rfl, by kernel_rfl, [], none⟩
noncomputable def B40 : Code := (Tryd.f40.body).getD .skip
noncomputable def F40 : Fun Tryd.prog := ⟨40, Tryd.f40, B40, 31, Tryd.func40, by kernel_rfl, by kernel_rfl, [], none⟩
noncomputable def B41 : Code := (Tryd.f41.body).getD .skip
noncomputable def F41 : Fun Tryd.prog := ⟨41, Tryd.f41, B41, 20, Tryd.func41, by kernel_rfl, by kernel_rfl, [], none⟩
noncomputable def B42 : Code := (Tryd.f42.body).getD .skip
noncomputable def F42 : Fun Tryd.prog := ⟨42, Tryd.f42, B42, 44, Tryd.func42, by kernel_rfl, by kernel_rfl, [], none⟩
noncomputable def B43 : Code := (Tryd.f43.body).getD .skip
noncomputable def F43 : Fun Tryd.prog := ⟨43, Tryd.f43, B43, 13, Tryd.func43, by kernel_rfl, by kernel_rfl, [], none⟩
noncomputable def B44 : Code := (Tryd.f44.body).getD .skip
noncomputable def F44 : Fun Tryd.prog := ⟨44, Tryd.f44, B44, 11, Tryd.func44, by kernel_rfl, by kernel_rfl, [], none⟩
noncomputable def B45 : Code := (Tryd.f45.body).getD .skip
noncomputable def F45 : Fun Tryd.prog := ⟨45, Tryd.f45, B45, 63, Tryd.func45, by kernel_rfl, by kernel_rfl, [], none⟩
def tab_0 : List Int := [4, 10, 7, 6, 4, 4, 7, 4, 4, 11, 7, 6, 4, 4, 7, 4, 8, 10, 7, 6, 4, 4, 7, 4, 12, 11, 7, 6, 4, 4, 7, 4, 7, 10, 16, 6, 4, 4, 7, 4, 7, 11, 16, 6, 4, 4, 7, 4, 7, 10, 13, 6, 11, 11, 10, 4, 7, 11, 13, 6, 4, 4, 7, 4, 4, 4, 4, 4, 4, 4, 7, 4, 4, 4, 4, 4, 4, 4, 7, 4, 4, 4, 4, 4, 4, 4, 7, 4, 4, 4, 4, 4, 4, 4, 7, 4, 4, 4, 4, 4, 4, 4, 7, 4, 4, 4, 4, 4, 4, 4, 7, 4, 7, 7, 7, 7, 7, 7, 4, 7, 4, 4, 4, 4, 4, 4, 7, 4, 4, 4, 4, 4, 4, 4, 7, 4, 4, 4, 4, 4, 4, 4, 7, 4, 4, 4, 4, 4, 4, 4, 7, 4, 4, 4, 4, 4, 4, 4, 7, 4, 4, 4, 4, 4, 4, 4, 7, 4, 4, 4, 4, 4, 4, 4, 7, 4, 4, 4, 4, 4, 4, 4, 7, 4, 4, 4, 4, 4, 4, 4, 7, 4, 5, 10, 10, 10, 10, 11, 7, 11, 5, 10, 10, 4, 10, 17, 7, 11, 5, 10, 10, 11, 10, 11, 7, 11, 5, 4, 10, 11, 10, 4, 7, 11, 5, 10, 10, 19, 10, 11, 7, 11, 5, 4, 10, 4, 10, 4, 7, 11, 5, 10, 10, 4, 10, 11, 7, 11, 5, 6, 10, 4, 10, 4, 7, 11]
def en_0 : Int → List Value := fun x => [.int .i64 x]
def tab_1 : List Int := [12, 12, 15, 20, 8, 14, 8, 8]
def en_1 : Int → List Value := fun x => [.int .i64 x]

/-! ### charabanc/decode.Fields (function 29) -/
section
def decode_Fields_29.post (M0 : Nat → Prop) (w0 : World) (r : Int × Int × Int × Int × Int) : Ending → World → Prop := fun e w => e = .returned (.tuple #[.int .i64 r.1, .int .i64 r.2.1, .int .i64 r.2.2.1, .int .i64 r.2.2.2.1, .int .i64 r.2.2.2.2]) ∧ Below w0.heap.size w0 w
def decode_Fields_29.f (K : Nat) (p0 : Int) : Option (Int × Int × Int × Int × Int) := some ((IntKind.wrap .i64 (Int.fdiv p0 (2 ^ 6))), (IntKind.wrap .i64 (band .u8 (Int.fdiv p0 (2 ^ 3)) 7)), (IntKind.wrap .i64 (band .u8 p0 7)), (Int.fdiv (IntKind.wrap .i64 (band .u8 (Int.fdiv p0 (2 ^ 3)) 7)) (2 ^ 1)), (band .i64 (IntKind.wrap .i64 (band .u8 (Int.fdiv p0 (2 ^ 3)) 7)) 1))
set_option maxRecDepth 100000 in
theorem decode_Fields_29_ok (K : Nat) (M0 : Nat → Prop) (w0 : World) (p0 : Int) (ho : ∀ b, M0 b → b < w0.heap.size) {r : Int × Int × Int × Int × Int} (h : decode_Fields_29.f K p0 = some r) :
    Calls Tryd.prog 29 #[.int .u8 p0] w0 (decode_Fields_29.post M0 w0 r) := by
  unfold decode_Fields_29.f at h
  have h0 : Holds M0 w0 w0 [] := Holds.start ho
  have h0 : Holds M0 w0 w0 [] := h0
  refine calls_of F29 rfl [.int .u8 p0] (by kernel_rfl) ?_
  refine RunsI.go 1 [.c 1, .c 2] (by kernel_rfl) ?_
  refine RunsI.region (by kernel_rfl) ?_
  refine RegI.pure 5 [0] [(0, .int .u8 p0)] (by kernel_rfl) ?_
  refine RegI.done (by kernel_rfl) ?_
  refine RunsI.go 1 [.c 3, .c 4] (by kernel_rfl) ?_
  refine RunsI.region (by kernel_rfl) ?_
  refine RegI.pure 13 [2, 3, 4] [(2, .int .i64 (IntKind.wrap .i64 (Int.fdiv p0 (2 ^ 6)))), (3, .int .i64 (IntKind.wrap .i64 (band .u8 (Int.fdiv p0 (2 ^ 3)) 7))), (4, .int .i64 (IntKind.wrap .i64 (band .u8 p0 7)))] (by kernel_rfl) ?_
  refine RegI.done (by kernel_rfl) ?_
  refine RunsI.go 1 [.c 5, .c 6] (by kernel_rfl) ?_
  refine RunsI.region (by kernel_rfl) ?_
  refine RegI.pure 12 [2, 3, 4, 5, 6] [(2, .int .i64 (IntKind.wrap .i64 (Int.fdiv p0 (2 ^ 6)))), (3, .int .i64 (IntKind.wrap .i64 (band .u8 (Int.fdiv p0 (2 ^ 3)) 7))), (4, .int .i64 (IntKind.wrap .i64 (band .u8 p0 7))), (5, .int .i64 (Int.fdiv (IntKind.wrap .i64 (band .u8 (Int.fdiv p0 (2 ^ 3)) 7)) (2 ^ 1))), (6, .int .i64 (band .i64 (IntKind.wrap .i64 (band .u8 (Int.fdiv p0 (2 ^ 3)) 7)) 1))] (by kernel_rfl) ?_
  refine RegI.done (by kernel_rfl) ?_
  refine RunsI.ret (.tuple #[.int .i64 (IntKind.wrap .i64 (Int.fdiv p0 (2 ^ 6))), .int .i64 (IntKind.wrap .i64 (band .u8 (Int.fdiv p0 (2 ^ 3)) 7)), .int .i64 (IntKind.wrap .i64 (band .u8 p0 7)), .int .i64 (Int.fdiv (IntKind.wrap .i64 (band .u8 (Int.fdiv p0 (2 ^ 3)) 7)) (2 ^ 1)), .int .i64 (band .i64 (IntKind.wrap .i64 (band .u8 (Int.fdiv p0 (2 ^ 3)) 7)) 1)]) (by kernel_rfl) (by kernel_rfl) ?_
  obtain rfl := Option.some.inj h
  exact ⟨rfl, h0.below⟩
end

/-! ### charabanc/times.more (function 18) -/
section
def times_more_18.post (M0 : Nat → Prop) (w0 : World) (r : Int) : Ending → World → Prop := fun e w => e = .returned (.int .i64 r) ∧ Below w0.heap.size w0 w
def times_more_18.f (K : Nat) (p0 : Int) : Option Int := (decode_Fields_29.f K p0).bind fun yt5 => Let (fun (t11 : Bool) => cond t11 (some (IntKind.wrap .i64 ((IntKind.wrap .i64 ((IntKind.wrap .i64 (0 + 1)) + 1)) + 5))) (Let (fun (t19 : Bool) => cond t19 (some (IntKind.wrap .i64 ((IntKind.wrap .i64 (0 + 1)) + 5))) (Let (fun (t29 : Bool) => cond t29 (some (IntKind.wrap .i64 (0 + 5))) (some 0)) (fun j32 => cond (yt5.1 == 0) (cond (yt5.2.2.1 == 0) (cond (yt5.2.1 == 2) (j32 true) (j32 (decide (yt5.2.1 > 3)))) (j32 false)) (j32 false)))) (fun j22 => cond (yt5.1 == 3) (j22 (yt5.2.2.1 == 0)) (j22 false)))) (fun j14 => cond (yt5.1 == 3) (j14 (yt5.2.2.1 == 4)) (j14 false))
set_option maxRecDepth 100000 in
theorem times_more_18_ok (K : Nat) (M0 : Nat → Prop) (w0 : World) (p0 : Int) (ho : ∀ b, M0 b → b < w0.heap.size) {r : Int} (h : times_more_18.f K p0 = some r) :
    Calls Tryd.prog 18 #[.int .u8 p0] w0 (times_more_18.post M0 w0 r) := by
  unfold times_more_18.f at h
  have h0 : Holds M0 w0 w0 [] := Holds.start ho
  have h0 : Holds M0 w0 w0 [] := h0
  refine calls_of F18 rfl [.int .u8 p0] (by kernel_rfl) ?_
  refine RunsI.go 1 [.c 1, .c 2] (by kernel_rfl) ?_
  refine RunsI.region (by kernel_rfl) ?_
  refine RegI.pure 1 [0] [(0, .int .u8 p0)] (by kernel_rfl) ?_
  refine RegI.done (by kernel_rfl) ?_
  refine RunsI.go 1 [.c 3, .c 4] (by kernel_rfl) ?_
  refine RunsI.region (by kernel_rfl) ?_
  refine RegI.pure 1 [10] [(10, .int .u8 p0)] (by kernel_rfl) ?_
  obtain ⟨⟨t5, t6, t7, t8, t9⟩, hg4, h⟩ := of_bind h
  dsimp only at h
  refine RegI.op (by kernel_rfl) (OpE.call 11 (by kernel_rfl) 29 #[.int .u8 p0] (by kernel_rfl) ((decode_Fields_29_ok K _ w0  p0 h0.old' hg4).mono ?_))
  rintro _ w1 ⟨rfl, hb2⟩
  refine ⟨_, rfl, ?_⟩
  have h3 := h0.call hb2
  refine RegI.pure 11 [3, 4, 5] [(3, .int .i64 t5), (4, .int .i64 t6), (5, .int .i64 t7)] (by kernel_rfl) ?_
  refine RegI.done (by kernel_rfl) ?_
  refine RunsI.go 1 [.c 5, .c 6] (by kernel_rfl) ?_
  refine RunsI.region (by kernel_rfl) ?_
  refine RegI.pure 1 [3, 4, 5, 8] [(3, .int .i64 t5), (4, .int .i64 t6), (5, .int .i64 t7), (8, .int .i64 0)] (by kernel_rfl) ?_
  refine RegI.done (by kernel_rfl) ?_
  refine RunsI.go 11 [.c 17, .c 18, .c 21, .c 32, .blk 1, .c 33, .blk 2, .c 34, .blk 3, .c 35, .blk 0, .c 38] (by kernel_rfl) ?_
  refine RunsI.region (by kernel_rfl) ?_
  refine RegI.pure 3 [3, 4, 5, 8, 20] [(3, .int .i64 t5), (4, .int .i64 t6), (5, .int .i64 t7), (8, .int .i64 0), (20, .bool (t5 == 3))] (by kernel_rfl) ?_
  obtain ⟨j14, hJ15, h⟩ := of_let h
  have hj16 : ∀ (t11 : Bool) (w13 : World), j14 t11 = some r → Holds M0 w0 w13 [] → RegI F18 17 [.c 18, .c 21, .c 32, .blk 1, .c 33, .blk 2, .c 34, .blk 3, .c 35, .blk 0, .c 38] 7 [(3, .int .i64 t5), (4, .int .i64 t6), (5, .int .i64 t7), (8, .int .i64 0), (17, .bool t11)] w13 (times_more_18.post M0 w0 r) := by
    intro t11 w13 h h12
    rw [hJ15] at h
    clear hJ15
    dsimp only at h
    refine RegI.done (by kernel_rfl) ?_
    rcases of_cond h with ⟨hc17, h⟩ | ⟨hc17, h⟩
    · skip
      refine RunsI.fix 17 true hc17 (by kernel_rfl) (by kernel_rfl) ?_
      refine RunsI.cond true 19 (by kernel_rfl) ?_
      refine RunsI.go 1 [.c 33, .blk 2, .c 34, .blk 3, .c 35, .blk 0, .c 38] (by kernel_rfl) ?_
      refine RunsI.region (by kernel_rfl) ?_
      refine RegI.pure 3 [8] [(8, .int .i64 (IntKind.wrap .i64 (0 + 1)))] (by kernel_rfl) ?_
      refine RegI.done (by kernel_rfl) ?_
      refine RunsI.go 1 [.c 34, .blk 3, .c 35, .blk 0, .c 38] (by kernel_rfl) ?_
      refine RunsI.region (by kernel_rfl) ?_
      refine RegI.pure 3 [8] [(8, .int .i64 (IntKind.wrap .i64 ((IntKind.wrap .i64 (0 + 1)) + 1)))] (by kernel_rfl) ?_
      refine RegI.done (by kernel_rfl) ?_
      refine RunsI.go 2 [.c 36, .c 37, .blk 0, .c 38] (by kernel_rfl) ?_
      refine RunsI.region (by kernel_rfl) ?_
      refine RegI.pure 3 [8] [(8, .int .i64 (IntKind.wrap .i64 ((IntKind.wrap .i64 ((IntKind.wrap .i64 (0 + 1)) + 1)) + 5)))] (by kernel_rfl) ?_
      refine RegI.done (by kernel_rfl) ?_
      refine RunsI.go 2 [.c 39, .c 40] (by kernel_rfl) ?_
      refine RunsI.region (by kernel_rfl) ?_
      refine RegI.pure 2 [2] [(2, .int .i64 (IntKind.wrap .i64 ((IntKind.wrap .i64 ((IntKind.wrap .i64 (0 + 1)) + 1)) + 5)))] (by kernel_rfl) ?_
      refine RegI.done (by kernel_rfl) ?_
      refine RunsI.ret (.int .i64 (IntKind.wrap .i64 ((IntKind.wrap .i64 ((IntKind.wrap .i64 (0 + 1)) + 1)) + 5))) (by kernel_rfl) (by kernel_rfl) ?_
      obtain rfl := Option.some.inj h
      exact ⟨rfl, h12.below⟩
    · skip
      refine RunsI.fix 17 false hc17 (by kernel_rfl) (by kernel_rfl) ?_
      refine RunsI.cond false 20 (by kernel_rfl) ?_
      refine RunsI.go 1 [.c 21, .c 32, .blk 1, .c 33, .blk 2, .c 34, .blk 3, .c 35, .blk 0, .c 38] (by kernel_rfl) ?_
      refine RunsI.go 2 [.c 23, .c 24, .c 27, .c 32, .blk 1, .c 33, .blk 2, .c 34, .blk 3, .c 35, .blk 0, .c 38] (by kernel_rfl) ?_
      refine RunsI.region (by kernel_rfl) ?_
      refine RegI.pure 3 [3, 4, 5, 8, 27] [(3, .int .i64 t5), (4, .int .i64 t6), (5, .int .i64 t7), (8, .int .i64 0), (27, .bool (t5 == 3))] (by kernel_rfl) ?_
      obtain ⟨j22, hJ23, h⟩ := of_let h
      have hj24 : ∀ (t19 : Bool) (w21 : World), j22 t19 = some r → Holds M0 w0 w21 [] → RegI F18 23 [.c 24, .c 27, .c 32, .blk 1, .c 33, .blk 2, .c 34, .blk 3, .c 35, .blk 0, .c 38] 7 [(3, .int .i64 t5), (4, .int .i64 t6), (5, .int .i64 t7), (8, .int .i64 0), (24, .bool t19)] w21 (times_more_18.post M0 w0 r) := by
        intro t19 w21 h h20
        rw [hJ23] at h
        clear hJ23
        dsimp only at h
        refine RegI.done (by kernel_rfl) ?_
        rcases of_cond h with ⟨hc25, h⟩ | ⟨hc25, h⟩
        · skip
          refine RunsI.fix 24 true hc25 (by kernel_rfl) (by kernel_rfl) ?_
          refine RunsI.cond true 25 (by kernel_rfl) ?_
          refine RunsI.go 1 [.c 34, .blk 3, .c 35, .blk 0, .c 38] (by kernel_rfl) ?_
          refine RunsI.region (by kernel_rfl) ?_
          refine RegI.pure 3 [8] [(8, .int .i64 (IntKind.wrap .i64 (0 + 1)))] (by kernel_rfl) ?_
          refine RegI.done (by kernel_rfl) ?_
          refine RunsI.go 2 [.c 36, .c 37, .blk 0, .c 38] (by kernel_rfl) ?_
          refine RunsI.region (by kernel_rfl) ?_
          refine RegI.pure 3 [8] [(8, .int .i64 (IntKind.wrap .i64 ((IntKind.wrap .i64 (0 + 1)) + 5)))] (by kernel_rfl) ?_
          refine RegI.done (by kernel_rfl) ?_
          refine RunsI.go 2 [.c 39, .c 40] (by kernel_rfl) ?_
          refine RunsI.region (by kernel_rfl) ?_
          refine RegI.pure 2 [2] [(2, .int .i64 (IntKind.wrap .i64 ((IntKind.wrap .i64 (0 + 1)) + 5)))] (by kernel_rfl) ?_
          refine RegI.done (by kernel_rfl) ?_
          refine RunsI.ret (.int .i64 (IntKind.wrap .i64 ((IntKind.wrap .i64 (0 + 1)) + 5))) (by kernel_rfl) (by kernel_rfl) ?_
          obtain rfl := Option.some.inj h
          exact ⟨rfl, h20.below⟩
        · skip
          refine RunsI.fix 24 false hc25 (by kernel_rfl) (by kernel_rfl) ?_
          refine RunsI.cond false 26 (by kernel_rfl) ?_
          refine RunsI.go 1 [.c 27, .c 32, .blk 1, .c 33, .blk 2, .c 34, .blk 3, .c 35, .blk 0, .c 38] (by kernel_rfl) ?_
          refine RunsI.go 1 [.c 28, .c 29, .c 32, .blk 1, .c 33, .blk 2, .c 34, .blk 3, .c 35, .blk 0, .c 38] (by kernel_rfl) ?_
          refine RunsI.region (by kernel_rfl) ?_
          refine RegI.pure 3 [4, 5, 8, 34] [(4, .int .i64 t6), (5, .int .i64 t7), (8, .int .i64 0), (34, .bool (t5 == 0))] (by kernel_rfl) ?_
          obtain ⟨j32, hJ33, h⟩ := of_let h
          have hj34 : ∀ (t29 : Bool) (w31 : World), j32 t29 = some r → Holds M0 w0 w31 [] → RegI F18 28 [.c 29, .c 32, .blk 1, .c 33, .blk 2, .c 34, .blk 3, .c 35, .blk 0, .c 38] 15 [(8, .int .i64 0), (31, .bool t29)] w31 (times_more_18.post M0 w0 r) := by
            intro t29 w31 h h30
            rw [hJ33] at h
            clear hJ33
            dsimp only at h
            refine RegI.done (by kernel_rfl) ?_
            rcases of_cond h with ⟨hc35, h⟩ | ⟨hc35, h⟩
            · skip
              refine RunsI.fix 31 true hc35 (by kernel_rfl) (by kernel_rfl) ?_
              refine RunsI.cond true 30 (by kernel_rfl) ?_
              refine RunsI.go 2 [.c 36, .c 37, .blk 0, .c 38] (by kernel_rfl) ?_
              refine RunsI.region (by kernel_rfl) ?_
              refine RegI.pure 3 [8] [(8, .int .i64 (IntKind.wrap .i64 (0 + 5)))] (by kernel_rfl) ?_
              refine RegI.done (by kernel_rfl) ?_
              refine RunsI.go 2 [.c 39, .c 40] (by kernel_rfl) ?_
              refine RunsI.region (by kernel_rfl) ?_
              refine RegI.pure 2 [2] [(2, .int .i64 (IntKind.wrap .i64 (0 + 5)))] (by kernel_rfl) ?_
              refine RegI.done (by kernel_rfl) ?_
              refine RunsI.ret (.int .i64 (IntKind.wrap .i64 (0 + 5))) (by kernel_rfl) (by kernel_rfl) ?_
              obtain rfl := Option.some.inj h
              exact ⟨rfl, h30.below⟩
            · skip
              refine RunsI.fix 31 false hc35 (by kernel_rfl) (by kernel_rfl) ?_
              refine RunsI.cond false 31 (by kernel_rfl) ?_
              refine RunsI.go 1 [.c 32, .blk 1, .c 33, .blk 2, .c 34, .blk 3, .c 35, .blk 0, .c 38] (by kernel_rfl) ?_
              refine RunsI.go 2 [.c 39, .c 40] (by kernel_rfl) ?_
              refine RunsI.region (by kernel_rfl) ?_
              refine RegI.pure 2 [2] [(2, .int .i64 0)] (by kernel_rfl) ?_
              refine RegI.done (by kernel_rfl) ?_
              refine RunsI.ret (.int .i64 0) (by kernel_rfl) (by kernel_rfl) ?_
              obtain rfl := Option.some.inj h
              exact ⟨rfl, h30.below⟩
          clear hJ33
          rcases of_cond h with ⟨hc26, h⟩ | ⟨hc26, h⟩
          · skip
            refine RegI.fix 34 true hc26 (by kernel_rfl) (by kernel_rfl) ?_
            refine RegI.pure 4 [4, 8, 38] [(4, .int .i64 t6), (8, .int .i64 0), (38, .bool (t7 == 0))] (by kernel_rfl) ?_
            rcases of_cond h with ⟨hc27, h⟩ | ⟨hc27, h⟩
            · skip
              refine RegI.fix 38 true hc27 (by kernel_rfl) (by kernel_rfl) ?_
              refine RegI.pure 3 [4, 8, 38, 41] [(4, .int .i64 t6), (8, .int .i64 0), (38, .bool true), (41, .bool (t6 == 2))] (by kernel_rfl) ?_
              rcases of_cond h with ⟨hc28, h⟩ | ⟨hc28, h⟩
              · skip
                refine RegI.fix 41 true hc28 (by kernel_rfl) (by kernel_rfl) ?_
                refine RegI.pure 5 [8, 31] [(8, .int .i64 0), (31, .bool true)] (by kernel_rfl) ?_
                refine RegI.only [8, 31] [(8, .int .i64 0), (31, .bool true)] (by kernel_rfl) (by kernel_rfl) ?_
                exact hj34 true w21 h (h20.pick [] (by decide))
              · skip
                refine RegI.fix 41 false hc28 (by kernel_rfl) (by kernel_rfl) ?_
                refine RegI.pure 5 [8, 31] [(8, .int .i64 0), (31, .bool (decide (t6 > 3)))] (by kernel_rfl) ?_
                refine RegI.only [8, 31] [(8, .int .i64 0), (31, .bool (decide (t6 > 3)))] (by kernel_rfl) (by kernel_rfl) ?_
                exact hj34 (decide (t6 > 3)) w21 h (h20.pick [] (by decide))
            · skip
              refine RegI.fix 38 false hc27 (by kernel_rfl) (by kernel_rfl) ?_
              refine RegI.pure 8 [8, 31] [(8, .int .i64 0), (31, .bool false)] (by kernel_rfl) ?_
              refine RegI.only [8, 31] [(8, .int .i64 0), (31, .bool false)] (by kernel_rfl) (by kernel_rfl) ?_
              exact hj34 false w21 h (h20.pick [] (by decide))
          · skip
            refine RegI.fix 34 false hc26 (by kernel_rfl) (by kernel_rfl) ?_
            refine RegI.pure 12 [8, 31] [(8, .int .i64 0), (31, .bool false)] (by kernel_rfl) ?_
            refine RegI.only [8, 31] [(8, .int .i64 0), (31, .bool false)] (by kernel_rfl) (by kernel_rfl) ?_
            exact hj34 false w21 h (h20.pick [] (by decide))
      clear hJ23
      rcases of_cond h with ⟨hc18, h⟩ | ⟨hc18, h⟩
      · skip
        refine RegI.fix 27 true hc18 (by kernel_rfl) (by kernel_rfl) ?_
        refine RegI.pure 4 [3, 4, 5, 8, 24] [(3, .int .i64 t5), (4, .int .i64 t6), (5, .int .i64 t7), (8, .int .i64 0), (24, .bool (t7 == 0))] (by kernel_rfl) ?_
        refine RegI.only [3, 4, 5, 8, 24] [(3, .int .i64 t5), (4, .int .i64 t6), (5, .int .i64 t7), (8, .int .i64 0), (24, .bool (t7 == 0))] (by kernel_rfl) (by kernel_rfl) ?_
        exact hj24 (t7 == 0) w13 h (h12.pick [] (by decide))
      · skip
        refine RegI.fix 27 false hc18 (by kernel_rfl) (by kernel_rfl) ?_
        refine RegI.pure 4 [3, 4, 5, 8, 24] [(3, .int .i64 t5), (4, .int .i64 t6), (5, .int .i64 t7), (8, .int .i64 0), (24, .bool false)] (by kernel_rfl) ?_
        refine RegI.only [3, 4, 5, 8, 24] [(3, .int .i64 t5), (4, .int .i64 t6), (5, .int .i64 t7), (8, .int .i64 0), (24, .bool false)] (by kernel_rfl) (by kernel_rfl) ?_
        exact hj24 false w13 h (h12.pick [] (by decide))
  clear hJ15
  rcases of_cond h with ⟨hc10, h⟩ | ⟨hc10, h⟩
  · skip
    refine RegI.fix 20 true hc10 (by kernel_rfl) (by kernel_rfl) ?_
    refine RegI.pure 4 [3, 4, 5, 8, 17] [(3, .int .i64 t5), (4, .int .i64 t6), (5, .int .i64 t7), (8, .int .i64 0), (17, .bool (t7 == 4))] (by kernel_rfl) ?_
    refine RegI.only [3, 4, 5, 8, 17] [(3, .int .i64 t5), (4, .int .i64 t6), (5, .int .i64 t7), (8, .int .i64 0), (17, .bool (t7 == 4))] (by kernel_rfl) (by kernel_rfl) ?_
    exact hj16 (t7 == 4) w1 h (h3.pick [] (by decide))
  · skip
    refine RegI.fix 20 false hc10 (by kernel_rfl) (by kernel_rfl) ?_
    refine RegI.pure 4 [3, 4, 5, 8, 17] [(3, .int .i64 t5), (4, .int .i64 t6), (5, .int .i64 t7), (8, .int .i64 0), (17, .bool false)] (by kernel_rfl) ?_
    refine RegI.only [3, 4, 5, 8, 17] [(3, .int .i64 t5), (4, .int .i64 t6), (5, .int .i64 t7), (8, .int .i64 0), (17, .bool false)] (by kernel_rfl) (by kernel_rfl) ?_
    exact hj16 false w1 h (h3.pick [] (by decide))
end

/-! ### charabanc/decode.Near (function 19) -/
section
def decode_Near_19.post (M0 : Nat → Prop) (w0 : World) (r : Bool) : Ending → World → Prop := fun e w => e = .returned (.bool r) ∧ Below w0.heap.size w0 w
def decode_Near_19.f (K : Nat) (p0 : Int) (p1 : Int) : Option Bool := Let (fun (t2 : Bool) => cond t2 (some true) (Let (fun (t10 : Bool) => cond t10 (some false) ((decode_Fields_29.f K p1).bind fun yt21 => cond (yt21.1 == 0) (cond (yt21.2.1 == 6) (cond (decide (yt21.2.2.1 ≥ 4)) (cond (decide (yt21.2.2.1 ≤ 6)) (some true) (cond (yt21.1 == 1) (cond ((yt21.2.1 == 6) != (yt21.2.2.1 == 6)) (some true) (cond (yt21.1 == 2) (some (yt21.2.2.1 == 6)) (some false))) (cond (yt21.1 == 2) (some (yt21.2.2.1 == 6)) (some false)))) (cond (yt21.1 == 1) (cond ((yt21.2.1 == 6) != (yt21.2.2.1 == 6)) (some true) (cond (yt21.1 == 2) (some (yt21.2.2.1 == 6)) (some false))) (cond (yt21.1 == 2) (some (yt21.2.2.1 == 6)) (some false)))) (cond (yt21.1 == 1) (cond ((yt21.2.1 == 6) != (yt21.2.2.1 == 6)) (some true) (cond (yt21.1 == 2) (some (yt21.2.2.1 == 6)) (some false))) (cond (yt21.1 == 2) (some (yt21.2.2.1 == 6)) (some false)))) (cond (yt21.1 == 1) (cond ((yt21.2.1 == 6) != (yt21.2.2.1 == 6)) (some true) (cond (yt21.1 == 2) (some (yt21.2.2.1 == 6)) (some false))) (cond (yt21.1 == 2) (some (yt21.2.2.1 == 6)) (some false))))) (fun j13 => cond (p0 != 3) (j13 (p0 != 4)) (j13 false)))) (fun j5 => cond (p0 == 5) (j5 true) (j5 (p0 == 6)))
set_option maxRecDepth 100000 in
theorem decode_Near_19_ok (K : Nat) (M0 : Nat → Prop) (w0 : World) (p0 : Int) (p1 : Int) (ho : ∀ b, M0 b → b < w0.heap.size) {r : Bool} (h : decode_Near_19.f K p0 p1 = some r) :
    Calls Tryd.prog 19 #[.int .i64 p0, .int .u8 p1] w0 (decode_Near_19.post M0 w0 r) := by
  unfold decode_Near_19.f at h
  have h0 : Holds M0 w0 w0 [] := Holds.start ho
  have h0 : Holds M0 w0 w0 [] := h0
  refine calls_of F19 rfl [.int .i64 p0, .int .u8 p1] (by kernel_rfl) ?_
  refine RunsI.go 1 [.c 1, .c 2] (by kernel_rfl) ?_
  refine RunsI.region (by kernel_rfl) ?_
  refine RegI.pure 1 [0, 1] [(0, .int .i64 p0), (1, .int .u8 p1)] (by kernel_rfl) ?_
  refine RegI.done (by kernel_rfl) ?_
  refine RunsI.go 2 [.c 4, .c 5, .c 10] (by kernel_rfl) ?_
  refine RunsI.region (by kernel_rfl) ?_
  refine RegI.pure 3 [0, 1, 12] [(0, .int .i64 p0), (1, .int .u8 p1), (12, .bool (p0 == 5))] (by kernel_rfl) ?_
  obtain ⟨j5, hJ6, h⟩ := of_let h
  have hj7 : ∀ (t2 : Bool) (w4 : World), j5 t2 = some r → Holds M0 w0 w4 [] → RegI F19 4 [.c 5, .c 10] 6 [(0, .int .i64 p0), (1, .int .u8 p1), (15, .bool t2)] w4 (decode_Near_19.post M0 w0 r) := by
    intro t2 w4 h h3
    rw [hJ6] at h
    clear hJ6
    dsimp only at h
    refine RegI.done (by kernel_rfl) ?_
    rcases of_cond h with ⟨hc8, h⟩ | ⟨hc8, h⟩
    · skip
      refine RunsI.fix 15 true hc8 (by kernel_rfl) (by kernel_rfl) ?_
      refine RunsI.cond true 6 (by kernel_rfl) ?_
      refine RunsI.go 1 [.c 7, .c 8, .c 10] (by kernel_rfl) ?_
      refine RunsI.region (by kernel_rfl) ?_
      refine RegI.pure 1 [4] [(4, .bool true)] (by kernel_rfl) ?_
      refine RegI.done (by kernel_rfl) ?_
      refine RunsI.ret (.bool true) (by kernel_rfl) (by kernel_rfl) ?_
      obtain rfl := Option.some.inj h
      exact ⟨rfl, h3.below⟩
    · skip
      refine RunsI.fix 15 false hc8 (by kernel_rfl) (by kernel_rfl) ?_
      refine RunsI.cond false 9 (by kernel_rfl) ?_
      refine RunsI.go 1 [.c 10] (by kernel_rfl) ?_
      refine RunsI.go 2 [.c 12, .c 13, .c 18] (by kernel_rfl) ?_
      refine RunsI.region (by kernel_rfl) ?_
      refine RegI.pure 3 [0, 1, 18] [(0, .int .i64 p0), (1, .int .u8 p1), (18, .bool (p0 != 3))] (by kernel_rfl) ?_
      obtain ⟨j13, hJ14, h⟩ := of_let h
      have hj15 : ∀ (t10 : Bool) (w12 : World), j13 t10 = some r → Holds M0 w0 w12 [] → RegI F19 12 [.c 13, .c 18] 6 [(1, .int .u8 p1), (21, .bool t10)] w12 (decode_Near_19.post M0 w0 r) := by
        intro t10 w12 h h11
        rw [hJ14] at h
        clear hJ14
        dsimp only at h
        refine RegI.done (by kernel_rfl) ?_
        rcases of_cond h with ⟨hc16, h⟩ | ⟨hc16, h⟩
        · skip
          refine RunsI.fix 21 true hc16 (by kernel_rfl) (by kernel_rfl) ?_
          refine RunsI.cond true 14 (by kernel_rfl) ?_
          refine RunsI.go 1 [.c 15, .c 16, .c 18] (by kernel_rfl) ?_
          refine RunsI.region (by kernel_rfl) ?_
          refine RegI.pure 1 [4] [(4, .bool false)] (by kernel_rfl) ?_
          refine RegI.done (by kernel_rfl) ?_
          refine RunsI.ret (.bool false) (by kernel_rfl) (by kernel_rfl) ?_
          obtain rfl := Option.some.inj h
          exact ⟨rfl, h11.below⟩
        · skip
          refine RunsI.fix 21 false hc16 (by kernel_rfl) (by kernel_rfl) ?_
          refine RunsI.cond false 17 (by kernel_rfl) ?_
          refine RunsI.go 1 [.c 18] (by kernel_rfl) ?_
          refine RunsI.go 1 [.c 19, .c 20] (by kernel_rfl) ?_
          refine RunsI.region (by kernel_rfl) ?_
          refine RegI.pure 1 [23] [(23, .int .u8 p1)] (by kernel_rfl) ?_
          obtain ⟨⟨t21, t22, t23, t24, t25⟩, hg20, h⟩ := of_bind h
          dsimp only at h
          refine RegI.op (by kernel_rfl) (OpE.call 24 (by kernel_rfl) 29 #[.int .u8 p1] (by kernel_rfl) ((decode_Fields_29_ok K _ w12  p1 h11.old' hg20).mono ?_))
          rintro _ w17 ⟨rfl, hb18⟩
          refine ⟨_, rfl, ?_⟩
          have h19 := h11.call hb18
          refine RegI.pure 11 [5, 6, 7] [(5, .int .i64 t21), (6, .int .i64 t22), (7, .int .i64 t23)] (by kernel_rfl) ?_
          refine RegI.done (by kernel_rfl) ?_
          refine RunsI.go 1 [.c 21, .c 22] (by kernel_rfl) ?_
          refine RunsI.region (by kernel_rfl) ?_
          refine RegI.pure 3 [5, 6, 7, 32] [(5, .int .i64 t21), (6, .int .i64 t22), (7, .int .i64 t23), (32, .bool (t21 == 0))] (by kernel_rfl) ?_
          rcases of_cond h with ⟨hc26, h⟩ | ⟨hc26, h⟩
          · skip
            refine RegI.fix 32 true hc26 (by kernel_rfl) (by kernel_rfl) ?_
            refine RegI.pure 4 [5, 6, 7, 36] [(5, .int .i64 t21), (6, .int .i64 t22), (7, .int .i64 t23), (36, .bool (t22 == 6))] (by kernel_rfl) ?_
            rcases of_cond h with ⟨hc27, h⟩ | ⟨hc27, h⟩
            · skip
              refine RegI.fix 36 true hc27 (by kernel_rfl) (by kernel_rfl) ?_
              refine RegI.pure 4 [5, 6, 7, 40] [(5, .int .i64 t21), (6, .int .i64 t22), (7, .int .i64 t23), (40, .bool (decide (t23 ≥ 4)))] (by kernel_rfl) ?_
              rcases of_cond h with ⟨hc28, h⟩ | ⟨hc28, h⟩
              · skip
                refine RegI.fix 40 true hc28 (by kernel_rfl) (by kernel_rfl) ?_
                refine RegI.pure 4 [5, 6, 7, 44] [(5, .int .i64 t21), (6, .int .i64 t22), (7, .int .i64 t23), (44, .bool (decide (t23 ≤ 6)))] (by kernel_rfl) ?_
                rcases of_cond h with ⟨hc29, h⟩ | ⟨hc29, h⟩
                · skip
                  refine RegI.fix 44 true hc29 (by kernel_rfl) (by kernel_rfl) ?_
                  refine RegI.pure 19 [4] [(4, .bool true)] (by kernel_rfl) ?_
                  refine RegI.done (by kernel_rfl) ?_
                  refine RunsI.ret (.bool true) (by kernel_rfl) (by kernel_rfl) ?_
                  obtain rfl := Option.some.inj h
                  exact ⟨rfl, h19.below⟩
                · skip
                  refine RegI.fix 44 false hc29 (by kernel_rfl) (by kernel_rfl) ?_
                  refine RegI.pure 3 [5, 6, 7, 44, 47] [(5, .int .i64 t21), (6, .int .i64 t22), (7, .int .i64 t23), (44, .bool false), (47, .bool (t21 == 1))] (by kernel_rfl) ?_
                  rcases of_cond h with ⟨hc30, h⟩ | ⟨hc30, h⟩
                  · skip
                    refine RegI.fix 47 true hc30 (by kernel_rfl) (by kernel_rfl) ?_
                    refine RegI.pure 8 [5, 7, 55] [(5, .int .i64 t21), (7, .int .i64 t23), (55, .bool ((t22 == 6) != (t23 == 6)))] (by kernel_rfl) ?_
                    rcases of_cond h with ⟨hc31, h⟩ | ⟨hc31, h⟩
                    · skip
                      refine RegI.fix 55 true hc31 (by kernel_rfl) (by kernel_rfl) ?_
                      refine RegI.pure 8 [4] [(4, .bool true)] (by kernel_rfl) ?_
                      refine RegI.done (by kernel_rfl) ?_
                      refine RunsI.ret (.bool true) (by kernel_rfl) (by kernel_rfl) ?_
                      obtain rfl := Option.some.inj h
                      exact ⟨rfl, h19.below⟩
                    · skip
                      refine RegI.fix 55 false hc31 (by kernel_rfl) (by kernel_rfl) ?_
                      refine RegI.pure 3 [7, 55, 58] [(7, .int .i64 t23), (55, .bool false), (58, .bool (t21 == 2))] (by kernel_rfl) ?_
                      rcases of_cond h with ⟨hc32, h⟩ | ⟨hc32, h⟩
                      · skip
                        refine RegI.fix 58 true hc32 (by kernel_rfl) (by kernel_rfl) ?_
                        refine RegI.pure 5 [4] [(4, .bool (t23 == 6))] (by kernel_rfl) ?_
                        refine RegI.done (by kernel_rfl) ?_
                        refine RunsI.ret (.bool (t23 == 6)) (by kernel_rfl) (by kernel_rfl) ?_
                        obtain rfl := Option.some.inj h
                        exact ⟨rfl, h19.below⟩
                      · skip
                        refine RegI.fix 58 false hc32 (by kernel_rfl) (by kernel_rfl) ?_
                        refine RegI.pure 5 [4] [(4, .bool false)] (by kernel_rfl) ?_
                        refine RegI.done (by kernel_rfl) ?_
                        refine RunsI.ret (.bool false) (by kernel_rfl) (by kernel_rfl) ?_
                        obtain rfl := Option.some.inj h
                        exact ⟨rfl, h19.below⟩
                  · skip
                    refine RegI.fix 47 false hc30 (by kernel_rfl) (by kernel_rfl) ?_
                    refine RegI.pure 11 [7, 55, 58] [(7, .int .i64 t23), (55, .bool false), (58, .bool (t21 == 2))] (by kernel_rfl) ?_
                    rcases of_cond h with ⟨hc33, h⟩ | ⟨hc33, h⟩
                    · skip
                      refine RegI.fix 58 true hc33 (by kernel_rfl) (by kernel_rfl) ?_
                      refine RegI.pure 5 [4] [(4, .bool (t23 == 6))] (by kernel_rfl) ?_
                      refine RegI.done (by kernel_rfl) ?_
                      refine RunsI.ret (.bool (t23 == 6)) (by kernel_rfl) (by kernel_rfl) ?_
                      obtain rfl := Option.some.inj h
                      exact ⟨rfl, h19.below⟩
                    · skip
                      refine RegI.fix 58 false hc33 (by kernel_rfl) (by kernel_rfl) ?_
                      refine RegI.pure 5 [4] [(4, .bool false)] (by kernel_rfl) ?_
                      refine RegI.done (by kernel_rfl) ?_
                      refine RunsI.ret (.bool false) (by kernel_rfl) (by kernel_rfl) ?_
                      obtain rfl := Option.some.inj h
                      exact ⟨rfl, h19.below⟩
              · skip
                refine RegI.fix 40 false hc28 (by kernel_rfl) (by kernel_rfl) ?_
                refine RegI.pure 7 [5, 6, 7, 44, 47] [(5, .int .i64 t21), (6, .int .i64 t22), (7, .int .i64 t23), (44, .bool false), (47, .bool (t21 == 1))] (by kernel_rfl) ?_
                rcases of_cond h with ⟨hc34, h⟩ | ⟨hc34, h⟩
                · skip
                  refine RegI.fix 47 true hc34 (by kernel_rfl) (by kernel_rfl) ?_
                  refine RegI.pure 8 [5, 7, 55] [(5, .int .i64 t21), (7, .int .i64 t23), (55, .bool ((t22 == 6) != (t23 == 6)))] (by kernel_rfl) ?_
                  rcases of_cond h with ⟨hc35, h⟩ | ⟨hc35, h⟩
                  · skip
                    refine RegI.fix 55 true hc35 (by kernel_rfl) (by kernel_rfl) ?_
                    refine RegI.pure 8 [4] [(4, .bool true)] (by kernel_rfl) ?_
                    refine RegI.done (by kernel_rfl) ?_
                    refine RunsI.ret (.bool true) (by kernel_rfl) (by kernel_rfl) ?_
                    obtain rfl := Option.some.inj h
                    exact ⟨rfl, h19.below⟩
                  · skip
                    refine RegI.fix 55 false hc35 (by kernel_rfl) (by kernel_rfl) ?_
                    refine RegI.pure 3 [7, 55, 58] [(7, .int .i64 t23), (55, .bool false), (58, .bool (t21 == 2))] (by kernel_rfl) ?_
                    rcases of_cond h with ⟨hc36, h⟩ | ⟨hc36, h⟩
                    · skip
                      refine RegI.fix 58 true hc36 (by kernel_rfl) (by kernel_rfl) ?_
                      refine RegI.pure 5 [4] [(4, .bool (t23 == 6))] (by kernel_rfl) ?_
                      refine RegI.done (by kernel_rfl) ?_
                      refine RunsI.ret (.bool (t23 == 6)) (by kernel_rfl) (by kernel_rfl) ?_
                      obtain rfl := Option.some.inj h
                      exact ⟨rfl, h19.below⟩
                    · skip
                      refine RegI.fix 58 false hc36 (by kernel_rfl) (by kernel_rfl) ?_
                      refine RegI.pure 5 [4] [(4, .bool false)] (by kernel_rfl) ?_
                      refine RegI.done (by kernel_rfl) ?_
                      refine RunsI.ret (.bool false) (by kernel_rfl) (by kernel_rfl) ?_
                      obtain rfl := Option.some.inj h
                      exact ⟨rfl, h19.below⟩
                · skip
                  refine RegI.fix 47 false hc34 (by kernel_rfl) (by kernel_rfl) ?_
                  refine RegI.pure 11 [7, 55, 58] [(7, .int .i64 t23), (55, .bool false), (58, .bool (t21 == 2))] (by kernel_rfl) ?_
                  rcases of_cond h with ⟨hc37, h⟩ | ⟨hc37, h⟩
                  · skip
                    refine RegI.fix 58 true hc37 (by kernel_rfl) (by kernel_rfl) ?_
                    refine RegI.pure 5 [4] [(4, .bool (t23 == 6))] (by kernel_rfl) ?_
                    refine RegI.done (by kernel_rfl) ?_
                    refine RunsI.ret (.bool (t23 == 6)) (by kernel_rfl) (by kernel_rfl) ?_
                    obtain rfl := Option.some.inj h
                    exact ⟨rfl, h19.below⟩
                  · skip
                    refine RegI.fix 58 false hc37 (by kernel_rfl) (by kernel_rfl) ?_
                    refine RegI.pure 5 [4] [(4, .bool false)] (by kernel_rfl) ?_
                    refine RegI.done (by kernel_rfl) ?_
                    refine RunsI.ret (.bool false) (by kernel_rfl) (by kernel_rfl) ?_
                    obtain rfl := Option.some.inj h
                    exact ⟨rfl, h19.below⟩
            · skip
              refine RegI.fix 36 false hc27 (by kernel_rfl) (by kernel_rfl) ?_
              refine RegI.pure 11 [5, 6, 7, 44, 47] [(5, .int .i64 t21), (6, .int .i64 t22), (7, .int .i64 t23), (44, .bool false), (47, .bool (t21 == 1))] (by kernel_rfl) ?_
              rcases of_cond h with ⟨hc38, h⟩ | ⟨hc38, h⟩
              · skip
                refine RegI.fix 47 true hc38 (by kernel_rfl) (by kernel_rfl) ?_
                refine RegI.pure 8 [5, 7, 55] [(5, .int .i64 t21), (7, .int .i64 t23), (55, .bool ((t22 == 6) != (t23 == 6)))] (by kernel_rfl) ?_
                rcases of_cond h with ⟨hc39, h⟩ | ⟨hc39, h⟩
                · skip
                  refine RegI.fix 55 true hc39 (by kernel_rfl) (by kernel_rfl) ?_
                  refine RegI.pure 8 [4] [(4, .bool true)] (by kernel_rfl) ?_
                  refine RegI.done (by kernel_rfl) ?_
                  refine RunsI.ret (.bool true) (by kernel_rfl) (by kernel_rfl) ?_
                  obtain rfl := Option.some.inj h
                  exact ⟨rfl, h19.below⟩
                · skip
                  refine RegI.fix 55 false hc39 (by kernel_rfl) (by kernel_rfl) ?_
                  refine RegI.pure 3 [7, 55, 58] [(7, .int .i64 t23), (55, .bool false), (58, .bool (t21 == 2))] (by kernel_rfl) ?_
                  rcases of_cond h with ⟨hc40, h⟩ | ⟨hc40, h⟩
                  · skip
                    refine RegI.fix 58 true hc40 (by kernel_rfl) (by kernel_rfl) ?_
                    refine RegI.pure 5 [4] [(4, .bool (t23 == 6))] (by kernel_rfl) ?_
                    refine RegI.done (by kernel_rfl) ?_
                    refine RunsI.ret (.bool (t23 == 6)) (by kernel_rfl) (by kernel_rfl) ?_
                    obtain rfl := Option.some.inj h
                    exact ⟨rfl, h19.below⟩
                  · skip
                    refine RegI.fix 58 false hc40 (by kernel_rfl) (by kernel_rfl) ?_
                    refine RegI.pure 5 [4] [(4, .bool false)] (by kernel_rfl) ?_
                    refine RegI.done (by kernel_rfl) ?_
                    refine RunsI.ret (.bool false) (by kernel_rfl) (by kernel_rfl) ?_
                    obtain rfl := Option.some.inj h
                    exact ⟨rfl, h19.below⟩
              · skip
                refine RegI.fix 47 false hc38 (by kernel_rfl) (by kernel_rfl) ?_
                refine RegI.pure 11 [7, 55, 58] [(7, .int .i64 t23), (55, .bool false), (58, .bool (t21 == 2))] (by kernel_rfl) ?_
                rcases of_cond h with ⟨hc41, h⟩ | ⟨hc41, h⟩
                · skip
                  refine RegI.fix 58 true hc41 (by kernel_rfl) (by kernel_rfl) ?_
                  refine RegI.pure 5 [4] [(4, .bool (t23 == 6))] (by kernel_rfl) ?_
                  refine RegI.done (by kernel_rfl) ?_
                  refine RunsI.ret (.bool (t23 == 6)) (by kernel_rfl) (by kernel_rfl) ?_
                  obtain rfl := Option.some.inj h
                  exact ⟨rfl, h19.below⟩
                · skip
                  refine RegI.fix 58 false hc41 (by kernel_rfl) (by kernel_rfl) ?_
                  refine RegI.pure 5 [4] [(4, .bool false)] (by kernel_rfl) ?_
                  refine RegI.done (by kernel_rfl) ?_
                  refine RunsI.ret (.bool false) (by kernel_rfl) (by kernel_rfl) ?_
                  obtain rfl := Option.some.inj h
                  exact ⟨rfl, h19.below⟩
          · skip
            refine RegI.fix 32 false hc26 (by kernel_rfl) (by kernel_rfl) ?_
            refine RegI.pure 15 [5, 6, 7, 44, 47] [(5, .int .i64 t21), (6, .int .i64 t22), (7, .int .i64 t23), (44, .bool false), (47, .bool (t21 == 1))] (by kernel_rfl) ?_
            rcases of_cond h with ⟨hc42, h⟩ | ⟨hc42, h⟩
            · skip
              refine RegI.fix 47 true hc42 (by kernel_rfl) (by kernel_rfl) ?_
              refine RegI.pure 8 [5, 7, 55] [(5, .int .i64 t21), (7, .int .i64 t23), (55, .bool ((t22 == 6) != (t23 == 6)))] (by kernel_rfl) ?_
              rcases of_cond h with ⟨hc43, h⟩ | ⟨hc43, h⟩
              · skip
                refine RegI.fix 55 true hc43 (by kernel_rfl) (by kernel_rfl) ?_
                refine RegI.pure 8 [4] [(4, .bool true)] (by kernel_rfl) ?_
                refine RegI.done (by kernel_rfl) ?_
                refine RunsI.ret (.bool true) (by kernel_rfl) (by kernel_rfl) ?_
                obtain rfl := Option.some.inj h
                exact ⟨rfl, h19.below⟩
              · skip
                refine RegI.fix 55 false hc43 (by kernel_rfl) (by kernel_rfl) ?_
                refine RegI.pure 3 [7, 55, 58] [(7, .int .i64 t23), (55, .bool false), (58, .bool (t21 == 2))] (by kernel_rfl) ?_
                rcases of_cond h with ⟨hc44, h⟩ | ⟨hc44, h⟩
                · skip
                  refine RegI.fix 58 true hc44 (by kernel_rfl) (by kernel_rfl) ?_
                  refine RegI.pure 5 [4] [(4, .bool (t23 == 6))] (by kernel_rfl) ?_
                  refine RegI.done (by kernel_rfl) ?_
                  refine RunsI.ret (.bool (t23 == 6)) (by kernel_rfl) (by kernel_rfl) ?_
                  obtain rfl := Option.some.inj h
                  exact ⟨rfl, h19.below⟩
                · skip
                  refine RegI.fix 58 false hc44 (by kernel_rfl) (by kernel_rfl) ?_
                  refine RegI.pure 5 [4] [(4, .bool false)] (by kernel_rfl) ?_
                  refine RegI.done (by kernel_rfl) ?_
                  refine RunsI.ret (.bool false) (by kernel_rfl) (by kernel_rfl) ?_
                  obtain rfl := Option.some.inj h
                  exact ⟨rfl, h19.below⟩
            · skip
              refine RegI.fix 47 false hc42 (by kernel_rfl) (by kernel_rfl) ?_
              refine RegI.pure 11 [7, 55, 58] [(7, .int .i64 t23), (55, .bool false), (58, .bool (t21 == 2))] (by kernel_rfl) ?_
              rcases of_cond h with ⟨hc45, h⟩ | ⟨hc45, h⟩
              · skip
                refine RegI.fix 58 true hc45 (by kernel_rfl) (by kernel_rfl) ?_
                refine RegI.pure 5 [4] [(4, .bool (t23 == 6))] (by kernel_rfl) ?_
                refine RegI.done (by kernel_rfl) ?_
                refine RunsI.ret (.bool (t23 == 6)) (by kernel_rfl) (by kernel_rfl) ?_
                obtain rfl := Option.some.inj h
                exact ⟨rfl, h19.below⟩
              · skip
                refine RegI.fix 58 false hc45 (by kernel_rfl) (by kernel_rfl) ?_
                refine RegI.pure 5 [4] [(4, .bool false)] (by kernel_rfl) ?_
                refine RegI.done (by kernel_rfl) ?_
                refine RunsI.ret (.bool false) (by kernel_rfl) (by kernel_rfl) ?_
                obtain rfl := Option.some.inj h
                exact ⟨rfl, h19.below⟩
      clear hJ14
      rcases of_cond h with ⟨hc9, h⟩ | ⟨hc9, h⟩
      · skip
        refine RegI.fix 18 true hc9 (by kernel_rfl) (by kernel_rfl) ?_
        refine RegI.pure 3 [1, 21] [(1, .int .u8 p1), (21, .bool (p0 != 4))] (by kernel_rfl) ?_
        refine RegI.only [1, 21] [(1, .int .u8 p1), (21, .bool (p0 != 4))] (by kernel_rfl) (by kernel_rfl) ?_
        exact hj15 (p0 != 4) w4 h (h3.pick [] (by decide))
      · skip
        refine RegI.fix 18 false hc9 (by kernel_rfl) (by kernel_rfl) ?_
        refine RegI.pure 3 [1, 21] [(1, .int .u8 p1), (21, .bool false)] (by kernel_rfl) ?_
        refine RegI.only [1, 21] [(1, .int .u8 p1), (21, .bool false)] (by kernel_rfl) (by kernel_rfl) ?_
        exact hj15 false w4 h (h3.pick [] (by decide))
  clear hJ6
  rcases of_cond h with ⟨hc1, h⟩ | ⟨hc1, h⟩
  · skip
    refine RegI.fix 12 true hc1 (by kernel_rfl) (by kernel_rfl) ?_
    refine RegI.pure 3 [0, 1, 15] [(0, .int .i64 p0), (1, .int .u8 p1), (15, .bool true)] (by kernel_rfl) ?_
    refine RegI.only [0, 1, 15] [(0, .int .i64 p0), (1, .int .u8 p1), (15, .bool true)] (by kernel_rfl) (by kernel_rfl) ?_
    exact hj7 true w0 h (h0.pick [] (by decide))
  · skip
    refine RegI.fix 12 false hc1 (by kernel_rfl) (by kernel_rfl) ?_
    refine RegI.pure 3 [0, 1, 15] [(0, .int .i64 p0), (1, .int .u8 p1), (15, .bool (p0 == 6))] (by kernel_rfl) ?_
    refine RegI.only [0, 1, 15] [(0, .int .i64 p0), (1, .int .u8 p1), (15, .bool (p0 == 6))] (by kernel_rfl) (by kernel_rfl) ?_
    exact hj7 (p0 == 6) w0 h (h0.pick [] (by decide))
end

/-! ### charabanc/times.bit (function 20) -/
section
def times_bit_20.post (M0 : Nat → Prop) (w0 : World) (r : Int) : Ending → World → Prop := fun e w => e = .returned (.int .i64 r) ∧ Below w0.heap.size w0 w
def times_bit_20.f (K : Nat) (p0 : Int) (p1 : Int) : Option Int := (decode_Fields_29.f K p1).bind fun yt5 => Let (fun (t11 : Bool) => Let (fun (t19 : Int) => cond (p0 != 1) (some (IntKind.wrap .i64 (t19 + 8))) (some t19)) (fun j22 => cond t11 (cond (yt5.1 == 1) (j22 12) (j22 15)) (j22 8))) (fun j14 => cond (yt5.2.2.1 == 6) (j14 true) (j14 (p0 != 1)))
set_option maxRecDepth 100000 in
theorem times_bit_20_ok (K : Nat) (M0 : Nat → Prop) (w0 : World) (p0 : Int) (p1 : Int) (ho : ∀ b, M0 b → b < w0.heap.size) {r : Int} (h : times_bit_20.f K p0 p1 = some r) :
    Calls Tryd.prog 20 #[.int .i64 p0, .int .u8 p1] w0 (times_bit_20.post M0 w0 r) := by
  unfold times_bit_20.f at h
  have h0 : Holds M0 w0 w0 [] := Holds.start ho
  have h0 : Holds M0 w0 w0 [] := h0
  refine calls_of F20 rfl [.int .i64 p0, .int .u8 p1] (by kernel_rfl) ?_
  refine RunsI.go 1 [.c 1, .c 2] (by kernel_rfl) ?_
  refine RunsI.region (by kernel_rfl) ?_
  refine RegI.pure 1 [0, 1] [(0, .int .i64 p0), (1, .int .u8 p1)] (by kernel_rfl) ?_
  refine RegI.done (by kernel_rfl) ?_
  refine RunsI.go 1 [.c 3, .c 4] (by kernel_rfl) ?_
  refine RunsI.region (by kernel_rfl) ?_
  refine RegI.pure 1 [0, 12] [(0, .int .i64 p0), (12, .int .u8 p1)] (by kernel_rfl) ?_
  obtain ⟨⟨t5, t6, t7, t8, t9⟩, hg4, h⟩ := of_bind h
  dsimp only at h
  refine RegI.op (by kernel_rfl) (OpE.call 13 (by kernel_rfl) 29 #[.int .u8 p1] (by kernel_rfl) ((decode_Fields_29_ok K _ w0  p1 h0.old' hg4).mono ?_))
  rintro _ w1 ⟨rfl, hb2⟩
  refine ⟨_, rfl, ?_⟩
  have h3 := h0.call hb2
  refine RegI.pure 11 [0, 5, 7] [(0, .int .i64 p0), (5, .int .i64 t5), (7, .int .i64 t7)] (by kernel_rfl) ?_
  refine RegI.done (by kernel_rfl) ?_
  refine RunsI.go 1 [.c 5, .c 6] (by kernel_rfl) ?_
  refine RunsI.region (by kernel_rfl) ?_
  refine RegI.pure 1 [0, 5, 7, 10] [(0, .int .i64 p0), (5, .int .i64 t5), (7, .int .i64 t7), (10, .int .i64 8)] (by kernel_rfl) ?_
  refine RegI.done (by kernel_rfl) ?_
  refine RunsI.go 2 [.c 8, .c 9, .c 18] (by kernel_rfl) ?_
  refine RunsI.region (by kernel_rfl) ?_
  refine RegI.pure 3 [0, 5, 10, 21] [(0, .int .i64 p0), (5, .int .i64 t5), (10, .int .i64 8), (21, .bool (t7 == 6))] (by kernel_rfl) ?_
  obtain ⟨j14, hJ15, h⟩ := of_let h
  have hj16 : ∀ (t11 : Bool) (w13 : World), j14 t11 = some r → Holds M0 w0 w13 [] → RegI F20 8 [.c 9, .c 18] 6 [(0, .int .i64 p0), (5, .int .i64 t5), (10, .int .i64 8), (24, .bool t11)] w13 (times_bit_20.post M0 w0 r) := by
    intro t11 w13 h h12
    rw [hJ15] at h
    clear hJ15
    dsimp only at h
    refine RegI.done (by kernel_rfl) ?_
    obtain ⟨j22, hJ23, h⟩ := of_let h
    have hj24 : ∀ (t19 : Int) (w21 : World), j22 t19 = some r → Holds M0 w0 w21 [] → RunsI F20 [.c 18] [(0, .int .i64 p0), (10, .int .i64 t19)] w21 (times_bit_20.post M0 w0 r) := by
      intro t19 w21 h h20
      rw [hJ23] at h
      clear hJ23
      dsimp only at h
      refine RunsI.go 2 [.c 20, .c 21, .c 24] (by kernel_rfl) ?_
      refine RunsI.region (by kernel_rfl) ?_
      refine RegI.pure 2 [10, 28] [(10, .int .i64 t19), (28, .bool (p0 != 1))] (by kernel_rfl) ?_
      refine RegI.done (by kernel_rfl) ?_
      rcases of_cond h with ⟨hc25, h⟩ | ⟨hc25, h⟩
      · skip
        refine RunsI.fix 28 true hc25 (by kernel_rfl) (by kernel_rfl) ?_
        refine RunsI.cond true 22 (by kernel_rfl) ?_
        refine RunsI.region (by kernel_rfl) ?_
        refine RegI.pure 3 [10] [(10, .int .i64 (IntKind.wrap .i64 (t19 + 8)))] (by kernel_rfl) ?_
        refine RegI.done (by kernel_rfl) ?_
        refine RunsI.go 1 [.c 25, .c 26] (by kernel_rfl) ?_
        refine RunsI.region (by kernel_rfl) ?_
        refine RegI.pure 2 [4] [(4, .int .i64 (IntKind.wrap .i64 (t19 + 8)))] (by kernel_rfl) ?_
        refine RegI.done (by kernel_rfl) ?_
        refine RunsI.ret (.int .i64 (IntKind.wrap .i64 (t19 + 8))) (by kernel_rfl) (by kernel_rfl) ?_
        obtain rfl := Option.some.inj h
        exact ⟨rfl, h20.below⟩
      · skip
        refine RunsI.fix 28 false hc25 (by kernel_rfl) (by kernel_rfl) ?_
        refine RunsI.cond false 23 (by kernel_rfl) ?_
        refine RunsI.go 1 [.c 24] (by kernel_rfl) ?_
        refine RunsI.go 1 [.c 25, .c 26] (by kernel_rfl) ?_
        refine RunsI.region (by kernel_rfl) ?_
        refine RegI.pure 2 [4] [(4, .int .i64 t19)] (by kernel_rfl) ?_
        refine RegI.done (by kernel_rfl) ?_
        refine RunsI.ret (.int .i64 t19) (by kernel_rfl) (by kernel_rfl) ?_
        obtain rfl := Option.some.inj h
        exact ⟨rfl, h20.below⟩
    clear hJ23
    rcases of_cond h with ⟨hc17, h⟩ | ⟨hc17, h⟩
    · skip
      refine RunsI.fix 24 true hc17 (by kernel_rfl) (by kernel_rfl) ?_
      refine RunsI.cond true 10 (by kernel_rfl) ?_
      refine RunsI.go 1 [.c 11, .c 12, .c 18] (by kernel_rfl) ?_
      refine RunsI.region (by kernel_rfl) ?_
      refine RegI.pure 1 [0, 5, 10] [(0, .int .i64 p0), (5, .int .i64 t5), (10, .int .i64 15)] (by kernel_rfl) ?_
      refine RegI.done (by kernel_rfl) ?_
      refine RunsI.go 1 [.c 13, .c 14, .c 18] (by kernel_rfl) ?_
      refine RunsI.region (by kernel_rfl) ?_
      refine RegI.pure 2 [0, 10, 26] [(0, .int .i64 p0), (10, .int .i64 15), (26, .bool (t5 == 1))] (by kernel_rfl) ?_
      refine RegI.done (by kernel_rfl) ?_
      rcases of_cond h with ⟨hc18, h⟩ | ⟨hc18, h⟩
      · skip
        refine RunsI.fix 26 true hc18 (by kernel_rfl) (by kernel_rfl) ?_
        refine RunsI.cond true 15 (by kernel_rfl) ?_
        refine RunsI.region (by kernel_rfl) ?_
        refine RegI.pure 1 [0, 10] [(0, .int .i64 p0), (10, .int .i64 12)] (by kernel_rfl) ?_
        refine RegI.done (by kernel_rfl) ?_
        refine RunsI.only [0, 10] [(0, .int .i64 p0), (10, .int .i64 12)] (by kernel_rfl) (by kernel_rfl) ?_
        exact hj24 12 w13 h (h12.pick [] (by decide))
      · skip
        refine RunsI.fix 26 false hc18 (by kernel_rfl) (by kernel_rfl) ?_
        refine RunsI.cond false 16 (by kernel_rfl) ?_
        refine RunsI.go 1 [.c 18] (by kernel_rfl) ?_
        refine RunsI.only [0, 10] [(0, .int .i64 p0), (10, .int .i64 15)] (by kernel_rfl) (by kernel_rfl) ?_
        exact hj24 15 w13 h (h12.pick [] (by decide))
    · skip
      refine RunsI.fix 24 false hc17 (by kernel_rfl) (by kernel_rfl) ?_
      refine RunsI.cond false 17 (by kernel_rfl) ?_
      refine RunsI.go 1 [.c 18] (by kernel_rfl) ?_
      refine RunsI.only [0, 10] [(0, .int .i64 p0), (10, .int .i64 8)] (by kernel_rfl) (by kernel_rfl) ?_
      exact hj24 8 w13 h (h12.pick [] (by decide))
  clear hJ15
  rcases of_cond h with ⟨hc10, h⟩ | ⟨hc10, h⟩
  · skip
    refine RegI.fix 21 true hc10 (by kernel_rfl) (by kernel_rfl) ?_
    refine RegI.pure 3 [0, 5, 10, 24] [(0, .int .i64 p0), (5, .int .i64 t5), (10, .int .i64 8), (24, .bool true)] (by kernel_rfl) ?_
    refine RegI.only [0, 5, 10, 24] [(0, .int .i64 p0), (5, .int .i64 t5), (10, .int .i64 8), (24, .bool true)] (by kernel_rfl) (by kernel_rfl) ?_
    exact hj16 true w1 h (h3.pick [] (by decide))
  · skip
    refine RegI.fix 21 false hc10 (by kernel_rfl) (by kernel_rfl) ?_
    refine RegI.pure 3 [0, 5, 10, 24] [(0, .int .i64 p0), (5, .int .i64 t5), (10, .int .i64 8), (24, .bool (p0 != 1))] (by kernel_rfl) ?_
    refine RegI.only [0, 5, 10, 24] [(0, .int .i64 p0), (5, .int .i64 t5), (10, .int .i64 8), (24, .bool (p0 != 1))] (by kernel_rfl) (by kernel_rfl) ?_
    exact hj16 (p0 != 1) w1 h (h3.pick [] (by decide))
end

/-! ### charabanc/times.ed (function 21) -/
section
def times_ed_21.post (M0 : Nat → Prop) (w0 : World) (r : Int) : Ending → World → Prop := fun e w => e = .returned (.int .i64 r) ∧ Below w0.heap.size w0 w
def times_ed_21.f (K : Nat) (p0 : Int) (p1 : Bool) : Option Int := (decode_Fields_29.f K p0).bind fun yt5 => Let (fun (t13 : Bool) => cond t13 (some 21) (Let (fun (t22 : Bool) => cond t22 (some 16) (cond (yt5.1 != 1) (some 8) (Let (fun (t31 : Bool) => cond t31 (some 9) (Let (fun (t39 : Bool) => cond t39 (some 18) (cond (inR yt5.2.2.1 8) (some (rdD tab_1 yt5.2.2.1)) none)) (fun j42 => cond (yt5.2.2.1 == 7) (j42 (decide (yt5.2.1 < 6))) (j42 false)))) (fun j34 => cond (yt5.2.2.1 == 7) (j34 (decide (yt5.2.1 < 4))) (j34 false))))) (fun j25 => cond (yt5.1 == 2) (cond (decide (yt5.2.2.1 < 4)) (j25 (decide (yt5.2.1 > 3))) (j25 false)) (j25 false)))) (fun j16 => cond (yt5.1 == 2) (cond (decide (yt5.2.2.1 < 4)) (cond (decide (yt5.2.1 > 5)) (j16 p1) (j16 false)) (j16 false)) (j16 false))
set_option maxRecDepth 100000 in
theorem times_ed_21_ok (K : Nat) (M0 : Nat → Prop) (w0 : World) (p0 : Int) (p1 : Bool) (ho : ∀ b, M0 b → b < w0.heap.size) (hG1 : (gl 1 (tab_1.flatMap en_1)).ok w0 M0) {r : Int} (h : times_ed_21.f K p0 p1 = some r) :
    Calls Tryd.prog 21 #[.int .u8 p0, .bool p1] w0 (times_ed_21.post M0 w0 r) := by
  unfold times_ed_21.f at h
  have h0 : Holds M0 w0 w0 [] := Holds.start ho
  have h0g1 := h0.add (gl 1 (tab_1.flatMap en_1)) rfl ⟨hG1.1, fun hm => hG1.2.1 (hm.elim id (fun hm => absurd hm (by simp [mines, sl, gl]))), hG1.2.2⟩
  have h0 : Holds M0 w0 w0 [gl 1 (tab_1.flatMap en_1)] := h0g1
  refine calls_of F21 rfl [.int .u8 p0, .bool p1] (by kernel_rfl) ?_
  refine RunsI.go 1 [.c 1, .c 2] (by kernel_rfl) ?_
  refine RunsI.region (by kernel_rfl) ?_
  refine RegI.pure 1 [0, 1] [(0, .int .u8 p0), (1, .bool p1)] (by kernel_rfl) ?_
  refine RegI.done (by kernel_rfl) ?_
  refine RunsI.go 1 [.c 3, .c 4] (by kernel_rfl) ?_
  refine RunsI.region (by kernel_rfl) ?_
  refine RegI.pure 1 [1, 11] [(1, .bool p1), (11, .int .u8 p0)] (by kernel_rfl) ?_
  obtain ⟨⟨t5, t6, t7, t8, t9⟩, hg4, h⟩ := of_bind h
  dsimp only at h
  refine RegI.op (by kernel_rfl) (OpE.call 12 (by kernel_rfl) 29 #[.int .u8 p0] (by kernel_rfl) ((decode_Fields_29_ok K _ w0  p0 h0.old' hg4).mono ?_))
  rintro _ w1 ⟨rfl, hb2⟩
  refine ⟨_, rfl, ?_⟩
  have h3 := h0.call hb2
  refine RegI.pure 11 [1, 5, 6, 7] [(1, .bool p1), (5, .int .i64 t5), (6, .int .i64 t6), (7, .int .i64 t7)] (by kernel_rfl) ?_
  refine RegI.done (by kernel_rfl) ?_
  refine RunsI.go 3 [.c 7, .c 8, .blk 0, .c 37] (by kernel_rfl) ?_
  refine RunsI.region (by kernel_rfl) ?_
  refine RegI.pure 3 [1, 5, 6, 7, 21] [(1, .bool p1), (5, .int .i64 t5), (6, .int .i64 t6), (7, .int .i64 t7), (21, .bool (t5 == 2))] (by kernel_rfl) ?_
  obtain ⟨j16, hJ17, h⟩ := of_let h
  have hj18 : ∀ (t13 : Bool) (w15 : World), j16 t13 = some r → Holds M0 w0 w15 [gl 1 (tab_1.flatMap en_1)] → RegI F21 7 [.c 8, .blk 0, .c 37] 14 [(5, .int .i64 t5), (6, .int .i64 t6), (7, .int .i64 t7), (18, .bool t13)] w15 (times_ed_21.post M0 w0 r) := by
    intro t13 w15 h h14
    rw [hJ17] at h
    clear hJ17
    dsimp only at h
    refine RegI.done (by kernel_rfl) ?_
    rcases of_cond h with ⟨hc19, h⟩ | ⟨hc19, h⟩
    · skip
      refine RunsI.fix 18 true hc19 (by kernel_rfl) (by kernel_rfl) ?_
      refine RunsI.cond true 9 (by kernel_rfl) ?_
      refine RunsI.go 1 [.c 10, .c 11, .blk 0, .c 37] (by kernel_rfl) ?_
      refine RunsI.region (by kernel_rfl) ?_
      refine RegI.pure 1 [4] [(4, .int .i64 21)] (by kernel_rfl) ?_
      refine RegI.done (by kernel_rfl) ?_
      refine RunsI.ret (.int .i64 21) (by kernel_rfl) (by kernel_rfl) ?_
      obtain rfl := Option.some.inj h
      exact ⟨rfl, h14.below⟩
    · skip
      refine RunsI.fix 18 false hc19 (by kernel_rfl) (by kernel_rfl) ?_
      refine RunsI.cond false 12 (by kernel_rfl) ?_
      refine RunsI.go 1 [.c 13, .c 14, .blk 0, .c 37] (by kernel_rfl) ?_
      refine RunsI.region (by kernel_rfl) ?_
      refine RegI.pure 3 [5, 6, 7, 35] [(5, .int .i64 t5), (6, .int .i64 t6), (7, .int .i64 t7), (35, .bool (t5 == 2))] (by kernel_rfl) ?_
      obtain ⟨j25, hJ26, h⟩ := of_let h
      have hj27 : ∀ (t22 : Bool) (w24 : World), j25 t22 = some r → Holds M0 w0 w24 [gl 1 (tab_1.flatMap en_1)] → RegI F21 13 [.c 14, .blk 0, .c 37] 11 [(5, .int .i64 t5), (6, .int .i64 t6), (7, .int .i64 t7), (32, .bool t22)] w24 (times_ed_21.post M0 w0 r) := by
        intro t22 w24 h h23
        rw [hJ26] at h
        clear hJ26
        dsimp only at h
        refine RegI.done (by kernel_rfl) ?_
        rcases of_cond h with ⟨hc28, h⟩ | ⟨hc28, h⟩
        · skip
          refine RunsI.fix 32 true hc28 (by kernel_rfl) (by kernel_rfl) ?_
          refine RunsI.cond true 15 (by kernel_rfl) ?_
          refine RunsI.go 1 [.c 16, .c 17, .blk 0, .c 37] (by kernel_rfl) ?_
          refine RunsI.region (by kernel_rfl) ?_
          refine RegI.pure 1 [4] [(4, .int .i64 16)] (by kernel_rfl) ?_
          refine RegI.done (by kernel_rfl) ?_
          refine RunsI.ret (.int .i64 16) (by kernel_rfl) (by kernel_rfl) ?_
          obtain rfl := Option.some.inj h
          exact ⟨rfl, h23.below⟩
        · skip
          refine RunsI.fix 32 false hc28 (by kernel_rfl) (by kernel_rfl) ?_
          refine RunsI.cond false 18 (by kernel_rfl) ?_
          refine RunsI.go 1 [.c 19, .c 20, .blk 0, .c 37] (by kernel_rfl) ?_
          refine RunsI.region (by kernel_rfl) ?_
          refine RegI.pure 3 [6, 7, 43] [(6, .int .i64 t6), (7, .int .i64 t7), (43, .bool (t5 != 1))] (by kernel_rfl) ?_
          refine RegI.done (by kernel_rfl) ?_
          rcases of_cond h with ⟨hc29, h⟩ | ⟨hc29, h⟩
          · skip
            refine RunsI.fix 43 true hc29 (by kernel_rfl) (by kernel_rfl) ?_
            refine RunsI.cond true 21 (by kernel_rfl) ?_
            refine RunsI.go 1 [.c 22, .c 23, .blk 0, .c 37] (by kernel_rfl) ?_
            refine RunsI.region (by kernel_rfl) ?_
            refine RegI.pure 1 [4] [(4, .int .i64 8)] (by kernel_rfl) ?_
            refine RegI.done (by kernel_rfl) ?_
            refine RunsI.ret (.int .i64 8) (by kernel_rfl) (by kernel_rfl) ?_
            obtain rfl := Option.some.inj h
            exact ⟨rfl, h23.below⟩
          · skip
            refine RunsI.fix 43 false hc29 (by kernel_rfl) (by kernel_rfl) ?_
            refine RunsI.cond false 24 (by kernel_rfl) ?_
            refine RunsI.go 1 [.c 25, .c 26, .blk 0, .c 37] (by kernel_rfl) ?_
            refine RunsI.region (by kernel_rfl) ?_
            refine RegI.pure 3 [6, 7, 49] [(6, .int .i64 t6), (7, .int .i64 t7), (49, .bool (t7 == 7))] (by kernel_rfl) ?_
            obtain ⟨j34, hJ35, h⟩ := of_let h
            have hj36 : ∀ (t31 : Bool) (w33 : World), j34 t31 = some r → Holds M0 w0 w33 [gl 1 (tab_1.flatMap en_1)] → RegI F21 25 [.c 26, .blk 0, .c 37] 7 [(6, .int .i64 t6), (7, .int .i64 t7), (46, .bool t31)] w33 (times_ed_21.post M0 w0 r) := by
              intro t31 w33 h h32
              rw [hJ35] at h
              clear hJ35
              dsimp only at h
              refine RegI.done (by kernel_rfl) ?_
              rcases of_cond h with ⟨hc37, h⟩ | ⟨hc37, h⟩
              · skip
                refine RunsI.fix 46 true hc37 (by kernel_rfl) (by kernel_rfl) ?_
                refine RunsI.cond true 27 (by kernel_rfl) ?_
                refine RunsI.go 1 [.c 28, .c 29, .blk 0, .c 37] (by kernel_rfl) ?_
                refine RunsI.region (by kernel_rfl) ?_
                refine RegI.pure 1 [4] [(4, .int .i64 9)] (by kernel_rfl) ?_
                refine RegI.done (by kernel_rfl) ?_
                refine RunsI.ret (.int .i64 9) (by kernel_rfl) (by kernel_rfl) ?_
                obtain rfl := Option.some.inj h
                exact ⟨rfl, h32.below⟩
              · skip
                refine RunsI.fix 46 false hc37 (by kernel_rfl) (by kernel_rfl) ?_
                refine RunsI.cond false 30 (by kernel_rfl) ?_
                refine RunsI.go 1 [.c 31, .c 32, .blk 0, .c 37] (by kernel_rfl) ?_
                refine RunsI.region (by kernel_rfl) ?_
                refine RegI.pure 3 [6, 7, 56] [(6, .int .i64 t6), (7, .int .i64 t7), (56, .bool (t7 == 7))] (by kernel_rfl) ?_
                obtain ⟨j42, hJ43, h⟩ := of_let h
                have hj44 : ∀ (t39 : Bool) (w41 : World), j42 t39 = some r → Holds M0 w0 w41 [gl 1 (tab_1.flatMap en_1)] → RegI F21 31 [.c 32, .blk 0, .c 37] 7 [(7, .int .i64 t7), (53, .bool t39)] w41 (times_ed_21.post M0 w0 r) := by
                  intro t39 w41 h h40
                  rw [hJ43] at h
                  clear hJ43
                  dsimp only at h
                  refine RegI.done (by kernel_rfl) ?_
                  rcases of_cond h with ⟨hc45, h⟩ | ⟨hc45, h⟩
                  · skip
                    refine RunsI.fix 53 true hc45 (by kernel_rfl) (by kernel_rfl) ?_
                    refine RunsI.cond true 33 (by kernel_rfl) ?_
                    refine RunsI.go 1 [.c 34, .c 35, .blk 0, .c 37] (by kernel_rfl) ?_
                    refine RunsI.region (by kernel_rfl) ?_
                    refine RegI.pure 1 [4] [(4, .int .i64 18)] (by kernel_rfl) ?_
                    refine RegI.done (by kernel_rfl) ?_
                    refine RunsI.ret (.int .i64 18) (by kernel_rfl) (by kernel_rfl) ?_
                    obtain rfl := Option.some.inj h
                    exact ⟨rfl, h40.below⟩
                  · skip
                    refine RunsI.fix 53 false hc45 (by kernel_rfl) (by kernel_rfl) ?_
                    refine RunsI.cond false 36 (by kernel_rfl) ?_
                    refine RunsI.go 1 [.blk 0, .c 37] (by kernel_rfl) ?_
                    refine RunsI.go 2 [.c 38, .c 39] (by kernel_rfl) ?_
                    refine RunsI.region (by kernel_rfl) ?_
                    refine RegI.pure 1 [60] [(60, .int .i64 t7)] (by kernel_rfl) ?_
                    obtain ⟨hc46, h⟩ := of_cond0 h
                    refine RegI.op (by kernel_rfl) (OpE.run 61 (by kernel_rfl) (run_idxArr (T := 51) (b := 1) (o := 0) (ix := t7) (len := 8) (s := 1) (by kernel_rfl) (by kernel_rfl) hc46) ?_)
                    refine RegI.op (by kernel_rfl) (OpE.loadTab 62 0 3 en_1 tab_1 0 1 t7 (.int .i64 (rdD tab_1 t7)) (o := 0 + (Int.toNat t7) * 1 + 0) h40 (by kernel_rfl) rfl (fun _ => rfl) (by kernel_rfl) (by omega) hc46 (fun _ => by kernel_rfl) ?_)
                    refine RegI.pure 1 [4] [(4, .int .i64 (rdD tab_1 t7))] (by kernel_rfl) ?_
                    refine RegI.done (by kernel_rfl) ?_
                    refine RunsI.ret (.int .i64 (rdD tab_1 t7)) (by kernel_rfl) (by kernel_rfl) ?_
                    obtain rfl := Option.some.inj h
                    exact ⟨rfl, h40.below⟩
                clear hJ43
                rcases of_cond h with ⟨hc38, h⟩ | ⟨hc38, h⟩
                · skip
                  refine RegI.fix 56 true hc38 (by kernel_rfl) (by kernel_rfl) ?_
                  refine RegI.pure 4 [7, 53] [(7, .int .i64 t7), (53, .bool (decide (t6 < 6)))] (by kernel_rfl) ?_
                  refine RegI.only [7, 53] [(7, .int .i64 t7), (53, .bool (decide (t6 < 6)))] (by kernel_rfl) (by kernel_rfl) ?_
                  exact hj44 (decide (t6 < 6)) w33 h (h32.pick [0] (by decide))
                · skip
                  refine RegI.fix 56 false hc38 (by kernel_rfl) (by kernel_rfl) ?_
                  refine RegI.pure 4 [7, 53] [(7, .int .i64 t7), (53, .bool false)] (by kernel_rfl) ?_
                  refine RegI.only [7, 53] [(7, .int .i64 t7), (53, .bool false)] (by kernel_rfl) (by kernel_rfl) ?_
                  exact hj44 false w33 h (h32.pick [0] (by decide))
            clear hJ35
            rcases of_cond h with ⟨hc30, h⟩ | ⟨hc30, h⟩
            · skip
              refine RegI.fix 49 true hc30 (by kernel_rfl) (by kernel_rfl) ?_
              refine RegI.pure 4 [6, 7, 46] [(6, .int .i64 t6), (7, .int .i64 t7), (46, .bool (decide (t6 < 4)))] (by kernel_rfl) ?_
              refine RegI.only [6, 7, 46] [(6, .int .i64 t6), (7, .int .i64 t7), (46, .bool (decide (t6 < 4)))] (by kernel_rfl) (by kernel_rfl) ?_
              exact hj36 (decide (t6 < 4)) w24 h (h23.pick [0] (by decide))
            · skip
              refine RegI.fix 49 false hc30 (by kernel_rfl) (by kernel_rfl) ?_
              refine RegI.pure 4 [6, 7, 46] [(6, .int .i64 t6), (7, .int .i64 t7), (46, .bool false)] (by kernel_rfl) ?_
              refine RegI.only [6, 7, 46] [(6, .int .i64 t6), (7, .int .i64 t7), (46, .bool false)] (by kernel_rfl) (by kernel_rfl) ?_
              exact hj36 false w24 h (h23.pick [0] (by decide))
      clear hJ26
      rcases of_cond h with ⟨hc20, h⟩ | ⟨hc20, h⟩
      · skip
        refine RegI.fix 35 true hc20 (by kernel_rfl) (by kernel_rfl) ?_
        refine RegI.pure 4 [5, 6, 7, 39] [(5, .int .i64 t5), (6, .int .i64 t6), (7, .int .i64 t7), (39, .bool (decide (t7 < 4)))] (by kernel_rfl) ?_
        rcases of_cond h with ⟨hc21, h⟩ | ⟨hc21, h⟩
        · skip
          refine RegI.fix 39 true hc21 (by kernel_rfl) (by kernel_rfl) ?_
          refine RegI.pure 4 [5, 6, 7, 32] [(5, .int .i64 t5), (6, .int .i64 t6), (7, .int .i64 t7), (32, .bool (decide (t6 > 3)))] (by kernel_rfl) ?_
          refine RegI.only [5, 6, 7, 32] [(5, .int .i64 t5), (6, .int .i64 t6), (7, .int .i64 t7), (32, .bool (decide (t6 > 3)))] (by kernel_rfl) (by kernel_rfl) ?_
          exact hj27 (decide (t6 > 3)) w15 h (h14.pick [0] (by decide))
        · skip
          refine RegI.fix 39 false hc21 (by kernel_rfl) (by kernel_rfl) ?_
          refine RegI.pure 4 [5, 6, 7, 32] [(5, .int .i64 t5), (6, .int .i64 t6), (7, .int .i64 t7), (32, .bool false)] (by kernel_rfl) ?_
          refine RegI.only [5, 6, 7, 32] [(5, .int .i64 t5), (6, .int .i64 t6), (7, .int .i64 t7), (32, .bool false)] (by kernel_rfl) (by kernel_rfl) ?_
          exact hj27 false w15 h (h14.pick [0] (by decide))
      · skip
        refine RegI.fix 35 false hc20 (by kernel_rfl) (by kernel_rfl) ?_
        refine RegI.pure 8 [5, 6, 7, 32] [(5, .int .i64 t5), (6, .int .i64 t6), (7, .int .i64 t7), (32, .bool false)] (by kernel_rfl) ?_
        refine RegI.only [5, 6, 7, 32] [(5, .int .i64 t5), (6, .int .i64 t6), (7, .int .i64 t7), (32, .bool false)] (by kernel_rfl) (by kernel_rfl) ?_
        exact hj27 false w15 h (h14.pick [0] (by decide))
  clear hJ17
  rcases of_cond h with ⟨hc10, h⟩ | ⟨hc10, h⟩
  · skip
    refine RegI.fix 21 true hc10 (by kernel_rfl) (by kernel_rfl) ?_
    refine RegI.pure 4 [1, 5, 6, 7, 25] [(1, .bool p1), (5, .int .i64 t5), (6, .int .i64 t6), (7, .int .i64 t7), (25, .bool (decide (t7 < 4)))] (by kernel_rfl) ?_
    rcases of_cond h with ⟨hc11, h⟩ | ⟨hc11, h⟩
    · skip
      refine RegI.fix 25 true hc11 (by kernel_rfl) (by kernel_rfl) ?_
      refine RegI.pure 4 [1, 5, 6, 7, 29] [(1, .bool p1), (5, .int .i64 t5), (6, .int .i64 t6), (7, .int .i64 t7), (29, .bool (decide (t6 > 5)))] (by kernel_rfl) ?_
      rcases of_cond h with ⟨hc12, h⟩ | ⟨hc12, h⟩
      · skip
        refine RegI.fix 29 true hc12 (by kernel_rfl) (by kernel_rfl) ?_
        refine RegI.pure 3 [5, 6, 7, 18] [(5, .int .i64 t5), (6, .int .i64 t6), (7, .int .i64 t7), (18, .bool p1)] (by kernel_rfl) ?_
        refine RegI.only [5, 6, 7, 18] [(5, .int .i64 t5), (6, .int .i64 t6), (7, .int .i64 t7), (18, .bool p1)] (by kernel_rfl) (by kernel_rfl) ?_
        exact hj18 p1 w1 h (h3.pick [0] (by decide))
      · skip
        refine RegI.fix 29 false hc12 (by kernel_rfl) (by kernel_rfl) ?_
        refine RegI.pure 3 [5, 6, 7, 18] [(5, .int .i64 t5), (6, .int .i64 t6), (7, .int .i64 t7), (18, .bool false)] (by kernel_rfl) ?_
        refine RegI.only [5, 6, 7, 18] [(5, .int .i64 t5), (6, .int .i64 t6), (7, .int .i64 t7), (18, .bool false)] (by kernel_rfl) (by kernel_rfl) ?_
        exact hj18 false w1 h (h3.pick [0] (by decide))
    · skip
      refine RegI.fix 25 false hc11 (by kernel_rfl) (by kernel_rfl) ?_
      refine RegI.pure 7 [5, 6, 7, 18] [(5, .int .i64 t5), (6, .int .i64 t6), (7, .int .i64 t7), (18, .bool false)] (by kernel_rfl) ?_
      refine RegI.only [5, 6, 7, 18] [(5, .int .i64 t5), (6, .int .i64 t6), (7, .int .i64 t7), (18, .bool false)] (by kernel_rfl) (by kernel_rfl) ?_
      exact hj18 false w1 h (h3.pick [0] (by decide))
  · skip
    refine RegI.fix 21 false hc10 (by kernel_rfl) (by kernel_rfl) ?_
    refine RegI.pure 11 [5, 6, 7, 18] [(5, .int .i64 t5), (6, .int .i64 t6), (7, .int .i64 t7), (18, .bool false)] (by kernel_rfl) ?_
    refine RegI.only [5, 6, 7, 18] [(5, .int .i64 t5), (6, .int .i64 t6), (7, .int .i64 t7), (18, .bool false)] (by kernel_rfl) (by kernel_rfl) ?_
    exact hj18 false w1 h (h3.pick [0] (by decide))
end

/-! ### charabanc/times.Of (function 9) -/
section
def times_Of_9.post (M0 : Nat → Prop) (w0 : World) (r : Int) : Ending → World → Prop := fun e w => e = .returned (.int .i64 r) ∧ Below w0.heap.size w0 w
def times_Of_9.f (K : Nat) (p0_0 : Int) (p0_1 : Int) (p0_2 : Int) (p0_3 : Int) (p0_4 : Int) (p0_5 : Int) (p1 : Bool) : Option Int := cond (inR p0_1 256) (Let (fun (t13 : Int) => cond (p0_0 == 0) (some (IntKind.wrap .i64 (t13 + (IntKind.wrap .i64 (4 * p0_5))))) (Let (fun (t21 : Bool) => cond t21 (cond (p0_1 == 54) (some (IntKind.wrap .i64 ((IntKind.wrap .i64 ((IntKind.wrap .i64 (t13 + 4)) + 5)) + (IntKind.wrap .i64 (4 * p0_5))))) ((decode_Near_19.f K p0_0 p0_1).bind fun t33 => cond t33 (some (IntKind.wrap .i64 ((IntKind.wrap .i64 ((IntKind.wrap .i64 (t13 + 4)) + 8)) + (IntKind.wrap .i64 (4 * p0_5))))) (some (IntKind.wrap .i64 ((IntKind.wrap .i64 (t13 + 4)) + (IntKind.wrap .i64 (4 * p0_5))))))) (Let (fun (t37 : Bool) => cond t37 ((times_bit_20.f K p0_0 p0_1).bind fun t48 => some (IntKind.wrap .i64 (t48 + (IntKind.wrap .i64 (4 * p0_5))))) (cond (p0_0 == 2) ((times_ed_21.f K p0_1 p1).bind fun t54 => some (IntKind.wrap .i64 (t54 + (IntKind.wrap .i64 (4 * p0_5))))) (some 0))) (fun j40 => cond (p0_0 == 1) (j40 true) (cond (p0_0 == 5) (j40 true) (j40 (p0_0 == 6)))))) (fun j24 => cond (p0_0 == 3) (j24 true) (j24 (p0_0 == 4))))) (fun j16 => cond p1 ((times_more_18.f K p0_1).bind fun t12 => j16 (IntKind.wrap .i64 ((rdD tab_0 p0_1) + t12))) (j16 (rdD tab_0 p0_1)))) none
set_option maxRecDepth 100000 in
theorem times_Of_9_ok (K : Nat) (M0 : Nat → Prop) (w0 : World) (p0_0 : Int) (p0_1 : Int) (p0_2 : Int) (p0_3 : Int) (p0_4 : Int) (p0_5 : Int) (p1 : Bool) (ho : ∀ b, M0 b → b < w0.heap.size) (hG0 : (gl 0 (tab_0.flatMap en_0)).ok w0 M0) (hG1 : (gl 1 (tab_1.flatMap en_1)).ok w0 M0) {r : Int} (h : times_Of_9.f K p0_0 p0_1 p0_2 p0_3 p0_4 p0_5 p1 = some r) :
    Calls Tryd.prog 9 #[.agg #[.int .i64 p0_0, .int .u8 p0_1, .int .u8 p0_2, .int .u16 p0_3, .int .i64 p0_4, .int .i64 p0_5], .bool p1] w0 (times_Of_9.post M0 w0 r) := by
  unfold times_Of_9.f at h
  have h0 : Holds M0 w0 w0 [] := Holds.start ho
  have h0g0 := h0.add (gl 0 (tab_0.flatMap en_0)) rfl ⟨hG0.1, fun hm => hG0.2.1 (hm.elim id (fun hm => absurd hm (by simp [mines, sl, gl]))), hG0.2.2⟩
  have h0g1 := h0g0.add (gl 1 (tab_1.flatMap en_1)) rfl ⟨hG1.1, fun hm => hG1.2.1 (hm.elim id (fun hm => absurd hm (by simp [mines, sl, gl]))), hG1.2.2⟩
  have h0 : Holds M0 w0 w0 [gl 0 (tab_0.flatMap en_0), gl 1 (tab_1.flatMap en_1)] := h0g1
  refine calls_of F9 rfl [.agg #[.int .i64 p0_0, .int .u8 p0_1, .int .u8 p0_2, .int .u16 p0_3, .int .i64 p0_4, .int .i64 p0_5], .bool p1] (by kernel_rfl) ?_
  refine RunsI.go 1 [.c 1, .c 2] (by kernel_rfl) ?_
  refine RunsI.region (by kernel_rfl) ?_
  refine RegI.op (by kernel_rfl) (OpE.box 2 24 [.int .i64 p0_0, .int .u8 p0_1, .int .u8 p0_2, .int .u16 p0_3, .int .i64 p0_4, .int .i64 p0_5] h0 (by kernel_rfl) (by kernel_rfl) ?_)
  intro w1 b2 h3 hb4 hn5
  refine RegI.pure 1 [1, 2] [(1, .bool p1), (2, .pointer (some ⟨b2, 0, none⟩))] (by kernel_rfl) ?_
  refine RegI.done (by kernel_rfl) ?_
  refine RunsI.go 1 [.c 3, .c 4] (by kernel_rfl) ?_
  refine RunsI.region (by kernel_rfl) ?_
  refine RegI.pure 1 [1, 2, 6] [(1, .bool p1), (2, .pointer (some ⟨b2, 0, none⟩)), (6, .pointer (some ⟨b2, 1, none⟩))] (by kernel_rfl) ?_
  refine RegI.op (by kernel_rfl) (OpE.loadBox 7 2 5 b2 1 (.int .u8 p0_1) h3 (by kernel_rfl) (by kernel_rfl) rfl (by kernel_rfl) ?_)
  obtain ⟨hc6, h⟩ := of_cond0 h
  refine RegI.op (by kernel_rfl) (OpE.run 8 (by kernel_rfl) (run_idxArr (T := 31) (b := 0) (o := 0) (ix := p0_1) (len := 256) (s := 1) (by kernel_rfl) (by kernel_rfl) hc6) ?_)
  refine RegI.op (by kernel_rfl) (OpE.loadTab 9 0 3 en_0 tab_0 0 1 p0_1 (.int .i64 (rdD tab_0 p0_1)) (o := 0 + (Int.toNat p0_1) * 1 + 0) h3 (by kernel_rfl) rfl (fun _ => rfl) (by kernel_rfl) (by omega) hc6 (fun _ => by kernel_rfl) ?_)
  refine RegI.pure 1 [1, 2, 5] [(1, .bool p1), (2, .pointer (some ⟨b2, 0, none⟩)), (5, .int .i64 (rdD tab_0 p0_1))] (by kernel_rfl) ?_
  refine RegI.done (by kernel_rfl) ?_
  refine RunsI.go 2 [.c 6, .c 7, .c 10] (by kernel_rfl) ?_
  refine RunsI.region (by kernel_rfl) ?_
  refine RegI.pure 1 [1, 2, 5, 10] [(1, .bool p1), (2, .pointer (some ⟨b2, 0, none⟩)), (5, .int .i64 (rdD tab_0 p0_1)), (10, .bool p1)] (by kernel_rfl) ?_
  refine RegI.done (by kernel_rfl) ?_
  obtain ⟨j16, hJ17, h⟩ := of_let h
  have hj18 : ∀ (t13 : Int) (w15 : World), j16 t13 = some r → Holds M0 w0 w15 [box b2 24 [.int .i64 p0_0, .int .u8 p0_1, .int .u8 p0_2, .int .u16 p0_3, .int .i64 p0_4, .int .i64 p0_5], gl 0 (tab_0.flatMap en_0), gl 1 (tab_1.flatMap en_1)] → RunsI F9 [.c 10] [(1, .bool p1), (2, .pointer (some ⟨b2, 0, none⟩)), (5, .int .i64 t13)] w15 (times_Of_9.post M0 w0 r) := by
    intro t13 w15 h h14
    rw [hJ17] at h
    clear hJ17
    dsimp only at h
    refine RunsI.go 2 [.c 12, .c 13, .c 56] (by kernel_rfl) ?_
    refine RunsI.region (by kernel_rfl) ?_
    refine RegI.pure 1 [1, 2, 5, 16] [(1, .bool p1), (2, .pointer (some ⟨b2, 0, none⟩)), (5, .int .i64 t13), (16, .pointer (some ⟨b2, 0, none⟩))] (by kernel_rfl) ?_
    refine RegI.op (by kernel_rfl) (OpE.loadBox 17 0 3 b2 0 (.int .i64 p0_0) h14 (by kernel_rfl) (by kernel_rfl) rfl (by kernel_rfl) ?_)
    refine RegI.done (by kernel_rfl) ?_
    refine RunsI.go 2 [.c 15, .c 16, .blk 0, .c 56] (by kernel_rfl) ?_
    refine RunsI.region (by kernel_rfl) ?_
    refine RegI.pure 2 [1, 2, 5, 17, 18] [(1, .bool p1), (2, .pointer (some ⟨b2, 0, none⟩)), (5, .int .i64 t13), (17, .int .i64 p0_0), (18, .bool (p0_0 == 0))] (by kernel_rfl) ?_
    refine RegI.done (by kernel_rfl) ?_
    rcases of_cond h with ⟨hc19, h⟩ | ⟨hc19, h⟩
    · skip
      refine RunsI.fix 18 true hc19 (by kernel_rfl) (by kernel_rfl) ?_
      refine RunsI.cond true 17 (by kernel_rfl) ?_
      refine RunsI.go 1 [.blk 0, .c 56] (by kernel_rfl) ?_
      refine RunsI.go 2 [.c 57, .c 58] (by kernel_rfl) ?_
      refine RunsI.region (by kernel_rfl) ?_
      refine RegI.pure 2 [54, 55] [(54, .int .i64 t13), (55, .pointer (some ⟨b2, 5, none⟩))] (by kernel_rfl) ?_
      refine RegI.op (by kernel_rfl) (OpE.loadBox 56 0 3 b2 5 (.int .i64 p0_5) h14 (by kernel_rfl) (by kernel_rfl) rfl (by kernel_rfl) ?_)
      refine RegI.pure 3 [4] [(4, .int .i64 (IntKind.wrap .i64 (t13 + (IntKind.wrap .i64 (4 * p0_5)))))] (by kernel_rfl) ?_
      refine RegI.done (by kernel_rfl) ?_
      refine RunsI.ret (.int .i64 (IntKind.wrap .i64 (t13 + (IntKind.wrap .i64 (4 * p0_5))))) (by kernel_rfl) (by kernel_rfl) ?_
      obtain rfl := Option.some.inj h
      exact ⟨rfl, h14.below⟩
    · skip
      refine RunsI.fix 18 false hc19 (by kernel_rfl) (by kernel_rfl) ?_
      refine RunsI.cond false 18 (by kernel_rfl) ?_
      refine RunsI.go 2 [.c 20, .c 21, .c 24, .blk 0, .c 56] (by kernel_rfl) ?_
      refine RunsI.region (by kernel_rfl) ?_
      refine RegI.pure 2 [1, 2, 5, 17, 20] [(1, .bool p1), (2, .pointer (some ⟨b2, 0, none⟩)), (5, .int .i64 t13), (17, .int .i64 p0_0), (20, .bool (p0_0 == 3))] (by kernel_rfl) ?_
      refine RegI.done (by kernel_rfl) ?_
      obtain ⟨j24, hJ25, h⟩ := of_let h
      have hj26 : ∀ (t21 : Bool) (w23 : World), j24 t21 = some r → Holds M0 w0 w23 [box b2 24 [.int .i64 p0_0, .int .u8 p0_1, .int .u8 p0_2, .int .u16 p0_3, .int .i64 p0_4, .int .i64 p0_5], gl 0 (tab_0.flatMap en_0), gl 1 (tab_1.flatMap en_1)] → RunsI F9 [.c 24, .blk 0, .c 56] [(1, .bool p1), (2, .pointer (some ⟨b2, 0, none⟩)), (5, .int .i64 t13), (17, .int .i64 p0_0), (20, .bool t21)] w23 (times_Of_9.post M0 w0 r) := by
        intro t21 w23 h h22
        rw [hJ25] at h
        clear hJ25
        dsimp only at h
        rcases of_cond h with ⟨hc27, h⟩ | ⟨hc27, h⟩
        · skip
          refine RunsI.fix 20 true hc27 (by kernel_rfl) (by kernel_rfl) ?_
          refine RunsI.cond true 25 (by kernel_rfl) ?_
          refine RunsI.go 1 [.c 26, .c 27, .blk 0, .c 56] (by kernel_rfl) ?_
          refine RunsI.region (by kernel_rfl) ?_
          refine RegI.pure 3 [2, 5] [(2, .pointer (some ⟨b2, 0, none⟩)), (5, .int .i64 (IntKind.wrap .i64 (t13 + 4)))] (by kernel_rfl) ?_
          refine RegI.done (by kernel_rfl) ?_
          refine RunsI.go 2 [.c 29, .c 30, .blk 1, .blk 0, .c 56] (by kernel_rfl) ?_
          refine RunsI.region (by kernel_rfl) ?_
          refine RegI.pure 1 [2, 5, 26] [(2, .pointer (some ⟨b2, 0, none⟩)), (5, .int .i64 (IntKind.wrap .i64 (t13 + 4))), (26, .pointer (some ⟨b2, 1, none⟩))] (by kernel_rfl) ?_
          refine RegI.op (by kernel_rfl) (OpE.loadBox 27 0 5 b2 1 (.int .u8 p0_1) h22 (by kernel_rfl) (by kernel_rfl) rfl (by kernel_rfl) ?_)
          refine RegI.pure 2 [2, 5, 25] [(2, .pointer (some ⟨b2, 0, none⟩)), (5, .int .i64 (IntKind.wrap .i64 (t13 + 4))), (25, .bool (p0_1 == 54))] (by kernel_rfl) ?_
          refine RegI.done (by kernel_rfl) ?_
          rcases of_cond h with ⟨hc28, h⟩ | ⟨hc28, h⟩
          · skip
            refine RunsI.fix 25 true hc28 (by kernel_rfl) (by kernel_rfl) ?_
            refine RunsI.cond true 31 (by kernel_rfl) ?_
            refine RunsI.region (by kernel_rfl) ?_
            refine RegI.pure 3 [2, 5] [(2, .pointer (some ⟨b2, 0, none⟩)), (5, .int .i64 (IntKind.wrap .i64 ((IntKind.wrap .i64 (t13 + 4)) + 5)))] (by kernel_rfl) ?_
            refine RegI.done (by kernel_rfl) ?_
            refine RunsI.go 1 [.blk 0, .c 56] (by kernel_rfl) ?_
            refine RunsI.go 2 [.c 57, .c 58] (by kernel_rfl) ?_
            refine RunsI.region (by kernel_rfl) ?_
            refine RegI.pure 2 [54, 55] [(54, .int .i64 (IntKind.wrap .i64 ((IntKind.wrap .i64 (t13 + 4)) + 5))), (55, .pointer (some ⟨b2, 5, none⟩))] (by kernel_rfl) ?_
            refine RegI.op (by kernel_rfl) (OpE.loadBox 56 0 3 b2 5 (.int .i64 p0_5) h22 (by kernel_rfl) (by kernel_rfl) rfl (by kernel_rfl) ?_)
            refine RegI.pure 3 [4] [(4, .int .i64 (IntKind.wrap .i64 ((IntKind.wrap .i64 ((IntKind.wrap .i64 (t13 + 4)) + 5)) + (IntKind.wrap .i64 (4 * p0_5)))))] (by kernel_rfl) ?_
            refine RegI.done (by kernel_rfl) ?_
            refine RunsI.ret (.int .i64 (IntKind.wrap .i64 ((IntKind.wrap .i64 ((IntKind.wrap .i64 (t13 + 4)) + 5)) + (IntKind.wrap .i64 (4 * p0_5))))) (by kernel_rfl) (by kernel_rfl) ?_
            obtain rfl := Option.some.inj h
            exact ⟨rfl, h22.below⟩
          · skip
            refine RunsI.fix 25 false hc28 (by kernel_rfl) (by kernel_rfl) ?_
            refine RunsI.cond false 32 (by kernel_rfl) ?_
            refine RunsI.go 1 [.c 33, .c 34, .blk 1, .blk 0, .c 56] (by kernel_rfl) ?_
            refine RunsI.region (by kernel_rfl) ?_
            refine RegI.pure 1 [2, 5, 32] [(2, .pointer (some ⟨b2, 0, none⟩)), (5, .int .i64 (IntKind.wrap .i64 (t13 + 4))), (32, .pointer (some ⟨b2, 0, none⟩))] (by kernel_rfl) ?_
            refine RegI.op (by kernel_rfl) (OpE.loadBox 33 0 3 b2 0 (.int .i64 p0_0) h22 (by kernel_rfl) (by kernel_rfl) rfl (by kernel_rfl) ?_)
            refine RegI.pure 1 [2, 5, 33, 34] [(2, .pointer (some ⟨b2, 0, none⟩)), (5, .int .i64 (IntKind.wrap .i64 (t13 + 4))), (33, .int .i64 p0_0), (34, .pointer (some ⟨b2, 1, none⟩))] (by kernel_rfl) ?_
            refine RegI.op (by kernel_rfl) (OpE.loadBox 35 0 5 b2 1 (.int .u8 p0_1) h22 (by kernel_rfl) (by kernel_rfl) rfl (by kernel_rfl) ?_)
            obtain ⟨t33, hg32, h⟩ := of_bind h
            refine RegI.op (by kernel_rfl) (OpE.call 36 (by kernel_rfl) 19 #[.int .i64 p0_0, .int .u8 p0_1] (by kernel_rfl) ((decode_Near_19_ok K _ w23  p0_0 p0_1 h22.old' hg32).mono ?_))
            rintro _ w29 ⟨rfl, hb30⟩
            refine ⟨_, rfl, ?_⟩
            have h31 := h22.call hb30
            refine RegI.pure 1 [2, 5, 31] [(2, .pointer (some ⟨b2, 0, none⟩)), (5, .int .i64 (IntKind.wrap .i64 (t13 + 4))), (31, .bool t33)] (by kernel_rfl) ?_
            refine RegI.done (by kernel_rfl) ?_
            rcases of_cond h with ⟨hc34, h⟩ | ⟨hc34, h⟩
            · skip
              refine RunsI.fix 31 true hc34 (by kernel_rfl) (by kernel_rfl) ?_
              refine RunsI.cond true 35 (by kernel_rfl) ?_
              refine RunsI.region (by kernel_rfl) ?_
              refine RegI.pure 3 [2, 5] [(2, .pointer (some ⟨b2, 0, none⟩)), (5, .int .i64 (IntKind.wrap .i64 ((IntKind.wrap .i64 (t13 + 4)) + 8)))] (by kernel_rfl) ?_
              refine RegI.done (by kernel_rfl) ?_
              refine RunsI.go 1 [.blk 0, .c 56] (by kernel_rfl) ?_
              refine RunsI.go 2 [.c 57, .c 58] (by kernel_rfl) ?_
              refine RunsI.region (by kernel_rfl) ?_
              refine RegI.pure 2 [54, 55] [(54, .int .i64 (IntKind.wrap .i64 ((IntKind.wrap .i64 (t13 + 4)) + 8))), (55, .pointer (some ⟨b2, 5, none⟩))] (by kernel_rfl) ?_
              refine RegI.op (by kernel_rfl) (OpE.loadBox 56 0 3 b2 5 (.int .i64 p0_5) h31 (by kernel_rfl) (by kernel_rfl) rfl (by kernel_rfl) ?_)
              refine RegI.pure 3 [4] [(4, .int .i64 (IntKind.wrap .i64 ((IntKind.wrap .i64 ((IntKind.wrap .i64 (t13 + 4)) + 8)) + (IntKind.wrap .i64 (4 * p0_5)))))] (by kernel_rfl) ?_
              refine RegI.done (by kernel_rfl) ?_
              refine RunsI.ret (.int .i64 (IntKind.wrap .i64 ((IntKind.wrap .i64 ((IntKind.wrap .i64 (t13 + 4)) + 8)) + (IntKind.wrap .i64 (4 * p0_5))))) (by kernel_rfl) (by kernel_rfl) ?_
              obtain rfl := Option.some.inj h
              exact ⟨rfl, h31.below⟩
            · skip
              refine RunsI.fix 31 false hc34 (by kernel_rfl) (by kernel_rfl) ?_
              refine RunsI.cond false 36 (by kernel_rfl) ?_
              refine RunsI.go 1 [.blk 1, .blk 0, .c 56] (by kernel_rfl) ?_
              refine RunsI.go 1 [.blk 0, .c 56] (by kernel_rfl) ?_
              refine RunsI.go 2 [.c 57, .c 58] (by kernel_rfl) ?_
              refine RunsI.region (by kernel_rfl) ?_
              refine RegI.pure 2 [54, 55] [(54, .int .i64 (IntKind.wrap .i64 (t13 + 4))), (55, .pointer (some ⟨b2, 5, none⟩))] (by kernel_rfl) ?_
              refine RegI.op (by kernel_rfl) (OpE.loadBox 56 0 3 b2 5 (.int .i64 p0_5) h31 (by kernel_rfl) (by kernel_rfl) rfl (by kernel_rfl) ?_)
              refine RegI.pure 3 [4] [(4, .int .i64 (IntKind.wrap .i64 ((IntKind.wrap .i64 (t13 + 4)) + (IntKind.wrap .i64 (4 * p0_5)))))] (by kernel_rfl) ?_
              refine RegI.done (by kernel_rfl) ?_
              refine RunsI.ret (.int .i64 (IntKind.wrap .i64 ((IntKind.wrap .i64 (t13 + 4)) + (IntKind.wrap .i64 (4 * p0_5))))) (by kernel_rfl) (by kernel_rfl) ?_
              obtain rfl := Option.some.inj h
              exact ⟨rfl, h31.below⟩
        · skip
          refine RunsI.fix 20 false hc27 (by kernel_rfl) (by kernel_rfl) ?_
          refine RunsI.cond false 37 (by kernel_rfl) ?_
          refine RunsI.go 2 [.c 39, .c 40, .c 47, .blk 0, .c 56] (by kernel_rfl) ?_
          refine RunsI.region (by kernel_rfl) ?_
          refine RegI.pure 2 [1, 2, 17, 39] [(1, .bool p1), (2, .pointer (some ⟨b2, 0, none⟩)), (17, .int .i64 p0_0), (39, .bool (p0_0 == 1))] (by kernel_rfl) ?_
          refine RegI.done (by kernel_rfl) ?_
          obtain ⟨j40, hJ41, h⟩ := of_let h
          have hj42 : ∀ (t37 : Bool) (w39 : World), j40 t37 = some r → Holds M0 w0 w39 [box b2 24 [.int .i64 p0_0, .int .u8 p0_1, .int .u8 p0_2, .int .u16 p0_3, .int .i64 p0_4, .int .i64 p0_5], gl 0 (tab_0.flatMap en_0), gl 1 (tab_1.flatMap en_1)] → RunsI F9 [.c 47, .blk 0, .c 56] [(1, .bool p1), (2, .pointer (some ⟨b2, 0, none⟩)), (17, .int .i64 p0_0), (39, .bool t37)] w39 (times_Of_9.post M0 w0 r) := by
            intro t37 w39 h h38
            rw [hJ41] at h
            clear hJ41
            dsimp only at h
            rcases of_cond h with ⟨hc43, h⟩ | ⟨hc43, h⟩
            · skip
              refine RunsI.fix 39 true hc43 (by kernel_rfl) (by kernel_rfl) ?_
              refine RunsI.cond true 48 (by kernel_rfl) ?_
              refine RunsI.region (by kernel_rfl) ?_
              refine RegI.pure 1 [2, 43] [(2, .pointer (some ⟨b2, 0, none⟩)), (43, .pointer (some ⟨b2, 0, none⟩))] (by kernel_rfl) ?_
              refine RegI.op (by kernel_rfl) (OpE.loadBox 44 0 3 b2 0 (.int .i64 p0_0) h38 (by kernel_rfl) (by kernel_rfl) rfl (by kernel_rfl) ?_)
              refine RegI.pure 1 [2, 44, 45] [(2, .pointer (some ⟨b2, 0, none⟩)), (44, .int .i64 p0_0), (45, .pointer (some ⟨b2, 1, none⟩))] (by kernel_rfl) ?_
              refine RegI.op (by kernel_rfl) (OpE.loadBox 46 0 5 b2 1 (.int .u8 p0_1) h38 (by kernel_rfl) (by kernel_rfl) rfl (by kernel_rfl) ?_)
              obtain ⟨t48, hg47, h⟩ := of_bind h
              refine RegI.op (by kernel_rfl) (OpE.call 47 (by kernel_rfl) 20 #[.int .i64 p0_0, .int .u8 p0_1] (by kernel_rfl) ((times_bit_20_ok K _ w39  p0_0 p0_1 h38.old' hg47).mono ?_))
              rintro _ w44 ⟨rfl, hb45⟩
              refine ⟨_, rfl, ?_⟩
              have h46 := h38.call hb45
              refine RegI.pure 1 [2, 5] [(2, .pointer (some ⟨b2, 0, none⟩)), (5, .int .i64 t48)] (by kernel_rfl) ?_
              refine RegI.done (by kernel_rfl) ?_
              refine RunsI.go 2 [.c 57, .c 58] (by kernel_rfl) ?_
              refine RunsI.region (by kernel_rfl) ?_
              refine RegI.pure 2 [54, 55] [(54, .int .i64 t48), (55, .pointer (some ⟨b2, 5, none⟩))] (by kernel_rfl) ?_
              refine RegI.op (by kernel_rfl) (OpE.loadBox 56 0 3 b2 5 (.int .i64 p0_5) h46 (by kernel_rfl) (by kernel_rfl) rfl (by kernel_rfl) ?_)
              refine RegI.pure 3 [4] [(4, .int .i64 (IntKind.wrap .i64 (t48 + (IntKind.wrap .i64 (4 * p0_5)))))] (by kernel_rfl) ?_
              refine RegI.done (by kernel_rfl) ?_
              refine RunsI.ret (.int .i64 (IntKind.wrap .i64 (t48 + (IntKind.wrap .i64 (4 * p0_5))))) (by kernel_rfl) (by kernel_rfl) ?_
              obtain rfl := Option.some.inj h
              exact ⟨rfl, h46.below⟩
            · skip
              refine RunsI.fix 39 false hc43 (by kernel_rfl) (by kernel_rfl) ?_
              refine RunsI.cond false 49 (by kernel_rfl) ?_
              refine RunsI.go 1 [.c 50, .c 51, .blk 0, .c 56] (by kernel_rfl) ?_
              refine RunsI.region (by kernel_rfl) ?_
              refine RegI.pure 2 [1, 2, 48] [(1, .bool p1), (2, .pointer (some ⟨b2, 0, none⟩)), (48, .bool (p0_0 == 2))] (by kernel_rfl) ?_
              refine RegI.done (by kernel_rfl) ?_
              rcases of_cond h with ⟨hc49, h⟩ | ⟨hc49, h⟩
              · skip
                refine RunsI.fix 48 true hc49 (by kernel_rfl) (by kernel_rfl) ?_
                refine RunsI.cond true 52 (by kernel_rfl) ?_
                refine RunsI.region (by kernel_rfl) ?_
                refine RegI.pure 1 [1, 2, 50] [(1, .bool p1), (2, .pointer (some ⟨b2, 0, none⟩)), (50, .pointer (some ⟨b2, 1, none⟩))] (by kernel_rfl) ?_
                refine RegI.op (by kernel_rfl) (OpE.loadBox 51 0 5 b2 1 (.int .u8 p0_1) h38 (by kernel_rfl) (by kernel_rfl) rfl (by kernel_rfl) ?_)
                refine RegI.pure 1 [2, 51, 52] [(2, .pointer (some ⟨b2, 0, none⟩)), (51, .int .u8 p0_1), (52, .bool p1)] (by kernel_rfl) ?_
                obtain ⟨t54, hg53, h⟩ := of_bind h
                refine RegI.op (by kernel_rfl) (OpE.call 53 (by kernel_rfl) 21 #[.int .u8 p0_1, .bool p1] (by kernel_rfl) ((times_ed_21_ok K _ w39  p0_1 p1 h38.old' (h38.get 2 rfl) hg53).mono ?_))
                rintro _ w50 ⟨rfl, hb51⟩
                refine ⟨_, rfl, ?_⟩
                have h52 := h38.call hb51
                refine RegI.pure 1 [2, 5] [(2, .pointer (some ⟨b2, 0, none⟩)), (5, .int .i64 t54)] (by kernel_rfl) ?_
                refine RegI.done (by kernel_rfl) ?_
                refine RunsI.go 2 [.c 57, .c 58] (by kernel_rfl) ?_
                refine RunsI.region (by kernel_rfl) ?_
                refine RegI.pure 2 [54, 55] [(54, .int .i64 t54), (55, .pointer (some ⟨b2, 5, none⟩))] (by kernel_rfl) ?_
                refine RegI.op (by kernel_rfl) (OpE.loadBox 56 0 3 b2 5 (.int .i64 p0_5) h52 (by kernel_rfl) (by kernel_rfl) rfl (by kernel_rfl) ?_)
                refine RegI.pure 3 [4] [(4, .int .i64 (IntKind.wrap .i64 (t54 + (IntKind.wrap .i64 (4 * p0_5)))))] (by kernel_rfl) ?_
                refine RegI.done (by kernel_rfl) ?_
                refine RunsI.ret (.int .i64 (IntKind.wrap .i64 (t54 + (IntKind.wrap .i64 (4 * p0_5))))) (by kernel_rfl) (by kernel_rfl) ?_
                obtain rfl := Option.some.inj h
                exact ⟨rfl, h52.below⟩
              · skip
                refine RunsI.fix 48 false hc49 (by kernel_rfl) (by kernel_rfl) ?_
                refine RunsI.cond false 53 (by kernel_rfl) ?_
                refine RunsI.go 1 [.c 54, .c 55, .blk 0, .c 56] (by kernel_rfl) ?_
                refine RunsI.region (by kernel_rfl) ?_
                refine RegI.pure 1 [4] [(4, .int .i64 0)] (by kernel_rfl) ?_
                refine RegI.done (by kernel_rfl) ?_
                refine RunsI.ret (.int .i64 0) (by kernel_rfl) (by kernel_rfl) ?_
                obtain rfl := Option.some.inj h
                exact ⟨rfl, h38.below⟩
          clear hJ41
          rcases of_cond h with ⟨hc35, h⟩ | ⟨hc35, h⟩
          · skip
            refine RunsI.fix 39 true hc35 (by kernel_rfl) (by kernel_rfl) ?_
            refine RunsI.cond true 41 (by kernel_rfl) ?_
            refine RunsI.go 1 [.c 47, .blk 0, .c 56] (by kernel_rfl) ?_
            refine RunsI.only [1, 2, 17, 39] [(1, .bool p1), (2, .pointer (some ⟨b2, 0, none⟩)), (17, .int .i64 p0_0), (39, .bool true)] (by kernel_rfl) (by kernel_rfl) ?_
            exact hj42 true w23 h (h22.pick [0, 1, 2] (by decide))
          · skip
            refine RunsI.fix 39 false hc35 (by kernel_rfl) (by kernel_rfl) ?_
            refine RunsI.cond false 42 (by kernel_rfl) ?_
            refine RunsI.go 1 [.c 43, .c 44, .c 47, .blk 0, .c 56] (by kernel_rfl) ?_
            refine RunsI.region (by kernel_rfl) ?_
            refine RegI.pure 2 [1, 2, 17, 39] [(1, .bool p1), (2, .pointer (some ⟨b2, 0, none⟩)), (17, .int .i64 p0_0), (39, .bool (p0_0 == 5))] (by kernel_rfl) ?_
            refine RegI.done (by kernel_rfl) ?_
            rcases of_cond h with ⟨hc36, h⟩ | ⟨hc36, h⟩
            · skip
              refine RunsI.fix 39 true hc36 (by kernel_rfl) (by kernel_rfl) ?_
              refine RunsI.cond true 45 (by kernel_rfl) ?_
              refine RunsI.go 1 [.c 47, .blk 0, .c 56] (by kernel_rfl) ?_
              refine RunsI.only [1, 2, 17, 39] [(1, .bool p1), (2, .pointer (some ⟨b2, 0, none⟩)), (17, .int .i64 p0_0), (39, .bool true)] (by kernel_rfl) (by kernel_rfl) ?_
              exact hj42 true w23 h (h22.pick [0, 1, 2] (by decide))
            · skip
              refine RunsI.fix 39 false hc36 (by kernel_rfl) (by kernel_rfl) ?_
              refine RunsI.cond false 46 (by kernel_rfl) ?_
              refine RunsI.region (by kernel_rfl) ?_
              refine RegI.pure 2 [1, 2, 17, 39] [(1, .bool p1), (2, .pointer (some ⟨b2, 0, none⟩)), (17, .int .i64 p0_0), (39, .bool (p0_0 == 6))] (by kernel_rfl) ?_
              refine RegI.done (by kernel_rfl) ?_
              refine RunsI.only [1, 2, 17, 39] [(1, .bool p1), (2, .pointer (some ⟨b2, 0, none⟩)), (17, .int .i64 p0_0), (39, .bool (p0_0 == 6))] (by kernel_rfl) (by kernel_rfl) ?_
              exact hj42 (p0_0 == 6) w23 h (h22.pick [0, 1, 2] (by decide))
      clear hJ25
      rcases of_cond h with ⟨hc20, h⟩ | ⟨hc20, h⟩
      · skip
        refine RunsI.fix 20 true hc20 (by kernel_rfl) (by kernel_rfl) ?_
        refine RunsI.cond true 22 (by kernel_rfl) ?_
        refine RunsI.go 1 [.c 24, .blk 0, .c 56] (by kernel_rfl) ?_
        refine RunsI.only [1, 2, 5, 17, 20] [(1, .bool p1), (2, .pointer (some ⟨b2, 0, none⟩)), (5, .int .i64 t13), (17, .int .i64 p0_0), (20, .bool true)] (by kernel_rfl) (by kernel_rfl) ?_
        exact hj26 true w15 h (h14.pick [0, 1, 2] (by decide))
      · skip
        refine RunsI.fix 20 false hc20 (by kernel_rfl) (by kernel_rfl) ?_
        refine RunsI.cond false 23 (by kernel_rfl) ?_
        refine RunsI.region (by kernel_rfl) ?_
        refine RegI.pure 2 [1, 2, 5, 17, 20] [(1, .bool p1), (2, .pointer (some ⟨b2, 0, none⟩)), (5, .int .i64 t13), (17, .int .i64 p0_0), (20, .bool (p0_0 == 4))] (by kernel_rfl) ?_
        refine RegI.done (by kernel_rfl) ?_
        refine RunsI.only [1, 2, 5, 17, 20] [(1, .bool p1), (2, .pointer (some ⟨b2, 0, none⟩)), (5, .int .i64 t13), (17, .int .i64 p0_0), (20, .bool (p0_0 == 4))] (by kernel_rfl) (by kernel_rfl) ?_
        exact hj26 (p0_0 == 4) w15 h (h14.pick [0, 1, 2] (by decide))
  clear hJ17
  rcases of_cond h with ⟨hc7, h⟩ | ⟨hc7, h⟩
  · skip
    refine RunsI.fix 10 true hc7 (by kernel_rfl) (by kernel_rfl) ?_
    refine RunsI.cond true 8 (by kernel_rfl) ?_
    refine RunsI.region (by kernel_rfl) ?_
    refine RegI.pure 2 [1, 2, 11, 12] [(1, .bool p1), (2, .pointer (some ⟨b2, 0, none⟩)), (11, .int .i64 (rdD tab_0 p0_1)), (12, .pointer (some ⟨b2, 1, none⟩))] (by kernel_rfl) ?_
    refine RegI.op (by kernel_rfl) (OpE.loadBox 13 2 5 b2 1 (.int .u8 p0_1) h3 (by kernel_rfl) (by kernel_rfl) rfl (by kernel_rfl) ?_)
    obtain ⟨t12, hg11, h⟩ := of_bind h
    refine RegI.op (by kernel_rfl) (OpE.call 14 (by kernel_rfl) 18 #[.int .u8 p0_1] (by kernel_rfl) ((times_more_18_ok K _ w1  p0_1 h3.old' hg11).mono ?_))
    rintro _ w8 ⟨rfl, hb9⟩
    refine ⟨_, rfl, ?_⟩
    have h10 := h3.call hb9
    refine RegI.pure 2 [1, 2, 5] [(1, .bool p1), (2, .pointer (some ⟨b2, 0, none⟩)), (5, .int .i64 (IntKind.wrap .i64 ((rdD tab_0 p0_1) + t12)))] (by kernel_rfl) ?_
    refine RegI.done (by kernel_rfl) ?_
    refine RunsI.only [1, 2, 5] [(1, .bool p1), (2, .pointer (some ⟨b2, 0, none⟩)), (5, .int .i64 (IntKind.wrap .i64 ((rdD tab_0 p0_1) + t12)))] (by kernel_rfl) (by kernel_rfl) ?_
    exact hj18 (IntKind.wrap .i64 ((rdD tab_0 p0_1) + t12)) w8 h (h10.pick [2, 0, 1] (by decide))
  · skip
    refine RunsI.fix 10 false hc7 (by kernel_rfl) (by kernel_rfl) ?_
    refine RunsI.cond false 9 (by kernel_rfl) ?_
    refine RunsI.go 1 [.c 10] (by kernel_rfl) ?_
    refine RunsI.only [1, 2, 5] [(1, .bool p1), (2, .pointer (some ⟨b2, 0, none⟩)), (5, .int .i64 (rdD tab_0 p0_1))] (by kernel_rfl) (by kernel_rfl) ?_
    exact hj18 (rdD tab_0 p0_1) w1 h (h3.pick [2, 0, 1] (by decide))
end

/-! ### charabanc/times.Asks (function 11) -/
section
def times_Asks_11.post (M0 : Nat → Prop) (w0 : World) (r : Bool) : Ending → World → Prop := fun e w => e = .returned (.bool r) ∧ Below w0.heap.size w0 w
def times_Asks_11.f (K : Nat) (p0_0 : Int) (p0_1 : Int) (p0_2 : Int) (p0_3 : Int) (p0_4 : Int) (p0_5 : Int) : Option Bool := (times_Of_9.f K p0_0 p0_1 p0_2 p0_3 p0_4 p0_5 true).bind fun t11 => (times_Of_9.f K p0_0 p0_1 p0_2 p0_3 p0_4 p0_5 false).bind fun t13 => some (t11 != t13)
set_option maxRecDepth 100000 in
theorem times_Asks_11_ok (K : Nat) (M0 : Nat → Prop) (w0 : World) (p0_0 : Int) (p0_1 : Int) (p0_2 : Int) (p0_3 : Int) (p0_4 : Int) (p0_5 : Int) (ho : ∀ b, M0 b → b < w0.heap.size) (hG0 : (gl 0 (tab_0.flatMap en_0)).ok w0 M0) (hG1 : (gl 1 (tab_1.flatMap en_1)).ok w0 M0) {r : Bool} (h : times_Asks_11.f K p0_0 p0_1 p0_2 p0_3 p0_4 p0_5 = some r) :
    Calls Tryd.prog 11 #[.agg #[.int .i64 p0_0, .int .u8 p0_1, .int .u8 p0_2, .int .u16 p0_3, .int .i64 p0_4, .int .i64 p0_5]] w0 (times_Asks_11.post M0 w0 r) := by
  unfold times_Asks_11.f at h
  have h0 : Holds M0 w0 w0 [] := Holds.start ho
  have h0g0 := h0.add (gl 0 (tab_0.flatMap en_0)) rfl ⟨hG0.1, fun hm => hG0.2.1 (hm.elim id (fun hm => absurd hm (by simp [mines, sl, gl]))), hG0.2.2⟩
  have h0g1 := h0g0.add (gl 1 (tab_1.flatMap en_1)) rfl ⟨hG1.1, fun hm => hG1.2.1 (hm.elim id (fun hm => absurd hm (by simp [mines, sl, gl]))), hG1.2.2⟩
  have h0 : Holds M0 w0 w0 [gl 0 (tab_0.flatMap en_0), gl 1 (tab_1.flatMap en_1)] := h0g1
  refine calls_of F11 rfl [.agg #[.int .i64 p0_0, .int .u8 p0_1, .int .u8 p0_2, .int .u16 p0_3, .int .i64 p0_4, .int .i64 p0_5]] (by kernel_rfl) ?_
  refine RunsI.go 1 [.c 1, .c 2] (by kernel_rfl) ?_
  refine RunsI.region (by kernel_rfl) ?_
  refine RegI.op (by kernel_rfl) (OpE.box 1 24 [.int .i64 p0_0, .int .u8 p0_1, .int .u8 p0_2, .int .u16 p0_3, .int .i64 p0_4, .int .i64 p0_5] h0 (by kernel_rfl) (by kernel_rfl) ?_)
  intro w1 b2 h3 hb4 hn5
  refine RegI.pure 1 [1] [(1, .pointer (some ⟨b2, 0, none⟩))] (by kernel_rfl) ?_
  refine RegI.done (by kernel_rfl) ?_
  refine RunsI.go 1 [.c 3, .c 4] (by kernel_rfl) ?_
  refine RunsI.any 6 (by kernel_rfl) (by kernel_rfl) (by kernel_rfl) (Kp ([] : List Nat) (World.drew w1)) ?_
  have h7 := h3.drew
  generalize World.drew w1 = w6 at h7 ⊢
  have hS8 := Kp.refl ([] : List Nat) w6
  refine AnyE.loadBox 0 3 2 24 b2 0 (.agg #[.int .i64 p0_0, .int .u8 p0_1, .int .u8 p0_2, .int .u16 p0_3, .int .i64 p0_4, .int .i64 p0_5]) [] h7 rfl (by kernel_rfl) hS8 rfl rfl (by kernel_rfl) (by kernel_rfl) ?_
  obtain ⟨t11, hg10, h⟩ := of_bind h
  refine AnyE.call 1 4 (.int .i64 t11) 9 #[.agg #[.int .i64 p0_0, .int .u8 p0_1, .int .u8 p0_2, .int .u16 p0_3, .int .i64 p0_4, .int .i64 p0_5], .bool true] (by kernel_rfl) hS8 (fun _ => by kernel_rfl) (fun w hk => times_Of_9_ok K (fun _ => False) w p0_0 p0_1 p0_2 p0_3 p0_4 p0_5 true (fun _ hf => hf.elim) ⟨(h7.atI [] rfl hk 0 rfl rfl).1, fun hf => hf.elim, (h7.atI [] rfl hk 0 rfl rfl).2.2⟩ ⟨(h7.atI [] rfl hk 1 rfl rfl).1, fun hf => hf.elim, (h7.atI [] rfl hk 1 rfl rfl).2.2⟩ hg10) ?_
  refine AnyE.loadBox 2 5 2 24 b2 0 (.agg #[.int .i64 p0_0, .int .u8 p0_1, .int .u8 p0_2, .int .u16 p0_3, .int .i64 p0_4, .int .i64 p0_5]) [] h7 rfl (by kernel_rfl) hS8 rfl rfl (by kernel_rfl) (by kernel_rfl) ?_
  obtain ⟨t13, hg12, h⟩ := of_bind h
  refine AnyE.call 3 6 (.int .i64 t13) 9 #[.agg #[.int .i64 p0_0, .int .u8 p0_1, .int .u8 p0_2, .int .u16 p0_3, .int .i64 p0_4, .int .i64 p0_5], .bool false] (by kernel_rfl) hS8 (fun _ => by kernel_rfl) (fun w hk => times_Of_9_ok K (fun _ => False) w p0_0 p0_1 p0_2 p0_3 p0_4 p0_5 false (fun _ hf => hf.elim) ⟨(h7.atI [] rfl hk 0 rfl rfl).1, fun hf => hf.elim, (h7.atI [] rfl hk 0 rfl rfl).2.2⟩ ⟨(h7.atI [] rfl hk 1 rfl rfl).1, fun hf => hf.elim, (h7.atI [] rfl hk 1 rfl rfl).2.2⟩ hg12) ?_
  refine AnyE.pure 4 7 (.bool (t11 != t13)) (by kernel_rfl) hS8 (fun _ => by kernel_rfl) ?_
  refine AnyE.pure 5 2 (.bool (t11 != t13)) (by kernel_rfl) hS8 (fun _ => by kernel_rfl) ?_
  refine AnyE.done (by kernel_rfl) (fun w14 hu15 => ?_)
  have h16 := h7.call hu15
  refine RunsI.only [2] [(2, .bool (t11 != t13))] (by kernel_rfl) (by kernel_rfl) ?_
  refine RunsI.ret (.bool (t11 != t13)) (by kernel_rfl) (by kernel_rfl) ?_
  obtain rfl := Option.some.inj h
  exact ⟨rfl, h16.below⟩
end

/-! ### charabanc/bits.Word (function 44) -/
section
def bits_Word_44.post (M0 : Nat → Prop) (w0 : World) (r : Int) : Ending → World → Prop := fun e w => e = .returned (.int .u16 r) ∧ Below w0.heap.size w0 w
def bits_Word_44.f (K : Nat) (p0 : Int) (p1 : Int) : Option Int := some (bor .u16 (IntKind.wrap .u16 ((IntKind.wrap .u16 p0) * 2 ^ 8)) (IntKind.wrap .u16 p1))
set_option maxRecDepth 100000 in
theorem bits_Word_44_ok (K : Nat) (M0 : Nat → Prop) (w0 : World) (p0 : Int) (p1 : Int) (ho : ∀ b, M0 b → b < w0.heap.size) {r : Int} (h : bits_Word_44.f K p0 p1 = some r) :
    Calls Tryd.prog 44 #[.int .u8 p0, .int .u8 p1] w0 (bits_Word_44.post M0 w0 r) := by
  unfold bits_Word_44.f at h
  have h0 : Holds M0 w0 w0 [] := Holds.start ho
  have h0 : Holds M0 w0 w0 [] := h0
  refine calls_of F44 rfl [.int .u8 p0, .int .u8 p1] (by kernel_rfl) ?_
  refine RunsI.go 1 [.c 1, .c 2] (by kernel_rfl) ?_
  refine RunsI.region (by kernel_rfl) ?_
  refine RegI.pure 1 [0, 1] [(0, .int .u8 p0), (1, .int .u8 p1)] (by kernel_rfl) ?_
  refine RegI.done (by kernel_rfl) ?_
  refine RunsI.go 1 [.c 3, .c 4] (by kernel_rfl) ?_
  refine RunsI.region (by kernel_rfl) ?_
  refine RegI.pure 7 [4] [(4, .int .u16 (bor .u16 (IntKind.wrap .u16 ((IntKind.wrap .u16 p0) * 2 ^ 8)) (IntKind.wrap .u16 p1)))] (by kernel_rfl) ?_
  refine RegI.done (by kernel_rfl) ?_
  refine RunsI.ret (.int .u16 (bor .u16 (IntKind.wrap .u16 ((IntKind.wrap .u16 p0) * 2 ^ 8)) (IntKind.wrap .u16 p1))) (by kernel_rfl) (by kernel_rfl) ?_
  obtain rfl := Option.some.inj h
  exact ⟨rfl, h0.below⟩
end

/-! ### charabanc/decode.plain (function 45) -/
section
def decode_plain_45.post (M0 : Nat → Prop) (w0 : World) (r : Int) : Ending → World → Prop := fun e w => e = .returned (.int .i64 r) ∧ Below w0.heap.size w0 w
def decode_plain_45.f (K : Nat) (p0 : Int) (p1 : Int) (p2 : Int) : Option Int := Let (fun (t24 : Bool) => cond t24 (some 2) (Let (fun (t34 : Bool) => cond t34 (some 2) (cond ((p0, p2) == (0, 0)) (cond (inR p1 8) (some (rdD ([0, 0, 1, 1, 1, 1, 1, 1] : List Int) p1)) none) (cond ((p0, p2) == (0, 2)) (cond (inR p1 8) (some (rdD ([0, 0, 0, 0, 2, 2, 2, 2] : List Int) p1)) none) (cond ((p0, p2) == (0, 6)) (cond (inR p1 8) (some (rdD ([1, 1, 1, 1, 1, 1, 1, 1] : List Int) p1)) none) (cond ((p0, p2) == (3, 2)) (cond (inR p1 8) (some (rdD ([2, 2, 2, 2, 2, 2, 2, 2] : List Int) p1)) none) (cond ((p0, p2) == (3, 3)) (cond (inR p1 8) (some (rdD ([2, 0, 1, 1, 0, 0, 0, 0] : List Int) p1)) none) (cond ((p0, p2) == (3, 4)) (cond (inR p1 8) (some (rdD ([2, 2, 2, 2, 2, 2, 2, 2] : List Int) p1)) none) (cond ((p0, p2) == (3, 6)) (cond (inR p1 8) (some (rdD ([1, 1, 1, 1, 1, 1, 1, 1] : List Int) p1)) none) (cond (inR p1 8) (some (rdD ([0, 0, 0, 0, 0, 0, 0, 0] : List Int) p1)) none))))))))) (fun j37 => cond (p0 == 3) (cond (p2 == 5) (cond ((band .i64 p1 1) == 1) (j37 ((Int.fdiv p1 (2 ^ 1)) == 0)) (j37 false)) (j37 false)) (j37 false)))) (fun j27 => cond (p0 == 0) (cond (p2 == 1) (j27 ((band .i64 p1 1) == 0)) (j27 false)) (j27 false))
set_option maxRecDepth 100000 in
theorem decode_plain_45_ok (K : Nat) (M0 : Nat → Prop) (w0 : World) (p0 : Int) (p1 : Int) (p2 : Int) (ho : ∀ b, M0 b → b < w0.heap.size) {r : Int} (h : decode_plain_45.f K p0 p1 p2 = some r) :
    Calls Tryd.prog 45 #[.int .i64 p0, .int .i64 p1, .int .i64 p2] w0 (decode_plain_45.post M0 w0 r) := by
  unfold decode_plain_45.f at h
  have h0 : Holds M0 w0 w0 [] := Holds.start ho
  have h0 : Holds M0 w0 w0 [] := h0
  refine calls_of F45 rfl [.int .i64 p0, .int .i64 p1, .int .i64 p2] (by kernel_rfl) ?_
  refine RunsI.go 1 [.c 1, .c 2] (by kernel_rfl) ?_
  refine RunsI.region (by kernel_rfl) ?_
  refine RegI.pure 1 [0, 1, 2] [(0, .int .i64 p0), (1, .int .i64 p1), (2, .int .i64 p2)] (by kernel_rfl) ?_
  refine RegI.done (by kernel_rfl) ?_
  refine RunsI.go 1 [.c 3, .c 4] (by kernel_rfl) ?_
  refine RunsI.region (by kernel_rfl) ?_
  refine RegI.pure 6 [0, 1, 2, 7, 8] [(0, .int .i64 p0), (1, .int .i64 p1), (2, .int .i64 p2), (7, .int .i64 (Int.fdiv p1 (2 ^ 1))), (8, .int .i64 (band .i64 p1 1))] (by kernel_rfl) ?_
  refine RegI.done (by kernel_rfl) ?_
  refine RunsI.go 1 [.c 5, .c 6] (by kernel_rfl) ?_
  refine RunsI.any 24 (by kernel_rfl) (by kernel_rfl) (by kernel_rfl) (Kp ([] : List Nat) (World.drew w0)) ?_
  have h2 := h0.drew
  generalize World.drew w0 = w1 at h2 ⊢
  have hS3 := Kp.refl ([] : List Nat) w1
  refine AnyE.pure 1 15 (.agg #[.int .i64 0, .int .i64 0]) (by kernel_rfl) hS3 (fun _ => by kernel_rfl) ?_
  refine AnyE.pure 2 16 (.agg (List.flatMap (fun (x : Int) => ([.int .i64 x] : List Value)) ([0, 0, 1, 1, 1, 1, 1, 1] : List Int)).toArray) (by kernel_rfl) hS3 (fun _ => by kernel_rfl) ?_
  refine AnyE.pure 4 17 (.agg #[.int .i64 0, .int .i64 2]) (by kernel_rfl) hS3 (fun _ => by kernel_rfl) ?_
  refine AnyE.pure 5 18 (.agg (List.flatMap (fun (x : Int) => ([.int .i64 x] : List Value)) ([0, 0, 0, 0, 2, 2, 2, 2] : List Int)).toArray) (by kernel_rfl) hS3 (fun _ => by kernel_rfl) ?_
  refine AnyE.pure 7 19 (.agg #[.int .i64 0, .int .i64 6]) (by kernel_rfl) hS3 (fun _ => by kernel_rfl) ?_
  refine AnyE.pure 8 20 (.agg (List.flatMap (fun (x : Int) => ([.int .i64 x] : List Value)) ([1, 1, 1, 1, 1, 1, 1, 1] : List Int)).toArray) (by kernel_rfl) hS3 (fun _ => by kernel_rfl) ?_
  refine AnyE.pure 10 21 (.agg #[.int .i64 3, .int .i64 2]) (by kernel_rfl) hS3 (fun _ => by kernel_rfl) ?_
  refine AnyE.pure 11 22 (.agg (List.flatMap (fun (x : Int) => ([.int .i64 x] : List Value)) ([2, 2, 2, 2, 2, 2, 2, 2] : List Int)).toArray) (by kernel_rfl) hS3 (fun _ => by kernel_rfl) ?_
  refine AnyE.pure 13 23 (.agg #[.int .i64 3, .int .i64 3]) (by kernel_rfl) hS3 (fun _ => by kernel_rfl) ?_
  refine AnyE.pure 14 24 (.agg (List.flatMap (fun (x : Int) => ([.int .i64 x] : List Value)) ([2, 0, 1, 1, 0, 0, 0, 0] : List Int)).toArray) (by kernel_rfl) hS3 (fun _ => by kernel_rfl) ?_
  refine AnyE.pure 16 25 (.agg #[.int .i64 3, .int .i64 4]) (by kernel_rfl) hS3 (fun _ => by kernel_rfl) ?_
  refine AnyE.pure 17 26 (.agg (List.flatMap (fun (x : Int) => ([.int .i64 x] : List Value)) ([2, 2, 2, 2, 2, 2, 2, 2] : List Int)).toArray) (by kernel_rfl) hS3 (fun _ => by kernel_rfl) ?_
  refine AnyE.pure 19 27 (.agg #[.int .i64 3, .int .i64 6]) (by kernel_rfl) hS3 (fun _ => by kernel_rfl) ?_
  refine AnyE.pure 20 28 (.agg (List.flatMap (fun (x : Int) => ([.int .i64 x] : List Value)) ([1, 1, 1, 1, 1, 1, 1, 1] : List Int)).toArray) (by kernel_rfl) hS3 (fun _ => by kernel_rfl) ?_
  refine AnyE.one 0 (by kernel_rfl) (fun w5 hu6 => ?_)
  have h7 := h2.call hu6
  have hS8 := hS3.up hu6
  refine OpE.makeMap 14 (ekP .i64) (fun (v : Value) => v) h7 (by kernel_rfl) (by kernel_rfl) ?_
  intro w9 b10 h11 hb12 hn13
  have hn14 := Nat.le_trans hS8.1 hn13
  have hS15 := hS8.up hb12
  refine ⟨hS15, ?_⟩
  refine AnyE.stores (ek := (ekP .i64)) (ev := (fun (v : Value) => v)) 0 2 74 73 51 b10 ([] : List ((Int × Int) × Value)) [(3, (0, 0), .agg (List.flatMap (fun (x : Int) => ([.int .i64 x] : List Value)) ([0, 0, 1, 1, 1, 1, 1, 1] : List Int)).toArray), (6, (0, 2), .agg (List.flatMap (fun (x : Int) => ([.int .i64 x] : List Value)) ([0, 0, 0, 0, 2, 2, 2, 2] : List Int)).toArray), (9, (0, 6), .agg (List.flatMap (fun (x : Int) => ([.int .i64 x] : List Value)) ([1, 1, 1, 1, 1, 1, 1, 1] : List Int)).toArray), (12, (3, 2), .agg (List.flatMap (fun (x : Int) => ([.int .i64 x] : List Value)) ([2, 2, 2, 2, 2, 2, 2, 2] : List Int)).toArray), (15, (3, 3), .agg (List.flatMap (fun (x : Int) => ([.int .i64 x] : List Value)) ([2, 0, 1, 1, 0, 0, 0, 0] : List Int)).toArray), (18, (3, 4), .agg (List.flatMap (fun (x : Int) => ([.int .i64 x] : List Value)) ([2, 2, 2, 2, 2, 2, 2, 2] : List Int)).toArray), (21, (3, 6), .agg (List.flatMap (fun (x : Int) => ([.int .i64 x] : List Value)) ([1, 1, 1, 1, 1, 1, 1, 1] : List Int)).toArray)] h11 rfl hS15 (fun x hx => .inr (by rw [List.mem_singleton.1 hx]; exact hn14)) (by kernel_rfl) (KeyOk.pair .i64 (E := 3) (q := .i64) (by kernel_rfl) (by kernel_rfl) (by kernel_rfl)) (by kernel_rfl) (by kernel_rfl) (by decide) (by decide) (by kernel_rfl) (by kernel_rfl) [((0, 0), .agg (List.flatMap (fun (x : Int) => ([.int .i64 x] : List Value)) ([0, 0, 1, 1, 1, 1, 1, 1] : List Int)).toArray), ((0, 2), .agg (List.flatMap (fun (x : Int) => ([.int .i64 x] : List Value)) ([0, 0, 0, 0, 2, 2, 2, 2] : List Int)).toArray), ((0, 6), .agg (List.flatMap (fun (x : Int) => ([.int .i64 x] : List Value)) ([1, 1, 1, 1, 1, 1, 1, 1] : List Int)).toArray), ((3, 2), .agg (List.flatMap (fun (x : Int) => ([.int .i64 x] : List Value)) ([2, 2, 2, 2, 2, 2, 2, 2] : List Int)).toArray), ((3, 3), .agg (List.flatMap (fun (x : Int) => ([.int .i64 x] : List Value)) ([2, 0, 1, 1, 0, 0, 0, 0] : List Int)).toArray), ((3, 4), .agg (List.flatMap (fun (x : Int) => ([.int .i64 x] : List Value)) ([2, 2, 2, 2, 2, 2, 2, 2] : List Int)).toArray), ((3, 6), .agg (List.flatMap (fun (x : Int) => ([.int .i64 x] : List Value)) ([1, 1, 1, 1, 1, 1, 1, 1] : List Int)).toArray)] (by kernel_rfl) [3, 6, 9, 12, 15, 18, 21, 0, 20, 19, 17, 16, 14, 13, 11, 10, 8, 7, 5, 4, 2, 1] (by kernel_rfl) ?_
  intro w16 h17 hS18
  refine AnyE.pure 22 29 (.map (some b10)) (by kernel_rfl) hS18 (fun _ => by kernel_rfl) ?_
  refine AnyE.pure 23 9 (.map (some b10)) (by kernel_rfl) hS18 (fun _ => by kernel_rfl) ?_
  refine AnyE.done (by kernel_rfl) (fun w19 hu20 => ?_)
  have h21 := h17.call hu20
  refine RunsI.only [0, 1, 2, 7, 8, 9] [(0, .int .i64 p0), (1, .int .i64 p1), (2, .int .i64 p2), (7, .int .i64 (Int.fdiv p1 (2 ^ 1))), (8, .int .i64 (band .i64 p1 1)), (9, .map (some b10))] (by kernel_rfl) (by kernel_rfl) ?_
  refine RunsI.go 3 [.c 9, .c 10, .blk 0, .c 21] (by kernel_rfl) ?_
  refine RunsI.region (by kernel_rfl) ?_
  refine RegI.pure 3 [0, 1, 2, 7, 8, 9, 33] [(0, .int .i64 p0), (1, .int .i64 p1), (2, .int .i64 p2), (7, .int .i64 (Int.fdiv p1 (2 ^ 1))), (8, .int .i64 (band .i64 p1 1)), (9, .map (some b10)), (33, .bool (p0 == 0))] (by kernel_rfl) ?_
  obtain ⟨j27, hJ28, h⟩ := of_let h
  have hj29 : ∀ (t24 : Bool) (w26 : World), j27 t24 = some r → Holds M0 w0 w26 [mp (ekP .i64) (fun (v : Value) => v) b10 [((0, 0), .agg (List.flatMap (fun (x : Int) => ([.int .i64 x] : List Value)) ([0, 0, 1, 1, 1, 1, 1, 1] : List Int)).toArray), ((0, 2), .agg (List.flatMap (fun (x : Int) => ([.int .i64 x] : List Value)) ([0, 0, 0, 0, 2, 2, 2, 2] : List Int)).toArray), ((0, 6), .agg (List.flatMap (fun (x : Int) => ([.int .i64 x] : List Value)) ([1, 1, 1, 1, 1, 1, 1, 1] : List Int)).toArray), ((3, 2), .agg (List.flatMap (fun (x : Int) => ([.int .i64 x] : List Value)) ([2, 2, 2, 2, 2, 2, 2, 2] : List Int)).toArray), ((3, 3), .agg (List.flatMap (fun (x : Int) => ([.int .i64 x] : List Value)) ([2, 0, 1, 1, 0, 0, 0, 0] : List Int)).toArray), ((3, 4), .agg (List.flatMap (fun (x : Int) => ([.int .i64 x] : List Value)) ([2, 2, 2, 2, 2, 2, 2, 2] : List Int)).toArray), ((3, 6), .agg (List.flatMap (fun (x : Int) => ([.int .i64 x] : List Value)) ([1, 1, 1, 1, 1, 1, 1, 1] : List Int)).toArray)]] → RegI F45 9 [.c 10, .blk 0, .c 21] 11 [(0, .int .i64 p0), (1, .int .i64 p1), (2, .int .i64 p2), (7, .int .i64 (Int.fdiv p1 (2 ^ 1))), (8, .int .i64 (band .i64 p1 1)), (9, .map (some b10)), (30, .bool t24)] w26 (decode_plain_45.post M0 w0 r) := by
    intro t24 w26 h h25
    rw [hJ28] at h
    clear hJ28
    dsimp only at h
    refine RegI.done (by kernel_rfl) ?_
    rcases of_cond h with ⟨hc30, h⟩ | ⟨hc30, h⟩
    · skip
      refine RunsI.fix 30 true hc30 (by kernel_rfl) (by kernel_rfl) ?_
      refine RunsI.cond true 11 (by kernel_rfl) ?_
      refine RunsI.go 1 [.c 12, .c 13, .blk 0, .c 21] (by kernel_rfl) ?_
      refine RunsI.region (by kernel_rfl) ?_
      refine RegI.pure 1 [6] [(6, .int .i64 2)] (by kernel_rfl) ?_
      refine RegI.done (by kernel_rfl) ?_
      refine RunsI.ret (.int .i64 2) (by kernel_rfl) (by kernel_rfl) ?_
      obtain rfl := Option.some.inj h
      exact ⟨rfl, h25.below⟩
    · skip
      refine RunsI.fix 30 false hc30 (by kernel_rfl) (by kernel_rfl) ?_
      refine RunsI.cond false 14 (by kernel_rfl) ?_
      refine RunsI.go 1 [.c 15, .c 16, .blk 0, .c 21] (by kernel_rfl) ?_
      refine RunsI.region (by kernel_rfl) ?_
      refine RegI.pure 3 [0, 1, 2, 7, 8, 9, 44] [(0, .int .i64 p0), (1, .int .i64 p1), (2, .int .i64 p2), (7, .int .i64 (Int.fdiv p1 (2 ^ 1))), (8, .int .i64 (band .i64 p1 1)), (9, .map (some b10)), (44, .bool (p0 == 3))] (by kernel_rfl) ?_
      obtain ⟨j37, hJ38, h⟩ := of_let h
      have hj39 : ∀ (t34 : Bool) (w36 : World), j37 t34 = some r → Holds M0 w0 w36 [mp (ekP .i64) (fun (v : Value) => v) b10 [((0, 0), .agg (List.flatMap (fun (x : Int) => ([.int .i64 x] : List Value)) ([0, 0, 1, 1, 1, 1, 1, 1] : List Int)).toArray), ((0, 2), .agg (List.flatMap (fun (x : Int) => ([.int .i64 x] : List Value)) ([0, 0, 0, 0, 2, 2, 2, 2] : List Int)).toArray), ((0, 6), .agg (List.flatMap (fun (x : Int) => ([.int .i64 x] : List Value)) ([1, 1, 1, 1, 1, 1, 1, 1] : List Int)).toArray), ((3, 2), .agg (List.flatMap (fun (x : Int) => ([.int .i64 x] : List Value)) ([2, 2, 2, 2, 2, 2, 2, 2] : List Int)).toArray), ((3, 3), .agg (List.flatMap (fun (x : Int) => ([.int .i64 x] : List Value)) ([2, 0, 1, 1, 0, 0, 0, 0] : List Int)).toArray), ((3, 4), .agg (List.flatMap (fun (x : Int) => ([.int .i64 x] : List Value)) ([2, 2, 2, 2, 2, 2, 2, 2] : List Int)).toArray), ((3, 6), .agg (List.flatMap (fun (x : Int) => ([.int .i64 x] : List Value)) ([1, 1, 1, 1, 1, 1, 1, 1] : List Int)).toArray)]] → RegI F45 15 [.c 16, .blk 0, .c 21] 15 [(0, .int .i64 p0), (1, .int .i64 p1), (2, .int .i64 p2), (9, .map (some b10)), (41, .bool t34)] w36 (decode_plain_45.post M0 w0 r) := by
        intro t34 w36 h h35
        rw [hJ38] at h
        clear hJ38
        dsimp only at h
        refine RegI.done (by kernel_rfl) ?_
        rcases of_cond h with ⟨hc40, h⟩ | ⟨hc40, h⟩
        · skip
          refine RunsI.fix 41 true hc40 (by kernel_rfl) (by kernel_rfl) ?_
          refine RunsI.cond true 17 (by kernel_rfl) ?_
          refine RunsI.go 1 [.c 18, .c 19, .blk 0, .c 21] (by kernel_rfl) ?_
          refine RunsI.region (by kernel_rfl) ?_
          refine RegI.pure 1 [6] [(6, .int .i64 2)] (by kernel_rfl) ?_
          refine RegI.done (by kernel_rfl) ?_
          refine RunsI.ret (.int .i64 2) (by kernel_rfl) (by kernel_rfl) ?_
          obtain rfl := Option.some.inj h
          exact ⟨rfl, h35.below⟩
        · skip
          refine RunsI.fix 41 false hc40 (by kernel_rfl) (by kernel_rfl) ?_
          refine RunsI.cond false 20 (by kernel_rfl) ?_
          refine RunsI.go 1 [.blk 0, .c 21] (by kernel_rfl) ?_
          refine RunsI.go 2 [.c 22, .c 23] (by kernel_rfl) ?_
          refine RunsI.region (by kernel_rfl) ?_
          refine RegI.pure 4 [1, 56, 59] [(1, .int .i64 p1), (56, .map (some b10)), (59, .agg #[.int .i64 p0, .int .i64 p2])] (by kernel_rfl) ?_
          rcases of_cond h with ⟨hc41, h⟩ | ⟨hc41, h⟩
          · skip
            refine RegI.op (by kernel_rfl) (OpE.lookup (ek := (ekP .i64)) (ev := (fun (v : Value) => v)) (zv := .agg #[.int .i64 0, .int .i64 0, .int .i64 0, .int .i64 0, .int .i64 0, .int .i64 0, .int .i64 0, .int .i64 0]) 60 0 74 73 51 (p0, p2) (.agg (List.flatMap (fun (x : Int) => ([.int .i64 x] : List Value)) ([0, 0, 1, 1, 1, 1, 1, 1] : List Int)).toArray) false h35 (by kernel_rfl) rfl (by kernel_rfl) rfl (by kernel_rfl) (KeyOk.pair .i64 (E := 3) (q := .i64) (by kernel_rfl) (by kernel_rfl) (by kernel_rfl)) (fun _ => by kernel_rfl) (by simp only [findK, hc41, cond_true, cond_false, Option.map_some, Option.map_none, Option.getD_some, Option.getD_none, Option.isSome_some, Option.isSome_none]) ?_)
            refine RegI.pure 1 [60, 61] [(60, .agg (List.flatMap (fun (x : Int) => ([.int .i64 x] : List Value)) ([0, 0, 1, 1, 1, 1, 1, 1] : List Int)).toArray), (61, .int .i64 p1)] (by kernel_rfl) ?_
            obtain ⟨hc42, h⟩ := of_cond0 h
            refine RegI.op (by kernel_rfl) (OpE.run 62 (by kernel_rfl) (run_indexTab (T0 := 51) (en := (fun (x : Int) => ([.int .i64 x] : List Value))) (tab := ([0, 0, 1, 1, 1, 1, 1, 1] : List Int)) (len := 8) (sz := 1) (j := p1) (v := .int .i64 (rdD ([0, 0, 1, 1, 1, 1, 1, 1] : List Int) p1)) (fun _ => rfl) (by kernel_rfl) (by kernel_rfl) rfl hc42 (fun _ => by kernel_rfl)) ?_)
            refine RegI.pure 1 [6] [(6, .int .i64 (rdD ([0, 0, 1, 1, 1, 1, 1, 1] : List Int) p1))] (by kernel_rfl) ?_
            refine RegI.done (by kernel_rfl) ?_
            refine RunsI.ret (.int .i64 (rdD ([0, 0, 1, 1, 1, 1, 1, 1] : List Int) p1)) (by kernel_rfl) (by kernel_rfl) ?_
            obtain rfl := Option.some.inj h
            exact ⟨rfl, h35.below⟩
          · skip
            rcases of_cond h with ⟨hc43, h⟩ | ⟨hc43, h⟩
            · skip
              refine RegI.op (by kernel_rfl) (OpE.lookup (ek := (ekP .i64)) (ev := (fun (v : Value) => v)) (zv := .agg #[.int .i64 0, .int .i64 0, .int .i64 0, .int .i64 0, .int .i64 0, .int .i64 0, .int .i64 0, .int .i64 0]) 60 0 74 73 51 (p0, p2) (.agg (List.flatMap (fun (x : Int) => ([.int .i64 x] : List Value)) ([0, 0, 0, 0, 2, 2, 2, 2] : List Int)).toArray) false h35 (by kernel_rfl) rfl (by kernel_rfl) rfl (by kernel_rfl) (KeyOk.pair .i64 (E := 3) (q := .i64) (by kernel_rfl) (by kernel_rfl) (by kernel_rfl)) (fun _ => by kernel_rfl) (by simp only [findK, hc41, hc43, cond_true, cond_false, Option.map_some, Option.map_none, Option.getD_some, Option.getD_none, Option.isSome_some, Option.isSome_none]) ?_)
              refine RegI.pure 1 [60, 61] [(60, .agg (List.flatMap (fun (x : Int) => ([.int .i64 x] : List Value)) ([0, 0, 0, 0, 2, 2, 2, 2] : List Int)).toArray), (61, .int .i64 p1)] (by kernel_rfl) ?_
              obtain ⟨hc44, h⟩ := of_cond0 h
              refine RegI.op (by kernel_rfl) (OpE.run 62 (by kernel_rfl) (run_indexTab (T0 := 51) (en := (fun (x : Int) => ([.int .i64 x] : List Value))) (tab := ([0, 0, 0, 0, 2, 2, 2, 2] : List Int)) (len := 8) (sz := 1) (j := p1) (v := .int .i64 (rdD ([0, 0, 0, 0, 2, 2, 2, 2] : List Int) p1)) (fun _ => rfl) (by kernel_rfl) (by kernel_rfl) rfl hc44 (fun _ => by kernel_rfl)) ?_)
              refine RegI.pure 1 [6] [(6, .int .i64 (rdD ([0, 0, 0, 0, 2, 2, 2, 2] : List Int) p1))] (by kernel_rfl) ?_
              refine RegI.done (by kernel_rfl) ?_
              refine RunsI.ret (.int .i64 (rdD ([0, 0, 0, 0, 2, 2, 2, 2] : List Int) p1)) (by kernel_rfl) (by kernel_rfl) ?_
              obtain rfl := Option.some.inj h
              exact ⟨rfl, h35.below⟩
            · skip
              rcases of_cond h with ⟨hc45, h⟩ | ⟨hc45, h⟩
              · skip
                refine RegI.op (by kernel_rfl) (OpE.lookup (ek := (ekP .i64)) (ev := (fun (v : Value) => v)) (zv := .agg #[.int .i64 0, .int .i64 0, .int .i64 0, .int .i64 0, .int .i64 0, .int .i64 0, .int .i64 0, .int .i64 0]) 60 0 74 73 51 (p0, p2) (.agg (List.flatMap (fun (x : Int) => ([.int .i64 x] : List Value)) ([1, 1, 1, 1, 1, 1, 1, 1] : List Int)).toArray) false h35 (by kernel_rfl) rfl (by kernel_rfl) rfl (by kernel_rfl) (KeyOk.pair .i64 (E := 3) (q := .i64) (by kernel_rfl) (by kernel_rfl) (by kernel_rfl)) (fun _ => by kernel_rfl) (by simp only [findK, hc41, hc43, hc45, cond_true, cond_false, Option.map_some, Option.map_none, Option.getD_some, Option.getD_none, Option.isSome_some, Option.isSome_none]) ?_)
                refine RegI.pure 1 [60, 61] [(60, .agg (List.flatMap (fun (x : Int) => ([.int .i64 x] : List Value)) ([1, 1, 1, 1, 1, 1, 1, 1] : List Int)).toArray), (61, .int .i64 p1)] (by kernel_rfl) ?_
                obtain ⟨hc46, h⟩ := of_cond0 h
                refine RegI.op (by kernel_rfl) (OpE.run 62 (by kernel_rfl) (run_indexTab (T0 := 51) (en := (fun (x : Int) => ([.int .i64 x] : List Value))) (tab := ([1, 1, 1, 1, 1, 1, 1, 1] : List Int)) (len := 8) (sz := 1) (j := p1) (v := .int .i64 (rdD ([1, 1, 1, 1, 1, 1, 1, 1] : List Int) p1)) (fun _ => rfl) (by kernel_rfl) (by kernel_rfl) rfl hc46 (fun _ => by kernel_rfl)) ?_)
                refine RegI.pure 1 [6] [(6, .int .i64 (rdD ([1, 1, 1, 1, 1, 1, 1, 1] : List Int) p1))] (by kernel_rfl) ?_
                refine RegI.done (by kernel_rfl) ?_
                refine RunsI.ret (.int .i64 (rdD ([1, 1, 1, 1, 1, 1, 1, 1] : List Int) p1)) (by kernel_rfl) (by kernel_rfl) ?_
                obtain rfl := Option.some.inj h
                exact ⟨rfl, h35.below⟩
              · skip
                rcases of_cond h with ⟨hc47, h⟩ | ⟨hc47, h⟩
                · skip
                  refine RegI.op (by kernel_rfl) (OpE.lookup (ek := (ekP .i64)) (ev := (fun (v : Value) => v)) (zv := .agg #[.int .i64 0, .int .i64 0, .int .i64 0, .int .i64 0, .int .i64 0, .int .i64 0, .int .i64 0, .int .i64 0]) 60 0 74 73 51 (p0, p2) (.agg (List.flatMap (fun (x : Int) => ([.int .i64 x] : List Value)) ([2, 2, 2, 2, 2, 2, 2, 2] : List Int)).toArray) false h35 (by kernel_rfl) rfl (by kernel_rfl) rfl (by kernel_rfl) (KeyOk.pair .i64 (E := 3) (q := .i64) (by kernel_rfl) (by kernel_rfl) (by kernel_rfl)) (fun _ => by kernel_rfl) (by simp only [findK, hc41, hc43, hc45, hc47, cond_true, cond_false, Option.map_some, Option.map_none, Option.getD_some, Option.getD_none, Option.isSome_some, Option.isSome_none]) ?_)
                  refine RegI.pure 1 [60, 61] [(60, .agg (List.flatMap (fun (x : Int) => ([.int .i64 x] : List Value)) ([2, 2, 2, 2, 2, 2, 2, 2] : List Int)).toArray), (61, .int .i64 p1)] (by kernel_rfl) ?_
                  obtain ⟨hc48, h⟩ := of_cond0 h
                  refine RegI.op (by kernel_rfl) (OpE.run 62 (by kernel_rfl) (run_indexTab (T0 := 51) (en := (fun (x : Int) => ([.int .i64 x] : List Value))) (tab := ([2, 2, 2, 2, 2, 2, 2, 2] : List Int)) (len := 8) (sz := 1) (j := p1) (v := .int .i64 (rdD ([2, 2, 2, 2, 2, 2, 2, 2] : List Int) p1)) (fun _ => rfl) (by kernel_rfl) (by kernel_rfl) rfl hc48 (fun _ => by kernel_rfl)) ?_)
                  refine RegI.pure 1 [6] [(6, .int .i64 (rdD ([2, 2, 2, 2, 2, 2, 2, 2] : List Int) p1))] (by kernel_rfl) ?_
                  refine RegI.done (by kernel_rfl) ?_
                  refine RunsI.ret (.int .i64 (rdD ([2, 2, 2, 2, 2, 2, 2, 2] : List Int) p1)) (by kernel_rfl) (by kernel_rfl) ?_
                  obtain rfl := Option.some.inj h
                  exact ⟨rfl, h35.below⟩
                · skip
                  rcases of_cond h with ⟨hc49, h⟩ | ⟨hc49, h⟩
                  · skip
                    refine RegI.op (by kernel_rfl) (OpE.lookup (ek := (ekP .i64)) (ev := (fun (v : Value) => v)) (zv := .agg #[.int .i64 0, .int .i64 0, .int .i64 0, .int .i64 0, .int .i64 0, .int .i64 0, .int .i64 0, .int .i64 0]) 60 0 74 73 51 (p0, p2) (.agg (List.flatMap (fun (x : Int) => ([.int .i64 x] : List Value)) ([2, 0, 1, 1, 0, 0, 0, 0] : List Int)).toArray) false h35 (by kernel_rfl) rfl (by kernel_rfl) rfl (by kernel_rfl) (KeyOk.pair .i64 (E := 3) (q := .i64) (by kernel_rfl) (by kernel_rfl) (by kernel_rfl)) (fun _ => by kernel_rfl) (by simp only [findK, hc41, hc43, hc45, hc47, hc49, cond_true, cond_false, Option.map_some, Option.map_none, Option.getD_some, Option.getD_none, Option.isSome_some, Option.isSome_none]) ?_)
                    refine RegI.pure 1 [60, 61] [(60, .agg (List.flatMap (fun (x : Int) => ([.int .i64 x] : List Value)) ([2, 0, 1, 1, 0, 0, 0, 0] : List Int)).toArray), (61, .int .i64 p1)] (by kernel_rfl) ?_
                    obtain ⟨hc50, h⟩ := of_cond0 h
                    refine RegI.op (by kernel_rfl) (OpE.run 62 (by kernel_rfl) (run_indexTab (T0 := 51) (en := (fun (x : Int) => ([.int .i64 x] : List Value))) (tab := ([2, 0, 1, 1, 0, 0, 0, 0] : List Int)) (len := 8) (sz := 1) (j := p1) (v := .int .i64 (rdD ([2, 0, 1, 1, 0, 0, 0, 0] : List Int) p1)) (fun _ => rfl) (by kernel_rfl) (by kernel_rfl) rfl hc50 (fun _ => by kernel_rfl)) ?_)
                    refine RegI.pure 1 [6] [(6, .int .i64 (rdD ([2, 0, 1, 1, 0, 0, 0, 0] : List Int) p1))] (by kernel_rfl) ?_
                    refine RegI.done (by kernel_rfl) ?_
                    refine RunsI.ret (.int .i64 (rdD ([2, 0, 1, 1, 0, 0, 0, 0] : List Int) p1)) (by kernel_rfl) (by kernel_rfl) ?_
                    obtain rfl := Option.some.inj h
                    exact ⟨rfl, h35.below⟩
                  · skip
                    rcases of_cond h with ⟨hc51, h⟩ | ⟨hc51, h⟩
                    · skip
                      refine RegI.op (by kernel_rfl) (OpE.lookup (ek := (ekP .i64)) (ev := (fun (v : Value) => v)) (zv := .agg #[.int .i64 0, .int .i64 0, .int .i64 0, .int .i64 0, .int .i64 0, .int .i64 0, .int .i64 0, .int .i64 0]) 60 0 74 73 51 (p0, p2) (.agg (List.flatMap (fun (x : Int) => ([.int .i64 x] : List Value)) ([2, 2, 2, 2, 2, 2, 2, 2] : List Int)).toArray) false h35 (by kernel_rfl) rfl (by kernel_rfl) rfl (by kernel_rfl) (KeyOk.pair .i64 (E := 3) (q := .i64) (by kernel_rfl) (by kernel_rfl) (by kernel_rfl)) (fun _ => by kernel_rfl) (by simp only [findK, hc41, hc43, hc45, hc47, hc49, hc51, cond_true, cond_false, Option.map_some, Option.map_none, Option.getD_some, Option.getD_none, Option.isSome_some, Option.isSome_none]) ?_)
                      refine RegI.pure 1 [60, 61] [(60, .agg (List.flatMap (fun (x : Int) => ([.int .i64 x] : List Value)) ([2, 2, 2, 2, 2, 2, 2, 2] : List Int)).toArray), (61, .int .i64 p1)] (by kernel_rfl) ?_
                      obtain ⟨hc52, h⟩ := of_cond0 h
                      refine RegI.op (by kernel_rfl) (OpE.run 62 (by kernel_rfl) (run_indexTab (T0 := 51) (en := (fun (x : Int) => ([.int .i64 x] : List Value))) (tab := ([2, 2, 2, 2, 2, 2, 2, 2] : List Int)) (len := 8) (sz := 1) (j := p1) (v := .int .i64 (rdD ([2, 2, 2, 2, 2, 2, 2, 2] : List Int) p1)) (fun _ => rfl) (by kernel_rfl) (by kernel_rfl) rfl hc52 (fun _ => by kernel_rfl)) ?_)
                      refine RegI.pure 1 [6] [(6, .int .i64 (rdD ([2, 2, 2, 2, 2, 2, 2, 2] : List Int) p1))] (by kernel_rfl) ?_
                      refine RegI.done (by kernel_rfl) ?_
                      refine RunsI.ret (.int .i64 (rdD ([2, 2, 2, 2, 2, 2, 2, 2] : List Int) p1)) (by kernel_rfl) (by kernel_rfl) ?_
                      obtain rfl := Option.some.inj h
                      exact ⟨rfl, h35.below⟩
                    · skip
                      rcases of_cond h with ⟨hc53, h⟩ | ⟨hc53, h⟩
                      · skip
                        refine RegI.op (by kernel_rfl) (OpE.lookup (ek := (ekP .i64)) (ev := (fun (v : Value) => v)) (zv := .agg #[.int .i64 0, .int .i64 0, .int .i64 0, .int .i64 0, .int .i64 0, .int .i64 0, .int .i64 0, .int .i64 0]) 60 0 74 73 51 (p0, p2) (.agg (List.flatMap (fun (x : Int) => ([.int .i64 x] : List Value)) ([1, 1, 1, 1, 1, 1, 1, 1] : List Int)).toArray) false h35 (by kernel_rfl) rfl (by kernel_rfl) rfl (by kernel_rfl) (KeyOk.pair .i64 (E := 3) (q := .i64) (by kernel_rfl) (by kernel_rfl) (by kernel_rfl)) (fun _ => by kernel_rfl) (by simp only [findK, hc41, hc43, hc45, hc47, hc49, hc51, hc53, cond_true, cond_false, Option.map_some, Option.map_none, Option.getD_some, Option.getD_none, Option.isSome_some, Option.isSome_none]) ?_)
                        refine RegI.pure 1 [60, 61] [(60, .agg (List.flatMap (fun (x : Int) => ([.int .i64 x] : List Value)) ([1, 1, 1, 1, 1, 1, 1, 1] : List Int)).toArray), (61, .int .i64 p1)] (by kernel_rfl) ?_
                        obtain ⟨hc54, h⟩ := of_cond0 h
                        refine RegI.op (by kernel_rfl) (OpE.run 62 (by kernel_rfl) (run_indexTab (T0 := 51) (en := (fun (x : Int) => ([.int .i64 x] : List Value))) (tab := ([1, 1, 1, 1, 1, 1, 1, 1] : List Int)) (len := 8) (sz := 1) (j := p1) (v := .int .i64 (rdD ([1, 1, 1, 1, 1, 1, 1, 1] : List Int) p1)) (fun _ => rfl) (by kernel_rfl) (by kernel_rfl) rfl hc54 (fun _ => by kernel_rfl)) ?_)
                        refine RegI.pure 1 [6] [(6, .int .i64 (rdD ([1, 1, 1, 1, 1, 1, 1, 1] : List Int) p1))] (by kernel_rfl) ?_
                        refine RegI.done (by kernel_rfl) ?_
                        refine RunsI.ret (.int .i64 (rdD ([1, 1, 1, 1, 1, 1, 1, 1] : List Int) p1)) (by kernel_rfl) (by kernel_rfl) ?_
                        obtain rfl := Option.some.inj h
                        exact ⟨rfl, h35.below⟩
                      · skip
                        refine RegI.op (by kernel_rfl) (OpE.lookup (ek := (ekP .i64)) (ev := (fun (v : Value) => v)) (zv := .agg #[.int .i64 0, .int .i64 0, .int .i64 0, .int .i64 0, .int .i64 0, .int .i64 0, .int .i64 0, .int .i64 0]) 60 0 74 73 51 (p0, p2) (.agg #[.int .i64 0, .int .i64 0, .int .i64 0, .int .i64 0, .int .i64 0, .int .i64 0, .int .i64 0, .int .i64 0]) false h35 (by kernel_rfl) rfl (by kernel_rfl) rfl (by kernel_rfl) (KeyOk.pair .i64 (E := 3) (q := .i64) (by kernel_rfl) (by kernel_rfl) (by kernel_rfl)) (fun _ => by kernel_rfl) (by simp only [findK, hc41, hc43, hc45, hc47, hc49, hc51, hc53, cond_true, cond_false, Option.map_some, Option.map_none, Option.getD_some, Option.getD_none, Option.isSome_some, Option.isSome_none]) ?_)
                        refine RegI.pure 1 [60, 61] [(60, .agg #[.int .i64 0, .int .i64 0, .int .i64 0, .int .i64 0, .int .i64 0, .int .i64 0, .int .i64 0, .int .i64 0]), (61, .int .i64 p1)] (by kernel_rfl) ?_
                        obtain ⟨hc55, h⟩ := of_cond0 h
                        refine RegI.op (by kernel_rfl) (OpE.run 62 (by kernel_rfl) (run_indexTab (T0 := 51) (en := (fun (x : Int) => ([.int .i64 x] : List Value))) (tab := ([0, 0, 0, 0, 0, 0, 0, 0] : List Int)) (len := 8) (sz := 1) (j := p1) (v := .int .i64 (rdD ([0, 0, 0, 0, 0, 0, 0, 0] : List Int) p1)) (fun _ => rfl) (by kernel_rfl) (by kernel_rfl) rfl hc55 (fun _ => by kernel_rfl)) ?_)
                        refine RegI.pure 1 [6] [(6, .int .i64 (rdD ([0, 0, 0, 0, 0, 0, 0, 0] : List Int) p1))] (by kernel_rfl) ?_
                        refine RegI.done (by kernel_rfl) ?_
                        refine RunsI.ret (.int .i64 (rdD ([0, 0, 0, 0, 0, 0, 0, 0] : List Int) p1)) (by kernel_rfl) (by kernel_rfl) ?_
                        obtain rfl := Option.some.inj h
                        exact ⟨rfl, h35.below⟩
      clear hJ38
      rcases of_cond h with ⟨hc31, h⟩ | ⟨hc31, h⟩
      · skip
        refine RegI.fix 44 true hc31 (by kernel_rfl) (by kernel_rfl) ?_
        refine RegI.pure 4 [0, 1, 2, 7, 8, 9, 48] [(0, .int .i64 p0), (1, .int .i64 p1), (2, .int .i64 p2), (7, .int .i64 (Int.fdiv p1 (2 ^ 1))), (8, .int .i64 (band .i64 p1 1)), (9, .map (some b10)), (48, .bool (p2 == 5))] (by kernel_rfl) ?_
        rcases of_cond h with ⟨hc32, h⟩ | ⟨hc32, h⟩
        · skip
          refine RegI.fix 48 true hc32 (by kernel_rfl) (by kernel_rfl) ?_
          refine RegI.pure 4 [0, 1, 2, 7, 9, 52] [(0, .int .i64 p0), (1, .int .i64 p1), (2, .int .i64 p2), (7, .int .i64 (Int.fdiv p1 (2 ^ 1))), (9, .map (some b10)), (52, .bool ((band .i64 p1 1) == 1))] (by kernel_rfl) ?_
          rcases of_cond h with ⟨hc33, h⟩ | ⟨hc33, h⟩
          · skip
            refine RegI.fix 52 true hc33 (by kernel_rfl) (by kernel_rfl) ?_
            refine RegI.pure 4 [0, 1, 2, 9, 41] [(0, .int .i64 p0), (1, .int .i64 p1), (2, .int .i64 p2), (9, .map (some b10)), (41, .bool ((Int.fdiv p1 (2 ^ 1)) == 0))] (by kernel_rfl) ?_
            refine RegI.only [0, 1, 2, 9, 41] [(0, .int .i64 p0), (1, .int .i64 p1), (2, .int .i64 p2), (9, .map (some b10)), (41, .bool ((Int.fdiv p1 (2 ^ 1)) == 0))] (by kernel_rfl) (by kernel_rfl) ?_
            exact hj39 ((Int.fdiv p1 (2 ^ 1)) == 0) w26 h (h25.pick [0] (by decide))
          · skip
            refine RegI.fix 52 false hc33 (by kernel_rfl) (by kernel_rfl) ?_
            refine RegI.pure 4 [0, 1, 2, 9, 41] [(0, .int .i64 p0), (1, .int .i64 p1), (2, .int .i64 p2), (9, .map (some b10)), (41, .bool false)] (by kernel_rfl) ?_
            refine RegI.only [0, 1, 2, 9, 41] [(0, .int .i64 p0), (1, .int .i64 p1), (2, .int .i64 p2), (9, .map (some b10)), (41, .bool false)] (by kernel_rfl) (by kernel_rfl) ?_
            exact hj39 false w26 h (h25.pick [0] (by decide))
        · skip
          refine RegI.fix 48 false hc32 (by kernel_rfl) (by kernel_rfl) ?_
          refine RegI.pure 8 [0, 1, 2, 9, 41] [(0, .int .i64 p0), (1, .int .i64 p1), (2, .int .i64 p2), (9, .map (some b10)), (41, .bool false)] (by kernel_rfl) ?_
          refine RegI.only [0, 1, 2, 9, 41] [(0, .int .i64 p0), (1, .int .i64 p1), (2, .int .i64 p2), (9, .map (some b10)), (41, .bool false)] (by kernel_rfl) (by kernel_rfl) ?_
          exact hj39 false w26 h (h25.pick [0] (by decide))
      · skip
        refine RegI.fix 44 false hc31 (by kernel_rfl) (by kernel_rfl) ?_
        refine RegI.pure 12 [0, 1, 2, 9, 41] [(0, .int .i64 p0), (1, .int .i64 p1), (2, .int .i64 p2), (9, .map (some b10)), (41, .bool false)] (by kernel_rfl) ?_
        refine RegI.only [0, 1, 2, 9, 41] [(0, .int .i64 p0), (1, .int .i64 p1), (2, .int .i64 p2), (9, .map (some b10)), (41, .bool false)] (by kernel_rfl) (by kernel_rfl) ?_
        exact hj39 false w26 h (h25.pick [0] (by decide))
  clear hJ28
  rcases of_cond h with ⟨hc22, h⟩ | ⟨hc22, h⟩
  · skip
    refine RegI.fix 33 true hc22 (by kernel_rfl) (by kernel_rfl) ?_
    refine RegI.pure 4 [0, 1, 2, 7, 8, 9, 37] [(0, .int .i64 p0), (1, .int .i64 p1), (2, .int .i64 p2), (7, .int .i64 (Int.fdiv p1 (2 ^ 1))), (8, .int .i64 (band .i64 p1 1)), (9, .map (some b10)), (37, .bool (p2 == 1))] (by kernel_rfl) ?_
    rcases of_cond h with ⟨hc23, h⟩ | ⟨hc23, h⟩
    · skip
      refine RegI.fix 37 true hc23 (by kernel_rfl) (by kernel_rfl) ?_
      refine RegI.pure 4 [0, 1, 2, 7, 8, 9, 30] [(0, .int .i64 p0), (1, .int .i64 p1), (2, .int .i64 p2), (7, .int .i64 (Int.fdiv p1 (2 ^ 1))), (8, .int .i64 (band .i64 p1 1)), (9, .map (some b10)), (30, .bool ((band .i64 p1 1) == 0))] (by kernel_rfl) ?_
      refine RegI.only [0, 1, 2, 7, 8, 9, 30] [(0, .int .i64 p0), (1, .int .i64 p1), (2, .int .i64 p2), (7, .int .i64 (Int.fdiv p1 (2 ^ 1))), (8, .int .i64 (band .i64 p1 1)), (9, .map (some b10)), (30, .bool ((band .i64 p1 1) == 0))] (by kernel_rfl) (by kernel_rfl) ?_
      exact hj29 ((band .i64 p1 1) == 0) w19 h (h21.pick [0] (by decide))
    · skip
      refine RegI.fix 37 false hc23 (by kernel_rfl) (by kernel_rfl) ?_
      refine RegI.pure 4 [0, 1, 2, 7, 8, 9, 30] [(0, .int .i64 p0), (1, .int .i64 p1), (2, .int .i64 p2), (7, .int .i64 (Int.fdiv p1 (2 ^ 1))), (8, .int .i64 (band .i64 p1 1)), (9, .map (some b10)), (30, .bool false)] (by kernel_rfl) ?_
      refine RegI.only [0, 1, 2, 7, 8, 9, 30] [(0, .int .i64 p0), (1, .int .i64 p1), (2, .int .i64 p2), (7, .int .i64 (Int.fdiv p1 (2 ^ 1))), (8, .int .i64 (band .i64 p1 1)), (9, .map (some b10)), (30, .bool false)] (by kernel_rfl) (by kernel_rfl) ?_
      exact hj29 false w19 h (h21.pick [0] (by decide))
  · skip
    refine RegI.fix 33 false hc22 (by kernel_rfl) (by kernel_rfl) ?_
    refine RegI.pure 8 [0, 1, 2, 7, 8, 9, 30] [(0, .int .i64 p0), (1, .int .i64 p1), (2, .int .i64 p2), (7, .int .i64 (Int.fdiv p1 (2 ^ 1))), (8, .int .i64 (band .i64 p1 1)), (9, .map (some b10)), (30, .bool false)] (by kernel_rfl) ?_
    refine RegI.only [0, 1, 2, 7, 8, 9, 30] [(0, .int .i64 p0), (1, .int .i64 p1), (2, .int .i64 p2), (7, .int .i64 (Int.fdiv p1 (2 ^ 1))), (8, .int .i64 (band .i64 p1 1)), (9, .map (some b10)), (30, .bool false)] (by kernel_rfl) (by kernel_rfl) ?_
    exact hj29 false w19 h (h21.pick [0] (by decide))
end

/-! ### charabanc/decode.Size (function 42) -/
section
def decode_Size_42.post (M0 : Nat → Prop) (w0 : World) (r : Int) : Ending → World → Prop := fun e w => e = .returned (.int .i64 r) ∧ Below w0.heap.size w0 w
def decode_Size_42.f (K : Nat) (p0 : Int) (p1 : Int) : Option Int := (decode_Fields_29.f K p1).bind fun yt5 => Let (fun (t12 : Bool) => cond t12 ((decode_plain_45.f K yt5.1 yt5.2.1 yt5.2.2.1).bind fun t23 => some t23) (Let (fun (t26 : Bool) => cond t26 (some 2) (some 0)) (fun j29 => cond (p0 == 2) (cond (yt5.1 == 1) (j29 (yt5.2.2.1 == 3)) (j29 false)) (j29 false)))) (fun j15 => cond (p0 == 0) (j15 true) (cond (p0 == 3) (j15 true) (j15 (p0 == 4))))
set_option maxRecDepth 100000 in
theorem decode_Size_42_ok (K : Nat) (M0 : Nat → Prop) (w0 : World) (p0 : Int) (p1 : Int) (ho : ∀ b, M0 b → b < w0.heap.size) {r : Int} (h : decode_Size_42.f K p0 p1 = some r) :
    Calls Tryd.prog 42 #[.int .i64 p0, .int .u8 p1] w0 (decode_Size_42.post M0 w0 r) := by
  unfold decode_Size_42.f at h
  have h0 : Holds M0 w0 w0 [] := Holds.start ho
  have h0 : Holds M0 w0 w0 [] := h0
  refine calls_of F42 rfl [.int .i64 p0, .int .u8 p1] (by kernel_rfl) ?_
  refine RunsI.go 1 [.c 1, .c 2] (by kernel_rfl) ?_
  refine RunsI.region (by kernel_rfl) ?_
  refine RegI.pure 1 [0, 1] [(0, .int .i64 p0), (1, .int .u8 p1)] (by kernel_rfl) ?_
  refine RegI.done (by kernel_rfl) ?_
  refine RunsI.go 1 [.c 3, .c 4] (by kernel_rfl) ?_
  refine RunsI.region (by kernel_rfl) ?_
  refine RegI.pure 1 [0, 11] [(0, .int .i64 p0), (11, .int .u8 p1)] (by kernel_rfl) ?_
  obtain ⟨⟨t5, t6, t7, t8, t9⟩, hg4, h⟩ := of_bind h
  dsimp only at h
  refine RegI.op (by kernel_rfl) (OpE.call 12 (by kernel_rfl) 29 #[.int .u8 p1] (by kernel_rfl) ((decode_Fields_29_ok K _ w0  p1 h0.old' hg4).mono ?_))
  rintro _ w1 ⟨rfl, hb2⟩
  refine ⟨_, rfl, ?_⟩
  have h3 := h0.call hb2
  refine RegI.pure 11 [0, 5, 6, 7] [(0, .int .i64 p0), (5, .int .i64 t5), (6, .int .i64 t6), (7, .int .i64 t7)] (by kernel_rfl) ?_
  refine RegI.done (by kernel_rfl) ?_
  refine RunsI.go 3 [.c 7, .c 8, .blk 0, .c 19] (by kernel_rfl) ?_
  refine RunsI.region (by kernel_rfl) ?_
  refine RegI.pure 3 [0, 5, 6, 7, 21] [(0, .int .i64 p0), (5, .int .i64 t5), (6, .int .i64 t6), (7, .int .i64 t7), (21, .bool (p0 == 0))] (by kernel_rfl) ?_
  obtain ⟨j15, hJ16, h⟩ := of_let h
  have hj17 : ∀ (t12 : Bool) (w14 : World), j15 t12 = some r → Holds M0 w0 w14 [] → RegI F42 7 [.c 8, .blk 0, .c 19] 11 [(0, .int .i64 p0), (5, .int .i64 t5), (6, .int .i64 t6), (7, .int .i64 t7), (18, .bool t12)] w14 (decode_Size_42.post M0 w0 r) := by
    intro t12 w14 h h13
    rw [hJ16] at h
    clear hJ16
    dsimp only at h
    refine RegI.done (by kernel_rfl) ?_
    rcases of_cond h with ⟨hc18, h⟩ | ⟨hc18, h⟩
    · skip
      refine RunsI.fix 18 true hc18 (by kernel_rfl) (by kernel_rfl) ?_
      refine RunsI.cond true 9 (by kernel_rfl) ?_
      refine RunsI.go 1 [.c 10, .c 11, .blk 0, .c 19] (by kernel_rfl) ?_
      refine RunsI.region (by kernel_rfl) ?_
      refine RegI.pure 3 [29, 30, 31] [(29, .int .i64 t5), (30, .int .i64 t6), (31, .int .i64 t7)] (by kernel_rfl) ?_
      obtain ⟨t23, hg22, h⟩ := of_bind h
      refine RegI.op (by kernel_rfl) (OpE.call 32 (by kernel_rfl) 45 #[.int .i64 t5, .int .i64 t6, .int .i64 t7] (by kernel_rfl) ((decode_plain_45_ok K _ w14  t5 t6 t7 h13.old' hg22).mono ?_))
      rintro _ w19 ⟨rfl, hb20⟩
      refine ⟨_, rfl, ?_⟩
      have h21 := h13.call hb20
      refine RegI.pure 1 [4] [(4, .int .i64 t23)] (by kernel_rfl) ?_
      refine RegI.done (by kernel_rfl) ?_
      refine RunsI.ret (.int .i64 t23) (by kernel_rfl) (by kernel_rfl) ?_
      obtain rfl := Option.some.inj h
      exact ⟨rfl, h21.below⟩
    · skip
      refine RunsI.fix 18 false hc18 (by kernel_rfl) (by kernel_rfl) ?_
      refine RunsI.cond false 12 (by kernel_rfl) ?_
      refine RunsI.go 1 [.c 13, .c 14, .blk 0, .c 19] (by kernel_rfl) ?_
      refine RunsI.region (by kernel_rfl) ?_
      refine RegI.pure 3 [5, 7, 36] [(5, .int .i64 t5), (7, .int .i64 t7), (36, .bool (p0 == 2))] (by kernel_rfl) ?_
      obtain ⟨j29, hJ30, h⟩ := of_let h
      have hj31 : ∀ (t26 : Bool) (w28 : World), j29 t26 = some r → Holds M0 w0 w28 [] → RegI F42 13 [.c 14, .blk 0, .c 19] 11 [(33, .bool t26)] w28 (decode_Size_42.post M0 w0 r) := by
        intro t26 w28 h h27
        rw [hJ30] at h
        clear hJ30
        dsimp only at h
        refine RegI.done (by kernel_rfl) ?_
        rcases of_cond h with ⟨hc32, h⟩ | ⟨hc32, h⟩
        · skip
          refine RunsI.fix 33 true hc32 (by kernel_rfl) (by kernel_rfl) ?_
          refine RunsI.cond true 15 (by kernel_rfl) ?_
          refine RunsI.go 1 [.c 16, .c 17, .blk 0, .c 19] (by kernel_rfl) ?_
          refine RunsI.region (by kernel_rfl) ?_
          refine RegI.pure 1 [4] [(4, .int .i64 2)] (by kernel_rfl) ?_
          refine RegI.done (by kernel_rfl) ?_
          refine RunsI.ret (.int .i64 2) (by kernel_rfl) (by kernel_rfl) ?_
          obtain rfl := Option.some.inj h
          exact ⟨rfl, h27.below⟩
        · skip
          refine RunsI.fix 33 false hc32 (by kernel_rfl) (by kernel_rfl) ?_
          refine RunsI.cond false 18 (by kernel_rfl) ?_
          refine RunsI.go 1 [.blk 0, .c 19] (by kernel_rfl) ?_
          refine RunsI.go 2 [.c 20, .c 21] (by kernel_rfl) ?_
          refine RunsI.region (by kernel_rfl) ?_
          refine RegI.pure 1 [4] [(4, .int .i64 0)] (by kernel_rfl) ?_
          refine RegI.done (by kernel_rfl) ?_
          refine RunsI.ret (.int .i64 0) (by kernel_rfl) (by kernel_rfl) ?_
          obtain rfl := Option.some.inj h
          exact ⟨rfl, h27.below⟩
      clear hJ30
      rcases of_cond h with ⟨hc24, h⟩ | ⟨hc24, h⟩
      · skip
        refine RegI.fix 36 true hc24 (by kernel_rfl) (by kernel_rfl) ?_
        refine RegI.pure 4 [7, 40] [(7, .int .i64 t7), (40, .bool (t5 == 1))] (by kernel_rfl) ?_
        rcases of_cond h with ⟨hc25, h⟩ | ⟨hc25, h⟩
        · skip
          refine RegI.fix 40 true hc25 (by kernel_rfl) (by kernel_rfl) ?_
          refine RegI.pure 4 [33] [(33, .bool (t7 == 3))] (by kernel_rfl) ?_
          refine RegI.only [33] [(33, .bool (t7 == 3))] (by kernel_rfl) (by kernel_rfl) ?_
          exact hj31 (t7 == 3) w14 h (h13.pick [] (by decide))
        · skip
          refine RegI.fix 40 false hc25 (by kernel_rfl) (by kernel_rfl) ?_
          refine RegI.pure 4 [33] [(33, .bool false)] (by kernel_rfl) ?_
          refine RegI.only [33] [(33, .bool false)] (by kernel_rfl) (by kernel_rfl) ?_
          exact hj31 false w14 h (h13.pick [] (by decide))
      · skip
        refine RegI.fix 36 false hc24 (by kernel_rfl) (by kernel_rfl) ?_
        refine RegI.pure 8 [33] [(33, .bool false)] (by kernel_rfl) ?_
        refine RegI.only [33] [(33, .bool false)] (by kernel_rfl) (by kernel_rfl) ?_
        exact hj31 false w14 h (h13.pick [] (by decide))
  clear hJ16
  rcases of_cond h with ⟨hc10, h⟩ | ⟨hc10, h⟩
  · skip
    refine RegI.fix 21 true hc10 (by kernel_rfl) (by kernel_rfl) ?_
    refine RegI.pure 8 [0, 5, 6, 7, 18] [(0, .int .i64 p0), (5, .int .i64 t5), (6, .int .i64 t6), (7, .int .i64 t7), (18, .bool true)] (by kernel_rfl) ?_
    refine RegI.only [0, 5, 6, 7, 18] [(0, .int .i64 p0), (5, .int .i64 t5), (6, .int .i64 t6), (7, .int .i64 t7), (18, .bool true)] (by kernel_rfl) (by kernel_rfl) ?_
    exact hj17 true w1 h (h3.pick [] (by decide))
  · skip
    refine RegI.fix 21 false hc10 (by kernel_rfl) (by kernel_rfl) ?_
    refine RegI.pure 4 [0, 5, 6, 7, 25] [(0, .int .i64 p0), (5, .int .i64 t5), (6, .int .i64 t6), (7, .int .i64 t7), (25, .bool (p0 == 3))] (by kernel_rfl) ?_
    rcases of_cond h with ⟨hc11, h⟩ | ⟨hc11, h⟩
    · skip
      refine RegI.fix 25 true hc11 (by kernel_rfl) (by kernel_rfl) ?_
      refine RegI.pure 4 [0, 5, 6, 7, 18] [(0, .int .i64 p0), (5, .int .i64 t5), (6, .int .i64 t6), (7, .int .i64 t7), (18, .bool true)] (by kernel_rfl) ?_
      refine RegI.only [0, 5, 6, 7, 18] [(0, .int .i64 p0), (5, .int .i64 t5), (6, .int .i64 t6), (7, .int .i64 t7), (18, .bool true)] (by kernel_rfl) (by kernel_rfl) ?_
      exact hj17 true w1 h (h3.pick [] (by decide))
    · skip
      refine RegI.fix 25 false hc11 (by kernel_rfl) (by kernel_rfl) ?_
      refine RegI.pure 4 [0, 5, 6, 7, 18] [(0, .int .i64 p0), (5, .int .i64 t5), (6, .int .i64 t6), (7, .int .i64 t7), (18, .bool (p0 == 4))] (by kernel_rfl) ?_
      refine RegI.only [0, 5, 6, 7, 18] [(0, .int .i64 p0), (5, .int .i64 t5), (6, .int .i64 t6), (7, .int .i64 t7), (18, .bool (p0 == 4))] (by kernel_rfl) (by kernel_rfl) ?_
      exact hj17 (p0 == 4) w1 h (h3.pick [] (by decide))
end
end Go.Proofs.YtmcdkmakjjlcnaaDoor.Tim
