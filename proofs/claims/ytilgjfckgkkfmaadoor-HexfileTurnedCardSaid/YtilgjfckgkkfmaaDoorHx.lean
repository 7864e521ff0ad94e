/- Functions of the program as plain Lean functions, each with the proof that the call comes to it; written by wip/eng.py. -/
import Derived.Test.YtilgjfckgkkfmaaDoorProg
import Derived.Test.YtilgjfckgkkfmaaDoorEngLib
import Derived.Test.YtilgjfckgkkfmaaDoorEngBld
import Derived.Test.YtilgjfckgkkfmaaDoorEngMid
import Derived.Test.YtilgjfckgkkfmaaDoorEngSort
import Derived.Test.YtilgjfckgkkfmaaDoorShelf
set_option linter.unusedVariables false
set_option linter.unusedSimpArgs false
set_option maxHeartbeats 4000000
namespace Go.Proofs.YtilgjfckgkkfmaaDoor.Hx
open Go.RowKit Go.Eng
noncomputable def B10 : Code := (Tryd.f10.body).getD .skip
noncomputable def F10 : Fun Tryd.prog := ⟨10, Tryd.f10, B10, 78, Tryd.func10, by kernel_rfl, by kernel_rfl, [], none⟩
noncomputable def B11 : Code := (Tryd.f11.body).getD .skip
noncomputable def F11 : Fun Tryd.prog := ⟨11, Tryd.f11, B11, 26, Tryd.func11, by kernel_rfl, by kernel_rfl, [], none⟩
noncomputable def B12 : Code := (Tryd.f12.body).getD .skip
noncomputable def F12 : Fun Tryd.prog := ⟨12, Tryd.f12, B12, 31, Tryd.func12, by kernel_rfl, by kernel_rfl, [], none⟩
noncomputable def B13 : Code := (Tryd.f13.body).getD .skip
noncomputable def F13 : Fun Tryd.prog := ⟨13, Tryd.f13, B13, 10, Tryd.func13, by kernel_rfl, by kernel_rfl, [], none⟩
noncomputable def B14 : Code := (Tryd.f14.body).getD .skip
noncomputable def F14 : Fun Tryd.prog := ⟨14, Tryd.f14, B14, 70, Tryd.func14, by kernel_rfl, by kernel_rfl, [], none⟩
noncomputable def B15 : Code := (Tryd.f15.body).getD .skip
noncomputable def F15 : Fun Tryd.prog := ⟨15, Tryd.f15, B15, 67, Tryd.func15, by kernel_rfl, by kernel_rfl, [], none⟩
noncomputable def B16 : Code := (Tryd.f16.body).getD .skip
noncomputable def F16 : Fun Tryd.prog := ⟨16, Tryd.f16, B16, 26, Tryd.func16, by kernel_rfl, by kernel_rfl, [], none⟩
noncomputable def B17 : Code := (Tryd.f17.body).getD .skip
noncomputable def F17 : Fun Tryd.prog := ⟨17, Tryd.f17, B17, 12, Tryd.func17, by kernel_rfl, by kernel_rfl, [], none⟩
noncomputable def B18 : Code := (Tryd.f18.body).getD .skip
noncomputable def F18 : Fun Tryd.prog := ⟨18, Tryd.f18, B18, 26, Tryd.func18, by kernel_rfl, by kernel_rfl, [], none⟩
noncomputable def B19 : Code := (Tryd.f19.body).getD .skip
noncomputable def F19 : Fun Tryd.prog := ⟨19, Tryd.f19, B19, 63, Tryd.func19, by kernel_rfl, by kernel_rfl, [], none⟩
noncomputable def B20 : Code := (Tryd.f20.body).getD .skip
noncomputable def F20 : Fun Tryd.prog := ⟨20, Tryd.f20, B20, 73, Tryd.func20, by kernel_rfl, by kernel_rfl, [], none⟩
noncomputable def B21 : Code := (Tryd.f21.body).getD .skip
noncomputable def F21 : Fun Tryd.prog := ⟨21, Tryd.f21, B21, 19, Tryd.func21, by kernel_rfl, by kernel_rfl, [], none⟩
noncomputable def B22 : Code := (Tryd.f22.body).getD .skip
noncomputable def F22 : Fun Tryd.prog := ⟨22, Tryd.f22, B22, 79, Tryd.func22, by kernel_rfl, by kernel_rfl, [], none⟩
noncomputable def B23 : Code := (Tryd.f23.body).getD .skip
noncomputable def F23 : Fun Tryd.prog := ⟨23, Tryd.f23, B23, 26, Tryd.func23, by kernel_rfl, by kernel_rfl, [], none⟩
noncomputable def B24 : Code := (Tryd.f24.body).getD .skip
noncomputable def F24 : Fun Tryd.prog := ⟨24, Tryd.f24, B24, 53, Tryd.func24, by kernel_rfl, by kernel_rfl, [], none⟩
noncomputable def B29 : Code := (Tryd.f29.body).getD .skip
noncomputable def F29 : Fun Tryd.prog := ⟨29, Tryd.f29, B29, 12, Tryd.func29, by kernel_rfl, by kernel_rfl, [], none⟩
noncomputable def B30 : Code := (Tryd.f30.body).getD .skip
noncomputable def F30 : Fun Tryd.prog := ⟨30, Tryd.f30, B30, 4, Tryd.func30, by kernel_rfl, by kernel_rfl, [], none⟩
noncomputable def B31 : Code := (Tryd.f31.body).getD .skip
noncomputable def F31 : Fun Tryd.prog := ⟨31, Tryd.f31, B31, 22, Tryd.func31, by kernel_rfl, by kernel_rfl, [], none⟩
noncomputable def B32 : Code := (Tryd.f32.body).getD .skip
noncomputable def F32 : Fun Tryd.prog := ⟨32, Tryd.f32, B32, 19, Tryd.func32, by kernel_rfl, by kernel_rfl, [], none⟩
noncomputable def B34 : Code := (Tryd.f34.body).getD .skip
noncomputable def F34 : Fun Tryd.prog := ⟨34, Tryd.f34, B34, 35, Tryd.func34, by kernel_rfl, by kernel_rfl, [], none⟩
noncomputable def B35 : Code := (Tryd.f35.body).getD .skip
noncomputable def F35 : Fun Tryd.prog := ⟨35, Tryd.f35, B35, 23, Tryd.func35, by kernel_rfl, by kernel_rfl, [], none⟩
noncomputable def B36 : Code := (Tryd.f36.body).getD .skip
noncomputable def F36 : Fun Tryd.prog := ⟨36, Tryd.f36, B36, 11, Tryd.func36, by kernel_rfl, by kernel_rfl, [], none⟩
noncomputable def B37 : Code := (Tryd.f37.body).getD .skip
noncomputable def F37 : Fun Tryd.prog := ⟨37, Tryd.f37, B37, 43, Tryd.func37, by kernel_rfl, by kernel_rfl, [], none⟩
noncomputable def B38 : Code := (Tryd.f38.body).getD .skip
noncomputable def F38 : Fun Tryd.prog := ⟨38, Tryd.f38, B38, 12, Tryd.func38, by kernel_rfl, by kernel_rfl, [], none⟩
noncomputable def B39 : Code := (Tryd.f39.body).getD .skip
noncomputable def F39 : Fun Tryd.prog := ⟨39, Tryd.f39, B39, 8, Tryd.func39, by kernel_rfl, by kernel_rfl, [], none⟩
noncomputable def B40 : Code := (Tryd.f40.body).getD .skip
noncomputable def F40 : Fun Tryd.prog := ⟨40, Tryd.f40, B40, 27, Tryd.func40, by kernel_rfl, by kernel_rfl, [], none⟩
noncomputable def B41 : Code := (Tryd.f41.body).getD .skip
noncomputable def F41 : Fun Tryd.prog := ⟨41, Tryd.f41, B41, 33, Tryd.func41, by kernel_rfl, by kernel_rfl, [], none⟩
noncomputable def B42 : Code := (Tryd.f42.body).getD .skip
noncomputable def F42 : Fun Tryd.prog := ⟨42, Tryd.f42, B42, 4, Tryd.func42, by kernel_rfl, by kernel_rfl, [], none⟩
noncomputable def B43 : Code := (Tryd.f43.body).getD .skip
noncomputable def F43 : Fun Tryd.prog := ⟨43, Tryd.f43, B43, 19, Tryd.func43, by kernel_rfl, by kernel_rfl, [], none⟩
noncomputable def B44 : Code := (Tryd.f44.body).getD .skip
noncomputable def F44 : Fun Tryd.prog := ⟨44, Tryd.f44, B44, 14, Tryd.func44, by kernel_rfl, by kernel_rfl, [], none⟩
noncomputable def B45 : Code := (Tryd.f45.body).getD .skip
noncomputable def F45 : Fun Tryd.prog := ⟨45, Tryd.f45, B45, 26, Tryd.func45, by kernel_rfl, by kernel_rfl, [], none⟩
noncomputable def B64 : Code := (Tryd.f64.body).getD .skip
noncomputable def F64 : Fun Tryd.prog := ⟨64, Tryd.f64, B64, 40, Tryd.func64, by kernel_rfl, by kernel_rfl, [], none⟩
noncomputable def B65 : Code := (Tryd.f65.body).getD .skip
noncomputable def F65 : Fun Tryd.prog := ⟨65, Tryd.f65, B65, 6, Tryd.func65, by kernel_rfl, by kernel_rfl, [], none⟩
noncomputable def B66 : Code := (Tryd.f66.body).getD .skip
noncomputable def F66 : Fun Tryd.prog := ⟨66, Tryd.f66, B66, 5, Tryd.func66, by kernel_rfl, by kernel_rfl, [], none⟩
noncomputable def B67 : Code := (Tryd.f67.body).getD .skip
noncomputable def F67 : Fun Tryd.prog := ⟨67, Tryd.f67, B67, 7, Tryd.func67, by kernel_rfl, by kernel_rfl, [], none⟩
noncomputable def B68 : Code := (Tryd.f68.body).getD .skip
noncomputable def F68 : Fun Tryd.prog := ⟨68, Tryd.f68, B68, 7, Tryd.func68, by kernel_rfl, by kernel_rfl, [], none⟩
noncomputable def B71 : Code := (Tryd.f71.body).getD .skip
noncomputable def F71 : Fun Tryd.prog := ⟨71, Tryd.f71, B71, 22, Tryd.func71, by kernel_rfl, by kernel_rfl, [], none⟩
noncomputable def B72 : Code := (Tryd.f72.body).getD .skip
noncomputable def F72 : Fun Tryd.prog := ⟨72, Tryd.f72, B72, 66, Tryd.func72, by kernel_rfl, by kernel_rfl, [], none⟩
noncomputable def B73 : Code := (Tryd.f73.body).getD .skip
noncomputable def F73 : Fun Tryd.prog := ⟨73, Tryd.f73, B73, 21, Tryd.func73, by kernel_rfl, by kernel_rfl, [], none⟩
noncomputable def B74 : Code := (Tryd.f74.body).getD .skip
noncomputable def F74 : Fun Tryd.prog := ⟨74, Tryd.f74, B74, 13, Tryd.func74, by kernel_rfl, by kernel_rfl, [], none⟩
noncomputable def B75 : Code := (Tryd.f75.body).getD .skip
noncomputable def F75 : Fun Tryd.prog := ⟨75, Tryd.f75, B75, 24, Tryd.func75, by kernel_rfl, by kernel_rfl, [], none⟩
noncomputable def B76 : Code := (Tryd.f76.body).getD .skip
noncomputable def F76 : Fun Tryd.prog := ⟨76, Tryd.f76, B76, 65, Tryd.func76, by kernel_rfl, by kernel_rfl, [], none⟩
noncomputable def B77 : Code := (Tryd.f77.body).getD .skip
noncomputable def F77 : Fun Tryd.prog := ⟨77, Tryd.f77, B77, 6, Tryd.func77, by kernel_rfl, by kernel_rfl, [], none⟩
noncomputable def B111 : Code := (Tryd.f111.body).getD .skip
noncomputable def F111 : Fun Tryd.prog := ⟨111, Tryd.f111, B111, 11, Tryd.func111, by kernel_rfl, by kernel_rfl, [], none⟩
noncomputable def B130 : Code := (Tryd.f130.body).getD .skip
noncomputable def F130 : Fun Tryd.prog := ⟨130, Tryd.f130, B130, 10, Tryd.func130, by kernel_rfl, by kernel_rfl, [], none⟩
noncomputable def B131 : Code := (Tryd.f131.body).getD .skip
noncomputable def F131 : Fun Tryd.prog := ⟨131, Tryd.f131, B131, 20, Tryd.func131, by kernel_rfl, by kernel_rfl, [], none⟩
noncomputable def B146 : Code := (Tryd.f146.body).getD .skip
noncomputable def F146 : Fun Tryd.prog := ⟨146, Tryd.f146, B146, 8, Tryd.func146, by kernel_rfl, by kernel_rfl, [], none⟩
noncomputable def B147 : Code := (Tryd.f147.body).getD .skip
noncomputable def F147 : Fun Tryd.prog := ⟨147, Tryd.f147, B147, 6, Tryd.func147, by kernel_rfl, by kernel_rfl, [], none⟩
noncomputable def B154 : Code := (Tryd.f154.body).getD .skip
noncomputable def F154 : Fun Tryd.prog := ⟨154, Tryd.f154, B154, 25, Tryd.func154, by kernel_rfl, by kernel_rfl, [], none⟩
noncomputable def B168 : Code := (Tryd.f168.body).getD .skip
noncomputable def F168 : Fun Tryd.prog := ⟨168, Tryd.f168, B168, 19, Tryd.func168, by kernel_rfl, by kernel_rfl, [], none⟩
noncomputable def B174 : Code := (Tryd.f174.body).getD .skip
noncomputable def F174 : Fun Tryd.prog := ⟨174, Tryd.f174, B174, 7, Tryd.func174, by kernel_rfl, by kernel_rfl, [], none⟩

/-! ### charabanc/bits.Hi (function 65) -/
section
def bits_Hi_65.post (M0 : Nat → Prop) (w0 : World) (r : Int) : Ending → World → Prop := fun e w => e = .returned (.int .u8 r) ∧ Below w0.heap.size w0 w
def bits_Hi_65.f (K : Nat) (p0 : Int) : Option Int := some (IntKind.wrap .u8 (Int.fdiv p0 (2 ^ 8)))
set_option maxRecDepth 100000 in
theorem bits_Hi_65_ok (K : Nat) (M0 : Nat → Prop) (w0 : World) (p0 : Int) (ho : ∀ b, M0 b → b < w0.heap.size) {r : Int} (h : bits_Hi_65.f K p0 = some r) :
  Calls Tryd.prog 65 #[.int .u16 p0] w0 (bits_Hi_65.post M0 w0 r) := by
 unfold bits_Hi_65.f at h
 have h0 : Holds M0 w0 w0 [] := Holds.start ho
 have h0 : Holds M0 w0 w0 [] := h0
 refine calls_of F65 rfl [.int .u16 p0] (by kernel_rfl) ?_
 refine RunsI.g 1 [.c 1, .c 2] ?_
 refine RunsI.r ?_
 refine RegI.p 1 [(0, .int .u16 p0)] ?_
 refine RegI.d ?_
 refine RunsI.g 1 [.c 3, .c 4] ?_
 refine RunsI.r ?_
 refine RegI.p 4 [(2, .int .u8 (IntKind.wrap .u8 (Int.fdiv p0 (2 ^ 8))))] ?_
 refine RegI.d ?_
 refine RunsI.t (.int .u8 (IntKind.wrap .u8 (Int.fdiv p0 (2 ^ 8)))) ?_
 obtain rfl := Option.some.inj h
 exact ⟨rfl, h0.below⟩
end

/-! ### charabanc/bits.Lo (function 66) -/
section
def bits_Lo_66.post (M0 : Nat → Prop) (w0 : World) (r : Int) : Ending → World → Prop := fun e w => e = .returned (.int .u8 r) ∧ Below w0.heap.size w0 w
def bits_Lo_66.f (K : Nat) (p0 : Int) : Option Int := some (IntKind.wrap .u8 p0)
set_option maxRecDepth 100000 in
theorem bits_Lo_66_ok (K : Nat) (M0 : Nat → Prop) (w0 : World) (p0 : Int) (ho : ∀ b, M0 b → b < w0.heap.size) {r : Int} (h : bits_Lo_66.f K p0 = some r) :
  Calls Tryd.prog 66 #[.int .u16 p0] w0 (bits_Lo_66.post M0 w0 r) := by
 unfold bits_Lo_66.f at h
 have h0 : Holds M0 w0 w0 [] := Holds.start ho
 have h0 : Holds M0 w0 w0 [] := h0
 refine calls_of F66 rfl [.int .u16 p0] (by kernel_rfl) ?_
 refine RunsI.g 1 [.c 1, .c 2] ?_
 refine RunsI.r ?_
 refine RegI.p 1 [(0, .int .u16 p0)] ?_
 refine RegI.d ?_
 refine RunsI.g 1 [.c 3, .c 4] ?_
 refine RunsI.r ?_
 refine RegI.p 3 [(2, .int .u8 (IntKind.wrap .u8 p0))] ?_
 refine RegI.d ?_
 refine RunsI.t (.int .u8 (IntKind.wrap .u8 p0)) ?_
 obtain rfl := Option.some.inj h
 exact ⟨rfl, h0.below⟩
end

/-! ### charabanc/hexfile.Sum (function 17) -/
section
def hexfile_Sum_17.post (M0 : Nat → Prop) (w0 : World) (r : Int) : Ending → World → Prop := fun e w => e = .returned (.int .u8 r) ∧ Below w0.heap.size w0 w
def hexfile_Sum_17.l0 (K : Nat) (p0_0 : Int) (p0_1 : Int) (p0_2 : List Int) (t82 : List (List Int)) (t83 : Int) (t84 : Int) (t87 : List Int) (t88 : Int) : Nat → Int → Int → Option Int
 | 0, _, _ => none
 | k + 1, t79, t89 => cond (decide (t89 < t88)) (cond (inR t89 t87.length) (hexfile_Sum_17.l0 K p0_0 p0_1 p0_2 t82 t83 t84 t87 t88 k (IntKind.wrap .u8 (t79 - (rdD t87 t89))) (IntKind.wrap .i64 (t89 + 1))) none) (some t79)
set_option maxRecDepth 100000 in
theorem hexfile_Sum_17.l0_ok (K : Nat) (M0 : Nat → Prop) (w0 : World) (pA0_2 : Option Addr) (pc0_2 : Nat) (p0_0 : Int) (p0_1 : Int) (p0_2 : List Int) (t82 : List (List Int)) (t83 : Int) (t84 : Int) (t87 : List Int) (t88 : Int) (b77 : Nat) (b78 : Nat) (b80 : Nat) (A81 : Option Addr) (A85 : Option Addr) (c86 : Nat) (b90 : Nat) (R : Ending → World → Prop) (x : Int) (hk0 : ∀ (t107 : Int) (w1 : World), x = t107 → Holds M0 w0 w1 [rng F17 8 b77 [(3, .pointer (some ⟨b78, 0, none⟩)), (6, .func (.func 64) #[] #[.pointer (some ⟨b80, 0, none⟩)])] .ready none, box b78 5 [.int .u8 t107], box b80 25 [.int .u8 p0_0, .int .u16 p0_1, .slice pA0_2 p0_2.length pc0_2], sl (Rp.int .u8) (.slice pA0_2 p0_2.length pc0_2) p0_2, own (Rp.slice (Rp.int .u8)) 23 (.slice A81 t82.length 2) t82, dfr b90] → RunsI F64 [.c 34, .lp 4, .blk 0] [(0, .func (.yield b77) #[] #[]), (22, .slice A81 t82.length 2), (23, .int .i64 t83), (24, .int .i64 t84)] w1 R) :
  ∀ (k : Nat) (t79 : Int) (t89 : Int) (w : World), hexfile_Sum_17.l0 K p0_0 p0_1 p0_2 t82 t83 t84 t87 t88 k t79 t89 = some x → Holds M0 w0 w [rng F17 8 b77 [(3, .pointer (some ⟨b78, 0, none⟩)), (6, .func (.func 64) #[] #[.pointer (some ⟨b80, 0, none⟩)])] .ready none, box b78 5 [.int .u8 t79], box b80 25 [.int .u8 p0_0, .int .u16 p0_1, .slice pA0_2 p0_2.length pc0_2], sl (Rp.int .u8) (.slice pA0_2 p0_2.length pc0_2) p0_2, own (Rp.slice (Rp.int .u8)) 23 (.slice A81 t82.length 2) t82, sl (Rp.int .u8) (.slice A85 t87.length c86) t87, dfr b90] → RunsI F64 [.c 18, .lp 18, .blk 2, .blk 1, .c 34, .lp 4, .blk 0] [(0, .func (.yield b77) #[] #[]), (22, .slice A81 t82.length 2), (23, .int .i64 t83), (24, .int .i64 t84), (28, .slice A85 t87.length c86), (29, .int .i64 t88), (30, .int .i64 t89)] w R := by
 intro k
 induction k with
 | zero => intro t79 t89 w h hH; exact absurd h (by simp [hexfile_Sum_17.l0])
 | succ k ih =>
  intro t79 t89 w h hH
  rw [hexfile_Sum_17.l0.eq_2] at h
  refine RunsI.g 1 [.c 19, .c 20, .lp 18, .blk 2, .blk 1, .c 34, .lp 4, .blk 0] ?_
  refine RunsI.r ?_
  refine RegI.p 1 [(0, .func (.yield b77) #[] #[]), (22, .slice A81 t82.length 2), (23, .int .i64 t83), (24, .int .i64 t84), (28, .slice A85 t87.length c86), (29, .int .i64 t88), (30, .int .i64 t89), (31, .bool (decide (t89 < t88)))] ?_
  refine RegI.d ?_
  refine RunsI.g 1 [.c 21, .c 24, .lp 18, .blk 2, .blk 1, .c 34, .lp 4, .blk 0] ?_
  rcases of_cond h with ⟨hc91, h⟩ | ⟨hc91, h⟩
  ·skip
   refine RunsI.f 31 true hc91 ?_
   refine RunsI.b true 22 ?_
   refine RunsI.g 1 [.c 24, .lp 18, .blk 2, .blk 1, .c 34, .lp 4, .blk 0] ?_
   refine RunsI.g 3 [.c 27, .c 28, .blk 3, .c 33, .lp 18, .blk 2, .blk 1, .c 34, .lp 4, .blk 0] ?_
   refine RunsI.r ?_
   obtain ⟨hc92, h⟩ := of_cond0 h
   refine RegI.o (OpE.idxSl 32 5 23 t89 hH (by kernel_rfl) rfl (by kernel_rfl) (by kernel_rfl) hc92 ?_)
   intro b93 o94 cs95 hk96 h97
   obtain rfl := hk96
   refine RegI.o (OpE.loadCel 33 7 5 b93 o94 0 (.int .u8 (rdD t87 t89)) h97 (by kernel_rfl) (by kernel_rfl) rfl (by kernel_rfl) ?_)
   refine RegI.p 1 [(0, .func (.yield b77) #[] #[]), (6, .int .u8 (rdD t87 t89)), (22, .slice A81 t82.length 2), (23, .int .i64 t83), (24, .int .i64 t84), (28, .slice A85 t87.length c86), (29, .int .i64 t88), (30, .int .i64 t89)] ?_
   refine RegI.d ?_
   refine RunsI.g 1 [.c 29, .c 30, .blk 3, .c 33, .lp 18, .blk 2, .blk 1, .c 34, .lp 4, .blk 0] ?_
   refine RunsI.r ?_
   refine RegI.p 2 [(0, .func (.yield b77) #[] #[]), (22, .slice A81 t82.length 2), (23, .int .i64 t83), (24, .int .i64 t84), (28, .slice A85 t87.length c86), (29, .int .i64 t88), (30, .int .i64 t89), (34, .func (.yield b77) #[] #[]), (35, .int .u8 (rdD t87 t89))] ?_
   refine RegI.yield 36 b77 8 0 [.int .u8 (rdD t87 t89)] [0, 22, 23, 24, 28, 29, 30] [(0, .func (.yield b77) #[] #[]), (22, .slice A81 t82.length 2), (23, .int .i64 t83), (24, .int .i64 t84), (28, .slice A85 t87.length c86), (29, .int .i64 t88), (30, .int .i64 t89)] h97 (by kernel_rfl) (by kernel_rfl) (by kernel_rfl) (by kernel_rfl) rfl (by kernel_rfl) (by kernel_rfl) (by kernel_rfl) [.c 9, .bg, .c 10] (by kernel_rfl) [(7, .int .u8 (rdD t87 t89)), (3, .pointer (some ⟨b78, 0, none⟩)), (6, .func (.func 64) #[] #[.pointer (some ⟨b80, 0, none⟩)])] (by kernel_rfl) ?_
   refine RunsI.l [3, 7] [(3, .pointer (some ⟨b78, 0, none⟩)), (7, .int .u8 (rdD t87 t89))] ?_
   refine RunsI.r ?_
   refine RegI.p 1 [(3, .pointer (some ⟨b78, 0, none⟩)), (4, .int .u8 (rdD t87 t89))] ?_
   refine RegI.d ?_
   refine RunsI.begin 0 h97 rfl rfl ?_
   intro w98 h99 hk100
   refine RunsI.g 1 [.c 11, .blk 1] ?_
   refine RunsI.r ?_
   refine RegI.o (OpE.loadBox 8 1 5 b78 0 (.int .u8 t79) h99 (by kernel_rfl) (by kernel_rfl) rfl (by kernel_rfl) ?_)
   refine RegI.p 2 [(3, .pointer (some ⟨b78, 0, none⟩)), (10, .int .u8 (IntKind.wrap .u8 (t79 - (rdD t87 t89))))] ?_
   refine RegI.o (OpE.storeBox 1 5 b78 0 (.int .u8 (IntKind.wrap .u8 (t79 - (rdD t87 t89)))) [.int .u8 (IntKind.wrap .u8 (t79 - (rdD t87 t89)))] h99 (by kernel_rfl) (by kernel_rfl) rfl (by kernel_rfl) (by kernel_rfl) (by kernel_rfl) ?_)
   intro w101 h102 hk103
   refine RegI.d ?_
   refine RunsI.g 1 [] ?_
   refine RunsI.roundEnd 0 h102 rfl rfl ?_
   intro w104 h105 hk106
   refine cont_mk ?_
   refine RegI.p 1 [(0, .func (.yield b77) #[] #[]), (22, .slice A81 t82.length 2), (23, .int .i64 t83), (24, .int .i64 t84), (28, .slice A85 t87.length c86), (29, .int .i64 t88), (30, .int .i64 t89), (37, .bool false)] ?_
   refine RegI.d ?_
   refine RunsI.b false 32 ?_
   refine RunsI.g 2 [.c 33, .lp 18, .blk 2, .blk 1, .c 34, .lp 4, .blk 0] ?_
   refine RunsI.r ?_
   refine RegI.p 2 [(0, .func (.yield b77) #[] #[]), (22, .slice A81 t82.length 2), (23, .int .i64 t83), (24, .int .i64 t84), (28, .slice A85 t87.length c86), (29, .int .i64 t88), (30, .int .i64 (IntKind.wrap .i64 (t89 + 1)))] ?_
   refine RegI.d ?_
   refine RunsI.g 1 [.c 18, .lp 18, .blk 2, .blk 1, .c 34, .lp 4, .blk 0] ?_
   refine RunsI.l [0, 22, 23, 24, 28, 29, 30] [(0, .func (.yield b77) #[] #[]), (22, .slice A81 t82.length 2), (23, .int .i64 t83), (24, .int .i64 t84), (28, .slice A85 t87.length c86), (29, .int .i64 t88), (30, .int .i64 (IntKind.wrap .i64 (t89 + 1)))] ?_
   exact ih (IntKind.wrap .u8 (t79 - (rdD t87 t89))) (IntKind.wrap .i64 (t89 + 1)) w104 h (h105.pick [0, 1, 2, 3, 4, 5, 6] (by decide))
  ·skip
   refine RunsI.f 31 false hc91 ?_
   refine RunsI.b false 23 ?_
   refine RunsI.g 2 [.c 34, .lp 4, .blk 0] ?_
   refine RunsI.l [0, 22, 23, 24] [(0, .func (.yield b77) #[] #[]), (22, .slice A81 t82.length 2), (23, .int .i64 t83), (24, .int .i64 t84)] ?_
   exact hk0 t79 w (Option.some.inj h).symm (hH.pick [0, 1, 2, 3, 4, 6] (by decide))
def hexfile_Sum_17.l1 (K : Nat) (p0_0 : Int) (p0_1 : Int) (p0_2 : List Int) (t64 : List (List Int)) (t65 : Int) : Nat → Int → Int → Option Int
 | 0, _, _ => none
 | k + 1, t61, t66 => cond (decide (t66 < t65)) (cond (inR t66 t64.length) ((hexfile_Sum_17.l0 K p0_0 p0_1 p0_2 t64 t65 t66 (rdD t64 t66) ((rdD t64 t66).length : Int) K t61 0).bind (fun t110 => hexfile_Sum_17.l1 K p0_0 p0_1 p0_2 t64 t65 k t110 (IntKind.wrap .i64 (t66 + 1)))) none) (some t61)
set_option maxRecDepth 100000 in
theorem hexfile_Sum_17.l1_ok (K : Nat) (M0 : Nat → Prop) (w0 : World) (pA0_2 : Option Addr) (pc0_2 : Nat) (p0_0 : Int) (p0_1 : Int) (p0_2 : List Int) (t64 : List (List Int)) (t65 : Int) (b59 : Nat) (b60 : Nat) (b62 : Nat) (A63 : Option Addr) (b67 : Nat) (R : Ending → World → Prop) (x : Int) (hk0 : ∀ (t113 : Int) (w1 : World), x = t113 → Holds M0 w0 w1 [box b60 5 [.int .u8 t113], box b62 25 [.int .u8 p0_0, .int .u16 p0_1, .slice pA0_2 p0_2.length pc0_2], sl (Rp.int .u8) (.slice pA0_2 p0_2.length pc0_2) p0_2, rng F17 8 b59 [(3, .pointer (some ⟨b60, 0, none⟩)), (6, .func (.func 64) #[] #[.pointer (some ⟨b62, 0, none⟩)])] .ready none, dfr b67] → RunsI F64 [] [] w1 R) :
  ∀ (k : Nat) (t61 : Int) (t66 : Int) (w : World), hexfile_Sum_17.l1 K p0_0 p0_1 p0_2 t64 t65 k t61 t66 = some x → Holds M0 w0 w [rng F17 8 b59 [(3, .pointer (some ⟨b60, 0, none⟩)), (6, .func (.func 64) #[] #[.pointer (some ⟨b62, 0, none⟩)])] .ready none, box b60 5 [.int .u8 t61], box b62 25 [.int .u8 p0_0, .int .u16 p0_1, .slice pA0_2 p0_2.length pc0_2], sl (Rp.int .u8) (.slice pA0_2 p0_2.length pc0_2) p0_2, own (Rp.slice (Rp.int .u8)) 23 (.slice A63 t64.length 2) t64, dfr b67] → RunsI F64 [.c 4, .lp 4, .blk 0] [(0, .func (.yield b59) #[] #[]), (22, .slice A63 t64.length 2), (23, .int .i64 t65), (24, .int .i64 t66)] w R := by
 intro k
 induction k with
 | zero => intro t61 t66 w h hH; exact absurd h (by simp [hexfile_Sum_17.l1])
 | succ k ih =>
  intro t61 t66 w h hH
  rw [hexfile_Sum_17.l1.eq_2] at h
  refine RunsI.g 1 [.c 5, .c 6, .lp 4, .blk 0] ?_
  refine RunsI.r ?_
  refine RegI.p 1 [(0, .func (.yield b59) #[] #[]), (22, .slice A63 t64.length 2), (23, .int .i64 t65), (24, .int .i64 t66), (25, .bool (decide (t66 < t65)))] ?_
  refine RegI.d ?_
  refine RunsI.g 1 [.c 7, .c 10, .lp 4, .blk 0] ?_
  rcases of_cond h with ⟨hc68, h⟩ | ⟨hc68, h⟩
  ·skip
   refine RunsI.f 25 true hc68 ?_
   refine RunsI.b true 8 ?_
   refine RunsI.g 1 [.c 10, .lp 4, .blk 0] ?_
   refine RunsI.g 3 [.c 13, .c 14, .blk 1, .c 34, .lp 4, .blk 0] ?_
   refine RunsI.r ?_
   obtain ⟨hc69, h⟩ := of_cond0 h
   refine RegI.o (OpE.idxOwnA 26 4 104 23 t66 hH (by kernel_rfl) rfl (by kernel_rfl) (by kernel_rfl) hc69 ?_)
   refine RegI.o (OpE.loadOwnA 27 4 23 23 t66 0 (o := (Int.toNat t66) * 1 + 0) hH (by kernel_rfl) rfl (by kernel_rfl) (by kernel_rfl) hc69 (fun cs74 hk75 => ?_))
   obtain ⟨_, rfl, hs71⟩ := hk75
   obtain ⟨A72, c73, rfl⟩ := hs71.form
   have h76 := hH.addSl _ _ _ hs71
   refine ⟨.slice A72 ((rdD t64 t66).length) c73, by kernel_rfl, ?_⟩
   refine RegI.p 1 [(0, .func (.yield b59) #[] #[]), (4, .slice A72 ((rdD t64 t66).length) c73), (22, .slice A63 t64.length 2), (23, .int .i64 t65), (24, .int .i64 t66)] ?_
   refine RegI.d ?_
   refine RunsI.g 1 [.c 15, .c 16, .blk 1, .c 34, .lp 4, .blk 0] ?_
   refine RunsI.r ?_
   refine RegI.p 3 [(0, .func (.yield b59) #[] #[]), (22, .slice A63 t64.length 2), (23, .int .i64 t65), (24, .int .i64 t66), (28, .slice A72 ((rdD t64 t66).length) c73), (29, .int .i64 ((rdD t64 t66).length : Int)), (30, .int .i64 0)] ?_
   refine RegI.d ?_
   refine RunsI.g 2 [.c 18, .lp 18, .blk 2, .blk 1, .c 34, .lp 4, .blk 0] ?_
   obtain ⟨x108, hx109, h⟩ := of_bind h
   refine RunsI.l [0, 22, 23, 24, 28, 29, 30] [(0, .func (.yield b59) #[] #[]), (22, .slice A63 t64.length 2), (23, .int .i64 t65), (24, .int .i64 t66), (28, .slice A72 ((rdD t64 t66).length) c73), (29, .int .i64 ((rdD t64 t66).length : Int)), (30, .int .i64 0)] ?_
   refine hexfile_Sum_17.l0_ok K M0 w0 pA0_2 pc0_2 p0_0 p0_1 p0_2 t64 t65 t66 (rdD t64 t66) ((rdD t64 t66).length : Int) b59 b60 b62 A63 A72 c73 b67 _ x108 ?_ K t61 0 w hx109 (h76.pick [0, 1, 2, 3, 4, 6, 5] (by decide))
   ·intro t110 w112 hq125 h111
    (try rw [hq125] at h)
    refine RunsI.r ?_
    refine RegI.p 2 [(0, .func (.yield b59) #[] #[]), (22, .slice A63 t64.length 2), (23, .int .i64 t65), (24, .int .i64 (IntKind.wrap .i64 (t66 + 1)))] ?_
    refine RegI.d ?_
    refine RunsI.g 1 [.c 4, .lp 4, .blk 0] ?_
    refine RunsI.l [0, 22, 23, 24] [(0, .func (.yield b59) #[] #[]), (22, .slice A63 t64.length 2), (23, .int .i64 t65), (24, .int .i64 (IntKind.wrap .i64 (t66 + 1)))] ?_
    exact ih t110 (IntKind.wrap .i64 (t66 + 1)) w112 h (h111.pick [0, 1, 2, 3, 4, 5] (by decide))
  ·skip
   refine RunsI.f 25 false hc68 ?_
   refine RunsI.b false 9 ?_
   refine RunsI.g 1 [] ?_
   refine RunsI.l [] [] ?_
   exact hk0 t61 w (Option.some.inj h).symm (hH.pick [1, 2, 3, 0, 5] (by decide))
def hexfile_Sum_17.f (K : Nat) (p0_0 : Int) (p0_1 : Int) (p0_2 : List Int) : Option Int := (bits_Hi_65.f K p0_1).bind fun t28 => (bits_Lo_66.f K p0_1).bind fun t30 => (hexfile_Sum_17.l1 K p0_0 p0_1 p0_2 ([([(IntKind.wrap .u8 (p0_2.length : Int)), t28, t30, p0_0] : List Int), p0_2] : List (List Int)) (([([(IntKind.wrap .u8 (p0_2.length : Int)), t28, t30, p0_0] : List Int), p0_2] : List (List Int)).length : Int) K 0 0).bind (fun t116 => some t116)
set_option maxRecDepth 100000 in
theorem hexfile_Sum_17_ok (K : Nat) (M0 : Nat → Prop) (w0 : World) (pA0_2 : Option Addr) (pc0_2 : Nat) (p0_0 : Int) (p0_1 : Int) (p0_2 : List Int) (ho : ∀ b, M0 b → b < w0.heap.size) (hs0_2 : Sl (Rp.int .u8) w0 M0 (.slice pA0_2 p0_2.length pc0_2) p0_2) {r : Int} (h : hexfile_Sum_17.f K p0_0 p0_1 p0_2 = some r) :
  Calls Tryd.prog 17 #[.agg #[.int .u8 p0_0, .int .u16 p0_1, .slice pA0_2 p0_2.length pc0_2]] w0 (hexfile_Sum_17.post M0 w0 r) := by
 unfold hexfile_Sum_17.f at h
 have h0 : Holds M0 w0 w0 [] := Holds.start ho
 have h00_2 := h0.addSl (Rp.int .u8) (.slice pA0_2 p0_2.length pc0_2) p0_2 (hs0_2.mono (fun _ _ hm => hm.elim id (fun hm => absurd hm (by simp [mines, sl]))))
 have h0 : Holds M0 w0 w0 [sl (Rp.int .u8) (.slice pA0_2 p0_2.length pc0_2) p0_2] := h00_2
 refine calls_of F17 rfl [.agg #[.int .u8 p0_0, .int .u16 p0_1, .slice pA0_2 p0_2.length pc0_2]] (by kernel_rfl) ?_
 refine RunsI.g 1 [.c 1, .c 2] ?_
 refine RunsI.r ?_
 refine RegI.o (OpE.box 1 25 [.int .u8 p0_0, .int .u16 p0_1, .slice pA0_2 p0_2.length pc0_2] h0 (by kernel_rfl) (by kernel_rfl) ?_)
 intro w1 b2 h3 hb4 hn5
 refine RegI.p 1 [(1, .pointer (some ⟨b2, 0, none⟩))] ?_
 refine RegI.d ?_
 refine RunsI.g 1 [.c 3, .c 4] ?_
 refine RunsI.r ?_
 refine RegI.o (OpE.box 3 5 [.int .u8 0] h3 (by kernel_rfl) (by kernel_rfl) ?_)
 intro w6 b7 h8 hb9 hn10
 refine RegI.d ?_
 refine RunsI.g 2 [.c 6, .c 7, .c 12] ?_
 refine RunsI.r ?_
 refine RegI.o (OpE.loadBox 5 1 25 b2 0 (.agg #[.int .u8 p0_0, .int .u16 p0_1, .slice pA0_2 p0_2.length pc0_2]) h8 (by kernel_rfl) (by kernel_rfl) rfl (by kernel_rfl) ?_)
 refine RegI.enter 6 [3] [(3, .pointer (some ⟨b7, 0, none⟩))] (by kernel_rfl) (by kernel_rfl) (by kernel_rfl) (by kernel_rfl) F30 30 rfl [.agg #[.int .u8 p0_0, .int .u16 p0_1, .slice pA0_2 p0_2.length pc0_2]] (by kernel_rfl) (by kernel_rfl) ?_
 refine RunsI.g 1 [.c 1, .c 2] ?_
 refine RunsI.r ?_
 refine RegI.o (OpE.box 1 25 [.int .u8 p0_0, .int .u16 p0_1, .slice pA0_2 p0_2.length pc0_2] h8 (by kernel_rfl) (by kernel_rfl) ?_)
 intro w11 b12 h13 hb14 hn15
 refine RegI.p 1 [(1, .pointer (some ⟨b12, 0, none⟩))] ?_
 refine RegI.d ?_
 refine RunsI.g 1 [.c 3, .c 4] ?_
 refine RunsI.r ?_
 refine RegI.p 2 [(2, .func (.func 64) #[] #[.pointer (some ⟨b12, 0, none⟩)])] ?_
 refine RegI.d ?_
 refine RunsI.t (.func (.func 64) #[] #[.pointer (some ⟨b12, 0, none⟩)]) ?_
 refine cont_mk ?_
 refine RegI.d ?_
 refine RunsI.g 1 [.c 8, .blk 0, .c 12] ?_
 refine RunsI.rangeFunc (G := F64) [3, 6] [(3, .pointer (some ⟨b7, 0, none⟩)), (6, .func (.func 64) #[] #[.pointer (some ⟨b12, 0, none⟩)])] 64 [.pointer (some ⟨b12, 0, none⟩)] h13 (by kernel_rfl) (by kernel_rfl) (by kernel_rfl) (fun _ _ => by kernel_rfl) rfl rfl (by kernel_rfl) rfl rfl ?_
 intro b16 b17 w18 h19 hb20 hn21 hn22
 refine RunsI.g 1 [.c 1, .c 2] ?_
 refine RunsI.any 18 (by kernel_rfl) (by kernel_rfl) (by kernel_rfl) (Kp ([] : List Nat) (World.drew w18)) ?_
 have h24 := h19.drew
 generalize World.drew w18 = w23 at h24 ⊢
 have hS25 := Kp.refl ([] : List Nat) w23
 refine AnyE.pure 0 7 (.pointer (some ⟨b12, 2, none⟩)) (by kernel_rfl) hS25 (fun _ => by kernel_rfl) ?_
 refine AnyE.loadBox 1 8 3 23 b12 2 (.slice pA0_2 p0_2.length pc0_2) [] h24 rfl (by kernel_rfl) hS25 rfl rfl (by kernel_rfl) (by kernel_rfl) ?_
 refine AnyE.pure 2 9 (.int .i64 (p0_2.length : Int)) (by kernel_rfl) hS25 (fun _ => by kernel_rfl) ?_
 refine AnyE.pure 3 10 (.int .u8 (IntKind.wrap .u8 (p0_2.length : Int))) (by kernel_rfl) hS25 (fun _ => by kernel_rfl) ?_
 refine AnyE.pure 4 11 (.pointer (some ⟨b12, 1, none⟩)) (by kernel_rfl) hS25 (fun _ => by kernel_rfl) ?_
 refine AnyE.loadBox 5 12 3 22 b12 1 (.int .u16 p0_1) [] h24 rfl (by kernel_rfl) hS25 rfl rfl (by kernel_rfl) (by kernel_rfl) ?_
 obtain ⟨t28, hg27, h⟩ := of_bind h
 refine AnyE.call 6 13 (.int .u8 t28) 65 #[.int .u16 p0_1] (by kernel_rfl) hS25 (fun _ => by kernel_rfl) (fun w hk => bits_Hi_65_ok K (fun _ => False) w p0_1 (fun _ hf => hf.elim) hg27) ?_
 refine AnyE.pure 7 14 (.pointer (some ⟨b12, 1, none⟩)) (by kernel_rfl) hS25 (fun _ => by kernel_rfl) ?_
 refine AnyE.loadBox 8 15 3 22 b12 1 (.int .u16 p0_1) [] h24 rfl (by kernel_rfl) hS25 rfl rfl (by kernel_rfl) (by kernel_rfl) ?_
 obtain ⟨t30, hg29, h⟩ := of_bind h
 refine AnyE.call 9 16 (.int .u8 t30) 66 #[.int .u16 p0_1] (by kernel_rfl) hS25 (fun _ => by kernel_rfl) (fun w hk => bits_Lo_66_ok K (fun _ => False) w p0_1 (fun _ hf => hf.elim) hg29) ?_
 refine AnyE.pure 10 17 (.pointer (some ⟨b12, 0, none⟩)) (by kernel_rfl) hS25 (fun _ => by kernel_rfl) ?_
 refine AnyE.loadBox 11 18 3 5 b12 0 (.int .u8 p0_0) [] h24 rfl (by kernel_rfl) hS25 rfl rfl (by kernel_rfl) (by kernel_rfl) ?_
 refine AnyE.pure 13 20 (.pointer (some ⟨b12, 2, none⟩)) (by kernel_rfl) hS25 (fun _ => by kernel_rfl) ?_
 refine AnyE.loadBox 14 21 3 23 b12 2 (.slice pA0_2 p0_2.length pc0_2) [] h24 rfl (by kernel_rfl) hS25 rfl rfl (by kernel_rfl) (by kernel_rfl) ?_
 refine AnyE.pure 17 24 (.int .i64 0) (by kernel_rfl) hS25 (fun _ => by kernel_rfl) ?_
 refine AnyE.one 12 (by kernel_rfl) (fun w31 hu32 => ?_)
 have h33 := h24.call hu32
 have hS34 := hS25.up hu32
 refine OpE.lit 19 5 [.int .u8 (IntKind.wrap .u8 (p0_2.length : Int)), .int .u8 t28, .int .u8 t30, .int .u8 p0_0] 4 h33 (by kernel_rfl) (by kernel_rfl) ?_
 intro w35 b36 h37 hb38 hn39
 have hn40 := Nat.le_trans hS34.1 hn39
 have hS41 := hS34.up hb38
 refine ⟨hS41, ?_⟩
 refine AnyE.one 15 (by kernel_rfl) (fun w42 hu43 => ?_)
 have h44 := h37.call hu43
 have hS45 := hS41.up hu43
 refine OpE.lit 22 23 [.slice (some ⟨b36, 0, none⟩) (([(IntKind.wrap .u8 (p0_2.length : Int)), t28, t30, p0_0] : List Int).length) 4, .slice pA0_2 p0_2.length pc0_2] 2 h44 (by kernel_rfl) (by kernel_rfl) ?_
 intro w46 b47 h48 hb49 hn50
 have hn51 := Nat.le_trans hS45.1 hn50
 have hS52 := hS45.up hb49
 refine ⟨hS52, ?_⟩
 refine AnyE.pure 16 23 (.int .i64 (([([(IntKind.wrap .u8 (p0_2.length : Int)), t28, t30, p0_0] : List Int), p0_2] : List (List Int)).length : Int)) (by kernel_rfl) hS52 (fun _ => by kernel_rfl) ?_
 refine AnyE.done (by kernel_rfl) (fun w53 hu54 => ?_)
 have h55 := h48.call hu54
 refine RunsI.l [0, 22, 23, 24] [(0, .func (.yield b17) #[] #[]), (22, .slice (some ⟨b47, 0, none⟩) (([([(IntKind.wrap .u8 (p0_2.length : Int)), t28, t30, p0_0] : List Int), p0_2] : List (List Int)).length) 2), (23, .int .i64 (([([(IntKind.wrap .u8 (p0_2.length : Int)), t28, t30, p0_0] : List Int), p0_2] : List (List Int)).length : Int)), (24, .int .i64 0)] ?_
 refine RunsI.g 2 [.c 4, .lp 4, .blk 0] ?_
 obtain ⟨x114, hx115, h⟩ := of_bind h
 have h56 := h55.boxOwn 6 rfl (Rp.int .u8) ([(IntKind.wrap .u8 (p0_2.length : Int)), t28, t30, p0_0] : List Int) (cells_int _ _ _ _) (Nat.le_of_ble_eq_true (by kernel_rfl))
 have h57 := h56.release 6 rfl
 have h58 := h57.boxOwn 7 rfl (Rp.slice (Rp.int .u8)) ([([(IntKind.wrap .u8 (p0_2.length : Int)), t28, t30, p0_0] : List Int), p0_2] : List (List Int)) (⟨[_], _, rfl, ⟨_, rfl, h57.get 6 rfl⟩, ⟨[_], _, rfl, ⟨_, rfl, h57.get 0 rfl⟩, rfl⟩⟩) (Nat.le_of_ble_eq_true (by kernel_rfl))
 refine RunsI.l [0, 22, 23, 24] [(0, .func (.yield b17) #[] #[]), (22, .slice (some ⟨b47, 0, none⟩) (([([(IntKind.wrap .u8 (p0_2.length : Int)), t28, t30, p0_0] : List Int), p0_2] : List (List Int)).length) 2), (23, .int .i64 (([([(IntKind.wrap .u8 (p0_2.length : Int)), t28, t30, p0_0] : List Int), p0_2] : List (List Int)).length : Int)), (24, .int .i64 0)] ?_
 refine hexfile_Sum_17.l1_ok K M0 w0 pA0_2 pc0_2 p0_0 p0_1 p0_2 ([([(IntKind.wrap .u8 (p0_2.length : Int)), t28, t30, p0_0] : List Int), p0_2] : List (List Int)) (([([(IntKind.wrap .u8 (p0_2.length : Int)), t28, t30, p0_0] : List Int), p0_2] : List (List Int)).length : Int) b17 b7 b12 (some ⟨b47, 0, none⟩) b16 _ x114 ?_ K 0 0 w53 hx115 (h58.pick [5, 2, 3, 0, 7, 4] (by decide))
 ·intro t116 w118 hq126 h117
  (try rw [hq126] at h)
  refine RunsI.t (.tuple #[]) ?_
  refine contR_mk ?_
  refine RunsI.endLoop 3 h117 rfl rfl (by intro hh; cases hh) [.blk 0, .c 12] (by kernel_rfl) ?_
  intro w119 h120 hk121
  refine RunsI.g 2 [.c 13, .c 14] ?_
  refine RunsI.r ?_
  refine RegI.o (OpE.loadBox 11 0 5 b7 0 (.int .u8 t116) h120 (by kernel_rfl) (by kernel_rfl) rfl (by kernel_rfl) ?_)
  refine RegI.p 1 [(2, .int .u8 t116)] ?_
  refine RegI.d ?_
  refine RunsI.toRet (by kernel_rfl) ?_
  refine RetI.takeH 4 b16 h120 rfl ?_
  intro w122 h123 hk124
  refine RetI.val (.int .u8 t116) (by kernel_rfl) ?_
  obtain rfl := Option.some.inj h
  exact ⟨rfl, h123.below⟩
end

/-! ### charabanc/hexfile.Line (function 11) -/
section
def hexfile_Line_11.post (M0 : Nat → Prop) (w0 : World) (r : ByteArray × Int) : Ending → World → Prop := fun e w => e = .returned (.tuple #[.string r.1, .int .i64 r.2]) ∧ Below w0.heap.size w0 w
def hexfile_Line_11.l0 (K : Nat) (p0_0 : Int) (p0_1 : Int) (p0_2 : List Int) (t110 : List (List Int)) (t111 : Int) (t112 : Int) (t115 : List Int) (t116 : Int) : Nat → (List Int) → Int → Option (List Int)
 | 0, _, _ => none
 | k + 1, t106, t117 => cond (decide (t117 < t116)) (cond (inR t117 t115.length) (cond (inR (Int.fdiv (rdD t115 t117) (2 ^ 4)) (⟨#[48, 49, 50, 51, 52, 53, 54, 55, 56, 57, 65, 66, 67, 68, 69, 70]⟩ : ByteArray).size) (cond (inR (band .u8 (rdD t115 t117) 15) (⟨#[48, 49, 50, 51, 52, 53, 54, 55, 56, 57, 65, 66, 67, 68, 69, 70]⟩ : ByteArray).size) (cond (mayBe (t106.length + ([(btD (⟨#[48, 49, 50, 51, 52, 53, 54, 55, 56, 57, 65, 66, 67, 68, 69, 70]⟩ : ByteArray) (Int.fdiv (rdD t115 t117) (2 ^ 4))), (btD (⟨#[48, 49, 50, 51, 52, 53, 54, 55, 56, 57, 65, 66, 67, 68, 69, 70]⟩ : ByteArray) (band .u8 (rdD t115 t117) 15))] : List Int).length) 1) (hexfile_Line_11.l0 K p0_0 p0_1 p0_2 t110 t111 t112 t115 t116 k (t106 ++ ([(btD (⟨#[48, 49, 50, 51, 52, 53, 54, 55, 56, 57, 65, 66, 67, 68, 69, 70]⟩ : ByteArray) (Int.fdiv (rdD t115 t117) (2 ^ 4))), (btD (⟨#[48, 49, 50, 51, 52, 53, 54, 55, 56, 57, 65, 66, 67, 68, 69, 70]⟩ : ByteArray) (band .u8 (rdD t115 t117) 15))] : List Int)) (IntKind.wrap .i64 (t117 + 1))) none) none) none) none) (some t106)
set_option maxRecDepth 100000 in
theorem hexfile_Line_11.l0_ok (K : Nat) (M0 : Nat → Prop) (w0 : World) (pA0_2 : Option Addr) (pc0_2 : Nat) (p0_0 : Int) (p0_1 : Int) (p0_2 : List Int) (t110 : List (List Int)) (t111 : Int) (t112 : Int) (t115 : List Int) (t116 : Int) (b101 : Nat) (b102 : Nat) (b103 : Nat) (b107 : Nat) (b108 : Nat) (A109 : Option Addr) (A113 : Option Addr) (c114 : Nat) (b118 : Nat) (R : Ending → World → Prop) (x : (List Int)) (hk0 : ∀ (t174 : List Int) (A172 : Option Addr) (c173 : Nat) (w1 : World), x = t174 → Holds M0 w0 w1 [rng F11 18 b101 [(1, .pointer (some ⟨b102, 0, none⟩)), (4, .pointer (some ⟨b103, 0, none⟩)), (5, .pointer (some ⟨b107, 0, none⟩)), (15, .func (.func 64) #[] #[.pointer (some ⟨b108, 0, none⟩)])] .ready none, box b102 25 [.int .u8 p0_0, .int .u16 p0_1, .slice pA0_2 p0_2.length pc0_2], sl (Rp.int .u8) (.slice pA0_2 p0_2.length pc0_2) p0_2, box b103 23 [.slice A172 t174.length c173], ownS (Rp.int .u8) 5 (.slice A172 t174.length c173) t174, box b107 58 [.func (.func 29) #[] #[.pointer (some ⟨b103, 0, none⟩)]], box b108 25 [.int .u8 p0_0, .int .u16 p0_1, .slice pA0_2 p0_2.length pc0_2], own (Rp.slice (Rp.int .u8)) 23 (.slice A109 t110.length 2) t110, dfr b118] → RunsI F64 [.c 34, .lp 4, .blk 0] [(0, .func (.yield b101) #[] #[]), (22, .slice A109 t110.length 2), (23, .int .i64 t111), (24, .int .i64 t112)] w1 R) :
  ∀ (k : Nat) (t106 : List Int) (t117 : Int) (A104 : Option Addr) (c105 : Nat) (w : World), hexfile_Line_11.l0 K p0_0 p0_1 p0_2 t110 t111 t112 t115 t116 k t106 t117 = some x → Holds M0 w0 w [rng F11 18 b101 [(1, .pointer (some ⟨b102, 0, none⟩)), (4, .pointer (some ⟨b103, 0, none⟩)), (5, .pointer (some ⟨b107, 0, none⟩)), (15, .func (.func 64) #[] #[.pointer (some ⟨b108, 0, none⟩)])] .ready none, box b102 25 [.int .u8 p0_0, .int .u16 p0_1, .slice pA0_2 p0_2.length pc0_2], sl (Rp.int .u8) (.slice pA0_2 p0_2.length pc0_2) p0_2, box b103 23 [.slice A104 t106.length c105], ownS (Rp.int .u8) 5 (.slice A104 t106.length c105) t106, box b107 58 [.func (.func 29) #[] #[.pointer (some ⟨b103, 0, none⟩)]], box b108 25 [.int .u8 p0_0, .int .u16 p0_1, .slice pA0_2 p0_2.length pc0_2], own (Rp.slice (Rp.int .u8)) 23 (.slice A109 t110.length 2) t110, sl (Rp.int .u8) (.slice A113 t115.length c114) t115, dfr b118] → RunsI F64 [.c 18, .lp 18, .blk 2, .blk 1, .c 34, .lp 4, .blk 0] [(0, .func (.yield b101) #[] #[]), (22, .slice A109 t110.length 2), (23, .int .i64 t111), (24, .int .i64 t112), (28, .slice A113 t115.length c114), (29, .int .i64 t116), (30, .int .i64 t117)] w R := by
 intro k
 induction k with
 | zero => intro t106 t117 A104 c105 w h hH; exact absurd h (by simp [hexfile_Line_11.l0])
 | succ k ih =>
  intro t106 t117 A104 c105 w h hH
  rw [hexfile_Line_11.l0.eq_2] at h
  refine RunsI.g 1 [.c 19, .c 20, .lp 18, .blk 2, .blk 1, .c 34, .lp 4, .blk 0] ?_
  refine RunsI.r ?_
  refine RegI.p 1 [(0, .func (.yield b101) #[] #[]), (22, .slice A109 t110.length 2), (23, .int .i64 t111), (24, .int .i64 t112), (28, .slice A113 t115.length c114), (29, .int .i64 t116), (30, .int .i64 t117), (31, .bool (decide (t117 < t116)))] ?_
  refine RegI.d ?_
  refine RunsI.g 1 [.c 21, .c 24, .lp 18, .blk 2, .blk 1, .c 34, .lp 4, .blk 0] ?_
  rcases of_cond h with ⟨hc119, h⟩ | ⟨hc119, h⟩
  ·skip
   refine RunsI.f 31 true hc119 ?_
   refine RunsI.b true 22 ?_
   refine RunsI.g 1 [.c 24, .lp 18, .blk 2, .blk 1, .c 34, .lp 4, .blk 0] ?_
   refine RunsI.g 3 [.c 27, .c 28, .blk 3, .c 33, .lp 18, .blk 2, .blk 1, .c 34, .lp 4, .blk 0] ?_
   refine RunsI.r ?_
   obtain ⟨hc120, h⟩ := of_cond0 h
   refine RegI.o (OpE.idxSl 32 8 23 t117 hH (by kernel_rfl) rfl (by kernel_rfl) (by kernel_rfl) hc120 ?_)
   intro b121 o122 cs123 hk124 h125
   obtain rfl := hk124
   refine RegI.o (OpE.loadCel 33 10 5 b121 o122 0 (.int .u8 (rdD t115 t117)) h125 (by kernel_rfl) (by kernel_rfl) rfl (by kernel_rfl) ?_)
   refine RegI.p 1 [(0, .func (.yield b101) #[] #[]), (6, .int .u8 (rdD t115 t117)), (22, .slice A109 t110.length 2), (23, .int .i64 t111), (24, .int .i64 t112), (28, .slice A113 t115.length c114), (29, .int .i64 t116), (30, .int .i64 t117)] ?_
   refine RegI.d ?_
   refine RunsI.g 1 [.c 29, .c 30, .blk 3, .c 33, .lp 18, .blk 2, .blk 1, .c 34, .lp 4, .blk 0] ?_
   refine RunsI.r ?_
   refine RegI.p 2 [(0, .func (.yield b101) #[] #[]), (22, .slice A109 t110.length 2), (23, .int .i64 t111), (24, .int .i64 t112), (28, .slice A113 t115.length c114), (29, .int .i64 t116), (30, .int .i64 t117), (34, .func (.yield b101) #[] #[]), (35, .int .u8 (rdD t115 t117))] ?_
   refine RegI.yield 36 b101 18 0 [.int .u8 (rdD t115 t117)] [0, 22, 23, 24, 28, 29, 30] [(0, .func (.yield b101) #[] #[]), (22, .slice A109 t110.length 2), (23, .int .i64 t111), (24, .int .i64 t112), (28, .slice A113 t115.length c114), (29, .int .i64 t116), (30, .int .i64 t117)] h125 (by kernel_rfl) (by kernel_rfl) (by kernel_rfl) (by kernel_rfl) rfl (by kernel_rfl) (by kernel_rfl) (by kernel_rfl) [.c 19, .bg, .c 20] (by kernel_rfl) [(16, .int .u8 (rdD t115 t117)), (1, .pointer (some ⟨b102, 0, none⟩)), (4, .pointer (some ⟨b103, 0, none⟩)), (5, .pointer (some ⟨b107, 0, none⟩)), (15, .func (.func 64) #[] #[.pointer (some ⟨b108, 0, none⟩)])] (by kernel_rfl) ?_
   refine RunsI.l [5, 16] [(5, .pointer (some ⟨b107, 0, none⟩)), (16, .int .u8 (rdD t115 t117))] ?_
   refine RunsI.r ?_
   refine RegI.p 1 [(5, .pointer (some ⟨b107, 0, none⟩)), (6, .int .u8 (rdD t115 t117))] ?_
   refine RegI.d ?_
   refine RunsI.begin 0 h125 rfl rfl ?_
   intro w126 h127 hk128
   refine RunsI.g 1 [.c 21, .blk 1] ?_
   refine RunsI.r ?_
   refine RegI.o (OpE.loadBox 17 5 58 b107 0 (.func (.func 29) #[] #[.pointer (some ⟨b103, 0, none⟩)]) h127 (by kernel_rfl) (by kernel_rfl) rfl (by kernel_rfl) ?_)
   refine RegI.p 1 [(17, .func (.func 29) #[] #[.pointer (some ⟨b103, 0, none⟩)]), (18, .int .u8 (rdD t115 t117))] ?_
   refine RegI.enter 19 [] [] (by kernel_rfl) (by kernel_rfl) (by kernel_rfl) (by kernel_rfl) F29 29 rfl [.int .u8 (rdD t115 t117), .pointer (some ⟨b103, 0, none⟩)] (by kernel_rfl) (by kernel_rfl) ?_
   refine RunsI.any 10 (by kernel_rfl) (by kernel_rfl) (by kernel_rfl) (Kp (mines (pick [rng F11 18 b101 [(1, .pointer (some ⟨b102, 0, none⟩)), (4, .pointer (some ⟨b103, 0, none⟩)), (5, .pointer (some ⟨b107, 0, none⟩)), (15, .func (.func 64) #[] #[.pointer (some ⟨b108, 0, none⟩)])] .busy none, box b102 25 [.int .u8 p0_0, .int .u16 p0_1, .slice pA0_2 p0_2.length pc0_2], sl (Rp.int .u8) (.slice pA0_2 p0_2.length pc0_2) p0_2, box b103 23 [.slice A104 t106.length c105], ownS (Rp.int .u8) 5 (.slice A104 t106.length c105) t106, box b107 58 [.func (.func 29) #[] #[.pointer (some ⟨b103, 0, none⟩)]], box b108 25 [.int .u8 p0_0, .int .u16 p0_1, .slice pA0_2 p0_2.length pc0_2], own (Rp.slice (Rp.int .u8)) 23 (.slice A109 t110.length 2) t110, sl (Rp.int .u8) (.slice A113 t115.length c114) t115, dfr b118, cel b121 o122 [.int .u8 (rdD t115 t117)]] [4])) (World.drew w126)) ?_
   have h130 := h127.drew
   generalize World.drew w126 = w129 at h130 ⊢
   have hS131 := Kp.refl (mines (pick [rng F11 18 b101 [(1, .pointer (some ⟨b102, 0, none⟩)), (4, .pointer (some ⟨b103, 0, none⟩)), (5, .pointer (some ⟨b107, 0, none⟩)), (15, .func (.func 64) #[] #[.pointer (some ⟨b108, 0, none⟩)])] .busy none, box b102 25 [.int .u8 p0_0, .int .u16 p0_1, .slice pA0_2 p0_2.length pc0_2], sl (Rp.int .u8) (.slice pA0_2 p0_2.length pc0_2) p0_2, box b103 23 [.slice A104 t106.length c105], ownS (Rp.int .u8) 5 (.slice A104 t106.length c105) t106, box b107 58 [.func (.func 29) #[] #[.pointer (some ⟨b103, 0, none⟩)]], box b108 25 [.int .u8 p0_0, .int .u16 p0_1, .slice pA0_2 p0_2.length pc0_2], own (Rp.slice (Rp.int .u8)) 23 (.slice A109 t110.length 2) t110, sl (Rp.int .u8) (.slice A113 t115.length c114) t115, dfr b118, cel b121 o122 [.int .u8 (rdD t115 t117)]] [4])) w129
   refine AnyE.loadBox 0 3 3 23 b103 0 (.slice A104 t106.length c105) [4] h130 rfl (by kernel_rfl) hS131 rfl rfl (by kernel_rfl) (by kernel_rfl) ?_
   refine AnyE.pure 1 4 (.int .u8 (rdD t115 t117)) (by kernel_rfl) hS131 (fun _ => by kernel_rfl) ?_
   refine AnyE.pure 2 5 (.int .u8 (Int.fdiv (rdD t115 t117) (2 ^ 4))) (by kernel_rfl) hS131 (fun _ => by kernel_rfl) ?_
   obtain ⟨hc133, h⟩ := of_cond0 h
   refine AnyE.run 3 6 (.int .u8 (btD (⟨#[48, 49, 50, 51, 52, 53, 54, 55, 56, 57, 65, 66, 67, 68, 69, 70]⟩ : ByteArray) (Int.fdiv (rdD t115 t117) (2 ^ 4)))) (by kernel_rfl) hS131 (fun _ hk => run_strIdx (T0 := 9) (s := (⟨#[48, 49, 50, 51, 52, 53, 54, 55, 56, 57, 65, 66, 67, 68, 69, 70]⟩ : ByteArray)) (j := (Int.fdiv (rdD t115 t117) (2 ^ 4))) (by kernel_rfl) (by kernel_rfl) hc133) ?_
   refine AnyE.pure 4 7 (.int .u8 (rdD t115 t117)) (by kernel_rfl) hS131 (fun _ => by kernel_rfl) ?_
   refine AnyE.pure 5 8 (.int .u8 (band .u8 (rdD t115 t117) 15)) (by kernel_rfl) hS131 (fun _ => by kernel_rfl) ?_
   obtain ⟨hc134, h⟩ := of_cond0 h
   refine AnyE.run 6 9 (.int .u8 (btD (⟨#[48, 49, 50, 51, 52, 53, 54, 55, 56, 57, 65, 66, 67, 68, 69, 70]⟩ : ByteArray) (band .u8 (rdD t115 t117) 15))) (by kernel_rfl) hS131 (fun _ hk => run_strIdx (T0 := 9) (s := (⟨#[48, 49, 50, 51, 52, 53, 54, 55, 56, 57, 65, 66, 67, 68, 69, 70]⟩ : ByteArray)) (j := (band .u8 (rdD t115 t117) 15)) (by kernel_rfl) (by kernel_rfl) hc134) ?_
   refine AnyE.one 7 (by kernel_rfl) (fun w135 hu136 => ?_)
   have h137 := h130.call hu136
   have hS138 := hS131.up hu136
   refine OpE.lit 10 5 [.int .u8 (btD (⟨#[48, 49, 50, 51, 52, 53, 54, 55, 56, 57, 65, 66, 67, 68, 69, 70]⟩ : ByteArray) (Int.fdiv (rdD t115 t117) (2 ^ 4))), .int .u8 (btD (⟨#[48, 49, 50, 51, 52, 53, 54, 55, 56, 57, 65, 66, 67, 68, 69, 70]⟩ : ByteArray) (band .u8 (rdD t115 t117) 15))] 2 h137 (by kernel_rfl) (by kernel_rfl) ?_
   intro w139 b140 h141 hb142 hn143
   have hn144 := Nat.le_trans hS138.1 hn143
   have hS145 := hS138.up hb142
   refine ⟨hS145, ?_⟩
   refine AnyE.one 8 (by kernel_rfl) (fun w146 hu147 => ?_)
   have h148 := h141.call hu147
   have hS149 := hS145.up hu147
   obtain ⟨hc150, h⟩ := of_cond0 h
   refine OpE.appendBoxS 11 4 11 23 5 1 ([(btD (⟨#[48, 49, 50, 51, 52, 53, 54, 55, 56, 57, 65, 66, 67, 68, 69, 70]⟩ : ByteArray) (Int.fdiv (rdD t115 t117) (2 ^ 4))), (btD (⟨#[48, 49, 50, 51, 52, 53, 54, 55, 56, 57, 65, 66, 67, 68, 69, 70]⟩ : ByteArray) (band .u8 (rdD t115 t117) 15))] : List Int) 1 h148 (by kernel_rfl) (by decide) (by kernel_rfl) (by kernel_rfl) rfl rfl rfl (cells_int _ _ _ _) (fun _ _ => (cells_int _ _ _ _)) hc150 ?_
   intro w151 A152 c153 h154 hk155
   have hS156 := hS149.trans hk155 (Kp.turned h130 [4] rfl 4 rfl rfl)
   refine ⟨hS156, ?_⟩
   refine AnyE.last 9 (by kernel_rfl) (by kernel_rfl) (fun w157 hu158 => ?_)
   have h159 := h154.call hu158
   have hS160 := hS156.up hu158
   refine OpE.storeBox 3 23 b103 0 (.slice A152 ((t106 ++ ([(btD (⟨#[48, 49, 50, 51, 52, 53, 54, 55, 56, 57, 65, 66, 67, 68, 69, 70]⟩ : ByteArray) (Int.fdiv (rdD t115 t117) (2 ^ 4))), (btD (⟨#[48, 49, 50, 51, 52, 53, 54, 55, 56, 57, 65, 66, 67, 68, 69, 70]⟩ : ByteArray) (band .u8 (rdD t115 t117) 15))] : List Int)).length) c153) [.slice A152 ((t106 ++ ([(btD (⟨#[48, 49, 50, 51, 52, 53, 54, 55, 56, 57, 65, 66, 67, 68, 69, 70]⟩ : ByteArray) (Int.fdiv (rdD t115 t117) (2 ^ 4))), (btD (⟨#[48, 49, 50, 51, 52, 53, 54, 55, 56, 57, 65, 66, 67, 68, 69, 70]⟩ : ByteArray) (band .u8 (rdD t115 t117) 15))] : List Int)).length) c153] h159 (by kernel_rfl) (by kernel_rfl) rfl (by kernel_rfl) (by kernel_rfl) (by kernel_rfl) ?_
   intro w161 h162 hk163
   refine AnyE.done (by kernel_rfl) (fun w165 hu166 => ?_)
   have h167 := h162.call hu166
   refine RunsI.l [] [] ?_
   refine RunsI.t (.tuple #[]) ?_
   refine cont_mk ?_
   refine RegI.d ?_
   refine RunsI.g 1 [] ?_
   refine RunsI.roundEnd 0 h167 rfl rfl ?_
   intro w168 h169 hk170
   refine cont_mk ?_
   refine RegI.p 1 [(0, .func (.yield b101) #[] #[]), (22, .slice A109 t110.length 2), (23, .int .i64 t111), (24, .int .i64 t112), (28, .slice A113 t115.length c114), (29, .int .i64 t116), (30, .int .i64 t117), (37, .bool false)] ?_
   refine RegI.d ?_
   refine RunsI.b false 32 ?_
   refine RunsI.g 2 [.c 33, .lp 18, .blk 2, .blk 1, .c 34, .lp 4, .blk 0] ?_
   refine RunsI.r ?_
   refine RegI.p 2 [(0, .func (.yield b101) #[] #[]), (22, .slice A109 t110.length 2), (23, .int .i64 t111), (24, .int .i64 t112), (28, .slice A113 t115.length c114), (29, .int .i64 t116), (30, .int .i64 (IntKind.wrap .i64 (t117 + 1)))] ?_
   refine RegI.d ?_
   refine RunsI.g 1 [.c 18, .lp 18, .blk 2, .blk 1, .c 34, .lp 4, .blk 0] ?_
   have h171 := h169.toS 4 rfl
   refine RunsI.l [0, 22, 23, 24, 28, 29, 30] [(0, .func (.yield b101) #[] #[]), (22, .slice A109 t110.length 2), (23, .int .i64 t111), (24, .int .i64 t112), (28, .slice A113 t115.length c114), (29, .int .i64 t116), (30, .int .i64 (IntKind.wrap .i64 (t117 + 1)))] ?_
   exact ih (t106 ++ ([(btD (⟨#[48, 49, 50, 51, 52, 53, 54, 55, 56, 57, 65, 66, 67, 68, 69, 70]⟩ : ByteArray) (Int.fdiv (rdD t115 t117) (2 ^ 4))), (btD (⟨#[48, 49, 50, 51, 52, 53, 54, 55, 56, 57, 65, 66, 67, 68, 69, 70]⟩ : ByteArray) (band .u8 (rdD t115 t117) 15))] : List Int)) (IntKind.wrap .i64 (t117 + 1)) A152 c153 w168 h (h171.pick [0, 1, 2, 3, 4, 5, 6, 7, 8, 9] (by decide))
  ·skip
   refine RunsI.f 31 false hc119 ?_
   refine RunsI.b false 23 ?_
   refine RunsI.g 2 [.c 34, .lp 4, .blk 0] ?_
   refine RunsI.l [0, 22, 23, 24] [(0, .func (.yield b101) #[] #[]), (22, .slice A109 t110.length 2), (23, .int .i64 t111), (24, .int .i64 t112)] ?_
   exact hk0 t106 A104 c105 w (Option.some.inj h).symm (hH.pick [0, 1, 2, 3, 4, 5, 6, 7, 9] (by decide))
def hexfile_Line_11.l1 (K : Nat) (p0_0 : Int) (p0_1 : Int) (p0_2 : List Int) (t88 : List (List Int)) (t89 : Int) : Nat → (List Int) → Int → Option (List Int)
 | 0, _, _ => none
 | k + 1, t84, t90 => cond (decide (t90 < t89)) (cond (inR t90 t88.length) ((hexfile_Line_11.l0 K p0_0 p0_1 p0_2 t88 t89 t90 (rdD t88 t90) ((rdD t88 t90).length : Int) K t84 0).bind (fun t179 => hexfile_Line_11.l1 K p0_0 p0_1 p0_2 t88 t89 k t179 (IntKind.wrap .i64 (t90 + 1)))) none) (some t84)
set_option maxRecDepth 100000 in
theorem hexfile_Line_11.l1_ok (K : Nat) (M0 : Nat → Prop) (w0 : World) (pA0_2 : Option Addr) (pc0_2 : Nat) (p0_0 : Int) (p0_1 : Int) (p0_2 : List Int) (t88 : List (List Int)) (t89 : Int) (b79 : Nat) (b80 : Nat) (b81 : Nat) (b85 : Nat) (b86 : Nat) (A87 : Option Addr) (b91 : Nat) (R : Ending → World → Prop) (x : (List Int)) (hk0 : ∀ (t184 : List Int) (A182 : Option Addr) (c183 : Nat) (w1 : World), x = t184 → Holds M0 w0 w1 [box b80 25 [.int .u8 p0_0, .int .u16 p0_1, .slice pA0_2 p0_2.length pc0_2], sl (Rp.int .u8) (.slice pA0_2 p0_2.length pc0_2) p0_2, box b81 23 [.slice A182 t184.length c183], ownS (Rp.int .u8) 5 (.slice A182 t184.length c183) t184, box b85 58 [.func (.func 29) #[] #[.pointer (some ⟨b81, 0, none⟩)]], box b86 25 [.int .u8 p0_0, .int .u16 p0_1, .slice pA0_2 p0_2.length pc0_2], rng F11 18 b79 [(1, .pointer (some ⟨b80, 0, none⟩)), (4, .pointer (some ⟨b81, 0, none⟩)), (5, .pointer (some ⟨b85, 0, none⟩)), (15, .func (.func 64) #[] #[.pointer (some ⟨b86, 0, none⟩)])] .ready none, dfr b91] → RunsI F64 [] [] w1 R) :
  ∀ (k : Nat) (t84 : List Int) (t90 : Int) (A82 : Option Addr) (c83 : Nat) (w : World), hexfile_Line_11.l1 K p0_0 p0_1 p0_2 t88 t89 k t84 t90 = some x → Holds M0 w0 w [rng F11 18 b79 [(1, .pointer (some ⟨b80, 0, none⟩)), (4, .pointer (some ⟨b81, 0, none⟩)), (5, .pointer (some ⟨b85, 0, none⟩)), (15, .func (.func 64) #[] #[.pointer (some ⟨b86, 0, none⟩)])] .ready none, box b80 25 [.int .u8 p0_0, .int .u16 p0_1, .slice pA0_2 p0_2.length pc0_2], sl (Rp.int .u8) (.slice pA0_2 p0_2.length pc0_2) p0_2, box b81 23 [.slice A82 t84.length c83], ownS (Rp.int .u8) 5 (.slice A82 t84.length c83) t84, box b85 58 [.func (.func 29) #[] #[.pointer (some ⟨b81, 0, none⟩)]], box b86 25 [.int .u8 p0_0, .int .u16 p0_1, .slice pA0_2 p0_2.length pc0_2], own (Rp.slice (Rp.int .u8)) 23 (.slice A87 t88.length 2) t88, dfr b91] → RunsI F64 [.c 4, .lp 4, .blk 0] [(0, .func (.yield b79) #[] #[]), (22, .slice A87 t88.length 2), (23, .int .i64 t89), (24, .int .i64 t90)] w R := by
 intro k
 induction k with
 | zero => intro t84 t90 A82 c83 w h hH; exact absurd h (by simp [hexfile_Line_11.l1])
 | succ k ih =>
  intro t84 t90 A82 c83 w h hH
  rw [hexfile_Line_11.l1.eq_2] at h
  refine RunsI.g 1 [.c 5, .c 6, .lp 4, .blk 0] ?_
  refine RunsI.r ?_
  refine RegI.p 1 [(0, .func (.yield b79) #[] #[]), (22, .slice A87 t88.length 2), (23, .int .i64 t89), (24, .int .i64 t90), (25, .bool (decide (t90 < t89)))] ?_
  refine RegI.d ?_
  refine RunsI.g 1 [.c 7, .c 10, .lp 4, .blk 0] ?_
  rcases of_cond h with ⟨hc92, h⟩ | ⟨hc92, h⟩
  ·skip
   refine RunsI.f 25 true hc92 ?_
   refine RunsI.b true 8 ?_
   refine RunsI.g 1 [.c 10, .lp 4, .blk 0] ?_
   refine RunsI.g 3 [.c 13, .c 14, .blk 1, .c 34, .lp 4, .blk 0] ?_
   refine RunsI.r ?_
   obtain ⟨hc93, h⟩ := of_cond0 h
   refine RegI.o (OpE.idxOwnA 26 7 104 23 t90 hH (by kernel_rfl) rfl (by kernel_rfl) (by kernel_rfl) hc93 ?_)
   refine RegI.o (OpE.loadOwnA 27 7 23 23 t90 0 (o := (Int.toNat t90) * 1 + 0) hH (by kernel_rfl) rfl (by kernel_rfl) (by kernel_rfl) hc93 (fun cs98 hk99 => ?_))
   obtain ⟨_, rfl, hs95⟩ := hk99
   obtain ⟨A96, c97, rfl⟩ := hs95.form
   have h100 := hH.addSl _ _ _ hs95
   refine ⟨.slice A96 ((rdD t88 t90).length) c97, by kernel_rfl, ?_⟩
   refine RegI.p 1 [(0, .func (.yield b79) #[] #[]), (4, .slice A96 ((rdD t88 t90).length) c97), (22, .slice A87 t88.length 2), (23, .int .i64 t89), (24, .int .i64 t90)] ?_
   refine RegI.d ?_
   refine RunsI.g 1 [.c 15, .c 16, .blk 1, .c 34, .lp 4, .blk 0] ?_
   refine RunsI.r ?_
   refine RegI.p 3 [(0, .func (.yield b79) #[] #[]), (22, .slice A87 t88.length 2), (23, .int .i64 t89), (24, .int .i64 t90), (28, .slice A96 ((rdD t88 t90).length) c97), (29, .int .i64 ((rdD t88 t90).length : Int)), (30, .int .i64 0)] ?_
   refine RegI.d ?_
   refine RunsI.g 2 [.c 18, .lp 18, .blk 2, .blk 1, .c 34, .lp 4, .blk 0] ?_
   obtain ⟨x175, hx176, h⟩ := of_bind h
   refine RunsI.l [0, 22, 23, 24, 28, 29, 30] [(0, .func (.yield b79) #[] #[]), (22, .slice A87 t88.length 2), (23, .int .i64 t89), (24, .int .i64 t90), (28, .slice A96 ((rdD t88 t90).length) c97), (29, .int .i64 ((rdD t88 t90).length : Int)), (30, .int .i64 0)] ?_
   refine hexfile_Line_11.l0_ok K M0 w0 pA0_2 pc0_2 p0_0 p0_1 p0_2 t88 t89 t90 (rdD t88 t90) ((rdD t88 t90).length : Int) b79 b80 b81 b85 b86 A87 A96 c97 b91 _ x175 ?_ K t84 0 A82 c83 w hx176 (h100.pick [0, 1, 2, 3, 4, 5, 6, 7, 9, 8] (by decide))
   ·intro t179 A177 c178 w181 hq250 h180
    (try rw [hq250] at h)
    refine RunsI.r ?_
    refine RegI.p 2 [(0, .func (.yield b79) #[] #[]), (22, .slice A87 t88.length 2), (23, .int .i64 t89), (24, .int .i64 (IntKind.wrap .i64 (t90 + 1)))] ?_
    refine RegI.d ?_
    refine RunsI.g 1 [.c 4, .lp 4, .blk 0] ?_
    refine RunsI.l [0, 22, 23, 24] [(0, .func (.yield b79) #[] #[]), (22, .slice A87 t88.length 2), (23, .int .i64 t89), (24, .int .i64 (IntKind.wrap .i64 (t90 + 1)))] ?_
    exact ih t179 (IntKind.wrap .i64 (t90 + 1)) A177 c178 w181 h (h180.pick [0, 1, 2, 3, 4, 5, 6, 7, 8] (by decide))
  ·skip
   refine RunsI.f 25 false hc92 ?_
   refine RunsI.b false 9 ?_
   refine RunsI.g 1 [] ?_
   refine RunsI.l [] [] ?_
   exact hk0 t84 A82 c83 w (Option.some.inj h).symm (hH.pick [1, 2, 3, 4, 5, 6, 0, 8] (by decide))
def hexfile_Line_11.f (K : Nat) (p0_0 : Int) (p0_1 : Int) (p0_2 : List Int) : Option (ByteArray × Int) := cond (decide ((p0_2.length : Int) > 255)) (some ((⟨#[]⟩ : ByteArray), 2)) ((bits_Hi_65.f K p0_1).bind fun t48 => (bits_Lo_66.f K p0_1).bind fun t50 => (hexfile_Line_11.l1 K p0_0 p0_1 p0_2 ([([(IntKind.wrap .u8 (p0_2.length : Int)), t48, t50, p0_0] : List Int), p0_2] : List (List Int)) (([([(IntKind.wrap .u8 (p0_2.length : Int)), t48, t50, p0_0] : List Int), p0_2] : List (List Int)).length : Int) K ([58] : List Int) 0).bind (fun t189 => (hexfile_Sum_17.f K p0_0 p0_1 p0_2).bind fun t200 => cond (inR (Int.fdiv t200 (2 ^ 4)) (⟨#[48, 49, 50, 51, 52, 53, 54, 55, 56, 57, 65, 66, 67, 68, 69, 70]⟩ : ByteArray).size) (cond (inR (band .u8 t200 15) (⟨#[48, 49, 50, 51, 52, 53, 54, 55, 56, 57, 65, 66, 67, 68, 69, 70]⟩ : ByteArray).size) (cond (mayBe (t189.length + ([(btD (⟨#[48, 49, 50, 51, 52, 53, 54, 55, 56, 57, 65, 66, 67, 68, 69, 70]⟩ : ByteArray) (Int.fdiv t200 (2 ^ 4))), (btD (⟨#[48, 49, 50, 51, 52, 53, 54, 55, 56, 57, 65, 66, 67, 68, 69, 70]⟩ : ByteArray) (band .u8 t200 15))] : List Int).length) 1) (some ((strOf (t189 ++ ([(btD (⟨#[48, 49, 50, 51, 52, 53, 54, 55, 56, 57, 65, 66, 67, 68, 69, 70]⟩ : ByteArray) (Int.fdiv t200 (2 ^ 4))), (btD (⟨#[48, 49, 50, 51, 52, 53, 54, 55, 56, 57, 65, 66, 67, 68, 69, 70]⟩ : ByteArray) (band .u8 t200 15))] : List Int))), 0)) none) none) none))
set_option maxRecDepth 100000 in
theorem hexfile_Line_11_ok (K : Nat) (M0 : Nat → Prop) (w0 : World) (pA0_2 : Option Addr) (pc0_2 : Nat) (p0_0 : Int) (p0_1 : Int) (p0_2 : List Int) (ho : ∀ b, M0 b → b < w0.heap.size) (hs0_2 : Sl (Rp.int .u8) w0 M0 (.slice pA0_2 p0_2.length pc0_2) p0_2) {r : ByteArray × Int} (h : hexfile_Line_11.f K p0_0 p0_1 p0_2 = some r) :
  Calls Tryd.prog 11 #[.agg #[.int .u8 p0_0, .int .u16 p0_1, .slice pA0_2 p0_2.length pc0_2]] w0 (hexfile_Line_11.post M0 w0 r) := by
 unfold hexfile_Line_11.f at h
 have h0 : Holds M0 w0 w0 [] := Holds.start ho
 have h00_2 := h0.addSl (Rp.int .u8) (.slice pA0_2 p0_2.length pc0_2) p0_2 (hs0_2.mono (fun _ _ hm => hm.elim id (fun hm => absurd hm (by simp [mines, sl]))))
 have h0 : Holds M0 w0 w0 [sl (Rp.int .u8) (.slice pA0_2 p0_2.length pc0_2) p0_2] := h00_2
 refine calls_of F11 rfl [.agg #[.int .u8 p0_0, .int .u16 p0_1, .slice pA0_2 p0_2.length pc0_2]] (by kernel_rfl) ?_
 refine RunsI.g 1 [.c 1, .c 2] ?_
 refine RunsI.r ?_
 refine RegI.o (OpE.box 1 25 [.int .u8 p0_0, .int .u16 p0_1, .slice pA0_2 p0_2.length pc0_2] h0 (by kernel_rfl) (by kernel_rfl) ?_)
 intro w1 b2 h3 hb4 hn5
 refine RegI.p 2 [(1, .pointer (some ⟨b2, 0, none⟩))] ?_
 refine RegI.d ?_
 refine RunsI.g 2 [.c 4, .c 5, .c 10] ?_
 refine RunsI.r ?_
 refine RegI.p 1 [(1, .pointer (some ⟨b2, 0, none⟩)), (7, .pointer (some ⟨b2, 2, none⟩))] ?_
 refine RegI.o (OpE.loadBox 8 1 23 b2 2 (.slice pA0_2 p0_2.length pc0_2) h3 (by kernel_rfl) (by kernel_rfl) rfl (by kernel_rfl) ?_)
 refine RegI.p 2 [(1, .pointer (some ⟨b2, 0, none⟩)), (10, .bool (decide ((p0_2.length : Int) > 255)))] ?_
 refine RegI.d ?_
 rcases of_cond h with ⟨hc6, h⟩ | ⟨hc6, h⟩
 ·skip
  refine RunsI.f 10 true hc6 ?_
  refine RunsI.b true 6 ?_
  refine RunsI.g 1 [.c 7, .c 8, .c 10] ?_
  refine RunsI.r ?_
  refine RegI.p 2 [(2, .string (⟨#[]⟩ : ByteArray)), (3, .int .i64 2)] ?_
  refine RegI.d ?_
  refine RunsI.t (.tuple #[.string (⟨#[]⟩ : ByteArray), .int .i64 2]) ?_
  obtain rfl := Option.some.inj h
  exact ⟨rfl, h3.below⟩
 ·skip
  refine RunsI.f 10 false hc6 ?_
  refine RunsI.b false 9 ?_
  refine RunsI.g 1 [.c 10] ?_
  refine RunsI.g 1 [.c 11, .c 12] ?_
  refine RunsI.r ?_
  refine RegI.o (OpE.lit 11 5 [.int .u8 58] 1 h3 (by kernel_rfl) (by kernel_rfl) ?_)
  intro w7 b8 h9 hb10 hn11
  refine RegI.o (OpE.markFull 12 2 23 ([58] : List Int) h9 (by kernel_rfl) (by kernel_rfl) Tryd.underlying23 Tryd.underlying5 rfl (fun _ _ => (cells_int _ _ _ _)) (by kernel_rfl) ?_)
  intro w12 h13 hk14
  refine RegI.o (OpE.box 4 23 [.slice none 0 0] h13 (by kernel_rfl) (by kernel_rfl) ?_)
  intro w15 b16 h17 hb18 hn19
  refine RegI.o (OpE.storeBox 3 23 b16 0 (.slice (some ⟨b8, 0, none⟩) (([58] : List Int).length) (([58] : List Int).length)) [.slice (some ⟨b8, 0, none⟩) (([58] : List Int).length) (([58] : List Int).length)] h17 (by kernel_rfl) (by kernel_rfl) rfl (by kernel_rfl) (by kernel_rfl) (by kernel_rfl) ?_)
  intro w20 h21 hk22
  refine RegI.d ?_
  refine RunsI.g 1 [.c 13, .c 14] ?_
  refine RunsI.r ?_
  refine RegI.p 1 [(1, .pointer (some ⟨b2, 0, none⟩)), (4, .pointer (some ⟨b16, 0, none⟩)), (13, .func (.func 29) #[] #[.pointer (some ⟨b16, 0, none⟩)])] ?_
  refine RegI.o (OpE.box 5 58 [.nilFunc] h21 (by kernel_rfl) (by kernel_rfl) ?_)
  intro w23 b24 h25 hb26 hn27
  refine RegI.o (OpE.storeBox 4 58 b24 0 (.func (.func 29) #[] #[.pointer (some ⟨b16, 0, none⟩)]) [.func (.func 29) #[] #[.pointer (some ⟨b16, 0, none⟩)]] h25 (by kernel_rfl) (by kernel_rfl) rfl (by kernel_rfl) (by kernel_rfl) (by kernel_rfl) ?_)
  intro w28 h29 hk30
  refine RegI.d ?_
  refine RunsI.g 2 [.c 16, .c 17, .c 22] ?_
  refine RunsI.r ?_
  refine RegI.o (OpE.loadBox 14 1 25 b2 0 (.agg #[.int .u8 p0_0, .int .u16 p0_1, .slice pA0_2 p0_2.length pc0_2]) h29 (by kernel_rfl) (by kernel_rfl) rfl (by kernel_rfl) ?_)
  refine RegI.enter 15 [1, 4, 5] [(1, .pointer (some ⟨b2, 0, none⟩)), (4, .pointer (some ⟨b16, 0, none⟩)), (5, .pointer (some ⟨b24, 0, none⟩))] (by kernel_rfl) (by kernel_rfl) (by kernel_rfl) (by kernel_rfl) F30 30 rfl [.agg #[.int .u8 p0_0, .int .u16 p0_1, .slice pA0_2 p0_2.length pc0_2]] (by kernel_rfl) (by kernel_rfl) ?_
  refine RunsI.g 1 [.c 1, .c 2] ?_
  refine RunsI.r ?_
  refine RegI.o (OpE.box 1 25 [.int .u8 p0_0, .int .u16 p0_1, .slice pA0_2 p0_2.length pc0_2] h29 (by kernel_rfl) (by kernel_rfl) ?_)
  intro w31 b32 h33 hb34 hn35
  refine RegI.p 1 [(1, .pointer (some ⟨b32, 0, none⟩))] ?_
  refine RegI.d ?_
  refine RunsI.g 1 [.c 3, .c 4] ?_
  refine RunsI.r ?_
  refine RegI.p 2 [(2, .func (.func 64) #[] #[.pointer (some ⟨b32, 0, none⟩)])] ?_
  refine RegI.d ?_
  refine RunsI.t (.func (.func 64) #[] #[.pointer (some ⟨b32, 0, none⟩)]) ?_
  refine cont_mk ?_
  refine RegI.d ?_
  refine RunsI.g 1 [.c 18, .blk 0, .c 22] ?_
  refine RunsI.rangeFunc (G := F64) [1, 4, 5, 15] [(1, .pointer (some ⟨b2, 0, none⟩)), (4, .pointer (some ⟨b16, 0, none⟩)), (5, .pointer (some ⟨b24, 0, none⟩)), (15, .func (.func 64) #[] #[.pointer (some ⟨b32, 0, none⟩)])] 64 [.pointer (some ⟨b32, 0, none⟩)] h33 (by kernel_rfl) (by kernel_rfl) (by kernel_rfl) (fun _ _ => by kernel_rfl) rfl rfl (by kernel_rfl) rfl rfl ?_
  intro b36 b37 w38 h39 hb40 hn41 hn42
  refine RunsI.g 1 [.c 1, .c 2] ?_
  refine RunsI.any 18 (by kernel_rfl) (by kernel_rfl) (by kernel_rfl) (Kp ([] : List Nat) (World.drew w38)) ?_
  have h44 := h39.drew
  generalize World.drew w38 = w43 at h44 ⊢
  have hS45 := Kp.refl ([] : List Nat) w43
  refine AnyE.pure 0 7 (.pointer (some ⟨b32, 2, none⟩)) (by kernel_rfl) hS45 (fun _ => by kernel_rfl) ?_
  refine AnyE.loadBox 1 8 5 23 b32 2 (.slice pA0_2 p0_2.length pc0_2) [] h44 rfl (by kernel_rfl) hS45 rfl rfl (by kernel_rfl) (by kernel_rfl) ?_
  refine AnyE.pure 2 9 (.int .i64 (p0_2.length : Int)) (by kernel_rfl) hS45 (fun _ => by kernel_rfl) ?_
  refine AnyE.pure 3 10 (.int .u8 (IntKind.wrap .u8 (p0_2.length : Int))) (by kernel_rfl) hS45 (fun _ => by kernel_rfl) ?_
  refine AnyE.pure 4 11 (.pointer (some ⟨b32, 1, none⟩)) (by kernel_rfl) hS45 (fun _ => by kernel_rfl) ?_
  refine AnyE.loadBox 5 12 5 22 b32 1 (.int .u16 p0_1) [] h44 rfl (by kernel_rfl) hS45 rfl rfl (by kernel_rfl) (by kernel_rfl) ?_
  obtain ⟨t48, hg47, h⟩ := of_bind h
  refine AnyE.call 6 13 (.int .u8 t48) 65 #[.int .u16 p0_1] (by kernel_rfl) hS45 (fun _ => by kernel_rfl) (fun w hk => bits_Hi_65_ok K (fun _ => False) w p0_1 (fun _ hf => hf.elim) hg47) ?_
  refine AnyE.pure 7 14 (.pointer (some ⟨b32, 1, none⟩)) (by kernel_rfl) hS45 (fun _ => by kernel_rfl) ?_
  refine AnyE.loadBox 8 15 5 22 b32 1 (.int .u16 p0_1) [] h44 rfl (by kernel_rfl) hS45 rfl rfl (by kernel_rfl) (by kernel_rfl) ?_
  obtain ⟨t50, hg49, h⟩ := of_bind h
  refine AnyE.call 9 16 (.int .u8 t50) 66 #[.int .u16 p0_1] (by kernel_rfl) hS45 (fun _ => by kernel_rfl) (fun w hk => bits_Lo_66_ok K (fun _ => False) w p0_1 (fun _ hf => hf.elim) hg49) ?_
  refine AnyE.pure 10 17 (.pointer (some ⟨b32, 0, none⟩)) (by kernel_rfl) hS45 (fun _ => by kernel_rfl) ?_
  refine AnyE.loadBox 11 18 5 5 b32 0 (.int .u8 p0_0) [] h44 rfl (by kernel_rfl) hS45 rfl rfl (by kernel_rfl) (by kernel_rfl) ?_
  refine AnyE.pure 13 20 (.pointer (some ⟨b32, 2, none⟩)) (by kernel_rfl) hS45 (fun _ => by kernel_rfl) ?_
  refine AnyE.loadBox 14 21 5 23 b32 2 (.slice pA0_2 p0_2.length pc0_2) [] h44 rfl (by kernel_rfl) hS45 rfl rfl (by kernel_rfl) (by kernel_rfl) ?_
  refine AnyE.pure 17 24 (.int .i64 0) (by kernel_rfl) hS45 (fun _ => by kernel_rfl) ?_
  refine AnyE.one 12 (by kernel_rfl) (fun w51 hu52 => ?_)
  have h53 := h44.call hu52
  have hS54 := hS45.up hu52
  refine OpE.lit 19 5 [.int .u8 (IntKind.wrap .u8 (p0_2.length : Int)), .int .u8 t48, .int .u8 t50, .int .u8 p0_0] 4 h53 (by kernel_rfl) (by kernel_rfl) ?_
  intro w55 b56 h57 hb58 hn59
  have hn60 := Nat.le_trans hS54.1 hn59
  have hS61 := hS54.up hb58
  refine ⟨hS61, ?_⟩
  refine AnyE.one 15 (by kernel_rfl) (fun w62 hu63 => ?_)
  have h64 := h57.call hu63
  have hS65 := hS61.up hu63
  refine OpE.lit 22 23 [.slice (some ⟨b56, 0, none⟩) (([(IntKind.wrap .u8 (p0_2.length : Int)), t48, t50, p0_0] : List Int).length) 4, .slice pA0_2 p0_2.length pc0_2] 2 h64 (by kernel_rfl) (by kernel_rfl) ?_
  intro w66 b67 h68 hb69 hn70
  have hn71 := Nat.le_trans hS65.1 hn70
  have hS72 := hS65.up hb69
  refine ⟨hS72, ?_⟩
  refine AnyE.pure 16 23 (.int .i64 (([([(IntKind.wrap .u8 (p0_2.length : Int)), t48, t50, p0_0] : List Int), p0_2] : List (List Int)).length : Int)) (by kernel_rfl) hS72 (fun _ => by kernel_rfl) ?_
  refine AnyE.done (by kernel_rfl) (fun w73 hu74 => ?_)
  have h75 := h68.call hu74
  refine RunsI.l [0, 22, 23, 24] [(0, .func (.yield b37) #[] #[]), (22, .slice (some ⟨b67, 0, none⟩) (([([(IntKind.wrap .u8 (p0_2.length : Int)), t48, t50, p0_0] : List Int), p0_2] : List (List Int)).length) 2), (23, .int .i64 (([([(IntKind.wrap .u8 (p0_2.length : Int)), t48, t50, p0_0] : List Int), p0_2] : List (List Int)).length : Int)), (24, .int .i64 0)] ?_
  refine RunsI.g 2 [.c 4, .lp 4, .blk 0] ?_
  obtain ⟨x185, hx186, h⟩ := of_bind h
  have h76 := h75.boxOwn 8 rfl (Rp.int .u8) ([(IntKind.wrap .u8 (p0_2.length : Int)), t48, t50, p0_0] : List Int) (cells_int _ _ _ _) (Nat.le_of_ble_eq_true (by kernel_rfl))
  have h77 := h76.release 8 rfl
  have h78 := h77.boxOwn 9 rfl (Rp.slice (Rp.int .u8)) ([([(IntKind.wrap .u8 (p0_2.length : Int)), t48, t50, p0_0] : List Int), p0_2] : List (List Int)) (⟨[_], _, rfl, ⟨_, rfl, h77.get 8 rfl⟩, ⟨[_], _, rfl, ⟨_, rfl, h77.get 0 rfl⟩, rfl⟩⟩) (Nat.le_of_ble_eq_true (by kernel_rfl))
  refine RunsI.l [0, 22, 23, 24] [(0, .func (.yield b37) #[] #[]), (22, .slice (some ⟨b67, 0, none⟩) (([([(IntKind.wrap .u8 (p0_2.length : Int)), t48, t50, p0_0] : List Int), p0_2] : List (List Int)).length) 2), (23, .int .i64 (([([(IntKind.wrap .u8 (p0_2.length : Int)), t48, t50, p0_0] : List Int), p0_2] : List (List Int)).length : Int)), (24, .int .i64 0)] ?_
  refine hexfile_Line_11.l1_ok K M0 w0 pA0_2 pc0_2 p0_0 p0_1 p0_2 ([([(IntKind.wrap .u8 (p0_2.length : Int)), t48, t50, p0_0] : List Int), p0_2] : List (List Int)) (([([(IntKind.wrap .u8 (p0_2.length : Int)), t48, t50, p0_0] : List Int), p0_2] : List (List Int)).length : Int) b37 b2 b16 b24 b32 (some ⟨b67, 0, none⟩) b36 _ x185 ?_ K ([58] : List Int) 0 (some ⟨b8, 0, none⟩) (([58] : List Int).length) w73 hx186 (h78.pick [7, 1, 0, 3, 2, 4, 5, 9, 6] (by decide))
  ·intro t189 A187 c188 w191 hq251 h190
   (try rw [hq251] at h)
   refine RunsI.t (.tuple #[]) ?_
   refine contR_mk ?_
   refine RunsI.endLoop 6 h190 rfl rfl (by intro hh; cases hh) [.blk 0, .c 22] (by kernel_rfl) ?_
   intro w192 h193 hk194
   refine RunsI.g 2 [.c 23, .c 24] ?_
   refine RunsI.any 4 (by kernel_rfl) (by kernel_rfl) (by kernel_rfl) (Kp ([] : List Nat) (World.drew w192)) ?_
   have h196 := h193.drew
   generalize World.drew w192 = w195 at h196 ⊢
   have hS197 := Kp.refl ([] : List Nat) w195
   refine AnyE.loadBox 0 20 4 58 b24 0 (.func (.func 29) #[] #[.pointer (some ⟨b16, 0, none⟩)]) [] h196 rfl (by kernel_rfl) hS197 rfl rfl (by kernel_rfl) (by kernel_rfl) ?_
   refine AnyE.loadBox 1 21 0 25 b2 0 (.agg #[.int .u8 p0_0, .int .u16 p0_1, .slice pA0_2 p0_2.length pc0_2]) [] h196 rfl (by kernel_rfl) hS197 rfl rfl (by kernel_rfl) (by kernel_rfl) ?_
   obtain ⟨t200, hg199, h⟩ := of_bind h
   refine AnyE.call 2 22 (.int .u8 t200) 17 #[.agg #[.int .u8 p0_0, .int .u16 p0_1, .slice pA0_2 p0_2.length pc0_2]] (by kernel_rfl) hS197 (fun _ => by kernel_rfl) (fun w hk => hexfile_Sum_17_ok K (fun _ => False) w pA0_2 pc0_2 p0_0 p0_1 p0_2 (fun _ hf => hf.elim) (Sl.mono (h196.atI [] rfl hk 1 rfl rfl) (fun _ _ hf => hf.elim)) hg199) ?_
   refine AnyE.last 3 (by kernel_rfl) (by kernel_rfl) (fun w201 hu202 => ?_)
   have h203 := h196.call hu202
   have hS204 := hS197.up hu202
   refine OpE.enter 23 (by kernel_rfl) F29 29 rfl [.int .u8 t200, .pointer (some ⟨b16, 0, none⟩)] (by kernel_rfl) (by kernel_rfl) ?_
   refine RunsI.any 10 (by kernel_rfl) (by kernel_rfl) (by kernel_rfl) (Kp (mines (pick [box b2 25 [.int .u8 p0_0, .int .u16 p0_1, .slice pA0_2 p0_2.length pc0_2], sl (Rp.int .u8) (.slice pA0_2 p0_2.length pc0_2) p0_2, box b16 23 [.slice A187 t189.length c188], ownS (Rp.int .u8) 5 (.slice A187 t189.length c188) t189, box b24 58 [.func (.func 29) #[] #[.pointer (some ⟨b16, 0, none⟩)]], box b32 25 [.int .u8 p0_0, .int .u16 p0_1, .slice pA0_2 p0_2.length pc0_2], rng F11 18 b37 [(1, .pointer (some ⟨b2, 0, none⟩)), (4, .pointer (some ⟨b16, 0, none⟩)), (5, .pointer (some ⟨b24, 0, none⟩)), (15, .func (.func 64) #[] #[.pointer (some ⟨b32, 0, none⟩)])] .exhausted none, dfr b36] [3])) (World.drew w201)) ?_
   have h206 := h203.drew
   generalize World.drew w201 = w205 at h206 ⊢
   have hS207 := Kp.refl (mines (pick [box b2 25 [.int .u8 p0_0, .int .u16 p0_1, .slice pA0_2 p0_2.length pc0_2], sl (Rp.int .u8) (.slice pA0_2 p0_2.length pc0_2) p0_2, box b16 23 [.slice A187 t189.length c188], ownS (Rp.int .u8) 5 (.slice A187 t189.length c188) t189, box b24 58 [.func (.func 29) #[] #[.pointer (some ⟨b16, 0, none⟩)]], box b32 25 [.int .u8 p0_0, .int .u16 p0_1, .slice pA0_2 p0_2.length pc0_2], rng F11 18 b37 [(1, .pointer (some ⟨b2, 0, none⟩)), (4, .pointer (some ⟨b16, 0, none⟩)), (5, .pointer (some ⟨b24, 0, none⟩)), (15, .func (.func 64) #[] #[.pointer (some ⟨b32, 0, none⟩)])] .exhausted none, dfr b36] [3])) w205
   refine AnyE.loadBox 0 3 2 23 b16 0 (.slice A187 t189.length c188) [3] h206 rfl (by kernel_rfl) hS207 rfl rfl (by kernel_rfl) (by kernel_rfl) ?_
   refine AnyE.pure 1 4 (.int .u8 t200) (by kernel_rfl) hS207 (fun _ => by kernel_rfl) ?_
   refine AnyE.pure 2 5 (.int .u8 (Int.fdiv t200 (2 ^ 4))) (by kernel_rfl) hS207 (fun _ => by kernel_rfl) ?_
   obtain ⟨hc209, h⟩ := of_cond0 h
   refine AnyE.run 3 6 (.int .u8 (btD (⟨#[48, 49, 50, 51, 52, 53, 54, 55, 56, 57, 65, 66, 67, 68, 69, 70]⟩ : ByteArray) (Int.fdiv t200 (2 ^ 4)))) (by kernel_rfl) hS207 (fun _ hk => run_strIdx (T0 := 9) (s := (⟨#[48, 49, 50, 51, 52, 53, 54, 55, 56, 57, 65, 66, 67, 68, 69, 70]⟩ : ByteArray)) (j := (Int.fdiv t200 (2 ^ 4))) (by kernel_rfl) (by kernel_rfl) hc209) ?_
   refine AnyE.pure 4 7 (.int .u8 t200) (by kernel_rfl) hS207 (fun _ => by kernel_rfl) ?_
   refine AnyE.pure 5 8 (.int .u8 (band .u8 t200 15)) (by kernel_rfl) hS207 (fun _ => by kernel_rfl) ?_
   obtain ⟨hc210, h⟩ := of_cond0 h
   refine AnyE.run 6 9 (.int .u8 (btD (⟨#[48, 49, 50, 51, 52, 53, 54, 55, 56, 57, 65, 66, 67, 68, 69, 70]⟩ : ByteArray) (band .u8 t200 15))) (by kernel_rfl) hS207 (fun _ hk => run_strIdx (T0 := 9) (s := (⟨#[48, 49, 50, 51, 52, 53, 54, 55, 56, 57, 65, 66, 67, 68, 69, 70]⟩ : ByteArray)) (j := (band .u8 t200 15)) (by kernel_rfl) (by kernel_rfl) hc210) ?_
   refine AnyE.one 7 (by kernel_rfl) (fun w211 hu212 => ?_)
   have h213 := h206.call hu212
   have hS214 := hS207.up hu212
   refine OpE.lit 10 5 [.int .u8 (btD (⟨#[48, 49, 50, 51, 52, 53, 54, 55, 56, 57, 65, 66, 67, 68, 69, 70]⟩ : ByteArray) (Int.fdiv t200 (2 ^ 4))), .int .u8 (btD (⟨#[48, 49, 50, 51, 52, 53, 54, 55, 56, 57, 65, 66, 67, 68, 69, 70]⟩ : ByteArray) (band .u8 t200 15))] 2 h213 (by kernel_rfl) (by kernel_rfl) ?_
   intro w215 b216 h217 hb218 hn219
   have hn220 := Nat.le_trans hS214.1 hn219
   have hS221 := hS214.up hb218
   refine ⟨hS221, ?_⟩
   refine AnyE.one 8 (by kernel_rfl) (fun w222 hu223 => ?_)
   have h224 := h217.call hu223
   have hS225 := hS221.up hu223
   obtain ⟨hc226, h⟩ := of_cond0 h
   refine OpE.appendBoxS 11 3 8 23 5 1 ([(btD (⟨#[48, 49, 50, 51, 52, 53, 54, 55, 56, 57, 65, 66, 67, 68, 69, 70]⟩ : ByteArray) (Int.fdiv t200 (2 ^ 4))), (btD (⟨#[48, 49, 50, 51, 52, 53, 54, 55, 56, 57, 65, 66, 67, 68, 69, 70]⟩ : ByteArray) (band .u8 t200 15))] : List Int) 1 h224 (by kernel_rfl) (by decide) (by kernel_rfl) (by kernel_rfl) rfl rfl rfl (cells_int _ _ _ _) (fun _ _ => (cells_int _ _ _ _)) hc226 ?_
   intro w227 A228 c229 h230 hk231
   have hS232 := hS225.trans hk231 (Kp.turned h206 [3] rfl 3 rfl rfl)
   refine ⟨hS232, ?_⟩
   refine AnyE.last 9 (by kernel_rfl) (by kernel_rfl) (fun w233 hu234 => ?_)
   have h235 := h230.call hu234
   have hS236 := hS232.up hu234
   refine OpE.storeBox 2 23 b16 0 (.slice A228 ((t189 ++ ([(btD (⟨#[48, 49, 50, 51, 52, 53, 54, 55, 56, 57, 65, 66, 67, 68, 69, 70]⟩ : ByteArray) (Int.fdiv t200 (2 ^ 4))), (btD (⟨#[48, 49, 50, 51, 52, 53, 54, 55, 56, 57, 65, 66, 67, 68, 69, 70]⟩ : ByteArray) (band .u8 t200 15))] : List Int)).length) c229) [.slice A228 ((t189 ++ ([(btD (⟨#[48, 49, 50, 51, 52, 53, 54, 55, 56, 57, 65, 66, 67, 68, 69, 70]⟩ : ByteArray) (Int.fdiv t200 (2 ^ 4))), (btD (⟨#[48, 49, 50, 51, 52, 53, 54, 55, 56, 57, 65, 66, 67, 68, 69, 70]⟩ : ByteArray) (band .u8 t200 15))] : List Int)).length) c229] h235 (by kernel_rfl) (by kernel_rfl) rfl (by kernel_rfl) (by kernel_rfl) (by kernel_rfl) ?_
   intro w237 h238 hk239
   refine AnyE.done (by kernel_rfl) (fun w241 hu242 => ?_)
   have h243 := h238.call hu242
   refine RunsI.l [] [] ?_
   refine RunsI.t (.tuple #[]) ?_
   refine cont_mk ?_
   refine AnyE.done (by kernel_rfl) (fun w244 hu245 => ?_)
   have h246 := h243.call hu245
   refine RunsI.l [4] [(4, .pointer (some ⟨b16, 0, none⟩))] ?_
   refine RunsI.g 1 [.c 25, .c 26] ?_
   refine RunsI.r ?_
   refine RegI.o (OpE.loadBox 24 2 23 b16 0 (.slice A228 ((t189 ++ ([(btD (⟨#[48, 49, 50, 51, 52, 53, 54, 55, 56, 57, 65, 66, 67, 68, 69, 70]⟩ : ByteArray) (Int.fdiv t200 (2 ^ 4))), (btD (⟨#[48, 49, 50, 51, 52, 53, 54, 55, 56, 57, 65, 66, 67, 68, 69, 70]⟩ : ByteArray) (band .u8 t200 15))] : List Int)).length) c229) h246 (by kernel_rfl) (by kernel_rfl) rfl (by kernel_rfl) ?_)
   refine RegI.o (OpE.run 25 (by kernel_rfl) (run_toStr (s := 23) (d := 9) (v := .slice A228 ((t189 ++ ([(btD (⟨#[48, 49, 50, 51, 52, 53, 54, 55, 56, 57, 65, 66, 67, 68, 69, 70]⟩ : ByteArray) (Int.fdiv t200 (2 ^ 4))), (btD (⟨#[48, 49, 50, 51, 52, 53, 54, 55, 56, 57, 65, 66, 67, 68, 69, 70]⟩ : ByteArray) (band .u8 t200 15))] : List Int)).length) c229) (by kernel_rfl) (by kernel_rfl) (h246.rdOwn 3 rfl)) ?_)
   refine RegI.p 2 [(2, .string (strOf (t189 ++ ([(btD (⟨#[48, 49, 50, 51, 52, 53, 54, 55, 56, 57, 65, 66, 67, 68, 69, 70]⟩ : ByteArray) (Int.fdiv t200 (2 ^ 4))), (btD (⟨#[48, 49, 50, 51, 52, 53, 54, 55, 56, 57, 65, 66, 67, 68, 69, 70]⟩ : ByteArray) (band .u8 t200 15))] : List Int)))), (3, .int .i64 0)] ?_
   refine RegI.d ?_
   refine RunsI.toRet (by kernel_rfl) ?_
   refine RetI.takeH 7 b36 h246 rfl ?_
   intro w247 h248 hk249
   refine RetI.val (.tuple #[.string (strOf (t189 ++ ([(btD (⟨#[48, 49, 50, 51, 52, 53, 54, 55, 56, 57, 65, 66, 67, 68, 69, 70]⟩ : ByteArray) (Int.fdiv t200 (2 ^ 4))), (btD (⟨#[48, 49, 50, 51, 52, 53, 54, 55, 56, 57, 65, 66, 67, 68, 69, 70]⟩ : ByteArray) (band .u8 t200 15))] : List Int))), .int .i64 0]) (by kernel_rfl) ?_
   obtain rfl := Option.some.inj h
   exact ⟨rfl, h248.below⟩
end

/-! ### strings.CutPrefix (function 33) -/
section
def strings_CutPrefix_33.post (M0 : Nat → Prop) (w0 : World) (r : ByteArray × Bool) : Ending → World → Prop := fun e w => e = .returned (.tuple #[.string r.1, .bool r.2]) ∧ Below w0.heap.size w0 w
def strings_CutPrefix_33.f (K : Nat) (p0 : ByteArray) (p1 : ByteArray) : Option (ByteArray × Bool) := some ((⟨(Lib.trimPrefix p0.data.toList p1.data.toList).toArray⟩ : ByteArray), Lib.hasPrefix p0.data.toList p1.data.toList)
theorem strings_CutPrefix_33_ok (K : Nat) (M0 : Nat → Prop) (w0 : World) (p0 : ByteArray) (p1 : ByteArray) (ho : ∀ b, M0 b → b < w0.heap.size) {r : ByteArray × Bool} (h : strings_CutPrefix_33.f K p0 p1 = some r) : Calls Tryd.prog 33 #[.string p0, .string p1] w0 (strings_CutPrefix_33.post M0 w0 r) := by
 obtain rfl := Option.some.inj h
 refine (Tryd.strings_CutPrefix p0 p1 w0).mono ?_
 rintro e w' ⟨rfl, rfl⟩
 exact ⟨rfl, Below.refl _ _⟩
end

/-! ### strings.IndexByte (function 70) -/
section
def strings_IndexByte_70.post (M0 : Nat → Prop) (w0 : World) (r : Int) : Ending → World → Prop := fun e w => e = .returned (.int .i64 r) ∧ Below w0.heap.size w0 w
def strings_IndexByte_70.f (K : Nat) (p0 : ByteArray) (p1 : Int) : Option Int := some (Lib.indexByte p0.data.toList p1.toNat.toUInt8)
theorem strings_IndexByte_70_ok (K : Nat) (M0 : Nat → Prop) (w0 : World) (p0 : ByteArray) (p1 : Int) (ho : ∀ b, M0 b → b < w0.heap.size) {r : Int} (h : strings_IndexByte_70.f K p0 p1 = some r) : Calls Tryd.prog 70 #[.string p0, .int .u8 p1] w0 (strings_IndexByte_70.post M0 w0 r) := by
 obtain rfl := Option.some.inj h
 refine (Tryd.strings_IndexByte p0 p1 w0).mono ?_
 rintro e w' ⟨rfl, rfl⟩
 exact ⟨rfl, Below.refl _ _⟩
end

/-! ### charabanc/hexfile.whole (function 35) -/
section
def hexfile_whole_35.post (M0 : Nat → Prop) (w0 : World) (r : Int × Bool) : Ending → World → Prop := fun e w => e = .returned (.tuple #[.int .u8 r.1, .bool r.2]) ∧ Below w0.heap.size w0 w
def hexfile_whole_35.f (K : Nat) (p0 : Int) (p1 : Int) : Option (Int × Bool) := (strings_IndexByte_70.f K (⟨#[48, 49, 50, 51, 52, 53, 54, 55, 56, 57, 65, 66, 67, 68, 69, 70]⟩ : ByteArray) p0).bind fun t5 => (strings_IndexByte_70.f K (⟨#[48, 49, 50, 51, 52, 53, 54, 55, 56, 57, 65, 66, 67, 68, 69, 70]⟩ : ByteArray) p1).bind fun t10 => cond (decide (t5 ≥ 0)) (some ((IntKind.wrap .u8 (bor .i64 (IntKind.wrap .i64 (t5 * 2 ^ 4)) t10)), (decide (t10 ≥ 0)))) (some ((IntKind.wrap .u8 (bor .i64 (IntKind.wrap .i64 (t5 * 2 ^ 4)) t10)), false))
set_option maxRecDepth 100000 in
theorem hexfile_whole_35_ok (K : Nat) (M0 : Nat → Prop) (w0 : World) (p0 : Int) (p1 : Int) (ho : ∀ b, M0 b → b < w0.heap.size) {r : Int × Bool} (h : hexfile_whole_35.f K p0 p1 = some r) :
  Calls Tryd.prog 35 #[.int .u8 p0, .int .u8 p1] w0 (hexfile_whole_35.post M0 w0 r) := by
 unfold hexfile_whole_35.f at h
 have h0 : Holds M0 w0 w0 [] := Holds.start ho
 have h0 : Holds M0 w0 w0 [] := h0
 refine calls_of F35 rfl [.int .u8 p0, .int .u8 p1] (by kernel_rfl) ?_
 refine RunsI.g 1 [.c 1, .c 2] ?_
 refine RunsI.r ?_
 refine RegI.p 2 [(0, .int .u8 p0), (1, .int .u8 p1)] ?_
 refine RegI.d ?_
 refine RunsI.g 1 [.c 3, .c 4] ?_
 refine RunsI.r ?_
 refine RegI.p 1 [(1, .int .u8 p1), (8, .int .u8 p0)] ?_
 obtain ⟨t5, hg4, h⟩ := of_bind h
 refine RegI.o (OpE.call 9 (by kernel_rfl) 70 #[.string (⟨#[48, 49, 50, 51, 52, 53, 54, 55, 56, 57, 65, 66, 67, 68, 69, 70]⟩ : ByteArray), .int .u8 p0] (by kernel_rfl) ((strings_IndexByte_70_ok K _ w0  (⟨#[48, 49, 50, 51, 52, 53, 54, 55, 56, 57, 65, 66, 67, 68, 69, 70]⟩ : ByteArray) p0 h0.old' hg4).mono ?_))
 rintro _ w1 ⟨rfl, hb2⟩
 refine ⟨_, rfl, ?_⟩
 have h3 := h0.call hb2
 refine RegI.p 1 [(9, .int .i64 t5), (10, .int .u8 p1)] ?_
 obtain ⟨t10, hg9, h⟩ := of_bind h
 refine RegI.o (OpE.call 11 (by kernel_rfl) 70 #[.string (⟨#[48, 49, 50, 51, 52, 53, 54, 55, 56, 57, 65, 66, 67, 68, 69, 70]⟩ : ByteArray), .int .u8 p1] (by kernel_rfl) ((strings_IndexByte_70_ok K _ w1  (⟨#[48, 49, 50, 51, 52, 53, 54, 55, 56, 57, 65, 66, 67, 68, 69, 70]⟩ : ByteArray) p1 h3.old' hg9).mono ?_))
 rintro _ w6 ⟨rfl, hb7⟩
 refine ⟨_, rfl, ?_⟩
 have h8 := h3.call hb7
 refine RegI.p 2 [(6, .int .i64 t5), (7, .int .i64 t10)] ?_
 refine RegI.d ?_
 refine RunsI.g 1 [.c 5, .c 6] ?_
 refine RunsI.r ?_
 refine RegI.p 8 [(7, .int .i64 t10), (16, .int .u8 (IntKind.wrap .u8 (bor .i64 (IntKind.wrap .i64 (t5 * 2 ^ 4)) t10))), (19, .bool (decide (t5 ≥ 0)))] ?_
 rcases of_cond h with ⟨hc11, h⟩ | ⟨hc11, h⟩
 ·skip
  refine RegI.f 19 true hc11 ?_
  refine RegI.p 5 [(4, .int .u8 (IntKind.wrap .u8 (bor .i64 (IntKind.wrap .i64 (t5 * 2 ^ 4)) t10))), (5, .bool (decide (t10 ≥ 0)))] ?_
  refine RegI.d ?_
  refine RunsI.t (.tuple #[.int .u8 (IntKind.wrap .u8 (bor .i64 (IntKind.wrap .i64 (t5 * 2 ^ 4)) t10)), .bool (decide (t10 ≥ 0))]) ?_
  obtain rfl := Option.some.inj h
  exact ⟨rfl, h8.below⟩
 ·skip
  refine RegI.f 19 false hc11 ?_
  refine RegI.p 5 [(4, .int .u8 (IntKind.wrap .u8 (bor .i64 (IntKind.wrap .i64 (t5 * 2 ^ 4)) t10))), (5, .bool false)] ?_
  refine RegI.d ?_
  refine RunsI.t (.tuple #[.int .u8 (IntKind.wrap .u8 (bor .i64 (IntKind.wrap .i64 (t5 * 2 ^ 4)) t10)), .bool false]) ?_
  obtain rfl := Option.some.inj h
  exact ⟨rfl, h8.below⟩
end

/-! ### charabanc/bits.Word (function 36) -/
section
def bits_Word_36.post (M0 : Nat → Prop) (w0 : World) (r : Int) : Ending → World → Prop := fun e w => e = .returned (.int .u16 r) ∧ Below w0.heap.size w0 w
def bits_Word_36.f (K : Nat) (p0 : Int) (p1 : Int) : Option Int := some (bor .u16 (IntKind.wrap .u16 ((IntKind.wrap .u16 p0) * 2 ^ 8)) (IntKind.wrap .u16 p1))
set_option maxRecDepth 100000 in
theorem bits_Word_36_ok (K : Nat) (M0 : Nat → Prop) (w0 : World) (p0 : Int) (p1 : Int) (ho : ∀ b, M0 b → b < w0.heap.size) {r : Int} (h : bits_Word_36.f K p0 p1 = some r) :
  Calls Tryd.prog 36 #[.int .u8 p0, .int .u8 p1] w0 (bits_Word_36.post M0 w0 r) := by
 unfold bits_Word_36.f at h
 have h0 : Holds M0 w0 w0 [] := Holds.start ho
 have h0 : Holds M0 w0 w0 [] := h0
 refine calls_of F36 rfl [.int .u8 p0, .int .u8 p1] (by kernel_rfl) ?_
 refine RunsI.g 1 [.c 1, .c 2] ?_
 refine RunsI.r ?_
 refine RegI.p 1 [(0, .int .u8 p0), (1, .int .u8 p1)] ?_
 refine RegI.d ?_
 refine RunsI.g 1 [.c 3, .c 4] ?_
 refine RunsI.r ?_
 refine RegI.p 7 [(4, .int .u16 (bor .u16 (IntKind.wrap .u16 ((IntKind.wrap .u16 p0) * 2 ^ 8)) (IntKind.wrap .u16 p1)))] ?_
 refine RegI.d ?_
 refine RunsI.t (.int .u16 (bor .u16 (IntKind.wrap .u16 ((IntKind.wrap .u16 p0) * 2 ^ 8)) (IntKind.wrap .u16 p1))) ?_
 obtain rfl := Option.some.inj h
 exact ⟨rfl, h0.below⟩
end

/-! ### charabanc/hexfile.Parse (function 14) -/
section
def hexfile_Parse_14.post (M0 : Nat → Prop) (w0 : World) (r : Int × Int × (List Int) × Int) : Ending → World → Prop := fun e w => ∃ (A3 : Option Addr) (c3 : Nat), e = .returned (.tuple #[.agg #[.int .u8 r.1, .int .u16 r.2.1, .slice A3 r.2.2.1.length c3], .int .i64 r.2.2.2]) ∧ Holds M0 w0 w [sl (Rp.int .u8) (.slice A3 r.2.2.1.length c3) r.2.2.1]
def hexfile_Parse_14.l0 (K : Nat) (p0 : ByteArray) : Nat → (List Int) → (List Int) → Option (Lp Unit ((List Int) × (List Int)))
 | 0, _, _ => none
 | k + 1, t21, t24 => cond (decide ((t21.length : Int) > 1)) (cond (inR 0 t21.length) (cond (inR 1 t21.length) ((hexfile_whole_35.f K (rdD t21 0) (rdD t21 1)).bind fun yt44 => cond (!yt44.2) (some (Lp.ret ())) (cond (cutR 2 (t21.length : Int) t21.length) (cond (mayBe (t24.length + ([yt44.1] : List Int).length) 1) (hexfile_Parse_14.l0 K p0 k (cutL t21 2 (t21.length : Int)) (t24 ++ ([yt44.1] : List Int))) none) none)) none) none) (some (Lp.go (t21, t24)))
set_option maxRecDepth 100000 in
theorem hexfile_Parse_14.l0_ok (K : Nat) (M0 : Nat → Prop) (w0 : World) (p0 : ByteArray) (b25 : Nat) (R : Ending → World → Prop) (x : Lp Unit ((List Int) × (List Int))) (hk0 : ∀ (t85 : List Int) (t88 : List Int) (A83 : Option Addr) (c84 : Nat) (A86 : Option Addr) (c87 : Nat) (w1 : World), x = Lp.go (t85, t88) → Holds M0 w0 w1 [sl (Rp.int .u8) (.slice A83 t85.length c84) t85, own (Rp.int .u8) 5 (.slice A86 t88.length c87) t88, box b25 25 [.int .u8 0, .int .u16 0, .slice none 0 0]] → RunsI F34 [.c 25] [(0, .slice A83 t85.length c84), (6, .slice A86 t88.length c87)] w1 R) (hk1 : ∀ (w1 : World), x = Lp.ret () → Holds M0 w0 w1 [box b25 25 [.int .u8 0, .int .u16 0, .slice none 0 0]] → R (.returned (.tuple #[.slice none 0 0, .bool false])) w1) :
  ∀ (k : Nat) (t21 : List Int) (t24 : List Int) (A19 : Option Addr) (c20 : Nat) (A22 : Option Addr) (c23 : Nat) (w : World), hexfile_Parse_14.l0 K p0 k t21 t24 = some x → Holds M0 w0 w [sl (Rp.int .u8) (.slice A19 t21.length c20) t21, own (Rp.int .u8) 5 (.slice A22 t24.length c23) t24, box b25 25 [.int .u8 0, .int .u16 0, .slice none 0 0]] → RunsI F34 [.c 7, .lp 7, .blk 0, .c 25] [(0, .slice A19 t21.length c20), (1, .func (.func 35) #[] #[]), (6, .slice A22 t24.length c23)] w R := by
 intro k
 induction k with
 | zero => intro t21 t24 A19 c20 A22 c23 w h hH; exact absurd h (by simp [hexfile_Parse_14.l0])
 | succ k ih =>
  intro t21 t24 A19 c20 A22 c23 w h hH
  rw [hexfile_Parse_14.l0.eq_2] at h
  refine RunsI.g 1 [.c 8, .c 13, .lp 7, .blk 0, .c 25] ?_
  refine RunsI.g 1 [.c 9, .c 10, .c 13, .lp 7, .blk 0, .c 25] ?_
  refine RunsI.r ?_
  refine RegI.p 3 [(0, .slice A19 t21.length c20), (1, .func (.func 35) #[] #[]), (6, .slice A22 t24.length c23), (11, .bool (decide ((t21.length : Int) > 1)))] ?_
  refine RegI.d ?_
  rcases of_cond h with ⟨hc26, h⟩ | ⟨hc26, h⟩
  ·skip
   refine RunsI.f 11 true hc26 ?_
   refine RunsI.b true 11 ?_
   refine RunsI.g 1 [.c 13, .lp 7, .blk 0, .c 25] ?_
   refine RunsI.g 2 [.c 15, .c 16, .blk 1, .lp 7, .blk 0, .c 25] ?_
   refine RunsI.any 13 (by kernel_rfl) (by kernel_rfl) (by kernel_rfl) (Kp ([] : List Nat) (World.drew w)) ?_
   have h28 := hH.drew
   generalize World.drew w = w27 at h28 ⊢
   have hS29 := Kp.refl ([] : List Nat) w27
   refine AnyE.pure 0 13 (.func (.func 35) #[] #[]) (by kernel_rfl) hS29 (fun _ => by kernel_rfl) ?_
   refine AnyE.pure 1 14 (.slice A19 t21.length c20) (by kernel_rfl) hS29 (fun _ => by kernel_rfl) ?_
   obtain ⟨hc31, h⟩ := of_cond0 h
   refine AnyE.idxSl 2 15 0 23 0 h28 (by kernel_rfl) hS29 rfl (by kernel_rfl) (by kernel_rfl) hc31 ?_
   intro b32 o33 cs34 hk35 h36
   obtain rfl := hk35
   refine AnyE.loadCel 3 16 3 5 b32 o33 0 (.int .u8 (rdD t21 0)) [] h36 rfl (by kernel_rfl) hS29 rfl rfl (by kernel_rfl) (by kernel_rfl) ?_
   refine AnyE.pure 4 17 (.slice A19 t21.length c20) (by kernel_rfl) hS29 (fun _ => by kernel_rfl) ?_
   obtain ⟨hc37, h⟩ := of_cond0 h
   refine AnyE.idxSl 5 18 0 23 1 h36 (by kernel_rfl) hS29 rfl (by kernel_rfl) (by kernel_rfl) hc37 ?_
   intro b38 o39 cs40 hk41 h42
   obtain rfl := hk41
   refine AnyE.loadCel 6 19 4 5 b38 o39 0 (.int .u8 (rdD t21 1)) [] h42 rfl (by kernel_rfl) hS29 rfl rfl (by kernel_rfl) (by kernel_rfl) ?_
   obtain ⟨⟨t44, t45⟩, hg43, h⟩ := of_bind h
   dsimp only at h
   refine AnyE.call 7 20 (.tuple #[.int .u8 t44, .bool t45]) 35 #[.int .u8 (rdD t21 0), .int .u8 (rdD t21 1)] (by kernel_rfl) hS29 (fun _ => by kernel_rfl) (fun w hk => hexfile_whole_35_ok K (fun _ => False) w (rdD t21 0) (rdD t21 1) (fun _ hf => hf.elim) hg43) ?_
   refine AnyE.pure 8 12 (.tuple #[.int .u8 t44, .bool t45]) (by kernel_rfl) hS29 (fun _ => by kernel_rfl) ?_
   refine AnyE.pure 9 21 (.int .u8 t44) (by kernel_rfl) hS29 (fun _ => by kernel_rfl) ?_
   refine AnyE.pure 10 22 (.bool t45) (by kernel_rfl) hS29 (fun _ => by kernel_rfl) ?_
   refine AnyE.pure 11 7 (.int .u8 t44) (by kernel_rfl) hS29 (fun _ => by kernel_rfl) ?_
   refine AnyE.pure 12 8 (.bool t45) (by kernel_rfl) hS29 (fun _ => by kernel_rfl) ?_
   refine AnyE.done (by kernel_rfl) (fun w46 hu47 => ?_)
   have h48 := h42.call hu47
   refine RunsI.l [0, 1, 6, 7, 8] [(0, .slice A19 t21.length c20), (1, .func (.func 35) #[] #[]), (6, .slice A22 t24.length c23), (7, .int .u8 t44), (8, .bool t45)] ?_
   refine RunsI.g 2 [.c 18, .c 19, .c 24, .blk 1, .lp 7, .blk 0, .c 25] ?_
   refine RunsI.r ?_
   refine RegI.p 2 [(0, .slice A19 t21.length c20), (1, .func (.func 35) #[] #[]), (6, .slice A22 t24.length c23), (7, .int .u8 t44), (24, .bool (!t45))] ?_
   refine RegI.d ?_
   rcases of_cond h with ⟨hc49, h⟩ | ⟨hc49, h⟩
   ·skip
    refine RunsI.f 24 true hc49 ?_
    refine RunsI.b true 20 ?_
    refine RunsI.g 1 [.c 21, .c 22, .c 24, .blk 1, .lp 7, .blk 0, .c 25] ?_
    refine RunsI.r ?_
    refine RegI.p 2 [(4, .slice none 0 0), (5, .bool false)] ?_
    refine RegI.d ?_
    refine RunsI.t (.tuple #[.slice none 0 0, .bool false]) ?_
    exact hk1 w46 (Option.some.inj h).symm (h48.pick [2] (by decide))
   ·skip
    refine RunsI.f 24 false hc49 ?_
    refine RunsI.b false 23 ?_
    refine RunsI.g 1 [.c 24, .blk 1, .lp 7, .blk 0, .c 25] ?_
    refine RunsI.any 8 (by kernel_rfl) (by kernel_rfl) (by kernel_rfl) (Kp (mines (pick [sl (Rp.int .u8) (.slice A19 t21.length c20) t21, own (Rp.int .u8) 5 (.slice A22 t24.length c23) t24, box b25 25 [.int .u8 0, .int .u16 0, .slice none 0 0], cel b32 o33 [.int .u8 (rdD t21 0)], cel b38 o39 [.int .u8 (rdD t21 1)]] [1])) (World.drew w46)) ?_
    have h51 := h48.drew
    generalize World.drew w46 = w50 at h51 ⊢
    have hS52 := Kp.refl (mines (pick [sl (Rp.int .u8) (.slice A19 t21.length c20) t21, own (Rp.int .u8) 5 (.slice A22 t24.length c23) t24, box b25 25 [.int .u8 0, .int .u16 0, .slice none 0 0], cel b32 o33 [.int .u8 (rdD t21 0)], cel b38 o39 [.int .u8 (rdD t21 1)]] [1])) w50
    refine AnyE.pure 0 25 (.slice A22 t24.length c23) (by kernel_rfl) hS52 (fun _ => by kernel_rfl) ?_
    refine AnyE.pure 1 26 (.int .u8 t44) (by kernel_rfl) hS52 (fun _ => by kernel_rfl) ?_
    refine AnyE.pure 4 29 (.slice A19 t21.length c20) (by kernel_rfl) hS52 (fun _ => by kernel_rfl) ?_
    obtain ⟨hc54, h⟩ := of_cond0 h
    refine AnyE.cutSl 5 30 0 23 (some 2) none h51 (by kernel_rfl) hS52 rfl (by kernel_rfl) (by kernel_rfl) hc54 ?_
    intro A55 c56 h57
    refine AnyE.one 2 (by kernel_rfl) (fun w58 hu59 => ?_)
    have h60 := h57.call hu59
    have hS61 := hS52.up hu59
    refine OpE.lit 27 5 [.int .u8 t44] 1 h60 (by kernel_rfl) (by kernel_rfl) ?_
    intro w62 b63 h64 hb65 hn66
    have hn67 := Nat.le_trans hS61.1 hn66
    have hS68 := hS61.up hb65
    refine ⟨hS68, ?_⟩
    refine AnyE.one 3 (by kernel_rfl) (fun w69 hu70 => ?_)
    have h71 := h64.call hu70
    have hS72 := hS68.up hu70
    obtain ⟨hc73, h⟩ := of_cond0 h
    refine OpE.appendBox 28 1 6 23 5 1 ([t44] : List Int) 0 h71 (by kernel_rfl) (by kernel_rfl) (by kernel_rfl) rfl rfl rfl (cells_int _ _ _ _) hc73 ?_
    intro w74 A75 c76 h77 hk78
    have hS79 := hS72.trans hk78 (Kp.turned h57 [1] rfl 1 rfl rfl)
    refine ⟨hS79, ?_⟩
    refine AnyE.pure 6 6 (.slice A75 ((t24 ++ ([t44] : List Int)).length) c76) (by kernel_rfl) hS79 (fun _ => by kernel_rfl) ?_
    refine AnyE.pure 7 0 (.slice A55 ((cutL t21 2 (t21.length : Int)).length) c56) (by kernel_rfl) hS79 (fun _ => by kernel_rfl) ?_
    refine AnyE.done (by kernel_rfl) (fun w80 hu81 => ?_)
    have h82 := h77.call hu81
    refine RunsI.l [0, 1, 6] [(0, .slice A55 ((cutL t21 2 (t21.length : Int)).length) c56), (1, .func (.func 35) #[] #[]), (6, .slice A75 ((t24 ++ ([t44] : List Int)).length) c76)] ?_
    refine RunsI.g 2 [.c 7, .lp 7, .blk 0, .c 25] ?_
    refine RunsI.l [0, 1, 6] [(0, .slice A55 ((cutL t21 2 (t21.length : Int)).length) c56), (1, .func (.func 35) #[] #[]), (6, .slice A75 ((t24 ++ ([t44] : List Int)).length) c76)] ?_
    exact ih (cutL t21 2 (t21.length : Int)) (t24 ++ ([t44] : List Int)) A55 c56 A75 c76 w80 h (h82.pick [5, 1, 2] (by decide))
  ·skip
   refine RunsI.f 11 false hc26 ?_
   refine RunsI.b false 12 ?_
   refine RunsI.g 1 [.c 25] ?_
   refine RunsI.l [0, 6] [(0, .slice A19 t21.length c20), (6, .slice A22 t24.length c23)] ?_
   exact hk0 t21 t24 A19 c20 A22 c23 w (Option.some.inj h).symm (hH.pick [0, 1, 2] (by decide))
def hexfile_Parse_14.f (K : Nat) (p0 : ByteArray) : Option (Int × Int × (List Int) × Int) := (strings_CutPrefix_33.f K p0 (⟨#[58]⟩ : ByteArray)).bind fun yt10 => cond (Nat.ble yt10.1.size 140737488355328) (Let (fun (yj108 : (List Int) × Bool) => Let (fun (t117 : Bool) => cond t117 (some (0, 0, ([] : List Int), 330)) (cond (inR 3 yj108.1.length) (cond (inR 1 yj108.1.length) (cond (inR 2 yj108.1.length) ((bits_Word_36.f K (rdD yj108.1 1) (rdD yj108.1 2)).bind fun t151 => cond (cutR 4 (IntKind.wrap .i64 ((yj108.1.length : Int) - 1)) yj108.1.length) ((hexfile_Sum_17.f K (rdD yj108.1 3) t151 (cutL yj108.1 4 (IntKind.wrap .i64 ((yj108.1.length : Int) - 1)))).bind fun t183 => cond (inR (IntKind.wrap .i64 ((yj108.1.length : Int) - 1)) yj108.1.length) (cond (t183 != (rdD yj108.1 (IntKind.wrap .i64 ((yj108.1.length : Int) - 1)))) (some (0, 0, ([] : List Int), 331)) (some ((rdD yj108.1 3), t151, (cutL yj108.1 4 (IntKind.wrap .i64 ((yj108.1.length : Int) - 1))), 0))) none) none) none) none) none)) (fun j120 => cond (!yt10.2) (j120 true) (cond (!yj108.2) (j120 true) (cond (decide ((yj108.1.length : Int) < 5)) (j120 true) (cond (inR 0 yj108.1.length) (j120 ((yj108.1.length : Int) != (IntKind.wrap .i64 ((IntKind.wrap .i64 (rdD yj108.1 0)) + 5)))) none))))) (fun j108 => (hexfile_Parse_14.l0 K p0 K (bytesI yt10.1) ([] : List Int)).bind (fun x89 => Lp.elim x89 (fun _ => j108 (([] : List Int), false)) (fun yx89 => j108 (yx89.2, ((yx89.1.length : Int) == 0)))))) none
set_option maxRecDepth 100000 in
theorem hexfile_Parse_14_ok (K : Nat) (M0 : Nat → Prop) (w0 : World) (p0 : ByteArray) (ho : ∀ b, M0 b → b < w0.heap.size) {r : Int × Int × (List Int) × Int} (h : hexfile_Parse_14.f K p0 = some r) :
  Calls Tryd.prog 14 #[.string p0] w0 (hexfile_Parse_14.post M0 w0 r) := by
 unfold hexfile_Parse_14.f at h
 have h0 : Holds M0 w0 w0 [] := Holds.start ho
 have h0 : Holds M0 w0 w0 [] := h0
 refine calls_of F14 rfl [.string p0] (by kernel_rfl) ?_
 refine RunsI.g 1 [.c 1, .c 2] ?_
 refine RunsI.r ?_
 refine RegI.o (OpE.box 2 25 [.int .u8 0, .int .u16 0, .slice none 0 0] h0 (by kernel_rfl) (by kernel_rfl) ?_)
 intro w1 b2 h3 hb4 hn5
 refine RegI.p 1 [(0, .string p0), (2, .pointer (some ⟨b2, 0, none⟩))] ?_
 refine RegI.d ?_
 refine RunsI.g 1 [.c 3, .c 4] ?_
 refine RunsI.r ?_
 refine RegI.p 1 [(2, .pointer (some ⟨b2, 0, none⟩)), (11, .string p0)] ?_
 obtain ⟨⟨t10, t11⟩, hg9, h⟩ := of_bind h
 dsimp only at h
 refine RegI.o (OpE.call 12 (by kernel_rfl) 33 #[.string p0, .string (⟨#[58]⟩ : ByteArray)] (by kernel_rfl) ((strings_CutPrefix_33_ok K _ w1  p0 (⟨#[58]⟩ : ByteArray) h3.old' hg9).mono ?_))
 rintro _ w6 ⟨rfl, hb7⟩
 refine ⟨_, rfl, ?_⟩
 have h8 := h3.call hb7
 refine RegI.p 5 [(2, .pointer (some ⟨b2, 0, none⟩)), (4, .string t10), (5, .bool t11)] ?_
 refine RegI.d ?_
 refine RunsI.g 1 [.c 5, .c 6] ?_
 refine RunsI.r ?_
 refine RegI.p 1 [(2, .pointer (some ⟨b2, 0, none⟩)), (5, .bool t11), (16, .string t10)] ?_
 obtain ⟨hc12, h⟩ := of_cond0 h
 refine RegI.o (OpE.bytesOf 17 9 23 t10 h8 (by kernel_rfl) (by kernel_rfl) (by kernel_rfl) hc12 ?_)
 intro w13 A14 c15 h16 hb17
 refine RegI.enter 18 [2, 5] [(2, .pointer (some ⟨b2, 0, none⟩)), (5, .bool t11)] (by kernel_rfl) (by kernel_rfl) (by kernel_rfl) (by kernel_rfl) F34 34 rfl [.slice A14 ((bytesI t10).length) c15, .func (.func 35) #[] #[]] (by kernel_rfl) (by kernel_rfl) ?_
 obtain ⟨j108, hJ109, h⟩ := of_let h
 have hj110 : ∀ (t104 : List Int) (t105 : Bool) (A102 : Option Addr) (c103 : Nat) (w107 : World), j108 (t104, t105) = some r → Holds M0 w0 w107 [box b2 25 [.int .u8 0, .int .u16 0, .slice none 0 0], own (Rp.int .u8) 5 (.slice A102 t104.length c103) t104] → RegI F14 5 [.c 6] 3 [(2, .pointer (some ⟨b2, 0, none⟩)), (5, .bool t11), (18, .tuple #[.slice A102 t104.length c103, .bool t105])] w107 (hexfile_Parse_14.post M0 w0 r) := by
  intro t104 t105 A102 c103 w107 h h106
  rw [hJ109] at h
  clear hJ109
  dsimp only at h
  refine RegI.p 5 [(2, .pointer (some ⟨b2, 0, none⟩)), (5, .bool t11), (6, .slice A102 t104.length c103), (7, .bool t105)] ?_
  refine RegI.d ?_
  refine RunsI.g 2 [.c 8, .c 9, .c 14] ?_
  refine RunsI.r ?_
  refine RegI.p 3 [(2, .pointer (some ⟨b2, 0, none⟩)), (6, .slice A102 t104.length c103), (7, .bool t105), (23, .bool (!t11))] ?_
  obtain ⟨j120, hJ121, h⟩ := of_let h
  have hj122 : ∀ (t117 : Bool) (w119 : World), j120 t117 = some r → Holds M0 w0 w119 [box b2 25 [.int .u8 0, .int .u16 0, .slice none 0 0], own (Rp.int .u8) 5 (.slice A102 t104.length c103) t104] → RegI F14 8 [.c 9, .c 14] 21 [(2, .pointer (some ⟨b2, 0, none⟩)), (6, .slice A102 t104.length c103), (41, .bool t117)] w119 (hexfile_Parse_14.post M0 w0 r) := by
   intro t117 w119 h h118
   rw [hJ121] at h
   clear hJ121
   dsimp only at h
   refine RegI.d ?_
   rcases of_cond h with ⟨hc123, h⟩ | ⟨hc123, h⟩
   ·skip
    refine RunsI.f 41 true hc123 ?_
    refine RunsI.b true 10 ?_
    refine RunsI.g 1 [.c 11, .c 12, .c 14] ?_
    refine RunsI.r ?_
    refine RegI.p 1 [(2, .pointer (some ⟨b2, 0, none⟩)), (42, .agg #[.int .u8 0, .int .u16 0, .slice none 0 0])] ?_
    refine RegI.o (OpE.storeBox 0 25 b2 0 (.agg #[.int .u8 0, .int .u16 0, .slice none 0 0]) [.int .u8 0, .int .u16 0, .slice none 0 0] h118 (by kernel_rfl) (by kernel_rfl) rfl (by kernel_rfl) (by kernel_rfl) (by kernel_rfl) ?_)
    intro w124 h125 hk126
    refine RegI.p 1 [(2, .pointer (some ⟨b2, 0, none⟩)), (3, .int .i64 330)] ?_
    refine RegI.d ?_
    refine RunsI.toRet (by kernel_rfl) ?_
    refine RetI.valW [.cell 2 25, .tmp 3] [.agg #[.int .u8 0, .int .u16 0, .slice none 0 0], .int .i64 330] (.tuple #[.agg #[.int .u8 0, .int .u16 0, .slice none 0 0], .int .i64 330]) (by kernel_rfl) (ResAt.box 0 25 b2 0 h125 (by kernel_rfl) (by kernel_rfl) rfl (by kernel_rfl) (ResAt.tmp (by kernel_rfl) (by kernel_rfl) rfl)) (by kernel_rfl) ?_
    have h200 := h125.addSl (Rp.int .u8) (.slice none 0 0) [] (Sl.nil _ _ _)
    obtain rfl := Option.some.inj h
    exact ⟨none, 0, rfl, h200.pick [2] (by decide)⟩
   ·skip
    refine RunsI.f 41 false hc123 ?_
    refine RunsI.b false 13 ?_
    refine RunsI.g 1 [.c 14] ?_
    refine RunsI.g 1 [.c 15, .c 16] ?_
    refine RunsI.r ?_
    refine RegI.p 4 [(2, .pointer (some ⟨b2, 0, none⟩)), (6, .slice A102 t104.length c103), (8, .int .i64 (IntKind.wrap .i64 ((t104.length : Int) - 1)))] ?_
    refine RegI.d ?_
    refine RunsI.g 1 [.c 17, .c 18] ?_
    have h127 := h118.release 1 rfl
    refine RunsI.any 17 (by kernel_rfl) (by kernel_rfl) (by kernel_rfl) (Kp ([] : List Nat) (World.drew w119)) ?_
    have h129 := h127.drew
    generalize World.drew w119 = w128 at h129 ⊢
    have hS130 := Kp.refl ([] : List Nat) w128
    refine AnyE.pure 0 46 (.slice A102 t104.length c103) (by kernel_rfl) hS130 (fun _ => by kernel_rfl) ?_
    obtain ⟨hc132, h⟩ := of_cond0 h
    refine AnyE.idxSl 1 47 1 23 3 h129 (by kernel_rfl) hS130 rfl (by kernel_rfl) (by kernel_rfl) hc132 ?_
    intro b133 o134 cs135 hk136 h137
    obtain rfl := hk136
    refine AnyE.loadCel 2 48 2 5 b133 o134 0 (.int .u8 (rdD t104 3)) [] h137 rfl (by kernel_rfl) hS130 rfl rfl (by kernel_rfl) (by kernel_rfl) ?_
    refine AnyE.pure 3 49 (.slice A102 t104.length c103) (by kernel_rfl) hS130 (fun _ => by kernel_rfl) ?_
    obtain ⟨hc138, h⟩ := of_cond0 h
    refine AnyE.idxSl 4 50 1 23 1 h137 (by kernel_rfl) hS130 rfl (by kernel_rfl) (by kernel_rfl) hc138 ?_
    intro b139 o140 cs141 hk142 h143
    obtain rfl := hk142
    refine AnyE.loadCel 5 51 3 5 b139 o140 0 (.int .u8 (rdD t104 1)) [] h143 rfl (by kernel_rfl) hS130 rfl rfl (by kernel_rfl) (by kernel_rfl) ?_
    refine AnyE.pure 6 52 (.slice A102 t104.length c103) (by kernel_rfl) hS130 (fun _ => by kernel_rfl) ?_
    obtain ⟨hc144, h⟩ := of_cond0 h
    refine AnyE.idxSl 7 53 1 23 2 h143 (by kernel_rfl) hS130 rfl (by kernel_rfl) (by kernel_rfl) hc144 ?_
    intro b145 o146 cs147 hk148 h149
    obtain rfl := hk148
    refine AnyE.loadCel 8 54 4 5 b145 o146 0 (.int .u8 (rdD t104 2)) [] h149 rfl (by kernel_rfl) hS130 rfl rfl (by kernel_rfl) (by kernel_rfl) ?_
    obtain ⟨t151, hg150, h⟩ := of_bind h
    refine AnyE.call 9 55 (.int .u16 t151) 36 #[.int .u8 (rdD t104 1), .int .u8 (rdD t104 2)] (by kernel_rfl) hS130 (fun _ => by kernel_rfl) (fun w hk => bits_Word_36_ok K (fun _ => False) w (rdD t104 1) (rdD t104 2) (fun _ hf => hf.elim) hg150) ?_
    refine AnyE.pure 10 56 (.slice A102 t104.length c103) (by kernel_rfl) hS130 (fun _ => by kernel_rfl) ?_
    refine AnyE.pure 11 57 (.int .i64 (IntKind.wrap .i64 ((t104.length : Int) - 1))) (by kernel_rfl) hS130 (fun _ => by kernel_rfl) ?_
    refine AnyE.pure 12 58 (.int .i64 (IntKind.wrap .i64 ((t104.length : Int) - 1))) (by kernel_rfl) hS130 (fun _ => by kernel_rfl) ?_
    obtain ⟨hc152, h⟩ := of_cond0 h
    refine AnyE.cutSlM 13 59 1 23 4 (IntKind.wrap .i64 ((t104.length : Int) - 1)) h149 (by kernel_rfl) hS130 rfl (by kernel_rfl) (by kernel_rfl) hc152 ?_
    intro A153 c154 h155
    refine AnyE.pure 14 60 (.agg #[.int .u8 (rdD t104 3), .int .u16 t151, .slice A153 ((cutL t104 4 (IntKind.wrap .i64 ((t104.length : Int) - 1))).length) c154]) (by kernel_rfl) hS130 (fun _ => by kernel_rfl) ?_
    refine AnyE.one 15 (by kernel_rfl) (fun w156 hu157 => ?_)
    have h158 := h155.call hu157
    have hS159 := hS130.up hu157
    refine OpE.box 9 25 [.int .u8 0, .int .u16 0, .slice none 0 0] h158 (by kernel_rfl) (by kernel_rfl) ?_
    intro w160 b161 h162 hb163 hn164
    have hn165 := Nat.le_trans hS159.1 hn164
    have hS166 := hS159.up hb163
    refine ⟨hS166, ?_⟩
    refine AnyE.last 16 (by kernel_rfl) (by kernel_rfl) (fun w167 hu168 => ?_)
    have h169 := h162.call hu168
    have hS170 := hS166.up hu168
    refine OpE.storeBox 6 25 b161 0 (.agg #[.int .u8 (rdD t104 3), .int .u16 t151, .slice A153 ((cutL t104 4 (IntKind.wrap .i64 ((t104.length : Int) - 1))).length) c154]) [.int .u8 (rdD t104 3), .int .u16 t151, .slice A153 ((cutL t104 4 (IntKind.wrap .i64 ((t104.length : Int) - 1))).length) c154] h169 (by kernel_rfl) (by kernel_rfl) rfl (by kernel_rfl) (by kernel_rfl) (by kernel_rfl) ?_
    intro w171 h172 hk173
    refine AnyE.done (by kernel_rfl) (fun w175 hu176 => ?_)
    have h177 := h172.call hu176
    refine RunsI.l [2, 6, 8, 9] [(2, .pointer (some ⟨b2, 0, none⟩)), (6, .slice A102 t104.length c103), (8, .int .i64 (IntKind.wrap .i64 ((t104.length : Int) - 1))), (9, .pointer (some ⟨b161, 0, none⟩))] ?_
    refine RunsI.g 2 [.c 20, .c 21, .c 26] ?_
    refine RunsI.any 7 (by kernel_rfl) (by kernel_rfl) (by kernel_rfl) (Kp ([] : List Nat) (World.drew w175)) ?_
    have h179 := h177.drew
    generalize World.drew w175 = w178 at h179 ⊢
    have hS180 := Kp.refl ([] : List Nat) w178
    refine AnyE.loadBox 0 61 6 25 b161 0 (.agg #[.int .u8 (rdD t104 3), .int .u16 t151, .slice A153 ((cutL t104 4 (IntKind.wrap .i64 ((t104.length : Int) - 1))).length) c154]) [] h179 rfl (by kernel_rfl) hS180 rfl rfl (by kernel_rfl) (by kernel_rfl) ?_
    obtain ⟨t183, hg182, h⟩ := of_bind h
    refine AnyE.call 1 62 (.int .u8 t183) 17 #[.agg #[.int .u8 (rdD t104 3), .int .u16 t151, .slice A153 ((cutL t104 4 (IntKind.wrap .i64 ((t104.length : Int) - 1))).length) c154]] (by kernel_rfl) hS180 (fun _ => by kernel_rfl) (fun w hk => hexfile_Sum_17_ok K (fun _ => False) w A153 c154 (rdD t104 3) t151 (cutL t104 4 (IntKind.wrap .i64 ((t104.length : Int) - 1))) (fun _ hf => hf.elim) (Sl.mono (h179.atI [] rfl hk 5 rfl rfl) (fun _ _ hf => hf.elim)) hg182) ?_
    refine AnyE.pure 2 63 (.slice A102 t104.length c103) (by kernel_rfl) hS180 (fun _ => by kernel_rfl) ?_
    refine AnyE.pure 3 64 (.int .i64 (IntKind.wrap .i64 ((t104.length : Int) - 1))) (by kernel_rfl) hS180 (fun _ => by kernel_rfl) ?_
    obtain ⟨hc184, h⟩ := of_cond0 h
    refine AnyE.idxSl 4 65 1 23 (IntKind.wrap .i64 ((t104.length : Int) - 1)) h179 (by kernel_rfl) hS180 rfl (by kernel_rfl) (by kernel_rfl) hc184 ?_
    intro b185 o186 cs187 hk188 h189
    obtain rfl := hk188
    refine AnyE.loadCel 5 66 7 5 b185 o186 0 (.int .u8 (rdD t104 (IntKind.wrap .i64 ((t104.length : Int) - 1)))) [] h189 rfl (by kernel_rfl) hS180 rfl rfl (by kernel_rfl) (by kernel_rfl) ?_
    refine AnyE.pure 6 67 (.bool (t183 != (rdD t104 (IntKind.wrap .i64 ((t104.length : Int) - 1))))) (by kernel_rfl) hS180 (fun _ => by kernel_rfl) ?_
    refine AnyE.done (by kernel_rfl) (fun w190 hu191 => ?_)
    have h192 := h189.call hu191
    refine RunsI.l [2, 9, 67] [(2, .pointer (some ⟨b2, 0, none⟩)), (9, .pointer (some ⟨b161, 0, none⟩)), (67, .bool (t183 != (rdD t104 (IntKind.wrap .i64 ((t104.length : Int) - 1)))))] ?_
    rcases of_cond h with ⟨hc193, h⟩ | ⟨hc193, h⟩
    ·skip
     refine RunsI.f 67 true hc193 ?_
     refine RunsI.b true 22 ?_
     refine RunsI.g 1 [.c 23, .c 24, .c 26] ?_
     refine RunsI.r ?_
     refine RegI.p 1 [(2, .pointer (some ⟨b2, 0, none⟩)), (68, .agg #[.int .u8 0, .int .u16 0, .slice none 0 0])] ?_
     refine RegI.o (OpE.storeBox 0 25 b2 0 (.agg #[.int .u8 0, .int .u16 0, .slice none 0 0]) [.int .u8 0, .int .u16 0, .slice none 0 0] h192 (by kernel_rfl) (by kernel_rfl) rfl (by kernel_rfl) (by kernel_rfl) (by kernel_rfl) ?_)
     intro w194 h195 hk196
     refine RegI.p 1 [(2, .pointer (some ⟨b2, 0, none⟩)), (3, .int .i64 331)] ?_
     refine RegI.d ?_
     refine RunsI.toRet (by kernel_rfl) ?_
     refine RetI.valW [.cell 2 25, .tmp 3] [.agg #[.int .u8 0, .int .u16 0, .slice none 0 0], .int .i64 331] (.tuple #[.agg #[.int .u8 0, .int .u16 0, .slice none 0 0], .int .i64 331]) (by kernel_rfl) (ResAt.box 0 25 b2 0 h195 (by kernel_rfl) (by kernel_rfl) rfl (by kernel_rfl) (ResAt.tmp (by kernel_rfl) (by kernel_rfl) rfl)) (by kernel_rfl) ?_
     have h201 := h195.addSl (Rp.int .u8) (.slice none 0 0) [] (Sl.nil _ _ _)
     obtain rfl := Option.some.inj h
     exact ⟨none, 0, rfl, h201.pick [8] (by decide)⟩
    ·skip
     refine RunsI.f 67 false hc193 ?_
     refine RunsI.b false 25 ?_
     refine RunsI.g 1 [.c 26] ?_
     refine RunsI.g 1 [.c 27, .c 28] ?_
     refine RunsI.r ?_
     refine RegI.o (OpE.loadBox 69 6 25 b161 0 (.agg #[.int .u8 (rdD t104 3), .int .u16 t151, .slice A153 ((cutL t104 4 (IntKind.wrap .i64 ((t104.length : Int) - 1))).length) c154]) h192 (by kernel_rfl) (by kernel_rfl) rfl (by kernel_rfl) ?_)
     refine RegI.o (OpE.storeBox 0 25 b2 0 (.agg #[.int .u8 (rdD t104 3), .int .u16 t151, .slice A153 ((cutL t104 4 (IntKind.wrap .i64 ((t104.length : Int) - 1))).length) c154]) [.int .u8 (rdD t104 3), .int .u16 t151, .slice A153 ((cutL t104 4 (IntKind.wrap .i64 ((t104.length : Int) - 1))).length) c154] h192 (by kernel_rfl) (by kernel_rfl) rfl (by kernel_rfl) (by kernel_rfl) (by kernel_rfl) ?_)
     intro w197 h198 hk199
     refine RegI.p 1 [(2, .pointer (some ⟨b2, 0, none⟩)), (3, .int .i64 0)] ?_
     refine RegI.d ?_
     refine RunsI.toRet (by kernel_rfl) ?_
     refine RetI.valW [.cell 2 25, .tmp 3] [.agg #[.int .u8 (rdD t104 3), .int .u16 t151, .slice A153 ((cutL t104 4 (IntKind.wrap .i64 ((t104.length : Int) - 1))).length) c154], .int .i64 0] (.tuple #[.agg #[.int .u8 (rdD t104 3), .int .u16 t151, .slice A153 ((cutL t104 4 (IntKind.wrap .i64 ((t104.length : Int) - 1))).length) c154], .int .i64 0]) (by kernel_rfl) (ResAt.box 0 25 b2 0 h198 (by kernel_rfl) (by kernel_rfl) rfl (by kernel_rfl) (ResAt.tmp (by kernel_rfl) (by kernel_rfl) rfl)) (by kernel_rfl) ?_
     obtain rfl := Option.some.inj h
     exact ⟨A153, c154, rfl, h198.pick [5] (by decide)⟩
  clear hJ121
  rcases of_cond h with ⟨hc111, h⟩ | ⟨hc111, h⟩
  ·skip
   refine RegI.f 23 true hc111 ?_
   refine RegI.p 18 [(2, .pointer (some ⟨b2, 0, none⟩)), (6, .slice A102 t104.length c103), (41, .bool true)] ?_
   refine RegI.l [2, 6, 41] [(2, .pointer (some ⟨b2, 0, none⟩)), (6, .slice A102 t104.length c103), (41, .bool true)] ?_
   exact hj122 true w107 h (h106.pick [0, 1] (by decide))
  ·skip
   refine RegI.f 23 false hc111 ?_
   refine RegI.p 4 [(2, .pointer (some ⟨b2, 0, none⟩)), (6, .slice A102 t104.length c103), (27, .bool (!t105))] ?_
   rcases of_cond h with ⟨hc112, h⟩ | ⟨hc112, h⟩
   ·skip
    refine RegI.f 27 true hc112 ?_
    refine RegI.p 14 [(2, .pointer (some ⟨b2, 0, none⟩)), (6, .slice A102 t104.length c103), (41, .bool true)] ?_
    refine RegI.l [2, 6, 41] [(2, .pointer (some ⟨b2, 0, none⟩)), (6, .slice A102 t104.length c103), (41, .bool true)] ?_
    exact hj122 true w107 h (h106.pick [0, 1] (by decide))
   ·skip
    refine RegI.f 27 false hc112 ?_
    refine RegI.p 5 [(2, .pointer (some ⟨b2, 0, none⟩)), (6, .slice A102 t104.length c103), (32, .bool (decide ((t104.length : Int) < 5)))] ?_
    rcases of_cond h with ⟨hc113, h⟩ | ⟨hc113, h⟩
    ·skip
     refine RegI.f 32 true hc113 ?_
     refine RegI.p 9 [(2, .pointer (some ⟨b2, 0, none⟩)), (6, .slice A102 t104.length c103), (41, .bool true)] ?_
     refine RegI.l [2, 6, 41] [(2, .pointer (some ⟨b2, 0, none⟩)), (6, .slice A102 t104.length c103), (41, .bool true)] ?_
     exact hj122 true w107 h (h106.pick [0, 1] (by decide))
    ·skip
     refine RegI.f 32 false hc113 ?_
     refine RegI.p 3 [(2, .pointer (some ⟨b2, 0, none⟩)), (6, .slice A102 t104.length c103), (32, .bool false), (34, .int .i64 (t104.length : Int)), (35, .slice A102 t104.length c103)] ?_
     obtain ⟨hc114, h⟩ := of_cond0 h
     refine RegI.o (OpE.idxOwnA 36 1 23 5 0 h106 (by kernel_rfl) rfl (by kernel_rfl) (by kernel_rfl) hc114 ?_)
     refine RegI.o (OpE.loadOwnA 37 1 5 5 0 0 (o := (Int.toNat 0) * 1 + 0) h106 (by kernel_rfl) rfl (by kernel_rfl) (by kernel_rfl) hc114 (fun cs115 hk116 => ?_))
     obtain rfl := hk116
     refine ⟨.int .u8 (rdD t104 0), by kernel_rfl, ?_⟩
     refine RegI.p 4 [(2, .pointer (some ⟨b2, 0, none⟩)), (6, .slice A102 t104.length c103), (41, .bool ((t104.length : Int) != (IntKind.wrap .i64 ((IntKind.wrap .i64 (rdD t104 0)) + 5))))] ?_
     refine RegI.l [2, 6, 41] [(2, .pointer (some ⟨b2, 0, none⟩)), (6, .slice A102 t104.length c103), (41, .bool ((t104.length : Int) != (IntKind.wrap .i64 ((IntKind.wrap .i64 (rdD t104 0)) + 5))))] ?_
     exact hj122 ((t104.length : Int) != (IntKind.wrap .i64 ((IntKind.wrap .i64 (rdD t104 0)) + 5))) w107 h (h106.pick [0, 1] (by decide))
 clear hJ109
 refine RunsI.g 1 [.c 1, .c 2] ?_
 refine RunsI.r ?_
 refine RegI.p 2 [(0, .slice A14 ((bytesI t10).length) c15), (1, .func (.func 35) #[] #[])] ?_
 refine RegI.d ?_
 refine RunsI.g 1 [.c 3, .c 4] ?_
 refine RunsI.r ?_
 refine RegI.p 1 [(0, .slice A14 ((bytesI t10).length) c15), (1, .func (.func 35) #[] #[]), (6, .slice none 0 0)] ?_
 refine RegI.d ?_
 refine RunsI.g 3 [.c 7, .lp 7, .blk 0, .c 25] ?_
 obtain ⟨x89, hx90, h⟩ := of_bind h
 have h18 := h16.addOwnNil (Rp.int .u8) 5
 refine RunsI.l [0, 1, 6] [(0, .slice A14 ((bytesI t10).length) c15), (1, .func (.func 35) #[] #[]), (6, .slice none (([] : List Int).length) 0)] ?_
 refine hexfile_Parse_14.l0_ok K M0 w0 p0 b2 _ x89 ?_ ?_ K (bytesI t10) ([] : List Int) A14 c15 none 0 w13 hx90 (h18.pick [1, 2, 0] (by decide))
 ·intro t93 t96 A91 c92 A94 c95 w98 hq202 h97
  (try rw [hq202] at h)
  dsimp only [Lp.elim] at h
  refine RunsI.g 1 [.c 26, .c 27] ?_
  refine RunsI.r ?_
  refine RegI.p 6 [(4, .slice A94 t96.length c95), (5, .bool ((t93.length : Int) == 0))] ?_
  refine RegI.d ?_
  refine RunsI.t (.tuple #[.slice A94 t96.length c95, .bool ((t93.length : Int) == 0)]) ?_
  refine cont_mk ?_
  refine RegI.l [2, 5, 18] [(2, .pointer (some ⟨b2, 0, none⟩)), (5, .bool t11), (18, .tuple #[.slice A94 t96.length c95, .bool ((t93.length : Int) == 0)])] ?_
  exact hj110 t96 ((t93.length : Int) == 0) A94 c95 w98 h (h97.pick [2, 1] (by decide))
 ·intro w100 hq203 h99
  (try rw [hq203] at h)
  dsimp only [Lp.elim] at h
  refine cont_mk ?_
  have h101 := h99.addOwnNil (Rp.int .u8) 5
  refine RegI.l [2, 5, 18] [(2, .pointer (some ⟨b2, 0, none⟩)), (5, .bool t11), (18, .tuple #[.slice none (([] : List Int).length) 0, .bool false])] ?_
  exact hj110 ([] : List Int) false none 0 w100 h (h101.pick [0, 1] (by decide))
end

/-! ### strings.Count (function 109) -/
section
def strings_Count_109.post (M0 : Nat → Prop) (w0 : World) (r : Int) : Ending → World → Prop := fun e w => e = .returned (.int .i64 r) ∧ Below w0.heap.size w0 w
def strings_Count_109.f (K : Nat) (p0 : ByteArray) (p1 : ByteArray) : Option Int := cond (oneR p1) (some (Lib.countByte p0.data.toList (oneB p1))) none
theorem strings_Count_109_ok (K : Nat) (M0 : Nat → Prop) (w0 : World) (p0 : ByteArray) (p1 : ByteArray) (ho : ∀ b, M0 b → b < w0.heap.size) {r : Int} (h : strings_Count_109.f K p0 p1 = some r) : Calls Tryd.prog 109 #[.string p0, .string p1] w0 (strings_Count_109.post M0 w0 r) := by
 obtain ⟨hc, h⟩ := of_cond0 h
 obtain rfl := Option.some.inj h
 rw [oneR_of hc]
 refine (Tryd.strings_Count_one p0 (oneB p1) w0).mono ?_
 rintro e w' ⟨rfl, rfl⟩
 exact ⟨by rw [← oneR_of hc], Below.refl _ _⟩
end

/-! ### strings.Index (function 110) -/
section
def strings_Index_110.post (M0 : Nat → Prop) (w0 : World) (r : Int) : Ending → World → Prop := fun e w => e = .returned (.int .i64 r) ∧ Below w0.heap.size w0 w
def strings_Index_110.f (K : Nat) (p0 : ByteArray) (p1 : ByteArray) : Option Int := cond (oneR p1) (some (Lib.indexByte p0.data.toList (oneB p1))) none
theorem strings_Index_110_ok (K : Nat) (M0 : Nat → Prop) (w0 : World) (p0 : ByteArray) (p1 : ByteArray) (ho : ∀ b, M0 b → b < w0.heap.size) {r : Int} (h : strings_Index_110.f K p0 p1 = some r) : Calls Tryd.prog 110 #[.string p0, .string p1] w0 (strings_Index_110.post M0 w0 r) := by
 obtain ⟨hc, h⟩ := of_cond0 h
 obtain rfl := Option.some.inj h
 rw [oneR_of hc]
 refine (Tryd.strings_Index_one p0 (oneB p1) w0).mono ?_
 rintro e w' ⟨rfl, rfl⟩
 exact ⟨by rw [← oneR_of hc], Below.refl _ _⟩
end

/-! ### (charabanc/cells.memory).told (function 75) -/
section
open Go.Shelf Go.Lib Go.Sort
theorem isNaN147 (x : Int) (w : World) : Calls Tryd.prog 147 #[.int .u16 x] w fun e w' => e = .returned (.bool false) ∧ w' = w := by
 go_enter Tryd.func147, Tryd.ntmps147
 go_wp2
 go_ret
 exact ⟨by simp, rfl⟩
theorem cmp131 (x y : Int) (w : World) : Calls Tryd.prog 131 #[.int .u16 x, .int .u16 y] w fun e w' => e = .returned (.int .i64 (Lib.compareInt x y)) ∧ w' = w := by
 go_enter Tryd.func131, Tryd.ntmps131
 go_wp2_with (go_at_call 147; refine (isNaN147 _ _).mono ?_; rintro e w' ⟨rfl, rfl⟩)
 all_goals (go_ret; refine ⟨?_, rfl⟩; unfold Lib.compareInt; (repeat' split) <;> first | rfl | (exfalso; omega))
theorem closure130 (x y : Int × Int) (W : World) : Calls Tryd.prog 130 #[.agg #[.int .u16 x.1, .int .u8 x.2], .agg #[.int .u16 y.1, .int .u8 y.2]] W fun e w' => e = .returned (.int .i64 (Lib.compareInt x.1 y.1)) ∧ ∃ q os', w' = grow (W.drewN q) os' := by
 have hcon := fun W' => cmp131 x.1 y.1 W'
 generalize Lib.compareInt x.1 y.1 = r at hcon ⊢
 go_enter Tryd.func130, Tryd.ntmps130
 go_wp2_with (go_at_call 131; refine (hcon _).mono ?_; rintro e w' ⟨rfl, rfl⟩)
 go_ret
 exact ⟨rfl, 0, _, by rw [alloc_eq_grow, alloc_eq_grow, grow_grow]; rfl⟩
end
abbrev Rc : Rp (Int × Int) := Rp.pair (Rp.int .u16) (Rp.int .u8)
def encC (x : Int × Int) : List Value := [.int .u16 x.1, .int .u8 x.2]
theorem rc_enc {w : World} {M : Nat → Prop} {x : Int × Int} {cs : List Value} : Rc.K w M x cs ↔ cs = encC x := by
 constructor
 ·rintro ⟨c1, c2, rfl, h1, h2⟩
  rw [show c1 = _ from h1, show c2 = _ from h2]; rfl
 ·rintro rfl
  exact ⟨[_], [_], rfl, rfl, rfl⟩
section
open Go.Shelf Go.Lib Go.Sort
theorem cells_memory_told_75_lt : ltOf (fun x y : Int × Int => Lib.compareInt x.1 y.1) = fun x y => decide (x.1 < y.1) := by
 funext x y
 unfold ltOf Lib.compareInt
 by_cases h1 : x.1 < y.1
 ·simp [h1]
 ·by_cases h2 : y.1 < x.1 <;> simp [h1, h2]
theorem cells_memory_told_75_sorts : SortsBy Tryd.prog 129 130 encC 2 (Prod.fst : Int × Int → Int) := by
 refine ⟨fun blk off cap D w hH hb hs => ?_, fun w => ?_⟩
 ·have eg : ∀ args w, (callFunc 130 args).run Tryd.prog w = .ok (.enter 130 args) w := enters_of Tryd.func130 (by kernel_rfl) rfl
  have hO : SWO (ltOf fun x y : Int × Int => Lib.compareInt x.1 y.1) := by
   rw [cells_memory_told_75_lt]
   exact ⟨fun x => by simp, fun x y z h1 h2 => by simp at *; omega, fun x y z h1 h2 => by simp at *; omega⟩
  have hcon := AnyQ.slices_SortFunc Tryd.sortC 2 Tryd.isAgg85 Tryd.sizeOf85 encC (fun _ => rfl) (fun x v hv => by simp [encC] at hv; rcases hv with rfl | rfl <;> rfl) (fun x y => Lib.compareInt x.1 y.1) hO 130 #[] blk off cap D w eg (fun _ _ _ _ x y => closure130 x y _) hH hb hs
  rw [cells_memory_told_75_lt] at hcon
  exact hcon
 ·refine (AnyF.slices_SortFunc_none Tryd.sortC none 0 _ w).mono ?_
  rintro e w' ⟨rfl, rfl⟩
  exact ⟨rfl, Below.refl _ _⟩
end
theorem cells_memory_told_75_ord {M0 : Nat → Prop} {w0 w : World} {H : List Chunk} {c cp : Nat} {A : Option Addr} {xs : List (Int × Int)} (hS : SortsBy Tryd.prog 129 130 encC 2 (Prod.fst : Int × Int → Int)) (hH : Holds M0 w0 w H) (hi : H[c]? = some (own Rc 85 (.slice A xs.length cp) xs)) (hn : sortR Prod.fst xs = true) :
  Calls Tryd.prog 111 #[.slice A xs.length cp] w fun e w' => e = .returned (.slice A xs.length xs.length) ∧ Holds M0 w0 w' (H.set c (own Rc 85 (.slice A xs.length cp) (sortB Prod.fst xs))) := by
 refine calls_of F111 rfl [.slice A xs.length cp] (by kernel_rfl) ?_
 refine RunsI.g 1 [.c 1, .c 2] ?_
 refine RunsI.r ?_
 refine RegI.p 1 [(0, .slice A xs.length cp)] ?_
 refine RegI.d ?_
 refine RunsI.g 1 [.c 3, .c 4] ?_
 refine RunsI.r ?_
 refine RegI.p 1 [(0, .slice A xs.length cp), (3, .slice A xs.length cp)] ?_
 refine RegI.o (OpE.call 4 (by kernel_rfl) 129 #[.slice A xs.length cp, .func (.func 130) #[] #[]] (by kernel_rfl) ((Holds.sortBy hS (fun _ => rfl) rc_enc hH hi hn).mono ?_))
 rintro _ w1 ⟨rfl, h1⟩
 refine ⟨_, rfl, ?_⟩
 refine RegI.l [0] [(0, .slice A xs.length cp)] ?_
 refine RegI.d ?_
 refine RunsI.g 1 [.c 5, .c 6] ?_
 refine RunsI.r ?_
 refine RegI.p 5 [(5, .slice A xs.length cp), (7, .int .i64 (xs.length : Int)), (9, .int .i64 (xs.length : Int))] ?_
 have hc : c < H.length := (List.getElem?_eq_some_iff.1 hi).1
 have hcap := own_cap (h1.get c (by rw [List.getElem?_set_self hc]))
 refine RegI.o (OpE.run 10 (by kernel_rfl) (run_cutFull (A := A) (T := 41) (E := 85) (s := 2) (y := 4) (by kernel_rfl) (by kernel_rfl) hcap) ?_)
 refine RegI.p 1 [(2, .slice A xs.length xs.length)] ?_
 refine RegI.d ?_
 refine RunsI.t (.slice A xs.length xs.length) ?_
 exact ⟨rfl, h1⟩
abbrev eK : Int → Value := ekI .u16
abbrev eV : Int → Value := fun x => .int .u8 x
theorem cells_memory_told_75_loop {M0 : Nat → Prop} {w0 : World} {b r : Nat} {kvs : List (Int × Int)} (hR : mayBe kvs.length 4 = true) {R : Ending → World → Prop}
  (hk : ∀ (out : List (Int × Int)) (A : Option Addr) (cp : Nat) (cur : Option (Int × Int)) (w1 : World), out.Perm kvs → Holds M0 w0 w1 [mpR eK eV b kvs, own Rc 85 (.slice A out.length cp) out, itr eK eV r b [] cur] → RunsI F75 [.c 19] [(3, .slice A out.length cp)] w1 R) :
  ∀ (m : Nat) (left out : List (Int × Int)) (A : Option Addr) (cp : Nat) (cur : Option (Int × Int)) (w : World), left.length = m → (out ++ left).Perm kvs → Holds M0 w0 w [mpR eK eV b kvs, own Rc 85 (.slice A out.length cp) out, itr eK eV r b left cur] →
   RunsI F75 [.c 9, .lp 9, .blk 0, .c 19] [(3, .slice A out.length cp), (10, .pointer (some ⟨r, 0, none⟩))] w R := by
 intro m
 induction m with
 | zero =>
  intro left out A cp cur w hm hp hH
  obtain rfl : left = [] := List.eq_nil_of_length_eq_zero hm
  refine RunsI.g 1 [.c 10, .c 11, .lp 9, .blk 0, .c 19] ?_
  refine RunsI.r ?_
  refine RegI.o (OpE.nextMap (ek := eK) (ev := eV) 11 2 hH (by kernel_rfl) rfl (by kernel_rfl) (fun _ => ?_) (fun p left' w' hp' _ => absurd hp'.length_eq (by simp)))
  refine RegI.p 1 [(3, .slice A out.length cp), (12, .bool false)] ?_
  refine RegI.d ?_
  refine RunsI.g 1 [.c 12, .c 15, .lp 9, .blk 0, .c 19] ?_
  refine RunsI.b false 14 ?_
  refine RunsI.g 1 [.c 19] ?_
  rw [List.append_nil] at hp
  refine RunsI.l [3] [(3, .slice A out.length cp)] ?_
  exact hk out A cp cur w hp hH
 | succ m ih =>
  intro left out A cp cur w hm hp hH
  refine RunsI.g 1 [.c 10, .c 11, .lp 9, .blk 0, .c 19] ?_
  refine RunsI.r ?_
  refine RegI.o (OpE.nextMap (ek := eK) (ev := eV) 11 2 hH (by kernel_rfl) rfl (by kernel_rfl) (fun h0 => by rw [h0] at hm; cases hm) (fun p left' w1 hp' hH1 => ?_))
  have hm' : left'.length = m := by have := hp'.length_eq; simp at this; omega
  have hp2 : (out ++ [p] ++ left').Perm kvs := by
   rw [List.append_assoc]
   exact (hp'.symm.append_left out).trans hp
  refine RegI.p 1 [(3, .slice A out.length cp), (10, .pointer (some ⟨r, 0, none⟩)), (12, .bool true)] ?_
  refine RegI.d ?_
  refine RunsI.g 1 [.c 12, .c 15, .lp 9, .blk 0, .c 19] ?_
  refine RunsI.b true 13 ?_
  refine RunsI.g 1 [.c 15, .lp 9, .blk 0, .c 19] ?_
  refine RunsI.g 2 [.c 17, .c 18, .blk 1, .lp 9, .blk 0, .c 19] ?_
  refine RunsI.r ?_
  refine RegI.o (OpE.entryMap (ek := eK) (ev := eV) 13 2 p hH1 (by kernel_rfl) rfl (by kernel_rfl) ?_)
  refine RegI.p 4 [(3, .slice A out.length cp), (10, .pointer (some ⟨r, 0, none⟩)), (4, .int .u16 p.1), (5, .int .u8 p.2)] ?_
  refine RegI.d ?_
  refine RunsI.r ?_
  refine RegI.p 4 [(10, .pointer (some ⟨r, 0, none⟩)), (16, .slice A out.length cp), (19, .agg #[.int .u16 p.1, .int .u8 p.2])] ?_
  refine RegI.o (OpE.lit 20 85 [.int .u16 p.1, .int .u8 p.2] 1 hH1 (by kernel_rfl) (by kernel_rfl) ?_)
  intro w2 b2 h2 hb2 hn2
  have hmb : mayBe (out.length + ([p] : List (Int × Int)).length) 4 = true := by
   have hl := hp2.length_eq
   simp only [List.length_append, List.length_cons, List.length_nil] at hl ⊢
   have := mayBe_spec hR
   simp only [mayBe, Bool.and_eq_true, Nat.ble_eq]
   omega
  refine RegI.o (OpE.appendBox 21 1 3 41 85 4 ([p] : List (Int × Int)) 0 h2 (by kernel_rfl) (by kernel_rfl) (by kernel_rfl) rfl rfl rfl ⟨_, _, rfl, ⟨[_], [_], rfl, rfl, rfl⟩, rfl⟩ hmb ?_)
  intro w3 A3 c3 h3 hk3
  refine RegI.p 1 [(3, .slice A3 ((out ++ [p]).length) c3), (10, .pointer (some ⟨r, 0, none⟩))] ?_
  refine RegI.d ?_
  refine RunsI.g 2 [.c 9, .lp 9, .blk 0, .c 19] ?_
  exact ih left' (out ++ [p]) A3 c3 (some p) w3 hm' hp2 (h3.pick [0, 1, 2] (by decide))
def cells_memory_told_75.post (M0 : Nat → Prop) (w0 : World) (r : List (Int × Int)) : Ending → World → Prop := fun e w => ∃ (A : Option Addr) (c : Nat), e = .returned (.slice A r.length c) ∧ Holds M0 w0 w [sl Rc (.slice A r.length c) r]
def cells_memory_told_75.f (K : Nat) (kvs : List (Int × Int)) : Option (List (Int × Int)) := cond (mayBe kvs.length 4 && sortR Prod.fst kvs) (some (sortB Prod.fst kvs)) none
theorem cells_memory_told_75.sortR_perm {a b : List (Int × Int)} (hp : a.Perm b) (h : sortR Prod.fst b = true) : sortR Prod.fst a = true := by
 rw [sortR, Bool.and_eq_true] at h ⊢
 refine ⟨distB_iff.2 (((hp.map Prod.fst).nodup_iff).2 (distB_iff.1 h.1)), ?_⟩
 rw [hp.length_eq]; exact h.2
theorem cells_memory_told_75_ok (K : Nat) (M0 : Nat → Prop) (w0 : World) (b : Nat) (kvs : List (Int × Int)) (ho : ∀ b, M0 b → b < w0.heap.size) (hm : (mpR eK eV b kvs).ok w0 M0) {r : List (Int × Int)} (h : cells_memory_told_75.f K kvs = some r) :
  Calls Tryd.prog 75 #[.map (some b)] w0 (cells_memory_told_75.post M0 w0 r) := by
 unfold cells_memory_told_75.f at h
 obtain ⟨hc, h⟩ := of_cond0 h
 obtain rfl := Option.some.inj h
 rw [Bool.and_eq_true] at hc
 have h0 : Holds M0 w0 w0 [] := Holds.start ho
 have h0 : Holds M0 w0 w0 [mpR eK eV b kvs] := h0.add (mpR eK eV b kvs) rfl ⟨fun hx => hm.1 (hx.elim id (fun hx => absurd hx (by simp [mines]))), hm.2⟩
 refine calls_of F75 rfl [.map (some b)] (by kernel_rfl) ?_
 refine RunsI.g 1 [.c 1, .c 2] ?_
 refine RunsI.r ?_
 refine RegI.p 1 [(0, .map (some b))] ?_
 refine RegI.d ?_
 refine RunsI.g 1 [.c 3, .c 4] ?_
 refine RunsI.r ?_
 refine RegI.p 1 [(0, .map (some b)), (6, .map (some b))] ?_
 refine RegI.o (OpE.run 7 (by kernel_rfl) (run_mapLen (ek := eK) (ev := eV) (T := 110) (kT := 22) (eT := 5) (b := b) (kvs := kvs) (by kernel_rfl) hm.2 (by kernel_rfl)) ?_)
 have hmk : makeR (kvs.length : Int) 4 = true := by
  have := mayBe_spec hc.1
  simp only [makeR, Bool.and_eq_true, decide_eq_true_eq]
  omega
 refine RegI.o (OpE.makeNil 8 41 85 4 (k := .i64) (k' := .i64) (x := (kvs.length : Int)) Rc h0 (by kernel_rfl) (by kernel_rfl) (by kernel_rfl) hmk ?_)
 intro w1 A1 c1 h1 hb1
 refine RegI.p 1 [(0, .map (some b)), (3, .slice A1 ([] : List (Int × Int)).length c1)] ?_
 refine RegI.d ?_
 refine RunsI.g 2 [.c 6, .c 7, .c 19] ?_
 refine RunsI.r ?_
 refine RegI.p 1 [(3, .slice A1 ([] : List (Int × Int)).length c1), (9, .map (some b))] ?_
 refine RegI.o (OpE.rangeMap (ek := eK) (ev := eV) 10 0 110 22 5 h1 (by kernel_rfl) rfl (by kernel_rfl) (by kernel_rfl) ?_)
 intro w2 r2 h2 hb2 hr2
 refine RegI.l [3, 10] [(3, .slice A1 ([] : List (Int × Int)).length c1), (10, .pointer (some ⟨r2, 0, none⟩))] ?_
 refine RegI.d ?_
 refine RunsI.g 2 [.c 9, .lp 9, .blk 0, .c 19] ?_
 refine cells_memory_told_75_loop hc.1 ?_ kvs.length kvs [] A1 c1 none w2 rfl (.refl _) h2
 intro out A3 c3 cur w3 hp h3
 have hn := cells_memory_told_75.sortR_perm hp hc.2
 refine RunsI.g 1 [.c 20, .c 21] ?_
 refine RunsI.r ?_
 refine RegI.p 1 [(22, .slice A3 out.length c3)] ?_
 refine RegI.o (OpE.call 23 (by kernel_rfl) 111 #[.slice A3 out.length c3] (by kernel_rfl) ((cells_memory_told_75_ord cells_memory_told_75_sorts h3 (c := 1) rfl hn).mono ?_))
 rintro _ w4 ⟨rfl, h4⟩
 refine ⟨_, rfl, ?_⟩
 refine RegI.p 1 [(2, .slice A3 out.length out.length)] ?_
 refine RegI.d ?_
 refine RunsI.t (.slice A3 out.length out.length) ?_
 have hs := sortB_perm_eq Prod.fst hp ((distB_iff.1 (by rw [sortR, Bool.and_eq_true] at hc; exact hc.2.1)))
 have hlen : (sortB Prod.fst kvs).length = out.length := by rw [(sortB_perm Prod.fst kvs).length_eq, hp.length_eq]
 have h5 := h4.release 1 rfl
 rw [hs] at h5
 have h6 := h5.pick [1] (by decide)
 have h7 : Sl Rc w4 (Mset M0 [sl Rc (.slice A3 out.length c3) (sortB Prod.fst kvs)]) (.slice A3 (sortB Prod.fst kvs).length c3) (sortB Prod.fst kvs) := by rw [hlen]; exact h6.get 0 rfl
 have h8 := Sl.recap h7
 refine ⟨A3, (sortB Prod.fst kvs).length, by rw [hlen], ?_⟩
 have h9 := h6.turn 0 (c' := sl Rc (.slice A3 (sortB Prod.fst kvs).length (sortB Prod.fst kvs).length) (sortB Prod.fst kvs)) rfl h6.below (Nat.le_refl _) (fun _ _ _ => rfl) (fun b hb => by simp [sl] at hb) (by simp [sl]) (fun hM => Sl.keep (Nat.le_refl _) (fun _ _ _ => rfl) hM h8)
 exact h9


/-! ### charabanc/cells.Load (function 40) -/
section
def cells_Load_40.post (M0 : Nat → Prop) (w0 : World) (r : (List (Int × Int))) : Ending → World → Prop := fun e w => ∃ (A1 : Option Addr) (c1 : Nat), e = .returned (.slice A1 r.length c1) ∧ Holds M0 w0 w [sl (Rp.pair (Rp.int .u16) (Rp.int .u8)) (.slice A1 r.length c1) r]
def cells_Load_40.l0 (K : Nat) (p0 : List (Int × Int)) (p1 : Int) (p2 : List Int) : Nat → (List (Int × Int)) → Int → Option (List (Int × Int))
 | 0, _, _ => none
 | k + 1, t7, t8 => cond (decide (t8 < (p0.length : Int))) (cond (inR t8 p0.length) (Let (fun (t31 : (List (Int × Int))) => cells_Load_40.l0 K p0 p1 p2 k t31 (IntKind.wrap .i64 (t8 + 1))) (fun j34 => cond (((rdD p0 t8).2) == 0) (j34 (delK t7 ((rdD p0 t8).1))) (j34 (insK t7 ((rdD p0 t8).1) ((rdD p0 t8).2))))) none) (some t7)
set_option maxRecDepth 100000 in
theorem cells_Load_40.l0_ok (K : Nat) (M0 : Nat → Prop) (w0 : World) (pA0 : Option Addr) (pc0 : Nat) (pA2 : Option Addr) (pc2 : Nat) (p0 : List (Int × Int)) (p1 : Int) (p2 : List Int) (b6 : Nat) (R : Ending → World → Prop) (x : (List (Int × Int))) (hk0 : ∀ (t37 : List (Int × Int)) (w1 : World), x = t37 → Holds M0 w0 w1 [mp (ekI .u16) (fun (x : Int) => Value.int .u8 x) b6 t37, sl (Rp.int .u8) (.slice pA2 p2.length pc2) p2] → RunsI F73 [.c 21] [(3, .map (some b6))] w1 R) :
  ∀ (k : Nat) (t7 : List (Int × Int)) (t8 : Int) (w : World), cells_Load_40.l0 K p0 p1 p2 k t7 t8 = some x → Holds M0 w0 w [mp (ekI .u16) (fun (x : Int) => Value.int .u8 x) b6 t7, sl (Rp.pair (Rp.int .u16) (Rp.int .u8)) (.slice pA0 p0.length pc0) p0, sl (Rp.int .u8) (.slice pA2 p2.length pc2) p2] → RunsI F73 [.c 9, .lp 9, .blk 0, .c 21] [(3, .map (some b6)), (7, .slice pA0 p0.length pc0), (8, .int .i64 (p0.length : Int)), (9, .int .i64 t8)] w R := by
 intro k
 induction k with
 | zero => intro t7 t8 w h hH; exact absurd h (by simp [cells_Load_40.l0])
 | succ k ih =>
  intro t7 t8 w h hH
  rw [cells_Load_40.l0.eq_2] at h
  refine RunsI.g 1 [.c 10, .c 11, .lp 9, .blk 0, .c 21] ?_
  refine RunsI.r ?_
  refine RegI.p 1 [(3, .map (some b6)), (7, .slice pA0 p0.length pc0), (8, .int .i64 (p0.length : Int)), (9, .int .i64 t8), (10, .bool (decide (t8 < (p0.length : Int))))] ?_
  refine RegI.d ?_
  refine RunsI.g 1 [.c 12, .c 15, .lp 9, .blk 0, .c 21] ?_
  rcases of_cond h with ⟨hc9, h⟩ | ⟨hc9, h⟩
  ·skip
   refine RunsI.f 10 true hc9 ?_
   refine RunsI.b true 13 ?_
   refine RunsI.g 1 [.c 15, .lp 9, .blk 0, .c 21] ?_
   refine RunsI.g 3 [.c 18, .c 19, .blk 1, .c 20, .lp 9, .blk 0, .c 21] ?_
   refine RunsI.r ?_
   obtain ⟨hc10, h⟩ := of_cond0 h
   refine RegI.o (OpE.idxSl 11 1 41 t8 hH (by kernel_rfl) rfl (by kernel_rfl) (by kernel_rfl) hc10 ?_)
   intro b11 o12 cs13 hk14 h15
   obtain ⟨_, _, rfl, rfl, rfl⟩ := hk14
   refine RegI.o (OpE.loadCel 12 3 85 b11 o12 0 (.agg #[.int .u16 ((rdD p0 t8).1), .int .u8 ((rdD p0 t8).2)]) h15 (by kernel_rfl) (by kernel_rfl) rfl (by kernel_rfl) ?_)
   refine RegI.o (OpE.box 5 85 [.int .u16 0, .int .u8 0] h15 (by kernel_rfl) (by kernel_rfl) ?_)
   intro w16 b17 h18 hb19 hn20
   refine RegI.o (OpE.storeBox 4 85 b17 0 (.agg #[.int .u16 ((rdD p0 t8).1), .int .u8 ((rdD p0 t8).2)]) [.int .u16 ((rdD p0 t8).1), .int .u8 ((rdD p0 t8).2)] h18 (by kernel_rfl) (by kernel_rfl) rfl (by kernel_rfl) (by kernel_rfl) (by kernel_rfl) ?_)
   intro w21 h22 hk23
   refine RegI.d ?_
   refine RunsI.r ?_
   refine RegI.p 2 [(3, .map (some b6)), (5, .pointer (some ⟨b17, 0, none⟩)), (7, .slice pA0 p0.length pc0), (8, .int .i64 (p0.length : Int)), (9, .int .i64 t8), (13, .map (some b6)), (14, .pointer (some ⟨b17, 0, none⟩))] ?_
   refine RegI.o (OpE.loadBox 15 4 22 b17 0 (.int .u16 ((rdD p0 t8).1)) h22 (by kernel_rfl) (by kernel_rfl) rfl (by kernel_rfl) ?_)
   refine RegI.p 1 [(3, .map (some b6)), (7, .slice pA0 p0.length pc0), (8, .int .i64 (p0.length : Int)), (9, .int .i64 t8), (13, .map (some b6)), (15, .int .u16 ((rdD p0 t8).1)), (16, .pointer (some ⟨b17, 1, none⟩))] ?_
   refine RegI.o (OpE.loadBox 17 4 5 b17 1 (.int .u8 ((rdD p0 t8).2)) h22 (by kernel_rfl) (by kernel_rfl) rfl (by kernel_rfl) ?_)
   refine RegI.enter 18 [3, 7, 8, 9] [(3, .map (some b6)), (7, .slice pA0 p0.length pc0), (8, .int .i64 (p0.length : Int)), (9, .int .i64 t8)] (by kernel_rfl) (by kernel_rfl) (by kernel_rfl) (by kernel_rfl) F74 74 rfl [.map (some b6), .int .u16 ((rdD p0 t8).1), .int .u8 ((rdD p0 t8).2)] (by kernel_rfl) (by kernel_rfl) ?_
   obtain ⟨j34, hJ35, h⟩ := of_let h
   have hj36 : ∀ (t31 : List (Int × Int)) (w33 : World), j34 t31 = some x → Holds M0 w0 w33 [mp (ekI .u16) (fun (x : Int) => Value.int .u8 x) b6 t31, sl (Rp.pair (Rp.int .u16) (Rp.int .u8)) (.slice pA0 p0.length pc0) p0, sl (Rp.int .u8) (.slice pA2 p2.length pc2) p2] → RegI F73 19 [.blk 1, .c 20, .lp 9, .blk 0, .c 21] 6 [(3, .map (some b6)), (7, .slice pA0 p0.length pc0), (8, .int .i64 (p0.length : Int)), (9, .int .i64 t8)] w33 R := by
    intro t31 w33 h h32
    rw [hJ35] at h
    clear hJ35
    dsimp only at h
    refine RegI.d ?_
    refine RunsI.g 1 [.c 20, .lp 9, .blk 0, .c 21] ?_
    refine RunsI.r ?_
    refine RegI.p 2 [(3, .map (some b6)), (7, .slice pA0 p0.length pc0), (8, .int .i64 (p0.length : Int)), (9, .int .i64 (IntKind.wrap .i64 (t8 + 1)))] ?_
    refine RegI.d ?_
    refine RunsI.g 1 [.c 9, .lp 9, .blk 0, .c 21] ?_
    refine RunsI.l [3, 7, 8, 9] [(3, .map (some b6)), (7, .slice pA0 p0.length pc0), (8, .int .i64 (p0.length : Int)), (9, .int .i64 (IntKind.wrap .i64 (t8 + 1)))] ?_
    exact ih t31 (IntKind.wrap .i64 (t8 + 1)) w33 h (h32.pick [0, 1, 2] (by decide))
   clear hJ35
   refine RunsI.g 2 [.c 2, .c 3, .c 8] ?_
   refine RunsI.r ?_
   refine RegI.p 2 [(0, .map (some b6)), (1, .int .u16 ((rdD p0 t8).1)), (2, .int .u8 ((rdD p0 t8).2)), (7, .bool (((rdD p0 t8).2) == 0))] ?_
   refine RegI.d ?_
   rcases of_cond h with ⟨hc24, h⟩ | ⟨hc24, h⟩
   ·skip
    refine RunsI.f 7 true hc24 ?_
    refine RunsI.b true 4 ?_
    refine RunsI.g 1 [.c 5, .c 6, .c 8] ?_
    refine RunsI.r ?_
    refine RegI.p 2 [(8, .map (some b6)), (9, .int .u16 ((rdD p0 t8).1))] ?_
    refine RegI.o (OpE.mapDel (ek := (ekI .u16)) (ev := (fun (x : Int) => Value.int .u8 x)) 0 110 22 5 [22] ((rdD p0 t8).1) h22 (by kernel_rfl) rfl (by kernel_rfl) rfl (by kernel_rfl) (KeyOk.int .u16 (by kernel_rfl)) (delK t7 ((rdD p0 t8).1)) rfl ?_)
    intro w25 h26 hk27
    refine RegI.d ?_
    refine RunsI.t (.tuple #[]) ?_
    refine cont_mk ?_
    refine RegI.l [3, 7, 8, 9] [(3, .map (some b6)), (7, .slice pA0 p0.length pc0), (8, .int .i64 (p0.length : Int)), (9, .int .i64 t8)] ?_
    exact hj36 (delK t7 ((rdD p0 t8).1)) w25 h (h26.pick [0, 1, 2] (by decide))
   ·skip
    refine RunsI.f 7 false hc24 ?_
    refine RunsI.b false 7 ?_
    refine RunsI.g 1 [.c 8] ?_
    refine RunsI.r ?_
    refine RegI.p 3 [(10, .map (some b6)), (11, .int .u16 ((rdD p0 t8).1)), (12, .int .u8 ((rdD p0 t8).2))] ?_
    refine RegI.o (OpE.mapSet (ek := (ekI .u16)) (ev := (fun (x : Int) => Value.int .u8 x)) 0 110 22 5 ((rdD p0 t8).1) ((rdD p0 t8).2) h22 (by kernel_rfl) rfl (by kernel_rfl) rfl rfl (by kernel_rfl) (KeyOk.int .u16 (by kernel_rfl)) (insK t7 ((rdD p0 t8).1) ((rdD p0 t8).2)) rfl ?_)
    intro w28 h29 hk30
    refine RegI.d ?_
    refine RunsI.t (.tuple #[]) ?_
    refine cont_mk ?_
    refine RegI.l [3, 7, 8, 9] [(3, .map (some b6)), (7, .slice pA0 p0.length pc0), (8, .int .i64 (p0.length : Int)), (9, .int .i64 t8)] ?_
    exact hj36 (insK t7 ((rdD p0 t8).1) ((rdD p0 t8).2)) w28 h (h29.pick [0, 1, 2] (by decide))
  ·skip
   refine RunsI.f 10 false hc9 ?_
   refine RunsI.b false 14 ?_
   refine RunsI.g 1 [.c 21] ?_
   refine RunsI.l [3] [(3, .map (some b6))] ?_
   exact hk0 t7 w (Option.some.inj h).symm (hH.pick [0, 2] (by decide))
def cells_Load_40.l1 (K : Nat) (p0 : List (Int × Int)) (p1 : Int) (p2 : List Int) : Nat → Int → (List (Int × Int)) → Int → Option (List (Int × Int))
 | 0, _, _, _ => none
 | k + 1, t43, t45, t46 => cond (decide (t46 < (p2.length : Int))) (cond (inR t46 p2.length) (Let (fun (t61 : (List (Int × Int))) => cells_Load_40.l1 K p0 p1 p2 k (IntKind.wrap .u16 (t43 + 1)) t61 (IntKind.wrap .i64 (t46 + 1))) (fun j64 => cond ((rdD p2 t46) == 0) (j64 (delK t45 t43)) (j64 (insK t45 t43 (rdD p2 t46))))) none) (some t45)
set_option maxRecDepth 100000 in
theorem cells_Load_40.l1_ok (K : Nat) (M0 : Nat → Prop) (w0 : World) (pA0 : Option Addr) (pc0 : Nat) (pA2 : Option Addr) (pc2 : Nat) (p0 : List (Int × Int)) (p1 : Int) (p2 : List Int) (b44 : Nat) (R : Ending → World → Prop) (x : (List (Int × Int))) (hk0 : ∀ (t67 : List (Int × Int)) (w1 : World), x = t67 → Holds M0 w0 w1 [mp (ekI .u16) (fun (x : Int) => Value.int .u8 x) b44 t67] → RunsI F40 [.c 23] [(7, .map (some b44))] w1 R) :
  ∀ (k : Nat) (t43 : Int) (t45 : List (Int × Int)) (t46 : Int) (w : World), cells_Load_40.l1 K p0 p1 p2 k t43 t45 t46 = some x → Holds M0 w0 w [mp (ekI .u16) (fun (x : Int) => Value.int .u8 x) b44 t45, sl (Rp.int .u8) (.slice pA2 p2.length pc2) p2] → RunsI F40 [.c 9, .lp 9, .blk 0, .c 23] [(1, .int .u16 t43), (7, .map (some b44)), (12, .slice pA2 p2.length pc2), (13, .int .i64 (p2.length : Int)), (14, .int .i64 t46)] w R := by
 intro k
 induction k with
 | zero => intro t43 t45 t46 w h hH; exact absurd h (by simp [cells_Load_40.l1])
 | succ k ih =>
  intro t43 t45 t46 w h hH
  rw [cells_Load_40.l1.eq_2] at h
  refine RunsI.g 1 [.c 10, .c 11, .lp 9, .blk 0, .c 23] ?_
  refine RunsI.r ?_
  refine RegI.p 1 [(1, .int .u16 t43), (7, .map (some b44)), (12, .slice pA2 p2.length pc2), (13, .int .i64 (p2.length : Int)), (14, .int .i64 t46), (15, .bool (decide (t46 < (p2.length : Int))))] ?_
  refine RegI.d ?_
  refine RunsI.g 1 [.c 12, .c 15, .lp 9, .blk 0, .c 23] ?_
  rcases of_cond h with ⟨hc47, h⟩ | ⟨hc47, h⟩
  ·skip
   refine RunsI.f 15 true hc47 ?_
   refine RunsI.b true 13 ?_
   refine RunsI.g 1 [.c 15, .lp 9, .blk 0, .c 23] ?_
   refine RunsI.g 3 [.c 18, .c 19, .blk 1, .c 22, .lp 9, .blk 0, .c 23] ?_
   refine RunsI.r ?_
   obtain ⟨hc48, h⟩ := of_cond0 h
   refine RegI.o (OpE.idxSl 16 1 23 t46 hH (by kernel_rfl) rfl (by kernel_rfl) (by kernel_rfl) hc48 ?_)
   intro b49 o50 cs51 hk52 h53
   obtain rfl := hk52
   refine RegI.o (OpE.loadCel 17 2 5 b49 o50 0 (.int .u8 (rdD p2 t46)) h53 (by kernel_rfl) (by kernel_rfl) rfl (by kernel_rfl) ?_)
   refine RegI.p 1 [(1, .int .u16 t43), (7, .map (some b44)), (9, .int .u8 (rdD p2 t46)), (12, .slice pA2 p2.length pc2), (13, .int .i64 (p2.length : Int)), (14, .int .i64 t46)] ?_
   refine RegI.d ?_
   refine RunsI.g 1 [.c 20, .c 21, .blk 1, .c 22, .lp 9, .blk 0, .c 23] ?_
   refine RunsI.r ?_
   refine RegI.p 3 [(1, .int .u16 t43), (7, .map (some b44)), (12, .slice pA2 p2.length pc2), (13, .int .i64 (p2.length : Int)), (14, .int .i64 t46), (18, .map (some b44)), (19, .int .u16 t43), (20, .int .u8 (rdD p2 t46))] ?_
   refine RegI.enter 21 [1, 7, 12, 13, 14] [(1, .int .u16 t43), (7, .map (some b44)), (12, .slice pA2 p2.length pc2), (13, .int .i64 (p2.length : Int)), (14, .int .i64 t46)] (by kernel_rfl) (by kernel_rfl) (by kernel_rfl) (by kernel_rfl) F74 74 rfl [.map (some b44), .int .u16 t43, .int .u8 (rdD p2 t46)] (by kernel_rfl) (by kernel_rfl) ?_
   obtain ⟨j64, hJ65, h⟩ := of_let h
   have hj66 : ∀ (t61 : List (Int × Int)) (w63 : World), j64 t61 = some x → Holds M0 w0 w63 [mp (ekI .u16) (fun (x : Int) => Value.int .u8 x) b44 t61, sl (Rp.int .u8) (.slice pA2 p2.length pc2) p2] → RegI F40 20 [.c 21, .blk 1, .c 22, .lp 9, .blk 0, .c 23] 4 [(1, .int .u16 t43), (7, .map (some b44)), (12, .slice pA2 p2.length pc2), (13, .int .i64 (p2.length : Int)), (14, .int .i64 t46)] w63 R := by
    intro t61 w63 h h62
    rw [hJ65] at h
    clear hJ65
    dsimp only at h
    refine RegI.d ?_
    refine RunsI.r ?_
    refine RegI.p 3 [(1, .int .u16 (IntKind.wrap .u16 (t43 + 1))), (7, .map (some b44)), (12, .slice pA2 p2.length pc2), (13, .int .i64 (p2.length : Int)), (14, .int .i64 t46)] ?_
    refine RegI.d ?_
    refine RunsI.g 1 [.c 22, .lp 9, .blk 0, .c 23] ?_
    refine RunsI.r ?_
    refine RegI.p 2 [(1, .int .u16 (IntKind.wrap .u16 (t43 + 1))), (7, .map (some b44)), (12, .slice pA2 p2.length pc2), (13, .int .i64 (p2.length : Int)), (14, .int .i64 (IntKind.wrap .i64 (t46 + 1)))] ?_
    refine RegI.d ?_
    refine RunsI.g 1 [.c 9, .lp 9, .blk 0, .c 23] ?_
    refine RunsI.l [1, 7, 12, 13, 14] [(1, .int .u16 (IntKind.wrap .u16 (t43 + 1))), (7, .map (some b44)), (12, .slice pA2 p2.length pc2), (13, .int .i64 (p2.length : Int)), (14, .int .i64 (IntKind.wrap .i64 (t46 + 1)))] ?_
    exact ih (IntKind.wrap .u16 (t43 + 1)) t61 (IntKind.wrap .i64 (t46 + 1)) w63 h (h62.pick [0, 1] (by decide))
   clear hJ65
   refine RunsI.g 2 [.c 2, .c 3, .c 8] ?_
   refine RunsI.r ?_
   refine RegI.p 2 [(0, .map (some b44)), (1, .int .u16 t43), (2, .int .u8 (rdD p2 t46)), (7, .bool ((rdD p2 t46) == 0))] ?_
   refine RegI.d ?_
   rcases of_cond h with ⟨hc54, h⟩ | ⟨hc54, h⟩
   ·skip
    refine RunsI.f 7 true hc54 ?_
    refine RunsI.b true 4 ?_
    refine RunsI.g 1 [.c 5, .c 6, .c 8] ?_
    refine RunsI.r ?_
    refine RegI.p 2 [(8, .map (some b44)), (9, .int .u16 t43)] ?_
    refine RegI.o (OpE.mapDel (ek := (ekI .u16)) (ev := (fun (x : Int) => Value.int .u8 x)) 0 110 22 5 [22] t43 h53 (by kernel_rfl) rfl (by kernel_rfl) rfl (by kernel_rfl) (KeyOk.int .u16 (by kernel_rfl)) (delK t45 t43) rfl ?_)
    intro w55 h56 hk57
    refine RegI.d ?_
    refine RunsI.t (.tuple #[]) ?_
    refine cont_mk ?_
    refine RegI.l [1, 7, 12, 13, 14] [(1, .int .u16 t43), (7, .map (some b44)), (12, .slice pA2 p2.length pc2), (13, .int .i64 (p2.length : Int)), (14, .int .i64 t46)] ?_
    exact hj66 (delK t45 t43) w55 h (h56.pick [0, 1] (by decide))
   ·skip
    refine RunsI.f 7 false hc54 ?_
    refine RunsI.b false 7 ?_
    refine RunsI.g 1 [.c 8] ?_
    refine RunsI.r ?_
    refine RegI.p 3 [(10, .map (some b44)), (11, .int .u16 t43), (12, .int .u8 (rdD p2 t46))] ?_
    refine RegI.o (OpE.mapSet (ek := (ekI .u16)) (ev := (fun (x : Int) => Value.int .u8 x)) 0 110 22 5 t43 (rdD p2 t46) h53 (by kernel_rfl) rfl (by kernel_rfl) rfl rfl (by kernel_rfl) (KeyOk.int .u16 (by kernel_rfl)) (insK t45 t43 (rdD p2 t46)) rfl ?_)
    intro w58 h59 hk60
    refine RegI.d ?_
    refine RunsI.t (.tuple #[]) ?_
    refine cont_mk ?_
    refine RegI.l [1, 7, 12, 13, 14] [(1, .int .u16 t43), (7, .map (some b44)), (12, .slice pA2 p2.length pc2), (13, .int .i64 (p2.length : Int)), (14, .int .i64 t46)] ?_
    exact hj66 (insK t45 t43 (rdD p2 t46)) w58 h (h59.pick [0, 1] (by decide))
  ·skip
   refine RunsI.f 15 false hc47 ?_
   refine RunsI.b false 14 ?_
   refine RunsI.g 1 [.c 23] ?_
   refine RunsI.l [7] [(7, .map (some b44))] ?_
   exact hk0 t45 w (Option.some.inj h).symm (hH.pick [0] (by decide))
def cells_Load_40.f (K : Nat) (p0 : List (Int × Int)) (p1 : Int) (p2 : List Int) : Option (List (Int × Int)) := (cells_Load_40.l0 K p0 p1 p2 K ([] : List (Int × Int)) 0).bind (fun t40 => (cells_Load_40.l1 K p0 p1 p2 K p1 t40 0).bind (fun t70 => (cells_memory_told_75.f K t70).bind fun t78 => some t78))
set_option maxRecDepth 100000 in
theorem cells_Load_40_ok (K : Nat) (M0 : Nat → Prop) (w0 : World) (pA0 : Option Addr) (pc0 : Nat) (pA2 : Option Addr) (pc2 : Nat) (p0 : List (Int × Int)) (p1 : Int) (p2 : List Int) (ho : ∀ b, M0 b → b < w0.heap.size) (hs0 : Sl (Rp.pair (Rp.int .u16) (Rp.int .u8)) w0 M0 (.slice pA0 p0.length pc0) p0) (hs2 : Sl (Rp.int .u8) w0 M0 (.slice pA2 p2.length pc2) p2) {r : (List (Int × Int))} (h : cells_Load_40.f K p0 p1 p2 = some r) :
  Calls Tryd.prog 40 #[.slice pA0 p0.length pc0, .int .u16 p1, .slice pA2 p2.length pc2] w0 (cells_Load_40.post M0 w0 r) := by
 unfold cells_Load_40.f at h
 have h0 : Holds M0 w0 w0 [] := Holds.start ho
 have h00 := h0.addSl (Rp.pair (Rp.int .u16) (Rp.int .u8)) (.slice pA0 p0.length pc0) p0 (hs0.mono (fun _ _ hm => hm.elim id (fun hm => absurd hm (by simp [mines, sl]))))
 have h02 := h00.addSl (Rp.int .u8) (.slice pA2 p2.length pc2) p2 (hs2.mono (fun _ _ hm => hm.elim id (fun hm => absurd hm (by simp [mines, sl]))))
 have h0 : Holds M0 w0 w0 [sl (Rp.pair (Rp.int .u16) (Rp.int .u8)) (.slice pA0 p0.length pc0) p0, sl (Rp.int .u8) (.slice pA2 p2.length pc2) p2] := h02
 refine calls_of F40 rfl [.slice pA0 p0.length pc0, .int .u16 p1, .slice pA2 p2.length pc2] (by kernel_rfl) ?_
 refine RunsI.g 1 [.c 1, .c 2] ?_
 refine RunsI.r ?_
 refine RegI.p 1 [(0, .slice pA0 p0.length pc0), (1, .int .u16 p1), (2, .slice pA2 p2.length pc2)] ?_
 refine RegI.d ?_
 refine RunsI.g 1 [.c 3, .c 4] ?_
 refine RunsI.r ?_
 refine RegI.p 1 [(1, .int .u16 p1), (2, .slice pA2 p2.length pc2), (10, .slice pA0 p0.length pc0)] ?_
 refine RegI.enter 11 [1, 2] [(1, .int .u16 p1), (2, .slice pA2 p2.length pc2)] (by kernel_rfl) (by kernel_rfl) (by kernel_rfl) (by kernel_rfl) F73 73 rfl [.slice pA0 p0.length pc0] (by kernel_rfl) (by kernel_rfl) ?_
 refine RunsI.g 1 [.c 1, .c 2] ?_
 refine RunsI.r ?_
 refine RegI.p 1 [(0, .slice pA0 p0.length pc0)] ?_
 refine RegI.d ?_
 refine RunsI.g 1 [.c 3, .c 4] ?_
 refine RunsI.r ?_
 refine RegI.o (OpE.makeMap 6 (ekI .u16) (fun (x : Int) => Value.int .u8 x) h0 (by kernel_rfl) (by kernel_rfl) ?_)
 intro w1 b2 h3 hb4 hn5
 refine RegI.p 1 [(0, .slice pA0 p0.length pc0), (3, .map (some b2))] ?_
 refine RegI.d ?_
 refine RunsI.g 2 [.c 6, .c 7, .c 21] ?_
 refine RunsI.r ?_
 refine RegI.p 3 [(3, .map (some b2)), (7, .slice pA0 p0.length pc0), (8, .int .i64 (p0.length : Int)), (9, .int .i64 0)] ?_
 refine RegI.d ?_
 refine RunsI.g 2 [.c 9, .lp 9, .blk 0, .c 21] ?_
 obtain ⟨x38, hx39, h⟩ := of_bind h
 refine RunsI.l [3, 7, 8, 9] [(3, .map (some b2)), (7, .slice pA0 p0.length pc0), (8, .int .i64 (p0.length : Int)), (9, .int .i64 0)] ?_
 refine cells_Load_40.l0_ok K M0 w0 pA0 pc0 pA2 pc2 p0 p1 p2 b2 _ x38 ?_ K ([] : List (Int × Int)) 0 w1 hx39 (h3.pick [2, 0, 1] (by decide))
 ·intro t40 w42 hq83 h41
  (try rw [hq83] at h)
  refine RunsI.g 1 [.c 22, .c 23] ?_
  refine RunsI.r ?_
  refine RegI.p 2 [(2, .map (some b2))] ?_
  refine RegI.d ?_
  refine RunsI.t (.map (some b2)) ?_
  refine cont_mk ?_
  refine RegI.p 1 [(1, .int .u16 p1), (2, .slice pA2 p2.length pc2), (7, .map (some b2))] ?_
  refine RegI.d ?_
  refine RunsI.g 2 [.c 6, .c 7, .c 23] ?_
  refine RunsI.r ?_
  refine RegI.p 3 [(1, .int .u16 p1), (7, .map (some b2)), (12, .slice pA2 p2.length pc2), (13, .int .i64 (p2.length : Int)), (14, .int .i64 0)] ?_
  refine RegI.d ?_
  refine RunsI.g 2 [.c 9, .lp 9, .blk 0, .c 23] ?_
  obtain ⟨x68, hx69, h⟩ := of_bind h
  refine RunsI.l [1, 7, 12, 13, 14] [(1, .int .u16 p1), (7, .map (some b2)), (12, .slice pA2 p2.length pc2), (13, .int .i64 (p2.length : Int)), (14, .int .i64 0)] ?_
  refine cells_Load_40.l1_ok K M0 w0 pA0 pc0 pA2 pc2 p0 p1 p2 b2 _ x68 ?_ K p1 t40 0 w42 hx69 (h41.pick [0, 1] (by decide))
  ·intro t70 w72 hq84 h71
   (try rw [hq84] at h)
   refine RunsI.g 1 [.c 24, .c 25] ?_
   refine RunsI.r ?_
   refine RegI.p 1 [(25, .map (some b2))] ?_
   obtain ⟨t78, hg77, h⟩ := of_bind h
   have h73 := h71.releaseMap 0 rfl
   refine RegI.o (OpE.call 26 (by kernel_rfl) 75 #[.map (some b2)] (by kernel_rfl) ((cells_memory_told_75_ok K _ w72  b2 t70 h73.old' (h73.get 0 rfl) hg77).mono ?_))
   rintro _ w74 ⟨A79, c80, rfl, hr82⟩
   refine ⟨_, rfl, ?_⟩
   have hb75 := hr82.below
   have h76 := h73.join hr82
   refine RegI.p 1 [(6, .slice A79 t78.length c80)] ?_
   refine RegI.d ?_
   refine RunsI.t (.slice A79 t78.length c80) ?_
   obtain rfl := Option.some.inj h
   exact ⟨A79, c80, rfl, h76.pick [1] (by decide)⟩
end

/-! ### charabanc/hexfile.Read (function 19) -/
section
def hexfile_Read_19.post (M0 : Nat → Prop) (w0 : World) (r : (List (Int × Int)) × Int × Int) : Ending → World → Prop := fun e w => ∃ (A1 : Option Addr) (c1 : Nat), e = .returned (.tuple #[.slice A1 r.1.length c1, .int .i64 r.2.1, .int .i64 r.2.2]) ∧ Holds M0 w0 w [sl (Rp.pair (Rp.int .u16) (Rp.int .u8)) (.slice A1 r.1.length c1) r.1]
def hexfile_Read_19.l0 (K : Nat) (p0 : ByteArray) (t14 : Int) : Nat → ByteArray → (List ByteArray) → Int → Option (ByteArray × (List ByteArray) × Int)
 | 0, _, _, _ => none
 | k + 1, t13, t17, t18 => cond (decide (t18 < t14)) ((strings_Index_110.f K t13 (⟨#[10]⟩ : ByteArray)).bind fun t24 => cond (decide (t24 < 0)) (some (t13, t17, t18)) (cond (cutR 0 (IntKind.wrap .i64 (t24 + 0)) t13.size) (cond (inR t18 t17.length) (cond (cutR (IntKind.wrap .i64 (t24 + ((⟨#[10]⟩ : ByteArray).size : Int))) (t13.size : Int) t13.size) (hexfile_Read_19.l0 K p0 t14 k (strCut t13 (IntKind.wrap .i64 (t24 + ((⟨#[10]⟩ : ByteArray).size : Int))) (t13.size : Int)) (stD t17 t18 (strCut t13 0 (IntKind.wrap .i64 (t24 + 0)))) (IntKind.wrap .i64 (t18 + 1))) none) none) none)) (some (t13, t17, t18))
set_option maxRecDepth 100000 in
theorem hexfile_Read_19.l0_ok (K : Nat) (M0 : Nat → Prop) (w0 : World) (p0 : ByteArray) (t14 : Int) (A15 : Option Addr) (c16 : Nat) (R : Ending → World → Prop) (x : ByteArray × (List ByteArray) × Int) (hk0 : ∀ (t33 : ByteArray) (t34 : List ByteArray) (t35 : Int) (w1 : World), x = (t33, t34, t35) → Holds M0 w0 w1 [own Rp.str 9 (.slice A15 t34.length c16) t34] → RunsI F72 [.c 55] [(0, .string t33), (9, .slice A15 t34.length c16), (10, .int .i64 t35)] w1 R) :
  ∀ (k : Nat) (t13 : ByteArray) (t17 : List ByteArray) (t18 : Int) (w : World), hexfile_Read_19.l0 K p0 t14 k t13 t17 t18 = some x → Holds M0 w0 w [own Rp.str 9 (.slice A15 t17.length c16) t17] → RunsI F72 [.c 35, .lp 35, .blk 0, .c 55] [(0, .string t13), (1, .string (⟨#[10]⟩ : ByteArray)), (2, .int .i64 0), (3, .int .i64 t14), (9, .slice A15 t17.length c16), (10, .int .i64 t18)] w R := by
 intro k
 induction k with
 | zero => intro t13 t17 t18 w h hH; exact absurd h (by simp [hexfile_Read_19.l0])
 | succ k ih =>
  intro t13 t17 t18 w h hH
  rw [hexfile_Read_19.l0.eq_2] at h
  refine RunsI.g 1 [.c 36, .c 41, .lp 35, .blk 0, .c 55] ?_
  refine RunsI.g 1 [.c 37, .c 38, .c 41, .lp 35, .blk 0, .c 55] ?_
  refine RunsI.r ?_
  refine RegI.p 3 [(0, .string t13), (1, .string (⟨#[10]⟩ : ByteArray)), (2, .int .i64 0), (3, .int .i64 t14), (9, .slice A15 t17.length c16), (10, .int .i64 t18), (36, .bool (decide (t18 < t14)))] ?_
  refine RegI.d ?_
  rcases of_cond h with ⟨hc19, h⟩ | ⟨hc19, h⟩
  ·skip
   refine RunsI.f 36 true hc19 ?_
   refine RunsI.b true 39 ?_
   refine RunsI.g 1 [.c 41, .lp 35, .blk 0, .c 55] ?_
   refine RunsI.g 2 [.c 43, .c 44, .blk 1, .lp 35, .blk 0, .c 55] ?_
   refine RunsI.r ?_
   refine RegI.p 2 [(0, .string t13), (1, .string (⟨#[10]⟩ : ByteArray)), (2, .int .i64 0), (3, .int .i64 t14), (9, .slice A15 t17.length c16), (10, .int .i64 t18), (37, .string t13), (38, .string (⟨#[10]⟩ : ByteArray))] ?_
   obtain ⟨t24, hg23, h⟩ := of_bind h
   refine RegI.o (OpE.call 39 (by kernel_rfl) 110 #[.string t13, .string (⟨#[10]⟩ : ByteArray)] (by kernel_rfl) ((strings_Index_110_ok K _ w  t13 (⟨#[10]⟩ : ByteArray) hH.old' hg23).mono ?_))
   rintro _ w20 ⟨rfl, hb21⟩
   refine ⟨_, rfl, ?_⟩
   have h22 := hH.call hb21
   refine RegI.p 1 [(0, .string t13), (1, .string (⟨#[10]⟩ : ByteArray)), (2, .int .i64 0), (3, .int .i64 t14), (9, .slice A15 t17.length c16), (10, .int .i64 t18), (11, .int .i64 t24)] ?_
   refine RegI.d ?_
   refine RunsI.g 2 [.c 46, .c 47, .c 50, .blk 1, .lp 35, .blk 0, .c 55] ?_
   refine RunsI.r ?_
   refine RegI.p 2 [(0, .string t13), (1, .string (⟨#[10]⟩ : ByteArray)), (2, .int .i64 0), (3, .int .i64 t14), (9, .slice A15 t17.length c16), (10, .int .i64 t18), (11, .int .i64 t24), (41, .bool (decide (t24 < 0)))] ?_
   refine RegI.d ?_
   rcases of_cond h with ⟨hc25, h⟩ | ⟨hc25, h⟩
   ·skip
    refine RunsI.f 41 true hc25 ?_
    refine RunsI.b true 48 ?_
    refine RunsI.g 1 [.c 55] ?_
    refine RunsI.l [0, 9, 10] [(0, .string t13), (9, .slice A15 t17.length c16), (10, .int .i64 t18)] ?_
    exact hk0 t13 t17 t18 w20 (Option.some.inj h).symm (h22.pick [0] (by decide))
   ·skip
    refine RunsI.f 41 false hc25 ?_
    refine RunsI.b false 49 ?_
    refine RunsI.g 1 [.c 50, .blk 1, .lp 35, .blk 0, .c 55] ?_
    refine RunsI.g 1 [.c 51, .c 52, .blk 1, .lp 35, .blk 0, .c 55] ?_
    refine RunsI.r ?_
    refine RegI.p 6 [(0, .string t13), (1, .string (⟨#[10]⟩ : ByteArray)), (2, .int .i64 0), (3, .int .i64 t14), (9, .slice A15 t17.length c16), (10, .int .i64 t18), (11, .int .i64 t24), (42, .slice A15 t17.length c16), (43, .int .i64 t18), (44, .string t13), (47, .int .i64 (IntKind.wrap .i64 (t24 + 0)))] ?_
    obtain ⟨hc26, h⟩ := of_cond0 h
    refine RegI.o (OpE.run 48 (by kernel_rfl) (run_strCut (T := 9) (s := t13) (lo := none) (hi := (some (IntKind.wrap .i64 (t24 + 0)))) (by kernel_rfl) (by kernel_rfl) hc26) ?_)
    obtain ⟨hc27, h⟩ := of_cond0 h
    refine RegI.o (OpE.idxOwnA 49 0 55 9 t18 h22 (by kernel_rfl) rfl (by kernel_rfl) (by kernel_rfl) hc27 ?_)
    refine RegI.o (OpE.storeOwnA 0 9 9 t18 0 (.string (strCut t13 0 (IntKind.wrap .i64 (t24 + 0)))) (o := (Int.toNat t18) * 1 + 0) (strCut t13 0 (IntKind.wrap .i64 (t24 + 0))) h22 (by kernel_rfl) (by kernel_rfl) rfl (by kernel_rfl) (by kernel_rfl) (by kernel_rfl) hc27 (fun _ hk => by obtain rfl := hk; exact rfl) ?_)
    intro w28 h29 hk30
    refine RegI.d ?_
    refine RunsI.g 1 [.c 53, .c 54, .blk 1, .lp 35, .blk 0, .c 55] ?_
    refine RunsI.r ?_
    refine RegI.p 5 [(1, .string (⟨#[10]⟩ : ByteArray)), (2, .int .i64 0), (3, .int .i64 t14), (9, .slice A15 t17.length c16), (10, .int .i64 t18), (50, .string t13), (54, .int .i64 (IntKind.wrap .i64 (t24 + ((⟨#[10]⟩ : ByteArray).size : Int))))] ?_
    obtain ⟨hc31, h⟩ := of_cond0 h
    refine RegI.o (OpE.run 55 (by kernel_rfl) (run_strCut (T := 9) (s := t13) (lo := (some (IntKind.wrap .i64 (t24 + ((⟨#[10]⟩ : ByteArray).size : Int))))) (hi := none) (by kernel_rfl) (by kernel_rfl) hc31) ?_)
    refine RegI.p 1 [(0, .string (strCut t13 (IntKind.wrap .i64 (t24 + ((⟨#[10]⟩ : ByteArray).size : Int))) (t13.size : Int))), (1, .string (⟨#[10]⟩ : ByteArray)), (2, .int .i64 0), (3, .int .i64 t14), (9, .slice A15 t17.length c16), (10, .int .i64 t18)] ?_
    refine RegI.d ?_
    refine RunsI.r ?_
    refine RegI.p 3 [(0, .string (strCut t13 (IntKind.wrap .i64 (t24 + ((⟨#[10]⟩ : ByteArray).size : Int))) (t13.size : Int))), (1, .string (⟨#[10]⟩ : ByteArray)), (2, .int .i64 0), (3, .int .i64 t14), (9, .slice A15 t17.length c16), (10, .int .i64 (IntKind.wrap .i64 (t18 + 1)))] ?_
    refine RegI.d ?_
    refine RunsI.g 2 [.c 35, .lp 35, .blk 0, .c 55] ?_
    refine RunsI.l [0, 1, 2, 3, 9, 10] [(0, .string (strCut t13 (IntKind.wrap .i64 (t24 + ((⟨#[10]⟩ : ByteArray).size : Int))) (t13.size : Int))), (1, .string (⟨#[10]⟩ : ByteArray)), (2, .int .i64 0), (3, .int .i64 t14), (9, .slice A15 t17.length c16), (10, .int .i64 (IntKind.wrap .i64 (t18 + 1)))] ?_
    have h32 : Holds M0 w0 w28 [own Rp.str 9 (.slice A15 ((stD t17 t18 (strCut t13 0 (IntKind.wrap .i64 (t24 + 0)))).length) c16) (stD t17 t18 (strCut t13 0 (IntKind.wrap .i64 (t24 + 0))))] := by have hY : Holds M0 w0 w28 [own Rp.str 9 (.slice A15 t17.length c16) (stD t17 t18 (strCut t13 0 (IntKind.wrap .i64 (t24 + 0))))] := h29; simpa only [stD_length] using hY
    refine RunsI.is [(0, .string (strCut t13 (IntKind.wrap .i64 (t24 + ((⟨#[10]⟩ : ByteArray).size : Int))) (t13.size : Int))), (1, .string (⟨#[10]⟩ : ByteArray)), (2, .int .i64 0), (3, .int .i64 t14), (9, .slice A15 ((stD t17 t18 (strCut t13 0 (IntKind.wrap .i64 (t24 + 0)))).length) c16), (10, .int .i64 (IntKind.wrap .i64 (t18 + 1)))] (by simp only [stD_length]) ?_
    refine RunsI.l [0, 1, 2, 3, 9, 10] [(0, .string (strCut t13 (IntKind.wrap .i64 (t24 + ((⟨#[10]⟩ : ByteArray).size : Int))) (t13.size : Int))), (1, .string (⟨#[10]⟩ : ByteArray)), (2, .int .i64 0), (3, .int .i64 t14), (9, .slice A15 ((stD t17 t18 (strCut t13 0 (IntKind.wrap .i64 (t24 + 0)))).length) c16), (10, .int .i64 (IntKind.wrap .i64 (t18 + 1)))] ?_
    exact ih (strCut t13 (IntKind.wrap .i64 (t24 + ((⟨#[10]⟩ : ByteArray).size : Int))) (t13.size : Int)) (stD t17 t18 (strCut t13 0 (IntKind.wrap .i64 (t24 + 0)))) (IntKind.wrap .i64 (t18 + 1)) w28 h (h32.pick [0] (by decide))
  ·skip
   refine RunsI.f 36 false hc19 ?_
   refine RunsI.b false 40 ?_
   refine RunsI.g 1 [.c 55] ?_
   refine RunsI.l [0, 9, 10] [(0, .string t13), (9, .slice A15 t17.length c16), (10, .int .i64 t18)] ?_
   exact hk0 t13 t17 t18 w (Option.some.inj h).symm (hH.pick [0] (by decide))
def hexfile_Read_19.l1 (K : Nat) (p0 : ByteArray) (t58 : List ByteArray) (t59 : Int) : Nat → (List (Int × Int)) → Bool → Int → Option (Lp (Int × Int) ((List (Int × Int)) × Bool))
 | 0, _, _, _ => none
 | k + 1, t54, t55, t60 => cond (decide (t60 < t59)) (cond (inR t60 t58.length) (cond ((ByteArray.toList (rdD t58 t60)) == (ByteArray.toList (⟨#[]⟩ : ByteArray))) (hexfile_Read_19.l1 K p0 t58 t59 k t54 t55 (IntKind.wrap .i64 (t60 + 1))) ((hexfile_Parse_14.f K (rdD t58 t60)).bind fun yt70 => cond (yt70.2.2.2 != 0) (some (Lp.ret (yt70.2.2.2, (IntKind.wrap .i64 (t60 + 1))))) (cond (decide (yt70.1 > 1)) (some (Lp.ret (330, (IntKind.wrap .i64 (t60 + 1))))) (cond t55 (some (Lp.ret (332, (IntKind.wrap .i64 (t60 + 1))))) (cond (yt70.1 == 1) (hexfile_Read_19.l1 K p0 t58 t59 k t54 true (IntKind.wrap .i64 (t60 + 1))) ((cells_Load_40.f K t54 yt70.2.1 yt70.2.2.1).bind fun t94 => hexfile_Read_19.l1 K p0 t58 t59 k t94 t55 (IntKind.wrap .i64 (t60 + 1)))))))) none) (some (Lp.go (t54, t55)))
set_option maxRecDepth 100000 in
theorem hexfile_Read_19.l1_ok (K : Nat) (M0 : Nat → Prop) (w0 : World) (p0 : ByteArray) (t58 : List ByteArray) (t59 : Int) (A56 : Option Addr) (c57 : Nat) (R : Ending → World → Prop) (x : Lp (Int × Int) ((List (Int × Int)) × Bool)) (hk0 : ∀ (t101 : List (Int × Int)) (t102 : Bool) (A99 : Option Addr) (c100 : Nat) (w1 : World), x = Lp.go (t101, t102) → Holds M0 w0 w1 [sl (Rp.pair (Rp.int .u16) (Rp.int .u8)) (.slice A99 t101.length c100) t101, own Rp.str 9 (.slice A56 t58.length c57) t58] → RunsI F19 [.c 64] [(5, .slice A99 t101.length c100), (6, .bool t102), (7, .slice A56 t58.length c57)] w1 R) (hk1 : ∀ (t103 : Int) (t104 : Int) (w1 : World), x = Lp.ret (t103, t104) → Holds M0 w0 w1 [] → R (.returned (.tuple #[.slice none 0 0, .int .i64 t103, .int .i64 t104])) w1) :
  ∀ (k : Nat) (t54 : List (Int × Int)) (t55 : Bool) (t60 : Int) (A52 : Option Addr) (c53 : Nat) (w : World), hexfile_Read_19.l1 K p0 t58 t59 k t54 t55 t60 = some x → Holds M0 w0 w [sl (Rp.pair (Rp.int .u16) (Rp.int .u8)) (.slice A52 t54.length c53) t54, own Rp.str 9 (.slice A56 t58.length c57) t58] → RunsI F19 [.c 21, .lp 21, .blk 0, .c 64] [(5, .slice A52 t54.length c53), (6, .bool t55), (7, .slice A56 t58.length c57), (17, .slice A56 t58.length c57), (18, .int .i64 t59), (19, .int .i64 t60)] w R := by
 intro k
 induction k with
 | zero => intro t54 t55 t60 A52 c53 w h hH; exact absurd h (by simp [hexfile_Read_19.l1])
 | succ k ih =>
  intro t54 t55 t60 A52 c53 w h hH
  rw [hexfile_Read_19.l1.eq_2] at h
  refine RunsI.g 1 [.c 22, .c 23, .lp 21, .blk 0, .c 64] ?_
  refine RunsI.r ?_
  refine RegI.p 1 [(5, .slice A52 t54.length c53), (6, .bool t55), (7, .slice A56 t58.length c57), (17, .slice A56 t58.length c57), (18, .int .i64 t59), (19, .int .i64 t60), (20, .bool (decide (t60 < t59)))] ?_
  refine RegI.d ?_
  refine RunsI.g 1 [.c 24, .c 27, .lp 21, .blk 0, .c 64] ?_
  rcases of_cond h with ⟨hc61, h⟩ | ⟨hc61, h⟩
  ·skip
   refine RunsI.f 20 true hc61 ?_
   refine RunsI.b true 25 ?_
   refine RunsI.g 1 [.c 27, .lp 21, .blk 0, .c 64] ?_
   refine RunsI.g 3 [.c 30, .c 31, .blk 1, .c 63, .lp 21, .blk 0, .c 64] ?_
   refine RunsI.r ?_
   refine RegI.p 1 [(5, .slice A52 t54.length c53), (6, .bool t55), (7, .slice A56 t58.length c57), (17, .slice A56 t58.length c57), (18, .int .i64 t59), (19, .int .i64 t60), (21, .int .i64 t60)] ?_
   obtain ⟨hc62, h⟩ := of_cond0 h
   refine RegI.o (OpE.idxOwnA 22 1 55 9 t60 hH (by kernel_rfl) rfl (by kernel_rfl) (by kernel_rfl) hc62 ?_)
   refine RegI.o (OpE.loadOwnA 23 1 9 9 t60 0 (o := (Int.toNat t60) * 1 + 0) hH (by kernel_rfl) rfl (by kernel_rfl) (by kernel_rfl) hc62 (fun cs63 hk64 => ?_))
   obtain rfl := hk64
   refine ⟨.string (rdD t58 t60), by kernel_rfl, ?_⟩
   refine RegI.p 2 [(5, .slice A52 t54.length c53), (6, .bool t55), (7, .slice A56 t58.length c57), (8, .int .i64 t60), (9, .string (rdD t58 t60)), (17, .slice A56 t58.length c57), (18, .int .i64 t59), (19, .int .i64 t60)] ?_
   refine RegI.d ?_
   refine RunsI.g 2 [.c 33, .c 34, .c 37, .blk 1, .c 63, .lp 21, .blk 0, .c 64] ?_
   refine RunsI.r ?_
   refine RegI.p 2 [(5, .slice A52 t54.length c53), (6, .bool t55), (7, .slice A56 t58.length c57), (8, .int .i64 t60), (9, .string (rdD t58 t60)), (17, .slice A56 t58.length c57), (18, .int .i64 t59), (19, .int .i64 t60), (25, .bool ((ByteArray.toList (rdD t58 t60)) == (ByteArray.toList (⟨#[]⟩ : ByteArray))))] ?_
   refine RegI.d ?_
   rcases of_cond h with ⟨hc65, h⟩ | ⟨hc65, h⟩
   ·skip
    refine RunsI.f 25 true hc65 ?_
    refine RunsI.b true 35 ?_
    refine RunsI.g 1 [.c 63, .lp 21, .blk 0, .c 64] ?_
    refine RunsI.r ?_
    refine RegI.p 2 [(5, .slice A52 t54.length c53), (6, .bool t55), (7, .slice A56 t58.length c57), (17, .slice A56 t58.length c57), (18, .int .i64 t59), (19, .int .i64 (IntKind.wrap .i64 (t60 + 1)))] ?_
    refine RegI.d ?_
    refine RunsI.g 1 [.c 21, .lp 21, .blk 0, .c 64] ?_
    refine RunsI.l [5, 6, 7, 17, 18, 19] [(5, .slice A52 t54.length c53), (6, .bool t55), (7, .slice A56 t58.length c57), (17, .slice A56 t58.length c57), (18, .int .i64 t59), (19, .int .i64 (IntKind.wrap .i64 (t60 + 1)))] ?_
    exact ih t54 t55 (IntKind.wrap .i64 (t60 + 1)) A52 c53 w h (hH.pick [0, 1] (by decide))
   ·skip
    refine RunsI.f 25 false hc65 ?_
    refine RunsI.b false 36 ?_
    refine RunsI.g 1 [.c 37, .blk 1, .c 63, .lp 21, .blk 0, .c 64] ?_
    refine RunsI.g 1 [.c 38, .c 39, .blk 1, .c 63, .lp 21, .blk 0, .c 64] ?_
    refine RunsI.r ?_
    refine RegI.p 1 [(5, .slice A52 t54.length c53), (6, .bool t55), (7, .slice A56 t58.length c57), (8, .int .i64 t60), (17, .slice A56 t58.length c57), (18, .int .i64 t59), (19, .int .i64 t60), (27, .string (rdD t58 t60))] ?_
    obtain ⟨⟨t70, t71, t72, t76⟩, hg69, h⟩ := of_bind h
    dsimp only at h
    refine RegI.o (OpE.call 28 (by kernel_rfl) 14 #[.string (rdD t58 t60)] (by kernel_rfl) ((hexfile_Parse_14_ok K _ w  (rdD t58 t60) hH.old' hg69).mono ?_))
    rintro _ w66 ⟨A73, c74, rfl, hr77⟩
    refine ⟨_, rfl, ?_⟩
    have hb67 := hr77.below
    have h68 := hH.join hr77
    refine RegI.p 3 [(5, .slice A52 t54.length c53), (6, .bool t55), (7, .slice A56 t58.length c57), (8, .int .i64 t60), (17, .slice A56 t58.length c57), (18, .int .i64 t59), (19, .int .i64 t60), (29, .agg #[.int .u8 t70, .int .u16 t71, .slice A73 t72.length c74]), (30, .int .i64 t76)] ?_
    refine RegI.o (OpE.box 10 25 [.int .u8 0, .int .u16 0, .slice none 0 0] h68 (by kernel_rfl) (by kernel_rfl) ?_)
    intro w78 b79 h80 hb81 hn82
    refine RegI.o (OpE.storeBox 3 25 b79 0 (.agg #[.int .u8 t70, .int .u16 t71, .slice A73 t72.length c74]) [.int .u8 t70, .int .u16 t71, .slice A73 t72.length c74] h80 (by kernel_rfl) (by kernel_rfl) rfl (by kernel_rfl) (by kernel_rfl) (by kernel_rfl) ?_)
    intro w83 h84 hk85
    refine RegI.p 1 [(5, .slice A52 t54.length c53), (6, .bool t55), (7, .slice A56 t58.length c57), (8, .int .i64 t60), (10, .pointer (some ⟨b79, 0, none⟩)), (11, .int .i64 t76), (17, .slice A56 t58.length c57), (18, .int .i64 t59), (19, .int .i64 t60)] ?_
    refine RegI.d ?_
    refine RunsI.g 2 [.c 41, .c 42, .blk 2, .blk 1, .c 63, .lp 21, .blk 0, .c 64] ?_
    refine RunsI.r ?_
    refine RegI.p 3 [(5, .slice A52 t54.length c53), (6, .bool t55), (7, .slice A56 t58.length c57), (8, .int .i64 t60), (10, .pointer (some ⟨b79, 0, none⟩)), (11, .int .i64 t76), (17, .slice A56 t58.length c57), (18, .int .i64 t59), (19, .int .i64 t60), (37, .bool (t76 != 0))] ?_
    refine RegI.d ?_
    rcases of_cond h with ⟨hc86, h⟩ | ⟨hc86, h⟩
    ·skip
     refine RunsI.f 37 true hc86 ?_
     refine RunsI.b true 43 ?_
     refine RunsI.g 1 [.c 44, .c 45, .blk 2, .blk 1, .c 63, .lp 21, .blk 0, .c 64] ?_
     refine RunsI.r ?_
     refine RegI.p 6 [(2, .slice none 0 0), (3, .int .i64 t76), (4, .int .i64 (IntKind.wrap .i64 (t60 + 1)))] ?_
     refine RegI.d ?_
     refine RunsI.t (.tuple #[.slice none 0 0, .int .i64 t76, .int .i64 (IntKind.wrap .i64 (t60 + 1))]) ?_
     exact hk1 t76 (IntKind.wrap .i64 (t60 + 1)) w83 (Option.some.inj h).symm (h84.pick [] (by decide))
    ·skip
     refine RunsI.f 37 false hc86 ?_
     refine RunsI.b false 46 ?_
     refine RunsI.g 1 [.c 47, .c 48, .blk 2, .blk 1, .c 63, .lp 21, .blk 0, .c 64] ?_
     refine RunsI.r ?_
     refine RegI.p 1 [(5, .slice A52 t54.length c53), (6, .bool t55), (7, .slice A56 t58.length c57), (8, .int .i64 t60), (10, .pointer (some ⟨b79, 0, none⟩)), (17, .slice A56 t58.length c57), (18, .int .i64 t59), (19, .int .i64 t60), (44, .pointer (some ⟨b79, 0, none⟩))] ?_
     refine RegI.o (OpE.loadBox 45 3 5 b79 0 (.int .u8 t70) h84 (by kernel_rfl) (by kernel_rfl) rfl (by kernel_rfl) ?_)
     refine RegI.p 2 [(5, .slice A52 t54.length c53), (6, .bool t55), (7, .slice A56 t58.length c57), (8, .int .i64 t60), (10, .pointer (some ⟨b79, 0, none⟩)), (17, .slice A56 t58.length c57), (18, .int .i64 t59), (19, .int .i64 t60), (43, .bool (decide (t70 > 1)))] ?_
     refine RegI.d ?_
     rcases of_cond h with ⟨hc87, h⟩ | ⟨hc87, h⟩
     ·skip
      refine RunsI.f 43 true hc87 ?_
      refine RunsI.b true 49 ?_
      refine RunsI.g 1 [.c 50, .c 51, .blk 2, .blk 1, .c 63, .lp 21, .blk 0, .c 64] ?_
      refine RunsI.r ?_
      refine RegI.p 5 [(2, .slice none 0 0), (3, .int .i64 330), (4, .int .i64 (IntKind.wrap .i64 (t60 + 1)))] ?_
      refine RegI.d ?_
      refine RunsI.t (.tuple #[.slice none 0 0, .int .i64 330, .int .i64 (IntKind.wrap .i64 (t60 + 1))]) ?_
      exact hk1 330 (IntKind.wrap .i64 (t60 + 1)) w83 (Option.some.inj h).symm (h84.pick [] (by decide))
     ·skip
      refine RunsI.f 43 false hc87 ?_
      refine RunsI.b false 52 ?_
      refine RunsI.g 1 [.c 53, .c 54, .blk 2, .blk 1, .c 63, .lp 21, .blk 0, .c 64] ?_
      refine RunsI.r ?_
      refine RegI.p 2 [(5, .slice A52 t54.length c53), (6, .bool t55), (7, .slice A56 t58.length c57), (8, .int .i64 t60), (10, .pointer (some ⟨b79, 0, none⟩)), (17, .slice A56 t58.length c57), (18, .int .i64 t59), (19, .int .i64 t60), (49, .bool t55)] ?_
      refine RegI.d ?_
      rcases of_cond h with ⟨hc88, h⟩ | ⟨hc88, h⟩
      ·skip
       refine RunsI.f 49 true hc88 ?_
       refine RunsI.b true 55 ?_
       refine RunsI.g 1 [.c 56, .c 57, .blk 2, .blk 1, .c 63, .lp 21, .blk 0, .c 64] ?_
       refine RunsI.r ?_
       refine RegI.p 5 [(2, .slice none 0 0), (3, .int .i64 332), (4, .int .i64 (IntKind.wrap .i64 (t60 + 1)))] ?_
       refine RegI.d ?_
       refine RunsI.t (.tuple #[.slice none 0 0, .int .i64 332, .int .i64 (IntKind.wrap .i64 (t60 + 1))]) ?_
       exact hk1 332 (IntKind.wrap .i64 (t60 + 1)) w83 (Option.some.inj h).symm (h84.pick [] (by decide))
      ·skip
       refine RunsI.f 49 false hc88 ?_
       refine RunsI.b false 58 ?_
       refine RunsI.g 1 [.c 59, .c 60, .blk 2, .blk 1, .c 63, .lp 21, .blk 0, .c 64] ?_
       refine RunsI.r ?_
       refine RegI.p 1 [(5, .slice A52 t54.length c53), (6, .bool t55), (7, .slice A56 t58.length c57), (10, .pointer (some ⟨b79, 0, none⟩)), (17, .slice A56 t58.length c57), (18, .int .i64 t59), (19, .int .i64 t60), (54, .pointer (some ⟨b79, 0, none⟩))] ?_
       refine RegI.o (OpE.loadBox 55 3 5 b79 0 (.int .u8 t70) h84 (by kernel_rfl) (by kernel_rfl) rfl (by kernel_rfl) ?_)
       refine RegI.p 2 [(5, .slice A52 t54.length c53), (6, .bool t55), (7, .slice A56 t58.length c57), (10, .pointer (some ⟨b79, 0, none⟩)), (17, .slice A56 t58.length c57), (18, .int .i64 t59), (19, .int .i64 t60), (53, .bool (t70 == 1))] ?_
       refine RegI.d ?_
       rcases of_cond h with ⟨hc89, h⟩ | ⟨hc89, h⟩
       ·skip
        refine RunsI.f 53 true hc89 ?_
        refine RunsI.b true 61 ?_
        refine RunsI.r ?_
        refine RegI.p 1 [(5, .slice A52 t54.length c53), (6, .bool true), (7, .slice A56 t58.length c57), (17, .slice A56 t58.length c57), (18, .int .i64 t59), (19, .int .i64 t60)] ?_
        refine RegI.d ?_
        refine RunsI.g 2 [.c 63, .lp 21, .blk 0, .c 64] ?_
        refine RunsI.r ?_
        refine RegI.p 2 [(5, .slice A52 t54.length c53), (6, .bool true), (7, .slice A56 t58.length c57), (17, .slice A56 t58.length c57), (18, .int .i64 t59), (19, .int .i64 (IntKind.wrap .i64 (t60 + 1)))] ?_
        refine RegI.d ?_
        refine RunsI.g 1 [.c 21, .lp 21, .blk 0, .c 64] ?_
        refine RunsI.l [5, 6, 7, 17, 18, 19] [(5, .slice A52 t54.length c53), (6, .bool true), (7, .slice A56 t58.length c57), (17, .slice A56 t58.length c57), (18, .int .i64 t59), (19, .int .i64 (IntKind.wrap .i64 (t60 + 1)))] ?_
        exact ih t54 true (IntKind.wrap .i64 (t60 + 1)) A52 c53 w83 h (h84.pick [0, 1] (by decide))
       ·skip
        refine RunsI.f 53 false hc89 ?_
        refine RunsI.b false 62 ?_
        refine RunsI.r ?_
        refine RegI.p 2 [(6, .bool t55), (7, .slice A56 t58.length c57), (10, .pointer (some ⟨b79, 0, none⟩)), (17, .slice A56 t58.length c57), (18, .int .i64 t59), (19, .int .i64 t60), (31, .slice A52 t54.length c53), (32, .pointer (some ⟨b79, 1, none⟩))] ?_
        refine RegI.o (OpE.loadBox 33 3 22 b79 1 (.int .u16 t71) h84 (by kernel_rfl) (by kernel_rfl) rfl (by kernel_rfl) ?_)
        refine RegI.p 1 [(6, .bool t55), (7, .slice A56 t58.length c57), (17, .slice A56 t58.length c57), (18, .int .i64 t59), (19, .int .i64 t60), (31, .slice A52 t54.length c53), (33, .int .u16 t71), (34, .pointer (some ⟨b79, 2, none⟩))] ?_
        refine RegI.o (OpE.loadBox 35 3 23 b79 2 (.slice A73 t72.length c74) h84 (by kernel_rfl) (by kernel_rfl) rfl (by kernel_rfl) ?_)
        obtain ⟨t94, hg93, h⟩ := of_bind h
        refine RegI.o (OpE.call 36 (by kernel_rfl) 40 #[.slice A52 t54.length c53, .int .u16 t71, .slice A73 t72.length c74] (by kernel_rfl) ((cells_Load_40_ok K _ w83  A52 c53 A73 c74 t54 t71 t72 h84.old' (h84.get 0 rfl) (h84.get 2 rfl) hg93).mono ?_))
        rintro _ w90 ⟨A95, c96, rfl, hr98⟩
        refine ⟨_, rfl, ?_⟩
        have hb91 := hr98.below
        have h92 := h84.join hr98
        refine RegI.p 1 [(5, .slice A95 t94.length c96), (6, .bool t55), (7, .slice A56 t58.length c57), (17, .slice A56 t58.length c57), (18, .int .i64 t59), (19, .int .i64 t60)] ?_
        refine RegI.d ?_
        refine RunsI.g 2 [.c 63, .lp 21, .blk 0, .c 64] ?_
        refine RunsI.r ?_
        refine RegI.p 2 [(5, .slice A95 t94.length c96), (6, .bool t55), (7, .slice A56 t58.length c57), (17, .slice A56 t58.length c57), (18, .int .i64 t59), (19, .int .i64 (IntKind.wrap .i64 (t60 + 1)))] ?_
        refine RegI.d ?_
        refine RunsI.g 1 [.c 21, .lp 21, .blk 0, .c 64] ?_
        refine RunsI.l [5, 6, 7, 17, 18, 19] [(5, .slice A95 t94.length c96), (6, .bool t55), (7, .slice A56 t58.length c57), (17, .slice A56 t58.length c57), (18, .int .i64 t59), (19, .int .i64 (IntKind.wrap .i64 (t60 + 1)))] ?_
        exact ih t94 t55 (IntKind.wrap .i64 (t60 + 1)) A95 c96 w90 h (h92.pick [4, 1] (by decide))
  ·skip
   refine RunsI.f 20 false hc61 ?_
   refine RunsI.b false 26 ?_
   refine RunsI.g 1 [.c 64] ?_
   refine RunsI.l [5, 6, 7] [(5, .slice A52 t54.length c53), (6, .bool t55), (7, .slice A56 t58.length c57)] ?_
   exact hk0 t54 t55 A52 c53 w (Option.some.inj h).symm (hH.pick [0, 1] (by decide))
def hexfile_Read_19.f (K : Nat) (p0 : ByteArray) : Option ((List (Int × Int)) × Int × Int) := cond (decide ((p0.size : Int) > 65536)) (some (([] : List (Int × Int)), 2, 0)) ((strings_Count_109.f K p0 (⟨#[10]⟩ : ByteArray)).bind fun t6 => cond (makeR (if (IntKind.wrap .i64 ((p0.size : Int) + 1)) < (IntKind.wrap .i64 (t6 + 1)) then (IntKind.wrap .i64 ((p0.size : Int) + 1)) else (IntKind.wrap .i64 (t6 + 1))) 16) ((hexfile_Read_19.l0 K p0 (IntKind.wrap .i64 ((if (IntKind.wrap .i64 ((p0.size : Int) + 1)) < (IntKind.wrap .i64 (t6 + 1)) then (IntKind.wrap .i64 ((p0.size : Int) + 1)) else (IntKind.wrap .i64 (t6 + 1))) - 1)) K p0 (List.replicate (Int.toNat (if (IntKind.wrap .i64 ((p0.size : Int) + 1)) < (IntKind.wrap .i64 (t6 + 1)) then (IntKind.wrap .i64 ((p0.size : Int) + 1)) else (IntKind.wrap .i64 (t6 + 1)))) ByteArray.empty) 0).bind (fun yx36 => cond (inR yx36.2.2 yx36.2.1.length) (cond (cutR 0 (IntKind.wrap .i64 (yx36.2.2 + 1)) (stD yx36.2.1 yx36.2.2 yx36.1).length) ((hexfile_Read_19.l1 K p0 (cutL (stD yx36.2.1 yx36.2.2 yx36.1) 0 (IntKind.wrap .i64 (yx36.2.2 + 1))) ((cutL (stD yx36.2.1 yx36.2.2 yx36.1) 0 (IntKind.wrap .i64 (yx36.2.2 + 1))).length : Int) K ([] : List (Int × Int)) false 0).bind (fun x105 => Lp.elim x105 (fun yx105 => some (([] : List (Int × Int)), yx105.1, yx105.2)) (fun yx105 => cond (!yx105.2) (some (([] : List (Int × Int)), 332, ((cutL (stD yx36.2.1 yx36.2.2 yx36.1) 0 (IntKind.wrap .i64 (yx36.2.2 + 1))).length : Int))) (some (yx105.1, 0, 0))))) none) none)) none)
set_option maxRecDepth 100000 in
theorem hexfile_Read_19_ok (K : Nat) (M0 : Nat → Prop) (w0 : World) (p0 : ByteArray) (ho : ∀ b, M0 b → b < w0.heap.size) {r : (List (Int × Int)) × Int × Int} (h : hexfile_Read_19.f K p0 = some r) :
  Calls Tryd.prog 19 #[.string p0] w0 (hexfile_Read_19.post M0 w0 r) := by
 unfold hexfile_Read_19.f at h
 have h0 : Holds M0 w0 w0 [] := Holds.start ho
 have h0 : Holds M0 w0 w0 [] := h0
 refine calls_of F19 rfl [.string p0] (by kernel_rfl) ?_
 refine RunsI.g 1 [.c 1, .c 2] ?_
 refine RunsI.r ?_
 refine RegI.p 3 [(0, .string p0)] ?_
 refine RegI.d ?_
 refine RunsI.g 2 [.c 4, .c 5, .c 10] ?_
 refine RunsI.r ?_
 refine RegI.p 3 [(0, .string p0), (14, .bool (decide ((p0.size : Int) > 65536)))] ?_
 refine RegI.d ?_
 rcases of_cond h with ⟨hc1, h⟩ | ⟨hc1, h⟩
 ·skip
  refine RunsI.f 14 true hc1 ?_
  refine RunsI.b true 6 ?_
  refine RunsI.g 1 [.c 7, .c 8, .c 10] ?_
  refine RunsI.r ?_
  refine RegI.p 3 [(2, .slice none 0 0), (3, .int .i64 2), (4, .int .i64 0)] ?_
  refine RegI.d ?_
  refine RunsI.t (.tuple #[.slice none 0 0, .int .i64 2, .int .i64 0]) ?_
  have h118 := h0.addSl (Rp.pair (Rp.int .u16) (Rp.int .u8)) (.slice none 0 0) [] (Sl.nil _ _ _)
  obtain rfl := Option.some.inj h
  exact ⟨none, 0, rfl, h118.pick [0] (by decide)⟩
 ·skip
  refine RunsI.f 14 false hc1 ?_
  refine RunsI.b false 9 ?_
  refine RunsI.g 1 [.c 10] ?_
  refine RunsI.g 1 [.c 11, .c 12] ?_
  refine RunsI.r ?_
  refine RegI.p 1 [(0, .string p0), (5, .slice none 0 0)] ?_
  refine RegI.d ?_
  refine RunsI.g 1 [.c 13, .c 14] ?_
  refine RunsI.r ?_
  refine RegI.p 1 [(0, .string p0), (5, .slice none 0 0), (6, .bool false)] ?_
  refine RegI.d ?_
  refine RunsI.g 1 [.c 15, .c 16] ?_
  refine RunsI.r ?_
  refine RegI.p 1 [(5, .slice none 0 0), (6, .bool false), (15, .string p0)] ?_
  refine RegI.enter 16 [5, 6] [(5, .slice none 0 0), (6, .bool false)] (by kernel_rfl) (by kernel_rfl) (by kernel_rfl) (by kernel_rfl) F39 39 rfl [.string p0, .string (⟨#[10]⟩ : ByteArray)] (by kernel_rfl) (by kernel_rfl) ?_
  refine RunsI.g 1 [.c 1, .c 2] ?_
  refine RunsI.r ?_
  refine RegI.p 1 [(0, .string p0), (1, .string (⟨#[10]⟩ : ByteArray))] ?_
  refine RegI.d ?_
  refine RunsI.g 1 [.c 3, .c 4] ?_
  refine RunsI.r ?_
  refine RegI.p 2 [(5, .string p0), (6, .string (⟨#[10]⟩ : ByteArray))] ?_
  refine RegI.enter 7 [] [] (by kernel_rfl) (by kernel_rfl) (by kernel_rfl) (by kernel_rfl) F72 72 rfl [.string p0, .string (⟨#[10]⟩ : ByteArray), .int .i64 0, .int .i64 (-1)] (by kernel_rfl) (by kernel_rfl) ?_
  refine RunsI.g 1 [.c 1, .c 2] ?_
  refine RunsI.r ?_
  refine RegI.p 1 [(0, .string p0), (1, .string (⟨#[10]⟩ : ByteArray)), (2, .int .i64 0), (3, .int .i64 (-1))] ?_
  refine RegI.d ?_
  refine RunsI.g 2 [.c 4, .c 5, .c 10] ?_
  refine RunsI.r ?_
  refine RegI.p 2 [(0, .string p0), (1, .string (⟨#[10]⟩ : ByteArray)), (2, .int .i64 0), (3, .int .i64 (-1)), (13, .bool false)] ?_
  refine RegI.d ?_
  refine RunsI.b false 9 ?_
  refine RunsI.g 3 [.c 12, .c 13, .c 18] ?_
  refine RunsI.r ?_
  refine RegI.p 2 [(0, .string p0), (1, .string (⟨#[10]⟩ : ByteArray)), (2, .int .i64 0), (3, .int .i64 (-1)), (15, .bool false)] ?_
  refine RegI.d ?_
  refine RunsI.b false 17 ?_
  refine RunsI.g 3 [.c 20, .c 21, .c 24] ?_
  refine RunsI.r ?_
  refine RegI.p 2 [(0, .string p0), (1, .string (⟨#[10]⟩ : ByteArray)), (2, .int .i64 0), (3, .int .i64 (-1)), (20, .bool true)] ?_
  refine RegI.d ?_
  refine RunsI.b true 22 ?_
  refine RunsI.r ?_
  refine RegI.p 2 [(0, .string p0), (1, .string (⟨#[10]⟩ : ByteArray)), (2, .int .i64 0), (21, .string p0), (22, .string (⟨#[10]⟩ : ByteArray))] ?_
  obtain ⟨t6, hg5, h⟩ := of_bind h
  refine RegI.o (OpE.call 23 (by kernel_rfl) 109 #[.string p0, .string (⟨#[10]⟩ : ByteArray)] (by kernel_rfl) ((strings_Count_109_ok K _ w0  p0 (⟨#[10]⟩ : ByteArray) h0.old' hg5).mono ?_))
  rintro _ w2 ⟨rfl, hb3⟩
  refine ⟨_, rfl, ?_⟩
  have h4 := h0.call hb3
  refine RegI.p 2 [(0, .string p0), (1, .string (⟨#[10]⟩ : ByteArray)), (2, .int .i64 0), (3, .int .i64 (IntKind.wrap .i64 (t6 + 1)))] ?_
  refine RegI.d ?_
  refine RunsI.g 1 [.c 25, .c 26] ?_
  refine RunsI.r ?_
  refine RegI.p 6 [(0, .string p0), (1, .string (⟨#[10]⟩ : ByteArray)), (2, .int .i64 0), (3, .int .i64 (if (IntKind.wrap .i64 ((p0.size : Int) + 1)) < (IntKind.wrap .i64 (t6 + 1)) then (IntKind.wrap .i64 ((p0.size : Int) + 1)) else (IntKind.wrap .i64 (t6 + 1))))] ?_
  refine RegI.d ?_
  refine RunsI.g 1 [.c 27, .c 28] ?_
  refine RunsI.r ?_
  refine RegI.p 1 [(0, .string p0), (1, .string (⟨#[10]⟩ : ByteArray)), (2, .int .i64 0), (3, .int .i64 (if (IntKind.wrap .i64 ((p0.size : Int) + 1)) < (IntKind.wrap .i64 (t6 + 1)) then (IntKind.wrap .i64 ((p0.size : Int) + 1)) else (IntKind.wrap .i64 (t6 + 1)))), (30, .int .i64 (if (IntKind.wrap .i64 ((p0.size : Int) + 1)) < (IntKind.wrap .i64 (t6 + 1)) then (IntKind.wrap .i64 ((p0.size : Int) + 1)) else (IntKind.wrap .i64 (t6 + 1))))] ?_
  obtain ⟨hc7, h⟩ := of_cond0 h
  refine RegI.o (OpE.makeAll 31 55 9 16 [.string ByteArray.empty] (k := .i64) (k' := .i64) (x := (if (IntKind.wrap .i64 ((p0.size : Int) + 1)) < (IntKind.wrap .i64 (t6 + 1)) then (IntKind.wrap .i64 ((p0.size : Int) + 1)) else (IntKind.wrap .i64 (t6 + 1)))) Rp.str ByteArray.empty h4 (by kernel_rfl) (by kernel_rfl) (by kernel_rfl) (by kernel_rfl) hc7 (fun _ _ => rfl) ?_)
  intro w8 A9 c10 h11 hb12
  refine RegI.p 1 [(0, .string p0), (1, .string (⟨#[10]⟩ : ByteArray)), (2, .int .i64 0), (3, .int .i64 (if (IntKind.wrap .i64 ((p0.size : Int) + 1)) < (IntKind.wrap .i64 (t6 + 1)) then (IntKind.wrap .i64 ((p0.size : Int) + 1)) else (IntKind.wrap .i64 (t6 + 1)))), (9, .slice A9 ((List.replicate (Int.toNat (if (IntKind.wrap .i64 ((p0.size : Int) + 1)) < (IntKind.wrap .i64 (t6 + 1)) then (IntKind.wrap .i64 ((p0.size : Int) + 1)) else (IntKind.wrap .i64 (t6 + 1)))) ByteArray.empty).length) c10)] ?_
  refine RegI.d ?_
  refine RunsI.g 1 [.c 29, .c 30] ?_
  refine RunsI.r ?_
  refine RegI.p 3 [(0, .string p0), (1, .string (⟨#[10]⟩ : ByteArray)), (2, .int .i64 0), (3, .int .i64 (IntKind.wrap .i64 ((if (IntKind.wrap .i64 ((p0.size : Int) + 1)) < (IntKind.wrap .i64 (t6 + 1)) then (IntKind.wrap .i64 ((p0.size : Int) + 1)) else (IntKind.wrap .i64 (t6 + 1))) - 1))), (9, .slice A9 ((List.replicate (Int.toNat (if (IntKind.wrap .i64 ((p0.size : Int) + 1)) < (IntKind.wrap .i64 (t6 + 1)) then (IntKind.wrap .i64 ((p0.size : Int) + 1)) else (IntKind.wrap .i64 (t6 + 1)))) ByteArray.empty).length) c10)] ?_
  refine RegI.d ?_
  refine RunsI.g 1 [.c 31, .c 32] ?_
  refine RunsI.r ?_
  refine RegI.p 1 [(0, .string p0), (1, .string (⟨#[10]⟩ : ByteArray)), (2, .int .i64 0), (3, .int .i64 (IntKind.wrap .i64 ((if (IntKind.wrap .i64 ((p0.size : Int) + 1)) < (IntKind.wrap .i64 (t6 + 1)) then (IntKind.wrap .i64 ((p0.size : Int) + 1)) else (IntKind.wrap .i64 (t6 + 1))) - 1))), (9, .slice A9 ((List.replicate (Int.toNat (if (IntKind.wrap .i64 ((p0.size : Int) + 1)) < (IntKind.wrap .i64 (t6 + 1)) then (IntKind.wrap .i64 ((p0.size : Int) + 1)) else (IntKind.wrap .i64 (t6 + 1)))) ByteArray.empty).length) c10), (10, .int .i64 0)] ?_
  refine RegI.d ?_
  refine RunsI.g 3 [.c 35, .lp 35, .blk 0, .c 55] ?_
  obtain ⟨x36, hx37, h⟩ := of_bind h
  refine RunsI.l [0, 1, 2, 3, 9, 10] [(0, .string p0), (1, .string (⟨#[10]⟩ : ByteArray)), (2, .int .i64 0), (3, .int .i64 (IntKind.wrap .i64 ((if (IntKind.wrap .i64 ((p0.size : Int) + 1)) < (IntKind.wrap .i64 (t6 + 1)) then (IntKind.wrap .i64 ((p0.size : Int) + 1)) else (IntKind.wrap .i64 (t6 + 1))) - 1))), (9, .slice A9 ((List.replicate (Int.toNat (if (IntKind.wrap .i64 ((p0.size : Int) + 1)) < (IntKind.wrap .i64 (t6 + 1)) then (IntKind.wrap .i64 ((p0.size : Int) + 1)) else (IntKind.wrap .i64 (t6 + 1)))) ByteArray.empty).length) c10), (10, .int .i64 0)] ?_
  refine hexfile_Read_19.l0_ok K M0 w0 p0 (IntKind.wrap .i64 ((if (IntKind.wrap .i64 ((p0.size : Int) + 1)) < (IntKind.wrap .i64 (t6 + 1)) then (IntKind.wrap .i64 ((p0.size : Int) + 1)) else (IntKind.wrap .i64 (t6 + 1))) - 1)) A9 c10 _ x36 ?_ K p0 (List.replicate (Int.toNat (if (IntKind.wrap .i64 ((p0.size : Int) + 1)) < (IntKind.wrap .i64 (t6 + 1)) then (IntKind.wrap .i64 ((p0.size : Int) + 1)) else (IntKind.wrap .i64 (t6 + 1)))) ByteArray.empty) 0 w8 hx37 (h11.pick [0] (by decide))
  ·intro t38 t39 t40 w42 hq119 h41
   (try rw [hq119] at h)
   dsimp only at h
   refine RunsI.g 1 [.c 56, .c 57] ?_
   refine RunsI.r ?_
   refine RegI.p 3 [(9, .slice A9 t39.length c10), (10, .int .i64 t40), (58, .slice A9 t39.length c10), (59, .int .i64 t40), (60, .string t38)] ?_
   obtain ⟨hc43, h⟩ := of_cond0 h
   refine RegI.o (OpE.idxOwnA 61 0 55 9 t40 h41 (by kernel_rfl) rfl (by kernel_rfl) (by kernel_rfl) hc43 ?_)
   refine RegI.o (OpE.storeOwnA 0 9 9 t40 0 (.string t38) (o := (Int.toNat t40) * 1 + 0) t38 h41 (by kernel_rfl) (by kernel_rfl) rfl (by kernel_rfl) (by kernel_rfl) (by kernel_rfl) hc43 (fun _ hk => by obtain rfl := hk; exact rfl) ?_)
   intro w44 h45 hk46
   refine RegI.d ?_
   refine RunsI.g 1 [.c 58, .c 59] ?_
   refine RunsI.r ?_
   refine RegI.p 3 [(62, .slice A9 t39.length c10), (64, .int .i64 (IntKind.wrap .i64 (t40 + 1)))] ?_
   obtain ⟨hc47, h⟩ := of_cond0 h
   refine RegI.o (OpE.cutOwn 65 0 55 9 (some (IntKind.wrap .i64 (t40 + 1))) h45 (by kernel_rfl) rfl (by kernel_rfl) (by kernel_rfl) hc47 ?_)
   intro A48 c49 h50
   refine RegI.p 1 [(8, .slice A48 ((cutL (stD t39 t40 t38) 0 (IntKind.wrap .i64 (t40 + 1))).length) c49)] ?_
   refine RegI.d ?_
   refine RunsI.t (.slice A48 ((cutL (stD t39 t40 t38) 0 (IntKind.wrap .i64 (t40 + 1))).length) c49) ?_
   refine cont_mk ?_
   refine RegI.p 1 [(4, .slice A48 ((cutL (stD t39 t40 t38) 0 (IntKind.wrap .i64 (t40 + 1))).length) c49)] ?_
   refine RegI.d ?_
   refine RunsI.t (.slice A48 ((cutL (stD t39 t40 t38) 0 (IntKind.wrap .i64 (t40 + 1))).length) c49) ?_
   refine cont_mk ?_
   refine RegI.p 1 [(5, .slice none 0 0), (6, .bool false), (7, .slice A48 ((cutL (stD t39 t40 t38) 0 (IntKind.wrap .i64 (t40 + 1))).length) c49)] ?_
   refine RegI.d ?_
   refine RunsI.g 2 [.c 18, .c 19, .c 64] ?_
   refine RunsI.r ?_
   refine RegI.p 3 [(5, .slice none 0 0), (6, .bool false), (7, .slice A48 ((cutL (stD t39 t40 t38) 0 (IntKind.wrap .i64 (t40 + 1))).length) c49), (17, .slice A48 ((cutL (stD t39 t40 t38) 0 (IntKind.wrap .i64 (t40 + 1))).length) c49), (18, .int .i64 ((cutL (stD t39 t40 t38) 0 (IntKind.wrap .i64 (t40 + 1))).length : Int)), (19, .int .i64 0)] ?_
   refine RegI.d ?_
   refine RunsI.g 2 [.c 21, .lp 21, .blk 0, .c 64] ?_
   obtain ⟨x105, hx106, h⟩ := of_bind h
   have h51 := h50.addSl (Rp.pair (Rp.int .u16) (Rp.int .u8)) (.slice none 0 0) [] (Sl.nil _ _ _)
   refine RunsI.l [5, 6, 7, 17, 18, 19] [(5, .slice none (([] : List (Int × Int)).length) 0), (6, .bool false), (7, .slice A48 ((cutL (stD t39 t40 t38) 0 (IntKind.wrap .i64 (t40 + 1))).length) c49), (17, .slice A48 ((cutL (stD t39 t40 t38) 0 (IntKind.wrap .i64 (t40 + 1))).length) c49), (18, .int .i64 ((cutL (stD t39 t40 t38) 0 (IntKind.wrap .i64 (t40 + 1))).length : Int)), (19, .int .i64 0)] ?_
   refine hexfile_Read_19.l1_ok K M0 w0 p0 (cutL (stD t39 t40 t38) 0 (IntKind.wrap .i64 (t40 + 1))) ((cutL (stD t39 t40 t38) 0 (IntKind.wrap .i64 (t40 + 1))).length : Int) A48 c49 _ x105 ?_ ?_ K ([] : List (Int × Int)) false 0 none 0 w44 hx106 (h51.pick [1, 0] (by decide))
   ·intro t109 t110 A107 c108 w112 hq120 h111
    (try rw [hq120] at h)
    dsimp only [Lp.elim] at h
    refine RunsI.g 2 [.c 66, .c 67, .c 72] ?_
    refine RunsI.r ?_
    refine RegI.p 2 [(5, .slice A107 t109.length c108), (7, .slice A48 ((cutL (stD t39 t40 t38) 0 (IntKind.wrap .i64 (t40 + 1))).length) c49), (59, .bool (!t110))] ?_
    refine RegI.d ?_
    rcases of_cond h with ⟨hc117, h⟩ | ⟨hc117, h⟩
    ·skip
     refine RunsI.f 59 true hc117 ?_
     refine RunsI.b true 68 ?_
     refine RunsI.g 1 [.c 69, .c 70, .c 72] ?_
     refine RunsI.r ?_
     refine RegI.p 5 [(2, .slice none 0 0), (3, .int .i64 332), (4, .int .i64 ((cutL (stD t39 t40 t38) 0 (IntKind.wrap .i64 (t40 + 1))).length : Int))] ?_
     refine RegI.d ?_
     refine RunsI.t (.tuple #[.slice none 0 0, .int .i64 332, .int .i64 ((cutL (stD t39 t40 t38) 0 (IntKind.wrap .i64 (t40 + 1))).length : Int)]) ?_
     have h121 := h111.addSl (Rp.pair (Rp.int .u16) (Rp.int .u8)) (.slice none 0 0) [] (Sl.nil _ _ _)
     obtain rfl := Option.some.inj h
     exact ⟨none, 0, rfl, h121.pick [2] (by decide)⟩
    ·skip
     refine RunsI.f 59 false hc117 ?_
     refine RunsI.b false 71 ?_
     refine RunsI.g 1 [.c 72] ?_
     refine RunsI.g 1 [.c 73, .c 74] ?_
     refine RunsI.r ?_
     refine RegI.p 4 [(2, .slice A107 t109.length c108), (3, .int .i64 0), (4, .int .i64 0)] ?_
     refine RegI.d ?_
     refine RunsI.t (.tuple #[.slice A107 t109.length c108, .int .i64 0, .int .i64 0]) ?_
     obtain rfl := Option.some.inj h
     exact ⟨A107, c108, rfl, h111.pick [0] (by decide)⟩
   ·intro t113 t114 w116 hq122 h115
    (try rw [hq122] at h)
    dsimp only [Lp.elim] at h
    have h123 := h115.addSl (Rp.pair (Rp.int .u16) (Rp.int .u8)) (.slice none 0 0) [] (Sl.nil _ _ _)
    obtain rfl := Option.some.inj h
    exact ⟨none, 0, rfl, h123.pick [0] (by decide)⟩
end

/-! ### charabanc/cells.Make (function 77) -/
section
def cells_Make_77.post (M0 : Nat → Prop) (w0 : World) (r : (List (Int × Int))) : Ending → World → Prop := fun e w => ∃ (A1 : Option Addr) (c1 : Nat), e = .returned (.slice A1 r.length c1) ∧ Holds M0 w0 w [sl (Rp.pair (Rp.int .u16) (Rp.int .u8)) (.slice A1 r.length c1) r]
def cells_Make_77.l0 (K : Nat) (p0 : List (Int × Int)) : Nat → (List (Int × Int)) → Int → Option (List (Int × Int))
 | 0, _, _ => none
 | k + 1, t7, t8 => cond (decide (t8 < (p0.length : Int))) (cond (inR t8 p0.length) (Let (fun (t31 : (List (Int × Int))) => cells_Make_77.l0 K p0 k t31 (IntKind.wrap .i64 (t8 + 1))) (fun j34 => cond (((rdD p0 t8).2) == 0) (j34 (delK t7 ((rdD p0 t8).1))) (j34 (insK t7 ((rdD p0 t8).1) ((rdD p0 t8).2))))) none) (some t7)
set_option maxRecDepth 100000 in
theorem cells_Make_77.l0_ok (K : Nat) (M0 : Nat → Prop) (w0 : World) (pA0 : Option Addr) (pc0 : Nat) (p0 : List (Int × Int)) (b6 : Nat) (R : Ending → World → Prop) (x : (List (Int × Int))) (hk0 : ∀ (t37 : List (Int × Int)) (w1 : World), x = t37 → Holds M0 w0 w1 [mp (ekI .u16) (fun (x : Int) => Value.int .u8 x) b6 t37] → RunsI F73 [.c 21] [(3, .map (some b6))] w1 R) :
  ∀ (k : Nat) (t7 : List (Int × Int)) (t8 : Int) (w : World), cells_Make_77.l0 K p0 k t7 t8 = some x → Holds M0 w0 w [mp (ekI .u16) (fun (x : Int) => Value.int .u8 x) b6 t7, sl (Rp.pair (Rp.int .u16) (Rp.int .u8)) (.slice pA0 p0.length pc0) p0] → RunsI F73 [.c 9, .lp 9, .blk 0, .c 21] [(3, .map (some b6)), (7, .slice pA0 p0.length pc0), (8, .int .i64 (p0.length : Int)), (9, .int .i64 t8)] w R := by
 intro k
 induction k with
 | zero => intro t7 t8 w h hH; exact absurd h (by simp [cells_Make_77.l0])
 | succ k ih =>
  intro t7 t8 w h hH
  rw [cells_Make_77.l0.eq_2] at h
  refine RunsI.g 1 [.c 10, .c 11, .lp 9, .blk 0, .c 21] ?_
  refine RunsI.r ?_
  refine RegI.p 1 [(3, .map (some b6)), (7, .slice pA0 p0.length pc0), (8, .int .i64 (p0.length : Int)), (9, .int .i64 t8), (10, .bool (decide (t8 < (p0.length : Int))))] ?_
  refine RegI.d ?_
  refine RunsI.g 1 [.c 12, .c 15, .lp 9, .blk 0, .c 21] ?_
  rcases of_cond h with ⟨hc9, h⟩ | ⟨hc9, h⟩
  ·skip
   refine RunsI.f 10 true hc9 ?_
   refine RunsI.b true 13 ?_
   refine RunsI.g 1 [.c 15, .lp 9, .blk 0, .c 21] ?_
   refine RunsI.g 3 [.c 18, .c 19, .blk 1, .c 20, .lp 9, .blk 0, .c 21] ?_
   refine RunsI.r ?_
   obtain ⟨hc10, h⟩ := of_cond0 h
   refine RegI.o (OpE.idxSl 11 1 41 t8 hH (by kernel_rfl) rfl (by kernel_rfl) (by kernel_rfl) hc10 ?_)
   intro b11 o12 cs13 hk14 h15
   obtain ⟨_, _, rfl, rfl, rfl⟩ := hk14
   refine RegI.o (OpE.loadCel 12 2 85 b11 o12 0 (.agg #[.int .u16 ((rdD p0 t8).1), .int .u8 ((rdD p0 t8).2)]) h15 (by kernel_rfl) (by kernel_rfl) rfl (by kernel_rfl) ?_)
   refine RegI.o (OpE.box 5 85 [.int .u16 0, .int .u8 0] h15 (by kernel_rfl) (by kernel_rfl) ?_)
   intro w16 b17 h18 hb19 hn20
   refine RegI.o (OpE.storeBox 3 85 b17 0 (.agg #[.int .u16 ((rdD p0 t8).1), .int .u8 ((rdD p0 t8).2)]) [.int .u16 ((rdD p0 t8).1), .int .u8 ((rdD p0 t8).2)] h18 (by kernel_rfl) (by kernel_rfl) rfl (by kernel_rfl) (by kernel_rfl) (by kernel_rfl) ?_)
   intro w21 h22 hk23
   refine RegI.d ?_
   refine RunsI.r ?_
   refine RegI.p 2 [(3, .map (some b6)), (5, .pointer (some ⟨b17, 0, none⟩)), (7, .slice pA0 p0.length pc0), (8, .int .i64 (p0.length : Int)), (9, .int .i64 t8), (13, .map (some b6)), (14, .pointer (some ⟨b17, 0, none⟩))] ?_
   refine RegI.o (OpE.loadBox 15 3 22 b17 0 (.int .u16 ((rdD p0 t8).1)) h22 (by kernel_rfl) (by kernel_rfl) rfl (by kernel_rfl) ?_)
   refine RegI.p 1 [(3, .map (some b6)), (7, .slice pA0 p0.length pc0), (8, .int .i64 (p0.length : Int)), (9, .int .i64 t8), (13, .map (some b6)), (15, .int .u16 ((rdD p0 t8).1)), (16, .pointer (some ⟨b17, 1, none⟩))] ?_
   refine RegI.o (OpE.loadBox 17 3 5 b17 1 (.int .u8 ((rdD p0 t8).2)) h22 (by kernel_rfl) (by kernel_rfl) rfl (by kernel_rfl) ?_)
   refine RegI.enter 18 [3, 7, 8, 9] [(3, .map (some b6)), (7, .slice pA0 p0.length pc0), (8, .int .i64 (p0.length : Int)), (9, .int .i64 t8)] (by kernel_rfl) (by kernel_rfl) (by kernel_rfl) (by kernel_rfl) F74 74 rfl [.map (some b6), .int .u16 ((rdD p0 t8).1), .int .u8 ((rdD p0 t8).2)] (by kernel_rfl) (by kernel_rfl) ?_
   obtain ⟨j34, hJ35, h⟩ := of_let h
   have hj36 : ∀ (t31 : List (Int × Int)) (w33 : World), j34 t31 = some x → Holds M0 w0 w33 [mp (ekI .u16) (fun (x : Int) => Value.int .u8 x) b6 t31, sl (Rp.pair (Rp.int .u16) (Rp.int .u8)) (.slice pA0 p0.length pc0) p0] → RegI F73 19 [.blk 1, .c 20, .lp 9, .blk 0, .c 21] 6 [(3, .map (some b6)), (7, .slice pA0 p0.length pc0), (8, .int .i64 (p0.length : Int)), (9, .int .i64 t8)] w33 R := by
    intro t31 w33 h h32
    rw [hJ35] at h
    clear hJ35
    dsimp only at h
    refine RegI.d ?_
    refine RunsI.g 1 [.c 20, .lp 9, .blk 0, .c 21] ?_
    refine RunsI.r ?_
    refine RegI.p 2 [(3, .map (some b6)), (7, .slice pA0 p0.length pc0), (8, .int .i64 (p0.length : Int)), (9, .int .i64 (IntKind.wrap .i64 (t8 + 1)))] ?_
    refine RegI.d ?_
    refine RunsI.g 1 [.c 9, .lp 9, .blk 0, .c 21] ?_
    refine RunsI.l [3, 7, 8, 9] [(3, .map (some b6)), (7, .slice pA0 p0.length pc0), (8, .int .i64 (p0.length : Int)), (9, .int .i64 (IntKind.wrap .i64 (t8 + 1)))] ?_
    exact ih t31 (IntKind.wrap .i64 (t8 + 1)) w33 h (h32.pick [0, 1] (by decide))
   clear hJ35
   refine RunsI.g 2 [.c 2, .c 3, .c 8] ?_
   refine RunsI.r ?_
   refine RegI.p 2 [(0, .map (some b6)), (1, .int .u16 ((rdD p0 t8).1)), (2, .int .u8 ((rdD p0 t8).2)), (7, .bool (((rdD p0 t8).2) == 0))] ?_
   refine RegI.d ?_
   rcases of_cond h with ⟨hc24, h⟩ | ⟨hc24, h⟩
   ·skip
    refine RunsI.f 7 true hc24 ?_
    refine RunsI.b true 4 ?_
    refine RunsI.g 1 [.c 5, .c 6, .c 8] ?_
    refine RunsI.r ?_
    refine RegI.p 2 [(8, .map (some b6)), (9, .int .u16 ((rdD p0 t8).1))] ?_
    refine RegI.o (OpE.mapDel (ek := (ekI .u16)) (ev := (fun (x : Int) => Value.int .u8 x)) 0 110 22 5 [22] ((rdD p0 t8).1) h22 (by kernel_rfl) rfl (by kernel_rfl) rfl (by kernel_rfl) (KeyOk.int .u16 (by kernel_rfl)) (delK t7 ((rdD p0 t8).1)) rfl ?_)
    intro w25 h26 hk27
    refine RegI.d ?_
    refine RunsI.t (.tuple #[]) ?_
    refine cont_mk ?_
    refine RegI.l [3, 7, 8, 9] [(3, .map (some b6)), (7, .slice pA0 p0.length pc0), (8, .int .i64 (p0.length : Int)), (9, .int .i64 t8)] ?_
    exact hj36 (delK t7 ((rdD p0 t8).1)) w25 h (h26.pick [0, 1] (by decide))
   ·skip
    refine RunsI.f 7 false hc24 ?_
    refine RunsI.b false 7 ?_
    refine RunsI.g 1 [.c 8] ?_
    refine RunsI.r ?_
    refine RegI.p 3 [(10, .map (some b6)), (11, .int .u16 ((rdD p0 t8).1)), (12, .int .u8 ((rdD p0 t8).2))] ?_
    refine RegI.o (OpE.mapSet (ek := (ekI .u16)) (ev := (fun (x : Int) => Value.int .u8 x)) 0 110 22 5 ((rdD p0 t8).1) ((rdD p0 t8).2) h22 (by kernel_rfl) rfl (by kernel_rfl) rfl rfl (by kernel_rfl) (KeyOk.int .u16 (by kernel_rfl)) (insK t7 ((rdD p0 t8).1) ((rdD p0 t8).2)) rfl ?_)
    intro w28 h29 hk30
    refine RegI.d ?_
    refine RunsI.t (.tuple #[]) ?_
    refine cont_mk ?_
    refine RegI.l [3, 7, 8, 9] [(3, .map (some b6)), (7, .slice pA0 p0.length pc0), (8, .int .i64 (p0.length : Int)), (9, .int .i64 t8)] ?_
    exact hj36 (insK t7 ((rdD p0 t8).1) ((rdD p0 t8).2)) w28 h (h29.pick [0, 1] (by decide))
  ·skip
   refine RunsI.f 10 false hc9 ?_
   refine RunsI.b false 14 ?_
   refine RunsI.g 1 [.c 21] ?_
   refine RunsI.l [3] [(3, .map (some b6))] ?_
   exact hk0 t7 w (Option.some.inj h).symm (hH.pick [0] (by decide))
def cells_Make_77.f (K : Nat) (p0 : List (Int × Int)) : Option (List (Int × Int)) := (cells_Make_77.l0 K p0 K ([] : List (Int × Int)) 0).bind (fun t40 => (cells_memory_told_75.f K t40).bind fun t48 => some t48)
set_option maxRecDepth 100000 in
theorem cells_Make_77_ok (K : Nat) (M0 : Nat → Prop) (w0 : World) (pA0 : Option Addr) (pc0 : Nat) (p0 : List (Int × Int)) (ho : ∀ b, M0 b → b < w0.heap.size) (hs0 : Sl (Rp.pair (Rp.int .u16) (Rp.int .u8)) w0 M0 (.slice pA0 p0.length pc0) p0) {r : (List (Int × Int))} (h : cells_Make_77.f K p0 = some r) :
  Calls Tryd.prog 77 #[.slice pA0 p0.length pc0] w0 (cells_Make_77.post M0 w0 r) := by
 unfold cells_Make_77.f at h
 have h0 : Holds M0 w0 w0 [] := Holds.start ho
 have h00 := h0.addSl (Rp.pair (Rp.int .u16) (Rp.int .u8)) (.slice pA0 p0.length pc0) p0 (hs0.mono (fun _ _ hm => hm.elim id (fun hm => absurd hm (by simp [mines, sl]))))
 have h0 : Holds M0 w0 w0 [sl (Rp.pair (Rp.int .u16) (Rp.int .u8)) (.slice pA0 p0.length pc0) p0] := h00
 refine calls_of F77 rfl [.slice pA0 p0.length pc0] (by kernel_rfl) ?_
 refine RunsI.g 1 [.c 1, .c 2] ?_
 refine RunsI.r ?_
 refine RegI.p 1 [(0, .slice pA0 p0.length pc0)] ?_
 refine RegI.d ?_
 refine RunsI.g 1 [.c 3, .c 4] ?_
 refine RunsI.r ?_
 refine RegI.p 1 [(3, .slice pA0 p0.length pc0)] ?_
 refine RegI.enter 4 [] [] (by kernel_rfl) (by kernel_rfl) (by kernel_rfl) (by kernel_rfl) F73 73 rfl [.slice pA0 p0.length pc0] (by kernel_rfl) (by kernel_rfl) ?_
 refine RunsI.g 1 [.c 1, .c 2] ?_
 refine RunsI.r ?_
 refine RegI.p 1 [(0, .slice pA0 p0.length pc0)] ?_
 refine RegI.d ?_
 refine RunsI.g 1 [.c 3, .c 4] ?_
 refine RunsI.r ?_
 refine RegI.o (OpE.makeMap 6 (ekI .u16) (fun (x : Int) => Value.int .u8 x) h0 (by kernel_rfl) (by kernel_rfl) ?_)
 intro w1 b2 h3 hb4 hn5
 refine RegI.p 1 [(0, .slice pA0 p0.length pc0), (3, .map (some b2))] ?_
 refine RegI.d ?_
 refine RunsI.g 2 [.c 6, .c 7, .c 21] ?_
 refine RunsI.r ?_
 refine RegI.p 3 [(3, .map (some b2)), (7, .slice pA0 p0.length pc0), (8, .int .i64 (p0.length : Int)), (9, .int .i64 0)] ?_
 refine RegI.d ?_
 refine RunsI.g 2 [.c 9, .lp 9, .blk 0, .c 21] ?_
 obtain ⟨x38, hx39, h⟩ := of_bind h
 refine RunsI.l [3, 7, 8, 9] [(3, .map (some b2)), (7, .slice pA0 p0.length pc0), (8, .int .i64 (p0.length : Int)), (9, .int .i64 0)] ?_
 refine cells_Make_77.l0_ok K M0 w0 pA0 pc0 p0 b2 _ x38 ?_ K ([] : List (Int × Int)) 0 w1 hx39 (h3.pick [1, 0] (by decide))
 ·intro t40 w42 hq53 h41
  (try rw [hq53] at h)
  refine RunsI.g 1 [.c 22, .c 23] ?_
  refine RunsI.r ?_
  refine RegI.p 2 [(2, .map (some b2))] ?_
  refine RegI.d ?_
  refine RunsI.t (.map (some b2)) ?_
  refine cont_mk ?_
  obtain ⟨t48, hg47, h⟩ := of_bind h
  have h43 := h41.releaseMap 0 rfl
  refine RegI.o (OpE.call 5 (by kernel_rfl) 75 #[.map (some b2)] (by kernel_rfl) ((cells_memory_told_75_ok K _ w42  b2 t40 h43.old' (h43.get 0 rfl) hg47).mono ?_))
  rintro _ w44 ⟨A49, c50, rfl, hr52⟩
  refine ⟨_, rfl, ?_⟩
  have hb45 := hr52.below
  have h46 := h43.join hr52
  refine RegI.p 1 [(2, .slice A49 t48.length c50)] ?_
  refine RegI.d ?_
  refine RunsI.t (.slice A49 t48.length c50) ?_
  obtain rfl := Option.some.inj h
  exact ⟨A49, c50, rfl, h46.pick [1] (by decide)⟩
end

/-! ### (*strings.Builder).WriteString (function 43) -/
section
theorem strings_Builder_WriteString_43_info : (Tryd.prog.info? 75).map (·.size) = some 2 := by kernel_rfl
theorem strings_Builder_WriteString_43_byte : (Tryd.prog.info? 5).map (fun i => (i.zero, i.size, i.bytes)) = some (some (.int .u8 0), 1, 1) := by kernel_rfl
set_option maxRecDepth 100000 in
theorem strings_Builder_WriteString_43_copy : CopyOk Tryd.prog 78 75 := by
 refine ⟨fun b w h0 => ?_, fun b w h0 hsh hfz => ?_⟩
 ·obtain ⟨j, hj, _⟩ := Option.map_eq_some_iff.1 strings_Builder_WriteString_43_info
  go_enter Tryd.func78, Tryd.ntmps78
  go_wp2
  rw [Lib.run_neq_ptr_same w _ Tryd.underlying73 hj]
  go_wp2
  go_end0
  exact ⟨rfl, rfl⟩
 ·obtain ⟨j, hj, hjs⟩ := Option.map_eq_some_iff.1 strings_Builder_WriteString_43_info
  go_enter Tryd.func78, Tryd.ntmps78
  go_wp2
  rw [Lib.run_to_unsafe w ⟨b, 0, none⟩ Tryd.underlying73 Tryd.underlying133 hj (by rw [hjs]; decide) hsh (Nat.zero_lt_succ 1)]
  simp only [Result.andThen]
  rw [Oper.upon_value]
  go_wp2
  rw [run_callFunc_extern Tryd.func112 (by kernel_rfl) (by kernel_rfl) (by kernel_rfl) (e := Extern.AbiNoEscape.same) (by kernel_rfl)]
  rw [Lib.run_noEscape]
  simp only [Result.andThen]
  rw [Oper.upon_value]
  go_wp2
  rw [Lib.run_from_unsafe w ⟨b, 0, none⟩ Tryd.underlying133 Tryd.underlying73 hj hsh (by kernel_rfl)]
  simp only [Result.andThen]
  rw [Oper.upon_value]
  go_wp2
  go_end0
  exact ⟨rfl, rfl⟩
theorem strings_Builder_WriteString_43_ok {M0 : Nat → Prop} {w0 w : World} {H : List Chunk} (c : Nat) {b cp : Nat} {A : Option Addr} {l : List UInt8} (s : ByteArray) (hH : Holds M0 w0 w H) (hi : H[c]? = some (bl 75 5 b (.slice A l.length cp) A cp l)) (hR : bldR l.length s.size = true) :
  Calls Tryd.prog 43 #[.pointer (some ⟨b, 0, none⟩), .string s] w fun e w' => e = .returned (.tuple #[.int .i64 (s.size : Int), .nilIface]) ∧ ∃ A' cp', Holds M0 w0 w' (H.set c (bl 75 5 b (.slice A' (l ++ s.data.toList).length cp') A' cp' (l ++ s.data.toList))) := by
 have hcl : c < H.length := (List.getElem?_eq_some_iff.1 hi).1
 refine calls_of F43 rfl [.pointer (some ⟨b, 0, none⟩), .string s] (by kernel_rfl) ?_
 refine RunsI.g 1 [.c 1, .c 2] ?_
 refine RunsI.r ?_
 refine RegI.p 2 [(0, .pointer (some ⟨b, 0, none⟩)), (1, .string s)] ?_
 refine RegI.d ?_
 refine RunsI.g 1 [.c 3, .c 4] ?_
 refine RunsI.r ?_
 refine RegI.p 1 [(0, .pointer (some ⟨b, 0, none⟩)), (1, .string s), (6, .pointer (some ⟨b, 0, none⟩))] ?_
 refine RegI.o (OpE.call 7 (by kernel_rfl) 78 #[.pointer (some ⟨b, 0, none⟩)] (by kernel_rfl) ((hH.copyCheck strings_Builder_WriteString_43_copy hi).mono ?_))
 rintro _ w1 ⟨rfl, h1⟩
 refine ⟨_, rfl, ?_⟩
 refine RegI.l [0, 1] [(0, .pointer (some ⟨b, 0, none⟩)), (1, .string s)] ?_
 refine RegI.d ?_
 refine RunsI.g 1 [.c 5, .c 6] ?_
 refine RunsI.r ?_
 have hi1 : (H.set c (bl 75 5 b (.slice A l.length cp) A cp l))[c]? = some (bl 75 5 b (.slice A l.length cp) A cp l) := by rw [List.getElem?_set_self hcl]
 obtain ⟨⟨p, hp, hb⟩, ho, hne⟩ := h1.get c hi1
 refine RegI.p 4 [(1, .string s), (8, .pointer (some ⟨b, 0, none⟩)), (11, .pointer (some ⟨b, 1, none⟩))] ?_
 refine RegI.o (OpE.load 12 23 (b := b) (o := 1) (cs := [.slice A l.length cp]) (v := .slice A l.length cp) (by kernel_rfl) (by kernel_rfl) (box_cells (cs := [p, .slice A l.length cp]) hb 1) (by kernel_rfl) ?_)
 refine RegI.p 1 [(1, .string s), (8, .pointer (some ⟨b, 0, none⟩)), (12, .slice A l.length cp), (13, .string s)] ?_
 obtain ⟨inf, hi0, hpt⟩ := Option.map_eq_some_iff.1 strings_Builder_WriteString_43_byte
 simp only [Prod.mk.injEq] at hpt
 obtain ⟨hz, hsz, hby⟩ := hpt
 obtain ⟨A2, cp2, w2, hr, h2⟩ := h1.blApp (ty := (opOf F43.B 5 6).type) (t := 23) (u := 9) Tryd.underlying23 Tryd.underlying9 hi0 hz hsz hby hi1 (by decide) s hR
 rw [List.set_set] at h2
 have hi2 : (H.set c (bl 75 5 b (.slice A l.length cp) A2 cp2 (l ++ s.data.toList)))[c]? = some (bl 75 5 b (.slice A l.length cp) A2 cp2 (l ++ s.data.toList)) := by rw [List.getElem?_set_self hcl]
 refine RegI.o (OpE.run 14 (by kernel_rfl) (run_appendStr (T := 23) (U := 9) (v := .slice A l.length cp) (s := s) (by kernel_rfl) hr) ?_)
 refine RegI.p 2 [(1, .string s), (14, .slice A2 (l ++ s.data.toList).length cp2), (16, .pointer (some ⟨b, 1, none⟩))] ?_
 refine RegI.o (OpE.storeBl c 23 (A2 := A2) (n2 := (l ++ s.data.toList).length) (c2 := cp2) h2 (by kernel_rfl) (by kernel_rfl) hi2 (by kernel_rfl) ?_)
 intro w3 h3
 rw [List.set_set] at h3
 refine RegI.d ?_
 refine RunsI.g 1 [.c 7, .c 8] ?_
 refine RunsI.r ?_
 refine RegI.p 4 [(4, .int .i64 (s.size : Int)), (5, .nilIface)] ?_
 refine RegI.d ?_
 refine RunsI.t (.tuple #[.int .i64 (s.size : Int), .nilIface]) ?_
 exact ⟨rfl, A2, cp2, h3⟩
end


/-! ### (*strings.Builder).String (function 44) -/
section
theorem strings_Builder_String_44_ok {M0 : Nat → Prop} {w0 w : World} {H : List Chunk} (c : Nat) {b cp : Nat} {A : Option Addr} {l : List UInt8} (hH : Holds M0 w0 w H) (hi : H[c]? = some (bl 75 5 b (.slice A l.length cp) A cp l)) (hR : Nat.blt 0 l.length = true) :
  Calls Tryd.prog 44 #[.pointer (some ⟨b, 0, none⟩)] w fun e w' => e = .returned (.string ⟨l.toArray⟩) ∧ Holds M0 w0 w' (H.set c (dead b)) := by
 obtain ⟨p, g, cur, hA, hcp, hgb, hb, hg, ho, hc, h63⟩ := bl_row hH hi hR
 have hbase := bl_base hH hi hA
 have hbl : b < w.heap.size := (Array.getElem?_eq_some_iff.1 hb).1
 have hgl : g < w.heap.size := (Array.getElem?_eq_some_iff.1 hg).1
 have hld : ∀ w', Kp [g] w w' → w'.heap[b]? = some (.cells #[p, .slice A l.length cp] 75 (0, 0)) := fun w' hk => (hk.2 b hbl (fun e => hgb (List.mem_singleton.1 e).symm)).trans hb
 refine calls_of F44 rfl [.pointer (some ⟨b, 0, none⟩)] (by kernel_rfl) ?_
 refine RunsI.g 1 [.c 1, .c 2] ?_
 refine RunsI.r ?_
 refine RegI.p 1 [(0, .pointer (some ⟨b, 0, none⟩))] ?_
 refine RegI.d ?_
 refine RunsI.g 1 [.c 3, .c 4] ?_
 refine RunsI.any 12 (by kernel_rfl) (by kernel_rfl) (by kernel_rfl) (Kp [g] w) ?_
 have hS : Kp [g] w w.drew := Kp.drew [g] w
 have hB : Below w.heap.size w w.drew := (Below.refl _ w).drew
 have hd : w.drew.heap = w.heap := rfl
 generalize w.drew = ws at hS hB hd ⊢
 refine AnyE.pure 0 3 (.pointer (some ⟨b, 0, none⟩)) (by kernel_rfl) hS (fun _ => by kernel_rfl) ?_
 refine AnyE.pure 1 4 (.pointer (some ⟨b, 0, none⟩)) (by kernel_rfl) hS (fun _ => by kernel_rfl) ?_
 refine AnyE.pure 2 5 (.pointer (some ⟨b, 1, none⟩)) (by kernel_rfl) hS (fun _ => by kernel_rfl) ?_
 refine AnyE.take 3 6 (.slice A l.length cp) Kp.sup (by kernel_rfl) hS (fun w' hk => .inl (Go.Eng.run_load 23 (b := b) (o := 1) (cs := [.slice A l.length cp]) (by kernel_rfl) (box_cells (cs := [p, .slice A l.length cp]) (hld w' hk) 1) (by kernel_rfl))) ?_
 refine AnyE.take 4 7 (.pointer (some ⟨g, 0, none⟩)) Kp.sup (by subst hA; kernel_rfl) hS (fun w' hk => .inl (run_usData (m := l.length) (cp := cp) (by subst hA; kernel_rfl) hcp)) ?_
 refine AnyE.pure 5 8 (.pointer (some ⟨b, 0, none⟩)) (by kernel_rfl) hS (fun _ => by kernel_rfl) ?_
 refine AnyE.pure 6 9 (.pointer (some ⟨b, 0, none⟩)) (by kernel_rfl) hS (fun _ => by kernel_rfl) ?_
 refine AnyE.pure 7 10 (.pointer (some ⟨b, 1, none⟩)) (by kernel_rfl) hS (fun _ => by kernel_rfl) ?_
 refine AnyE.take 8 11 (.slice A l.length cp) Kp.sup (by kernel_rfl) hS (fun w' hk => .inl (Go.Eng.run_load 23 (b := b) (o := 1) (cs := [.slice A l.length cp]) (by kernel_rfl) (box_cells (cs := [p, .slice A l.length cp]) (hld w' hk) 1) (by kernel_rfl))) ?_
 refine AnyE.pure 9 12 (.int .i64 l.length) (by kernel_rfl) hS (fun _ => by kernel_rfl) ?_
 refine AnyE.one 10 (by kernel_rfl) (fun w2 hu => ?_)
 have hg2 : w2.heap[g]? = some (.cells cur 5 (0, 0)) := (hu.block g (by rw [hd]; exact hgl)).trans (by rw [hd]; exact hg)
 have ho2 : w2.ownsRow 0 5 1 (.slice A l.length cp) l.length (Lib.byteCells l) := by
  refine ⟨ho.1, ?_⟩
  rcases ho.2 with hn | ⟨g', cap, cur', hv, h0, hg', rest⟩
  ·exact .inl hn
  ·have e : g' = g := by rw [hA] at hv; cases hv; rfl
   subst e
   rw [hg] at hg'
   cases hg'
   exact .inr ⟨g', cap, cur, hv, h0, hg2, rest⟩
 have hk2 : Kp [g] w (w2.freeze ⟨g, 0, none⟩ l.length) := (hS.up hu).freeze
 have hB2 : Below w0.heap.size w (w2.freeze ⟨g, 0, none⟩ l.length) := Up.freezeBelow ((hB.trans (hu.mono (by rw [hd]; exact Nat.le_refl _))).mono hH.below.size) hbase
 refine OpE.run 13 (by kernel_rfl) (run_usStr (T := 115) (U := 3) (by kernel_rfl) (bl_str Tryd.underlying115 (by kernel_rfl) ho2 hA hg2 hR hc h63)) ?_
 refine ⟨hk2, ?_⟩
 refine AnyE.pure 11 2 (.string ⟨l.toArray⟩) (by kernel_rfl) hk2 (fun _ => by kernel_rfl) ?_
 refine AnyE.done (by kernel_rfl) (fun w3 hu3 => ?_)
 refine RunsI.t (.string ⟨l.toArray⟩) ?_
 refine ⟨rfl, hH.blDone hi hA (hk2.up hu3) (hB2.trans (Below.mono hu3 ?_))⟩
 have := hB2.size
 have := hH.below.size
 omega
end

end Go.Proofs.YtilgjfckgkkfmaaDoor.Hx
