/- Functions of the program as plain Lean functions, each with the proof that the call comes to it; written by wip/eng.py. -/
import Derived.Test.YtbcepghanbkncaaProg
import Derived.Test.YtbcepghanbkncaaEngLib
import Derived.Test.YtbcepghanbkncaaEngSort
import Derived.Test.YtbcepghanbkncaaShelf
set_option linter.unusedVariables false
set_option linter.unusedSimpArgs false
set_option maxHeartbeats 4000000
namespace Go.Proofs.Ytbcepghanbkncaa.Cel
open Go.RowKit Go.Eng
noncomputable def B7 : Code := (Try.f7.body).getD .skip
noncomputable def F7 : Fun Try.prog := ⟨7, Try.f7, B7, 75, Try.func7, by kernel_rfl, by kernel_rfl, [], none⟩
noncomputable def B8 : Code := (Try.f8.body).getD .skip
noncomputable def F8 : Fun Try.prog := ⟨8, Try.f8, B8, 26, Try.func8, by kernel_rfl, by kernel_rfl, [], none⟩
noncomputable def B9 : Code := (Try.f9.body).getD .skip
noncomputable def F9 : Fun Try.prog := ⟨9, Try.f9, B9, 34, Try.func9, by kernel_rfl, by kernel_rfl, [], none⟩
noncomputable def B10 : Code := (Try.f10.body).getD .skip
noncomputable def F10 : Fun Try.prog := ⟨10, Try.f10, B10, 26, Try.func10, by kernel_rfl, by kernel_rfl, [], none⟩
noncomputable def B11 : Code := (Try.f11.body).getD .skip
noncomputable def F11 : Fun Try.prog := ⟨11, Try.f11, B11, 6, Try.func11, by kernel_rfl, by kernel_rfl, [], none⟩
noncomputable def B12 : Code := (Try.f12.body).getD .skip
noncomputable def F12 : Fun Try.prog := ⟨12, Try.f12, B12, 53, Try.func12, by kernel_rfl, by kernel_rfl, [], none⟩
noncomputable def B13 : Code := (Try.f13.body).getD .skip
noncomputable def F13 : Fun Try.prog := ⟨13, Try.f13, B13, 17, Try.func13, by kernel_rfl, by kernel_rfl, [], none⟩
noncomputable def B14 : Code := (Try.f14.body).getD .skip
noncomputable def F14 : Fun Try.prog := ⟨14, Try.f14, B14, 26, Try.func14, by kernel_rfl, by kernel_rfl, [], none⟩
noncomputable def B15 : Code := (Try.f15.body).getD .skip
noncomputable def F15 : Fun Try.prog := ⟨15, Try.f15, B15, 16, Try.func15, by kernel_rfl, by kernel_rfl, [], none⟩
noncomputable def B16 : Code := (Try.f16.body).getD .skip
noncomputable def F16 : Fun Try.prog := ⟨16, Try.f16, B16, 19, Try.func16, by kernel_rfl, by kernel_rfl, [], none⟩
noncomputable def B17 : Code := (Try.f17.body).getD .skip
noncomputable def F17 : Fun Try.prog := ⟨17, Try.f17, B17, 27, Try.func17, by kernel_rfl, by kernel_rfl, [], none⟩
noncomputable def B18 : Code := (Try.f18.body).getD .skip
noncomputable def F18 : Fun Try.prog := ⟨18, Try.f18, B18, 33, Try.func18, by kernel_rfl, by kernel_rfl, [], none⟩
noncomputable def B19 : Code := (Try.f19.body).getD .skip
noncomputable def F19 : Fun Try.prog := ⟨19, Try.f19, B19, 25, Try.func19, by kernel_rfl, by kernel_rfl, [], none⟩
noncomputable def B20 : Code := (Try.f20.body).getD .skip
noncomputable def F20 : Fun Try.prog := ⟨20, Try.f20, B20, 28, Try.func20, by kernel_rfl, by kernel_rfl, [], none⟩
noncomputable def B21 : Code := (Try.f21.body).getD .skip
noncomputable def F21 : Fun Try.prog := ⟨21, Try.f21, B21, 56, Try.func21, by kernel_rfl, by kernel_rfl, [], none⟩
noncomputable def B22 : Code := (Try.f22.body).getD .skip
noncomputable def F22 : Fun Try.prog := ⟨22, Try.f22, B22, 70, Try.func22, by kernel_rfl, by kernel_rfl, [], none⟩
noncomputable def B23 : Code := (Try.f23.body).getD .skip
noncomputable def F23 : Fun Try.prog := ⟨23, Try.f23, B23, 21, Try.func23, by kernel_rfl, by kernel_rfl, [], none⟩
noncomputable def B24 : Code := (Try.f24.body).getD .skip
noncomputable def F24 : Fun Try.prog := ⟨24, Try.f24, B24, 24, Try.func24, by kernel_rfl, by kernel_rfl, [], none⟩
noncomputable def B25 : Code := (Try.f25.body).getD .skip
noncomputable def F25 : Fun Try.prog := ⟨25, Try.f25, B25, 4, Try.func25, by kernel_rfl, by kernel_rfl, [], none⟩
noncomputable def B26 : Code := (Try.f26.body).getD .skip
noncomputable def F26 : Fun Try.prog := ⟨26, Try.f26, B26, 13, Try.func26, by kernel_rfl, by kernel_rfl, [], none⟩
noncomputable def B27 : Code := (Try.f27.body).getD .skip
noncomputable def F27 : Fun Try.prog := ⟨27, Try.f27, B27, 11, Try.func27, by kernel_rfl, by kernel_rfl, [], none⟩
noncomputable def B28 : Code := (Try.f28.body).getD .skip
noncomputable def F28 : Fun Try.prog := ⟨28, Try.f28, B28, 19, Try.func28, by kernel_rfl, by kernel_rfl, [], none⟩
noncomputable def B30 : Code := (Try.f30.body).getD .skip
noncomputable def F30 : Fun Try.prog := ⟨30, Try.f30, B30, 10, Try.func30, by kernel_rfl, by kernel_rfl, [], none⟩
noncomputable def B31 : Code := (Try.f31.body).getD .skip
noncomputable def F31 : Fun Try.prog := ⟨31, Try.f31, B31, 20, Try.func31, by kernel_rfl, by kernel_rfl, [], none⟩
noncomputable def B33 : Code := (Try.f33.body).getD .skip
noncomputable def F33 : Fun Try.prog := ⟨33, Try.f33, B33, 8, Try.func33, by kernel_rfl, by kernel_rfl, [], none⟩
noncomputable def B34 : Code := (Try.f34.body).getD .skip
noncomputable def F34 : Fun Try.prog := ⟨34, Try.f34, B34, 6, Try.func34, by kernel_rfl, by kernel_rfl, [], none⟩
noncomputable def B43 : Code := (Try.f43.body).getD .skip
noncomputable def F43 : Fun Try.prog := ⟨43, Try.f43, B43, 19, Try.func43, by kernel_rfl, by kernel_rfl, [], none⟩
noncomputable def B44 : Code := (Try.f44.body).getD .skip
noncomputable def F44 : Fun Try.prog := ⟨44, Try.f44, B44, 25, Try.func44, by kernel_rfl, by kernel_rfl, [], none⟩
noncomputable def B46 : Code := (Try.f46.body).getD .skip
noncomputable def F46 : Fun Try.prog := ⟨46, Try.f46, B46, 7, Try.func46, by kernel_rfl, by kernel_rfl, [], none⟩

/-! ### charabanc/cells.Check (function 8) -/
section
def cells_Check_8.post (M0 : Nat → Prop) (w0 : World) (r : Int) : Ending → World → Prop := fun e w => e = .returned (.int .i64 r) ∧ Below w0.heap.size w0 w
def cells_Check_8.l0 (K : Nat) (p0 : List (Int × Int)) : Nat → Int → Int → Option (Lp Unit Unit)
 | 0, _, _ => none
 | k + 1, t1, t2 => cond (decide (t2 < (p0.length : Int))) (cond (inR t2 p0.length) (Let (fun (t19 : Bool) => cond t19 (some (Lp.ret ())) (cells_Check_8.l0 K p0 k (IntKind.wrap .i64 ((rdD p0 t2).1)) (IntKind.wrap .i64 (t2 + 1)))) (fun j22 => cond (((rdD p0 t2).2) == 0) (j22 true) (j22 (decide ((IntKind.wrap .i64 ((rdD p0 t2).1)) ≤ t1))))) none) (some (Lp.go ()))
set_option maxRecDepth 100000 in
theorem cells_Check_8.l0_ok (K : Nat) (M0 : Nat → Prop) (w0 : World) (pA0 : Option Addr) (pc0 : Nat) (p0 : List (Int × Int)) (R : Ending → World → Prop) (x : Lp Unit Unit) (hk0 : ∀ (w1 : World), x = Lp.go () → Holds M0 w0 w1 [] → RunsI F8 [.c 29] [] w1 R) (hk1 : ∀ (w1 : World), x = Lp.ret () → Holds M0 w0 w1 [] → R (.returned (.int .i64 1)) w1) :
  ∀ (k : Nat) (t1 : Int) (t2 : Int) (w : World), cells_Check_8.l0 K p0 k t1 t2 = some x → Holds M0 w0 w [sl (Rp.pair (Rp.int .u16) (Rp.int .u8)) (.slice pA0 p0.length pc0) p0] → RunsI F8 [.c 9, .lp 9, .blk 0, .c 29] [(3, .int .i64 t1), (6, .slice pA0 p0.length pc0), (7, .int .i64 (p0.length : Int)), (8, .int .i64 t2)] w R := by
 intro k
 induction k with
 | zero => intro t1 t2 w h hH; exact absurd h (by simp [cells_Check_8.l0])
 | succ k ih =>
  intro t1 t2 w h hH
  rw [cells_Check_8.l0.eq_2] at h
  refine RunsI.g 1 [.c 10, .c 11, .lp 9, .blk 0, .c 29] ?_
  refine RunsI.r ?_
  refine RegI.p 1 [(3, .int .i64 t1), (6, .slice pA0 p0.length pc0), (7, .int .i64 (p0.length : Int)), (8, .int .i64 t2), (9, .bool (decide (t2 < (p0.length : Int))))] ?_
  refine RegI.d ?_
  refine RunsI.g 1 [.c 12, .c 15, .lp 9, .blk 0, .c 29] ?_
  rcases of_cond h with ⟨hc3, h⟩ | ⟨hc3, h⟩
  ·skip
   refine RunsI.f 9 true hc3 ?_
   refine RunsI.b true 13 ?_
   refine RunsI.g 1 [.c 15, .lp 9, .blk 0, .c 29] ?_
   refine RunsI.g 3 [.c 18, .c 19, .blk 1, .c 28, .lp 9, .blk 0, .c 29] ?_
   refine RunsI.r ?_
   obtain ⟨hc4, h⟩ := of_cond0 h
   refine RegI.o (OpE.idxSl 10 0 22 t2 hH (by kernel_rfl) rfl (by kernel_rfl) (by kernel_rfl) hc4 ?_)
   intro b5 o6 cs7 hk8 h9
   obtain ⟨_, _, rfl, rfl, rfl⟩ := hk8
   refine RegI.o (OpE.loadCel 11 1 38 b5 o6 0 (.agg #[.int .u16 ((rdD p0 t2).1), .int .u8 ((rdD p0 t2).2)]) h9 (by kernel_rfl) (by kernel_rfl) rfl (by kernel_rfl) ?_)
   refine RegI.o (OpE.box 5 38 [.int .u16 0, .int .u8 0] h9 (by kernel_rfl) (by kernel_rfl) ?_)
   intro w10 b11 h12 hb13 hn14
   refine RegI.o (OpE.storeBox 2 38 b11 0 (.agg #[.int .u16 ((rdD p0 t2).1), .int .u8 ((rdD p0 t2).2)]) [.int .u16 ((rdD p0 t2).1), .int .u8 ((rdD p0 t2).2)] h12 (by kernel_rfl) (by kernel_rfl) rfl (by kernel_rfl) (by kernel_rfl) (by kernel_rfl) ?_)
   intro w15 h16 hk17
   refine RegI.d ?_
   refine RunsI.g 2 [.c 21, .c 22, .c 27, .blk 1, .c 28, .lp 9, .blk 0, .c 29] ?_
   refine RunsI.r ?_
   refine RegI.p 1 [(3, .int .i64 t1), (5, .pointer (some ⟨b11, 0, none⟩)), (6, .slice pA0 p0.length pc0), (7, .int .i64 (p0.length : Int)), (8, .int .i64 t2), (12, .pointer (some ⟨b11, 1, none⟩))] ?_
   refine RegI.o (OpE.loadBox 13 2 5 b11 1 (.int .u8 ((rdD p0 t2).2)) h16 (by kernel_rfl) (by kernel_rfl) rfl (by kernel_rfl) ?_)
   refine RegI.p 2 [(3, .int .i64 t1), (5, .pointer (some ⟨b11, 0, none⟩)), (6, .slice pA0 p0.length pc0), (7, .int .i64 (p0.length : Int)), (8, .int .i64 t2), (15, .bool (((rdD p0 t2).2) == 0))] ?_
   obtain ⟨j22, hJ23, h⟩ := of_let h
   have hj24 : ∀ (t19 : Bool) (w21 : World), j22 t19 = some x → Holds M0 w0 w21 [box b11 38 [.int .u16 ((rdD p0 t2).1), .int .u8 ((rdD p0 t2).2)], sl (Rp.pair (Rp.int .u16) (Rp.int .u8)) (.slice pA0 p0.length pc0) p0] → RegI F8 21 [.c 22, .c 27, .blk 1, .c 28, .lp 9, .blk 0, .c 29] 10 [(5, .pointer (some ⟨b11, 0, none⟩)), (6, .slice pA0 p0.length pc0), (7, .int .i64 (p0.length : Int)), (8, .int .i64 t2), (21, .bool t19)] w21 R := by
    intro t19 w21 h h20
    rw [hJ23] at h
    clear hJ23
    dsimp only at h
    refine RegI.d ?_
    rcases of_cond h with ⟨hc25, h⟩ | ⟨hc25, h⟩
    ·skip
     refine RunsI.f 21 true hc25 ?_
     refine RunsI.b true 23 ?_
     refine RunsI.g 1 [.c 24, .c 25, .c 27, .blk 1, .c 28, .lp 9, .blk 0, .c 29] ?_
     refine RunsI.r ?_
     refine RegI.p 1 [(2, .int .i64 1)] ?_
     refine RegI.d ?_
     refine RunsI.t (.int .i64 1) ?_
     exact hk1 w21 (Option.some.inj h).symm (h20.pick [] (by decide))
    ·skip
     refine RunsI.f 21 false hc25 ?_
     refine RunsI.b false 26 ?_
     refine RunsI.g 1 [.c 27, .blk 1, .c 28, .lp 9, .blk 0, .c 29] ?_
     refine RunsI.r ?_
     refine RegI.p 1 [(6, .slice pA0 p0.length pc0), (7, .int .i64 (p0.length : Int)), (8, .int .i64 t2), (22, .pointer (some ⟨b11, 0, none⟩))] ?_
     refine RegI.o (OpE.loadBox 23 0 23 b11 0 (.int .u16 ((rdD p0 t2).1)) h20 (by kernel_rfl) (by kernel_rfl) rfl (by kernel_rfl) ?_)
     refine RegI.p 2 [(3, .int .i64 (IntKind.wrap .i64 ((rdD p0 t2).1))), (6, .slice pA0 p0.length pc0), (7, .int .i64 (p0.length : Int)), (8, .int .i64 t2)] ?_
     refine RegI.d ?_
     refine RunsI.g 1 [.c 28, .lp 9, .blk 0, .c 29] ?_
     refine RunsI.r ?_
     refine RegI.p 2 [(3, .int .i64 (IntKind.wrap .i64 ((rdD p0 t2).1))), (6, .slice pA0 p0.length pc0), (7, .int .i64 (p0.length : Int)), (8, .int .i64 (IntKind.wrap .i64 (t2 + 1)))] ?_
     refine RegI.d ?_
     refine RunsI.g 1 [.c 9, .lp 9, .blk 0, .c 29] ?_
     refine RunsI.l [3, 6, 7, 8] [(3, .int .i64 (IntKind.wrap .i64 ((rdD p0 t2).1))), (6, .slice pA0 p0.length pc0), (7, .int .i64 (p0.length : Int)), (8, .int .i64 (IntKind.wrap .i64 (t2 + 1)))] ?_
     exact ih (IntKind.wrap .i64 ((rdD p0 t2).1)) (IntKind.wrap .i64 (t2 + 1)) w21 h (h20.pick [1] (by decide))
   clear hJ23
   rcases of_cond h with ⟨hc18, h⟩ | ⟨hc18, h⟩
   ·skip
    refine RegI.f 15 true hc18 ?_
    refine RegI.p 6 [(5, .pointer (some ⟨b11, 0, none⟩)), (6, .slice pA0 p0.length pc0), (7, .int .i64 (p0.length : Int)), (8, .int .i64 t2), (21, .bool true)] ?_
    refine RegI.l [5, 6, 7, 8, 21] [(5, .pointer (some ⟨b11, 0, none⟩)), (6, .slice pA0 p0.length pc0), (7, .int .i64 (p0.length : Int)), (8, .int .i64 t2), (21, .bool true)] ?_
    exact hj24 true w15 h (h16.pick [2, 0] (by decide))
   ·skip
    refine RegI.f 15 false hc18 ?_
    refine RegI.p 1 [(3, .int .i64 t1), (5, .pointer (some ⟨b11, 0, none⟩)), (6, .slice pA0 p0.length pc0), (7, .int .i64 (p0.length : Int)), (8, .int .i64 t2), (15, .bool false), (16, .pointer (some ⟨b11, 0, none⟩))] ?_
    refine RegI.o (OpE.loadBox 17 2 23 b11 0 (.int .u16 ((rdD p0 t2).1)) h16 (by kernel_rfl) (by kernel_rfl) rfl (by kernel_rfl) ?_)
    refine RegI.p 4 [(5, .pointer (some ⟨b11, 0, none⟩)), (6, .slice pA0 p0.length pc0), (7, .int .i64 (p0.length : Int)), (8, .int .i64 t2), (21, .bool (decide ((IntKind.wrap .i64 ((rdD p0 t2).1)) ≤ t1)))] ?_
    refine RegI.l [5, 6, 7, 8, 21] [(5, .pointer (some ⟨b11, 0, none⟩)), (6, .slice pA0 p0.length pc0), (7, .int .i64 (p0.length : Int)), (8, .int .i64 t2), (21, .bool (decide ((IntKind.wrap .i64 ((rdD p0 t2).1)) ≤ t1)))] ?_
    exact hj24 (decide ((IntKind.wrap .i64 ((rdD p0 t2).1)) ≤ t1)) w15 h (h16.pick [2, 0] (by decide))
  ·skip
   refine RunsI.f 9 false hc3 ?_
   refine RunsI.b false 14 ?_
   refine RunsI.g 1 [.c 29] ?_
   refine RunsI.l [] [] ?_
   exact hk0 w (Option.some.inj h).symm (hH.pick [] (by decide))
def cells_Check_8.f (K : Nat) (p0 : List (Int × Int)) : Option Int := (cells_Check_8.l0 K p0 K (-1) 0).bind (fun x26 => Lp.elim x26 (fun _ => some 1) (fun _ => some 0))
set_option maxRecDepth 100000 in
theorem cells_Check_8_ok (K : Nat) (M0 : Nat → Prop) (w0 : World) (pA0 : Option Addr) (pc0 : Nat) (p0 : List (Int × Int)) (ho : ∀ b, M0 b → b < w0.heap.size) (hs0 : Sl (Rp.pair (Rp.int .u16) (Rp.int .u8)) w0 M0 (.slice pA0 p0.length pc0) p0) {r : Int} (h : cells_Check_8.f K p0 = some r) :
  Calls Try.prog 8 #[.slice pA0 p0.length pc0] w0 (cells_Check_8.post M0 w0 r) := by
 unfold cells_Check_8.f at h
 have h0 : Holds M0 w0 w0 [] := Holds.start ho
 have h00 := h0.addSl (Rp.pair (Rp.int .u16) (Rp.int .u8)) (.slice pA0 p0.length pc0) p0 (hs0.mono (fun _ _ hm => hm.elim id (fun hm => absurd hm (by simp [mines, sl]))))
 have h0 : Holds M0 w0 w0 [sl (Rp.pair (Rp.int .u16) (Rp.int .u8)) (.slice pA0 p0.length pc0) p0] := h00
 refine calls_of F8 rfl [.slice pA0 p0.length pc0] (by kernel_rfl) ?_
 refine RunsI.g 1 [.c 1, .c 2] ?_
 refine RunsI.r ?_
 refine RegI.p 1 [(0, .slice pA0 p0.length pc0)] ?_
 refine RegI.d ?_
 refine RunsI.g 1 [.c 3, .c 4] ?_
 refine RunsI.r ?_
 refine RegI.p 1 [(0, .slice pA0 p0.length pc0), (3, .int .i64 (-1))] ?_
 refine RegI.d ?_
 refine RunsI.g 2 [.c 6, .c 7, .c 29] ?_
 refine RunsI.r ?_
 refine RegI.p 3 [(3, .int .i64 (-1)), (6, .slice pA0 p0.length pc0), (7, .int .i64 (p0.length : Int)), (8, .int .i64 0)] ?_
 refine RegI.d ?_
 refine RunsI.g 2 [.c 9, .lp 9, .blk 0, .c 29] ?_
 obtain ⟨x26, hx27, h⟩ := of_bind h
 refine RunsI.l [3, 6, 7, 8] [(3, .int .i64 (-1)), (6, .slice pA0 p0.length pc0), (7, .int .i64 (p0.length : Int)), (8, .int .i64 0)] ?_
 refine cells_Check_8.l0_ok K M0 w0 pA0 pc0 p0 _ x26 ?_ ?_ K (-1) 0 w0 hx27 (h0.pick [0] (by decide))
 ·intro w29 hq32 h28
  (try rw [hq32] at h)
  dsimp only [Lp.elim] at h
  refine RunsI.g 1 [.c 30, .c 31] ?_
  refine RunsI.r ?_
  refine RegI.p 1 [(2, .int .i64 0)] ?_
  refine RegI.d ?_
  refine RunsI.t (.int .i64 0) ?_
  obtain rfl := Option.some.inj h
  exact ⟨rfl, h28.below⟩
 ·intro w31 hq33 h30
  (try rw [hq33] at h)
  dsimp only [Lp.elim] at h
  obtain rfl := Option.some.inj h
  exact ⟨rfl, h30.below⟩
end

/-! ### (charabanc/cells.memory).told (function 24) -/
section
open Go.Shelf Go.Lib Go.Sort
theorem isNaN34 (x : Int) (w : World) : Calls Try.prog 34 #[.int .u16 x] w fun e w' => e = .returned (.bool false) ∧ w' = w := by
 go_enter Try.func34, Try.ntmps34
 go_wp2
 go_ret
 exact ⟨by simp, rfl⟩
theorem cmp31 (x y : Int) (w : World) : Calls Try.prog 31 #[.int .u16 x, .int .u16 y] w fun e w' => e = .returned (.int .i64 (Lib.compareInt x y)) ∧ w' = w := by
 go_enter Try.func31, Try.ntmps31
 go_wp2_with (go_at_call 34; refine (isNaN34 _ _).mono ?_; rintro e w' ⟨rfl, rfl⟩)
 all_goals (go_ret; refine ⟨?_, rfl⟩; unfold Lib.compareInt; (repeat' split) <;> first | rfl | (exfalso; omega))
theorem closure30 (x y : Int × Int) (W : World) : Calls Try.prog 30 #[.agg #[.int .u16 x.1, .int .u8 x.2], .agg #[.int .u16 y.1, .int .u8 y.2]] W fun e w' => e = .returned (.int .i64 (Lib.compareInt x.1 y.1)) ∧ ∃ q os', w' = grow (W.drewN q) os' := by
 have hcon := fun W' => cmp31 x.1 y.1 W'
 generalize Lib.compareInt x.1 y.1 = r at hcon ⊢
 go_enter Try.func30, Try.ntmps30
 go_wp2_with (go_at_call 31; refine (hcon _).mono ?_; rintro e w' ⟨rfl, rfl⟩)
 go_ret
 exact ⟨rfl, 0, _, by rw [alloc_eq_grow, alloc_eq_grow, grow_grow]; rfl⟩
end
abbrev Rc : Rp (Int × Int) := Rp.pair (Rp.int .u16) (Rp.int .u8)
def encC (x : Int × Int) : List Value := [.int .u16 x.1, .int .u8 x.2]
theorem rc_enc {w : World} {M : Nat → Prop} {x : Int × Int} {cs : List Value} : Rc.K w M x cs ↔ cs = encC x := by
 constructor
 ·rintro ⟨c1, c2, rfl, h1, h2⟩
  rw [show c1 = _ from h1, show c2 = _ from h2]; rfl
 ·rintro rfl
  exact ⟨[_], [_], rfl, rfl, rfl⟩
section
open Go.Shelf Go.Lib Go.Sort
theorem cells_memory_told_24_lt : ltOf (fun x y : Int × Int => Lib.compareInt x.1 y.1) = fun x y => decide (x.1 < y.1) := by
 funext x y
 unfold ltOf Lib.compareInt
 by_cases h1 : x.1 < y.1
 ·simp [h1]
 ·by_cases h2 : y.1 < x.1 <;> simp [h1, h2]
theorem cells_memory_told_24_sorts : SortsBy Try.prog 29 30 encC 2 (Prod.fst : Int × Int → Int) := by
 refine ⟨fun blk off cap D w hH hb hs => ?_, fun w => ?_⟩
 ·have eg : ∀ args w, (callFunc 30 args).run Try.prog w = .ok (.enter 30 args) w := enters_of Try.func30 (by kernel_rfl) rfl
  have hO : SWO (ltOf fun x y : Int × Int => Lib.compareInt x.1 y.1) := by
   rw [cells_memory_told_24_lt]
   exact ⟨fun x => by simp, fun x y z h1 h2 => by simp at *; omega, fun x y z h1 h2 => by simp at *; omega⟩
  have hcon := AnyQ.slices_SortFunc Try.sortC 2 Try.isAgg38 Try.sizeOf38 encC (fun _ => rfl) (fun x v hv => by simp [encC] at hv; rcases hv with rfl | rfl <;> rfl) (fun x y => Lib.compareInt x.1 y.1) hO 30 #[] blk off cap D w eg (fun _ _ _ _ x y => closure30 x y _) hH hb hs
  rw [cells_memory_told_24_lt] at hcon
  exact hcon
 ·refine (AnyF.slices_SortFunc_none Try.sortC none 0 _ w).mono ?_
  rintro e w' ⟨rfl, rfl⟩
  exact ⟨rfl, Below.refl _ _⟩
end
theorem cells_memory_told_24_ord {M0 : Nat → Prop} {w0 w : World} {H : List Chunk} {c cp : Nat} {A : Option Addr} {xs : List (Int × Int)} (hS : SortsBy Try.prog 29 30 encC 2 (Prod.fst : Int × Int → Int)) (hH : Holds M0 w0 w H) (hi : H[c]? = some (own Rc 38 (.slice A xs.length cp) xs)) (hn : sortR Prod.fst xs = true) :
  Calls Try.prog 27 #[.slice A xs.length cp] w fun e w' => e = .returned (.slice A xs.length xs.length) ∧ Holds M0 w0 w' (H.set c (own Rc 38 (.slice A xs.length cp) (sortB Prod.fst xs))) := by
 refine calls_of F27 rfl [.slice A xs.length cp] (by kernel_rfl) ?_
 refine RunsI.g 1 [.c 1, .c 2] ?_
 refine RunsI.r ?_
 refine RegI.p 1 [(0, .slice A xs.length cp)] ?_
 refine RegI.d ?_
 refine RunsI.g 1 [.c 3, .c 4] ?_
 refine RunsI.r ?_
 refine RegI.p 1 [(0, .slice A xs.length cp), (3, .slice A xs.length cp)] ?_
 refine RegI.o (OpE.call 4 (by kernel_rfl) 29 #[.slice A xs.length cp, .func (.func 30) #[] #[]] (by kernel_rfl) ((Holds.sortBy hS (fun _ => rfl) rc_enc hH hi hn).mono ?_))
 rintro _ w1 ⟨rfl, h1⟩
 refine ⟨_, rfl, ?_⟩
 refine RegI.l [0] [(0, .slice A xs.length cp)] ?_
 refine RegI.d ?_
 refine RunsI.g 1 [.c 5, .c 6] ?_
 refine RunsI.r ?_
 refine RegI.p 5 [(5, .slice A xs.length cp), (7, .int .i64 (xs.length : Int)), (9, .int .i64 (xs.length : Int))] ?_
 have hc : c < H.length := (List.getElem?_eq_some_iff.1 hi).1
 have hcap := own_cap (h1.get c (by rw [List.getElem?_set_self hc]))
 refine RegI.o (OpE.run 10 (by kernel_rfl) (run_cutFull (A := A) (T := 22) (E := 38) (s := 2) (y := 4) (by kernel_rfl) (by kernel_rfl) hcap) ?_)
 refine RegI.p 1 [(2, .slice A xs.length xs.length)] ?_
 refine RegI.d ?_
 refine RunsI.t (.slice A xs.length xs.length) ?_
 exact ⟨rfl, h1⟩
abbrev eK : Int → Value := ekI .u16
abbrev eV : Int → Value := fun x => .int .u8 x
theorem cells_memory_told_24_loop {M0 : Nat → Prop} {w0 : World} {b r : Nat} {kvs : List (Int × Int)} (hR : mayBe kvs.length 4 = true) {R : Ending → World → Prop}
  (hk : ∀ (out : List (Int × Int)) (A : Option Addr) (cp : Nat) (cur : Option (Int × Int)) (w1 : World), out.Perm kvs → Holds M0 w0 w1 [mpR eK eV b kvs, own Rc 38 (.slice A out.length cp) out, itr eK eV r b [] cur] → RunsI F24 [.c 19] [(3, .slice A out.length cp)] w1 R) :
  ∀ (m : Nat) (left out : List (Int × Int)) (A : Option Addr) (cp : Nat) (cur : Option (Int × Int)) (w : World), left.length = m → (out ++ left).Perm kvs → Holds M0 w0 w [mpR eK eV b kvs, own Rc 38 (.slice A out.length cp) out, itr eK eV r b left cur] →
   RunsI F24 [.c 9, .lp 9, .blk 0, .c 19] [(3, .slice A out.length cp), (10, .pointer (some ⟨r, 0, none⟩))] w R := by
 intro m
 induction m with
 | zero =>
  intro left out A cp cur w hm hp hH
  obtain rfl : left = [] := List.eq_nil_of_length_eq_zero hm
  refine RunsI.g 1 [.c 10, .c 11, .lp 9, .blk 0, .c 19] ?_
  refine RunsI.r ?_
  refine RegI.o (OpE.nextMap (ek := eK) (ev := eV) 11 2 hH (by kernel_rfl) rfl (by kernel_rfl) (fun _ => ?_) (fun p left' w' hp' _ => absurd hp'.length_eq (by simp)))
  refine RegI.p 1 [(3, .slice A out.length cp), (12, .bool false)] ?_
  refine RegI.d ?_
  refine RunsI.g 1 [.c 12, .c 15, .lp 9, .blk 0, .c 19] ?_
  refine RunsI.b false 14 ?_
  refine RunsI.g 1 [.c 19] ?_
  rw [List.append_nil] at hp
  refine RunsI.l [3] [(3, .slice A out.length cp)] ?_
  exact hk out A cp cur w hp hH
 | succ m ih =>
  intro left out A cp cur w hm hp hH
  refine RunsI.g 1 [.c 10, .c 11, .lp 9, .blk 0, .c 19] ?_
  refine RunsI.r ?_
  refine RegI.o (OpE.nextMap (ek := eK) (ev := eV) 11 2 hH (by kernel_rfl) rfl (by kernel_rfl) (fun h0 => by rw [h0] at hm; cases hm) (fun p left' w1 hp' hH1 => ?_))
  have hm' : left'.length = m := by have := hp'.length_eq; simp at this; omega
  have hp2 : (out ++ [p] ++ left').Perm kvs := by
   rw [List.append_assoc]
   exact (hp'.symm.append_left out).trans hp
  refine RegI.p 1 [(3, .slice A out.length cp), (10, .pointer (some ⟨r, 0, none⟩)), (12, .bool true)] ?_
  refine RegI.d ?_
  refine RunsI.g 1 [.c 12, .c 15, .lp 9, .blk 0, .c 19] ?_
  refine RunsI.b true 13 ?_
  refine RunsI.g 1 [.c 15, .lp 9, .blk 0, .c 19] ?_
  refine RunsI.g 2 [.c 17, .c 18, .blk 1, .lp 9, .blk 0, .c 19] ?_
  refine RunsI.r ?_
  refine RegI.o (OpE.entryMap (ek := eK) (ev := eV) 13 2 p hH1 (by kernel_rfl) rfl (by kernel_rfl) ?_)
  refine RegI.p 4 [(3, .slice A out.length cp), (10, .pointer (some ⟨r, 0, none⟩)), (4, .int .u16 p.1), (5, .int .u8 p.2)] ?_
  refine RegI.d ?_
  refine RunsI.r ?_
  refine RegI.p 4 [(10, .pointer (some ⟨r, 0, none⟩)), (16, .slice A out.length cp), (19, .agg #[.int .u16 p.1, .int .u8 p.2])] ?_
  refine RegI.o (OpE.lit 20 38 [.int .u16 p.1, .int .u8 p.2] 1 hH1 (by kernel_rfl) (by kernel_rfl) ?_)
  intro w2 b2 h2 hb2 hn2
  have hmb : mayBe (out.length + ([p] : List (Int × Int)).length) 4 = true := by
   have hl := hp2.length_eq
   simp only [List.length_append, List.length_cons, List.length_nil] at hl ⊢
   have := mayBe_spec hR
   simp only [mayBe, Bool.and_eq_true, Nat.ble_eq]
   omega
  refine RegI.o (OpE.appendBox 21 1 3 22 38 4 ([p] : List (Int × Int)) 0 h2 (by kernel_rfl) (by kernel_rfl) (by kernel_rfl) rfl rfl rfl ⟨_, _, rfl, ⟨[_], [_], rfl, rfl, rfl⟩, rfl⟩ hmb ?_)
  intro w3 A3 c3 h3 hk3
  refine RegI.p 1 [(3, .slice A3 ((out ++ [p]).length) c3), (10, .pointer (some ⟨r, 0, none⟩))] ?_
  refine RegI.d ?_
  refine RunsI.g 2 [.c 9, .lp 9, .blk 0, .c 19] ?_
  exact ih left' (out ++ [p]) A3 c3 (some p) w3 hm' hp2 (h3.pick [0, 1, 2] (by decide))
def cells_memory_told_24.post (M0 : Nat → Prop) (w0 : World) (r : List (Int × Int)) : Ending → World → Prop := fun e w => ∃ (A : Option Addr) (c : Nat), e = .returned (.slice A r.length c) ∧ Holds M0 w0 w [sl Rc (.slice A r.length c) r]
def cells_memory_told_24.f (K : Nat) (kvs : List (Int × Int)) : Option (List (Int × Int)) := cond (mayBe kvs.length 4 && sortR Prod.fst kvs) (some (sortB Prod.fst kvs)) none
theorem cells_memory_told_24.sortR_perm {a b : List (Int × Int)} (hp : a.Perm b) (h : sortR Prod.fst b = true) : sortR Prod.fst a = true := by
 rw [sortR, Bool.and_eq_true] at h ⊢
 refine ⟨distB_iff.2 (((hp.map Prod.fst).nodup_iff).2 (distB_iff.1 h.1)), ?_⟩
 rw [hp.length_eq]; exact h.2
theorem cells_memory_told_24_ok (K : Nat) (M0 : Nat → Prop) (w0 : World) (b : Nat) (kvs : List (Int × Int)) (ho : ∀ b, M0 b → b < w0.heap.size) (hm : (mpR eK eV b kvs).ok w0 M0) {r : List (Int × Int)} (h : cells_memory_told_24.f K kvs = some r) :
  Calls Try.prog 24 #[.map (some b)] w0 (cells_memory_told_24.post M0 w0 r) := by
 unfold cells_memory_told_24.f at h
 obtain ⟨hc, h⟩ := of_cond0 h
 obtain rfl := Option.some.inj h
 rw [Bool.and_eq_true] at hc
 have h0 : Holds M0 w0 w0 [] := Holds.start ho
 have h0 : Holds M0 w0 w0 [mpR eK eV b kvs] := h0.add (mpR eK eV b kvs) rfl ⟨fun hx => hm.1 (hx.elim id (fun hx => absurd hx (by simp [mines]))), hm.2⟩
 refine calls_of F24 rfl [.map (some b)] (by kernel_rfl) ?_
 refine RunsI.g 1 [.c 1, .c 2] ?_
 refine RunsI.r ?_
 refine RegI.p 1 [(0, .map (some b))] ?_
 refine RegI.d ?_
 refine RunsI.g 1 [.c 3, .c 4] ?_
 refine RunsI.r ?_
 refine RegI.p 1 [(0, .map (some b)), (6, .map (some b))] ?_
 refine RegI.o (OpE.run 7 (by kernel_rfl) (run_mapLen (ek := eK) (ev := eV) (T := 40) (kT := 23) (eT := 5) (b := b) (kvs := kvs) (by kernel_rfl) hm.2 (by kernel_rfl)) ?_)
 have hmk : makeR (kvs.length : Int) 4 = true := by
  have := mayBe_spec hc.1
  simp only [makeR, Bool.and_eq_true, decide_eq_true_eq]
  omega
 refine RegI.o (OpE.makeNil 8 22 38 4 (k := .i64) (k' := .i64) (x := (kvs.length : Int)) Rc h0 (by kernel_rfl) (by kernel_rfl) (by kernel_rfl) hmk ?_)
 intro w1 A1 c1 h1 hb1
 refine RegI.p 1 [(0, .map (some b)), (3, .slice A1 ([] : List (Int × Int)).length c1)] ?_
 refine RegI.d ?_
 refine RunsI.g 2 [.c 6, .c 7, .c 19] ?_
 refine RunsI.r ?_
 refine RegI.p 1 [(3, .slice A1 ([] : List (Int × Int)).length c1), (9, .map (some b))] ?_
 refine RegI.o (OpE.rangeMap (ek := eK) (ev := eV) 10 0 40 23 5 h1 (by kernel_rfl) rfl (by kernel_rfl) (by kernel_rfl) ?_)
 intro w2 r2 h2 hb2 hr2
 refine RegI.l [3, 10] [(3, .slice A1 ([] : List (Int × Int)).length c1), (10, .pointer (some ⟨r2, 0, none⟩))] ?_
 refine RegI.d ?_
 refine RunsI.g 2 [.c 9, .lp 9, .blk 0, .c 19] ?_
 refine cells_memory_told_24_loop hc.1 ?_ kvs.length kvs [] A1 c1 none w2 rfl (.refl _) h2
 intro out A3 c3 cur w3 hp h3
 have hn := cells_memory_told_24.sortR_perm hp hc.2
 refine RunsI.g 1 [.c 20, .c 21] ?_
 refine RunsI.r ?_
 refine RegI.p 1 [(22, .slice A3 out.length c3)] ?_
 refine RegI.o (OpE.call 23 (by kernel_rfl) 27 #[.slice A3 out.length c3] (by kernel_rfl) ((cells_memory_told_24_ord cells_memory_told_24_sorts h3 (c := 1) rfl hn).mono ?_))
 rintro _ w4 ⟨rfl, h4⟩
 refine ⟨_, rfl, ?_⟩
 refine RegI.p 1 [(2, .slice A3 out.length out.length)] ?_
 refine RegI.d ?_
 refine RunsI.t (.slice A3 out.length out.length) ?_
 have hs := sortB_perm_eq Prod.fst hp ((distB_iff.1 (by rw [sortR, Bool.and_eq_true] at hc; exact hc.2.1)))
 have hlen : (sortB Prod.fst kvs).length = out.length := by rw [(sortB_perm Prod.fst kvs).length_eq, hp.length_eq]
 have h5 := h4.release 1 rfl
 rw [hs] at h5
 have h6 := h5.pick [1] (by decide)
 have h7 : Sl Rc w4 (Mset M0 [sl Rc (.slice A3 out.length c3) (sortB Prod.fst kvs)]) (.slice A3 (sortB Prod.fst kvs).length c3) (sortB Prod.fst kvs) := by rw [hlen]; exact h6.get 0 rfl
 have h8 := Sl.recap h7
 refine ⟨A3, (sortB Prod.fst kvs).length, by rw [hlen], ?_⟩
 have h9 := h6.turn 0 (c' := sl Rc (.slice A3 (sortB Prod.fst kvs).length (sortB Prod.fst kvs).length) (sortB Prod.fst kvs)) rfl h6.below (Nat.le_refl _) (fun _ _ _ => rfl) (fun b hb => by simp [sl] at hb) (by simp [sl]) (fun hM => Sl.keep (Nat.le_refl _) (fun _ _ _ => rfl) hM h8)
 exact h9


/-! ### charabanc/cells.Make (function 11) -/
section
def cells_Make_11.post (M0 : Nat → Prop) (w0 : World) (r : (List (Int × Int))) : Ending → World → Prop := fun e w => ∃ (A1 : Option Addr) (c1 : Nat), e = .returned (.slice A1 r.length c1) ∧ Holds M0 w0 w [sl (Rp.pair (Rp.int .u16) (Rp.int .u8)) (.slice A1 r.length c1) r]
def cells_Make_11.l0 (K : Nat) (p0 : List (Int × Int)) : Nat → (List (Int × Int)) → Int → Option (List (Int × Int))
 | 0, _, _ => none
 | k + 1, t7, t8 => cond (decide (t8 < (p0.length : Int))) (cond (inR t8 p0.length) (Let (fun (t31 : (List (Int × Int))) => cells_Make_11.l0 K p0 k t31 (IntKind.wrap .i64 (t8 + 1))) (fun j34 => cond (((rdD p0 t8).2) == 0) (j34 (delK t7 ((rdD p0 t8).1))) (j34 (insK t7 ((rdD p0 t8).1) ((rdD p0 t8).2))))) none) (some t7)
set_option maxRecDepth 100000 in
theorem cells_Make_11.l0_ok (K : Nat) (M0 : Nat → Prop) (w0 : World) (pA0 : Option Addr) (pc0 : Nat) (p0 : List (Int × Int)) (b6 : Nat) (R : Ending → World → Prop) (x : (List (Int × Int))) (hk0 : ∀ (t37 : List (Int × Int)) (w1 : World), x = t37 → Holds M0 w0 w1 [mp (ekI .u16) (fun (x : Int) => Value.int .u8 x) b6 t37] → RunsI F23 [.c 21] [(3, .map (some b6))] w1 R) :
  ∀ (k : Nat) (t7 : List (Int × Int)) (t8 : Int) (w : World), cells_Make_11.l0 K p0 k t7 t8 = some x → Holds M0 w0 w [mp (ekI .u16) (fun (x : Int) => Value.int .u8 x) b6 t7, sl (Rp.pair (Rp.int .u16) (Rp.int .u8)) (.slice pA0 p0.length pc0) p0] → RunsI F23 [.c 9, .lp 9, .blk 0, .c 21] [(3, .map (some b6)), (7, .slice pA0 p0.length pc0), (8, .int .i64 (p0.length : Int)), (9, .int .i64 t8)] w R := by
 intro k
 induction k with
 | zero => intro t7 t8 w h hH; exact absurd h (by simp [cells_Make_11.l0])
 | succ k ih =>
  intro t7 t8 w h hH
  rw [cells_Make_11.l0.eq_2] at h
  refine RunsI.g 1 [.c 10, .c 11, .lp 9, .blk 0, .c 21] ?_
  refine RunsI.r ?_
  refine RegI.p 1 [(3, .map (some b6)), (7, .slice pA0 p0.length pc0), (8, .int .i64 (p0.length : Int)), (9, .int .i64 t8), (10, .bool (decide (t8 < (p0.length : Int))))] ?_
  refine RegI.d ?_
  refine RunsI.g 1 [.c 12, .c 15, .lp 9, .blk 0, .c 21] ?_
  rcases of_cond h with ⟨hc9, h⟩ | ⟨hc9, h⟩
  ·skip
   refine RunsI.f 10 true hc9 ?_
   refine RunsI.b true 13 ?_
   refine RunsI.g 1 [.c 15, .lp 9, .blk 0, .c 21] ?_
   refine RunsI.g 3 [.c 18, .c 19, .blk 1, .c 20, .lp 9, .blk 0, .c 21] ?_
   refine RunsI.r ?_
   obtain ⟨hc10, h⟩ := of_cond0 h
   refine RegI.o (OpE.idxSl 11 1 22 t8 hH (by kernel_rfl) rfl (by kernel_rfl) (by kernel_rfl) hc10 ?_)
   intro b11 o12 cs13 hk14 h15
   obtain ⟨_, _, rfl, rfl, rfl⟩ := hk14
   refine RegI.o (OpE.loadCel 12 2 38 b11 o12 0 (.agg #[.int .u16 ((rdD p0 t8).1), .int .u8 ((rdD p0 t8).2)]) h15 (by kernel_rfl) (by kernel_rfl) rfl (by kernel_rfl) ?_)
   refine RegI.o (OpE.box 5 38 [.int .u16 0, .int .u8 0] h15 (by kernel_rfl) (by kernel_rfl) ?_)
   intro w16 b17 h18 hb19 hn20
   refine RegI.o (OpE.storeBox 3 38 b17 0 (.agg #[.int .u16 ((rdD p0 t8).1), .int .u8 ((rdD p0 t8).2)]) [.int .u16 ((rdD p0 t8).1), .int .u8 ((rdD p0 t8).2)] h18 (by kernel_rfl) (by kernel_rfl) rfl (by kernel_rfl) (by kernel_rfl) (by kernel_rfl) ?_)
   intro w21 h22 hk23
   refine RegI.d ?_
   refine RunsI.r ?_
   refine RegI.p 2 [(3, .map (some b6)), (5, .pointer (some ⟨b17, 0, none⟩)), (7, .slice pA0 p0.length pc0), (8, .int .i64 (p0.length : Int)), (9, .int .i64 t8), (13, .map (some b6)), (14, .pointer (some ⟨b17, 0, none⟩))] ?_
   refine RegI.o (OpE.loadBox 15 3 23 b17 0 (.int .u16 ((rdD p0 t8).1)) h22 (by kernel_rfl) (by kernel_rfl) rfl (by kernel_rfl) ?_)
   refine RegI.p 1 [(3, .map (some b6)), (7, .slice pA0 p0.length pc0), (8, .int .i64 (p0.length : Int)), (9, .int .i64 t8), (13, .map (some b6)), (15, .int .u16 ((rdD p0 t8).1)), (16, .pointer (some ⟨b17, 1, none⟩))] ?_
   refine RegI.o (OpE.loadBox 17 3 5 b17 1 (.int .u8 ((rdD p0 t8).2)) h22 (by kernel_rfl) (by kernel_rfl) rfl (by kernel_rfl) ?_)
   refine RegI.enter 18 [3, 7, 8, 9] [(3, .map (some b6)), (7, .slice pA0 p0.length pc0), (8, .int .i64 (p0.length : Int)), (9, .int .i64 t8)] (by kernel_rfl) (by kernel_rfl) (by kernel_rfl) (by kernel_rfl) F26 26 rfl [.map (some b6), .int .u16 ((rdD p0 t8).1), .int .u8 ((rdD p0 t8).2)] (by kernel_rfl) (by kernel_rfl) ?_
   obtain ⟨j34, hJ35, h⟩ := of_let h
   have hj36 : ∀ (t31 : List (Int × Int)) (w33 : World), j34 t31 = some x → Holds M0 w0 w33 [mp (ekI .u16) (fun (x : Int) => Value.int .u8 x) b6 t31, sl (Rp.pair (Rp.int .u16) (Rp.int .u8)) (.slice pA0 p0.length pc0) p0] → RegI F23 19 [.blk 1, .c 20, .lp 9, .blk 0, .c 21] 6 [(3, .map (some b6)), (7, .slice pA0 p0.length pc0), (8, .int .i64 (p0.length : Int)), (9, .int .i64 t8)] w33 R := by
    intro t31 w33 h h32
    rw [hJ35] at h
    clear hJ35
    dsimp only at h
    refine RegI.d ?_
    refine RunsI.g 1 [.c 20, .lp 9, .blk 0, .c 21] ?_
    refine RunsI.r ?_
    refine RegI.p 2 [(3, .map (some b6)), (7, .slice pA0 p0.length pc0), (8, .int .i64 (p0.length : Int)), (9, .int .i64 (IntKind.wrap .i64 (t8 + 1)))] ?_
    refine RegI.d ?_
    refine RunsI.g 1 [.c 9, .lp 9, .blk 0, .c 21] ?_
    refine RunsI.l [3, 7, 8, 9] [(3, .map (some b6)), (7, .slice pA0 p0.length pc0), (8, .int .i64 (p0.length : Int)), (9, .int .i64 (IntKind.wrap .i64 (t8 + 1)))] ?_
    exact ih t31 (IntKind.wrap .i64 (t8 + 1)) w33 h (h32.pick [0, 1] (by decide))
   clear hJ35
   refine RunsI.g 2 [.c 2, .c 3, .c 8] ?_
   refine RunsI.r ?_
   refine RegI.p 2 [(0, .map (some b6)), (1, .int .u16 ((rdD p0 t8).1)), (2, .int .u8 ((rdD p0 t8).2)), (7, .bool (((rdD p0 t8).2) == 0))] ?_
   refine RegI.d ?_
   rcases of_cond h with ⟨hc24, h⟩ | ⟨hc24, h⟩
   ·skip
    refine RunsI.f 7 true hc24 ?_
    refine RunsI.b true 4 ?_
    refine RunsI.g 1 [.c 5, .c 6, .c 8] ?_
    refine RunsI.r ?_
    refine RegI.p 2 [(8, .map (some b6)), (9, .int .u16 ((rdD p0 t8).1))] ?_
    refine RegI.o (OpE.mapDel (ek := (ekI .u16)) (ev := (fun (x : Int) => Value.int .u8 x)) 0 40 23 5 [23] ((rdD p0 t8).1) h22 (by kernel_rfl) rfl (by kernel_rfl) rfl (by kernel_rfl) (KeyOk.int .u16 (by kernel_rfl)) (delK t7 ((rdD p0 t8).1)) rfl ?_)
    intro w25 h26 hk27
    refine RegI.d ?_
    refine RunsI.t (.tuple #[]) ?_
    refine cont_mk ?_
    refine RegI.l [3, 7, 8, 9] [(3, .map (some b6)), (7, .slice pA0 p0.length pc0), (8, .int .i64 (p0.length : Int)), (9, .int .i64 t8)] ?_
    exact hj36 (delK t7 ((rdD p0 t8).1)) w25 h (h26.pick [0, 1] (by decide))
   ·skip
    refine RunsI.f 7 false hc24 ?_
    refine RunsI.b false 7 ?_
    refine RunsI.g 1 [.c 8] ?_
    refine RunsI.r ?_
    refine RegI.p 3 [(10, .map (some b6)), (11, .int .u16 ((rdD p0 t8).1)), (12, .int .u8 ((rdD p0 t8).2))] ?_
    refine RegI.o (OpE.mapSet (ek := (ekI .u16)) (ev := (fun (x : Int) => Value.int .u8 x)) 0 40 23 5 ((rdD p0 t8).1) ((rdD p0 t8).2) h22 (by kernel_rfl) rfl (by kernel_rfl) rfl rfl (by kernel_rfl) (KeyOk.int .u16 (by kernel_rfl)) (insK t7 ((rdD p0 t8).1) ((rdD p0 t8).2)) rfl ?_)
    intro w28 h29 hk30
    refine RegI.d ?_
    refine RunsI.t (.tuple #[]) ?_
    refine cont_mk ?_
    refine RegI.l [3, 7, 8, 9] [(3, .map (some b6)), (7, .slice pA0 p0.length pc0), (8, .int .i64 (p0.length : Int)), (9, .int .i64 t8)] ?_
    exact hj36 (insK t7 ((rdD p0 t8).1) ((rdD p0 t8).2)) w28 h (h29.pick [0, 1] (by decide))
  ·skip
   refine RunsI.f 10 false hc9 ?_
   refine RunsI.b false 14 ?_
   refine RunsI.g 1 [.c 21] ?_
   refine RunsI.l [3] [(3, .map (some b6))] ?_
   exact hk0 t7 w (Option.some.inj h).symm (hH.pick [0] (by decide))
def cells_Make_11.f (K : Nat) (p0 : List (Int × Int)) : Option (List (Int × Int)) := (cells_Make_11.l0 K p0 K ([] : List (Int × Int)) 0).bind (fun t40 => (cells_memory_told_24.f K t40).bind fun t48 => some t48)
set_option maxRecDepth 100000 in
theorem cells_Make_11_ok (K : Nat) (M0 : Nat → Prop) (w0 : World) (pA0 : Option Addr) (pc0 : Nat) (p0 : List (Int × Int)) (ho : ∀ b, M0 b → b < w0.heap.size) (hs0 : Sl (Rp.pair (Rp.int .u16) (Rp.int .u8)) w0 M0 (.slice pA0 p0.length pc0) p0) {r : (List (Int × Int))} (h : cells_Make_11.f K p0 = some r) :
  Calls Try.prog 11 #[.slice pA0 p0.length pc0] w0 (cells_Make_11.post M0 w0 r) := by
 unfold cells_Make_11.f at h
 have h0 : Holds M0 w0 w0 [] := Holds.start ho
 have h00 := h0.addSl (Rp.pair (Rp.int .u16) (Rp.int .u8)) (.slice pA0 p0.length pc0) p0 (hs0.mono (fun _ _ hm => hm.elim id (fun hm => absurd hm (by simp [mines, sl]))))
 have h0 : Holds M0 w0 w0 [sl (Rp.pair (Rp.int .u16) (Rp.int .u8)) (.slice pA0 p0.length pc0) p0] := h00
 refine calls_of F11 rfl [.slice pA0 p0.length pc0] (by kernel_rfl) ?_
 refine RunsI.g 1 [.c 1, .c 2] ?_
 refine RunsI.r ?_
 refine RegI.p 1 [(0, .slice pA0 p0.length pc0)] ?_
 refine RegI.d ?_
 refine RunsI.g 1 [.c 3, .c 4] ?_
 refine RunsI.r ?_
 refine RegI.p 1 [(3, .slice pA0 p0.length pc0)] ?_
 refine RegI.enter 4 [] [] (by kernel_rfl) (by kernel_rfl) (by kernel_rfl) (by kernel_rfl) F23 23 rfl [.slice pA0 p0.length pc0] (by kernel_rfl) (by kernel_rfl) ?_
 refine RunsI.g 1 [.c 1, .c 2] ?_
 refine RunsI.r ?_
 refine RegI.p 1 [(0, .slice pA0 p0.length pc0)] ?_
 refine RegI.d ?_
 refine RunsI.g 1 [.c 3, .c 4] ?_
 refine RunsI.r ?_
 refine RegI.o (OpE.makeMap 6 (ekI .u16) (fun (x : Int) => Value.int .u8 x) h0 (by kernel_rfl) (by kernel_rfl) ?_)
 intro w1 b2 h3 hb4 hn5
 refine RegI.p 1 [(0, .slice pA0 p0.length pc0), (3, .map (some b2))] ?_
 refine RegI.d ?_
 refine RunsI.g 2 [.c 6, .c 7, .c 21] ?_
 refine RunsI.r ?_
 refine RegI.p 3 [(3, .map (some b2)), (7, .slice pA0 p0.length pc0), (8, .int .i64 (p0.length : Int)), (9, .int .i64 0)] ?_
 refine RegI.d ?_
 refine RunsI.g 2 [.c 9, .lp 9, .blk 0, .c 21] ?_
 obtain ⟨x38, hx39, h⟩ := of_bind h
 refine RunsI.l [3, 7, 8, 9] [(3, .map (some b2)), (7, .slice pA0 p0.length pc0), (8, .int .i64 (p0.length : Int)), (9, .int .i64 0)] ?_
 refine cells_Make_11.l0_ok K M0 w0 pA0 pc0 p0 b2 _ x38 ?_ K ([] : List (Int × Int)) 0 w1 hx39 (h3.pick [1, 0] (by decide))
 ·intro t40 w42 hq53 h41
  (try rw [hq53] at h)
  refine RunsI.g 1 [.c 22, .c 23] ?_
  refine RunsI.r ?_
  refine RegI.p 2 [(2, .map (some b2))] ?_
  refine RegI.d ?_
  refine RunsI.t (.map (some b2)) ?_
  refine cont_mk ?_
  obtain ⟨t48, hg47, h⟩ := of_bind h
  have h43 := h41.releaseMap 0 rfl
  refine RegI.o (OpE.call 5 (by kernel_rfl) 24 #[.map (some b2)] (by kernel_rfl) ((cells_memory_told_24_ok K _ w42  b2 t40 h43.old' (h43.get 0 rfl) hg47).mono ?_))
  rintro _ w44 ⟨A49, c50, rfl, hr52⟩
  refine ⟨_, rfl, ?_⟩
  have hb45 := hr52.below
  have h46 := h43.join hr52
  refine RegI.p 1 [(2, .slice A49 t48.length c50)] ?_
  refine RegI.d ?_
  refine RunsI.t (.slice A49 t48.length c50) ?_
  obtain rfl := Option.some.inj h
  exact ⟨A49, c50, rfl, h46.pick [1] (by decide)⟩
end

/-! ### charabanc/cells.Get (function 13) -/
section
def cells_Get_13.post (M0 : Nat → Prop) (w0 : World) (r : Int) : Ending → World → Prop := fun e w => e = .returned (.int .u8 r) ∧ Below w0.heap.size w0 w
def cells_Get_13.l0 (K : Nat) (p0 : List (Int × Int)) (p1 : Int) : Nat → Int → Option (Lp Int Unit)
 | 0, _ => none
 | k + 1, t27 => cond (decide (t27 ≥ 0)) (cond (inR t27 p0.length) (cond (((rdD p0 t27).1) == p1) (some (Lp.ret ((rdD p0 t27).2))) (cells_Get_13.l0 K p0 p1 k (IntKind.wrap .i64 (t27 - 1)))) none) (some (Lp.go ()))
set_option maxRecDepth 100000 in
theorem cells_Get_13.l0_ok (K : Nat) (M0 : Nat → Prop) (w0 : World) (pA0 : Option Addr) (pc0 : Nat) (p0 : List (Int × Int)) (p1 : Int) (b23 : Nat) (b24 : Nat) (b25 : Nat) (b26 : Nat) (b28 : Nat) (R : Ending → World → Prop) (x : Lp Int Unit) (hk0 : ∀ (w1 : World), x = Lp.go () → Holds M0 w0 w1 [box b25 5 [.int .u8 0], rng F13 6 b23 [(3, .pointer (some ⟨b24, 0, none⟩)), (4, .pointer (some ⟨b25, 0, none⟩)), (8, .func (.func 28) #[] #[.pointer (some ⟨b26, 0, none⟩)])] .ready none, box b24 23 [.int .u16 p1], box b26 22 [.slice pA0 p0.length pc0], sl (Rp.pair (Rp.int .u16) (Rp.int .u8)) (.slice pA0 p0.length pc0) p0, dfr b28] → RunsI F28 [] [] w1 R) (hk1 : ∀ (t57 : Int) (w1 : World), x = Lp.ret t57 → Holds M0 w0 w1 [box b25 5 [.int .u8 t57], rng F13 6 b23 [(3, .pointer (some ⟨b24, 0, none⟩)), (4, .pointer (some ⟨b25, 0, none⟩)), (8, .func (.func 28) #[] #[.pointer (some ⟨b26, 0, none⟩)])] .done (some 14), box b24 23 [.int .u16 p1], box b26 22 [.slice pA0 p0.length pc0], sl (Rp.pair (Rp.int .u16) (Rp.int .u8)) (.slice pA0 p0.length pc0) p0, dfr b28] → R (.returned (.tuple #[])) w1) :
  ∀ (k : Nat) (t27 : Int) (w : World), cells_Get_13.l0 K p0 p1 k t27 = some x → Holds M0 w0 w [rng F13 6 b23 [(3, .pointer (some ⟨b24, 0, none⟩)), (4, .pointer (some ⟨b25, 0, none⟩)), (8, .func (.func 28) #[] #[.pointer (some ⟨b26, 0, none⟩)])] .ready none, box b24 23 [.int .u16 p1], box b25 5 [.int .u8 0], box b26 22 [.slice pA0 p0.length pc0], sl (Rp.pair (Rp.int .u16) (Rp.int .u8)) (.slice pA0 p0.length pc0) p0, dfr b28] → RunsI F28 [.c 4, .lp 4, .blk 0] [(0, .func (.yield b23) #[] #[]), (1, .pointer (some ⟨b26, 0, none⟩)), (3, .int .i64 t27)] w R := by
 intro k
 induction k with
 | zero => intro t27 w h hH; exact absurd h (by simp [cells_Get_13.l0])
 | succ k ih =>
  intro t27 w h hH
  rw [cells_Get_13.l0.eq_2] at h
  refine RunsI.g 1 [.c 5, .c 10, .lp 4, .blk 0] ?_
  refine RunsI.g 1 [.c 6, .c 7, .c 10, .lp 4, .blk 0] ?_
  refine RunsI.r ?_
  refine RegI.p 2 [(0, .func (.yield b23) #[] #[]), (1, .pointer (some ⟨b26, 0, none⟩)), (3, .int .i64 t27), (8, .bool (decide (t27 ≥ 0)))] ?_
  refine RegI.d ?_
  rcases of_cond h with ⟨hc29, h⟩ | ⟨hc29, h⟩
  ·skip
   refine RunsI.f 8 true hc29 ?_
   refine RunsI.b true 8 ?_
   refine RunsI.g 1 [.c 10, .lp 4, .blk 0] ?_
   refine RunsI.g 3 [.c 13, .c 14, .blk 1, .c 17, .lp 4, .blk 0] ?_
   refine RunsI.r ?_
   refine RegI.p 2 [(0, .func (.yield b23) #[] #[]), (1, .pointer (some ⟨b26, 0, none⟩)), (3, .int .i64 t27), (11, .func (.yield b23) #[] #[]), (12, .int .i64 t27)] ?_
   refine RegI.o (OpE.loadBox 13 3 22 b26 0 (.slice pA0 p0.length pc0) hH (by kernel_rfl) (by kernel_rfl) rfl (by kernel_rfl) ?_)
   refine RegI.p 1 [(0, .func (.yield b23) #[] #[]), (1, .pointer (some ⟨b26, 0, none⟩)), (3, .int .i64 t27), (11, .func (.yield b23) #[] #[]), (12, .int .i64 t27), (13, .slice pA0 p0.length pc0), (14, .int .i64 t27)] ?_
   obtain ⟨hc30, h⟩ := of_cond0 h
   refine RegI.o (OpE.idxSl 15 4 22 t27 hH (by kernel_rfl) rfl (by kernel_rfl) (by kernel_rfl) hc30 ?_)
   intro b31 o32 cs33 hk34 h35
   obtain ⟨_, _, rfl, rfl, rfl⟩ := hk34
   refine RegI.o (OpE.loadCel 16 6 38 b31 o32 0 (.agg #[.int .u16 ((rdD p0 t27).1), .int .u8 ((rdD p0 t27).2)]) h35 (by kernel_rfl) (by kernel_rfl) rfl (by kernel_rfl) ?_)
   refine RegI.yield 17 b23 6 0 [.int .i64 t27, .agg #[.int .u16 ((rdD p0 t27).1), .int .u8 ((rdD p0 t27).2)]] [0, 1, 3] [(0, .func (.yield b23) #[] #[]), (1, .pointer (some ⟨b26, 0, none⟩)), (3, .int .i64 t27)] h35 (by kernel_rfl) (by kernel_rfl) (by kernel_rfl) (by kernel_rfl) rfl (by kernel_rfl) (by kernel_rfl) (by kernel_rfl) [.c 7, .bg, .c 8] (by kernel_rfl) [(10, .agg #[.int .u16 ((rdD p0 t27).1), .int .u8 ((rdD p0 t27).2)]), (9, .int .i64 t27), (3, .pointer (some ⟨b24, 0, none⟩)), (4, .pointer (some ⟨b25, 0, none⟩)), (8, .func (.func 28) #[] #[.pointer (some ⟨b26, 0, none⟩)])] (by kernel_rfl) ?_
   refine RunsI.l [3, 4, 10] [(3, .pointer (some ⟨b24, 0, none⟩)), (4, .pointer (some ⟨b25, 0, none⟩)), (10, .agg #[.int .u16 ((rdD p0 t27).1), .int .u8 ((rdD p0 t27).2)])] ?_
   refine RunsI.r ?_
   refine RegI.o (OpE.box 6 38 [.int .u16 0, .int .u8 0] h35 (by kernel_rfl) (by kernel_rfl) ?_)
   intro w36 b37 h38 hb39 hn40
   refine RegI.o (OpE.storeBox 7 38 b37 0 (.agg #[.int .u16 ((rdD p0 t27).1), .int .u8 ((rdD p0 t27).2)]) [.int .u16 ((rdD p0 t27).1), .int .u8 ((rdD p0 t27).2)] h38 (by kernel_rfl) (by kernel_rfl) rfl (by kernel_rfl) (by kernel_rfl) (by kernel_rfl) ?_)
   intro w41 h42 hk43
   refine RegI.d ?_
   refine RunsI.begin 0 h42 rfl rfl ?_
   intro w44 h45 hk46
   refine RunsI.g 2 [.c 10, .c 11, .blk 1] ?_
   refine RunsI.r ?_
   refine RegI.p 1 [(3, .pointer (some ⟨b24, 0, none⟩)), (4, .pointer (some ⟨b25, 0, none⟩)), (6, .pointer (some ⟨b37, 0, none⟩)), (11, .pointer (some ⟨b37, 0, none⟩))] ?_
   refine RegI.o (OpE.loadBox 12 7 23 b37 0 (.int .u16 ((rdD p0 t27).1)) h45 (by kernel_rfl) (by kernel_rfl) rfl (by kernel_rfl) ?_)
   refine RegI.o (OpE.loadBox 13 1 23 b24 0 (.int .u16 p1) h45 (by kernel_rfl) (by kernel_rfl) rfl (by kernel_rfl) ?_)
   refine RegI.p 1 [(4, .pointer (some ⟨b25, 0, none⟩)), (6, .pointer (some ⟨b37, 0, none⟩)), (14, .bool (((rdD p0 t27).1) == p1))] ?_
   refine RegI.d ?_
   rcases of_cond h with ⟨hc47, h⟩ | ⟨hc47, h⟩
   ·skip
    refine RunsI.f 14 true hc47 ?_
    refine RunsI.b true 12 ?_
    refine RunsI.g 1 [.c 13, .c 14, .blk 1] ?_
    refine RunsI.r ?_
    refine RegI.p 1 [(4, .pointer (some ⟨b25, 0, none⟩)), (15, .pointer (some ⟨b37, 1, none⟩))] ?_
    refine RegI.o (OpE.loadBox 16 7 5 b37 1 (.int .u8 ((rdD p0 t27).2)) h45 (by kernel_rfl) (by kernel_rfl) rfl (by kernel_rfl) ?_)
    refine RegI.o (OpE.storeBox 2 5 b25 0 (.int .u8 ((rdD p0 t27).2)) [.int .u8 ((rdD p0 t27).2)] h45 (by kernel_rfl) (by kernel_rfl) rfl (by kernel_rfl) (by kernel_rfl) (by kernel_rfl) ?_)
    intro w48 h49 hk50
    refine RegI.d ?_
    refine RunsI.roundJump 0 14 h49 rfl rfl (by kernel_rfl) rfl ?_
    intro w51 h52 hk53
    refine cont_mk ?_
    refine RegI.p 1 [(0, .func (.yield b23) #[] #[]), (1, .pointer (some ⟨b26, 0, none⟩)), (3, .int .i64 t27), (18, .bool true)] ?_
    refine RegI.d ?_
    refine RunsI.b true 15 ?_
    refine RunsI.t (.tuple #[]) ?_
    exact hk1 ((rdD p0 t27).2) w51 (Option.some.inj h).symm (h52.pick [2, 0, 1, 3, 4, 5] (by decide))
   ·skip
    refine RunsI.f 14 false hc47 ?_
    refine RunsI.b false 15 ?_
    refine RunsI.g 1 [.blk 1] ?_
    refine RunsI.g 1 [] ?_
    refine RunsI.roundEnd 0 h45 rfl rfl ?_
    intro w54 h55 hk56
    refine cont_mk ?_
    refine RegI.p 1 [(0, .func (.yield b23) #[] #[]), (1, .pointer (some ⟨b26, 0, none⟩)), (3, .int .i64 t27), (18, .bool false)] ?_
    refine RegI.d ?_
    refine RunsI.b false 16 ?_
    refine RunsI.g 2 [.c 17, .lp 4, .blk 0] ?_
    refine RunsI.r ?_
    refine RegI.p 3 [(0, .func (.yield b23) #[] #[]), (1, .pointer (some ⟨b26, 0, none⟩)), (3, .int .i64 (IntKind.wrap .i64 (t27 - 1)))] ?_
    refine RegI.d ?_
    refine RunsI.g 1 [.c 4, .lp 4, .blk 0] ?_
    refine RunsI.l [0, 1, 3] [(0, .func (.yield b23) #[] #[]), (1, .pointer (some ⟨b26, 0, none⟩)), (3, .int .i64 (IntKind.wrap .i64 (t27 - 1)))] ?_
    exact ih (IntKind.wrap .i64 (t27 - 1)) w54 h (h55.pick [0, 1, 2, 3, 4, 5] (by decide))
  ·skip
   refine RunsI.f 8 false hc29 ?_
   refine RunsI.b false 9 ?_
   refine RunsI.g 1 [] ?_
   refine RunsI.l [] [] ?_
   exact hk0 w (Option.some.inj h).symm (hH.pick [2, 0, 1, 3, 4, 5] (by decide))
def cells_Get_13.f (K : Nat) (p0 : List (Int × Int)) (p1 : Int) : Option Int := (cells_Get_13.l0 K p0 p1 K (IntKind.wrap .i64 ((p0.length : Int) - 1))).bind (fun x58 => Lp.elim x58 (fun t62 => some t62) (fun _ => some 0))
set_option maxRecDepth 100000 in
theorem cells_Get_13_ok (K : Nat) (M0 : Nat → Prop) (w0 : World) (pA0 : Option Addr) (pc0 : Nat) (p0 : List (Int × Int)) (p1 : Int) (ho : ∀ b, M0 b → b < w0.heap.size) (hs0 : Sl (Rp.pair (Rp.int .u16) (Rp.int .u8)) w0 M0 (.slice pA0 p0.length pc0) p0) {r : Int} (h : cells_Get_13.f K p0 p1 = some r) :
  Calls Try.prog 13 #[.slice pA0 p0.length pc0, .int .u16 p1] w0 (cells_Get_13.post M0 w0 r) := by
 unfold cells_Get_13.f at h
 have h0 : Holds M0 w0 w0 [] := Holds.start ho
 have h00 := h0.addSl (Rp.pair (Rp.int .u16) (Rp.int .u8)) (.slice pA0 p0.length pc0) p0 (hs0.mono (fun _ _ hm => hm.elim id (fun hm => absurd hm (by simp [mines, sl]))))
 have h0 : Holds M0 w0 w0 [sl (Rp.pair (Rp.int .u16) (Rp.int .u8)) (.slice pA0 p0.length pc0) p0] := h00
 refine calls_of F13 rfl [.slice pA0 p0.length pc0, .int .u16 p1] (by kernel_rfl) ?_
 refine RunsI.g 1 [.c 1, .c 2] ?_
 refine RunsI.r ?_
 refine RegI.o (OpE.box 3 23 [.int .u16 p1] h0 (by kernel_rfl) (by kernel_rfl) ?_)
 intro w1 b2 h3 hb4 hn5
 refine RegI.o (OpE.box 4 5 [.int .u8 0] h3 (by kernel_rfl) (by kernel_rfl) ?_)
 intro w6 b7 h8 hb9 hn10
 refine RegI.d ?_
 refine RunsI.g 2 [.c 4, .c 5, .c 16] ?_
 refine RunsI.r ?_
 refine RegI.p 1 [(3, .pointer (some ⟨b2, 0, none⟩)), (4, .pointer (some ⟨b7, 0, none⟩)), (7, .slice pA0 p0.length pc0)] ?_
 refine RegI.enter 8 [3, 4] [(3, .pointer (some ⟨b2, 0, none⟩)), (4, .pointer (some ⟨b7, 0, none⟩))] (by kernel_rfl) (by kernel_rfl) (by kernel_rfl) (by kernel_rfl) F25 25 rfl [.slice pA0 p0.length pc0] (by kernel_rfl) (by kernel_rfl) ?_
 refine RunsI.g 1 [.c 1, .c 2] ?_
 refine RunsI.r ?_
 refine RegI.o (OpE.box 1 22 [.slice pA0 p0.length pc0] h8 (by kernel_rfl) (by kernel_rfl) ?_)
 intro w11 b12 h13 hb14 hn15
 refine RegI.p 1 [(1, .pointer (some ⟨b12, 0, none⟩))] ?_
 refine RegI.d ?_
 refine RunsI.g 1 [.c 3, .c 4] ?_
 refine RunsI.r ?_
 refine RegI.p 2 [(2, .func (.func 28) #[] #[.pointer (some ⟨b12, 0, none⟩)])] ?_
 refine RegI.d ?_
 refine RunsI.t (.func (.func 28) #[] #[.pointer (some ⟨b12, 0, none⟩)]) ?_
 refine cont_mk ?_
 refine RegI.d ?_
 refine RunsI.g 1 [.c 6, .blk 0, .c 16] ?_
 refine RunsI.rangeFunc (G := F28) [3, 4, 8] [(3, .pointer (some ⟨b2, 0, none⟩)), (4, .pointer (some ⟨b7, 0, none⟩)), (8, .func (.func 28) #[] #[.pointer (some ⟨b12, 0, none⟩)])] 28 [.pointer (some ⟨b12, 0, none⟩)] h13 (by kernel_rfl) (by kernel_rfl) (by kernel_rfl) (fun _ _ => by kernel_rfl) rfl rfl (by kernel_rfl) rfl rfl ?_
 intro b16 b17 w18 h19 hb20 hn21 hn22
 refine RunsI.g 1 [.c 1, .c 2] ?_
 refine RunsI.r ?_
 refine RegI.o (OpE.loadBox 4 3 22 b12 0 (.slice pA0 p0.length pc0) h19 (by kernel_rfl) (by kernel_rfl) rfl (by kernel_rfl) ?_)
 refine RegI.p 3 [(0, .func (.yield b17) #[] #[]), (1, .pointer (some ⟨b12, 0, none⟩)), (3, .int .i64 (IntKind.wrap .i64 ((p0.length : Int) - 1)))] ?_
 refine RegI.d ?_
 refine RunsI.g 2 [.c 4, .lp 4, .blk 0] ?_
 obtain ⟨x58, hx59, h⟩ := of_bind h
 refine RunsI.l [0, 1, 3] [(0, .func (.yield b17) #[] #[]), (1, .pointer (some ⟨b12, 0, none⟩)), (3, .int .i64 (IntKind.wrap .i64 ((p0.length : Int) - 1)))] ?_
 refine cells_Get_13.l0_ok K M0 w0 pA0 pc0 p0 p1 b17 b2 b7 b12 b16 _ x58 ?_ ?_ K (IntKind.wrap .i64 ((p0.length : Int) - 1)) w18 hx59 (h19.pick [5, 1, 2, 3, 0, 4] (by decide))
 ·intro w61 hq80 h60
  (try rw [hq80] at h)
  dsimp only [Lp.elim] at h
  refine RunsI.t (.tuple #[]) ?_
  refine contR_mk ?_
  refine RunsI.endLoop 1 h60 rfl rfl (by intro hh; cases hh) [.blk 0, .c 16] (by kernel_rfl) ?_
  intro w65 h66 hk67
  refine RunsI.g 2 [.c 17, .c 18] ?_
  refine RunsI.r ?_
  refine RegI.o (OpE.storeBox 0 5 b7 0 (.int .u8 0) [.int .u8 0] h66 (by kernel_rfl) (by kernel_rfl) rfl (by kernel_rfl) (by kernel_rfl) (by kernel_rfl) ?_)
  intro w68 h69 hk70
  refine RegI.d ?_
  refine RunsI.toRet (by kernel_rfl) ?_
  refine RetI.takeH 5 b16 h69 rfl ?_
  intro w71 h72 hk73
  refine RetI.valW [.cell 4 5] [.int .u8 0] (.int .u8 0) (by kernel_rfl) (ResAt.box 0 5 b7 0 h72 (by kernel_rfl) (by kernel_rfl) rfl (by kernel_rfl) rfl) (by kernel_rfl) ?_
  obtain rfl := Option.some.inj h
  exact ⟨rfl, h72.below⟩
 ·intro t62 w64 hq81 h63
  (try rw [hq81] at h)
  dsimp only [Lp.elim] at h
  refine contR_mk ?_
  refine RunsI.endLoop 1 h63 rfl rfl (by intro hh; cases hh) [.c 14, .blk 0, .c 16] (by kernel_rfl) ?_
  intro w74 h75 hk76
  refine RunsI.toRet (by kernel_rfl) ?_
  refine RetI.takeH 5 b16 h75 rfl ?_
  intro w77 h78 hk79
  refine RetI.valW [.cell 4 5] [.int .u8 t62] (.int .u8 t62) (by kernel_rfl) (ResAt.box 0 5 b7 0 h78 (by kernel_rfl) (by kernel_rfl) rfl (by kernel_rfl) rfl) (by kernel_rfl) ?_
  obtain rfl := Option.some.inj h
  exact ⟨rfl, h78.below⟩
end

/-! ### charabanc/cells.Put (function 15) -/
section
def cells_Put_15.post (M0 : Nat → Prop) (w0 : World) (r : (List (Int × Int))) : Ending → World → Prop := fun e w => ∃ (A1 : Option Addr) (c1 : Nat), e = .returned (.slice A1 r.length c1) ∧ Holds M0 w0 w [sl (Rp.pair (Rp.int .u16) (Rp.int .u8)) (.slice A1 r.length c1) r]
def cells_Put_15.l0 (K : Nat) (p0 : List (Int × Int)) (p1 : Int) (p2 : Int) : Nat → (List (Int × Int)) → Int → Option (List (Int × Int))
 | 0, _, _ => none
 | k + 1, t7, t8 => cond (decide (t8 < (p0.length : Int))) (cond (inR t8 p0.length) (Let (fun (t31 : (List (Int × Int))) => cells_Put_15.l0 K p0 p1 p2 k t31 (IntKind.wrap .i64 (t8 + 1))) (fun j34 => cond (((rdD p0 t8).2) == 0) (j34 (delK t7 ((rdD p0 t8).1))) (j34 (insK t7 ((rdD p0 t8).1) ((rdD p0 t8).2))))) none) (some t7)
set_option maxRecDepth 100000 in
theorem cells_Put_15.l0_ok (K : Nat) (M0 : Nat → Prop) (w0 : World) (pA0 : Option Addr) (pc0 : Nat) (p0 : List (Int × Int)) (p1 : Int) (p2 : Int) (b6 : Nat) (R : Ending → World → Prop) (x : (List (Int × Int))) (hk0 : ∀ (t37 : List (Int × Int)) (w1 : World), x = t37 → Holds M0 w0 w1 [mp (ekI .u16) (fun (x : Int) => Value.int .u8 x) b6 t37] → RunsI F23 [.c 21] [(3, .map (some b6))] w1 R) :
  ∀ (k : Nat) (t7 : List (Int × Int)) (t8 : Int) (w : World), cells_Put_15.l0 K p0 p1 p2 k t7 t8 = some x → Holds M0 w0 w [mp (ekI .u16) (fun (x : Int) => Value.int .u8 x) b6 t7, sl (Rp.pair (Rp.int .u16) (Rp.int .u8)) (.slice pA0 p0.length pc0) p0] → RunsI F23 [.c 9, .lp 9, .blk 0, .c 21] [(3, .map (some b6)), (7, .slice pA0 p0.length pc0), (8, .int .i64 (p0.length : Int)), (9, .int .i64 t8)] w R := by
 intro k
 induction k with
 | zero => intro t7 t8 w h hH; exact absurd h (by simp [cells_Put_15.l0])
 | succ k ih =>
  intro t7 t8 w h hH
  rw [cells_Put_15.l0.eq_2] at h
  refine RunsI.g 1 [.c 10, .c 11, .lp 9, .blk 0, .c 21] ?_
  refine RunsI.r ?_
  refine RegI.p 1 [(3, .map (some b6)), (7, .slice pA0 p0.length pc0), (8, .int .i64 (p0.length : Int)), (9, .int .i64 t8), (10, .bool (decide (t8 < (p0.length : Int))))] ?_
  refine RegI.d ?_
  refine RunsI.g 1 [.c 12, .c 15, .lp 9, .blk 0, .c 21] ?_
  rcases of_cond h with ⟨hc9, h⟩ | ⟨hc9, h⟩
  ·skip
   refine RunsI.f 10 true hc9 ?_
   refine RunsI.b true 13 ?_
   refine RunsI.g 1 [.c 15, .lp 9, .blk 0, .c 21] ?_
   refine RunsI.g 3 [.c 18, .c 19, .blk 1, .c 20, .lp 9, .blk 0, .c 21] ?_
   refine RunsI.r ?_
   obtain ⟨hc10, h⟩ := of_cond0 h
   refine RegI.o (OpE.idxSl 11 1 22 t8 hH (by kernel_rfl) rfl (by kernel_rfl) (by kernel_rfl) hc10 ?_)
   intro b11 o12 cs13 hk14 h15
   obtain ⟨_, _, rfl, rfl, rfl⟩ := hk14
   refine RegI.o (OpE.loadCel 12 2 38 b11 o12 0 (.agg #[.int .u16 ((rdD p0 t8).1), .int .u8 ((rdD p0 t8).2)]) h15 (by kernel_rfl) (by kernel_rfl) rfl (by kernel_rfl) ?_)
   refine RegI.o (OpE.box 5 38 [.int .u16 0, .int .u8 0] h15 (by kernel_rfl) (by kernel_rfl) ?_)
   intro w16 b17 h18 hb19 hn20
   refine RegI.o (OpE.storeBox 3 38 b17 0 (.agg #[.int .u16 ((rdD p0 t8).1), .int .u8 ((rdD p0 t8).2)]) [.int .u16 ((rdD p0 t8).1), .int .u8 ((rdD p0 t8).2)] h18 (by kernel_rfl) (by kernel_rfl) rfl (by kernel_rfl) (by kernel_rfl) (by kernel_rfl) ?_)
   intro w21 h22 hk23
   refine RegI.d ?_
   refine RunsI.r ?_
   refine RegI.p 2 [(3, .map (some b6)), (5, .pointer (some ⟨b17, 0, none⟩)), (7, .slice pA0 p0.length pc0), (8, .int .i64 (p0.length : Int)), (9, .int .i64 t8), (13, .map (some b6)), (14, .pointer (some ⟨b17, 0, none⟩))] ?_
   refine RegI.o (OpE.loadBox 15 3 23 b17 0 (.int .u16 ((rdD p0 t8).1)) h22 (by kernel_rfl) (by kernel_rfl) rfl (by kernel_rfl) ?_)
   refine RegI.p 1 [(3, .map (some b6)), (7, .slice pA0 p0.length pc0), (8, .int .i64 (p0.length : Int)), (9, .int .i64 t8), (13, .map (some b6)), (15, .int .u16 ((rdD p0 t8).1)), (16, .pointer (some ⟨b17, 1, none⟩))] ?_
   refine RegI.o (OpE.loadBox 17 3 5 b17 1 (.int .u8 ((rdD p0 t8).2)) h22 (by kernel_rfl) (by kernel_rfl) rfl (by kernel_rfl) ?_)
   refine RegI.enter 18 [3, 7, 8, 9] [(3, .map (some b6)), (7, .slice pA0 p0.length pc0), (8, .int .i64 (p0.length : Int)), (9, .int .i64 t8)] (by kernel_rfl) (by kernel_rfl) (by kernel_rfl) (by kernel_rfl) F26 26 rfl [.map (some b6), .int .u16 ((rdD p0 t8).1), .int .u8 ((rdD p0 t8).2)] (by kernel_rfl) (by kernel_rfl) ?_
   obtain ⟨j34, hJ35, h⟩ := of_let h
   have hj36 : ∀ (t31 : List (Int × Int)) (w33 : World), j34 t31 = some x → Holds M0 w0 w33 [mp (ekI .u16) (fun (x : Int) => Value.int .u8 x) b6 t31, sl (Rp.pair (Rp.int .u16) (Rp.int .u8)) (.slice pA0 p0.length pc0) p0] → RegI F23 19 [.blk 1, .c 20, .lp 9, .blk 0, .c 21] 6 [(3, .map (some b6)), (7, .slice pA0 p0.length pc0), (8, .int .i64 (p0.length : Int)), (9, .int .i64 t8)] w33 R := by
    intro t31 w33 h h32
    rw [hJ35] at h
    clear hJ35
    dsimp only at h
    refine RegI.d ?_
    refine RunsI.g 1 [.c 20, .lp 9, .blk 0, .c 21] ?_
    refine RunsI.r ?_
    refine RegI.p 2 [(3, .map (some b6)), (7, .slice pA0 p0.length pc0), (8, .int .i64 (p0.length : Int)), (9, .int .i64 (IntKind.wrap .i64 (t8 + 1)))] ?_
    refine RegI.d ?_
    refine RunsI.g 1 [.c 9, .lp 9, .blk 0, .c 21] ?_
    refine RunsI.l [3, 7, 8, 9] [(3, .map (some b6)), (7, .slice pA0 p0.length pc0), (8, .int .i64 (p0.length : Int)), (9, .int .i64 (IntKind.wrap .i64 (t8 + 1)))] ?_
    exact ih t31 (IntKind.wrap .i64 (t8 + 1)) w33 h (h32.pick [0, 1] (by decide))
   clear hJ35
   refine RunsI.g 2 [.c 2, .c 3, .c 8] ?_
   refine RunsI.r ?_
   refine RegI.p 2 [(0, .map (some b6)), (1, .int .u16 ((rdD p0 t8).1)), (2, .int .u8 ((rdD p0 t8).2)), (7, .bool (((rdD p0 t8).2) == 0))] ?_
   refine RegI.d ?_
   rcases of_cond h with ⟨hc24, h⟩ | ⟨hc24, h⟩
   ·skip
    refine RunsI.f 7 true hc24 ?_
    refine RunsI.b true 4 ?_
    refine RunsI.g 1 [.c 5, .c 6, .c 8] ?_
    refine RunsI.r ?_
    refine RegI.p 2 [(8, .map (some b6)), (9, .int .u16 ((rdD p0 t8).1))] ?_
    refine RegI.o (OpE.mapDel (ek := (ekI .u16)) (ev := (fun (x : Int) => Value.int .u8 x)) 0 40 23 5 [23] ((rdD p0 t8).1) h22 (by kernel_rfl) rfl (by kernel_rfl) rfl (by kernel_rfl) (KeyOk.int .u16 (by kernel_rfl)) (delK t7 ((rdD p0 t8).1)) rfl ?_)
    intro w25 h26 hk27
    refine RegI.d ?_
    refine RunsI.t (.tuple #[]) ?_
    refine cont_mk ?_
    refine RegI.l [3, 7, 8, 9] [(3, .map (some b6)), (7, .slice pA0 p0.length pc0), (8, .int .i64 (p0.length : Int)), (9, .int .i64 t8)] ?_
    exact hj36 (delK t7 ((rdD p0 t8).1)) w25 h (h26.pick [0, 1] (by decide))
   ·skip
    refine RunsI.f 7 false hc24 ?_
    refine RunsI.b false 7 ?_
    refine RunsI.g 1 [.c 8] ?_
    refine RunsI.r ?_
    refine RegI.p 3 [(10, .map (some b6)), (11, .int .u16 ((rdD p0 t8).1)), (12, .int .u8 ((rdD p0 t8).2))] ?_
    refine RegI.o (OpE.mapSet (ek := (ekI .u16)) (ev := (fun (x : Int) => Value.int .u8 x)) 0 40 23 5 ((rdD p0 t8).1) ((rdD p0 t8).2) h22 (by kernel_rfl) rfl (by kernel_rfl) rfl rfl (by kernel_rfl) (KeyOk.int .u16 (by kernel_rfl)) (insK t7 ((rdD p0 t8).1) ((rdD p0 t8).2)) rfl ?_)
    intro w28 h29 hk30
    refine RegI.d ?_
    refine RunsI.t (.tuple #[]) ?_
    refine cont_mk ?_
    refine RegI.l [3, 7, 8, 9] [(3, .map (some b6)), (7, .slice pA0 p0.length pc0), (8, .int .i64 (p0.length : Int)), (9, .int .i64 t8)] ?_
    exact hj36 (insK t7 ((rdD p0 t8).1) ((rdD p0 t8).2)) w28 h (h29.pick [0, 1] (by decide))
  ·skip
   refine RunsI.f 10 false hc9 ?_
   refine RunsI.b false 14 ?_
   refine RunsI.g 1 [.c 21] ?_
   refine RunsI.l [3] [(3, .map (some b6))] ?_
   exact hk0 t7 w (Option.some.inj h).symm (hH.pick [0] (by decide))
def cells_Put_15.f (K : Nat) (p0 : List (Int × Int)) (p1 : Int) (p2 : Int) : Option (List (Int × Int)) := (cells_Put_15.l0 K p0 p1 p2 K ([] : List (Int × Int)) 0).bind (fun t40 => Let (fun (t50 : (List (Int × Int))) => (cells_memory_told_24.f K t50).bind fun t61 => some t61) (fun j53 => cond (p2 == 0) (j53 (delK t40 p1)) (j53 (insK t40 p1 p2))))
set_option maxRecDepth 100000 in
theorem cells_Put_15_ok (K : Nat) (M0 : Nat → Prop) (w0 : World) (pA0 : Option Addr) (pc0 : Nat) (p0 : List (Int × Int)) (p1 : Int) (p2 : Int) (ho : ∀ b, M0 b → b < w0.heap.size) (hs0 : Sl (Rp.pair (Rp.int .u16) (Rp.int .u8)) w0 M0 (.slice pA0 p0.length pc0) p0) {r : (List (Int × Int))} (h : cells_Put_15.f K p0 p1 p2 = some r) :
  Calls Try.prog 15 #[.slice pA0 p0.length pc0, .int .u16 p1, .int .u8 p2] w0 (cells_Put_15.post M0 w0 r) := by
 unfold cells_Put_15.f at h
 have h0 : Holds M0 w0 w0 [] := Holds.start ho
 have h00 := h0.addSl (Rp.pair (Rp.int .u16) (Rp.int .u8)) (.slice pA0 p0.length pc0) p0 (hs0.mono (fun _ _ hm => hm.elim id (fun hm => absurd hm (by simp [mines, sl]))))
 have h0 : Holds M0 w0 w0 [sl (Rp.pair (Rp.int .u16) (Rp.int .u8)) (.slice pA0 p0.length pc0) p0] := h00
 refine calls_of F15 rfl [.slice pA0 p0.length pc0, .int .u16 p1, .int .u8 p2] (by kernel_rfl) ?_
 refine RunsI.g 1 [.c 1, .c 2] ?_
 refine RunsI.r ?_
 refine RegI.p 1 [(0, .slice pA0 p0.length pc0), (1, .int .u16 p1), (2, .int .u8 p2)] ?_
 refine RegI.d ?_
 refine RunsI.g 1 [.c 3, .c 4] ?_
 refine RunsI.r ?_
 refine RegI.p 1 [(1, .int .u16 p1), (2, .int .u8 p2), (8, .slice pA0 p0.length pc0)] ?_
 refine RegI.enter 9 [1, 2] [(1, .int .u16 p1), (2, .int .u8 p2)] (by kernel_rfl) (by kernel_rfl) (by kernel_rfl) (by kernel_rfl) F23 23 rfl [.slice pA0 p0.length pc0] (by kernel_rfl) (by kernel_rfl) ?_
 refine RunsI.g 1 [.c 1, .c 2] ?_
 refine RunsI.r ?_
 refine RegI.p 1 [(0, .slice pA0 p0.length pc0)] ?_
 refine RegI.d ?_
 refine RunsI.g 1 [.c 3, .c 4] ?_
 refine RunsI.r ?_
 refine RegI.o (OpE.makeMap 6 (ekI .u16) (fun (x : Int) => Value.int .u8 x) h0 (by kernel_rfl) (by kernel_rfl) ?_)
 intro w1 b2 h3 hb4 hn5
 refine RegI.p 1 [(0, .slice pA0 p0.length pc0), (3, .map (some b2))] ?_
 refine RegI.d ?_
 refine RunsI.g 2 [.c 6, .c 7, .c 21] ?_
 refine RunsI.r ?_
 refine RegI.p 3 [(3, .map (some b2)), (7, .slice pA0 p0.length pc0), (8, .int .i64 (p0.length : Int)), (9, .int .i64 0)] ?_
 refine RegI.d ?_
 refine RunsI.g 2 [.c 9, .lp 9, .blk 0, .c 21] ?_
 obtain ⟨x38, hx39, h⟩ := of_bind h
 refine RunsI.l [3, 7, 8, 9] [(3, .map (some b2)), (7, .slice pA0 p0.length pc0), (8, .int .i64 (p0.length : Int)), (9, .int .i64 0)] ?_
 refine cells_Put_15.l0_ok K M0 w0 pA0 pc0 p0 p1 p2 b2 _ x38 ?_ K ([] : List (Int × Int)) 0 w1 hx39 (h3.pick [1, 0] (by decide))
 ·intro t40 w42 hq66 h41
  (try rw [hq66] at h)
  refine RunsI.g 1 [.c 22, .c 23] ?_
  refine RunsI.r ?_
  refine RegI.p 2 [(2, .map (some b2))] ?_
  refine RegI.d ?_
  refine RunsI.t (.map (some b2)) ?_
  refine cont_mk ?_
  refine RegI.p 1 [(1, .int .u16 p1), (2, .int .u8 p2), (7, .map (some b2))] ?_
  refine RegI.d ?_
  refine RunsI.g 1 [.c 5, .c 6] ?_
  refine RunsI.r ?_
  refine RegI.p 3 [(7, .map (some b2)), (10, .map (some b2)), (11, .int .u16 p1), (12, .int .u8 p2)] ?_
  refine RegI.enter 13 [7] [(7, .map (some b2))] (by kernel_rfl) (by kernel_rfl) (by kernel_rfl) (by kernel_rfl) F26 26 rfl [.map (some b2), .int .u16 p1, .int .u8 p2] (by kernel_rfl) (by kernel_rfl) ?_
  obtain ⟨j53, hJ54, h⟩ := of_let h
  have hj55 : ∀ (t50 : List (Int × Int)) (w52 : World), j53 t50 = some r → Holds M0 w0 w52 [mp (ekI .u16) (fun (x : Int) => Value.int .u8 x) b2 t50] → RegI F15 5 [.c 6] 4 [(7, .map (some b2))] w52 (cells_Put_15.post M0 w0 r) := by
   intro t50 w52 h h51
   rw [hJ54] at h
   clear hJ54
   dsimp only at h
   refine RegI.d ?_
   refine RunsI.g 1 [.c 7, .c 8] ?_
   refine RunsI.r ?_
   refine RegI.p 1 [(14, .map (some b2))] ?_
   obtain ⟨t61, hg60, h⟩ := of_bind h
   have h56 := h51.releaseMap 0 rfl
   refine RegI.o (OpE.call 15 (by kernel_rfl) 24 #[.map (some b2)] (by kernel_rfl) ((cells_memory_told_24_ok K _ w52  b2 t50 h56.old' (h56.get 0 rfl) hg60).mono ?_))
   rintro _ w57 ⟨A62, c63, rfl, hr65⟩
   refine ⟨_, rfl, ?_⟩
   have hb58 := hr65.below
   have h59 := h56.join hr65
   refine RegI.p 1 [(6, .slice A62 t61.length c63)] ?_
   refine RegI.d ?_
   refine RunsI.t (.slice A62 t61.length c63) ?_
   obtain rfl := Option.some.inj h
   exact ⟨A62, c63, rfl, h59.pick [1] (by decide)⟩
  clear hJ54
  refine RunsI.g 2 [.c 2, .c 3, .c 8] ?_
  refine RunsI.r ?_
  refine RegI.p 2 [(0, .map (some b2)), (1, .int .u16 p1), (2, .int .u8 p2), (7, .bool (p2 == 0))] ?_
  refine RegI.d ?_
  rcases of_cond h with ⟨hc43, h⟩ | ⟨hc43, h⟩
  ·skip
   refine RunsI.f 7 true hc43 ?_
   refine RunsI.b true 4 ?_
   refine RunsI.g 1 [.c 5, .c 6, .c 8] ?_
   refine RunsI.r ?_
   refine RegI.p 2 [(8, .map (some b2)), (9, .int .u16 p1)] ?_
   refine RegI.o (OpE.mapDel (ek := (ekI .u16)) (ev := (fun (x : Int) => Value.int .u8 x)) 0 40 23 5 [23] p1 h41 (by kernel_rfl) rfl (by kernel_rfl) rfl (by kernel_rfl) (KeyOk.int .u16 (by kernel_rfl)) (delK t40 p1) rfl ?_)
   intro w44 h45 hk46
   refine RegI.d ?_
   refine RunsI.t (.tuple #[]) ?_
   refine cont_mk ?_
   refine RegI.l [7] [(7, .map (some b2))] ?_
   exact hj55 (delK t40 p1) w44 h (h45.pick [0] (by decide))
  ·skip
   refine RunsI.f 7 false hc43 ?_
   refine RunsI.b false 7 ?_
   refine RunsI.g 1 [.c 8] ?_
   refine RunsI.r ?_
   refine RegI.p 3 [(10, .map (some b2)), (11, .int .u16 p1), (12, .int .u8 p2)] ?_
   refine RegI.o (OpE.mapSet (ek := (ekI .u16)) (ev := (fun (x : Int) => Value.int .u8 x)) 0 40 23 5 p1 p2 h41 (by kernel_rfl) rfl (by kernel_rfl) rfl rfl (by kernel_rfl) (KeyOk.int .u16 (by kernel_rfl)) (insK t40 p1 p2) rfl ?_)
   intro w47 h48 hk49
   refine RegI.d ?_
   refine RunsI.t (.tuple #[]) ?_
   refine cont_mk ?_
   refine RegI.l [7] [(7, .map (some b2))] ?_
   exact hj55 (insK t40 p1 p2) w47 h (h48.pick [0] (by decide))
end

/-! ### charabanc/cells.Load (function 17) -/
section
def cells_Load_17.post (M0 : Nat → Prop) (w0 : World) (r : (List (Int × Int))) : Ending → World → Prop := fun e w => ∃ (A1 : Option Addr) (c1 : Nat), e = .returned (.slice A1 r.length c1) ∧ Holds M0 w0 w [sl (Rp.pair (Rp.int .u16) (Rp.int .u8)) (.slice A1 r.length c1) r]
def cells_Load_17.l0 (K : Nat) (p0 : List (Int × Int)) (p1 : Int) (p2 : List Int) : Nat → (List (Int × Int)) → Int → Option (List (Int × Int))
 | 0, _, _ => none
 | k + 1, t7, t8 => cond (decide (t8 < (p0.length : Int))) (cond (inR t8 p0.length) (Let (fun (t31 : (List (Int × Int))) => cells_Load_17.l0 K p0 p1 p2 k t31 (IntKind.wrap .i64 (t8 + 1))) (fun j34 => cond (((rdD p0 t8).2) == 0) (j34 (delK t7 ((rdD p0 t8).1))) (j34 (insK t7 ((rdD p0 t8).1) ((rdD p0 t8).2))))) none) (some t7)
set_option maxRecDepth 100000 in
theorem cells_Load_17.l0_ok (K : Nat) (M0 : Nat → Prop) (w0 : World) (pA0 : Option Addr) (pc0 : Nat) (pA2 : Option Addr) (pc2 : Nat) (p0 : List (Int × Int)) (p1 : Int) (p2 : List Int) (b6 : Nat) (R : Ending → World → Prop) (x : (List (Int × Int))) (hk0 : ∀ (t37 : List (Int × Int)) (w1 : World), x = t37 → Holds M0 w0 w1 [mp (ekI .u16) (fun (x : Int) => Value.int .u8 x) b6 t37, sl (Rp.int .u8) (.slice pA2 p2.length pc2) p2] → RunsI F23 [.c 21] [(3, .map (some b6))] w1 R) :
  ∀ (k : Nat) (t7 : List (Int × Int)) (t8 : Int) (w : World), cells_Load_17.l0 K p0 p1 p2 k t7 t8 = some x → Holds M0 w0 w [mp (ekI .u16) (fun (x : Int) => Value.int .u8 x) b6 t7, sl (Rp.pair (Rp.int .u16) (Rp.int .u8)) (.slice pA0 p0.length pc0) p0, sl (Rp.int .u8) (.slice pA2 p2.length pc2) p2] → RunsI F23 [.c 9, .lp 9, .blk 0, .c 21] [(3, .map (some b6)), (7, .slice pA0 p0.length pc0), (8, .int .i64 (p0.length : Int)), (9, .int .i64 t8)] w R := by
 intro k
 induction k with
 | zero => intro t7 t8 w h hH; exact absurd h (by simp [cells_Load_17.l0])
 | succ k ih =>
  intro t7 t8 w h hH
  rw [cells_Load_17.l0.eq_2] at h
  refine RunsI.g 1 [.c 10, .c 11, .lp 9, .blk 0, .c 21] ?_
  refine RunsI.r ?_
  refine RegI.p 1 [(3, .map (some b6)), (7, .slice pA0 p0.length pc0), (8, .int .i64 (p0.length : Int)), (9, .int .i64 t8), (10, .bool (decide (t8 < (p0.length : Int))))] ?_
  refine RegI.d ?_
  refine RunsI.g 1 [.c 12, .c 15, .lp 9, .blk 0, .c 21] ?_
  rcases of_cond h with ⟨hc9, h⟩ | ⟨hc9, h⟩
  ·skip
   refine RunsI.f 10 true hc9 ?_
   refine RunsI.b true 13 ?_
   refine RunsI.g 1 [.c 15, .lp 9, .blk 0, .c 21] ?_
   refine RunsI.g 3 [.c 18, .c 19, .blk 1, .c 20, .lp 9, .blk 0, .c 21] ?_
   refine RunsI.r ?_
   obtain ⟨hc10, h⟩ := of_cond0 h
   refine RegI.o (OpE.idxSl 11 1 22 t8 hH (by kernel_rfl) rfl (by kernel_rfl) (by kernel_rfl) hc10 ?_)
   intro b11 o12 cs13 hk14 h15
   obtain ⟨_, _, rfl, rfl, rfl⟩ := hk14
   refine RegI.o (OpE.loadCel 12 3 38 b11 o12 0 (.agg #[.int .u16 ((rdD p0 t8).1), .int .u8 ((rdD p0 t8).2)]) h15 (by kernel_rfl) (by kernel_rfl) rfl (by kernel_rfl) ?_)
   refine RegI.o (OpE.box 5 38 [.int .u16 0, .int .u8 0] h15 (by kernel_rfl) (by kernel_rfl) ?_)
   intro w16 b17 h18 hb19 hn20
   refine RegI.o (OpE.storeBox 4 38 b17 0 (.agg #[.int .u16 ((rdD p0 t8).1), .int .u8 ((rdD p0 t8).2)]) [.int .u16 ((rdD p0 t8).1), .int .u8 ((rdD p0 t8).2)] h18 (by kernel_rfl) (by kernel_rfl) rfl (by kernel_rfl) (by kernel_rfl) (by kernel_rfl) ?_)
   intro w21 h22 hk23
   refine RegI.d ?_
   refine RunsI.r ?_
   refine RegI.p 2 [(3, .map (some b6)), (5, .pointer (some ⟨b17, 0, none⟩)), (7, .slice pA0 p0.length pc0), (8, .int .i64 (p0.length : Int)), (9, .int .i64 t8), (13, .map (some b6)), (14, .pointer (some ⟨b17, 0, none⟩))] ?_
   refine RegI.o (OpE.loadBox 15 4 23 b17 0 (.int .u16 ((rdD p0 t8).1)) h22 (by kernel_rfl) (by kernel_rfl) rfl (by kernel_rfl) ?_)
   refine RegI.p 1 [(3, .map (some b6)), (7, .slice pA0 p0.length pc0), (8, .int .i64 (p0.length : Int)), (9, .int .i64 t8), (13, .map (some b6)), (15, .int .u16 ((rdD p0 t8).1)), (16, .pointer (some ⟨b17, 1, none⟩))] ?_
   refine RegI.o (OpE.loadBox 17 4 5 b17 1 (.int .u8 ((rdD p0 t8).2)) h22 (by kernel_rfl) (by kernel_rfl) rfl (by kernel_rfl) ?_)
   refine RegI.enter 18 [3, 7, 8, 9] [(3, .map (some b6)), (7, .slice pA0 p0.length pc0), (8, .int .i64 (p0.length : Int)), (9, .int .i64 t8)] (by kernel_rfl) (by kernel_rfl) (by kernel_rfl) (by kernel_rfl) F26 26 rfl [.map (some b6), .int .u16 ((rdD p0 t8).1), .int .u8 ((rdD p0 t8).2)] (by kernel_rfl) (by kernel_rfl) ?_
   obtain ⟨j34, hJ35, h⟩ := of_let h
   have hj36 : ∀ (t31 : List (Int × Int)) (w33 : World), j34 t31 = some x → Holds M0 w0 w33 [mp (ekI .u16) (fun (x : Int) => Value.int .u8 x) b6 t31, sl (Rp.pair (Rp.int .u16) (Rp.int .u8)) (.slice pA0 p0.length pc0) p0, sl (Rp.int .u8) (.slice pA2 p2.length pc2) p2] → RegI F23 19 [.blk 1, .c 20, .lp 9, .blk 0, .c 21] 6 [(3, .map (some b6)), (7, .slice pA0 p0.length pc0), (8, .int .i64 (p0.length : Int)), (9, .int .i64 t8)] w33 R := by
    intro t31 w33 h h32
    rw [hJ35] at h
    clear hJ35
    dsimp only at h
    refine RegI.d ?_
    refine RunsI.g 1 [.c 20, .lp 9, .blk 0, .c 21] ?_
    refine RunsI.r ?_
    refine RegI.p 2 [(3, .map (some b6)), (7, .slice pA0 p0.length pc0), (8, .int .i64 (p0.length : Int)), (9, .int .i64 (IntKind.wrap .i64 (t8 + 1)))] ?_
    refine RegI.d ?_
    refine RunsI.g 1 [.c 9, .lp 9, .blk 0, .c 21] ?_
    refine RunsI.l [3, 7, 8, 9] [(3, .map (some b6)), (7, .slice pA0 p0.length pc0), (8, .int .i64 (p0.length : Int)), (9, .int .i64 (IntKind.wrap .i64 (t8 + 1)))] ?_
    exact ih t31 (IntKind.wrap .i64 (t8 + 1)) w33 h (h32.pick [0, 1, 2] (by decide))
   clear hJ35
   refine RunsI.g 2 [.c 2, .c 3, .c 8] ?_
   refine RunsI.r ?_
   refine RegI.p 2 [(0, .map (some b6)), (1, .int .u16 ((rdD p0 t8).1)), (2, .int .u8 ((rdD p0 t8).2)), (7, .bool (((rdD p0 t8).2) == 0))] ?_
   refine RegI.d ?_
   rcases of_cond h with ⟨hc24, h⟩ | ⟨hc24, h⟩
   ·skip
    refine RunsI.f 7 true hc24 ?_
    refine RunsI.b true 4 ?_
    refine RunsI.g 1 [.c 5, .c 6, .c 8] ?_
    refine RunsI.r ?_
    refine RegI.p 2 [(8, .map (some b6)), (9, .int .u16 ((rdD p0 t8).1))] ?_
    refine RegI.o (OpE.mapDel (ek := (ekI .u16)) (ev := (fun (x : Int) => Value.int .u8 x)) 0 40 23 5 [23] ((rdD p0 t8).1) h22 (by kernel_rfl) rfl (by kernel_rfl) rfl (by kernel_rfl) (KeyOk.int .u16 (by kernel_rfl)) (delK t7 ((rdD p0 t8).1)) rfl ?_)
    intro w25 h26 hk27
    refine RegI.d ?_
    refine RunsI.t (.tuple #[]) ?_
    refine cont_mk ?_
    refine RegI.l [3, 7, 8, 9] [(3, .map (some b6)), (7, .slice pA0 p0.length pc0), (8, .int .i64 (p0.length : Int)), (9, .int .i64 t8)] ?_
    exact hj36 (delK t7 ((rdD p0 t8).1)) w25 h (h26.pick [0, 1, 2] (by decide))
   ·skip
    refine RunsI.f 7 false hc24 ?_
    refine RunsI.b false 7 ?_
    refine RunsI.g 1 [.c 8] ?_
    refine RunsI.r ?_
    refine RegI.p 3 [(10, .map (some b6)), (11, .int .u16 ((rdD p0 t8).1)), (12, .int .u8 ((rdD p0 t8).2))] ?_
    refine RegI.o (OpE.mapSet (ek := (ekI .u16)) (ev := (fun (x : Int) => Value.int .u8 x)) 0 40 23 5 ((rdD p0 t8).1) ((rdD p0 t8).2) h22 (by kernel_rfl) rfl (by kernel_rfl) rfl rfl (by kernel_rfl) (KeyOk.int .u16 (by kernel_rfl)) (insK t7 ((rdD p0 t8).1) ((rdD p0 t8).2)) rfl ?_)
    intro w28 h29 hk30
    refine RegI.d ?_
    refine RunsI.t (.tuple #[]) ?_
    refine cont_mk ?_
    refine RegI.l [3, 7, 8, 9] [(3, .map (some b6)), (7, .slice pA0 p0.length pc0), (8, .int .i64 (p0.length : Int)), (9, .int .i64 t8)] ?_
    exact hj36 (insK t7 ((rdD p0 t8).1) ((rdD p0 t8).2)) w28 h (h29.pick [0, 1, 2] (by decide))
  ·skip
   refine RunsI.f 10 false hc9 ?_
   refine RunsI.b false 14 ?_
   refine RunsI.g 1 [.c 21] ?_
   refine RunsI.l [3] [(3, .map (some b6))] ?_
   exact hk0 t7 w (Option.some.inj h).symm (hH.pick [0, 2] (by decide))
def cells_Load_17.l1 (K : Nat) (p0 : List (Int × Int)) (p1 : Int) (p2 : List Int) : Nat → Int → (List (Int × Int)) → Int → Option (List (Int × Int))
 | 0, _, _, _ => none
 | k + 1, t43, t45, t46 => cond (decide (t46 < (p2.length : Int))) (cond (inR t46 p2.length) (Let (fun (t61 : (List (Int × Int))) => cells_Load_17.l1 K p0 p1 p2 k (IntKind.wrap .u16 (t43 + 1)) t61 (IntKind.wrap .i64 (t46 + 1))) (fun j64 => cond ((rdD p2 t46) == 0) (j64 (delK t45 t43)) (j64 (insK t45 t43 (rdD p2 t46))))) none) (some t45)
set_option maxRecDepth 100000 in
theorem cells_Load_17.l1_ok (K : Nat) (M0 : Nat → Prop) (w0 : World) (pA0 : Option Addr) (pc0 : Nat) (pA2 : Option Addr) (pc2 : Nat) (p0 : List (Int × Int)) (p1 : Int) (p2 : List Int) (b44 : Nat) (R : Ending → World → Prop) (x : (List (Int × Int))) (hk0 : ∀ (t67 : List (Int × Int)) (w1 : World), x = t67 → Holds M0 w0 w1 [mp (ekI .u16) (fun (x : Int) => Value.int .u8 x) b44 t67] → RunsI F17 [.c 23] [(7, .map (some b44))] w1 R) :
  ∀ (k : Nat) (t43 : Int) (t45 : List (Int × Int)) (t46 : Int) (w : World), cells_Load_17.l1 K p0 p1 p2 k t43 t45 t46 = some x → Holds M0 w0 w [mp (ekI .u16) (fun (x : Int) => Value.int .u8 x) b44 t45, sl (Rp.int .u8) (.slice pA2 p2.length pc2) p2] → RunsI F17 [.c 9, .lp 9, .blk 0, .c 23] [(1, .int .u16 t43), (7, .map (some b44)), (12, .slice pA2 p2.length pc2), (13, .int .i64 (p2.length : Int)), (14, .int .i64 t46)] w R := by
 intro k
 induction k with
 | zero => intro t43 t45 t46 w h hH; exact absurd h (by simp [cells_Load_17.l1])
 | succ k ih =>
  intro t43 t45 t46 w h hH
  rw [cells_Load_17.l1.eq_2] at h
  refine RunsI.g 1 [.c 10, .c 11, .lp 9, .blk 0, .c 23] ?_
  refine RunsI.r ?_
  refine RegI.p 1 [(1, .int .u16 t43), (7, .map (some b44)), (12, .slice pA2 p2.length pc2), (13, .int .i64 (p2.length : Int)), (14, .int .i64 t46), (15, .bool (decide (t46 < (p2.length : Int))))] ?_
  refine RegI.d ?_
  refine RunsI.g 1 [.c 12, .c 15, .lp 9, .blk 0, .c 23] ?_
  rcases of_cond h with ⟨hc47, h⟩ | ⟨hc47, h⟩
  ·skip
   refine RunsI.f 15 true hc47 ?_
   refine RunsI.b true 13 ?_
   refine RunsI.g 1 [.c 15, .lp 9, .blk 0, .c 23] ?_
   refine RunsI.g 3 [.c 18, .c 19, .blk 1, .c 22, .lp 9, .blk 0, .c 23] ?_
   refine RunsI.r ?_
   obtain ⟨hc48, h⟩ := of_cond0 h
   refine RegI.o (OpE.idxSl 16 1 32 t46 hH (by kernel_rfl) rfl (by kernel_rfl) (by kernel_rfl) hc48 ?_)
   intro b49 o50 cs51 hk52 h53
   obtain rfl := hk52
   refine RegI.o (OpE.loadCel 17 2 5 b49 o50 0 (.int .u8 (rdD p2 t46)) h53 (by kernel_rfl) (by kernel_rfl) rfl (by kernel_rfl) ?_)
   refine RegI.p 1 [(1, .int .u16 t43), (7, .map (some b44)), (9, .int .u8 (rdD p2 t46)), (12, .slice pA2 p2.length pc2), (13, .int .i64 (p2.length : Int)), (14, .int .i64 t46)] ?_
   refine RegI.d ?_
   refine RunsI.g 1 [.c 20, .c 21, .blk 1, .c 22, .lp 9, .blk 0, .c 23] ?_
   refine RunsI.r ?_
   refine RegI.p 3 [(1, .int .u16 t43), (7, .map (some b44)), (12, .slice pA2 p2.length pc2), (13, .int .i64 (p2.length : Int)), (14, .int .i64 t46), (18, .map (some b44)), (19, .int .u16 t43), (20, .int .u8 (rdD p2 t46))] ?_
   refine RegI.enter 21 [1, 7, 12, 13, 14] [(1, .int .u16 t43), (7, .map (some b44)), (12, .slice pA2 p2.length pc2), (13, .int .i64 (p2.length : Int)), (14, .int .i64 t46)] (by kernel_rfl) (by kernel_rfl) (by kernel_rfl) (by kernel_rfl) F26 26 rfl [.map (some b44), .int .u16 t43, .int .u8 (rdD p2 t46)] (by kernel_rfl) (by kernel_rfl) ?_
   obtain ⟨j64, hJ65, h⟩ := of_let h
   have hj66 : ∀ (t61 : List (Int × Int)) (w63 : World), j64 t61 = some x → Holds M0 w0 w63 [mp (ekI .u16) (fun (x : Int) => Value.int .u8 x) b44 t61, sl (Rp.int .u8) (.slice pA2 p2.length pc2) p2] → RegI F17 20 [.c 21, .blk 1, .c 22, .lp 9, .blk 0, .c 23] 4 [(1, .int .u16 t43), (7, .map (some b44)), (12, .slice pA2 p2.length pc2), (13, .int .i64 (p2.length : Int)), (14, .int .i64 t46)] w63 R := by
    intro t61 w63 h h62
    rw [hJ65] at h
    clear hJ65
    dsimp only at h
    refine RegI.d ?_
    refine RunsI.r ?_
    refine RegI.p 3 [(1, .int .u16 (IntKind.wrap .u16 (t43 + 1))), (7, .map (some b44)), (12, .slice pA2 p2.length pc2), (13, .int .i64 (p2.length : Int)), (14, .int .i64 t46)] ?_
    refine RegI.d ?_
    refine RunsI.g 1 [.c 22, .lp 9, .blk 0, .c 23] ?_
    refine RunsI.r ?_
    refine RegI.p 2 [(1, .int .u16 (IntKind.wrap .u16 (t43 + 1))), (7, .map (some b44)), (12, .slice pA2 p2.length pc2), (13, .int .i64 (p2.length : Int)), (14, .int .i64 (IntKind.wrap .i64 (t46 + 1)))] ?_
    refine RegI.d ?_
    refine RunsI.g 1 [.c 9, .lp 9, .blk 0, .c 23] ?_
    refine RunsI.l [1, 7, 12, 13, 14] [(1, .int .u16 (IntKind.wrap .u16 (t43 + 1))), (7, .map (some b44)), (12, .slice pA2 p2.length pc2), (13, .int .i64 (p2.length : Int)), (14, .int .i64 (IntKind.wrap .i64 (t46 + 1)))] ?_
    exact ih (IntKind.wrap .u16 (t43 + 1)) t61 (IntKind.wrap .i64 (t46 + 1)) w63 h (h62.pick [0, 1] (by decide))
   clear hJ65
   refine RunsI.g 2 [.c 2, .c 3, .c 8] ?_
   refine RunsI.r ?_
   refine RegI.p 2 [(0, .map (some b44)), (1, .int .u16 t43), (2, .int .u8 (rdD p2 t46)), (7, .bool ((rdD p2 t46) == 0))] ?_
   refine RegI.d ?_
   rcases of_cond h with ⟨hc54, h⟩ | ⟨hc54, h⟩
   ·skip
    refine RunsI.f 7 true hc54 ?_
    refine RunsI.b true 4 ?_
    refine RunsI.g 1 [.c 5, .c 6, .c 8] ?_
    refine RunsI.r ?_
    refine RegI.p 2 [(8, .map (some b44)), (9, .int .u16 t43)] ?_
    refine RegI.o (OpE.mapDel (ek := (ekI .u16)) (ev := (fun (x : Int) => Value.int .u8 x)) 0 40 23 5 [23] t43 h53 (by kernel_rfl) rfl (by kernel_rfl) rfl (by kernel_rfl) (KeyOk.int .u16 (by kernel_rfl)) (delK t45 t43) rfl ?_)
    intro w55 h56 hk57
    refine RegI.d ?_
    refine RunsI.t (.tuple #[]) ?_
    refine cont_mk ?_
    refine RegI.l [1, 7, 12, 13, 14] [(1, .int .u16 t43), (7, .map (some b44)), (12, .slice pA2 p2.length pc2), (13, .int .i64 (p2.length : Int)), (14, .int .i64 t46)] ?_
    exact hj66 (delK t45 t43) w55 h (h56.pick [0, 1] (by decide))
   ·skip
    refine RunsI.f 7 false hc54 ?_
    refine RunsI.b false 7 ?_
    refine RunsI.g 1 [.c 8] ?_
    refine RunsI.r ?_
    refine RegI.p 3 [(10, .map (some b44)), (11, .int .u16 t43), (12, .int .u8 (rdD p2 t46))] ?_
    refine RegI.o (OpE.mapSet (ek := (ekI .u16)) (ev := (fun (x : Int) => Value.int .u8 x)) 0 40 23 5 t43 (rdD p2 t46) h53 (by kernel_rfl) rfl (by kernel_rfl) rfl rfl (by kernel_rfl) (KeyOk.int .u16 (by kernel_rfl)) (insK t45 t43 (rdD p2 t46)) rfl ?_)
    intro w58 h59 hk60
    refine RegI.d ?_
    refine RunsI.t (.tuple #[]) ?_
    refine cont_mk ?_
    refine RegI.l [1, 7, 12, 13, 14] [(1, .int .u16 t43), (7, .map (some b44)), (12, .slice pA2 p2.length pc2), (13, .int .i64 (p2.length : Int)), (14, .int .i64 t46)] ?_
    exact hj66 (insK t45 t43 (rdD p2 t46)) w58 h (h59.pick [0, 1] (by decide))
  ·skip
   refine RunsI.f 15 false hc47 ?_
   refine RunsI.b false 14 ?_
   refine RunsI.g 1 [.c 23] ?_
   refine RunsI.l [7] [(7, .map (some b44))] ?_
   exact hk0 t45 w (Option.some.inj h).symm (hH.pick [0] (by decide))
def cells_Load_17.f (K : Nat) (p0 : List (Int × Int)) (p1 : Int) (p2 : List Int) : Option (List (Int × Int)) := (cells_Load_17.l0 K p0 p1 p2 K ([] : List (Int × Int)) 0).bind (fun t40 => (cells_Load_17.l1 K p0 p1 p2 K p1 t40 0).bind (fun t70 => (cells_memory_told_24.f K t70).bind fun t78 => some t78))
set_option maxRecDepth 100000 in
theorem cells_Load_17_ok (K : Nat) (M0 : Nat → Prop) (w0 : World) (pA0 : Option Addr) (pc0 : Nat) (pA2 : Option Addr) (pc2 : Nat) (p0 : List (Int × Int)) (p1 : Int) (p2 : List Int) (ho : ∀ b, M0 b → b < w0.heap.size) (hs0 : Sl (Rp.pair (Rp.int .u16) (Rp.int .u8)) w0 M0 (.slice pA0 p0.length pc0) p0) (hs2 : Sl (Rp.int .u8) w0 M0 (.slice pA2 p2.length pc2) p2) {r : (List (Int × Int))} (h : cells_Load_17.f K p0 p1 p2 = some r) :
  Calls Try.prog 17 #[.slice pA0 p0.length pc0, .int .u16 p1, .slice pA2 p2.length pc2] w0 (cells_Load_17.post M0 w0 r) := by
 unfold cells_Load_17.f at h
 have h0 : Holds M0 w0 w0 [] := Holds.start ho
 have h00 := h0.addSl (Rp.pair (Rp.int .u16) (Rp.int .u8)) (.slice pA0 p0.length pc0) p0 (hs0.mono (fun _ _ hm => hm.elim id (fun hm => absurd hm (by simp [mines, sl]))))
 have h02 := h00.addSl (Rp.int .u8) (.slice pA2 p2.length pc2) p2 (hs2.mono (fun _ _ hm => hm.elim id (fun hm => absurd hm (by simp [mines, sl]))))
 have h0 : Holds M0 w0 w0 [sl (Rp.pair (Rp.int .u16) (Rp.int .u8)) (.slice pA0 p0.length pc0) p0, sl (Rp.int .u8) (.slice pA2 p2.length pc2) p2] := h02
 refine calls_of F17 rfl [.slice pA0 p0.length pc0, .int .u16 p1, .slice pA2 p2.length pc2] (by kernel_rfl) ?_
 refine RunsI.g 1 [.c 1, .c 2] ?_
 refine RunsI.r ?_
 refine RegI.p 1 [(0, .slice pA0 p0.length pc0), (1, .int .u16 p1), (2, .slice pA2 p2.length pc2)] ?_
 refine RegI.d ?_
 refine RunsI.g 1 [.c 3, .c 4] ?_
 refine RunsI.r ?_
 refine RegI.p 1 [(1, .int .u16 p1), (2, .slice pA2 p2.length pc2), (10, .slice pA0 p0.length pc0)] ?_
 refine RegI.enter 11 [1, 2] [(1, .int .u16 p1), (2, .slice pA2 p2.length pc2)] (by kernel_rfl) (by kernel_rfl) (by kernel_rfl) (by kernel_rfl) F23 23 rfl [.slice pA0 p0.length pc0] (by kernel_rfl) (by kernel_rfl) ?_
 refine RunsI.g 1 [.c 1, .c 2] ?_
 refine RunsI.r ?_
 refine RegI.p 1 [(0, .slice pA0 p0.length pc0)] ?_
 refine RegI.d ?_
 refine RunsI.g 1 [.c 3, .c 4] ?_
 refine RunsI.r ?_
 refine RegI.o (OpE.makeMap 6 (ekI .u16) (fun (x : Int) => Value.int .u8 x) h0 (by kernel_rfl) (by kernel_rfl) ?_)
 intro w1 b2 h3 hb4 hn5
 refine RegI.p 1 [(0, .slice pA0 p0.length pc0), (3, .map (some b2))] ?_
 refine RegI.d ?_
 refine RunsI.g 2 [.c 6, .c 7, .c 21] ?_
 refine RunsI.r ?_
 refine RegI.p 3 [(3, .map (some b2)), (7, .slice pA0 p0.length pc0), (8, .int .i64 (p0.length : Int)), (9, .int .i64 0)] ?_
 refine RegI.d ?_
 refine RunsI.g 2 [.c 9, .lp 9, .blk 0, .c 21] ?_
 obtain ⟨x38, hx39, h⟩ := of_bind h
 refine RunsI.l [3, 7, 8, 9] [(3, .map (some b2)), (7, .slice pA0 p0.length pc0), (8, .int .i64 (p0.length : Int)), (9, .int .i64 0)] ?_
 refine cells_Load_17.l0_ok K M0 w0 pA0 pc0 pA2 pc2 p0 p1 p2 b2 _ x38 ?_ K ([] : List (Int × Int)) 0 w1 hx39 (h3.pick [2, 0, 1] (by decide))
 ·intro t40 w42 hq83 h41
  (try rw [hq83] at h)
  refine RunsI.g 1 [.c 22, .c 23] ?_
  refine RunsI.r ?_
  refine RegI.p 2 [(2, .map (some b2))] ?_
  refine RegI.d ?_
  refine RunsI.t (.map (some b2)) ?_
  refine cont_mk ?_
  refine RegI.p 1 [(1, .int .u16 p1), (2, .slice pA2 p2.length pc2), (7, .map (some b2))] ?_
  refine RegI.d ?_
  refine RunsI.g 2 [.c 6, .c 7, .c 23] ?_
  refine RunsI.r ?_
  refine RegI.p 3 [(1, .int .u16 p1), (7, .map (some b2)), (12, .slice pA2 p2.length pc2), (13, .int .i64 (p2.length : Int)), (14, .int .i64 0)] ?_
  refine RegI.d ?_
  refine RunsI.g 2 [.c 9, .lp 9, .blk 0, .c 23] ?_
  obtain ⟨x68, hx69, h⟩ := of_bind h
  refine RunsI.l [1, 7, 12, 13, 14] [(1, .int .u16 p1), (7, .map (some b2)), (12, .slice pA2 p2.length pc2), (13, .int .i64 (p2.length : Int)), (14, .int .i64 0)] ?_
  refine cells_Load_17.l1_ok K M0 w0 pA0 pc0 pA2 pc2 p0 p1 p2 b2 _ x68 ?_ K p1 t40 0 w42 hx69 (h41.pick [0, 1] (by decide))
  ·intro t70 w72 hq84 h71
   (try rw [hq84] at h)
   refine RunsI.g 1 [.c 24, .c 25] ?_
   refine RunsI.r ?_
   refine RegI.p 1 [(25, .map (some b2))] ?_
   obtain ⟨t78, hg77, h⟩ := of_bind h
   have h73 := h71.releaseMap 0 rfl
   refine RegI.o (OpE.call 26 (by kernel_rfl) 24 #[.map (some b2)] (by kernel_rfl) ((cells_memory_told_24_ok K _ w72  b2 t70 h73.old' (h73.get 0 rfl) hg77).mono ?_))
   rintro _ w74 ⟨A79, c80, rfl, hr82⟩
   refine ⟨_, rfl, ?_⟩
   have hb75 := hr82.below
   have h76 := h73.join hr82
   refine RegI.p 1 [(6, .slice A79 t78.length c80)] ?_
   refine RegI.d ?_
   refine RunsI.t (.slice A79 t78.length c80) ?_
   obtain rfl := Option.some.inj h
   exact ⟨A79, c80, rfl, h76.pick [1] (by decide)⟩
end

/-! ### charabanc/cells.Dump (function 19) -/
section
def cells_Dump_19.post (M0 : Nat → Prop) (w0 : World) (r : (List Int)) : Ending → World → Prop := fun e w => ∃ (A1 : Option Addr) (c1 : Nat), e = .returned (.slice A1 r.length c1) ∧ Holds M0 w0 w [own (Rp.int .u8) 5 (.slice A1 r.length c1) r]
def cells_Dump_19.l0 (K : Nat) (p0 : List (Int × Int)) (p1 : Int) (p2 : Int) : Nat → (List (Int × Int)) → Int → Option (List (Int × Int))
 | 0, _, _ => none
 | k + 1, t7, t8 => cond (decide (t8 < (p0.length : Int))) (cond (inR t8 p0.length) (Let (fun (t31 : (List (Int × Int))) => cells_Dump_19.l0 K p0 p1 p2 k t31 (IntKind.wrap .i64 (t8 + 1))) (fun j34 => cond (((rdD p0 t8).2) == 0) (j34 (delK t7 ((rdD p0 t8).1))) (j34 (insK t7 ((rdD p0 t8).1) ((rdD p0 t8).2))))) none) (some t7)
set_option maxRecDepth 100000 in
theorem cells_Dump_19.l0_ok (K : Nat) (M0 : Nat → Prop) (w0 : World) (pA0 : Option Addr) (pc0 : Nat) (p0 : List (Int × Int)) (p1 : Int) (p2 : Int) (b6 : Nat) (R : Ending → World → Prop) (x : (List (Int × Int))) (hk0 : ∀ (t37 : List (Int × Int)) (w1 : World), x = t37 → Holds M0 w0 w1 [mp (ekI .u16) (fun (x : Int) => Value.int .u8 x) b6 t37] → RunsI F23 [.c 21] [(3, .map (some b6))] w1 R) :
  ∀ (k : Nat) (t7 : List (Int × Int)) (t8 : Int) (w : World), cells_Dump_19.l0 K p0 p1 p2 k t7 t8 = some x → Holds M0 w0 w [mp (ekI .u16) (fun (x : Int) => Value.int .u8 x) b6 t7, sl (Rp.pair (Rp.int .u16) (Rp.int .u8)) (.slice pA0 p0.length pc0) p0] → RunsI F23 [.c 9, .lp 9, .blk 0, .c 21] [(3, .map (some b6)), (7, .slice pA0 p0.length pc0), (8, .int .i64 (p0.length : Int)), (9, .int .i64 t8)] w R := by
 intro k
 induction k with
 | zero => intro t7 t8 w h hH; exact absurd h (by simp [cells_Dump_19.l0])
 | succ k ih =>
  intro t7 t8 w h hH
  rw [cells_Dump_19.l0.eq_2] at h
  refine RunsI.g 1 [.c 10, .c 11, .lp 9, .blk 0, .c 21] ?_
  refine RunsI.r ?_
  refine RegI.p 1 [(3, .map (some b6)), (7, .slice pA0 p0.length pc0), (8, .int .i64 (p0.length : Int)), (9, .int .i64 t8), (10, .bool (decide (t8 < (p0.length : Int))))] ?_
  refine RegI.d ?_
  refine RunsI.g 1 [.c 12, .c 15, .lp 9, .blk 0, .c 21] ?_
  rcases of_cond h with ⟨hc9, h⟩ | ⟨hc9, h⟩
  ·skip
   refine RunsI.f 10 true hc9 ?_
   refine RunsI.b true 13 ?_
   refine RunsI.g 1 [.c 15, .lp 9, .blk 0, .c 21] ?_
   refine RunsI.g 3 [.c 18, .c 19, .blk 1, .c 20, .lp 9, .blk 0, .c 21] ?_
   refine RunsI.r ?_
   obtain ⟨hc10, h⟩ := of_cond0 h
   refine RegI.o (OpE.idxSl 11 1 22 t8 hH (by kernel_rfl) rfl (by kernel_rfl) (by kernel_rfl) hc10 ?_)
   intro b11 o12 cs13 hk14 h15
   obtain ⟨_, _, rfl, rfl, rfl⟩ := hk14
   refine RegI.o (OpE.loadCel 12 2 38 b11 o12 0 (.agg #[.int .u16 ((rdD p0 t8).1), .int .u8 ((rdD p0 t8).2)]) h15 (by kernel_rfl) (by kernel_rfl) rfl (by kernel_rfl) ?_)
   refine RegI.o (OpE.box 5 38 [.int .u16 0, .int .u8 0] h15 (by kernel_rfl) (by kernel_rfl) ?_)
   intro w16 b17 h18 hb19 hn20
   refine RegI.o (OpE.storeBox 3 38 b17 0 (.agg #[.int .u16 ((rdD p0 t8).1), .int .u8 ((rdD p0 t8).2)]) [.int .u16 ((rdD p0 t8).1), .int .u8 ((rdD p0 t8).2)] h18 (by kernel_rfl) (by kernel_rfl) rfl (by kernel_rfl) (by kernel_rfl) (by kernel_rfl) ?_)
   intro w21 h22 hk23
   refine RegI.d ?_
   refine RunsI.r ?_
   refine RegI.p 2 [(3, .map (some b6)), (5, .pointer (some ⟨b17, 0, none⟩)), (7, .slice pA0 p0.length pc0), (8, .int .i64 (p0.length : Int)), (9, .int .i64 t8), (13, .map (some b6)), (14, .pointer (some ⟨b17, 0, none⟩))] ?_
   refine RegI.o (OpE.loadBox 15 3 23 b17 0 (.int .u16 ((rdD p0 t8).1)) h22 (by kernel_rfl) (by kernel_rfl) rfl (by kernel_rfl) ?_)
   refine RegI.p 1 [(3, .map (some b6)), (7, .slice pA0 p0.length pc0), (8, .int .i64 (p0.length : Int)), (9, .int .i64 t8), (13, .map (some b6)), (15, .int .u16 ((rdD p0 t8).1)), (16, .pointer (some ⟨b17, 1, none⟩))] ?_
   refine RegI.o (OpE.loadBox 17 3 5 b17 1 (.int .u8 ((rdD p0 t8).2)) h22 (by kernel_rfl) (by kernel_rfl) rfl (by kernel_rfl) ?_)
   refine RegI.enter 18 [3, 7, 8, 9] [(3, .map (some b6)), (7, .slice pA0 p0.length pc0), (8, .int .i64 (p0.length : Int)), (9, .int .i64 t8)] (by kernel_rfl) (by kernel_rfl) (by kernel_rfl) (by kernel_rfl) F26 26 rfl [.map (some b6), .int .u16 ((rdD p0 t8).1), .int .u8 ((rdD p0 t8).2)] (by kernel_rfl) (by kernel_rfl) ?_
   obtain ⟨j34, hJ35, h⟩ := of_let h
   have hj36 : ∀ (t31 : List (Int × Int)) (w33 : World), j34 t31 = some x → Holds M0 w0 w33 [mp (ekI .u16) (fun (x : Int) => Value.int .u8 x) b6 t31, sl (Rp.pair (Rp.int .u16) (Rp.int .u8)) (.slice pA0 p0.length pc0) p0] → RegI F23 19 [.blk 1, .c 20, .lp 9, .blk 0, .c 21] 6 [(3, .map (some b6)), (7, .slice pA0 p0.length pc0), (8, .int .i64 (p0.length : Int)), (9, .int .i64 t8)] w33 R := by
    intro t31 w33 h h32
    rw [hJ35] at h
    clear hJ35
    dsimp only at h
    refine RegI.d ?_
    refine RunsI.g 1 [.c 20, .lp 9, .blk 0, .c 21] ?_
    refine RunsI.r ?_
    refine RegI.p 2 [(3, .map (some b6)), (7, .slice pA0 p0.length pc0), (8, .int .i64 (p0.length : Int)), (9, .int .i64 (IntKind.wrap .i64 (t8 + 1)))] ?_
    refine RegI.d ?_
    refine RunsI.g 1 [.c 9, .lp 9, .blk 0, .c 21] ?_
    refine RunsI.l [3, 7, 8, 9] [(3, .map (some b6)), (7, .slice pA0 p0.length pc0), (8, .int .i64 (p0.length : Int)), (9, .int .i64 (IntKind.wrap .i64 (t8 + 1)))] ?_
    exact ih t31 (IntKind.wrap .i64 (t8 + 1)) w33 h (h32.pick [0, 1] (by decide))
   clear hJ35
   refine RunsI.g 2 [.c 2, .c 3, .c 8] ?_
   refine RunsI.r ?_
   refine RegI.p 2 [(0, .map (some b6)), (1, .int .u16 ((rdD p0 t8).1)), (2, .int .u8 ((rdD p0 t8).2)), (7, .bool (((rdD p0 t8).2) == 0))] ?_
   refine RegI.d ?_
   rcases of_cond h with ⟨hc24, h⟩ | ⟨hc24, h⟩
   ·skip
    refine RunsI.f 7 true hc24 ?_
    refine RunsI.b true 4 ?_
    refine RunsI.g 1 [.c 5, .c 6, .c 8] ?_
    refine RunsI.r ?_
    refine RegI.p 2 [(8, .map (some b6)), (9, .int .u16 ((rdD p0 t8).1))] ?_
    refine RegI.o (OpE.mapDel (ek := (ekI .u16)) (ev := (fun (x : Int) => Value.int .u8 x)) 0 40 23 5 [23] ((rdD p0 t8).1) h22 (by kernel_rfl) rfl (by kernel_rfl) rfl (by kernel_rfl) (KeyOk.int .u16 (by kernel_rfl)) (delK t7 ((rdD p0 t8).1)) rfl ?_)
    intro w25 h26 hk27
    refine RegI.d ?_
    refine RunsI.t (.tuple #[]) ?_
    refine cont_mk ?_
    refine RegI.l [3, 7, 8, 9] [(3, .map (some b6)), (7, .slice pA0 p0.length pc0), (8, .int .i64 (p0.length : Int)), (9, .int .i64 t8)] ?_
    exact hj36 (delK t7 ((rdD p0 t8).1)) w25 h (h26.pick [0, 1] (by decide))
   ·skip
    refine RunsI.f 7 false hc24 ?_
    refine RunsI.b false 7 ?_
    refine RunsI.g 1 [.c 8] ?_
    refine RunsI.r ?_
    refine RegI.p 3 [(10, .map (some b6)), (11, .int .u16 ((rdD p0 t8).1)), (12, .int .u8 ((rdD p0 t8).2))] ?_
    refine RegI.o (OpE.mapSet (ek := (ekI .u16)) (ev := (fun (x : Int) => Value.int .u8 x)) 0 40 23 5 ((rdD p0 t8).1) ((rdD p0 t8).2) h22 (by kernel_rfl) rfl (by kernel_rfl) rfl rfl (by kernel_rfl) (KeyOk.int .u16 (by kernel_rfl)) (insK t7 ((rdD p0 t8).1) ((rdD p0 t8).2)) rfl ?_)
    intro w28 h29 hk30
    refine RegI.d ?_
    refine RunsI.t (.tuple #[]) ?_
    refine cont_mk ?_
    refine RegI.l [3, 7, 8, 9] [(3, .map (some b6)), (7, .slice pA0 p0.length pc0), (8, .int .i64 (p0.length : Int)), (9, .int .i64 t8)] ?_
    exact hj36 (insK t7 ((rdD p0 t8).1) ((rdD p0 t8).2)) w28 h (h29.pick [0, 1] (by decide))
  ·skip
   refine RunsI.f 10 false hc9 ?_
   refine RunsI.b false 14 ?_
   refine RunsI.g 1 [.c 21] ?_
   refine RunsI.l [3] [(3, .map (some b6))] ?_
   exact hk0 t7 w (Option.some.inj h).symm (hH.pick [0] (by decide))
def cells_Dump_19.l1 (K : Nat) (p0 : List (Int × Int)) (p1 : Int) (p2 : Int) (t46 : List (Int × Int)) : Nat → Int → (List Int) → Int → Option (List Int)
 | 0, _, _, _ => none
 | k + 1, t44, t49, t50 => cond (decide (t50 < (if 4096 < p2 then 4096 else p2))) (cond (mayBe (t49.length + ([((findK t46 t44).getD 0)] : List Int).length) 1) (cells_Dump_19.l1 K p0 p1 p2 t46 k (IntKind.wrap .u16 (t44 + 1)) (t49 ++ ([((findK t46 t44).getD 0)] : List Int)) (IntKind.wrap .i64 (t50 + 1))) none) (some t49)
set_option maxRecDepth 100000 in
theorem cells_Dump_19.l1_ok (K : Nat) (M0 : Nat → Prop) (w0 : World) (pA0 : Option Addr) (pc0 : Nat) (p0 : List (Int × Int)) (p1 : Int) (p2 : Int) (t46 : List (Int × Int)) (b45 : Nat) (R : Ending → World → Prop) (x : (List Int)) (hk0 : ∀ (t65 : List Int) (A63 : Option Addr) (c64 : Nat) (w1 : World), x = t65 → Holds M0 w0 w1 [own (Rp.int .u8) 5 (.slice A63 t65.length c64) t65] → RunsI F19 [.c 23] [(8, .slice A63 t65.length c64)] w1 R) :
  ∀ (k : Nat) (t44 : Int) (t49 : List Int) (t50 : Int) (A47 : Option Addr) (c48 : Nat) (w : World), cells_Dump_19.l1 K p0 p1 p2 t46 k t44 t49 t50 = some x → Holds M0 w0 w [mp (ekI .u16) (fun (x : Int) => Value.int .u8 x) b45 t46, own (Rp.int .u8) 5 (.slice A47 t49.length c48) t49] → RunsI F19 [.c 11, .lp 11, .blk 0, .c 23] [(1, .int .u16 t44), (7, .map (some b45)), (8, .slice A47 t49.length c48), (12, .int .i64 (if 4096 < p2 then 4096 else p2)), (13, .int .i64 t50)] w R := by
 intro k
 induction k with
 | zero => intro t44 t49 t50 A47 c48 w h hH; exact absurd h (by simp [cells_Dump_19.l1])
 | succ k ih =>
  intro t44 t49 t50 A47 c48 w h hH
  rw [cells_Dump_19.l1.eq_2] at h
  refine RunsI.g 1 [.c 12, .c 13, .lp 11, .blk 0, .c 23] ?_
  refine RunsI.r ?_
  refine RegI.p 1 [(1, .int .u16 t44), (7, .map (some b45)), (8, .slice A47 t49.length c48), (12, .int .i64 (if 4096 < p2 then 4096 else p2)), (13, .int .i64 t50), (14, .bool (decide (t50 < (if 4096 < p2 then 4096 else p2))))] ?_
  refine RegI.d ?_
  refine RunsI.g 1 [.c 14, .c 17, .lp 11, .blk 0, .c 23] ?_
  rcases of_cond h with ⟨hc51, h⟩ | ⟨hc51, h⟩
  ·skip
   refine RunsI.f 14 true hc51 ?_
   refine RunsI.b true 15 ?_
   refine RunsI.g 1 [.c 17, .lp 11, .blk 0, .c 23] ?_
   refine RunsI.g 3 [.c 20, .c 21, .blk 1, .c 22, .lp 11, .blk 0, .c 23] ?_
   refine RunsI.r ?_
   refine RegI.p 3 [(1, .int .u16 t44), (7, .map (some b45)), (12, .int .i64 (if 4096 < p2 then 4096 else p2)), (13, .int .i64 t50), (15, .slice A47 t49.length c48), (16, .map (some b45)), (17, .int .u16 t44)] ?_
   refine RegI.o (OpE.lookup (ek := (ekI .u16)) (ev := (fun (x : Int) => Value.int .u8 x)) (zv := .int .u8 0) 18 0 40 23 5 t44 (.int .u8 ((findK t46 t44).getD 0)) false hH (by kernel_rfl) rfl (by kernel_rfl) rfl (by kernel_rfl) (KeyOk.int .u16 (by kernel_rfl)) (fun _ => by kernel_rfl) (look_sym _ _ _ false) ?_)
   refine RegI.o (OpE.lit 19 5 [.int .u8 ((findK t46 t44).getD 0)] 1 hH (by kernel_rfl) (by kernel_rfl) ?_)
   intro w52 b53 h54 hb55 hn56
   obtain ⟨hc57, h⟩ := of_cond0 h
   refine RegI.o (OpE.appendBox 20 1 2 32 5 1 ([((findK t46 t44).getD 0)] : List Int) 0 h54 (by kernel_rfl) (by kernel_rfl) (by kernel_rfl) rfl rfl rfl (cells_int _ _ _ _) hc57 ?_)
   intro w58 A59 c60 h61 hk62
   refine RegI.p 1 [(1, .int .u16 t44), (7, .map (some b45)), (8, .slice A59 ((t49 ++ ([((findK t46 t44).getD 0)] : List Int)).length) c60), (12, .int .i64 (if 4096 < p2 then 4096 else p2)), (13, .int .i64 t50)] ?_
   refine RegI.d ?_
   refine RunsI.r ?_
   refine RegI.p 3 [(1, .int .u16 (IntKind.wrap .u16 (t44 + 1))), (7, .map (some b45)), (8, .slice A59 ((t49 ++ ([((findK t46 t44).getD 0)] : List Int)).length) c60), (12, .int .i64 (if 4096 < p2 then 4096 else p2)), (13, .int .i64 t50)] ?_
   refine RegI.d ?_
   refine RunsI.g 1 [.c 22, .lp 11, .blk 0, .c 23] ?_
   refine RunsI.r ?_
   refine RegI.p 2 [(1, .int .u16 (IntKind.wrap .u16 (t44 + 1))), (7, .map (some b45)), (8, .slice A59 ((t49 ++ ([((findK t46 t44).getD 0)] : List Int)).length) c60), (12, .int .i64 (if 4096 < p2 then 4096 else p2)), (13, .int .i64 (IntKind.wrap .i64 (t50 + 1)))] ?_
   refine RegI.d ?_
   refine RunsI.g 1 [.c 11, .lp 11, .blk 0, .c 23] ?_
   refine RunsI.l [1, 7, 8, 12, 13] [(1, .int .u16 (IntKind.wrap .u16 (t44 + 1))), (7, .map (some b45)), (8, .slice A59 ((t49 ++ ([((findK t46 t44).getD 0)] : List Int)).length) c60), (12, .int .i64 (if 4096 < p2 then 4096 else p2)), (13, .int .i64 (IntKind.wrap .i64 (t50 + 1)))] ?_
   exact ih (IntKind.wrap .u16 (t44 + 1)) (t49 ++ ([((findK t46 t44).getD 0)] : List Int)) (IntKind.wrap .i64 (t50 + 1)) A59 c60 w58 h (h61.pick [0, 1] (by decide))
  ·skip
   refine RunsI.f 14 false hc51 ?_
   refine RunsI.b false 16 ?_
   refine RunsI.g 1 [.c 23] ?_
   refine RunsI.l [8] [(8, .slice A47 t49.length c48)] ?_
   exact hk0 t49 A47 c48 w (Option.some.inj h).symm (hH.pick [1] (by decide))
def cells_Dump_19.f (K : Nat) (p0 : List (Int × Int)) (p1 : Int) (p2 : Int) : Option (List Int) := (cells_Dump_19.l0 K p0 p1 p2 K ([] : List (Int × Int)) 0).bind (fun t40 => (cells_Dump_19.l1 K p0 p1 p2 t40 K p1 ([] : List Int) 0).bind (fun t70 => some t70))
set_option maxRecDepth 100000 in
theorem cells_Dump_19_ok (K : Nat) (M0 : Nat → Prop) (w0 : World) (pA0 : Option Addr) (pc0 : Nat) (p0 : List (Int × Int)) (p1 : Int) (p2 : Int) (ho : ∀ b, M0 b → b < w0.heap.size) (hs0 : Sl (Rp.pair (Rp.int .u16) (Rp.int .u8)) w0 M0 (.slice pA0 p0.length pc0) p0) {r : (List Int)} (h : cells_Dump_19.f K p0 p1 p2 = some r) :
  Calls Try.prog 19 #[.slice pA0 p0.length pc0, .int .u16 p1, .int .i64 p2] w0 (cells_Dump_19.post M0 w0 r) := by
 unfold cells_Dump_19.f at h
 have h0 : Holds M0 w0 w0 [] := Holds.start ho
 have h00 := h0.addSl (Rp.pair (Rp.int .u16) (Rp.int .u8)) (.slice pA0 p0.length pc0) p0 (hs0.mono (fun _ _ hm => hm.elim id (fun hm => absurd hm (by simp [mines, sl]))))
 have h0 : Holds M0 w0 w0 [sl (Rp.pair (Rp.int .u16) (Rp.int .u8)) (.slice pA0 p0.length pc0) p0] := h00
 refine calls_of F19 rfl [.slice pA0 p0.length pc0, .int .u16 p1, .int .i64 p2] (by kernel_rfl) ?_
 refine RunsI.g 1 [.c 1, .c 2] ?_
 refine RunsI.r ?_
 refine RegI.p 1 [(0, .slice pA0 p0.length pc0), (1, .int .u16 p1), (2, .int .i64 p2)] ?_
 refine RegI.d ?_
 refine RunsI.g 1 [.c 3, .c 4] ?_
 refine RunsI.r ?_
 refine RegI.p 1 [(1, .int .u16 p1), (2, .int .i64 p2), (9, .slice pA0 p0.length pc0)] ?_
 refine RegI.enter 10 [1, 2] [(1, .int .u16 p1), (2, .int .i64 p2)] (by kernel_rfl) (by kernel_rfl) (by kernel_rfl) (by kernel_rfl) F23 23 rfl [.slice pA0 p0.length pc0] (by kernel_rfl) (by kernel_rfl) ?_
 refine RunsI.g 1 [.c 1, .c 2] ?_
 refine RunsI.r ?_
 refine RegI.p 1 [(0, .slice pA0 p0.length pc0)] ?_
 refine RegI.d ?_
 refine RunsI.g 1 [.c 3, .c 4] ?_
 refine RunsI.r ?_
 refine RegI.o (OpE.makeMap 6 (ekI .u16) (fun (x : Int) => Value.int .u8 x) h0 (by kernel_rfl) (by kernel_rfl) ?_)
 intro w1 b2 h3 hb4 hn5
 refine RegI.p 1 [(0, .slice pA0 p0.length pc0), (3, .map (some b2))] ?_
 refine RegI.d ?_
 refine RunsI.g 2 [.c 6, .c 7, .c 21] ?_
 refine RunsI.r ?_
 refine RegI.p 3 [(3, .map (some b2)), (7, .slice pA0 p0.length pc0), (8, .int .i64 (p0.length : Int)), (9, .int .i64 0)] ?_
 refine RegI.d ?_
 refine RunsI.g 2 [.c 9, .lp 9, .blk 0, .c 21] ?_
 obtain ⟨x38, hx39, h⟩ := of_bind h
 refine RunsI.l [3, 7, 8, 9] [(3, .map (some b2)), (7, .slice pA0 p0.length pc0), (8, .int .i64 (p0.length : Int)), (9, .int .i64 0)] ?_
 refine cells_Dump_19.l0_ok K M0 w0 pA0 pc0 p0 p1 p2 b2 _ x38 ?_ K ([] : List (Int × Int)) 0 w1 hx39 (h3.pick [1, 0] (by decide))
 ·intro t40 w42 hq73 h41
  (try rw [hq73] at h)
  refine RunsI.g 1 [.c 22, .c 23] ?_
  refine RunsI.r ?_
  refine RegI.p 2 [(2, .map (some b2))] ?_
  refine RegI.d ?_
  refine RunsI.t (.map (some b2)) ?_
  refine cont_mk ?_
  refine RegI.p 1 [(1, .int .u16 p1), (2, .int .i64 p2), (7, .map (some b2))] ?_
  refine RegI.d ?_
  refine RunsI.g 1 [.c 5, .c 6] ?_
  refine RunsI.r ?_
  refine RegI.p 1 [(1, .int .u16 p1), (2, .int .i64 p2), (7, .map (some b2)), (8, .slice none 0 0)] ?_
  refine RegI.d ?_
  refine RunsI.g 2 [.c 8, .c 9, .c 23] ?_
  refine RunsI.r ?_
  refine RegI.p 3 [(1, .int .u16 p1), (7, .map (some b2)), (8, .slice none 0 0), (12, .int .i64 (if 4096 < p2 then 4096 else p2)), (13, .int .i64 0)] ?_
  refine RegI.d ?_
  refine RunsI.g 2 [.c 11, .lp 11, .blk 0, .c 23] ?_
  obtain ⟨x66, hx67, h⟩ := of_bind h
  have h43 := h41.addOwnNil (Rp.int .u8) 5
  refine RunsI.l [1, 7, 8, 12, 13] [(1, .int .u16 p1), (7, .map (some b2)), (8, .slice none (([] : List Int).length) 0), (12, .int .i64 (if 4096 < p2 then 4096 else p2)), (13, .int .i64 0)] ?_
  refine cells_Dump_19.l1_ok K M0 w0 pA0 pc0 p0 p1 p2 t40 b2 _ x66 ?_ K p1 ([] : List Int) 0 none 0 w42 hx67 (h43.pick [0, 1] (by decide))
  ·intro t70 A68 c69 w72 hq74 h71
   (try rw [hq74] at h)
   refine RunsI.g 1 [.c 24, .c 25] ?_
   refine RunsI.r ?_
   refine RegI.p 2 [(6, .slice A68 t70.length c69)] ?_
   refine RegI.d ?_
   refine RunsI.t (.slice A68 t70.length c69) ?_
   obtain rfl := Option.some.inj h
   exact ⟨A68, c69, rfl, h71.pick [0] (by decide)⟩
end

/-! ### charabanc/cells.Diff (function 21) -/
theorem cells_Diff_21_of (K : Nat) (M0 : Nat → Prop) (w0 : World) (pA0 : Option Addr) (pc0 : Nat) (p0 : List (Int × Int)) (ho : ∀ b, M0 b → b < w0.heap.size) (hs0 : Sl Rc w0 M0 (.slice pA0 p0.length pc0) p0) {r : (List (Int × Int))} (h : cells_Make_11.l0 K p0 K ([] : List (Int × Int)) 0 = some r) :
  Calls Try.prog 23 #[.slice pA0 p0.length pc0] w0 fun e w => ∃ b, e = .returned (.map (some b)) ∧ Holds M0 w0 w [mp eK eV b r] := by
 have h0 : Holds M0 w0 w0 [] := Holds.start ho
 have h00 := h0.addSl Rc (.slice pA0 p0.length pc0) p0 (hs0.mono (fun _ _ hm => hm.elim id (fun hm => absurd hm (by simp [mines, sl]))))
 have h0 : Holds M0 w0 w0 [sl Rc (.slice pA0 p0.length pc0) p0] := h00
 refine calls_of F23 rfl [.slice pA0 p0.length pc0] (by kernel_rfl) ?_
 refine RunsI.g 1 [.c 1, .c 2] ?_
 refine RunsI.r ?_
 refine RegI.p 1 [(0, .slice pA0 p0.length pc0)] ?_
 refine RegI.d ?_
 refine RunsI.g 1 [.c 3, .c 4] ?_
 refine RunsI.r ?_
 refine RegI.o (OpE.makeMap 6 eK eV h0 (by kernel_rfl) (by kernel_rfl) ?_)
 intro w1 b2 h3 hb4 hn5
 refine RegI.p 1 [(0, .slice pA0 p0.length pc0), (3, .map (some b2))] ?_
 refine RegI.d ?_
 refine RunsI.g 2 [.c 6, .c 7, .c 21] ?_
 refine RunsI.r ?_
 refine RegI.p 3 [(3, .map (some b2)), (7, .slice pA0 p0.length pc0), (8, .int .i64 (p0.length : Int)), (9, .int .i64 0)] ?_
 refine RegI.d ?_
 refine RunsI.g 2 [.c 9, .lp 9, .blk 0, .c 21] ?_
 refine cells_Make_11.l0_ok K M0 w0 pA0 pc0 p0 b2 _ r ?_ K ([] : List (Int × Int)) 0 w1 h (h3.pick [1, 0] (by decide))
 intro t40 w42 hq h41
 subst hq
 refine RunsI.g 1 [.c 22, .c 23] ?_
 refine RunsI.r ?_
 refine RegI.p 2 [(2, .map (some b2))] ?_
 refine RegI.d ?_
 refine RunsI.t (.map (some b2)) ?_
 exact ⟨b2, rfl, h41⟩
def cells_Diff_21.d1 (was now : List (Int × Int)) : List (Int × Int) := now.filter (fun p => (findK was p.1).getD 0 != p.2)
def cells_Diff_21.d2 (was now : List (Int × Int)) : List (Int × Int) := (was.filter (fun p => !(findK now p.1).isSome)).map (fun p => (p.1, 0))
theorem cells_Diff_21_l1 {M0 : Nat → Prop} {w0 : World} {bw bn r : Nat} {was now : List (Int × Int)} (hR : mayBe (was.length + now.length) 4 = true) {R : Ending → World → Prop}
  (hk : ∀ (out : List (Int × Int)) (A : Option Addr) (cp : Nat) (cur : Option (Int × Int)) (w1 : World), out.Perm (cells_Diff_21.d1 was now) → Holds M0 w0 w1 [mpR eK eV bw was, mpR eK eV bn now, own Rc 38 (.slice A out.length cp) out, itr eK eV r bn [] cur] →
   RunsI F21 [.c 25] [(5, .map (some bw)), (6, .map (some bn)), (7, .slice A out.length cp)] w1 R) :
  ∀ (m : Nat) (done left out : List (Int × Int)) (A : Option Addr) (cp : Nat) (cur : Option (Int × Int)) (w : World), left.length = m → (done ++ left).Perm now → out = cells_Diff_21.d1 was done → Holds M0 w0 w [mpR eK eV bw was, mpR eK eV bn now, own Rc 38 (.slice A out.length cp) out, itr eK eV r bn left cur] →
   RunsI F21 [.c 11, .lp 11, .blk 0, .c 25] [(5, .map (some bw)), (6, .map (some bn)), (7, .slice A out.length cp), (18, .pointer (some ⟨r, 0, none⟩))] w R := by
 intro m
 induction m with
 | zero =>
  intro done left out A cp cur w hm hp he hH
  obtain rfl : left = [] := List.eq_nil_of_length_eq_zero hm
  refine RunsI.g 1 [.c 12, .c 13, .lp 11, .blk 0, .c 25] ?_
  refine RunsI.r ?_
  refine RegI.o (OpE.nextMap (ek := eK) (ev := eV) 19 3 hH (by kernel_rfl) rfl (by kernel_rfl) (fun _ => ?_) (fun p left' w' hp' _ => absurd hp'.length_eq (by simp)))
  refine RegI.p 1 [(5, .map (some bw)), (6, .map (some bn)), (7, .slice A out.length cp), (20, .bool false)] ?_
  refine RegI.d ?_
  refine RunsI.g 1 [.c 14, .c 17, .lp 11, .blk 0, .c 25] ?_
  refine RunsI.b false 16 ?_
  refine RunsI.g 1 [.c 25] ?_
  rw [List.append_nil] at hp
  refine RunsI.l [5, 6, 7] [(5, .map (some bw)), (6, .map (some bn)), (7, .slice A out.length cp)] ?_
  exact hk out A cp cur w (by rw [he]; exact hp.filter _) hH
 | succ m ih =>
  intro done left out A cp cur w hm hp he hH
  refine RunsI.g 1 [.c 12, .c 13, .lp 11, .blk 0, .c 25] ?_
  refine RunsI.r ?_
  refine RegI.o (OpE.nextMap (ek := eK) (ev := eV) 19 3 hH (by kernel_rfl) rfl (by kernel_rfl) (fun h0 => by rw [h0] at hm; cases hm) (fun p left' w1 hp' hH1 => ?_))
  have hm' : left'.length = m := by have := hp'.length_eq; simp at this; omega
  have hp2 : (done ++ [p] ++ left').Perm now := by
   rw [List.append_assoc]
   exact (hp'.symm.append_left done).trans hp
  refine RegI.p 1 [(5, .map (some bw)), (6, .map (some bn)), (7, .slice A out.length cp), (18, .pointer (some ⟨r, 0, none⟩)), (20, .bool true)] ?_
  refine RegI.d ?_
  refine RunsI.g 1 [.c 14, .c 17, .lp 11, .blk 0, .c 25] ?_
  refine RunsI.b true 15 ?_
  refine RunsI.g 1 [.c 17, .lp 11, .blk 0, .c 25] ?_
  refine RunsI.g 2 [.c 19, .c 20, .blk 1, .lp 11, .blk 0, .c 25] ?_
  refine RunsI.r ?_
  refine RegI.o (OpE.entryMap (ek := eK) (ev := eV) 21 3 p hH1 (by kernel_rfl) rfl (by kernel_rfl) ?_)
  refine RegI.p 4 [(5, .map (some bw)), (6, .map (some bn)), (7, .slice A out.length cp), (8, .int .u16 p.1), (9, .int .u8 p.2), (18, .pointer (some ⟨r, 0, none⟩))] ?_
  refine RegI.d ?_
  refine RunsI.g 1 [.c 21, .c 22, .blk 1, .lp 11, .blk 0, .c 25] ?_
  refine RunsI.r ?_
  refine RegI.p 2 [(5, .map (some bw)), (6, .map (some bn)), (7, .slice A out.length cp), (8, .int .u16 p.1), (9, .int .u8 p.2), (18, .pointer (some ⟨r, 0, none⟩)), (24, .map (some bw)), (25, .int .u16 p.1)] ?_
  refine RegI.o (OpE.run 26 (by kernel_rfl) (run_lookupOp (ek := eK) (ev := eV) (T := 40) (kT := 23) (eT := 5) (b := bw) (kvs := was) (x := p.1) (zv := .int .u8 0) (kv := .int .u16 p.1) (r := .int .u8 ((findK was p.1).getD 0)) (ok := false) (by kernel_rfl) rfl (by kernel_rfl) (KeyOk.int .u16 (by kernel_rfl)) (fun _ => by kernel_rfl) (hH1.get 0 rfl).2 (look_sym _ _ _ false)) ?_)
  refine RegI.p 2 [(5, .map (some bw)), (6, .map (some bn)), (7, .slice A out.length cp), (8, .int .u16 p.1), (9, .int .u8 p.2), (18, .pointer (some ⟨r, 0, none⟩)), (28, .bool ((findK was p.1).getD 0 != p.2))] ?_
  refine RegI.d ?_
  have hd : cells_Diff_21.d1 was (done ++ [p]) = out ++ (if ((findK was p.1).getD 0 != p.2) = true then [p] else []) := by
   rw [he]; unfold cells_Diff_21.d1; rw [List.filter_append, List.filter_cons, List.filter_nil]
  cases hc : ((findK was p.1).getD 0 != p.2) with
  | true =>
   rw [hc, if_pos rfl] at hd
   refine RunsI.b true 23 ?_
   refine RunsI.r ?_
   refine RegI.p 4 [(5, .map (some bw)), (6, .map (some bn)), (18, .pointer (some ⟨r, 0, none⟩)), (29, .slice A out.length cp), (32, .agg #[.int .u16 p.1, .int .u8 p.2])] ?_
   refine RegI.o (OpE.lit 33 38 [.int .u16 p.1, .int .u8 p.2] 1 hH1 (by kernel_rfl) (by kernel_rfl) ?_)
   intro w2 b2 h2 hb2 hn2
   have hmb : mayBe (out.length + ([p] : List (Int × Int)).length) 4 = true := by
    have hl := hp2.length_eq
    have hl2 := List.length_filter_le (fun p : Int × Int => (findK was p.1).getD 0 != p.2) done
    have hl3 : out.length = (List.filter (fun p : Int × Int => (findK was p.1).getD 0 != p.2) done).length := by rw [he]; rfl
    simp only [List.length_append, List.length_cons, List.length_nil] at hl ⊢
    have := mayBe_spec hR
    simp only [mayBe, Bool.and_eq_true, Nat.ble_eq]
    omega
   refine RegI.o (OpE.appendBox 34 2 4 22 38 4 ([p] : List (Int × Int)) 0 h2 (by kernel_rfl) (by kernel_rfl) (by kernel_rfl) rfl rfl rfl ⟨_, _, rfl, ⟨[_], [_], rfl, rfl, rfl⟩, rfl⟩ hmb ?_)
   intro w3 A3 c3 h3 hk3
   refine RegI.p 1 [(5, .map (some bw)), (6, .map (some bn)), (7, .slice A3 ((out ++ [p]).length) c3), (18, .pointer (some ⟨r, 0, none⟩))] ?_
   refine RegI.d ?_
   refine RunsI.g 2 [.c 11, .lp 11, .blk 0, .c 25] ?_
   exact ih (done ++ [p]) left' (out ++ [p]) A3 c3 (some p) w3 hm' hp2 hd.symm (h3.pick [0, 1, 2, 3] (by decide))
  | false =>
   rw [hc, if_neg (by decide), List.append_nil] at hd
   refine RunsI.b false 24 ?_
   refine RunsI.g 3 [.c 11, .lp 11, .blk 0, .c 25] ?_
   refine RunsI.l [5, 6, 7, 18] [(5, .map (some bw)), (6, .map (some bn)), (7, .slice A out.length cp), (18, .pointer (some ⟨r, 0, none⟩))] ?_
   exact ih (done ++ [p]) left' out A cp (some p) w1 hm' hp2 hd.symm hH1
theorem cells_Diff_21_l2 {M0 : Nat → Prop} {w0 : World} {bw bn r : Nat} {was now out0 : List (Int × Int)} (hR : mayBe (was.length + now.length) 4 = true) (ho : out0.length ≤ now.length) {R : Ending → World → Prop}
  (hk : ∀ (out : List (Int × Int)) (A : Option Addr) (cp : Nat) (cur : Option (Int × Int)) (w1 : World), out.Perm (out0 ++ cells_Diff_21.d2 was now) → Holds M0 w0 w1 [mpR eK eV bw was, mpR eK eV bn now, own Rc 38 (.slice A out.length cp) out, itr eK eV r bw [] cur] →
   RunsI F21 [.c 46] [(7, .slice A out.length cp)] w1 R) :
  ∀ (m : Nat) (done left out : List (Int × Int)) (A : Option Addr) (cp : Nat) (cur : Option (Int × Int)) (w : World), left.length = m → (done ++ left).Perm was → out = out0 ++ cells_Diff_21.d2 done now → Holds M0 w0 w [mpR eK eV bw was, mpR eK eV bn now, own Rc 38 (.slice A out.length cp) out, itr eK eV r bw left cur] →
   RunsI F21 [.c 30, .lp 30, .blk 2, .c 46] [(6, .map (some bn)), (7, .slice A out.length cp), (36, .pointer (some ⟨r, 0, none⟩))] w R := by
 intro m
 induction m with
 | zero =>
  intro done left out A cp cur w hm hp he hH
  obtain rfl : left = [] := List.eq_nil_of_length_eq_zero hm
  refine RunsI.g 1 [.c 31, .c 32, .lp 30, .blk 2, .c 46] ?_
  refine RunsI.r ?_
  refine RegI.o (OpE.nextMap (ek := eK) (ev := eV) 37 3 hH (by kernel_rfl) rfl (by kernel_rfl) (fun _ => ?_) (fun p left' w' hp' _ => absurd hp'.length_eq (by simp)))
  refine RegI.p 1 [(7, .slice A out.length cp), (38, .bool false)] ?_
  refine RegI.d ?_
  refine RunsI.g 1 [.c 33, .c 36, .lp 30, .blk 2, .c 46] ?_
  refine RunsI.b false 35 ?_
  refine RunsI.g 1 [.c 46] ?_
  rw [List.append_nil] at hp
  refine RunsI.l [7] [(7, .slice A out.length cp)] ?_
  exact hk out A cp cur w (by rw [he]; exact ((hp.filter _).map _).append_left _) hH
 | succ m ih =>
  intro done left out A cp cur w hm hp he hH
  refine RunsI.g 1 [.c 31, .c 32, .lp 30, .blk 2, .c 46] ?_
  refine RunsI.r ?_
  refine RegI.o (OpE.nextMap (ek := eK) (ev := eV) 37 3 hH (by kernel_rfl) rfl (by kernel_rfl) (fun h0 => by rw [h0] at hm; cases hm) (fun p left' w1 hp' hH1 => ?_))
  have hm' : left'.length = m := by have := hp'.length_eq; simp at this; omega
  have hp2 : (done ++ [p] ++ left').Perm was := by
   rw [List.append_assoc]
   exact (hp'.symm.append_left done).trans hp
  refine RegI.p 1 [(6, .map (some bn)), (7, .slice A out.length cp), (36, .pointer (some ⟨r, 0, none⟩)), (38, .bool true)] ?_
  refine RegI.d ?_
  refine RunsI.g 1 [.c 33, .c 36, .lp 30, .blk 2, .c 46] ?_
  refine RunsI.b true 34 ?_
  refine RunsI.g 1 [.c 36, .lp 30, .blk 2, .c 46] ?_
  refine RunsI.g 2 [.c 38, .c 39, .blk 3, .lp 30, .blk 2, .c 46] ?_
  refine RunsI.r ?_
  refine RegI.o (OpE.entryMap (ek := eK) (ev := eV) 39 3 p hH1 (by kernel_rfl) rfl (by kernel_rfl) ?_)
  refine RegI.p 2 [(6, .map (some bn)), (7, .slice A out.length cp), (10, .int .u16 p.1), (36, .pointer (some ⟨r, 0, none⟩))] ?_
  refine RegI.d ?_
  refine RunsI.g 1 [.c 40, .c 41, .blk 3, .lp 30, .blk 2, .c 46] ?_
  refine RunsI.r ?_
  refine RegI.p 2 [(6, .map (some bn)), (7, .slice A out.length cp), (10, .int .u16 p.1), (36, .pointer (some ⟨r, 0, none⟩)), (42, .map (some bn)), (43, .int .u16 p.1)] ?_
  refine RegI.o (OpE.run 44 (by kernel_rfl) (run_lookupOp (ek := eK) (ev := eV) (T := 40) (kT := 23) (eT := 5) (b := bn) (kvs := now) (x := p.1) (zv := .int .u8 0) (kv := .int .u16 p.1) (r := .tuple #[.int .u8 ((findK now p.1).getD 0), .bool (findK now p.1).isSome]) (ok := true) (by kernel_rfl) rfl (by kernel_rfl) (KeyOk.int .u16 (by kernel_rfl)) (fun _ => by kernel_rfl) (hH1.get 1 rfl).2 (look_sym _ _ _ true)) ?_)
  refine RegI.p 5 [(6, .map (some bn)), (7, .slice A out.length cp), (10, .int .u16 p.1), (12, .bool (findK now p.1).isSome), (36, .pointer (some ⟨r, 0, none⟩))] ?_
  refine RegI.d ?_
  refine RunsI.g 1 [.c 42, .c 43, .blk 3, .lp 30, .blk 2, .c 46] ?_
  refine RunsI.r ?_
  refine RegI.p 2 [(6, .map (some bn)), (7, .slice A out.length cp), (10, .int .u16 p.1), (36, .pointer (some ⟨r, 0, none⟩)), (48, .bool (!(findK now p.1).isSome))] ?_
  refine RegI.d ?_
  have hd : out0 ++ cells_Diff_21.d2 (done ++ [p]) now = out ++ (if (!(findK now p.1).isSome) = true then [(p.1, 0)] else []) := by
   rw [he]; unfold cells_Diff_21.d2; rw [List.filter_append, List.filter_cons, List.filter_nil, List.map_append, List.append_assoc]
   cases (!(findK now p.1).isSome) <;> rfl
  cases hc : (!(findK now p.1).isSome) with
  | true =>
   rw [hc, if_pos rfl] at hd
   refine RunsI.b true 44 ?_
   refine RunsI.r ?_
   refine RegI.p 3 [(6, .map (some bn)), (36, .pointer (some ⟨r, 0, none⟩)), (49, .slice A out.length cp), (51, .agg #[.int .u16 p.1, .int .u8 0])] ?_
   refine RegI.o (OpE.lit 52 38 [.int .u16 p.1, .int .u8 0] 1 hH1 (by kernel_rfl) (by kernel_rfl) ?_)
   intro w2 b2 h2 hb2 hn2
   have hmb : mayBe (out.length + ([(p.1, 0)] : List (Int × Int)).length) 4 = true := by
    have hl := hp2.length_eq
    have hl2 := List.length_filter_le (fun p : Int × Int => !(findK now p.1).isSome) done
    have hl3 : out.length = out0.length + (List.filter (fun p : Int × Int => !(findK now p.1).isSome) done).length := by rw [he]; unfold cells_Diff_21.d2; simp
    simp only [List.length_append, List.length_cons, List.length_nil] at hl ⊢
    have := mayBe_spec hR
    simp only [mayBe, Bool.and_eq_true, Nat.ble_eq]
    omega
   refine RegI.o (OpE.appendBox 53 2 4 22 38 4 ([(p.1, 0)] : List (Int × Int)) 0 h2 (by kernel_rfl) (by kernel_rfl) (by kernel_rfl) rfl rfl rfl ⟨_, _, rfl, ⟨[_], [_], rfl, rfl, rfl⟩, rfl⟩ hmb ?_)
   intro w3 A3 c3 h3 hk3
   refine RegI.p 1 [(6, .map (some bn)), (7, .slice A3 ((out ++ [(p.1, 0)]).length) c3), (36, .pointer (some ⟨r, 0, none⟩))] ?_
   refine RegI.d ?_
   refine RunsI.g 2 [.c 30, .lp 30, .blk 2, .c 46] ?_
   exact ih (done ++ [p]) left' (out ++ [(p.1, 0)]) A3 c3 (some p) w3 hm' hp2 hd.symm (h3.pick [0, 1, 2, 3] (by decide))
  | false =>
   rw [hc, if_neg (by decide), List.append_nil] at hd
   refine RunsI.b false 45 ?_
   refine RunsI.g 3 [.c 30, .lp 30, .blk 2, .c 46] ?_
   refine RunsI.l [6, 7, 36] [(6, .map (some bn)), (7, .slice A out.length cp), (36, .pointer (some ⟨r, 0, none⟩))] ?_
   exact ih (done ++ [p]) left' out A cp (some p) w1 hm' hp2 hd.symm hH1
def cells_Diff_21.post (M0 : Nat → Prop) (w0 : World) (r : List (Int × Int)) : Ending → World → Prop := fun e w => ∃ (A : Option Addr) (c : Nat), e = .returned (.slice A r.length c) ∧ Holds M0 w0 w [sl Rc (.slice A r.length c) r]
def cells_Diff_21.f (K : Nat) (p0 : List (Int × Int)) (p1 : List (Int × Int)) : Option (List (Int × Int)) :=
 (cells_Make_11.l0 K p0 K ([] : List (Int × Int)) 0).bind fun was => (cells_Make_11.l0 K p1 K ([] : List (Int × Int)) 0).bind fun now =>
  cond (mayBe (was.length + now.length) 4 && sortR Prod.fst (cells_Diff_21.d1 was now ++ cells_Diff_21.d2 was now)) (some (sortB Prod.fst (cells_Diff_21.d1 was now ++ cells_Diff_21.d2 was now))) none
theorem cells_Diff_21_ok (K : Nat) (M0 : Nat → Prop) (w0 : World) (pA0 : Option Addr) (pc0 : Nat) (pA1 : Option Addr) (pc1 : Nat) (p0 : List (Int × Int)) (p1 : List (Int × Int)) (ho : ∀ b, M0 b → b < w0.heap.size) (hs0 : Sl Rc w0 M0 (.slice pA0 p0.length pc0) p0) (hs1 : Sl Rc w0 M0 (.slice pA1 p1.length pc1) p1) {r : List (Int × Int)} (h : cells_Diff_21.f K p0 p1 = some r) :
  Calls Try.prog 21 #[.slice pA0 p0.length pc0, .slice pA1 p1.length pc1] w0 (cells_Diff_21.post M0 w0 r) := by
 unfold cells_Diff_21.f at h
 obtain ⟨was, hw, h⟩ := of_bind h
 obtain ⟨now, hn, h⟩ := of_bind h
 obtain ⟨hc, h⟩ := of_cond0 h
 obtain rfl := Option.some.inj h
 rw [Bool.and_eq_true] at hc
 have h0 : Holds M0 w0 w0 [] := Holds.start ho
 have h00 := h0.addSl Rc (.slice pA0 p0.length pc0) p0 (hs0.mono (fun _ _ hm => hm.elim id (fun hm => absurd hm (by simp [mines, sl]))))
 have h01 := h00.addSl Rc (.slice pA1 p1.length pc1) p1 (hs1.mono (fun _ _ hm => hm.elim id (fun hm => absurd hm (by simp [mines, sl]))))
 have h0 : Holds M0 w0 w0 [sl Rc (.slice pA0 p0.length pc0) p0, sl Rc (.slice pA1 p1.length pc1) p1] := h01
 refine calls_of F21 rfl [.slice pA0 p0.length pc0, .slice pA1 p1.length pc1] (by kernel_rfl) ?_
 refine RunsI.g 1 [.c 1, .c 2] ?_
 refine RunsI.r ?_
 refine RegI.p 1 [(0, .slice pA0 p0.length pc0), (1, .slice pA1 p1.length pc1)] ?_
 refine RegI.d ?_
 refine RunsI.g 1 [.c 3, .c 4] ?_
 refine RunsI.r ?_
 refine RegI.p 1 [(1, .slice pA1 p1.length pc1), (13, .slice pA0 p0.length pc0)] ?_
 refine RegI.o (OpE.call 14 (by kernel_rfl) 23 #[.slice pA0 p0.length pc0] (by kernel_rfl) ((cells_Diff_21_of K _ w0 pA0 pc0 p0 h0.old' (h0.get 0 rfl) hw).mono ?_))
 rintro _ w1 ⟨bw, rfl, hr1⟩
 refine ⟨_, rfl, ?_⟩
 have h1 := h0.join hr1
 refine RegI.p 1 [(14, .map (some bw)), (15, .slice pA1 p1.length pc1)] ?_
 refine RegI.o (OpE.call 16 (by kernel_rfl) 23 #[.slice pA1 p1.length pc1] (by kernel_rfl) ((cells_Diff_21_of K _ w1 pA1 pc1 p1 h1.old' (h1.get 1 rfl) hn).mono ?_))
 rintro _ w2 ⟨bn, rfl, hr2⟩
 refine ⟨_, rfl, ?_⟩
 have h2 := h1.join hr2
 have h3 := (h2.releaseMap 2 rfl).releaseMap 3 rfl
 refine RegI.p 2 [(5, .map (some bw)), (6, .map (some bn))] ?_
 refine RegI.d ?_
 refine RunsI.g 1 [.c 5, .c 6] ?_
 refine RunsI.r ?_
 have h4 := h3.addOwnNil Rc 38
 refine RegI.p 1 [(5, .map (some bw)), (6, .map (some bn)), (7, .slice none ([] : List (Int × Int)).length 0)] ?_
 refine RegI.d ?_
 refine RunsI.g 2 [.c 8, .c 9, .c 25] ?_
 refine RunsI.r ?_
 refine RegI.p 1 [(5, .map (some bw)), (6, .map (some bn)), (7, .slice none ([] : List (Int × Int)).length 0), (17, .map (some bn))] ?_
 refine RegI.o (OpE.rangeMap (ek := eK) (ev := eV) 18 3 40 23 5 h4 (by kernel_rfl) rfl (by kernel_rfl) (by kernel_rfl) ?_)
 intro w3 r3 h5 hb3 hr3
 refine RegI.l [5, 6, 7, 18] [(5, .map (some bw)), (6, .map (some bn)), (7, .slice none ([] : List (Int × Int)).length 0), (18, .pointer (some ⟨r3, 0, none⟩))] ?_
 refine RegI.d ?_
 refine RunsI.g 2 [.c 11, .lp 11, .blk 0, .c 25] ?_
 refine cells_Diff_21_l1 hc.1 ?_ now.length [] now [] none 0 none w3 rfl (.refl _) rfl (h5.pick [2, 3, 4, 5] (by decide))
 intro out A4 c4 cur w4 hp4 h6
 refine RunsI.g 2 [.c 27, .c 28, .c 46] ?_
 refine RunsI.r ?_
 refine RegI.p 1 [(6, .map (some bn)), (7, .slice A4 out.length c4), (35, .map (some bw))] ?_
 refine RegI.o (OpE.rangeMap (ek := eK) (ev := eV) 36 0 40 23 5 h6 (by kernel_rfl) rfl (by kernel_rfl) (by kernel_rfl) ?_)
 intro w5 r5 h7 hb5 hr5
 refine RegI.l [6, 7, 36] [(6, .map (some bn)), (7, .slice A4 out.length c4), (36, .pointer (some ⟨r5, 0, none⟩))] ?_
 refine RegI.d ?_
 refine RunsI.g 2 [.c 30, .lp 30, .blk 2, .c 46] ?_
 have hlo : out.length ≤ now.length := by
  rw [hp4.length_eq]; exact List.length_filter_le _ _
 refine cells_Diff_21_l2 (out0 := out) hc.1 hlo ?_ was.length [] was out A4 c4 none w5 rfl (.refl _) (List.append_nil out).symm (h7.pick [0, 1, 2, 4] (by decide))
 intro fin A6 c6 cur6 w6 hp6 h8
 have hp : fin.Perm (cells_Diff_21.d1 was now ++ cells_Diff_21.d2 was now) := hp6.trans (hp4.append_right _)
 have hsr := cells_memory_told_24.sortR_perm hp hc.2
 refine RunsI.g 1 [.c 47, .c 48] ?_
 refine RunsI.r ?_
 refine RegI.p 1 [(54, .slice A6 fin.length c6)] ?_
 refine RegI.o (OpE.call 55 (by kernel_rfl) 27 #[.slice A6 fin.length c6] (by kernel_rfl) ((cells_memory_told_24_ord cells_memory_told_24_sorts h8 (c := 2) rfl hsr).mono ?_))
 rintro _ w7 ⟨rfl, h9⟩
 refine ⟨_, rfl, ?_⟩
 refine RegI.p 1 [(4, .slice A6 fin.length fin.length)] ?_
 refine RegI.d ?_
 refine RunsI.t (.slice A6 fin.length fin.length) ?_
 have hs := sortB_perm_eq Prod.fst hp ((distB_iff.1 (by rw [sortR, Bool.and_eq_true] at hc; exact hc.2.1)))
 generalize cells_Diff_21.d1 was now ++ cells_Diff_21.d2 was now = D at *
 have hlen : (sortB Prod.fst D).length = fin.length := by rw [(sortB_perm Prod.fst D).length_eq, hp.length_eq]
 have h10 := h9.release 2 rfl
 rw [hs] at h10
 have h11 := h10.pick [2] (by decide)
 have h12 : Sl Rc w7 (Mset M0 [sl Rc (.slice A6 fin.length c6) (sortB Prod.fst D)]) (.slice A6 (sortB Prod.fst D).length c6) (sortB Prod.fst D) := by rw [hlen]; exact h11.get 0 rfl
 have h13 := Sl.recap h12
 refine ⟨A6, (sortB Prod.fst D).length, by rw [hlen], ?_⟩
 exact h11.turn 0 (c' := sl Rc (.slice A6 (sortB Prod.fst D).length (sortB Prod.fst D).length) (sortB Prod.fst D)) rfl h11.below (Nat.le_refl _) (fun _ _ _ => rfl) (fun b hb => by simp [sl] at hb) (by simp [sl]) (fun hM => Sl.keep (Nat.le_refl _) (fun _ _ _ => rfl) hM h13)


/-! ### charabanc/charabanclaw14.awake (function 7) -/
section
def charabanclaw14_awake_7.post (M0 : Nat → Prop) (w0 : World) (r : Bool) : Ending → World → Prop := fun e w => e = .returned (.bool r) ∧ Below w0.heap.size w0 w
def charabanclaw14_awake_7.f (K : Nat) : Option Bool := (cells_Put_15.f K ([] : List (Int × Int)) 5 7).bind fun t5 => (cells_Load_17.f K t5 65535 ([1, 2] : List Int)).bind fun t21 => (cells_Diff_21.f K t21 t5).bind fun t30 => cond ((t5.length : Int) == 1) (cond (inR 0 t5.length) (cond ((((rdD t5 0).1) == 5) && ((((rdD t5 0).2) == 7) && true)) ((cells_Put_15.f K t5 5 0).bind fun t47 => cond ((t47.length : Int) == 0) ((cells_Get_13.f K t5 5).bind fun t57 => cond (t57 == 7) (cond ((t21.length : Int) == 3) (cond (inR 0 t21.length) (cond (((rdD t21 0).2) == 2) ((cells_Dump_19.f K t21 65535 2).bind fun t71 => cond ((t71.length : Int) == 2) ((cells_Check_8.f K t21).bind fun t81 => cond (t81 == 0) (cond ((t30.length : Int) == 2) (cond (inR 0 t30.length) (cond ((((rdD t30 0).1) == 0) && ((((rdD t30 0).2) == 0) && true)) ((cells_Make_11.f K ([(1, 2), (1, 0)] : List (Int × Int))).bind fun t102 => some ((t102.length : Int) == 0)) (some false)) none) (some false)) (some false)) (some false)) (some false)) none) (some false)) (some false)) (some false)) (some false)) none) (some false)
set_option maxRecDepth 100000 in
theorem charabanclaw14_awake_7_ok (K : Nat) (M0 : Nat → Prop) (w0 : World) (ho : ∀ b, M0 b → b < w0.heap.size) {r : Bool} (h : charabanclaw14_awake_7.f K = some r) :
  Calls Try.prog 7 #[] w0 (charabanclaw14_awake_7.post M0 w0 r) := by
 unfold charabanclaw14_awake_7.f at h
 have h0 : Holds M0 w0 w0 [] := Holds.start ho
 have h0 : Holds M0 w0 w0 [] := h0
 refine calls_of F7 rfl [] (by kernel_rfl) ?_
 refine RunsI.g 1 [.c 1, .c 2] ?_
 refine RunsI.r ?_
 refine RegI.p 1 [] ?_
 refine RegI.d ?_
 refine RunsI.g 1 [.c 3, .c 4] ?_
 refine RunsI.r ?_
 obtain ⟨t5, hg4, h⟩ := of_bind h
 refine RegI.o (OpE.call 4 (by kernel_rfl) 15 #[.slice none 0 0, .int .u16 5, .int .u8 7] (by kernel_rfl) ((cells_Put_15_ok K _ w0  none 0 ([] : List (Int × Int)) 5 7 h0.old' (Sl.nil _ _ _) hg4).mono ?_))
 rintro _ w1 ⟨A6, c7, rfl, hr9⟩
 refine ⟨_, rfl, ?_⟩
 have hb2 := hr9.below
 have h3 := h0.join hr9
 refine RegI.p 1 [(1, .slice A6 t5.length c7)] ?_
 refine RegI.d ?_
 refine RunsI.g 1 [.c 5, .c 6] ?_
 refine RunsI.r ?_
 refine RegI.p 1 [(1, .slice A6 t5.length c7), (5, .slice A6 t5.length c7)] ?_
 refine RegI.o (OpE.lit 6 5 [.int .u8 1, .int .u8 2] 2 h3 (by kernel_rfl) (by kernel_rfl) ?_)
 intro w10 b11 h12 hb13 hn14
 obtain ⟨t21, hg20, h⟩ := of_bind h
 have h15 := h12.boxOwn 1 rfl (Rp.int .u8) ([1, 2] : List Int) (cells_int _ _ _ _) (Nat.le_of_ble_eq_true (by kernel_rfl))
 have h16 := h15.release 1 rfl
 refine RegI.o (OpE.call 7 (by kernel_rfl) 17 #[.slice A6 t5.length c7, .int .u16 65535, .slice (some ⟨b11, 0, none⟩) (([1, 2] : List Int).length) 2] (by kernel_rfl) ((cells_Load_17_ok K _ w10  A6 c7 (some ⟨b11, 0, none⟩) 2 t5 65535 ([1, 2] : List Int) h16.old' (h16.get 0 rfl) (h16.get 1 rfl) hg20).mono ?_))
 rintro _ w17 ⟨A22, c23, rfl, hr25⟩
 refine ⟨_, rfl, ?_⟩
 have hb18 := hr25.below
 have h19 := h16.join hr25
 refine RegI.p 1 [(1, .slice A6 t5.length c7), (2, .slice A22 t21.length c23)] ?_
 refine RegI.d ?_
 refine RunsI.g 1 [.c 7, .c 8] ?_
 refine RunsI.r ?_
 refine RegI.p 2 [(1, .slice A6 t5.length c7), (2, .slice A22 t21.length c23), (8, .slice A22 t21.length c23), (9, .slice A6 t5.length c7)] ?_
 obtain ⟨t30, hg29, h⟩ := of_bind h
 refine RegI.o (OpE.call 10 (by kernel_rfl) 21 #[.slice A22 t21.length c23, .slice A6 t5.length c7] (by kernel_rfl) ((cells_Diff_21_ok K _ w17  A22 c23 A6 c7 t21 t5 h19.old' (h19.get 2 rfl) (h19.get 0 rfl) hg29).mono ?_))
 rintro _ w26 ⟨A31, c32, rfl, hr34⟩
 refine ⟨_, rfl, ?_⟩
 have hb27 := hr34.below
 have h28 := h19.join hr34
 refine RegI.p 1 [(1, .slice A6 t5.length c7), (2, .slice A22 t21.length c23), (3, .slice A31 t30.length c32)] ?_
 refine RegI.d ?_
 refine RunsI.g 1 [.c 9, .c 10] ?_
 refine RunsI.r ?_
 refine RegI.p 4 [(1, .slice A6 t5.length c7), (2, .slice A22 t21.length c23), (3, .slice A31 t30.length c32), (14, .bool ((t5.length : Int) == 1))] ?_
 rcases of_cond h with ⟨hc35, h⟩ | ⟨hc35, h⟩
 ·skip
  refine RegI.f 14 true hc35 ?_
  refine RegI.p 1 [(1, .slice A6 t5.length c7), (2, .slice A22 t21.length c23), (3, .slice A31 t30.length c32), (14, .bool true), (15, .slice A6 t5.length c7)] ?_
  obtain ⟨hc36, h⟩ := of_cond0 h
  refine RegI.o (OpE.idxSl 16 0 22 0 h28 (by kernel_rfl) rfl (by kernel_rfl) (by kernel_rfl) hc36 ?_)
  intro b37 o38 cs39 hk40 h41
  obtain ⟨_, _, rfl, rfl, rfl⟩ := hk40
  refine RegI.o (OpE.loadCel 17 4 38 b37 o38 0 (.agg #[.int .u16 ((rdD t5 0).1), .int .u8 ((rdD t5 0).2)]) h41 (by kernel_rfl) (by kernel_rfl) rfl (by kernel_rfl) ?_)
  refine RegI.p 1 [(1, .slice A6 t5.length c7), (2, .slice A22 t21.length c23), (3, .slice A31 t30.length c32), (14, .bool true), (17, .agg #[.int .u16 ((rdD t5 0).1), .int .u8 ((rdD t5 0).2)]), (18, .agg #[.int .u16 5, .int .u8 7])] ?_
  refine RegI.o (OpE.run 19 (by kernel_rfl) (run_eqS (neg := false) (t := 38) (x := .agg #[.int .u16 ((rdD t5 0).1), .int .u8 ((rdD t5 0).2)]) (y := .agg #[.int .u16 5, .int .u8 7]) (b := ((((rdD t5 0).1) == 5) && ((((rdD t5 0).2) == 7) && true))) (by kernel_rfl) (by kernel_rfl) (by kernel_rfl) (by kernel_rfl)) ?_)
  refine RegI.p 2 [(1, .slice A6 t5.length c7), (2, .slice A22 t21.length c23), (3, .slice A31 t30.length c32), (21, .bool ((((rdD t5 0).1) == 5) && ((((rdD t5 0).2) == 7) && true)))] ?_
  rcases of_cond h with ⟨hc42, h⟩ | ⟨hc42, h⟩
  ·skip
   refine RegI.f 21 true hc42 ?_
   refine RegI.p 1 [(1, .slice A6 t5.length c7), (2, .slice A22 t21.length c23), (3, .slice A31 t30.length c32), (21, .bool true), (22, .slice A6 t5.length c7)] ?_
   obtain ⟨t47, hg46, h⟩ := of_bind h
   refine RegI.o (OpE.call 23 (by kernel_rfl) 15 #[.slice A6 t5.length c7, .int .u16 5, .int .u8 0] (by kernel_rfl) ((cells_Put_15_ok K _ w26  A6 c7 t5 5 0 h41.old' (h41.get 0 rfl) hg46).mono ?_))
   rintro _ w43 ⟨A48, c49, rfl, hr51⟩
   refine ⟨_, rfl, ?_⟩
   have hb44 := hr51.below
   have h45 := h41.join hr51
   refine RegI.p 4 [(1, .slice A6 t5.length c7), (2, .slice A22 t21.length c23), (3, .slice A31 t30.length c32), (27, .bool ((t47.length : Int) == 0))] ?_
   rcases of_cond h with ⟨hc52, h⟩ | ⟨hc52, h⟩
   ·skip
    refine RegI.f 27 true hc52 ?_
    refine RegI.p 1 [(2, .slice A22 t21.length c23), (3, .slice A31 t30.length c32), (27, .bool true), (28, .slice A6 t5.length c7)] ?_
    obtain ⟨t57, hg56, h⟩ := of_bind h
    refine RegI.o (OpE.call 29 (by kernel_rfl) 13 #[.slice A6 t5.length c7, .int .u16 5] (by kernel_rfl) ((cells_Get_13_ok K _ w43  A6 c7 t5 5 h45.old' (h45.get 0 rfl) hg56).mono ?_))
    rintro _ w53 ⟨rfl, hb54⟩
    refine ⟨_, rfl, ?_⟩
    have h55 := h45.call hb54
    refine RegI.p 3 [(2, .slice A22 t21.length c23), (3, .slice A31 t30.length c32), (32, .bool (t57 == 7))] ?_
    rcases of_cond h with ⟨hc58, h⟩ | ⟨hc58, h⟩
    ·skip
     refine RegI.f 32 true hc58 ?_
     refine RegI.p 5 [(2, .slice A22 t21.length c23), (3, .slice A31 t30.length c32), (37, .bool ((t21.length : Int) == 3))] ?_
     rcases of_cond h with ⟨hc59, h⟩ | ⟨hc59, h⟩
     ·skip
      refine RegI.f 37 true hc59 ?_
      refine RegI.p 1 [(2, .slice A22 t21.length c23), (3, .slice A31 t30.length c32), (37, .bool true), (38, .slice A22 t21.length c23)] ?_
      obtain ⟨hc60, h⟩ := of_cond0 h
      refine RegI.o (OpE.idxSl 39 2 22 0 h55 (by kernel_rfl) rfl (by kernel_rfl) (by kernel_rfl) hc60 ?_)
      intro b61 o62 cs63 hk64 h65
      obtain ⟨_, _, rfl, rfl, rfl⟩ := hk64
      refine RegI.p 1 [(2, .slice A22 t21.length c23), (3, .slice A31 t30.length c32), (37, .bool true), (40, .pointer (some ⟨b61, o62 + 1, none⟩))] ?_
      refine RegI.o (OpE.loadCel 41 6 5 b61 o62 1 (.int .u8 ((rdD t21 0).2)) h65 (by kernel_rfl) (by kernel_rfl) rfl (by kernel_rfl) ?_)
      refine RegI.p 3 [(2, .slice A22 t21.length c23), (3, .slice A31 t30.length c32), (44, .bool (((rdD t21 0).2) == 2))] ?_
      rcases of_cond h with ⟨hc66, h⟩ | ⟨hc66, h⟩
      ·skip
       refine RegI.f 44 true hc66 ?_
       refine RegI.p 1 [(2, .slice A22 t21.length c23), (3, .slice A31 t30.length c32), (44, .bool true), (45, .slice A22 t21.length c23)] ?_
       obtain ⟨t71, hg70, h⟩ := of_bind h
       refine RegI.o (OpE.call 46 (by kernel_rfl) 19 #[.slice A22 t21.length c23, .int .u16 65535, .int .i64 2] (by kernel_rfl) ((cells_Dump_19_ok K _ w53  A22 c23 t21 65535 2 h65.old' (h65.get 2 rfl) hg70).mono ?_))
       rintro _ w67 ⟨A72, c73, rfl, hr75⟩
       refine ⟨_, rfl, ?_⟩
       have hb68 := hr75.below
       have h69 := h65.join hr75
       refine RegI.p 4 [(2, .slice A22 t21.length c23), (3, .slice A31 t30.length c32), (50, .bool ((t71.length : Int) == 2))] ?_
       rcases of_cond h with ⟨hc76, h⟩ | ⟨hc76, h⟩
       ·skip
        refine RegI.f 50 true hc76 ?_
        refine RegI.p 1 [(3, .slice A31 t30.length c32), (50, .bool true), (51, .slice A22 t21.length c23)] ?_
        obtain ⟨t81, hg80, h⟩ := of_bind h
        refine RegI.o (OpE.call 52 (by kernel_rfl) 8 #[.slice A22 t21.length c23] (by kernel_rfl) ((cells_Check_8_ok K _ w67  A22 c23 t21 h69.old' (h69.get 2 rfl) hg80).mono ?_))
        rintro _ w77 ⟨rfl, hb78⟩
        refine ⟨_, rfl, ?_⟩
        have h79 := h69.call hb78
        refine RegI.p 3 [(3, .slice A31 t30.length c32), (55, .bool (t81 == 0))] ?_
        rcases of_cond h with ⟨hc82, h⟩ | ⟨hc82, h⟩
        ·skip
         refine RegI.f 55 true hc82 ?_
         refine RegI.p 5 [(3, .slice A31 t30.length c32), (60, .bool ((t30.length : Int) == 2))] ?_
         rcases of_cond h with ⟨hc83, h⟩ | ⟨hc83, h⟩
         ·skip
          refine RegI.f 60 true hc83 ?_
          refine RegI.p 1 [(60, .bool true), (61, .slice A31 t30.length c32)] ?_
          obtain ⟨hc84, h⟩ := of_cond0 h
          refine RegI.o (OpE.idxSl 62 3 22 0 h79 (by kernel_rfl) rfl (by kernel_rfl) (by kernel_rfl) hc84 ?_)
          intro b85 o86 cs87 hk88 h89
          obtain ⟨_, _, rfl, rfl, rfl⟩ := hk88
          refine RegI.o (OpE.loadCel 63 8 38 b85 o86 0 (.agg #[.int .u16 ((rdD t30 0).1), .int .u8 ((rdD t30 0).2)]) h89 (by kernel_rfl) (by kernel_rfl) rfl (by kernel_rfl) ?_)
          refine RegI.p 1 [(60, .bool true), (63, .agg #[.int .u16 ((rdD t30 0).1), .int .u8 ((rdD t30 0).2)]), (64, .agg #[.int .u16 0, .int .u8 0])] ?_
          refine RegI.o (OpE.run 65 (by kernel_rfl) (run_eqS (neg := false) (t := 38) (x := .agg #[.int .u16 ((rdD t30 0).1), .int .u8 ((rdD t30 0).2)]) (y := .agg #[.int .u16 0, .int .u8 0]) (b := ((((rdD t30 0).1) == 0) && ((((rdD t30 0).2) == 0) && true))) (by kernel_rfl) (by kernel_rfl) (by kernel_rfl) (by kernel_rfl)) ?_)
          refine RegI.p 2 [(67, .bool ((((rdD t30 0).1) == 0) && ((((rdD t30 0).2) == 0) && true)))] ?_
          rcases of_cond h with ⟨hc90, h⟩ | ⟨hc90, h⟩
          ·skip
           refine RegI.f 67 true hc90 ?_
           refine RegI.p 2 [(67, .bool true), (68, .agg #[.int .u16 1, .int .u8 2]), (69, .agg #[.int .u16 1, .int .u8 0])] ?_
           refine RegI.o (OpE.lit 70 38 [.int .u16 1, .int .u8 2, .int .u16 1, .int .u8 0] 2 h89 (by kernel_rfl) (by kernel_rfl) ?_)
           intro w91 b92 h93 hb94 hn95
           obtain ⟨t102, hg101, h⟩ := of_bind h
           have h96 := h93.boxOwn 9 rfl (Rp.pair (Rp.int .u16) (Rp.int .u8)) ([(1, 2), (1, 0)] : List (Int × Int)) (⟨[_, _], _, rfl, ⟨[_], [_], rfl, rfl, rfl⟩, ⟨[_, _], _, rfl, ⟨[_], [_], rfl, rfl, rfl⟩, rfl⟩⟩) (Nat.le_of_ble_eq_true (by kernel_rfl))
           have h97 := h96.release 9 rfl
           refine RegI.o (OpE.call 71 (by kernel_rfl) 11 #[.slice (some ⟨b92, 0, none⟩) (([(1, 2), (1, 0)] : List (Int × Int)).length) 2] (by kernel_rfl) ((cells_Make_11_ok K _ w91  (some ⟨b92, 0, none⟩) 2 ([(1, 2), (1, 0)] : List (Int × Int)) h97.old' (h97.get 9 rfl) hg101).mono ?_))
           rintro _ w98 ⟨A103, c104, rfl, hr106⟩
           refine ⟨_, rfl, ?_⟩
           have hb99 := hr106.below
           have h100 := h97.join hr106
           refine RegI.p 4 [(0, .bool ((t102.length : Int) == 0))] ?_
           refine RegI.d ?_
           refine RunsI.t (.bool ((t102.length : Int) == 0)) ?_
           obtain rfl := Option.some.inj h
           exact ⟨rfl, h100.below⟩
          ·skip
           refine RegI.f 67 false hc90 ?_
           refine RegI.p 8 [(0, .bool false)] ?_
           refine RegI.d ?_
           refine RunsI.t (.bool false) ?_
           obtain rfl := Option.some.inj h
           exact ⟨rfl, h89.below⟩
         ·skip
          refine RegI.f 60 false hc83 ?_
          refine RegI.p 15 [(0, .bool false)] ?_
          refine RegI.d ?_
          refine RunsI.t (.bool false) ?_
          obtain rfl := Option.some.inj h
          exact ⟨rfl, h79.below⟩
        ·skip
         refine RegI.f 55 false hc82 ?_
         refine RegI.p 20 [(0, .bool false)] ?_
         refine RegI.d ?_
         refine RunsI.t (.bool false) ?_
         obtain rfl := Option.some.inj h
         exact ⟨rfl, h79.below⟩
       ·skip
        refine RegI.f 50 false hc76 ?_
        refine RegI.p 25 [(0, .bool false)] ?_
        refine RegI.d ?_
        refine RunsI.t (.bool false) ?_
        obtain rfl := Option.some.inj h
        exact ⟨rfl, h69.below⟩
      ·skip
       refine RegI.f 44 false hc66 ?_
       refine RegI.p 31 [(0, .bool false)] ?_
       refine RegI.d ?_
       refine RunsI.t (.bool false) ?_
       obtain rfl := Option.some.inj h
       exact ⟨rfl, h65.below⟩
     ·skip
      refine RegI.f 37 false hc59 ?_
      refine RegI.p 38 [(0, .bool false)] ?_
      refine RegI.d ?_
      refine RunsI.t (.bool false) ?_
      obtain rfl := Option.some.inj h
      exact ⟨rfl, h55.below⟩
    ·skip
     refine RegI.f 32 false hc58 ?_
     refine RegI.p 43 [(0, .bool false)] ?_
     refine RegI.d ?_
     refine RunsI.t (.bool false) ?_
     obtain rfl := Option.some.inj h
     exact ⟨rfl, h55.below⟩
   ·skip
    refine RegI.f 27 false hc52 ?_
    refine RegI.p 48 [(0, .bool false)] ?_
    refine RegI.d ?_
    refine RunsI.t (.bool false) ?_
    obtain rfl := Option.some.inj h
    exact ⟨rfl, h45.below⟩
  ·skip
   refine RegI.f 21 false hc42 ?_
   refine RegI.p 54 [(0, .bool false)] ?_
   refine RegI.d ?_
   refine RunsI.t (.bool false) ?_
   obtain rfl := Option.some.inj h
   exact ⟨rfl, h41.below⟩
 ·skip
  refine RegI.f 14 false hc35 ?_
  refine RegI.p 61 [(0, .bool false)] ?_
  refine RegI.d ?_
  refine RunsI.t (.bool false) ?_
  obtain rfl := Option.some.inj h
  exact ⟨rfl, h28.below⟩
end

/-! ### charabanc/charabancref14.Check (function 9) -/
section
def charabancref14_Check_9.post (M0 : Nat → Prop) (w0 : World) (r : Int) : Ending → World → Prop := fun e w => e = .returned (.int .i64 r) ∧ Below w0.heap.size w0 w
def charabancref14_Check_9.l0 (K : Nat) (p0 : List (Int × Int)) : Nat → Int → Option (Lp Unit Unit)
 | 0, _ => none
 | k + 1, t1 => cond (decide (t1 < (p0.length : Int))) (cond (inR t1 p0.length) (Let (fun (t35 : Bool) => cond t35 (some (Lp.ret ())) (charabancref14_Check_9.l0 K p0 k (IntKind.wrap .i64 (t1 + 1)))) (fun j38 => cond (((rdD p0 t1).2) == 0) (j38 true) (cond (decide (t1 > 0)) (cond (inR (IntKind.wrap .i64 (t1 - 1)) p0.length) (j38 (decide (((rdD p0 t1).1) ≤ ((rdD p0 (IntKind.wrap .i64 (t1 - 1))).1)))) none) (j38 false)))) none) (some (Lp.go ()))
set_option maxRecDepth 100000 in
theorem charabancref14_Check_9.l0_ok (K : Nat) (M0 : Nat → Prop) (w0 : World) (pA0 : Option Addr) (pc0 : Nat) (p0 : List (Int × Int)) (R : Ending → World → Prop) (x : Lp Unit Unit) (hk0 : ∀ (w1 : World), x = Lp.go () → Holds M0 w0 w1 [] → RunsI F9 [.c 23] [] w1 R) (hk1 : ∀ (w1 : World), x = Lp.ret () → Holds M0 w0 w1 [] → R (.returned (.int .i64 1)) w1) :
  ∀ (k : Nat) (t1 : Int) (w : World), charabancref14_Check_9.l0 K p0 k t1 = some x → Holds M0 w0 w [sl (Rp.pair (Rp.int .u16) (Rp.int .u8)) (.slice pA0 p0.length pc0) p0] → RunsI F9 [.c 7, .lp 7, .blk 0, .c 23] [(0, .slice pA0 p0.length pc0), (3, .int .i64 t1)] w R := by
 intro k
 induction k with
 | zero => intro t1 w h hH; exact absurd h (by simp [charabancref14_Check_9.l0])
 | succ k ih =>
  intro t1 w h hH
  rw [charabancref14_Check_9.l0.eq_2] at h
  refine RunsI.g 1 [.c 8, .c 13, .lp 7, .blk 0, .c 23] ?_
  refine RunsI.g 1 [.c 9, .c 10, .c 13, .lp 7, .blk 0, .c 23] ?_
  refine RunsI.r ?_
  refine RegI.p 4 [(0, .slice pA0 p0.length pc0), (3, .int .i64 t1), (7, .bool (decide (t1 < (p0.length : Int))))] ?_
  refine RegI.d ?_
  rcases of_cond h with ⟨hc2, h⟩ | ⟨hc2, h⟩
  ·skip
   refine RunsI.f 7 true hc2 ?_
   refine RunsI.b true 11 ?_
   refine RunsI.g 1 [.c 13, .lp 7, .blk 0, .c 23] ?_
   refine RunsI.g 3 [.c 16, .c 17, .blk 1, .c 22, .lp 7, .blk 0, .c 23] ?_
   refine RunsI.any 24 (by kernel_rfl) (by kernel_rfl) (by kernel_rfl) (Kp ([] : List Nat) (World.drew w)) ?_
   have h4 := hH.drew
   generalize World.drew w = w3 at h4 ⊢
   have hS5 := Kp.refl ([] : List Nat) w3
   refine AnyE.pure 0 10 (.slice pA0 p0.length pc0) (by kernel_rfl) hS5 (fun _ => by kernel_rfl) ?_
   refine AnyE.pure 1 11 (.int .i64 t1) (by kernel_rfl) hS5 (fun _ => by kernel_rfl) ?_
   obtain ⟨hc7, h⟩ := of_cond0 h
   refine AnyE.idxSl 2 12 0 22 t1 h4 (by kernel_rfl) hS5 rfl (by kernel_rfl) (by kernel_rfl) hc7 ?_
   intro b8 o9 cs10 hk11 h12
   obtain ⟨_, _, rfl, rfl, rfl⟩ := hk11
   refine AnyE.pure 3 13 (.pointer (some ⟨b8, o9 + 1, none⟩)) (by kernel_rfl) hS5 (fun _ => by kernel_rfl) ?_
   refine AnyE.loadCel 4 14 1 5 b8 o9 1 (.int .u8 ((rdD p0 t1).2)) [] h12 rfl (by kernel_rfl) hS5 rfl rfl (by kernel_rfl) (by kernel_rfl) ?_
   refine AnyE.pure 5 15 (.bool (((rdD p0 t1).2) == 0)) (by kernel_rfl) hS5 (fun _ => by kernel_rfl) ?_
   refine AnyE.pure 6 16 (.bool (((rdD p0 t1).2) == 0)) (by kernel_rfl) hS5 (fun _ => by kernel_rfl) ?_
   obtain ⟨j38, hJ39, h⟩ := of_let h
   have hj40 : ∀ (t35 : Bool) (w37 : World), j38 t35 = some x → Holds M0 w0 w37 [sl (Rp.pair (Rp.int .u16) (Rp.int .u8)) (.slice pA0 p0.length pc0) p0] → RunsI F9 [.c 17, .blk 1, .c 22, .lp 7, .blk 0, .c 23] [(0, .slice pA0 p0.length pc0), (3, .int .i64 t1), (33, .bool t35)] w37 R := by
    intro t35 w37 h h36
    rw [hJ39] at h
    clear hJ39
    dsimp only at h
    rcases of_cond h with ⟨hc41, h⟩ | ⟨hc41, h⟩
    ·skip
     refine RunsI.f 33 true hc41 ?_
     refine RunsI.b true 18 ?_
     refine RunsI.g 1 [.c 19, .c 20, .blk 1, .c 22, .lp 7, .blk 0, .c 23] ?_
     refine RunsI.r ?_
     refine RegI.p 1 [(2, .int .i64 1)] ?_
     refine RegI.d ?_
     refine RunsI.t (.int .i64 1) ?_
     exact hk1 w37 (Option.some.inj h).symm (h36.pick [] (by decide))
    ·skip
     refine RunsI.f 33 false hc41 ?_
     refine RunsI.b false 21 ?_
     refine RunsI.g 1 [.blk 1, .c 22, .lp 7, .blk 0, .c 23] ?_
     refine RunsI.g 1 [.c 22, .lp 7, .blk 0, .c 23] ?_
     refine RunsI.r ?_
     refine RegI.p 3 [(0, .slice pA0 p0.length pc0), (3, .int .i64 (IntKind.wrap .i64 (t1 + 1)))] ?_
     refine RegI.d ?_
     refine RunsI.g 1 [.c 7, .lp 7, .blk 0, .c 23] ?_
     refine RunsI.l [0, 3] [(0, .slice pA0 p0.length pc0), (3, .int .i64 (IntKind.wrap .i64 (t1 + 1)))] ?_
     exact ih (IntKind.wrap .i64 (t1 + 1)) w37 h (h36.pick [0] (by decide))
   clear hJ39
   rcases of_cond h with ⟨hc13, h⟩ | ⟨hc13, h⟩
   ·skip
    refine AnyE.fix 16 true hc13 (by kernel_rfl) (by kernel_rfl) ?_
    refine AnyE.no 7 17 (by kernel_rfl) hS5 ?_
    refine AnyE.no 8 18 (by kernel_rfl) hS5 ?_
    refine AnyE.no 9 19 (by kernel_rfl) hS5 ?_
    refine AnyE.no 10 20 (by kernel_rfl) hS5 ?_
    refine AnyE.no 11 21 (by kernel_rfl) hS5 ?_
    refine AnyE.no 12 22 (by kernel_rfl) hS5 ?_
    refine AnyE.no 13 23 (by kernel_rfl) hS5 ?_
    refine AnyE.no 14 24 (by kernel_rfl) hS5 ?_
    refine AnyE.no 15 25 (by kernel_rfl) hS5 ?_
    refine AnyE.no 16 26 (by kernel_rfl) hS5 ?_
    refine AnyE.no 17 27 (by kernel_rfl) hS5 ?_
    refine AnyE.no 18 28 (by kernel_rfl) hS5 ?_
    refine AnyE.no 19 29 (by kernel_rfl) hS5 ?_
    refine AnyE.no 20 30 (by kernel_rfl) hS5 ?_
    refine AnyE.no 21 31 (by kernel_rfl) hS5 ?_
    refine AnyE.no 22 32 (by kernel_rfl) hS5 ?_
    refine AnyE.pure 23 33 (.bool true) (by kernel_rfl) hS5 (fun _ => by kernel_rfl) ?_
    refine AnyE.done (by kernel_rfl) (fun w14 hu15 => ?_)
    have h16 := h12.call hu15
    refine RunsI.l [0, 3, 33] [(0, .slice pA0 p0.length pc0), (3, .int .i64 t1), (33, .bool true)] ?_
    refine RunsI.l [0, 3, 33] [(0, .slice pA0 p0.length pc0), (3, .int .i64 t1), (33, .bool true)] ?_
    exact hj40 true w14 h (h16.pick [0] (by decide))
   ·skip
    refine AnyE.fix 16 false hc13 (by kernel_rfl) (by kernel_rfl) ?_
    refine AnyE.pure 7 17 (.int .i64 t1) (by kernel_rfl) hS5 (fun _ => by kernel_rfl) ?_
    refine AnyE.pure 8 18 (.bool (decide (t1 > 0))) (by kernel_rfl) hS5 (fun _ => by kernel_rfl) ?_
    refine AnyE.pure 9 19 (.bool (decide (t1 > 0))) (by kernel_rfl) hS5 (fun _ => by kernel_rfl) ?_
    rcases of_cond h with ⟨hc17, h⟩ | ⟨hc17, h⟩
    ·skip
     refine AnyE.fix 19 true hc17 (by kernel_rfl) (by kernel_rfl) ?_
     refine AnyE.pure 10 20 (.slice pA0 p0.length pc0) (by kernel_rfl) hS5 (fun _ => by kernel_rfl) ?_
     refine AnyE.pure 11 21 (.int .i64 t1) (by kernel_rfl) hS5 (fun _ => by kernel_rfl) ?_
     refine AnyE.idxSl 12 22 0 22 t1 h12 (by kernel_rfl) hS5 rfl (by kernel_rfl) (by kernel_rfl) hc7 ?_
     intro b18 o19 cs20 hk21 h22
     obtain ⟨_, _, rfl, rfl, rfl⟩ := hk21
     refine AnyE.pure 13 23 (.pointer (some ⟨b18, o19, none⟩)) (by kernel_rfl) hS5 (fun _ => by kernel_rfl) ?_
     refine AnyE.loadCel 14 24 2 23 b18 o19 0 (.int .u16 ((rdD p0 t1).1)) [] h22 rfl (by kernel_rfl) hS5 rfl rfl (by kernel_rfl) (by kernel_rfl) ?_
     refine AnyE.pure 15 25 (.slice pA0 p0.length pc0) (by kernel_rfl) hS5 (fun _ => by kernel_rfl) ?_
     refine AnyE.pure 16 26 (.int .i64 t1) (by kernel_rfl) hS5 (fun _ => by kernel_rfl) ?_
     refine AnyE.pure 17 27 (.int .i64 (IntKind.wrap .i64 (t1 - 1))) (by kernel_rfl) hS5 (fun _ => by kernel_rfl) ?_
     obtain ⟨hc23, h⟩ := of_cond0 h
     refine AnyE.idxSl 18 28 0 22 (IntKind.wrap .i64 (t1 - 1)) h22 (by kernel_rfl) hS5 rfl (by kernel_rfl) (by kernel_rfl) hc23 ?_
     intro b24 o25 cs26 hk27 h28
     obtain ⟨_, _, rfl, rfl, rfl⟩ := hk27
     refine AnyE.pure 19 29 (.pointer (some ⟨b24, o25, none⟩)) (by kernel_rfl) hS5 (fun _ => by kernel_rfl) ?_
     refine AnyE.loadCel 20 30 3 23 b24 o25 0 (.int .u16 ((rdD p0 (IntKind.wrap .i64 (t1 - 1))).1)) [] h28 rfl (by kernel_rfl) hS5 rfl rfl (by kernel_rfl) (by kernel_rfl) ?_
     refine AnyE.pure 21 31 (.bool (decide (((rdD p0 t1).1) ≤ ((rdD p0 (IntKind.wrap .i64 (t1 - 1))).1)))) (by kernel_rfl) hS5 (fun _ => by kernel_rfl) ?_
     refine AnyE.pure 22 32 (.bool (decide (((rdD p0 t1).1) ≤ ((rdD p0 (IntKind.wrap .i64 (t1 - 1))).1)))) (by kernel_rfl) hS5 (fun _ => by kernel_rfl) ?_
     refine AnyE.pure 23 33 (.bool (decide (((rdD p0 t1).1) ≤ ((rdD p0 (IntKind.wrap .i64 (t1 - 1))).1)))) (by kernel_rfl) hS5 (fun _ => by kernel_rfl) ?_
     refine AnyE.done (by kernel_rfl) (fun w29 hu30 => ?_)
     have h31 := h28.call hu30
     refine RunsI.l [0, 3, 33] [(0, .slice pA0 p0.length pc0), (3, .int .i64 t1), (33, .bool (decide (((rdD p0 t1).1) ≤ ((rdD p0 (IntKind.wrap .i64 (t1 - 1))).1))))] ?_
     refine RunsI.l [0, 3, 33] [(0, .slice pA0 p0.length pc0), (3, .int .i64 t1), (33, .bool (decide (((rdD p0 t1).1) ≤ ((rdD p0 (IntKind.wrap .i64 (t1 - 1))).1))))] ?_
     exact hj40 (decide (((rdD p0 t1).1) ≤ ((rdD p0 (IntKind.wrap .i64 (t1 - 1))).1))) w29 h (h31.pick [0] (by decide))
    ·skip
     refine AnyE.fix 19 false hc17 (by kernel_rfl) (by kernel_rfl) ?_
     refine AnyE.no 10 20 (by kernel_rfl) hS5 ?_
     refine AnyE.no 11 21 (by kernel_rfl) hS5 ?_
     refine AnyE.no 12 22 (by kernel_rfl) hS5 ?_
     refine AnyE.no 13 23 (by kernel_rfl) hS5 ?_
     refine AnyE.no 14 24 (by kernel_rfl) hS5 ?_
     refine AnyE.no 15 25 (by kernel_rfl) hS5 ?_
     refine AnyE.no 16 26 (by kernel_rfl) hS5 ?_
     refine AnyE.no 17 27 (by kernel_rfl) hS5 ?_
     refine AnyE.no 18 28 (by kernel_rfl) hS5 ?_
     refine AnyE.no 19 29 (by kernel_rfl) hS5 ?_
     refine AnyE.no 20 30 (by kernel_rfl) hS5 ?_
     refine AnyE.no 21 31 (by kernel_rfl) hS5 ?_
     refine AnyE.pure 22 32 (.bool false) (by kernel_rfl) hS5 (fun _ => by kernel_rfl) ?_
     refine AnyE.pure 23 33 (.bool false) (by kernel_rfl) hS5 (fun _ => by kernel_rfl) ?_
     refine AnyE.done (by kernel_rfl) (fun w32 hu33 => ?_)
     have h34 := h12.call hu33
     refine RunsI.l [0, 3, 33] [(0, .slice pA0 p0.length pc0), (3, .int .i64 t1), (33, .bool false)] ?_
     refine RunsI.l [0, 3, 33] [(0, .slice pA0 p0.length pc0), (3, .int .i64 t1), (33, .bool false)] ?_
     exact hj40 false w32 h (h34.pick [0] (by decide))
  ·skip
   refine RunsI.f 7 false hc2 ?_
   refine RunsI.b false 12 ?_
   refine RunsI.g 1 [.c 23] ?_
   refine RunsI.l [] [] ?_
   exact hk0 w (Option.some.inj h).symm (hH.pick [] (by decide))
def charabancref14_Check_9.f (K : Nat) (p0 : List (Int × Int)) : Option Int := (charabancref14_Check_9.l0 K p0 K 0).bind (fun x42 => Lp.elim x42 (fun _ => some 1) (fun _ => some 0))
set_option maxRecDepth 100000 in
theorem charabancref14_Check_9_ok (K : Nat) (M0 : Nat → Prop) (w0 : World) (pA0 : Option Addr) (pc0 : Nat) (p0 : List (Int × Int)) (ho : ∀ b, M0 b → b < w0.heap.size) (hs0 : Sl (Rp.pair (Rp.int .u16) (Rp.int .u8)) w0 M0 (.slice pA0 p0.length pc0) p0) {r : Int} (h : charabancref14_Check_9.f K p0 = some r) :
  Calls Try.prog 9 #[.slice pA0 p0.length pc0] w0 (charabancref14_Check_9.post M0 w0 r) := by
 unfold charabancref14_Check_9.f at h
 have h0 : Holds M0 w0 w0 [] := Holds.start ho
 have h00 := h0.addSl (Rp.pair (Rp.int .u16) (Rp.int .u8)) (.slice pA0 p0.length pc0) p0 (hs0.mono (fun _ _ hm => hm.elim id (fun hm => absurd hm (by simp [mines, sl]))))
 have h0 : Holds M0 w0 w0 [sl (Rp.pair (Rp.int .u16) (Rp.int .u8)) (.slice pA0 p0.length pc0) p0] := h00
 refine calls_of F9 rfl [.slice pA0 p0.length pc0] (by kernel_rfl) ?_
 refine RunsI.g 1 [.c 1, .c 2] ?_
 refine RunsI.r ?_
 refine RegI.p 1 [(0, .slice pA0 p0.length pc0)] ?_
 refine RegI.d ?_
 refine RunsI.g 2 [.c 4, .c 5, .c 23] ?_
 refine RunsI.r ?_
 refine RegI.p 1 [(0, .slice pA0 p0.length pc0), (3, .int .i64 0)] ?_
 refine RegI.d ?_
 refine RunsI.g 2 [.c 7, .lp 7, .blk 0, .c 23] ?_
 obtain ⟨x42, hx43, h⟩ := of_bind h
 refine RunsI.l [0, 3] [(0, .slice pA0 p0.length pc0), (3, .int .i64 0)] ?_
 refine charabancref14_Check_9.l0_ok K M0 w0 pA0 pc0 p0 _ x42 ?_ ?_ K 0 w0 hx43 (h0.pick [0] (by decide))
 ·intro w45 hq48 h44
  (try rw [hq48] at h)
  dsimp only [Lp.elim] at h
  refine RunsI.g 1 [.c 24, .c 25] ?_
  refine RunsI.r ?_
  refine RegI.p 1 [(2, .int .i64 0)] ?_
  refine RegI.d ?_
  refine RunsI.t (.int .i64 0) ?_
  obtain rfl := Option.some.inj h
  exact ⟨rfl, h44.below⟩
 ·intro w47 hq49 h46
  (try rw [hq49] at h)
  dsimp only [Lp.elim] at h
  obtain rfl := Option.some.inj h
  exact ⟨rfl, h46.below⟩
end

/-! ### charabanc/charabancref14.Same (function 10) -/
section
def charabancref14_Same_10.post (M0 : Nat → Prop) (w0 : World) (r : Bool) : Ending → World → Prop := fun e w => e = .returned (.bool r) ∧ Below w0.heap.size w0 w
def charabancref14_Same_10.l0 (K : Nat) (p0 : List (Int × Int)) (p1 : List (Int × Int)) : Nat → Int → Option (Lp Unit Unit)
 | 0, _ => none
 | k + 1, t2 => cond (decide (t2 < (p0.length : Int))) (cond (inR t2 p0.length) (cond (inR t2 p1.length) (cond (!((((rdD p0 t2).1) == ((rdD p1 t2).1)) && ((((rdD p0 t2).2) == ((rdD p1 t2).2)) && true))) (some (Lp.ret ())) (charabancref14_Same_10.l0 K p0 p1 k (IntKind.wrap .i64 (t2 + 1)))) none) none) (some (Lp.go ()))
set_option maxRecDepth 100000 in
theorem charabancref14_Same_10.l0_ok (K : Nat) (M0 : Nat → Prop) (w0 : World) (pA0 : Option Addr) (pc0 : Nat) (pA1 : Option Addr) (pc1 : Nat) (p0 : List (Int × Int)) (p1 : List (Int × Int)) (R : Ending → World → Prop) (x : Lp Unit Unit) (hk0 : ∀ (w1 : World), x = Lp.go () → Holds M0 w0 w1 [] → RunsI F10 [.c 31] [] w1 R) (hk1 : ∀ (w1 : World), x = Lp.ret () → Holds M0 w0 w1 [] → R (.returned (.bool false)) w1) :
  ∀ (k : Nat) (t2 : Int) (w : World), charabancref14_Same_10.l0 K p0 p1 k t2 = some x → Holds M0 w0 w [sl (Rp.pair (Rp.int .u16) (Rp.int .u8)) (.slice pA0 p0.length pc0) p0, sl (Rp.pair (Rp.int .u16) (Rp.int .u8)) (.slice pA1 p1.length pc1) p1] → RunsI F10 [.c 15, .lp 15, .blk 0, .c 31] [(0, .slice pA0 p0.length pc0), (1, .slice pA1 p1.length pc1), (5, .int .i64 t2)] w R := by
 intro k
 induction k with
 | zero => intro t2 w h hH; exact absurd h (by simp [charabancref14_Same_10.l0])
 | succ k ih =>
  intro t2 w h hH
  rw [charabancref14_Same_10.l0.eq_2] at h
  refine RunsI.g 1 [.c 16, .c 21, .lp 15, .blk 0, .c 31] ?_
  refine RunsI.g 1 [.c 17, .c 18, .c 21, .lp 15, .blk 0, .c 31] ?_
  refine RunsI.r ?_
  refine RegI.p 4 [(0, .slice pA0 p0.length pc0), (1, .slice pA1 p1.length pc1), (5, .int .i64 t2), (14, .bool (decide (t2 < (p0.length : Int))))] ?_
  refine RegI.d ?_
  rcases of_cond h with ⟨hc3, h⟩ | ⟨hc3, h⟩
  ·skip
   refine RunsI.f 14 true hc3 ?_
   refine RunsI.b true 19 ?_
   refine RunsI.g 1 [.c 21, .lp 15, .blk 0, .c 31] ?_
   refine RunsI.g 3 [.c 24, .c 25, .blk 1, .c 30, .lp 15, .blk 0, .c 31] ?_
   refine RunsI.any 9 (by kernel_rfl) (by kernel_rfl) (by kernel_rfl) (Kp ([] : List Nat) (World.drew w)) ?_
   have h5 := hH.drew
   generalize World.drew w = w4 at h5 ⊢
   have hS6 := Kp.refl ([] : List Nat) w4
   refine AnyE.pure 0 17 (.slice pA0 p0.length pc0) (by kernel_rfl) hS6 (fun _ => by kernel_rfl) ?_
   refine AnyE.pure 1 18 (.int .i64 t2) (by kernel_rfl) hS6 (fun _ => by kernel_rfl) ?_
   obtain ⟨hc8, h⟩ := of_cond0 h
   refine AnyE.idxSl 2 19 0 22 t2 h5 (by kernel_rfl) hS6 rfl (by kernel_rfl) (by kernel_rfl) hc8 ?_
   intro b9 o10 cs11 hk12 h13
   obtain ⟨_, _, rfl, rfl, rfl⟩ := hk12
   refine AnyE.loadCel 3 20 2 38 b9 o10 0 (.agg #[.int .u16 ((rdD p0 t2).1), .int .u8 ((rdD p0 t2).2)]) [] h13 rfl (by kernel_rfl) hS6 rfl rfl (by kernel_rfl) (by kernel_rfl) ?_
   refine AnyE.pure 4 21 (.slice pA1 p1.length pc1) (by kernel_rfl) hS6 (fun _ => by kernel_rfl) ?_
   refine AnyE.pure 5 22 (.int .i64 t2) (by kernel_rfl) hS6 (fun _ => by kernel_rfl) ?_
   obtain ⟨hc14, h⟩ := of_cond0 h
   refine AnyE.idxSl 6 23 1 22 t2 h13 (by kernel_rfl) hS6 rfl (by kernel_rfl) (by kernel_rfl) hc14 ?_
   intro b15 o16 cs17 hk18 h19
   obtain ⟨_, _, rfl, rfl, rfl⟩ := hk18
   refine AnyE.loadCel 7 24 3 38 b15 o16 0 (.agg #[.int .u16 ((rdD p1 t2).1), .int .u8 ((rdD p1 t2).2)]) [] h19 rfl (by kernel_rfl) hS6 rfl rfl (by kernel_rfl) (by kernel_rfl) ?_
   refine AnyE.run 8 25 (.bool (!((((rdD p0 t2).1) == ((rdD p1 t2).1)) && ((((rdD p0 t2).2) == ((rdD p1 t2).2)) && true)))) (by kernel_rfl) hS6 (fun _ hk => run_eqS (neg := true) (t := 38) (x := .agg #[.int .u16 ((rdD p0 t2).1), .int .u8 ((rdD p0 t2).2)]) (y := .agg #[.int .u16 ((rdD p1 t2).1), .int .u8 ((rdD p1 t2).2)]) (b := ((((rdD p0 t2).1) == ((rdD p1 t2).1)) && ((((rdD p0 t2).2) == ((rdD p1 t2).2)) && true))) (by kernel_rfl) (by kernel_rfl) (by kernel_rfl) (by kernel_rfl)) ?_
   refine AnyE.done (by kernel_rfl) (fun w20 hu21 => ?_)
   have h22 := h19.call hu21
   refine RunsI.l [0, 1, 5, 25] [(0, .slice pA0 p0.length pc0), (1, .slice pA1 p1.length pc1), (5, .int .i64 t2), (25, .bool (!((((rdD p0 t2).1) == ((rdD p1 t2).1)) && ((((rdD p0 t2).2) == ((rdD p1 t2).2)) && true))))] ?_
   rcases of_cond h with ⟨hc23, h⟩ | ⟨hc23, h⟩
   ·skip
    refine RunsI.f 25 true hc23 ?_
    refine RunsI.b true 26 ?_
    refine RunsI.g 1 [.c 27, .c 28, .blk 1, .c 30, .lp 15, .blk 0, .c 31] ?_
    refine RunsI.r ?_
    refine RegI.p 1 [(4, .bool false)] ?_
    refine RegI.d ?_
    refine RunsI.t (.bool false) ?_
    exact hk1 w20 (Option.some.inj h).symm (h22.pick [] (by decide))
   ·skip
    refine RunsI.f 25 false hc23 ?_
    refine RunsI.b false 29 ?_
    refine RunsI.g 1 [.blk 1, .c 30, .lp 15, .blk 0, .c 31] ?_
    refine RunsI.g 1 [.c 30, .lp 15, .blk 0, .c 31] ?_
    refine RunsI.r ?_
    refine RegI.p 3 [(0, .slice pA0 p0.length pc0), (1, .slice pA1 p1.length pc1), (5, .int .i64 (IntKind.wrap .i64 (t2 + 1)))] ?_
    refine RegI.d ?_
    refine RunsI.g 1 [.c 15, .lp 15, .blk 0, .c 31] ?_
    refine RunsI.l [0, 1, 5] [(0, .slice pA0 p0.length pc0), (1, .slice pA1 p1.length pc1), (5, .int .i64 (IntKind.wrap .i64 (t2 + 1)))] ?_
    exact ih (IntKind.wrap .i64 (t2 + 1)) w20 h (h22.pick [0, 1] (by decide))
  ·skip
   refine RunsI.f 14 false hc3 ?_
   refine RunsI.b false 20 ?_
   refine RunsI.g 1 [.c 31] ?_
   refine RunsI.l [] [] ?_
   exact hk0 w (Option.some.inj h).symm (hH.pick [] (by decide))
def charabancref14_Same_10.f (K : Nat) (p0 : List (Int × Int)) (p1 : List (Int × Int)) : Option Bool := cond ((p0.length : Int) != (p1.length : Int)) (some false) ((charabancref14_Same_10.l0 K p0 p1 K 0).bind (fun x24 => Lp.elim x24 (fun _ => some false) (fun _ => some true)))
set_option maxRecDepth 100000 in
theorem charabancref14_Same_10_ok (K : Nat) (M0 : Nat → Prop) (w0 : World) (pA0 : Option Addr) (pc0 : Nat) (pA1 : Option Addr) (pc1 : Nat) (p0 : List (Int × Int)) (p1 : List (Int × Int)) (ho : ∀ b, M0 b → b < w0.heap.size) (hs0 : Sl (Rp.pair (Rp.int .u16) (Rp.int .u8)) w0 M0 (.slice pA0 p0.length pc0) p0) (hs1 : Sl (Rp.pair (Rp.int .u16) (Rp.int .u8)) w0 M0 (.slice pA1 p1.length pc1) p1) {r : Bool} (h : charabancref14_Same_10.f K p0 p1 = some r) :
  Calls Try.prog 10 #[.slice pA0 p0.length pc0, .slice pA1 p1.length pc1] w0 (charabancref14_Same_10.post M0 w0 r) := by
 unfold charabancref14_Same_10.f at h
 have h0 : Holds M0 w0 w0 [] := Holds.start ho
 have h00 := h0.addSl (Rp.pair (Rp.int .u16) (Rp.int .u8)) (.slice pA0 p0.length pc0) p0 (hs0.mono (fun _ _ hm => hm.elim id (fun hm => absurd hm (by simp [mines, sl]))))
 have h01 := h00.addSl (Rp.pair (Rp.int .u16) (Rp.int .u8)) (.slice pA1 p1.length pc1) p1 (hs1.mono (fun _ _ hm => hm.elim id (fun hm => absurd hm (by simp [mines, sl]))))
 have h0 : Holds M0 w0 w0 [sl (Rp.pair (Rp.int .u16) (Rp.int .u8)) (.slice pA0 p0.length pc0) p0, sl (Rp.pair (Rp.int .u16) (Rp.int .u8)) (.slice pA1 p1.length pc1) p1] := h01
 refine calls_of F10 rfl [.slice pA0 p0.length pc0, .slice pA1 p1.length pc1] (by kernel_rfl) ?_
 refine RunsI.g 1 [.c 1, .c 2] ?_
 refine RunsI.r ?_
 refine RegI.p 1 [(0, .slice pA0 p0.length pc0), (1, .slice pA1 p1.length pc1)] ?_
 refine RegI.d ?_
 refine RunsI.g 2 [.c 4, .c 5, .c 10] ?_
 refine RunsI.r ?_
 refine RegI.p 5 [(0, .slice pA0 p0.length pc0), (1, .slice pA1 p1.length pc1), (10, .bool ((p0.length : Int) != (p1.length : Int)))] ?_
 refine RegI.d ?_
 rcases of_cond h with ⟨hc1, h⟩ | ⟨hc1, h⟩
 ·skip
  refine RunsI.f 10 true hc1 ?_
  refine RunsI.b true 6 ?_
  refine RunsI.g 1 [.c 7, .c 8, .c 10] ?_
  refine RunsI.r ?_
  refine RegI.p 1 [(4, .bool false)] ?_
  refine RegI.d ?_
  refine RunsI.t (.bool false) ?_
  obtain rfl := Option.some.inj h
  exact ⟨rfl, h0.below⟩
 ·skip
  refine RunsI.f 10 false hc1 ?_
  refine RunsI.b false 9 ?_
  refine RunsI.g 1 [.c 10] ?_
  refine RunsI.g 2 [.c 12, .c 13, .c 31] ?_
  refine RunsI.r ?_
  refine RegI.p 1 [(0, .slice pA0 p0.length pc0), (1, .slice pA1 p1.length pc1), (5, .int .i64 0)] ?_
  refine RegI.d ?_
  refine RunsI.g 2 [.c 15, .lp 15, .blk 0, .c 31] ?_
  obtain ⟨x24, hx25, h⟩ := of_bind h
  refine RunsI.l [0, 1, 5] [(0, .slice pA0 p0.length pc0), (1, .slice pA1 p1.length pc1), (5, .int .i64 0)] ?_
  refine charabancref14_Same_10.l0_ok K M0 w0 pA0 pc0 pA1 pc1 p0 p1 _ x24 ?_ ?_ K 0 w0 hx25 (h0.pick [0, 1] (by decide))
  ·intro w27 hq30 h26
   (try rw [hq30] at h)
   dsimp only [Lp.elim] at h
   refine RunsI.g 1 [.c 32, .c 33] ?_
   refine RunsI.r ?_
   refine RegI.p 1 [(4, .bool true)] ?_
   refine RegI.d ?_
   refine RunsI.t (.bool true) ?_
   obtain rfl := Option.some.inj h
   exact ⟨rfl, h26.below⟩
  ·intro w29 hq31 h28
   (try rw [hq31] at h)
   dsimp only [Lp.elim] at h
   obtain rfl := Option.some.inj h
   exact ⟨rfl, h28.below⟩
end

/-! ### charabanc/charabancref14.Get (function 14) -/
section
def charabancref14_Get_14.post (M0 : Nat → Prop) (w0 : World) (r : Int) : Ending → World → Prop := fun e w => e = .returned (.int .u8 r) ∧ Below w0.heap.size w0 w
def charabancref14_Get_14.l0 (K : Nat) (p0 : List (Int × Int)) (p1 : Int) : Nat → Int → Int → Option Int
 | 0, _, _ => none
 | k + 1, t1, t2 => cond (decide (t2 < (p0.length : Int))) (cond (inR t2 p0.length) (cond (((rdD p0 t2).1) == p1) (charabancref14_Get_14.l0 K p0 p1 k ((rdD p0 t2).2) (IntKind.wrap .i64 (t2 + 1))) (charabancref14_Get_14.l0 K p0 p1 k t1 (IntKind.wrap .i64 (t2 + 1)))) none) (some t1)
set_option maxRecDepth 100000 in
theorem charabancref14_Get_14.l0_ok (K : Nat) (M0 : Nat → Prop) (w0 : World) (pA0 : Option Addr) (pc0 : Nat) (p0 : List (Int × Int)) (p1 : Int) (R : Ending → World → Prop) (x : Int) (hk0 : ∀ (t16 : Int) (w1 : World), x = t16 → Holds M0 w0 w1 [] → RunsI F14 [.c 23] [(5, .int .u8 t16)] w1 R) :
  ∀ (k : Nat) (t1 : Int) (t2 : Int) (w : World), charabancref14_Get_14.l0 K p0 p1 k t1 t2 = some x → Holds M0 w0 w [sl (Rp.pair (Rp.int .u16) (Rp.int .u8)) (.slice pA0 p0.length pc0) p0] → RunsI F14 [.c 9, .lp 9, .blk 0, .c 23] [(0, .slice pA0 p0.length pc0), (1, .int .u16 p1), (5, .int .u8 t1), (6, .int .i64 t2)] w R := by
 intro k
 induction k with
 | zero => intro t1 t2 w h hH; exact absurd h (by simp [charabancref14_Get_14.l0])
 | succ k ih =>
  intro t1 t2 w h hH
  rw [charabancref14_Get_14.l0.eq_2] at h
  refine RunsI.g 1 [.c 10, .c 15, .lp 9, .blk 0, .c 23] ?_
  refine RunsI.g 1 [.c 11, .c 12, .c 15, .lp 9, .blk 0, .c 23] ?_
  refine RunsI.r ?_
  refine RegI.p 4 [(0, .slice pA0 p0.length pc0), (1, .int .u16 p1), (5, .int .u8 t1), (6, .int .i64 t2), (10, .bool (decide (t2 < (p0.length : Int))))] ?_
  refine RegI.d ?_
  rcases of_cond h with ⟨hc3, h⟩ | ⟨hc3, h⟩
  ·skip
   refine RunsI.f 10 true hc3 ?_
   refine RunsI.b true 13 ?_
   refine RunsI.g 1 [.c 15, .lp 9, .blk 0, .c 23] ?_
   refine RunsI.g 3 [.c 18, .c 19, .blk 1, .c 22, .lp 9, .blk 0, .c 23] ?_
   refine RunsI.r ?_
   refine RegI.p 2 [(0, .slice pA0 p0.length pc0), (1, .int .u16 p1), (5, .int .u8 t1), (6, .int .i64 t2), (13, .slice pA0 p0.length pc0), (14, .int .i64 t2)] ?_
   obtain ⟨hc4, h⟩ := of_cond0 h
   refine RegI.o (OpE.idxSl 15 0 22 t2 hH (by kernel_rfl) rfl (by kernel_rfl) (by kernel_rfl) hc4 ?_)
   intro b5 o6 cs7 hk8 h9
   obtain ⟨_, _, rfl, rfl, rfl⟩ := hk8
   refine RegI.p 1 [(0, .slice pA0 p0.length pc0), (1, .int .u16 p1), (5, .int .u8 t1), (6, .int .i64 t2), (16, .pointer (some ⟨b5, o6, none⟩))] ?_
   refine RegI.o (OpE.loadCel 17 1 23 b5 o6 0 (.int .u16 ((rdD p0 t2).1)) h9 (by kernel_rfl) (by kernel_rfl) rfl (by kernel_rfl) ?_)
   refine RegI.p 2 [(0, .slice pA0 p0.length pc0), (1, .int .u16 p1), (5, .int .u8 t1), (6, .int .i64 t2), (19, .bool (((rdD p0 t2).1) == p1))] ?_
   refine RegI.d ?_
   rcases of_cond h with ⟨hc10, h⟩ | ⟨hc10, h⟩
   ·skip
    refine RunsI.f 19 true hc10 ?_
    refine RunsI.b true 20 ?_
    refine RunsI.r ?_
    refine RegI.p 2 [(0, .slice pA0 p0.length pc0), (1, .int .u16 p1), (6, .int .i64 t2), (20, .slice pA0 p0.length pc0), (21, .int .i64 t2)] ?_
    refine RegI.o (OpE.idxSl 22 0 22 t2 h9 (by kernel_rfl) rfl (by kernel_rfl) (by kernel_rfl) hc4 ?_)
    intro b11 o12 cs13 hk14 h15
    obtain ⟨_, _, rfl, rfl, rfl⟩ := hk14
    refine RegI.p 1 [(0, .slice pA0 p0.length pc0), (1, .int .u16 p1), (6, .int .i64 t2), (23, .pointer (some ⟨b11, o12 + 1, none⟩))] ?_
    refine RegI.o (OpE.loadCel 24 2 5 b11 o12 1 (.int .u8 ((rdD p0 t2).2)) h15 (by kernel_rfl) (by kernel_rfl) rfl (by kernel_rfl) ?_)
    refine RegI.p 1 [(0, .slice pA0 p0.length pc0), (1, .int .u16 p1), (5, .int .u8 ((rdD p0 t2).2)), (6, .int .i64 t2)] ?_
    refine RegI.d ?_
    refine RunsI.g 1 [.c 22, .lp 9, .blk 0, .c 23] ?_
    refine RunsI.r ?_
    refine RegI.p 3 [(0, .slice pA0 p0.length pc0), (1, .int .u16 p1), (5, .int .u8 ((rdD p0 t2).2)), (6, .int .i64 (IntKind.wrap .i64 (t2 + 1)))] ?_
    refine RegI.d ?_
    refine RunsI.g 1 [.c 9, .lp 9, .blk 0, .c 23] ?_
    refine RunsI.l [0, 1, 5, 6] [(0, .slice pA0 p0.length pc0), (1, .int .u16 p1), (5, .int .u8 ((rdD p0 t2).2)), (6, .int .i64 (IntKind.wrap .i64 (t2 + 1)))] ?_
    exact ih ((rdD p0 t2).2) (IntKind.wrap .i64 (t2 + 1)) w h (h15.pick [0] (by decide))
   ·skip
    refine RunsI.f 19 false hc10 ?_
    refine RunsI.b false 21 ?_
    refine RunsI.g 1 [.blk 1, .c 22, .lp 9, .blk 0, .c 23] ?_
    refine RunsI.g 1 [.c 22, .lp 9, .blk 0, .c 23] ?_
    refine RunsI.r ?_
    refine RegI.p 3 [(0, .slice pA0 p0.length pc0), (1, .int .u16 p1), (5, .int .u8 t1), (6, .int .i64 (IntKind.wrap .i64 (t2 + 1)))] ?_
    refine RegI.d ?_
    refine RunsI.g 1 [.c 9, .lp 9, .blk 0, .c 23] ?_
    refine RunsI.l [0, 1, 5, 6] [(0, .slice pA0 p0.length pc0), (1, .int .u16 p1), (5, .int .u8 t1), (6, .int .i64 (IntKind.wrap .i64 (t2 + 1)))] ?_
    exact ih t1 (IntKind.wrap .i64 (t2 + 1)) w h (h9.pick [0] (by decide))
  ·skip
   refine RunsI.f 10 false hc3 ?_
   refine RunsI.b false 14 ?_
   refine RunsI.g 1 [.c 23] ?_
   refine RunsI.l [5] [(5, .int .u8 t1)] ?_
   exact hk0 t1 w (Option.some.inj h).symm (hH.pick [] (by decide))
def charabancref14_Get_14.f (K : Nat) (p0 : List (Int × Int)) (p1 : Int) : Option Int := (charabancref14_Get_14.l0 K p0 p1 K 0 0).bind (fun t19 => some t19)
set_option maxRecDepth 100000 in
theorem charabancref14_Get_14_ok (K : Nat) (M0 : Nat → Prop) (w0 : World) (pA0 : Option Addr) (pc0 : Nat) (p0 : List (Int × Int)) (p1 : Int) (ho : ∀ b, M0 b → b < w0.heap.size) (hs0 : Sl (Rp.pair (Rp.int .u16) (Rp.int .u8)) w0 M0 (.slice pA0 p0.length pc0) p0) {r : Int} (h : charabancref14_Get_14.f K p0 p1 = some r) :
  Calls Try.prog 14 #[.slice pA0 p0.length pc0, .int .u16 p1] w0 (charabancref14_Get_14.post M0 w0 r) := by
 unfold charabancref14_Get_14.f at h
 have h0 : Holds M0 w0 w0 [] := Holds.start ho
 have h00 := h0.addSl (Rp.pair (Rp.int .u16) (Rp.int .u8)) (.slice pA0 p0.length pc0) p0 (hs0.mono (fun _ _ hm => hm.elim id (fun hm => absurd hm (by simp [mines, sl]))))
 have h0 : Holds M0 w0 w0 [sl (Rp.pair (Rp.int .u16) (Rp.int .u8)) (.slice pA0 p0.length pc0) p0] := h00
 refine calls_of F14 rfl [.slice pA0 p0.length pc0, .int .u16 p1] (by kernel_rfl) ?_
 refine RunsI.g 1 [.c 1, .c 2] ?_
 refine RunsI.r ?_
 refine RegI.p 1 [(0, .slice pA0 p0.length pc0), (1, .int .u16 p1)] ?_
 refine RegI.d ?_
 refine RunsI.g 1 [.c 3, .c 4] ?_
 refine RunsI.r ?_
 refine RegI.p 1 [(0, .slice pA0 p0.length pc0), (1, .int .u16 p1), (5, .int .u8 0)] ?_
 refine RegI.d ?_
 refine RunsI.g 2 [.c 6, .c 7, .c 23] ?_
 refine RunsI.r ?_
 refine RegI.p 1 [(0, .slice pA0 p0.length pc0), (1, .int .u16 p1), (5, .int .u8 0), (6, .int .i64 0)] ?_
 refine RegI.d ?_
 refine RunsI.g 2 [.c 9, .lp 9, .blk 0, .c 23] ?_
 obtain ⟨x17, hx18, h⟩ := of_bind h
 refine RunsI.l [0, 1, 5, 6] [(0, .slice pA0 p0.length pc0), (1, .int .u16 p1), (5, .int .u8 0), (6, .int .i64 0)] ?_
 refine charabancref14_Get_14.l0_ok K M0 w0 pA0 pc0 p0 p1 _ x17 ?_ K 0 0 w0 hx18 (h0.pick [0] (by decide))
 ·intro t19 w21 hq22 h20
  (try rw [hq22] at h)
  refine RunsI.g 1 [.c 24, .c 25] ?_
  refine RunsI.r ?_
  refine RegI.p 2 [(4, .int .u8 t19)] ?_
  refine RegI.d ?_
  refine RunsI.t (.int .u8 t19) ?_
  obtain rfl := Option.some.inj h
  exact ⟨rfl, h20.below⟩
end

/-! ### charabanc/charabancref14.Make (function 12) -/
section
def charabancref14_Make_12.post (M0 : Nat → Prop) (w0 : World) (r : (List (Int × Int))) : Ending → World → Prop := fun e w => ∃ (A1 : Option Addr) (c1 : Nat), e = .returned (.slice A1 r.length c1) ∧ Holds M0 w0 w [own (Rp.pair (Rp.int .u16) (Rp.int .u8)) 38 (.slice A1 r.length c1) r]
def charabancref14_Make_12.l0 (K : Nat) (p0 : List (Int × Int)) (t8 : List (Int × Int)) (t9 : Int) : Nat → Int → Int → Option Int
 | 0, _, _ => none
 | k + 1, t10, t11 => cond (decide (t11 < (p0.length : Int))) (cond (inR t11 p0.length) (Let (fun (t31 : Bool) => cond t31 (charabancref14_Make_12.l0 K p0 t8 t9 k (IntKind.wrap .i64 ((rdD p0 t11).1)) (IntKind.wrap .i64 (t11 + 1))) (charabancref14_Make_12.l0 K p0 t8 t9 k t10 (IntKind.wrap .i64 (t11 + 1)))) (fun j34 => cond (decide ((IntKind.wrap .i64 ((rdD p0 t11).1)) > t9)) (cond (decide ((IntKind.wrap .i64 ((rdD p0 t11).1)) < t10)) ((charabancref14_Get_14.f K p0 ((rdD p0 t11).1)).bind fun t30 => j34 (t30 != 0)) (j34 false)) (j34 false))) none) (some t10)
set_option maxRecDepth 100000 in
theorem charabancref14_Make_12.l0_ok (K : Nat) (M0 : Nat → Prop) (w0 : World) (pA0 : Option Addr) (pc0 : Nat) (p0 : List (Int × Int)) (t8 : List (Int × Int)) (t9 : Int) (A6 : Option Addr) (c7 : Nat) (R : Ending → World → Prop) (x : Int) (hk0 : ∀ (t38 : Int) (w1 : World), x = t38 → Holds M0 w0 w1 [sl (Rp.pair (Rp.int .u16) (Rp.int .u8)) (.slice pA0 p0.length pc0) p0, own (Rp.pair (Rp.int .u16) (Rp.int .u8)) 38 (.slice A6 t8.length c7) t8] → RunsI F12 [.c 32, .blk 1, .lp 8, .blk 0] [(0, .slice pA0 p0.length pc0), (3, .slice A6 t8.length c7), (5, .int .i64 t38)] w1 R) :
  ∀ (k : Nat) (t10 : Int) (t11 : Int) (w : World), charabancref14_Make_12.l0 K p0 t8 t9 k t10 t11 = some x → Holds M0 w0 w [sl (Rp.pair (Rp.int .u16) (Rp.int .u8)) (.slice pA0 p0.length pc0) p0, own (Rp.pair (Rp.int .u16) (Rp.int .u8)) 38 (.slice A6 t8.length c7) t8] → RunsI F12 [.c 16, .lp 16, .blk 2, .c 32, .blk 1, .lp 8, .blk 0] [(0, .slice pA0 p0.length pc0), (3, .slice A6 t8.length c7), (4, .int .i64 t9), (5, .int .i64 t10), (6, .int .i64 t11)] w R := by
 intro k
 induction k with
 | zero => intro t10 t11 w h hH; exact absurd h (by simp [charabancref14_Make_12.l0])
 | succ k ih =>
  intro t10 t11 w h hH
  rw [charabancref14_Make_12.l0.eq_2] at h
  refine RunsI.g 1 [.c 17, .c 22, .lp 16, .blk 2, .c 32, .blk 1, .lp 8, .blk 0] ?_
  refine RunsI.g 1 [.c 18, .c 19, .c 22, .lp 16, .blk 2, .c 32, .blk 1, .lp 8, .blk 0] ?_
  refine RunsI.r ?_
  refine RegI.p 4 [(0, .slice pA0 p0.length pc0), (3, .slice A6 t8.length c7), (4, .int .i64 t9), (5, .int .i64 t10), (6, .int .i64 t11), (11, .bool (decide (t11 < (p0.length : Int))))] ?_
  refine RegI.d ?_
  rcases of_cond h with ⟨hc12, h⟩ | ⟨hc12, h⟩
  ·skip
   refine RunsI.f 11 true hc12 ?_
   refine RunsI.b true 20 ?_
   refine RunsI.g 1 [.c 22, .lp 16, .blk 2, .c 32, .blk 1, .lp 8, .blk 0] ?_
   refine RunsI.g 3 [.c 25, .c 26, .blk 3, .c 31, .lp 16, .blk 2, .c 32, .blk 1, .lp 8, .blk 0] ?_
   refine RunsI.r ?_
   refine RegI.p 2 [(0, .slice pA0 p0.length pc0), (3, .slice A6 t8.length c7), (4, .int .i64 t9), (5, .int .i64 t10), (6, .int .i64 t11), (14, .slice pA0 p0.length pc0), (15, .int .i64 t11)] ?_
   obtain ⟨hc13, h⟩ := of_cond0 h
   refine RegI.o (OpE.idxSl 16 0 22 t11 hH (by kernel_rfl) rfl (by kernel_rfl) (by kernel_rfl) hc13 ?_)
   intro b14 o15 cs16 hk17 h18
   obtain ⟨_, _, rfl, rfl, rfl⟩ := hk17
   refine RegI.p 1 [(0, .slice pA0 p0.length pc0), (3, .slice A6 t8.length c7), (4, .int .i64 t9), (5, .int .i64 t10), (6, .int .i64 t11), (17, .pointer (some ⟨b14, o15, none⟩))] ?_
   refine RegI.o (OpE.loadCel 18 2 23 b14 o15 0 (.int .u16 ((rdD p0 t11).1)) h18 (by kernel_rfl) (by kernel_rfl) rfl (by kernel_rfl) ?_)
   refine RegI.p 2 [(0, .slice pA0 p0.length pc0), (3, .slice A6 t8.length c7), (4, .int .i64 t9), (5, .int .i64 t10), (6, .int .i64 t11), (7, .int .i64 (IntKind.wrap .i64 ((rdD p0 t11).1)))] ?_
   refine RegI.d ?_
   refine RunsI.g 1 [.c 27, .c 28, .blk 3, .c 31, .lp 16, .blk 2, .c 32, .blk 1, .lp 8, .blk 0] ?_
   refine RunsI.r ?_
   refine RegI.p 4 [(0, .slice pA0 p0.length pc0), (3, .slice A6 t8.length c7), (4, .int .i64 t9), (5, .int .i64 t10), (6, .int .i64 t11), (7, .int .i64 (IntKind.wrap .i64 ((rdD p0 t11).1))), (23, .bool (decide ((IntKind.wrap .i64 ((rdD p0 t11).1)) > t9)))] ?_
   obtain ⟨j34, hJ35, h⟩ := of_let h
   have hj36 : ∀ (t31 : Bool) (w33 : World), j34 t31 = some x → Holds M0 w0 w33 [sl (Rp.pair (Rp.int .u16) (Rp.int .u8)) (.slice pA0 p0.length pc0) p0, own (Rp.pair (Rp.int .u16) (Rp.int .u8)) 38 (.slice A6 t8.length c7) t8] → RegI F12 27 [.c 28, .blk 3, .c 31, .lp 16, .blk 2, .c 32, .blk 1, .lp 8, .blk 0] 18 [(0, .slice pA0 p0.length pc0), (3, .slice A6 t8.length c7), (4, .int .i64 t9), (5, .int .i64 t10), (6, .int .i64 t11), (7, .int .i64 (IntKind.wrap .i64 ((rdD p0 t11).1))), (37, .bool t31)] w33 R := by
    intro t31 w33 h h32
    rw [hJ35] at h
    clear hJ35
    dsimp only at h
    refine RegI.d ?_
    rcases of_cond h with ⟨hc37, h⟩ | ⟨hc37, h⟩
    ·skip
     refine RunsI.f 37 true hc37 ?_
     refine RunsI.b true 29 ?_
     refine RunsI.r ?_
     refine RegI.p 2 [(0, .slice pA0 p0.length pc0), (3, .slice A6 t8.length c7), (4, .int .i64 t9), (5, .int .i64 (IntKind.wrap .i64 ((rdD p0 t11).1))), (6, .int .i64 t11)] ?_
     refine RegI.d ?_
     refine RunsI.g 1 [.c 31, .lp 16, .blk 2, .c 32, .blk 1, .lp 8, .blk 0] ?_
     refine RunsI.r ?_
     refine RegI.p 3 [(0, .slice pA0 p0.length pc0), (3, .slice A6 t8.length c7), (4, .int .i64 t9), (5, .int .i64 (IntKind.wrap .i64 ((rdD p0 t11).1))), (6, .int .i64 (IntKind.wrap .i64 (t11 + 1)))] ?_
     refine RegI.d ?_
     refine RunsI.g 1 [.c 16, .lp 16, .blk 2, .c 32, .blk 1, .lp 8, .blk 0] ?_
     refine RunsI.l [0, 3, 4, 5, 6] [(0, .slice pA0 p0.length pc0), (3, .slice A6 t8.length c7), (4, .int .i64 t9), (5, .int .i64 (IntKind.wrap .i64 ((rdD p0 t11).1))), (6, .int .i64 (IntKind.wrap .i64 (t11 + 1)))] ?_
     exact ih (IntKind.wrap .i64 ((rdD p0 t11).1)) (IntKind.wrap .i64 (t11 + 1)) w33 h (h32.pick [0, 1] (by decide))
    ·skip
     refine RunsI.f 37 false hc37 ?_
     refine RunsI.b false 30 ?_
     refine RunsI.g 1 [.blk 3, .c 31, .lp 16, .blk 2, .c 32, .blk 1, .lp 8, .blk 0] ?_
     refine RunsI.g 1 [.c 31, .lp 16, .blk 2, .c 32, .blk 1, .lp 8, .blk 0] ?_
     refine RunsI.r ?_
     refine RegI.p 3 [(0, .slice pA0 p0.length pc0), (3, .slice A6 t8.length c7), (4, .int .i64 t9), (5, .int .i64 t10), (6, .int .i64 (IntKind.wrap .i64 (t11 + 1)))] ?_
     refine RegI.d ?_
     refine RunsI.g 1 [.c 16, .lp 16, .blk 2, .c 32, .blk 1, .lp 8, .blk 0] ?_
     refine RunsI.l [0, 3, 4, 5, 6] [(0, .slice pA0 p0.length pc0), (3, .slice A6 t8.length c7), (4, .int .i64 t9), (5, .int .i64 t10), (6, .int .i64 (IntKind.wrap .i64 (t11 + 1)))] ?_
     exact ih t10 (IntKind.wrap .i64 (t11 + 1)) w33 h (h32.pick [0, 1] (by decide))
   clear hJ35
   rcases of_cond h with ⟨hc19, h⟩ | ⟨hc19, h⟩
   ·skip
    refine RegI.f 23 true hc19 ?_
    refine RegI.p 5 [(0, .slice pA0 p0.length pc0), (3, .slice A6 t8.length c7), (4, .int .i64 t9), (5, .int .i64 t10), (6, .int .i64 t11), (7, .int .i64 (IntKind.wrap .i64 ((rdD p0 t11).1))), (28, .bool (decide ((IntKind.wrap .i64 ((rdD p0 t11).1)) < t10)))] ?_
    rcases of_cond h with ⟨hc20, h⟩ | ⟨hc20, h⟩
    ·skip
     refine RegI.f 28 true hc20 ?_
     refine RegI.p 3 [(0, .slice pA0 p0.length pc0), (3, .slice A6 t8.length c7), (4, .int .i64 t9), (5, .int .i64 t10), (6, .int .i64 t11), (7, .int .i64 (IntKind.wrap .i64 ((rdD p0 t11).1))), (28, .bool true), (29, .slice pA0 p0.length pc0), (30, .slice pA0 p0.length pc0), (31, .int .i64 t11)] ?_
     refine RegI.o (OpE.idxSl 32 0 22 t11 h18 (by kernel_rfl) rfl (by kernel_rfl) (by kernel_rfl) hc13 ?_)
     intro b21 o22 cs23 hk24 h25
     obtain ⟨_, _, rfl, rfl, rfl⟩ := hk24
     refine RegI.p 1 [(0, .slice pA0 p0.length pc0), (3, .slice A6 t8.length c7), (4, .int .i64 t9), (5, .int .i64 t10), (6, .int .i64 t11), (7, .int .i64 (IntKind.wrap .i64 ((rdD p0 t11).1))), (28, .bool true), (29, .slice pA0 p0.length pc0), (33, .pointer (some ⟨b21, o22, none⟩))] ?_
     refine RegI.o (OpE.loadCel 34 3 23 b21 o22 0 (.int .u16 ((rdD p0 t11).1)) h25 (by kernel_rfl) (by kernel_rfl) rfl (by kernel_rfl) ?_)
     obtain ⟨t30, hg29, h⟩ := of_bind h
     refine RegI.o (OpE.call 35 (by kernel_rfl) 14 #[.slice pA0 p0.length pc0, .int .u16 ((rdD p0 t11).1)] (by kernel_rfl) ((charabancref14_Get_14_ok K _ w  pA0 pc0 p0 ((rdD p0 t11).1) h25.old' (h25.get 0 rfl) hg29).mono ?_))
     rintro _ w26 ⟨rfl, hb27⟩
     refine ⟨_, rfl, ?_⟩
     have h28 := h25.call hb27
     refine RegI.p 2 [(0, .slice pA0 p0.length pc0), (3, .slice A6 t8.length c7), (4, .int .i64 t9), (5, .int .i64 t10), (6, .int .i64 t11), (7, .int .i64 (IntKind.wrap .i64 ((rdD p0 t11).1))), (37, .bool (t30 != 0))] ?_
     refine RegI.l [0, 3, 4, 5, 6, 7, 37] [(0, .slice pA0 p0.length pc0), (3, .slice A6 t8.length c7), (4, .int .i64 t9), (5, .int .i64 t10), (6, .int .i64 t11), (7, .int .i64 (IntKind.wrap .i64 ((rdD p0 t11).1))), (37, .bool (t30 != 0))] ?_
     exact hj36 (t30 != 0) w26 h (h28.pick [0, 1] (by decide))
    ·skip
     refine RegI.f 28 false hc20 ?_
     refine RegI.p 9 [(0, .slice pA0 p0.length pc0), (3, .slice A6 t8.length c7), (4, .int .i64 t9), (5, .int .i64 t10), (6, .int .i64 t11), (7, .int .i64 (IntKind.wrap .i64 ((rdD p0 t11).1))), (37, .bool false)] ?_
     refine RegI.l [0, 3, 4, 5, 6, 7, 37] [(0, .slice pA0 p0.length pc0), (3, .slice A6 t8.length c7), (4, .int .i64 t9), (5, .int .i64 t10), (6, .int .i64 t11), (7, .int .i64 (IntKind.wrap .i64 ((rdD p0 t11).1))), (37, .bool false)] ?_
     exact hj36 false w h (h18.pick [0, 1] (by decide))
   ·skip
    refine RegI.f 23 false hc19 ?_
    refine RegI.p 14 [(0, .slice pA0 p0.length pc0), (3, .slice A6 t8.length c7), (4, .int .i64 t9), (5, .int .i64 t10), (6, .int .i64 t11), (7, .int .i64 (IntKind.wrap .i64 ((rdD p0 t11).1))), (37, .bool false)] ?_
    refine RegI.l [0, 3, 4, 5, 6, 7, 37] [(0, .slice pA0 p0.length pc0), (3, .slice A6 t8.length c7), (4, .int .i64 t9), (5, .int .i64 t10), (6, .int .i64 t11), (7, .int .i64 (IntKind.wrap .i64 ((rdD p0 t11).1))), (37, .bool false)] ?_
    exact hj36 false w h (h18.pick [0, 1] (by decide))
  ·skip
   refine RunsI.f 11 false hc12 ?_
   refine RunsI.b false 21 ?_
   refine RunsI.g 1 [.c 32, .blk 1, .lp 8, .blk 0] ?_
   refine RunsI.l [0, 3, 5] [(0, .slice pA0 p0.length pc0), (3, .slice A6 t8.length c7), (5, .int .i64 t10)] ?_
   exact hk0 t10 w (Option.some.inj h).symm (hH.pick [0, 1] (by decide))
def charabancref14_Make_12.l1 (K : Nat) (p0 : List (Int × Int)) : Nat → (List (Int × Int)) → Int → Option (List (Int × Int))
 | 0, _, _ => none
 | k + 1, t4, t5 => (charabancref14_Make_12.l0 K p0 t4 t5 K 65536 0).bind (fun t41 => cond (t41 == 65536) (some t4) ((charabancref14_Get_14.f K p0 (IntKind.wrap .u16 t41)).bind fun t49 => cond (mayBe (t4.length + ([((IntKind.wrap .u16 t41), t49)] : List (Int × Int)).length) 4) (charabancref14_Make_12.l1 K p0 k (t4 ++ ([((IntKind.wrap .u16 t41), t49)] : List (Int × Int))) t41) none))
set_option maxRecDepth 100000 in
theorem charabancref14_Make_12.l1_ok (K : Nat) (M0 : Nat → Prop) (w0 : World) (pA0 : Option Addr) (pc0 : Nat) (p0 : List (Int × Int)) (R : Ending → World → Prop) (x : (List (Int × Int))) (hk0 : ∀ (t63 : List (Int × Int)) (A61 : Option Addr) (c62 : Nat) (w1 : World), x = t63 → Holds M0 w0 w1 [own (Rp.pair (Rp.int .u16) (Rp.int .u8)) 38 (.slice A61 t63.length c62) t63] → R (.returned (.slice A61 t63.length c62)) w1) :
  ∀ (k : Nat) (t4 : List (Int × Int)) (t5 : Int) (A2 : Option Addr) (c3 : Nat) (w : World), charabancref14_Make_12.l1 K p0 k t4 t5 = some x → Holds M0 w0 w [sl (Rp.pair (Rp.int .u16) (Rp.int .u8)) (.slice pA0 p0.length pc0) p0, own (Rp.pair (Rp.int .u16) (Rp.int .u8)) 38 (.slice A2 t4.length c3) t4] → RunsI F12 [.c 8, .lp 8, .blk 0] [(0, .slice pA0 p0.length pc0), (3, .slice A2 t4.length c3), (4, .int .i64 t5)] w R := by
 intro k
 induction k with
 | zero => intro t4 t5 A2 c3 w h hH; exact absurd h (by simp [charabancref14_Make_12.l1])
 | succ k ih =>
  intro t4 t5 A2 c3 w h hH
  rw [charabancref14_Make_12.l1.eq_2] at h
  refine RunsI.g 1 [.c 9, .blk 1, .lp 8, .blk 0] ?_
  refine RunsI.g 1 [.c 10, .c 11, .blk 1, .lp 8, .blk 0] ?_
  refine RunsI.r ?_
  refine RegI.p 1 [(0, .slice pA0 p0.length pc0), (3, .slice A2 t4.length c3), (4, .int .i64 t5), (5, .int .i64 65536)] ?_
  refine RegI.d ?_
  refine RunsI.g 2 [.c 13, .c 14, .c 32, .blk 1, .lp 8, .blk 0] ?_
  refine RunsI.r ?_
  refine RegI.p 1 [(0, .slice pA0 p0.length pc0), (3, .slice A2 t4.length c3), (4, .int .i64 t5), (5, .int .i64 65536), (6, .int .i64 0)] ?_
  refine RegI.d ?_
  refine RunsI.g 2 [.c 16, .lp 16, .blk 2, .c 32, .blk 1, .lp 8, .blk 0] ?_
  obtain ⟨x39, hx40, h⟩ := of_bind h
  refine RunsI.l [0, 3, 4, 5, 6] [(0, .slice pA0 p0.length pc0), (3, .slice A2 t4.length c3), (4, .int .i64 t5), (5, .int .i64 65536), (6, .int .i64 0)] ?_
  refine charabancref14_Make_12.l0_ok K M0 w0 pA0 pc0 p0 t4 t5 A2 c3 _ x39 ?_ K 65536 0 w hx40 (hH.pick [0, 1] (by decide))
  ·intro t41 w43 hq71 h42
   (try rw [hq71] at h)
   refine RunsI.g 2 [.c 34, .c 35, .c 40, .blk 1, .lp 8, .blk 0] ?_
   refine RunsI.r ?_
   refine RegI.p 2 [(0, .slice pA0 p0.length pc0), (3, .slice A2 t4.length c3), (5, .int .i64 t41), (40, .bool (t41 == 65536))] ?_
   refine RegI.d ?_
   rcases of_cond h with ⟨hc44, h⟩ | ⟨hc44, h⟩
   ·skip
    refine RunsI.f 40 true hc44 ?_
    refine RunsI.b true 36 ?_
    refine RunsI.g 1 [.c 37, .c 38, .c 40, .blk 1, .lp 8, .blk 0] ?_
    refine RunsI.r ?_
    refine RegI.p 2 [(2, .slice A2 t4.length c3)] ?_
    refine RegI.d ?_
    refine RunsI.t (.slice A2 t4.length c3) ?_
    exact hk0 t4 A2 c3 w43 (Option.some.inj h).symm (h42.pick [1] (by decide))
   ·skip
    refine RunsI.f 40 false hc44 ?_
    refine RunsI.b false 39 ?_
    refine RunsI.g 1 [.c 40, .blk 1, .lp 8, .blk 0] ?_
    refine RunsI.g 1 [.c 41, .c 42, .blk 1, .lp 8, .blk 0] ?_
    refine RunsI.r ?_
    refine RegI.p 6 [(0, .slice pA0 p0.length pc0), (5, .int .i64 t41), (42, .slice A2 t4.length c3), (44, .int .u16 (IntKind.wrap .u16 t41)), (45, .slice pA0 p0.length pc0), (47, .int .u16 (IntKind.wrap .u16 t41))] ?_
    obtain ⟨t49, hg48, h⟩ := of_bind h
    refine RegI.o (OpE.call 48 (by kernel_rfl) 14 #[.slice pA0 p0.length pc0, .int .u16 (IntKind.wrap .u16 t41)] (by kernel_rfl) ((charabancref14_Get_14_ok K _ w43  pA0 pc0 p0 (IntKind.wrap .u16 t41) h42.old' (h42.get 0 rfl) hg48).mono ?_))
    rintro _ w45 ⟨rfl, hb46⟩
    refine ⟨_, rfl, ?_⟩
    have h47 := h42.call hb46
    refine RegI.p 1 [(0, .slice pA0 p0.length pc0), (5, .int .i64 t41), (42, .slice A2 t4.length c3), (49, .agg #[.int .u16 (IntKind.wrap .u16 t41), .int .u8 t49])] ?_
    refine RegI.o (OpE.lit 50 38 [.int .u16 (IntKind.wrap .u16 t41), .int .u8 t49] 1 h47 (by kernel_rfl) (by kernel_rfl) ?_)
    intro w50 b51 h52 hb53 hn54
    obtain ⟨hc55, h⟩ := of_cond0 h
    refine RegI.o (OpE.appendBox 51 1 2 22 38 4 ([((IntKind.wrap .u16 t41), t49)] : List (Int × Int)) 0 h52 (by kernel_rfl) (by kernel_rfl) (by kernel_rfl) rfl rfl rfl (⟨[_, _], _, rfl, ⟨[_], [_], rfl, rfl, rfl⟩, rfl⟩) hc55 ?_)
    intro w56 A57 c58 h59 hk60
    refine RegI.p 1 [(0, .slice pA0 p0.length pc0), (3, .slice A57 ((t4 ++ ([((IntKind.wrap .u16 t41), t49)] : List (Int × Int))).length) c58), (5, .int .i64 t41)] ?_
    refine RegI.d ?_
    refine RunsI.r ?_
    refine RegI.p 2 [(0, .slice pA0 p0.length pc0), (3, .slice A57 ((t4 ++ ([((IntKind.wrap .u16 t41), t49)] : List (Int × Int))).length) c58), (4, .int .i64 t41)] ?_
    refine RegI.d ?_
    refine RunsI.g 2 [.c 8, .lp 8, .blk 0] ?_
    refine RunsI.l [0, 3, 4] [(0, .slice pA0 p0.length pc0), (3, .slice A57 ((t4 ++ ([((IntKind.wrap .u16 t41), t49)] : List (Int × Int))).length) c58), (4, .int .i64 t41)] ?_
    exact ih (t4 ++ ([((IntKind.wrap .u16 t41), t49)] : List (Int × Int))) t41 A57 c58 w56 h (h59.pick [0, 1] (by decide))
def charabancref14_Make_12.f (K : Nat) (p0 : List (Int × Int)) : Option (List (Int × Int)) := (charabancref14_Make_12.l1 K p0 K ([] : List (Int × Int)) (-1)).bind (fun t68 => some t68)
set_option maxRecDepth 100000 in
theorem charabancref14_Make_12_ok (K : Nat) (M0 : Nat → Prop) (w0 : World) (pA0 : Option Addr) (pc0 : Nat) (p0 : List (Int × Int)) (ho : ∀ b, M0 b → b < w0.heap.size) (hs0 : Sl (Rp.pair (Rp.int .u16) (Rp.int .u8)) w0 M0 (.slice pA0 p0.length pc0) p0) {r : (List (Int × Int))} (h : charabancref14_Make_12.f K p0 = some r) :
  Calls Try.prog 12 #[.slice pA0 p0.length pc0] w0 (charabancref14_Make_12.post M0 w0 r) := by
 unfold charabancref14_Make_12.f at h
 have h0 : Holds M0 w0 w0 [] := Holds.start ho
 have h00 := h0.addSl (Rp.pair (Rp.int .u16) (Rp.int .u8)) (.slice pA0 p0.length pc0) p0 (hs0.mono (fun _ _ hm => hm.elim id (fun hm => absurd hm (by simp [mines, sl]))))
 have h0 : Holds M0 w0 w0 [sl (Rp.pair (Rp.int .u16) (Rp.int .u8)) (.slice pA0 p0.length pc0) p0] := h00
 refine calls_of F12 rfl [.slice pA0 p0.length pc0] (by kernel_rfl) ?_
 refine RunsI.g 1 [.c 1, .c 2] ?_
 refine RunsI.r ?_
 refine RegI.p 1 [(0, .slice pA0 p0.length pc0)] ?_
 refine RegI.d ?_
 refine RunsI.g 1 [.c 3, .c 4] ?_
 refine RunsI.r ?_
 refine RegI.p 1 [(0, .slice pA0 p0.length pc0), (3, .slice none 0 0)] ?_
 refine RegI.d ?_
 refine RunsI.g 1 [.c 5, .c 6] ?_
 refine RunsI.r ?_
 refine RegI.p 1 [(0, .slice pA0 p0.length pc0), (3, .slice none 0 0), (4, .int .i64 (-1))] ?_
 refine RegI.d ?_
 refine RunsI.g 2 [.c 8, .lp 8, .blk 0] ?_
 obtain ⟨x64, hx65, h⟩ := of_bind h
 have h1 := h0.addOwnNil (Rp.pair (Rp.int .u16) (Rp.int .u8)) 38
 refine RunsI.l [0, 3, 4] [(0, .slice pA0 p0.length pc0), (3, .slice none (([] : List (Int × Int)).length) 0), (4, .int .i64 (-1))] ?_
 refine charabancref14_Make_12.l1_ok K M0 w0 pA0 pc0 p0 _ x64 ?_ K ([] : List (Int × Int)) (-1) none 0 w0 hx65 (h1.pick [0, 1] (by decide))
 ·intro t68 A66 c67 w70 hq72 h69
  (try rw [hq72] at h)
  obtain rfl := Option.some.inj h
  exact ⟨A66, c67, rfl, h69.pick [0] (by decide)⟩
end

/-! ### charabanc/charabancref14.Put (function 16) -/
section
def charabancref14_Put_16.post (M0 : Nat → Prop) (w0 : World) (r : (List (Int × Int))) : Ending → World → Prop := fun e w => ∃ (A1 : Option Addr) (c1 : Nat), e = .returned (.slice A1 r.length c1) ∧ Holds M0 w0 w [own (Rp.pair (Rp.int .u16) (Rp.int .u8)) 38 (.slice A1 r.length c1) r]
def charabancref14_Put_16.f (K : Nat) (p0 : List (Int × Int)) (p1 : Int) (p2 : Int) : Option (List (Int × Int)) := cond (mayBe (([] : List (Int × Int)).length + p0.length) 4) (cond (mayBe ((([] : List (Int × Int)) ++ p0).length + ([(p1, p2)] : List (Int × Int)).length) 4) ((charabancref14_Make_12.f K ((([] : List (Int × Int)) ++ p0) ++ ([(p1, p2)] : List (Int × Int)))).bind fun t23 => some t23) none) none
set_option maxRecDepth 100000 in
theorem charabancref14_Put_16_ok (K : Nat) (M0 : Nat → Prop) (w0 : World) (pA0 : Option Addr) (pc0 : Nat) (p0 : List (Int × Int)) (p1 : Int) (p2 : Int) (ho : ∀ b, M0 b → b < w0.heap.size) (hs0 : Sl (Rp.pair (Rp.int .u16) (Rp.int .u8)) w0 M0 (.slice pA0 p0.length pc0) p0) {r : (List (Int × Int))} (h : charabancref14_Put_16.f K p0 p1 p2 = some r) :
  Calls Try.prog 16 #[.slice pA0 p0.length pc0, .int .u16 p1, .int .u8 p2] w0 (charabancref14_Put_16.post M0 w0 r) := by
 unfold charabancref14_Put_16.f at h
 have h0 : Holds M0 w0 w0 [] := Holds.start ho
 have h00 := h0.addSl (Rp.pair (Rp.int .u16) (Rp.int .u8)) (.slice pA0 p0.length pc0) p0 (hs0.mono (fun _ _ hm => hm.elim id (fun hm => absurd hm (by simp [mines, sl]))))
 have h0 : Holds M0 w0 w0 [sl (Rp.pair (Rp.int .u16) (Rp.int .u8)) (.slice pA0 p0.length pc0) p0] := h00
 refine calls_of F16 rfl [.slice pA0 p0.length pc0, .int .u16 p1, .int .u8 p2] (by kernel_rfl) ?_
 refine RunsI.g 1 [.c 1, .c 2] ?_
 refine RunsI.r ?_
 refine RegI.p 1 [(0, .slice pA0 p0.length pc0), (1, .int .u16 p1), (2, .int .u8 p2)] ?_
 refine RegI.d ?_
 refine RunsI.g 1 [.c 3, .c 4] ?_
 refine RunsI.r ?_
 refine RegI.p 1 [(0, .slice pA0 p0.length pc0), (1, .int .u16 p1), (2, .int .u8 p2), (7, .slice none 0 0)] ?_
 refine RegI.d ?_
 refine RunsI.g 1 [.c 5, .c 6] ?_
 refine RunsI.r ?_
 refine RegI.p 2 [(1, .int .u16 p1), (2, .int .u8 p2), (8, .slice none 0 0), (9, .slice pA0 p0.length pc0)] ?_
 have h1 := h0.addOwnNil (Rp.pair (Rp.int .u16) (Rp.int .u8)) 38
 obtain ⟨hc2, h⟩ := of_cond0 h
 refine RegI.o (OpE.appendRow 10 1 22 38 4 (ys := p0) h1 (by kernel_rfl) (by kernel_rfl) (by kernel_rfl) rfl (h1.rdSl 0 rfl) hc2 ?_)
 intro w3 A4 c5 h6 hk7
 refine RegI.p 1 [(1, .int .u16 p1), (2, .int .u8 p2), (7, .slice A4 ((([] : List (Int × Int)) ++ p0).length) c5)] ?_
 refine RegI.d ?_
 refine RunsI.g 1 [.c 7, .c 8] ?_
 refine RunsI.r ?_
 refine RegI.p 4 [(11, .slice A4 ((([] : List (Int × Int)) ++ p0).length) c5), (14, .agg #[.int .u16 p1, .int .u8 p2])] ?_
 refine RegI.o (OpE.lit 15 38 [.int .u16 p1, .int .u8 p2] 1 h6 (by kernel_rfl) (by kernel_rfl) ?_)
 intro w8 b9 h10 hb11 hn12
 obtain ⟨hc13, h⟩ := of_cond0 h
 refine RegI.o (OpE.appendBox 16 1 2 22 38 4 ([(p1, p2)] : List (Int × Int)) 0 h10 (by kernel_rfl) (by kernel_rfl) (by kernel_rfl) rfl rfl rfl (⟨[_, _], _, rfl, ⟨[_], [_], rfl, rfl, rfl⟩, rfl⟩) hc13 ?_)
 intro w14 A15 c16 h17 hk18
 refine RegI.p 1 [(7, .slice A15 (((([] : List (Int × Int)) ++ p0) ++ ([(p1, p2)] : List (Int × Int))).length) c16)] ?_
 refine RegI.d ?_
 refine RunsI.g 1 [.c 9, .c 10] ?_
 refine RunsI.r ?_
 refine RegI.p 1 [(17, .slice A15 (((([] : List (Int × Int)) ++ p0) ++ ([(p1, p2)] : List (Int × Int))).length) c16)] ?_
 obtain ⟨t23, hg22, h⟩ := of_bind h
 refine RegI.o (OpE.call 18 (by kernel_rfl) 12 #[.slice A15 (((([] : List (Int × Int)) ++ p0) ++ ([(p1, p2)] : List (Int × Int))).length) c16] (by kernel_rfl) ((charabancref14_Make_12_ok K (fun _ => False) w14  A15 c16 ((([] : List (Int × Int)) ++ p0) ++ ([(p1, p2)] : List (Int × Int))) (fun _ hf => hf.elim) (h17.ownSl 1 rfl) hg22).mono ?_))
 rintro _ w19 ⟨A24, c25, rfl, hr27⟩
 refine ⟨_, rfl, ?_⟩
 have hb20 := hr27.below
 have h21 := h17.join (hr27.anyM ⟨own_flat (fun _ _ _ _ _ h => h), trivial⟩ _ h17.old')
 refine RegI.p 1 [(6, .slice A24 t23.length c25)] ?_
 refine RegI.d ?_
 refine RunsI.t (.slice A24 t23.length c25) ?_
 obtain rfl := Option.some.inj h
 exact ⟨A24, c25, rfl, h21.pick [3] (by decide)⟩
end

/-! ### charabanc/charabancref14.Load (function 18) -/
section
def charabancref14_Load_18.post (M0 : Nat → Prop) (w0 : World) (r : (List (Int × Int))) : Ending → World → Prop := fun e w => ∃ (A1 : Option Addr) (c1 : Nat), e = .returned (.slice A1 r.length c1) ∧ Holds M0 w0 w [own (Rp.pair (Rp.int .u16) (Rp.int .u8)) 38 (.slice A1 r.length c1) r]
def charabancref14_Load_18.l0 (K : Nat) (p0 : List (Int × Int)) (p1 : Int) (p2 : List Int) : Nat → (List (Int × Int)) → Int → Option (List (Int × Int))
 | 0, _, _ => none
 | k + 1, t10, t11 => cond (decide (t11 < (p2.length : Int))) (cond (inR t11 p2.length) (cond (mayBe (t10.length + ([((IntKind.wrap .u16 (p1 + (IntKind.wrap .u16 (Int.tmod t11 65536)))), (rdD p2 t11))] : List (Int × Int)).length) 4) (charabancref14_Load_18.l0 K p0 p1 p2 k (t10 ++ ([((IntKind.wrap .u16 (p1 + (IntKind.wrap .u16 (Int.tmod t11 65536)))), (rdD p2 t11))] : List (Int × Int))) (IntKind.wrap .i64 (t11 + 1))) none) none) (some t10)
set_option maxRecDepth 100000 in
theorem charabancref14_Load_18.l0_ok (K : Nat) (M0 : Nat → Prop) (w0 : World) (pA0 : Option Addr) (pc0 : Nat) (pA2 : Option Addr) (pc2 : Nat) (p0 : List (Int × Int)) (p1 : Int) (p2 : List Int) (R : Ending → World → Prop) (x : (List (Int × Int))) (hk0 : ∀ (t32 : List (Int × Int)) (A30 : Option Addr) (c31 : Nat) (w1 : World), x = t32 → Holds M0 w0 w1 [own (Rp.pair (Rp.int .u16) (Rp.int .u8)) 38 (.slice A30 t32.length c31) t32] → RunsI F18 [.c 21] [(7, .slice A30 t32.length c31)] w1 R) :
  ∀ (k : Nat) (t10 : List (Int × Int)) (t11 : Int) (A8 : Option Addr) (c9 : Nat) (w : World), charabancref14_Load_18.l0 K p0 p1 p2 k t10 t11 = some x → Holds M0 w0 w [sl (Rp.int .u8) (.slice pA2 p2.length pc2) p2, own (Rp.pair (Rp.int .u16) (Rp.int .u8)) 38 (.slice A8 t10.length c9) t10] → RunsI F18 [.c 11, .lp 11, .blk 0, .c 21] [(1, .int .u16 p1), (2, .slice pA2 p2.length pc2), (7, .slice A8 t10.length c9), (8, .int .i64 t11)] w R := by
 intro k
 induction k with
 | zero => intro t10 t11 A8 c9 w h hH; exact absurd h (by simp [charabancref14_Load_18.l0])
 | succ k ih =>
  intro t10 t11 A8 c9 w h hH
  rw [charabancref14_Load_18.l0.eq_2] at h
  refine RunsI.g 1 [.c 12, .c 17, .lp 11, .blk 0, .c 21] ?_
  refine RunsI.g 1 [.c 13, .c 14, .c 17, .lp 11, .blk 0, .c 21] ?_
  refine RunsI.r ?_
  refine RegI.p 4 [(1, .int .u16 p1), (2, .slice pA2 p2.length pc2), (7, .slice A8 t10.length c9), (8, .int .i64 t11), (15, .bool (decide (t11 < (p2.length : Int))))] ?_
  refine RegI.d ?_
  rcases of_cond h with ⟨hc12, h⟩ | ⟨hc12, h⟩
  ·skip
   refine RunsI.f 15 true hc12 ?_
   refine RunsI.b true 15 ?_
   refine RunsI.g 1 [.c 17, .lp 11, .blk 0, .c 21] ?_
   refine RunsI.g 2 [.c 19, .blk 1, .c 20, .lp 11, .blk 0, .c 21] ?_
   refine RunsI.r ?_
   refine RegI.p 8 [(1, .int .u16 p1), (2, .slice pA2 p2.length pc2), (8, .int .i64 t11), (18, .slice A8 t10.length c9), (23, .int .u16 (IntKind.wrap .u16 (p1 + (IntKind.wrap .u16 (Int.tmod t11 65536))))), (24, .slice pA2 p2.length pc2), (25, .int .i64 t11)] ?_
   obtain ⟨hc13, h⟩ := of_cond0 h
   refine RegI.o (OpE.idxSl 26 0 32 t11 hH (by kernel_rfl) rfl (by kernel_rfl) (by kernel_rfl) hc13 ?_)
   intro b14 o15 cs16 hk17 h18
   obtain rfl := hk17
   refine RegI.o (OpE.loadCel 27 2 5 b14 o15 0 (.int .u8 (rdD p2 t11)) h18 (by kernel_rfl) (by kernel_rfl) rfl (by kernel_rfl) ?_)
   refine RegI.p 1 [(1, .int .u16 p1), (2, .slice pA2 p2.length pc2), (8, .int .i64 t11), (18, .slice A8 t10.length c9), (28, .agg #[.int .u16 (IntKind.wrap .u16 (p1 + (IntKind.wrap .u16 (Int.tmod t11 65536)))), .int .u8 (rdD p2 t11)])] ?_
   refine RegI.o (OpE.lit 29 38 [.int .u16 (IntKind.wrap .u16 (p1 + (IntKind.wrap .u16 (Int.tmod t11 65536)))), .int .u8 (rdD p2 t11)] 1 h18 (by kernel_rfl) (by kernel_rfl) ?_)
   intro w19 b20 h21 hb22 hn23
   obtain ⟨hc24, h⟩ := of_cond0 h
   refine RegI.o (OpE.appendBox 30 1 3 22 38 4 ([((IntKind.wrap .u16 (p1 + (IntKind.wrap .u16 (Int.tmod t11 65536)))), (rdD p2 t11))] : List (Int × Int)) 0 h21 (by kernel_rfl) (by kernel_rfl) (by kernel_rfl) rfl rfl rfl (⟨[_, _], _, rfl, ⟨[_], [_], rfl, rfl, rfl⟩, rfl⟩) hc24 ?_)
   intro w25 A26 c27 h28 hk29
   refine RegI.p 1 [(1, .int .u16 p1), (2, .slice pA2 p2.length pc2), (7, .slice A26 ((t10 ++ ([((IntKind.wrap .u16 (p1 + (IntKind.wrap .u16 (Int.tmod t11 65536)))), (rdD p2 t11))] : List (Int × Int))).length) c27), (8, .int .i64 t11)] ?_
   refine RegI.d ?_
   refine RunsI.g 1 [.c 20, .lp 11, .blk 0, .c 21] ?_
   refine RunsI.r ?_
   refine RegI.p 3 [(1, .int .u16 p1), (2, .slice pA2 p2.length pc2), (7, .slice A26 ((t10 ++ ([((IntKind.wrap .u16 (p1 + (IntKind.wrap .u16 (Int.tmod t11 65536)))), (rdD p2 t11))] : List (Int × Int))).length) c27), (8, .int .i64 (IntKind.wrap .i64 (t11 + 1)))] ?_
   refine RegI.d ?_
   refine RunsI.g 1 [.c 11, .lp 11, .blk 0, .c 21] ?_
   refine RunsI.l [1, 2, 7, 8] [(1, .int .u16 p1), (2, .slice pA2 p2.length pc2), (7, .slice A26 ((t10 ++ ([((IntKind.wrap .u16 (p1 + (IntKind.wrap .u16 (Int.tmod t11 65536)))), (rdD p2 t11))] : List (Int × Int))).length) c27), (8, .int .i64 (IntKind.wrap .i64 (t11 + 1)))] ?_
   exact ih (t10 ++ ([((IntKind.wrap .u16 (p1 + (IntKind.wrap .u16 (Int.tmod t11 65536)))), (rdD p2 t11))] : List (Int × Int))) (IntKind.wrap .i64 (t11 + 1)) A26 c27 w25 h (h28.pick [0, 1] (by decide))
  ·skip
   refine RunsI.f 15 false hc12 ?_
   refine RunsI.b false 16 ?_
   refine RunsI.g 1 [.c 21] ?_
   refine RunsI.l [7] [(7, .slice A8 t10.length c9)] ?_
   exact hk0 t10 A8 c9 w (Option.some.inj h).symm (hH.pick [1] (by decide))
def charabancref14_Load_18.f (K : Nat) (p0 : List (Int × Int)) (p1 : Int) (p2 : List Int) : Option (List (Int × Int)) := cond (mayBe (([] : List (Int × Int)).length + p0.length) 4) ((charabancref14_Load_18.l0 K p0 p1 p2 K (([] : List (Int × Int)) ++ p0) 0).bind (fun t37 => (charabancref14_Make_12.f K t37).bind fun t44 => some t44)) none
set_option maxRecDepth 100000 in
theorem charabancref14_Load_18_ok (K : Nat) (M0 : Nat → Prop) (w0 : World) (pA0 : Option Addr) (pc0 : Nat) (pA2 : Option Addr) (pc2 : Nat) (p0 : List (Int × Int)) (p1 : Int) (p2 : List Int) (ho : ∀ b, M0 b → b < w0.heap.size) (hs0 : Sl (Rp.pair (Rp.int .u16) (Rp.int .u8)) w0 M0 (.slice pA0 p0.length pc0) p0) (hs2 : Sl (Rp.int .u8) w0 M0 (.slice pA2 p2.length pc2) p2) {r : (List (Int × Int))} (h : charabancref14_Load_18.f K p0 p1 p2 = some r) :
  Calls Try.prog 18 #[.slice pA0 p0.length pc0, .int .u16 p1, .slice pA2 p2.length pc2] w0 (charabancref14_Load_18.post M0 w0 r) := by
 unfold charabancref14_Load_18.f at h
 have h0 : Holds M0 w0 w0 [] := Holds.start ho
 have h00 := h0.addSl (Rp.pair (Rp.int .u16) (Rp.int .u8)) (.slice pA0 p0.length pc0) p0 (hs0.mono (fun _ _ hm => hm.elim id (fun hm => absurd hm (by simp [mines, sl]))))
 have h02 := h00.addSl (Rp.int .u8) (.slice pA2 p2.length pc2) p2 (hs2.mono (fun _ _ hm => hm.elim id (fun hm => absurd hm (by simp [mines, sl]))))
 have h0 : Holds M0 w0 w0 [sl (Rp.pair (Rp.int .u16) (Rp.int .u8)) (.slice pA0 p0.length pc0) p0, sl (Rp.int .u8) (.slice pA2 p2.length pc2) p2] := h02
 refine calls_of F18 rfl [.slice pA0 p0.length pc0, .int .u16 p1, .slice pA2 p2.length pc2] (by kernel_rfl) ?_
 refine RunsI.g 1 [.c 1, .c 2] ?_
 refine RunsI.r ?_
 refine RegI.p 1 [(0, .slice pA0 p0.length pc0), (1, .int .u16 p1), (2, .slice pA2 p2.length pc2)] ?_
 refine RegI.d ?_
 refine RunsI.g 1 [.c 3, .c 4] ?_
 refine RunsI.r ?_
 refine RegI.p 1 [(0, .slice pA0 p0.length pc0), (1, .int .u16 p1), (2, .slice pA2 p2.length pc2), (7, .slice none 0 0)] ?_
 refine RegI.d ?_
 refine RunsI.g 1 [.c 5, .c 6] ?_
 refine RunsI.r ?_
 refine RegI.p 2 [(1, .int .u16 p1), (2, .slice pA2 p2.length pc2), (9, .slice none 0 0), (10, .slice pA0 p0.length pc0)] ?_
 have h1 := h0.addOwnNil (Rp.pair (Rp.int .u16) (Rp.int .u8)) 38
 obtain ⟨hc2, h⟩ := of_cond0 h
 refine RegI.o (OpE.appendRow 11 2 22 38 4 (ys := p0) h1 (by kernel_rfl) (by kernel_rfl) (by kernel_rfl) rfl (h1.rdSl 0 rfl) hc2 ?_)
 intro w3 A4 c5 h6 hk7
 refine RegI.p 1 [(1, .int .u16 p1), (2, .slice pA2 p2.length pc2), (7, .slice A4 ((([] : List (Int × Int)) ++ p0).length) c5)] ?_
 refine RegI.d ?_
 refine RunsI.g 2 [.c 8, .c 9, .c 21] ?_
 refine RunsI.r ?_
 refine RegI.p 1 [(1, .int .u16 p1), (2, .slice pA2 p2.length pc2), (7, .slice A4 ((([] : List (Int × Int)) ++ p0).length) c5), (8, .int .i64 0)] ?_
 refine RegI.d ?_
 refine RunsI.g 2 [.c 11, .lp 11, .blk 0, .c 21] ?_
 obtain ⟨x33, hx34, h⟩ := of_bind h
 refine RunsI.l [1, 2, 7, 8] [(1, .int .u16 p1), (2, .slice pA2 p2.length pc2), (7, .slice A4 ((([] : List (Int × Int)) ++ p0).length) c5), (8, .int .i64 0)] ?_
 refine charabancref14_Load_18.l0_ok K M0 w0 pA0 pc0 pA2 pc2 p0 p1 p2 _ x33 ?_ K (([] : List (Int × Int)) ++ p0) 0 A4 c5 w3 hx34 (h6.pick [1, 2] (by decide))
 ·intro t37 A35 c36 w39 hq49 h38
  (try rw [hq49] at h)
  refine RunsI.g 1 [.c 22, .c 23] ?_
  refine RunsI.r ?_
  refine RegI.p 1 [(31, .slice A35 t37.length c36)] ?_
  obtain ⟨t44, hg43, h⟩ := of_bind h
  refine RegI.o (OpE.call 32 (by kernel_rfl) 12 #[.slice A35 t37.length c36] (by kernel_rfl) ((charabancref14_Make_12_ok K (fun _ => False) w39  A35 c36 t37 (fun _ hf => hf.elim) (h38.ownSl 0 rfl) hg43).mono ?_))
  rintro _ w40 ⟨A45, c46, rfl, hr48⟩
  refine ⟨_, rfl, ?_⟩
  have hb41 := hr48.below
  have h42 := h38.join (hr48.anyM ⟨own_flat (fun _ _ _ _ _ h => h), trivial⟩ _ h38.old')
  refine RegI.p 1 [(6, .slice A45 t44.length c46)] ?_
  refine RegI.d ?_
  refine RunsI.t (.slice A45 t44.length c46) ?_
  obtain rfl := Option.some.inj h
  exact ⟨A45, c46, rfl, h42.pick [1] (by decide)⟩
end

/-! ### charabanc/charabancref14.Dump (function 20) -/
section
def charabancref14_Dump_20.post (M0 : Nat → Prop) (w0 : World) (r : (List Int)) : Ending → World → Prop := fun e w => ∃ (A1 : Option Addr) (c1 : Nat), e = .returned (.slice A1 r.length c1) ∧ Holds M0 w0 w [own (Rp.int .u8) 5 (.slice A1 r.length c1) r]
def charabancref14_Dump_20.l0 (K : Nat) (p0 : List (Int × Int)) (p1 : Int) (p2 : Int) : Nat → (List Int) → Int → Option (List Int)
 | 0, _, _ => none
 | k + 1, t4, t5 => Let (fun (t7 : Bool) => cond t7 ((charabancref14_Get_14.f K p0 (IntKind.wrap .u16 (p1 + (IntKind.wrap .u16 t5)))).bind fun t18 => cond (mayBe (t4.length + ([t18] : List Int).length) 1) (charabancref14_Dump_20.l0 K p0 p1 p2 k (t4 ++ ([t18] : List Int)) (IntKind.wrap .i64 (t5 + 1))) none) (some t4)) (fun j10 => cond (decide (t5 < p2)) (j10 (decide (t5 < 4096))) (j10 false))
set_option maxRecDepth 100000 in
theorem charabancref14_Dump_20.l0_ok (K : Nat) (M0 : Nat → Prop) (w0 : World) (pA0 : Option Addr) (pc0 : Nat) (p0 : List (Int × Int)) (p1 : Int) (p2 : Int) (R : Ending → World → Prop) (x : (List Int)) (hk0 : ∀ (t32 : List Int) (A30 : Option Addr) (c31 : Nat) (w1 : World), x = t32 → Holds M0 w0 w1 [own (Rp.int .u8) 5 (.slice A30 t32.length c31) t32] → RunsI F20 [.c 19] [(7, .slice A30 t32.length c31)] w1 R) :
  ∀ (k : Nat) (t4 : List Int) (t5 : Int) (A2 : Option Addr) (c3 : Nat) (w : World), charabancref14_Dump_20.l0 K p0 p1 p2 k t4 t5 = some x → Holds M0 w0 w [sl (Rp.pair (Rp.int .u16) (Rp.int .u8)) (.slice pA0 p0.length pc0) p0, own (Rp.int .u8) 5 (.slice A2 t4.length c3) t4] → RunsI F20 [.c 9, .lp 9, .blk 0, .c 19] [(0, .slice pA0 p0.length pc0), (1, .int .u16 p1), (2, .int .i64 p2), (7, .slice A2 t4.length c3), (8, .int .i64 t5)] w R := by
 intro k
 induction k with
 | zero => intro t4 t5 A2 c3 w h hH; exact absurd h (by simp [charabancref14_Dump_20.l0])
 | succ k ih =>
  intro t4 t5 A2 c3 w h hH
  rw [charabancref14_Dump_20.l0.eq_2] at h
  refine RunsI.g 1 [.c 10, .c 15, .lp 9, .blk 0, .c 19] ?_
  refine RunsI.g 1 [.c 11, .c 12, .c 15, .lp 9, .blk 0, .c 19] ?_
  refine RunsI.r ?_
  refine RegI.p 4 [(0, .slice pA0 p0.length pc0), (1, .int .u16 p1), (2, .int .i64 p2), (7, .slice A2 t4.length c3), (8, .int .i64 t5), (12, .bool (decide (t5 < p2)))] ?_
  obtain ⟨j10, hJ11, h⟩ := of_let h
  have hj12 : ∀ (t7 : Bool) (w9 : World), j10 t7 = some x → Holds M0 w0 w9 [sl (Rp.pair (Rp.int .u16) (Rp.int .u8)) (.slice pA0 p0.length pc0) p0, own (Rp.int .u8) 5 (.slice A2 t4.length c3) t4] → RegI F20 11 [.c 12, .c 15, .lp 9, .blk 0, .c 19] 7 [(0, .slice pA0 p0.length pc0), (1, .int .u16 p1), (2, .int .i64 p2), (7, .slice A2 t4.length c3), (8, .int .i64 t5), (15, .bool t7)] w9 R := by
   intro t7 w9 h h8
   rw [hJ11] at h
   clear hJ11
   dsimp only at h
   refine RegI.d ?_
   rcases of_cond h with ⟨hc13, h⟩ | ⟨hc13, h⟩
   ·skip
    refine RunsI.f 15 true hc13 ?_
    refine RunsI.b true 13 ?_
    refine RunsI.g 1 [.c 15, .lp 9, .blk 0, .c 19] ?_
    refine RunsI.g 2 [.c 17, .blk 1, .c 18, .lp 9, .blk 0, .c 19] ?_
    refine RunsI.r ?_
    refine RegI.p 6 [(0, .slice pA0 p0.length pc0), (1, .int .u16 p1), (2, .int .i64 p2), (8, .int .i64 t5), (18, .slice A2 t4.length c3), (19, .slice pA0 p0.length pc0), (23, .int .u16 (IntKind.wrap .u16 (p1 + (IntKind.wrap .u16 t5))))] ?_
    obtain ⟨t18, hg17, h⟩ := of_bind h
    refine RegI.o (OpE.call 24 (by kernel_rfl) 14 #[.slice pA0 p0.length pc0, .int .u16 (IntKind.wrap .u16 (p1 + (IntKind.wrap .u16 t5)))] (by kernel_rfl) ((charabancref14_Get_14_ok K _ w9  pA0 pc0 p0 (IntKind.wrap .u16 (p1 + (IntKind.wrap .u16 t5))) h8.old' (h8.get 0 rfl) hg17).mono ?_))
    rintro _ w14 ⟨rfl, hb15⟩
    refine ⟨_, rfl, ?_⟩
    have h16 := h8.call hb15
    refine RegI.o (OpE.lit 25 5 [.int .u8 t18] 1 h16 (by kernel_rfl) (by kernel_rfl) ?_)
    intro w19 b20 h21 hb22 hn23
    obtain ⟨hc24, h⟩ := of_cond0 h
    refine RegI.o (OpE.appendBox 26 1 2 32 5 1 ([t18] : List Int) 0 h21 (by kernel_rfl) (by kernel_rfl) (by kernel_rfl) rfl rfl rfl (cells_int _ _ _ _) hc24 ?_)
    intro w25 A26 c27 h28 hk29
    refine RegI.p 1 [(0, .slice pA0 p0.length pc0), (1, .int .u16 p1), (2, .int .i64 p2), (7, .slice A26 ((t4 ++ ([t18] : List Int)).length) c27), (8, .int .i64 t5)] ?_
    refine RegI.d ?_
    refine RunsI.g 1 [.c 18, .lp 9, .blk 0, .c 19] ?_
    refine RunsI.r ?_
    refine RegI.p 3 [(0, .slice pA0 p0.length pc0), (1, .int .u16 p1), (2, .int .i64 p2), (7, .slice A26 ((t4 ++ ([t18] : List Int)).length) c27), (8, .int .i64 (IntKind.wrap .i64 (t5 + 1)))] ?_
    refine RegI.d ?_
    refine RunsI.g 1 [.c 9, .lp 9, .blk 0, .c 19] ?_
    refine RunsI.l [0, 1, 2, 7, 8] [(0, .slice pA0 p0.length pc0), (1, .int .u16 p1), (2, .int .i64 p2), (7, .slice A26 ((t4 ++ ([t18] : List Int)).length) c27), (8, .int .i64 (IntKind.wrap .i64 (t5 + 1)))] ?_
    exact ih (t4 ++ ([t18] : List Int)) (IntKind.wrap .i64 (t5 + 1)) A26 c27 w25 h (h28.pick [0, 1] (by decide))
   ·skip
    refine RunsI.f 15 false hc13 ?_
    refine RunsI.b false 14 ?_
    refine RunsI.g 1 [.c 19] ?_
    refine RunsI.l [7] [(7, .slice A2 t4.length c3)] ?_
    exact hk0 t4 A2 c3 w9 (Option.some.inj h).symm (h8.pick [1] (by decide))
  clear hJ11
  rcases of_cond h with ⟨hc6, h⟩ | ⟨hc6, h⟩
  ·skip
   refine RegI.f 12 true hc6 ?_
   refine RegI.p 3 [(0, .slice pA0 p0.length pc0), (1, .int .u16 p1), (2, .int .i64 p2), (7, .slice A2 t4.length c3), (8, .int .i64 t5), (15, .bool (decide (t5 < 4096)))] ?_
   refine RegI.l [0, 1, 2, 7, 8, 15] [(0, .slice pA0 p0.length pc0), (1, .int .u16 p1), (2, .int .i64 p2), (7, .slice A2 t4.length c3), (8, .int .i64 t5), (15, .bool (decide (t5 < 4096)))] ?_
   exact hj12 (decide (t5 < 4096)) w h (hH.pick [0, 1] (by decide))
  ·skip
   refine RegI.f 12 false hc6 ?_
   refine RegI.p 3 [(0, .slice pA0 p0.length pc0), (1, .int .u16 p1), (2, .int .i64 p2), (7, .slice A2 t4.length c3), (8, .int .i64 t5), (15, .bool false)] ?_
   refine RegI.l [0, 1, 2, 7, 8, 15] [(0, .slice pA0 p0.length pc0), (1, .int .u16 p1), (2, .int .i64 p2), (7, .slice A2 t4.length c3), (8, .int .i64 t5), (15, .bool false)] ?_
   exact hj12 false w h (hH.pick [0, 1] (by decide))
def charabancref14_Dump_20.f (K : Nat) (p0 : List (Int × Int)) (p1 : Int) (p2 : Int) : Option (List Int) := (charabancref14_Dump_20.l0 K p0 p1 p2 K ([] : List Int) 0).bind (fun t37 => some t37)
set_option maxRecDepth 100000 in
theorem charabancref14_Dump_20_ok (K : Nat) (M0 : Nat → Prop) (w0 : World) (pA0 : Option Addr) (pc0 : Nat) (p0 : List (Int × Int)) (p1 : Int) (p2 : Int) (ho : ∀ b, M0 b → b < w0.heap.size) (hs0 : Sl (Rp.pair (Rp.int .u16) (Rp.int .u8)) w0 M0 (.slice pA0 p0.length pc0) p0) {r : (List Int)} (h : charabancref14_Dump_20.f K p0 p1 p2 = some r) :
  Calls Try.prog 20 #[.slice pA0 p0.length pc0, .int .u16 p1, .int .i64 p2] w0 (charabancref14_Dump_20.post M0 w0 r) := by
 unfold charabancref14_Dump_20.f at h
 have h0 : Holds M0 w0 w0 [] := Holds.start ho
 have h00 := h0.addSl (Rp.pair (Rp.int .u16) (Rp.int .u8)) (.slice pA0 p0.length pc0) p0 (hs0.mono (fun _ _ hm => hm.elim id (fun hm => absurd hm (by simp [mines, sl]))))
 have h0 : Holds M0 w0 w0 [sl (Rp.pair (Rp.int .u16) (Rp.int .u8)) (.slice pA0 p0.length pc0) p0] := h00
 refine calls_of F20 rfl [.slice pA0 p0.length pc0, .int .u16 p1, .int .i64 p2] (by kernel_rfl) ?_
 refine RunsI.g 1 [.c 1, .c 2] ?_
 refine RunsI.r ?_
 refine RegI.p 1 [(0, .slice pA0 p0.length pc0), (1, .int .u16 p1), (2, .int .i64 p2)] ?_
 refine RegI.d ?_
 refine RunsI.g 1 [.c 3, .c 4] ?_
 refine RunsI.r ?_
 refine RegI.p 1 [(0, .slice pA0 p0.length pc0), (1, .int .u16 p1), (2, .int .i64 p2), (7, .slice none 0 0)] ?_
 refine RegI.d ?_
 refine RunsI.g 2 [.c 6, .c 7, .c 19] ?_
 refine RunsI.r ?_
 refine RegI.p 1 [(0, .slice pA0 p0.length pc0), (1, .int .u16 p1), (2, .int .i64 p2), (7, .slice none 0 0), (8, .int .i64 0)] ?_
 refine RegI.d ?_
 refine RunsI.g 2 [.c 9, .lp 9, .blk 0, .c 19] ?_
 obtain ⟨x33, hx34, h⟩ := of_bind h
 have h1 := h0.addOwnNil (Rp.int .u8) 5
 refine RunsI.l [0, 1, 2, 7, 8] [(0, .slice pA0 p0.length pc0), (1, .int .u16 p1), (2, .int .i64 p2), (7, .slice none (([] : List Int).length) 0), (8, .int .i64 0)] ?_
 refine charabancref14_Dump_20.l0_ok K M0 w0 pA0 pc0 p0 p1 p2 _ x33 ?_ K ([] : List Int) 0 none 0 w0 hx34 (h1.pick [0, 1] (by decide))
 ·intro t37 A35 c36 w39 hq40 h38
  (try rw [hq40] at h)
  refine RunsI.g 1 [.c 20, .c 21] ?_
  refine RunsI.r ?_
  refine RegI.p 2 [(6, .slice A35 t37.length c36)] ?_
  refine RegI.d ?_
  refine RunsI.t (.slice A35 t37.length c36) ?_
  obtain rfl := Option.some.inj h
  exact ⟨A35, c36, rfl, h38.pick [0] (by decide)⟩
end
end Go.Proofs.Ytbcepghanbkncaa.Cel
