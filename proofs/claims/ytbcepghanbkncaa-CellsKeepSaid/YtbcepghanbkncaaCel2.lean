/- Functions of the program as plain Lean functions, each with the proof that the call comes to it; written by wip/eng.py. -/
import Derived.Test.YtbcepghanbkncaaCel
set_option linter.unusedVariables false
set_option linter.unusedSimpArgs false
set_option maxHeartbeats 4000000
namespace Go.Proofs.Ytbcepghanbkncaa.Cel
open Go.RowKit Go.Eng
/-! ### charabanc/charabancref14.Diff (function 22) -/
section
def charabancref14_Diff_22.post (M0 : Nat → Prop) (w0 : World) (r : (List (Int × Int))) : Ending → World → Prop := fun e w => ∃ (A1 : Option Addr) (c1 : Nat), e = .returned (.slice A1 r.length c1) ∧ Holds M0 w0 w [own (Rp.pair (Rp.int .u16) (Rp.int .u8)) 38 (.slice A1 r.length c1) r]
def charabancref14_Diff_22.l0 (K : Nat) (p0 : List (Int × Int)) (p1 : List (Int × Int)) : Nat → (List (Int × Int)) → Int → Option (List (Int × Int))
 | 0, _, _ => none
 | k + 1, t4, t5 => cond (decide (t5 < (p0.length : Int))) (cond (inR t5 p0.length) (cond (mayBe (t4.length + ([((rdD p0 t5).1, 1)] : List (Int × Int)).length) 4) (charabancref14_Diff_22.l0 K p0 p1 k (t4 ++ ([((rdD p0 t5).1, 1)] : List (Int × Int))) (IntKind.wrap .i64 (t5 + 1))) none) none) (some t4)
set_option maxRecDepth 100000 in
theorem charabancref14_Diff_22.l0_ok (K : Nat) (M0 : Nat → Prop) (w0 : World) (pA0 : Option Addr) (pc0 : Nat) (pA1 : Option Addr) (pc1 : Nat) (p0 : List (Int × Int)) (p1 : List (Int × Int)) (R : Ending → World → Prop) (x : (List (Int × Int))) (hk0 : ∀ (t26 : List (Int × Int)) (A24 : Option Addr) (c25 : Nat) (w1 : World), x = t26 → Holds M0 w0 w1 [sl (Rp.pair (Rp.int .u16) (Rp.int .u8)) (.slice pA0 p0.length pc0) p0, sl (Rp.pair (Rp.int .u16) (Rp.int .u8)) (.slice pA1 p1.length pc1) p1, own (Rp.pair (Rp.int .u16) (Rp.int .u8)) 38 (.slice A24 t26.length c25) t26] → RunsI F22 [.c 19] [(0, .slice pA0 p0.length pc0), (1, .slice pA1 p1.length pc1), (5, .slice A24 t26.length c25)] w1 R) :
  ∀ (k : Nat) (t4 : List (Int × Int)) (t5 : Int) (A2 : Option Addr) (c3 : Nat) (w : World), charabancref14_Diff_22.l0 K p0 p1 k t4 t5 = some x → Holds M0 w0 w [sl (Rp.pair (Rp.int .u16) (Rp.int .u8)) (.slice pA0 p0.length pc0) p0, sl (Rp.pair (Rp.int .u16) (Rp.int .u8)) (.slice pA1 p1.length pc1) p1, own (Rp.pair (Rp.int .u16) (Rp.int .u8)) 38 (.slice A2 t4.length c3) t4] → RunsI F22 [.c 9, .lp 9, .blk 0, .c 19] [(0, .slice pA0 p0.length pc0), (1, .slice pA1 p1.length pc1), (5, .slice A2 t4.length c3), (6, .int .i64 t5)] w R := by
 intro k
 induction k with
 | zero => intro t4 t5 A2 c3 w h hH; exact absurd h (by simp [charabancref14_Diff_22.l0])
 | succ k ih =>
  intro t4 t5 A2 c3 w h hH
  rw [charabancref14_Diff_22.l0.eq_2] at h
  refine RunsI.g 1 [.c 10, .c 15, .lp 9, .blk 0, .c 19] ?_
  refine RunsI.g 1 [.c 11, .c 12, .c 15, .lp 9, .blk 0, .c 19] ?_
  refine RunsI.r ?_
  refine RegI.p 4 [(0, .slice pA0 p0.length pc0), (1, .slice pA1 p1.length pc1), (5, .slice A2 t4.length c3), (6, .int .i64 t5), (14, .bool (decide (t5 < (p0.length : Int))))] ?_
  refine RegI.d ?_
  rcases of_cond h with ⟨hc6, h⟩ | ⟨hc6, h⟩
  ·skip
   refine RunsI.f 14 true hc6 ?_
   refine RunsI.b true 13 ?_
   refine RunsI.g 1 [.c 15, .lp 9, .blk 0, .c 19] ?_
   refine RunsI.g 2 [.c 17, .blk 1, .c 18, .lp 9, .blk 0, .c 19] ?_
   refine RunsI.r ?_
   refine RegI.p 3 [(0, .slice pA0 p0.length pc0), (1, .slice pA1 p1.length pc1), (6, .int .i64 t5), (17, .slice A2 t4.length c3), (18, .slice pA0 p0.length pc0), (19, .int .i64 t5)] ?_
   obtain ⟨hc7, h⟩ := of_cond0 h
   refine RegI.o (OpE.idxSl 20 0 22 t5 hH (by kernel_rfl) rfl (by kernel_rfl) (by kernel_rfl) hc7 ?_)
   intro b8 o9 cs10 hk11 h12
   obtain ⟨_, _, rfl, rfl, rfl⟩ := hk11
   refine RegI.p 1 [(0, .slice pA0 p0.length pc0), (1, .slice pA1 p1.length pc1), (6, .int .i64 t5), (17, .slice A2 t4.length c3), (21, .pointer (some ⟨b8, o9, none⟩))] ?_
   refine RegI.o (OpE.loadCel 22 3 23 b8 o9 0 (.int .u16 ((rdD p0 t5).1)) h12 (by kernel_rfl) (by kernel_rfl) rfl (by kernel_rfl) ?_)
   refine RegI.p 1 [(0, .slice pA0 p0.length pc0), (1, .slice pA1 p1.length pc1), (6, .int .i64 t5), (17, .slice A2 t4.length c3), (23, .agg #[.int .u16 ((rdD p0 t5).1), .int .u8 1])] ?_
   refine RegI.o (OpE.lit 24 38 [.int .u16 ((rdD p0 t5).1), .int .u8 1] 1 h12 (by kernel_rfl) (by kernel_rfl) ?_)
   intro w13 b14 h15 hb16 hn17
   obtain ⟨hc18, h⟩ := of_cond0 h
   refine RegI.o (OpE.appendBox 25 2 4 22 38 4 ([((rdD p0 t5).1, 1)] : List (Int × Int)) 0 h15 (by kernel_rfl) (by kernel_rfl) (by kernel_rfl) rfl rfl rfl (⟨[_, _], _, rfl, ⟨[_], [_], rfl, rfl, rfl⟩, rfl⟩) hc18 ?_)
   intro w19 A20 c21 h22 hk23
   refine RegI.p 1 [(0, .slice pA0 p0.length pc0), (1, .slice pA1 p1.length pc1), (5, .slice A20 ((t4 ++ ([((rdD p0 t5).1, 1)] : List (Int × Int))).length) c21), (6, .int .i64 t5)] ?_
   refine RegI.d ?_
   refine RunsI.g 1 [.c 18, .lp 9, .blk 0, .c 19] ?_
   refine RunsI.r ?_
   refine RegI.p 3 [(0, .slice pA0 p0.length pc0), (1, .slice pA1 p1.length pc1), (5, .slice A20 ((t4 ++ ([((rdD p0 t5).1, 1)] : List (Int × Int))).length) c21), (6, .int .i64 (IntKind.wrap .i64 (t5 + 1)))] ?_
   refine RegI.d ?_
   refine RunsI.g 1 [.c 9, .lp 9, .blk 0, .c 19] ?_
   refine RunsI.l [0, 1, 5, 6] [(0, .slice pA0 p0.length pc0), (1, .slice pA1 p1.length pc1), (5, .slice A20 ((t4 ++ ([((rdD p0 t5).1, 1)] : List (Int × Int))).length) c21), (6, .int .i64 (IntKind.wrap .i64 (t5 + 1)))] ?_
   exact ih (t4 ++ ([((rdD p0 t5).1, 1)] : List (Int × Int))) (IntKind.wrap .i64 (t5 + 1)) A20 c21 w19 h (h22.pick [0, 1, 2] (by decide))
  ·skip
   refine RunsI.f 14 false hc6 ?_
   refine RunsI.b false 14 ?_
   refine RunsI.g 1 [.c 19] ?_
   refine RunsI.l [0, 1, 5] [(0, .slice pA0 p0.length pc0), (1, .slice pA1 p1.length pc1), (5, .slice A2 t4.length c3)] ?_
   exact hk0 t4 A2 c3 w (Option.some.inj h).symm (hH.pick [0, 1, 2] (by decide))
def charabancref14_Diff_22.l1 (K : Nat) (p0 : List (Int × Int)) (p1 : List (Int × Int)) : Nat → (List (Int × Int)) → Int → Option (List (Int × Int))
 | 0, _, _ => none
 | k + 1, t36, t37 => cond (decide (t37 < (p1.length : Int))) (cond (inR t37 p1.length) (cond (mayBe (t36.length + ([((rdD p1 t37).1, 1)] : List (Int × Int)).length) 4) (charabancref14_Diff_22.l1 K p0 p1 k (t36 ++ ([((rdD p1 t37).1, 1)] : List (Int × Int))) (IntKind.wrap .i64 (t37 + 1))) none) none) (some t36)
set_option maxRecDepth 100000 in
theorem charabancref14_Diff_22.l1_ok (K : Nat) (M0 : Nat → Prop) (w0 : World) (pA0 : Option Addr) (pc0 : Nat) (pA1 : Option Addr) (pc1 : Nat) (p0 : List (Int × Int)) (p1 : List (Int × Int)) (R : Ending → World → Prop) (x : (List (Int × Int))) (hk0 : ∀ (t58 : List (Int × Int)) (A56 : Option Addr) (c57 : Nat) (w1 : World), x = t58 → Holds M0 w0 w1 [sl (Rp.pair (Rp.int .u16) (Rp.int .u8)) (.slice pA0 p0.length pc0) p0, sl (Rp.pair (Rp.int .u16) (Rp.int .u8)) (.slice pA1 p1.length pc1) p1, own (Rp.pair (Rp.int .u16) (Rp.int .u8)) 38 (.slice A56 t58.length c57) t58] → RunsI F22 [.c 34] [(0, .slice pA0 p0.length pc0), (1, .slice pA1 p1.length pc1), (5, .slice A56 t58.length c57)] w1 R) :
  ∀ (k : Nat) (t36 : List (Int × Int)) (t37 : Int) (A34 : Option Addr) (c35 : Nat) (w : World), charabancref14_Diff_22.l1 K p0 p1 k t36 t37 = some x → Holds M0 w0 w [sl (Rp.pair (Rp.int .u16) (Rp.int .u8)) (.slice pA0 p0.length pc0) p0, sl (Rp.pair (Rp.int .u16) (Rp.int .u8)) (.slice pA1 p1.length pc1) p1, own (Rp.pair (Rp.int .u16) (Rp.int .u8)) 38 (.slice A34 t36.length c35) t36] → RunsI F22 [.c 24, .lp 24, .blk 2, .c 34] [(0, .slice pA0 p0.length pc0), (1, .slice pA1 p1.length pc1), (5, .slice A34 t36.length c35), (7, .int .i64 t37)] w R := by
 intro k
 induction k with
 | zero => intro t36 t37 A34 c35 w h hH; exact absurd h (by simp [charabancref14_Diff_22.l1])
 | succ k ih =>
  intro t36 t37 A34 c35 w h hH
  rw [charabancref14_Diff_22.l1.eq_2] at h
  refine RunsI.g 1 [.c 25, .c 30, .lp 24, .blk 2, .c 34] ?_
  refine RunsI.g 1 [.c 26, .c 27, .c 30, .lp 24, .blk 2, .c 34] ?_
  refine RunsI.r ?_
  refine RegI.p 4 [(0, .slice pA0 p0.length pc0), (1, .slice pA1 p1.length pc1), (5, .slice A34 t36.length c35), (7, .int .i64 t37), (29, .bool (decide (t37 < (p1.length : Int))))] ?_
  refine RegI.d ?_
  rcases of_cond h with ⟨hc38, h⟩ | ⟨hc38, h⟩
  ·skip
   refine RunsI.f 29 true hc38 ?_
   refine RunsI.b true 28 ?_
   refine RunsI.g 1 [.c 30, .lp 24, .blk 2, .c 34] ?_
   refine RunsI.g 2 [.c 32, .blk 3, .c 33, .lp 24, .blk 2, .c 34] ?_
   refine RunsI.r ?_
   refine RegI.p 3 [(0, .slice pA0 p0.length pc0), (1, .slice pA1 p1.length pc1), (7, .int .i64 t37), (32, .slice A34 t36.length c35), (33, .slice pA1 p1.length pc1), (34, .int .i64 t37)] ?_
   obtain ⟨hc39, h⟩ := of_cond0 h
   refine RegI.o (OpE.idxSl 35 1 22 t37 hH (by kernel_rfl) rfl (by kernel_rfl) (by kernel_rfl) hc39 ?_)
   intro b40 o41 cs42 hk43 h44
   obtain ⟨_, _, rfl, rfl, rfl⟩ := hk43
   refine RegI.p 1 [(0, .slice pA0 p0.length pc0), (1, .slice pA1 p1.length pc1), (7, .int .i64 t37), (32, .slice A34 t36.length c35), (36, .pointer (some ⟨b40, o41, none⟩))] ?_
   refine RegI.o (OpE.loadCel 37 3 23 b40 o41 0 (.int .u16 ((rdD p1 t37).1)) h44 (by kernel_rfl) (by kernel_rfl) rfl (by kernel_rfl) ?_)
   refine RegI.p 1 [(0, .slice pA0 p0.length pc0), (1, .slice pA1 p1.length pc1), (7, .int .i64 t37), (32, .slice A34 t36.length c35), (38, .agg #[.int .u16 ((rdD p1 t37).1), .int .u8 1])] ?_
   refine RegI.o (OpE.lit 39 38 [.int .u16 ((rdD p1 t37).1), .int .u8 1] 1 h44 (by kernel_rfl) (by kernel_rfl) ?_)
   intro w45 b46 h47 hb48 hn49
   obtain ⟨hc50, h⟩ := of_cond0 h
   refine RegI.o (OpE.appendBox 40 2 4 22 38 4 ([((rdD p1 t37).1, 1)] : List (Int × Int)) 0 h47 (by kernel_rfl) (by kernel_rfl) (by kernel_rfl) rfl rfl rfl (⟨[_, _], _, rfl, ⟨[_], [_], rfl, rfl, rfl⟩, rfl⟩) hc50 ?_)
   intro w51 A52 c53 h54 hk55
   refine RegI.p 1 [(0, .slice pA0 p0.length pc0), (1, .slice pA1 p1.length pc1), (5, .slice A52 ((t36 ++ ([((rdD p1 t37).1, 1)] : List (Int × Int))).length) c53), (7, .int .i64 t37)] ?_
   refine RegI.d ?_
   refine RunsI.g 1 [.c 33, .lp 24, .blk 2, .c 34] ?_
   refine RunsI.r ?_
   refine RegI.p 3 [(0, .slice pA0 p0.length pc0), (1, .slice pA1 p1.length pc1), (5, .slice A52 ((t36 ++ ([((rdD p1 t37).1, 1)] : List (Int × Int))).length) c53), (7, .int .i64 (IntKind.wrap .i64 (t37 + 1)))] ?_
   refine RegI.d ?_
   refine RunsI.g 1 [.c 24, .lp 24, .blk 2, .c 34] ?_
   refine RunsI.l [0, 1, 5, 7] [(0, .slice pA0 p0.length pc0), (1, .slice pA1 p1.length pc1), (5, .slice A52 ((t36 ++ ([((rdD p1 t37).1, 1)] : List (Int × Int))).length) c53), (7, .int .i64 (IntKind.wrap .i64 (t37 + 1)))] ?_
   exact ih (t36 ++ ([((rdD p1 t37).1, 1)] : List (Int × Int))) (IntKind.wrap .i64 (t37 + 1)) A52 c53 w51 h (h54.pick [0, 1, 2] (by decide))
  ·skip
   refine RunsI.f 29 false hc38 ?_
   refine RunsI.b false 29 ?_
   refine RunsI.g 1 [.c 34] ?_
   refine RunsI.l [0, 1, 5] [(0, .slice pA0 p0.length pc0), (1, .slice pA1 p1.length pc1), (5, .slice A34 t36.length c35)] ?_
   exact hk0 t36 A34 c35 w (Option.some.inj h).symm (hH.pick [0, 1, 2] (by decide))
def charabancref14_Diff_22.l2 (K : Nat) (p0 : List (Int × Int)) (p1 : List (Int × Int)) (t78 : List (Int × Int)) : Nat → (List (Int × Int)) → Int → Option (List (Int × Int))
 | 0, _, _ => none
 | k + 1, t81, t82 => cond (decide (t82 < (t78.length : Int))) (cond (inR t82 t78.length) ((charabancref14_Get_14.f K p0 ((rdD t78 t82).1)).bind fun t91 => (charabancref14_Get_14.f K p1 ((rdD t78 t82).1)).bind fun t96 => cond (t91 != t96) ((charabancref14_Get_14.f K p1 ((rdD t78 t82).1)).bind fun t102 => cond (mayBe (t81.length + ([((rdD t78 t82).1, t102)] : List (Int × Int)).length) 4) (charabancref14_Diff_22.l2 K p0 p1 t78 k (t81 ++ ([((rdD t78 t82).1, t102)] : List (Int × Int))) (IntKind.wrap .i64 (t82 + 1))) none) (charabancref14_Diff_22.l2 K p0 p1 t78 k t81 (IntKind.wrap .i64 (t82 + 1)))) none) (some t81)
set_option maxRecDepth 100000 in
theorem charabancref14_Diff_22.l2_ok (K : Nat) (M0 : Nat → Prop) (w0 : World) (pA0 : Option Addr) (pc0 : Nat) (pA1 : Option Addr) (pc1 : Nat) (p0 : List (Int × Int)) (p1 : List (Int × Int)) (t78 : List (Int × Int)) (A76 : Option Addr) (c77 : Nat) (R : Ending → World → Prop) (x : (List (Int × Int))) (hk0 : ∀ (t116 : List (Int × Int)) (A114 : Option Addr) (c115 : Nat) (w1 : World), x = t116 → Holds M0 w0 w1 [own (Rp.pair (Rp.int .u16) (Rp.int .u8)) 38 (.slice A114 t116.length c115) t116] → RunsI F22 [.c 59] [(8, .slice A114 t116.length c115)] w1 R) :
  ∀ (k : Nat) (t81 : List (Int × Int)) (t82 : Int) (A79 : Option Addr) (c80 : Nat) (w : World), charabancref14_Diff_22.l2 K p0 p1 t78 k t81 t82 = some x → Holds M0 w0 w [sl (Rp.pair (Rp.int .u16) (Rp.int .u8)) (.slice pA0 p0.length pc0) p0, sl (Rp.pair (Rp.int .u16) (Rp.int .u8)) (.slice pA1 p1.length pc1) p1, own (Rp.pair (Rp.int .u16) (Rp.int .u8)) 38 (.slice A76 t78.length c77) t78, own (Rp.pair (Rp.int .u16) (Rp.int .u8)) 38 (.slice A79 t81.length c80) t81] → RunsI F22 [.c 43, .lp 43, .blk 4, .c 59] [(0, .slice pA0 p0.length pc0), (1, .slice pA1 p1.length pc1), (5, .slice A76 t78.length c77), (8, .slice A79 t81.length c80), (9, .int .i64 t82)] w R := by
 intro k
 induction k with
 | zero => intro t81 t82 A79 c80 w h hH; exact absurd h (by simp [charabancref14_Diff_22.l2])
 | succ k ih =>
  intro t81 t82 A79 c80 w h hH
  rw [charabancref14_Diff_22.l2.eq_2] at h
  refine RunsI.g 1 [.c 44, .c 49, .lp 43, .blk 4, .c 59] ?_
  refine RunsI.g 1 [.c 45, .c 46, .c 49, .lp 43, .blk 4, .c 59] ?_
  refine RunsI.r ?_
  refine RegI.p 4 [(0, .slice pA0 p0.length pc0), (1, .slice pA1 p1.length pc1), (5, .slice A76 t78.length c77), (8, .slice A79 t81.length c80), (9, .int .i64 t82), (46, .bool (decide (t82 < (t78.length : Int))))] ?_
  refine RegI.d ?_
  rcases of_cond h with ⟨hc83, h⟩ | ⟨hc83, h⟩
  ·skip
   refine RunsI.f 46 true hc83 ?_
   refine RunsI.b true 47 ?_
   refine RunsI.g 1 [.c 49, .lp 43, .blk 4, .c 59] ?_
   refine RunsI.g 3 [.c 52, .c 53, .blk 5, .c 58, .lp 43, .blk 4, .c 59] ?_
   refine RunsI.r ?_
   refine RegI.p 2 [(0, .slice pA0 p0.length pc0), (1, .slice pA1 p1.length pc1), (5, .slice A76 t78.length c77), (8, .slice A79 t81.length c80), (9, .int .i64 t82), (49, .slice A76 t78.length c77), (50, .int .i64 t82)] ?_
   obtain ⟨hc84, h⟩ := of_cond0 h
   refine RegI.o (OpE.idxOwnA 51 2 22 38 t82 hH (by kernel_rfl) rfl (by kernel_rfl) (by kernel_rfl) hc84 ?_)
   refine RegI.p 1 [(0, .slice pA0 p0.length pc0), (1, .slice pA1 p1.length pc1), (5, .slice A76 t78.length c77), (8, .slice A79 t81.length c80), (9, .int .i64 t82), (52, .pointer (some ⟨(blkD A76), (Int.toNat t82) * 2, none⟩))] ?_
   refine RegI.o (OpE.loadOwnA 53 2 23 38 t82 0 (o := (Int.toNat t82) * 2 + 0) hH (by kernel_rfl) rfl (by kernel_rfl) (by kernel_rfl) hc84 (fun cs85 hk86 => ?_))
   obtain ⟨_, _, rfl, rfl, rfl⟩ := hk86
   refine ⟨.int .u16 ((rdD t78 t82).1), by kernel_rfl, ?_⟩
   refine RegI.p 1 [(0, .slice pA0 p0.length pc0), (1, .slice pA1 p1.length pc1), (5, .slice A76 t78.length c77), (8, .slice A79 t81.length c80), (9, .int .i64 t82), (10, .int .u16 ((rdD t78 t82).1))] ?_
   refine RegI.d ?_
   refine RunsI.g 1 [.c 54, .c 55, .blk 5, .c 58, .lp 43, .blk 4, .c 59] ?_
   refine RunsI.r ?_
   refine RegI.p 2 [(0, .slice pA0 p0.length pc0), (1, .slice pA1 p1.length pc1), (5, .slice A76 t78.length c77), (8, .slice A79 t81.length c80), (9, .int .i64 t82), (10, .int .u16 ((rdD t78 t82).1)), (54, .slice pA0 p0.length pc0), (55, .int .u16 ((rdD t78 t82).1))] ?_
   obtain ⟨t91, hg90, h⟩ := of_bind h
   refine RegI.o (OpE.call 56 (by kernel_rfl) 14 #[.slice pA0 p0.length pc0, .int .u16 ((rdD t78 t82).1)] (by kernel_rfl) ((charabancref14_Get_14_ok K _ w  pA0 pc0 p0 ((rdD t78 t82).1) hH.old' (hH.get 0 rfl) hg90).mono ?_))
   rintro _ w87 ⟨rfl, hb88⟩
   refine ⟨_, rfl, ?_⟩
   have h89 := hH.call hb88
   refine RegI.p 2 [(0, .slice pA0 p0.length pc0), (1, .slice pA1 p1.length pc1), (5, .slice A76 t78.length c77), (8, .slice A79 t81.length c80), (9, .int .i64 t82), (10, .int .u16 ((rdD t78 t82).1)), (56, .int .u8 t91), (57, .slice pA1 p1.length pc1), (58, .int .u16 ((rdD t78 t82).1))] ?_
   obtain ⟨t96, hg95, h⟩ := of_bind h
   refine RegI.o (OpE.call 59 (by kernel_rfl) 14 #[.slice pA1 p1.length pc1, .int .u16 ((rdD t78 t82).1)] (by kernel_rfl) ((charabancref14_Get_14_ok K _ w87  pA1 pc1 p1 ((rdD t78 t82).1) h89.old' (h89.get 1 rfl) hg95).mono ?_))
   rintro _ w92 ⟨rfl, hb93⟩
   refine ⟨_, rfl, ?_⟩
   have h94 := h89.call hb93
   refine RegI.p 1 [(0, .slice pA0 p0.length pc0), (1, .slice pA1 p1.length pc1), (5, .slice A76 t78.length c77), (8, .slice A79 t81.length c80), (9, .int .i64 t82), (10, .int .u16 ((rdD t78 t82).1)), (60, .bool (t91 != t96))] ?_
   refine RegI.d ?_
   rcases of_cond h with ⟨hc97, h⟩ | ⟨hc97, h⟩
   ·skip
    refine RunsI.f 60 true hc97 ?_
    refine RunsI.b true 56 ?_
    refine RunsI.r ?_
    refine RegI.p 4 [(0, .slice pA0 p0.length pc0), (1, .slice pA1 p1.length pc1), (5, .slice A76 t78.length c77), (9, .int .i64 t82), (61, .slice A79 t81.length c80), (62, .int .u16 ((rdD t78 t82).1)), (63, .slice pA1 p1.length pc1), (64, .int .u16 ((rdD t78 t82).1))] ?_
    obtain ⟨t102, hg101, h⟩ := of_bind h
    refine RegI.o (OpE.call 65 (by kernel_rfl) 14 #[.slice pA1 p1.length pc1, .int .u16 ((rdD t78 t82).1)] (by kernel_rfl) ((charabancref14_Get_14_ok K _ w92  pA1 pc1 p1 ((rdD t78 t82).1) h94.old' (h94.get 1 rfl) hg101).mono ?_))
    rintro _ w98 ⟨rfl, hb99⟩
    refine ⟨_, rfl, ?_⟩
    have h100 := h94.call hb99
    refine RegI.p 1 [(0, .slice pA0 p0.length pc0), (1, .slice pA1 p1.length pc1), (5, .slice A76 t78.length c77), (9, .int .i64 t82), (61, .slice A79 t81.length c80), (66, .agg #[.int .u16 ((rdD t78 t82).1), .int .u8 t102])] ?_
    refine RegI.o (OpE.lit 67 38 [.int .u16 ((rdD t78 t82).1), .int .u8 t102] 1 h100 (by kernel_rfl) (by kernel_rfl) ?_)
    intro w103 b104 h105 hb106 hn107
    obtain ⟨hc108, h⟩ := of_cond0 h
    refine RegI.o (OpE.appendBox 68 3 4 22 38 4 ([((rdD t78 t82).1, t102)] : List (Int × Int)) 0 h105 (by kernel_rfl) (by kernel_rfl) (by kernel_rfl) rfl rfl rfl (⟨[_, _], _, rfl, ⟨[_], [_], rfl, rfl, rfl⟩, rfl⟩) hc108 ?_)
    intro w109 A110 c111 h112 hk113
    refine RegI.p 1 [(0, .slice pA0 p0.length pc0), (1, .slice pA1 p1.length pc1), (5, .slice A76 t78.length c77), (8, .slice A110 ((t81 ++ ([((rdD t78 t82).1, t102)] : List (Int × Int))).length) c111), (9, .int .i64 t82)] ?_
    refine RegI.d ?_
    refine RunsI.g 1 [.c 58, .lp 43, .blk 4, .c 59] ?_
    refine RunsI.r ?_
    refine RegI.p 3 [(0, .slice pA0 p0.length pc0), (1, .slice pA1 p1.length pc1), (5, .slice A76 t78.length c77), (8, .slice A110 ((t81 ++ ([((rdD t78 t82).1, t102)] : List (Int × Int))).length) c111), (9, .int .i64 (IntKind.wrap .i64 (t82 + 1)))] ?_
    refine RegI.d ?_
    refine RunsI.g 1 [.c 43, .lp 43, .blk 4, .c 59] ?_
    refine RunsI.l [0, 1, 5, 8, 9] [(0, .slice pA0 p0.length pc0), (1, .slice pA1 p1.length pc1), (5, .slice A76 t78.length c77), (8, .slice A110 ((t81 ++ ([((rdD t78 t82).1, t102)] : List (Int × Int))).length) c111), (9, .int .i64 (IntKind.wrap .i64 (t82 + 1)))] ?_
    exact ih (t81 ++ ([((rdD t78 t82).1, t102)] : List (Int × Int))) (IntKind.wrap .i64 (t82 + 1)) A110 c111 w109 h (h112.pick [0, 1, 2, 3] (by decide))
   ·skip
    refine RunsI.f 60 false hc97 ?_
    refine RunsI.b false 57 ?_
    refine RunsI.g 1 [.blk 5, .c 58, .lp 43, .blk 4, .c 59] ?_
    refine RunsI.g 1 [.c 58, .lp 43, .blk 4, .c 59] ?_
    refine RunsI.r ?_
    refine RegI.p 3 [(0, .slice pA0 p0.length pc0), (1, .slice pA1 p1.length pc1), (5, .slice A76 t78.length c77), (8, .slice A79 t81.length c80), (9, .int .i64 (IntKind.wrap .i64 (t82 + 1)))] ?_
    refine RegI.d ?_
    refine RunsI.g 1 [.c 43, .lp 43, .blk 4, .c 59] ?_
    refine RunsI.l [0, 1, 5, 8, 9] [(0, .slice pA0 p0.length pc0), (1, .slice pA1 p1.length pc1), (5, .slice A76 t78.length c77), (8, .slice A79 t81.length c80), (9, .int .i64 (IntKind.wrap .i64 (t82 + 1)))] ?_
    exact ih t81 (IntKind.wrap .i64 (t82 + 1)) A79 c80 w92 h (h94.pick [0, 1, 2, 3] (by decide))
  ·skip
   refine RunsI.f 46 false hc83 ?_
   refine RunsI.b false 48 ?_
   refine RunsI.g 1 [.c 59] ?_
   refine RunsI.l [8] [(8, .slice A79 t81.length c80)] ?_
   exact hk0 t81 A79 c80 w (Option.some.inj h).symm (hH.pick [3] (by decide))
def charabancref14_Diff_22.f (K : Nat) (p0 : List (Int × Int)) (p1 : List (Int × Int)) : Option (List (Int × Int)) := (charabancref14_Diff_22.l0 K p0 p1 K ([] : List (Int × Int)) 0).bind (fun t31 => (charabancref14_Diff_22.l1 K p0 p1 K t31 0).bind (fun t63 => (charabancref14_Make_12.f K t63).bind fun t70 => (charabancref14_Diff_22.l2 K p0 p1 t70 K ([] : List (Int × Int)) 0).bind (fun t121 => some t121)))
set_option maxRecDepth 100000 in
theorem charabancref14_Diff_22_ok (K : Nat) (M0 : Nat → Prop) (w0 : World) (pA0 : Option Addr) (pc0 : Nat) (pA1 : Option Addr) (pc1 : Nat) (p0 : List (Int × Int)) (p1 : List (Int × Int)) (ho : ∀ b, M0 b → b < w0.heap.size) (hs0 : Sl (Rp.pair (Rp.int .u16) (Rp.int .u8)) w0 M0 (.slice pA0 p0.length pc0) p0) (hs1 : Sl (Rp.pair (Rp.int .u16) (Rp.int .u8)) w0 M0 (.slice pA1 p1.length pc1) p1) {r : (List (Int × Int))} (h : charabancref14_Diff_22.f K p0 p1 = some r) :
  Calls Try.prog 22 #[.slice pA0 p0.length pc0, .slice pA1 p1.length pc1] w0 (charabancref14_Diff_22.post M0 w0 r) := by
 unfold charabancref14_Diff_22.f at h
 have h0 : Holds M0 w0 w0 [] := Holds.start ho
 have h00 := h0.addSl (Rp.pair (Rp.int .u16) (Rp.int .u8)) (.slice pA0 p0.length pc0) p0 (hs0.mono (fun _ _ hm => hm.elim id (fun hm => absurd hm (by simp [mines, sl]))))
 have h01 := h00.addSl (Rp.pair (Rp.int .u16) (Rp.int .u8)) (.slice pA1 p1.length pc1) p1 (hs1.mono (fun _ _ hm => hm.elim id (fun hm => absurd hm (by simp [mines, sl]))))
 have h0 : Holds M0 w0 w0 [sl (Rp.pair (Rp.int .u16) (Rp.int .u8)) (.slice pA0 p0.length pc0) p0, sl (Rp.pair (Rp.int .u16) (Rp.int .u8)) (.slice pA1 p1.length pc1) p1] := h01
 refine calls_of F22 rfl [.slice pA0 p0.length pc0, .slice pA1 p1.length pc1] (by kernel_rfl) ?_
 refine RunsI.g 1 [.c 1, .c 2] ?_
 refine RunsI.r ?_
 refine RegI.p 1 [(0, .slice pA0 p0.length pc0), (1, .slice pA1 p1.length pc1)] ?_
 refine RegI.d ?_
 refine RunsI.g 1 [.c 3, .c 4] ?_
 refine RunsI.r ?_
 refine RegI.p 1 [(0, .slice pA0 p0.length pc0), (1, .slice pA1 p1.length pc1), (5, .slice none 0 0)] ?_
 refine RegI.d ?_
 refine RunsI.g 2 [.c 6, .c 7, .c 19] ?_
 refine RunsI.r ?_
 refine RegI.p 1 [(0, .slice pA0 p0.length pc0), (1, .slice pA1 p1.length pc1), (5, .slice none 0 0), (6, .int .i64 0)] ?_
 refine RegI.d ?_
 refine RunsI.g 2 [.c 9, .lp 9, .blk 0, .c 19] ?_
 obtain ⟨x27, hx28, h⟩ := of_bind h
 have h1 := h0.addOwnNil (Rp.pair (Rp.int .u16) (Rp.int .u8)) 38
 refine RunsI.l [0, 1, 5, 6] [(0, .slice pA0 p0.length pc0), (1, .slice pA1 p1.length pc1), (5, .slice none (([] : List (Int × Int)).length) 0), (6, .int .i64 0)] ?_
 refine charabancref14_Diff_22.l0_ok K M0 w0 pA0 pc0 pA1 pc1 p0 p1 _ x27 ?_ K ([] : List (Int × Int)) 0 none 0 w0 hx28 (h1.pick [0, 1, 2] (by decide))
 ·intro t31 A29 c30 w33 hq124 h32
  (try rw [hq124] at h)
  refine RunsI.g 2 [.c 21, .c 22, .c 34] ?_
  refine RunsI.r ?_
  refine RegI.p 1 [(0, .slice pA0 p0.length pc0), (1, .slice pA1 p1.length pc1), (5, .slice A29 t31.length c30), (7, .int .i64 0)] ?_
  refine RegI.d ?_
  refine RunsI.g 2 [.c 24, .lp 24, .blk 2, .c 34] ?_
  obtain ⟨x59, hx60, h⟩ := of_bind h
  refine RunsI.l [0, 1, 5, 7] [(0, .slice pA0 p0.length pc0), (1, .slice pA1 p1.length pc1), (5, .slice A29 t31.length c30), (7, .int .i64 0)] ?_
  refine charabancref14_Diff_22.l1_ok K M0 w0 pA0 pc0 pA1 pc1 p0 p1 _ x59 ?_ K t31 0 A29 c30 w33 hx60 (h32.pick [0, 1, 2] (by decide))
  ·intro t63 A61 c62 w65 hq125 h64
   (try rw [hq125] at h)
   refine RunsI.g 1 [.c 35, .c 36] ?_
   refine RunsI.r ?_
   refine RegI.p 1 [(0, .slice pA0 p0.length pc0), (1, .slice pA1 p1.length pc1), (41, .slice A61 t63.length c62)] ?_
   obtain ⟨t70, hg69, h⟩ := of_bind h
   refine RegI.o (OpE.call 42 (by kernel_rfl) 12 #[.slice A61 t63.length c62] (by kernel_rfl) ((charabancref14_Make_12_ok K (fun _ => False) w65  A61 c62 t63 (fun _ hf => hf.elim) (h64.ownSl 2 rfl) hg69).mono ?_))
   rintro _ w66 ⟨A71, c72, rfl, hr74⟩
   refine ⟨_, rfl, ?_⟩
   have hb67 := hr74.below
   have h68 := h64.join (hr74.anyM ⟨own_flat (fun _ _ _ _ _ h => h), trivial⟩ _ h64.old')
   refine RegI.p 1 [(0, .slice pA0 p0.length pc0), (1, .slice pA1 p1.length pc1), (5, .slice A71 t70.length c72)] ?_
   refine RegI.d ?_
   refine RunsI.g 1 [.c 37, .c 38] ?_
   refine RunsI.r ?_
   refine RegI.p 1 [(0, .slice pA0 p0.length pc0), (1, .slice pA1 p1.length pc1), (5, .slice A71 t70.length c72), (8, .slice none 0 0)] ?_
   refine RegI.d ?_
   refine RunsI.g 2 [.c 40, .c 41, .c 59] ?_
   refine RunsI.r ?_
   refine RegI.p 1 [(0, .slice pA0 p0.length pc0), (1, .slice pA1 p1.length pc1), (5, .slice A71 t70.length c72), (8, .slice none 0 0), (9, .int .i64 0)] ?_
   refine RegI.d ?_
   refine RunsI.g 2 [.c 43, .lp 43, .blk 4, .c 59] ?_
   obtain ⟨x117, hx118, h⟩ := of_bind h
   have h75 := h68.addOwnNil (Rp.pair (Rp.int .u16) (Rp.int .u8)) 38
   refine RunsI.l [0, 1, 5, 8, 9] [(0, .slice pA0 p0.length pc0), (1, .slice pA1 p1.length pc1), (5, .slice A71 t70.length c72), (8, .slice none (([] : List (Int × Int)).length) 0), (9, .int .i64 0)] ?_
   refine charabancref14_Diff_22.l2_ok K M0 w0 pA0 pc0 pA1 pc1 p0 p1 t70 A71 c72 _ x117 ?_ K ([] : List (Int × Int)) 0 none 0 w66 hx118 (h75.pick [0, 1, 3, 4] (by decide))
   ·intro t121 A119 c120 w123 hq126 h122
    (try rw [hq126] at h)
    refine RunsI.g 1 [.c 60, .c 61] ?_
    refine RunsI.r ?_
    refine RegI.p 2 [(4, .slice A119 t121.length c120)] ?_
    refine RegI.d ?_
    refine RunsI.t (.slice A119 t121.length c120) ?_
    obtain rfl := Option.some.inj h
    exact ⟨A119, c120, rfl, h122.pick [0] (by decide)⟩
end
end Go.Proofs.Ytbcepghanbkncaa.Cel
