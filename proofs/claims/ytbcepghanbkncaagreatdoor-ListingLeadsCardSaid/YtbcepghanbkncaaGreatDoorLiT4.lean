/- Functions of the program as plain Lean functions, each with the proof that the call comes to it; written by wip/eng.py. -/
import Derived.Test.YtbcepghanbkncaaGreatDoorEngShort2
import Derived.Test.YtbcepghanbkncaaGreatDoorLiT3
set_option linter.unusedVariables false
set_option linter.unusedSimpArgs false
set_option maxHeartbeats 4000000
namespace Go.Proofs.YtbcepghanbkncaaGreatDoor.LiT
open Go.RowKit Go.Eng
set_option maxRecDepth 100000
section
def slices_partitionOrdered_uint16_133.post (pA0 : Option Addr) (pc0 : Nat) (M0 : Nat → Prop) (w0 : World) (r : List Int × Int × Bool) : Ending → World → Prop := fun e w => e = .returned (.tuple #[.int .i64 r.2.1, .bool r.2.2]) ∧ Holds M0 w0 w [own (Rp.int .u16) 23 (.slice pA0 r.1.length pc0) r.1]
def slices_partitionOrdered_uint16_133.l0 (K : Nat) (p0 : List Int) (p1 : Int) (p2 : Int) (p3 : Int) : Nat → Int → Option Int
 | 0, _ => none
 | k + 1, t92 => Let (fun (t108 : Bool) => cond t108 (slices_partitionOrdered_uint16_133.l0 K p0 p1 p2 p3 k (IntKind.wrap .i64 (t92 + 1))) (some t92)) (fun j111 => cond (decide (t92 ≤ (IntKind.wrap .i64 (p2 - 1)))) (cond (inR t92 (stD (stD p0 p1 (rdD p0 p3)) p3 (rdD p0 p1)).length) (cond (inR p1 (stD (stD p0 p1 (rdD p0 p3)) p3 (rdD p0 p1)).length) ((cmp_Less_uint16_131.f K (rdD (stD (stD p0 p1 (rdD p0 p3)) p3 (rdD p0 p1)) t92) (rdD (stD (stD p0 p1 (rdD p0 p3)) p3 (rdD p0 p1)) p1)).bind fun t101 => j111 t101) none) none) (j111 false))
theorem slices_partitionOrdered_uint16_133.l0_ok (K : Nat) (M0 : Nat → Prop) (w0 : World) (pA0 : Option Addr) (pc0 : Nat) (p0 : List Int) (p1 : Int) (p2 : Int) (p3 : Int) (R : Ending → World → Prop) (x : Int) (hk0 : ∀ (t115 : Int) (w1 : World), x = t115 → Holds M0 w0 w1 [own rC 23 (sV pA0 (sD p0 p1 p3) pc0) (sD p0 p1 p3)] → RunsI F133 [.c 17] [(0, sV pA0 (sD p0 p1 p3) pc0), (1, iA p1), (10, iA t115), (11, iA (wA (p2 - 1)))] w1 R) :
  ∀ (k : Nat) (t92 : Int) (w : World), slices_partitionOrdered_uint16_133.l0 K p0 p1 p2 p3 k t92 = some x → Holds M0 w0 w [own rC 23 (sV pA0 (sD p0 p1 p3) pc0) (sD p0 p1 p3)] → RunsI F133 [.c 9, .lp 9, .blk 0, .c 17] [(0, sV pA0 (sD p0 p1 p3) pc0), (1, iA p1), (10, iA t92), (11, iA (wA (p2 - 1)))] w R := by
 intro k
 induction k with
 | zero => intro t92 w h hH; exact absurd h (by simp [slices_partitionOrdered_uint16_133.l0])
 | succ k ih =>
  intro t92 w h hH
  rw [slices_partitionOrdered_uint16_133.l0.eq_2] at h
  refine Xg 1 [.c 10, .c 15, .lp 9, .blk 0, .c 17] (Xg 1 [.c 11, .c 12, .c 15, .lp 9, .blk 0, .c 17] (RunsI.any 14 (by kernel_rfl) (by kernel_rfl) (by kernel_rfl) (Kp ([] : List Nat) (World.drew w)) ?_))
  have h94 := hH.drew
  generalize World.drew w = w93 at h94 ⊢
  have hS95 := Kp.refl ([] : List Nat) w93
  refine Wu 0 30 (iA t92) hS95 (Wu 1 31 (iA (wA (p2 - 1))) hS95 (Wu 2 32 (tB (decide (t92 ≤ (wA (p2 - 1))))) hS95 (Wu 3 33 (tB (decide (t92 ≤ (wA (p2 - 1))))) hS95 ?_)))
  obtain ⟨j111, hJ112, h⟩ := of_let h
  have hj113 : ∀ (t108 : Bool) (w110 : World), j111 t108 = some x → Holds M0 w0 w110 [own rC 23 (sV pA0 (sD p0 p1 p3) pc0) (sD p0 p1 p3)] → RunsI F133 [.c 12, .c 15, .lp 9, .blk 0, .c 17] [(0, sV pA0 (sD p0 p1 p3) pc0), (1, iA p1), (10, iA t92), (11, iA (wA (p2 - 1))), (43, tB t108)] w110 R := by
   intro t108 w110 h h109
   rw [hJ112] at h
   clear hJ112
   dsimp only at h
   refine Vc 43 13 14 h (fun hc114 h => ?_) fun hc114 h => ?_
   ·refine Xg 1 [.c 15, .lp 9, .blk 0, .c 17] (Xd 1 16 [.blk 1, .lp 9, .blk 0, .c 17] 3 [(0, sV pA0 (sD p0 p1 p3) pc0), (1, iA p1), (10, iA (wA (t92 + 1))), (11, iA (wA (p2 - 1)))] (Xg 2 [.c 9, .lp 9, .blk 0, .c 17] (Vl [(0, sV pA0 (sD p0 p1 p3) pc0), (1, iA p1), (10, iA (wA (t92 + 1))), (11, iA (wA (p2 - 1)))] ?_)))
    exact ih (wA (t92 + 1)) w110 h (h109.pk [0])
   ·refine Xg 1 [.c 17] (Vl [(0, sV pA0 (sD p0 p1 p3) pc0), (1, iA p1), (10, iA t92), (11, iA (wA (p2 - 1)))] ?_)
    exact hk0 t92 w110 (sI h).symm (h109.pk [0])
  clear hJ112
  rcases oc h with ⟨hc97, h⟩ | ⟨hc97, h⟩
  ·refine AnyE.fix 33 true hc97 (by kernel_rfl) (by kernel_rfl) (Wu 4 34 (sV pA0 (sD p0 p1 p3) pc0) hS95 (Wu 5 35 (iA t92) hS95 ?_))
   have ⟨hc98, h⟩ := oz h
   refine AnyE.idxOwnA 6 36 0 29 23 t92 h94 (by kernel_rfl) hS95 rfl (by kernel_rfl) (by kernel_rfl) hc98 (AnyE.loadOwnA 7 37 0 23 23 t92 0 (iC (rdD (sD p0 p1 p3) t92)) [] (o := (Int.toNat t92) * 1 + 0) h94 rfl (by kernel_rfl) hS95 rfl rfl (by kernel_rfl) rfl hc98 (fun _ _ hk => by obtain rfl := hk; kernel_rfl) (Wu 8 38 (sV pA0 (sD p0 p1 p3) pc0) hS95 (Wu 9 39 (iA p1) hS95 ?_)))
   have ⟨hc99, h⟩ := oz h
   refine AnyE.idxOwnA 10 40 0 29 23 p1 h94 (by kernel_rfl) hS95 rfl (by kernel_rfl) (by kernel_rfl) hc99 (AnyE.loadOwnA 11 41 0 23 23 p1 0 (iC (rdD (sD p0 p1 p3) p1)) [] (o := (Int.toNat p1) * 1 + 0) h94 rfl (by kernel_rfl) hS95 rfl rfl (by kernel_rfl) rfl hc99 (fun _ _ hk => by obtain rfl := hk; kernel_rfl) ?_)
   obtain ⟨t101, hg100, h⟩ := of_bind h
   refine Wc 12 42 (tB t101) 131 #[iC (rdD (sD p0 p1 p3) t92), iC (rdD (sD p0 p1 p3) p1)] hS95 (fun w hk => cmp_Less_uint16_131_ok K (fun _ => False) w (rdD (sD p0 p1 p3) t92) (rdD (sD p0 p1 p3) p1) nF hg100) (Wu 13 43 (tB t101) hS95 (AnyE.done (by kernel_rfl) (fun w102 hu103 => ?_)))
   have h104 := h94.call hu103
   refine Vl [(0, sV pA0 (sD p0 p1 p3) pc0), (1, iA p1), (10, iA t92), (11, iA (wA (p2 - 1))), (43, tB t101)] (Vl [(0, sV pA0 (sD p0 p1 p3) pc0), (1, iA p1), (10, iA t92), (11, iA (wA (p2 - 1))), (43, tB t101)] ?_)
   exact hj113 t101 w102 h (h104.pk [0])
  ·refine AnyE.fix 33 false hc97 (by kernel_rfl) (by kernel_rfl) (AnyE.no 4 34 (by kernel_rfl) hS95 (AnyE.no 5 35 (by kernel_rfl) hS95 (AnyE.no 6 36 (by kernel_rfl) hS95 (AnyE.no 7 37 (by kernel_rfl) hS95 (AnyE.no 8 38 (by kernel_rfl) hS95 (AnyE.no 9 39 (by kernel_rfl) hS95 (AnyE.no 10 40 (by kernel_rfl) hS95 (AnyE.no 11 41 (by kernel_rfl) hS95 (AnyE.no 12 42 (by kernel_rfl) hS95 (Wu 13 43 (tB false) hS95 (AnyE.done (by kernel_rfl) (fun w105 hu106 => ?_))))))))))))
   have h107 := h94.call hu106
   refine Vl [(0, sV pA0 (sD p0 p1 p3) pc0), (1, iA p1), (10, iA t92), (11, iA (wA (p2 - 1))), (43, tB false)] (Vl [(0, sV pA0 (sD p0 p1 p3) pc0), (1, iA p1), (10, iA t92), (11, iA (wA (p2 - 1))), (43, tB false)] ?_)
   exact hj113 false w105 h (h107.pk [0])
def slices_partitionOrdered_uint16_133.l1 (K : Nat) (p0 : List Int) (p1 : Int) (p2 : Int) (p3 : Int) (t121 : Int) : Nat → Int → Option Int
 | 0, _ => none
 | k + 1, t122 => Let (fun (t138 : Bool) => cond t138 (slices_partitionOrdered_uint16_133.l1 K p0 p1 p2 p3 t121 k (IntKind.wrap .i64 (t122 - 1))) (some t122)) (fun j141 => cond (decide (t121 ≤ t122)) (cond (inR t122 (stD (stD p0 p1 (rdD p0 p3)) p3 (rdD p0 p1)).length) (cond (inR p1 (stD (stD p0 p1 (rdD p0 p3)) p3 (rdD p0 p1)).length) ((cmp_Less_uint16_131.f K (rdD (stD (stD p0 p1 (rdD p0 p3)) p3 (rdD p0 p1)) t122) (rdD (stD (stD p0 p1 (rdD p0 p3)) p3 (rdD p0 p1)) p1)).bind fun t131 => j141 (!t131)) none) none) (j141 false))
theorem slices_partitionOrdered_uint16_133.l1_ok (K : Nat) (M0 : Nat → Prop) (w0 : World) (pA0 : Option Addr) (pc0 : Nat) (p0 : List Int) (p1 : Int) (p2 : Int) (p3 : Int) (t121 : Int) (R : Ending → World → Prop) (x : Int) (hk0 : ∀ (t145 : Int) (w1 : World), x = t145 → Holds M0 w0 w1 [own rC 23 (sV pA0 (sD p0 p1 p3) pc0) (sD p0 p1 p3)] → RunsI F133 [.c 28] [(0, sV pA0 (sD p0 p1 p3) pc0), (1, iA p1), (10, iA t121), (11, iA t145)] w1 R) :
  ∀ (k : Nat) (t122 : Int) (w : World), slices_partitionOrdered_uint16_133.l1 K p0 p1 p2 p3 t121 k t122 = some x → Holds M0 w0 w [own rC 23 (sV pA0 (sD p0 p1 p3) pc0) (sD p0 p1 p3)] → RunsI F133 [.c 20, .lp 20, .blk 2, .c 28] [(0, sV pA0 (sD p0 p1 p3) pc0), (1, iA p1), (10, iA t121), (11, iA t122)] w R := by
 intro k
 induction k with
 | zero => intro t122 w h hH; exact absurd h (by simp [slices_partitionOrdered_uint16_133.l1])
 | succ k ih =>
  intro t122 w h hH
  rw [slices_partitionOrdered_uint16_133.l1.eq_2] at h
  refine Xg 1 [.c 21, .c 26, .lp 20, .blk 2, .c 28] (Xg 1 [.c 22, .c 23, .c 26, .lp 20, .blk 2, .c 28] (RunsI.any 15 (by kernel_rfl) (by kernel_rfl) (by kernel_rfl) (Kp ([] : List Nat) (World.drew w)) ?_))
  have h124 := hH.drew
  generalize World.drew w = w123 at h124 ⊢
  have hS125 := Kp.refl ([] : List Nat) w123
  refine Wu 0 46 (iA t121) hS125 (Wu 1 47 (iA t122) hS125 (Wu 2 48 (tB (decide (t121 ≤ t122))) hS125 (Wu 3 49 (tB (decide (t121 ≤ t122))) hS125 ?_)))
  obtain ⟨j141, hJ142, h⟩ := of_let h
  have hj143 : ∀ (t138 : Bool) (w140 : World), j141 t138 = some x → Holds M0 w0 w140 [own rC 23 (sV pA0 (sD p0 p1 p3) pc0) (sD p0 p1 p3)] → RunsI F133 [.c 23, .c 26, .lp 20, .blk 2, .c 28] [(0, sV pA0 (sD p0 p1 p3) pc0), (1, iA p1), (10, iA t121), (11, iA t122), (60, tB t138)] w140 R := by
   intro t138 w140 h h139
   rw [hJ142] at h
   clear hJ142
   dsimp only at h
   refine Vc 60 24 25 h (fun hc144 h => ?_) fun hc144 h => ?_
   ·refine Xg 1 [.c 26, .lp 20, .blk 2, .c 28] (Xd 1 27 [.blk 3, .lp 20, .blk 2, .c 28] 3 [(0, sV pA0 (sD p0 p1 p3) pc0), (1, iA p1), (10, iA t121), (11, iA (wA (t122 - 1)))] (Xg 2 [.c 20, .lp 20, .blk 2, .c 28] (Vl [(0, sV pA0 (sD p0 p1 p3) pc0), (1, iA p1), (10, iA t121), (11, iA (wA (t122 - 1)))] ?_)))
    exact ih (wA (t122 - 1)) w140 h (h139.pk [0])
   ·refine Xg 1 [.c 28] (Vl [(0, sV pA0 (sD p0 p1 p3) pc0), (1, iA p1), (10, iA t121), (11, iA t122)] ?_)
    exact hk0 t122 w140 (sI h).symm (h139.pk [0])
  clear hJ142
  rcases oc h with ⟨hc127, h⟩ | ⟨hc127, h⟩
  ·refine AnyE.fix 49 true hc127 (by kernel_rfl) (by kernel_rfl) (Wu 4 50 (sV pA0 (sD p0 p1 p3) pc0) hS125 (Wu 5 51 (iA t122) hS125 ?_))
   have ⟨hc128, h⟩ := oz h
   refine AnyE.idxOwnA 6 52 0 29 23 t122 h124 (by kernel_rfl) hS125 rfl (by kernel_rfl) (by kernel_rfl) hc128 (AnyE.loadOwnA 7 53 0 23 23 t122 0 (iC (rdD (sD p0 p1 p3) t122)) [] (o := (Int.toNat t122) * 1 + 0) h124 rfl (by kernel_rfl) hS125 rfl rfl (by kernel_rfl) rfl hc128 (fun _ _ hk => by obtain rfl := hk; kernel_rfl) (Wu 8 54 (sV pA0 (sD p0 p1 p3) pc0) hS125 (Wu 9 55 (iA p1) hS125 ?_)))
   have ⟨hc129, h⟩ := oz h
   refine AnyE.idxOwnA 10 56 0 29 23 p1 h124 (by kernel_rfl) hS125 rfl (by kernel_rfl) (by kernel_rfl) hc129 (AnyE.loadOwnA 11 57 0 23 23 p1 0 (iC (rdD (sD p0 p1 p3) p1)) [] (o := (Int.toNat p1) * 1 + 0) h124 rfl (by kernel_rfl) hS125 rfl rfl (by kernel_rfl) rfl hc129 (fun _ _ hk => by obtain rfl := hk; kernel_rfl) ?_)
   obtain ⟨t131, hg130, h⟩ := of_bind h
   refine Wc 12 58 (tB t131) 131 #[iC (rdD (sD p0 p1 p3) t122), iC (rdD (sD p0 p1 p3) p1)] hS125 (fun w hk => cmp_Less_uint16_131_ok K (fun _ => False) w (rdD (sD p0 p1 p3) t122) (rdD (sD p0 p1 p3) p1) nF hg130) (Wu 13 59 (tB (!t131)) hS125 (Wu 14 60 (tB (!t131)) hS125 (AnyE.done (by kernel_rfl) (fun w132 hu133 => ?_))))
   have h134 := h124.call hu133
   refine Vl [(0, sV pA0 (sD p0 p1 p3) pc0), (1, iA p1), (10, iA t121), (11, iA t122), (60, tB (!t131))] (Vl [(0, sV pA0 (sD p0 p1 p3) pc0), (1, iA p1), (10, iA t121), (11, iA t122), (60, tB (!t131))] ?_)
   exact hj143 (!t131) w132 h (h134.pk [0])
  ·refine AnyE.fix 49 false hc127 (by kernel_rfl) (by kernel_rfl) (AnyE.no 4 50 (by kernel_rfl) hS125 (AnyE.no 5 51 (by kernel_rfl) hS125 (AnyE.no 6 52 (by kernel_rfl) hS125 (AnyE.no 7 53 (by kernel_rfl) hS125 (AnyE.no 8 54 (by kernel_rfl) hS125 (AnyE.no 9 55 (by kernel_rfl) hS125 (AnyE.no 10 56 (by kernel_rfl) hS125 (AnyE.no 11 57 (by kernel_rfl) hS125 (AnyE.no 12 58 (by kernel_rfl) hS125 (AnyE.no 13 59 (by kernel_rfl) hS125 (Wu 14 60 (tB false) hS125 ?_)))))))))))
   refine AnyE.done (by kernel_rfl) (fun w135 hu136 => ?_)
   have h137 := h124.call hu136
   refine Vl [(0, sV pA0 (sD p0 p1 p3) pc0), (1, iA p1), (10, iA t121), (11, iA t122), (60, tB false)] (Vl [(0, sV pA0 (sD p0 p1 p3) pc0), (1, iA p1), (10, iA t121), (11, iA t122), (60, tB false)] ?_)
   exact hj143 false w135 h (h137.pk [0])
def slices_partitionOrdered_uint16_133.l2 (K : Nat) (p0 : List Int) (p1 : Int) (p2 : Int) (p3 : Int) (t330 : List Int) (t332 : Int) : Nat → Int → Option Int
 | 0, _ => none
 | k + 1, t331 => Let (fun (t348 : Bool) => cond t348 (slices_partitionOrdered_uint16_133.l2 K p0 p1 p2 p3 t330 t332 k (IntKind.wrap .i64 (t331 + 1))) (some t331)) (fun j351 => cond (decide (t331 ≤ t332)) (cond (inR t331 t330.length) (cond (inR p1 t330.length) ((cmp_Less_uint16_131.f K (rdD t330 t331) (rdD t330 p1)).bind fun t341 => j351 t341) none) none) (j351 false))
theorem slices_partitionOrdered_uint16_133.l2_ok (K : Nat) (M0 : Nat → Prop) (w0 : World) (pA0 : Option Addr) (pc0 : Nat) (p0 : List Int) (p1 : Int) (p2 : Int) (p3 : Int) (t330 : List Int) (t332 : Int) (R : Ending → World → Prop) (x : Int) (hk0 : ∀ (t355 : Int) (w1 : World), x = t355 → Holds M0 w0 w1 [own rC 23 (sV pA0 t330 pc0) t330] → RunsI F133 [.c 59, .blk 5, .lp 47, .blk 4, .c 81] [(0, sV pA0 t330 pc0), (1, iA p1), (10, iA t355), (11, iA t332)] w1 R) :
  ∀ (k : Nat) (t331 : Int) (w : World), slices_partitionOrdered_uint16_133.l2 K p0 p1 p2 p3 t330 t332 k t331 = some x → Holds M0 w0 w [own rC 23 (sV pA0 t330 pc0) t330] → RunsI F133 [.c 51, .lp 51, .blk 6, .c 59, .blk 5, .lp 47, .blk 4, .c 81] [(0, sV pA0 t330 pc0), (1, iA p1), (10, iA t331), (11, iA t332)] w R := by
 intro k
 induction k with
 | zero => intro t331 w h hH; exact absurd h (by simp [slices_partitionOrdered_uint16_133.l2])
 | succ k ih =>
  intro t331 w h hH
  rw [slices_partitionOrdered_uint16_133.l2.eq_2] at h
  refine Xg 1 [.c 52, .c 57, .lp 51, .blk 6, .c 59, .blk 5, .lp 47, .blk 4, .c 81] (Xg 1 [.c 53, .c 54, .c 57, .lp 51, .blk 6, .c 59, .blk 5, .lp 47, .blk 4, .c 81] (RunsI.any 14 (by kernel_rfl) (by kernel_rfl) (by kernel_rfl) (Kp ([] : List Nat) (World.drew w)) ?_))
  have h334 := hH.drew
  generalize World.drew w = w333 at h334 ⊢
  have hS335 := Kp.refl ([] : List Nat) w333
  refine Wu 0 99 (iA t331) hS335 (Wu 1 100 (iA t332) hS335 (Wu 2 101 (tB (decide (t331 ≤ t332))) hS335 (Wu 3 102 (tB (decide (t331 ≤ t332))) hS335 ?_)))
  obtain ⟨j351, hJ352, h⟩ := of_let h
  have hj353 : ∀ (t348 : Bool) (w350 : World), j351 t348 = some x → Holds M0 w0 w350 [own rC 23 (sV pA0 t330 pc0) t330] → RunsI F133 [.c 54, .c 57, .lp 51, .blk 6, .c 59, .blk 5, .lp 47, .blk 4, .c 81] [(0, sV pA0 t330 pc0), (1, iA p1), (10, iA t331), (11, iA t332), (112, tB t348)] w350 R := by
   intro t348 w350 h h349
   rw [hJ352] at h
   clear hJ352
   dsimp only at h
   refine Vc 112 55 56 h (fun hc354 h => ?_) fun hc354 h => ?_
   ·refine Xg 1 [.c 57, .lp 51, .blk 6, .c 59, .blk 5, .lp 47, .blk 4, .c 81] (Xd 1 58 [.blk 7, .lp 51, .blk 6, .c 59, .blk 5, .lp 47, .blk 4, .c 81] 3 [(0, sV pA0 t330 pc0), (1, iA p1), (10, iA (wA (t331 + 1))), (11, iA t332)] (Xg 2 [.c 51, .lp 51, .blk 6, .c 59, .blk 5, .lp 47, .blk 4, .c 81] (Vl [(0, sV pA0 t330 pc0), (1, iA p1), (10, iA (wA (t331 + 1))), (11, iA t332)] ?_)))
    exact ih (wA (t331 + 1)) w350 h (h349.pk [0])
   ·refine Xg 1 [.c 59, .blk 5, .lp 47, .blk 4, .c 81] (Vl [(0, sV pA0 t330 pc0), (1, iA p1), (10, iA t331), (11, iA t332)] ?_)
    exact hk0 t331 w350 (sI h).symm (h349.pk [0])
  clear hJ352
  rcases oc h with ⟨hc337, h⟩ | ⟨hc337, h⟩
  ·refine AnyE.fix 102 true hc337 (by kernel_rfl) (by kernel_rfl) (Wu 4 103 (sV pA0 t330 pc0) hS335 (Wu 5 104 (iA t331) hS335 ?_))
   have ⟨hc338, h⟩ := oz h
   refine AnyE.idxOwnA 6 105 0 29 23 t331 h334 (by kernel_rfl) hS335 rfl (by kernel_rfl) (by kernel_rfl) hc338 (AnyE.loadOwnA 7 106 0 23 23 t331 0 (iC (rdD t330 t331)) [] (o := (Int.toNat t331) * 1 + 0) h334 rfl (by kernel_rfl) hS335 rfl rfl (by kernel_rfl) rfl hc338 (fun _ _ hk => by obtain rfl := hk; kernel_rfl) (Wu 8 107 (sV pA0 t330 pc0) hS335 (Wu 9 108 (iA p1) hS335 ?_)))
   have ⟨hc339, h⟩ := oz h
   refine AnyE.idxOwnA 10 109 0 29 23 p1 h334 (by kernel_rfl) hS335 rfl (by kernel_rfl) (by kernel_rfl) hc339 (AnyE.loadOwnA 11 110 0 23 23 p1 0 (iC (rdD t330 p1)) [] (o := (Int.toNat p1) * 1 + 0) h334 rfl (by kernel_rfl) hS335 rfl rfl (by kernel_rfl) rfl hc339 (fun _ _ hk => by obtain rfl := hk; kernel_rfl) ?_)
   obtain ⟨t341, hg340, h⟩ := of_bind h
   refine Wc 12 111 (tB t341) 131 #[iC (rdD t330 t331), iC (rdD t330 p1)] hS335 (fun w hk => cmp_Less_uint16_131_ok K (fun _ => False) w (rdD t330 t331) (rdD t330 p1) nF hg340) (Wu 13 112 (tB t341) hS335 (AnyE.done (by kernel_rfl) (fun w342 hu343 => ?_)))
   have h344 := h334.call hu343
   refine Vl [(0, sV pA0 t330 pc0), (1, iA p1), (10, iA t331), (11, iA t332), (112, tB t341)] (Vl [(0, sV pA0 t330 pc0), (1, iA p1), (10, iA t331), (11, iA t332), (112, tB t341)] ?_)
   exact hj353 t341 w342 h (h344.pk [0])
  ·refine AnyE.fix 102 false hc337 (by kernel_rfl) (by kernel_rfl) (AnyE.no 4 103 (by kernel_rfl) hS335 (AnyE.no 5 104 (by kernel_rfl) hS335 (AnyE.no 6 105 (by kernel_rfl) hS335 (AnyE.no 7 106 (by kernel_rfl) hS335 (AnyE.no 8 107 (by kernel_rfl) hS335 (AnyE.no 9 108 (by kernel_rfl) hS335 (AnyE.no 10 109 (by kernel_rfl) hS335 (AnyE.no 11 110 (by kernel_rfl) hS335 (AnyE.no 12 111 (by kernel_rfl) hS335 (Wu 13 112 (tB false) hS335 (AnyE.done (by kernel_rfl) (fun w345 hu346 => ?_))))))))))))
   have h347 := h334.call hu346
   refine Vl [(0, sV pA0 t330 pc0), (1, iA p1), (10, iA t331), (11, iA t332), (112, tB false)] (Vl [(0, sV pA0 t330 pc0), (1, iA p1), (10, iA t331), (11, iA t332), (112, tB false)] ?_)
   exact hj353 false w345 h (h347.pk [0])
def slices_partitionOrdered_uint16_133.l3 (K : Nat) (p0 : List Int) (p1 : Int) (p2 : Int) (p3 : Int) (t361 : List Int) (t362 : Int) : Nat → Int → Option Int
 | 0, _ => none
 | k + 1, t363 => Let (fun (t379 : Bool) => cond t379 (slices_partitionOrdered_uint16_133.l3 K p0 p1 p2 p3 t361 t362 k (IntKind.wrap .i64 (t363 - 1))) (some t363)) (fun j382 => cond (decide (t362 ≤ t363)) (cond (inR t363 t361.length) (cond (inR p1 t361.length) ((cmp_Less_uint16_131.f K (rdD t361 t363) (rdD t361 p1)).bind fun t372 => j382 (!t372)) none) none) (j382 false))
theorem slices_partitionOrdered_uint16_133.l3_ok (K : Nat) (M0 : Nat → Prop) (w0 : World) (pA0 : Option Addr) (pc0 : Nat) (p0 : List Int) (p1 : Int) (p2 : Int) (p3 : Int) (t361 : List Int) (t362 : Int) (R : Ending → World → Prop) (x : Int) (hk0 : ∀ (t386 : Int) (w1 : World), x = t386 → Holds M0 w0 w1 [own rC 23 (sV pA0 t361 pc0) t361] → RunsI F133 [.c 70, .blk 5, .lp 47, .blk 4, .c 81] [(0, sV pA0 t361 pc0), (1, iA p1), (10, iA t362), (11, iA t386)] w1 R) :
  ∀ (k : Nat) (t363 : Int) (w : World), slices_partitionOrdered_uint16_133.l3 K p0 p1 p2 p3 t361 t362 k t363 = some x → Holds M0 w0 w [own rC 23 (sV pA0 t361 pc0) t361] → RunsI F133 [.c 62, .lp 62, .blk 8, .c 70, .blk 5, .lp 47, .blk 4, .c 81] [(0, sV pA0 t361 pc0), (1, iA p1), (10, iA t362), (11, iA t363)] w R := by
 intro k
 induction k with
 | zero => intro t363 w h hH; exact absurd h (by simp [slices_partitionOrdered_uint16_133.l3])
 | succ k ih =>
  intro t363 w h hH
  rw [slices_partitionOrdered_uint16_133.l3.eq_2] at h
  refine Xg 1 [.c 63, .c 68, .lp 62, .blk 8, .c 70, .blk 5, .lp 47, .blk 4, .c 81] (Xg 1 [.c 64, .c 65, .c 68, .lp 62, .blk 8, .c 70, .blk 5, .lp 47, .blk 4, .c 81] (RunsI.any 15 (by kernel_rfl) (by kernel_rfl) (by kernel_rfl) (Kp ([] : List Nat) (World.drew w)) ?_))
  have h365 := hH.drew
  generalize World.drew w = w364 at h365 ⊢
  have hS366 := Kp.refl ([] : List Nat) w364
  refine Wu 0 115 (iA t362) hS366 (Wu 1 116 (iA t363) hS366 (Wu 2 117 (tB (decide (t362 ≤ t363))) hS366 (Wu 3 118 (tB (decide (t362 ≤ t363))) hS366 ?_)))
  obtain ⟨j382, hJ383, h⟩ := of_let h
  have hj384 : ∀ (t379 : Bool) (w381 : World), j382 t379 = some x → Holds M0 w0 w381 [own rC 23 (sV pA0 t361 pc0) t361] → RunsI F133 [.c 65, .c 68, .lp 62, .blk 8, .c 70, .blk 5, .lp 47, .blk 4, .c 81] [(0, sV pA0 t361 pc0), (1, iA p1), (10, iA t362), (11, iA t363), (129, tB t379)] w381 R := by
   intro t379 w381 h h380
   rw [hJ383] at h
   clear hJ383
   dsimp only at h
   refine Vc 129 66 67 h (fun hc385 h => ?_) fun hc385 h => ?_
   ·refine Xg 1 [.c 68, .lp 62, .blk 8, .c 70, .blk 5, .lp 47, .blk 4, .c 81] (Xd 1 69 [.blk 9, .lp 62, .blk 8, .c 70, .blk 5, .lp 47, .blk 4, .c 81] 3 [(0, sV pA0 t361 pc0), (1, iA p1), (10, iA t362), (11, iA (wA (t363 - 1)))] (Xg 2 [.c 62, .lp 62, .blk 8, .c 70, .blk 5, .lp 47, .blk 4, .c 81] (Vl [(0, sV pA0 t361 pc0), (1, iA p1), (10, iA t362), (11, iA (wA (t363 - 1)))] ?_)))
    exact ih (wA (t363 - 1)) w381 h (h380.pk [0])
   ·refine Xg 1 [.c 70, .blk 5, .lp 47, .blk 4, .c 81] (Vl [(0, sV pA0 t361 pc0), (1, iA p1), (10, iA t362), (11, iA t363)] ?_)
    exact hk0 t363 w381 (sI h).symm (h380.pk [0])
  clear hJ383
  rcases oc h with ⟨hc368, h⟩ | ⟨hc368, h⟩
  ·refine AnyE.fix 118 true hc368 (by kernel_rfl) (by kernel_rfl) (Wu 4 119 (sV pA0 t361 pc0) hS366 (Wu 5 120 (iA t363) hS366 ?_))
   have ⟨hc369, h⟩ := oz h
   refine AnyE.idxOwnA 6 121 0 29 23 t363 h365 (by kernel_rfl) hS366 rfl (by kernel_rfl) (by kernel_rfl) hc369 (AnyE.loadOwnA 7 122 0 23 23 t363 0 (iC (rdD t361 t363)) [] (o := (Int.toNat t363) * 1 + 0) h365 rfl (by kernel_rfl) hS366 rfl rfl (by kernel_rfl) rfl hc369 (fun _ _ hk => by obtain rfl := hk; kernel_rfl) (Wu 8 123 (sV pA0 t361 pc0) hS366 (Wu 9 124 (iA p1) hS366 ?_)))
   have ⟨hc370, h⟩ := oz h
   refine AnyE.idxOwnA 10 125 0 29 23 p1 h365 (by kernel_rfl) hS366 rfl (by kernel_rfl) (by kernel_rfl) hc370 (AnyE.loadOwnA 11 126 0 23 23 p1 0 (iC (rdD t361 p1)) [] (o := (Int.toNat p1) * 1 + 0) h365 rfl (by kernel_rfl) hS366 rfl rfl (by kernel_rfl) rfl hc370 (fun _ _ hk => by obtain rfl := hk; kernel_rfl) ?_)
   obtain ⟨t372, hg371, h⟩ := of_bind h
   refine Wc 12 127 (tB t372) 131 #[iC (rdD t361 t363), iC (rdD t361 p1)] hS366 (fun w hk => cmp_Less_uint16_131_ok K (fun _ => False) w (rdD t361 t363) (rdD t361 p1) nF hg371) (Wu 13 128 (tB (!t372)) hS366 (Wu 14 129 (tB (!t372)) hS366 (AnyE.done (by kernel_rfl) (fun w373 hu374 => ?_))))
   have h375 := h365.call hu374
   refine Vl [(0, sV pA0 t361 pc0), (1, iA p1), (10, iA t362), (11, iA t363), (129, tB (!t372))] (Vl [(0, sV pA0 t361 pc0), (1, iA p1), (10, iA t362), (11, iA t363), (129, tB (!t372))] ?_)
   exact hj384 (!t372) w373 h (h375.pk [0])
  ·refine AnyE.fix 118 false hc368 (by kernel_rfl) (by kernel_rfl) (AnyE.no 4 119 (by kernel_rfl) hS366 (AnyE.no 5 120 (by kernel_rfl) hS366 (AnyE.no 6 121 (by kernel_rfl) hS366 (AnyE.no 7 122 (by kernel_rfl) hS366 (AnyE.no 8 123 (by kernel_rfl) hS366 (AnyE.no 9 124 (by kernel_rfl) hS366 (AnyE.no 10 125 (by kernel_rfl) hS366 (AnyE.no 11 126 (by kernel_rfl) hS366 (AnyE.no 12 127 (by kernel_rfl) hS366 (AnyE.no 13 128 (by kernel_rfl) hS366 (Wu 14 129 (tB false) hS366 ?_)))))))))))
   refine AnyE.done (by kernel_rfl) (fun w376 hu377 => ?_)
   have h378 := h365.call hu377
   refine Vl [(0, sV pA0 t361 pc0), (1, iA p1), (10, iA t362), (11, iA t363), (129, tB false)] (Vl [(0, sV pA0 t361 pc0), (1, iA p1), (10, iA t362), (11, iA t363), (129, tB false)] ?_)
   exact hj384 false w376 h (h378.pk [0])
def slices_partitionOrdered_uint16_133.l4 (K : Nat) (p0 : List Int) (p1 : Int) (p2 : Int) (p3 : Int) : Nat → (List Int) → Int → Int → Option ((List Int) × Int)
 | 0, _, _, _ => none
 | k + 1, t327, t328, t329 => (slices_partitionOrdered_uint16_133.l2 K p0 p1 p2 p3 t327 t329 K t328).bind (fun t358 => (slices_partitionOrdered_uint16_133.l3 K p0 p1 p2 p3 t327 t358 K t329).bind (fun t389 => cond (decide (t358 > t389)) (some (t327, t389)) (cond (inR t389 t327.length) (cond (inR t358 t327.length) (cond (inR t389 (stD t327 t358 (rdD t327 t389)).length) (slices_partitionOrdered_uint16_133.l4 K p0 p1 p2 p3 k (stD (stD t327 t358 (rdD t327 t389)) t389 (rdD t327 t358)) (IntKind.wrap .i64 (t358 + 1)) (IntKind.wrap .i64 (t389 - 1))) none) none) none)))
theorem slices_partitionOrdered_uint16_133.l4_ok (K : Nat) (M0 : Nat → Prop) (w0 : World) (pA0 : Option Addr) (pc0 : Nat) (p0 : List Int) (p1 : Int) (p2 : Int) (p3 : Int) (R : Ending → World → Prop) (x : (List Int) × Int) (hk0 : ∀ (t479 : List Int) (t480 : Int) (w1 : World), x = (t479, t480) → Holds M0 w0 w1 [own rC 23 (sV pA0 t479 pc0) t479] → RunsI F133 [.c 81] [(0, sV pA0 t479 pc0), (1, iA p1), (11, iA t480)] w1 R) :
  ∀ (k : Nat) (t327 : List Int) (t328 : Int) (t329 : Int) (w : World), slices_partitionOrdered_uint16_133.l4 K p0 p1 p2 p3 k t327 t328 t329 = some x → Holds M0 w0 w [own rC 23 (sV pA0 t327 pc0) t327] → RunsI F133 [.c 47, .lp 47, .blk 4, .c 81] [(0, sV pA0 t327 pc0), (1, iA p1), (10, iA t328), (11, iA t329)] w R := by
 intro k
 induction k with
 | zero => intro t327 t328 t329 w h hH; exact absurd h (by simp [slices_partitionOrdered_uint16_133.l4])
 | succ k ih =>
  intro t327 t328 t329 w h hH
  rw [slices_partitionOrdered_uint16_133.l4.eq_2] at h
  refine Xg 1 [.c 48, .blk 5, .lp 47, .blk 4, .c 81] (Xg 3 [.c 51, .lp 51, .blk 6, .c 59, .blk 5, .lp 47, .blk 4, .c 81] ?_)
  obtain ⟨x356, hx357, h⟩ := of_bind h
  refine Vl [(0, sV pA0 t327 pc0), (1, iA p1), (10, iA t328), (11, iA t329)] (slices_partitionOrdered_uint16_133.l2_ok K M0 w0 pA0 pc0 p0 p1 p2 p3 t327 t329 _ x356 ?_ K t328 w hx357 (hH.pk [0]))
  ·intro t358 w360 hq571 h359
   (try rw [hq571] at h)
   refine Xg 3 [.c 62, .lp 62, .blk 8, .c 70, .blk 5, .lp 47, .blk 4, .c 81] ?_
   obtain ⟨x387, hx388, h⟩ := of_bind h
   refine Vl [(0, sV pA0 t327 pc0), (1, iA p1), (10, iA t358), (11, iA t329)] (slices_partitionOrdered_uint16_133.l3_ok K M0 w0 pA0 pc0 p0 p1 p2 p3 t327 t358 _ x387 ?_ K t329 w360 hx388 (h359.pk [0]))
   ·intro t389 w391 hq572 h390
    (try rw [hq572] at h)
    refine Xd 2 72 [.c 73, .c 76, .blk 5, .lp 47, .blk 4, .c 81] 3 [(0, sV pA0 t327 pc0), (1, iA p1), (10, iA t358), (11, iA t389), (134, tB (decide (t358 > t389)))] (Vc 134 74 75 h (fun hc392 h => ?_) fun hc392 h => ?_)
    ·refine Xg 1 [.c 81] (Vl [(0, sV pA0 t327 pc0), (1, iA p1), (11, iA t389)] ?_)
     exact hk0 t327 t389 w391 (sI h).symm (h390.pk [0])
    ·refine Xg 1 [.c 76, .blk 5, .lp 47, .blk 4, .c 81] (Xg 1 [.c 77, .c 78, .blk 5, .lp 47, .blk 4, .c 81] (RunsI.any 16 (by kernel_rfl) (by kernel_rfl) (by kernel_rfl) (Kp (mines (pick [own rC 23 (sV pA0 t327 pc0) t327] [0])) (World.drew w391)) ?_))
     have h394 := h390.drew
     generalize World.drew w391 = w393 at h394 ⊢
     have hS395 := Kp.refl (mines (pick [own rC 23 (sV pA0 t327 pc0) t327] [0])) w393
     refine Wu 0 135 (sV pA0 t327 pc0) hS395 (Wu 1 136 (iA t358) hS395 (Wu 2 137 (sV pA0 t327 pc0) hS395 (Wu 3 138 (iA t389) hS395 (Wu 4 139 (sV pA0 t327 pc0) hS395 (Wu 5 140 (iA t389) hS395 ?_)))))
     have ⟨hc397, h⟩ := oz h
     refine AnyE.idxOwnA 6 141 0 29 23 t389 h394 (by kernel_rfl) hS395 rfl (by kernel_rfl) (by kernel_rfl) hc397 (Wu 8 143 (sV pA0 t327 pc0) hS395 (Wu 9 144 (iA t358) hS395 ?_))
     have ⟨hc398, h⟩ := oz h
     refine AnyE.idxOwnA 10 145 0 29 23 t358 h394 (by kernel_rfl) hS395 rfl (by kernel_rfl) (by kernel_rfl) hc398 (AnyE.two 7 11 (by kernel_rfl) ?_ ?_)
     ·intro w399 hu400
      have h401 := h394.call hu400
      have hS402 := hS395.up hu400
      refine OpE.loadOwnA 142 0 23 23 t389 0 (o := (Int.toNat t389) * 1 + 0) h401 (by kernel_rfl) rfl (by kernel_rfl) (by kernel_rfl) hc397 (fun cs403 hk404 => ?_)
      obtain rfl := hk404
      refine ⟨iC (rdD t327 t389), by kernel_rfl, ?_⟩
      refine ⟨hS402, ?_⟩
      refine AnyE.one 11 (by kernel_rfl) (fun w406 hu407 => ?_)
      have h408 := h401.call hu407
      have hS409 := hS402.up hu407
      refine OpE.loadOwnA 146 0 23 23 t358 0 (o := (Int.toNat t358) * 1 + 0) h408 (by kernel_rfl) rfl (by kernel_rfl) (by kernel_rfl) hc398 (fun cs410 hk411 => ?_)
      obtain rfl := hk411
      refine ⟨iC (rdD t327 t358), by kernel_rfl, ?_⟩
      refine ⟨hS409, ?_⟩
      refine AnyE.idxOwnA 12 147 0 29 23 t358 h394 (by kernel_rfl) hS409 rfl (by kernel_rfl) (by kernel_rfl) hc398 (AnyE.one 13 (by kernel_rfl) (fun w413 hu414 => ?_))
      have h415 := h408.call hu414
      have hS416 := hS409.up hu414
      refine OpE.storeOwnA 0 23 23 t358 0 (iC (rdD t327 t389)) (o := (Int.toNat t358) * 1 + 0) (rdD t327 t389) h415 (by kernel_rfl) (by kernel_rfl) rfl (by kernel_rfl) (by kernel_rfl) (by kernel_rfl) hc398 (fun _ hk => by obtain rfl := hk; exact rfl) ?_
      intro w417 h418 hk419
      have hS420 := hS416.trans hk419 (Kp.turned h394 [0] rfl 0 rfl rfl)
      refine ⟨hS420, ?_⟩
      refine AnyE.one 14 (by kernel_rfl) (fun w421 hu422 => ?_)
      have h423 := h418.call hu422
      have hS424 := hS420.up hu422
      have ⟨hc425, h⟩ := oz h
      refine OpE.idxOwnA 148 0 29 23 t389 h423 (by kernel_rfl) rfl (by kernel_rfl) (by kernel_rfl) hc425 (⟨hS424, ?_⟩)
      refine AnyE.last 15 (by kernel_rfl) (by kernel_rfl) (fun w427 hu428 => ?_)
      have h429 := h423.call hu428
      have hS430 := hS424.up hu428
      refine OpE.storeOwnA 0 23 23 t389 0 (iC (rdD t327 t358)) (o := (Int.toNat t389) * 1 + 0) (rdD t327 t358) h429 (by kernel_rfl) (by kernel_rfl) rfl (by kernel_rfl) (by kernel_rfl) (by kernel_rfl) hc425 (fun _ hk => by obtain rfl := hk; exact rfl) ?_
      intro w431 h432 hk433
      refine AnyE.done (by kernel_rfl) (fun w435 hu436 => ?_)
      have h437 := h432.call hu436
      refine Vl [(0, sV pA0 t327 pc0), (1, iA p1), (10, iA t358), (11, iA t389)] (Ze 1 79 [.c 80, .blk 5, .lp 47, .blk 4, .c 81] 3 [0, 1, 10, 11] [(10, iA (wA (t358 + 1)))] (Xr (Zd 3 [0, 1, 10, 11] [(11, iA (wA (t389 - 1)))] (Xg 2 [.c 47, .lp 47, .blk 4, .c 81] (Vl [(0, sV pA0 t327 pc0), (1, iA p1), (10, iA (wA (t358 + 1))), (11, iA (wA (t389 - 1)))] ?_)))))
      have h477 : Holds M0 w0 w435 [own rC 23 (sV pA0 (sD t327 t358 t389) pc0) (sD t327 t358 t389)] := by have hY : Holds M0 w0 w435 [own rC 23 (sV pA0 t327 pc0) (sD t327 t358 t389)] := h437; simpa only [sV, sD, stD_length] using hY
      refine RunsI.is [(0, sV pA0 (sD t327 t358 t389) pc0), (1, iA p1), (10, iA (wA (t358 + 1))), (11, iA (wA (t389 - 1)))] (by simp only [sV, sD, stD_length]) (Vl [(0, sV pA0 (sD t327 t358 t389) pc0), (1, iA p1), (10, iA (wA (t358 + 1))), (11, iA (wA (t389 - 1)))] ?_)
      exact ih (sD t327 t358 t389) (wA (t358 + 1)) (wA (t389 - 1)) w435 h (h477.pk [0])
     ·intro w438 hu439
      have h440 := h394.call hu439
      have hS441 := hS395.up hu439
      refine OpE.loadOwnA 146 0 23 23 t358 0 (o := (Int.toNat t358) * 1 + 0) h440 (by kernel_rfl) rfl (by kernel_rfl) (by kernel_rfl) hc398 (fun cs442 hk443 => ?_)
      obtain rfl := hk443
      refine ⟨iC (rdD t327 t358), by kernel_rfl, ?_⟩
      refine ⟨hS441, ?_⟩
      refine AnyE.one 7 (by kernel_rfl) (fun w445 hu446 => ?_)
      have h447 := h440.call hu446
      have hS448 := hS441.up hu446
      refine OpE.loadOwnA 142 0 23 23 t389 0 (o := (Int.toNat t389) * 1 + 0) h447 (by kernel_rfl) rfl (by kernel_rfl) (by kernel_rfl) hc397 (fun cs449 hk450 => ?_)
      obtain rfl := hk450
      refine ⟨iC (rdD t327 t389), by kernel_rfl, ?_⟩
      refine ⟨hS448, ?_⟩
      refine AnyE.idxOwnA 12 147 0 29 23 t358 h394 (by kernel_rfl) hS448 rfl (by kernel_rfl) (by kernel_rfl) hc398 (AnyE.one 13 (by kernel_rfl) (fun w452 hu453 => ?_))
      have h454 := h447.call hu453
      have hS455 := hS448.up hu453
      refine OpE.storeOwnA 0 23 23 t358 0 (iC (rdD t327 t389)) (o := (Int.toNat t358) * 1 + 0) (rdD t327 t389) h454 (by kernel_rfl) (by kernel_rfl) rfl (by kernel_rfl) (by kernel_rfl) (by kernel_rfl) hc398 (fun _ hk => by obtain rfl := hk; exact rfl) ?_
      intro w456 h457 hk458
      have hS459 := hS455.trans hk458 (Kp.turned h394 [0] rfl 0 rfl rfl)
      refine ⟨hS459, ?_⟩
      refine AnyE.one 14 (by kernel_rfl) (fun w460 hu461 => ?_)
      have h462 := h457.call hu461
      have hS463 := hS459.up hu461
      have ⟨hc464, h⟩ := oz h
      refine OpE.idxOwnA 148 0 29 23 t389 h462 (by kernel_rfl) rfl (by kernel_rfl) (by kernel_rfl) hc464 (⟨hS463, ?_⟩)
      refine AnyE.last 15 (by kernel_rfl) (by kernel_rfl) (fun w466 hu467 => ?_)
      have h468 := h462.call hu467
      have hS469 := hS463.up hu467
      refine OpE.storeOwnA 0 23 23 t389 0 (iC (rdD t327 t358)) (o := (Int.toNat t389) * 1 + 0) (rdD t327 t358) h468 (by kernel_rfl) (by kernel_rfl) rfl (by kernel_rfl) (by kernel_rfl) (by kernel_rfl) hc464 (fun _ hk => by obtain rfl := hk; exact rfl) ?_
      intro w470 h471 hk472
      refine AnyE.done (by kernel_rfl) (fun w474 hu475 => ?_)
      have h476 := h471.call hu475
      refine Vl [(0, sV pA0 t327 pc0), (1, iA p1), (10, iA t358), (11, iA t389)] (Ze 1 79 [.c 80, .blk 5, .lp 47, .blk 4, .c 81] 3 [0, 1, 10, 11] [(10, iA (wA (t358 + 1)))] (Xr (Zd 3 [0, 1, 10, 11] [(11, iA (wA (t389 - 1)))] (Xg 2 [.c 47, .lp 47, .blk 4, .c 81] (Vl [(0, sV pA0 t327 pc0), (1, iA p1), (10, iA (wA (t358 + 1))), (11, iA (wA (t389 - 1)))] ?_)))))
      have h478 : Holds M0 w0 w474 [own rC 23 (sV pA0 (sD t327 t358 t389) pc0) (sD t327 t358 t389)] := by have hY : Holds M0 w0 w474 [own rC 23 (sV pA0 t327 pc0) (sD t327 t358 t389)] := h476; simpa only [sV, sD, stD_length] using hY
      refine RunsI.is [(0, sV pA0 (sD t327 t358 t389) pc0), (1, iA p1), (10, iA (wA (t358 + 1))), (11, iA (wA (t389 - 1)))] (by simp only [sV, sD, stD_length]) (Vl [(0, sV pA0 (sD t327 t358 t389) pc0), (1, iA p1), (10, iA (wA (t358 + 1))), (11, iA (wA (t389 - 1)))] ?_)
      exact ih (sD t327 t358 t389) (wA (t358 + 1)) (wA (t389 - 1)) w474 h (h478.pk [0])
def slices_partitionOrdered_uint16_133.f (K : Nat) (p0 : List Int) (p1 : Int) (p2 : Int) (p3 : Int) : Option (List Int × Int × Bool) := cond (inR p3 p0.length) (cond (inR p1 p0.length) (Let (fun (_ : Unit) => (slices_partitionOrdered_uint16_133.l0 K p0 p1 p2 p3 K (IntKind.wrap .i64 (p1 + 1))).bind (fun t118 => (slices_partitionOrdered_uint16_133.l1 K p0 p1 p2 p3 t118 K (IntKind.wrap .i64 (p2 - 1))).bind (fun t148 => cond (decide (t118 > t148)) (cond (inR p1 (stD (stD p0 p1 (rdD p0 p3)) p3 (rdD p0 p1)).length) (cond (inR t148 (stD (stD p0 p1 (rdD p0 p3)) p3 (rdD p0 p1)).length) (cond (inR p1 (stD (stD (stD p0 p1 (rdD p0 p3)) p3 (rdD p0 p1)) t148 (rdD (stD (stD p0 p1 (rdD p0 p3)) p3 (rdD p0 p1)) p1)).length) (some ((stD (stD (stD (stD p0 p1 (rdD p0 p3)) p3 (rdD p0 p1)) t148 (rdD (stD (stD p0 p1 (rdD p0 p3)) p3 (rdD p0 p1)) p1)) p1 (rdD (stD (stD p0 p1 (rdD p0 p3)) p3 (rdD p0 p1)) t148)), t148, true)) none) none) none) (cond (inR t148 (stD (stD p0 p1 (rdD p0 p3)) p3 (rdD p0 p1)).length) (cond (inR t118 (stD (stD p0 p1 (rdD p0 p3)) p3 (rdD p0 p1)).length) (Let (fun (_ : Unit) => (slices_partitionOrdered_uint16_133.l4 K p0 p1 p2 p3 K (stD (stD (stD (stD p0 p1 (rdD p0 p3)) p3 (rdD p0 p1)) t118 (rdD (stD (stD p0 p1 (rdD p0 p3)) p3 (rdD p0 p1)) t148)) t148 (rdD (stD (stD p0 p1 (rdD p0 p3)) p3 (rdD p0 p1)) t118)) (IntKind.wrap .i64 (t118 + 1)) (IntKind.wrap .i64 (t148 - 1))).bind (fun yx481 => cond (inR p1 yx481.1.length) (cond (inR yx481.2 yx481.1.length) (cond (inR p1 (stD yx481.1 yx481.2 (rdD yx481.1 p1)).length) (some ((stD (stD yx481.1 yx481.2 (rdD yx481.1 p1)) p1 (rdD yx481.1 yx481.2)), yx481.2, false)) none) none) none)) (fun j324 => cond (inR t148 (stD (stD (stD p0 p1 (rdD p0 p3)) p3 (rdD p0 p1)) t118 (rdD (stD (stD p0 p1 (rdD p0 p3)) p3 (rdD p0 p1)) t148)).length) (j324 ()) none)) none) none)))) (fun j89 => cond (inR p3 (stD p0 p1 (rdD p0 p3)).length) (j89 ()) none)) none) none
theorem slices_partitionOrdered_uint16_133_ok (K : Nat) (M0 : Nat → Prop) (w0 : World) (pA0 : Option Addr) (pc0 : Nat) (p0 : List Int) (p1 : Int) (p2 : Int) (p3 : Int) {wS : World} (h0 : Holds M0 w0 wS [own rC 23 (sV pA0 p0 pc0) p0]) {r : List Int × Int × Bool} (h : slices_partitionOrdered_uint16_133.f K p0 p1 p2 p3 = some r) :
  Calls Tryz.prog 133 #[sV pA0 p0 pc0, iA p1, iA p2, iA p3] wS (slices_partitionOrdered_uint16_133.post pA0 pc0 M0 w0 r) := by
 unfold slices_partitionOrdered_uint16_133.f at h
 refine calls_of F133 rfl [sV pA0 p0 pc0, iA p1, iA p2, iA p3] (by kernel_rfl) (Xd 1 1 [.c 2] 2 [(0, sV pA0 p0 pc0), (1, iA p1), (2, iA p2), (3, iA p3)] (Xg 1 [.c 3, .c 4] (RunsI.any 16 (by kernel_rfl) (by kernel_rfl) (by kernel_rfl) (Kp (mines (pick [own rC 23 (sV pA0 p0 pc0) p0] [0])) (World.drew wS)) ?_)))
 have h2 := h0.drew
 generalize World.drew wS = w1 at h2 ⊢
 have hS3 := Kp.refl (mines (pick [own rC 23 (sV pA0 p0 pc0) p0] [0])) w1
 refine Wu 0 12 (sV pA0 p0 pc0) hS3 (Wu 1 13 (iA p1) hS3 (Wu 2 14 (sV pA0 p0 pc0) hS3 (Wu 3 15 (iA p3) hS3 (Wu 4 16 (sV pA0 p0 pc0) hS3 (Wu 5 17 (iA p3) hS3 ?_)))))
 have ⟨hc5, h⟩ := oz h
 refine AnyE.idxOwnA 6 18 0 29 23 p3 h2 (by kernel_rfl) hS3 rfl (by kernel_rfl) (by kernel_rfl) hc5 (Wu 8 20 (sV pA0 p0 pc0) hS3 (Wu 9 21 (iA p1) hS3 ?_))
 have ⟨hc6, h⟩ := oz h
 refine AnyE.idxOwnA 10 22 0 29 23 p1 h2 (by kernel_rfl) hS3 rfl (by kernel_rfl) (by kernel_rfl) hc6 ?_
 obtain ⟨j89, hJ90, h⟩ := of_let h
 have hj91 : ∀ (w88 : World), j89 () = some r → Holds M0 w0 w88 [own rC 23 (sV pA0 (sD p0 p1 p3) pc0) (sD p0 p1 p3)] → RunsI F133 [.c 4] [(0, sV pA0 (sD p0 p1 p3) pc0), (1, iA p1), (2, iA p2)] w88 (slices_partitionOrdered_uint16_133.post pA0 pc0 M0 w0 r) := by
  intro w88 h h87
  rw [hJ90] at h
  clear hJ90
  dsimp only at h
  refine Xd 1 5 [.c 6] 6 [(0, sV pA0 (sD p0 p1 p3) pc0), (1, iA p1), (10, iA (wA (p1 + 1))), (11, iA (wA (p2 - 1)))] (Xg 3 [.c 9, .lp 9, .blk 0, .c 17] ?_)
  obtain ⟨x116, hx117, h⟩ := of_bind h
  refine Vl [(0, sV pA0 (sD p0 p1 p3) pc0), (1, iA p1), (10, iA (wA (p1 + 1))), (11, iA (wA (p2 - 1)))] (slices_partitionOrdered_uint16_133.l0_ok K M0 w0 pA0 pc0 p0 p1 p2 p3 _ x116 ?_ K (wA (p1 + 1)) w88 hx117 (h87.pk [0]))
  ·intro t118 w120 hq573 h119
   (try rw [hq573] at h)
   refine Xg 3 [.c 20, .lp 20, .blk 2, .c 28] ?_
   obtain ⟨x146, hx147, h⟩ := of_bind h
   refine Vl [(0, sV pA0 (sD p0 p1 p3) pc0), (1, iA p1), (10, iA t118), (11, iA (wA (p2 - 1)))] (slices_partitionOrdered_uint16_133.l1_ok K M0 w0 pA0 pc0 p0 p1 p2 p3 t118 _ x146 ?_ K (wA (p2 - 1)) w120 hx147 (h119.pk [0]))
   ·intro t148 w150 hq574 h149
    (try rw [hq574] at h)
    refine Xd 2 30 [.c 31, .c 38] 3 [(0, sV pA0 (sD p0 p1 p3) pc0), (1, iA p1), (10, iA t118), (11, iA t148), (65, tB (decide (t118 > t148)))] (Vc 65 32 37 h (fun hc151 h => ?_) fun hc151 h => ?_)
    ·refine Xg 1 [.c 33, .c 34, .c 38] (RunsI.any 16 (by kernel_rfl) (by kernel_rfl) (by kernel_rfl) (Kp (mines (pick [own rC 23 (sV pA0 (sD p0 p1 p3) pc0) (sD p0 p1 p3)] [0])) (World.drew w150)) ?_)
     have h153 := h149.drew
     generalize World.drew w150 = w152 at h153 ⊢
     have hS154 := Kp.refl (mines (pick [own rC 23 (sV pA0 (sD p0 p1 p3) pc0) (sD p0 p1 p3)] [0])) w152
     refine Wu 0 66 (sV pA0 (sD p0 p1 p3) pc0) hS154 (Wu 1 67 (iA t148) hS154 (Wu 2 68 (sV pA0 (sD p0 p1 p3) pc0) hS154 (Wu 3 69 (iA p1) hS154 (Wu 4 70 (sV pA0 (sD p0 p1 p3) pc0) hS154 (Wu 5 71 (iA p1) hS154 ?_)))))
     have ⟨hc156, h⟩ := oz h
     refine AnyE.idxOwnA 6 72 0 29 23 p1 h153 (by kernel_rfl) hS154 rfl (by kernel_rfl) (by kernel_rfl) hc156 (Wu 8 74 (sV pA0 (sD p0 p1 p3) pc0) hS154 (Wu 9 75 (iA t148) hS154 ?_))
     have ⟨hc157, h⟩ := oz h
     refine AnyE.idxOwnA 10 76 0 29 23 t148 h153 (by kernel_rfl) hS154 rfl (by kernel_rfl) (by kernel_rfl) hc157 (AnyE.two 7 11 (by kernel_rfl) ?_ ?_)
     ·intro w158 hu159
      have h160 := h153.call hu159
      have hS161 := hS154.up hu159
      refine OpE.loadOwnA 73 0 23 23 p1 0 (o := (Int.toNat p1) * 1 + 0) h160 (by kernel_rfl) rfl (by kernel_rfl) (by kernel_rfl) hc156 (fun cs162 hk163 => ?_)
      obtain rfl := hk163
      refine ⟨iC (rdD (sD p0 p1 p3) p1), by kernel_rfl, ?_⟩
      refine ⟨hS161, ?_⟩
      refine AnyE.one 11 (by kernel_rfl) (fun w165 hu166 => ?_)
      have h167 := h160.call hu166
      have hS168 := hS161.up hu166
      refine OpE.loadOwnA 77 0 23 23 t148 0 (o := (Int.toNat t148) * 1 + 0) h167 (by kernel_rfl) rfl (by kernel_rfl) (by kernel_rfl) hc157 (fun cs169 hk170 => ?_)
      obtain rfl := hk170
      refine ⟨iC (rdD (sD p0 p1 p3) t148), by kernel_rfl, ?_⟩
      refine ⟨hS168, ?_⟩
      refine AnyE.idxOwnA 12 78 0 29 23 t148 h153 (by kernel_rfl) hS168 rfl (by kernel_rfl) (by kernel_rfl) hc157 (AnyE.one 13 (by kernel_rfl) (fun w172 hu173 => ?_))
      have h174 := h167.call hu173
      have hS175 := hS168.up hu173
      refine OpE.storeOwnA 0 23 23 t148 0 (iC (rdD (sD p0 p1 p3) p1)) (o := (Int.toNat t148) * 1 + 0) (rdD (sD p0 p1 p3) p1) h174 (by kernel_rfl) (by kernel_rfl) rfl (by kernel_rfl) (by kernel_rfl) (by kernel_rfl) hc157 (fun _ hk => by obtain rfl := hk; exact rfl) ?_
      intro w176 h177 hk178
      have hS179 := hS175.trans hk178 (Kp.turned h153 [0] rfl 0 rfl rfl)
      refine ⟨hS179, ?_⟩
      refine AnyE.one 14 (by kernel_rfl) (fun w180 hu181 => ?_)
      have h182 := h177.call hu181
      have hS183 := hS179.up hu181
      have ⟨hc184, h⟩ := oz h
      refine OpE.idxOwnA 79 0 29 23 p1 h182 (by kernel_rfl) rfl (by kernel_rfl) (by kernel_rfl) hc184 (⟨hS183, ?_⟩)
      refine AnyE.last 15 (by kernel_rfl) (by kernel_rfl) (fun w186 hu187 => ?_)
      have h188 := h182.call hu187
      have hS189 := hS183.up hu187
      refine OpE.storeOwnA 0 23 23 p1 0 (iC (rdD (sD p0 p1 p3) t148)) (o := (Int.toNat p1) * 1 + 0) (rdD (sD p0 p1 p3) t148) h188 (by kernel_rfl) (by kernel_rfl) rfl (by kernel_rfl) (by kernel_rfl) (by kernel_rfl) hc184 (fun _ hk => by obtain rfl := hk; exact rfl) ?_
      intro w190 h191 hk192
      refine AnyE.done (by kernel_rfl) (fun w194 hu195 => ?_)
      have h196 := h191.call hu195
      refine Vl [(11, iA t148)] (Xd 1 35 [.c 36, .c 38] 3 [(8, iA t148), (9, tB true)] (Xt (.tuple #[iA t148, tB true]) ?_))
      have h575 : Holds M0 w0 w194 [own rC 23 (sV pA0 (sD (sD p0 p1 p3) t148 p1) pc0) (sD (sD p0 p1 p3) t148 p1)] := by have hY : Holds M0 w0 w194 [own rC 23 (sV pA0 (sD p0 p1 p3) pc0) (sD (sD p0 p1 p3) t148 p1)] := h196; simpa only [sV, sD, stD_length] using hY
      obtain rfl := sI h
      exact ⟨rfl, h575⟩
     ·intro w197 hu198
      have h199 := h153.call hu198
      have hS200 := hS154.up hu198
      refine OpE.loadOwnA 77 0 23 23 t148 0 (o := (Int.toNat t148) * 1 + 0) h199 (by kernel_rfl) rfl (by kernel_rfl) (by kernel_rfl) hc157 (fun cs201 hk202 => ?_)
      obtain rfl := hk202
      refine ⟨iC (rdD (sD p0 p1 p3) t148), by kernel_rfl, ?_⟩
      refine ⟨hS200, ?_⟩
      refine AnyE.one 7 (by kernel_rfl) (fun w204 hu205 => ?_)
      have h206 := h199.call hu205
      have hS207 := hS200.up hu205
      refine OpE.loadOwnA 73 0 23 23 p1 0 (o := (Int.toNat p1) * 1 + 0) h206 (by kernel_rfl) rfl (by kernel_rfl) (by kernel_rfl) hc156 (fun cs208 hk209 => ?_)
      obtain rfl := hk209
      refine ⟨iC (rdD (sD p0 p1 p3) p1), by kernel_rfl, ?_⟩
      refine ⟨hS207, ?_⟩
      refine AnyE.idxOwnA 12 78 0 29 23 t148 h153 (by kernel_rfl) hS207 rfl (by kernel_rfl) (by kernel_rfl) hc157 (AnyE.one 13 (by kernel_rfl) (fun w211 hu212 => ?_))
      have h213 := h206.call hu212
      have hS214 := hS207.up hu212
      refine OpE.storeOwnA 0 23 23 t148 0 (iC (rdD (sD p0 p1 p3) p1)) (o := (Int.toNat t148) * 1 + 0) (rdD (sD p0 p1 p3) p1) h213 (by kernel_rfl) (by kernel_rfl) rfl (by kernel_rfl) (by kernel_rfl) (by kernel_rfl) hc157 (fun _ hk => by obtain rfl := hk; exact rfl) ?_
      intro w215 h216 hk217
      have hS218 := hS214.trans hk217 (Kp.turned h153 [0] rfl 0 rfl rfl)
      refine ⟨hS218, ?_⟩
      refine AnyE.one 14 (by kernel_rfl) (fun w219 hu220 => ?_)
      have h221 := h216.call hu220
      have hS222 := hS218.up hu220
      have ⟨hc223, h⟩ := oz h
      refine OpE.idxOwnA 79 0 29 23 p1 h221 (by kernel_rfl) rfl (by kernel_rfl) (by kernel_rfl) hc223 (⟨hS222, ?_⟩)
      refine AnyE.last 15 (by kernel_rfl) (by kernel_rfl) (fun w225 hu226 => ?_)
      have h227 := h221.call hu226
      have hS228 := hS222.up hu226
      refine OpE.storeOwnA 0 23 23 p1 0 (iC (rdD (sD p0 p1 p3) t148)) (o := (Int.toNat p1) * 1 + 0) (rdD (sD p0 p1 p3) t148) h227 (by kernel_rfl) (by kernel_rfl) rfl (by kernel_rfl) (by kernel_rfl) (by kernel_rfl) hc223 (fun _ hk => by obtain rfl := hk; exact rfl) ?_
      intro w229 h230 hk231
      refine AnyE.done (by kernel_rfl) (fun w233 hu234 => ?_)
      have h235 := h230.call hu234
      refine Vl [(11, iA t148)] (Xd 1 35 [.c 36, .c 38] 3 [(8, iA t148), (9, tB true)] (Xt (.tuple #[iA t148, tB true]) ?_))
      have h576 : Holds M0 w0 w233 [own rC 23 (sV pA0 (sD (sD p0 p1 p3) t148 p1) pc0) (sD (sD p0 p1 p3) t148 p1)] := by have hY : Holds M0 w0 w233 [own rC 23 (sV pA0 (sD p0 p1 p3) pc0) (sD (sD p0 p1 p3) t148 p1)] := h235; simpa only [sV, sD, stD_length] using hY
      obtain rfl := sI h
      exact ⟨rfl, h576⟩
    ·refine Xg 1 [.c 38] (Xg 1 [.c 39, .c 40] (RunsI.any 16 (by kernel_rfl) (by kernel_rfl) (by kernel_rfl) (Kp (mines (pick [own rC 23 (sV pA0 (sD p0 p1 p3) pc0) (sD p0 p1 p3)] [0])) (World.drew w150)) ?_))
     have h237 := h149.drew
     generalize World.drew w150 = w236 at h237 ⊢
     have hS238 := Kp.refl (mines (pick [own rC 23 (sV pA0 (sD p0 p1 p3) pc0) (sD p0 p1 p3)] [0])) w236
     refine Wu 0 81 (sV pA0 (sD p0 p1 p3) pc0) hS238 (Wu 1 82 (iA t118) hS238 (Wu 2 83 (sV pA0 (sD p0 p1 p3) pc0) hS238 (Wu 3 84 (iA t148) hS238 (Wu 4 85 (sV pA0 (sD p0 p1 p3) pc0) hS238 (Wu 5 86 (iA t148) hS238 ?_)))))
     have ⟨hc240, h⟩ := oz h
     refine AnyE.idxOwnA 6 87 0 29 23 t148 h237 (by kernel_rfl) hS238 rfl (by kernel_rfl) (by kernel_rfl) hc240 (Wu 8 89 (sV pA0 (sD p0 p1 p3) pc0) hS238 (Wu 9 90 (iA t118) hS238 ?_))
     have ⟨hc241, h⟩ := oz h
     refine AnyE.idxOwnA 10 91 0 29 23 t118 h237 (by kernel_rfl) hS238 rfl (by kernel_rfl) (by kernel_rfl) hc241 ?_
     obtain ⟨j324, hJ325, h⟩ := of_let h
     have hj326 : ∀ (w323 : World), j324 () = some r → Holds M0 w0 w323 [own rC 23 (sV pA0 (sD (sD p0 p1 p3) t118 t148) pc0) (sD (sD p0 p1 p3) t118 t148)] → RunsI F133 [.c 40] [(0, sV pA0 (sD (sD p0 p1 p3) t118 t148) pc0), (1, iA p1), (10, iA t118), (11, iA t148)] w323 (slices_partitionOrdered_uint16_133.post pA0 pc0 M0 w0 r) := by
      intro w323 h h322
      rw [hJ325] at h
      clear hJ325
      dsimp only at h
      refine Xq 1 41 [.c 42] 3 [(0, sV pA0 (sD (sD p0 p1 p3) t118 t148) pc0), (1, iA p1), (10, iA (wA (t118 + 1))), (11, iA t148)] (Zy 1 43 [.c 44] 3 [0, 1, 10, 11] [(11, iA (wA (t148 - 1)))] (Ye (Xg 3 [.c 47, .lp 47, .blk 4, .c 81] ?_)))
      obtain ⟨x481, hx482, h⟩ := of_bind h
      refine Vl [(0, sV pA0 (sD (sD p0 p1 p3) t118 t148) pc0), (1, iA p1), (10, iA (wA (t118 + 1))), (11, iA (wA (t148 - 1)))] (slices_partitionOrdered_uint16_133.l4_ok K M0 w0 pA0 pc0 p0 p1 p2 p3 _ x481 ?_ K (sD (sD p0 p1 p3) t118 t148) (wA (t118 + 1)) (wA (t148 - 1)) w323 hx482 (h322.pk [0]))
      ·intro t483 t484 w486 hq577 h485
       (try rw [hq577] at h)
       dsimp only at h
       refine Xg 1 [.c 82, .c 83] (RunsI.any 16 (by kernel_rfl) (by kernel_rfl) (by kernel_rfl) (Kp (mines (pick [own rC 23 (sV pA0 t483 pc0) t483] [0])) (World.drew w486)) ?_)
       have h488 := h485.drew
       generalize World.drew w486 = w487 at h488 ⊢
       have hS489 := Kp.refl (mines (pick [own rC 23 (sV pA0 t483 pc0) t483] [0])) w487
       refine Wu 0 153 (sV pA0 t483 pc0) hS489 (Wu 1 154 (iA t484) hS489 (Wu 2 155 (sV pA0 t483 pc0) hS489 (Wu 3 156 (iA p1) hS489 (Wu 4 157 (sV pA0 t483 pc0) hS489 (Wu 5 158 (iA p1) hS489 ?_)))))
       have ⟨hc491, h⟩ := oz h
       refine AnyE.idxOwnA 6 159 0 29 23 p1 h488 (by kernel_rfl) hS489 rfl (by kernel_rfl) (by kernel_rfl) hc491 (Wu 8 161 (sV pA0 t483 pc0) hS489 (Wu 9 162 (iA t484) hS489 ?_))
       have ⟨hc492, h⟩ := oz h
       refine AnyE.idxOwnA 10 163 0 29 23 t484 h488 (by kernel_rfl) hS489 rfl (by kernel_rfl) (by kernel_rfl) hc492 (AnyE.two 7 11 (by kernel_rfl) ?_ ?_)
       ·intro w493 hu494
        have h495 := h488.call hu494
        have hS496 := hS489.up hu494
        refine OpE.loadOwnA 160 0 23 23 p1 0 (o := (Int.toNat p1) * 1 + 0) h495 (by kernel_rfl) rfl (by kernel_rfl) (by kernel_rfl) hc491 (fun cs497 hk498 => ?_)
        obtain rfl := hk498
        refine ⟨iC (rdD t483 p1), by kernel_rfl, ?_⟩
        refine ⟨hS496, ?_⟩
        refine AnyE.one 11 (by kernel_rfl) (fun w500 hu501 => ?_)
        have h502 := h495.call hu501
        have hS503 := hS496.up hu501
        refine OpE.loadOwnA 164 0 23 23 t484 0 (o := (Int.toNat t484) * 1 + 0) h502 (by kernel_rfl) rfl (by kernel_rfl) (by kernel_rfl) hc492 (fun cs504 hk505 => ?_)
        obtain rfl := hk505
        refine ⟨iC (rdD t483 t484), by kernel_rfl, ?_⟩
        refine ⟨hS503, ?_⟩
        refine AnyE.idxOwnA 12 165 0 29 23 t484 h488 (by kernel_rfl) hS503 rfl (by kernel_rfl) (by kernel_rfl) hc492 (AnyE.one 13 (by kernel_rfl) (fun w507 hu508 => ?_))
        have h509 := h502.call hu508
        have hS510 := hS503.up hu508
        refine OpE.storeOwnA 0 23 23 t484 0 (iC (rdD t483 p1)) (o := (Int.toNat t484) * 1 + 0) (rdD t483 p1) h509 (by kernel_rfl) (by kernel_rfl) rfl (by kernel_rfl) (by kernel_rfl) (by kernel_rfl) hc492 (fun _ hk => by obtain rfl := hk; exact rfl) ?_
        intro w511 h512 hk513
        have hS514 := hS510.trans hk513 (Kp.turned h488 [0] rfl 0 rfl rfl)
        refine ⟨hS514, ?_⟩
        refine AnyE.one 14 (by kernel_rfl) (fun w515 hu516 => ?_)
        have h517 := h512.call hu516
        have hS518 := hS514.up hu516
        have ⟨hc519, h⟩ := oz h
        refine OpE.idxOwnA 166 0 29 23 p1 h517 (by kernel_rfl) rfl (by kernel_rfl) (by kernel_rfl) hc519 (⟨hS518, ?_⟩)
        refine AnyE.last 15 (by kernel_rfl) (by kernel_rfl) (fun w521 hu522 => ?_)
        have h523 := h517.call hu522
        have hS524 := hS518.up hu522
        refine OpE.storeOwnA 0 23 23 p1 0 (iC (rdD t483 t484)) (o := (Int.toNat p1) * 1 + 0) (rdD t483 t484) h523 (by kernel_rfl) (by kernel_rfl) rfl (by kernel_rfl) (by kernel_rfl) (by kernel_rfl) hc519 (fun _ hk => by obtain rfl := hk; exact rfl) ?_
        intro w525 h526 hk527
        refine AnyE.done (by kernel_rfl) (fun w529 hu530 => ?_)
        have h531 := h526.call hu530
        refine Vl [(11, iA t484)] (Xd 1 84 [.c 85] 3 [(8, iA t484), (9, tB false)] (Xt (.tuple #[iA t484, tB false]) ?_))
        have h578 : Holds M0 w0 w529 [own rC 23 (sV pA0 (sD t483 t484 p1) pc0) (sD t483 t484 p1)] := by have hY : Holds M0 w0 w529 [own rC 23 (sV pA0 t483 pc0) (sD t483 t484 p1)] := h531; simpa only [sV, sD, stD_length] using hY
        obtain rfl := sI h
        exact ⟨rfl, h578⟩
       ·intro w532 hu533
        have h534 := h488.call hu533
        have hS535 := hS489.up hu533
        refine OpE.loadOwnA 164 0 23 23 t484 0 (o := (Int.toNat t484) * 1 + 0) h534 (by kernel_rfl) rfl (by kernel_rfl) (by kernel_rfl) hc492 (fun cs536 hk537 => ?_)
        obtain rfl := hk537
        refine ⟨iC (rdD t483 t484), by kernel_rfl, ?_⟩
        refine ⟨hS535, ?_⟩
        refine AnyE.one 7 (by kernel_rfl) (fun w539 hu540 => ?_)
        have h541 := h534.call hu540
        have hS542 := hS535.up hu540
        refine OpE.loadOwnA 160 0 23 23 p1 0 (o := (Int.toNat p1) * 1 + 0) h541 (by kernel_rfl) rfl (by kernel_rfl) (by kernel_rfl) hc491 (fun cs543 hk544 => ?_)
        obtain rfl := hk544
        refine ⟨iC (rdD t483 p1), by kernel_rfl, ?_⟩
        refine ⟨hS542, ?_⟩
        refine AnyE.idxOwnA 12 165 0 29 23 t484 h488 (by kernel_rfl) hS542 rfl (by kernel_rfl) (by kernel_rfl) hc492 (AnyE.one 13 (by kernel_rfl) (fun w546 hu547 => ?_))
        have h548 := h541.call hu547
        have hS549 := hS542.up hu547
        refine OpE.storeOwnA 0 23 23 t484 0 (iC (rdD t483 p1)) (o := (Int.toNat t484) * 1 + 0) (rdD t483 p1) h548 (by kernel_rfl) (by kernel_rfl) rfl (by kernel_rfl) (by kernel_rfl) (by kernel_rfl) hc492 (fun _ hk => by obtain rfl := hk; exact rfl) ?_
        intro w550 h551 hk552
        have hS553 := hS549.trans hk552 (Kp.turned h488 [0] rfl 0 rfl rfl)
        refine ⟨hS553, ?_⟩
        refine AnyE.one 14 (by kernel_rfl) (fun w554 hu555 => ?_)
        have h556 := h551.call hu555
        have hS557 := hS553.up hu555
        have ⟨hc558, h⟩ := oz h
        refine OpE.idxOwnA 166 0 29 23 p1 h556 (by kernel_rfl) rfl (by kernel_rfl) (by kernel_rfl) hc558 (⟨hS557, ?_⟩)
        refine AnyE.last 15 (by kernel_rfl) (by kernel_rfl) (fun w560 hu561 => ?_)
        have h562 := h556.call hu561
        have hS563 := hS557.up hu561
        refine OpE.storeOwnA 0 23 23 p1 0 (iC (rdD t483 t484)) (o := (Int.toNat p1) * 1 + 0) (rdD t483 t484) h562 (by kernel_rfl) (by kernel_rfl) rfl (by kernel_rfl) (by kernel_rfl) (by kernel_rfl) hc558 (fun _ hk => by obtain rfl := hk; exact rfl) ?_
        intro w564 h565 hk566
        refine AnyE.done (by kernel_rfl) (fun w568 hu569 => ?_)
        have h570 := h565.call hu569
        refine Vl [(11, iA t484)] (Xd 1 84 [.c 85] 3 [(8, iA t484), (9, tB false)] (Xt (.tuple #[iA t484, tB false]) ?_))
        have h579 : Holds M0 w0 w568 [own rC 23 (sV pA0 (sD t483 t484 p1) pc0) (sD t483 t484 p1)] := by have hY : Holds M0 w0 w568 [own rC 23 (sV pA0 t483 pc0) (sD t483 t484 p1)] := h570; simpa only [sV, sD, stD_length] using hY
        obtain rfl := sI h
        exact ⟨rfl, h579⟩
     clear hJ325
     refine AnyE.two 7 11 (by kernel_rfl) ?_ ?_
     ·intro w242 hu243
      have h244 := h237.call hu243
      have hS245 := hS238.up hu243
      refine OpE.loadOwnA 88 0 23 23 t148 0 (o := (Int.toNat t148) * 1 + 0) h244 (by kernel_rfl) rfl (by kernel_rfl) (by kernel_rfl) hc240 (fun cs246 hk247 => ?_)
      obtain rfl := hk247
      refine ⟨iC (rdD (sD p0 p1 p3) t148), by kernel_rfl, ?_⟩
      refine ⟨hS245, ?_⟩
      refine AnyE.one 11 (by kernel_rfl) (fun w249 hu250 => ?_)
      have h251 := h244.call hu250
      have hS252 := hS245.up hu250
      refine OpE.loadOwnA 92 0 23 23 t118 0 (o := (Int.toNat t118) * 1 + 0) h251 (by kernel_rfl) rfl (by kernel_rfl) (by kernel_rfl) hc241 (fun cs253 hk254 => ?_)
      obtain rfl := hk254
      refine ⟨iC (rdD (sD p0 p1 p3) t118), by kernel_rfl, ?_⟩
      refine ⟨hS252, ?_⟩
      refine AnyE.idxOwnA 12 93 0 29 23 t118 h237 (by kernel_rfl) hS252 rfl (by kernel_rfl) (by kernel_rfl) hc241 (AnyE.one 13 (by kernel_rfl) (fun w256 hu257 => ?_))
      have h258 := h251.call hu257
      have hS259 := hS252.up hu257
      refine OpE.storeOwnA 0 23 23 t118 0 (iC (rdD (sD p0 p1 p3) t148)) (o := (Int.toNat t118) * 1 + 0) (rdD (sD p0 p1 p3) t148) h258 (by kernel_rfl) (by kernel_rfl) rfl (by kernel_rfl) (by kernel_rfl) (by kernel_rfl) hc241 (fun _ hk => by obtain rfl := hk; exact rfl) ?_
      intro w260 h261 hk262
      have hS263 := hS259.trans hk262 (Kp.turned h237 [0] rfl 0 rfl rfl)
      refine ⟨hS263, ?_⟩
      refine AnyE.one 14 (by kernel_rfl) (fun w264 hu265 => ?_)
      have h266 := h261.call hu265
      have hS267 := hS263.up hu265
      have ⟨hc268, h⟩ := oz h
      refine OpE.idxOwnA 94 0 29 23 t148 h266 (by kernel_rfl) rfl (by kernel_rfl) (by kernel_rfl) hc268 (⟨hS267, ?_⟩)
      refine AnyE.last 15 (by kernel_rfl) (by kernel_rfl) (fun w270 hu271 => ?_)
      have h272 := h266.call hu271
      have hS273 := hS267.up hu271
      refine OpE.storeOwnA 0 23 23 t148 0 (iC (rdD (sD p0 p1 p3) t118)) (o := (Int.toNat t148) * 1 + 0) (rdD (sD p0 p1 p3) t118) h272 (by kernel_rfl) (by kernel_rfl) rfl (by kernel_rfl) (by kernel_rfl) (by kernel_rfl) hc268 (fun _ hk => by obtain rfl := hk; exact rfl) ?_
      intro w274 h275 hk276
      refine AnyE.done (by kernel_rfl) (fun w278 hu279 => ?_)
      have h280 := h275.call hu279
      refine Vl [(0, sV pA0 (sD p0 p1 p3) pc0), (1, iA p1), (10, iA t118), (11, iA t148)] (Vl [(0, sV pA0 (sD p0 p1 p3) pc0), (1, iA p1), (10, iA t118), (11, iA t148)] ?_)
      have h320 : Holds M0 w0 w278 [own rC 23 (sV pA0 (sD (sD p0 p1 p3) t118 t148) pc0) (sD (sD p0 p1 p3) t118 t148)] := by have hY : Holds M0 w0 w278 [own rC 23 (sV pA0 (sD p0 p1 p3) pc0) (sD (sD p0 p1 p3) t118 t148)] := h280; simpa only [sV, sD, stD_length] using hY
      refine RunsI.is [(0, sV pA0 (sD (sD p0 p1 p3) t118 t148) pc0), (1, iA p1), (10, iA t118), (11, iA t148)] (by simp only [sV, sD, stD_length]) (Vl [(0, sV pA0 (sD (sD p0 p1 p3) t118 t148) pc0), (1, iA p1), (10, iA t118), (11, iA t148)] ?_)
      exact hj326 w278 h (h320.pk [0])
     ·intro w281 hu282
      have h283 := h237.call hu282
      have hS284 := hS238.up hu282
      refine OpE.loadOwnA 92 0 23 23 t118 0 (o := (Int.toNat t118) * 1 + 0) h283 (by kernel_rfl) rfl (by kernel_rfl) (by kernel_rfl) hc241 (fun cs285 hk286 => ?_)
      obtain rfl := hk286
      refine ⟨iC (rdD (sD p0 p1 p3) t118), by kernel_rfl, ?_⟩
      refine ⟨hS284, ?_⟩
      refine AnyE.one 7 (by kernel_rfl) (fun w288 hu289 => ?_)
      have h290 := h283.call hu289
      have hS291 := hS284.up hu289
      refine OpE.loadOwnA 88 0 23 23 t148 0 (o := (Int.toNat t148) * 1 + 0) h290 (by kernel_rfl) rfl (by kernel_rfl) (by kernel_rfl) hc240 (fun cs292 hk293 => ?_)
      obtain rfl := hk293
      refine ⟨iC (rdD (sD p0 p1 p3) t148), by kernel_rfl, ?_⟩
      refine ⟨hS291, ?_⟩
      refine AnyE.idxOwnA 12 93 0 29 23 t118 h237 (by kernel_rfl) hS291 rfl (by kernel_rfl) (by kernel_rfl) hc241 (AnyE.one 13 (by kernel_rfl) (fun w295 hu296 => ?_))
      have h297 := h290.call hu296
      have hS298 := hS291.up hu296
      refine OpE.storeOwnA 0 23 23 t118 0 (iC (rdD (sD p0 p1 p3) t148)) (o := (Int.toNat t118) * 1 + 0) (rdD (sD p0 p1 p3) t148) h297 (by kernel_rfl) (by kernel_rfl) rfl (by kernel_rfl) (by kernel_rfl) (by kernel_rfl) hc241 (fun _ hk => by obtain rfl := hk; exact rfl) ?_
      intro w299 h300 hk301
      have hS302 := hS298.trans hk301 (Kp.turned h237 [0] rfl 0 rfl rfl)
      refine ⟨hS302, ?_⟩
      refine AnyE.one 14 (by kernel_rfl) (fun w303 hu304 => ?_)
      have h305 := h300.call hu304
      have hS306 := hS302.up hu304
      have ⟨hc307, h⟩ := oz h
      refine OpE.idxOwnA 94 0 29 23 t148 h305 (by kernel_rfl) rfl (by kernel_rfl) (by kernel_rfl) hc307 (⟨hS306, ?_⟩)
      refine AnyE.last 15 (by kernel_rfl) (by kernel_rfl) (fun w309 hu310 => ?_)
      have h311 := h305.call hu310
      have hS312 := hS306.up hu310
      refine OpE.storeOwnA 0 23 23 t148 0 (iC (rdD (sD p0 p1 p3) t118)) (o := (Int.toNat t148) * 1 + 0) (rdD (sD p0 p1 p3) t118) h311 (by kernel_rfl) (by kernel_rfl) rfl (by kernel_rfl) (by kernel_rfl) (by kernel_rfl) hc307 (fun _ hk => by obtain rfl := hk; exact rfl) ?_
      intro w313 h314 hk315
      refine AnyE.done (by kernel_rfl) (fun w317 hu318 => ?_)
      have h319 := h314.call hu318
      refine Vl [(0, sV pA0 (sD p0 p1 p3) pc0), (1, iA p1), (10, iA t118), (11, iA t148)] (Vl [(0, sV pA0 (sD p0 p1 p3) pc0), (1, iA p1), (10, iA t118), (11, iA t148)] ?_)
      have h321 : Holds M0 w0 w317 [own rC 23 (sV pA0 (sD (sD p0 p1 p3) t118 t148) pc0) (sD (sD p0 p1 p3) t118 t148)] := by have hY : Holds M0 w0 w317 [own rC 23 (sV pA0 (sD p0 p1 p3) pc0) (sD (sD p0 p1 p3) t118 t148)] := h319; simpa only [sV, sD, stD_length] using hY
      refine RunsI.is [(0, sV pA0 (sD (sD p0 p1 p3) t118 t148) pc0), (1, iA p1), (10, iA t118), (11, iA t148)] (by simp only [sV, sD, stD_length]) (Vl [(0, sV pA0 (sD (sD p0 p1 p3) t118 t148) pc0), (1, iA p1), (10, iA t118), (11, iA t148)] ?_)
      exact hj326 w317 h (h321.pk [0])
 clear hJ90
 refine AnyE.two 7 11 (by kernel_rfl) ?_ ?_
 ·intro w7 hu8
  have h9 := h2.call hu8
  have hS10 := hS3.up hu8
  refine OpE.loadOwnA 19 0 23 23 p3 0 (o := (Int.toNat p3) * 1 + 0) h9 (by kernel_rfl) rfl (by kernel_rfl) (by kernel_rfl) hc5 (fun cs11 hk12 => ?_)
  obtain rfl := hk12
  refine ⟨iC (rdD p0 p3), by kernel_rfl, ?_⟩
  refine ⟨hS10, ?_⟩
  refine AnyE.one 11 (by kernel_rfl) (fun w14 hu15 => ?_)
  have h16 := h9.call hu15
  have hS17 := hS10.up hu15
  refine OpE.loadOwnA 23 0 23 23 p1 0 (o := (Int.toNat p1) * 1 + 0) h16 (by kernel_rfl) rfl (by kernel_rfl) (by kernel_rfl) hc6 (fun cs18 hk19 => ?_)
  obtain rfl := hk19
  refine ⟨iC (rdD p0 p1), by kernel_rfl, ?_⟩
  refine ⟨hS17, ?_⟩
  refine AnyE.idxOwnA 12 24 0 29 23 p1 h2 (by kernel_rfl) hS17 rfl (by kernel_rfl) (by kernel_rfl) hc6 (AnyE.one 13 (by kernel_rfl) (fun w21 hu22 => ?_))
  have h23 := h16.call hu22
  have hS24 := hS17.up hu22
  refine OpE.storeOwnA 0 23 23 p1 0 (iC (rdD p0 p3)) (o := (Int.toNat p1) * 1 + 0) (rdD p0 p3) h23 (by kernel_rfl) (by kernel_rfl) rfl (by kernel_rfl) (by kernel_rfl) (by kernel_rfl) hc6 (fun _ hk => by obtain rfl := hk; exact rfl) ?_
  intro w25 h26 hk27
  have hS28 := hS24.trans hk27 (Kp.turned h2 [0] rfl 0 rfl rfl)
  refine ⟨hS28, ?_⟩
  refine AnyE.one 14 (by kernel_rfl) (fun w29 hu30 => ?_)
  have h31 := h26.call hu30
  have hS32 := hS28.up hu30
  have ⟨hc33, h⟩ := oz h
  refine OpE.idxOwnA 25 0 29 23 p3 h31 (by kernel_rfl) rfl (by kernel_rfl) (by kernel_rfl) hc33 (⟨hS32, ?_⟩)
  refine AnyE.last 15 (by kernel_rfl) (by kernel_rfl) (fun w35 hu36 => ?_)
  have h37 := h31.call hu36
  have hS38 := hS32.up hu36
  refine OpE.storeOwnA 0 23 23 p3 0 (iC (rdD p0 p1)) (o := (Int.toNat p3) * 1 + 0) (rdD p0 p1) h37 (by kernel_rfl) (by kernel_rfl) rfl (by kernel_rfl) (by kernel_rfl) (by kernel_rfl) hc33 (fun _ hk => by obtain rfl := hk; exact rfl) ?_
  intro w39 h40 hk41
  refine AnyE.done (by kernel_rfl) (fun w43 hu44 => ?_)
  have h45 := h40.call hu44
  refine Vl [(0, sV pA0 p0 pc0), (1, iA p1), (2, iA p2)] (Vl [(0, sV pA0 p0 pc0), (1, iA p1), (2, iA p2)] ?_)
  have h85 : Holds M0 w0 w43 [own rC 23 (sV pA0 (sD p0 p1 p3) pc0) (sD p0 p1 p3)] := by have hY : Holds M0 w0 w43 [own rC 23 (sV pA0 p0 pc0) (sD p0 p1 p3)] := h45; simpa only [sV, sD, stD_length] using hY
  refine RunsI.is [(0, sV pA0 (sD p0 p1 p3) pc0), (1, iA p1), (2, iA p2)] (by simp only [sV, sD, stD_length]) (Vl [(0, sV pA0 (sD p0 p1 p3) pc0), (1, iA p1), (2, iA p2)] ?_)
  exact hj91 w43 h (h85.pk [0])
 ·intro w46 hu47
  have h48 := h2.call hu47
  have hS49 := hS3.up hu47
  refine OpE.loadOwnA 23 0 23 23 p1 0 (o := (Int.toNat p1) * 1 + 0) h48 (by kernel_rfl) rfl (by kernel_rfl) (by kernel_rfl) hc6 (fun cs50 hk51 => ?_)
  obtain rfl := hk51
  refine ⟨iC (rdD p0 p1), by kernel_rfl, ?_⟩
  refine ⟨hS49, ?_⟩
  refine AnyE.one 7 (by kernel_rfl) (fun w53 hu54 => ?_)
  have h55 := h48.call hu54
  have hS56 := hS49.up hu54
  refine OpE.loadOwnA 19 0 23 23 p3 0 (o := (Int.toNat p3) * 1 + 0) h55 (by kernel_rfl) rfl (by kernel_rfl) (by kernel_rfl) hc5 (fun cs57 hk58 => ?_)
  obtain rfl := hk58
  refine ⟨iC (rdD p0 p3), by kernel_rfl, ?_⟩
  refine ⟨hS56, ?_⟩
  refine AnyE.idxOwnA 12 24 0 29 23 p1 h2 (by kernel_rfl) hS56 rfl (by kernel_rfl) (by kernel_rfl) hc6 (AnyE.one 13 (by kernel_rfl) (fun w60 hu61 => ?_))
  have h62 := h55.call hu61
  have hS63 := hS56.up hu61
  refine OpE.storeOwnA 0 23 23 p1 0 (iC (rdD p0 p3)) (o := (Int.toNat p1) * 1 + 0) (rdD p0 p3) h62 (by kernel_rfl) (by kernel_rfl) rfl (by kernel_rfl) (by kernel_rfl) (by kernel_rfl) hc6 (fun _ hk => by obtain rfl := hk; exact rfl) ?_
  intro w64 h65 hk66
  have hS67 := hS63.trans hk66 (Kp.turned h2 [0] rfl 0 rfl rfl)
  refine ⟨hS67, ?_⟩
  refine AnyE.one 14 (by kernel_rfl) (fun w68 hu69 => ?_)
  have h70 := h65.call hu69
  have hS71 := hS67.up hu69
  have ⟨hc72, h⟩ := oz h
  refine OpE.idxOwnA 25 0 29 23 p3 h70 (by kernel_rfl) rfl (by kernel_rfl) (by kernel_rfl) hc72 (⟨hS71, ?_⟩)
  refine AnyE.last 15 (by kernel_rfl) (by kernel_rfl) (fun w74 hu75 => ?_)
  have h76 := h70.call hu75
  have hS77 := hS71.up hu75
  refine OpE.storeOwnA 0 23 23 p3 0 (iC (rdD p0 p1)) (o := (Int.toNat p3) * 1 + 0) (rdD p0 p1) h76 (by kernel_rfl) (by kernel_rfl) rfl (by kernel_rfl) (by kernel_rfl) (by kernel_rfl) hc72 (fun _ hk => by obtain rfl := hk; exact rfl) ?_
  intro w78 h79 hk80
  refine AnyE.done (by kernel_rfl) (fun w82 hu83 => ?_)
  have h84 := h79.call hu83
  refine Vl [(0, sV pA0 p0 pc0), (1, iA p1), (2, iA p2)] (Vl [(0, sV pA0 p0 pc0), (1, iA p1), (2, iA p2)] ?_)
  have h86 : Holds M0 w0 w82 [own rC 23 (sV pA0 (sD p0 p1 p3) pc0) (sD p0 p1 p3)] := by have hY : Holds M0 w0 w82 [own rC 23 (sV pA0 p0 pc0) (sD p0 p1 p3)] := h84; simpa only [sV, sD, stD_length] using hY
  refine RunsI.is [(0, sV pA0 (sD p0 p1 p3) pc0), (1, iA p1), (2, iA p2)] (by simp only [sV, sD, stD_length]) (Vl [(0, sV pA0 (sD p0 p1 p3) pc0), (1, iA p1), (2, iA p2)] ?_)
  exact hj91 w82 h (h86.pk [0])
end

section
def slices_pdqsortOrdered_uint16_79.post (pA0 : Option Addr) (pc0 : Nat) (M0 : Nat → Prop) (w0 : World) (r : List Int) : Ending → World → Prop := fun e w => e = .returned (.tuple #[]) ∧ Holds M0 w0 w [own (Rp.int .u16) 23 (.slice pA0 r.length pc0) r]
def slices_pdqsortOrdered_uint16_79.Ok (SELF : (List Int) → Int → Int → Int → Option (List Int)) : Prop := ∀ (M0 : Nat → Prop) (w0 : World) (pA0 : Option Addr) (pc0 : Nat) (p0 : List Int) (p1 : Int) (p2 : Int) (p3 : Int) {wS : World} (h0 : Holds M0 w0 wS [own (Rp.int .u16) 23 (.slice pA0 p0.length pc0) p0]) {r : List Int} (h : SELF p0 p1 p2 p3 = some r), Calls Tryz.prog 79 #[.slice pA0 p0.length pc0, .int .i64 p1, .int .i64 p2, .int .i64 p3] wS (slices_pdqsortOrdered_uint16_79.post pA0 pc0 M0 w0 r)
def slices_pdqsortOrdered_uint16_79.l0 (K : Nat)(SELF : (List Int) → Int → Int → Int → Option (List Int)) (p0 : List Int) (p1 : Int) (p2 : Int) (p3 : Int) : Nat → (List Int) → Int → Int → Int → Bool → Bool → Option (List Int)
 | 0, _, _, _, _, _, _ => none
 | k + 1, t1, t2, t3, t4, t5, t6 => cond (decide ((IntKind.wrap .i64 (t3 - t2)) ≤ 12)) ((slices_insertionSortOrdered_uint16_125.f K t1 t2 t3).bind fun t11 => cond (Nat.beq t11.length t1.length) (some t11) none) (cond (t4 == 0) ((slices_heapSortOrdered_uint16_126.f K t1 t2 t3).bind fun t19 => cond (Nat.beq t19.length t1.length) (some t19) none) (Let (fun (yj36 : (List Int) × Int) => (slices_choosePivotOrdered_uint16_128.f K yj36.1 t2 t3).bind fun yt43 => cond (yt43.2 == 2) (none) (Let (fun (t48 : Bool) => Let (fun (t65 : (List Int)) => Let (fun (t86 : Bool) => cond t86 (none) ((slices_partitionOrdered_uint16_133.f K t65 t2 t3 yt43.1).bind fun yt96 => cond (Nat.beq yt96.1.length t65.length) (cond (decide ((IntKind.wrap .i64 (yt96.2.1 - t2)) < (IntKind.wrap .i64 (t3 - yt96.2.1)))) ((SELF yt96.1 t2 yt96.2.1 yj36.2).bind fun t107 => cond (Nat.beq t107.length yt96.1.length) (slices_pdqsortOrdered_uint16_79.l0 K SELF p0 p1 p2 p3 k t107 (IntKind.wrap .i64 (yt96.2.1 + 1)) t3 yj36.2 (decide ((IntKind.wrap .i64 (yt96.2.1 - t2)) ≥ (IntKind.wrap .i64 (Int.tdiv (IntKind.wrap .i64 (t3 - t2)) 8)))) yt96.2.2) none) ((SELF yt96.1 (IntKind.wrap .i64 (yt96.2.1 + 1)) t3 yj36.2).bind fun t115 => cond (Nat.beq t115.length yt96.1.length) (slices_pdqsortOrdered_uint16_79.l0 K SELF p0 p1 p2 p3 k t115 t2 yt96.2.1 yj36.2 (decide ((IntKind.wrap .i64 (t3 - yt96.2.1)) ≥ (IntKind.wrap .i64 (Int.tdiv (IntKind.wrap .i64 (t3 - t2)) 8)))) yt96.2.2) none)) none)) (fun j89 => cond (decide (t2 > 0)) (cond (inR (IntKind.wrap .i64 (t2 - 1)) t65.length) (cond (inR yt43.1 t65.length) ((cmp_Less_uint16_131.f K (rdD t65 (IntKind.wrap .i64 (t2 - 1))) (rdD t65 yt43.1)).bind fun t79 => j89 (!t79)) none) none) (j89 false))) (fun j68 => cond t48 ((slices_partialInsertionSortOrdered_uint16_130.f K yj36.1 t2 t3).bind fun yt58 => cond (Nat.beq yt58.1.length yj36.1.length) (cond yt58.2 (some yt58.1) (j68 yt58.1)) none) (j68 yj36.1))) (fun j51 => cond t5 (cond t6 (j51 (yt43.2 == 1)) (j51 false)) (j51 false)))) (fun j36 => cond (!t5) ((slices_breakPatternsOrdered_uint16_127.f K t1 t2 t3).bind fun t27 => cond (Nat.beq t27.length t1.length) (j36 (t27, (IntKind.wrap .i64 (t4 - 1)))) none) (j36 (t1, t4)))))
theorem slices_pdqsortOrdered_uint16_79.l0_ok (K : Nat) (SELF : (List Int) → Int → Int → Int → Option (List Int)) (hSELF : slices_pdqsortOrdered_uint16_79.Ok SELF) (M0 : Nat → Prop) (w0 : World) (pA0 : Option Addr) (pc0 : Nat) (p0 : List Int) (p1 : Int) (p2 : Int) (p3 : Int) (R : Ending → World → Prop) (x : (List Int)) (hk0 : ∀ (t124 : List Int) (w1 : World), x = t124 → Holds M0 w0 w1 [own rC 23 (sV pA0 t124 pc0) t124] → R (.returned (.tuple #[])) w1) :
  ∀ (k : Nat) (t1 : List Int) (t2 : Int) (t3 : Int) (t4 : Int) (t5 : Bool) (t6 : Bool) (w : World), slices_pdqsortOrdered_uint16_79.l0 K SELF p0 p1 p2 p3 k t1 t2 t3 t4 t5 t6 = some x → Holds M0 w0 w [own rC 23 (sV pA0 t1 pc0) t1] → RunsI F79 [.c 6, .lp 6, .blk 0] [(0, sV pA0 t1 pc0), (1, iA t2), (2, iA t3), (3, iA t4), (8, tB t5), (9, tB t6)] w R := by
 intro k
 induction k with
 | zero => intro t1 t2 t3 t4 t5 t6 w h hH; exact absurd h (by simp [slices_pdqsortOrdered_uint16_79.l0])
 | succ k ih =>
  intro t1 t2 t3 t4 t5 t6 w h hH
  rw [slices_pdqsortOrdered_uint16_79.l0.eq_2] at h
  refine Xg 1 [.c 7, .blk 1, .lp 6, .blk 0] (Xq 1 8 [.c 9, .blk 1, .lp 6, .blk 0] 4 [(0, sV pA0 t1 pc0), (1, iA t2), (2, iA t3), (3, iA t4), (8, tB t5), (9, tB t6), (10, iA (wA (t3 - t2)))] (Zy 2 11 [.c 12, .c 17, .blk 1, .lp 6, .blk 0] 2 [0, 1, 2, 3, 8, 9, 10, 23] [(23, tB (decide ((wA (t3 - t2)) ≤ 12)))] (Ye (Vc 23 13 16 h (fun hc7 h => ?_) fun hc7 h => ?_))))
  ·refine Xq 1 14 [.c 15, .c 17, .blk 1, .lp 6, .blk 0] 3 [(24, sV pA0 t1 pc0), (25, iA t2), (26, iA t3)] ?_
   obtain ⟨t11, hg10, h⟩ := of_bind h
   refine Yc 27 125 #[sV pA0 t1 pc0, iA t2, iA t3] ((slices_insertionSortOrdered_uint16_125_ok K M0 w0 pA0 pc0 t1 t2 t3 hH hg10).mono ?_)
   rintro _ w8 ⟨rfl, h9⟩
   refine ⟨_, rfl, ?_⟩
   have ⟨hc12, h⟩ := oz h
   have hl13 := Nat.eq_of_beq_eq_true hc12
   have h14 : Holds M0 w0 w8 [own rC 23 (sV pA0 t1 pc0) t11] := by rw [hl13] at h9; exact h9
   refine Ye (Xt (.tuple #[]) ?_)
   have h121 : Holds M0 w0 w8 [own rC 23 (sV pA0 t11 pc0) t11] := by have hY : Holds M0 w0 w8 [own rC 23 (sV pA0 t1 pc0) t11] := h14; simpa only [sV, stD_length, hl13] using hY
   refine R_is (v' := .tuple #[]) (by simp only [sV, stD_length]) ?_
   exact hk0 t11 w8 (sI h).symm (h121.pk [0])
  ·refine Xg 1 [.c 17, .blk 1, .lp 6, .blk 0] (Xd 2 19 [.c 20, .c 25, .blk 1, .lp 6, .blk 0] 2 [(0, sV pA0 t1 pc0), (1, iA t2), (2, iA t3), (3, iA t4), (8, tB t5), (9, tB t6), (10, iA (wA (t3 - t2))), (29, tB (t4 == 0))] (Vc 29 21 24 h (fun hc15 h => ?_) fun hc15 h => ?_))
   ·refine Xq 1 22 [.c 23, .c 25, .blk 1, .lp 6, .blk 0] 3 [(30, sV pA0 t1 pc0), (31, iA t2), (32, iA t3)] ?_
    obtain ⟨t19, hg18, h⟩ := of_bind h
    refine Yc 33 126 #[sV pA0 t1 pc0, iA t2, iA t3] ((slices_heapSortOrdered_uint16_126_ok K M0 w0 pA0 pc0 t1 t2 t3 hH hg18).mono ?_)
    rintro _ w16 ⟨rfl, h17⟩
    refine ⟨_, rfl, ?_⟩
    have ⟨hc20, h⟩ := oz h
    have hl21 := Nat.eq_of_beq_eq_true hc20
    have h22 : Holds M0 w0 w16 [own rC 23 (sV pA0 t1 pc0) t19] := by rw [hl21] at h17; exact h17
    refine Ye (Xt (.tuple #[]) ?_)
    have h122 : Holds M0 w0 w16 [own rC 23 (sV pA0 t19 pc0) t19] := by have hY : Holds M0 w0 w16 [own rC 23 (sV pA0 t1 pc0) t19] := h22; simpa only [sV, stD_length, hl21] using hY
    refine R_is (v' := .tuple #[]) (by simp only [sV, stD_length]) ?_
    exact hk0 t19 w16 (sI h).symm (h122.pk [0])
   ·refine Xg 1 [.c 25, .blk 1, .lp 6, .blk 0] (Xd 2 27 [.c 28, .c 33, .blk 1, .lp 6, .blk 0] 2 [(0, sV pA0 t1 pc0), (1, iA t2), (2, iA t3), (3, iA t4), (8, tB t5), (9, tB t6), (10, iA (wA (t3 - t2))), (35, tB (!t5))] ?_)
    obtain ⟨j36, hJ37, h⟩ := of_let h
    have hj38 : ∀ (t32 : List Int) (t33 : Int) (w35 : World), j36 (t32, t33) = some x → Holds M0 w0 w35 [own rC 23 (sV pA0 t32 pc0) t32] → RunsI F79 [.c 33, .blk 1, .lp 6, .blk 0] [(0, sV pA0 t32 pc0), (1, iA t2), (2, iA t3), (3, iA t33), (8, tB t5), (9, tB t6), (10, iA (wA (t3 - t2)))] w35 R := by
     intro t32 t33 w35 h h34
     rw [hJ37] at h
     clear hJ37
     dsimp only at h
     refine Xq 1 34 [.c 35, .blk 1, .lp 6, .blk 0] 3 [(0, sV pA0 t32 pc0), (1, iA t2), (2, iA t3), (3, iA t33), (8, tB t5), (9, tB t6), (10, iA (wA (t3 - t2))), (43, sV pA0 t32 pc0), (44, iA t2), (45, iA t3)] ?_
     obtain ⟨⟨t43, t44⟩, hg42, h⟩ := of_bind h
     dsimp only at h
     refine Yc 46 128 #[sV pA0 t32 pc0, iA t2, iA t3] ((slices_choosePivotOrdered_uint16_128_ok K (fun _ => False) w35  pA0 pc0 t32 t2 t3 nF (h34.ownSl 0 rfl) hg42).mono ?_)
     rintro _ w39 ⟨rfl, hb40⟩
     refine ⟨_, rfl, ?_⟩
     have h41 := h34.call hb40
     refine Zp 5 [0, 1, 2, 3, 8, 9, 10, 11, 12] [(11, iA t43), (12, iA t44)] (Zy 2 37 [.c 38, .c 45, .blk 1, .lp 6, .blk 0] 2 [0, 1, 2, 3, 8, 9, 10, 11, 12, 50] [(50, tB (t44 == 2))] (Ye (Vc 50 39 44 h (fun hc45 h => ?_) fun hc45 h => ?_)))
     ·refine Xq 1 40 [.c 41, .c 45, .blk 1, .lp 6, .blk 0] 3 [(0, sV pA0 t32 pc0), (1, iA t2), (2, iA t3), (3, iA t33), (8, tB t5), (9, tB t6), (10, iA (wA (t3 - t2))), (11, iA t43), (51, sV pA0 t32 pc0), (52, iA t2), (53, iA t3)] ?_
      exact absurd h (by simp)
     ·refine Xg 1 [.c 45, .blk 1, .lp 6, .blk 0] (Xq 2 47 [.c 48, .c 55, .blk 1, .lp 6, .blk 0] 2 [(0, sV pA0 t32 pc0), (1, iA t2), (2, iA t3), (3, iA t33), (8, tB t5), (9, tB t6), (10, iA (wA (t3 - t2))), (11, iA t43), (12, iA t44), (62, tB t5)] ?_)
      obtain ⟨j51, hJ52, h⟩ := of_let h
      have hj53 : ∀ (t48 : Bool) (w50 : World), j51 t48 = some x → Holds M0 w0 w50 [own rC 23 (sV pA0 t32 pc0) t32] → RegI F79 47 [.c 48, .c 55, .blk 1, .lp 6, .blk 0] 8 [(0, sV pA0 t32 pc0), (1, iA t2), (2, iA t3), (3, iA t33), (8, tB t5), (9, tB t6), (10, iA (wA (t3 - t2))), (11, iA t43), (68, tB t48)] w50 R := by
       intro t48 w50 h h49
       rw [hJ52] at h
       clear hJ52
       dsimp only at h
       refine Ye ?_
       obtain ⟨j68, hJ69, h⟩ := of_let h
       have hj70 : ∀ (t65 : List Int) (w67 : World), j68 t65 = some x → Holds M0 w0 w67 [own rC 23 (sV pA0 t65 pc0) t65] → RunsI F79 [.c 55, .blk 1, .lp 6, .blk 0] [(0, sV pA0 t65 pc0), (1, iA t2), (2, iA t3), (3, iA t33), (8, tB t5), (9, tB t6), (10, iA (wA (t3 - t2))), (11, iA t43)] w67 R := by
        intro t65 w67 h h66
        rw [hJ69] at h
        clear hJ69
        dsimp only at h
        refine Xg 2 [.c 57, .c 58, .c 65, .blk 1, .lp 6, .blk 0] (RunsI.any 15 (by kernel_rfl) (by kernel_rfl) (by kernel_rfl) (Kp ([] : List Nat) (World.drew w67)) ?_)
        have h72 := h66.drew
        generalize World.drew w67 = w71 at h72 ⊢
        have hS73 := Kp.refl ([] : List Nat) w71
        refine Wu 0 73 (iA t2) hS73 (Wu 1 74 (tB (decide (t2 > 0))) hS73 (Wu 2 75 (tB (decide (t2 > 0))) hS73 ?_))
        obtain ⟨j89, hJ90, h⟩ := of_let h
        have hj91 : ∀ (t86 : Bool) (w88 : World), j89 t86 = some x → Holds M0 w0 w88 [own rC 23 (sV pA0 t65 pc0) t65] → RunsI F79 [.c 58, .c 65, .blk 1, .lp 6, .blk 0] [(0, sV pA0 t65 pc0), (1, iA t2), (2, iA t3), (3, iA t33), (8, tB t5), (9, tB t6), (10, iA (wA (t3 - t2))), (11, iA t43), (87, tB t86)] w88 R := by
         intro t86 w88 h h87
         rw [hJ90] at h
         clear hJ90
         dsimp only at h
         refine Vc 87 59 64 h (fun hc92 h => ?_) fun hc92 h => ?_
         ·refine Xq 1 60 [.c 61, .c 65, .blk 1, .lp 6, .blk 0] 4 [(0, sV pA0 t65 pc0), (2, iA t3), (3, iA t33), (8, tB t5), (9, tB t6), (88, sV pA0 t65 pc0), (89, iA t2), (90, iA t3), (91, iA t43)] ?_
          exact absurd h (by simp)
         ·refine Xg 1 [.c 65, .blk 1, .lp 6, .blk 0] (Xq 1 66 [.c 67, .blk 1, .lp 6, .blk 0] 4 [(0, sV pA0 t65 pc0), (1, iA t2), (2, iA t3), (3, iA t33), (10, iA (wA (t3 - t2))), (95, sV pA0 t65 pc0), (96, iA t2), (97, iA t3), (98, iA t43)] ?_)
          obtain ⟨⟨t96, t97, t98⟩, hg95, h⟩ := of_bind h
          dsimp only at h
          refine Yc 99 133 #[sV pA0 t65 pc0, iA t2, iA t3, iA t43] ((slices_partitionOrdered_uint16_133_ok K M0 w0 pA0 pc0 t65 t2 t3 t43 h87 hg95).mono ?_)
          rintro _ w93 ⟨rfl, h94⟩
          refine ⟨_, rfl, ?_⟩
          have ⟨hc99, h⟩ := oz h
          have hl100 := Nat.eq_of_beq_eq_true hc99
          have h101 : Holds M0 w0 w93 [own rC 23 (sV pA0 t65 pc0) t96] := by rw [hl100] at h94; exact h94
          refine Zp 5 [0, 1, 2, 3, 10, 14, 15] [(14, iA t97), (15, tB t98)] (Zy 1 68 [.c 69, .blk 1, .lp 6, .blk 0] 2 [0, 1, 2, 3, 9, 10, 14] [(9, tB t98)] (Zy 1 70 [.c 71, .blk 1, .lp 6, .blk 0] 8 [0, 1, 2, 3, 9, 10, 14, 16, 17] [(16, iA (wA (t97 - t2))), (17, iA (wA (t3 - t97)))] (Zy 1 72 [.c 73, .blk 1, .lp 6, .blk 0] 3 [0, 1, 2, 3, 9, 14, 16, 17, 18] [(18, iA (wA (Int.tdiv (wA (t3 - t2)) 8)))] (Zy 1 74 [.c 75, .blk 1, .lp 6, .blk 0] 3 [0, 1, 2, 3, 9, 14, 16, 17, 18, 113] [(113, tB (decide ((wA (t97 - t2)) < (wA (t3 - t97)))))] (Ye (Vc 113 76 81 h (fun hc102 h => ?_) fun hc102 h => ?_))))))
          ·refine Xq 1 77 [.c 78, .blk 1, .lp 6, .blk 0] 4 [(0, sV pA0 t65 pc0), (1, iA t2), (2, iA t3), (3, iA t33), (8, tB (decide ((wA (t97 - t2)) ≥ (wA (Int.tdiv (wA (t3 - t2)) 8))))), (9, tB t98), (14, iA t97)] (Zy 1 79 [.c 80, .blk 1, .lp 6, .blk 0] 4 [0, 2, 3, 8, 9, 14, 117, 118, 119, 120] [(117, sV pA0 t65 pc0), (118, iA t2), (119, iA t97), (120, iA t33)] (Ul [(0, sV pA0 t65 pc0), (2, iA t3), (3, iA t33), (8, tB (decide ((wA (t97 - t2)) ≥ (wA (Int.tdiv (wA (t3 - t2)) 8))))), (9, tB t98), (14, iA t97), (117, sV pA0 t65 pc0), (118, iA t2), (119, iA t97), (120, iA t33)] ?_))
           have h103 : Holds M0 w0 w93 [own rC 23 (sV pA0 t96 pc0) t96] := by have hY : Holds M0 w0 w93 [own rC 23 (sV pA0 t65 pc0) t96] := h101; simpa only [sV, stD_length, hl100] using hY
           refine RegI.is [(0, sV pA0 t96 pc0), (2, iA t3), (3, iA t33), (8, tB (decide ((wA (t97 - t2)) ≥ (wA (Int.tdiv (wA (t3 - t2)) 8))))), (9, tB t98), (14, iA t97), (117, sV pA0 t96 pc0), (118, iA t2), (119, iA t97), (120, iA t33)] (by simp only [sV, stD_length, hl100]) ?_
           obtain ⟨t107, hg106, h⟩ := of_bind h
           refine Yc 121 79 #[sV pA0 t96 pc0, iA t2, iA t97, iA t33] ((hSELF M0 w0 pA0 pc0 t96 t2 t97 t33 h103 hg106).mono ?_)
           rintro _ w104 ⟨rfl, h105⟩
           refine ⟨_, rfl, ?_⟩
           have ⟨hc108, h⟩ := oz h
           have hl109 := Nat.eq_of_beq_eq_true hc108
           have h110 : Holds M0 w0 w104 [own rC 23 (sV pA0 t96 pc0) t107] := by rw [hl109] at h105; exact h105
           refine Ye (Xr (Yd 3 [(0, sV pA0 t96 pc0), (1, iA (wA (t97 + 1))), (2, iA t3), (3, iA t33), (8, tB (decide ((wA (t97 - t2)) ≥ (wA (Int.tdiv (wA (t3 - t2)) 8))))), (9, tB t98)] (Xg 2 [.c 6, .lp 6, .blk 0] (Vl [(0, sV pA0 t96 pc0), (1, iA (wA (t97 + 1))), (2, iA t3), (3, iA t33), (8, tB (decide ((wA (t97 - t2)) ≥ (wA (Int.tdiv (wA (t3 - t2)) 8))))), (9, tB t98)] ?_))))
           have h119 : Holds M0 w0 w104 [own rC 23 (sV pA0 t107 pc0) t107] := by have hY : Holds M0 w0 w104 [own rC 23 (sV pA0 t96 pc0) t107] := h110; simpa only [sV, stD_length, hl100, hl109] using hY
           refine RunsI.is [(0, sV pA0 t107 pc0), (1, iA (wA (t97 + 1))), (2, iA t3), (3, iA t33), (8, tB (decide ((wA (t97 - t2)) ≥ (wA (Int.tdiv (wA (t3 - t2)) 8))))), (9, tB t98)] (by simp only [sV, stD_length, hl100, hl109]) (Vl [(0, sV pA0 t107 pc0), (1, iA (wA (t97 + 1))), (2, iA t3), (3, iA t33), (8, tB (decide ((wA (t97 - t2)) ≥ (wA (Int.tdiv (wA (t3 - t2)) 8))))), (9, tB t98)] ?_)
           exact ih t107 (wA (t97 + 1)) t3 t33 (decide ((wA (t97 - t2)) ≥ (wA (Int.tdiv (wA (t3 - t2)) 8)))) t98 w104 h (h119.pk [0])
          ·refine Xq 1 82 [.c 83, .blk 1, .lp 6, .blk 0] 4 [(0, sV pA0 t65 pc0), (1, iA t2), (2, iA t3), (3, iA t33), (8, tB (decide ((wA (t3 - t97)) ≥ (wA (Int.tdiv (wA (t3 - t2)) 8))))), (9, tB t98), (14, iA t97)] (Zy 1 84 [.c 85, .blk 1, .lp 6, .blk 0] 5 [0, 1, 3, 8, 9, 14, 127, 129, 130, 131] [(127, sV pA0 t65 pc0), (129, iA (wA (t97 + 1))), (130, iA t3), (131, iA t33)] (Ul [(0, sV pA0 t65 pc0), (1, iA t2), (3, iA t33), (8, tB (decide ((wA (t3 - t97)) ≥ (wA (Int.tdiv (wA (t3 - t2)) 8))))), (9, tB t98), (14, iA t97), (127, sV pA0 t65 pc0), (129, iA (wA (t97 + 1))), (130, iA t3), (131, iA t33)] ?_))
           have h111 : Holds M0 w0 w93 [own rC 23 (sV pA0 t96 pc0) t96] := by have hY : Holds M0 w0 w93 [own rC 23 (sV pA0 t65 pc0) t96] := h101; simpa only [sV, stD_length, hl100] using hY
           refine RegI.is [(0, sV pA0 t96 pc0), (1, iA t2), (3, iA t33), (8, tB (decide ((wA (t3 - t97)) ≥ (wA (Int.tdiv (wA (t3 - t2)) 8))))), (9, tB t98), (14, iA t97), (127, sV pA0 t96 pc0), (129, iA (wA (t97 + 1))), (130, iA t3), (131, iA t33)] (by simp only [sV, stD_length, hl100]) ?_
           obtain ⟨t115, hg114, h⟩ := of_bind h
           refine Yc 132 79 #[sV pA0 t96 pc0, iA (wA (t97 + 1)), iA t3, iA t33] ((hSELF M0 w0 pA0 pc0 t96 (wA (t97 + 1)) t3 t33 h111 hg114).mono ?_)
           rintro _ w112 ⟨rfl, h113⟩
           refine ⟨_, rfl, ?_⟩
           have ⟨hc116, h⟩ := oz h
           have hl117 := Nat.eq_of_beq_eq_true hc116
           have h118 : Holds M0 w0 w112 [own rC 23 (sV pA0 t96 pc0) t115] := by rw [hl117] at h113; exact h113
           refine Ye (Xr (Yd 2 [(0, sV pA0 t96 pc0), (1, iA t2), (2, iA t97), (3, iA t33), (8, tB (decide ((wA (t3 - t97)) ≥ (wA (Int.tdiv (wA (t3 - t2)) 8))))), (9, tB t98)] (Xg 2 [.c 6, .lp 6, .blk 0] (Vl [(0, sV pA0 t96 pc0), (1, iA t2), (2, iA t97), (3, iA t33), (8, tB (decide ((wA (t3 - t97)) ≥ (wA (Int.tdiv (wA (t3 - t2)) 8))))), (9, tB t98)] ?_))))
           have h120 : Holds M0 w0 w112 [own rC 23 (sV pA0 t115 pc0) t115] := by have hY : Holds M0 w0 w112 [own rC 23 (sV pA0 t96 pc0) t115] := h118; simpa only [sV, stD_length, hl100, hl117] using hY
           refine RunsI.is [(0, sV pA0 t115 pc0), (1, iA t2), (2, iA t97), (3, iA t33), (8, tB (decide ((wA (t3 - t97)) ≥ (wA (Int.tdiv (wA (t3 - t2)) 8))))), (9, tB t98)] (by simp only [sV, stD_length, hl100, hl117]) (Vl [(0, sV pA0 t115 pc0), (1, iA t2), (2, iA t97), (3, iA t33), (8, tB (decide ((wA (t3 - t97)) ≥ (wA (Int.tdiv (wA (t3 - t2)) 8))))), (9, tB t98)] ?_)
           exact ih t115 t2 t97 t33 (decide ((wA (t3 - t97)) ≥ (wA (Int.tdiv (wA (t3 - t2)) 8)))) t98 w112 h (h120.pk [0])
        clear hJ90
        rcases oc h with ⟨hc75, h⟩ | ⟨hc75, h⟩
        ·refine AnyE.fix 75 true hc75 (by kernel_rfl) (by kernel_rfl) (Wu 3 76 (sV pA0 t65 pc0) hS73 (Wu 4 77 (iA t2) hS73 (Wu 5 78 (iA (wA (t2 - 1))) hS73 ?_)))
         have ⟨hc76, h⟩ := oz h
         refine AnyE.idxOwnA 6 79 0 29 23 (wA (t2 - 1)) h72 (by kernel_rfl) hS73 rfl (by kernel_rfl) (by kernel_rfl) hc76 (AnyE.loadOwnA 7 80 0 23 23 (wA (t2 - 1)) 0 (iC (rdD t65 (wA (t2 - 1)))) [] (o := (Int.toNat (wA (t2 - 1))) * 1 + 0) h72 rfl (by kernel_rfl) hS73 rfl rfl (by kernel_rfl) rfl hc76 (fun _ _ hk => by obtain rfl := hk; kernel_rfl) (Wu 8 81 (sV pA0 t65 pc0) hS73 (Wu 9 82 (iA t43) hS73 ?_)))
         have ⟨hc77, h⟩ := oz h
         refine AnyE.idxOwnA 10 83 0 29 23 t43 h72 (by kernel_rfl) hS73 rfl (by kernel_rfl) (by kernel_rfl) hc77 (AnyE.loadOwnA 11 84 0 23 23 t43 0 (iC (rdD t65 t43)) [] (o := (Int.toNat t43) * 1 + 0) h72 rfl (by kernel_rfl) hS73 rfl rfl (by kernel_rfl) rfl hc77 (fun _ _ hk => by obtain rfl := hk; kernel_rfl) ?_)
         obtain ⟨t79, hg78, h⟩ := of_bind h
         refine Wc 12 85 (tB t79) 131 #[iC (rdD t65 (wA (t2 - 1))), iC (rdD t65 t43)] hS73 (fun w hk => cmp_Less_uint16_131_ok K (fun _ => False) w (rdD t65 (wA (t2 - 1))) (rdD t65 t43) nF hg78) (Wu 13 86 (tB (!t79)) hS73 (Wu 14 87 (tB (!t79)) hS73 (AnyE.done (by kernel_rfl) (fun w80 hu81 => ?_))))
         have h82 := h72.call hu81
         refine Vl [(0, sV pA0 t65 pc0), (1, iA t2), (2, iA t3), (3, iA t33), (8, tB t5), (9, tB t6), (10, iA (wA (t3 - t2))), (11, iA t43), (87, tB (!t79))] (Vl [(0, sV pA0 t65 pc0), (1, iA t2), (2, iA t3), (3, iA t33), (8, tB t5), (9, tB t6), (10, iA (wA (t3 - t2))), (11, iA t43), (87, tB (!t79))] ?_)
         exact hj91 (!t79) w80 h (h82.pk [0])
        ·refine AnyE.fix 75 false hc75 (by kernel_rfl) (by kernel_rfl) (AnyE.no 3 76 (by kernel_rfl) hS73 (AnyE.no 4 77 (by kernel_rfl) hS73 (AnyE.no 5 78 (by kernel_rfl) hS73 (AnyE.no 6 79 (by kernel_rfl) hS73 (AnyE.no 7 80 (by kernel_rfl) hS73 (AnyE.no 8 81 (by kernel_rfl) hS73 (AnyE.no 9 82 (by kernel_rfl) hS73 (AnyE.no 10 83 (by kernel_rfl) hS73 (AnyE.no 11 84 (by kernel_rfl) hS73 (AnyE.no 12 85 (by kernel_rfl) hS73 (AnyE.no 13 86 (by kernel_rfl) hS73 ?_)))))))))))
         refine Wu 14 87 (tB false) hS73 (AnyE.done (by kernel_rfl) (fun w83 hu84 => ?_))
         have h85 := h72.call hu84
         refine Vl [(0, sV pA0 t65 pc0), (1, iA t2), (2, iA t3), (3, iA t33), (8, tB t5), (9, tB t6), (10, iA (wA (t3 - t2))), (11, iA t43), (87, tB false)] (Vl [(0, sV pA0 t65 pc0), (1, iA t2), (2, iA t3), (3, iA t33), (8, tB t5), (9, tB t6), (10, iA (wA (t3 - t2))), (11, iA t43), (87, tB false)] ?_)
         exact hj91 false w83 h (h85.pk [0])
       clear hJ69
       refine Vc 68 49 54 h (fun hc54 h => ?_) fun hc54 h => ?_
       ·refine Xq 1 50 [.c 51, .c 55, .blk 1, .lp 6, .blk 0] 3 [(0, sV pA0 t32 pc0), (1, iA t2), (2, iA t3), (3, iA t33), (8, tB t5), (9, tB t6), (10, iA (wA (t3 - t2))), (11, iA t43), (69, sV pA0 t32 pc0), (70, iA t2), (71, iA t3)] ?_
        obtain ⟨⟨t58, t59⟩, hg57, h⟩ := of_bind h
        dsimp only at h
        refine Yc 72 130 #[sV pA0 t32 pc0, iA t2, iA t3] ((slices_partialInsertionSortOrdered_uint16_130_ok K M0 w0 pA0 pc0 t32 t2 t3 h49 hg57).mono ?_)
        rintro _ w55 ⟨rfl, h56⟩
        refine ⟨_, rfl, ?_⟩
        have ⟨hc60, h⟩ := oz h
        have hl61 := Nat.eq_of_beq_eq_true hc60
        have h62 : Holds M0 w0 w55 [own rC 23 (sV pA0 t32 pc0) t58] := by rw [hl61] at h56; exact h56
        refine Ye (Vc 72 52 53 h (fun hc63 h => ?_) fun hc63 h => ?_)
        ·refine Xt (.tuple #[]) ?_
         have h123 : Holds M0 w0 w55 [own rC 23 (sV pA0 t58 pc0) t58] := by have hY : Holds M0 w0 w55 [own rC 23 (sV pA0 t32 pc0) t58] := h62; simpa only [sV, stD_length, hl61] using hY
         refine R_is (v' := .tuple #[]) (by simp only [sV, stD_length]) ?_
         exact hk0 t58 w55 (sI h).symm (h123.pk [0])
        ·refine Xg 1 [.c 55, .blk 1, .lp 6, .blk 0] (Vl [(0, sV pA0 t32 pc0), (1, iA t2), (2, iA t3), (3, iA t33), (8, tB t5), (9, tB t6), (10, iA (wA (t3 - t2))), (11, iA t43)] ?_)
         have h64 : Holds M0 w0 w55 [own rC 23 (sV pA0 t58 pc0) t58] := by have hY : Holds M0 w0 w55 [own rC 23 (sV pA0 t32 pc0) t58] := h62; simpa only [sV, stD_length, hl61] using hY
         refine RunsI.is [(0, sV pA0 t58 pc0), (1, iA t2), (2, iA t3), (3, iA t33), (8, tB t5), (9, tB t6), (10, iA (wA (t3 - t2))), (11, iA t43)] (by simp only [sV, stD_length, hl61]) (Vl [(0, sV pA0 t58 pc0), (1, iA t2), (2, iA t3), (3, iA t33), (8, tB t5), (9, tB t6), (10, iA (wA (t3 - t2))), (11, iA t43)] ?_)
         exact hj70 t58 w55 h (h64.pk [0])
       ·refine Xg 1 [.c 55, .blk 1, .lp 6, .blk 0] (Vl [(0, sV pA0 t32 pc0), (1, iA t2), (2, iA t3), (3, iA t33), (8, tB t5), (9, tB t6), (10, iA (wA (t3 - t2))), (11, iA t43)] ?_)
        exact hj70 t32 w50 h (h49.pk [0])
      clear hJ52
      rcases oc h with ⟨hc46, h⟩ | ⟨hc46, h⟩
      ·refine Yf 62 true hc46 (Zp 3 [0, 1, 2, 3, 8, 9, 10, 11, 12, 65] [(65, tB t6)] ?_)
       rcases oc h with ⟨hc47, h⟩ | ⟨hc47, h⟩
       ·refine Yf 65 true hc47 (Zp 3 [0, 1, 2, 3, 8, 9, 10, 11, 68] [(68, tB (t44 == 1))] (Ul [(0, sV pA0 t32 pc0), (1, iA t2), (2, iA t3), (3, iA t33), (8, tB t5), (9, tB t6), (10, iA (wA (t3 - t2))), (11, iA t43), (68, tB (t44 == 1))] ?_))
        exact hj53 (t44 == 1) w39 h (h41.pk [0])
       ·refine Yf 65 false hc47 (Zp 3 [0, 1, 2, 3, 8, 9, 10, 11, 68] [(68, tB false)] (Ul [(0, sV pA0 t32 pc0), (1, iA t2), (2, iA t3), (3, iA t33), (8, tB t5), (9, tB t6), (10, iA (wA (t3 - t2))), (11, iA t43), (68, tB false)] ?_))
        exact hj53 false w39 h (h41.pk [0])
      ·refine Yf 62 false hc46 (Zp 6 [0, 1, 2, 3, 8, 9, 10, 11, 68] [(68, tB false)] (Ul [(0, sV pA0 t32 pc0), (1, iA t2), (2, iA t3), (3, iA t33), (8, tB t5), (9, tB t6), (10, iA (wA (t3 - t2))), (11, iA t43), (68, tB false)] ?_))
       exact hj53 false w39 h (h41.pk [0])
    clear hJ37
    refine Vc 35 29 32 h (fun hc23 h => ?_) fun hc23 h => ?_
    ·refine Xq 1 30 [.c 31, .c 33, .blk 1, .lp 6, .blk 0] 3 [(0, sV pA0 t1 pc0), (1, iA t2), (2, iA t3), (3, iA t4), (8, tB t5), (9, tB t6), (10, iA (wA (t3 - t2))), (36, sV pA0 t1 pc0), (37, iA t2), (38, iA t3)] ?_
     obtain ⟨t27, hg26, h⟩ := of_bind h
     refine Yc 39 127 #[sV pA0 t1 pc0, iA t2, iA t3] ((slices_breakPatternsOrdered_uint16_127_ok K M0 w0 pA0 pc0 t1 t2 t3 hH hg26).mono ?_)
     rintro _ w24 ⟨rfl, h25⟩
     refine ⟨_, rfl, ?_⟩
     have ⟨hc28, h⟩ := oz h
     have hl29 := Nat.eq_of_beq_eq_true hc28
     have h30 : Holds M0 w0 w24 [own rC 23 (sV pA0 t1 pc0) t27] := by rw [hl29] at h25; exact h25
     refine Ye (Xr (Zd 3 [0, 1, 2, 3, 8, 9, 10] [(3, iA (wA (t4 - 1)))] (Vl [(0, sV pA0 t1 pc0), (1, iA t2), (2, iA t3), (3, iA (wA (t4 - 1))), (8, tB t5), (9, tB t6), (10, iA (wA (t3 - t2)))] ?_)))
     have h31 : Holds M0 w0 w24 [own rC 23 (sV pA0 t27 pc0) t27] := by have hY : Holds M0 w0 w24 [own rC 23 (sV pA0 t1 pc0) t27] := h30; simpa only [sV, stD_length, hl29] using hY
     refine RunsI.is [(0, sV pA0 t27 pc0), (1, iA t2), (2, iA t3), (3, iA (wA (t4 - 1))), (8, tB t5), (9, tB t6), (10, iA (wA (t3 - t2)))] (by simp only [sV, stD_length, hl29]) (Vl [(0, sV pA0 t27 pc0), (1, iA t2), (2, iA t3), (3, iA (wA (t4 - 1))), (8, tB t5), (9, tB t6), (10, iA (wA (t3 - t2)))] ?_)
     exact hj38 t27 (wA (t4 - 1)) w24 h (h31.pk [0])
    ·refine Xg 1 [.c 33, .blk 1, .lp 6, .blk 0] (Vl [(0, sV pA0 t1 pc0), (1, iA t2), (2, iA t3), (3, iA t4), (8, tB t5), (9, tB t6), (10, iA (wA (t3 - t2)))] ?_)
     exact hj38 t1 t4 w h (hH.pk [0])
def slices_pdqsortOrdered_uint16_79.g (K : Nat) : Nat → (List Int) → Int → Int → Int → Option (List Int)
 | 0, _, _, _, _ => none
 | k + 1, p0, p1, p2, p3 => (slices_pdqsortOrdered_uint16_79.l0 K (slices_pdqsortOrdered_uint16_79.g K k) p0 p1 p2 p3 K p0 p1 p2 p3 true true).bind (fun t127 => some t127)
def slices_pdqsortOrdered_uint16_79.f (K : Nat) (p0 : List Int) (p1 : Int) (p2 : Int) (p3 : Int) : Option (List Int) := slices_pdqsortOrdered_uint16_79.g K K p0 p1 p2 p3
theorem slices_pdqsortOrdered_uint16_79.g_ok (K : Nat) : ∀ k, slices_pdqsortOrdered_uint16_79.Ok (slices_pdqsortOrdered_uint16_79.g K k) := by
 intro k
 induction k with
 | zero => intro M0 w0 pA0 pc0 p0 p1 p2 p3 wS h0 r h; exact absurd h (by simp [slices_pdqsortOrdered_uint16_79.g])
 | succ k ih =>
  intro M0 w0 pA0 pc0 p0 p1 p2 p3 wS h0 r h
  generalize hS : slices_pdqsortOrdered_uint16_79.g K k = SELF at ih
  rw [slices_pdqsortOrdered_uint16_79.g.eq_2, hS] at h
  clear hS
  have hSELF := ih
  clear ih
  refine calls_of F79 rfl [sV pA0 p0 pc0, iA p1, iA p2, iA p3] (by kernel_rfl) (Xq 1 1 [.c 2] 1 [(0, sV pA0 p0 pc0), (1, iA p1), (2, iA p2), (3, iA p3), (8, tB true)] (Zy 1 3 [.c 4] 1 [0, 1, 2, 3, 8, 9] [(9, tB true)] (Ye (Xg 2 [.c 6, .lp 6, .blk 0] ?_))))
  obtain ⟨x125, hx126, h⟩ := of_bind h
  refine Vl [(0, sV pA0 p0 pc0), (1, iA p1), (2, iA p2), (3, iA p3), (8, tB true), (9, tB true)] (slices_pdqsortOrdered_uint16_79.l0_ok K SELF hSELF M0 w0 pA0 pc0 p0 p1 p2 p3 _ x125 ?_ K p0 p1 p2 p3 true true wS hx126 (h0.pk [0]))
  ·intro t127 w129 hq130 h128
   (try rw [hq130] at h)
   obtain rfl := sI h
   exact ⟨rfl, h128⟩
theorem slices_pdqsortOrdered_uint16_79_ok (K : Nat) (M0 : Nat → Prop) (w0 : World) (pA0 : Option Addr) (pc0 : Nat) (p0 : List Int) (p1 : Int) (p2 : Int) (p3 : Int) {wS : World} (h0 : Holds M0 w0 wS [own rC 23 (sV pA0 p0 pc0) p0]) {r : List Int} (h : slices_pdqsortOrdered_uint16_79.f K p0 p1 p2 p3 = some r) :
  Calls Tryz.prog 79 #[sV pA0 p0 pc0, iA p1, iA p2, iA p3] wS (slices_pdqsortOrdered_uint16_79.post pA0 pc0 M0 w0 r) := slices_pdqsortOrdered_uint16_79.g_ok K K M0 w0 pA0 pc0 p0 p1 p2 p3 h0 h
end

section
def slices_Sort_uint16_uint16_51.post (pA0 : Option Addr) (pc0 : Nat) (M0 : Nat → Prop) (w0 : World) (r : List Int) : Ending → World → Prop := fun e w => e = .returned (.tuple #[]) ∧ Holds M0 w0 w [own (Rp.int .u16) 23 (.slice pA0 r.length pc0) r]
def slices_Sort_uint16_uint16_51.f (K : Nat) (p0 : List Int) : Option (List Int) := (bits_Len_80.f K (IntKind.wrap .u64 (p0.length : Int))).bind fun t5 => (slices_pdqsortOrdered_uint16_79.f K p0 0 (p0.length : Int) t5).bind fun t9 => cond (Nat.beq t9.length p0.length) (some t9) none
theorem slices_Sort_uint16_uint16_51_ok (K : Nat) (M0 : Nat → Prop) (w0 : World) (pA0 : Option Addr) (pc0 : Nat) (p0 : List Int) {wS : World} (h0 : Holds M0 w0 wS [own rC 23 (sV pA0 p0 pc0) p0]) {r : List Int} (h : slices_Sort_uint16_uint16_51.f K p0 = some r) :
  Calls Tryz.prog 51 #[sV pA0 p0 pc0] wS (slices_Sort_uint16_uint16_51.post pA0 pc0 M0 w0 r) := by
 unfold slices_Sort_uint16_uint16_51.f at h
 refine calls_of F51 rfl [sV pA0 p0 pc0] (by kernel_rfl) (Xd 1 1 [.c 2] 3 [(0, sV pA0 p0 pc0), (2, iA (p0.length : Int))] (Xr (Yp 4 [(5, sV pA0 p0 pc0), (6, iA (p0.length : Int)), (8, iD (wD (p0.length : Int)))] ?_)))
 obtain ⟨t5, hg4, h⟩ := of_bind h
 refine Yc 9 80 #[iD (wD (p0.length : Int))] ((bits_Len_80_ok K _ wS  (wD (p0.length : Int)) h0.old' hg4).mono ?_)
 rintro _ w1 ⟨rfl, hb2⟩
 refine ⟨_, rfl, ?_⟩
 have h3 := h0.call hb2
 obtain ⟨t9, hg8, h⟩ := of_bind h
 refine Yc 10 79 #[sV pA0 p0 pc0, iA 0, iA (p0.length : Int), iA t5] ((slices_pdqsortOrdered_uint16_79_ok K M0 w0 pA0 pc0 p0 0 (p0.length : Int) t5 h3 hg8).mono ?_)
 rintro _ w6 ⟨rfl, h7⟩
 refine ⟨_, rfl, ?_⟩
 have ⟨hc10, h⟩ := oz h
 have hl11 := Nat.eq_of_beq_eq_true hc10
 have h12 : Holds M0 w0 w6 [own rC 23 (sV pA0 p0 pc0) t9] := by rw [hl11] at h7; exact h7
 refine Ye (Xt (.tuple #[]) ?_)
 have h13 : Holds M0 w0 w6 [own rC 23 (sV pA0 t9 pc0) t9] := by have hY : Holds M0 w0 w6 [own rC 23 (sV pA0 p0 pc0) t9] := h12; simpa only [sV, stD_length, hl11] using hY
 obtain rfl := sI h
 exact ⟨rfl, h13⟩
end
end Go.Proofs.YtbcepghanbkncaaGreatDoor.LiT
