/- Functions of the program as plain Lean functions, each with the proof that the call comes to it; written by wip/eng.py. -/
import Derived.Test.YtbcepghanbkncaaGreatDoorEngShort2
import Derived.Test.YtbcepghanbkncaaGreatDoorLiT2
set_option linter.unusedVariables false
set_option linter.unusedSimpArgs false
set_option maxHeartbeats 4000000
namespace Go.Proofs.YtbcepghanbkncaaGreatDoor.LiT
open Go.RowKit Go.Eng
set_option maxRecDepth 100000
abbrev sc0 : ByteArray := ⟨#[0, 1, 2, 2, 3, 3, 3, 3, 4, 4, 4, 4, 4, 4, 4, 4, 5, 5, 5, 5, 5, 5, 5, 5, 5, 5, 5, 5, 5, 5, 5, 5, 6, 6, 6, 6, 6, 6, 6, 6, 6, 6, 6, 6, 6, 6, 6, 6, 6, 6, 6, 6, 6, 6, 6, 6, 6, 6, 6, 6, 6, 6, 6, 6, 7, 7, 7, 7, 7, 7, 7, 7, 7, 7, 7, 7, 7, 7, 7, 7, 7, 7, 7, 7, 7, 7, 7, 7, 7, 7, 7, 7, 7, 7, 7, 7, 7, 7, 7, 7, 7, 7, 7, 7, 7, 7, 7, 7, 7, 7, 7, 7, 7, 7, 7, 7, 7, 7, 7, 7, 7, 7, 7, 7, 7, 7, 7, 7, 8, 8, 8, 8, 8, 8, 8, 8, 8, 8, 8, 8, 8, 8, 8, 8, 8, 8, 8, 8, 8, 8, 8, 8, 8, 8, 8, 8, 8, 8, 8, 8, 8, 8, 8, 8, 8, 8, 8, 8, 8, 8, 8, 8, 8, 8, 8, 8, 8, 8, 8, 8, 8, 8, 8, 8, 8, 8, 8, 8, 8, 8, 8, 8, 8, 8, 8, 8, 8, 8, 8, 8, 8, 8, 8, 8, 8, 8, 8, 8, 8, 8, 8, 8, 8, 8, 8, 8, 8, 8, 8, 8, 8, 8, 8, 8, 8, 8, 8, 8, 8, 8, 8, 8, 8, 8, 8, 8, 8, 8, 8, 8, 8, 8, 8, 8, 8, 8, 8, 8, 8, 8, 8, 8, 8, 8, 8, 8]⟩
section
def slices_heapSortOrdered_uint16_126.post (pA0 : Option Addr) (pc0 : Nat) (M0 : Nat → Prop) (w0 : World) (r : List Int) : Ending → World → Prop := fun e w => e = .returned (.tuple #[]) ∧ Holds M0 w0 w [own (Rp.int .u16) 23 (.slice pA0 r.length pc0) r]
def slices_heapSortOrdered_uint16_126.l0 (K : Nat) (p0 : List Int) (p1 : Int) (p2 : Int) : Nat → (List Int) → Int → Option (List Int)
 | 0, _, _ => none
 | k + 1, t1, t2 => cond (decide (t2 ≥ 0)) ((slices_siftDownOrdered_uint16_162.f K t1 t2 (IntKind.wrap .i64 (p2 - p1)) p1).bind fun t7 => cond (Nat.beq t7.length t1.length) (slices_heapSortOrdered_uint16_126.l0 K p0 p1 p2 k t7 (IntKind.wrap .i64 (t2 - 1))) none) (some t1)
theorem slices_heapSortOrdered_uint16_126.l0_ok (K : Nat) (M0 : Nat → Prop) (w0 : World) (pA0 : Option Addr) (pc0 : Nat) (p0 : List Int) (p1 : Int) (p2 : Int) (R : Ending → World → Prop) (x : (List Int)) (hk0 : ∀ (t12 : List Int) (w1 : World), x = t12 → Holds M0 w0 w1 [own rC 23 (sV pA0 t12 pc0) t12] → RunsI F126 [.c 21] [(0, sV pA0 t12 pc0), (6, iA p1), (7, iA 0), (8, iA (wA (p2 - p1)))] w1 R) :
  ∀ (k : Nat) (t1 : List Int) (t2 : Int) (w : World), slices_heapSortOrdered_uint16_126.l0 K p0 p1 p2 k t1 t2 = some x → Holds M0 w0 w [own rC 23 (sV pA0 t1 pc0) t1] → RunsI F126 [.c 11, .lp 11, .blk 0, .c 21] [(0, sV pA0 t1 pc0), (6, iA p1), (7, iA 0), (8, iA (wA (p2 - p1))), (9, iA t2)] w R := by
 intro k
 induction k with
 | zero => intro t1 t2 w h hH; exact absurd h (by simp [slices_heapSortOrdered_uint16_126.l0])
 | succ k ih =>
  intro t1 t2 w h hH
  rw [slices_heapSortOrdered_uint16_126.l0.eq_2] at h
  refine Xg 1 [.c 12, .c 17, .lp 11, .blk 0, .c 21] (Xd 1 13 [.c 14, .c 17, .lp 11, .blk 0, .c 21] 2 [(0, sV pA0 t1 pc0), (6, iA p1), (7, iA 0), (8, iA (wA (p2 - p1))), (9, iA t2), (19, tB (decide (t2 ≥ 0)))] (Vc 19 15 16 h (fun hc3 h => ?_) fun hc3 h => ?_))
  ·refine Xg 1 [.c 17, .lp 11, .blk 0, .c 21] (Xq 2 19 [.blk 1, .c 20, .lp 11, .blk 0, .c 21] 4 [(0, sV pA0 t1 pc0), (6, iA p1), (7, iA 0), (8, iA (wA (p2 - p1))), (9, iA t2), (22, sV pA0 t1 pc0), (23, iA t2), (24, iA (wA (p2 - p1))), (25, iA p1)] ?_)
   obtain ⟨t7, hg6, h⟩ := of_bind h
   refine Yc 26 162 #[sV pA0 t1 pc0, iA t2, iA (wA (p2 - p1)), iA p1] ((slices_siftDownOrdered_uint16_162_ok K M0 w0 pA0 pc0 t1 t2 (wA (p2 - p1)) p1 hH hg6).mono ?_)
   rintro _ w4 ⟨rfl, h5⟩
   refine ⟨_, rfl, ?_⟩
   have ⟨hc8, h⟩ := oz h
   have hl9 := Nat.eq_of_beq_eq_true hc8
   have h10 : Holds M0 w0 w4 [own rC 23 (sV pA0 t1 pc0) t7] := by rw [hl9] at h5; exact h5
   refine Zy 1 20 [.lp 11, .blk 0, .c 21] 3 [0, 6, 7, 8, 9] [(9, iA (wA (t2 - 1)))] (Ye (Xg 1 [.c 11, .lp 11, .blk 0, .c 21] (Vl [(0, sV pA0 t1 pc0), (6, iA p1), (7, iA 0), (8, iA (wA (p2 - p1))), (9, iA (wA (t2 - 1)))] ?_)))
   have h11 : Holds M0 w0 w4 [own rC 23 (sV pA0 t7 pc0) t7] := by have hY : Holds M0 w0 w4 [own rC 23 (sV pA0 t1 pc0) t7] := h10; simpa only [sV, stD_length, hl9] using hY
   refine RunsI.is [(0, sV pA0 t7 pc0), (6, iA p1), (7, iA 0), (8, iA (wA (p2 - p1))), (9, iA (wA (t2 - 1)))] (by simp only [sV, stD_length, hl9]) (Vl [(0, sV pA0 t7 pc0), (6, iA p1), (7, iA 0), (8, iA (wA (p2 - p1))), (9, iA (wA (t2 - 1)))] ?_)
   exact ih t7 (wA (t2 - 1)) w4 h (h11.pk [0])
  ·refine Xg 1 [.c 21] (Vl [(0, sV pA0 t1 pc0), (6, iA p1), (7, iA 0), (8, iA (wA (p2 - p1)))] ?_)
   exact hk0 t1 w (sI h).symm (hH.pk [0])
def slices_heapSortOrdered_uint16_126.l1 (K : Nat) (p0 : List Int) (p1 : Int) (p2 : Int) : Nat → (List Int) → Int → Option (List Int)
 | 0, _, _ => none
 | k + 1, t18, t19 => cond (decide (t19 ≥ 0)) (cond (inR (IntKind.wrap .i64 (p1 + t19)) t18.length) (cond (inR p1 t18.length) (Let (fun (_ : Unit) => (slices_siftDownOrdered_uint16_162.f K (stD (stD t18 p1 (rdD t18 (IntKind.wrap .i64 (p1 + t19)))) (IntKind.wrap .i64 (p1 + t19)) (rdD t18 p1)) 0 t19 p1).bind fun t115 => cond (Nat.beq t115.length ((stD (stD t18 p1 (rdD t18 (IntKind.wrap .i64 (p1 + t19)))) (IntKind.wrap .i64 (p1 + t19)) (rdD t18 p1)).length)) (slices_heapSortOrdered_uint16_126.l1 K p0 p1 p2 k t115 (IntKind.wrap .i64 (t19 - 1))) none) (fun j109 => cond (inR (IntKind.wrap .i64 (p1 + t19)) (stD t18 p1 (rdD t18 (IntKind.wrap .i64 (p1 + t19)))).length) (j109 ()) none)) none) none) (some t18)
theorem slices_heapSortOrdered_uint16_126.l1_ok (K : Nat) (M0 : Nat → Prop) (w0 : World) (pA0 : Option Addr) (pc0 : Nat) (p0 : List Int) (p1 : Int) (p2 : Int) (R : Ending → World → Prop) (x : (List Int)) (hk0 : ∀ (t120 : List Int) (w1 : World), x = t120 → Holds M0 w0 w1 [own rC 23 (sV pA0 t120 pc0) t120] → RunsI F126 [] [] w1 R) :
  ∀ (k : Nat) (t18 : List Int) (t19 : Int) (w : World), slices_heapSortOrdered_uint16_126.l1 K p0 p1 p2 k t18 t19 = some x → Holds M0 w0 w [own rC 23 (sV pA0 t18 pc0) t18] → RunsI F126 [.c 25, .lp 25, .blk 2] [(0, sV pA0 t18 pc0), (6, iA p1), (7, iA 0), (10, iA t19)] w R := by
 intro k
 induction k with
 | zero => intro t18 t19 w h hH; exact absurd h (by simp [slices_heapSortOrdered_uint16_126.l1])
 | succ k ih =>
  intro t18 t19 w h hH
  rw [slices_heapSortOrdered_uint16_126.l1.eq_2] at h
  refine Xg 1 [.c 26, .c 31, .lp 25, .blk 2] (Xd 1 27 [.c 28, .c 31, .lp 25, .blk 2] 2 [(0, sV pA0 t18 pc0), (6, iA p1), (7, iA 0), (10, iA t19), (30, tB (decide (t19 ≥ 0)))] (Vc 30 29 30 h (fun hc20 h => ?_) fun hc20 h => ?_))
  ·refine Xg 1 [.c 31, .lp 25, .blk 2] (Xg 3 [.c 34, .c 35, .blk 3, .c 36, .lp 25, .blk 2] (RunsI.any 20 (by kernel_rfl) (by kernel_rfl) (by kernel_rfl) (Kp (mines (pick [own rC 23 (sV pA0 t18 pc0) t18] [0])) (World.drew w)) ?_))
   have h22 := hH.drew
   generalize World.drew w = w21 at h22 ⊢
   have hS23 := Kp.refl (mines (pick [own rC 23 (sV pA0 t18 pc0) t18] [0])) w21
   refine Wu 0 33 (sV pA0 t18 pc0) hS23 (Wu 1 34 (iA p1) hS23 (Wu 2 35 (sV pA0 t18 pc0) hS23 (Wu 3 36 (iA p1) hS23 (Wu 4 37 (iA t19) hS23 (Wu 5 38 (iA (wA (p1 + t19))) hS23 (Wu 6 39 (sV pA0 t18 pc0) hS23 (Wu 7 40 (iA p1) hS23 (Wu 8 41 (iA t19) hS23 (Wu 9 42 (iA (wA (p1 + t19))) hS23 ?_)))))))))
   have ⟨hc25, h⟩ := oz h
   refine AnyE.idxOwnA 10 43 0 29 23 (wA (p1 + t19)) h22 (by kernel_rfl) hS23 rfl (by kernel_rfl) (by kernel_rfl) hc25 (Wu 12 45 (sV pA0 t18 pc0) hS23 (Wu 13 46 (iA p1) hS23 ?_))
   have ⟨hc26, h⟩ := oz h
   refine AnyE.idxOwnA 14 47 0 29 23 p1 h22 (by kernel_rfl) hS23 rfl (by kernel_rfl) (by kernel_rfl) hc26 ?_
   obtain ⟨j109, hJ110, h⟩ := of_let h
   have hj111 : ∀ (w108 : World), j109 () = some x → Holds M0 w0 w108 [own rC 23 (sV pA0 (sD t18 p1 (wA (p1 + t19))) pc0) (sD t18 p1 (wA (p1 + t19)))] → RunsI F126 [.c 35, .blk 3, .c 36, .lp 25, .blk 2] [(0, sV pA0 (sD t18 p1 (wA (p1 + t19))) pc0), (6, iA p1), (7, iA 0), (10, iA t19)] w108 R := by
    intro w108 h h107
    rw [hJ110] at h
    clear hJ110
    dsimp only at h
    refine Xr (Yp 4 [(0, sV pA0 (sD t18 p1 (wA (p1 + t19))) pc0), (6, iA p1), (7, iA 0), (10, iA t19), (51, sV pA0 (sD t18 p1 (wA (p1 + t19))) pc0), (52, iA 0), (53, iA t19), (54, iA p1)] ?_)
    obtain ⟨t115, hg114, h⟩ := of_bind h
    refine Yc 55 162 #[sV pA0 (sD t18 p1 (wA (p1 + t19))) pc0, iA 0, iA t19, iA p1] ((slices_siftDownOrdered_uint16_162_ok K M0 w0 pA0 pc0 (sD t18 p1 (wA (p1 + t19))) 0 t19 p1 h107 hg114).mono ?_)
    rintro _ w112 ⟨rfl, h113⟩
    refine ⟨_, rfl, ?_⟩
    have ⟨hc116, h⟩ := oz h
    have hl117 := Nat.eq_of_beq_eq_true hc116
    have h118 : Holds M0 w0 w112 [own rC 23 (sV pA0 (sD t18 p1 (wA (p1 + t19))) pc0) t115] := by rw [hl117] at h113; exact h113
    refine Zy 1 36 [.lp 25, .blk 2] 3 [0, 6, 7, 10] [(10, iA (wA (t19 - 1)))] (Ye (Xg 1 [.c 25, .lp 25, .blk 2] (Vl [(0, sV pA0 (sD t18 p1 (wA (p1 + t19))) pc0), (6, iA p1), (7, iA 0), (10, iA (wA (t19 - 1)))] ?_)))
    have h119 : Holds M0 w0 w112 [own rC 23 (sV pA0 t115 pc0) t115] := by have hY : Holds M0 w0 w112 [own rC 23 (sV pA0 (sD t18 p1 (wA (p1 + t19))) pc0) t115] := h118; simpa only [sV, sD, stD_length, hl117] using hY
    refine RunsI.is [(0, sV pA0 t115 pc0), (6, iA p1), (7, iA 0), (10, iA (wA (t19 - 1)))] (by simp only [sV, sD, stD_length, hl117]) (Vl [(0, sV pA0 t115 pc0), (6, iA p1), (7, iA 0), (10, iA (wA (t19 - 1)))] ?_)
    exact ih t115 (wA (t19 - 1)) w112 h (h119.pk [0])
   clear hJ110
   refine AnyE.two 11 15 (by kernel_rfl) ?_ ?_
   ·intro w27 hu28
    have h29 := h22.call hu28
    have hS30 := hS23.up hu28
    refine OpE.loadOwnA 44 0 23 23 (wA (p1 + t19)) 0 (o := (Int.toNat (wA (p1 + t19))) * 1 + 0) h29 (by kernel_rfl) rfl (by kernel_rfl) (by kernel_rfl) hc25 (fun cs31 hk32 => ?_)
    obtain rfl := hk32
    refine ⟨iC (rdD t18 (wA (p1 + t19))), by kernel_rfl, ?_⟩
    refine ⟨hS30, ?_⟩
    refine AnyE.one 15 (by kernel_rfl) (fun w34 hu35 => ?_)
    have h36 := h29.call hu35
    have hS37 := hS30.up hu35
    refine OpE.loadOwnA 48 0 23 23 p1 0 (o := (Int.toNat p1) * 1 + 0) h36 (by kernel_rfl) rfl (by kernel_rfl) (by kernel_rfl) hc26 (fun cs38 hk39 => ?_)
    obtain rfl := hk39
    refine ⟨iC (rdD t18 p1), by kernel_rfl, ?_⟩
    refine ⟨hS37, ?_⟩
    refine AnyE.idxOwnA 16 49 0 29 23 p1 h22 (by kernel_rfl) hS37 rfl (by kernel_rfl) (by kernel_rfl) hc26 (AnyE.one 17 (by kernel_rfl) (fun w41 hu42 => ?_))
    have h43 := h36.call hu42
    have hS44 := hS37.up hu42
    refine OpE.storeOwnA 0 23 23 p1 0 (iC (rdD t18 (wA (p1 + t19)))) (o := (Int.toNat p1) * 1 + 0) (rdD t18 (wA (p1 + t19))) h43 (by kernel_rfl) (by kernel_rfl) rfl (by kernel_rfl) (by kernel_rfl) (by kernel_rfl) hc26 (fun _ hk => by obtain rfl := hk; exact rfl) ?_
    intro w45 h46 hk47
    have hS48 := hS44.trans hk47 (Kp.turned h22 [0] rfl 0 rfl rfl)
    refine ⟨hS48, ?_⟩
    refine AnyE.one 18 (by kernel_rfl) (fun w49 hu50 => ?_)
    have h51 := h46.call hu50
    have hS52 := hS48.up hu50
    have ⟨hc53, h⟩ := oz h
    refine OpE.idxOwnA 50 0 29 23 (wA (p1 + t19)) h51 (by kernel_rfl) rfl (by kernel_rfl) (by kernel_rfl) hc53 (⟨hS52, ?_⟩)
    refine AnyE.last 19 (by kernel_rfl) (by kernel_rfl) (fun w55 hu56 => ?_)
    have h57 := h51.call hu56
    have hS58 := hS52.up hu56
    refine OpE.storeOwnA 0 23 23 (wA (p1 + t19)) 0 (iC (rdD t18 p1)) (o := (Int.toNat (wA (p1 + t19))) * 1 + 0) (rdD t18 p1) h57 (by kernel_rfl) (by kernel_rfl) rfl (by kernel_rfl) (by kernel_rfl) (by kernel_rfl) hc53 (fun _ hk => by obtain rfl := hk; exact rfl) ?_
    intro w59 h60 hk61
    refine AnyE.done (by kernel_rfl) (fun w63 hu64 => ?_)
    have h65 := h60.call hu64
    refine Vl [(0, sV pA0 t18 pc0), (6, iA p1), (7, iA 0), (10, iA t19)] (Vl [(0, sV pA0 t18 pc0), (6, iA p1), (7, iA 0), (10, iA t19)] ?_)
    have h105 : Holds M0 w0 w63 [own rC 23 (sV pA0 (sD t18 p1 (wA (p1 + t19))) pc0) (sD t18 p1 (wA (p1 + t19)))] := by have hY : Holds M0 w0 w63 [own rC 23 (sV pA0 t18 pc0) (sD t18 p1 (wA (p1 + t19)))] := h65; simpa only [sV, sD, stD_length] using hY
    refine RunsI.is [(0, sV pA0 (sD t18 p1 (wA (p1 + t19))) pc0), (6, iA p1), (7, iA 0), (10, iA t19)] (by simp only [sV, sD, stD_length]) (Vl [(0, sV pA0 (sD t18 p1 (wA (p1 + t19))) pc0), (6, iA p1), (7, iA 0), (10, iA t19)] ?_)
    exact hj111 w63 h (h105.pk [0])
   ·intro w66 hu67
    have h68 := h22.call hu67
    have hS69 := hS23.up hu67
    refine OpE.loadOwnA 48 0 23 23 p1 0 (o := (Int.toNat p1) * 1 + 0) h68 (by kernel_rfl) rfl (by kernel_rfl) (by kernel_rfl) hc26 (fun cs70 hk71 => ?_)
    obtain rfl := hk71
    refine ⟨iC (rdD t18 p1), by kernel_rfl, ?_⟩
    refine ⟨hS69, ?_⟩
    refine AnyE.one 11 (by kernel_rfl) (fun w73 hu74 => ?_)
    have h75 := h68.call hu74
    have hS76 := hS69.up hu74
    refine OpE.loadOwnA 44 0 23 23 (wA (p1 + t19)) 0 (o := (Int.toNat (wA (p1 + t19))) * 1 + 0) h75 (by kernel_rfl) rfl (by kernel_rfl) (by kernel_rfl) hc25 (fun cs77 hk78 => ?_)
    obtain rfl := hk78
    refine ⟨iC (rdD t18 (wA (p1 + t19))), by kernel_rfl, ?_⟩
    refine ⟨hS76, ?_⟩
    refine AnyE.idxOwnA 16 49 0 29 23 p1 h22 (by kernel_rfl) hS76 rfl (by kernel_rfl) (by kernel_rfl) hc26 (AnyE.one 17 (by kernel_rfl) (fun w80 hu81 => ?_))
    have h82 := h75.call hu81
    have hS83 := hS76.up hu81
    refine OpE.storeOwnA 0 23 23 p1 0 (iC (rdD t18 (wA (p1 + t19)))) (o := (Int.toNat p1) * 1 + 0) (rdD t18 (wA (p1 + t19))) h82 (by kernel_rfl) (by kernel_rfl) rfl (by kernel_rfl) (by kernel_rfl) (by kernel_rfl) hc26 (fun _ hk => by obtain rfl := hk; exact rfl) ?_
    intro w84 h85 hk86
    have hS87 := hS83.trans hk86 (Kp.turned h22 [0] rfl 0 rfl rfl)
    refine ⟨hS87, ?_⟩
    refine AnyE.one 18 (by kernel_rfl) (fun w88 hu89 => ?_)
    have h90 := h85.call hu89
    have hS91 := hS87.up hu89
    have ⟨hc92, h⟩ := oz h
    refine OpE.idxOwnA 50 0 29 23 (wA (p1 + t19)) h90 (by kernel_rfl) rfl (by kernel_rfl) (by kernel_rfl) hc92 (⟨hS91, ?_⟩)
    refine AnyE.last 19 (by kernel_rfl) (by kernel_rfl) (fun w94 hu95 => ?_)
    have h96 := h90.call hu95
    have hS97 := hS91.up hu95
    refine OpE.storeOwnA 0 23 23 (wA (p1 + t19)) 0 (iC (rdD t18 p1)) (o := (Int.toNat (wA (p1 + t19))) * 1 + 0) (rdD t18 p1) h96 (by kernel_rfl) (by kernel_rfl) rfl (by kernel_rfl) (by kernel_rfl) (by kernel_rfl) hc92 (fun _ hk => by obtain rfl := hk; exact rfl) ?_
    intro w98 h99 hk100
    refine AnyE.done (by kernel_rfl) (fun w102 hu103 => ?_)
    have h104 := h99.call hu103
    refine Vl [(0, sV pA0 t18 pc0), (6, iA p1), (7, iA 0), (10, iA t19)] (Vl [(0, sV pA0 t18 pc0), (6, iA p1), (7, iA 0), (10, iA t19)] ?_)
    have h106 : Holds M0 w0 w102 [own rC 23 (sV pA0 (sD t18 p1 (wA (p1 + t19))) pc0) (sD t18 p1 (wA (p1 + t19)))] := by have hY : Holds M0 w0 w102 [own rC 23 (sV pA0 t18 pc0) (sD t18 p1 (wA (p1 + t19)))] := h104; simpa only [sV, sD, stD_length] using hY
    refine RunsI.is [(0, sV pA0 (sD t18 p1 (wA (p1 + t19))) pc0), (6, iA p1), (7, iA 0), (10, iA t19)] (by simp only [sV, sD, stD_length]) (Vl [(0, sV pA0 (sD t18 p1 (wA (p1 + t19))) pc0), (6, iA p1), (7, iA 0), (10, iA t19)] ?_)
    exact hj111 w102 h (h106.pk [0])
  ·refine Xg 1 [] (Vl [] ?_)
   exact hk0 t18 w (sI h).symm (hH.pk [0])
def slices_heapSortOrdered_uint16_126.f (K : Nat) (p0 : List Int) (p1 : Int) (p2 : Int) : Option (List Int) := (slices_heapSortOrdered_uint16_126.l0 K p0 p1 p2 K p0 (IntKind.wrap .i64 (Int.tdiv (IntKind.wrap .i64 ((IntKind.wrap .i64 (p2 - p1)) - 1)) 2))).bind (fun t15 => (slices_heapSortOrdered_uint16_126.l1 K p0 p1 p2 K t15 (IntKind.wrap .i64 ((IntKind.wrap .i64 (p2 - p1)) - 1))).bind (fun t123 => some t123))
theorem slices_heapSortOrdered_uint16_126_ok (K : Nat) (M0 : Nat → Prop) (w0 : World) (pA0 : Option Addr) (pc0 : Nat) (p0 : List Int) (p1 : Int) (p2 : Int) {wS : World} (h0 : Holds M0 w0 wS [own rC 23 (sV pA0 p0 pc0) p0]) {r : List Int} (h : slices_heapSortOrdered_uint16_126.f K p0 p1 p2 = some r) :
  Calls Tryz.prog 126 #[sV pA0 p0 pc0, iA p1, iA p2] wS (slices_heapSortOrdered_uint16_126.post pA0 pc0 M0 w0 r) := by
 unfold slices_heapSortOrdered_uint16_126.f at h
 refine calls_of F126 rfl [sV pA0 p0 pc0, iA p1, iA p2] (by kernel_rfl) (Xq 1 1 [.c 2] 2 [(0, sV pA0 p0 pc0), (1, iA p1), (2, iA p2), (6, iA p1)] (Zy 1 3 [.c 4] 1 [0, 1, 2, 6, 7] [(7, iA 0)] (Zy 1 5 [.c 6] 4 [0, 6, 7, 8] [(8, iA (wA (p2 - p1)))] (Zy 2 8 [.c 9, .c 21] 4 [0, 6, 7, 8, 9] [(9, iA (wA (Int.tdiv (wA ((wA (p2 - p1)) - 1)) 2)))] (Ye (Xg 2 [.c 11, .lp 11, .blk 0, .c 21] ?_))))))
 obtain ⟨x13, hx14, h⟩ := of_bind h
 refine Vl [(0, sV pA0 p0 pc0), (6, iA p1), (7, iA 0), (8, iA (wA (p2 - p1))), (9, iA (wA (Int.tdiv (wA ((wA (p2 - p1)) - 1)) 2)))] (slices_heapSortOrdered_uint16_126.l0_ok K M0 w0 pA0 pc0 p0 p1 p2 _ x13 ?_ K p0 (wA (Int.tdiv (wA ((wA (p2 - p1)) - 1)) 2)) wS hx14 (h0.pk [0]))
 ·intro t15 w17 hq126 h16
  (try rw [hq126] at h)
  refine Xd 1 22 [.c 23] 3 [(0, sV pA0 t15 pc0), (6, iA p1), (7, iA 0), (10, iA (wA ((wA (p2 - p1)) - 1)))] (Xg 2 [.c 25, .lp 25, .blk 2] ?_)
  obtain ⟨x121, hx122, h⟩ := of_bind h
  refine Vl [(0, sV pA0 t15 pc0), (6, iA p1), (7, iA 0), (10, iA (wA ((wA (p2 - p1)) - 1)))] (slices_heapSortOrdered_uint16_126.l1_ok K M0 w0 pA0 pc0 p0 p1 p2 _ x121 ?_ K t15 (wA ((wA (p2 - p1)) - 1)) w17 hx122 (h16.pk [0]))
  ·intro t123 w125 hq127 h124
   (try rw [hq127] at h)
   refine Xt (.tuple #[]) ?_
   obtain rfl := sI h
   exact ⟨rfl, h124⟩
end

section
abbrev bits_Len64_135.post := pI
def bits_Len64_135.f (K : Nat) (p0 : Int) : Option Int := Let (fun (yj6 : Int × Int) => Let (fun (yj14 : Int × Int) => cond (decide (yj14.1 ≥ 256)) (cond (inR (IntKind.wrap .u8 (Int.fdiv yj14.1 (2 ^ 8))) (⟨#[0, 1, 2, 2, 3, 3, 3, 3, 4, 4, 4, 4, 4, 4, 4, 4, 5, 5, 5, 5, 5, 5, 5, 5, 5, 5, 5, 5, 5, 5, 5, 5, 6, 6, 6, 6, 6, 6, 6, 6, 6, 6, 6, 6, 6, 6, 6, 6, 6, 6, 6, 6, 6, 6, 6, 6, 6, 6, 6, 6, 6, 6, 6, 6, 7, 7, 7, 7, 7, 7, 7, 7, 7, 7, 7, 7, 7, 7, 7, 7, 7, 7, 7, 7, 7, 7, 7, 7, 7, 7, 7, 7, 7, 7, 7, 7, 7, 7, 7, 7, 7, 7, 7, 7, 7, 7, 7, 7, 7, 7, 7, 7, 7, 7, 7, 7, 7, 7, 7, 7, 7, 7, 7, 7, 7, 7, 7, 7, 8, 8, 8, 8, 8, 8, 8, 8, 8, 8, 8, 8, 8, 8, 8, 8, 8, 8, 8, 8, 8, 8, 8, 8, 8, 8, 8, 8, 8, 8, 8, 8, 8, 8, 8, 8, 8, 8, 8, 8, 8, 8, 8, 8, 8, 8, 8, 8, 8, 8, 8, 8, 8, 8, 8, 8, 8, 8, 8, 8, 8, 8, 8, 8, 8, 8, 8, 8, 8, 8, 8, 8, 8, 8, 8, 8, 8, 8, 8, 8, 8, 8, 8, 8, 8, 8, 8, 8, 8, 8, 8, 8, 8, 8, 8, 8, 8, 8, 8, 8, 8, 8, 8, 8, 8, 8, 8, 8, 8, 8, 8, 8, 8, 8, 8, 8, 8, 8, 8, 8, 8, 8, 8, 8, 8, 8, 8, 8]⟩ : ByteArray).size) (some (IntKind.wrap .i64 ((IntKind.wrap .i64 (yj14.2 + 8)) + (IntKind.wrap .i64 (btD (⟨#[0, 1, 2, 2, 3, 3, 3, 3, 4, 4, 4, 4, 4, 4, 4, 4, 5, 5, 5, 5, 5, 5, 5, 5, 5, 5, 5, 5, 5, 5, 5, 5, 6, 6, 6, 6, 6, 6, 6, 6, 6, 6, 6, 6, 6, 6, 6, 6, 6, 6, 6, 6, 6, 6, 6, 6, 6, 6, 6, 6, 6, 6, 6, 6, 7, 7, 7, 7, 7, 7, 7, 7, 7, 7, 7, 7, 7, 7, 7, 7, 7, 7, 7, 7, 7, 7, 7, 7, 7, 7, 7, 7, 7, 7, 7, 7, 7, 7, 7, 7, 7, 7, 7, 7, 7, 7, 7, 7, 7, 7, 7, 7, 7, 7, 7, 7, 7, 7, 7, 7, 7, 7, 7, 7, 7, 7, 7, 7, 8, 8, 8, 8, 8, 8, 8, 8, 8, 8, 8, 8, 8, 8, 8, 8, 8, 8, 8, 8, 8, 8, 8, 8, 8, 8, 8, 8, 8, 8, 8, 8, 8, 8, 8, 8, 8, 8, 8, 8, 8, 8, 8, 8, 8, 8, 8, 8, 8, 8, 8, 8, 8, 8, 8, 8, 8, 8, 8, 8, 8, 8, 8, 8, 8, 8, 8, 8, 8, 8, 8, 8, 8, 8, 8, 8, 8, 8, 8, 8, 8, 8, 8, 8, 8, 8, 8, 8, 8, 8, 8, 8, 8, 8, 8, 8, 8, 8, 8, 8, 8, 8, 8, 8, 8, 8, 8, 8, 8, 8, 8, 8, 8, 8, 8, 8, 8, 8, 8, 8, 8, 8, 8, 8, 8, 8, 8, 8]⟩ : ByteArray) (IntKind.wrap .u8 (Int.fdiv yj14.1 (2 ^ 8)))))))) none) (cond (inR (IntKind.wrap .u8 yj14.1) (⟨#[0, 1, 2, 2, 3, 3, 3, 3, 4, 4, 4, 4, 4, 4, 4, 4, 5, 5, 5, 5, 5, 5, 5, 5, 5, 5, 5, 5, 5, 5, 5, 5, 6, 6, 6, 6, 6, 6, 6, 6, 6, 6, 6, 6, 6, 6, 6, 6, 6, 6, 6, 6, 6, 6, 6, 6, 6, 6, 6, 6, 6, 6, 6, 6, 7, 7, 7, 7, 7, 7, 7, 7, 7, 7, 7, 7, 7, 7, 7, 7, 7, 7, 7, 7, 7, 7, 7, 7, 7, 7, 7, 7, 7, 7, 7, 7, 7, 7, 7, 7, 7, 7, 7, 7, 7, 7, 7, 7, 7, 7, 7, 7, 7, 7, 7, 7, 7, 7, 7, 7, 7, 7, 7, 7, 7, 7, 7, 7, 8, 8, 8, 8, 8, 8, 8, 8, 8, 8, 8, 8, 8, 8, 8, 8, 8, 8, 8, 8, 8, 8, 8, 8, 8, 8, 8, 8, 8, 8, 8, 8, 8, 8, 8, 8, 8, 8, 8, 8, 8, 8, 8, 8, 8, 8, 8, 8, 8, 8, 8, 8, 8, 8, 8, 8, 8, 8, 8, 8, 8, 8, 8, 8, 8, 8, 8, 8, 8, 8, 8, 8, 8, 8, 8, 8, 8, 8, 8, 8, 8, 8, 8, 8, 8, 8, 8, 8, 8, 8, 8, 8, 8, 8, 8, 8, 8, 8, 8, 8, 8, 8, 8, 8, 8, 8, 8, 8, 8, 8, 8, 8, 8, 8, 8, 8, 8, 8, 8, 8, 8, 8, 8, 8, 8, 8, 8, 8]⟩ : ByteArray).size) (some (IntKind.wrap .i64 (yj14.2 + (IntKind.wrap .i64 (btD (⟨#[0, 1, 2, 2, 3, 3, 3, 3, 4, 4, 4, 4, 4, 4, 4, 4, 5, 5, 5, 5, 5, 5, 5, 5, 5, 5, 5, 5, 5, 5, 5, 5, 6, 6, 6, 6, 6, 6, 6, 6, 6, 6, 6, 6, 6, 6, 6, 6, 6, 6, 6, 6, 6, 6, 6, 6, 6, 6, 6, 6, 6, 6, 6, 6, 7, 7, 7, 7, 7, 7, 7, 7, 7, 7, 7, 7, 7, 7, 7, 7, 7, 7, 7, 7, 7, 7, 7, 7, 7, 7, 7, 7, 7, 7, 7, 7, 7, 7, 7, 7, 7, 7, 7, 7, 7, 7, 7, 7, 7, 7, 7, 7, 7, 7, 7, 7, 7, 7, 7, 7, 7, 7, 7, 7, 7, 7, 7, 7, 8, 8, 8, 8, 8, 8, 8, 8, 8, 8, 8, 8, 8, 8, 8, 8, 8, 8, 8, 8, 8, 8, 8, 8, 8, 8, 8, 8, 8, 8, 8, 8, 8, 8, 8, 8, 8, 8, 8, 8, 8, 8, 8, 8, 8, 8, 8, 8, 8, 8, 8, 8, 8, 8, 8, 8, 8, 8, 8, 8, 8, 8, 8, 8, 8, 8, 8, 8, 8, 8, 8, 8, 8, 8, 8, 8, 8, 8, 8, 8, 8, 8, 8, 8, 8, 8, 8, 8, 8, 8, 8, 8, 8, 8, 8, 8, 8, 8, 8, 8, 8, 8, 8, 8, 8, 8, 8, 8, 8, 8, 8, 8, 8, 8, 8, 8, 8, 8, 8, 8, 8, 8, 8, 8, 8, 8, 8, 8]⟩ : ByteArray) (IntKind.wrap .u8 yj14.1)))))) none)) (fun j14 => cond (decide (yj6.1 ≥ 65536)) (j14 ((Int.fdiv yj6.1 (2 ^ 16)), (IntKind.wrap .i64 (yj6.2 + 16)))) (j14 (yj6.1, yj6.2)))) (fun j6 => cond (decide (p0 ≥ 4294967296)) (j6 ((Int.fdiv p0 (2 ^ 32)), 32)) (j6 (p0, 0)))
theorem bits_Len64_135_ok (K : Nat) (M0 : Nat → Prop) (w0 : World) (p0 : Int) (ho : ∀ b, M0 b → b < w0.heap.size) {r : Int} (h : bits_Len64_135.f K p0 = some r) :
  Calls Tryz.prog 135 #[iD p0] w0 (bits_Len64_135.post M0 w0 r) := by
 unfold bits_Len64_135.f at h
 have h0 : Holds M0 w0 w0 [] := Holds.start ho
 refine calls_of F135 rfl [iD p0] (by kernel_rfl) (Xq 1 1 [.c 2] 1 [(0, iD p0), (2, iA 0)] (Zy 2 4 [.c 5, .c 10] 2 [0, 2, 4] [(4, tB (decide (p0 ≥ 4294967296)))] (Ye ?_)))
 obtain ⟨j6, hJ7, h⟩ := of_let h
 have hj8 : ∀ (t2 : Int) (t3 : Int) (w5 : World), j6 (t2, t3) = some r → Holds M0 w0 w5 [] → RunsI F135 [.c 10] [(0, iD t2), (2, iA t3)] w5 (bits_Len64_135.post M0 w0 r) := by
  intro t2 t3 w5 h h4
  rw [hJ7] at h
  clear hJ7
  dsimp only at h
  refine Xd 2 12 [.c 13, .c 18] 2 [(0, iD t2), (2, iA t3), (8, tB (decide (t2 ≥ 65536)))] ?_
  obtain ⟨j14, hJ15, h⟩ := of_let h
  have hj16 : ∀ (t10 : Int) (t11 : Int) (w13 : World), j14 (t10, t11) = some r → Holds M0 w0 w13 [] → RunsI F135 [.c 18] [(0, iD t10), (2, iA t11)] w13 (bits_Len64_135.post M0 w0 r) := by
   intro t10 t11 w13 h h12
   rw [hJ15] at h
   clear hJ15
   dsimp only at h
   refine Xd 2 20 [.c 21, .c 26] 2 [(0, iD t10), (2, iA t11), (14, tB (decide (t10 ≥ 256)))] (Vc 14 22 25 h (fun hc17 h => ?_) fun hc17 h => ?_)
   ·refine Xd 1 23 [.c 24, .c 26] 3 [(0, iD (Int.fdiv t10 (2 ^ 8))), (2, iA t11)] (Xr (Zp 3 [0, 2] [(2, iA (wA (t11 + 8)))] (Yq 1 27 [.c 28] 3 [(19, iA (wA (t11 + 8))), (21, iB (wB (Int.fdiv t10 (2 ^ 8))))] ?_)))
    have ⟨hc18, h⟩ := oz h
    refine Yo (OpE.run 22 (by kernel_rfl) (run_strIdx (T0 := 9) (s := sc0) (j := (wB (Int.fdiv t10 (2 ^ 8)))) (by kernel_rfl) (by kernel_rfl) hc18) (Yd 3 [(2, iA (wA ((wA (t11 + 8)) + (wA (btD sc0 (wB (Int.fdiv t10 (2 ^ 8))))))))] ?_))
    obtain rfl := sI h
    exact Xt (iA (wA ((wA (t11 + 8)) + (wA (btD sc0 (wB (Int.fdiv t10 (2 ^ 8)))))))) ⟨rfl, h12.below⟩
   ·refine Xg 1 [.c 26] (Xq 1 27 [.c 28] 3 [(19, iA t11), (21, iB (wB t10))] ?_)
    have ⟨hc19, h⟩ := oz h
    refine Yo (OpE.run 22 (by kernel_rfl) (run_strIdx (T0 := 9) (s := sc0) (j := (wB t10)) (by kernel_rfl) (by kernel_rfl) hc19) (Yd 3 [(2, iA (wA (t11 + (wA (btD sc0 (wB t10))))))] ?_))
    obtain rfl := sI h
    exact Xt (iA (wA (t11 + (wA (btD sc0 (wB t10)))))) ⟨rfl, h12.below⟩
  clear hJ15
  refine Vc 8 14 17 h (fun hc9 h => ?_) fun hc9 h => ?_
  ·refine Xd 1 15 [.c 16, .c 18] 3 [(0, iD (Int.fdiv t2 (2 ^ 16))), (2, iA t3)] (Xr (Zd 3 [0, 2] [(2, iA (wA (t3 + 16)))] (Vl [(0, iD (Int.fdiv t2 (2 ^ 16))), (2, iA (wA (t3 + 16)))] ?_)))
   exact hj16 (Int.fdiv t2 (2 ^ 16)) (wA (t3 + 16)) w5 h (h4.pk [])
  ·refine Xg 1 [.c 18] (Vl [(0, iD t2), (2, iA t3)] ?_)
   exact hj16 t2 t3 w5 h (h4.pk [])
 clear hJ7
 refine Vc 4 6 9 h (fun hc1 h => ?_) fun hc1 h => ?_
 ·refine Xd 1 7 [.c 8, .c 10] 3 [(0, iD (Int.fdiv p0 (2 ^ 32)))] (Xr (Zd 1 [0, 2] [(2, iA 32)] (Vl [(0, iD (Int.fdiv p0 (2 ^ 32))), (2, iA 32)] ?_)))
  exact hj8 (Int.fdiv p0 (2 ^ 32)) 32 w0 h (h0.pk [])
 ·refine Xg 1 [.c 10] (Vl [(0, iD p0), (2, iA 0)] ?_)
  exact hj8 p0 0 w0 h (h0.pk [])
end

section
abbrev bits_Len_80.post := pI
def bits_Len_80.f (K : Nat) (p0 : Int) : Option Int := (bits_Len64_135.f K p0).bind fun t5 => some t5
theorem bits_Len_80_ok (K : Nat) (M0 : Nat → Prop) (w0 : World) (p0 : Int) (ho : ∀ b, M0 b → b < w0.heap.size) {r : Int} (h : bits_Len_80.f K p0 = some r) :
  Calls Tryz.prog 80 #[iD p0] w0 (bits_Len_80.post M0 w0 r) := by
 unfold bits_Len_80.f at h
 have h0 : Holds M0 w0 w0 [] := Holds.start ho
 refine calls_of F80 rfl [iD p0] (by kernel_rfl) (Xd 1 1 [.c 2] 1 [(0, iD p0)] (Xg 1 [.c 3, .c 8] (Xb false 7 (Xq 2 9 [.c 10] 1 [(6, iD p0)] ?_))))
 obtain ⟨t5, hg4, h⟩ := of_bind h
 refine Yc 7 135 #[iD p0] ((bits_Len64_135_ok K _ w0  p0 h0.old' hg4).mono ?_)
 rintro _ w1 ⟨rfl, hb2⟩
 refine ⟨_, rfl, ?_⟩
 have h3 := h0.call hb2
 refine Yd 1 [(2, iA t5)] ?_
 obtain rfl := sI h
 exact Xt (iA t5) ⟨rfl, h3.below⟩
end

section
def slices_nextPowerOfTwo_163.post (M0 : Nat → Prop) (w0 : World) (r : Int) : Ending → World → Prop := fun e w => e = .returned (.int .u64 r) ∧ Below w0.heap.size w0 w
def slices_nextPowerOfTwo_163.f (K : Nat) (p0 : Int) : Option Int := (bits_Len_80.f K (IntKind.wrap .u64 p0)).bind fun t5 => cond (decide (0 ≤ t5)) (some (IntKind.wrap .u64 (1 * 2 ^ min (Int.toNat t5) 64))) none
theorem slices_nextPowerOfTwo_163_ok (K : Nat) (M0 : Nat → Prop) (w0 : World) (p0 : Int) (ho : ∀ b, M0 b → b < w0.heap.size) {r : Int} (h : slices_nextPowerOfTwo_163.f K p0 = some r) :
  Calls Tryz.prog 163 #[iA p0] w0 (slices_nextPowerOfTwo_163.post M0 w0 r) := by
 unfold slices_nextPowerOfTwo_163.f at h
 have h0 : Holds M0 w0 w0 [] := Holds.start ho
 refine calls_of F163 rfl [iA p0] (by kernel_rfl) (Xq 1 1 [.c 2] 1 [(0, iA p0)] (Yq 1 3 [.c 4] 2 [(4, iD (wD p0))] ?_))
 obtain ⟨t5, hg4, h⟩ := of_bind h
 refine Yc 5 80 #[iD (wD p0)] ((bits_Len_80_ok K _ w0  (wD p0) h0.old' hg4).mono ?_)
 rintro _ w1 ⟨rfl, hb2⟩
 refine ⟨_, rfl, ?_⟩
 have h3 := h0.call hb2
 have ⟨hc6, h⟩ := oz h
 refine Yo (OpE.run 6 (by kernel_rfl) (run_shl (k := .u64) (k' := .i64) (a := 1) (b := t5) (by kernel_rfl) hc6) (Yd 1 [(2, iD (wD (1 * 2 ^ min (Int.toNat t5) 64)))] ?_))
 obtain rfl := sI h
 exact Xt (iD (wD (1 * 2 ^ min (Int.toNat t5) 64))) ⟨rfl, h3.below⟩
end

section
def slices_breakPatternsOrdered_uint16_127.post (pA0 : Option Addr) (pc0 : Nat) (M0 : Nat → Prop) (w0 : World) (r : List Int) : Ending → World → Prop := fun e w => e = .returned (.tuple #[]) ∧ Holds M0 w0 w [own (Rp.int .u16) 23 (.slice pA0 r.length pc0) r]
def slices_breakPatternsOrdered_uint16_127.l0 (K : Nat) (p0 : List Int) (p1 : Int) (p2 : Int) (t18 : Int) : Nat → (List Int) → Int → Int → Option (List Int)
 | 0, _, _, _ => none
 | k + 1, t15, t17, t19 => cond (decide (t19 ≤ (IntKind.wrap .i64 ((IntKind.wrap .i64 (p1 + (IntKind.wrap .i64 ((IntKind.wrap .i64 (Int.tdiv (IntKind.wrap .i64 (p2 - p1)) 4)) * 2)))) + 1)))) (cond (decide ((IntKind.wrap .i64 (band .u64 (bxor .u64 (bxor .u64 (bxor .u64 t17 (IntKind.wrap .u64 (t17 * 2 ^ 13))) (Int.fdiv (bxor .u64 t17 (IntKind.wrap .u64 (t17 * 2 ^ 13))) (2 ^ 7))) (IntKind.wrap .u64 ((bxor .u64 (bxor .u64 t17 (IntKind.wrap .u64 (t17 * 2 ^ 13))) (Int.fdiv (bxor .u64 t17 (IntKind.wrap .u64 (t17 * 2 ^ 13))) (2 ^ 7))) * 2 ^ 17))) (IntKind.wrap .u64 (t18 - 1)))) ≥ (IntKind.wrap .i64 (p2 - p1)))) (cond (inR (IntKind.wrap .i64 (p1 + (IntKind.wrap .i64 ((IntKind.wrap .i64 (band .u64 (bxor .u64 (bxor .u64 (bxor .u64 t17 (IntKind.wrap .u64 (t17 * 2 ^ 13))) (Int.fdiv (bxor .u64 t17 (IntKind.wrap .u64 (t17 * 2 ^ 13))) (2 ^ 7))) (IntKind.wrap .u64 ((bxor .u64 (bxor .u64 t17 (IntKind.wrap .u64 (t17 * 2 ^ 13))) (Int.fdiv (bxor .u64 t17 (IntKind.wrap .u64 (t17 * 2 ^ 13))) (2 ^ 7))) * 2 ^ 17))) (IntKind.wrap .u64 (t18 - 1)))) - (IntKind.wrap .i64 (p2 - p1)))))) t15.length) (cond (inR t19 t15.length) (cond (inR (IntKind.wrap .i64 (p1 + (IntKind.wrap .i64 ((IntKind.wrap .i64 (band .u64 (bxor .u64 (bxor .u64 (bxor .u64 t17 (IntKind.wrap .u64 (t17 * 2 ^ 13))) (Int.fdiv (bxor .u64 t17 (IntKind.wrap .u64 (t17 * 2 ^ 13))) (2 ^ 7))) (IntKind.wrap .u64 ((bxor .u64 (bxor .u64 t17 (IntKind.wrap .u64 (t17 * 2 ^ 13))) (Int.fdiv (bxor .u64 t17 (IntKind.wrap .u64 (t17 * 2 ^ 13))) (2 ^ 7))) * 2 ^ 17))) (IntKind.wrap .u64 (t18 - 1)))) - (IntKind.wrap .i64 (p2 - p1)))))) (stD t15 t19 (rdD t15 (IntKind.wrap .i64 (p1 + (IntKind.wrap .i64 ((IntKind.wrap .i64 (band .u64 (bxor .u64 (bxor .u64 (bxor .u64 t17 (IntKind.wrap .u64 (t17 * 2 ^ 13))) (Int.fdiv (bxor .u64 t17 (IntKind.wrap .u64 (t17 * 2 ^ 13))) (2 ^ 7))) (IntKind.wrap .u64 ((bxor .u64 (bxor .u64 t17 (IntKind.wrap .u64 (t17 * 2 ^ 13))) (Int.fdiv (bxor .u64 t17 (IntKind.wrap .u64 (t17 * 2 ^ 13))) (2 ^ 7))) * 2 ^ 17))) (IntKind.wrap .u64 (t18 - 1)))) - (IntKind.wrap .i64 (p2 - p1)))))))).length) (slices_breakPatternsOrdered_uint16_127.l0 K p0 p1 p2 t18 k (stD (stD t15 t19 (rdD t15 (IntKind.wrap .i64 (p1 + (IntKind.wrap .i64 ((IntKind.wrap .i64 (band .u64 (bxor .u64 (bxor .u64 (bxor .u64 t17 (IntKind.wrap .u64 (t17 * 2 ^ 13))) (Int.fdiv (bxor .u64 t17 (IntKind.wrap .u64 (t17 * 2 ^ 13))) (2 ^ 7))) (IntKind.wrap .u64 ((bxor .u64 (bxor .u64 t17 (IntKind.wrap .u64 (t17 * 2 ^ 13))) (Int.fdiv (bxor .u64 t17 (IntKind.wrap .u64 (t17 * 2 ^ 13))) (2 ^ 7))) * 2 ^ 17))) (IntKind.wrap .u64 (t18 - 1)))) - (IntKind.wrap .i64 (p2 - p1)))))))) (IntKind.wrap .i64 (p1 + (IntKind.wrap .i64 ((IntKind.wrap .i64 (band .u64 (bxor .u64 (bxor .u64 (bxor .u64 t17 (IntKind.wrap .u64 (t17 * 2 ^ 13))) (Int.fdiv (bxor .u64 t17 (IntKind.wrap .u64 (t17 * 2 ^ 13))) (2 ^ 7))) (IntKind.wrap .u64 ((bxor .u64 (bxor .u64 t17 (IntKind.wrap .u64 (t17 * 2 ^ 13))) (Int.fdiv (bxor .u64 t17 (IntKind.wrap .u64 (t17 * 2 ^ 13))) (2 ^ 7))) * 2 ^ 17))) (IntKind.wrap .u64 (t18 - 1)))) - (IntKind.wrap .i64 (p2 - p1)))))) (rdD t15 t19)) (bxor .u64 (bxor .u64 (bxor .u64 t17 (IntKind.wrap .u64 (t17 * 2 ^ 13))) (Int.fdiv (bxor .u64 t17 (IntKind.wrap .u64 (t17 * 2 ^ 13))) (2 ^ 7))) (IntKind.wrap .u64 ((bxor .u64 (bxor .u64 t17 (IntKind.wrap .u64 (t17 * 2 ^ 13))) (Int.fdiv (bxor .u64 t17 (IntKind.wrap .u64 (t17 * 2 ^ 13))) (2 ^ 7))) * 2 ^ 17))) (IntKind.wrap .i64 (t19 + 1))) none) none) none) (cond (inR (IntKind.wrap .i64 (p1 + (IntKind.wrap .i64 (band .u64 (bxor .u64 (bxor .u64 (bxor .u64 t17 (IntKind.wrap .u64 (t17 * 2 ^ 13))) (Int.fdiv (bxor .u64 t17 (IntKind.wrap .u64 (t17 * 2 ^ 13))) (2 ^ 7))) (IntKind.wrap .u64 ((bxor .u64 (bxor .u64 t17 (IntKind.wrap .u64 (t17 * 2 ^ 13))) (Int.fdiv (bxor .u64 t17 (IntKind.wrap .u64 (t17 * 2 ^ 13))) (2 ^ 7))) * 2 ^ 17))) (IntKind.wrap .u64 (t18 - 1)))))) t15.length) (cond (inR t19 t15.length) (cond (inR (IntKind.wrap .i64 (p1 + (IntKind.wrap .i64 (band .u64 (bxor .u64 (bxor .u64 (bxor .u64 t17 (IntKind.wrap .u64 (t17 * 2 ^ 13))) (Int.fdiv (bxor .u64 t17 (IntKind.wrap .u64 (t17 * 2 ^ 13))) (2 ^ 7))) (IntKind.wrap .u64 ((bxor .u64 (bxor .u64 t17 (IntKind.wrap .u64 (t17 * 2 ^ 13))) (Int.fdiv (bxor .u64 t17 (IntKind.wrap .u64 (t17 * 2 ^ 13))) (2 ^ 7))) * 2 ^ 17))) (IntKind.wrap .u64 (t18 - 1)))))) (stD t15 t19 (rdD t15 (IntKind.wrap .i64 (p1 + (IntKind.wrap .i64 (band .u64 (bxor .u64 (bxor .u64 (bxor .u64 t17 (IntKind.wrap .u64 (t17 * 2 ^ 13))) (Int.fdiv (bxor .u64 t17 (IntKind.wrap .u64 (t17 * 2 ^ 13))) (2 ^ 7))) (IntKind.wrap .u64 ((bxor .u64 (bxor .u64 t17 (IntKind.wrap .u64 (t17 * 2 ^ 13))) (Int.fdiv (bxor .u64 t17 (IntKind.wrap .u64 (t17 * 2 ^ 13))) (2 ^ 7))) * 2 ^ 17))) (IntKind.wrap .u64 (t18 - 1)))))))).length) (slices_breakPatternsOrdered_uint16_127.l0 K p0 p1 p2 t18 k (stD (stD t15 t19 (rdD t15 (IntKind.wrap .i64 (p1 + (IntKind.wrap .i64 (band .u64 (bxor .u64 (bxor .u64 (bxor .u64 t17 (IntKind.wrap .u64 (t17 * 2 ^ 13))) (Int.fdiv (bxor .u64 t17 (IntKind.wrap .u64 (t17 * 2 ^ 13))) (2 ^ 7))) (IntKind.wrap .u64 ((bxor .u64 (bxor .u64 t17 (IntKind.wrap .u64 (t17 * 2 ^ 13))) (Int.fdiv (bxor .u64 t17 (IntKind.wrap .u64 (t17 * 2 ^ 13))) (2 ^ 7))) * 2 ^ 17))) (IntKind.wrap .u64 (t18 - 1)))))))) (IntKind.wrap .i64 (p1 + (IntKind.wrap .i64 (band .u64 (bxor .u64 (bxor .u64 (bxor .u64 t17 (IntKind.wrap .u64 (t17 * 2 ^ 13))) (Int.fdiv (bxor .u64 t17 (IntKind.wrap .u64 (t17 * 2 ^ 13))) (2 ^ 7))) (IntKind.wrap .u64 ((bxor .u64 (bxor .u64 t17 (IntKind.wrap .u64 (t17 * 2 ^ 13))) (Int.fdiv (bxor .u64 t17 (IntKind.wrap .u64 (t17 * 2 ^ 13))) (2 ^ 7))) * 2 ^ 17))) (IntKind.wrap .u64 (t18 - 1)))))) (rdD t15 t19)) (bxor .u64 (bxor .u64 (bxor .u64 t17 (IntKind.wrap .u64 (t17 * 2 ^ 13))) (Int.fdiv (bxor .u64 t17 (IntKind.wrap .u64 (t17 * 2 ^ 13))) (2 ^ 7))) (IntKind.wrap .u64 ((bxor .u64 (bxor .u64 t17 (IntKind.wrap .u64 (t17 * 2 ^ 13))) (Int.fdiv (bxor .u64 t17 (IntKind.wrap .u64 (t17 * 2 ^ 13))) (2 ^ 7))) * 2 ^ 17))) (IntKind.wrap .i64 (t19 + 1))) none) none) none)) (some t15)
theorem slices_breakPatternsOrdered_uint16_127.l0_ok (K : Nat) (M0 : Nat → Prop) (w0 : World) (pA0 : Option Addr) (pc0 : Nat) (p0 : List Int) (p1 : Int) (p2 : Int) (t18 : Int) (b16 : Nat) (R : Ending → World → Prop) (x : (List Int)) (hk0 : ∀ (t239 : List Int) (w1 : World), x = t239 → Holds M0 w0 w1 [own rC 23 (sV pA0 t239 pc0) t239] → RunsI F127 [] [] w1 R) :
  ∀ (k : Nat) (t15 : List Int) (t17 : Int) (t19 : Int) (w : World), slices_breakPatternsOrdered_uint16_127.l0 K p0 p1 p2 t18 k t15 t17 t19 = some x → Holds M0 w0 w [own rC 23 (sV pA0 t15 pc0) t15, box b16 179 [iD t17]] → RunsI F127 [.c 13, .lp 13, .blk 0] [(0, sV pA0 t15 pc0), (1, iA p1), (6, iA (wA (p2 - p1))), (7, pt b16), (8, iD t18), (9, iA t19)] w R := by
 intro k
 induction k with
 | zero => intro t15 t17 t19 w h hH; exact absurd h (by simp [slices_breakPatternsOrdered_uint16_127.l0])
 | succ k ih =>
  intro t15 t17 t19 w h hH
  rw [slices_breakPatternsOrdered_uint16_127.l0.eq_2] at h
  refine Xg 1 [.c 14, .c 19, .lp 13, .blk 0] (Xd 1 15 [.c 16, .c 19, .lp 13, .blk 0] 8 [(0, sV pA0 t15 pc0), (1, iA p1), (6, iA (wA (p2 - p1))), (7, pt b16), (8, iD t18), (9, iA t19), (33, tB (decide (t19 ≤ (wA ((wA (p1 + (wA ((wA (Int.tdiv (wA (p2 - p1)) 4)) * 2)))) + 1)))))] (Vc 33 17 18 h (fun hc20 h => ?_) fun hc20 h => ?_))
  ·refine Xg 1 [.c 19, .lp 13, .blk 0] (Xg 3 [.c 22, .c 23, .blk 1, .c 30, .lp 13, .blk 0] (Xr (RegI.enter 36 [0, 1, 6, 7, 8, 9] [(0, sV pA0 t15 pc0), (1, iA p1), (6, iA (wA (p2 - p1))), (7, pt b16), (8, iD t18), (9, iA t19)] (by kernel_rfl) (by kernel_rfl) (by kernel_rfl) (by kernel_rfl) F164 164 rfl [pt b16] (by kernel_rfl) (by kernel_rfl) (Xd 1 1 [.c 2] 1 [(0, pt b16)] (Xg 1 [.c 3, .c 4] (RunsI.any 10 (by kernel_rfl) (by kernel_rfl) (by kernel_rfl) (Kp ([] : List Nat) (World.drew w)) ?_))))))
   have h22 := hH.drew
   generalize World.drew w = w21 at h22 ⊢
   have hS23 := Kp.refl ([] : List Nat) w21
   refine Wu 0 3 (pt b16) hS23 (Wu 1 4 (pt b16) hS23 (Wa 2 5 1 179 b16 0 (iD t17) [] h22 rfl hS23 rfl (Wu 3 6 (pt b16) hS23 (Wu 4 7 (pt b16) hS23 (Wa 5 8 1 179 b16 0 (iD t17) [] h22 rfl hS23 rfl (Wu 6 9 (iD (wD (t17 * 2 ^ 13))) hS23 (Wu 7 10 (iD (bxor .u64 t17 (wD (t17 * 2 ^ 13)))) hS23 (Wu 8 11 (pt b16) hS23 (AnyE.last 9 (by kernel_rfl) (by kernel_rfl) (fun w25 hu26 => ?_))))))))))
   have h27 := h22.call hu26
   have hS28 := hS23.up hu26
   refine OpE.storeBox 1 179 b16 0 (iD (bxor .u64 t17 (wD (t17 * 2 ^ 13)))) [iD (bxor .u64 t17 (wD (t17 * 2 ^ 13)))] h27 (by kernel_rfl) (by kernel_rfl) rfl (by kernel_rfl) (by kernel_rfl) (by kernel_rfl) ?_
   intro w29 h30 hk31
   refine AnyE.done (by kernel_rfl) (fun w33 hu34 => ?_)
   have h35 := h30.call hu34
   refine Vl [(0, pt b16)] (Xg 1 [.c 5, .c 6] (RunsI.any 10 (by kernel_rfl) (by kernel_rfl) (by kernel_rfl) (Kp ([] : List Nat) (World.drew w33)) ?_))
   have h37 := h35.drew
   generalize World.drew w33 = w36 at h37 ⊢
   have hS38 := Kp.refl ([] : List Nat) w36
   refine Wu 0 12 (pt b16) hS38 (Wu 1 13 (pt b16) hS38 (Wa 2 14 1 179 b16 0 (iD (bxor .u64 t17 (wD (t17 * 2 ^ 13)))) [] h37 rfl hS38 rfl (Wu 3 15 (pt b16) hS38 (Wu 4 16 (pt b16) hS38 (Wa 5 17 1 179 b16 0 (iD (bxor .u64 t17 (wD (t17 * 2 ^ 13)))) [] h37 rfl hS38 rfl (Wu 6 18 (iD (Int.fdiv (bxor .u64 t17 (wD (t17 * 2 ^ 13))) (2 ^ 7))) hS38 (Wu 7 19 (iD (bxor .u64 (bxor .u64 t17 (wD (t17 * 2 ^ 13))) (Int.fdiv (bxor .u64 t17 (wD (t17 * 2 ^ 13))) (2 ^ 7)))) hS38 (Wu 8 20 (pt b16) hS38 (AnyE.last 9 (by kernel_rfl) (by kernel_rfl) (fun w40 hu41 => ?_))))))))))
   have h42 := h37.call hu41
   have hS43 := hS38.up hu41
   refine OpE.storeBox 1 179 b16 0 (iD (bxor .u64 (bxor .u64 t17 (wD (t17 * 2 ^ 13))) (Int.fdiv (bxor .u64 t17 (wD (t17 * 2 ^ 13))) (2 ^ 7)))) [iD (bxor .u64 (bxor .u64 t17 (wD (t17 * 2 ^ 13))) (Int.fdiv (bxor .u64 t17 (wD (t17 * 2 ^ 13))) (2 ^ 7)))] h42 (by kernel_rfl) (by kernel_rfl) rfl (by kernel_rfl) (by kernel_rfl) (by kernel_rfl) ?_
   intro w44 h45 hk46
   refine AnyE.done (by kernel_rfl) (fun w48 hu49 => ?_)
   have h50 := h45.call hu49
   refine Vl [(0, pt b16)] (Xg 1 [.c 7, .c 8] (RunsI.any 10 (by kernel_rfl) (by kernel_rfl) (by kernel_rfl) (Kp ([] : List Nat) (World.drew w48)) ?_))
   have h52 := h50.drew
   generalize World.drew w48 = w51 at h52 ⊢
   have hS53 := Kp.refl ([] : List Nat) w51
   refine Wu 0 21 (pt b16) hS53 (Wu 1 22 (pt b16) hS53 (Wa 2 23 1 179 b16 0 (iD (bxor .u64 (bxor .u64 t17 (wD (t17 * 2 ^ 13))) (Int.fdiv (bxor .u64 t17 (wD (t17 * 2 ^ 13))) (2 ^ 7)))) [] h52 rfl hS53 rfl (Wu 3 24 (pt b16) hS53 (Wu 4 25 (pt b16) hS53 (Wa 5 26 1 179 b16 0 (iD (bxor .u64 (bxor .u64 t17 (wD (t17 * 2 ^ 13))) (Int.fdiv (bxor .u64 t17 (wD (t17 * 2 ^ 13))) (2 ^ 7)))) [] h52 rfl hS53 rfl (Wu 6 27 (iD (wD ((bxor .u64 (bxor .u64 t17 (wD (t17 * 2 ^ 13))) (Int.fdiv (bxor .u64 t17 (wD (t17 * 2 ^ 13))) (2 ^ 7))) * 2 ^ 17))) hS53 (Wu 7 28 (iD (bxor .u64 (bxor .u64 (bxor .u64 t17 (wD (t17 * 2 ^ 13))) (Int.fdiv (bxor .u64 t17 (wD (t17 * 2 ^ 13))) (2 ^ 7))) (wD ((bxor .u64 (bxor .u64 t17 (wD (t17 * 2 ^ 13))) (Int.fdiv (bxor .u64 t17 (wD (t17 * 2 ^ 13))) (2 ^ 7))) * 2 ^ 17)))) hS53 (Wu 8 29 (pt b16) hS53 (AnyE.last 9 (by kernel_rfl) (by kernel_rfl) (fun w55 hu56 => ?_))))))))))
   have h57 := h52.call hu56
   have hS58 := hS53.up hu56
   refine OpE.storeBox 1 179 b16 0 (iD (bxor .u64 (bxor .u64 (bxor .u64 t17 (wD (t17 * 2 ^ 13))) (Int.fdiv (bxor .u64 t17 (wD (t17 * 2 ^ 13))) (2 ^ 7))) (wD ((bxor .u64 (bxor .u64 t17 (wD (t17 * 2 ^ 13))) (Int.fdiv (bxor .u64 t17 (wD (t17 * 2 ^ 13))) (2 ^ 7))) * 2 ^ 17)))) [iD (bxor .u64 (bxor .u64 (bxor .u64 t17 (wD (t17 * 2 ^ 13))) (Int.fdiv (bxor .u64 t17 (wD (t17 * 2 ^ 13))) (2 ^ 7))) (wD ((bxor .u64 (bxor .u64 t17 (wD (t17 * 2 ^ 13))) (Int.fdiv (bxor .u64 t17 (wD (t17 * 2 ^ 13))) (2 ^ 7))) * 2 ^ 17)))] h57 (by kernel_rfl) (by kernel_rfl) rfl (by kernel_rfl) (by kernel_rfl) (by kernel_rfl) ?_
   intro w59 h60 hk61
   refine AnyE.done (by kernel_rfl) (fun w63 hu64 => ?_)
   have h65 := h60.call hu64
   refine Vl [(0, pt b16)] (Xq 1 9 [.c 10] 2 [(31, pt b16)] (Ya 32 1 179 b16 0 (iD (bxor .u64 (bxor .u64 (bxor .u64 t17 (wD (t17 * 2 ^ 13))) (Int.fdiv (bxor .u64 t17 (wD (t17 * 2 ^ 13))) (2 ^ 7))) (wD ((bxor .u64 (bxor .u64 t17 (wD (t17 * 2 ^ 13))) (Int.fdiv (bxor .u64 t17 (wD (t17 * 2 ^ 13))) (2 ^ 7))) * 2 ^ 17)))) h65 rfl (Yd 1 [(2, iD (bxor .u64 (bxor .u64 (bxor .u64 t17 (wD (t17 * 2 ^ 13))) (Int.fdiv (bxor .u64 t17 (wD (t17 * 2 ^ 13))) (2 ^ 7))) (wD ((bxor .u64 (bxor .u64 t17 (wD (t17 * 2 ^ 13))) (Int.fdiv (bxor .u64 t17 (wD (t17 * 2 ^ 13))) (2 ^ 7))) * 2 ^ 17))))] (Xt (iD (bxor .u64 (bxor .u64 (bxor .u64 t17 (wD (t17 * 2 ^ 13))) (Int.fdiv (bxor .u64 t17 (wD (t17 * 2 ^ 13))) (2 ^ 7))) (wD ((bxor .u64 (bxor .u64 t17 (wD (t17 * 2 ^ 13))) (Int.fdiv (bxor .u64 t17 (wD (t17 * 2 ^ 13))) (2 ^ 7))) * 2 ^ 17)))) (cont_mk (Yp 5 [(0, sV pA0 t15 pc0), (1, iA p1), (6, iA (wA (p2 - p1))), (7, pt b16), (8, iD t18), (9, iA t19), (10, iA (wA (band .u64 (bxor .u64 (bxor .u64 (bxor .u64 t17 (wD (t17 * 2 ^ 13))) (Int.fdiv (bxor .u64 t17 (wD (t17 * 2 ^ 13))) (2 ^ 7))) (wD ((bxor .u64 (bxor .u64 t17 (wD (t17 * 2 ^ 13))) (Int.fdiv (bxor .u64 t17 (wD (t17 * 2 ^ 13))) (2 ^ 7))) * 2 ^ 17))) (wD (t18 - 1)))))] (Zy 2 25 [.c 26, .c 29, .blk 1, .c 30, .lp 13, .blk 0] 3 [0, 1, 6, 7, 8, 9, 10, 43] [(43, tB (decide ((wA (band .u64 (bxor .u64 (bxor .u64 (bxor .u64 t17 (wD (t17 * 2 ^ 13))) (Int.fdiv (bxor .u64 t17 (wD (t17 * 2 ^ 13))) (2 ^ 7))) (wD ((bxor .u64 (bxor .u64 t17 (wD (t17 * 2 ^ 13))) (Int.fdiv (bxor .u64 t17 (wD (t17 * 2 ^ 13))) (2 ^ 7))) * 2 ^ 17))) (wD (t18 - 1)))) ≥ (wA (p2 - p1)))))] (Ye (Vc 43 27 28 h (fun hc66 h => ?_) fun hc66 h => ?_)))))))))
   ·refine Xr (Yd 4 [(0, sV pA0 t15 pc0), (1, iA p1), (6, iA (wA (p2 - p1))), (7, pt b16), (8, iD t18), (9, iA t19), (10, iA (wA ((wA (band .u64 (bxor .u64 (bxor .u64 (bxor .u64 t17 (wD (t17 * 2 ^ 13))) (Int.fdiv (bxor .u64 t17 (wD (t17 * 2 ^ 13))) (2 ^ 7))) (wD ((bxor .u64 (bxor .u64 t17 (wD (t17 * 2 ^ 13))) (Int.fdiv (bxor .u64 t17 (wD (t17 * 2 ^ 13))) (2 ^ 7))) * 2 ^ 17))) (wD (t18 - 1)))) - (wA (p2 - p1)))))] (RunsI.any 20 (by kernel_rfl) (by kernel_rfl) (by kernel_rfl) (Kp (mines (pick [own rC 23 (sV pA0 t15 pc0) t15, box b16 179 [iD (bxor .u64 (bxor .u64 (bxor .u64 t17 (wD (t17 * 2 ^ 13))) (Int.fdiv (bxor .u64 t17 (wD (t17 * 2 ^ 13))) (2 ^ 7))) (wD ((bxor .u64 (bxor .u64 t17 (wD (t17 * 2 ^ 13))) (Int.fdiv (bxor .u64 t17 (wD (t17 * 2 ^ 13))) (2 ^ 7))) * 2 ^ 17)))]] [0])) (World.drew w63)) ?_))
    have h68 := h65.drew
    generalize World.drew w63 = w67 at h68 ⊢
    have hS69 := Kp.refl (mines (pick [own rC 23 (sV pA0 t15 pc0) t15, box b16 179 [iD (bxor .u64 (bxor .u64 (bxor .u64 t17 (wD (t17 * 2 ^ 13))) (Int.fdiv (bxor .u64 t17 (wD (t17 * 2 ^ 13))) (2 ^ 7))) (wD ((bxor .u64 (bxor .u64 t17 (wD (t17 * 2 ^ 13))) (Int.fdiv (bxor .u64 t17 (wD (t17 * 2 ^ 13))) (2 ^ 7))) * 2 ^ 17)))]] [0])) w67
    refine Wu 0 47 (sV pA0 t15 pc0) hS69 (Wu 1 48 (iA t19) hS69 (Wu 2 49 (sV pA0 t15 pc0) hS69 (Wu 3 50 (iA p1) hS69 (Wu 4 51 (iA (wA ((wA (band .u64 (bxor .u64 (bxor .u64 (bxor .u64 t17 (wD (t17 * 2 ^ 13))) (Int.fdiv (bxor .u64 t17 (wD (t17 * 2 ^ 13))) (2 ^ 7))) (wD ((bxor .u64 (bxor .u64 t17 (wD (t17 * 2 ^ 13))) (Int.fdiv (bxor .u64 t17 (wD (t17 * 2 ^ 13))) (2 ^ 7))) * 2 ^ 17))) (wD (t18 - 1)))) - (wA (p2 - p1))))) hS69 (Wu 5 52 (iA (wA (p1 + (wA ((wA (band .u64 (bxor .u64 (bxor .u64 (bxor .u64 t17 (wD (t17 * 2 ^ 13))) (Int.fdiv (bxor .u64 t17 (wD (t17 * 2 ^ 13))) (2 ^ 7))) (wD ((bxor .u64 (bxor .u64 t17 (wD (t17 * 2 ^ 13))) (Int.fdiv (bxor .u64 t17 (wD (t17 * 2 ^ 13))) (2 ^ 7))) * 2 ^ 17))) (wD (t18 - 1)))) - (wA (p2 - p1))))))) hS69 (Wu 6 53 (sV pA0 t15 pc0) hS69 (Wu 7 54 (iA p1) hS69 (Wu 8 55 (iA (wA ((wA (band .u64 (bxor .u64 (bxor .u64 (bxor .u64 t17 (wD (t17 * 2 ^ 13))) (Int.fdiv (bxor .u64 t17 (wD (t17 * 2 ^ 13))) (2 ^ 7))) (wD ((bxor .u64 (bxor .u64 t17 (wD (t17 * 2 ^ 13))) (Int.fdiv (bxor .u64 t17 (wD (t17 * 2 ^ 13))) (2 ^ 7))) * 2 ^ 17))) (wD (t18 - 1)))) - (wA (p2 - p1))))) hS69 (Wu 9 56 (iA (wA (p1 + (wA ((wA (band .u64 (bxor .u64 (bxor .u64 (bxor .u64 t17 (wD (t17 * 2 ^ 13))) (Int.fdiv (bxor .u64 t17 (wD (t17 * 2 ^ 13))) (2 ^ 7))) (wD ((bxor .u64 (bxor .u64 t17 (wD (t17 * 2 ^ 13))) (Int.fdiv (bxor .u64 t17 (wD (t17 * 2 ^ 13))) (2 ^ 7))) * 2 ^ 17))) (wD (t18 - 1)))) - (wA (p2 - p1))))))) hS69 ?_)))))))))
    have ⟨hc71, h⟩ := oz h
    refine AnyE.idxOwnA 10 57 0 29 23 (wA (p1 + (wA ((wA (band .u64 (bxor .u64 (bxor .u64 (bxor .u64 t17 (wD (t17 * 2 ^ 13))) (Int.fdiv (bxor .u64 t17 (wD (t17 * 2 ^ 13))) (2 ^ 7))) (wD ((bxor .u64 (bxor .u64 t17 (wD (t17 * 2 ^ 13))) (Int.fdiv (bxor .u64 t17 (wD (t17 * 2 ^ 13))) (2 ^ 7))) * 2 ^ 17))) (wD (t18 - 1)))) - (wA (p2 - p1)))))) h68 (by kernel_rfl) hS69 rfl (by kernel_rfl) (by kernel_rfl) hc71 (Wu 12 59 (sV pA0 t15 pc0) hS69 (Wu 13 60 (iA t19) hS69 ?_))
    have ⟨hc72, h⟩ := oz h
    refine AnyE.idxOwnA 14 61 0 29 23 t19 h68 (by kernel_rfl) hS69 rfl (by kernel_rfl) (by kernel_rfl) hc72 (AnyE.two 11 15 (by kernel_rfl) ?_ ?_)
    ·intro w73 hu74
     have h75 := h68.call hu74
     have hS76 := hS69.up hu74
     refine OpE.loadOwnA 58 0 23 23 (wA (p1 + (wA ((wA (band .u64 (bxor .u64 (bxor .u64 (bxor .u64 t17 (wD (t17 * 2 ^ 13))) (Int.fdiv (bxor .u64 t17 (wD (t17 * 2 ^ 13))) (2 ^ 7))) (wD ((bxor .u64 (bxor .u64 t17 (wD (t17 * 2 ^ 13))) (Int.fdiv (bxor .u64 t17 (wD (t17 * 2 ^ 13))) (2 ^ 7))) * 2 ^ 17))) (wD (t18 - 1)))) - (wA (p2 - p1)))))) 0 (o := (Int.toNat (wA (p1 + (wA ((wA (band .u64 (bxor .u64 (bxor .u64 (bxor .u64 t17 (wD (t17 * 2 ^ 13))) (Int.fdiv (bxor .u64 t17 (wD (t17 * 2 ^ 13))) (2 ^ 7))) (wD ((bxor .u64 (bxor .u64 t17 (wD (t17 * 2 ^ 13))) (Int.fdiv (bxor .u64 t17 (wD (t17 * 2 ^ 13))) (2 ^ 7))) * 2 ^ 17))) (wD (t18 - 1)))) - (wA (p2 - p1))))))) * 1 + 0) h75 (by kernel_rfl) rfl (by kernel_rfl) (by kernel_rfl) hc71 (fun cs77 hk78 => ?_)
     obtain rfl := hk78
     refine ⟨iC (rdD t15 (wA (p1 + (wA ((wA (band .u64 (bxor .u64 (bxor .u64 (bxor .u64 t17 (wD (t17 * 2 ^ 13))) (Int.fdiv (bxor .u64 t17 (wD (t17 * 2 ^ 13))) (2 ^ 7))) (wD ((bxor .u64 (bxor .u64 t17 (wD (t17 * 2 ^ 13))) (Int.fdiv (bxor .u64 t17 (wD (t17 * 2 ^ 13))) (2 ^ 7))) * 2 ^ 17))) (wD (t18 - 1)))) - (wA (p2 - p1))))))), by kernel_rfl, ?_⟩
     refine ⟨hS76, ?_⟩
     refine AnyE.one 15 (by kernel_rfl) (fun w80 hu81 => ?_)
     have h82 := h75.call hu81
     have hS83 := hS76.up hu81
     refine OpE.loadOwnA 62 0 23 23 t19 0 (o := (Int.toNat t19) * 1 + 0) h82 (by kernel_rfl) rfl (by kernel_rfl) (by kernel_rfl) hc72 (fun cs84 hk85 => ?_)
     obtain rfl := hk85
     refine ⟨iC (rdD t15 t19), by kernel_rfl, ?_⟩
     refine ⟨hS83, ?_⟩
     refine AnyE.idxOwnA 16 63 0 29 23 t19 h68 (by kernel_rfl) hS83 rfl (by kernel_rfl) (by kernel_rfl) hc72 (AnyE.one 17 (by kernel_rfl) (fun w87 hu88 => ?_))
     have h89 := h82.call hu88
     have hS90 := hS83.up hu88
     refine OpE.storeOwnA 0 23 23 t19 0 (iC (rdD t15 (wA (p1 + (wA ((wA (band .u64 (bxor .u64 (bxor .u64 (bxor .u64 t17 (wD (t17 * 2 ^ 13))) (Int.fdiv (bxor .u64 t17 (wD (t17 * 2 ^ 13))) (2 ^ 7))) (wD ((bxor .u64 (bxor .u64 t17 (wD (t17 * 2 ^ 13))) (Int.fdiv (bxor .u64 t17 (wD (t17 * 2 ^ 13))) (2 ^ 7))) * 2 ^ 17))) (wD (t18 - 1)))) - (wA (p2 - p1)))))))) (o := (Int.toNat t19) * 1 + 0) (rdD t15 (wA (p1 + (wA ((wA (band .u64 (bxor .u64 (bxor .u64 (bxor .u64 t17 (wD (t17 * 2 ^ 13))) (Int.fdiv (bxor .u64 t17 (wD (t17 * 2 ^ 13))) (2 ^ 7))) (wD ((bxor .u64 (bxor .u64 t17 (wD (t17 * 2 ^ 13))) (Int.fdiv (bxor .u64 t17 (wD (t17 * 2 ^ 13))) (2 ^ 7))) * 2 ^ 17))) (wD (t18 - 1)))) - (wA (p2 - p1))))))) h89 (by kernel_rfl) (by kernel_rfl) rfl (by kernel_rfl) (by kernel_rfl) (by kernel_rfl) hc72 (fun _ hk => by obtain rfl := hk; exact rfl) ?_
     intro w91 h92 hk93
     have hS94 := hS90.trans hk93 (Kp.turned h68 [0] rfl 0 rfl rfl)
     refine ⟨hS94, ?_⟩
     refine AnyE.one 18 (by kernel_rfl) (fun w95 hu96 => ?_)
     have h97 := h92.call hu96
     have hS98 := hS94.up hu96
     have ⟨hc99, h⟩ := oz h
     refine OpE.idxOwnA 64 0 29 23 (wA (p1 + (wA ((wA (band .u64 (bxor .u64 (bxor .u64 (bxor .u64 t17 (wD (t17 * 2 ^ 13))) (Int.fdiv (bxor .u64 t17 (wD (t17 * 2 ^ 13))) (2 ^ 7))) (wD ((bxor .u64 (bxor .u64 t17 (wD (t17 * 2 ^ 13))) (Int.fdiv (bxor .u64 t17 (wD (t17 * 2 ^ 13))) (2 ^ 7))) * 2 ^ 17))) (wD (t18 - 1)))) - (wA (p2 - p1)))))) h97 (by kernel_rfl) rfl (by kernel_rfl) (by kernel_rfl) hc99 (⟨hS98, ?_⟩)
     refine AnyE.last 19 (by kernel_rfl) (by kernel_rfl) (fun w101 hu102 => ?_)
     have h103 := h97.call hu102
     have hS104 := hS98.up hu102
     refine OpE.storeOwnA 0 23 23 (wA (p1 + (wA ((wA (band .u64 (bxor .u64 (bxor .u64 (bxor .u64 t17 (wD (t17 * 2 ^ 13))) (Int.fdiv (bxor .u64 t17 (wD (t17 * 2 ^ 13))) (2 ^ 7))) (wD ((bxor .u64 (bxor .u64 t17 (wD (t17 * 2 ^ 13))) (Int.fdiv (bxor .u64 t17 (wD (t17 * 2 ^ 13))) (2 ^ 7))) * 2 ^ 17))) (wD (t18 - 1)))) - (wA (p2 - p1)))))) 0 (iC (rdD t15 t19)) (o := (Int.toNat (wA (p1 + (wA ((wA (band .u64 (bxor .u64 (bxor .u64 (bxor .u64 t17 (wD (t17 * 2 ^ 13))) (Int.fdiv (bxor .u64 t17 (wD (t17 * 2 ^ 13))) (2 ^ 7))) (wD ((bxor .u64 (bxor .u64 t17 (wD (t17 * 2 ^ 13))) (Int.fdiv (bxor .u64 t17 (wD (t17 * 2 ^ 13))) (2 ^ 7))) * 2 ^ 17))) (wD (t18 - 1)))) - (wA (p2 - p1))))))) * 1 + 0) (rdD t15 t19) h103 (by kernel_rfl) (by kernel_rfl) rfl (by kernel_rfl) (by kernel_rfl) (by kernel_rfl) hc99 (fun _ hk => by obtain rfl := hk; exact rfl) ?_
     intro w105 h106 hk107
     refine AnyE.done (by kernel_rfl) (fun w109 hu110 => ?_)
     have h111 := h106.call hu110
     refine Vl [(0, sV pA0 t15 pc0), (1, iA p1), (6, iA (wA (p2 - p1))), (7, pt b16), (8, iD t18), (9, iA t19)] (Ze 1 30 [.lp 13, .blk 0] 3 [0, 1, 6, 7, 8, 9] [(9, iA (wA (t19 + 1)))] (Xg 1 [.c 13, .lp 13, .blk 0] (Vl [(0, sV pA0 t15 pc0), (1, iA p1), (6, iA (wA (p2 - p1))), (7, pt b16), (8, iD t18), (9, iA (wA (t19 + 1)))] ?_)))
     have h235 : Holds M0 w0 w109 [own rC 23 (sV pA0 (sD t15 t19 (wA (p1 + (wA ((wA (band .u64 (bxor .u64 (bxor .u64 (bxor .u64 t17 (wD (t17 * 2 ^ 13))) (Int.fdiv (bxor .u64 t17 (wD (t17 * 2 ^ 13))) (2 ^ 7))) (wD ((bxor .u64 (bxor .u64 t17 (wD (t17 * 2 ^ 13))) (Int.fdiv (bxor .u64 t17 (wD (t17 * 2 ^ 13))) (2 ^ 7))) * 2 ^ 17))) (wD (t18 - 1)))) - (wA (p2 - p1))))))) pc0) (sD t15 t19 (wA (p1 + (wA ((wA (band .u64 (bxor .u64 (bxor .u64 (bxor .u64 t17 (wD (t17 * 2 ^ 13))) (Int.fdiv (bxor .u64 t17 (wD (t17 * 2 ^ 13))) (2 ^ 7))) (wD ((bxor .u64 (bxor .u64 t17 (wD (t17 * 2 ^ 13))) (Int.fdiv (bxor .u64 t17 (wD (t17 * 2 ^ 13))) (2 ^ 7))) * 2 ^ 17))) (wD (t18 - 1)))) - (wA (p2 - p1))))))), box b16 179 [iD (bxor .u64 (bxor .u64 (bxor .u64 t17 (wD (t17 * 2 ^ 13))) (Int.fdiv (bxor .u64 t17 (wD (t17 * 2 ^ 13))) (2 ^ 7))) (wD ((bxor .u64 (bxor .u64 t17 (wD (t17 * 2 ^ 13))) (Int.fdiv (bxor .u64 t17 (wD (t17 * 2 ^ 13))) (2 ^ 7))) * 2 ^ 17)))]] := by have hY : Holds M0 w0 w109 [own rC 23 (sV pA0 t15 pc0) (sD t15 t19 (wA (p1 + (wA ((wA (band .u64 (bxor .u64 (bxor .u64 (bxor .u64 t17 (wD (t17 * 2 ^ 13))) (Int.fdiv (bxor .u64 t17 (wD (t17 * 2 ^ 13))) (2 ^ 7))) (wD ((bxor .u64 (bxor .u64 t17 (wD (t17 * 2 ^ 13))) (Int.fdiv (bxor .u64 t17 (wD (t17 * 2 ^ 13))) (2 ^ 7))) * 2 ^ 17))) (wD (t18 - 1)))) - (wA (p2 - p1))))))), box b16 179 [iD (bxor .u64 (bxor .u64 (bxor .u64 t17 (wD (t17 * 2 ^ 13))) (Int.fdiv (bxor .u64 t17 (wD (t17 * 2 ^ 13))) (2 ^ 7))) (wD ((bxor .u64 (bxor .u64 t17 (wD (t17 * 2 ^ 13))) (Int.fdiv (bxor .u64 t17 (wD (t17 * 2 ^ 13))) (2 ^ 7))) * 2 ^ 17)))]] := h111; simpa only [sV, sD, stD_length] using hY
     refine RunsI.is [(0, sV pA0 (sD t15 t19 (wA (p1 + (wA ((wA (band .u64 (bxor .u64 (bxor .u64 (bxor .u64 t17 (wD (t17 * 2 ^ 13))) (Int.fdiv (bxor .u64 t17 (wD (t17 * 2 ^ 13))) (2 ^ 7))) (wD ((bxor .u64 (bxor .u64 t17 (wD (t17 * 2 ^ 13))) (Int.fdiv (bxor .u64 t17 (wD (t17 * 2 ^ 13))) (2 ^ 7))) * 2 ^ 17))) (wD (t18 - 1)))) - (wA (p2 - p1))))))) pc0), (1, iA p1), (6, iA (wA (p2 - p1))), (7, pt b16), (8, iD t18), (9, iA (wA (t19 + 1)))] (by simp only [sV, sD, stD_length]) (Vl [(0, sV pA0 (sD t15 t19 (wA (p1 + (wA ((wA (band .u64 (bxor .u64 (bxor .u64 (bxor .u64 t17 (wD (t17 * 2 ^ 13))) (Int.fdiv (bxor .u64 t17 (wD (t17 * 2 ^ 13))) (2 ^ 7))) (wD ((bxor .u64 (bxor .u64 t17 (wD (t17 * 2 ^ 13))) (Int.fdiv (bxor .u64 t17 (wD (t17 * 2 ^ 13))) (2 ^ 7))) * 2 ^ 17))) (wD (t18 - 1)))) - (wA (p2 - p1))))))) pc0), (1, iA p1), (6, iA (wA (p2 - p1))), (7, pt b16), (8, iD t18), (9, iA (wA (t19 + 1)))] ?_)
     exact ih (sD t15 t19 (wA (p1 + (wA ((wA (band .u64 (bxor .u64 (bxor .u64 (bxor .u64 t17 (wD (t17 * 2 ^ 13))) (Int.fdiv (bxor .u64 t17 (wD (t17 * 2 ^ 13))) (2 ^ 7))) (wD ((bxor .u64 (bxor .u64 t17 (wD (t17 * 2 ^ 13))) (Int.fdiv (bxor .u64 t17 (wD (t17 * 2 ^ 13))) (2 ^ 7))) * 2 ^ 17))) (wD (t18 - 1)))) - (wA (p2 - p1))))))) (bxor .u64 (bxor .u64 (bxor .u64 t17 (wD (t17 * 2 ^ 13))) (Int.fdiv (bxor .u64 t17 (wD (t17 * 2 ^ 13))) (2 ^ 7))) (wD ((bxor .u64 (bxor .u64 t17 (wD (t17 * 2 ^ 13))) (Int.fdiv (bxor .u64 t17 (wD (t17 * 2 ^ 13))) (2 ^ 7))) * 2 ^ 17))) (wA (t19 + 1)) w109 h (h235.pk [0, 1])
    ·intro w112 hu113
     have h114 := h68.call hu113
     have hS115 := hS69.up hu113
     refine OpE.loadOwnA 62 0 23 23 t19 0 (o := (Int.toNat t19) * 1 + 0) h114 (by kernel_rfl) rfl (by kernel_rfl) (by kernel_rfl) hc72 (fun cs116 hk117 => ?_)
     obtain rfl := hk117
     refine ⟨iC (rdD t15 t19), by kernel_rfl, ?_⟩
     refine ⟨hS115, ?_⟩
     refine AnyE.one 11 (by kernel_rfl) (fun w119 hu120 => ?_)
     have h121 := h114.call hu120
     have hS122 := hS115.up hu120
     refine OpE.loadOwnA 58 0 23 23 (wA (p1 + (wA ((wA (band .u64 (bxor .u64 (bxor .u64 (bxor .u64 t17 (wD (t17 * 2 ^ 13))) (Int.fdiv (bxor .u64 t17 (wD (t17 * 2 ^ 13))) (2 ^ 7))) (wD ((bxor .u64 (bxor .u64 t17 (wD (t17 * 2 ^ 13))) (Int.fdiv (bxor .u64 t17 (wD (t17 * 2 ^ 13))) (2 ^ 7))) * 2 ^ 17))) (wD (t18 - 1)))) - (wA (p2 - p1)))))) 0 (o := (Int.toNat (wA (p1 + (wA ((wA (band .u64 (bxor .u64 (bxor .u64 (bxor .u64 t17 (wD (t17 * 2 ^ 13))) (Int.fdiv (bxor .u64 t17 (wD (t17 * 2 ^ 13))) (2 ^ 7))) (wD ((bxor .u64 (bxor .u64 t17 (wD (t17 * 2 ^ 13))) (Int.fdiv (bxor .u64 t17 (wD (t17 * 2 ^ 13))) (2 ^ 7))) * 2 ^ 17))) (wD (t18 - 1)))) - (wA (p2 - p1))))))) * 1 + 0) h121 (by kernel_rfl) rfl (by kernel_rfl) (by kernel_rfl) hc71 (fun cs123 hk124 => ?_)
     obtain rfl := hk124
     refine ⟨iC (rdD t15 (wA (p1 + (wA ((wA (band .u64 (bxor .u64 (bxor .u64 (bxor .u64 t17 (wD (t17 * 2 ^ 13))) (Int.fdiv (bxor .u64 t17 (wD (t17 * 2 ^ 13))) (2 ^ 7))) (wD ((bxor .u64 (bxor .u64 t17 (wD (t17 * 2 ^ 13))) (Int.fdiv (bxor .u64 t17 (wD (t17 * 2 ^ 13))) (2 ^ 7))) * 2 ^ 17))) (wD (t18 - 1)))) - (wA (p2 - p1))))))), by kernel_rfl, ?_⟩
     refine ⟨hS122, ?_⟩
     refine AnyE.idxOwnA 16 63 0 29 23 t19 h68 (by kernel_rfl) hS122 rfl (by kernel_rfl) (by kernel_rfl) hc72 (AnyE.one 17 (by kernel_rfl) (fun w126 hu127 => ?_))
     have h128 := h121.call hu127
     have hS129 := hS122.up hu127
     refine OpE.storeOwnA 0 23 23 t19 0 (iC (rdD t15 (wA (p1 + (wA ((wA (band .u64 (bxor .u64 (bxor .u64 (bxor .u64 t17 (wD (t17 * 2 ^ 13))) (Int.fdiv (bxor .u64 t17 (wD (t17 * 2 ^ 13))) (2 ^ 7))) (wD ((bxor .u64 (bxor .u64 t17 (wD (t17 * 2 ^ 13))) (Int.fdiv (bxor .u64 t17 (wD (t17 * 2 ^ 13))) (2 ^ 7))) * 2 ^ 17))) (wD (t18 - 1)))) - (wA (p2 - p1)))))))) (o := (Int.toNat t19) * 1 + 0) (rdD t15 (wA (p1 + (wA ((wA (band .u64 (bxor .u64 (bxor .u64 (bxor .u64 t17 (wD (t17 * 2 ^ 13))) (Int.fdiv (bxor .u64 t17 (wD (t17 * 2 ^ 13))) (2 ^ 7))) (wD ((bxor .u64 (bxor .u64 t17 (wD (t17 * 2 ^ 13))) (Int.fdiv (bxor .u64 t17 (wD (t17 * 2 ^ 13))) (2 ^ 7))) * 2 ^ 17))) (wD (t18 - 1)))) - (wA (p2 - p1))))))) h128 (by kernel_rfl) (by kernel_rfl) rfl (by kernel_rfl) (by kernel_rfl) (by kernel_rfl) hc72 (fun _ hk => by obtain rfl := hk; exact rfl) ?_
     intro w130 h131 hk132
     have hS133 := hS129.trans hk132 (Kp.turned h68 [0] rfl 0 rfl rfl)
     refine ⟨hS133, ?_⟩
     refine AnyE.one 18 (by kernel_rfl) (fun w134 hu135 => ?_)
     have h136 := h131.call hu135
     have hS137 := hS133.up hu135
     have ⟨hc138, h⟩ := oz h
     refine OpE.idxOwnA 64 0 29 23 (wA (p1 + (wA ((wA (band .u64 (bxor .u64 (bxor .u64 (bxor .u64 t17 (wD (t17 * 2 ^ 13))) (Int.fdiv (bxor .u64 t17 (wD (t17 * 2 ^ 13))) (2 ^ 7))) (wD ((bxor .u64 (bxor .u64 t17 (wD (t17 * 2 ^ 13))) (Int.fdiv (bxor .u64 t17 (wD (t17 * 2 ^ 13))) (2 ^ 7))) * 2 ^ 17))) (wD (t18 - 1)))) - (wA (p2 - p1)))))) h136 (by kernel_rfl) rfl (by kernel_rfl) (by kernel_rfl) hc138 (⟨hS137, ?_⟩)
     refine AnyE.last 19 (by kernel_rfl) (by kernel_rfl) (fun w140 hu141 => ?_)
     have h142 := h136.call hu141
     have hS143 := hS137.up hu141
     refine OpE.storeOwnA 0 23 23 (wA (p1 + (wA ((wA (band .u64 (bxor .u64 (bxor .u64 (bxor .u64 t17 (wD (t17 * 2 ^ 13))) (Int.fdiv (bxor .u64 t17 (wD (t17 * 2 ^ 13))) (2 ^ 7))) (wD ((bxor .u64 (bxor .u64 t17 (wD (t17 * 2 ^ 13))) (Int.fdiv (bxor .u64 t17 (wD (t17 * 2 ^ 13))) (2 ^ 7))) * 2 ^ 17))) (wD (t18 - 1)))) - (wA (p2 - p1)))))) 0 (iC (rdD t15 t19)) (o := (Int.toNat (wA (p1 + (wA ((wA (band .u64 (bxor .u64 (bxor .u64 (bxor .u64 t17 (wD (t17 * 2 ^ 13))) (Int.fdiv (bxor .u64 t17 (wD (t17 * 2 ^ 13))) (2 ^ 7))) (wD ((bxor .u64 (bxor .u64 t17 (wD (t17 * 2 ^ 13))) (Int.fdiv (bxor .u64 t17 (wD (t17 * 2 ^ 13))) (2 ^ 7))) * 2 ^ 17))) (wD (t18 - 1)))) - (wA (p2 - p1))))))) * 1 + 0) (rdD t15 t19) h142 (by kernel_rfl) (by kernel_rfl) rfl (by kernel_rfl) (by kernel_rfl) (by kernel_rfl) hc138 (fun _ hk => by obtain rfl := hk; exact rfl) ?_
     intro w144 h145 hk146
     refine AnyE.done (by kernel_rfl) (fun w148 hu149 => ?_)
     have h150 := h145.call hu149
     refine Vl [(0, sV pA0 t15 pc0), (1, iA p1), (6, iA (wA (p2 - p1))), (7, pt b16), (8, iD t18), (9, iA t19)] (Ze 1 30 [.lp 13, .blk 0] 3 [0, 1, 6, 7, 8, 9] [(9, iA (wA (t19 + 1)))] (Xg 1 [.c 13, .lp 13, .blk 0] (Vl [(0, sV pA0 t15 pc0), (1, iA p1), (6, iA (wA (p2 - p1))), (7, pt b16), (8, iD t18), (9, iA (wA (t19 + 1)))] ?_)))
     have h236 : Holds M0 w0 w148 [own rC 23 (sV pA0 (sD t15 t19 (wA (p1 + (wA ((wA (band .u64 (bxor .u64 (bxor .u64 (bxor .u64 t17 (wD (t17 * 2 ^ 13))) (Int.fdiv (bxor .u64 t17 (wD (t17 * 2 ^ 13))) (2 ^ 7))) (wD ((bxor .u64 (bxor .u64 t17 (wD (t17 * 2 ^ 13))) (Int.fdiv (bxor .u64 t17 (wD (t17 * 2 ^ 13))) (2 ^ 7))) * 2 ^ 17))) (wD (t18 - 1)))) - (wA (p2 - p1))))))) pc0) (sD t15 t19 (wA (p1 + (wA ((wA (band .u64 (bxor .u64 (bxor .u64 (bxor .u64 t17 (wD (t17 * 2 ^ 13))) (Int.fdiv (bxor .u64 t17 (wD (t17 * 2 ^ 13))) (2 ^ 7))) (wD ((bxor .u64 (bxor .u64 t17 (wD (t17 * 2 ^ 13))) (Int.fdiv (bxor .u64 t17 (wD (t17 * 2 ^ 13))) (2 ^ 7))) * 2 ^ 17))) (wD (t18 - 1)))) - (wA (p2 - p1))))))), box b16 179 [iD (bxor .u64 (bxor .u64 (bxor .u64 t17 (wD (t17 * 2 ^ 13))) (Int.fdiv (bxor .u64 t17 (wD (t17 * 2 ^ 13))) (2 ^ 7))) (wD ((bxor .u64 (bxor .u64 t17 (wD (t17 * 2 ^ 13))) (Int.fdiv (bxor .u64 t17 (wD (t17 * 2 ^ 13))) (2 ^ 7))) * 2 ^ 17)))]] := by have hY : Holds M0 w0 w148 [own rC 23 (sV pA0 t15 pc0) (sD t15 t19 (wA (p1 + (wA ((wA (band .u64 (bxor .u64 (bxor .u64 (bxor .u64 t17 (wD (t17 * 2 ^ 13))) (Int.fdiv (bxor .u64 t17 (wD (t17 * 2 ^ 13))) (2 ^ 7))) (wD ((bxor .u64 (bxor .u64 t17 (wD (t17 * 2 ^ 13))) (Int.fdiv (bxor .u64 t17 (wD (t17 * 2 ^ 13))) (2 ^ 7))) * 2 ^ 17))) (wD (t18 - 1)))) - (wA (p2 - p1))))))), box b16 179 [iD (bxor .u64 (bxor .u64 (bxor .u64 t17 (wD (t17 * 2 ^ 13))) (Int.fdiv (bxor .u64 t17 (wD (t17 * 2 ^ 13))) (2 ^ 7))) (wD ((bxor .u64 (bxor .u64 t17 (wD (t17 * 2 ^ 13))) (Int.fdiv (bxor .u64 t17 (wD (t17 * 2 ^ 13))) (2 ^ 7))) * 2 ^ 17)))]] := h150; simpa only [sV, sD, stD_length] using hY
     refine RunsI.is [(0, sV pA0 (sD t15 t19 (wA (p1 + (wA ((wA (band .u64 (bxor .u64 (bxor .u64 (bxor .u64 t17 (wD (t17 * 2 ^ 13))) (Int.fdiv (bxor .u64 t17 (wD (t17 * 2 ^ 13))) (2 ^ 7))) (wD ((bxor .u64 (bxor .u64 t17 (wD (t17 * 2 ^ 13))) (Int.fdiv (bxor .u64 t17 (wD (t17 * 2 ^ 13))) (2 ^ 7))) * 2 ^ 17))) (wD (t18 - 1)))) - (wA (p2 - p1))))))) pc0), (1, iA p1), (6, iA (wA (p2 - p1))), (7, pt b16), (8, iD t18), (9, iA (wA (t19 + 1)))] (by simp only [sV, sD, stD_length]) (Vl [(0, sV pA0 (sD t15 t19 (wA (p1 + (wA ((wA (band .u64 (bxor .u64 (bxor .u64 (bxor .u64 t17 (wD (t17 * 2 ^ 13))) (Int.fdiv (bxor .u64 t17 (wD (t17 * 2 ^ 13))) (2 ^ 7))) (wD ((bxor .u64 (bxor .u64 t17 (wD (t17 * 2 ^ 13))) (Int.fdiv (bxor .u64 t17 (wD (t17 * 2 ^ 13))) (2 ^ 7))) * 2 ^ 17))) (wD (t18 - 1)))) - (wA (p2 - p1))))))) pc0), (1, iA p1), (6, iA (wA (p2 - p1))), (7, pt b16), (8, iD t18), (9, iA (wA (t19 + 1)))] ?_)
     exact ih (sD t15 t19 (wA (p1 + (wA ((wA (band .u64 (bxor .u64 (bxor .u64 (bxor .u64 t17 (wD (t17 * 2 ^ 13))) (Int.fdiv (bxor .u64 t17 (wD (t17 * 2 ^ 13))) (2 ^ 7))) (wD ((bxor .u64 (bxor .u64 t17 (wD (t17 * 2 ^ 13))) (Int.fdiv (bxor .u64 t17 (wD (t17 * 2 ^ 13))) (2 ^ 7))) * 2 ^ 17))) (wD (t18 - 1)))) - (wA (p2 - p1))))))) (bxor .u64 (bxor .u64 (bxor .u64 t17 (wD (t17 * 2 ^ 13))) (Int.fdiv (bxor .u64 t17 (wD (t17 * 2 ^ 13))) (2 ^ 7))) (wD ((bxor .u64 (bxor .u64 t17 (wD (t17 * 2 ^ 13))) (Int.fdiv (bxor .u64 t17 (wD (t17 * 2 ^ 13))) (2 ^ 7))) * 2 ^ 17))) (wA (t19 + 1)) w148 h (h236.pk [0, 1])
   ·refine Xg 1 [.c 29, .blk 1, .c 30, .lp 13, .blk 0] (RunsI.any 20 (by kernel_rfl) (by kernel_rfl) (by kernel_rfl) (Kp (mines (pick [own rC 23 (sV pA0 t15 pc0) t15, box b16 179 [iD (bxor .u64 (bxor .u64 (bxor .u64 t17 (wD (t17 * 2 ^ 13))) (Int.fdiv (bxor .u64 t17 (wD (t17 * 2 ^ 13))) (2 ^ 7))) (wD ((bxor .u64 (bxor .u64 t17 (wD (t17 * 2 ^ 13))) (Int.fdiv (bxor .u64 t17 (wD (t17 * 2 ^ 13))) (2 ^ 7))) * 2 ^ 17)))]] [0])) (World.drew w63)) ?_)
    have h152 := h65.drew
    generalize World.drew w63 = w151 at h152 ⊢
    have hS153 := Kp.refl (mines (pick [own rC 23 (sV pA0 t15 pc0) t15, box b16 179 [iD (bxor .u64 (bxor .u64 (bxor .u64 t17 (wD (t17 * 2 ^ 13))) (Int.fdiv (bxor .u64 t17 (wD (t17 * 2 ^ 13))) (2 ^ 7))) (wD ((bxor .u64 (bxor .u64 t17 (wD (t17 * 2 ^ 13))) (Int.fdiv (bxor .u64 t17 (wD (t17 * 2 ^ 13))) (2 ^ 7))) * 2 ^ 17)))]] [0])) w151
    refine Wu 0 47 (sV pA0 t15 pc0) hS153 (Wu 1 48 (iA t19) hS153 (Wu 2 49 (sV pA0 t15 pc0) hS153 (Wu 3 50 (iA p1) hS153 (Wu 4 51 (iA (wA (band .u64 (bxor .u64 (bxor .u64 (bxor .u64 t17 (wD (t17 * 2 ^ 13))) (Int.fdiv (bxor .u64 t17 (wD (t17 * 2 ^ 13))) (2 ^ 7))) (wD ((bxor .u64 (bxor .u64 t17 (wD (t17 * 2 ^ 13))) (Int.fdiv (bxor .u64 t17 (wD (t17 * 2 ^ 13))) (2 ^ 7))) * 2 ^ 17))) (wD (t18 - 1))))) hS153 (Wu 5 52 (iA (wA (p1 + (wA (band .u64 (bxor .u64 (bxor .u64 (bxor .u64 t17 (wD (t17 * 2 ^ 13))) (Int.fdiv (bxor .u64 t17 (wD (t17 * 2 ^ 13))) (2 ^ 7))) (wD ((bxor .u64 (bxor .u64 t17 (wD (t17 * 2 ^ 13))) (Int.fdiv (bxor .u64 t17 (wD (t17 * 2 ^ 13))) (2 ^ 7))) * 2 ^ 17))) (wD (t18 - 1))))))) hS153 (Wu 6 53 (sV pA0 t15 pc0) hS153 (Wu 7 54 (iA p1) hS153 (Wu 8 55 (iA (wA (band .u64 (bxor .u64 (bxor .u64 (bxor .u64 t17 (wD (t17 * 2 ^ 13))) (Int.fdiv (bxor .u64 t17 (wD (t17 * 2 ^ 13))) (2 ^ 7))) (wD ((bxor .u64 (bxor .u64 t17 (wD (t17 * 2 ^ 13))) (Int.fdiv (bxor .u64 t17 (wD (t17 * 2 ^ 13))) (2 ^ 7))) * 2 ^ 17))) (wD (t18 - 1))))) hS153 (Wu 9 56 (iA (wA (p1 + (wA (band .u64 (bxor .u64 (bxor .u64 (bxor .u64 t17 (wD (t17 * 2 ^ 13))) (Int.fdiv (bxor .u64 t17 (wD (t17 * 2 ^ 13))) (2 ^ 7))) (wD ((bxor .u64 (bxor .u64 t17 (wD (t17 * 2 ^ 13))) (Int.fdiv (bxor .u64 t17 (wD (t17 * 2 ^ 13))) (2 ^ 7))) * 2 ^ 17))) (wD (t18 - 1))))))) hS153 ?_)))))))))
    have ⟨hc155, h⟩ := oz h
    refine AnyE.idxOwnA 10 57 0 29 23 (wA (p1 + (wA (band .u64 (bxor .u64 (bxor .u64 (bxor .u64 t17 (wD (t17 * 2 ^ 13))) (Int.fdiv (bxor .u64 t17 (wD (t17 * 2 ^ 13))) (2 ^ 7))) (wD ((bxor .u64 (bxor .u64 t17 (wD (t17 * 2 ^ 13))) (Int.fdiv (bxor .u64 t17 (wD (t17 * 2 ^ 13))) (2 ^ 7))) * 2 ^ 17))) (wD (t18 - 1)))))) h152 (by kernel_rfl) hS153 rfl (by kernel_rfl) (by kernel_rfl) hc155 (Wu 12 59 (sV pA0 t15 pc0) hS153 (Wu 13 60 (iA t19) hS153 ?_))
    have ⟨hc156, h⟩ := oz h
    refine AnyE.idxOwnA 14 61 0 29 23 t19 h152 (by kernel_rfl) hS153 rfl (by kernel_rfl) (by kernel_rfl) hc156 (AnyE.two 11 15 (by kernel_rfl) ?_ ?_)
    ·intro w157 hu158
     have h159 := h152.call hu158
     have hS160 := hS153.up hu158
     refine OpE.loadOwnA 58 0 23 23 (wA (p1 + (wA (band .u64 (bxor .u64 (bxor .u64 (bxor .u64 t17 (wD (t17 * 2 ^ 13))) (Int.fdiv (bxor .u64 t17 (wD (t17 * 2 ^ 13))) (2 ^ 7))) (wD ((bxor .u64 (bxor .u64 t17 (wD (t17 * 2 ^ 13))) (Int.fdiv (bxor .u64 t17 (wD (t17 * 2 ^ 13))) (2 ^ 7))) * 2 ^ 17))) (wD (t18 - 1)))))) 0 (o := (Int.toNat (wA (p1 + (wA (band .u64 (bxor .u64 (bxor .u64 (bxor .u64 t17 (wD (t17 * 2 ^ 13))) (Int.fdiv (bxor .u64 t17 (wD (t17 * 2 ^ 13))) (2 ^ 7))) (wD ((bxor .u64 (bxor .u64 t17 (wD (t17 * 2 ^ 13))) (Int.fdiv (bxor .u64 t17 (wD (t17 * 2 ^ 13))) (2 ^ 7))) * 2 ^ 17))) (wD (t18 - 1))))))) * 1 + 0) h159 (by kernel_rfl) rfl (by kernel_rfl) (by kernel_rfl) hc155 (fun cs161 hk162 => ?_)
     obtain rfl := hk162
     refine ⟨iC (rdD t15 (wA (p1 + (wA (band .u64 (bxor .u64 (bxor .u64 (bxor .u64 t17 (wD (t17 * 2 ^ 13))) (Int.fdiv (bxor .u64 t17 (wD (t17 * 2 ^ 13))) (2 ^ 7))) (wD ((bxor .u64 (bxor .u64 t17 (wD (t17 * 2 ^ 13))) (Int.fdiv (bxor .u64 t17 (wD (t17 * 2 ^ 13))) (2 ^ 7))) * 2 ^ 17))) (wD (t18 - 1))))))), by kernel_rfl, ?_⟩
     refine ⟨hS160, ?_⟩
     refine AnyE.one 15 (by kernel_rfl) (fun w164 hu165 => ?_)
     have h166 := h159.call hu165
     have hS167 := hS160.up hu165
     refine OpE.loadOwnA 62 0 23 23 t19 0 (o := (Int.toNat t19) * 1 + 0) h166 (by kernel_rfl) rfl (by kernel_rfl) (by kernel_rfl) hc156 (fun cs168 hk169 => ?_)
     obtain rfl := hk169
     refine ⟨iC (rdD t15 t19), by kernel_rfl, ?_⟩
     refine ⟨hS167, ?_⟩
     refine AnyE.idxOwnA 16 63 0 29 23 t19 h152 (by kernel_rfl) hS167 rfl (by kernel_rfl) (by kernel_rfl) hc156 (AnyE.one 17 (by kernel_rfl) (fun w171 hu172 => ?_))
     have h173 := h166.call hu172
     have hS174 := hS167.up hu172
     refine OpE.storeOwnA 0 23 23 t19 0 (iC (rdD t15 (wA (p1 + (wA (band .u64 (bxor .u64 (bxor .u64 (bxor .u64 t17 (wD (t17 * 2 ^ 13))) (Int.fdiv (bxor .u64 t17 (wD (t17 * 2 ^ 13))) (2 ^ 7))) (wD ((bxor .u64 (bxor .u64 t17 (wD (t17 * 2 ^ 13))) (Int.fdiv (bxor .u64 t17 (wD (t17 * 2 ^ 13))) (2 ^ 7))) * 2 ^ 17))) (wD (t18 - 1)))))))) (o := (Int.toNat t19) * 1 + 0) (rdD t15 (wA (p1 + (wA (band .u64 (bxor .u64 (bxor .u64 (bxor .u64 t17 (wD (t17 * 2 ^ 13))) (Int.fdiv (bxor .u64 t17 (wD (t17 * 2 ^ 13))) (2 ^ 7))) (wD ((bxor .u64 (bxor .u64 t17 (wD (t17 * 2 ^ 13))) (Int.fdiv (bxor .u64 t17 (wD (t17 * 2 ^ 13))) (2 ^ 7))) * 2 ^ 17))) (wD (t18 - 1))))))) h173 (by kernel_rfl) (by kernel_rfl) rfl (by kernel_rfl) (by kernel_rfl) (by kernel_rfl) hc156 (fun _ hk => by obtain rfl := hk; exact rfl) ?_
     intro w175 h176 hk177
     have hS178 := hS174.trans hk177 (Kp.turned h152 [0] rfl 0 rfl rfl)
     refine ⟨hS178, ?_⟩
     refine AnyE.one 18 (by kernel_rfl) (fun w179 hu180 => ?_)
     have h181 := h176.call hu180
     have hS182 := hS178.up hu180
     have ⟨hc183, h⟩ := oz h
     refine OpE.idxOwnA 64 0 29 23 (wA (p1 + (wA (band .u64 (bxor .u64 (bxor .u64 (bxor .u64 t17 (wD (t17 * 2 ^ 13))) (Int.fdiv (bxor .u64 t17 (wD (t17 * 2 ^ 13))) (2 ^ 7))) (wD ((bxor .u64 (bxor .u64 t17 (wD (t17 * 2 ^ 13))) (Int.fdiv (bxor .u64 t17 (wD (t17 * 2 ^ 13))) (2 ^ 7))) * 2 ^ 17))) (wD (t18 - 1)))))) h181 (by kernel_rfl) rfl (by kernel_rfl) (by kernel_rfl) hc183 (⟨hS182, ?_⟩)
     refine AnyE.last 19 (by kernel_rfl) (by kernel_rfl) (fun w185 hu186 => ?_)
     have h187 := h181.call hu186
     have hS188 := hS182.up hu186
     refine OpE.storeOwnA 0 23 23 (wA (p1 + (wA (band .u64 (bxor .u64 (bxor .u64 (bxor .u64 t17 (wD (t17 * 2 ^ 13))) (Int.fdiv (bxor .u64 t17 (wD (t17 * 2 ^ 13))) (2 ^ 7))) (wD ((bxor .u64 (bxor .u64 t17 (wD (t17 * 2 ^ 13))) (Int.fdiv (bxor .u64 t17 (wD (t17 * 2 ^ 13))) (2 ^ 7))) * 2 ^ 17))) (wD (t18 - 1)))))) 0 (iC (rdD t15 t19)) (o := (Int.toNat (wA (p1 + (wA (band .u64 (bxor .u64 (bxor .u64 (bxor .u64 t17 (wD (t17 * 2 ^ 13))) (Int.fdiv (bxor .u64 t17 (wD (t17 * 2 ^ 13))) (2 ^ 7))) (wD ((bxor .u64 (bxor .u64 t17 (wD (t17 * 2 ^ 13))) (Int.fdiv (bxor .u64 t17 (wD (t17 * 2 ^ 13))) (2 ^ 7))) * 2 ^ 17))) (wD (t18 - 1))))))) * 1 + 0) (rdD t15 t19) h187 (by kernel_rfl) (by kernel_rfl) rfl (by kernel_rfl) (by kernel_rfl) (by kernel_rfl) hc183 (fun _ hk => by obtain rfl := hk; exact rfl) ?_
     intro w189 h190 hk191
     refine AnyE.done (by kernel_rfl) (fun w193 hu194 => ?_)
     have h195 := h190.call hu194
     refine Vl [(0, sV pA0 t15 pc0), (1, iA p1), (6, iA (wA (p2 - p1))), (7, pt b16), (8, iD t18), (9, iA t19)] (Ze 1 30 [.lp 13, .blk 0] 3 [0, 1, 6, 7, 8, 9] [(9, iA (wA (t19 + 1)))] (Xg 1 [.c 13, .lp 13, .blk 0] (Vl [(0, sV pA0 t15 pc0), (1, iA p1), (6, iA (wA (p2 - p1))), (7, pt b16), (8, iD t18), (9, iA (wA (t19 + 1)))] ?_)))
     have h237 : Holds M0 w0 w193 [own rC 23 (sV pA0 (sD t15 t19 (wA (p1 + (wA (band .u64 (bxor .u64 (bxor .u64 (bxor .u64 t17 (wD (t17 * 2 ^ 13))) (Int.fdiv (bxor .u64 t17 (wD (t17 * 2 ^ 13))) (2 ^ 7))) (wD ((bxor .u64 (bxor .u64 t17 (wD (t17 * 2 ^ 13))) (Int.fdiv (bxor .u64 t17 (wD (t17 * 2 ^ 13))) (2 ^ 7))) * 2 ^ 17))) (wD (t18 - 1))))))) pc0) (sD t15 t19 (wA (p1 + (wA (band .u64 (bxor .u64 (bxor .u64 (bxor .u64 t17 (wD (t17 * 2 ^ 13))) (Int.fdiv (bxor .u64 t17 (wD (t17 * 2 ^ 13))) (2 ^ 7))) (wD ((bxor .u64 (bxor .u64 t17 (wD (t17 * 2 ^ 13))) (Int.fdiv (bxor .u64 t17 (wD (t17 * 2 ^ 13))) (2 ^ 7))) * 2 ^ 17))) (wD (t18 - 1))))))), box b16 179 [iD (bxor .u64 (bxor .u64 (bxor .u64 t17 (wD (t17 * 2 ^ 13))) (Int.fdiv (bxor .u64 t17 (wD (t17 * 2 ^ 13))) (2 ^ 7))) (wD ((bxor .u64 (bxor .u64 t17 (wD (t17 * 2 ^ 13))) (Int.fdiv (bxor .u64 t17 (wD (t17 * 2 ^ 13))) (2 ^ 7))) * 2 ^ 17)))]] := by have hY : Holds M0 w0 w193 [own rC 23 (sV pA0 t15 pc0) (sD t15 t19 (wA (p1 + (wA (band .u64 (bxor .u64 (bxor .u64 (bxor .u64 t17 (wD (t17 * 2 ^ 13))) (Int.fdiv (bxor .u64 t17 (wD (t17 * 2 ^ 13))) (2 ^ 7))) (wD ((bxor .u64 (bxor .u64 t17 (wD (t17 * 2 ^ 13))) (Int.fdiv (bxor .u64 t17 (wD (t17 * 2 ^ 13))) (2 ^ 7))) * 2 ^ 17))) (wD (t18 - 1))))))), box b16 179 [iD (bxor .u64 (bxor .u64 (bxor .u64 t17 (wD (t17 * 2 ^ 13))) (Int.fdiv (bxor .u64 t17 (wD (t17 * 2 ^ 13))) (2 ^ 7))) (wD ((bxor .u64 (bxor .u64 t17 (wD (t17 * 2 ^ 13))) (Int.fdiv (bxor .u64 t17 (wD (t17 * 2 ^ 13))) (2 ^ 7))) * 2 ^ 17)))]] := h195; simpa only [sV, sD, stD_length] using hY
     refine RunsI.is [(0, sV pA0 (sD t15 t19 (wA (p1 + (wA (band .u64 (bxor .u64 (bxor .u64 (bxor .u64 t17 (wD (t17 * 2 ^ 13))) (Int.fdiv (bxor .u64 t17 (wD (t17 * 2 ^ 13))) (2 ^ 7))) (wD ((bxor .u64 (bxor .u64 t17 (wD (t17 * 2 ^ 13))) (Int.fdiv (bxor .u64 t17 (wD (t17 * 2 ^ 13))) (2 ^ 7))) * 2 ^ 17))) (wD (t18 - 1))))))) pc0), (1, iA p1), (6, iA (wA (p2 - p1))), (7, pt b16), (8, iD t18), (9, iA (wA (t19 + 1)))] (by simp only [sV, sD, stD_length]) (Vl [(0, sV pA0 (sD t15 t19 (wA (p1 + (wA (band .u64 (bxor .u64 (bxor .u64 (bxor .u64 t17 (wD (t17 * 2 ^ 13))) (Int.fdiv (bxor .u64 t17 (wD (t17 * 2 ^ 13))) (2 ^ 7))) (wD ((bxor .u64 (bxor .u64 t17 (wD (t17 * 2 ^ 13))) (Int.fdiv (bxor .u64 t17 (wD (t17 * 2 ^ 13))) (2 ^ 7))) * 2 ^ 17))) (wD (t18 - 1))))))) pc0), (1, iA p1), (6, iA (wA (p2 - p1))), (7, pt b16), (8, iD t18), (9, iA (wA (t19 + 1)))] ?_)
     exact ih (sD t15 t19 (wA (p1 + (wA (band .u64 (bxor .u64 (bxor .u64 (bxor .u64 t17 (wD (t17 * 2 ^ 13))) (Int.fdiv (bxor .u64 t17 (wD (t17 * 2 ^ 13))) (2 ^ 7))) (wD ((bxor .u64 (bxor .u64 t17 (wD (t17 * 2 ^ 13))) (Int.fdiv (bxor .u64 t17 (wD (t17 * 2 ^ 13))) (2 ^ 7))) * 2 ^ 17))) (wD (t18 - 1))))))) (bxor .u64 (bxor .u64 (bxor .u64 t17 (wD (t17 * 2 ^ 13))) (Int.fdiv (bxor .u64 t17 (wD (t17 * 2 ^ 13))) (2 ^ 7))) (wD ((bxor .u64 (bxor .u64 t17 (wD (t17 * 2 ^ 13))) (Int.fdiv (bxor .u64 t17 (wD (t17 * 2 ^ 13))) (2 ^ 7))) * 2 ^ 17))) (wA (t19 + 1)) w193 h (h237.pk [0, 1])
    ·intro w196 hu197
     have h198 := h152.call hu197
     have hS199 := hS153.up hu197
     refine OpE.loadOwnA 62 0 23 23 t19 0 (o := (Int.toNat t19) * 1 + 0) h198 (by kernel_rfl) rfl (by kernel_rfl) (by kernel_rfl) hc156 (fun cs200 hk201 => ?_)
     obtain rfl := hk201
     refine ⟨iC (rdD t15 t19), by kernel_rfl, ?_⟩
     refine ⟨hS199, ?_⟩
     refine AnyE.one 11 (by kernel_rfl) (fun w203 hu204 => ?_)
     have h205 := h198.call hu204
     have hS206 := hS199.up hu204
     refine OpE.loadOwnA 58 0 23 23 (wA (p1 + (wA (band .u64 (bxor .u64 (bxor .u64 (bxor .u64 t17 (wD (t17 * 2 ^ 13))) (Int.fdiv (bxor .u64 t17 (wD (t17 * 2 ^ 13))) (2 ^ 7))) (wD ((bxor .u64 (bxor .u64 t17 (wD (t17 * 2 ^ 13))) (Int.fdiv (bxor .u64 t17 (wD (t17 * 2 ^ 13))) (2 ^ 7))) * 2 ^ 17))) (wD (t18 - 1)))))) 0 (o := (Int.toNat (wA (p1 + (wA (band .u64 (bxor .u64 (bxor .u64 (bxor .u64 t17 (wD (t17 * 2 ^ 13))) (Int.fdiv (bxor .u64 t17 (wD (t17 * 2 ^ 13))) (2 ^ 7))) (wD ((bxor .u64 (bxor .u64 t17 (wD (t17 * 2 ^ 13))) (Int.fdiv (bxor .u64 t17 (wD (t17 * 2 ^ 13))) (2 ^ 7))) * 2 ^ 17))) (wD (t18 - 1))))))) * 1 + 0) h205 (by kernel_rfl) rfl (by kernel_rfl) (by kernel_rfl) hc155 (fun cs207 hk208 => ?_)
     obtain rfl := hk208
     refine ⟨iC (rdD t15 (wA (p1 + (wA (band .u64 (bxor .u64 (bxor .u64 (bxor .u64 t17 (wD (t17 * 2 ^ 13))) (Int.fdiv (bxor .u64 t17 (wD (t17 * 2 ^ 13))) (2 ^ 7))) (wD ((bxor .u64 (bxor .u64 t17 (wD (t17 * 2 ^ 13))) (Int.fdiv (bxor .u64 t17 (wD (t17 * 2 ^ 13))) (2 ^ 7))) * 2 ^ 17))) (wD (t18 - 1))))))), by kernel_rfl, ?_⟩
     refine ⟨hS206, ?_⟩
     refine AnyE.idxOwnA 16 63 0 29 23 t19 h152 (by kernel_rfl) hS206 rfl (by kernel_rfl) (by kernel_rfl) hc156 (AnyE.one 17 (by kernel_rfl) (fun w210 hu211 => ?_))
     have h212 := h205.call hu211
     have hS213 := hS206.up hu211
     refine OpE.storeOwnA 0 23 23 t19 0 (iC (rdD t15 (wA (p1 + (wA (band .u64 (bxor .u64 (bxor .u64 (bxor .u64 t17 (wD (t17 * 2 ^ 13))) (Int.fdiv (bxor .u64 t17 (wD (t17 * 2 ^ 13))) (2 ^ 7))) (wD ((bxor .u64 (bxor .u64 t17 (wD (t17 * 2 ^ 13))) (Int.fdiv (bxor .u64 t17 (wD (t17 * 2 ^ 13))) (2 ^ 7))) * 2 ^ 17))) (wD (t18 - 1)))))))) (o := (Int.toNat t19) * 1 + 0) (rdD t15 (wA (p1 + (wA (band .u64 (bxor .u64 (bxor .u64 (bxor .u64 t17 (wD (t17 * 2 ^ 13))) (Int.fdiv (bxor .u64 t17 (wD (t17 * 2 ^ 13))) (2 ^ 7))) (wD ((bxor .u64 (bxor .u64 t17 (wD (t17 * 2 ^ 13))) (Int.fdiv (bxor .u64 t17 (wD (t17 * 2 ^ 13))) (2 ^ 7))) * 2 ^ 17))) (wD (t18 - 1))))))) h212 (by kernel_rfl) (by kernel_rfl) rfl (by kernel_rfl) (by kernel_rfl) (by kernel_rfl) hc156 (fun _ hk => by obtain rfl := hk; exact rfl) ?_
     intro w214 h215 hk216
     have hS217 := hS213.trans hk216 (Kp.turned h152 [0] rfl 0 rfl rfl)
     refine ⟨hS217, ?_⟩
     refine AnyE.one 18 (by kernel_rfl) (fun w218 hu219 => ?_)
     have h220 := h215.call hu219
     have hS221 := hS217.up hu219
     have ⟨hc222, h⟩ := oz h
     refine OpE.idxOwnA 64 0 29 23 (wA (p1 + (wA (band .u64 (bxor .u64 (bxor .u64 (bxor .u64 t17 (wD (t17 * 2 ^ 13))) (Int.fdiv (bxor .u64 t17 (wD (t17 * 2 ^ 13))) (2 ^ 7))) (wD ((bxor .u64 (bxor .u64 t17 (wD (t17 * 2 ^ 13))) (Int.fdiv (bxor .u64 t17 (wD (t17 * 2 ^ 13))) (2 ^ 7))) * 2 ^ 17))) (wD (t18 - 1)))))) h220 (by kernel_rfl) rfl (by kernel_rfl) (by kernel_rfl) hc222 (⟨hS221, ?_⟩)
     refine AnyE.last 19 (by kernel_rfl) (by kernel_rfl) (fun w224 hu225 => ?_)
     have h226 := h220.call hu225
     have hS227 := hS221.up hu225
     refine OpE.storeOwnA 0 23 23 (wA (p1 + (wA (band .u64 (bxor .u64 (bxor .u64 (bxor .u64 t17 (wD (t17 * 2 ^ 13))) (Int.fdiv (bxor .u64 t17 (wD (t17 * 2 ^ 13))) (2 ^ 7))) (wD ((bxor .u64 (bxor .u64 t17 (wD (t17 * 2 ^ 13))) (Int.fdiv (bxor .u64 t17 (wD (t17 * 2 ^ 13))) (2 ^ 7))) * 2 ^ 17))) (wD (t18 - 1)))))) 0 (iC (rdD t15 t19)) (o := (Int.toNat (wA (p1 + (wA (band .u64 (bxor .u64 (bxor .u64 (bxor .u64 t17 (wD (t17 * 2 ^ 13))) (Int.fdiv (bxor .u64 t17 (wD (t17 * 2 ^ 13))) (2 ^ 7))) (wD ((bxor .u64 (bxor .u64 t17 (wD (t17 * 2 ^ 13))) (Int.fdiv (bxor .u64 t17 (wD (t17 * 2 ^ 13))) (2 ^ 7))) * 2 ^ 17))) (wD (t18 - 1))))))) * 1 + 0) (rdD t15 t19) h226 (by kernel_rfl) (by kernel_rfl) rfl (by kernel_rfl) (by kernel_rfl) (by kernel_rfl) hc222 (fun _ hk => by obtain rfl := hk; exact rfl) ?_
     intro w228 h229 hk230
     refine AnyE.done (by kernel_rfl) (fun w232 hu233 => ?_)
     have h234 := h229.call hu233
     refine Vl [(0, sV pA0 t15 pc0), (1, iA p1), (6, iA (wA (p2 - p1))), (7, pt b16), (8, iD t18), (9, iA t19)] (Ze 1 30 [.lp 13, .blk 0] 3 [0, 1, 6, 7, 8, 9] [(9, iA (wA (t19 + 1)))] (Xg 1 [.c 13, .lp 13, .blk 0] (Vl [(0, sV pA0 t15 pc0), (1, iA p1), (6, iA (wA (p2 - p1))), (7, pt b16), (8, iD t18), (9, iA (wA (t19 + 1)))] ?_)))
     have h238 : Holds M0 w0 w232 [own rC 23 (sV pA0 (sD t15 t19 (wA (p1 + (wA (band .u64 (bxor .u64 (bxor .u64 (bxor .u64 t17 (wD (t17 * 2 ^ 13))) (Int.fdiv (bxor .u64 t17 (wD (t17 * 2 ^ 13))) (2 ^ 7))) (wD ((bxor .u64 (bxor .u64 t17 (wD (t17 * 2 ^ 13))) (Int.fdiv (bxor .u64 t17 (wD (t17 * 2 ^ 13))) (2 ^ 7))) * 2 ^ 17))) (wD (t18 - 1))))))) pc0) (sD t15 t19 (wA (p1 + (wA (band .u64 (bxor .u64 (bxor .u64 (bxor .u64 t17 (wD (t17 * 2 ^ 13))) (Int.fdiv (bxor .u64 t17 (wD (t17 * 2 ^ 13))) (2 ^ 7))) (wD ((bxor .u64 (bxor .u64 t17 (wD (t17 * 2 ^ 13))) (Int.fdiv (bxor .u64 t17 (wD (t17 * 2 ^ 13))) (2 ^ 7))) * 2 ^ 17))) (wD (t18 - 1))))))), box b16 179 [iD (bxor .u64 (bxor .u64 (bxor .u64 t17 (wD (t17 * 2 ^ 13))) (Int.fdiv (bxor .u64 t17 (wD (t17 * 2 ^ 13))) (2 ^ 7))) (wD ((bxor .u64 (bxor .u64 t17 (wD (t17 * 2 ^ 13))) (Int.fdiv (bxor .u64 t17 (wD (t17 * 2 ^ 13))) (2 ^ 7))) * 2 ^ 17)))]] := by have hY : Holds M0 w0 w232 [own rC 23 (sV pA0 t15 pc0) (sD t15 t19 (wA (p1 + (wA (band .u64 (bxor .u64 (bxor .u64 (bxor .u64 t17 (wD (t17 * 2 ^ 13))) (Int.fdiv (bxor .u64 t17 (wD (t17 * 2 ^ 13))) (2 ^ 7))) (wD ((bxor .u64 (bxor .u64 t17 (wD (t17 * 2 ^ 13))) (Int.fdiv (bxor .u64 t17 (wD (t17 * 2 ^ 13))) (2 ^ 7))) * 2 ^ 17))) (wD (t18 - 1))))))), box b16 179 [iD (bxor .u64 (bxor .u64 (bxor .u64 t17 (wD (t17 * 2 ^ 13))) (Int.fdiv (bxor .u64 t17 (wD (t17 * 2 ^ 13))) (2 ^ 7))) (wD ((bxor .u64 (bxor .u64 t17 (wD (t17 * 2 ^ 13))) (Int.fdiv (bxor .u64 t17 (wD (t17 * 2 ^ 13))) (2 ^ 7))) * 2 ^ 17)))]] := h234; simpa only [sV, sD, stD_length] using hY
     refine RunsI.is [(0, sV pA0 (sD t15 t19 (wA (p1 + (wA (band .u64 (bxor .u64 (bxor .u64 (bxor .u64 t17 (wD (t17 * 2 ^ 13))) (Int.fdiv (bxor .u64 t17 (wD (t17 * 2 ^ 13))) (2 ^ 7))) (wD ((bxor .u64 (bxor .u64 t17 (wD (t17 * 2 ^ 13))) (Int.fdiv (bxor .u64 t17 (wD (t17 * 2 ^ 13))) (2 ^ 7))) * 2 ^ 17))) (wD (t18 - 1))))))) pc0), (1, iA p1), (6, iA (wA (p2 - p1))), (7, pt b16), (8, iD t18), (9, iA (wA (t19 + 1)))] (by simp only [sV, sD, stD_length]) (Vl [(0, sV pA0 (sD t15 t19 (wA (p1 + (wA (band .u64 (bxor .u64 (bxor .u64 (bxor .u64 t17 (wD (t17 * 2 ^ 13))) (Int.fdiv (bxor .u64 t17 (wD (t17 * 2 ^ 13))) (2 ^ 7))) (wD ((bxor .u64 (bxor .u64 t17 (wD (t17 * 2 ^ 13))) (Int.fdiv (bxor .u64 t17 (wD (t17 * 2 ^ 13))) (2 ^ 7))) * 2 ^ 17))) (wD (t18 - 1))))))) pc0), (1, iA p1), (6, iA (wA (p2 - p1))), (7, pt b16), (8, iD t18), (9, iA (wA (t19 + 1)))] ?_)
     exact ih (sD t15 t19 (wA (p1 + (wA (band .u64 (bxor .u64 (bxor .u64 (bxor .u64 t17 (wD (t17 * 2 ^ 13))) (Int.fdiv (bxor .u64 t17 (wD (t17 * 2 ^ 13))) (2 ^ 7))) (wD ((bxor .u64 (bxor .u64 t17 (wD (t17 * 2 ^ 13))) (Int.fdiv (bxor .u64 t17 (wD (t17 * 2 ^ 13))) (2 ^ 7))) * 2 ^ 17))) (wD (t18 - 1))))))) (bxor .u64 (bxor .u64 (bxor .u64 t17 (wD (t17 * 2 ^ 13))) (Int.fdiv (bxor .u64 t17 (wD (t17 * 2 ^ 13))) (2 ^ 7))) (wD ((bxor .u64 (bxor .u64 t17 (wD (t17 * 2 ^ 13))) (Int.fdiv (bxor .u64 t17 (wD (t17 * 2 ^ 13))) (2 ^ 7))) * 2 ^ 17))) (wA (t19 + 1)) w232 h (h238.pk [0, 1])
  ·refine Xg 1 [] (Vl [] ?_)
   exact hk0 t15 w (sI h).symm (hH.pk [0])
def slices_breakPatternsOrdered_uint16_127.f (K : Nat) (p0 : List Int) (p1 : Int) (p2 : Int) : Option (List Int) := cond (decide ((IntKind.wrap .i64 (p2 - p1)) ≥ 8)) ((slices_nextPowerOfTwo_163.f K (IntKind.wrap .i64 (p2 - p1))).bind fun t14 => (slices_breakPatternsOrdered_uint16_127.l0 K p0 p1 p2 t14 K p0 (IntKind.wrap .u64 (IntKind.wrap .i64 (p2 - p1))) (IntKind.wrap .i64 ((IntKind.wrap .i64 (p1 + (IntKind.wrap .i64 ((IntKind.wrap .i64 (Int.tdiv (IntKind.wrap .i64 (p2 - p1)) 4)) * 2)))) - 1))).bind (fun t242 => some t242)) (some p0)
theorem slices_breakPatternsOrdered_uint16_127_ok (K : Nat) (M0 : Nat → Prop) (w0 : World) (pA0 : Option Addr) (pc0 : Nat) (p0 : List Int) (p1 : Int) (p2 : Int) {wS : World} (h0 : Holds M0 w0 wS [own rC 23 (sV pA0 p0 pc0) p0]) {r : List Int} (h : slices_breakPatternsOrdered_uint16_127.f K p0 p1 p2 = some r) :
  Calls Tryz.prog 127 #[sV pA0 p0 pc0, iA p1, iA p2] wS (slices_breakPatternsOrdered_uint16_127.post pA0 pc0 M0 w0 r) := by
 unfold slices_breakPatternsOrdered_uint16_127.f at h
 refine calls_of F127 rfl [sV pA0 p0 pc0, iA p1, iA p2] (by kernel_rfl) (Xq 1 1 [.c 2] 4 [(0, sV pA0 p0 pc0), (1, iA p1), (6, iA (wA (p2 - p1)))] (Zy 1 3 [.c 4] 2 [0, 1, 6, 15] [(15, tB (decide ((wA (p2 - p1)) ≥ 8)))] (Ye (Vc 15 5 31 h (fun hc1 h => ?_) fun hc1 h => ?_))))
 ·refine Xq 1 6 [.c 7] 2 [(0, sV pA0 p0 pc0), (1, iA p1), (6, iA (wA (p2 - p1))), (17, iD (wD (wA (p2 - p1))))] (Yx 7 179 [iD 0] h0 ?_)
  intro w2 b3 h4 hb5 hn6
  refine Yb 1 179 b3 0 (iD (wD (wA (p2 - p1)))) [iD (wD (wA (p2 - p1)))] h4 rfl ?_
  intro w7 h8 hk9
  refine Zy 1 8 [.c 9] 1 [0, 1, 6, 7, 18] [(7, pt b3), (18, iA (wA (p2 - p1)))] ?_
  obtain ⟨t14, hg13, h⟩ := of_bind h
  refine Yc 19 163 #[iA (wA (p2 - p1))] ((slices_nextPowerOfTwo_163_ok K _ w7  (wA (p2 - p1)) h8.old' hg13).mono ?_)
  rintro _ w10 ⟨rfl, hb11⟩
  refine ⟨_, rfl, ?_⟩
  have h12 := h8.call hb11
  refine Zp 1 [0, 1, 6, 7, 8] [(8, iD t14)] (Zy 1 10 [.c 11] 7 [0, 1, 6, 7, 8, 9] [(9, iA (wA ((wA (p1 + (wA ((wA (Int.tdiv (wA (p2 - p1)) 4)) * 2)))) - 1)))] (Ye (Xg 2 [.c 13, .lp 13, .blk 0] ?_)))
  obtain ⟨x240, hx241, h⟩ := of_bind h
  refine Vl [(0, sV pA0 p0 pc0), (1, iA p1), (6, iA (wA (p2 - p1))), (7, pt b3), (8, iD t14), (9, iA (wA ((wA (p1 + (wA ((wA (Int.tdiv (wA (p2 - p1)) 4)) * 2)))) - 1)))] (slices_breakPatternsOrdered_uint16_127.l0_ok K M0 w0 pA0 pc0 p0 p1 p2 t14 b3 _ x240 ?_ K p0 (wD (wA (p2 - p1))) (wA ((wA (p1 + (wA ((wA (Int.tdiv (wA (p2 - p1)) 4)) * 2)))) - 1)) w10 hx241 (h12.pk [0, 1]))
  ·intro t242 w244 hq245 h243
   (try rw [hq245] at h)
   refine Xt (.tuple #[]) ?_
   obtain rfl := sI h
   exact ⟨rfl, h243⟩
 ·refine Xg 1 [] (Xt (.tuple #[]) ?_)
  obtain rfl := sI h
  exact ⟨rfl, h0⟩
end

section
def slices_choosePivotOrdered_uint16_128.post (M0 : Nat → Prop) (w0 : World) (r : Int × Int) : Ending → World → Prop := fun e w => e = .returned (.tuple #[.int .i64 r.1, .int .i64 r.2]) ∧ Below w0.heap.size w0 w
def slices_choosePivotOrdered_uint16_128.f (K : Nat) (p0 : List Int) (p1 : Int) (p2 : Int) : Option (Int × Int) := Let (fun (yj111 : Int × Int) => cond (yj111.1 == 0) (some (yj111.2, 1)) (cond (yj111.1 == 12) (some (yj111.2, 2)) (some (yj111.2, 0)))) (fun j111 => cond (decide ((IntKind.wrap .i64 (p2 - p1)) ≥ 8)) (cond (decide ((IntKind.wrap .i64 (p2 - p1)) ≥ 50)) (none) (Let (fun (yj38 : Int × Int × Int) => Let (fun (yj71 : Int × Int × Int) => Let (fun (yj104 : Int × Int × Int) => j111 (yj104.2.2, yj104.2.1)) (fun j104 => cond (inR yj71.2.1 p0.length) (cond (inR yj38.2.1 p0.length) ((cmp_Less_uint16_131.f K (rdD p0 yj71.2.1) (rdD p0 yj38.2.1)).bind fun t91 => cond t91 (j104 (yj71.2.1, yj38.2.1, (IntKind.wrap .i64 (yj71.1 + 1)))) (j104 (yj38.2.1, yj71.2.1, yj71.1))) none) none)) (fun j71 => cond (inR (IntKind.wrap .i64 (p1 + (IntKind.wrap .i64 ((IntKind.wrap .i64 (Int.tdiv (IntKind.wrap .i64 (p2 - p1)) 4)) * 3)))) p0.length) (cond (inR yj38.2.2 p0.length) ((cmp_Less_uint16_131.f K (rdD p0 (IntKind.wrap .i64 (p1 + (IntKind.wrap .i64 ((IntKind.wrap .i64 (Int.tdiv (IntKind.wrap .i64 (p2 - p1)) 4)) * 3))))) (rdD p0 yj38.2.2)).bind fun t58 => cond t58 (j71 ((IntKind.wrap .i64 (yj38.1 + 1)), (IntKind.wrap .i64 (p1 + (IntKind.wrap .i64 ((IntKind.wrap .i64 (Int.tdiv (IntKind.wrap .i64 (p2 - p1)) 4)) * 3)))), yj38.2.2)) (j71 (yj38.1, yj38.2.2, (IntKind.wrap .i64 (p1 + (IntKind.wrap .i64 ((IntKind.wrap .i64 (Int.tdiv (IntKind.wrap .i64 (p2 - p1)) 4)) * 3))))))) none) none)) (fun j38 => cond (inR (IntKind.wrap .i64 (p1 + (IntKind.wrap .i64 ((IntKind.wrap .i64 (Int.tdiv (IntKind.wrap .i64 (p2 - p1)) 4)) * 2)))) p0.length) (cond (inR (IntKind.wrap .i64 (p1 + (IntKind.wrap .i64 ((IntKind.wrap .i64 (Int.tdiv (IntKind.wrap .i64 (p2 - p1)) 4)) * 1)))) p0.length) ((cmp_Less_uint16_131.f K (rdD p0 (IntKind.wrap .i64 (p1 + (IntKind.wrap .i64 ((IntKind.wrap .i64 (Int.tdiv (IntKind.wrap .i64 (p2 - p1)) 4)) * 2))))) (rdD p0 (IntKind.wrap .i64 (p1 + (IntKind.wrap .i64 ((IntKind.wrap .i64 (Int.tdiv (IntKind.wrap .i64 (p2 - p1)) 4)) * 1)))))).bind fun t25 => cond t25 (j38 (1, (IntKind.wrap .i64 (p1 + (IntKind.wrap .i64 ((IntKind.wrap .i64 (Int.tdiv (IntKind.wrap .i64 (p2 - p1)) 4)) * 2)))), (IntKind.wrap .i64 (p1 + (IntKind.wrap .i64 ((IntKind.wrap .i64 (Int.tdiv (IntKind.wrap .i64 (p2 - p1)) 4)) * 1)))))) (j38 (0, (IntKind.wrap .i64 (p1 + (IntKind.wrap .i64 ((IntKind.wrap .i64 (Int.tdiv (IntKind.wrap .i64 (p2 - p1)) 4)) * 1)))), (IntKind.wrap .i64 (p1 + (IntKind.wrap .i64 ((IntKind.wrap .i64 (Int.tdiv (IntKind.wrap .i64 (p2 - p1)) 4)) * 2))))))) none) none))) (j111 (0, (IntKind.wrap .i64 (p1 + (IntKind.wrap .i64 ((IntKind.wrap .i64 (Int.tdiv (IntKind.wrap .i64 (p2 - p1)) 4)) * 2)))))))
theorem slices_choosePivotOrdered_uint16_128_ok (K : Nat) (M0 : Nat → Prop) (w0 : World) (pA0 : Option Addr) (pc0 : Nat) (p0 : List Int) (p1 : Int) (p2 : Int) (ho : ∀ b, M0 b → b < w0.heap.size) (hs0 : Sl rC w0 M0 (sV pA0 p0 pc0) p0) {r : Int × Int} (h : slices_choosePivotOrdered_uint16_128.f K p0 p1 p2 = some r) :
  Calls Tryz.prog 128 #[sV pA0 p0 pc0, iA p1, iA p2] w0 (slices_choosePivotOrdered_uint16_128.post M0 w0 r) := by
 unfold slices_choosePivotOrdered_uint16_128.f at h
 have h0 : Holds M0 w0 w0 [] := Holds.start ho
 have h00 := h0.aS hs0
 have h0 : Holds M0 w0 w0 [sl rC (sV pA0 p0 pc0) p0] := h00
 refine calls_of F128 rfl [sV pA0 p0 pc0, iA p1, iA p2] (by kernel_rfl) (Xq 1 1 [.c 2] 2 [(0, sV pA0 p0 pc0), (1, iA p1), (2, iA p2)] (Zy 1 3 [.c 4] 4 [0, 1, 8] [(8, iA (wA (p2 - p1)))] (Ye (Xg 1 [.c 5, .c 6] (Xr (Yx 9 3 [iA 0] h0 ?_))))))
 intro w1 b2 h3 hb4 hn5
 refine Zy 1 7 [.c 8] 6 [0, 1, 8, 9, 10] [(9, pt b2), (10, iA (wA (p1 + (wA ((wA (Int.tdiv (wA (p2 - p1)) 4)) * 1)))))] (Zy 1 9 [.c 10] 6 [0, 1, 8, 9, 10, 11] [(11, iA (wA (p1 + (wA ((wA (Int.tdiv (wA (p2 - p1)) 4)) * 2)))))] (Zy 1 11 [.c 12] 6 [0, 8, 9, 10, 11, 12] [(12, iA (wA (p1 + (wA ((wA (Int.tdiv (wA (p2 - p1)) 4)) * 3)))))] (Zy 2 14 [.c 15, .c 28] 2 [0, 8, 9, 10, 11, 12, 32] [(32, tB (decide ((wA (p2 - p1)) ≥ 8)))] (Ye ?_))))
 obtain ⟨j111, hJ112, h⟩ := of_let h
 have hj113 : ∀ (t107 : Int) (t108 : Int) (w110 : World), j111 (t107, t108) = some r → Holds M0 w0 w110 [box b2 3 [iA t107]] → RunsI F128 [.c 28] [(9, pt b2), (11, iA t108)] w110 (slices_choosePivotOrdered_uint16_128.post M0 w0 r) := by
  intro t107 t108 w110 h h109
  rw [hJ112] at h
  clear hJ112
  dsimp only at h
  refine Xg 1 [.c 29, .c 30] (Xr (Ya 49 0 3 b2 0 (iA t107) h109 rfl (Yq 2 32 [.c 33, .blk 0] 2 [(11, iA t108), (49, iA t107), (51, tB (t107 == 0))] (Ye (Vc 51 34 37 h (fun hc114 h => ?_) fun hc114 h => ?_)))))
  ·refine Xd 1 35 [.c 36, .blk 0] 3 [(6, iA t108), (7, iA 1)] ?_
   obtain rfl := sI h
   exact Xt (.tuple #[iA t108, iA 1]) ⟨rfl, h109.below⟩
  ·refine Xd 1 38 [.c 39, .blk 0] 2 [(11, iA t108), (54, tB (t107 == 12))] (Vc 54 40 43 h (fun hc115 h => ?_) fun hc115 h => ?_)
   ·refine Xd 1 41 [.c 42, .blk 0] 3 [(6, iA t108), (7, iA 2)] ?_
    obtain rfl := sI h
    exact Xt (.tuple #[iA t108, iA 2]) ⟨rfl, h109.below⟩
   ·refine Xd 1 44 [.c 45, .blk 0] 3 [(6, iA t108), (7, iA 0)] ?_
    obtain rfl := sI h
    exact Xt (.tuple #[iA t108, iA 0]) ⟨rfl, h109.below⟩
 clear hJ112
 refine Vc 32 16 27 h (fun hc6 h => ?_) fun hc6 h => ?_
 ·refine Xd 2 18 [.c 19, .c 26, .c 28] 2 [(0, sV pA0 p0 pc0), (9, pt b2), (10, iA (wA (p1 + (wA ((wA (Int.tdiv (wA (p2 - p1)) 4)) * 1))))), (11, iA (wA (p1 + (wA ((wA (Int.tdiv (wA (p2 - p1)) 4)) * 2))))), (12, iA (wA (p1 + (wA ((wA (Int.tdiv (wA (p2 - p1)) 4)) * 3))))), (34, tB (decide ((wA (p2 - p1)) ≥ 50)))] (Vc 34 20 25 h (fun hc7 h => ?_) fun hc7 h => ?_)
  ·refine Xq 1 21 [.c 22, .c 26, .c 28] 2 [(0, sV pA0 p0 pc0), (9, pt b2), (11, iA (wA (p1 + (wA ((wA (Int.tdiv (wA (p2 - p1)) 4)) * 2))))), (12, iA (wA (p1 + (wA ((wA (Int.tdiv (wA (p2 - p1)) 4)) * 3))))), (35, sV pA0 p0 pc0), (36, iA (wA (p1 + (wA ((wA (Int.tdiv (wA (p2 - p1)) 4)) * 1)))))] ?_
   exact absurd h (by simp)
  ·refine Xq 1 26 [.c 28] 4 [(9, pt b2), (44, sV pA0 p0 pc0), (45, iA (wA (p1 + (wA ((wA (Int.tdiv (wA (p2 - p1)) 4)) * 1))))), (46, iA (wA (p1 + (wA ((wA (Int.tdiv (wA (p2 - p1)) 4)) * 2))))), (47, iA (wA (p1 + (wA ((wA (Int.tdiv (wA (p2 - p1)) 4)) * 3)))))] (RegI.enter 48 [9] [(9, pt b2)] (by kernel_rfl) (by kernel_rfl) (by kernel_rfl) (by kernel_rfl) F166 166 rfl [sV pA0 p0 pc0, iA (wA (p1 + (wA ((wA (Int.tdiv (wA (p2 - p1)) 4)) * 1)))), iA (wA (p1 + (wA ((wA (Int.tdiv (wA (p2 - p1)) 4)) * 2)))), iA (wA (p1 + (wA ((wA (Int.tdiv (wA (p2 - p1)) 4)) * 3)))), pt b2] (by kernel_rfl) (by kernel_rfl) (Xq 1 1 [.c 2] 1 [(0, sV pA0 p0 pc0), (1, iA (wA (p1 + (wA ((wA (Int.tdiv (wA (p2 - p1)) 4)) * 1))))), (2, iA (wA (p1 + (wA ((wA (Int.tdiv (wA (p2 - p1)) 4)) * 2))))), (3, iA (wA (p1 + (wA ((wA (Int.tdiv (wA (p2 - p1)) 4)) * 3))))), (4, pt b2)] (Zy 1 3 [.c 4] 4 [0, 3, 4, 12, 13, 14, 15] [(12, sV pA0 p0 pc0), (13, iA (wA (p1 + (wA ((wA (Int.tdiv (wA (p2 - p1)) 4)) * 1))))), (14, iA (wA (p1 + (wA ((wA (Int.tdiv (wA (p2 - p1)) 4)) * 2))))), (15, pt b2)] (RegI.enter 16 [0, 3, 4] [(0, sV pA0 p0 pc0), (3, iA (wA (p1 + (wA ((wA (Int.tdiv (wA (p2 - p1)) 4)) * 3))))), (4, pt b2)] (by kernel_rfl) (by kernel_rfl) (by kernel_rfl) (by kernel_rfl) F177 177 rfl [sV pA0 p0 pc0, iA (wA (p1 + (wA ((wA (Int.tdiv (wA (p2 - p1)) 4)) * 1)))), iA (wA (p1 + (wA ((wA (Int.tdiv (wA (p2 - p1)) 4)) * 2)))), pt b2] (by kernel_rfl) (by kernel_rfl) ?_))))
   obtain ⟨j38, hJ39, h⟩ := of_let h
   have hj40 : ∀ (t33 : Int) (t34 : Int) (t35 : Int) (w37 : World), j38 (t33, t34, t35) = some r → Holds M0 w0 w37 [sl rC (sV pA0 p0 pc0) p0, box b2 3 [iA t33]] → RegI F166 3 [.c 4] 5 [(0, sV pA0 p0 pc0), (3, iA (wA (p1 + (wA ((wA (Int.tdiv (wA (p2 - p1)) 4)) * 3))))), (4, pt b2), (16, .tuple #[iA t34, iA t35])] w37 (cont (fun e' w' => RegI F128 26 [.c 28] 5 e' w' (slices_choosePivotOrdered_uint16_128.post M0 w0 r)) 48 [(9, pt b2)]) := by
    intro t33 t34 t35 w37 h h36
    rw [hJ39] at h
    clear hJ39
    dsimp only at h
    refine Yp 5 [(0, sV pA0 p0 pc0), (1, iA t34), (2, iA t35), (3, iA (wA (p1 + (wA ((wA (Int.tdiv (wA (p2 - p1)) 4)) * 3))))), (4, pt b2)] (Zy 1 5 [.c 6] 4 [0, 1, 4, 20, 21, 22, 23] [(20, sV pA0 p0 pc0), (21, iA t35), (22, iA (wA (p1 + (wA ((wA (Int.tdiv (wA (p2 - p1)) 4)) * 3))))), (23, pt b2)] (RegI.enter 24 [0, 1, 4] [(0, sV pA0 p0 pc0), (1, iA t34), (4, pt b2)] (by kernel_rfl) (by kernel_rfl) (by kernel_rfl) (by kernel_rfl) F177 177 rfl [sV pA0 p0 pc0, iA t35, iA (wA (p1 + (wA ((wA (Int.tdiv (wA (p2 - p1)) 4)) * 3)))), pt b2] (by kernel_rfl) (by kernel_rfl) ?_))
    obtain ⟨j71, hJ72, h⟩ := of_let h
    have hj73 : ∀ (t66 : Int) (t67 : Int) (t68 : Int) (w70 : World), j71 (t66, t67, t68) = some r → Holds M0 w0 w70 [sl rC (sV pA0 p0 pc0) p0, box b2 3 [iA t66]] → RegI F166 5 [.c 6] 5 [(0, sV pA0 p0 pc0), (1, iA t34), (4, pt b2), (24, .tuple #[iA t67, iA t68])] w70 (cont (fun e' w' => RegI F128 26 [.c 28] 5 e' w' (slices_choosePivotOrdered_uint16_128.post M0 w0 r)) 48 [(9, pt b2)]) := by
     intro t66 t67 t68 w70 h h69
     rw [hJ72] at h
     clear hJ72
     dsimp only at h
     refine Yp 5 [(0, sV pA0 p0 pc0), (1, iA t34), (2, iA t67), (4, pt b2)] (Yq 1 7 [.c 8] 4 [(28, sV pA0 p0 pc0), (29, iA t34), (30, iA t67), (31, pt b2)] (RegI.enter 32 [] [] (by kernel_rfl) (by kernel_rfl) (by kernel_rfl) (by kernel_rfl) F177 177 rfl [sV pA0 p0 pc0, iA t34, iA t67, pt b2] (by kernel_rfl) (by kernel_rfl) ?_))
     obtain ⟨j104, hJ105, h⟩ := of_let h
     have hj106 : ∀ (t99 : Int) (t100 : Int) (t101 : Int) (w103 : World), j104 (t99, t100, t101) = some r → Holds M0 w0 w103 [box b2 3 [iA t101]] → RegI F166 7 [.c 8] 5 [(32, .tuple #[iA t99, iA t100])] w103 (cont (fun e' w' => RegI F128 26 [.c 28] 5 e' w' (slices_choosePivotOrdered_uint16_128.post M0 w0 r)) 48 [(9, pt b2)]) := by
      intro t99 t100 t101 w103 h h102
      rw [hJ105] at h
      clear hJ105
      dsimp only at h
      refine Yp 5 [(2, iA t100)] (Yq 1 9 [.c 10] 2 [(10, iA t100)] (Ye (Xt (iA t100) (cont_mk (Yd 1 [(9, pt b2), (11, iA t100)] (Vl [(9, pt b2), (11, iA t100)] ?_))))))
      exact hj113 t101 t100 w103 h (h102.pk [0])
     clear hJ105
     refine Xd 1 1 [.c 2] 2 [(0, sV pA0 p0 pc0), (1, iA t34), (2, iA t67), (3, pt b2)] (Xg 2 [.c 4, .c 5, .c 12] (RunsI.any 9 (by kernel_rfl) (by kernel_rfl) (by kernel_rfl) (Kp ([] : List Nat) (World.drew w70)) ?_))
     have h75 := h69.drew
     generalize World.drew w70 = w74 at h75 ⊢
     have hS76 := Kp.refl ([] : List Nat) w74
     refine Wu 0 10 (sV pA0 p0 pc0) hS76 (Wu 1 11 (iA t67) hS76 ?_)
     have ⟨hc78, h⟩ := oz h
     refine AnyE.idxSl 2 12 0 29 t67 h75 (by kernel_rfl) hS76 rfl (by kernel_rfl) (by kernel_rfl) hc78 ?_
     intro b79 o80 cs81 hk82 h83
     obtain rfl := hk82
     refine AnyE.loadCel 3 13 2 23 b79 o80 0 (iC (rdD p0 t67)) [] h83 rfl (by kernel_rfl) hS76 rfl rfl (by kernel_rfl) (by kernel_rfl) (Wu 4 14 (sV pA0 p0 pc0) hS76 (Wu 5 15 (iA t34) hS76 ?_))
     have ⟨hc84, h⟩ := oz h
     refine AnyE.idxSl 6 16 0 29 t34 h83 (by kernel_rfl) hS76 rfl (by kernel_rfl) (by kernel_rfl) hc84 ?_
     intro b85 o86 cs87 hk88 h89
     obtain rfl := hk88
     refine AnyE.loadCel 7 17 3 23 b85 o86 0 (iC (rdD p0 t34)) [] h89 rfl (by kernel_rfl) hS76 rfl rfl (by kernel_rfl) (by kernel_rfl) ?_
     obtain ⟨t91, hg90, h⟩ := of_bind h
     refine Wc 8 18 (tB t91) 131 #[iC (rdD p0 t67), iC (rdD p0 t34)] hS76 (fun w hk => cmp_Less_uint16_131_ok K (fun _ => False) w (rdD p0 t67) (rdD p0 t34) nF hg90) (AnyE.done (by kernel_rfl) (fun w92 hu93 => ?_))
     have h94 := h89.call hu93
     refine Vl [(1, iA t34), (2, iA t67), (3, pt b2), (18, tB t91)] (Vc 18 6 11 h (fun hc95 h => ?_) fun hc95 h => ?_)
     ·refine Xq 1 7 [.c 8, .c 12] 2 [(1, iA t34), (2, iA t67), (19, pt b2), (20, pt b2)] (Ya 21 1 3 b2 0 (iA t66) h94 rfl (Zp 2 [1, 2, 22, 23] [(22, iA (wA (t66 + 1))), (23, pt b2)] (Yb 1 3 b2 0 (iA (wA (t66 + 1))) [iA (wA (t66 + 1))] h94 rfl ?_)))
      intro w96 h97 hk98
      refine Yq 1 9 [.c 10, .c 12] 4 [(8, iA t67), (9, iA t34)] (Ye (Xt (.tuple #[iA t67, iA t34]) (cont_mk (Ul [(32, .tuple #[iA t67, iA t34])] ?_))))
      exact hj106 t67 t34 (wA (t66 + 1)) w96 h (h97.pk [1])
     ·refine Xg 1 [.c 12] (Xd 1 13 [.c 14] 4 [(8, iA t34), (9, iA t67)] (Xt (.tuple #[iA t34, iA t67]) (cont_mk (Ul [(32, .tuple #[iA t34, iA t67])] ?_))))
      exact hj106 t34 t67 t66 w92 h (h94.pk [1])
    clear hJ72
    refine Xd 1 1 [.c 2] 2 [(0, sV pA0 p0 pc0), (1, iA t35), (2, iA (wA (p1 + (wA ((wA (Int.tdiv (wA (p2 - p1)) 4)) * 3))))), (3, pt b2)] (Xg 2 [.c 4, .c 5, .c 12] (RunsI.any 9 (by kernel_rfl) (by kernel_rfl) (by kernel_rfl) (Kp ([] : List Nat) (World.drew w37)) ?_))
    have h42 := h36.drew
    generalize World.drew w37 = w41 at h42 ⊢
    have hS43 := Kp.refl ([] : List Nat) w41
    refine Wu 0 10 (sV pA0 p0 pc0) hS43 (Wu 1 11 (iA (wA (p1 + (wA ((wA (Int.tdiv (wA (p2 - p1)) 4)) * 3))))) hS43 ?_)
    have ⟨hc45, h⟩ := oz h
    refine AnyE.idxSl 2 12 0 29 (wA (p1 + (wA ((wA (Int.tdiv (wA (p2 - p1)) 4)) * 3)))) h42 (by kernel_rfl) hS43 rfl (by kernel_rfl) (by kernel_rfl) hc45 ?_
    intro b46 o47 cs48 hk49 h50
    obtain rfl := hk49
    refine AnyE.loadCel 3 13 2 23 b46 o47 0 (iC (rdD p0 (wA (p1 + (wA ((wA (Int.tdiv (wA (p2 - p1)) 4)) * 3)))))) [] h50 rfl (by kernel_rfl) hS43 rfl rfl (by kernel_rfl) (by kernel_rfl) (Wu 4 14 (sV pA0 p0 pc0) hS43 (Wu 5 15 (iA t35) hS43 ?_))
    have ⟨hc51, h⟩ := oz h
    refine AnyE.idxSl 6 16 0 29 t35 h50 (by kernel_rfl) hS43 rfl (by kernel_rfl) (by kernel_rfl) hc51 ?_
    intro b52 o53 cs54 hk55 h56
    obtain rfl := hk55
    refine AnyE.loadCel 7 17 3 23 b52 o53 0 (iC (rdD p0 t35)) [] h56 rfl (by kernel_rfl) hS43 rfl rfl (by kernel_rfl) (by kernel_rfl) ?_
    obtain ⟨t58, hg57, h⟩ := of_bind h
    refine Wc 8 18 (tB t58) 131 #[iC (rdD p0 (wA (p1 + (wA ((wA (Int.tdiv (wA (p2 - p1)) 4)) * 3))))), iC (rdD p0 t35)] hS43 (fun w hk => cmp_Less_uint16_131_ok K (fun _ => False) w (rdD p0 (wA (p1 + (wA ((wA (Int.tdiv (wA (p2 - p1)) 4)) * 3))))) (rdD p0 t35) nF hg57) (AnyE.done (by kernel_rfl) (fun w59 hu60 => ?_))
    have h61 := h56.call hu60
    refine Vl [(1, iA t35), (2, iA (wA (p1 + (wA ((wA (Int.tdiv (wA (p2 - p1)) 4)) * 3))))), (3, pt b2), (18, tB t58)] (Vc 18 6 11 h (fun hc62 h => ?_) fun hc62 h => ?_)
    ·refine Xq 1 7 [.c 8, .c 12] 2 [(1, iA t35), (2, iA (wA (p1 + (wA ((wA (Int.tdiv (wA (p2 - p1)) 4)) * 3))))), (19, pt b2), (20, pt b2)] (Ya 21 1 3 b2 0 (iA t33) h61 rfl (Zp 2 [1, 2, 22, 23] [(22, iA (wA (t33 + 1))), (23, pt b2)] (Yb 1 3 b2 0 (iA (wA (t33 + 1))) [iA (wA (t33 + 1))] h61 rfl ?_)))
     intro w63 h64 hk65
     refine Yq 1 9 [.c 10, .c 12] 4 [(8, iA (wA (p1 + (wA ((wA (Int.tdiv (wA (p2 - p1)) 4)) * 3))))), (9, iA t35)] (Ye (Xt (.tuple #[iA (wA (p1 + (wA ((wA (Int.tdiv (wA (p2 - p1)) 4)) * 3)))), iA t35]) (cont_mk (Ul [(0, sV pA0 p0 pc0), (1, iA t34), (4, pt b2), (24, .tuple #[iA (wA (p1 + (wA ((wA (Int.tdiv (wA (p2 - p1)) 4)) * 3)))), iA t35])] ?_))))
     exact hj73 (wA (t33 + 1)) (wA (p1 + (wA ((wA (Int.tdiv (wA (p2 - p1)) 4)) * 3)))) t35 w63 h (h64.pk [0, 1])
    ·refine Xg 1 [.c 12] (Xd 1 13 [.c 14] 4 [(8, iA t35), (9, iA (wA (p1 + (wA ((wA (Int.tdiv (wA (p2 - p1)) 4)) * 3)))))] (Xt (.tuple #[iA t35, iA (wA (p1 + (wA ((wA (Int.tdiv (wA (p2 - p1)) 4)) * 3))))]) (cont_mk (Ul [(0, sV pA0 p0 pc0), (1, iA t34), (4, pt b2), (24, .tuple #[iA t35, iA (wA (p1 + (wA ((wA (Int.tdiv (wA (p2 - p1)) 4)) * 3))))])] ?_))))
     exact hj73 t33 t35 (wA (p1 + (wA ((wA (Int.tdiv (wA (p2 - p1)) 4)) * 3)))) w59 h (h61.pk [0, 1])
   clear hJ39
   refine Xd 1 1 [.c 2] 2 [(0, sV pA0 p0 pc0), (1, iA (wA (p1 + (wA ((wA (Int.tdiv (wA (p2 - p1)) 4)) * 1))))), (2, iA (wA (p1 + (wA ((wA (Int.tdiv (wA (p2 - p1)) 4)) * 2))))), (3, pt b2)] (Xg 2 [.c 4, .c 5, .c 12] (RunsI.any 9 (by kernel_rfl) (by kernel_rfl) (by kernel_rfl) (Kp ([] : List Nat) (World.drew w1)) ?_))
   have h9 := h3.drew
   generalize World.drew w1 = w8 at h9 ⊢
   have hS10 := Kp.refl ([] : List Nat) w8
   refine Wu 0 10 (sV pA0 p0 pc0) hS10 (Wu 1 11 (iA (wA (p1 + (wA ((wA (Int.tdiv (wA (p2 - p1)) 4)) * 2))))) hS10 ?_)
   have ⟨hc12, h⟩ := oz h
   refine AnyE.idxSl 2 12 0 29 (wA (p1 + (wA ((wA (Int.tdiv (wA (p2 - p1)) 4)) * 2)))) h9 (by kernel_rfl) hS10 rfl (by kernel_rfl) (by kernel_rfl) hc12 ?_
   intro b13 o14 cs15 hk16 h17
   obtain rfl := hk16
   refine AnyE.loadCel 3 13 2 23 b13 o14 0 (iC (rdD p0 (wA (p1 + (wA ((wA (Int.tdiv (wA (p2 - p1)) 4)) * 2)))))) [] h17 rfl (by kernel_rfl) hS10 rfl rfl (by kernel_rfl) (by kernel_rfl) (Wu 4 14 (sV pA0 p0 pc0) hS10 (Wu 5 15 (iA (wA (p1 + (wA ((wA (Int.tdiv (wA (p2 - p1)) 4)) * 1))))) hS10 ?_))
   have ⟨hc18, h⟩ := oz h
   refine AnyE.idxSl 6 16 0 29 (wA (p1 + (wA ((wA (Int.tdiv (wA (p2 - p1)) 4)) * 1)))) h17 (by kernel_rfl) hS10 rfl (by kernel_rfl) (by kernel_rfl) hc18 ?_
   intro b19 o20 cs21 hk22 h23
   obtain rfl := hk22
   refine AnyE.loadCel 7 17 3 23 b19 o20 0 (iC (rdD p0 (wA (p1 + (wA ((wA (Int.tdiv (wA (p2 - p1)) 4)) * 1)))))) [] h23 rfl (by kernel_rfl) hS10 rfl rfl (by kernel_rfl) (by kernel_rfl) ?_
   obtain ⟨t25, hg24, h⟩ := of_bind h
   refine Wc 8 18 (tB t25) 131 #[iC (rdD p0 (wA (p1 + (wA ((wA (Int.tdiv (wA (p2 - p1)) 4)) * 2))))), iC (rdD p0 (wA (p1 + (wA ((wA (Int.tdiv (wA (p2 - p1)) 4)) * 1)))))] hS10 (fun w hk => cmp_Less_uint16_131_ok K (fun _ => False) w (rdD p0 (wA (p1 + (wA ((wA (Int.tdiv (wA (p2 - p1)) 4)) * 2))))) (rdD p0 (wA (p1 + (wA ((wA (Int.tdiv (wA (p2 - p1)) 4)) * 1))))) nF hg24) (AnyE.done (by kernel_rfl) (fun w26 hu27 => ?_))
   have h28 := h23.call hu27
   refine Vl [(1, iA (wA (p1 + (wA ((wA (Int.tdiv (wA (p2 - p1)) 4)) * 1))))), (2, iA (wA (p1 + (wA ((wA (Int.tdiv (wA (p2 - p1)) 4)) * 2))))), (3, pt b2), (18, tB t25)] (Vc 18 6 11 h (fun hc29 h => ?_) fun hc29 h => ?_)
   ·refine Xq 1 7 [.c 8, .c 12] 2 [(1, iA (wA (p1 + (wA ((wA (Int.tdiv (wA (p2 - p1)) 4)) * 1))))), (2, iA (wA (p1 + (wA ((wA (Int.tdiv (wA (p2 - p1)) 4)) * 2))))), (19, pt b2), (20, pt b2)] (Ya 21 1 3 b2 0 (iA 0) h28 rfl (Zp 2 [1, 2, 22, 23] [(22, iA 1), (23, pt b2)] (Yb 1 3 b2 0 (iA 1) [iA 1] h28 rfl ?_)))
    intro w30 h31 hk32
    refine Yq 1 9 [.c 10, .c 12] 4 [(8, iA (wA (p1 + (wA ((wA (Int.tdiv (wA (p2 - p1)) 4)) * 2))))), (9, iA (wA (p1 + (wA ((wA (Int.tdiv (wA (p2 - p1)) 4)) * 1)))))] (Ye (Xt (.tuple #[iA (wA (p1 + (wA ((wA (Int.tdiv (wA (p2 - p1)) 4)) * 2)))), iA (wA (p1 + (wA ((wA (Int.tdiv (wA (p2 - p1)) 4)) * 1))))]) (cont_mk (Ul [(0, sV pA0 p0 pc0), (3, iA (wA (p1 + (wA ((wA (Int.tdiv (wA (p2 - p1)) 4)) * 3))))), (4, pt b2), (16, .tuple #[iA (wA (p1 + (wA ((wA (Int.tdiv (wA (p2 - p1)) 4)) * 2)))), iA (wA (p1 + (wA ((wA (Int.tdiv (wA (p2 - p1)) 4)) * 1))))])] ?_))))
    exact hj40 1 (wA (p1 + (wA ((wA (Int.tdiv (wA (p2 - p1)) 4)) * 2)))) (wA (p1 + (wA ((wA (Int.tdiv (wA (p2 - p1)) 4)) * 1)))) w30 h (h31.pk [0, 1])
   ·refine Xg 1 [.c 12] (Xd 1 13 [.c 14] 4 [(8, iA (wA (p1 + (wA ((wA (Int.tdiv (wA (p2 - p1)) 4)) * 1))))), (9, iA (wA (p1 + (wA ((wA (Int.tdiv (wA (p2 - p1)) 4)) * 2)))))] (Xt (.tuple #[iA (wA (p1 + (wA ((wA (Int.tdiv (wA (p2 - p1)) 4)) * 1)))), iA (wA (p1 + (wA ((wA (Int.tdiv (wA (p2 - p1)) 4)) * 2))))]) (cont_mk (Ul [(0, sV pA0 p0 pc0), (3, iA (wA (p1 + (wA ((wA (Int.tdiv (wA (p2 - p1)) 4)) * 3))))), (4, pt b2), (16, .tuple #[iA (wA (p1 + (wA ((wA (Int.tdiv (wA (p2 - p1)) 4)) * 1)))), iA (wA (p1 + (wA ((wA (Int.tdiv (wA (p2 - p1)) 4)) * 2))))])] ?_))))
    exact hj40 0 (wA (p1 + (wA ((wA (Int.tdiv (wA (p2 - p1)) 4)) * 1)))) (wA (p1 + (wA ((wA (Int.tdiv (wA (p2 - p1)) 4)) * 2)))) w26 h (h28.pk [0, 1])
 ·refine Xg 1 [.c 28] (Vl [(9, pt b2), (11, iA (wA (p1 + (wA ((wA (Int.tdiv (wA (p2 - p1)) 4)) * 2)))))] ?_)
  exact hj113 0 (wA (p1 + (wA ((wA (Int.tdiv (wA (p2 - p1)) 4)) * 2)))) w1 h (h3.pk [1])
end

section
def slices_partialInsertionSortOrdered_uint16_130.post (pA0 : Option Addr) (pc0 : Nat) (M0 : Nat → Prop) (w0 : World) (r : List Int × Bool) : Ending → World → Prop := fun e w => e = .returned (.bool r.2) ∧ Holds M0 w0 w [own (Rp.int .u16) 23 (.slice pA0 r.1.length pc0) r.1]
def slices_partialInsertionSortOrdered_uint16_130.l0 (K : Nat) (p0 : List Int) (p1 : Int) (p2 : Int) : Nat → Int → Option Int
 | 0, _ => none
 | k + 1, t1 => Let (fun (t17 : Bool) => cond t17 (slices_partialInsertionSortOrdered_uint16_130.l0 K p0 p1 p2 k (IntKind.wrap .i64 (t1 + 1))) (some t1)) (fun j20 => cond (decide (t1 < p2)) (cond (inR t1 p0.length) (cond (inR (IntKind.wrap .i64 (t1 - 1)) p0.length) ((cmp_Less_uint16_131.f K (rdD p0 t1) (rdD p0 (IntKind.wrap .i64 (t1 - 1)))).bind fun t10 => j20 (!t10)) none) none) (j20 false))
theorem slices_partialInsertionSortOrdered_uint16_130.l0_ok (K : Nat) (M0 : Nat → Prop) (w0 : World) (pA0 : Option Addr) (pc0 : Nat) (p0 : List Int) (p1 : Int) (p2 : Int) (R : Ending → World → Prop) (x : Int) (hk0 : ∀ (t24 : Int) (w1 : World), x = t24 → Holds M0 w0 w1 [own rC 23 (sV pA0 p0 pc0) p0] → RunsI F130 [.c 28, .blk 1, .c 95, .lp 9, .blk 0, .c 96] [(0, sV pA0 p0 pc0), (1, iA p1), (2, iA p2), (7, iA t24), (8, iA 0)] w1 R) :
  ∀ (k : Nat) (t1 : Int) (w : World), slices_partialInsertionSortOrdered_uint16_130.l0 K p0 p1 p2 k t1 = some x → Holds M0 w0 w [own rC 23 (sV pA0 p0 pc0) p0] → RunsI F130 [.c 20, .lp 20, .blk 2, .c 28, .blk 1, .c 95, .lp 9, .blk 0, .c 96] [(0, sV pA0 p0 pc0), (1, iA p1), (2, iA p2), (7, iA t1), (8, iA 0)] w R := by
 intro k
 induction k with
 | zero => intro t1 w h hH; exact absurd h (by simp [slices_partialInsertionSortOrdered_uint16_130.l0])
 | succ k ih =>
  intro t1 w h hH
  rw [slices_partialInsertionSortOrdered_uint16_130.l0.eq_2] at h
  refine Xg 1 [.c 21, .c 26, .lp 20, .blk 2, .c 28, .blk 1, .c 95, .lp 9, .blk 0, .c 96] (Xg 1 [.c 22, .c 23, .c 26, .lp 20, .blk 2, .c 28, .blk 1, .c 95, .lp 9, .blk 0, .c 96] (RunsI.any 16 (by kernel_rfl) (by kernel_rfl) (by kernel_rfl) (Kp ([] : List Nat) (World.drew w)) ?_))
  have h3 := hH.drew
  generalize World.drew w = w2 at h3 ⊢
  have hS4 := Kp.refl ([] : List Nat) w2
  refine Wu 0 17 (iA t1) hS4 (Wu 1 18 (iA p2) hS4 (Wu 2 19 (tB (decide (t1 < p2))) hS4 (Wu 3 20 (tB (decide (t1 < p2))) hS4 ?_)))
  obtain ⟨j20, hJ21, h⟩ := of_let h
  have hj22 : ∀ (t17 : Bool) (w19 : World), j20 t17 = some x → Holds M0 w0 w19 [own rC 23 (sV pA0 p0 pc0) p0] → RunsI F130 [.c 23, .c 26, .lp 20, .blk 2, .c 28, .blk 1, .c 95, .lp 9, .blk 0, .c 96] [(0, sV pA0 p0 pc0), (1, iA p1), (2, iA p2), (7, iA t1), (8, iA 0), (32, tB t17)] w19 R := by
   intro t17 w19 h h18
   rw [hJ21] at h
   clear hJ21
   dsimp only at h
   refine Vc 32 24 25 h (fun hc23 h => ?_) fun hc23 h => ?_
   ·refine Xg 1 [.c 26, .lp 20, .blk 2, .c 28, .blk 1, .c 95, .lp 9, .blk 0, .c 96] (Xd 1 27 [.blk 3, .lp 20, .blk 2, .c 28, .blk 1, .c 95, .lp 9, .blk 0, .c 96] 3 [(0, sV pA0 p0 pc0), (1, iA p1), (2, iA p2), (7, iA (wA (t1 + 1))), (8, iA 0)] (Xg 2 [.c 20, .lp 20, .blk 2, .c 28, .blk 1, .c 95, .lp 9, .blk 0, .c 96] (Vl [(0, sV pA0 p0 pc0), (1, iA p1), (2, iA p2), (7, iA (wA (t1 + 1))), (8, iA 0)] ?_)))
    exact ih (wA (t1 + 1)) w19 h (h18.pk [0])
   ·refine Xg 1 [.c 28, .blk 1, .c 95, .lp 9, .blk 0, .c 96] (Vl [(0, sV pA0 p0 pc0), (1, iA p1), (2, iA p2), (7, iA t1), (8, iA 0)] ?_)
    exact hk0 t1 w19 (sI h).symm (h18.pk [0])
  clear hJ21
  rcases oc h with ⟨hc6, h⟩ | ⟨hc6, h⟩
  ·refine AnyE.fix 20 true hc6 (by kernel_rfl) (by kernel_rfl) (Wu 4 21 (sV pA0 p0 pc0) hS4 (Wu 5 22 (iA t1) hS4 ?_))
   have ⟨hc7, h⟩ := oz h
   refine AnyE.idxOwnA 6 23 0 29 23 t1 h3 (by kernel_rfl) hS4 rfl (by kernel_rfl) (by kernel_rfl) hc7 (AnyE.loadOwnA 7 24 0 23 23 t1 0 (iC (rdD p0 t1)) [] (o := (Int.toNat t1) * 1 + 0) h3 rfl (by kernel_rfl) hS4 rfl rfl (by kernel_rfl) rfl hc7 (fun _ _ hk => by obtain rfl := hk; kernel_rfl) (Wu 8 25 (sV pA0 p0 pc0) hS4 (Wu 9 26 (iA t1) hS4 (Wu 10 27 (iA (wA (t1 - 1))) hS4 ?_))))
   have ⟨hc8, h⟩ := oz h
   refine AnyE.idxOwnA 11 28 0 29 23 (wA (t1 - 1)) h3 (by kernel_rfl) hS4 rfl (by kernel_rfl) (by kernel_rfl) hc8 (AnyE.loadOwnA 12 29 0 23 23 (wA (t1 - 1)) 0 (iC (rdD p0 (wA (t1 - 1)))) [] (o := (Int.toNat (wA (t1 - 1))) * 1 + 0) h3 rfl (by kernel_rfl) hS4 rfl rfl (by kernel_rfl) rfl hc8 (fun _ _ hk => by obtain rfl := hk; kernel_rfl) ?_)
   obtain ⟨t10, hg9, h⟩ := of_bind h
   refine Wc 13 30 (tB t10) 131 #[iC (rdD p0 t1), iC (rdD p0 (wA (t1 - 1)))] hS4 (fun w hk => cmp_Less_uint16_131_ok K (fun _ => False) w (rdD p0 t1) (rdD p0 (wA (t1 - 1))) nF hg9) (Wu 14 31 (tB (!t10)) hS4 (Wu 15 32 (tB (!t10)) hS4 (AnyE.done (by kernel_rfl) (fun w11 hu12 => ?_))))
   have h13 := h3.call hu12
   refine Vl [(0, sV pA0 p0 pc0), (1, iA p1), (2, iA p2), (7, iA t1), (8, iA 0), (32, tB (!t10))] (Vl [(0, sV pA0 p0 pc0), (1, iA p1), (2, iA p2), (7, iA t1), (8, iA 0), (32, tB (!t10))] ?_)
   exact hj22 (!t10) w11 h (h13.pk [0])
  ·refine AnyE.fix 20 false hc6 (by kernel_rfl) (by kernel_rfl) (AnyE.no 4 21 (by kernel_rfl) hS4 (AnyE.no 5 22 (by kernel_rfl) hS4 (AnyE.no 6 23 (by kernel_rfl) hS4 (AnyE.no 7 24 (by kernel_rfl) hS4 (AnyE.no 8 25 (by kernel_rfl) hS4 (AnyE.no 9 26 (by kernel_rfl) hS4 (AnyE.no 10 27 (by kernel_rfl) hS4 (AnyE.no 11 28 (by kernel_rfl) hS4 (AnyE.no 12 29 (by kernel_rfl) hS4 (AnyE.no 13 30 (by kernel_rfl) hS4 (AnyE.no 14 31 (by kernel_rfl) hS4 ?_)))))))))))
   refine Wu 15 32 (tB false) hS4 (AnyE.done (by kernel_rfl) (fun w14 hu15 => ?_))
   have h16 := h3.call hu15
   refine Vl [(0, sV pA0 p0 pc0), (1, iA p1), (2, iA p2), (7, iA t1), (8, iA 0), (32, tB false)] (Vl [(0, sV pA0 p0 pc0), (1, iA p1), (2, iA p2), (7, iA t1), (8, iA 0), (32, tB false)] ?_)
   exact hj22 false w14 h (h16.pk [0])
def slices_partialInsertionSortOrdered_uint16_130.l1 (K : Nat) (p0 : List Int) (p1 : Int) (p2 : Int) : Nat → Option Bool
 | 0 => none
 | k + 1 => (slices_partialInsertionSortOrdered_uint16_130.l0 K p0 p1 p2 K (IntKind.wrap .i64 (p1 + 1))).bind (fun t27 => cond (t27 == p2) (some true) (cond (decide ((IntKind.wrap .i64 (p2 - p1)) < 50)) (some false) (cond (inR (IntKind.wrap .i64 (t27 - 1)) p0.length) (cond (inR t27 p0.length) (none) none) none)))
theorem slices_partialInsertionSortOrdered_uint16_130.l1_ok (K : Nat) (M0 : Nat → Prop) (w0 : World) (pA0 : Option Addr) (pc0 : Nat) (p0 : List Int) (p1 : Int) (p2 : Int) (R : Ending → World → Prop) (x : Bool) (hk0 : ∀ (t38 : Bool) (w1 : World), x = t38 → Holds M0 w0 w1 [own rC 23 (sV pA0 p0 pc0) p0] → R (.returned (tB t38)) w1) :
  ∀ (k : Nat) (w : World), slices_partialInsertionSortOrdered_uint16_130.l1 K p0 p1 p2 k = some x → Holds M0 w0 w [own rC 23 (sV pA0 p0 pc0) p0] → RunsI F130 [.c 9, .lp 9, .blk 0, .c 96] [(0, sV pA0 p0 pc0), (1, iA p1), (2, iA p2), (7, iA (wA (p1 + 1))), (8, iA 0)] w R := by
 intro k
 induction k with
 | zero => intro w h hH; exact absurd h (by simp [slices_partialInsertionSortOrdered_uint16_130.l1])
 | succ k ih =>
  intro w h hH
  rw [slices_partialInsertionSortOrdered_uint16_130.l1.eq_2] at h
  refine Xg 1 [.c 10, .c 15, .lp 9, .blk 0, .c 96] (Xd 1 11 [.c 12, .c 15, .lp 9, .blk 0, .c 96] 2 [(0, sV pA0 p0 pc0), (1, iA p1), (2, iA p2), (7, iA (wA (p1 + 1))), (8, iA 0), (14, tB true)] (Xb true 13 (Xg 6 [.c 20, .lp 20, .blk 2, .c 28, .blk 1, .c 95, .lp 9, .blk 0, .c 96] ?_)))
  obtain ⟨x25, hx26, h⟩ := of_bind h
  refine Vl [(0, sV pA0 p0 pc0), (1, iA p1), (2, iA p2), (7, iA (wA (p1 + 1))), (8, iA 0)] (slices_partialInsertionSortOrdered_uint16_130.l0_ok K M0 w0 pA0 pc0 p0 p1 p2 _ x25 ?_ K (wA (p1 + 1)) w hx26 (hH.pk [0]))
  ·intro t27 w29 hq44 h28
   (try rw [hq44] at h)
   refine Xd 2 30 [.c 31, .c 36, .blk 1, .c 95, .lp 9, .blk 0, .c 96] 3 [(0, sV pA0 p0 pc0), (1, iA p1), (2, iA p2), (7, iA t27), (8, iA 0), (37, tB (t27 == p2))] (Vc 37 32 35 h (fun hc30 h => ?_) fun hc30 h => ?_)
   ·refine Xd 1 33 [.c 34, .c 36, .blk 1, .c 95, .lp 9, .blk 0, .c 96] 1 [(6, tB true)] (Xt (tB true) ?_)
    exact hk0 true w29 (sI h).symm (h28.pk [0])
   ·refine Xg 1 [.c 36, .blk 1, .c 95, .lp 9, .blk 0, .c 96] (Xd 2 38 [.c 39, .c 44, .blk 1, .c 95, .lp 9, .blk 0, .c 96] 4 [(0, sV pA0 p0 pc0), (1, iA p1), (2, iA p2), (7, iA t27), (8, iA 0), (41, tB (decide ((wA (p2 - p1)) < 50)))] (Vc 41 40 43 h (fun hc31 h => ?_) fun hc31 h => ?_))
    ·refine Xd 1 41 [.c 42, .c 44, .blk 1, .c 95, .lp 9, .blk 0, .c 96] 1 [(6, tB false)] (Xt (tB false) ?_)
     exact hk0 false w29 (sI h).symm (h28.pk [0])
    ·refine Xg 1 [.c 44, .blk 1, .c 95, .lp 9, .blk 0, .c 96] (Xg 1 [.c 45, .c 46, .blk 1, .c 95, .lp 9, .blk 0, .c 96] (RunsI.any 18 (by kernel_rfl) (by kernel_rfl) (by kernel_rfl) (Kp ([] : List Nat) (World.drew w29)) ?_))
     have h33 := h28.drew
     generalize World.drew w29 = w32 at h33 ⊢
     have hS34 := Kp.refl ([] : List Nat) w32
     refine Wu 0 42 (sV pA0 p0 pc0) hS34 (Wu 1 43 (iA t27) hS34 (Wu 2 44 (sV pA0 p0 pc0) hS34 (Wu 3 45 (iA t27) hS34 (Wu 4 46 (iA (wA (t27 - 1))) hS34 (Wu 5 47 (sV pA0 p0 pc0) hS34 (Wu 6 48 (iA t27) hS34 (Wu 7 49 (iA (wA (t27 - 1))) hS34 ?_)))))))
     have ⟨hc36, h⟩ := oz h
     refine AnyE.idxOwnA 8 50 0 29 23 (wA (t27 - 1)) h33 (by kernel_rfl) hS34 rfl (by kernel_rfl) (by kernel_rfl) hc36 (AnyE.loadOwnA 9 51 0 23 23 (wA (t27 - 1)) 0 (iC (rdD p0 (wA (t27 - 1)))) [] (o := (Int.toNat (wA (t27 - 1))) * 1 + 0) h33 rfl (by kernel_rfl) hS34 rfl rfl (by kernel_rfl) rfl hc36 (fun _ _ hk => by obtain rfl := hk; kernel_rfl) (Wu 10 52 (sV pA0 p0 pc0) hS34 (Wu 11 53 (iA t27) hS34 ?_)))
     have ⟨hc37, h⟩ := oz h
     refine AnyE.idxOwnA 12 54 0 29 23 t27 h33 (by kernel_rfl) hS34 rfl (by kernel_rfl) (by kernel_rfl) hc37 (AnyE.loadOwnA 13 55 0 23 23 t27 0 (iC (rdD p0 t27)) [] (o := (Int.toNat t27) * 1 + 0) h33 rfl (by kernel_rfl) hS34 rfl rfl (by kernel_rfl) rfl hc37 (fun _ _ hk => by obtain rfl := hk; kernel_rfl) (AnyE.idxOwnA 14 56 0 29 23 t27 h33 (by kernel_rfl) hS34 rfl (by kernel_rfl) (by kernel_rfl) hc37 ?_))
     exact absurd h (by simp)
def slices_partialInsertionSortOrdered_uint16_130.f (K : Nat) (p0 : List Int) (p1 : Int) (p2 : Int) : Option (List Int × Bool) := (slices_partialInsertionSortOrdered_uint16_130.l1 K p0 p1 p2 K).bind (fun t41 => some (p0, t41))
theorem slices_partialInsertionSortOrdered_uint16_130_ok (K : Nat) (M0 : Nat → Prop) (w0 : World) (pA0 : Option Addr) (pc0 : Nat) (p0 : List Int) (p1 : Int) (p2 : Int) {wS : World} (h0 : Holds M0 w0 wS [own rC 23 (sV pA0 p0 pc0) p0]) {r : List Int × Bool} (h : slices_partialInsertionSortOrdered_uint16_130.f K p0 p1 p2 = some r) :
  Calls Tryz.prog 130 #[sV pA0 p0 pc0, iA p1, iA p2] wS (slices_partialInsertionSortOrdered_uint16_130.post pA0 pc0 M0 w0 r) := by
 unfold slices_partialInsertionSortOrdered_uint16_130.f at h
 refine calls_of F130 rfl [sV pA0 p0 pc0, iA p1, iA p2] (by kernel_rfl) (Xq 1 1 [.c 2] 1 [(0, sV pA0 p0 pc0), (1, iA p1), (2, iA p2)] (Zy 1 3 [.c 4] 3 [0, 1, 2, 7] [(7, iA (wA (p1 + 1)))] (Zy 2 6 [.c 7, .c 96] 1 [0, 1, 2, 7, 8] [(8, iA 0)] (Ye (Xg 2 [.c 9, .lp 9, .blk 0, .c 96] ?_)))))
 obtain ⟨x39, hx40, h⟩ := of_bind h
 refine Vl [(0, sV pA0 p0 pc0), (1, iA p1), (2, iA p2), (7, iA (wA (p1 + 1))), (8, iA 0)] (slices_partialInsertionSortOrdered_uint16_130.l1_ok K M0 w0 pA0 pc0 p0 p1 p2 _ x39 ?_ K wS hx40 (h0.pk [0]))
 ·intro t41 w43 hq45 h42
  (try rw [hq45] at h)
  obtain rfl := sI h
  exact ⟨rfl, h42⟩
end
end Go.Proofs.YtbcepghanbkncaaGreatDoor.LiT
