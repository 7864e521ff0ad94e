/- Functions of the program as plain Lean functions, each with the proof that the call comes to it; written by wip/eng.py. -/
import Derived.Test.YtbcepghanbkncaaGreatDoorEngShort2
import Derived.Test.YtbcepghanbkncaaGreatDoorLiT
set_option linter.unusedVariables false
set_option linter.unusedSimpArgs false
set_option maxHeartbeats 4000000
namespace Go.Proofs.YtbcepghanbkncaaGreatDoor.LiT
open Go.RowKit Go.Eng
set_option maxRecDepth 100000
section
def decode_Next_77.post (M0 : Nat → Prop) (w0 : World) (r : Int × Int × Int × Int × Int × Int × Bool) : Ending → World → Prop := fun e w => e = .returned (.tuple #[.agg #[.int .i64 r.1, .int .u8 r.2.1, .int .u8 r.2.2.1, .int .u16 r.2.2.2.1, .int .i64 r.2.2.2.2.1, .int .i64 r.2.2.2.2.2.1], .bool r.2.2.2.2.2.2]) ∧ Below w0.heap.size w0 w
def decode_Next_77.l0 (K : Nat) (p0 : List Int) : Nat → (List Int) → Int → Bool → Int → Int → Option (Int × Int × Int × (List Int) × Int × Bool)
 | 0, _, _, _, _, _ => none
 | k + 1, t20, t21, t22, t23, t24 => Let (fun (yj67 : (List Int) × Bool × Int) => Let (fun (t71 : Bool) => cond t71 (some (t23, yj67.2.2, (if (IntKind.wrap .i64 (t24 - 1)) > 0 then (IntKind.wrap .i64 (t24 - 1)) else 0), yj67.1, (IntKind.wrap .i64 (t21 + 1)), yj67.2.1)) (decode_Next_77.l0 K p0 k yj67.1 (IntKind.wrap .i64 (t21 + 1)) yj67.2.1 yj67.2.2 (IntKind.wrap .i64 (t24 + 1)))) (fun j74 => cond (yj67.2.2 != 221) (j74 (yj67.2.2 != 253)) (j74 false))) (fun j67 => Let (fun (yj47 : (List Int) × Int × Bool) => cond t22 (j67 (yj47.1, yj47.2.2, yj47.2.1)) (j67 (yj47.1, false, yj47.2.1))) (fun j47 => cond ((t20.length : Int) == 0) (j47 (t20, 0, false)) (cond (inR 0 t20.length) (cond (cutR 1 (t20.length : Int) t20.length) (j47 ((cutL t20 1 (t20.length : Int)), (rdD t20 0), true)) none) none)))
theorem decode_Next_77.l0_ok (K : Nat) (M0 : Nat → Prop) (w0 : World) (pA0 : Option Addr) (pc0 : Nat) (p0 : List Int) (b16 : Nat) (b17 : Nat) (b25 : Nat) (R : Ending → World → Prop) (x : Int × Int × Int × (List Int) × Int × Bool) (hk0 : ∀ (t78 : Int) (t79 : Int) (t80 : Int) (t83 : List Int) (t84 : Int) (t85 : Bool) (A81 : Option Addr) (c82 : Nat) (w1 : World), x = (t78, t79, t80, t83, t84, t85) → Holds M0 w0 w1 [box b25 25 [iA 0, iB 0, iB 0, iC 0, iA 0, iA 0], box b16 144 [.func (.func 159) #[] #[pt b17], iA t84, tB t85], box b17 39 [sV A81 t83 c82], sl rB (sV A81 t83 c82) t83] → R (.returned (.tuple #[iB t78, iB t79, iA t80])) w1) :
  ∀ (k : Nat) (t20 : List Int) (t21 : Int) (t22 : Bool) (t23 : Int) (t24 : Int) (A18 : Option Addr) (c19 : Nat) (w : World), decode_Next_77.l0 K p0 k t20 t21 t22 t23 t24 = some x → Holds M0 w0 w [box b16 144 [.func (.func 159) #[] #[pt b17], iA t21, tB t22], box b17 39 [sV A18 t20 c19], sl rB (sV A18 t20 c19) t20, box b25 25 [iA 0, iB 0, iB 0, iC 0, iA 0, iA 0]] → RunsI F120 [.c 8, .lp 8, .blk 0] [(0, pt b16), (5, iB t23), (6, iA t24)] w R := by
 intro k
 induction k with
 | zero => intro t20 t21 t22 t23 t24 A18 c19 w h hH; exact absurd h (by simp [decode_Next_77.l0])
 | succ k ih =>
  intro t20 t21 t22 t23 t24 A18 c19 w h hH
  rw [decode_Next_77.l0.eq_2] at h
  refine Xg 1 [.c 9, .blk 1, .lp 8, .blk 0] (Xq 1 10 [.c 11, .blk 1, .lp 8, .blk 0] 1 [(0, pt b16), (5, iB t23), (6, iA t24), (8, pt b16)] (RegI.enter 9 [0, 5, 6] [(0, pt b16), (5, iB t23), (6, iA t24)] (by kernel_rfl) (by kernel_rfl) (by kernel_rfl) (by kernel_rfl) F121 121 rfl [pt b16] (by kernel_rfl) (by kernel_rfl) ?_))
  obtain ⟨j67, hJ68, h⟩ := of_let h
  have hj69 : ∀ (t62 : List Int) (t63 : Bool) (t64 : Int) (A60 : Option Addr) (c61 : Nat) (w66 : World), j67 (t62, t63, t64) = some x → Holds M0 w0 w66 [box b16 144 [.func (.func 159) #[] #[pt b17], iA (wA (t21 + 1)), tB t63], box b17 39 [sV A60 t62 c61], sl rB (sV A60 t62 c61) t62, box b25 25 [iA 0, iB 0, iB 0, iC 0, iA 0, iA 0]] → RegI F120 10 [.c 11, .blk 1, .lp 8, .blk 0] 2 [(0, pt b16), (5, iB t23), (6, iA t24), (9, iB t64)] w66 R := by
   intro t62 t63 t64 A60 c61 w66 h h65
   rw [hJ68] at h
   clear hJ68
   dsimp only at h
   refine Yp 1 [(0, pt b16), (5, iB t23), (6, iA t24), (7, iB t64)] (Zy 2 13 [.c 14, .c 19, .blk 1, .lp 8, .blk 0] 3 [0, 5, 6, 7, 12] [(12, tB (t64 != 221))] ?_)
   obtain ⟨j74, hJ75, h⟩ := of_let h
   have hj76 : ∀ (t71 : Bool) (w73 : World), j74 t71 = some x → Holds M0 w0 w73 [box b16 144 [.func (.func 159) #[] #[pt b17], iA (wA (t21 + 1)), tB t63], box b17 39 [sV A60 t62 c61], sl rB (sV A60 t62 c61) t62, box b25 25 [iA 0, iB 0, iB 0, iC 0, iA 0, iA 0]] → RegI F120 13 [.c 14, .c 19, .blk 1, .lp 8, .blk 0] 6 [(0, pt b16), (5, iB t23), (6, iA t24), (7, iB t64), (15, tB t71)] w73 R := by
    intro t71 w73 h h72
    rw [hJ75] at h
    clear hJ75
    dsimp only at h
    refine Ye (Vc 15 15 18 h (fun hc77 h => ?_) fun hc77 h => ?_)
    ·refine Xd 1 16 [.c 17, .c 19, .blk 1, .lp 8, .blk 0] 8 [(2, iB t23), (3, iB t64), (4, iA (if (wA (t24 - 1)) > 0 then (wA (t24 - 1)) else 0))] (Xt (.tuple #[iB t23, iB t64, iA (if (wA (t24 - 1)) > 0 then (wA (t24 - 1)) else 0)]) ?_)
     exact hk0 t23 t64 (if (wA (t24 - 1)) > 0 then (wA (t24 - 1)) else 0) t62 (wA (t21 + 1)) t63 A60 c61 w73 (sI h).symm (h72.pk [3, 0, 1, 2])
    ·refine Xg 1 [.c 19, .blk 1, .lp 8, .blk 0] (Xd 1 20 [.c 21, .blk 1, .lp 8, .blk 0] 2 [(0, pt b16), (5, iB t64), (6, iA t24)] (Xr (Zd 3 [0, 5, 6] [(6, iA (wA (t24 + 1)))] (Xg 2 [.c 8, .lp 8, .blk 0] (Vl [(0, pt b16), (5, iB t64), (6, iA (wA (t24 + 1)))] ?_)))))
     exact ih t62 (wA (t21 + 1)) t63 t64 (wA (t24 + 1)) A60 c61 w73 h (h72.pk [0, 1, 2, 3])
   clear hJ75
   rcases oc h with ⟨hc70, h⟩ | ⟨hc70, h⟩
   ·refine Yf 12 true hc70 (Zp 3 [0, 5, 6, 7, 15] [(15, tB (t64 != 253))] (Ul [(0, pt b16), (5, iB t23), (6, iA t24), (7, iB t64), (15, tB (t64 != 253))] ?_))
    exact hj76 (t64 != 253) w66 h (h65.pk [0, 1, 2, 3])
   ·refine Yf 12 false hc70 (Zp 3 [0, 5, 6, 7, 15] [(15, tB false)] (Ul [(0, pt b16), (5, iB t23), (6, iA t24), (7, iB t64), (15, tB false)] ?_))
    exact hj76 false w66 h (h65.pk [0, 1, 2, 3])
  clear hJ68
  refine Xq 1 1 [.c 2] 1 [(0, pt b16)] (Zy 1 3 [.c 4] 3 [0, 8] [(8, pt b16)] (Ya 9 0 141 b16 0 (.func (.func 159) #[] #[pt b17]) hH rfl (RegI.enter 10 [0] [(0, pt b16)] (by kernel_rfl) (by kernel_rfl) (by kernel_rfl) (by kernel_rfl) F159 159 rfl [pt b17] (by kernel_rfl) (by kernel_rfl) ?_)))
  obtain ⟨j47, hJ48, h⟩ := of_let h
  have hj49 : ∀ (t42 : List Int) (t43 : Int) (t44 : Bool) (A40 : Option Addr) (c41 : Nat) (w46 : World), j47 (t42, t43, t44) = some x → Holds M0 w0 w46 [box b16 144 [.func (.func 159) #[] #[pt b17], iA t21, tB t22], box b17 39 [sV A40 t42 c41], sl rB (sV A40 t42 c41) t42, box b25 25 [iA 0, iB 0, iB 0, iC 0, iA 0, iA 0]] → RegI F121 3 [.c 4] 5 [(0, pt b16), (10, .tuple #[iB t43, tB t44])] w46 (cont (fun e' w' => RegI F120 10 [.c 11, .blk 1, .lp 8, .blk 0] 2 e' w' R) 9 [(0, pt b16), (5, iB t23), (6, iA t24)]) := by
   intro t42 t43 t44 A40 c41 w46 h h45
   rw [hJ48] at h
   clear hJ48
   dsimp only at h
   refine Yp 5 [(0, pt b16), (3, iB t43), (4, tB t44)] (Zy 1 5 [.c 6] 3 [0, 3, 4, 13, 15] [(13, pt b16), (15, pu b16 1)] (Ya 16 0 3 b16 1 (iA t21) h45 rfl (Zp 3 [0, 3, 4, 17, 19] [(17, iA (wA (t21 + 1))), (19, pu b16 1)] (Yb 0 3 b16 1 (iA (wA (t21 + 1))) [.func (.func 159) #[] #[pt b17], iA (wA (t21 + 1)), tB t22] h45 rfl ?_))))
   intro w50 h51 hk52
   refine Zy 1 7 [.c 8] 4 [3, 4, 20, 23] [(20, pt b16), (23, pu b16 2)] (Ya 24 0 4 b16 2 (tB t22) h51 rfl (Zp 1 [3, 4, 20, 25] [(25, tB t22)] ?_))
   rcases oc h with ⟨hc53, h⟩ | ⟨hc53, h⟩
   ·refine Yf 25 true hc53 (Zp 4 [3, 27, 29] [(27, tB t44), (29, pu b16 2)] (Yb 0 4 b16 2 (tB t44) [.func (.func 159) #[] #[pt b17], iA (wA (t21 + 1)), tB t44] h51 rfl ?_))
    intro w54 h55 hk56
    refine Yq 1 9 [.c 10] 2 [(2, iB t43)] (Ye (Xt (iB t43) (cont_mk (Ul [(0, pt b16), (5, iB t23), (6, iA t24), (9, iB t43)] ?_))))
    exact hj69 t42 t44 t43 A40 c41 w54 h (h55.pk [0, 1, 2, 3])
   ·refine Yf 25 false hc53 (Zp 4 [3, 27, 29] [(27, tB false), (29, pu b16 2)] (Yb 0 4 b16 2 (tB false) [.func (.func 159) #[] #[pt b17], iA (wA (t21 + 1)), tB false] h51 rfl ?_))
    intro w57 h58 hk59
    refine Yq 1 9 [.c 10] 2 [(2, iB t43)] (Ye (Xt (iB t43) (cont_mk (Ul [(0, pt b16), (5, iB t23), (6, iA t24), (9, iB t43)] ?_))))
    exact hj69 t42 false t43 A40 c41 w57 h (h58.pk [0, 1, 2, 3])
  clear hJ48
  refine Xd 1 1 [.c 2] 2 [(0, pt b17)] (Xg 2 [.c 4, .c 5, .c 10] (Xr (Ya 4 1 39 b17 0 (sV A18 t20 c19) hH rfl (Zd 2 [0, 6] [(6, tB ((t20.length : Int) == 0))] (Vc 6 6 9 h (fun hc26 h => ?_) fun hc26 h => ?_)))))
  ·refine Xd 1 7 [.c 8, .c 10] 2 [(1, iB 0), (2, tB false)] (Xt (.tuple #[iB 0, tB false]) (cont_mk (Ul [(0, pt b16), (10, .tuple #[iB 0, tB false])] ?_)))
   exact hj49 t20 0 false A18 c19 w h (hH.pk [0, 1, 2, 3])
  ·refine Xg 1 [.c 10] (Xg 1 [.c 11, .c 12] (Xr (Ya 7 1 39 b17 0 (sV A18 t20 c19) hH rfl ?_)))
   have ⟨hc27, h⟩ := oz h
   refine Yo (OpE.idxSl 8 2 39 0 hH (by kernel_rfl) rfl (by kernel_rfl) (by kernel_rfl) hc27 ?_)
   intro b28 o29 cs30 hk31 h32
   obtain rfl := hk31
   refine Yz 9 4 5 b28 o29 0 (iB (rdD t20 0)) h32 rfl (Yd 1 [(0, pt b17), (3, iB (rdD t20 0))] (Xg 1 [.c 13, .c 14] (Xr (Ya 10 1 39 b17 0 (sV A18 t20 c19) h32 rfl ?_))))
   have ⟨hc33, h⟩ := oz h
   refine Yo (OpE.cutSl 11 2 39 (some 1) none h32 (by kernel_rfl) rfl (by kernel_rfl) (by kernel_rfl) hc33 ?_)
   intro A34 c35 h36
   refine Yb 1 39 b17 0 (sV A34 (cutL t20 1 (t20.length : Int)) c35) [sV A34 (cutL t20 1 (t20.length : Int)) c35] h36 rfl ?_
   intro w37 h38 hk39
   refine Yq 1 15 [.c 16] 3 [(1, iB (rdD t20 0)), (2, tB true)] (Ye (Xt (.tuple #[iB (rdD t20 0), tB true]) (cont_mk (Ul [(0, pt b16), (10, .tuple #[iB (rdD t20 0), tB true])] ?_))))
   exact hj49 (cutL t20 1 (t20.length : Int)) (rdD t20 0) true A34 c35 w37 h (h38.pk [0, 1, 5, 3])
def decode_Next_77.f (K : Nat) (p0 : List Int) : Option (Int × Int × Int × Int × Int × Int × Bool) := (decode_Next_77.l0 K p0 K p0 0 true 0 0).bind (fun yx86 => Let (fun (yj385 : (List Int) × Int × Bool × Int × Int × Int × Int) => Let (fun (t389 : Bool) => Let (fun (t399 : Int) => (decode_Size_124.f K t399 yj385.2.2.2.2.1).bind fun t409 => Let (fun (yj557 : (List Int) × Int × Bool × Int) => cond (!yj557.2.2.1) (some (0, 0, 0, 0, 0, 0, false)) (some (t399, yj385.2.2.2.2.1, yj385.2.2.2.2.2.1, yj557.2.2.2, yj557.2.1, yj385.2.2.2.2.2.2, true))) (fun j557 => cond (t409 == 0) (j557 (yj385.1, yj385.2.1, yj385.2.2.1, 0)) (cond (t409 == 1) (Let (fun (yj453 : Int × (List Int) × Bool) => j557 (yj453.2.1, (IntKind.wrap .i64 (yj385.2.1 + 1)), yj453.2.2, (IntKind.wrap .u16 yj453.1))) (fun j453 => Let (fun (yj433 : (List Int) × Int × Bool) => cond yj385.2.2.1 (j453 (yj433.2.1, yj433.1, yj433.2.2)) (j453 (yj433.2.1, yj433.1, false))) (fun j433 => cond ((yj385.1.length : Int) == 0) (j433 (yj385.1, 0, false)) (cond (inR 0 yj385.1.length) (cond (cutR 1 (yj385.1.length : Int) yj385.1.length) (j433 ((cutL yj385.1 1 (yj385.1.length : Int)), (rdD yj385.1 0), true)) none) none)))) (Let (fun (yj497 : (List Int) × Bool × Int) => Let (fun (yj541 : Int × (List Int) × Bool) => (bits_Word_160.f K yj541.1 yj497.2.2).bind fun t548 => j557 (yj541.2.1, (IntKind.wrap .i64 ((IntKind.wrap .i64 (yj385.2.1 + 1)) + 1)), yj541.2.2, t548)) (fun j541 => Let (fun (yj521 : (List Int) × Int × Bool) => cond yj497.2.1 (j541 (yj521.2.1, yj521.1, yj521.2.2)) (j541 (yj521.2.1, yj521.1, false))) (fun j521 => cond ((yj497.1.length : Int) == 0) (j521 (yj497.1, 0, false)) (cond (inR 0 yj497.1.length) (cond (cutR 1 (yj497.1.length : Int) yj497.1.length) (j521 ((cutL yj497.1 1 (yj497.1.length : Int)), (rdD yj497.1 0), true)) none) none)))) (fun j497 => Let (fun (yj477 : (List Int) × Int × Bool) => cond yj385.2.2.1 (j497 (yj477.1, yj477.2.2, yj477.2.1)) (j497 (yj477.1, false, yj477.2.1))) (fun j477 => cond ((yj385.1.length : Int) == 0) (j477 (yj385.1, 0, false)) (cond (inR 0 yj385.1.length) (cond (cutR 1 (yj385.1.length : Int) yj385.1.length) (j477 ((cutL yj385.1 1 (yj385.1.length : Int)), (rdD yj385.1 0), true)) none) none))))))) (fun j402 => cond t389 (j402 (IntKind.wrap .i64 (yj385.2.2.2.1 + 1))) (j402 yj385.2.2.2.1))) (fun j392 => cond (yx86.1 == 253) (j392 (yj385.2.2.2.1 != 2)) (j392 false))) (fun j385 => cond (yx86.2.1 == 237) (Let (fun (yj148 : (List Int) × Bool × Int) => cond (yx86.1 != 0) (j385 (yj148.1, (IntKind.wrap .i64 (yx86.2.2.2.2.1 + 1)), yj148.2.1, 2, yj148.2.2, 0, (IntKind.wrap .i64 (yx86.2.2.1 + 1)))) (j385 (yj148.1, (IntKind.wrap .i64 (yx86.2.2.2.2.1 + 1)), yj148.2.1, 2, yj148.2.2, 0, yx86.2.2.1))) (fun j148 => Let (fun (yj128 : (List Int) × Int × Bool) => cond yx86.2.2.2.2.2 (j148 (yj128.1, yj128.2.2, yj128.2.1)) (j148 (yj128.1, false, yj128.2.1))) (fun j128 => cond ((yx86.2.2.2.1.length : Int) == 0) (j128 (yx86.2.2.2.1, 0, false)) (cond (inR 0 yx86.2.2.2.1.length) (cond (cutR 1 (yx86.2.2.2.1.length : Int) yx86.2.2.2.1.length) (j128 ((cutL yx86.2.2.2.1 1 (yx86.2.2.2.1.length : Int)), (rdD yx86.2.2.2.1 0), true)) none) none)))) (Let (fun (t162 : Bool) => cond t162 (Let (fun (yj213 : (List Int) × Bool × Int) => Let (fun (yj260 : (List Int) × Bool × Int) => j385 (yj260.1, (IntKind.wrap .i64 ((IntKind.wrap .i64 (yx86.2.2.2.2.1 + 1)) + 1)), yj260.2.1, 5, yj260.2.2, yj213.2.2, yx86.2.2.1)) (fun j260 => Let (fun (yj240 : (List Int) × Int × Bool) => cond yj213.2.1 (j260 (yj240.1, yj240.2.2, yj240.2.1)) (j260 (yj240.1, false, yj240.2.1))) (fun j240 => cond ((yj213.1.length : Int) == 0) (j240 (yj213.1, 0, false)) (cond (inR 0 yj213.1.length) (cond (cutR 1 (yj213.1.length : Int) yj213.1.length) (j240 ((cutL yj213.1 1 (yj213.1.length : Int)), (rdD yj213.1 0), true)) none) none)))) (fun j213 => Let (fun (yj193 : (List Int) × Int × Bool) => cond yx86.2.2.2.2.2 (j213 (yj193.1, yj193.2.2, yj193.2.1)) (j213 (yj193.1, false, yj193.2.1))) (fun j193 => cond ((yx86.2.2.2.1.length : Int) == 0) (j193 (yx86.2.2.2.1, 0, false)) (cond (inR 0 yx86.2.2.2.1.length) (cond (cutR 1 (yx86.2.2.2.1.length : Int) yx86.2.2.2.1.length) (j193 ((cutL yx86.2.2.2.1 1 (yx86.2.2.2.1.length : Int)), (rdD yx86.2.2.2.1 0), true)) none) none)))) (cond (yx86.2.1 == 203) (Let (fun (yj308 : (List Int) × Bool × Int) => j385 (yj308.1, (IntKind.wrap .i64 (yx86.2.2.2.2.1 + 1)), yj308.2.1, 1, yj308.2.2, 0, yx86.2.2.1)) (fun j308 => Let (fun (yj288 : (List Int) × Int × Bool) => cond yx86.2.2.2.2.2 (j308 (yj288.1, yj288.2.2, yj288.2.1)) (j308 (yj288.1, false, yj288.2.1))) (fun j288 => cond ((yx86.2.2.2.1.length : Int) == 0) (j288 (yx86.2.2.2.1, 0, false)) (cond (inR 0 yx86.2.2.2.1.length) (cond (cutR 1 (yx86.2.2.2.1.length : Int) yx86.2.2.2.1.length) (j288 ((cutL yx86.2.2.2.1 1 (yx86.2.2.2.1.length : Int)), (rdD yx86.2.2.2.1 0), true)) none) none)))) (cond (yx86.1 != 0) ((decode_Near_122.f K 3 yx86.2.1).bind fun t325 => cond t325 (Let (fun (yj368 : (List Int) × Bool × Int) => j385 (yj368.1, (IntKind.wrap .i64 (yx86.2.2.2.2.1 + 1)), yj368.2.1, 3, yx86.2.1, yj368.2.2, yx86.2.2.1)) (fun j368 => Let (fun (yj348 : (List Int) × Int × Bool) => cond yx86.2.2.2.2.2 (j368 (yj348.1, yj348.2.2, yj348.2.1)) (j368 (yj348.1, false, yj348.2.1))) (fun j348 => cond ((yx86.2.2.2.1.length : Int) == 0) (j348 (yx86.2.2.2.1, 0, false)) (cond (inR 0 yx86.2.2.2.1.length) (cond (cutR 1 (yx86.2.2.2.1.length : Int) yx86.2.2.2.1.length) (j348 ((cutL yx86.2.2.2.1 1 (yx86.2.2.2.1.length : Int)), (rdD yx86.2.2.2.1 0), true)) none) none)))) (j385 (yx86.2.2.2.1, yx86.2.2.2.2.1, yx86.2.2.2.2.2, 3, yx86.2.1, 0, yx86.2.2.1))) (j385 (yx86.2.2.2.1, yx86.2.2.2.2.1, yx86.2.2.2.2.2, 0, yx86.2.1, 0, yx86.2.2.1))))) (fun j165 => cond (yx86.2.1 == 203) (j165 (yx86.1 != 0)) (j165 false)))))
theorem decode_Next_77_ok (K : Nat) (M0 : Nat → Prop) (w0 : World) (pA0 : Option Addr) (pc0 : Nat) (p0 : List Int) (ho : ∀ b, M0 b → b < w0.heap.size) (hs0 : Sl rB w0 M0 (sV pA0 p0 pc0) p0) {r : Int × Int × Int × Int × Int × Int × Bool} (h : decode_Next_77.f K p0 = some r) :
  Calls Tryz.prog 77 #[sV pA0 p0 pc0] w0 (decode_Next_77.post M0 w0 r) := by
 unfold decode_Next_77.f at h
 have h0 : Holds M0 w0 w0 [] := Holds.start ho
 have h00 := h0.aS hs0
 have h0 : Holds M0 w0 w0 [sl rB (sV pA0 p0 pc0) p0] := h00
 refine calls_of F77 rfl [sV pA0 p0 pc0] (by kernel_rfl) (Xg 1 [.c 1, .c 2] (Xr (Yx 2 25 [iA 0, iB 0, iB 0, iC 0, iA 0, iA 0] h0 ?_)))
 intro w1 b2 h3 hb4 hn5
 refine Yp 1 [(0, sV pA0 p0 pc0), (2, pt b2)] (Zy 1 3 [.c 4] 1 [2, 9] [(9, sV pA0 p0 pc0)] (RegI.enter 10 [2] [(2, pt b2)] (by kernel_rfl) (by kernel_rfl) (by kernel_rfl) (by kernel_rfl) F119 119 rfl [sV pA0 p0 pc0] (by kernel_rfl) (by kernel_rfl) (Xg 1 [.c 1, .c 2] (Xr (Yx 1 39 [sV pA0 p0 pc0] h3 ?_)))))
 intro w6 b7 h8 hb9 hn10
 refine Yp 1 [(1, pt b7)] (Yq 1 3 [.c 4] 2 [(2, .func (.func 159) #[] #[pt b7])] (Ye (Xt (.func (.func 159) #[] #[pt b7]) (cont_mk (Yp 1 [(2, pt b2), (11, .agg #[.func (.func 159) #[] #[pt b7], iA 0, tB true])] (Yx 12 144 [.func (.func 159) #[] #[pt b7], iA 0, tB true] h8 ?_))))))
 intro w11 b12 h13 hb14 hn15
 refine Zp 1 [2, 4] [(4, pt b12)] (Zy 1 5 [.c 6] 1 [2, 4, 14] [(14, pt b12)] (RegI.enter 15 [2, 4] [(2, pt b2), (4, pt b12)] (by kernel_rfl) (by kernel_rfl) (by kernel_rfl) (by kernel_rfl) F120 120 rfl [pt b12] (by kernel_rfl) (by kernel_rfl) (Xq 1 1 [.c 2] 3 [(0, pt b12)] (Zy 1 3 [.c 4] 1 [0, 5] [(5, iB 0)] (Zy 1 5 [.c 6] 1 [0, 5, 6] [(6, iA 0)] (Ye (Xg 2 [.c 8, .lp 8, .blk 0] ?_)))))))
 obtain ⟨x86, hx87, h⟩ := of_bind h
 refine Vl [(0, pt b12), (5, iB 0), (6, iA 0)] (decode_Next_77.l0_ok K M0 w0 pA0 pc0 p0 b12 b7 b2 _ x86 ?_ K p0 0 true 0 0 pA0 pc0 w11 hx87 (h13.pk [3, 2, 0, 1]))
 ·intro t88 t89 t90 t93 t94 t95 A91 c92 w97 hq573 h96
  (try rw [hq573] at h)
  dsimp only at h
  refine cont_mk (Yp 7 [(2, pt b2), (4, pt b12), (5, iB t88), (6, iB t89), (7, iA t90)] (Zy 1 7 [.c 8] 3 [2, 4, 5, 6, 21] [(21, .agg #[iA 0, iB t89, iB 0, iC 0, iA 0, iA t90])] (Yx 8 25 [iA 0, iB 0, iB 0, iC 0, iA 0, iA 0] h96 ?_)))
  intro w98 b99 h100 hb101 hn102
  refine Yb 4 25 b99 0 (.agg #[iA 0, iB t89, iB 0, iC 0, iA 0, iA t90]) [iA 0, iB t89, iB 0, iC 0, iA 0, iA t90] h100 rfl ?_
  intro w103 h104 hk105
  refine Zy 3 11 [.c 12, .blk 0, .c 43] 3 [2, 4, 5, 6, 8, 22] [(8, pt b99), (22, tB (t89 == 237))] (Ye ?_)
  obtain ⟨j385, hJ386, h⟩ := of_let h
  have hj387 : ∀ (t376 : List Int) (t377 : Int) (t378 : Bool) (t379 : Int) (t380 : Int) (t381 : Int) (t382 : Int) (A374 : Option Addr) (c375 : Nat) (w384 : World), j385 (t376, t377, t378, t379, t380, t381, t382) = some r → Holds M0 w0 w384 [box b2 25 [iA 0, iB 0, iB 0, iC 0, iA 0, iA 0], box b12 144 [.func (.func 159) #[] #[pt b7], iA t377, tB t378], box b7 39 [sV A374 t376 c375], sl rB (sV A374 t376 c375) t376, box b99 25 [iA t379, iB t380, iB t381, iC 0, iA 0, iA t382]] → RunsI F77 [.blk 0, .c 43] [(2, pt b2), (4, pt b12), (5, iB t88), (8, pt b99)] w384 (decode_Next_77.post M0 w0 r) := by
   intro t376 t377 t378 t379 t380 t381 t382 A374 c375 w384 h h383
   rw [hJ386] at h
   clear hJ386
   dsimp only at h
   refine Xq 3 45 [.c 46, .c 49] 3 [(2, pt b2), (4, pt b12), (8, pt b99), (69, tB (t88 == 253))] ?_
   obtain ⟨j392, hJ393, h⟩ := of_let h
   have hj394 : ∀ (t389 : Bool) (w391 : World), j392 t389 = some r → Holds M0 w0 w391 [box b2 25 [iA 0, iB 0, iB 0, iC 0, iA 0, iA 0], box b12 144 [.func (.func 159) #[] #[pt b7], iA t377, tB t378], box b7 39 [sV A374 t376 c375], sl rB (sV A374 t376 c375) t376, box b99 25 [iA t379, iB t380, iB t381, iC 0, iA 0, iA t382]] → RegI F77 45 [.c 46, .c 49] 7 [(2, pt b2), (4, pt b12), (8, pt b99), (73, tB t389)] w391 (decode_Next_77.post M0 w0 r) := by
    intro t389 w391 h h390
    rw [hJ393] at h
    clear hJ393
    dsimp only at h
    refine Ye ?_
    obtain ⟨j402, hJ403, h⟩ := of_let h
    have hj404 : ∀ (t399 : Int) (w401 : World), j402 t399 = some r → Holds M0 w0 w401 [box b2 25 [iA 0, iB 0, iB 0, iC 0, iA 0, iA 0], box b12 144 [.func (.func 159) #[] #[pt b7], iA t377, tB t378], box b7 39 [sV A374 t376 c375], sl rB (sV A374 t376 c375) t376, box b99 25 [iA t399, iB t380, iB t381, iC 0, iA 0, iA t382]] → RunsI F77 [.c 49] [(2, pt b2), (4, pt b12), (8, pt b99)] w401 (decode_Next_77.post M0 w0 r) := by
     intro t399 w401 h h400
     rw [hJ403] at h
     clear hJ403
     dsimp only at h
     refine Xq 1 50 [.c 51] 2 [(2, pt b2), (4, pt b12), (8, pt b99), (78, pt b12), (79, pt b99)] (Ya 80 4 3 b99 0 (iA t399) h400 rfl (Zp 1 [2, 4, 8, 78, 80, 81] [(80, iA t399), (81, pu b99 1)] (Ya 82 4 5 b99 1 (iB t380) h400 rfl ?_)))
     obtain ⟨t409, hg408, h⟩ := of_bind h
     refine Yc 83 124 #[iA t399, iB t380] ((decode_Size_124_ok K _ w401  t399 t380 h400.old' hg408).mono ?_)
     rintro _ w405 ⟨rfl, hb406⟩
     refine ⟨_, rfl, ?_⟩
     have h407 := h400.call hb406
     refine RegI.enter 84 [2, 4, 8] [(2, pt b2), (4, pt b12), (8, pt b99)] (by kernel_rfl) (by kernel_rfl) (by kernel_rfl) (by kernel_rfl) F123 123 rfl [pt b12, iA t409] (by kernel_rfl) (by kernel_rfl) ?_
     obtain ⟨j557, hJ558, h⟩ := of_let h
     have hj559 : ∀ (t551 : List Int) (t552 : Int) (t553 : Bool) (t554 : Int) (A549 : Option Addr) (c550 : Nat) (w556 : World), j557 (t551, t552, t553, t554) = some r → Holds M0 w0 w556 [box b2 25 [iA 0, iB 0, iB 0, iC 0, iA 0, iA 0], box b12 144 [.func (.func 159) #[] #[pt b7], iA t552, tB t553], box b7 39 [sV A549 t551 c550], sl rB (sV A549 t551 c550) t551, box b99 25 [iA t399, iB t380, iB t381, iC 0, iA 0, iA t382]] → RegI F77 50 [.c 51] 7 [(2, pt b2), (4, pt b12), (8, pt b99), (84, iC t554)] w556 (decode_Next_77.post M0 w0 r) := by
      intro t551 t552 t553 t554 A549 c550 w556 h h555
      rw [hJ558] at h
      clear hJ558
      dsimp only at h
      refine Yp 1 [(2, pt b2), (4, pt b12), (8, pt b99), (84, iC t554), (85, pu b99 3)] (Yb 4 23 b99 3 (iC t554) [iA t399, iB t380, iB t381, iC t554, iA 0, iA t382] h555 rfl ?_)
      intro w560 h561 hk562
      refine Zy 1 52 [.c 53] 3 [2, 4, 8, 88] [(88, pu b12 1)] (Ya 89 1 3 b12 1 (iA t552) h561 rfl (Zp 1 [2, 4, 8, 89, 90] [(89, iA t552), (90, pu b99 4)] (Yb 4 3 b99 4 (iA t552) [iA t399, iB t380, iB t381, iC t554, iA t552, iA t382] h561 rfl ?_)))
      intro w563 h564 hk565
      refine Zy 2 55 [.c 56, .c 61] 3 [2, 8, 93] [(93, pu b12 2)] (Ya 94 1 4 b12 2 (tB t553) h564 rfl (Zd 1 [2, 8, 95] [(95, tB (!t553))] (Vc 95 57 60 h (fun hc566 h => ?_) fun hc566 h => ?_)))
      ·refine Xq 1 58 [.c 59, .c 61] 1 [(2, pt b2), (96, .agg #[iA 0, iB 0, iB 0, iC 0, iA 0, iA 0])] (Yb 0 25 b2 0 (.agg #[iA 0, iB 0, iB 0, iC 0, iA 0, iA 0]) [iA 0, iB 0, iB 0, iC 0, iA 0, iA 0] h564 rfl ?_)
       intro w567 h568 hk569
       refine Zd 1 [2, 3] [(3, tB false)] (RunsI.toRet (by kernel_rfl) (RetI.valW [.cell 2 25, .tmp 3] [.agg #[iA 0, iB 0, iB 0, iC 0, iA 0, iA 0], tB false] (.tuple #[.agg #[iA 0, iB 0, iB 0, iC 0, iA 0, iA 0], tB false]) (by kernel_rfl) (ResAt.box 0 25 b2 0 h568 (by kernel_rfl) (by kernel_rfl) rfl (by kernel_rfl) (ResAt.tmp (by kernel_rfl) (by kernel_rfl) rfl)) (by kernel_rfl) ?_))
       obtain rfl := sI h
       exact ⟨rfl, h568.below⟩
      ·refine Xg 1 [.c 61] (Xg 1 [.c 62, .c 63] (Xr (Ya 97 4 25 b99 0 (.agg #[iA t399, iB t380, iB t381, iC t554, iA t552, iA t382]) h564 rfl (Yb 0 25 b2 0 (.agg #[iA t399, iB t380, iB t381, iC t554, iA t552, iA t382]) [iA t399, iB t380, iB t381, iC t554, iA t552, iA t382] h564 rfl ?_))))
       intro w570 h571 hk572
       refine Yd 1 [(2, pt b2), (3, tB true)] (RunsI.toRet (by kernel_rfl) (RetI.valW [.cell 2 25, .tmp 3] [.agg #[iA t399, iB t380, iB t381, iC t554, iA t552, iA t382], tB true] (.tuple #[.agg #[iA t399, iB t380, iB t381, iC t554, iA t552, iA t382], tB true]) (by kernel_rfl) (ResAt.box 0 25 b2 0 h571 (by kernel_rfl) (by kernel_rfl) rfl (by kernel_rfl) (ResAt.tmp (by kernel_rfl) (by kernel_rfl) rfl)) (by kernel_rfl) ?_))
       obtain rfl := sI h
       exact ⟨rfl, h571.below⟩
     clear hJ558
     refine Xq 1 1 [.c 2] 1 [(0, pt b12), (1, iA t409)] (Zy 2 4 [.c 5, .c 19] 1 [0, 6] [(6, iA t409)] (Zy 2 7 [.c 8, .blk 0, .c 19] 2 [0, 6, 7] [(7, tB (t409 == 0))] (Ye (Vc 7 9 12 h (fun hc410 h => ?_) fun hc410 h => ?_))))
     ·refine Xd 1 10 [.c 11, .blk 0, .c 19] 1 [(4, iC 0)] (Xt (iC 0) (cont_mk (Ul [(2, pt b2), (4, pt b12), (8, pt b99), (84, iC 0)] ?_)))
      exact hj559 t376 t377 t378 0 A374 c375 w405 h (h407.pk [0, 1, 2, 3, 4])
     ·refine Xd 1 13 [.c 14, .blk 0, .c 19] 2 [(0, pt b12), (9, tB (t409 == 1))] (Vc 9 15 18 h (fun hc411 h => ?_) fun hc411 h => ?_)
      ·refine Xq 1 16 [.c 17, .blk 0, .c 19] 1 [(11, pt b12)] (RegI.enter 12 [] [] (by kernel_rfl) (by kernel_rfl) (by kernel_rfl) (by kernel_rfl) F121 121 rfl [pt b12] (by kernel_rfl) (by kernel_rfl) ?_)
       obtain ⟨j453, hJ454, h⟩ := of_let h
       have hj455 : ∀ (t446 : Int) (t449 : List Int) (t450 : Bool) (A447 : Option Addr) (c448 : Nat) (w452 : World), j453 (t446, t449, t450) = some r → Holds M0 w0 w452 [box b2 25 [iA 0, iB 0, iB 0, iC 0, iA 0, iA 0], box b12 144 [.func (.func 159) #[] #[pt b7], iA (wA (t377 + 1)), tB t450], box b7 39 [sV A447 t449 c448], sl rB (sV A447 t449 c448) t449, box b99 25 [iA t399, iB t380, iB t381, iC 0, iA 0, iA t382]] → RegI F123 16 [.c 17, .blk 0, .c 19] 2 [(12, iB t446)] w452 (cont (fun e' w' => RegI F77 50 [.c 51] 7 e' w' (decode_Next_77.post M0 w0 r)) 84 [(2, pt b2), (4, pt b12), (8, pt b99)]) := by
        intro t446 t449 t450 A447 c448 w452 h h451
        rw [hJ454] at h
        clear hJ454
        dsimp only at h
        refine Yd 2 [(4, iC (wC t446))] (Xt (iC (wC t446)) (cont_mk (Ul [(2, pt b2), (4, pt b12), (8, pt b99), (84, iC (wC t446))] ?_)))
        exact hj559 t449 (wA (t377 + 1)) t450 (wC t446) A447 c448 w452 h (h451.pk [0, 1, 2, 3, 4])
       clear hJ454
       refine Xq 1 1 [.c 2] 1 [(0, pt b12)] (Zy 1 3 [.c 4] 3 [0, 8] [(8, pt b12)] (Ya 9 1 141 b12 0 (.func (.func 159) #[] #[pt b7]) h407 rfl (RegI.enter 10 [0] [(0, pt b12)] (by kernel_rfl) (by kernel_rfl) (by kernel_rfl) (by kernel_rfl) F159 159 rfl [pt b7] (by kernel_rfl) (by kernel_rfl) ?_)))
       obtain ⟨j433, hJ434, h⟩ := of_let h
       have hj435 : ∀ (t428 : List Int) (t429 : Int) (t430 : Bool) (A426 : Option Addr) (c427 : Nat) (w432 : World), j433 (t428, t429, t430) = some r → Holds M0 w0 w432 [box b12 144 [.func (.func 159) #[] #[pt b7], iA t377, tB t378], box b7 39 [sV A426 t428 c427], sl rB (sV A426 t428 c427) t428, box b2 25 [iA 0, iB 0, iB 0, iC 0, iA 0, iA 0], box b99 25 [iA t399, iB t380, iB t381, iC 0, iA 0, iA t382]] → RegI F121 3 [.c 4] 5 [(0, pt b12), (10, .tuple #[iB t429, tB t430])] w432 (cont (fun e' w' => RegI F123 16 [.c 17, .blk 0, .c 19] 2 e' w' (cont (fun e' w' => RegI F77 50 [.c 51] 7 e' w' (decode_Next_77.post M0 w0 r)) 84 [(2, pt b2), (4, pt b12), (8, pt b99)])) 12 []) := by
        intro t428 t429 t430 A426 c427 w432 h h431
        rw [hJ434] at h
        clear hJ434
        dsimp only at h
        refine Yp 5 [(0, pt b12), (3, iB t429), (4, tB t430)] (Zy 1 5 [.c 6] 3 [0, 3, 4, 13, 15] [(13, pt b12), (15, pu b12 1)] (Ya 16 0 3 b12 1 (iA t377) h431 rfl (Zp 3 [0, 3, 4, 17, 19] [(17, iA (wA (t377 + 1))), (19, pu b12 1)] (Yb 0 3 b12 1 (iA (wA (t377 + 1))) [.func (.func 159) #[] #[pt b7], iA (wA (t377 + 1)), tB t378] h431 rfl ?_))))
        intro w436 h437 hk438
        refine Zy 1 7 [.c 8] 4 [3, 4, 20, 23] [(20, pt b12), (23, pu b12 2)] (Ya 24 0 4 b12 2 (tB t378) h437 rfl (Zp 1 [3, 4, 20, 25] [(25, tB t378)] ?_))
        rcases oc h with ⟨hc439, h⟩ | ⟨hc439, h⟩
        ·refine Yf 25 true hc439 (Zp 4 [3, 27, 29] [(27, tB t430), (29, pu b12 2)] (Yb 0 4 b12 2 (tB t430) [.func (.func 159) #[] #[pt b7], iA (wA (t377 + 1)), tB t430] h437 rfl ?_))
         intro w440 h441 hk442
         refine Yq 1 9 [.c 10] 2 [(2, iB t429)] (Ye (Xt (iB t429) (cont_mk (Ul [(12, iB t429)] ?_))))
         exact hj455 t429 t428 t430 A426 c427 w440 h (h441.pk [3, 0, 1, 2, 4])
        ·refine Yf 25 false hc439 (Zp 4 [3, 27, 29] [(27, tB false), (29, pu b12 2)] (Yb 0 4 b12 2 (tB false) [.func (.func 159) #[] #[pt b7], iA (wA (t377 + 1)), tB false] h437 rfl ?_))
         intro w443 h444 hk445
         refine Yq 1 9 [.c 10] 2 [(2, iB t429)] (Ye (Xt (iB t429) (cont_mk (Ul [(12, iB t429)] ?_))))
         exact hj455 t429 t428 false A426 c427 w443 h (h444.pk [3, 0, 1, 2, 4])
       clear hJ434
       refine Xd 1 1 [.c 2] 2 [(0, pt b7)] (Xg 2 [.c 4, .c 5, .c 10] (Xr (Ya 4 2 39 b7 0 (sV A374 t376 c375) h407 rfl (Zd 2 [0, 6] [(6, tB ((t376.length : Int) == 0))] (Vc 6 6 9 h (fun hc412 h => ?_) fun hc412 h => ?_)))))
       ·refine Xd 1 7 [.c 8, .c 10] 2 [(1, iB 0), (2, tB false)] (Xt (.tuple #[iB 0, tB false]) (cont_mk (Ul [(0, pt b12), (10, .tuple #[iB 0, tB false])] ?_)))
        exact hj435 t376 0 false A374 c375 w405 h (h407.pk [1, 2, 3, 0, 4])
       ·refine Xg 1 [.c 10] (Xg 1 [.c 11, .c 12] (Xr (Ya 7 2 39 b7 0 (sV A374 t376 c375) h407 rfl ?_)))
        have ⟨hc413, h⟩ := oz h
        refine Yo (OpE.idxSl 8 3 39 0 h407 (by kernel_rfl) rfl (by kernel_rfl) (by kernel_rfl) hc413 ?_)
        intro b414 o415 cs416 hk417 h418
        obtain rfl := hk417
        refine Yz 9 5 5 b414 o415 0 (iB (rdD t376 0)) h418 rfl (Yd 1 [(0, pt b7), (3, iB (rdD t376 0))] (Xg 1 [.c 13, .c 14] (Xr (Ya 10 2 39 b7 0 (sV A374 t376 c375) h418 rfl ?_))))
        have ⟨hc419, h⟩ := oz h
        refine Yo (OpE.cutSl 11 3 39 (some 1) none h418 (by kernel_rfl) rfl (by kernel_rfl) (by kernel_rfl) hc419 ?_)
        intro A420 c421 h422
        refine Yb 2 39 b7 0 (sV A420 (cutL t376 1 (t376.length : Int)) c421) [sV A420 (cutL t376 1 (t376.length : Int)) c421] h422 rfl ?_
        intro w423 h424 hk425
        refine Yq 1 15 [.c 16] 3 [(1, iB (rdD t376 0)), (2, tB true)] (Ye (Xt (.tuple #[iB (rdD t376 0), tB true]) (cont_mk (Ul [(0, pt b12), (10, .tuple #[iB (rdD t376 0), tB true])] ?_))))
        exact hj435 (cutL t376 1 (t376.length : Int)) (rdD t376 0) true A420 c421 w423 h (h424.pk [1, 2, 6, 0, 4])
      ·refine Xg 1 [.blk 0, .c 19] (Xq 2 20 [.c 21] 1 [(0, pt b12), (14, pt b12)] (RegI.enter 15 [0] [(0, pt b12)] (by kernel_rfl) (by kernel_rfl) (by kernel_rfl) (by kernel_rfl) F121 121 rfl [pt b12] (by kernel_rfl) (by kernel_rfl) ?_))
       obtain ⟨j497, hJ498, h⟩ := of_let h
       have hj499 : ∀ (t492 : List Int) (t493 : Bool) (t494 : Int) (A490 : Option Addr) (c491 : Nat) (w496 : World), j497 (t492, t493, t494) = some r → Holds M0 w0 w496 [box b12 144 [.func (.func 159) #[] #[pt b7], iA (wA (t377 + 1)), tB t493], box b7 39 [sV A490 t492 c491], sl rB (sV A490 t492 c491) t492, box b2 25 [iA 0, iB 0, iB 0, iC 0, iA 0, iA 0], box b99 25 [iA t399, iB t380, iB t381, iC 0, iA 0, iA t382]] → RegI F123 20 [.c 21] 2 [(0, pt b12), (15, iB t494)] w496 (cont (fun e' w' => RegI F77 50 [.c 51] 7 e' w' (decode_Next_77.post M0 w0 r)) 84 [(2, pt b2), (4, pt b12), (8, pt b99)]) := by
        intro t492 t493 t494 A490 c491 w496 h h495
        rw [hJ498] at h
        clear hJ498
        dsimp only at h
        refine Yp 1 [(0, pt b12), (5, iB t494)] (Zy 1 22 [.c 23] 1 [5, 16] [(16, pt b12)] (RegI.enter 17 [5] [(5, iB t494)] (by kernel_rfl) (by kernel_rfl) (by kernel_rfl) (by kernel_rfl) F121 121 rfl [pt b12] (by kernel_rfl) (by kernel_rfl) ?_))
        obtain ⟨j541, hJ542, h⟩ := of_let h
        have hj543 : ∀ (t534 : Int) (t537 : List Int) (t538 : Bool) (A535 : Option Addr) (c536 : Nat) (w540 : World), j541 (t534, t537, t538) = some r → Holds M0 w0 w540 [box b2 25 [iA 0, iB 0, iB 0, iC 0, iA 0, iA 0], box b12 144 [.func (.func 159) #[] #[pt b7], iA (wA ((wA (t377 + 1)) + 1)), tB t538], box b7 39 [sV A535 t537 c536], sl rB (sV A535 t537 c536) t537, box b99 25 [iA t399, iB t380, iB t381, iC 0, iA 0, iA t382]] → RegI F123 22 [.c 23] 2 [(5, iB t494), (17, iB t534)] w540 (cont (fun e' w' => RegI F77 50 [.c 51] 7 e' w' (decode_Next_77.post M0 w0 r)) 84 [(2, pt b2), (4, pt b12), (8, pt b99)]) := by
         intro t534 t537 t538 A535 c536 w540 h h539
         rw [hJ542] at h
         clear hJ542
         dsimp only at h
         refine Yp 1 [(17, iB t534), (18, iB t494)] ?_
         obtain ⟨t548, hg547, h⟩ := of_bind h
         refine Yc 19 160 #[iB t534, iB t494] ((bits_Word_160_ok K _ w540  t534 t494 h539.old' hg547).mono ?_)
         rintro _ w544 ⟨rfl, hb545⟩
         refine ⟨_, rfl, ?_⟩
         have h546 := h539.call hb545
         refine Yd 1 [(4, iC t548)] (Xt (iC t548) (cont_mk (Ul [(2, pt b2), (4, pt b12), (8, pt b99), (84, iC t548)] ?_)))
         exact hj559 t537 (wA ((wA (t377 + 1)) + 1)) t538 t548 A535 c536 w544 h (h546.pk [0, 1, 2, 3, 4])
        clear hJ542
        refine Xq 1 1 [.c 2] 1 [(0, pt b12)] (Zy 1 3 [.c 4] 3 [0, 8] [(8, pt b12)] (Ya 9 0 141 b12 0 (.func (.func 159) #[] #[pt b7]) h495 rfl (RegI.enter 10 [0] [(0, pt b12)] (by kernel_rfl) (by kernel_rfl) (by kernel_rfl) (by kernel_rfl) F159 159 rfl [pt b7] (by kernel_rfl) (by kernel_rfl) ?_)))
        obtain ⟨j521, hJ522, h⟩ := of_let h
        have hj523 : ∀ (t516 : List Int) (t517 : Int) (t518 : Bool) (A514 : Option Addr) (c515 : Nat) (w520 : World), j521 (t516, t517, t518) = some r → Holds M0 w0 w520 [box b12 144 [.func (.func 159) #[] #[pt b7], iA (wA (t377 + 1)), tB t493], box b7 39 [sV A514 t516 c515], sl rB (sV A514 t516 c515) t516, box b2 25 [iA 0, iB 0, iB 0, iC 0, iA 0, iA 0], box b99 25 [iA t399, iB t380, iB t381, iC 0, iA 0, iA t382]] → RegI F121 3 [.c 4] 5 [(0, pt b12), (10, .tuple #[iB t517, tB t518])] w520 (cont (fun e' w' => RegI F123 22 [.c 23] 2 e' w' (cont (fun e' w' => RegI F77 50 [.c 51] 7 e' w' (decode_Next_77.post M0 w0 r)) 84 [(2, pt b2), (4, pt b12), (8, pt b99)])) 17 [(5, iB t494)]) := by
         intro t516 t517 t518 A514 c515 w520 h h519
         rw [hJ522] at h
         clear hJ522
         dsimp only at h
         refine Yp 5 [(0, pt b12), (3, iB t517), (4, tB t518)] (Zy 1 5 [.c 6] 3 [0, 3, 4, 13, 15] [(13, pt b12), (15, pu b12 1)] (Ya 16 0 3 b12 1 (iA (wA (t377 + 1))) h519 rfl (Zp 3 [0, 3, 4, 17, 19] [(17, iA (wA ((wA (t377 + 1)) + 1))), (19, pu b12 1)] (Yb 0 3 b12 1 (iA (wA ((wA (t377 + 1)) + 1))) [.func (.func 159) #[] #[pt b7], iA (wA ((wA (t377 + 1)) + 1)), tB t493] h519 rfl ?_))))
         intro w524 h525 hk526
         refine Zy 1 7 [.c 8] 4 [3, 4, 20, 23] [(20, pt b12), (23, pu b12 2)] (Ya 24 0 4 b12 2 (tB t493) h525 rfl (Zp 1 [3, 4, 20, 25] [(25, tB t493)] ?_))
         rcases oc h with ⟨hc527, h⟩ | ⟨hc527, h⟩
         ·refine Yf 25 true hc527 (Zp 4 [3, 27, 29] [(27, tB t518), (29, pu b12 2)] (Yb 0 4 b12 2 (tB t518) [.func (.func 159) #[] #[pt b7], iA (wA ((wA (t377 + 1)) + 1)), tB t518] h525 rfl ?_))
          intro w528 h529 hk530
          refine Yq 1 9 [.c 10] 2 [(2, iB t517)] (Ye (Xt (iB t517) (cont_mk (Ul [(5, iB t494), (17, iB t517)] ?_))))
          exact hj543 t517 t516 t518 A514 c515 w528 h (h529.pk [3, 0, 1, 2, 4])
         ·refine Yf 25 false hc527 (Zp 4 [3, 27, 29] [(27, tB false), (29, pu b12 2)] (Yb 0 4 b12 2 (tB false) [.func (.func 159) #[] #[pt b7], iA (wA ((wA (t377 + 1)) + 1)), tB false] h525 rfl ?_))
          intro w531 h532 hk533
          refine Yq 1 9 [.c 10] 2 [(2, iB t517)] (Ye (Xt (iB t517) (cont_mk (Ul [(5, iB t494), (17, iB t517)] ?_))))
          exact hj543 t517 t516 false A514 c515 w531 h (h532.pk [3, 0, 1, 2, 4])
        clear hJ522
        refine Xd 1 1 [.c 2] 2 [(0, pt b7)] (Xg 2 [.c 4, .c 5, .c 10] (Xr (Ya 4 1 39 b7 0 (sV A490 t492 c491) h495 rfl (Zd 2 [0, 6] [(6, tB ((t492.length : Int) == 0))] (Vc 6 6 9 h (fun hc500 h => ?_) fun hc500 h => ?_)))))
        ·refine Xd 1 7 [.c 8, .c 10] 2 [(1, iB 0), (2, tB false)] (Xt (.tuple #[iB 0, tB false]) (cont_mk (Ul [(0, pt b12), (10, .tuple #[iB 0, tB false])] ?_)))
         exact hj523 t492 0 false A490 c491 w496 h (h495.pk [0, 1, 2, 3, 4])
        ·refine Xg 1 [.c 10] (Xg 1 [.c 11, .c 12] (Xr (Ya 7 1 39 b7 0 (sV A490 t492 c491) h495 rfl ?_)))
         have ⟨hc501, h⟩ := oz h
         refine Yo (OpE.idxSl 8 2 39 0 h495 (by kernel_rfl) rfl (by kernel_rfl) (by kernel_rfl) hc501 ?_)
         intro b502 o503 cs504 hk505 h506
         obtain rfl := hk505
         refine Yz 9 5 5 b502 o503 0 (iB (rdD t492 0)) h506 rfl (Yd 1 [(0, pt b7), (3, iB (rdD t492 0))] (Xg 1 [.c 13, .c 14] (Xr (Ya 10 1 39 b7 0 (sV A490 t492 c491) h506 rfl ?_))))
         have ⟨hc507, h⟩ := oz h
         refine Yo (OpE.cutSl 11 2 39 (some 1) none h506 (by kernel_rfl) rfl (by kernel_rfl) (by kernel_rfl) hc507 ?_)
         intro A508 c509 h510
         refine Yb 1 39 b7 0 (sV A508 (cutL t492 1 (t492.length : Int)) c509) [sV A508 (cutL t492 1 (t492.length : Int)) c509] h510 rfl ?_
         intro w511 h512 hk513
         refine Yq 1 15 [.c 16] 3 [(1, iB (rdD t492 0)), (2, tB true)] (Ye (Xt (.tuple #[iB (rdD t492 0), tB true]) (cont_mk (Ul [(0, pt b12), (10, .tuple #[iB (rdD t492 0), tB true])] ?_))))
         exact hj523 (cutL t492 1 (t492.length : Int)) (rdD t492 0) true A508 c509 w511 h (h512.pk [0, 1, 6, 3, 4])
       clear hJ498
       refine Xq 1 1 [.c 2] 1 [(0, pt b12)] (Zy 1 3 [.c 4] 3 [0, 8] [(8, pt b12)] (Ya 9 1 141 b12 0 (.func (.func 159) #[] #[pt b7]) h407 rfl (RegI.enter 10 [0] [(0, pt b12)] (by kernel_rfl) (by kernel_rfl) (by kernel_rfl) (by kernel_rfl) F159 159 rfl [pt b7] (by kernel_rfl) (by kernel_rfl) ?_)))
       obtain ⟨j477, hJ478, h⟩ := of_let h
       have hj479 : ∀ (t472 : List Int) (t473 : Int) (t474 : Bool) (A470 : Option Addr) (c471 : Nat) (w476 : World), j477 (t472, t473, t474) = some r → Holds M0 w0 w476 [box b12 144 [.func (.func 159) #[] #[pt b7], iA t377, tB t378], box b7 39 [sV A470 t472 c471], sl rB (sV A470 t472 c471) t472, box b2 25 [iA 0, iB 0, iB 0, iC 0, iA 0, iA 0], box b99 25 [iA t399, iB t380, iB t381, iC 0, iA 0, iA t382]] → RegI F121 3 [.c 4] 5 [(0, pt b12), (10, .tuple #[iB t473, tB t474])] w476 (cont (fun e' w' => RegI F123 20 [.c 21] 2 e' w' (cont (fun e' w' => RegI F77 50 [.c 51] 7 e' w' (decode_Next_77.post M0 w0 r)) 84 [(2, pt b2), (4, pt b12), (8, pt b99)])) 15 [(0, pt b12)]) := by
        intro t472 t473 t474 A470 c471 w476 h h475
        rw [hJ478] at h
        clear hJ478
        dsimp only at h
        refine Yp 5 [(0, pt b12), (3, iB t473), (4, tB t474)] (Zy 1 5 [.c 6] 3 [0, 3, 4, 13, 15] [(13, pt b12), (15, pu b12 1)] (Ya 16 0 3 b12 1 (iA t377) h475 rfl (Zp 3 [0, 3, 4, 17, 19] [(17, iA (wA (t377 + 1))), (19, pu b12 1)] (Yb 0 3 b12 1 (iA (wA (t377 + 1))) [.func (.func 159) #[] #[pt b7], iA (wA (t377 + 1)), tB t378] h475 rfl ?_))))
        intro w480 h481 hk482
        refine Zy 1 7 [.c 8] 4 [3, 4, 20, 23] [(20, pt b12), (23, pu b12 2)] (Ya 24 0 4 b12 2 (tB t378) h481 rfl (Zp 1 [3, 4, 20, 25] [(25, tB t378)] ?_))
        rcases oc h with ⟨hc483, h⟩ | ⟨hc483, h⟩
        ·refine Yf 25 true hc483 (Zp 4 [3, 27, 29] [(27, tB t474), (29, pu b12 2)] (Yb 0 4 b12 2 (tB t474) [.func (.func 159) #[] #[pt b7], iA (wA (t377 + 1)), tB t474] h481 rfl ?_))
         intro w484 h485 hk486
         refine Yq 1 9 [.c 10] 2 [(2, iB t473)] (Ye (Xt (iB t473) (cont_mk (Ul [(0, pt b12), (15, iB t473)] ?_))))
         exact hj499 t472 t474 t473 A470 c471 w484 h (h485.pk [0, 1, 2, 3, 4])
        ·refine Yf 25 false hc483 (Zp 4 [3, 27, 29] [(27, tB false), (29, pu b12 2)] (Yb 0 4 b12 2 (tB false) [.func (.func 159) #[] #[pt b7], iA (wA (t377 + 1)), tB false] h481 rfl ?_))
         intro w487 h488 hk489
         refine Yq 1 9 [.c 10] 2 [(2, iB t473)] (Ye (Xt (iB t473) (cont_mk (Ul [(0, pt b12), (15, iB t473)] ?_))))
         exact hj499 t472 false t473 A470 c471 w487 h (h488.pk [0, 1, 2, 3, 4])
       clear hJ478
       refine Xd 1 1 [.c 2] 2 [(0, pt b7)] (Xg 2 [.c 4, .c 5, .c 10] (Xr (Ya 4 2 39 b7 0 (sV A374 t376 c375) h407 rfl (Zd 2 [0, 6] [(6, tB ((t376.length : Int) == 0))] (Vc 6 6 9 h (fun hc456 h => ?_) fun hc456 h => ?_)))))
       ·refine Xd 1 7 [.c 8, .c 10] 2 [(1, iB 0), (2, tB false)] (Xt (.tuple #[iB 0, tB false]) (cont_mk (Ul [(0, pt b12), (10, .tuple #[iB 0, tB false])] ?_)))
        exact hj479 t376 0 false A374 c375 w405 h (h407.pk [1, 2, 3, 0, 4])
       ·refine Xg 1 [.c 10] (Xg 1 [.c 11, .c 12] (Xr (Ya 7 2 39 b7 0 (sV A374 t376 c375) h407 rfl ?_)))
        have ⟨hc457, h⟩ := oz h
        refine Yo (OpE.idxSl 8 3 39 0 h407 (by kernel_rfl) rfl (by kernel_rfl) (by kernel_rfl) hc457 ?_)
        intro b458 o459 cs460 hk461 h462
        obtain rfl := hk461
        refine Yz 9 5 5 b458 o459 0 (iB (rdD t376 0)) h462 rfl (Yd 1 [(0, pt b7), (3, iB (rdD t376 0))] (Xg 1 [.c 13, .c 14] (Xr (Ya 10 2 39 b7 0 (sV A374 t376 c375) h462 rfl ?_))))
        have ⟨hc463, h⟩ := oz h
        refine Yo (OpE.cutSl 11 3 39 (some 1) none h462 (by kernel_rfl) rfl (by kernel_rfl) (by kernel_rfl) hc463 ?_)
        intro A464 c465 h466
        refine Yb 2 39 b7 0 (sV A464 (cutL t376 1 (t376.length : Int)) c465) [sV A464 (cutL t376 1 (t376.length : Int)) c465] h466 rfl ?_
        intro w467 h468 hk469
        refine Yq 1 15 [.c 16] 3 [(1, iB (rdD t376 0)), (2, tB true)] (Ye (Xt (.tuple #[iB (rdD t376 0), tB true]) (cont_mk (Ul [(0, pt b12), (10, .tuple #[iB (rdD t376 0), tB true])] ?_))))
        exact hj479 (cutL t376 1 (t376.length : Int)) (rdD t376 0) true A464 c465 w467 h (h468.pk [1, 2, 6, 0, 4])
    clear hJ403
    refine Vc 73 47 48 h (fun hc395 h => ?_) fun hc395 h => ?_
    ·refine Xr (Yp 1 [(2, pt b2), (4, pt b12), (8, pt b99), (74, pt b99)] (Ya 75 4 3 b99 0 (iA t379) h390 rfl (Zp 2 [2, 4, 8, 76, 77] [(76, iA (wA (t379 + 1))), (77, pt b99)] (Yb 4 3 b99 0 (iA (wA (t379 + 1))) [iA (wA (t379 + 1)), iB t380, iB t381, iC 0, iA 0, iA t382] h390 rfl ?_))))
     intro w396 h397 hk398
     refine Ye (Vl [(2, pt b2), (4, pt b12), (8, pt b99)] ?_)
     exact hj404 (wA (t379 + 1)) w396 h (h397.pk [0, 1, 2, 3, 4])
    ·refine Xg 1 [.c 49] (Vl [(2, pt b2), (4, pt b12), (8, pt b99)] ?_)
     exact hj404 t379 w391 h (h390.pk [0, 1, 2, 3, 4])
   clear hJ393
   rcases oc h with ⟨hc388, h⟩ | ⟨hc388, h⟩
   ·refine Yf 69 true hc388 (Zp 1 [2, 4, 8, 69, 70] [(70, pt b99)] (Ya 71 4 3 b99 0 (iA t379) h383 rfl (Zp 2 [2, 4, 8, 73] [(73, tB (t379 != 2))] (Ul [(2, pt b2), (4, pt b12), (8, pt b99), (73, tB (t379 != 2))] ?_))))
    exact hj394 (t379 != 2) w384 h (h383.pk [0, 1, 2, 3, 4])
   ·refine Yf 69 false hc388 (Zp 4 [2, 4, 8, 73] [(73, tB false)] (Ul [(2, pt b2), (4, pt b12), (8, pt b99), (73, tB false)] ?_))
    exact hj394 false w384 h (h383.pk [0, 1, 2, 3, 4])
  clear hJ386
  refine Vc 22 13 20 h (fun hc106 h => ?_) fun hc106 h => ?_
  ·refine Xq 1 14 [.c 15, .blk 0, .c 43] 1 [(2, pt b2), (4, pt b12), (5, iB t88), (8, pt b99), (25, pt b12)] (RegI.enter 26 [2, 4, 5, 8] [(2, pt b2), (4, pt b12), (5, iB t88), (8, pt b99)] (by kernel_rfl) (by kernel_rfl) (by kernel_rfl) (by kernel_rfl) F121 121 rfl [pt b12] (by kernel_rfl) (by kernel_rfl) ?_)
   obtain ⟨j148, hJ149, h⟩ := of_let h
   have hj150 : ∀ (t143 : List Int) (t144 : Bool) (t145 : Int) (A141 : Option Addr) (c142 : Nat) (w147 : World), j148 (t143, t144, t145) = some r → Holds M0 w0 w147 [box b2 25 [iA 0, iB 0, iB 0, iC 0, iA 0, iA 0], box b12 144 [.func (.func 159) #[] #[pt b7], iA (wA (t94 + 1)), tB t144], box b7 39 [sV A141 t143 c142], sl rB (sV A141 t143 c142) t143, box b99 25 [iA 0, iB t89, iB 0, iC 0, iA 0, iA t90]] → RegI F77 14 [.c 15, .blk 0, .c 43] 2 [(2, pt b2), (4, pt b12), (5, iB t88), (8, pt b99), (26, iB t145)] w147 (decode_Next_77.post M0 w0 r) := by
    intro t143 t144 t145 A141 c142 w147 h h146
    rw [hJ149] at h
    clear hJ149
    dsimp only at h
    refine Yp 1 [(2, pt b2), (4, pt b12), (5, iB t88), (8, pt b99), (26, iB t145), (27, pt b99)] (Yb 4 3 b99 0 (iA 2) [iA 2, iB t89, iB 0, iC 0, iA 0, iA t90] h146 rfl ?_)
    intro w151 h152 hk153
    refine Zp 1 [2, 4, 5, 8, 26, 28] [(28, pu b99 1)] (Yb 4 5 b99 1 (iB t145) [iA 2, iB t145, iB 0, iC 0, iA 0, iA t90] h152 rfl ?_)
    intro w154 h155 hk156
    refine Zy 1 16 [.c 17, .blk 0, .c 43] 2 [2, 4, 5, 8, 30] [(30, tB (t88 != 0))] (Ye (Vc 30 18 19 h (fun hc157 h => ?_) fun hc157 h => ?_))
    ·refine Xr (Yp 1 [(2, pt b2), (4, pt b12), (5, iB t88), (8, pt b99), (31, pu b99 5)] (Ya 32 4 3 b99 5 (iA t90) h155 rfl (Zp 2 [2, 4, 5, 8, 33, 34] [(33, iA (wA (t90 + 1))), (34, pu b99 5)] (Yb 4 3 b99 5 (iA (wA (t90 + 1))) [iA 2, iB t145, iB 0, iC 0, iA 0, iA (wA (t90 + 1))] h155 rfl ?_))))
     intro w158 h159 hk160
     refine Ye (Vl [(2, pt b2), (4, pt b12), (5, iB t88), (8, pt b99)] ?_)
     exact hj387 t143 (wA (t94 + 1)) t144 2 t145 0 (wA (t90 + 1)) A141 c142 w158 h (h159.pk [0, 1, 2, 3, 4])
    ·refine Xg 1 [.blk 0, .c 43] (Vl [(2, pt b2), (4, pt b12), (5, iB t88), (8, pt b99)] ?_)
     exact hj387 t143 (wA (t94 + 1)) t144 2 t145 0 t90 A141 c142 w154 h (h155.pk [0, 1, 2, 3, 4])
   clear hJ149
   refine Xq 1 1 [.c 2] 1 [(0, pt b12)] (Zy 1 3 [.c 4] 3 [0, 8] [(8, pt b12)] (Ya 9 1 141 b12 0 (.func (.func 159) #[] #[pt b7]) h104 rfl (RegI.enter 10 [0] [(0, pt b12)] (by kernel_rfl) (by kernel_rfl) (by kernel_rfl) (by kernel_rfl) F159 159 rfl [pt b7] (by kernel_rfl) (by kernel_rfl) ?_)))
   obtain ⟨j128, hJ129, h⟩ := of_let h
   have hj130 : ∀ (t123 : List Int) (t124 : Int) (t125 : Bool) (A121 : Option Addr) (c122 : Nat) (w127 : World), j128 (t123, t124, t125) = some r → Holds M0 w0 w127 [box b12 144 [.func (.func 159) #[] #[pt b7], iA t94, tB t95], box b7 39 [sV A121 t123 c122], sl rB (sV A121 t123 c122) t123, box b2 25 [iA 0, iB 0, iB 0, iC 0, iA 0, iA 0], box b99 25 [iA 0, iB t89, iB 0, iC 0, iA 0, iA t90]] → RegI F121 3 [.c 4] 5 [(0, pt b12), (10, .tuple #[iB t124, tB t125])] w127 (cont (fun e' w' => RegI F77 14 [.c 15, .blk 0, .c 43] 2 e' w' (decode_Next_77.post M0 w0 r)) 26 [(2, pt b2), (4, pt b12), (5, iB t88), (8, pt b99)]) := by
    intro t123 t124 t125 A121 c122 w127 h h126
    rw [hJ129] at h
    clear hJ129
    dsimp only at h
    refine Yp 5 [(0, pt b12), (3, iB t124), (4, tB t125)] (Zy 1 5 [.c 6] 3 [0, 3, 4, 13, 15] [(13, pt b12), (15, pu b12 1)] (Ya 16 0 3 b12 1 (iA t94) h126 rfl (Zp 3 [0, 3, 4, 17, 19] [(17, iA (wA (t94 + 1))), (19, pu b12 1)] (Yb 0 3 b12 1 (iA (wA (t94 + 1))) [.func (.func 159) #[] #[pt b7], iA (wA (t94 + 1)), tB t95] h126 rfl ?_))))
    intro w131 h132 hk133
    refine Zy 1 7 [.c 8] 4 [3, 4, 20, 23] [(20, pt b12), (23, pu b12 2)] (Ya 24 0 4 b12 2 (tB t95) h132 rfl (Zp 1 [3, 4, 20, 25] [(25, tB t95)] ?_))
    rcases oc h with ⟨hc134, h⟩ | ⟨hc134, h⟩
    ·refine Yf 25 true hc134 (Zp 4 [3, 27, 29] [(27, tB t125), (29, pu b12 2)] (Yb 0 4 b12 2 (tB t125) [.func (.func 159) #[] #[pt b7], iA (wA (t94 + 1)), tB t125] h132 rfl ?_))
     intro w135 h136 hk137
     refine Yq 1 9 [.c 10] 2 [(2, iB t124)] (Ye (Xt (iB t124) (cont_mk (Ul [(2, pt b2), (4, pt b12), (5, iB t88), (8, pt b99), (26, iB t124)] ?_))))
     exact hj150 t123 t125 t124 A121 c122 w135 h (h136.pk [3, 0, 1, 2, 4])
    ·refine Yf 25 false hc134 (Zp 4 [3, 27, 29] [(27, tB false), (29, pu b12 2)] (Yb 0 4 b12 2 (tB false) [.func (.func 159) #[] #[pt b7], iA (wA (t94 + 1)), tB false] h132 rfl ?_))
     intro w138 h139 hk140
     refine Yq 1 9 [.c 10] 2 [(2, iB t124)] (Ye (Xt (iB t124) (cont_mk (Ul [(2, pt b2), (4, pt b12), (5, iB t88), (8, pt b99), (26, iB t124)] ?_))))
     exact hj150 t123 false t124 A121 c122 w138 h (h139.pk [3, 0, 1, 2, 4])
   clear hJ129
   refine Xd 1 1 [.c 2] 2 [(0, pt b7)] (Xg 2 [.c 4, .c 5, .c 10] (Xr (Ya 4 2 39 b7 0 (sV A91 t93 c92) h104 rfl (Zd 2 [0, 6] [(6, tB ((t93.length : Int) == 0))] (Vc 6 6 9 h (fun hc107 h => ?_) fun hc107 h => ?_)))))
   ·refine Xd 1 7 [.c 8, .c 10] 2 [(1, iB 0), (2, tB false)] (Xt (.tuple #[iB 0, tB false]) (cont_mk (Ul [(0, pt b12), (10, .tuple #[iB 0, tB false])] ?_)))
    exact hj130 t93 0 false A91 c92 w103 h (h104.pk [1, 2, 3, 0, 4])
   ·refine Xg 1 [.c 10] (Xg 1 [.c 11, .c 12] (Xr (Ya 7 2 39 b7 0 (sV A91 t93 c92) h104 rfl ?_)))
    have ⟨hc108, h⟩ := oz h
    refine Yo (OpE.idxSl 8 3 39 0 h104 (by kernel_rfl) rfl (by kernel_rfl) (by kernel_rfl) hc108 ?_)
    intro b109 o110 cs111 hk112 h113
    obtain rfl := hk112
    refine Yz 9 5 5 b109 o110 0 (iB (rdD t93 0)) h113 rfl (Yd 1 [(0, pt b7), (3, iB (rdD t93 0))] (Xg 1 [.c 13, .c 14] (Xr (Ya 10 2 39 b7 0 (sV A91 t93 c92) h113 rfl ?_))))
    have ⟨hc114, h⟩ := oz h
    refine Yo (OpE.cutSl 11 3 39 (some 1) none h113 (by kernel_rfl) rfl (by kernel_rfl) (by kernel_rfl) hc114 ?_)
    intro A115 c116 h117
    refine Yb 2 39 b7 0 (sV A115 (cutL t93 1 (t93.length : Int)) c116) [sV A115 (cutL t93 1 (t93.length : Int)) c116] h117 rfl ?_
    intro w118 h119 hk120
    refine Yq 1 15 [.c 16] 3 [(1, iB (rdD t93 0)), (2, tB true)] (Ye (Xt (.tuple #[iB (rdD t93 0), tB true]) (cont_mk (Ul [(0, pt b12), (10, .tuple #[iB (rdD t93 0), tB true])] ?_))))
    exact hj130 (cutL t93 1 (t93.length : Int)) (rdD t93 0) true A115 c116 w118 h (h119.pk [1, 2, 6, 0, 4])
  ·refine Xq 1 21 [.c 22, .blk 0, .c 43] 3 [(2, pt b2), (4, pt b12), (5, iB t88), (6, iB t89), (8, pt b99), (38, tB (t89 == 203))] ?_
   obtain ⟨j165, hJ166, h⟩ := of_let h
   have hj167 : ∀ (t162 : Bool) (w164 : World), j165 t162 = some r → Holds M0 w0 w164 [box b2 25 [iA 0, iB 0, iB 0, iC 0, iA 0, iA 0], box b12 144 [.func (.func 159) #[] #[pt b7], iA t94, tB t95], box b7 39 [sV A91 t93 c92], sl rB (sV A91 t93 c92) t93, box b99 25 [iA 0, iB t89, iB 0, iC 0, iA 0, iA t90]] → RegI F77 21 [.c 22, .blk 0, .c 43] 7 [(2, pt b2), (4, pt b12), (5, iB t88), (6, iB t89), (8, pt b99), (35, tB t162)] w164 (decode_Next_77.post M0 w0 r) := by
    intro t162 w164 h h163
    rw [hJ166] at h
    clear hJ166
    dsimp only at h
    refine Ye (Vc 35 23 28 h (fun hc168 h => ?_) fun hc168 h => ?_)
    ·refine Xq 1 24 [.c 25, .blk 0, .c 43] 1 [(2, pt b2), (4, pt b12), (5, iB t88), (8, pt b99), (42, pt b99)] (Yb 4 3 b99 0 (iA 5) [iA 5, iB t89, iB 0, iC 0, iA 0, iA t90] h163 rfl ?_)
     intro w169 h170 hk171
     refine Zy 1 26 [.c 27, .blk 0, .c 43] 1 [2, 4, 5, 8, 43] [(43, pt b12)] (RegI.enter 44 [2, 4, 5, 8] [(2, pt b2), (4, pt b12), (5, iB t88), (8, pt b99)] (by kernel_rfl) (by kernel_rfl) (by kernel_rfl) (by kernel_rfl) F121 121 rfl [pt b12] (by kernel_rfl) (by kernel_rfl) ?_)
     obtain ⟨j213, hJ214, h⟩ := of_let h
     have hj215 : ∀ (t208 : List Int) (t209 : Bool) (t210 : Int) (A206 : Option Addr) (c207 : Nat) (w212 : World), j213 (t208, t209, t210) = some r → Holds M0 w0 w212 [box b2 25 [iA 0, iB 0, iB 0, iC 0, iA 0, iA 0], box b12 144 [.func (.func 159) #[] #[pt b7], iA (wA (t94 + 1)), tB t209], box b7 39 [sV A206 t208 c207], sl rB (sV A206 t208 c207) t208, box b99 25 [iA 5, iB t89, iB 0, iC 0, iA 0, iA t90]] → RegI F77 26 [.c 27, .blk 0, .c 43] 2 [(2, pt b2), (4, pt b12), (5, iB t88), (8, pt b99), (44, iB t210)] w212 (decode_Next_77.post M0 w0 r) := by
      intro t208 t209 t210 A206 c207 w212 h h211
      rw [hJ214] at h
      clear hJ214
      dsimp only at h
      refine Yp 1 [(2, pt b2), (4, pt b12), (5, iB t88), (8, pt b99), (44, iB t210), (45, pu b99 2)] (Yb 4 5 b99 2 (iB t210) [iA 5, iB t89, iB t210, iC 0, iA 0, iA t90] h211 rfl ?_)
      intro w216 h217 hk218
      refine Ye (Xr (Zp 1 [2, 4, 5, 8, 46] [(46, pt b12)] (RegI.enter 47 [2, 4, 5, 8] [(2, pt b2), (4, pt b12), (5, iB t88), (8, pt b99)] (by kernel_rfl) (by kernel_rfl) (by kernel_rfl) (by kernel_rfl) F121 121 rfl [pt b12] (by kernel_rfl) (by kernel_rfl) ?_)))
      obtain ⟨j260, hJ261, h⟩ := of_let h
      have hj262 : ∀ (t255 : List Int) (t256 : Bool) (t257 : Int) (A253 : Option Addr) (c254 : Nat) (w259 : World), j260 (t255, t256, t257) = some r → Holds M0 w0 w259 [box b2 25 [iA 0, iB 0, iB 0, iC 0, iA 0, iA 0], box b12 144 [.func (.func 159) #[] #[pt b7], iA (wA ((wA (t94 + 1)) + 1)), tB t256], box b7 39 [sV A253 t255 c254], sl rB (sV A253 t255 c254) t255, box b99 25 [iA 5, iB t89, iB t210, iC 0, iA 0, iA t90]] → RegI F77 27 [.blk 0, .c 43] 2 [(2, pt b2), (4, pt b12), (5, iB t88), (8, pt b99), (47, iB t257)] w259 (decode_Next_77.post M0 w0 r) := by
       intro t255 t256 t257 A253 c254 w259 h h258
       rw [hJ261] at h
       clear hJ261
       dsimp only at h
       refine Yp 1 [(2, pt b2), (4, pt b12), (5, iB t88), (8, pt b99), (47, iB t257), (48, pu b99 1)] (Yb 4 5 b99 1 (iB t257) [iA 5, iB t257, iB t210, iC 0, iA 0, iA t90] h258 rfl ?_)
       intro w263 h264 hk265
       refine Ye (Vl [(2, pt b2), (4, pt b12), (5, iB t88), (8, pt b99)] ?_)
       exact hj387 t255 (wA ((wA (t94 + 1)) + 1)) t256 5 t257 t210 t90 A253 c254 w263 h (h264.pk [0, 1, 2, 3, 4])
      clear hJ261
      refine Xq 1 1 [.c 2] 1 [(0, pt b12)] (Zy 1 3 [.c 4] 3 [0, 8] [(8, pt b12)] (Ya 9 1 141 b12 0 (.func (.func 159) #[] #[pt b7]) h217 rfl (RegI.enter 10 [0] [(0, pt b12)] (by kernel_rfl) (by kernel_rfl) (by kernel_rfl) (by kernel_rfl) F159 159 rfl [pt b7] (by kernel_rfl) (by kernel_rfl) ?_)))
      obtain ⟨j240, hJ241, h⟩ := of_let h
      have hj242 : ∀ (t235 : List Int) (t236 : Int) (t237 : Bool) (A233 : Option Addr) (c234 : Nat) (w239 : World), j240 (t235, t236, t237) = some r → Holds M0 w0 w239 [box b12 144 [.func (.func 159) #[] #[pt b7], iA (wA (t94 + 1)), tB t209], box b7 39 [sV A233 t235 c234], sl rB (sV A233 t235 c234) t235, box b2 25 [iA 0, iB 0, iB 0, iC 0, iA 0, iA 0], box b99 25 [iA 5, iB t89, iB t210, iC 0, iA 0, iA t90]] → RegI F121 3 [.c 4] 5 [(0, pt b12), (10, .tuple #[iB t236, tB t237])] w239 (cont (fun e' w' => RegI F77 27 [.blk 0, .c 43] 2 e' w' (decode_Next_77.post M0 w0 r)) 47 [(2, pt b2), (4, pt b12), (5, iB t88), (8, pt b99)]) := by
       intro t235 t236 t237 A233 c234 w239 h h238
       rw [hJ241] at h
       clear hJ241
       dsimp only at h
       refine Yp 5 [(0, pt b12), (3, iB t236), (4, tB t237)] (Zy 1 5 [.c 6] 3 [0, 3, 4, 13, 15] [(13, pt b12), (15, pu b12 1)] (Ya 16 0 3 b12 1 (iA (wA (t94 + 1))) h238 rfl (Zp 3 [0, 3, 4, 17, 19] [(17, iA (wA ((wA (t94 + 1)) + 1))), (19, pu b12 1)] (Yb 0 3 b12 1 (iA (wA ((wA (t94 + 1)) + 1))) [.func (.func 159) #[] #[pt b7], iA (wA ((wA (t94 + 1)) + 1)), tB t209] h238 rfl ?_))))
       intro w243 h244 hk245
       refine Zy 1 7 [.c 8] 4 [3, 4, 20, 23] [(20, pt b12), (23, pu b12 2)] (Ya 24 0 4 b12 2 (tB t209) h244 rfl (Zp 1 [3, 4, 20, 25] [(25, tB t209)] ?_))
       rcases oc h with ⟨hc246, h⟩ | ⟨hc246, h⟩
       ·refine Yf 25 true hc246 (Zp 4 [3, 27, 29] [(27, tB t237), (29, pu b12 2)] (Yb 0 4 b12 2 (tB t237) [.func (.func 159) #[] #[pt b7], iA (wA ((wA (t94 + 1)) + 1)), tB t237] h244 rfl ?_))
        intro w247 h248 hk249
        refine Yq 1 9 [.c 10] 2 [(2, iB t236)] (Ye (Xt (iB t236) (cont_mk (Ul [(2, pt b2), (4, pt b12), (5, iB t88), (8, pt b99), (47, iB t236)] ?_))))
        exact hj262 t235 t237 t236 A233 c234 w247 h (h248.pk [3, 0, 1, 2, 4])
       ·refine Yf 25 false hc246 (Zp 4 [3, 27, 29] [(27, tB false), (29, pu b12 2)] (Yb 0 4 b12 2 (tB false) [.func (.func 159) #[] #[pt b7], iA (wA ((wA (t94 + 1)) + 1)), tB false] h244 rfl ?_))
        intro w250 h251 hk252
        refine Yq 1 9 [.c 10] 2 [(2, iB t236)] (Ye (Xt (iB t236) (cont_mk (Ul [(2, pt b2), (4, pt b12), (5, iB t88), (8, pt b99), (47, iB t236)] ?_))))
        exact hj262 t235 false t236 A233 c234 w250 h (h251.pk [3, 0, 1, 2, 4])
      clear hJ241
      refine Xd 1 1 [.c 2] 2 [(0, pt b7)] (Xg 2 [.c 4, .c 5, .c 10] (Xr (Ya 4 2 39 b7 0 (sV A206 t208 c207) h217 rfl (Zd 2 [0, 6] [(6, tB ((t208.length : Int) == 0))] (Vc 6 6 9 h (fun hc219 h => ?_) fun hc219 h => ?_)))))
      ·refine Xd 1 7 [.c 8, .c 10] 2 [(1, iB 0), (2, tB false)] (Xt (.tuple #[iB 0, tB false]) (cont_mk (Ul [(0, pt b12), (10, .tuple #[iB 0, tB false])] ?_)))
       exact hj242 t208 0 false A206 c207 w216 h (h217.pk [1, 2, 3, 0, 4])
      ·refine Xg 1 [.c 10] (Xg 1 [.c 11, .c 12] (Xr (Ya 7 2 39 b7 0 (sV A206 t208 c207) h217 rfl ?_)))
       have ⟨hc220, h⟩ := oz h
       refine Yo (OpE.idxSl 8 3 39 0 h217 (by kernel_rfl) rfl (by kernel_rfl) (by kernel_rfl) hc220 ?_)
       intro b221 o222 cs223 hk224 h225
       obtain rfl := hk224
       refine Yz 9 5 5 b221 o222 0 (iB (rdD t208 0)) h225 rfl (Yd 1 [(0, pt b7), (3, iB (rdD t208 0))] (Xg 1 [.c 13, .c 14] (Xr (Ya 10 2 39 b7 0 (sV A206 t208 c207) h225 rfl ?_))))
       have ⟨hc226, h⟩ := oz h
       refine Yo (OpE.cutSl 11 3 39 (some 1) none h225 (by kernel_rfl) rfl (by kernel_rfl) (by kernel_rfl) hc226 ?_)
       intro A227 c228 h229
       refine Yb 2 39 b7 0 (sV A227 (cutL t208 1 (t208.length : Int)) c228) [sV A227 (cutL t208 1 (t208.length : Int)) c228] h229 rfl ?_
       intro w230 h231 hk232
       refine Yq 1 15 [.c 16] 3 [(1, iB (rdD t208 0)), (2, tB true)] (Ye (Xt (.tuple #[iB (rdD t208 0), tB true]) (cont_mk (Ul [(0, pt b12), (10, .tuple #[iB (rdD t208 0), tB true])] ?_))))
       exact hj242 (cutL t208 1 (t208.length : Int)) (rdD t208 0) true A227 c228 w230 h (h231.pk [1, 2, 6, 0, 4])
     clear hJ214
     refine Xq 1 1 [.c 2] 1 [(0, pt b12)] (Zy 1 3 [.c 4] 3 [0, 8] [(8, pt b12)] (Ya 9 1 141 b12 0 (.func (.func 159) #[] #[pt b7]) h170 rfl (RegI.enter 10 [0] [(0, pt b12)] (by kernel_rfl) (by kernel_rfl) (by kernel_rfl) (by kernel_rfl) F159 159 rfl [pt b7] (by kernel_rfl) (by kernel_rfl) ?_)))
     obtain ⟨j193, hJ194, h⟩ := of_let h
     have hj195 : ∀ (t188 : List Int) (t189 : Int) (t190 : Bool) (A186 : Option Addr) (c187 : Nat) (w192 : World), j193 (t188, t189, t190) = some r → Holds M0 w0 w192 [box b12 144 [.func (.func 159) #[] #[pt b7], iA t94, tB t95], box b7 39 [sV A186 t188 c187], sl rB (sV A186 t188 c187) t188, box b2 25 [iA 0, iB 0, iB 0, iC 0, iA 0, iA 0], box b99 25 [iA 5, iB t89, iB 0, iC 0, iA 0, iA t90]] → RegI F121 3 [.c 4] 5 [(0, pt b12), (10, .tuple #[iB t189, tB t190])] w192 (cont (fun e' w' => RegI F77 26 [.c 27, .blk 0, .c 43] 2 e' w' (decode_Next_77.post M0 w0 r)) 44 [(2, pt b2), (4, pt b12), (5, iB t88), (8, pt b99)]) := by
      intro t188 t189 t190 A186 c187 w192 h h191
      rw [hJ194] at h
      clear hJ194
      dsimp only at h
      refine Yp 5 [(0, pt b12), (3, iB t189), (4, tB t190)] (Zy 1 5 [.c 6] 3 [0, 3, 4, 13, 15] [(13, pt b12), (15, pu b12 1)] (Ya 16 0 3 b12 1 (iA t94) h191 rfl (Zp 3 [0, 3, 4, 17, 19] [(17, iA (wA (t94 + 1))), (19, pu b12 1)] (Yb 0 3 b12 1 (iA (wA (t94 + 1))) [.func (.func 159) #[] #[pt b7], iA (wA (t94 + 1)), tB t95] h191 rfl ?_))))
      intro w196 h197 hk198
      refine Zy 1 7 [.c 8] 4 [3, 4, 20, 23] [(20, pt b12), (23, pu b12 2)] (Ya 24 0 4 b12 2 (tB t95) h197 rfl (Zp 1 [3, 4, 20, 25] [(25, tB t95)] ?_))
      rcases oc h with ⟨hc199, h⟩ | ⟨hc199, h⟩
      ·refine Yf 25 true hc199 (Zp 4 [3, 27, 29] [(27, tB t190), (29, pu b12 2)] (Yb 0 4 b12 2 (tB t190) [.func (.func 159) #[] #[pt b7], iA (wA (t94 + 1)), tB t190] h197 rfl ?_))
       intro w200 h201 hk202
       refine Yq 1 9 [.c 10] 2 [(2, iB t189)] (Ye (Xt (iB t189) (cont_mk (Ul [(2, pt b2), (4, pt b12), (5, iB t88), (8, pt b99), (44, iB t189)] ?_))))
       exact hj215 t188 t190 t189 A186 c187 w200 h (h201.pk [3, 0, 1, 2, 4])
      ·refine Yf 25 false hc199 (Zp 4 [3, 27, 29] [(27, tB false), (29, pu b12 2)] (Yb 0 4 b12 2 (tB false) [.func (.func 159) #[] #[pt b7], iA (wA (t94 + 1)), tB false] h197 rfl ?_))
       intro w203 h204 hk205
       refine Yq 1 9 [.c 10] 2 [(2, iB t189)] (Ye (Xt (iB t189) (cont_mk (Ul [(2, pt b2), (4, pt b12), (5, iB t88), (8, pt b99), (44, iB t189)] ?_))))
       exact hj215 t188 false t189 A186 c187 w203 h (h204.pk [3, 0, 1, 2, 4])
     clear hJ194
     refine Xd 1 1 [.c 2] 2 [(0, pt b7)] (Xg 2 [.c 4, .c 5, .c 10] (Xr (Ya 4 2 39 b7 0 (sV A91 t93 c92) h170 rfl (Zd 2 [0, 6] [(6, tB ((t93.length : Int) == 0))] (Vc 6 6 9 h (fun hc172 h => ?_) fun hc172 h => ?_)))))
     ·refine Xd 1 7 [.c 8, .c 10] 2 [(1, iB 0), (2, tB false)] (Xt (.tuple #[iB 0, tB false]) (cont_mk (Ul [(0, pt b12), (10, .tuple #[iB 0, tB false])] ?_)))
      exact hj195 t93 0 false A91 c92 w169 h (h170.pk [1, 2, 3, 0, 4])
     ·refine Xg 1 [.c 10] (Xg 1 [.c 11, .c 12] (Xr (Ya 7 2 39 b7 0 (sV A91 t93 c92) h170 rfl ?_)))
      have ⟨hc173, h⟩ := oz h
      refine Yo (OpE.idxSl 8 3 39 0 h170 (by kernel_rfl) rfl (by kernel_rfl) (by kernel_rfl) hc173 ?_)
      intro b174 o175 cs176 hk177 h178
      obtain rfl := hk177
      refine Yz 9 5 5 b174 o175 0 (iB (rdD t93 0)) h178 rfl (Yd 1 [(0, pt b7), (3, iB (rdD t93 0))] (Xg 1 [.c 13, .c 14] (Xr (Ya 10 2 39 b7 0 (sV A91 t93 c92) h178 rfl ?_))))
      have ⟨hc179, h⟩ := oz h
      refine Yo (OpE.cutSl 11 3 39 (some 1) none h178 (by kernel_rfl) rfl (by kernel_rfl) (by kernel_rfl) hc179 ?_)
      intro A180 c181 h182
      refine Yb 2 39 b7 0 (sV A180 (cutL t93 1 (t93.length : Int)) c181) [sV A180 (cutL t93 1 (t93.length : Int)) c181] h182 rfl ?_
      intro w183 h184 hk185
      refine Yq 1 15 [.c 16] 3 [(1, iB (rdD t93 0)), (2, tB true)] (Ye (Xt (.tuple #[iB (rdD t93 0), tB true]) (cont_mk (Ul [(0, pt b12), (10, .tuple #[iB (rdD t93 0), tB true])] ?_))))
      exact hj195 (cutL t93 1 (t93.length : Int)) (rdD t93 0) true A180 c181 w183 h (h184.pk [1, 2, 6, 0, 4])
    ·refine Xd 1 29 [.c 30, .blk 0, .c 43] 3 [(2, pt b2), (4, pt b12), (5, iB t88), (6, iB t89), (8, pt b99), (49, tB (t89 == 203))] (Vc 49 31 32 h (fun hc266 h => ?_) fun hc266 h => ?_)
     ·refine Xr (Yp 1 [(2, pt b2), (4, pt b12), (5, iB t88), (8, pt b99), (52, pt b12)] (RegI.enter 53 [2, 4, 5, 8] [(2, pt b2), (4, pt b12), (5, iB t88), (8, pt b99)] (by kernel_rfl) (by kernel_rfl) (by kernel_rfl) (by kernel_rfl) F121 121 rfl [pt b12] (by kernel_rfl) (by kernel_rfl) ?_))
      obtain ⟨j308, hJ309, h⟩ := of_let h
      have hj310 : ∀ (t303 : List Int) (t304 : Bool) (t305 : Int) (A301 : Option Addr) (c302 : Nat) (w307 : World), j308 (t303, t304, t305) = some r → Holds M0 w0 w307 [box b2 25 [iA 0, iB 0, iB 0, iC 0, iA 0, iA 0], box b12 144 [.func (.func 159) #[] #[pt b7], iA (wA (t94 + 1)), tB t304], box b7 39 [sV A301 t303 c302], sl rB (sV A301 t303 c302) t303, box b99 25 [iA 0, iB t89, iB 0, iC 0, iA 0, iA t90]] → RegI F77 31 [.blk 0, .c 43] 2 [(2, pt b2), (4, pt b12), (5, iB t88), (8, pt b99), (53, iB t305)] w307 (decode_Next_77.post M0 w0 r) := by
       intro t303 t304 t305 A301 c302 w307 h h306
       rw [hJ309] at h
       clear hJ309
       dsimp only at h
       refine Yp 1 [(2, pt b2), (4, pt b12), (5, iB t88), (8, pt b99), (53, iB t305), (54, pt b99)] (Yb 4 3 b99 0 (iA 1) [iA 1, iB t89, iB 0, iC 0, iA 0, iA t90] h306 rfl ?_)
       intro w311 h312 hk313
       refine Zp 1 [2, 4, 5, 8, 53, 55] [(55, pu b99 1)] (Yb 4 5 b99 1 (iB t305) [iA 1, iB t305, iB 0, iC 0, iA 0, iA t90] h312 rfl ?_)
       intro w314 h315 hk316
       refine Ye (Vl [(2, pt b2), (4, pt b12), (5, iB t88), (8, pt b99)] ?_)
       exact hj387 t303 (wA (t94 + 1)) t304 1 t305 0 t90 A301 c302 w314 h (h315.pk [0, 1, 2, 3, 4])
      clear hJ309
      refine Xq 1 1 [.c 2] 1 [(0, pt b12)] (Zy 1 3 [.c 4] 3 [0, 8] [(8, pt b12)] (Ya 9 1 141 b12 0 (.func (.func 159) #[] #[pt b7]) h163 rfl (RegI.enter 10 [0] [(0, pt b12)] (by kernel_rfl) (by kernel_rfl) (by kernel_rfl) (by kernel_rfl) F159 159 rfl [pt b7] (by kernel_rfl) (by kernel_rfl) ?_)))
      obtain ⟨j288, hJ289, h⟩ := of_let h
      have hj290 : ∀ (t283 : List Int) (t284 : Int) (t285 : Bool) (A281 : Option Addr) (c282 : Nat) (w287 : World), j288 (t283, t284, t285) = some r → Holds M0 w0 w287 [box b12 144 [.func (.func 159) #[] #[pt b7], iA t94, tB t95], box b7 39 [sV A281 t283 c282], sl rB (sV A281 t283 c282) t283, box b2 25 [iA 0, iB 0, iB 0, iC 0, iA 0, iA 0], box b99 25 [iA 0, iB t89, iB 0, iC 0, iA 0, iA t90]] → RegI F121 3 [.c 4] 5 [(0, pt b12), (10, .tuple #[iB t284, tB t285])] w287 (cont (fun e' w' => RegI F77 31 [.blk 0, .c 43] 2 e' w' (decode_Next_77.post M0 w0 r)) 53 [(2, pt b2), (4, pt b12), (5, iB t88), (8, pt b99)]) := by
       intro t283 t284 t285 A281 c282 w287 h h286
       rw [hJ289] at h
       clear hJ289
       dsimp only at h
       refine Yp 5 [(0, pt b12), (3, iB t284), (4, tB t285)] (Zy 1 5 [.c 6] 3 [0, 3, 4, 13, 15] [(13, pt b12), (15, pu b12 1)] (Ya 16 0 3 b12 1 (iA t94) h286 rfl (Zp 3 [0, 3, 4, 17, 19] [(17, iA (wA (t94 + 1))), (19, pu b12 1)] (Yb 0 3 b12 1 (iA (wA (t94 + 1))) [.func (.func 159) #[] #[pt b7], iA (wA (t94 + 1)), tB t95] h286 rfl ?_))))
       intro w291 h292 hk293
       refine Zy 1 7 [.c 8] 4 [3, 4, 20, 23] [(20, pt b12), (23, pu b12 2)] (Ya 24 0 4 b12 2 (tB t95) h292 rfl (Zp 1 [3, 4, 20, 25] [(25, tB t95)] ?_))
       rcases oc h with ⟨hc294, h⟩ | ⟨hc294, h⟩
       ·refine Yf 25 true hc294 (Zp 4 [3, 27, 29] [(27, tB t285), (29, pu b12 2)] (Yb 0 4 b12 2 (tB t285) [.func (.func 159) #[] #[pt b7], iA (wA (t94 + 1)), tB t285] h292 rfl ?_))
        intro w295 h296 hk297
        refine Yq 1 9 [.c 10] 2 [(2, iB t284)] (Ye (Xt (iB t284) (cont_mk (Ul [(2, pt b2), (4, pt b12), (5, iB t88), (8, pt b99), (53, iB t284)] ?_))))
        exact hj310 t283 t285 t284 A281 c282 w295 h (h296.pk [3, 0, 1, 2, 4])
       ·refine Yf 25 false hc294 (Zp 4 [3, 27, 29] [(27, tB false), (29, pu b12 2)] (Yb 0 4 b12 2 (tB false) [.func (.func 159) #[] #[pt b7], iA (wA (t94 + 1)), tB false] h292 rfl ?_))
        intro w298 h299 hk300
        refine Yq 1 9 [.c 10] 2 [(2, iB t284)] (Ye (Xt (iB t284) (cont_mk (Ul [(2, pt b2), (4, pt b12), (5, iB t88), (8, pt b99), (53, iB t284)] ?_))))
        exact hj310 t283 false t284 A281 c282 w298 h (h299.pk [3, 0, 1, 2, 4])
      clear hJ289
      refine Xd 1 1 [.c 2] 2 [(0, pt b7)] (Xg 2 [.c 4, .c 5, .c 10] (Xr (Ya 4 2 39 b7 0 (sV A91 t93 c92) h163 rfl (Zd 2 [0, 6] [(6, tB ((t93.length : Int) == 0))] (Vc 6 6 9 h (fun hc267 h => ?_) fun hc267 h => ?_)))))
      ·refine Xd 1 7 [.c 8, .c 10] 2 [(1, iB 0), (2, tB false)] (Xt (.tuple #[iB 0, tB false]) (cont_mk (Ul [(0, pt b12), (10, .tuple #[iB 0, tB false])] ?_)))
       exact hj290 t93 0 false A91 c92 w164 h (h163.pk [1, 2, 3, 0, 4])
      ·refine Xg 1 [.c 10] (Xg 1 [.c 11, .c 12] (Xr (Ya 7 2 39 b7 0 (sV A91 t93 c92) h163 rfl ?_)))
       have ⟨hc268, h⟩ := oz h
       refine Yo (OpE.idxSl 8 3 39 0 h163 (by kernel_rfl) rfl (by kernel_rfl) (by kernel_rfl) hc268 ?_)
       intro b269 o270 cs271 hk272 h273
       obtain rfl := hk272
       refine Yz 9 5 5 b269 o270 0 (iB (rdD t93 0)) h273 rfl (Yd 1 [(0, pt b7), (3, iB (rdD t93 0))] (Xg 1 [.c 13, .c 14] (Xr (Ya 10 2 39 b7 0 (sV A91 t93 c92) h273 rfl ?_))))
       have ⟨hc274, h⟩ := oz h
       refine Yo (OpE.cutSl 11 3 39 (some 1) none h273 (by kernel_rfl) rfl (by kernel_rfl) (by kernel_rfl) hc274 ?_)
       intro A275 c276 h277
       refine Yb 2 39 b7 0 (sV A275 (cutL t93 1 (t93.length : Int)) c276) [sV A275 (cutL t93 1 (t93.length : Int)) c276] h277 rfl ?_
       intro w278 h279 hk280
       refine Yq 1 15 [.c 16] 3 [(1, iB (rdD t93 0)), (2, tB true)] (Ye (Xt (.tuple #[iB (rdD t93 0), tB true]) (cont_mk (Ul [(0, pt b12), (10, .tuple #[iB (rdD t93 0), tB true])] ?_))))
       exact hj290 (cutL t93 1 (t93.length : Int)) (rdD t93 0) true A275 c276 w278 h (h279.pk [1, 2, 6, 0, 4])
     ·refine Xd 1 33 [.c 34, .blk 0, .c 43] 3 [(2, pt b2), (4, pt b12), (5, iB t88), (6, iB t89), (8, pt b99), (56, tB (t88 != 0))] (Vc 56 35 42 h (fun hc317 h => ?_) fun hc317 h => ?_)
      ·refine Xq 1 36 [.c 37, .blk 0, .c 43] 1 [(2, pt b2), (4, pt b12), (5, iB t88), (6, iB t89), (8, pt b99), (59, pt b99)] (Yb 4 3 b99 0 (iA 3) [iA 3, iB t89, iB 0, iC 0, iA 0, iA t90] h163 rfl ?_)
       intro w318 h319 hk320
       refine Zy 1 38 [.c 39, .blk 0, .c 43] 1 [2, 4, 5, 6, 8, 60] [(60, pt b99)] (Ya 61 4 3 b99 0 (iA 3) h319 rfl (Zp 1 [2, 4, 5, 8, 61, 62] [(61, iA 3), (62, iB t89)] ?_))
       obtain ⟨t325, hg324, h⟩ := of_bind h
       refine Yc 63 122 #[iA 3, iB t89] ((decode_Near_122_ok K _ w318  3 t89 h319.old' hg324).mono ?_)
       rintro _ w321 ⟨rfl, hb322⟩
       refine ⟨_, rfl, ?_⟩
       have h323 := h319.call hb322
       refine Ye (Vc 63 40 41 h (fun hc326 h => ?_) fun hc326 h => ?_)
       ·refine Xr (Yp 1 [(2, pt b2), (4, pt b12), (5, iB t88), (8, pt b99), (64, pt b12)] (RegI.enter 65 [2, 4, 5, 8] [(2, pt b2), (4, pt b12), (5, iB t88), (8, pt b99)] (by kernel_rfl) (by kernel_rfl) (by kernel_rfl) (by kernel_rfl) F121 121 rfl [pt b12] (by kernel_rfl) (by kernel_rfl) ?_))
        obtain ⟨j368, hJ369, h⟩ := of_let h
        have hj370 : ∀ (t363 : List Int) (t364 : Bool) (t365 : Int) (A361 : Option Addr) (c362 : Nat) (w367 : World), j368 (t363, t364, t365) = some r → Holds M0 w0 w367 [box b2 25 [iA 0, iB 0, iB 0, iC 0, iA 0, iA 0], box b12 144 [.func (.func 159) #[] #[pt b7], iA (wA (t94 + 1)), tB t364], box b7 39 [sV A361 t363 c362], sl rB (sV A361 t363 c362) t363, box b99 25 [iA 3, iB t89, iB 0, iC 0, iA 0, iA t90]] → RegI F77 40 [.blk 0, .c 43] 2 [(2, pt b2), (4, pt b12), (5, iB t88), (8, pt b99), (65, iB t365)] w367 (decode_Next_77.post M0 w0 r) := by
         intro t363 t364 t365 A361 c362 w367 h h366
         rw [hJ369] at h
         clear hJ369
         dsimp only at h
         refine Yp 1 [(2, pt b2), (4, pt b12), (5, iB t88), (8, pt b99), (65, iB t365), (66, pu b99 2)] (Yb 4 5 b99 2 (iB t365) [iA 3, iB t89, iB t365, iC 0, iA 0, iA t90] h366 rfl ?_)
         intro w371 h372 hk373
         refine Ye (Vl [(2, pt b2), (4, pt b12), (5, iB t88), (8, pt b99)] ?_)
         exact hj387 t363 (wA (t94 + 1)) t364 3 t89 t365 t90 A361 c362 w371 h (h372.pk [0, 1, 2, 3, 4])
        clear hJ369
        refine Xq 1 1 [.c 2] 1 [(0, pt b12)] (Zy 1 3 [.c 4] 3 [0, 8] [(8, pt b12)] (Ya 9 1 141 b12 0 (.func (.func 159) #[] #[pt b7]) h323 rfl (RegI.enter 10 [0] [(0, pt b12)] (by kernel_rfl) (by kernel_rfl) (by kernel_rfl) (by kernel_rfl) F159 159 rfl [pt b7] (by kernel_rfl) (by kernel_rfl) ?_)))
        obtain ⟨j348, hJ349, h⟩ := of_let h
        have hj350 : ∀ (t343 : List Int) (t344 : Int) (t345 : Bool) (A341 : Option Addr) (c342 : Nat) (w347 : World), j348 (t343, t344, t345) = some r → Holds M0 w0 w347 [box b12 144 [.func (.func 159) #[] #[pt b7], iA t94, tB t95], box b7 39 [sV A341 t343 c342], sl rB (sV A341 t343 c342) t343, box b2 25 [iA 0, iB 0, iB 0, iC 0, iA 0, iA 0], box b99 25 [iA 3, iB t89, iB 0, iC 0, iA 0, iA t90]] → RegI F121 3 [.c 4] 5 [(0, pt b12), (10, .tuple #[iB t344, tB t345])] w347 (cont (fun e' w' => RegI F77 40 [.blk 0, .c 43] 2 e' w' (decode_Next_77.post M0 w0 r)) 65 [(2, pt b2), (4, pt b12), (5, iB t88), (8, pt b99)]) := by
         intro t343 t344 t345 A341 c342 w347 h h346
         rw [hJ349] at h
         clear hJ349
         dsimp only at h
         refine Yp 5 [(0, pt b12), (3, iB t344), (4, tB t345)] (Zy 1 5 [.c 6] 3 [0, 3, 4, 13, 15] [(13, pt b12), (15, pu b12 1)] (Ya 16 0 3 b12 1 (iA t94) h346 rfl (Zp 3 [0, 3, 4, 17, 19] [(17, iA (wA (t94 + 1))), (19, pu b12 1)] (Yb 0 3 b12 1 (iA (wA (t94 + 1))) [.func (.func 159) #[] #[pt b7], iA (wA (t94 + 1)), tB t95] h346 rfl ?_))))
         intro w351 h352 hk353
         refine Zy 1 7 [.c 8] 4 [3, 4, 20, 23] [(20, pt b12), (23, pu b12 2)] (Ya 24 0 4 b12 2 (tB t95) h352 rfl (Zp 1 [3, 4, 20, 25] [(25, tB t95)] ?_))
         rcases oc h with ⟨hc354, h⟩ | ⟨hc354, h⟩
         ·refine Yf 25 true hc354 (Zp 4 [3, 27, 29] [(27, tB t345), (29, pu b12 2)] (Yb 0 4 b12 2 (tB t345) [.func (.func 159) #[] #[pt b7], iA (wA (t94 + 1)), tB t345] h352 rfl ?_))
          intro w355 h356 hk357
          refine Yq 1 9 [.c 10] 2 [(2, iB t344)] (Ye (Xt (iB t344) (cont_mk (Ul [(2, pt b2), (4, pt b12), (5, iB t88), (8, pt b99), (65, iB t344)] ?_))))
          exact hj370 t343 t345 t344 A341 c342 w355 h (h356.pk [3, 0, 1, 2, 4])
         ·refine Yf 25 false hc354 (Zp 4 [3, 27, 29] [(27, tB false), (29, pu b12 2)] (Yb 0 4 b12 2 (tB false) [.func (.func 159) #[] #[pt b7], iA (wA (t94 + 1)), tB false] h352 rfl ?_))
          intro w358 h359 hk360
          refine Yq 1 9 [.c 10] 2 [(2, iB t344)] (Ye (Xt (iB t344) (cont_mk (Ul [(2, pt b2), (4, pt b12), (5, iB t88), (8, pt b99), (65, iB t344)] ?_))))
          exact hj370 t343 false t344 A341 c342 w358 h (h359.pk [3, 0, 1, 2, 4])
        clear hJ349
        refine Xd 1 1 [.c 2] 2 [(0, pt b7)] (Xg 2 [.c 4, .c 5, .c 10] (Xr (Ya 4 2 39 b7 0 (sV A91 t93 c92) h323 rfl (Zd 2 [0, 6] [(6, tB ((t93.length : Int) == 0))] (Vc 6 6 9 h (fun hc327 h => ?_) fun hc327 h => ?_)))))
        ·refine Xd 1 7 [.c 8, .c 10] 2 [(1, iB 0), (2, tB false)] (Xt (.tuple #[iB 0, tB false]) (cont_mk (Ul [(0, pt b12), (10, .tuple #[iB 0, tB false])] ?_)))
         exact hj350 t93 0 false A91 c92 w321 h (h323.pk [1, 2, 3, 0, 4])
        ·refine Xg 1 [.c 10] (Xg 1 [.c 11, .c 12] (Xr (Ya 7 2 39 b7 0 (sV A91 t93 c92) h323 rfl ?_)))
         have ⟨hc328, h⟩ := oz h
         refine Yo (OpE.idxSl 8 3 39 0 h323 (by kernel_rfl) rfl (by kernel_rfl) (by kernel_rfl) hc328 ?_)
         intro b329 o330 cs331 hk332 h333
         obtain rfl := hk332
         refine Yz 9 5 5 b329 o330 0 (iB (rdD t93 0)) h333 rfl (Yd 1 [(0, pt b7), (3, iB (rdD t93 0))] (Xg 1 [.c 13, .c 14] (Xr (Ya 10 2 39 b7 0 (sV A91 t93 c92) h333 rfl ?_))))
         have ⟨hc334, h⟩ := oz h
         refine Yo (OpE.cutSl 11 3 39 (some 1) none h333 (by kernel_rfl) rfl (by kernel_rfl) (by kernel_rfl) hc334 ?_)
         intro A335 c336 h337
         refine Yb 2 39 b7 0 (sV A335 (cutL t93 1 (t93.length : Int)) c336) [sV A335 (cutL t93 1 (t93.length : Int)) c336] h337 rfl ?_
         intro w338 h339 hk340
         refine Yq 1 15 [.c 16] 3 [(1, iB (rdD t93 0)), (2, tB true)] (Ye (Xt (.tuple #[iB (rdD t93 0), tB true]) (cont_mk (Ul [(0, pt b12), (10, .tuple #[iB (rdD t93 0), tB true])] ?_))))
         exact hj350 (cutL t93 1 (t93.length : Int)) (rdD t93 0) true A335 c336 w338 h (h339.pk [1, 2, 6, 0, 4])
       ·refine Xg 1 [.blk 0, .c 43] (Vl [(2, pt b2), (4, pt b12), (5, iB t88), (8, pt b99)] ?_)
        exact hj387 t93 t94 t95 3 t89 0 t90 A91 c92 w321 h (h323.pk [0, 1, 2, 3, 4])
      ·refine Xg 1 [.blk 0, .c 43] (Vl [(2, pt b2), (4, pt b12), (5, iB t88), (8, pt b99)] ?_)
       exact hj387 t93 t94 t95 0 t89 0 t90 A91 c92 w164 h (h163.pk [0, 1, 2, 3, 4])
   clear hJ166
   rcases oc h with ⟨hc161, h⟩ | ⟨hc161, h⟩
   ·refine Yf 38 true hc161 (Zp 4 [2, 4, 5, 6, 8, 35] [(35, tB (t88 != 0))] (Ul [(2, pt b2), (4, pt b12), (5, iB t88), (6, iB t89), (8, pt b99), (35, tB (t88 != 0))] ?_))
    exact hj167 (t88 != 0) w103 h (h104.pk [0, 1, 2, 3, 4])
   ·refine Yf 38 false hc161 (Zp 4 [2, 4, 5, 6, 8, 35] [(35, tB false)] (Ul [(2, pt b2), (4, pt b12), (5, iB t88), (6, iB t89), (8, pt b99), (35, tB false)] ?_))
    exact hj167 false w103 h (h104.pk [0, 1, 2, 3, 4])
end

section
def listing_at_49.post (M0 : Nat → Prop) (w0 : World) (r : Int × (List Int) × Int × Int × Int × Int × Int × Int × Bool) : Ending → World → Prop := fun e w => ∃ (A2 : Option Addr) (c2 : Nat), e = .returned (.agg #[.int .u16 r.1, .slice A2 r.2.1.length c2, .int .i64 r.2.2.1, .int .u8 r.2.2.2.1, .int .u8 r.2.2.2.2.1, .int .u16 r.2.2.2.2.2.1, .int .i64 r.2.2.2.2.2.2.1, .int .i64 r.2.2.2.2.2.2.2.1, .bool r.2.2.2.2.2.2.2.2]) ∧ Holds M0 w0 w [own (Rp.int .u8) 5 (.slice A2 r.2.1.length c2) r.2.1]
def listing_at_49.f (K : Nat) (p0 : List (Int × Int)) (p1 : Int) : Option (Int × (List Int) × Int × Int × Int × Int × Int × Int × Bool) := (cells_Dump_39.f K p0 p1 8).bind fun t10 => (decode_Next_77.f K t10).bind fun yt19 => cond (!yt19.2.2.2.2.2.2) (cond (cutR 0 1 t10.length) (some (p1, (cutL t10 0 1), 0, 0, 0, 0, 0, 0, false)) none) (cond (cutR 0 yt19.2.2.2.2.1 t10.length) (some (p1, (cutL t10 0 yt19.2.2.2.2.1), yt19.1, yt19.2.1, yt19.2.2.1, yt19.2.2.2.1, yt19.2.2.2.2.1, yt19.2.2.2.2.2.1, true)) none)
theorem listing_at_49_ok (K : Nat) (M0 : Nat → Prop) (w0 : World) (pA0 : Option Addr) (pc0 : Nat) (p0 : List (Int × Int)) (p1 : Int) (ho : ∀ b, M0 b → b < w0.heap.size) (hs0 : Sl (Rp.pair rC rB) w0 M0 (sV pA0 p0 pc0) p0) {r : Int × (List Int) × Int × Int × Int × Int × Int × Int × Bool} (h : listing_at_49.f K p0 p1 = some r) :
  Calls Tryz.prog 49 #[sV pA0 p0 pc0, iC p1] w0 (listing_at_49.post M0 w0 r) := by
 unfold listing_at_49.f at h
 have h0 : Holds M0 w0 w0 [] := Holds.start ho
 have h00 := h0.aS hs0
 have h0 : Holds M0 w0 w0 [sl (Rp.pair rC rB) (sV pA0 p0 pc0) p0] := h00
 refine calls_of F49 rfl [sV pA0 p0 pc0, iC p1] (by kernel_rfl) (Xg 1 [.c 1, .c 2] (Xr (Yx 4 53 [iC 0, n0, iA 0, iB 0, iB 0, iC 0, iA 0, iA 0, tB false] h0 ?_)))
 intro w1 b2 h3 hb4 hn5
 refine Yq 1 3 [.c 4] 2 [(1, iC p1), (4, pt b2), (8, sV pA0 p0 pc0), (9, iC p1)] ?_
 obtain ⟨t10, hg9, h⟩ := of_bind h
 refine Yc 10 39 #[sV pA0 p0 pc0, iC p1, iA 8] ((cells_Dump_39_ok K _ w1  pA0 pc0 p0 p1 8 h3.old' (h3.get 0 rfl) hg9).mono ?_)
 rintro _ w6 ⟨A11, c12, rfl, hr14⟩
 refine ⟨_, rfl, ?_⟩
 have hb7 := hr14.below
 have h8 := h3.join hr14
 refine Zp 1 [1, 4, 5] [(5, sV A11 t10 c12)] (Zy 1 5 [.c 6] 1 [1, 4, 5, 12] [(12, sV A11 t10 c12)] ?_)
 obtain ⟨⟨t19, t20, t21, t22, t23, t24, t25⟩, hg18, h⟩ := of_bind h
 dsimp only at h
 refine Yc 13 77 #[sV A11 t10 c12] ((decode_Next_77_ok K (fun _ => False) w6  A11 c12 t10 nF (h8.ownSl 2 rfl) hg18).mono ?_)
 rintro _ w15 ⟨rfl, hb16⟩
 refine ⟨_, rfl, ?_⟩
 have h17 := h8.call hb16
 refine Zp 3 [1, 4, 5, 14, 15] [(14, .agg #[iA t19, iB t20, iB t21, iC t22, iA t23, iA t24]), (15, tB t25)] (Yx 6 25 [iA 0, iB 0, iB 0, iC 0, iA 0, iA 0] h17 ?_)
 intro w26 b27 h28 hb29 hn30
 refine Yb 3 25 b27 0 (.agg #[iA t19, iB t20, iB t21, iC t22, iA t23, iA t24]) [iA t19, iB t20, iB t21, iC t22, iA t23, iA t24] h28 rfl ?_
 intro w31 h32 hk33
 refine Zp 1 [1, 4, 5, 6, 7] [(6, pt b27), (7, tB t25)] (Zy 2 8 [.c 9, .c 14] 2 [1, 4, 5, 6, 17] [(17, tB (!t25))] (Ye (Vc 17 10 13 h (fun hc34 h => ?_) fun hc34 h => ?_)))
 ·refine Xq 1 11 [.c 12, .c 14] 2 [(4, pt b2), (18, iC p1), (19, sV A11 t10 c12)] ?_
  have ⟨hc35, h⟩ := oz h
  refine Yo (OpE.cutOwn 20 2 39 5 (some 1) h32 (by kernel_rfl) rfl (by kernel_rfl) (by kernel_rfl) hc35 ?_)
  intro A36 c37 h38
  refine Zp 1 [4, 21] [(21, .agg #[iC p1, sV A36 (cutL t10 0 1) c37, iA 0, iB 0, iB 0, iC 0, iA 0, iA 0, tB false])] (Yb 1 53 b2 0 (.agg #[iC p1, sV A36 (cutL t10 0 1) c37, iA 0, iB 0, iB 0, iC 0, iA 0, iA 0, tB false]) [iC p1, sV A36 (cutL t10 0 1) c37, iA 0, iB 0, iB 0, iC 0, iA 0, iA 0, tB false] h38 rfl ?_)
  intro w39 h40 hk41
  refine Ye (RunsI.toRet (by kernel_rfl) (RetI.valW [.cell 4 53] [.agg #[iC p1, sV A36 (cutL t10 0 1) c37, iA 0, iB 0, iB 0, iC 0, iA 0, iA 0, tB false]] (.agg #[iC p1, sV A36 (cutL t10 0 1) c37, iA 0, iB 0, iB 0, iC 0, iA 0, iA 0, tB false]) (by kernel_rfl) (ResAt.box 1 53 b2 0 h40 (by kernel_rfl) (by kernel_rfl) rfl (by kernel_rfl) rfl) (by kernel_rfl) ?_))
  obtain rfl := sI h
  exact ⟨A36, c37, rfl, h40.pk [2]⟩
 ·refine Xg 1 [.c 14] (Xg 1 [.c 15, .c 16] (RunsI.any 8 (by kernel_rfl) (by kernel_rfl) (by kernel_rfl) (Kp ([] : List Nat) (World.drew w31)) ?_))
  have h43 := h32.drew
  generalize World.drew w31 = w42 at h43 ⊢
  have hS44 := Kp.refl ([] : List Nat) w42
  refine Wu 0 22 (iC p1) hS44 (Wu 1 23 (sV A11 t10 c12) hS44 (Wu 2 24 (pu b27 4) hS44 (Wa 3 25 3 3 b27 4 (iA t23) [] h43 rfl hS44 rfl (Wa 5 27 3 25 b27 0 (.agg #[iA t19, iB t20, iB t21, iC t22, iA t23, iA t24]) [] h43 rfl hS44 rfl (AnyE.one 4 (by kernel_rfl) (fun w46 hu47 => ?_))))))
  have h48 := h43.call hu47
  have hS49 := hS44.up hu47
  have ⟨hc50, h⟩ := oz h
  refine OpE.cutOwn 26 2 39 5 (some t23) h48 (by kernel_rfl) rfl (by kernel_rfl) (by kernel_rfl) hc50 ?_
  intro A51 c52 h53
  refine ⟨hS49, ?_⟩
  refine Wu 6 28 (.agg #[iC p1, sV A51 (cutL t10 0 t23) c52, iA t19, iB t20, iB t21, iC t22, iA t23, iA t24, tB true]) hS49 (AnyE.last 7 (by kernel_rfl) (by kernel_rfl) (fun w55 hu56 => ?_))
  have h57 := h53.call hu56
  have hS58 := hS49.up hu56
  refine OpE.storeBox 1 53 b2 0 (.agg #[iC p1, sV A51 (cutL t10 0 t23) c52, iA t19, iB t20, iB t21, iC t22, iA t23, iA t24, tB true]) [iC p1, sV A51 (cutL t10 0 t23) c52, iA t19, iB t20, iB t21, iC t22, iA t23, iA t24, tB true] h57 (by kernel_rfl) (by kernel_rfl) rfl (by kernel_rfl) (by kernel_rfl) (by kernel_rfl) ?_
  intro w59 h60 hk61
  refine AnyE.done (by kernel_rfl) (fun w63 hu64 => ?_)
  have h65 := h60.call hu64
  refine Vl [(4, pt b2)] (RunsI.toRet (by kernel_rfl) (RetI.valW [.cell 4 53] [.agg #[iC p1, sV A51 (cutL t10 0 t23) c52, iA t19, iB t20, iB t21, iC t22, iA t23, iA t24, tB true]] (.agg #[iC p1, sV A51 (cutL t10 0 t23) c52, iA t19, iB t20, iB t21, iC t22, iA t23, iA t24, tB true]) (by kernel_rfl) (ResAt.box 1 53 b2 0 h65 (by kernel_rfl) (by kernel_rfl) rfl (by kernel_rfl) rfl) (by kernel_rfl) ?_))
  obtain rfl := sI h
  exact ⟨A51, c52, rfl, h65.pk [2]⟩
end

section
abbrev cmp_isNaN_uint16_167.post := pB
def cmp_isNaN_uint16_167.f (K : Nat) (p0 : Int) : Option Bool := some (p0 != p0)
theorem cmp_isNaN_uint16_167_ok (K : Nat) (M0 : Nat → Prop) (w0 : World) (p0 : Int) (ho : ∀ b, M0 b → b < w0.heap.size) {r : Bool} (h : cmp_isNaN_uint16_167.f K p0 = some r) :
  Calls Tryz.prog 167 #[iC p0] w0 (cmp_isNaN_uint16_167.post M0 w0 r) := by
 unfold cmp_isNaN_uint16_167.f at h
 have h0 : Holds M0 w0 w0 [] := Holds.start ho
 refine calls_of F167 rfl [iC p0] (by kernel_rfl) (Xq 1 1 [.c 2] 1 [(0, iC p0)] (Yq 1 3 [.c 4] 4 [(2, tB (p0 != p0))] (Ye ?_)))
 obtain rfl := sI h
 exact Xt (tB (p0 != p0)) ⟨rfl, h0.below⟩
end

section
abbrev cmp_Less_uint16_131.post := pB
def cmp_Less_uint16_131.f (K : Nat) (p0 : Int) (p1 : Int) : Option Bool := (cmp_isNaN_uint16_167.f K p0).bind fun t5 => cond t5 ((cmp_isNaN_uint16_167.f K p1).bind fun t11 => cond (!t11) (some true) (some (decide (p0 < p1)))) (some (decide (p0 < p1)))
theorem cmp_Less_uint16_131_ok (K : Nat) (M0 : Nat → Prop) (w0 : World) (p0 : Int) (p1 : Int) (ho : ∀ b, M0 b → b < w0.heap.size) {r : Bool} (h : cmp_Less_uint16_131.f K p0 p1 = some r) :
  Calls Tryz.prog 131 #[iC p0, iC p1] w0 (cmp_Less_uint16_131.post M0 w0 r) := by
 unfold cmp_Less_uint16_131.f at h
 have h0 : Holds M0 w0 w0 [] := Holds.start ho
 refine calls_of F131 rfl [iC p0, iC p1] (by kernel_rfl) (Xq 1 1 [.c 2] 1 [(0, iC p0), (1, iC p1)] (Zy 1 3 [.c 4] 1 [0, 1, 5] [(5, iC p0)] ?_))
 obtain ⟨t5, hg4, h⟩ := of_bind h
 refine Yc 6 167 #[iC p0] ((cmp_isNaN_uint16_167_ok K _ w0  p0 h0.old' hg4).mono ?_)
 rintro _ w1 ⟨rfl, hb2⟩
 refine ⟨_, rfl, ?_⟩
 have h3 := h0.call hb2
 refine Zp 1 [0, 1, 7] [(7, tB t5)] ?_
 rcases oc h with ⟨hc6, h⟩ | ⟨hc6, h⟩
 ·refine Yf 7 true hc6 (Zp 1 [0, 1, 7, 8] [(8, iC p1)] ?_)
  obtain ⟨t11, hg10, h⟩ := of_bind h
  refine Yc 9 167 #[iC p1] ((cmp_isNaN_uint16_167_ok K _ w1  p1 h3.old' hg10).mono ?_)
  rintro _ w7 ⟨rfl, hb8⟩
  refine ⟨_, rfl, ?_⟩
  have h9 := h3.call hb8
  refine Zp 3 [0, 1, 12] [(12, tB (!t11))] ?_
  rcases oc h with ⟨hc12, h⟩ | ⟨hc12, h⟩
  ·refine Yf 12 true hc12 (Yd 5 [(4, tB true)] ?_)
   obtain rfl := sI h
   exact Xt (tB true) ⟨rfl, h9.below⟩
  ·refine Yf 12 false hc12 (Yd 5 [(4, tB (decide (p0 < p1)))] ?_)
   obtain rfl := sI h
   exact Xt (tB (decide (p0 < p1))) ⟨rfl, h9.below⟩
 ·refine Yf 7 false hc6 (Yd 10 [(4, tB (decide (p0 < p1)))] ?_)
  obtain rfl := sI h
  exact Xt (tB (decide (p0 < p1))) ⟨rfl, h3.below⟩
end

section
def slices_insertionSortOrdered_uint16_125.post (pA0 : Option Addr) (pc0 : Nat) (M0 : Nat → Prop) (w0 : World) (r : List Int) : Ending → World → Prop := fun e w => e = .returned (.tuple #[]) ∧ Holds M0 w0 w [own (Rp.int .u16) 23 (.slice pA0 r.length pc0) r]
def slices_insertionSortOrdered_uint16_125.l0 (K : Nat) (p0 : List Int) (p1 : Int) (p2 : Int) (t5 : Int) : Nat → (List Int) → Int → Option (List Int)
 | 0, _, _ => none
 | k + 1, t4, t6 => Let (fun (t22 : Bool) => cond t22 (cond (inR (IntKind.wrap .i64 (t6 - 1)) t4.length) (cond (inR t6 t4.length) (cond (inR (IntKind.wrap .i64 (t6 - 1)) (stD t4 t6 (rdD t4 (IntKind.wrap .i64 (t6 - 1)))).length) (slices_insertionSortOrdered_uint16_125.l0 K p0 p1 p2 t5 k (stD (stD t4 t6 (rdD t4 (IntKind.wrap .i64 (t6 - 1)))) (IntKind.wrap .i64 (t6 - 1)) (rdD t4 t6)) (IntKind.wrap .i64 (t6 - 1))) none) none) none) (some t4)) (fun j25 => cond (decide (t6 > p1)) (cond (inR t6 t4.length) (cond (inR (IntKind.wrap .i64 (t6 - 1)) t4.length) ((cmp_Less_uint16_131.f K (rdD t4 t6) (rdD t4 (IntKind.wrap .i64 (t6 - 1)))).bind fun t15 => j25 t15) none) none) (j25 false))
theorem slices_insertionSortOrdered_uint16_125.l0_ok (K : Nat) (M0 : Nat → Prop) (w0 : World) (pA0 : Option Addr) (pc0 : Nat) (p0 : List Int) (p1 : Int) (p2 : Int) (t5 : Int) (R : Ending → World → Prop) (x : (List Int)) (hk0 : ∀ (t115 : List Int) (w1 : World), x = t115 → Holds M0 w0 w1 [own rC 23 (sV pA0 t115 pc0) t115] → RunsI F125 [.c 26, .lp 4, .blk 0] [(0, sV pA0 t115 pc0), (1, iA p1), (2, iA p2), (6, iA t5)] w1 R) :
  ∀ (k : Nat) (t4 : List Int) (t6 : Int) (w : World), slices_insertionSortOrdered_uint16_125.l0 K p0 p1 p2 t5 k t4 t6 = some x → Holds M0 w0 w [own rC 23 (sV pA0 t4 pc0) t4] → RunsI F125 [.c 16, .lp 16, .blk 2, .blk 1, .c 26, .lp 4, .blk 0] [(0, sV pA0 t4 pc0), (1, iA p1), (2, iA p2), (6, iA t5), (7, iA t6)] w R := by
 intro k
 induction k with
 | zero => intro t4 t6 w h hH; exact absurd h (by simp [slices_insertionSortOrdered_uint16_125.l0])
 | succ k ih =>
  intro t4 t6 w h hH
  rw [slices_insertionSortOrdered_uint16_125.l0.eq_2] at h
  refine Xg 1 [.c 17, .c 22, .lp 16, .blk 2, .blk 1, .c 26, .lp 4, .blk 0] (Xg 1 [.c 18, .c 19, .c 22, .lp 16, .blk 2, .blk 1, .c 26, .lp 4, .blk 0] (RunsI.any 15 (by kernel_rfl) (by kernel_rfl) (by kernel_rfl) (Kp ([] : List Nat) (World.drew w)) ?_))
  have h8 := hH.drew
  generalize World.drew w = w7 at h8 ⊢
  have hS9 := Kp.refl ([] : List Nat) w7
  refine Wu 0 16 (iA t6) hS9 (Wu 1 17 (iA p1) hS9 (Wu 2 18 (tB (decide (t6 > p1))) hS9 (Wu 3 19 (tB (decide (t6 > p1))) hS9 ?_)))
  obtain ⟨j25, hJ26, h⟩ := of_let h
  have hj27 : ∀ (t22 : Bool) (w24 : World), j25 t22 = some x → Holds M0 w0 w24 [own rC 23 (sV pA0 t4 pc0) t4] → RunsI F125 [.c 19, .c 22, .lp 16, .blk 2, .blk 1, .c 26, .lp 4, .blk 0] [(0, sV pA0 t4 pc0), (1, iA p1), (2, iA p2), (6, iA t5), (7, iA t6), (30, tB t22)] w24 R := by
   intro t22 w24 h h23
   rw [hJ26] at h
   clear hJ26
   dsimp only at h
   refine Vc 30 20 21 h (fun hc28 h => ?_) fun hc28 h => ?_
   ·refine Xg 1 [.c 22, .lp 16, .blk 2, .blk 1, .c 26, .lp 4, .blk 0] (Xg 2 [.c 24, .blk 3, .c 25, .lp 16, .blk 2, .blk 1, .c 26, .lp 4, .blk 0] (RunsI.any 18 (by kernel_rfl) (by kernel_rfl) (by kernel_rfl) (Kp (mines (pick [own rC 23 (sV pA0 t4 pc0) t4] [0])) (World.drew w24)) ?_))
    have h30 := h23.drew
    generalize World.drew w24 = w29 at h30 ⊢
    have hS31 := Kp.refl (mines (pick [own rC 23 (sV pA0 t4 pc0) t4] [0])) w29
    refine Wu 0 33 (sV pA0 t4 pc0) hS31 (Wu 1 34 (iA t6) hS31 (Wu 2 35 (sV pA0 t4 pc0) hS31 (Wu 3 36 (iA t6) hS31 (Wu 4 37 (iA (wA (t6 - 1))) hS31 (Wu 5 38 (sV pA0 t4 pc0) hS31 (Wu 6 39 (iA t6) hS31 (Wu 7 40 (iA (wA (t6 - 1))) hS31 ?_)))))))
    have ⟨hc33, h⟩ := oz h
    refine AnyE.idxOwnA 8 41 0 29 23 (wA (t6 - 1)) h30 (by kernel_rfl) hS31 rfl (by kernel_rfl) (by kernel_rfl) hc33 (Wu 10 43 (sV pA0 t4 pc0) hS31 (Wu 11 44 (iA t6) hS31 ?_))
    have ⟨hc34, h⟩ := oz h
    refine AnyE.idxOwnA 12 45 0 29 23 t6 h30 (by kernel_rfl) hS31 rfl (by kernel_rfl) (by kernel_rfl) hc34 (AnyE.two 9 13 (by kernel_rfl) ?_ ?_)
    ·intro w35 hu36
     have h37 := h30.call hu36
     have hS38 := hS31.up hu36
     refine OpE.loadOwnA 42 0 23 23 (wA (t6 - 1)) 0 (o := (Int.toNat (wA (t6 - 1))) * 1 + 0) h37 (by kernel_rfl) rfl (by kernel_rfl) (by kernel_rfl) hc33 (fun cs39 hk40 => ?_)
     obtain rfl := hk40
     refine ⟨iC (rdD t4 (wA (t6 - 1))), by kernel_rfl, ?_⟩
     refine ⟨hS38, ?_⟩
     refine AnyE.one 13 (by kernel_rfl) (fun w42 hu43 => ?_)
     have h44 := h37.call hu43
     have hS45 := hS38.up hu43
     refine OpE.loadOwnA 46 0 23 23 t6 0 (o := (Int.toNat t6) * 1 + 0) h44 (by kernel_rfl) rfl (by kernel_rfl) (by kernel_rfl) hc34 (fun cs46 hk47 => ?_)
     obtain rfl := hk47
     refine ⟨iC (rdD t4 t6), by kernel_rfl, ?_⟩
     refine ⟨hS45, ?_⟩
     refine AnyE.idxOwnA 14 47 0 29 23 t6 h30 (by kernel_rfl) hS45 rfl (by kernel_rfl) (by kernel_rfl) hc34 (AnyE.one 15 (by kernel_rfl) (fun w49 hu50 => ?_))
     have h51 := h44.call hu50
     have hS52 := hS45.up hu50
     refine OpE.storeOwnA 0 23 23 t6 0 (iC (rdD t4 (wA (t6 - 1)))) (o := (Int.toNat t6) * 1 + 0) (rdD t4 (wA (t6 - 1))) h51 (by kernel_rfl) (by kernel_rfl) rfl (by kernel_rfl) (by kernel_rfl) (by kernel_rfl) hc34 (fun _ hk => by obtain rfl := hk; exact rfl) ?_
     intro w53 h54 hk55
     have hS56 := hS52.trans hk55 (Kp.turned h30 [0] rfl 0 rfl rfl)
     refine ⟨hS56, ?_⟩
     refine AnyE.one 16 (by kernel_rfl) (fun w57 hu58 => ?_)
     have h59 := h54.call hu58
     have hS60 := hS56.up hu58
     have ⟨hc61, h⟩ := oz h
     refine OpE.idxOwnA 48 0 29 23 (wA (t6 - 1)) h59 (by kernel_rfl) rfl (by kernel_rfl) (by kernel_rfl) hc61 (⟨hS60, ?_⟩)
     refine AnyE.last 17 (by kernel_rfl) (by kernel_rfl) (fun w63 hu64 => ?_)
     have h65 := h59.call hu64
     have hS66 := hS60.up hu64
     refine OpE.storeOwnA 0 23 23 (wA (t6 - 1)) 0 (iC (rdD t4 t6)) (o := (Int.toNat (wA (t6 - 1))) * 1 + 0) (rdD t4 t6) h65 (by kernel_rfl) (by kernel_rfl) rfl (by kernel_rfl) (by kernel_rfl) (by kernel_rfl) hc61 (fun _ hk => by obtain rfl := hk; exact rfl) ?_
     intro w67 h68 hk69
     refine AnyE.done (by kernel_rfl) (fun w71 hu72 => ?_)
     have h73 := h68.call hu72
     refine Vl [(0, sV pA0 t4 pc0), (1, iA p1), (2, iA p2), (6, iA t5), (7, iA t6)] (Ze 1 25 [.lp 16, .blk 2, .blk 1, .c 26, .lp 4, .blk 0] 3 [0, 1, 2, 6, 7] [(7, iA (wA (t6 - 1)))] (Xg 1 [.c 16, .lp 16, .blk 2, .blk 1, .c 26, .lp 4, .blk 0] (Vl [(0, sV pA0 t4 pc0), (1, iA p1), (2, iA p2), (6, iA t5), (7, iA (wA (t6 - 1)))] ?_)))
     have h113 : Holds M0 w0 w71 [own rC 23 (sV pA0 (sD t4 t6 (wA (t6 - 1))) pc0) (sD t4 t6 (wA (t6 - 1)))] := by have hY : Holds M0 w0 w71 [own rC 23 (sV pA0 t4 pc0) (sD t4 t6 (wA (t6 - 1)))] := h73; simpa only [sV, sD, stD_length] using hY
     refine RunsI.is [(0, sV pA0 (sD t4 t6 (wA (t6 - 1))) pc0), (1, iA p1), (2, iA p2), (6, iA t5), (7, iA (wA (t6 - 1)))] (by simp only [sV, sD, stD_length]) (Vl [(0, sV pA0 (sD t4 t6 (wA (t6 - 1))) pc0), (1, iA p1), (2, iA p2), (6, iA t5), (7, iA (wA (t6 - 1)))] ?_)
     exact ih (sD t4 t6 (wA (t6 - 1))) (wA (t6 - 1)) w71 h (h113.pk [0])
    ·intro w74 hu75
     have h76 := h30.call hu75
     have hS77 := hS31.up hu75
     refine OpE.loadOwnA 46 0 23 23 t6 0 (o := (Int.toNat t6) * 1 + 0) h76 (by kernel_rfl) rfl (by kernel_rfl) (by kernel_rfl) hc34 (fun cs78 hk79 => ?_)
     obtain rfl := hk79
     refine ⟨iC (rdD t4 t6), by kernel_rfl, ?_⟩
     refine ⟨hS77, ?_⟩
     refine AnyE.one 9 (by kernel_rfl) (fun w81 hu82 => ?_)
     have h83 := h76.call hu82
     have hS84 := hS77.up hu82
     refine OpE.loadOwnA 42 0 23 23 (wA (t6 - 1)) 0 (o := (Int.toNat (wA (t6 - 1))) * 1 + 0) h83 (by kernel_rfl) rfl (by kernel_rfl) (by kernel_rfl) hc33 (fun cs85 hk86 => ?_)
     obtain rfl := hk86
     refine ⟨iC (rdD t4 (wA (t6 - 1))), by kernel_rfl, ?_⟩
     refine ⟨hS84, ?_⟩
     refine AnyE.idxOwnA 14 47 0 29 23 t6 h30 (by kernel_rfl) hS84 rfl (by kernel_rfl) (by kernel_rfl) hc34 (AnyE.one 15 (by kernel_rfl) (fun w88 hu89 => ?_))
     have h90 := h83.call hu89
     have hS91 := hS84.up hu89
     refine OpE.storeOwnA 0 23 23 t6 0 (iC (rdD t4 (wA (t6 - 1)))) (o := (Int.toNat t6) * 1 + 0) (rdD t4 (wA (t6 - 1))) h90 (by kernel_rfl) (by kernel_rfl) rfl (by kernel_rfl) (by kernel_rfl) (by kernel_rfl) hc34 (fun _ hk => by obtain rfl := hk; exact rfl) ?_
     intro w92 h93 hk94
     have hS95 := hS91.trans hk94 (Kp.turned h30 [0] rfl 0 rfl rfl)
     refine ⟨hS95, ?_⟩
     refine AnyE.one 16 (by kernel_rfl) (fun w96 hu97 => ?_)
     have h98 := h93.call hu97
     have hS99 := hS95.up hu97
     have ⟨hc100, h⟩ := oz h
     refine OpE.idxOwnA 48 0 29 23 (wA (t6 - 1)) h98 (by kernel_rfl) rfl (by kernel_rfl) (by kernel_rfl) hc100 (⟨hS99, ?_⟩)
     refine AnyE.last 17 (by kernel_rfl) (by kernel_rfl) (fun w102 hu103 => ?_)
     have h104 := h98.call hu103
     have hS105 := hS99.up hu103
     refine OpE.storeOwnA 0 23 23 (wA (t6 - 1)) 0 (iC (rdD t4 t6)) (o := (Int.toNat (wA (t6 - 1))) * 1 + 0) (rdD t4 t6) h104 (by kernel_rfl) (by kernel_rfl) rfl (by kernel_rfl) (by kernel_rfl) (by kernel_rfl) hc100 (fun _ hk => by obtain rfl := hk; exact rfl) ?_
     intro w106 h107 hk108
     refine AnyE.done (by kernel_rfl) (fun w110 hu111 => ?_)
     have h112 := h107.call hu111
     refine Vl [(0, sV pA0 t4 pc0), (1, iA p1), (2, iA p2), (6, iA t5), (7, iA t6)] (Ze 1 25 [.lp 16, .blk 2, .blk 1, .c 26, .lp 4, .blk 0] 3 [0, 1, 2, 6, 7] [(7, iA (wA (t6 - 1)))] (Xg 1 [.c 16, .lp 16, .blk 2, .blk 1, .c 26, .lp 4, .blk 0] (Vl [(0, sV pA0 t4 pc0), (1, iA p1), (2, iA p2), (6, iA t5), (7, iA (wA (t6 - 1)))] ?_)))
     have h114 : Holds M0 w0 w110 [own rC 23 (sV pA0 (sD t4 t6 (wA (t6 - 1))) pc0) (sD t4 t6 (wA (t6 - 1)))] := by have hY : Holds M0 w0 w110 [own rC 23 (sV pA0 t4 pc0) (sD t4 t6 (wA (t6 - 1)))] := h112; simpa only [sV, sD, stD_length] using hY
     refine RunsI.is [(0, sV pA0 (sD t4 t6 (wA (t6 - 1))) pc0), (1, iA p1), (2, iA p2), (6, iA t5), (7, iA (wA (t6 - 1)))] (by simp only [sV, sD, stD_length]) (Vl [(0, sV pA0 (sD t4 t6 (wA (t6 - 1))) pc0), (1, iA p1), (2, iA p2), (6, iA t5), (7, iA (wA (t6 - 1)))] ?_)
     exact ih (sD t4 t6 (wA (t6 - 1))) (wA (t6 - 1)) w110 h (h114.pk [0])
   ·refine Xg 2 [.c 26, .lp 4, .blk 0] (Vl [(0, sV pA0 t4 pc0), (1, iA p1), (2, iA p2), (6, iA t5)] ?_)
    exact hk0 t4 w24 (sI h).symm (h23.pk [0])
  clear hJ26
  rcases oc h with ⟨hc11, h⟩ | ⟨hc11, h⟩
  ·refine AnyE.fix 19 true hc11 (by kernel_rfl) (by kernel_rfl) (Wu 4 20 (sV pA0 t4 pc0) hS9 (Wu 5 21 (iA t6) hS9 ?_))
   have ⟨hc12, h⟩ := oz h
   refine AnyE.idxOwnA 6 22 0 29 23 t6 h8 (by kernel_rfl) hS9 rfl (by kernel_rfl) (by kernel_rfl) hc12 (AnyE.loadOwnA 7 23 0 23 23 t6 0 (iC (rdD t4 t6)) [] (o := (Int.toNat t6) * 1 + 0) h8 rfl (by kernel_rfl) hS9 rfl rfl (by kernel_rfl) rfl hc12 (fun _ _ hk => by obtain rfl := hk; kernel_rfl) (Wu 8 24 (sV pA0 t4 pc0) hS9 (Wu 9 25 (iA t6) hS9 (Wu 10 26 (iA (wA (t6 - 1))) hS9 ?_))))
   have ⟨hc13, h⟩ := oz h
   refine AnyE.idxOwnA 11 27 0 29 23 (wA (t6 - 1)) h8 (by kernel_rfl) hS9 rfl (by kernel_rfl) (by kernel_rfl) hc13 (AnyE.loadOwnA 12 28 0 23 23 (wA (t6 - 1)) 0 (iC (rdD t4 (wA (t6 - 1)))) [] (o := (Int.toNat (wA (t6 - 1))) * 1 + 0) h8 rfl (by kernel_rfl) hS9 rfl rfl (by kernel_rfl) rfl hc13 (fun _ _ hk => by obtain rfl := hk; kernel_rfl) ?_)
   obtain ⟨t15, hg14, h⟩ := of_bind h
   refine Wc 13 29 (tB t15) 131 #[iC (rdD t4 t6), iC (rdD t4 (wA (t6 - 1)))] hS9 (fun w hk => cmp_Less_uint16_131_ok K (fun _ => False) w (rdD t4 t6) (rdD t4 (wA (t6 - 1))) nF hg14) (Wu 14 30 (tB t15) hS9 (AnyE.done (by kernel_rfl) (fun w16 hu17 => ?_)))
   have h18 := h8.call hu17
   refine Vl [(0, sV pA0 t4 pc0), (1, iA p1), (2, iA p2), (6, iA t5), (7, iA t6), (30, tB t15)] (Vl [(0, sV pA0 t4 pc0), (1, iA p1), (2, iA p2), (6, iA t5), (7, iA t6), (30, tB t15)] ?_)
   exact hj27 t15 w16 h (h18.pk [0])
  ·refine AnyE.fix 19 false hc11 (by kernel_rfl) (by kernel_rfl) (AnyE.no 4 20 (by kernel_rfl) hS9 (AnyE.no 5 21 (by kernel_rfl) hS9 (AnyE.no 6 22 (by kernel_rfl) hS9 (AnyE.no 7 23 (by kernel_rfl) hS9 (AnyE.no 8 24 (by kernel_rfl) hS9 (AnyE.no 9 25 (by kernel_rfl) hS9 (AnyE.no 10 26 (by kernel_rfl) hS9 (AnyE.no 11 27 (by kernel_rfl) hS9 (AnyE.no 12 28 (by kernel_rfl) hS9 (AnyE.no 13 29 (by kernel_rfl) hS9 (Wu 14 30 (tB false) hS9 ?_)))))))))))
   refine AnyE.done (by kernel_rfl) (fun w19 hu20 => ?_)
   have h21 := h8.call hu20
   refine Vl [(0, sV pA0 t4 pc0), (1, iA p1), (2, iA p2), (6, iA t5), (7, iA t6), (30, tB false)] (Vl [(0, sV pA0 t4 pc0), (1, iA p1), (2, iA p2), (6, iA t5), (7, iA t6), (30, tB false)] ?_)
   exact hj27 false w19 h (h21.pk [0])
def slices_insertionSortOrdered_uint16_125.l1 (K : Nat) (p0 : List Int) (p1 : Int) (p2 : Int) : Nat → (List Int) → Int → Option (List Int)
 | 0, _, _ => none
 | k + 1, t1, t2 => cond (decide (t2 < p2)) ((slices_insertionSortOrdered_uint16_125.l0 K p0 p1 p2 t2 K t1 t2).bind (fun t118 => slices_insertionSortOrdered_uint16_125.l1 K p0 p1 p2 k t118 (IntKind.wrap .i64 (t2 + 1)))) (some t1)
theorem slices_insertionSortOrdered_uint16_125.l1_ok (K : Nat) (M0 : Nat → Prop) (w0 : World) (pA0 : Option Addr) (pc0 : Nat) (p0 : List Int) (p1 : Int) (p2 : Int) (R : Ending → World → Prop) (x : (List Int)) (hk0 : ∀ (t121 : List Int) (w1 : World), x = t121 → Holds M0 w0 w1 [own rC 23 (sV pA0 t121 pc0) t121] → RunsI F125 [] [] w1 R) :
  ∀ (k : Nat) (t1 : List Int) (t2 : Int) (w : World), slices_insertionSortOrdered_uint16_125.l1 K p0 p1 p2 k t1 t2 = some x → Holds M0 w0 w [own rC 23 (sV pA0 t1 pc0) t1] → RunsI F125 [.c 4, .lp 4, .blk 0] [(0, sV pA0 t1 pc0), (1, iA p1), (2, iA p2), (6, iA t2)] w R := by
 intro k
 induction k with
 | zero => intro t1 t2 w h hH; exact absurd h (by simp [slices_insertionSortOrdered_uint16_125.l1])
 | succ k ih =>
  intro t1 t2 w h hH
  rw [slices_insertionSortOrdered_uint16_125.l1.eq_2] at h
  refine Xg 1 [.c 5, .c 10, .lp 4, .blk 0] (Xd 1 6 [.c 7, .c 10, .lp 4, .blk 0] 3 [(0, sV pA0 t1 pc0), (1, iA p1), (2, iA p2), (6, iA t2), (12, tB (decide (t2 < p2)))] (Vc 12 8 9 h (fun hc3 h => ?_) fun hc3 h => ?_))
  ·refine Xg 1 [.c 10, .lp 4, .blk 0] (Xd 3 13 [.c 14, .blk 1, .c 26, .lp 4, .blk 0] 2 [(0, sV pA0 t1 pc0), (1, iA p1), (2, iA p2), (6, iA t2), (7, iA t2)] (Xg 2 [.c 16, .lp 16, .blk 2, .blk 1, .c 26, .lp 4, .blk 0] ?_))
   obtain ⟨x116, hx117, h⟩ := of_bind h
   refine Vl [(0, sV pA0 t1 pc0), (1, iA p1), (2, iA p2), (6, iA t2), (7, iA t2)] (slices_insertionSortOrdered_uint16_125.l0_ok K M0 w0 pA0 pc0 p0 p1 p2 t2 _ x116 ?_ K t1 t2 w hx117 (hH.pk [0]))
   ·intro t118 w120 hq127 h119
    (try rw [hq127] at h)
    refine Xr (Yd 3 [(0, sV pA0 t118 pc0), (1, iA p1), (2, iA p2), (6, iA (wA (t2 + 1)))] (Xg 1 [.c 4, .lp 4, .blk 0] (Vl [(0, sV pA0 t118 pc0), (1, iA p1), (2, iA p2), (6, iA (wA (t2 + 1)))] ?_)))
    exact ih t118 (wA (t2 + 1)) w120 h (h119.pk [0])
  ·refine Xg 1 [] (Vl [] ?_)
   exact hk0 t1 w (sI h).symm (hH.pk [0])
def slices_insertionSortOrdered_uint16_125.f (K : Nat) (p0 : List Int) (p1 : Int) (p2 : Int) : Option (List Int) := (slices_insertionSortOrdered_uint16_125.l1 K p0 p1 p2 K p0 (IntKind.wrap .i64 (p1 + 1))).bind (fun t124 => some t124)
theorem slices_insertionSortOrdered_uint16_125_ok (K : Nat) (M0 : Nat → Prop) (w0 : World) (pA0 : Option Addr) (pc0 : Nat) (p0 : List Int) (p1 : Int) (p2 : Int) {wS : World} (h0 : Holds M0 w0 wS [own rC 23 (sV pA0 p0 pc0) p0]) {r : List Int} (h : slices_insertionSortOrdered_uint16_125.f K p0 p1 p2 = some r) :
  Calls Tryz.prog 125 #[sV pA0 p0 pc0, iA p1, iA p2] wS (slices_insertionSortOrdered_uint16_125.post pA0 pc0 M0 w0 r) := by
 unfold slices_insertionSortOrdered_uint16_125.f at h
 refine calls_of F125 rfl [sV pA0 p0 pc0, iA p1, iA p2] (by kernel_rfl) (Xd 1 1 [.c 2] 3 [(0, sV pA0 p0 pc0), (1, iA p1), (2, iA p2), (6, iA (wA (p1 + 1)))] (Xg 2 [.c 4, .lp 4, .blk 0] ?_))
 obtain ⟨x122, hx123, h⟩ := of_bind h
 refine Vl [(0, sV pA0 p0 pc0), (1, iA p1), (2, iA p2), (6, iA (wA (p1 + 1)))] (slices_insertionSortOrdered_uint16_125.l1_ok K M0 w0 pA0 pc0 p0 p1 p2 _ x122 ?_ K p0 (wA (p1 + 1)) wS hx123 (h0.pk [0]))
 ·intro t124 w126 hq128 h125
  (try rw [hq128] at h)
  refine Xt (.tuple #[]) ?_
  obtain rfl := sI h
  exact ⟨rfl, h125⟩
end

section
def slices_siftDownOrdered_uint16_162.post (pA0 : Option Addr) (pc0 : Nat) (M0 : Nat → Prop) (w0 : World) (r : List Int) : Ending → World → Prop := fun e w => e = .returned (.tuple #[]) ∧ Holds M0 w0 w [own (Rp.int .u16) 23 (.slice pA0 r.length pc0) r]
def slices_siftDownOrdered_uint16_162.l0 (K : Nat) (p0 : List Int) (p1 : Int) (p2 : Int) (p3 : Int) : Nat → (List Int) → Int → Option (Lp (List Int) (List Int))
 | 0, _, _ => none
 | k + 1, t1, t2 => cond (decide ((IntKind.wrap .i64 ((IntKind.wrap .i64 (2 * t2)) + 1)) ≥ p2)) (some (Lp.go t1)) (Let (fun (t19 : Bool) => Let (fun (t26 : Int) => cond (inR (IntKind.wrap .i64 (p3 + t2)) t1.length) (cond (inR (IntKind.wrap .i64 (p3 + t26)) t1.length) ((cmp_Less_uint16_131.f K (rdD t1 (IntKind.wrap .i64 (p3 + t2))) (rdD t1 (IntKind.wrap .i64 (p3 + t26)))).bind fun t39 => cond (!t39) (some (Lp.ret t1)) (cond (inR (IntKind.wrap .i64 (p3 + t26)) (stD t1 (IntKind.wrap .i64 (p3 + t2)) (rdD t1 (IntKind.wrap .i64 (p3 + t26)))).length) (slices_siftDownOrdered_uint16_162.l0 K p0 p1 p2 p3 k (stD (stD t1 (IntKind.wrap .i64 (p3 + t2)) (rdD t1 (IntKind.wrap .i64 (p3 + t26)))) (IntKind.wrap .i64 (p3 + t26)) (rdD t1 (IntKind.wrap .i64 (p3 + t2)))) t26) none)) none) none) (fun j29 => cond t19 (j29 (IntKind.wrap .i64 ((IntKind.wrap .i64 ((IntKind.wrap .i64 (2 * t2)) + 1)) + 1))) (j29 (IntKind.wrap .i64 ((IntKind.wrap .i64 (2 * t2)) + 1))))) (fun j22 => cond (decide ((IntKind.wrap .i64 ((IntKind.wrap .i64 ((IntKind.wrap .i64 (2 * t2)) + 1)) + 1)) < p2)) (cond (inR (IntKind.wrap .i64 (p3 + (IntKind.wrap .i64 ((IntKind.wrap .i64 (2 * t2)) + 1)))) t1.length) (cond (inR (IntKind.wrap .i64 ((IntKind.wrap .i64 (p3 + (IntKind.wrap .i64 ((IntKind.wrap .i64 (2 * t2)) + 1)))) + 1)) t1.length) ((cmp_Less_uint16_131.f K (rdD t1 (IntKind.wrap .i64 (p3 + (IntKind.wrap .i64 ((IntKind.wrap .i64 (2 * t2)) + 1))))) (rdD t1 (IntKind.wrap .i64 ((IntKind.wrap .i64 (p3 + (IntKind.wrap .i64 ((IntKind.wrap .i64 (2 * t2)) + 1)))) + 1)))).bind fun t12 => j22 t12) none) none) (j22 false)))
theorem slices_siftDownOrdered_uint16_162.l0_ok (K : Nat) (M0 : Nat → Prop) (w0 : World) (pA0 : Option Addr) (pc0 : Nat) (p0 : List Int) (p1 : Int) (p2 : Int) (p3 : Int) (R : Ending → World → Prop) (x : Lp (List Int) (List Int)) (hk0 : ∀ (t128 : List Int) (w1 : World), x = Lp.go t128 → Holds M0 w0 w1 [own rC 23 (sV pA0 t128 pc0) t128] → RunsI F162 [] [] w1 R) (hk1 : ∀ (t129 : List Int) (w1 : World), x = Lp.ret t129 → Holds M0 w0 w1 [own rC 23 (sV pA0 t129 pc0) t129] → R (.returned (.tuple #[])) w1) :
  ∀ (k : Nat) (t1 : List Int) (t2 : Int) (w : World), slices_siftDownOrdered_uint16_162.l0 K p0 p1 p2 p3 k t1 t2 = some x → Holds M0 w0 w [own rC 23 (sV pA0 t1 pc0) t1] → RunsI F162 [.c 4, .lp 4, .blk 0] [(0, sV pA0 t1 pc0), (2, iA p2), (3, iA p3), (8, iA t2)] w R := by
 intro k
 induction k with
 | zero => intro t1 t2 w h hH; exact absurd h (by simp [slices_siftDownOrdered_uint16_162.l0])
 | succ k ih =>
  intro t1 t2 w h hH
  rw [slices_siftDownOrdered_uint16_162.l0.eq_2] at h
  refine Xg 1 [.c 5, .blk 1, .lp 4, .blk 0] (Xq 1 6 [.c 7, .blk 1, .lp 4, .blk 0] 4 [(0, sV pA0 t1 pc0), (2, iA p2), (3, iA p3), (8, iA t2), (9, iA (wA ((wA (2 * t2)) + 1)))] (Zy 2 9 [.c 10, .c 13, .blk 1, .lp 4, .blk 0] 3 [0, 2, 3, 8, 9, 16] [(16, tB (decide ((wA ((wA (2 * t2)) + 1)) ≥ p2)))] (Ye (Vc 16 11 12 h (fun hc3 h => ?_) fun hc3 h => ?_))))
  ·refine Xg 1 [] (Vl [] ?_)
   exact hk0 t1 w (sI h).symm (hH.pk [0])
  ·refine Xg 1 [.c 13, .blk 1, .lp 4, .blk 0] (Xg 2 [.c 15, .c 16, .c 19, .blk 1, .lp 4, .blk 0] (RunsI.any 20 (by kernel_rfl) (by kernel_rfl) (by kernel_rfl) (Kp ([] : List Nat) (World.drew w)) ?_))
   have h5 := hH.drew
   generalize World.drew w = w4 at h5 ⊢
   have hS6 := Kp.refl ([] : List Nat) w4
   refine Wu 0 17 (iA (wA ((wA (2 * t2)) + 1))) hS6 (Wu 1 18 (iA (wA ((wA ((wA (2 * t2)) + 1)) + 1))) hS6 (Wu 2 19 (iA p2) hS6 (Wu 3 20 (tB (decide ((wA ((wA ((wA (2 * t2)) + 1)) + 1)) < p2))) hS6 (Wu 4 21 (tB (decide ((wA ((wA ((wA (2 * t2)) + 1)) + 1)) < p2))) hS6 ?_))))
   obtain ⟨j22, hJ23, h⟩ := of_let h
   have hj24 : ∀ (t19 : Bool) (w21 : World), j22 t19 = some x → Holds M0 w0 w21 [own rC 23 (sV pA0 t1 pc0) t1] → RunsI F162 [.c 16, .c 19, .blk 1, .lp 4, .blk 0] [(0, sV pA0 t1 pc0), (2, iA p2), (3, iA p3), (8, iA t2), (9, iA (wA ((wA (2 * t2)) + 1))), (36, tB t19)] w21 R := by
    intro t19 w21 h h20
    rw [hJ23] at h
    clear hJ23
    dsimp only at h
    obtain ⟨j29, hJ30, h⟩ := of_let h
    have hj31 : ∀ (t26 : Int) (w28 : World), j29 t26 = some x → Holds M0 w0 w28 [own rC 23 (sV pA0 t1 pc0) t1] → RunsI F162 [.c 19, .blk 1, .lp 4, .blk 0] [(0, sV pA0 t1 pc0), (2, iA p2), (3, iA p3), (8, iA t2), (9, iA t26)] w28 R := by
     intro t26 w28 h h27
     rw [hJ30] at h
     clear hJ30
     dsimp only at h
     refine Xg 2 [.c 21, .c 22, .c 25, .blk 1, .lp 4, .blk 0] (RunsI.any 14 (by kernel_rfl) (by kernel_rfl) (by kernel_rfl) (Kp ([] : List Nat) (World.drew w28)) ?_)
     have h33 := h27.drew
     generalize World.drew w28 = w32 at h33 ⊢
     have hS34 := Kp.refl ([] : List Nat) w32
     refine Wu 0 39 (sV pA0 t1 pc0) hS34 (Wu 1 40 (iA p3) hS34 (Wu 2 41 (iA t2) hS34 (Wu 3 42 (iA (wA (p3 + t2))) hS34 ?_)))
     have ⟨hc36, h⟩ := oz h
     refine AnyE.idxOwnA 4 43 0 29 23 (wA (p3 + t2)) h33 (by kernel_rfl) hS34 rfl (by kernel_rfl) (by kernel_rfl) hc36 (AnyE.loadOwnA 5 44 0 23 23 (wA (p3 + t2)) 0 (iC (rdD t1 (wA (p3 + t2)))) [] (o := (Int.toNat (wA (p3 + t2))) * 1 + 0) h33 rfl (by kernel_rfl) hS34 rfl rfl (by kernel_rfl) rfl hc36 (fun _ _ hk => by obtain rfl := hk; kernel_rfl) (Wu 6 45 (sV pA0 t1 pc0) hS34 (Wu 7 46 (iA p3) hS34 (Wu 8 47 (iA t26) hS34 (Wu 9 48 (iA (wA (p3 + t26))) hS34 ?_)))))
     have ⟨hc37, h⟩ := oz h
     refine AnyE.idxOwnA 10 49 0 29 23 (wA (p3 + t26)) h33 (by kernel_rfl) hS34 rfl (by kernel_rfl) (by kernel_rfl) hc37 (AnyE.loadOwnA 11 50 0 23 23 (wA (p3 + t26)) 0 (iC (rdD t1 (wA (p3 + t26)))) [] (o := (Int.toNat (wA (p3 + t26))) * 1 + 0) h33 rfl (by kernel_rfl) hS34 rfl rfl (by kernel_rfl) rfl hc37 (fun _ _ hk => by obtain rfl := hk; kernel_rfl) ?_)
     obtain ⟨t39, hg38, h⟩ := of_bind h
     refine Wc 12 51 (tB t39) 131 #[iC (rdD t1 (wA (p3 + t2))), iC (rdD t1 (wA (p3 + t26)))] hS34 (fun w hk => cmp_Less_uint16_131_ok K (fun _ => False) w (rdD t1 (wA (p3 + t2))) (rdD t1 (wA (p3 + t26))) nF hg38) (Wu 13 52 (tB (!t39)) hS34 (AnyE.done (by kernel_rfl) (fun w40 hu41 => ?_)))
     have h42 := h33.call hu41
     refine Vl [(0, sV pA0 t1 pc0), (2, iA p2), (3, iA p3), (8, iA t2), (9, iA t26), (52, tB (!t39))] (Vc 52 23 24 h (fun hc43 h => ?_) fun hc43 h => ?_)
     ·refine Xt (.tuple #[]) ?_
      exact hk1 t1 w40 (sI h).symm (h42.pk [0])
     ·refine Xg 1 [.c 25, .blk 1, .lp 4, .blk 0] (Xg 1 [.c 26, .c 27, .blk 1, .lp 4, .blk 0] (RunsI.any 24 (by kernel_rfl) (by kernel_rfl) (by kernel_rfl) (Kp (mines (pick [own rC 23 (sV pA0 t1 pc0) t1] [0])) (World.drew w40)) ?_))
      have h45 := h42.drew
      generalize World.drew w40 = w44 at h45 ⊢
      have hS46 := Kp.refl (mines (pick [own rC 23 (sV pA0 t1 pc0) t1] [0])) w44
      refine Wu 0 53 (sV pA0 t1 pc0) hS46 (Wu 1 54 (iA p3) hS46 (Wu 2 55 (iA t2) hS46 (Wu 3 56 (iA (wA (p3 + t2))) hS46 (Wu 4 57 (sV pA0 t1 pc0) hS46 (Wu 5 58 (iA p3) hS46 (Wu 6 59 (iA t26) hS46 (Wu 7 60 (iA (wA (p3 + t26))) hS46 (Wu 8 61 (sV pA0 t1 pc0) hS46 (Wu 9 62 (iA p3) hS46 (Wu 10 63 (iA t26) hS46 (Wu 11 64 (iA (wA (p3 + t26))) hS46 ?_)))))))))))
      refine AnyE.idxOwnA 12 65 0 29 23 (wA (p3 + t26)) h45 (by kernel_rfl) hS46 rfl (by kernel_rfl) (by kernel_rfl) hc37 (Wu 14 67 (sV pA0 t1 pc0) hS46 (Wu 15 68 (iA p3) hS46 (Wu 16 69 (iA t2) hS46 (Wu 17 70 (iA (wA (p3 + t2))) hS46 (AnyE.idxOwnA 18 71 0 29 23 (wA (p3 + t2)) h45 (by kernel_rfl) hS46 rfl (by kernel_rfl) (by kernel_rfl) hc36 (AnyE.two 13 19 (by kernel_rfl) ?_ ?_))))))
      ·intro w48 hu49
       have h50 := h45.call hu49
       have hS51 := hS46.up hu49
       refine OpE.loadOwnA 66 0 23 23 (wA (p3 + t26)) 0 (o := (Int.toNat (wA (p3 + t26))) * 1 + 0) h50 (by kernel_rfl) rfl (by kernel_rfl) (by kernel_rfl) hc37 (fun cs52 hk53 => ?_)
       obtain rfl := hk53
       refine ⟨iC (rdD t1 (wA (p3 + t26))), by kernel_rfl, ?_⟩
       refine ⟨hS51, ?_⟩
       refine AnyE.one 19 (by kernel_rfl) (fun w55 hu56 => ?_)
       have h57 := h50.call hu56
       have hS58 := hS51.up hu56
       refine OpE.loadOwnA 72 0 23 23 (wA (p3 + t2)) 0 (o := (Int.toNat (wA (p3 + t2))) * 1 + 0) h57 (by kernel_rfl) rfl (by kernel_rfl) (by kernel_rfl) hc36 (fun cs59 hk60 => ?_)
       obtain rfl := hk60
       refine ⟨iC (rdD t1 (wA (p3 + t2))), by kernel_rfl, ?_⟩
       refine ⟨hS58, ?_⟩
       refine AnyE.idxOwnA 20 73 0 29 23 (wA (p3 + t2)) h45 (by kernel_rfl) hS58 rfl (by kernel_rfl) (by kernel_rfl) hc36 (AnyE.one 21 (by kernel_rfl) (fun w62 hu63 => ?_))
       have h64 := h57.call hu63
       have hS65 := hS58.up hu63
       refine OpE.storeOwnA 0 23 23 (wA (p3 + t2)) 0 (iC (rdD t1 (wA (p3 + t26)))) (o := (Int.toNat (wA (p3 + t2))) * 1 + 0) (rdD t1 (wA (p3 + t26))) h64 (by kernel_rfl) (by kernel_rfl) rfl (by kernel_rfl) (by kernel_rfl) (by kernel_rfl) hc36 (fun _ hk => by obtain rfl := hk; exact rfl) ?_
       intro w66 h67 hk68
       have hS69 := hS65.trans hk68 (Kp.turned h45 [0] rfl 0 rfl rfl)
       refine ⟨hS69, ?_⟩
       refine AnyE.one 22 (by kernel_rfl) (fun w70 hu71 => ?_)
       have h72 := h67.call hu71
       have hS73 := hS69.up hu71
       have ⟨hc74, h⟩ := oz h
       refine OpE.idxOwnA 74 0 29 23 (wA (p3 + t26)) h72 (by kernel_rfl) rfl (by kernel_rfl) (by kernel_rfl) hc74 (⟨hS73, ?_⟩)
       refine AnyE.last 23 (by kernel_rfl) (by kernel_rfl) (fun w76 hu77 => ?_)
       have h78 := h72.call hu77
       have hS79 := hS73.up hu77
       refine OpE.storeOwnA 0 23 23 (wA (p3 + t26)) 0 (iC (rdD t1 (wA (p3 + t2)))) (o := (Int.toNat (wA (p3 + t26))) * 1 + 0) (rdD t1 (wA (p3 + t2))) h78 (by kernel_rfl) (by kernel_rfl) rfl (by kernel_rfl) (by kernel_rfl) (by kernel_rfl) hc74 (fun _ hk => by obtain rfl := hk; exact rfl) ?_
       intro w80 h81 hk82
       refine AnyE.done (by kernel_rfl) (fun w84 hu85 => ?_)
       have h86 := h81.call hu85
       refine Vl [(0, sV pA0 t1 pc0), (2, iA p2), (3, iA p3), (9, iA t26)] (Xr (Zd 2 [0, 2, 3, 8] [(8, iA t26)] (Xg 2 [.c 4, .lp 4, .blk 0] (Vl [(0, sV pA0 t1 pc0), (2, iA p2), (3, iA p3), (8, iA t26)] ?_))))
       have h126 : Holds M0 w0 w84 [own rC 23 (sV pA0 (sD t1 (wA (p3 + t2)) (wA (p3 + t26))) pc0) (sD t1 (wA (p3 + t2)) (wA (p3 + t26)))] := by have hY : Holds M0 w0 w84 [own rC 23 (sV pA0 t1 pc0) (sD t1 (wA (p3 + t2)) (wA (p3 + t26)))] := h86; simpa only [sV, sD, stD_length] using hY
       refine RunsI.is [(0, sV pA0 (sD t1 (wA (p3 + t2)) (wA (p3 + t26))) pc0), (2, iA p2), (3, iA p3), (8, iA t26)] (by simp only [sV, sD, stD_length]) (Vl [(0, sV pA0 (sD t1 (wA (p3 + t2)) (wA (p3 + t26))) pc0), (2, iA p2), (3, iA p3), (8, iA t26)] ?_)
       exact ih (sD t1 (wA (p3 + t2)) (wA (p3 + t26))) t26 w84 h (h126.pk [0])
      ·intro w87 hu88
       have h89 := h45.call hu88
       have hS90 := hS46.up hu88
       refine OpE.loadOwnA 72 0 23 23 (wA (p3 + t2)) 0 (o := (Int.toNat (wA (p3 + t2))) * 1 + 0) h89 (by kernel_rfl) rfl (by kernel_rfl) (by kernel_rfl) hc36 (fun cs91 hk92 => ?_)
       obtain rfl := hk92
       refine ⟨iC (rdD t1 (wA (p3 + t2))), by kernel_rfl, ?_⟩
       refine ⟨hS90, ?_⟩
       refine AnyE.one 13 (by kernel_rfl) (fun w94 hu95 => ?_)
       have h96 := h89.call hu95
       have hS97 := hS90.up hu95
       refine OpE.loadOwnA 66 0 23 23 (wA (p3 + t26)) 0 (o := (Int.toNat (wA (p3 + t26))) * 1 + 0) h96 (by kernel_rfl) rfl (by kernel_rfl) (by kernel_rfl) hc37 (fun cs98 hk99 => ?_)
       obtain rfl := hk99
       refine ⟨iC (rdD t1 (wA (p3 + t26))), by kernel_rfl, ?_⟩
       refine ⟨hS97, ?_⟩
       refine AnyE.idxOwnA 20 73 0 29 23 (wA (p3 + t2)) h45 (by kernel_rfl) hS97 rfl (by kernel_rfl) (by kernel_rfl) hc36 (AnyE.one 21 (by kernel_rfl) (fun w101 hu102 => ?_))
       have h103 := h96.call hu102
       have hS104 := hS97.up hu102
       refine OpE.storeOwnA 0 23 23 (wA (p3 + t2)) 0 (iC (rdD t1 (wA (p3 + t26)))) (o := (Int.toNat (wA (p3 + t2))) * 1 + 0) (rdD t1 (wA (p3 + t26))) h103 (by kernel_rfl) (by kernel_rfl) rfl (by kernel_rfl) (by kernel_rfl) (by kernel_rfl) hc36 (fun _ hk => by obtain rfl := hk; exact rfl) ?_
       intro w105 h106 hk107
       have hS108 := hS104.trans hk107 (Kp.turned h45 [0] rfl 0 rfl rfl)
       refine ⟨hS108, ?_⟩
       refine AnyE.one 22 (by kernel_rfl) (fun w109 hu110 => ?_)
       have h111 := h106.call hu110
       have hS112 := hS108.up hu110
       have ⟨hc113, h⟩ := oz h
       refine OpE.idxOwnA 74 0 29 23 (wA (p3 + t26)) h111 (by kernel_rfl) rfl (by kernel_rfl) (by kernel_rfl) hc113 (⟨hS112, ?_⟩)
       refine AnyE.last 23 (by kernel_rfl) (by kernel_rfl) (fun w115 hu116 => ?_)
       have h117 := h111.call hu116
       have hS118 := hS112.up hu116
       refine OpE.storeOwnA 0 23 23 (wA (p3 + t26)) 0 (iC (rdD t1 (wA (p3 + t2)))) (o := (Int.toNat (wA (p3 + t26))) * 1 + 0) (rdD t1 (wA (p3 + t2))) h117 (by kernel_rfl) (by kernel_rfl) rfl (by kernel_rfl) (by kernel_rfl) (by kernel_rfl) hc113 (fun _ hk => by obtain rfl := hk; exact rfl) ?_
       intro w119 h120 hk121
       refine AnyE.done (by kernel_rfl) (fun w123 hu124 => ?_)
       have h125 := h120.call hu124
       refine Vl [(0, sV pA0 t1 pc0), (2, iA p2), (3, iA p3), (9, iA t26)] (Xr (Zd 2 [0, 2, 3, 8] [(8, iA t26)] (Xg 2 [.c 4, .lp 4, .blk 0] (Vl [(0, sV pA0 t1 pc0), (2, iA p2), (3, iA p3), (8, iA t26)] ?_))))
       have h127 : Holds M0 w0 w123 [own rC 23 (sV pA0 (sD t1 (wA (p3 + t2)) (wA (p3 + t26))) pc0) (sD t1 (wA (p3 + t2)) (wA (p3 + t26)))] := by have hY : Holds M0 w0 w123 [own rC 23 (sV pA0 t1 pc0) (sD t1 (wA (p3 + t2)) (wA (p3 + t26)))] := h125; simpa only [sV, sD, stD_length] using hY
       refine RunsI.is [(0, sV pA0 (sD t1 (wA (p3 + t2)) (wA (p3 + t26))) pc0), (2, iA p2), (3, iA p3), (8, iA t26)] (by simp only [sV, sD, stD_length]) (Vl [(0, sV pA0 (sD t1 (wA (p3 + t2)) (wA (p3 + t26))) pc0), (2, iA p2), (3, iA p3), (8, iA t26)] ?_)
       exact ih (sD t1 (wA (p3 + t2)) (wA (p3 + t26))) t26 w123 h (h127.pk [0])
    clear hJ30
    refine Vc 36 17 18 h (fun hc25 h => ?_) fun hc25 h => ?_
    ·refine Xr (Yd 3 [(0, sV pA0 t1 pc0), (2, iA p2), (3, iA p3), (8, iA t2), (9, iA (wA ((wA ((wA (2 * t2)) + 1)) + 1)))] (Vl [(0, sV pA0 t1 pc0), (2, iA p2), (3, iA p3), (8, iA t2), (9, iA (wA ((wA ((wA (2 * t2)) + 1)) + 1)))] ?_))
     exact hj31 (wA ((wA ((wA (2 * t2)) + 1)) + 1)) w21 h (h20.pk [0])
    ·refine Xg 1 [.c 19, .blk 1, .lp 4, .blk 0] (Vl [(0, sV pA0 t1 pc0), (2, iA p2), (3, iA p3), (8, iA t2), (9, iA (wA ((wA (2 * t2)) + 1)))] ?_)
     exact hj31 (wA ((wA (2 * t2)) + 1)) w21 h (h20.pk [0])
   clear hJ23
   rcases oc h with ⟨hc8, h⟩ | ⟨hc8, h⟩
   ·refine AnyE.fix 21 true hc8 (by kernel_rfl) (by kernel_rfl) (Wu 5 22 (sV pA0 t1 pc0) hS6 (Wu 6 23 (iA p3) hS6 (Wu 7 24 (iA (wA ((wA (2 * t2)) + 1))) hS6 (Wu 8 25 (iA (wA (p3 + (wA ((wA (2 * t2)) + 1))))) hS6 ?_))))
    have ⟨hc9, h⟩ := oz h
    refine AnyE.idxOwnA 9 26 0 29 23 (wA (p3 + (wA ((wA (2 * t2)) + 1)))) h5 (by kernel_rfl) hS6 rfl (by kernel_rfl) (by kernel_rfl) hc9 (AnyE.loadOwnA 10 27 0 23 23 (wA (p3 + (wA ((wA (2 * t2)) + 1)))) 0 (iC (rdD t1 (wA (p3 + (wA ((wA (2 * t2)) + 1)))))) [] (o := (Int.toNat (wA (p3 + (wA ((wA (2 * t2)) + 1))))) * 1 + 0) h5 rfl (by kernel_rfl) hS6 rfl rfl (by kernel_rfl) rfl hc9 (fun _ _ hk => by obtain rfl := hk; kernel_rfl) (Wu 11 28 (sV pA0 t1 pc0) hS6 (Wu 12 29 (iA p3) hS6 (Wu 13 30 (iA (wA ((wA (2 * t2)) + 1))) hS6 (Wu 14 31 (iA (wA (p3 + (wA ((wA (2 * t2)) + 1))))) hS6 (Wu 15 32 (iA (wA ((wA (p3 + (wA ((wA (2 * t2)) + 1)))) + 1))) hS6 ?_))))))
    have ⟨hc10, h⟩ := oz h
    refine AnyE.idxOwnA 16 33 0 29 23 (wA ((wA (p3 + (wA ((wA (2 * t2)) + 1)))) + 1)) h5 (by kernel_rfl) hS6 rfl (by kernel_rfl) (by kernel_rfl) hc10 (AnyE.loadOwnA 17 34 0 23 23 (wA ((wA (p3 + (wA ((wA (2 * t2)) + 1)))) + 1)) 0 (iC (rdD t1 (wA ((wA (p3 + (wA ((wA (2 * t2)) + 1)))) + 1)))) [] (o := (Int.toNat (wA ((wA (p3 + (wA ((wA (2 * t2)) + 1)))) + 1))) * 1 + 0) h5 rfl (by kernel_rfl) hS6 rfl rfl (by kernel_rfl) rfl hc10 (fun _ _ hk => by obtain rfl := hk; kernel_rfl) ?_)
    obtain ⟨t12, hg11, h⟩ := of_bind h
    refine Wc 18 35 (tB t12) 131 #[iC (rdD t1 (wA (p3 + (wA ((wA (2 * t2)) + 1))))), iC (rdD t1 (wA ((wA (p3 + (wA ((wA (2 * t2)) + 1)))) + 1)))] hS6 (fun w hk => cmp_Less_uint16_131_ok K (fun _ => False) w (rdD t1 (wA (p3 + (wA ((wA (2 * t2)) + 1))))) (rdD t1 (wA ((wA (p3 + (wA ((wA (2 * t2)) + 1)))) + 1))) nF hg11) (Wu 19 36 (tB t12) hS6 (AnyE.done (by kernel_rfl) (fun w13 hu14 => ?_)))
    have h15 := h5.call hu14
    refine Vl [(0, sV pA0 t1 pc0), (2, iA p2), (3, iA p3), (8, iA t2), (9, iA (wA ((wA (2 * t2)) + 1))), (36, tB t12)] (Vl [(0, sV pA0 t1 pc0), (2, iA p2), (3, iA p3), (8, iA t2), (9, iA (wA ((wA (2 * t2)) + 1))), (36, tB t12)] ?_)
    exact hj24 t12 w13 h (h15.pk [0])
   ·refine AnyE.fix 21 false hc8 (by kernel_rfl) (by kernel_rfl) (AnyE.no 5 22 (by kernel_rfl) hS6 (AnyE.no 6 23 (by kernel_rfl) hS6 (AnyE.no 7 24 (by kernel_rfl) hS6 (AnyE.no 8 25 (by kernel_rfl) hS6 (AnyE.no 9 26 (by kernel_rfl) hS6 (AnyE.no 10 27 (by kernel_rfl) hS6 (AnyE.no 11 28 (by kernel_rfl) hS6 (AnyE.no 12 29 (by kernel_rfl) hS6 (AnyE.no 13 30 (by kernel_rfl) hS6 (AnyE.no 14 31 (by kernel_rfl) hS6 (AnyE.no 15 32 (by kernel_rfl) hS6 ?_)))))))))))
    refine AnyE.no 16 33 (by kernel_rfl) hS6 (AnyE.no 17 34 (by kernel_rfl) hS6 (AnyE.no 18 35 (by kernel_rfl) hS6 (Wu 19 36 (tB false) hS6 (AnyE.done (by kernel_rfl) (fun w16 hu17 => ?_)))))
    have h18 := h5.call hu17
    refine Vl [(0, sV pA0 t1 pc0), (2, iA p2), (3, iA p3), (8, iA t2), (9, iA (wA ((wA (2 * t2)) + 1))), (36, tB false)] (Vl [(0, sV pA0 t1 pc0), (2, iA p2), (3, iA p3), (8, iA t2), (9, iA (wA ((wA (2 * t2)) + 1))), (36, tB false)] ?_)
    exact hj24 false w16 h (h18.pk [0])
def slices_siftDownOrdered_uint16_162.f (K : Nat) (p0 : List Int) (p1 : Int) (p2 : Int) (p3 : Int) : Option (List Int) := (slices_siftDownOrdered_uint16_162.l0 K p0 p1 p2 p3 K p0 p1).bind (fun x130 => Lp.elim x130 (fun t135 => some t135) (fun t132 => some t132))
theorem slices_siftDownOrdered_uint16_162_ok (K : Nat) (M0 : Nat → Prop) (w0 : World) (pA0 : Option Addr) (pc0 : Nat) (p0 : List Int) (p1 : Int) (p2 : Int) (p3 : Int) {wS : World} (h0 : Holds M0 w0 wS [own rC 23 (sV pA0 p0 pc0) p0]) {r : List Int} (h : slices_siftDownOrdered_uint16_162.f K p0 p1 p2 p3 = some r) :
  Calls Tryz.prog 162 #[sV pA0 p0 pc0, iA p1, iA p2, iA p3] wS (slices_siftDownOrdered_uint16_162.post pA0 pc0 M0 w0 r) := by
 unfold slices_siftDownOrdered_uint16_162.f at h
 refine calls_of F162 rfl [sV pA0 p0 pc0, iA p1, iA p2, iA p3] (by kernel_rfl) (Xd 1 1 [.c 2] 2 [(0, sV pA0 p0 pc0), (2, iA p2), (3, iA p3), (8, iA p1)] (Xg 2 [.c 4, .lp 4, .blk 0] ?_))
 obtain ⟨x130, hx131, h⟩ := of_bind h
 refine Vl [(0, sV pA0 p0 pc0), (2, iA p2), (3, iA p3), (8, iA p1)] (slices_siftDownOrdered_uint16_162.l0_ok K M0 w0 pA0 pc0 p0 p1 p2 p3 _ x130 ?_ ?_ K p0 p1 wS hx131 (h0.pk [0]))
 ·intro t132 w134 hq138 h133
  (try rw [hq138] at h)
  dsimp only [Lp.elim] at h
  refine Xt (.tuple #[]) ?_
  obtain rfl := sI h
  exact ⟨rfl, h133⟩
 ·intro t135 w137 hq139 h136
  (try rw [hq139] at h)
  dsimp only [Lp.elim] at h
  obtain rfl := sI h
  exact ⟨rfl, h136⟩
end
end Go.Proofs.YtbcepghanbkncaaGreatDoor.LiT
