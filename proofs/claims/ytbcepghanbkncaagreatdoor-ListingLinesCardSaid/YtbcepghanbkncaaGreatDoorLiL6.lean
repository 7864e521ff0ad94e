/- Functions of the program as plain Lean functions, each with the proof that the call comes to it; written by wip/eng.py. -/
import Derived.Test.YtbcepghanbkncaaGreatDoorEngShort2
import Derived.Test.YtbcepghanbkncaaGreatDoorLiL5
set_option linter.unusedVariables false
set_option linter.unusedSimpArgs false
set_option maxHeartbeats 4000000
namespace Go.Proofs.YtbcepghanbkncaaGreatDoor.LiL
open Go.RowKit Go.Eng
set_option maxRecDepth 100000
abbrev sf0 : ByteArray := ⟨#[48, 49, 50, 51, 52, 53, 54, 55, 56, 57, 97, 98, 99, 100, 101, 102]⟩
abbrev sf1 : ByteArray := ⟨#[104]⟩
abbrev sf2 : ByteArray := ⟨#[98]⟩
abbrev sf3 : ByteArray := ⟨#[99]⟩
abbrev sf4 : ByteArray := ⟨#[100]⟩
abbrev sf5 : ByteArray := ⟨#[101]⟩
abbrev sf6 : ByteArray := ⟨#[108]⟩
abbrev sf7 : ByteArray := ⟨#[40, 104, 108, 41]⟩
abbrev sf8 : ByteArray := ⟨#[97]⟩
abbrev sf9 : ByteArray := ⟨#[98, 99]⟩
abbrev sf10 : ByteArray := ⟨#[100, 101]⟩
abbrev sf11 : ByteArray := ⟨#[104, 108]⟩
abbrev sf12 : ByteArray := ⟨#[44]⟩
abbrev sf13 : ByteArray := ⟨#[98, 105, 116, 32]⟩
abbrev sf14 : ByteArray := ⟨#[114, 101, 115, 32]⟩
abbrev sf15 : ByteArray := ⟨#[115, 101, 116, 32]⟩
abbrev sf16 : ByteArray := ⟨#[45]⟩
abbrev sf17 : ByteArray := ⟨#[40]⟩
abbrev sf18 : ByteArray := ⟨#[32]⟩
abbrev sf19 : ByteArray := ⟨#[114, 108, 99]⟩
abbrev sf20 : ByteArray := ⟨#[114, 114, 99]⟩
abbrev sf21 : ByteArray := ⟨#[114, 108]⟩
abbrev sf22 : ByteArray := ⟨#[114, 114]⟩
abbrev sf23 : ByteArray := ⟨#[115, 108, 97]⟩
abbrev sf24 : ByteArray := ⟨#[115, 114, 97]⟩
abbrev sf25 : ByteArray := ⟨#[115, 108, 108]⟩
abbrev sf26 : ByteArray := ⟨#[115, 114, 108]⟩
abbrev sf27 : ByteArray := ⟨#[45, 56, 48, 48, 48, 48, 48, 48, 48, 48, 48, 48, 48, 48, 48, 48, 48, 104]⟩
section
abbrev charabancref08_one_136.post := pB
def charabancref08_one_136.f (K : Nat) (p0 : Int) (p1 : Int) (p2 : Int) : Option Bool := cond (p0 == 0) (cond (p2 == 6) (some true) (cond (p2 == 0) (some (decide (p1 ≥ 2))) (some false))) (cond (p0 == 3) (cond (p2 == 6) (some true) (cond (p2 == 3) (cond (p1 == 2) (some true) (some (p1 == 3))) (some false))) (some false))
theorem charabancref08_one_136_ok (K : Nat) (M0 : Nat → Prop) (w0 : World) (p0 : Int) (p1 : Int) (p2 : Int) (ho : ∀ b, M0 b → b < w0.heap.size) {r : Bool} (h : charabancref08_one_136.f K p0 p1 p2 = some r) :
  Calls Tryz.prog 136 #[iA p0, iA p1, iA p2] w0 (charabancref08_one_136.post M0 w0 r) := by
 unfold charabancref08_one_136.f at h
 have h0 : Holds M0 w0 w0 [] := Holds.start ho
 refine calls_of F136 rfl [iA p0, iA p1, iA p2] (by kernel_rfl) (Xq 1 1 [.c 2] 1 [(0, iA p0), (1, iA p1), (2, iA p2)] (Zy 2 4 [.c 5, .c 10] 2 [0, 1, 2, 8] [(8, tB (p0 == 0))] (Ye (Vc 8 6 9 h (fun hc1 h => ?_) fun hc1 h => ?_))))
 ·refine Xq 1 7 [.c 8, .c 10] 3 [(1, iA p1), (2, iA p2), (11, tB (p2 == 6))] ?_
  rcases oc h with ⟨hc2, h⟩ | ⟨hc2, h⟩
  ·refine Yf 11 true hc2 (Yd 8 [(6, tB true)] ?_)
   obtain rfl := sI h
   exact Xt (tB true) ⟨rfl, h0.below⟩
  ·refine Yf 11 false hc2 (Zp 3 [1, 11, 14] [(14, tB (p2 == 0))] ?_)
   rcases oc h with ⟨hc3, h⟩ | ⟨hc3, h⟩
   ·refine Yf 14 true hc3 (Yd 5 [(6, tB (decide (p1 ≥ 2)))] ?_)
    obtain rfl := sI h
    exact Xt (tB (decide (p1 ≥ 2))) ⟨rfl, h0.below⟩
   ·refine Yf 14 false hc3 (Yd 5 [(6, tB false)] ?_)
    obtain rfl := sI h
    exact Xt (tB false) ⟨rfl, h0.below⟩
 ·refine Xg 1 [.c 10] (Xq 1 11 [.c 12] 3 [(1, iA p1), (2, iA p2), (21, tB (p0 == 3))] ?_)
  rcases oc h with ⟨hc4, h⟩ | ⟨hc4, h⟩
  ·refine Yf 21 true hc4 (Zp 3 [1, 2, 21, 24] [(24, tB (p2 == 6))] ?_)
   rcases oc h with ⟨hc5, h⟩ | ⟨hc5, h⟩
   ·refine Yf 24 true hc5 (Yd 13 [(6, tB true)] ?_)
    obtain rfl := sI h
    exact Xt (tB true) ⟨rfl, h0.below⟩
   ·refine Yf 24 false hc5 (Zp 3 [1, 21, 24, 27] [(27, tB (p2 == 3))] ?_)
    rcases oc h with ⟨hc6, h⟩ | ⟨hc6, h⟩
    ·refine Yf 27 true hc6 (Zp 3 [1, 21, 24, 27, 30] [(30, tB (p1 == 2))] ?_)
     rcases oc h with ⟨hc7, h⟩ | ⟨hc7, h⟩
     ·refine Yf 30 true hc7 (Yd 7 [(6, tB true)] ?_)
      obtain rfl := sI h
      exact Xt (tB true) ⟨rfl, h0.below⟩
     ·refine Yf 30 false hc7 (Yd 7 [(6, tB (p1 == 3))] ?_)
      obtain rfl := sI h
      exact Xt (tB (p1 == 3)) ⟨rfl, h0.below⟩
    ·refine Yf 27 false hc6 (Yd 10 [(6, tB false)] ?_)
     obtain rfl := sI h
     exact Xt (tB false) ⟨rfl, h0.below⟩
  ·refine Yf 21 false hc4 (Yd 16 [(6, tB false)] ?_)
   obtain rfl := sI h
   exact Xt (tB false) ⟨rfl, h0.below⟩
end

section
abbrev charabancref08_two_137.post := pB
def charabancref08_two_137.f (K : Nat) (p0 : Int) (p1 : Int) (p2 : Int) (p3 : Int) (p4 : Int) : Option Bool := cond (p0 == 0) (cond (p2 == 1) (cond (p4 == 0) (some true) (cond (p2 == 2) (some (decide (p1 ≥ 4))) (some false))) (cond (p2 == 2) (some (decide (p1 ≥ 4))) (some false))) (cond (p0 == 3) (cond (p2 == 2) (some true) (cond (p2 == 3) (cond (p1 == 0) (some true) (cond (p2 == 4) (some true) (cond (p2 == 5) (cond (p4 == 1) (some (p3 == 0)) (some false)) (some false)))) (cond (p2 == 4) (some true) (cond (p2 == 5) (cond (p4 == 1) (some (p3 == 0)) (some false)) (some false))))) (some false))
theorem charabancref08_two_137_ok (K : Nat) (M0 : Nat → Prop) (w0 : World) (p0 : Int) (p1 : Int) (p2 : Int) (p3 : Int) (p4 : Int) (ho : ∀ b, M0 b → b < w0.heap.size) {r : Bool} (h : charabancref08_two_137.f K p0 p1 p2 p3 p4 = some r) :
  Calls Tryz.prog 137 #[iA p0, iA p1, iA p2, iA p3, iA p4] w0 (charabancref08_two_137.post M0 w0 r) := by
 unfold charabancref08_two_137.f at h
 have h0 : Holds M0 w0 w0 [] := Holds.start ho
 refine calls_of F137 rfl [iA p0, iA p1, iA p2, iA p3, iA p4] (by kernel_rfl) (Xq 1 1 [.c 2] 1 [(0, iA p0), (1, iA p1), (2, iA p2), (3, iA p3), (4, iA p4)] (Zy 2 4 [.c 5, .c 10] 2 [0, 1, 2, 3, 4, 12] [(12, tB (p0 == 0))] (Ye (Vc 12 6 9 h (fun hc1 h => ?_) fun hc1 h => ?_))))
 ·refine Xq 1 7 [.c 8, .c 10] 3 [(1, iA p1), (2, iA p2), (4, iA p4), (15, tB (p2 == 1))] ?_
  rcases oc h with ⟨hc2, h⟩ | ⟨hc2, h⟩
  ·refine Yf 15 true hc2 (Zp 4 [1, 2, 19] [(19, tB (p4 == 0))] ?_)
   rcases oc h with ⟨hc3, h⟩ | ⟨hc3, h⟩
   ·refine Yf 19 true hc3 (Yd 8 [(10, tB true)] ?_)
    obtain rfl := sI h
    exact Xt (tB true) ⟨rfl, h0.below⟩
   ·refine Yf 19 false hc3 (Zp 3 [1, 19, 22] [(22, tB (p2 == 2))] ?_)
    rcases oc h with ⟨hc4, h⟩ | ⟨hc4, h⟩
    ·refine Yf 22 true hc4 (Yd 5 [(10, tB (decide (p1 ≥ 4)))] ?_)
     obtain rfl := sI h
     exact Xt (tB (decide (p1 ≥ 4))) ⟨rfl, h0.below⟩
    ·refine Yf 22 false hc4 (Yd 5 [(10, tB false)] ?_)
     obtain rfl := sI h
     exact Xt (tB false) ⟨rfl, h0.below⟩
  ·refine Yf 15 false hc2 (Yp 7 [(1, iA p1), (19, tB false), (22, tB (p2 == 2))] ?_)
   rcases oc h with ⟨hc5, h⟩ | ⟨hc5, h⟩
   ·refine Yf 22 true hc5 (Yd 5 [(10, tB (decide (p1 ≥ 4)))] ?_)
    obtain rfl := sI h
    exact Xt (tB (decide (p1 ≥ 4))) ⟨rfl, h0.below⟩
   ·refine Yf 22 false hc5 (Yd 5 [(10, tB false)] ?_)
    obtain rfl := sI h
    exact Xt (tB false) ⟨rfl, h0.below⟩
 ·refine Xg 1 [.c 10] (Xq 1 11 [.c 12] 3 [(1, iA p1), (2, iA p2), (3, iA p3), (4, iA p4), (29, tB (p0 == 3))] ?_)
  rcases oc h with ⟨hc6, h⟩ | ⟨hc6, h⟩
  ·refine Yf 29 true hc6 (Zp 3 [1, 2, 3, 4, 29, 32] [(32, tB (p2 == 2))] ?_)
   rcases oc h with ⟨hc7, h⟩ | ⟨hc7, h⟩
   ·refine Yf 32 true hc7 (Yd 25 [(10, tB true)] ?_)
    obtain rfl := sI h
    exact Xt (tB true) ⟨rfl, h0.below⟩
   ·refine Yf 32 false hc7 (Zp 3 [1, 2, 3, 4, 29, 32, 35] [(35, tB (p2 == 3))] ?_)
    rcases oc h with ⟨hc8, h⟩ | ⟨hc8, h⟩
    ·refine Yf 35 true hc8 (Zp 5 [2, 3, 4, 29, 40] [(40, tB (p1 == 0))] ?_)
     rcases oc h with ⟨hc9, h⟩ | ⟨hc9, h⟩
     ·refine Yf 40 true hc9 (Yd 17 [(10, tB true)] ?_)
      obtain rfl := sI h
      exact Xt (tB true) ⟨rfl, h0.below⟩
     ·refine Yf 40 false hc9 (Zp 4 [2, 3, 4, 29, 44] [(44, tB (p2 == 4))] ?_)
      rcases oc h with ⟨hc10, h⟩ | ⟨hc10, h⟩
      ·refine Yf 44 true hc10 (Yd 13 [(10, tB true)] ?_)
       obtain rfl := sI h
       exact Xt (tB true) ⟨rfl, h0.below⟩
      ·refine Yf 44 false hc10 (Zp 3 [3, 4, 29, 44, 47] [(47, tB (p2 == 5))] ?_)
       rcases oc h with ⟨hc11, h⟩ | ⟨hc11, h⟩
       ·refine Yf 47 true hc11 (Zp 4 [3, 29, 44, 51] [(51, tB (p4 == 1))] ?_)
        rcases oc h with ⟨hc12, h⟩ | ⟨hc12, h⟩
        ·refine Yf 51 true hc12 (Yd 6 [(10, tB (p3 == 0))] ?_)
         obtain rfl := sI h
         exact Xt (tB (p3 == 0)) ⟨rfl, h0.below⟩
        ·refine Yf 51 false hc12 (Yd 6 [(10, tB false)] ?_)
         obtain rfl := sI h
         exact Xt (tB false) ⟨rfl, h0.below⟩
       ·refine Yf 47 false hc11 (Yd 10 [(10, tB false)] ?_)
        obtain rfl := sI h
        exact Xt (tB false) ⟨rfl, h0.below⟩
    ·refine Yf 35 false hc8 (Zp 9 [2, 3, 4, 29, 44] [(44, tB (p2 == 4))] ?_)
     rcases oc h with ⟨hc13, h⟩ | ⟨hc13, h⟩
     ·refine Yf 44 true hc13 (Yd 13 [(10, tB true)] ?_)
      obtain rfl := sI h
      exact Xt (tB true) ⟨rfl, h0.below⟩
     ·refine Yf 44 false hc13 (Zp 3 [3, 4, 29, 44, 47] [(47, tB (p2 == 5))] ?_)
      rcases oc h with ⟨hc14, h⟩ | ⟨hc14, h⟩
      ·refine Yf 47 true hc14 (Zp 4 [3, 29, 44, 51] [(51, tB (p4 == 1))] ?_)
       rcases oc h with ⟨hc15, h⟩ | ⟨hc15, h⟩
       ·refine Yf 51 true hc15 (Yd 6 [(10, tB (p3 == 0))] ?_)
        obtain rfl := sI h
        exact Xt (tB (p3 == 0)) ⟨rfl, h0.below⟩
       ·refine Yf 51 false hc15 (Yd 6 [(10, tB false)] ?_)
        obtain rfl := sI h
        exact Xt (tB false) ⟨rfl, h0.below⟩
      ·refine Yf 47 false hc14 (Yd 10 [(10, tB false)] ?_)
       obtain rfl := sI h
       exact Xt (tB false) ⟨rfl, h0.below⟩
  ·refine Yf 29 false hc6 (Yd 28 [(10, tB false)] ?_)
   obtain rfl := sI h
   exact Xt (tB false) ⟨rfl, h0.below⟩
end

section
abbrev charabancref08_Size_84.post := pI
def charabancref08_Size_84.f (K : Nat) (p0 : Int) (p1 : Int) : Option Int := (charabancref08_Fields_27.f K p1).bind fun yt5 => Let (fun (t12 : Bool) => cond t12 ((charabancref08_one_136.f K yt5.1 yt5.2.1 yt5.2.2.1).bind fun t23 => (charabancref08_two_137.f K yt5.1 yt5.2.1 yt5.2.2.1 yt5.2.2.2.1 yt5.2.2.2.2).bind fun t28 => cond t23 (some 1) (cond t28 (some 2) (some 0))) (cond (p0 == 2) (Let (fun (t33 : Bool) => cond t33 (some 2) (some 0)) (fun j36 => cond (yt5.1 == 1) (j36 (yt5.2.2.1 == 3)) (j36 false))) (some 0))) (fun j15 => cond (p0 == 0) (j15 true) (cond (p0 == 3) (j15 true) (j15 (p0 == 4))))
theorem charabancref08_Size_84_ok (K : Nat) (M0 : Nat → Prop) (w0 : World) (p0 : Int) (p1 : Int) (ho : ∀ b, M0 b → b < w0.heap.size) {r : Int} (h : charabancref08_Size_84.f K p0 p1 = some r) :
  Calls Tryz.prog 84 #[iA p0, iB p1] w0 (charabancref08_Size_84.post M0 w0 r) := by
 unfold charabancref08_Size_84.f at h
 have h0 : Holds M0 w0 w0 [] := Holds.start ho
 refine calls_of F84 rfl [iA p0, iB p1] (by kernel_rfl) (Xq 1 1 [.c 2] 1 [(0, iA p0), (1, iB p1)] (Zy 1 3 [.c 4] 1 [0, 13] [(13, iB p1)] ?_))
 obtain ⟨⟨t5, t6, t7, t8, t9⟩, hg4, h⟩ := of_bind h
 dsimp only at h
 refine Yc 14 27 #[iB p1] ((charabancref08_Fields_27_ok K _ w0  p1 h0.old' hg4).mono ?_)
 rintro _ w1 ⟨rfl, hb2⟩
 refine ⟨_, rfl, ?_⟩
 have h3 := h0.call hb2
 refine Yp 11 [(0, iA p0), (5, iA t5), (6, iA t6), (7, iA t7), (8, iA t8), (9, iA t9)] (Zy 2 6 [.c 7, .c 49] 1 [5, 6, 7, 8, 9, 20] [(20, iA p0)] (Zy 3 10 [.c 11, .c 18, .blk 0, .c 49] 2 [5, 6, 7, 8, 9, 20, 21] [(21, tB (p0 == 0))] (Ye ?_)))
 obtain ⟨j15, hJ16, h⟩ := of_let h
 have hj17 : ∀ (t12 : Bool) (w14 : World), j15 t12 = some r → Holds M0 w0 w14 [] → RunsI F84 [.c 18, .blk 0, .c 49] [(5, iA t5), (6, iA t6), (7, iA t7), (8, iA t8), (9, iA t9), (20, iA p0), (21, tB t12)] w14 (charabancref08_Size_84.post M0 w0 r) := by
  intro t12 w14 h h13
  rw [hJ16] at h
  clear hJ16
  dsimp only at h
  refine Vc 21 19 38 h (fun hc18 h => ?_) fun hc18 h => ?_
  ·refine Xq 1 20 [.c 21, .blk 0, .c 49] 3 [(5, iA t5), (6, iA t6), (7, iA t7), (8, iA t8), (9, iA t9), (25, iA t5), (26, iA t6), (27, iA t7)] ?_
   obtain ⟨t23, hg22, h⟩ := of_bind h
   refine Yc 28 136 #[iA t5, iA t6, iA t7] ((charabancref08_one_136_ok K _ w14  t5 t6 t7 h13.old' hg22).mono ?_)
   rintro _ w19 ⟨rfl, hb20⟩
   refine ⟨_, rfl, ?_⟩
   have h21 := h13.call hb20
   refine Zp 1 [5, 6, 7, 8, 9, 10] [(10, tB t23)] (Yq 1 22 [.c 23, .blk 0, .c 49] 5 [(10, tB t23), (29, iA t5), (30, iA t6), (31, iA t7), (32, iA t8), (33, iA t9)] ?_)
   obtain ⟨t28, hg27, h⟩ := of_bind h
   refine Yc 34 137 #[iA t5, iA t6, iA t7, iA t8, iA t9] ((charabancref08_two_137_ok K _ w19  t5 t6 t7 t8 t9 h21.old' hg27).mono ?_)
   rintro _ w24 ⟨rfl, hb25⟩
   refine ⟨_, rfl, ?_⟩
   have h26 := h21.call hb25
   refine Zp 1 [10, 11] [(11, tB t28)] (Zy 2 25 [.c 26, .c 31, .blk 0, .c 49] 1 [11, 35] [(35, tB t23)] (Ye (Vc 35 27 30 h (fun hc29 h => ?_) fun hc29 h => ?_)))
   ·refine Xd 1 28 [.c 29, .c 31, .blk 0, .c 49] 1 [(4, iA 1)] ?_
    obtain rfl := sI h
    exact Xt (iA 1) ⟨rfl, h26.below⟩
   ·refine Xg 1 [.c 31, .blk 0, .c 49] (Xd 1 32 [.c 33, .blk 0, .c 49] 1 [(36, tB t28)] (Vc 36 34 37 h (fun hc30 h => ?_) fun hc30 h => ?_))
    ·refine Xd 1 35 [.c 36, .blk 0, .c 49] 1 [(4, iA 2)] ?_
     obtain rfl := sI h
     exact Xt (iA 2) ⟨rfl, h26.below⟩
    ·refine Xg 1 [.blk 0, .c 49] (Xd 2 50 [.c 51] 1 [(4, iA 0)] ?_)
     obtain rfl := sI h
     exact Xt (iA 0) ⟨rfl, h26.below⟩
  ·refine Xd 1 39 [.c 40, .blk 0, .c 49] 2 [(5, iA t5), (7, iA t7), (37, tB (p0 == 2))] (Vc 37 41 48 h (fun hc31 h => ?_) fun hc31 h => ?_)
   ·refine Xq 1 42 [.c 43, .blk 0, .c 49] 3 [(7, iA t7), (41, tB (t5 == 1))] ?_
    obtain ⟨j36, hJ37, h⟩ := of_let h
    have hj38 : ∀ (t33 : Bool) (w35 : World), j36 t33 = some r → Holds M0 w0 w35 [] → RegI F84 42 [.c 43, .blk 0, .c 49] 6 [(44, tB t33)] w35 (charabancref08_Size_84.post M0 w0 r) := by
     intro t33 w35 h h34
     rw [hJ37] at h
     clear hJ37
     dsimp only at h
     refine Ye (Vc 44 44 47 h (fun hc39 h => ?_) fun hc39 h => ?_)
     ·refine Xd 1 45 [.c 46, .blk 0, .c 49] 1 [(4, iA 2)] ?_
      obtain rfl := sI h
      exact Xt (iA 2) ⟨rfl, h34.below⟩
     ·refine Xg 1 [.blk 0, .c 49] (Xd 2 50 [.c 51] 1 [(4, iA 0)] ?_)
      obtain rfl := sI h
      exact Xt (iA 0) ⟨rfl, h34.below⟩
    clear hJ37
    rcases oc h with ⟨hc32, h⟩ | ⟨hc32, h⟩
    ·refine Yf 41 true hc32 (Yp 3 [(44, tB (t7 == 3))] (Ul [(44, tB (t7 == 3))] ?_))
     exact hj38 (t7 == 3) w14 h (h13.pk [])
    ·refine Yf 41 false hc32 (Yp 3 [(44, tB false)] (Ul [(44, tB false)] ?_))
     exact hj38 false w14 h (h13.pk [])
   ·refine Xg 1 [.blk 0, .c 49] (Xd 2 50 [.c 51] 1 [(4, iA 0)] ?_)
    obtain rfl := sI h
    exact Xt (iA 0) ⟨rfl, h13.below⟩
 clear hJ16
 refine Vc 21 12 13 h (fun hc10 h => ?_) fun hc10 h => ?_
 ·refine Xg 1 [.c 18, .blk 0, .c 49] (Vl [(5, iA t5), (6, iA t6), (7, iA t7), (8, iA t8), (9, iA t9), (20, iA p0), (21, tB true)] ?_)
  exact hj17 true w1 h (h3.pk [])
 ·refine Xd 1 14 [.c 15, .c 18, .blk 0, .c 49] 2 [(5, iA t5), (6, iA t6), (7, iA t7), (8, iA t8), (9, iA t9), (20, iA p0), (21, tB (p0 == 3))] (Vc 21 16 17 h (fun hc11 h => ?_) fun hc11 h => ?_)
  ·refine Xg 1 [.c 18, .blk 0, .c 49] (Vl [(5, iA t5), (6, iA t6), (7, iA t7), (8, iA t8), (9, iA t9), (20, iA p0), (21, tB true)] ?_)
   exact hj17 true w1 h (h3.pk [])
  ·refine Xr (Yd 2 [(5, iA t5), (6, iA t6), (7, iA t7), (8, iA t8), (9, iA t9), (20, iA p0), (21, tB (p0 == 4))] (Vl [(5, iA t5), (6, iA t6), (7, iA t7), (8, iA t8), (9, iA t9), (20, iA p0), (21, tB (p0 == 4))] ?_))
   exact hj17 (p0 == 4) w1 h (h3.pk [])
end

section
def charabancref08_Next_53.post (M0 : Nat → Prop) (w0 : World) (r : Int × Int × Int × Int × Int × Int × Bool) : Ending → World → Prop := fun e w => e = .returned (.tuple #[.agg #[.int .i64 r.1, .int .u8 r.2.1, .int .u8 r.2.2.1, .int .u16 r.2.2.2.1, .int .i64 r.2.2.2.2.1, .int .i64 r.2.2.2.2.2.1], .bool r.2.2.2.2.2.2]) ∧ Below w0.heap.size w0 w
def charabancref08_Next_53.l0 (K : Nat) (p0 : List Int) : Nat → Int → Int → Int → Option (Int × Int × Int)
 | 0, _, _, _ => none
 | k + 1, t15, t16, t18 => (charabancref08_at_81.f K p0 t15).bind fun t23 => Let (fun (t30 : Bool) => cond t30 (cond (decide (t15 > 0)) (cond (inR t15 p0.length) (charabancref08_Next_53.l0 K p0 k (IntKind.wrap .i64 (t15 + 1)) (rdD p0 t15) (IntKind.wrap .i64 (t18 + 1))) none) (cond (inR t15 p0.length) (charabancref08_Next_53.l0 K p0 k (IntKind.wrap .i64 (t15 + 1)) (rdD p0 t15) t18) none)) (some (t15, t16, t18))) (fun j33 => cond (t23 == 221) (j33 true) ((charabancref08_at_81.f K p0 t15).bind fun t29 => j33 (t29 == 253)))
theorem charabancref08_Next_53.l0_ok (K : Nat) (M0 : Nat → Prop) (w0 : World) (pA0 : Option Addr) (pc0 : Nat) (p0 : List Int) (b14 : Nat) (b17 : Nat) (R : Ending → World → Prop) (x : Int × Int × Int) (hk0 : ∀ (t53 : Int) (t54 : Int) (t55 : Int) (w1 : World), x = (t53, t54, t55) → Holds M0 w0 w1 [sl rB (sV pA0 p0 pc0) p0, box b14 25 [iA 0, iB 0, iB 0, iC 0, iA 0, iA 0], box b17 25 [iA 0, iB 0, iB 0, iC 0, iA 0, iA t55]] → RunsI F53 [.c 27] [(0, sV pA0 p0 pc0), (2, pt b14), (4, iA t53), (5, iB t54), (6, pt b17)] w1 R) :
  ∀ (k : Nat) (t15 : Int) (t16 : Int) (t18 : Int) (w : World), charabancref08_Next_53.l0 K p0 k t15 t16 t18 = some x → Holds M0 w0 w [sl rB (sV pA0 p0 pc0) p0, box b14 25 [iA 0, iB 0, iB 0, iC 0, iA 0, iA 0], box b17 25 [iA 0, iB 0, iB 0, iC 0, iA 0, iA t18]] → RunsI F53 [.c 11, .lp 11, .blk 0, .c 27] [(0, sV pA0 p0 pc0), (2, pt b14), (4, iA t15), (5, iB t16), (6, pt b17)] w R := by
 intro k
 induction k with
 | zero => intro t15 t16 t18 w h hH; exact absurd h (by simp [charabancref08_Next_53.l0])
 | succ k ih =>
  intro t15 t16 t18 w h hH
  rw [charabancref08_Next_53.l0.eq_2] at h
  refine Xg 1 [.c 12, .c 17, .lp 11, .blk 0, .c 27] (Xq 1 13 [.c 14, .c 17, .lp 11, .blk 0, .c 27] 2 [(0, sV pA0 p0 pc0), (2, pt b14), (4, iA t15), (5, iB t16), (6, pt b17), (10, sV pA0 p0 pc0), (11, iA t15)] ?_)
  obtain ⟨t23, hg22, h⟩ := of_bind h
  refine Yc 12 81 #[sV pA0 p0 pc0, iA t15] ((charabancref08_at_81_ok K _ w  pA0 pc0 p0 t15 hH.old' (hH.get 0 rfl) hg22).mono ?_)
  rintro _ w19 ⟨rfl, hb20⟩
  refine ⟨_, rfl, ?_⟩
  have h21 := hH.call hb20
  refine Zp 2 [0, 2, 4, 5, 6, 14] [(14, tB (t23 == 221))] ?_
  obtain ⟨j33, hJ34, h⟩ := of_let h
  have hj35 : ∀ (t30 : Bool) (w32 : World), j33 t30 = some x → Holds M0 w0 w32 [sl rB (sV pA0 p0 pc0) p0, box b14 25 [iA 0, iB 0, iB 0, iC 0, iA 0, iA 0], box b17 25 [iA 0, iB 0, iB 0, iC 0, iA 0, iA t18]] → RegI F53 13 [.c 14, .c 17, .lp 11, .blk 0, .c 27] 10 [(0, sV pA0 p0 pc0), (2, pt b14), (4, iA t15), (5, iB t16), (6, pt b17), (19, tB t30)] w32 R := by
   intro t30 w32 h h31
   rw [hJ34] at h
   clear hJ34
   dsimp only at h
   refine Ye (Vc 19 15 16 h (fun hc36 h => ?_) fun hc36 h => ?_)
   ·refine Xg 1 [.c 17, .lp 11, .blk 0, .c 27] (Xd 3 20 [.c 21, .c 24, .blk 1, .lp 11, .blk 0, .c 27] 2 [(0, sV pA0 p0 pc0), (2, pt b14), (4, iA t15), (6, pt b17), (21, tB (decide (t15 > 0)))] (Vc 21 22 23 h (fun hc37 h => ?_) fun hc37 h => ?_))
    ·refine Xr (Yp 1 [(0, sV pA0 p0 pc0), (2, pt b14), (4, iA t15), (6, pt b17), (22, pu b17 5)] (Ya 23 2 3 b17 5 (iA t18) h31 rfl (Zp 2 [0, 2, 4, 6, 24, 25] [(24, iA (wA (t18 + 1))), (25, pu b17 5)] (Yb 2 3 b17 5 (iA (wA (t18 + 1))) [iA 0, iB 0, iB 0, iC 0, iA 0, iA (wA (t18 + 1))] h31 rfl ?_))))
     intro w38 h39 hk40
     refine Zy 1 25 [.c 26, .blk 1, .lp 11, .blk 0, .c 27] 2 [0, 2, 4, 6, 26, 27] [(26, sV pA0 p0 pc0), (27, iA t15)] ?_
     have ⟨hc41, h⟩ := oz h
     refine Yo (OpE.idxSl 28 0 39 t15 h39 (by kernel_rfl) rfl (by kernel_rfl) (by kernel_rfl) hc41 ?_)
     intro b42 o43 cs44 hk45 h46
     obtain rfl := hk45
     refine Yz 29 3 5 b42 o43 0 (iB (rdD p0 t15)) h46 rfl (Zd 1 [0, 2, 4, 5, 6] [(5, iB (rdD p0 t15))] (Xr (Zd 3 [0, 2, 4, 5, 6] [(4, iA (wA (t15 + 1)))] (Xg 2 [.c 11, .lp 11, .blk 0, .c 27] (Vl [(0, sV pA0 p0 pc0), (2, pt b14), (4, iA (wA (t15 + 1))), (5, iB (rdD p0 t15)), (6, pt b17)] ?_)))))
     exact ih (wA (t15 + 1)) (rdD p0 t15) (wA (t18 + 1)) w38 h (h46.pk [0, 1, 2])
    ·refine Xg 1 [.c 24, .blk 1, .lp 11, .blk 0, .c 27] (Xq 1 25 [.c 26, .blk 1, .lp 11, .blk 0, .c 27] 2 [(0, sV pA0 p0 pc0), (2, pt b14), (4, iA t15), (6, pt b17), (26, sV pA0 p0 pc0), (27, iA t15)] ?_)
     have ⟨hc47, h⟩ := oz h
     refine Yo (OpE.idxSl 28 0 39 t15 h31 (by kernel_rfl) rfl (by kernel_rfl) (by kernel_rfl) hc47 ?_)
     intro b48 o49 cs50 hk51 h52
     obtain rfl := hk51
     refine Yz 29 3 5 b48 o49 0 (iB (rdD p0 t15)) h52 rfl (Zd 1 [0, 2, 4, 5, 6] [(5, iB (rdD p0 t15))] (Xr (Zd 3 [0, 2, 4, 5, 6] [(4, iA (wA (t15 + 1)))] (Xg 2 [.c 11, .lp 11, .blk 0, .c 27] (Vl [(0, sV pA0 p0 pc0), (2, pt b14), (4, iA (wA (t15 + 1))), (5, iB (rdD p0 t15)), (6, pt b17)] ?_)))))
     exact ih (wA (t15 + 1)) (rdD p0 t15) t18 w32 h (h52.pk [0, 1, 2])
   ·refine Xg 1 [.c 27] (Vl [(0, sV pA0 p0 pc0), (2, pt b14), (4, iA t15), (5, iB t16), (6, pt b17)] ?_)
    exact hk0 t15 t16 t18 w32 (sI h).symm (h31.pk [0, 1, 2])
  clear hJ34
  rcases oc h with ⟨hc24, h⟩ | ⟨hc24, h⟩
  ·refine Yf 14 true hc24 (Zp 5 [0, 2, 4, 5, 6, 19] [(19, tB true)] (Ul [(0, sV pA0 p0 pc0), (2, pt b14), (4, iA t15), (5, iB t16), (6, pt b17), (19, tB true)] ?_))
   exact hj35 true w19 h (h21.pk [0, 1, 2])
  ·refine Yf 14 false hc24 (Zp 2 [0, 2, 4, 5, 6, 14, 15, 16] [(15, sV pA0 p0 pc0), (16, iA t15)] ?_)
   obtain ⟨t29, hg28, h⟩ := of_bind h
   refine Yc 17 81 #[sV pA0 p0 pc0, iA t15] ((charabancref08_at_81_ok K _ w19  pA0 pc0 p0 t15 h21.old' (h21.get 0 rfl) hg28).mono ?_)
   rintro _ w25 ⟨rfl, hb26⟩
   refine ⟨_, rfl, ?_⟩
   have h27 := h21.call hb26
   refine Zp 2 [0, 2, 4, 5, 6, 19] [(19, tB (t29 == 253))] (Ul [(0, sV pA0 p0 pc0), (2, pt b14), (4, iA t15), (5, iB t16), (6, pt b17), (19, tB (t29 == 253))] ?_)
   exact hj35 (t29 == 253) w25 h (h27.pk [0, 1, 2])
def charabancref08_Next_53.f (K : Nat) (p0 : List Int) : Option (Int × Int × Int × Int × Int × Int × Bool) := (charabancref08_Next_53.l0 K p0 K 0 0 0).bind (fun yx56 => (charabancref08_at_81.f K p0 yx56.1).bind fun t67 => (charabancref08_plane_82.f K yx56.2.1 t67).bind fun t72 => Let (fun (t77 : Bool) => Let (fun (t87 : Int) => Let (fun (t94 : Bool) => Let (fun (yj160 : Int × Int × Int) => (charabancref08_Size_84.f K t72 yj160.2.1).bind fun t167 => Let (fun (t177 : Int) => Let (fun (t201 : Int) => cond (decide ((IntKind.wrap .i64 (yj160.1 + t167)) > (p0.length : Int))) (some (0, 0, 0, 0, 0, 0, false)) (some (t72, yj160.2.1, yj160.2.2, t201, (IntKind.wrap .i64 (yj160.1 + t167)), t87, true))) (fun j204 => cond (decide (t167 > 1)) ((charabancref08_at_81.f K p0 (IntKind.wrap .i64 (yj160.1 + 1))).bind fun t189 => j204 (IntKind.wrap .u16 (t177 + (IntKind.wrap .u16 (256 * (IntKind.wrap .u16 t189)))))) (j204 t177))) (fun j180 => cond (decide (t167 > 0)) ((charabancref08_at_81.f K p0 yj160.1).bind fun t173 => j180 (IntKind.wrap .u16 t173)) (j180 0))) (fun j160 => cond t94 ((charabancref08_at_81.f K p0 (IntKind.wrap .i64 (yx56.1 + 1))).bind fun t105 => (charabancref08_at_81.f K p0 (IntKind.wrap .i64 (yx56.1 + 2))).bind fun t113 => j160 ((IntKind.wrap .i64 (yx56.1 + 3)), t113, t105)) (Let (fun (t118 : Bool) => cond t118 ((charabancref08_at_81.f K p0 (IntKind.wrap .i64 (yx56.1 + 1))).bind fun t129 => j160 ((IntKind.wrap .i64 (yx56.1 + 2)), t129, 0)) ((charabancref08_at_81.f K p0 yx56.1).bind fun t137 => (charabancref08_Near_83.f K t72 t137).bind fun t145 => cond t145 ((charabancref08_at_81.f K p0 (IntKind.wrap .i64 (yx56.1 + 1))).bind fun t151 => j160 ((IntKind.wrap .i64 ((IntKind.wrap .i64 (yx56.1 + 1)) + 1)), t137, t151)) (j160 ((IntKind.wrap .i64 (yx56.1 + 1)), t137, 0)))) (fun j121 => cond (t72 == 1) (j121 true) (j121 (t72 == 2)))))) (fun j97 => cond (t72 == 5) (j97 true) (j97 (t72 == 6)))) (fun j90 => cond t77 (j90 (IntKind.wrap .i64 (yx56.2.2 + 1))) (j90 yx56.2.2))) (fun j80 => cond (t72 == 2) (j80 (decide (yx56.1 > 0))) (j80 false)))
theorem charabancref08_Next_53_ok (K : Nat) (M0 : Nat → Prop) (w0 : World) (pA0 : Option Addr) (pc0 : Nat) (p0 : List Int) (ho : ∀ b, M0 b → b < w0.heap.size) (hs0 : Sl rB w0 M0 (sV pA0 p0 pc0) p0) {r : Int × Int × Int × Int × Int × Int × Bool} (h : charabancref08_Next_53.f K p0 = some r) :
  Calls Tryz.prog 53 #[sV pA0 p0 pc0] w0 (charabancref08_Next_53.post M0 w0 r) := by
 unfold charabancref08_Next_53.f at h
 have h0 : Holds M0 w0 w0 [] := Holds.start ho
 have h00 := h0.aS hs0
 have h0 : Holds M0 w0 w0 [sl rB (sV pA0 p0 pc0) p0] := h00
 refine calls_of F53 rfl [sV pA0 p0 pc0] (by kernel_rfl) (Xg 1 [.c 1, .c 2] (Xr (Yx 2 25 [iA 0, iB 0, iB 0, iC 0, iA 0, iA 0] h0 ?_)))
 intro w1 b2 h3 hb4 hn5
 refine Yp 1 [(0, sV pA0 p0 pc0), (2, pt b2)] (Zy 1 3 [.c 4] 1 [0, 2, 4] [(4, iA 0)] (Zy 1 5 [.c 6] 1 [0, 2, 4, 5] [(5, iB 0)] (Zy 1 7 [.c 8] 1 [0, 2, 4, 5, 9] [(9, .agg #[iA 0, iB 0, iB 0, iC 0, iA 0, iA 0])] (Yx 6 25 [iA 0, iB 0, iB 0, iC 0, iA 0, iA 0] h3 ?_))))
 intro w6 b7 h8 hb9 hn10
 refine Yb 2 25 b7 0 (.agg #[iA 0, iB 0, iB 0, iC 0, iA 0, iA 0]) [iA 0, iB 0, iB 0, iC 0, iA 0, iA 0] h8 rfl ?_
 intro w11 h12 hk13
 refine Ye (Xg 3 [.c 11, .lp 11, .blk 0, .c 27] ?_)
 obtain ⟨x56, hx57, h⟩ := of_bind h
 refine Vl [(0, sV pA0 p0 pc0), (2, pt b2), (4, iA 0), (5, iB 0), (6, pt b7)] (charabancref08_Next_53.l0_ok K M0 w0 pA0 pc0 p0 b2 b7 _ x56 ?_ K 0 0 0 w11 hx57 (h12.pk [0, 1, 2]))
 ·intro t58 t59 t60 w62 hq217 h61
  (try rw [hq217] at h)
  dsimp only at h
  refine Xq 1 28 [.c 29] 3 [(0, sV pA0 p0 pc0), (2, pt b2), (4, iA t58), (6, pt b7), (32, iB t59), (33, sV pA0 p0 pc0), (34, iA t58)] ?_
  obtain ⟨t67, hg66, h⟩ := of_bind h
  refine Yc 35 81 #[sV pA0 p0 pc0, iA t58] ((charabancref08_at_81_ok K _ w62  pA0 pc0 p0 t58 h61.old' (h61.get 0 rfl) hg66).mono ?_)
  rintro _ w63 ⟨rfl, hb64⟩
  refine ⟨_, rfl, ?_⟩
  have h65 := h61.call hb64
  obtain ⟨t72, hg71, h⟩ := of_bind h
  refine Yc 36 82 #[iB t59, iB t67] ((charabancref08_plane_82_ok K _ w63  t59 t67 h65.old' hg71).mono ?_)
  rintro _ w68 ⟨rfl, hb69⟩
  refine ⟨_, rfl, ?_⟩
  have h70 := h65.call hb69
  refine Zp 1 [0, 2, 4, 6, 36, 37] [(36, iA t72), (37, pt b7)] (Yb 2 3 b7 0 (iA t72) [iA t72, iB 0, iB 0, iC 0, iA 0, iA t60] h70 rfl ?_)
  intro w73 h74 hk75
  refine Zy 2 31 [.c 32, .c 35] 1 [0, 2, 4, 6, 38] [(38, pt b7)] (Ya 39 2 3 b7 0 (iA t72) h74 rfl (Zp 2 [0, 2, 4, 6, 41] [(41, tB (t72 == 2))] ?_))
  obtain ⟨j80, hJ81, h⟩ := of_let h
  have hj82 : ∀ (t77 : Bool) (w79 : World), j80 t77 = some r → Holds M0 w0 w79 [sl rB (sV pA0 p0 pc0) p0, box b2 25 [iA 0, iB 0, iB 0, iC 0, iA 0, iA 0], box b7 25 [iA t72, iB 0, iB 0, iC 0, iA 0, iA t60]] → RegI F53 31 [.c 32, .c 35] 7 [(0, sV pA0 p0 pc0), (2, pt b2), (4, iA t58), (6, pt b7), (44, tB t77)] w79 (charabancref08_Next_53.post M0 w0 r) := by
   intro t77 w79 h h78
   rw [hJ81] at h
   clear hJ81
   dsimp only at h
   refine Ye ?_
   obtain ⟨j90, hJ91, h⟩ := of_let h
   have hj92 : ∀ (t87 : Int) (w89 : World), j90 t87 = some r → Holds M0 w0 w89 [sl rB (sV pA0 p0 pc0) p0, box b2 25 [iA 0, iB 0, iB 0, iC 0, iA 0, iA 0], box b7 25 [iA t72, iB 0, iB 0, iC 0, iA 0, iA t87]] → RunsI F53 [.c 35] [(0, sV pA0 p0 pc0), (2, pt b2), (4, iA t58), (6, pt b7)] w89 (charabancref08_Next_53.post M0 w0 r) := by
    intro t87 w89 h h88
    rw [hJ91] at h
    clear hJ91
    dsimp only at h
    refine Xq 2 37 [.c 38, .c 74] 1 [(0, sV pA0 p0 pc0), (2, pt b2), (4, iA t58), (6, pt b7), (49, pt b7)] (Ya 50 2 3 b7 0 (iA t72) h88 rfl (Zy 3 41 [.c 42, .c 45, .blk 2, .c 74] 2 [0, 2, 4, 6, 50, 69] [(50, iA t72), (69, tB (t72 == 5))] (Ye ?_)))
    obtain ⟨j97, hJ98, h⟩ := of_let h
    have hj99 : ∀ (t94 : Bool) (w96 : World), j97 t94 = some r → Holds M0 w0 w96 [sl rB (sV pA0 p0 pc0) p0, box b2 25 [iA 0, iB 0, iB 0, iC 0, iA 0, iA 0], box b7 25 [iA t72, iB 0, iB 0, iC 0, iA 0, iA t87]] → RunsI F53 [.c 45, .blk 2, .c 74] [(0, sV pA0 p0 pc0), (2, pt b2), (4, iA t58), (6, pt b7), (50, iA t72), (69, tB t94)] w96 (charabancref08_Next_53.post M0 w0 r) := by
     intro t94 w96 h h95
     rw [hJ98] at h
     clear hJ98
     dsimp only at h
     obtain ⟨j160, hJ161, h⟩ := of_let h
     have hj162 : ∀ (t155 : Int) (t156 : Int) (t157 : Int) (w159 : World), j160 (t155, t156, t157) = some r → Holds M0 w0 w159 [sl rB (sV pA0 p0 pc0) p0, box b2 25 [iA 0, iB 0, iB 0, iC 0, iA 0, iA 0], box b7 25 [iA t72, iB t156, iB t157, iC 0, iA 0, iA t87]] → RunsI F53 [.blk 2, .c 74] [(0, sV pA0 p0 pc0), (2, pt b2), (4, iA t155), (6, pt b7)] w159 (charabancref08_Next_53.post M0 w0 r) := by
      intro t155 t156 t157 w159 h h158
      rw [hJ161] at h
      clear hJ161
      dsimp only at h
      refine Xq 2 75 [.c 76] 1 [(0, sV pA0 p0 pc0), (2, pt b2), (4, iA t155), (6, pt b7), (94, pt b7)] (Ya 95 2 3 b7 0 (iA t72) h158 rfl (Zp 1 [0, 2, 4, 6, 95, 96] [(95, iA t72), (96, pu b7 1)] (Ya 97 2 5 b7 1 (iB t156) h158 rfl ?_)))
      obtain ⟨t167, hg166, h⟩ := of_bind h
      refine Yc 98 84 #[iA t72, iB t156] ((charabancref08_Size_84_ok K _ w159  t72 t156 h158.old' hg166).mono ?_)
      rintro _ w163 ⟨rfl, hb164⟩
      refine ⟨_, rfl, ?_⟩
      have h165 := h158.call hb164
      refine Zp 1 [0, 2, 4, 6, 8] [(8, iA t167)] (Zy 2 78 [.c 79, .c 82] 2 [0, 2, 4, 6, 8, 100] [(100, tB (decide (t167 > 0)))] (Ye ?_))
      obtain ⟨j180, hJ181, h⟩ := of_let h
      have hj182 : ∀ (t177 : Int) (w179 : World), j180 t177 = some r → Holds M0 w0 w179 [sl rB (sV pA0 p0 pc0) p0, box b2 25 [iA 0, iB 0, iB 0, iC 0, iA 0, iA 0], box b7 25 [iA t72, iB t156, iB t157, iC t177, iA 0, iA t87]] → RunsI F53 [.c 82] [(0, sV pA0 p0 pc0), (2, pt b2), (4, iA t155), (6, pt b7), (8, iA t167)] w179 (charabancref08_Next_53.post M0 w0 r) := by
       intro t177 w179 h h178
       rw [hJ181] at h
       clear hJ181
       dsimp only at h
       refine Xd 2 84 [.c 85, .c 88] 2 [(0, sV pA0 p0 pc0), (2, pt b2), (4, iA t155), (6, pt b7), (8, iA t167), (107, tB (decide (t167 > 1)))] ?_
       obtain ⟨j204, hJ205, h⟩ := of_let h
       have hj206 : ∀ (t201 : Int) (w203 : World), j204 t201 = some r → Holds M0 w0 w203 [sl rB (sV pA0 p0 pc0) p0, box b2 25 [iA 0, iB 0, iB 0, iC 0, iA 0, iA 0], box b7 25 [iA t72, iB t156, iB t157, iC t201, iA 0, iA t87]] → RunsI F53 [.c 88] [(0, sV pA0 p0 pc0), (2, pt b2), (4, iA t155), (6, pt b7), (8, iA t167)] w203 (charabancref08_Next_53.post M0 w0 r) := by
        intro t201 w203 h h202
        rw [hJ205] at h
        clear hJ205
        dsimp only at h
        refine Xq 1 89 [.c 90] 4 [(0, sV pA0 p0 pc0), (2, pt b2), (6, pt b7), (120, iA (wA (t155 + t167))), (121, pu b7 4)] (Yb 2 3 b7 4 (iA (wA (t155 + t167))) [iA t72, iB t156, iB t157, iC t201, iA (wA (t155 + t167)), iA t87] h202 rfl ?_)
        intro w207 h208 hk209
        refine Zy 2 92 [.c 93, .c 98] 1 [0, 2, 6, 122] [(122, pu b7 4)] (Ya 123 2 3 b7 4 (iA (wA (t155 + t167))) h208 rfl (Zd 3 [2, 6, 126] [(126, tB (decide ((wA (t155 + t167)) > (p0.length : Int))))] (Vc 126 94 97 h (fun hc210 h => ?_) fun hc210 h => ?_)))
        ·refine Xq 1 95 [.c 96, .c 98] 1 [(2, pt b2), (127, .agg #[iA 0, iB 0, iB 0, iC 0, iA 0, iA 0])] (Yb 1 25 b2 0 (.agg #[iA 0, iB 0, iB 0, iC 0, iA 0, iA 0]) [iA 0, iB 0, iB 0, iC 0, iA 0, iA 0] h208 rfl ?_)
         intro w211 h212 hk213
         refine Zd 1 [2, 3] [(3, tB false)] (RunsI.toRet (by kernel_rfl) (RetI.valW [.cell 2 25, .tmp 3] [.agg #[iA 0, iB 0, iB 0, iC 0, iA 0, iA 0], tB false] (.tuple #[.agg #[iA 0, iB 0, iB 0, iC 0, iA 0, iA 0], tB false]) (by kernel_rfl) (ResAt.box 1 25 b2 0 h212 (by kernel_rfl) (by kernel_rfl) rfl (by kernel_rfl) (ResAt.tmp (by kernel_rfl) (by kernel_rfl) rfl)) (by kernel_rfl) ?_))
         obtain rfl := sI h
         exact ⟨rfl, h212.below⟩
        ·refine Xg 1 [.c 98] (Xg 1 [.c 99, .c 100] (Xr (Ya 128 2 25 b7 0 (.agg #[iA t72, iB t156, iB t157, iC t201, iA (wA (t155 + t167)), iA t87]) h208 rfl (Yb 1 25 b2 0 (.agg #[iA t72, iB t156, iB t157, iC t201, iA (wA (t155 + t167)), iA t87]) [iA t72, iB t156, iB t157, iC t201, iA (wA (t155 + t167)), iA t87] h208 rfl ?_))))
         intro w214 h215 hk216
         refine Yd 1 [(2, pt b2), (3, tB true)] (RunsI.toRet (by kernel_rfl) (RetI.valW [.cell 2 25, .tmp 3] [.agg #[iA t72, iB t156, iB t157, iC t201, iA (wA (t155 + t167)), iA t87], tB true] (.tuple #[.agg #[iA t72, iB t156, iB t157, iC t201, iA (wA (t155 + t167)), iA t87], tB true]) (by kernel_rfl) (ResAt.box 1 25 b2 0 h215 (by kernel_rfl) (by kernel_rfl) rfl (by kernel_rfl) (ResAt.tmp (by kernel_rfl) (by kernel_rfl) rfl)) (by kernel_rfl) ?_))
         obtain rfl := sI h
         exact ⟨rfl, h215.below⟩
       clear hJ205
       refine Vc 107 86 87 h (fun hc183 h => ?_) fun hc183 h => ?_
       ·refine RunsI.any 11 (by kernel_rfl) (by kernel_rfl) (by kernel_rfl) (Kp ([] : List Nat) (World.drew w179)) ?_
        have h185 := h178.drew
        generalize World.drew w179 = w184 at h185 ⊢
        have hS186 := Kp.refl ([] : List Nat) w184
        refine Wu 0 108 (pu b7 3) hS186 (Wa 1 109 2 23 b7 3 (iC t177) [] h185 rfl hS186 rfl (Wu 2 110 (sV pA0 p0 pc0) hS186 (Wu 3 111 (iA t155) hS186 (Wu 4 112 (iA (wA (t155 + 1))) hS186 ?_))))
        obtain ⟨t189, hg188, h⟩ := of_bind h
        refine Wc 5 113 (iB t189) 81 #[sV pA0 p0 pc0, iA (wA (t155 + 1))] hS186 (fun w hk => charabancref08_at_81_ok K (fun _ => False) w pA0 pc0 p0 (wA (t155 + 1)) nF (Sl.mono (h185.atI [] rfl hk 0 rfl rfl) (fun _ _ hf => hf.elim)) hg188) (Wu 6 114 (iC (wC t189)) hS186 (Wu 7 115 (iC (wC (256 * (wC t189)))) hS186 (Wu 8 116 (iC (wC (t177 + (wC (256 * (wC t189)))))) hS186 (Wu 9 117 (pu b7 3) hS186 (AnyE.last 10 (by kernel_rfl) (by kernel_rfl) (fun w190 hu191 => ?_))))))
        have h192 := h185.call hu191
        have hS193 := hS186.up hu191
        refine OpE.storeBox 2 23 b7 3 (iC (wC (t177 + (wC (256 * (wC t189)))))) [iA t72, iB t156, iB t157, iC (wC (t177 + (wC (256 * (wC t189))))), iA 0, iA t87] h192 (by kernel_rfl) (by kernel_rfl) rfl (by kernel_rfl) (by kernel_rfl) (by kernel_rfl) ?_
        intro w194 h195 hk196
        refine AnyE.done (by kernel_rfl) (fun w198 hu199 => ?_)
        have h200 := h195.call hu199
        refine Vl [(0, sV pA0 p0 pc0), (2, pt b2), (4, iA t155), (6, pt b7), (8, iA t167)] (Vl [(0, sV pA0 p0 pc0), (2, pt b2), (4, iA t155), (6, pt b7), (8, iA t167)] ?_)
        exact hj206 (wC (t177 + (wC (256 * (wC t189))))) w198 h (h200.pk [0, 1, 2])
       ·refine Xg 1 [.c 88] (Vl [(0, sV pA0 p0 pc0), (2, pt b2), (4, iA t155), (6, pt b7), (8, iA t167)] ?_)
        exact hj206 t177 w179 h (h178.pk [0, 1, 2])
      clear hJ181
      refine Vc 100 80 81 h (fun hc168 h => ?_) fun hc168 h => ?_
      ·refine Xr (Yp 2 [(0, sV pA0 p0 pc0), (2, pt b2), (4, iA t155), (6, pt b7), (8, iA t167), (101, sV pA0 p0 pc0), (102, iA t155)] ?_)
       obtain ⟨t173, hg172, h⟩ := of_bind h
       refine Yc 103 81 #[sV pA0 p0 pc0, iA t155] ((charabancref08_at_81_ok K _ w163  pA0 pc0 p0 t155 h165.old' (h165.get 0 rfl) hg172).mono ?_)
       rintro _ w169 ⟨rfl, hb170⟩
       refine ⟨_, rfl, ?_⟩
       have h171 := h165.call hb170
       refine Zp 2 [0, 2, 4, 6, 8, 104, 105] [(104, iC (wC t173)), (105, pu b7 3)] (Yb 2 23 b7 3 (iC (wC t173)) [iA t72, iB t156, iB t157, iC (wC t173), iA 0, iA t87] h171 rfl ?_)
       intro w174 h175 hk176
       refine Ye (Vl [(0, sV pA0 p0 pc0), (2, pt b2), (4, iA t155), (6, pt b7), (8, iA t167)] ?_)
       exact hj182 (wC t173) w174 h (h175.pk [0, 1, 2])
      ·refine Xg 1 [.c 82] (Vl [(0, sV pA0 p0 pc0), (2, pt b2), (4, iA t155), (6, pt b7), (8, iA t167)] ?_)
       exact hj182 0 w163 h (h165.pk [0, 1, 2])
     clear hJ161
     refine Vc 69 46 51 h (fun hc100 h => ?_) fun hc100 h => ?_
     ·refine Xq 1 47 [.c 48, .blk 2, .c 74] 3 [(0, sV pA0 p0 pc0), (2, pt b2), (4, iA t58), (6, pt b7), (72, sV pA0 p0 pc0), (74, iA (wA (t58 + 1)))] ?_
      obtain ⟨t105, hg104, h⟩ := of_bind h
      refine Yc 75 81 #[sV pA0 p0 pc0, iA (wA (t58 + 1))] ((charabancref08_at_81_ok K _ w96  pA0 pc0 p0 (wA (t58 + 1)) h95.old' (h95.get 0 rfl) hg104).mono ?_)
      rintro _ w101 ⟨rfl, hb102⟩
      refine ⟨_, rfl, ?_⟩
      have h103 := h95.call hb102
      refine Zp 1 [0, 2, 4, 6, 75, 76] [(75, iB t105), (76, pu b7 2)] (Yb 2 5 b7 2 (iB t105) [iA t72, iB 0, iB t105, iC 0, iA 0, iA t87] h103 rfl ?_)
      intro w106 h107 hk108
      refine Zy 1 49 [.c 50, .blk 2, .c 74] 3 [0, 2, 4, 6, 77, 79] [(77, sV pA0 p0 pc0), (79, iA (wA (t58 + 2)))] ?_
      obtain ⟨t113, hg112, h⟩ := of_bind h
      refine Yc 80 81 #[sV pA0 p0 pc0, iA (wA (t58 + 2))] ((charabancref08_at_81_ok K _ w106  pA0 pc0 p0 (wA (t58 + 2)) h107.old' (h107.get 0 rfl) hg112).mono ?_)
      rintro _ w109 ⟨rfl, hb110⟩
      refine ⟨_, rfl, ?_⟩
      have h111 := h107.call hb110
      refine Zp 1 [0, 2, 4, 6, 80, 81] [(80, iB t113), (81, pu b7 1)] (Yb 2 5 b7 1 (iB t113) [iA t72, iB t113, iB t105, iC 0, iA 0, iA t87] h111 rfl ?_)
      intro w114 h115 hk116
      refine Ye (Xr (Zd 3 [0, 2, 4, 6] [(4, iA (wA (t58 + 3)))] (Vl [(0, sV pA0 p0 pc0), (2, pt b2), (4, iA (wA (t58 + 3))), (6, pt b7)] ?_)))
      exact hj162 (wA (t58 + 3)) t113 t105 w114 h (h115.pk [0, 1, 2])
     ·refine Xd 2 53 [.c 54, .c 57, .blk 2, .c 74] 2 [(0, sV pA0 p0 pc0), (2, pt b2), (4, iA t58), (6, pt b7), (50, iA t72), (84, tB (t72 == 1))] ?_
      obtain ⟨j121, hJ122, h⟩ := of_let h
      have hj123 : ∀ (t118 : Bool) (w120 : World), j121 t118 = some r → Holds M0 w0 w120 [sl rB (sV pA0 p0 pc0) p0, box b2 25 [iA 0, iB 0, iB 0, iC 0, iA 0, iA 0], box b7 25 [iA t72, iB 0, iB 0, iC 0, iA 0, iA t87]] → RunsI F53 [.c 57, .blk 2, .c 74] [(0, sV pA0 p0 pc0), (2, pt b2), (4, iA t58), (6, pt b7), (84, tB t118)] w120 (charabancref08_Next_53.post M0 w0 r) := by
       intro t118 w120 h h119
       rw [hJ122] at h
       clear hJ122
       dsimp only at h
       refine Vc 84 58 61 h (fun hc124 h => ?_) fun hc124 h => ?_
       ·refine Xq 1 59 [.c 60, .blk 2, .c 74] 3 [(0, sV pA0 p0 pc0), (2, pt b2), (4, iA t58), (6, pt b7), (87, sV pA0 p0 pc0), (89, iA (wA (t58 + 1)))] ?_
        obtain ⟨t129, hg128, h⟩ := of_bind h
        refine Yc 90 81 #[sV pA0 p0 pc0, iA (wA (t58 + 1))] ((charabancref08_at_81_ok K _ w120  pA0 pc0 p0 (wA (t58 + 1)) h119.old' (h119.get 0 rfl) hg128).mono ?_)
        rintro _ w125 ⟨rfl, hb126⟩
        refine ⟨_, rfl, ?_⟩
        have h127 := h119.call hb126
        refine Zp 1 [0, 2, 4, 6, 90, 91] [(90, iB t129), (91, pu b7 1)] (Yb 2 5 b7 1 (iB t129) [iA t72, iB t129, iB 0, iC 0, iA 0, iA t87] h127 rfl ?_)
        intro w130 h131 hk132
        refine Ye (Xr (Zd 3 [0, 2, 4, 6] [(4, iA (wA (t58 + 2)))] (Vl [(0, sV pA0 p0 pc0), (2, pt b2), (4, iA (wA (t58 + 2))), (6, pt b7)] ?_)))
        exact hj162 (wA (t58 + 2)) t129 0 w130 h (h131.pk [0, 1, 2])
       ·refine Xq 1 62 [.c 63, .blk 2, .c 74] 2 [(0, sV pA0 p0 pc0), (2, pt b2), (4, iA t58), (6, pt b7), (51, sV pA0 p0 pc0), (52, iA t58)] ?_
        obtain ⟨t137, hg136, h⟩ := of_bind h
        refine Yc 53 81 #[sV pA0 p0 pc0, iA t58] ((charabancref08_at_81_ok K _ w120  pA0 pc0 p0 t58 h119.old' (h119.get 0 rfl) hg136).mono ?_)
        rintro _ w133 ⟨rfl, hb134⟩
        refine ⟨_, rfl, ?_⟩
        have h135 := h119.call hb134
        refine Zp 1 [0, 2, 4, 6, 53, 54] [(53, iB t137), (54, pu b7 1)] (Yb 2 5 b7 1 (iB t137) [iA t72, iB t137, iB 0, iC 0, iA 0, iA t87] h135 rfl ?_)
        intro w138 h139 hk140
        refine Zy 1 64 [.c 65, .blk 2, .c 74] 3 [0, 2, 4, 6] [(4, iA (wA (t58 + 1)))] (Zy 1 66 [.c 67, .blk 2, .c 74] 1 [0, 2, 4, 6, 57] [(57, pt b7)] (Ya 58 2 3 b7 0 (iA t72) h139 rfl (Zp 1 [0, 2, 4, 6, 58, 59] [(58, iA t72), (59, pu b7 1)] (Ya 60 2 5 b7 1 (iB t137) h139 rfl ?_))))
        obtain ⟨t145, hg144, h⟩ := of_bind h
        refine Yc 61 83 #[iA t72, iB t137] ((charabancref08_Near_83_ok K _ w138  t72 t137 h139.old' hg144).mono ?_)
        rintro _ w141 ⟨rfl, hb142⟩
        refine ⟨_, rfl, ?_⟩
        have h143 := h139.call hb142
        refine Zp 1 [0, 2, 4, 6, 7] [(7, tB t145)] (Zy 1 68 [.c 69, .blk 2, .c 74] 1 [0, 2, 4, 6, 62] [(62, tB t145)] (Ye (Vc 62 70 73 h (fun hc146 h => ?_) fun hc146 h => ?_)))
        ·refine Xq 1 71 [.c 72, .blk 2, .c 74] 2 [(0, sV pA0 p0 pc0), (2, pt b2), (4, iA (wA (t58 + 1))), (6, pt b7), (63, sV pA0 p0 pc0), (64, iA (wA (t58 + 1)))] ?_
         obtain ⟨t151, hg150, h⟩ := of_bind h
         refine Yc 65 81 #[sV pA0 p0 pc0, iA (wA (t58 + 1))] ((charabancref08_at_81_ok K _ w141  pA0 pc0 p0 (wA (t58 + 1)) h143.old' (h143.get 0 rfl) hg150).mono ?_)
         rintro _ w147 ⟨rfl, hb148⟩
         refine ⟨_, rfl, ?_⟩
         have h149 := h143.call hb148
         refine Zp 1 [0, 2, 4, 6, 65, 66] [(65, iB t151), (66, pu b7 2)] (Yb 2 5 b7 2 (iB t151) [iA t72, iB t137, iB t151, iC 0, iA 0, iA t87] h149 rfl ?_)
         intro w152 h153 hk154
         refine Ye (Xr (Zd 3 [0, 2, 4, 6] [(4, iA (wA ((wA (t58 + 1)) + 1)))] (Vl [(0, sV pA0 p0 pc0), (2, pt b2), (4, iA (wA ((wA (t58 + 1)) + 1))), (6, pt b7)] ?_)))
         exact hj162 (wA ((wA (t58 + 1)) + 1)) t137 t151 w152 h (h153.pk [0, 1, 2])
        ·refine Xg 1 [.blk 2, .c 74] (Vl [(0, sV pA0 p0 pc0), (2, pt b2), (4, iA (wA (t58 + 1))), (6, pt b7)] ?_)
         exact hj162 (wA (t58 + 1)) t137 0 w141 h (h143.pk [0, 1, 2])
      clear hJ122
      refine Vc 84 55 56 h (fun hc117 h => ?_) fun hc117 h => ?_
      ·refine Xg 1 [.c 57, .blk 2, .c 74] (Vl [(0, sV pA0 p0 pc0), (2, pt b2), (4, iA t58), (6, pt b7), (84, tB true)] ?_)
       exact hj123 true w96 h (h95.pk [0, 1, 2])
      ·refine Xr (Yd 2 [(0, sV pA0 p0 pc0), (2, pt b2), (4, iA t58), (6, pt b7), (84, tB (t72 == 2))] (Vl [(0, sV pA0 p0 pc0), (2, pt b2), (4, iA t58), (6, pt b7), (84, tB (t72 == 2))] ?_))
       exact hj123 (t72 == 2) w96 h (h95.pk [0, 1, 2])
    clear hJ98
    refine Vc 69 43 44 h (fun hc93 h => ?_) fun hc93 h => ?_
    ·refine Xg 1 [.c 45, .blk 2, .c 74] (Vl [(0, sV pA0 p0 pc0), (2, pt b2), (4, iA t58), (6, pt b7), (50, iA t72), (69, tB true)] ?_)
     exact hj99 true w89 h (h88.pk [0, 1, 2])
    ·refine Xr (Yd 2 [(0, sV pA0 p0 pc0), (2, pt b2), (4, iA t58), (6, pt b7), (50, iA t72), (69, tB (t72 == 6))] (Vl [(0, sV pA0 p0 pc0), (2, pt b2), (4, iA t58), (6, pt b7), (50, iA t72), (69, tB (t72 == 6))] ?_))
     exact hj99 (t72 == 6) w89 h (h88.pk [0, 1, 2])
   clear hJ91
   refine Vc 44 33 34 h (fun hc83 h => ?_) fun hc83 h => ?_
   ·refine Xr (Yp 1 [(0, sV pA0 p0 pc0), (2, pt b2), (4, iA t58), (6, pt b7), (45, pu b7 5)] (Ya 46 2 3 b7 5 (iA t60) h78 rfl (Zp 2 [0, 2, 4, 6, 47, 48] [(47, iA (wA (t60 + 1))), (48, pu b7 5)] (Yb 2 3 b7 5 (iA (wA (t60 + 1))) [iA t72, iB 0, iB 0, iC 0, iA 0, iA (wA (t60 + 1))] h78 rfl ?_))))
    intro w84 h85 hk86
    refine Ye (Vl [(0, sV pA0 p0 pc0), (2, pt b2), (4, iA t58), (6, pt b7)] ?_)
    exact hj92 (wA (t60 + 1)) w84 h (h85.pk [0, 1, 2])
   ·refine Xg 1 [.c 35] (Vl [(0, sV pA0 p0 pc0), (2, pt b2), (4, iA t58), (6, pt b7)] ?_)
    exact hj92 t60 w79 h (h78.pk [0, 1, 2])
  clear hJ81
  rcases oc h with ⟨hc76, h⟩ | ⟨hc76, h⟩
  ·refine Yf 41 true hc76 (Zp 3 [0, 2, 4, 6, 44] [(44, tB (decide (t58 > 0)))] (Ul [(0, sV pA0 p0 pc0), (2, pt b2), (4, iA t58), (6, pt b7), (44, tB (decide (t58 > 0)))] ?_))
   exact hj82 (decide (t58 > 0)) w73 h (h74.pk [0, 1, 2])
  ·refine Yf 41 false hc76 (Zp 3 [0, 2, 4, 6, 44] [(44, tB false)] (Ul [(0, sV pA0 p0 pc0), (2, pt b2), (4, iA t58), (6, pt b7), (44, tB false)] ?_))
   exact hj82 false w73 h (h74.pk [0, 1, 2])
end

section
def charabancref34_at_33.post (M0 : Nat → Prop) (w0 : World) (r : Int × Int × Int × Int × Int × Int × (List Int) × Bool) : Ending → World → Prop := fun e w => ∃ (A7 : Option Addr) (c7 : Nat), e = .returned (.tuple #[.agg #[.int .i64 r.1, .int .u8 r.2.1, .int .u8 r.2.2.1, .int .u16 r.2.2.2.1, .int .i64 r.2.2.2.2.1, .int .i64 r.2.2.2.2.2.1], .slice A7 r.2.2.2.2.2.2.1.length c7, .bool r.2.2.2.2.2.2.2]) ∧ Holds M0 w0 w [own (Rp.int .u8) 5 (.slice A7 r.2.2.2.2.2.2.1.length c7) r.2.2.2.2.2.2.1]
def charabancref34_at_33.f (K : Nat) (p0 : List (Int × Int)) (p1 : Int) : Option (Int × Int × Int × Int × Int × Int × (List Int) × Bool) := (charabancref14_Dump_22.f K p0 p1 8).bind fun t10 => (charabancref08_Next_53.f K t10).bind fun yt19 => cond (!yt19.2.2.2.2.2.2) (cond (cutR 0 1 t10.length) (some (0, 0, 0, 0, 0, 0, (cutL t10 0 1), false)) none) (cond (cutR 0 yt19.2.2.2.2.1 t10.length) (some (yt19.1, yt19.2.1, yt19.2.2.1, yt19.2.2.2.1, yt19.2.2.2.2.1, yt19.2.2.2.2.2.1, (cutL t10 0 yt19.2.2.2.2.1), true)) none)
theorem charabancref34_at_33_ok (K : Nat) (M0 : Nat → Prop) (w0 : World) (pA0 : Option Addr) (pc0 : Nat) (p0 : List (Int × Int)) (p1 : Int) (ho : ∀ b, M0 b → b < w0.heap.size) (hs0 : Sl (Rp.pair rC rB) w0 M0 (sV pA0 p0 pc0) p0) {r : Int × Int × Int × Int × Int × Int × (List Int) × Bool} (h : charabancref34_at_33.f K p0 p1 = some r) :
  Calls Tryz.prog 33 #[sV pA0 p0 pc0, iC p1] w0 (charabancref34_at_33.post M0 w0 r) := by
 unfold charabancref34_at_33.f at h
 have h0 : Holds M0 w0 w0 [] := Holds.start ho
 have h00 := h0.aS hs0
 have h0 : Holds M0 w0 w0 [sl (Rp.pair rC rB) (sV pA0 p0 pc0) p0] := h00
 refine calls_of F33 rfl [sV pA0 p0 pc0, iC p1] (by kernel_rfl) (Xg 1 [.c 1, .c 2] (Xr (Yx 4 25 [iA 0, iB 0, iB 0, iC 0, iA 0, iA 0] h0 ?_)))
 intro w1 b2 h3 hb4 hn5
 refine Yp 2 [(0, sV pA0 p0 pc0), (1, iC p1), (4, pt b2)] (Yq 1 3 [.c 4] 2 [(4, pt b2), (10, sV pA0 p0 pc0), (11, iC p1)] ?_)
 obtain ⟨t10, hg9, h⟩ := of_bind h
 refine Yc 12 22 #[sV pA0 p0 pc0, iC p1, iA 8] ((charabancref14_Dump_22_ok K _ w1  pA0 pc0 p0 p1 8 h3.old' (h3.get 0 rfl) hg9).mono ?_)
 rintro _ w6 ⟨A11, c12, rfl, hr14⟩
 refine ⟨_, rfl, ?_⟩
 have hb7 := hr14.below
 have h8 := h3.join hr14
 refine Zp 1 [4, 7] [(7, sV A11 t10 c12)] (Zy 1 5 [.c 6] 1 [4, 7, 14] [(14, sV A11 t10 c12)] ?_)
 obtain ⟨⟨t19, t20, t21, t22, t23, t24, t25⟩, hg18, h⟩ := of_bind h
 dsimp only at h
 refine Yc 15 53 #[sV A11 t10 c12] ((charabancref08_Next_53_ok K (fun _ => False) w6  A11 c12 t10 nF (h8.ownSl 2 rfl) hg18).mono ?_)
 rintro _ w15 ⟨rfl, hb16⟩
 refine ⟨_, rfl, ?_⟩
 have h17 := h8.call hb16
 refine Zp 3 [4, 7, 16, 17] [(16, .agg #[iA t19, iB t20, iB t21, iC t22, iA t23, iA t24]), (17, tB t25)] (Yx 8 25 [iA 0, iB 0, iB 0, iC 0, iA 0, iA 0] h17 ?_)
 intro w26 b27 h28 hb29 hn30
 refine Yb 3 25 b27 0 (.agg #[iA t19, iB t20, iB t21, iC t22, iA t23, iA t24]) [iA t19, iB t20, iB t21, iC t22, iA t23, iA t24] h28 rfl ?_
 intro w31 h32 hk33
 refine Zp 1 [4, 7, 8, 9] [(8, pt b27), (9, tB t25)] (Zy 2 8 [.c 9, .c 14] 2 [4, 7, 8, 19] [(19, tB (!t25))] (Ye (Vc 19 10 13 h (fun hc34 h => ?_) fun hc34 h => ?_)))
 ·refine Xg 1 [.c 11, .c 12, .c 14] (RunsI.any 6 (by kernel_rfl) (by kernel_rfl) (by kernel_rfl) (Kp (mines (pick [sl (Rp.pair rC rB) (sV pA0 p0 pc0) p0, box b2 25 [iA 0, iB 0, iB 0, iC 0, iA 0, iA 0], own rB 5 (sV A11 t10 c12) t10, box b27 25 [iA t19, iB t20, iB t21, iC t22, iA t23, iA t24]] [1])) (World.drew w31)) ?_)
  have h36 := h32.drew
  generalize World.drew w31 = w35 at h36 ⊢
  have hS37 := Kp.refl (mines (pick [sl (Rp.pair rC rB) (sV pA0 p0 pc0) p0, box b2 25 [iA 0, iB 0, iB 0, iC 0, iA 0, iA 0], own rB 5 (sV A11 t10 c12) t10, box b27 25 [iA t19, iB t20, iB t21, iC t22, iA t23, iA t24]] [1])) w35
  refine Wu 0 20 (.agg #[iA 0, iB 0, iB 0, iC 0, iA 0, iA 0]) hS37 (Wu 1 21 (sV A11 t10 c12) hS37 (AnyE.two 2 3 (by kernel_rfl) ?_ ?_))
  ·intro w39 hu40
   have h41 := h36.call hu40
   have hS42 := hS37.up hu40
   have ⟨hc43, h⟩ := oz h
   refine OpE.cutOwn 22 2 39 5 (some 1) h41 (by kernel_rfl) rfl (by kernel_rfl) (by kernel_rfl) hc43 ?_
   intro A44 c45 h46
   refine ⟨hS42, ?_⟩
   refine AnyE.one 3 (by kernel_rfl) (fun w48 hu49 => ?_)
   have h50 := h46.call hu49
   have hS51 := hS42.up hu49
   refine OpE.storeBox 1 25 b2 0 (.agg #[iA 0, iB 0, iB 0, iC 0, iA 0, iA 0]) [iA 0, iB 0, iB 0, iC 0, iA 0, iA 0] h50 (by kernel_rfl) (by kernel_rfl) rfl (by kernel_rfl) (by kernel_rfl) (by kernel_rfl) ?_
   intro w52 h53 hk54
   have hS55 := hS51.trans hk54 (Kp.turned h36 [1] rfl 1 rfl rfl)
   refine ⟨hS55, ?_⟩
   refine Wu 4 5 (.slice A44 ((cutL t10 0 1).length) c45) hS55 (Wu 5 6 (tB false) hS55 (AnyE.done (by kernel_rfl) (fun w56 hu57 => ?_)))
   have h58 := h53.call hu57
   refine Vl [(4, pt b2), (5, .slice A44 ((cutL t10 0 1).length) c45), (6, tB false)] (RunsI.toRet (by kernel_rfl) (RetI.valW [.cell 4 25, .tmp 5, .tmp 6] [.agg #[iA 0, iB 0, iB 0, iC 0, iA 0, iA 0], .slice A44 ((cutL t10 0 1).length) c45, tB false] (.tuple #[.agg #[iA 0, iB 0, iB 0, iC 0, iA 0, iA 0], .slice A44 ((cutL t10 0 1).length) c45, tB false]) (by kernel_rfl) (ResAt.box 1 25 b2 0 h58 (by kernel_rfl) (by kernel_rfl) rfl (by kernel_rfl) (ResAt.tmp (by kernel_rfl) (by kernel_rfl) (ResAt.tmp (by kernel_rfl) (by kernel_rfl) rfl))) (by kernel_rfl) ?_))
   obtain rfl := sI h
   exact ⟨A44, c45, rfl, h58.pk [2]⟩
  ·intro w59 hu60
   have h61 := h36.call hu60
   have hS62 := hS37.up hu60
   refine OpE.storeBox 1 25 b2 0 (.agg #[iA 0, iB 0, iB 0, iC 0, iA 0, iA 0]) [iA 0, iB 0, iB 0, iC 0, iA 0, iA 0] h61 (by kernel_rfl) (by kernel_rfl) rfl (by kernel_rfl) (by kernel_rfl) (by kernel_rfl) ?_
   intro w63 h64 hk65
   have hS66 := hS62.trans hk65 (Kp.turned h36 [1] rfl 1 rfl rfl)
   refine ⟨hS66, ?_⟩
   refine AnyE.one 2 (by kernel_rfl) (fun w67 hu68 => ?_)
   have h69 := h64.call hu68
   have hS70 := hS66.up hu68
   have ⟨hc71, h⟩ := oz h
   refine OpE.cutOwn 22 2 39 5 (some 1) h69 (by kernel_rfl) rfl (by kernel_rfl) (by kernel_rfl) hc71 ?_
   intro A72 c73 h74
   refine ⟨hS70, ?_⟩
   refine Wu 4 5 (.slice A72 ((cutL t10 0 1).length) c73) hS70 (Wu 5 6 (tB false) hS70 (AnyE.done (by kernel_rfl) (fun w76 hu77 => ?_)))
   have h78 := h74.call hu77
   refine Vl [(4, pt b2), (5, .slice A72 ((cutL t10 0 1).length) c73), (6, tB false)] (RunsI.toRet (by kernel_rfl) (RetI.valW [.cell 4 25, .tmp 5, .tmp 6] [.agg #[iA 0, iB 0, iB 0, iC 0, iA 0, iA 0], .slice A72 ((cutL t10 0 1).length) c73, tB false] (.tuple #[.agg #[iA 0, iB 0, iB 0, iC 0, iA 0, iA 0], .slice A72 ((cutL t10 0 1).length) c73, tB false]) (by kernel_rfl) (ResAt.box 1 25 b2 0 h78 (by kernel_rfl) (by kernel_rfl) rfl (by kernel_rfl) (ResAt.tmp (by kernel_rfl) (by kernel_rfl) (ResAt.tmp (by kernel_rfl) (by kernel_rfl) rfl))) (by kernel_rfl) ?_))
   obtain rfl := sI h
   exact ⟨A72, c73, rfl, h78.pk [2]⟩
 ·refine Xg 1 [.c 14] (Xg 1 [.c 15, .c 16] (RunsI.any 8 (by kernel_rfl) (by kernel_rfl) (by kernel_rfl) (Kp (mines (pick [sl (Rp.pair rC rB) (sV pA0 p0 pc0) p0, box b2 25 [iA 0, iB 0, iB 0, iC 0, iA 0, iA 0], own rB 5 (sV A11 t10 c12) t10, box b27 25 [iA t19, iB t20, iB t21, iC t22, iA t23, iA t24]] [1])) (World.drew w31)) ?_))
  have h80 := h32.drew
  generalize World.drew w31 = w79 at h80 ⊢
  have hS81 := Kp.refl (mines (pick [sl (Rp.pair rC rB) (sV pA0 p0 pc0) p0, box b2 25 [iA 0, iB 0, iB 0, iC 0, iA 0, iA 0], own rB 5 (sV A11 t10 c12) t10, box b27 25 [iA t19, iB t20, iB t21, iC t22, iA t23, iA t24]] [1])) w79
  refine Wa 0 23 3 25 b27 0 (.agg #[iA t19, iB t20, iB t21, iC t22, iA t23, iA t24]) [1] h80 rfl hS81 rfl (Wu 1 24 (sV A11 t10 c12) hS81 (Wu 2 25 (pu b27 4) hS81 (Wa 3 26 3 3 b27 4 (iA t23) [1] h80 rfl hS81 rfl (AnyE.two 4 5 (by kernel_rfl) ?_ ?_))))
  ·intro w83 hu84
   have h85 := h80.call hu84
   have hS86 := hS81.up hu84
   have ⟨hc87, h⟩ := oz h
   refine OpE.cutOwn 27 2 39 5 (some t23) h85 (by kernel_rfl) rfl (by kernel_rfl) (by kernel_rfl) hc87 ?_
   intro A88 c89 h90
   refine ⟨hS86, ?_⟩
   refine AnyE.one 5 (by kernel_rfl) (fun w92 hu93 => ?_)
   have h94 := h90.call hu93
   have hS95 := hS86.up hu93
   refine OpE.storeBox 1 25 b2 0 (.agg #[iA t19, iB t20, iB t21, iC t22, iA t23, iA t24]) [iA t19, iB t20, iB t21, iC t22, iA t23, iA t24] h94 (by kernel_rfl) (by kernel_rfl) rfl (by kernel_rfl) (by kernel_rfl) (by kernel_rfl) ?_
   intro w96 h97 hk98
   have hS99 := hS95.trans hk98 (Kp.turned h80 [1] rfl 1 rfl rfl)
   refine ⟨hS99, ?_⟩
   refine Wu 6 5 (.slice A88 ((cutL t10 0 t23).length) c89) hS99 (Wu 7 6 (tB true) hS99 (AnyE.done (by kernel_rfl) (fun w100 hu101 => ?_)))
   have h102 := h97.call hu101
   refine Vl [(4, pt b2), (5, .slice A88 ((cutL t10 0 t23).length) c89), (6, tB true)] (RunsI.toRet (by kernel_rfl) (RetI.valW [.cell 4 25, .tmp 5, .tmp 6] [.agg #[iA t19, iB t20, iB t21, iC t22, iA t23, iA t24], .slice A88 ((cutL t10 0 t23).length) c89, tB true] (.tuple #[.agg #[iA t19, iB t20, iB t21, iC t22, iA t23, iA t24], .slice A88 ((cutL t10 0 t23).length) c89, tB true]) (by kernel_rfl) (ResAt.box 1 25 b2 0 h102 (by kernel_rfl) (by kernel_rfl) rfl (by kernel_rfl) (ResAt.tmp (by kernel_rfl) (by kernel_rfl) (ResAt.tmp (by kernel_rfl) (by kernel_rfl) rfl))) (by kernel_rfl) ?_))
   obtain rfl := sI h
   exact ⟨A88, c89, rfl, h102.pk [2]⟩
  ·intro w103 hu104
   have h105 := h80.call hu104
   have hS106 := hS81.up hu104
   refine OpE.storeBox 1 25 b2 0 (.agg #[iA t19, iB t20, iB t21, iC t22, iA t23, iA t24]) [iA t19, iB t20, iB t21, iC t22, iA t23, iA t24] h105 (by kernel_rfl) (by kernel_rfl) rfl (by kernel_rfl) (by kernel_rfl) (by kernel_rfl) ?_
   intro w107 h108 hk109
   have hS110 := hS106.trans hk109 (Kp.turned h80 [1] rfl 1 rfl rfl)
   refine ⟨hS110, ?_⟩
   refine AnyE.one 4 (by kernel_rfl) (fun w111 hu112 => ?_)
   have h113 := h108.call hu112
   have hS114 := hS110.up hu112
   have ⟨hc115, h⟩ := oz h
   refine OpE.cutOwn 27 2 39 5 (some t23) h113 (by kernel_rfl) rfl (by kernel_rfl) (by kernel_rfl) hc115 ?_
   intro A116 c117 h118
   refine ⟨hS114, ?_⟩
   refine Wu 6 5 (.slice A116 ((cutL t10 0 t23).length) c117) hS114 (Wu 7 6 (tB true) hS114 (AnyE.done (by kernel_rfl) (fun w120 hu121 => ?_)))
   have h122 := h118.call hu121
   refine Vl [(4, pt b2), (5, .slice A116 ((cutL t10 0 t23).length) c117), (6, tB true)] (RunsI.toRet (by kernel_rfl) (RetI.valW [.cell 4 25, .tmp 5, .tmp 6] [.agg #[iA t19, iB t20, iB t21, iC t22, iA t23, iA t24], .slice A116 ((cutL t10 0 t23).length) c117, tB true] (.tuple #[.agg #[iA t19, iB t20, iB t21, iC t22, iA t23, iA t24], .slice A116 ((cutL t10 0 t23).length) c117, tB true]) (by kernel_rfl) (ResAt.box 1 25 b2 0 h122 (by kernel_rfl) (by kernel_rfl) rfl (by kernel_rfl) (ResAt.tmp (by kernel_rfl) (by kernel_rfl) (ResAt.tmp (by kernel_rfl) (by kernel_rfl) rfl))) (by kernel_rfl) ?_))
   obtain rfl := sI h
   exact ⟨A116, c117, rfl, h122.pk [2]⟩
end

section
abbrev charabancref30_Digits_41.post := pS
def charabancref30_Digits_41.l0 (K : Nat) (p0 : List Int) : Nat → ByteArray → Int → Option ByteArray
 | 0, _, _ => none
 | k + 1, t1, t2 => cond (decide (t2 < (p0.length : Int))) (cond (inR t2 p0.length) (cond (cutR (IntKind.wrap .u8 (Int.tdiv (rdD p0 t2) 16)) (IntKind.wrap .u8 ((IntKind.wrap .u8 (Int.tdiv (rdD p0 t2) 16)) + 1)) (⟨#[48, 49, 50, 51, 52, 53, 54, 55, 56, 57, 97, 98, 99, 100, 101, 102]⟩ : ByteArray).size) (cond (mayCat t1.size (strCut (⟨#[48, 49, 50, 51, 52, 53, 54, 55, 56, 57, 97, 98, 99, 100, 101, 102]⟩ : ByteArray) (IntKind.wrap .u8 (Int.tdiv (rdD p0 t2) 16)) (IntKind.wrap .u8 ((IntKind.wrap .u8 (Int.tdiv (rdD p0 t2) 16)) + 1))).size) (cond (cutR (Int.tmod (rdD p0 t2) 16) (IntKind.wrap .u8 ((Int.tmod (rdD p0 t2) 16) + 1)) (⟨#[48, 49, 50, 51, 52, 53, 54, 55, 56, 57, 97, 98, 99, 100, 101, 102]⟩ : ByteArray).size) (cond (mayCat (t1 ++ (strCut (⟨#[48, 49, 50, 51, 52, 53, 54, 55, 56, 57, 97, 98, 99, 100, 101, 102]⟩ : ByteArray) (IntKind.wrap .u8 (Int.tdiv (rdD p0 t2) 16)) (IntKind.wrap .u8 ((IntKind.wrap .u8 (Int.tdiv (rdD p0 t2) 16)) + 1)))).size (strCut (⟨#[48, 49, 50, 51, 52, 53, 54, 55, 56, 57, 97, 98, 99, 100, 101, 102]⟩ : ByteArray) (Int.tmod (rdD p0 t2) 16) (IntKind.wrap .u8 ((Int.tmod (rdD p0 t2) 16) + 1))).size) (charabancref30_Digits_41.l0 K p0 k ((t1 ++ (strCut (⟨#[48, 49, 50, 51, 52, 53, 54, 55, 56, 57, 97, 98, 99, 100, 101, 102]⟩ : ByteArray) (IntKind.wrap .u8 (Int.tdiv (rdD p0 t2) 16)) (IntKind.wrap .u8 ((IntKind.wrap .u8 (Int.tdiv (rdD p0 t2) 16)) + 1)))) ++ (strCut (⟨#[48, 49, 50, 51, 52, 53, 54, 55, 56, 57, 97, 98, 99, 100, 101, 102]⟩ : ByteArray) (Int.tmod (rdD p0 t2) 16) (IntKind.wrap .u8 ((Int.tmod (rdD p0 t2) 16) + 1)))) (IntKind.wrap .i64 (t2 + 1))) none) none) none) none) none) (some t1)
theorem charabancref30_Digits_41.l0_ok (K : Nat) (M0 : Nat → Prop) (w0 : World) (pA0 : Option Addr) (pc0 : Nat) (p0 : List Int) (R : Ending → World → Prop) (x : ByteArray) (hk0 : ∀ (t36 : ByteArray) (w1 : World), x = t36 → Holds M0 w0 w1 [] → RunsI F41 [.c 21] [(4, tS t36)] w1 R) :
  ∀ (k : Nat) (t1 : ByteArray) (t2 : Int) (w : World), charabancref30_Digits_41.l0 K p0 k t1 t2 = some x → Holds M0 w0 w [sl rB (sV pA0 p0 pc0) p0] → RunsI F41 [.c 11, .lp 11, .blk 0, .c 21] [(0, sV pA0 p0 pc0), (3, tS sf0), (4, tS t1), (5, iA t2)] w R := by
 intro k
 induction k with
 | zero => intro t1 t2 w h hH; exact absurd h (by simp [charabancref30_Digits_41.l0])
 | succ k ih =>
  intro t1 t2 w h hH
  rw [charabancref30_Digits_41.l0.eq_2] at h
  refine Xg 1 [.c 12, .c 17, .lp 11, .blk 0, .c 21] (Xd 1 13 [.c 14, .c 17, .lp 11, .blk 0, .c 21] 4 [(0, sV pA0 p0 pc0), (3, tS sf0), (4, tS t1), (5, iA t2), (9, tB (decide (t2 < (p0.length : Int))))] (Vc 9 15 16 h (fun hc3 h => ?_) fun hc3 h => ?_))
  ·refine Xg 1 [.c 17, .lp 11, .blk 0, .c 21] (Xg 2 [.c 19, .blk 1, .c 20, .lp 11, .blk 0, .c 21] (RunsI.any 30 (by kernel_rfl) (by kernel_rfl) (by kernel_rfl) (Kp ([] : List Nat) (World.drew w)) ?_))
   have h5 := hH.drew
   generalize World.drew w = w4 at h5 ⊢
   have hS6 := Kp.refl ([] : List Nat) w4
   refine Wu 0 12 (tS t1) hS6 (Wu 1 13 (tS sf0) hS6 (Wu 2 14 (sV pA0 p0 pc0) hS6 (Wu 3 15 (iA t2) hS6 ?_)))
   have ⟨hc8, h⟩ := oz h
   refine AnyE.idxSl 4 16 0 39 t2 h5 (by kernel_rfl) hS6 rfl (by kernel_rfl) (by kernel_rfl) hc8 ?_
   intro b9 o10 cs11 hk12 h13
   obtain rfl := hk12
   refine AnyE.loadCel 5 17 1 5 b9 o10 0 (iB (rdD p0 t2)) [] h13 rfl (by kernel_rfl) hS6 rfl rfl (by kernel_rfl) (by kernel_rfl) (Wu 6 18 (iB (wB (Int.tdiv (rdD p0 t2) 16))) hS6 (Wu 7 19 (sV pA0 p0 pc0) hS6 (Wu 8 20 (iA t2) hS6 (AnyE.idxSl 9 21 0 39 t2 h13 (by kernel_rfl) hS6 rfl (by kernel_rfl) (by kernel_rfl) hc8 ?_))))
   intro b14 o15 cs16 hk17 h18
   obtain rfl := hk17
   refine AnyE.loadCel 10 22 2 5 b14 o15 0 (iB (rdD p0 t2)) [] h18 rfl (by kernel_rfl) hS6 rfl rfl (by kernel_rfl) (by kernel_rfl) (Wu 11 23 (iB (wB (Int.tdiv (rdD p0 t2) 16))) hS6 (Wu 12 24 (iB (wB ((wB (Int.tdiv (rdD p0 t2) 16)) + 1))) hS6 ?_))
   have ⟨hc19, h⟩ := oz h
   refine AnyE.run 13 25 (tS (strCut sf0 (wB (Int.tdiv (rdD p0 t2) 16)) (wB ((wB (Int.tdiv (rdD p0 t2) 16)) + 1)))) (by kernel_rfl) hS6 (fun _ hk => run_strCut (T := 9) (s := sf0) (lo := (some (wB (Int.tdiv (rdD p0 t2) 16)))) (hi := (some (wB ((wB (Int.tdiv (rdD p0 t2) 16)) + 1)))) (by kernel_rfl) (by kernel_rfl) hc19) ?_
   have ⟨hc20, h⟩ := oz h
   refine Wt 14 26 t1 (strCut sf0 (wB (Int.tdiv (rdD p0 t2) 16)) (wB ((wB (Int.tdiv (rdD p0 t2) 16)) + 1))) hS6 hc20 (Wu 15 27 (tS sf0) hS6 (Wu 16 28 (sV pA0 p0 pc0) hS6 (Wu 17 29 (iA t2) hS6 (AnyE.idxSl 18 30 0 39 t2 h18 (by kernel_rfl) hS6 rfl (by kernel_rfl) (by kernel_rfl) hc8 ?_))))
   intro b21 o22 cs23 hk24 h25
   obtain rfl := hk24
   refine AnyE.loadCel 19 31 3 5 b21 o22 0 (iB (rdD p0 t2)) [] h25 rfl (by kernel_rfl) hS6 rfl rfl (by kernel_rfl) (by kernel_rfl) (Wu 20 32 (iB (Int.tmod (rdD p0 t2) 16)) hS6 (Wu 21 33 (sV pA0 p0 pc0) hS6 (Wu 22 34 (iA t2) hS6 (AnyE.idxSl 23 35 0 39 t2 h25 (by kernel_rfl) hS6 rfl (by kernel_rfl) (by kernel_rfl) hc8 ?_))))
   intro b26 o27 cs28 hk29 h30
   obtain rfl := hk29
   refine AnyE.loadCel 24 36 4 5 b26 o27 0 (iB (rdD p0 t2)) [] h30 rfl (by kernel_rfl) hS6 rfl rfl (by kernel_rfl) (by kernel_rfl) (Wu 25 37 (iB (Int.tmod (rdD p0 t2) 16)) hS6 (Wu 26 38 (iB (wB ((Int.tmod (rdD p0 t2) 16) + 1))) hS6 ?_))
   have ⟨hc31, h⟩ := oz h
   refine AnyE.run 27 39 (tS (strCut sf0 (Int.tmod (rdD p0 t2) 16) (wB ((Int.tmod (rdD p0 t2) 16) + 1)))) (by kernel_rfl) hS6 (fun _ hk => run_strCut (T := 9) (s := sf0) (lo := (some (Int.tmod (rdD p0 t2) 16))) (hi := (some (wB ((Int.tmod (rdD p0 t2) 16) + 1)))) (by kernel_rfl) (by kernel_rfl) hc31) ?_
   have ⟨hc32, h⟩ := oz h
   refine Wt 28 40 (t1 ++ (strCut sf0 (wB (Int.tdiv (rdD p0 t2) 16)) (wB ((wB (Int.tdiv (rdD p0 t2) 16)) + 1)))) (strCut sf0 (Int.tmod (rdD p0 t2) 16) (wB ((Int.tmod (rdD p0 t2) 16) + 1))) hS6 hc32 (Wu 29 4 (tS ((t1 ++ (strCut sf0 (wB (Int.tdiv (rdD p0 t2) 16)) (wB ((wB (Int.tdiv (rdD p0 t2) 16)) + 1)))) ++ (strCut sf0 (Int.tmod (rdD p0 t2) 16) (wB ((Int.tmod (rdD p0 t2) 16) + 1))))) hS6 (AnyE.done (by kernel_rfl) (fun w33 hu34 => ?_)))
   have h35 := h30.call hu34
   refine Vl [(0, sV pA0 p0 pc0), (3, tS sf0), (4, tS ((t1 ++ (strCut sf0 (wB (Int.tdiv (rdD p0 t2) 16)) (wB ((wB (Int.tdiv (rdD p0 t2) 16)) + 1)))) ++ (strCut sf0 (Int.tmod (rdD p0 t2) 16) (wB ((Int.tmod (rdD p0 t2) 16) + 1))))), (5, iA t2)] (Ze 1 20 [.lp 11, .blk 0, .c 21] 3 [0, 3, 4, 5] [(5, iA (wA (t2 + 1)))] (Xg 1 [.c 11, .lp 11, .blk 0, .c 21] (Vl [(0, sV pA0 p0 pc0), (3, tS sf0), (4, tS ((t1 ++ (strCut sf0 (wB (Int.tdiv (rdD p0 t2) 16)) (wB ((wB (Int.tdiv (rdD p0 t2) 16)) + 1)))) ++ (strCut sf0 (Int.tmod (rdD p0 t2) 16) (wB ((Int.tmod (rdD p0 t2) 16) + 1))))), (5, iA (wA (t2 + 1)))] ?_)))
   exact ih ((t1 ++ (strCut sf0 (wB (Int.tdiv (rdD p0 t2) 16)) (wB ((wB (Int.tdiv (rdD p0 t2) 16)) + 1)))) ++ (strCut sf0 (Int.tmod (rdD p0 t2) 16) (wB ((Int.tmod (rdD p0 t2) 16) + 1)))) (wA (t2 + 1)) w33 h (h35.pk [0])
  ·refine Xg 1 [.c 21] (Vl [(4, tS t1)] ?_)
   exact hk0 t1 w (sI h).symm (hH.pk [])
def charabancref30_Digits_41.f (K : Nat) (p0 : List Int) : Option ByteArray := (charabancref30_Digits_41.l0 K p0 K (⟨#[]⟩ : ByteArray) 0).bind (fun t39 => some t39)
theorem charabancref30_Digits_41_ok (K : Nat) (M0 : Nat → Prop) (w0 : World) (pA0 : Option Addr) (pc0 : Nat) (p0 : List Int) (ho : ∀ b, M0 b → b < w0.heap.size) (hs0 : Sl rB w0 M0 (sV pA0 p0 pc0) p0) {r : ByteArray} (h : charabancref30_Digits_41.f K p0 = some r) :
  Calls Tryz.prog 41 #[sV pA0 p0 pc0] w0 (charabancref30_Digits_41.post M0 w0 r) := by
 unfold charabancref30_Digits_41.f at h
 have h0 : Holds M0 w0 w0 [] := Holds.start ho
 have h00 := h0.aS hs0
 have h0 : Holds M0 w0 w0 [sl rB (sV pA0 p0 pc0) p0] := h00
 refine calls_of F41 rfl [sV pA0 p0 pc0] (by kernel_rfl) (Xq 1 1 [.c 2] 1 [(0, sV pA0 p0 pc0)] (Zy 1 3 [.c 4] 1 [0, 3] [(3, tS sf0)] (Zy 1 5 [.c 6] 1 [0, 3, 4] [(4, tS (⟨#[]⟩ : ByteArray))] (Zy 2 8 [.c 9, .c 21] 1 [0, 3, 4, 5] [(5, iA 0)] (Ye (Xg 2 [.c 11, .lp 11, .blk 0, .c 21] ?_))))))
 obtain ⟨x37, hx38, h⟩ := of_bind h
 refine Vl [(0, sV pA0 p0 pc0), (3, tS sf0), (4, tS (⟨#[]⟩ : ByteArray)), (5, iA 0)] (charabancref30_Digits_41.l0_ok K M0 w0 pA0 pc0 p0 _ x37 ?_ K (⟨#[]⟩ : ByteArray) 0 w0 hx38 (h0.pk [0]))
 ·intro t39 w41 hq42 h40
  (try rw [hq42] at h)
  refine Xd 1 22 [.c 23] 2 [(2, tS t39)] ?_
  obtain rfl := sI h
  exact Xt (tS t39) ⟨rfl, h40.below⟩
end

section
abbrev charabancref01_Signed_28.post := pI
def charabancref01_Signed_28.f (K : Nat) (p0 : Int) : Option Int := cond (decide (p0 < 128)) (some (IntKind.wrap .i64 p0)) (some (IntKind.wrap .i64 ((IntKind.wrap .i64 p0) - 256)))
theorem charabancref01_Signed_28_ok (K : Nat) (M0 : Nat → Prop) (w0 : World) (p0 : Int) (ho : ∀ b, M0 b → b < w0.heap.size) {r : Int} (h : charabancref01_Signed_28.f K p0 = some r) :
  Calls Tryz.prog 28 #[iB p0] w0 (charabancref01_Signed_28.post M0 w0 r) := by
 unfold charabancref01_Signed_28.f at h
 have h0 : Holds M0 w0 w0 [] := Holds.start ho
 refine calls_of F28 rfl [iB p0] (by kernel_rfl) (Xq 1 1 [.c 2] 1 [(0, iB p0)] (Zy 2 4 [.c 5, .c 10] 2 [0, 4] [(4, tB (decide (p0 < 128)))] (Ye (Vc 4 6 9 h (fun hc1 h => ?_) fun hc1 h => ?_))))
 ·refine Xd 1 7 [.c 8, .c 10] 3 [(2, iA (wA p0))] ?_
  obtain rfl := sI h
  exact Xt (iA (wA p0)) ⟨rfl, h0.below⟩
 ·refine Xg 1 [.c 10] (Xd 1 11 [.c 12] 4 [(2, iA (wA ((wA p0) - 256)))] ?_)
  obtain rfl := sI h
  exact Xt (iA (wA ((wA p0) - 256))) ⟨rfl, h0.below⟩
end

section
abbrev charabancref09_name_114.post := pS
def charabancref09_name_114.f (K : Nat) (p0 : Int) : Option ByteArray := Let (fun (t2 : Bool) => cond t2 (some (⟨#[105, 120]⟩ : ByteArray)) (some (⟨#[105, 121]⟩ : ByteArray))) (fun j5 => cond (p0 == 3) (j5 true) (j5 (p0 == 5)))
theorem charabancref09_name_114_ok (K : Nat) (M0 : Nat → Prop) (w0 : World) (p0 : Int) (ho : ∀ b, M0 b → b < w0.heap.size) {r : ByteArray} (h : charabancref09_name_114.f K p0 = some r) :
  Calls Tryz.prog 114 #[iA p0] w0 (charabancref09_name_114.post M0 w0 r) := by
 unfold charabancref09_name_114.f at h
 have h0 : Holds M0 w0 w0 [] := Holds.start ho
 refine calls_of F114 rfl [iA p0] (by kernel_rfl) (Xq 1 1 [.c 2] 1 [(0, iA p0)] (Zy 2 4 [.c 5, .c 10] 3 [0, 5] [(5, tB (p0 == 3))] ?_))
 obtain ⟨j5, hJ6, h⟩ := of_let h
 have hj7 : ∀ (t2 : Bool) (w4 : World), j5 t2 = some r → Holds M0 w0 w4 [] → RegI F114 4 [.c 5, .c 10] 6 [(8, tB t2)] w4 (charabancref09_name_114.post M0 w0 r) := by
  intro t2 w4 h h3
  rw [hJ6] at h
  clear hJ6
  dsimp only at h
  refine Ye (Vc 8 6 9 h (fun hc8 h => ?_) fun hc8 h => ?_)
  ·refine Xd 1 7 [.c 8, .c 10] 1 [(2, tS (⟨#[105, 120]⟩ : ByteArray))] ?_
   obtain rfl := sI h
   exact Xt (tS (⟨#[105, 120]⟩ : ByteArray)) ⟨rfl, h3.below⟩
  ·refine Xg 1 [.c 10] (Xd 1 11 [.c 12] 1 [(2, tS (⟨#[105, 121]⟩ : ByteArray))] ?_)
   obtain rfl := sI h
   exact Xt (tS (⟨#[105, 121]⟩ : ByteArray)) ⟨rfl, h3.below⟩
 clear hJ6
 rcases oc h with ⟨hc1, h⟩ | ⟨hc1, h⟩
 ·refine Yf 5 true hc1 (Yp 3 [(8, tB true)] (Ul [(8, tB true)] ?_))
  exact hj7 true w0 h (h0.pk [])
 ·refine Yf 5 false hc1 (Yp 3 [(8, tB (p0 == 5))] (Ul [(8, tB (p0 == 5))] ?_))
  exact hj7 (p0 == 5) w0 h (h0.pk [])
end

section
abbrev charabancref09_digits_74.post := pS
def charabancref09_digits_74.l0 (K : Nat) (p0 : Int) (p1 : Int) (p2 : Int) : Nat → Int → ByteArray → Option ByteArray
 | 0, _, _ => none
 | k + 1, t1, t2 => Let (fun (t5 : Bool) => cond t5 (cond (p1 != 0) (cond (cutR (Int.tmod t1 p1) (IntKind.wrap .i64 ((Int.tmod t1 p1) + 1)) (⟨#[48, 49, 50, 51, 52, 53, 54, 55, 56, 57, 97, 98, 99, 100, 101, 102]⟩ : ByteArray).size) (cond (mayCat (strCut (⟨#[48, 49, 50, 51, 52, 53, 54, 55, 56, 57, 97, 98, 99, 100, 101, 102]⟩ : ByteArray) (Int.tmod t1 p1) (IntKind.wrap .i64 ((Int.tmod t1 p1) + 1))).size t2.size) (charabancref09_digits_74.l0 K p0 p1 p2 k (IntKind.wrap .i64 (Int.tdiv t1 p1)) ((strCut (⟨#[48, 49, 50, 51, 52, 53, 54, 55, 56, 57, 97, 98, 99, 100, 101, 102]⟩ : ByteArray) (Int.tmod t1 p1) (IntKind.wrap .i64 ((Int.tmod t1 p1) + 1))) ++ t2)) none) none) none) (some t2)) (fun j8 => cond (decide (t1 > 0)) (j8 true) (cond (decide ((t2.size : Int) < p2)) (j8 true) (j8 ((ByteArray.toList t2) == (ByteArray.toList (⟨#[]⟩ : ByteArray))))))
theorem charabancref09_digits_74.l0_ok (K : Nat) (M0 : Nat → Prop) (w0 : World) (p0 : Int) (p1 : Int) (p2 : Int) (R : Ending → World → Prop) (x : ByteArray) (hk0 : ∀ (t22 : ByteArray) (w1 : World), x = t22 → Holds M0 w0 w1 [] → RunsI F74 [.c 19] [(8, tS t22)] w1 R) :
  ∀ (k : Nat) (t1 : Int) (t2 : ByteArray) (w : World), charabancref09_digits_74.l0 K p0 p1 p2 k t1 t2 = some x → Holds M0 w0 w [] → RunsI F74 [.c 9, .lp 9, .blk 0, .c 19] [(0, iA t1), (1, iA p1), (2, iA p2), (7, tS sf0), (8, tS t2)] w R := by
 intro k
 induction k with
 | zero => intro t1 t2 w h hH; exact absurd h (by simp [charabancref09_digits_74.l0])
 | succ k ih =>
  intro t1 t2 w h hH
  rw [charabancref09_digits_74.l0.eq_2] at h
  refine Xg 1 [.c 10, .c 15, .lp 9, .blk 0, .c 19] (Xq 1 11 [.c 12, .c 15, .lp 9, .blk 0, .c 19] 3 [(0, iA t1), (1, iA p1), (2, iA p2), (7, tS sf0), (8, tS t2), (11, tB (decide (t1 > 0)))] ?_)
  obtain ⟨j8, hJ9, h⟩ := of_let h
  have hj10 : ∀ (t5 : Bool) (w7 : World), j8 t5 = some x → Holds M0 w0 w7 [] → RegI F74 11 [.c 12, .c 15, .lp 9, .blk 0, .c 19] 12 [(0, iA t1), (1, iA p1), (2, iA p2), (7, tS sf0), (8, tS t2), (20, tB t5)] w7 R := by
   intro t5 w7 h h6
   rw [hJ9] at h
   clear hJ9
   dsimp only at h
   refine Ye (Vc 20 13 14 h (fun hc11 h => ?_) fun hc11 h => ?_)
   ·refine Xg 1 [.c 15, .lp 9, .blk 0, .c 19] (Xg 2 [.c 17, .c 18, .blk 1, .lp 9, .blk 0, .c 19] (RunsI.any 12 (by kernel_rfl) (by kernel_rfl) (by kernel_rfl) (Kp ([] : List Nat) (World.drew w7)) ?_))
    have h13 := h6.drew
    generalize World.drew w7 = w12 at h13 ⊢
    have hS14 := Kp.refl ([] : List Nat) w12
    refine Wu 0 21 (tS sf0) hS14 (Wu 1 22 (iA t1) hS14 (Wu 2 23 (iA p1) hS14 ?_))
    have ⟨hc16, h⟩ := oz h
    refine AnyE.run 3 24 (iA (Int.tmod t1 p1)) (by kernel_rfl) hS14 (fun _ hk => run_rem (k := .i64) (a := t1) (b := p1) (by kernel_rfl) hc16) (Wu 4 25 (iA t1) hS14 (Wu 5 26 (iA p1) hS14 (AnyE.run 6 27 (iA (Int.tmod t1 p1)) (by kernel_rfl) hS14 (fun _ hk => run_rem (k := .i64) (a := t1) (b := p1) (by kernel_rfl) hc16) (Wu 7 28 (iA (wA ((Int.tmod t1 p1) + 1))) hS14 ?_))))
    have ⟨hc17, h⟩ := oz h
    refine AnyE.run 8 29 (tS (strCut sf0 (Int.tmod t1 p1) (wA ((Int.tmod t1 p1) + 1)))) (by kernel_rfl) hS14 (fun _ hk => run_strCut (T := 9) (s := sf0) (lo := (some (Int.tmod t1 p1))) (hi := (some (wA ((Int.tmod t1 p1) + 1)))) (by kernel_rfl) (by kernel_rfl) hc17) (Wu 9 30 (tS t2) hS14 ?_)
    have ⟨hc18, h⟩ := oz h
    refine Wt 10 31 (strCut sf0 (Int.tmod t1 p1) (wA ((Int.tmod t1 p1) + 1))) t2 hS14 hc18 (Wu 11 8 (tS ((strCut sf0 (Int.tmod t1 p1) (wA ((Int.tmod t1 p1) + 1))) ++ t2)) hS14 (AnyE.done (by kernel_rfl) (fun w19 hu20 => ?_)))
    have h21 := h13.call hu20
    refine Vl [(0, iA t1), (1, iA p1), (2, iA p2), (7, tS sf0), (8, tS ((strCut sf0 (Int.tmod t1 p1) (wA ((Int.tmod t1 p1) + 1))) ++ t2))] (Xr (Zp 2 [1, 2, 7, 8, 32, 33] [(32, iA t1), (33, iA p1)] (Yo (OpE.run 34 (by kernel_rfl) (run_quo (k := .i64) (a := t1) (b := p1) (by kernel_rfl) hc16) (Zd 1 [0, 1, 2, 7, 8] [(0, iA (wA (Int.tdiv t1 p1)))] (Xg 2 [.c 9, .lp 9, .blk 0, .c 19] (Vl [(0, iA (wA (Int.tdiv t1 p1))), (1, iA p1), (2, iA p2), (7, tS sf0), (8, tS ((strCut sf0 (Int.tmod t1 p1) (wA ((Int.tmod t1 p1) + 1))) ++ t2))] ?_)))))))
    exact ih (wA (Int.tdiv t1 p1)) ((strCut sf0 (Int.tmod t1 p1) (wA ((Int.tmod t1 p1) + 1))) ++ t2) w19 h (h21.pk [])
   ·refine Xg 1 [.c 19] (Vl [(8, tS t2)] ?_)
    exact hk0 t2 w7 (sI h).symm (h6.pk [])
  clear hJ9
  rcases oc h with ⟨hc3, h⟩ | ⟨hc3, h⟩
  ·refine Yf 11 true hc3 (Zp 9 [0, 1, 2, 7, 8, 20] [(20, tB true)] (Ul [(0, iA t1), (1, iA p1), (2, iA p2), (7, tS sf0), (8, tS t2), (20, tB true)] ?_))
   exact hj10 true w h (hH.pk [])
  ·refine Yf 11 false hc3 (Zp 6 [0, 1, 2, 7, 8, 17] [(17, tB (decide ((t2.size : Int) < p2)))] ?_)
   rcases oc h with ⟨hc4, h⟩ | ⟨hc4, h⟩
   ·refine Yf 17 true hc4 (Zp 3 [0, 1, 2, 7, 8, 20] [(20, tB true)] (Ul [(0, iA t1), (1, iA p1), (2, iA p2), (7, tS sf0), (8, tS t2), (20, tB true)] ?_))
    exact hj10 true w h (hH.pk [])
   ·refine Yf 17 false hc4 (Zp 3 [0, 1, 2, 7, 8, 20] [(20, tB ((ByteArray.toList t2) == (ByteArray.toList (⟨#[]⟩ : ByteArray))))] (Ul [(0, iA t1), (1, iA p1), (2, iA p2), (7, tS sf0), (8, tS t2), (20, tB ((ByteArray.toList t2) == (ByteArray.toList (⟨#[]⟩ : ByteArray))))] ?_))
    exact hj10 ((ByteArray.toList t2) == (ByteArray.toList (⟨#[]⟩ : ByteArray))) w h (hH.pk [])
def charabancref09_digits_74.f (K : Nat) (p0 : Int) (p1 : Int) (p2 : Int) : Option ByteArray := (charabancref09_digits_74.l0 K p0 p1 p2 K p0 (⟨#[]⟩ : ByteArray)).bind (fun t25 => some t25)
theorem charabancref09_digits_74_ok (K : Nat) (M0 : Nat → Prop) (w0 : World) (p0 : Int) (p1 : Int) (p2 : Int) (ho : ∀ b, M0 b → b < w0.heap.size) {r : ByteArray} (h : charabancref09_digits_74.f K p0 p1 p2 = some r) :
  Calls Tryz.prog 74 #[iA p0, iA p1, iA p2] w0 (charabancref09_digits_74.post M0 w0 r) := by
 unfold charabancref09_digits_74.f at h
 have h0 : Holds M0 w0 w0 [] := Holds.start ho
 refine calls_of F74 rfl [iA p0, iA p1, iA p2] (by kernel_rfl) (Xq 1 1 [.c 2] 1 [(0, iA p0), (1, iA p1), (2, iA p2)] (Zy 1 3 [.c 4] 1 [0, 1, 2, 7] [(7, tS sf0)] (Zy 1 5 [.c 6] 1 [0, 1, 2, 7, 8] [(8, tS (⟨#[]⟩ : ByteArray))] (Ye (Xg 3 [.c 9, .lp 9, .blk 0, .c 19] ?_)))))
 obtain ⟨x23, hx24, h⟩ := of_bind h
 refine Vl [(0, iA p0), (1, iA p1), (2, iA p2), (7, tS sf0), (8, tS (⟨#[]⟩ : ByteArray))] (charabancref09_digits_74.l0_ok K M0 w0 p0 p1 p2 _ x23 ?_ K p0 (⟨#[]⟩ : ByteArray) w0 hx24 (h0.pk []))
 ·intro t25 w27 hq28 h26
  (try rw [hq28] at h)
  refine Xd 1 20 [.c 21] 2 [(6, tS t25)] ?_
  obtain rfl := sI h
  exact Xt (tS t25) ⟨rfl, h26.below⟩
end

section
abbrev charabancref09_sign_156.post := pS
def charabancref09_sign_156.f (K : Nat) (p0 : Int) : Option ByteArray := cond (decide (p0 < 0)) ((charabancref09_digits_74.f K (IntKind.wrap .i64 (0 - p0)) 10 1).bind fun t6 => cond (mayCat (⟨#[45]⟩ : ByteArray).size t6.size) (some ((⟨#[45]⟩ : ByteArray) ++ t6)) none) ((charabancref09_digits_74.f K p0 10 1).bind fun t12 => cond (mayCat (⟨#[43]⟩ : ByteArray).size t12.size) (some ((⟨#[43]⟩ : ByteArray) ++ t12)) none)
theorem charabancref09_sign_156_ok (K : Nat) (M0 : Nat → Prop) (w0 : World) (p0 : Int) (ho : ∀ b, M0 b → b < w0.heap.size) {r : ByteArray} (h : charabancref09_sign_156.f K p0 = some r) :
  Calls Tryz.prog 156 #[iA p0] w0 (charabancref09_sign_156.post M0 w0 r) := by
 unfold charabancref09_sign_156.f at h
 have h0 : Holds M0 w0 w0 [] := Holds.start ho
 refine calls_of F156 rfl [iA p0] (by kernel_rfl) (Xq 1 1 [.c 2] 1 [(0, iA p0)] (Zy 2 4 [.c 5, .c 10] 2 [0, 4] [(4, tB (decide (p0 < 0)))] (Ye (Vc 4 6 9 h (fun hc1 h => ?_) fun hc1 h => ?_))))
 ·refine Xq 1 7 [.c 8, .c 10] 2 [(6, iA (wA (0 - p0)))] ?_
  obtain ⟨t6, hg5, h⟩ := of_bind h
  refine Yc 7 74 #[iA (wA (0 - p0)), iA 10, iA 1] ((charabancref09_digits_74_ok K _ w0  (wA (0 - p0)) 10 1 h0.old' hg5).mono ?_)
  rintro _ w2 ⟨rfl, hb3⟩
  refine ⟨_, rfl, ?_⟩
  have h4 := h0.call hb3
  have ⟨hc7, h⟩ := oz h
  refine Yt 8 sf16 t6 hc7 (Yd 1 [(2, tS (sf16 ++ t6))] ?_)
  obtain rfl := sI h
  exact Xt (tS (sf16 ++ t6)) ⟨rfl, h4.below⟩
 ·refine Xg 1 [.c 10] (Xq 1 11 [.c 12] 1 [(9, iA p0)] ?_)
  obtain ⟨t12, hg11, h⟩ := of_bind h
  refine Yc 10 74 #[iA p0, iA 10, iA 1] ((charabancref09_digits_74_ok K _ w0  p0 10 1 h0.old' hg11).mono ?_)
  rintro _ w8 ⟨rfl, hb9⟩
  refine ⟨_, rfl, ?_⟩
  have h10 := h0.call hb9
  have ⟨hc13, h⟩ := oz h
  refine Yt 11 (⟨#[43]⟩ : ByteArray) t12 hc13 (Yd 1 [(2, tS ((⟨#[43]⟩ : ByteArray) ++ t12))] ?_)
  obtain rfl := sI h
  exact Xt (tS ((⟨#[43]⟩ : ByteArray) ++ t12)) ⟨rfl, h10.below⟩
end

section
abbrev charabancref09_Index_106.post := pS
def charabancref09_Index_106.f (K : Nat) (p0 : Int) (p1 : Int) : Option ByteArray := (charabancref09_name_114.f K p0).bind fun t5 => cond (mayCat (⟨#[40]⟩ : ByteArray).size t5.size) ((charabancref01_Signed_28.f K p1).bind fun t11 => (charabancref09_sign_156.f K t11).bind fun t16 => cond (mayCat ((⟨#[40]⟩ : ByteArray) ++ t5).size t16.size) (cond (mayCat (((⟨#[40]⟩ : ByteArray) ++ t5) ++ t16).size (⟨#[41]⟩ : ByteArray).size) (some ((((⟨#[40]⟩ : ByteArray) ++ t5) ++ t16) ++ (⟨#[41]⟩ : ByteArray))) none) none) none
theorem charabancref09_Index_106_ok (K : Nat) (M0 : Nat → Prop) (w0 : World) (p0 : Int) (p1 : Int) (ho : ∀ b, M0 b → b < w0.heap.size) {r : ByteArray} (h : charabancref09_Index_106.f K p0 p1 = some r) :
  Calls Tryz.prog 106 #[iA p0, iB p1] w0 (charabancref09_Index_106.post M0 w0 r) := by
 unfold charabancref09_Index_106.f at h
 have h0 : Holds M0 w0 w0 [] := Holds.start ho
 refine calls_of F106 rfl [iA p0, iB p1] (by kernel_rfl) (Xq 1 1 [.c 2] 1 [(0, iA p0), (1, iB p1)] (Zy 1 3 [.c 4] 1 [1, 5] [(5, iA p0)] ?_))
 obtain ⟨t5, hg4, h⟩ := of_bind h
 refine Yc 6 114 #[iA p0] ((charabancref09_name_114_ok K _ w0  p0 h0.old' hg4).mono ?_)
 rintro _ w1 ⟨rfl, hb2⟩
 refine ⟨_, rfl, ?_⟩
 have h3 := h0.call hb2
 have ⟨hc6, h⟩ := oz h
 refine Yt 7 sf17 t5 hc6 (Yp 1 [(7, tS (sf17 ++ t5)), (8, iB p1)] ?_)
 obtain ⟨t11, hg10, h⟩ := of_bind h
 refine Yc 9 28 #[iB p1] ((charabancref01_Signed_28_ok K _ w1  p1 h3.old' hg10).mono ?_)
 rintro _ w7 ⟨rfl, hb8⟩
 refine ⟨_, rfl, ?_⟩
 have h9 := h3.call hb8
 obtain ⟨t16, hg15, h⟩ := of_bind h
 refine Yc 10 156 #[iA t11] ((charabancref09_sign_156_ok K _ w7  t11 h9.old' hg15).mono ?_)
 rintro _ w12 ⟨rfl, hb13⟩
 refine ⟨_, rfl, ?_⟩
 have h14 := h9.call hb13
 have ⟨hc17, h⟩ := oz h
 refine Yt 11 (sf17 ++ t5) t16 hc17 ?_
 have ⟨hc18, h⟩ := oz h
 refine Yt 12 ((sf17 ++ t5) ++ t16) (⟨#[41]⟩ : ByteArray) hc18 (Yd 1 [(4, tS (((sf17 ++ t5) ++ t16) ++ (⟨#[41]⟩ : ByteArray)))] ?_)
 obtain rfl := sI h
 exact Xt (tS (((sf17 ++ t5) ++ t16) ++ (⟨#[41]⟩ : ByteArray))) ⟨rfl, h14.below⟩
end

section
abbrev charabancref09_indexed_113.post := pB
def charabancref09_indexed_113.f (K : Nat) (p0_0 : Int) (p0_1 : Int) (p0_2 : Int) (p0_3 : Int) (p0_4 : Int) (p0_5 : Int) : Option Bool := cond (p0_0 == 3) (some true) (some (p0_0 == 4))
theorem charabancref09_indexed_113_ok (K : Nat) (M0 : Nat → Prop) (w0 : World) (a0 : Int) (a1 : Int) (a2 : Int) (a3 : Int) (a4 : Int) (a5 : Int) (ho : ∀ b, M0 b → b < w0.heap.size) {r : Bool} (h : charabancref09_indexed_113.f K a0 a1 a2 a3 a4 a5 = some r) :
  Calls Tryz.prog 113 #[.agg #[iA a0, iB a1, iB a2, iC a3, iA a4, iA a5]] w0 (charabancref09_indexed_113.post M0 w0 r) := by
 unfold charabancref09_indexed_113.f at h
 have h0 : Holds M0 w0 w0 [] := Holds.start ho
 refine calls_of F113 rfl [.agg #[iA a0, iB a1, iB a2, iC a3, iA a4, iA a5]] (by kernel_rfl) (Xg 1 [.c 1, .c 2] (Xr (Yx 1 25 [iA a0, iB a1, iB a2, iC a3, iA a4, iA a5] h0 ?_)))
 intro w1 b2 h3 hb4 hn5
 refine Yp 1 [(1, pt b2)] (Zy 1 3 [.c 4] 1 [1, 3] [(3, pt b2)] (Ya 4 0 3 b2 0 (iA a0) h3 rfl (Zp 2 [1, 6] [(6, tB (a0 == 3))] ?_)))
 rcases oc h with ⟨hc6, h⟩ | ⟨hc6, h⟩
 ·refine Yf 6 true hc6 (Yd 5 [(2, tB true)] ?_)
  obtain rfl := sI h
  exact Xt (tB true) ⟨rfl, h3.below⟩
 ·refine Yf 6 false hc6 (Zp 1 [6, 7] [(7, pt b2)] (Ya 8 0 3 b2 0 (iA a0) h3 rfl (Yd 3 [(2, tB (a0 == 4))] ?_)))
  obtain rfl := sI h
  exact Xt (tB (a0 == 4)) ⟨rfl, h3.below⟩
end

section
abbrev charabancref09_reg_71.post := pS
def charabancref09_reg_71.f (K : Nat) (p0_0 : Int) (p0_1 : Int) (p0_2 : Int) (p0_3 : Int) (p0_4 : Int) (p0_5 : Int) (p1 : Int) : Option ByteArray := (charabancref09_indexed_113.f K p0_0 p0_1 p0_2 p0_3 p0_4 p0_5).bind fun t15 => (charabancref08_Near_83.f K p0_0 p0_1).bind fun t20 => Let (fun (t24 : Bool) => cond t24 ((charabancref09_Index_106.f K p0_0 p0_2).bind fun t35 => some t35) (Let (fun (t39 : Bool) => cond t39 ((charabancref09_name_114.f K p0_0).bind fun t51 => cond (inR p1 ([(⟨#[98]⟩ : ByteArray), (⟨#[99]⟩ : ByteArray), (⟨#[100]⟩ : ByteArray), (⟨#[101]⟩ : ByteArray), (⟨#[104]⟩ : ByteArray), (⟨#[108]⟩ : ByteArray), (⟨#[40, 104, 108, 41]⟩ : ByteArray), (⟨#[97]⟩ : ByteArray)] : List ByteArray).length) (cond (mayCat t51.size (rdD ([(⟨#[98]⟩ : ByteArray), (⟨#[99]⟩ : ByteArray), (⟨#[100]⟩ : ByteArray), (⟨#[101]⟩ : ByteArray), (⟨#[104]⟩ : ByteArray), (⟨#[108]⟩ : ByteArray), (⟨#[40, 104, 108, 41]⟩ : ByteArray), (⟨#[97]⟩ : ByteArray)] : List ByteArray) p1).size) (some (t51 ++ (rdD ([(⟨#[98]⟩ : ByteArray), (⟨#[99]⟩ : ByteArray), (⟨#[100]⟩ : ByteArray), (⟨#[101]⟩ : ByteArray), (⟨#[104]⟩ : ByteArray), (⟨#[108]⟩ : ByteArray), (⟨#[40, 104, 108, 41]⟩ : ByteArray), (⟨#[97]⟩ : ByteArray)] : List ByteArray) p1))) none) none) (cond (inR p1 ([(⟨#[98]⟩ : ByteArray), (⟨#[99]⟩ : ByteArray), (⟨#[100]⟩ : ByteArray), (⟨#[101]⟩ : ByteArray), (⟨#[104]⟩ : ByteArray), (⟨#[108]⟩ : ByteArray), (⟨#[40, 104, 108, 41]⟩ : ByteArray), (⟨#[97]⟩ : ByteArray)] : List ByteArray).length) (some (rdD ([(⟨#[98]⟩ : ByteArray), (⟨#[99]⟩ : ByteArray), (⟨#[100]⟩ : ByteArray), (⟨#[101]⟩ : ByteArray), (⟨#[104]⟩ : ByteArray), (⟨#[108]⟩ : ByteArray), (⟨#[40, 104, 108, 41]⟩ : ByteArray), (⟨#[97]⟩ : ByteArray)] : List ByteArray) p1)) none)) (fun j42 => cond t15 (cond (!t20) (cond (p1 == 4) (j42 true) (j42 (p1 == 5))) (j42 false)) (j42 false)))) (fun j27 => cond t15 (j27 (p1 == 6)) (j27 false))
theorem charabancref09_reg_71_ok (K : Nat) (M0 : Nat → Prop) (w0 : World) (a0 : Int) (a1 : Int) (a2 : Int) (a3 : Int) (a4 : Int) (a5 : Int) (p1 : Int) (ho : ∀ b, M0 b → b < w0.heap.size) {r : ByteArray} (h : charabancref09_reg_71.f K a0 a1 a2 a3 a4 a5 p1 = some r) :
  Calls Tryz.prog 71 #[.agg #[iA a0, iB a1, iB a2, iC a3, iA a4, iA a5], iA p1] w0 (charabancref09_reg_71.post M0 w0 r) := by
 unfold charabancref09_reg_71.f at h
 have h0 : Holds M0 w0 w0 [] := Holds.start ho
 refine calls_of F71 rfl [.agg #[iA a0, iB a1, iB a2, iC a3, iA a4, iA a5], iA p1] (by kernel_rfl) (Xg 1 [.c 1, .c 2] (Xr (Yx 2 25 [iA a0, iB a1, iB a2, iC a3, iA a4, iA a5] h0 ?_)))
 intro w1 b2 h3 hb4 hn5
 refine Yd 1 [(1, iA p1), (2, pt b2)] (Xg 1 [.c 3, .c 4] (Xr (Yo (OpE.lit 8 9 [tS sf2, tS sf3, tS sf4, tS sf5, tS sf1, tS sf6, tS sf7, tS sf8] 8 h3 (by kernel_rfl) (by kernel_rfl) ?_))))
 intro w6 b7 h8 hb9 hn10
 refine Zd 1 [1, 2, 5] [(5, .slice (some ⟨b7, 0, none⟩) (([sf2, sf3, sf4, sf5, sf1, sf6, sf7, sf8] : List ByteArray).length) 8)] (Xg 1 [.c 5, .c 6] (Xr (Ya 9 0 25 b2 0 (.agg #[iA a0, iB a1, iB a2, iC a3, iA a4, iA a5]) h8 rfl ?_)))
 obtain ⟨t15, hg14, h⟩ := of_bind h
 refine Yc 10 113 #[.agg #[iA a0, iB a1, iB a2, iC a3, iA a4, iA a5]] ((charabancref09_indexed_113_ok K _ w6  a0 a1 a2 a3 a4 a5 h8.old' hg14).mono ?_)
 rintro _ w11 ⟨rfl, hb12⟩
 refine ⟨_, rfl, ?_⟩
 have h13 := h8.call hb12
 refine Zp 1 [1, 2, 5, 6] [(6, tB t15)] (Zy 1 7 [.c 8] 1 [1, 2, 5, 6, 11] [(11, pt b2)] (Ya 12 0 3 b2 0 (iA a0) h13 rfl (Zp 1 [1, 2, 5, 6, 12, 13] [(12, iA a0), (13, pu b2 1)] (Ya 14 0 5 b2 1 (iB a1) h13 rfl ?_))))
 obtain ⟨t20, hg19, h⟩ := of_bind h
 refine Yc 15 83 #[iA a0, iB a1] ((charabancref08_Near_83_ok K _ w11  a0 a1 h13.old' hg19).mono ?_)
 rintro _ w16 ⟨rfl, hb17⟩
 refine ⟨_, rfl, ?_⟩
 have h18 := h13.call hb17
 refine Zp 1 [1, 2, 5, 6, 7] [(7, tB t20)] (Zy 2 10 [.c 11, .c 16] 2 [1, 2, 5, 6, 7, 17] [(17, tB t15)] ?_)
 obtain ⟨j27, hJ28, h⟩ := of_let h
 have hj29 : ∀ (t24 : Bool) (w26 : World), j27 t24 = some r → Holds M0 w0 w26 [box b2 25 [iA a0, iB a1, iB a2, iC a3, iA a4, iA a5], own Rp.str 9 (.slice (some ⟨b7, 0, none⟩) (([sf2, sf3, sf4, sf5, sf1, sf6, sf7, sf8] : List ByteArray).length) 8) ([sf2, sf3, sf4, sf5, sf1, sf6, sf7, sf8] : List ByteArray)] → RegI F71 10 [.c 11, .c 16] 5 [(1, iA p1), (2, pt b2), (5, .slice (some ⟨b7, 0, none⟩) (([sf2, sf3, sf4, sf5, sf1, sf6, sf7, sf8] : List ByteArray).length) 8), (6, tB t15), (7, tB t20), (20, tB t24)] w26 (charabancref09_reg_71.post M0 w0 r) := by
  intro t24 w26 h h25
  rw [hJ28] at h
  clear hJ28
  dsimp only at h
  refine Ye (Vc 20 12 15 h (fun hc30 h => ?_) fun hc30 h => ?_)
  ·refine Xq 1 13 [.c 14, .c 16] 1 [(2, pt b2), (21, pt b2)] (Ya 22 0 3 b2 0 (iA a0) h25 rfl (Yp 1 [(22, iA a0), (23, pu b2 2)] (Ya 24 0 5 b2 2 (iB a2) h25 rfl ?_)))
   obtain ⟨t35, hg34, h⟩ := of_bind h
   refine Yc 25 106 #[iA a0, iB a2] ((charabancref09_Index_106_ok K _ w26  a0 a2 h25.old' hg34).mono ?_)
   rintro _ w31 ⟨rfl, hb32⟩
   refine ⟨_, rfl, ?_⟩
   have h33 := h25.call hb32
   refine Yd 1 [(4, tS t35)] ?_
   obtain rfl := sI h
   exact Xt (tS t35) ⟨rfl, h33.below⟩
  ·refine Xg 1 [.c 16] (Xq 2 18 [.c 19, .c 24] 2 [(1, iA p1), (2, pt b2), (5, .slice (some ⟨b7, 0, none⟩) (([sf2, sf3, sf4, sf5, sf1, sf6, sf7, sf8] : List ByteArray).length) 8), (7, tB t20), (27, tB t15)] ?_)
   obtain ⟨j42, hJ43, h⟩ := of_let h
   have hj44 : ∀ (t39 : Bool) (w41 : World), j42 t39 = some r → Holds M0 w0 w41 [box b2 25 [iA a0, iB a1, iB a2, iC a3, iA a4, iA a5], own Rp.str 9 (.slice (some ⟨b7, 0, none⟩) (([sf2, sf3, sf4, sf5, sf1, sf6, sf7, sf8] : List ByteArray).length) 8) ([sf2, sf3, sf4, sf5, sf1, sf6, sf7, sf8] : List ByteArray)] → RegI F71 18 [.c 19, .c 24] 13 [(1, iA p1), (2, pt b2), (5, .slice (some ⟨b7, 0, none⟩) (([sf2, sf3, sf4, sf5, sf1, sf6, sf7, sf8] : List ByteArray).length) 8), (38, tB t39)] w41 (charabancref09_reg_71.post M0 w0 r) := by
    intro t39 w41 h h40
    rw [hJ43] at h
    clear hJ43
    dsimp only at h
    refine Ye (Vc 38 20 23 h (fun hc45 h => ?_) fun hc45 h => ?_)
    ·refine Xg 1 [.c 21, .c 22, .c 24] (RunsI.any 9 (by kernel_rfl) (by kernel_rfl) (by kernel_rfl) (Kp ([] : List Nat) (World.drew w41)) ?_)
     have h47 := h40.drew
     generalize World.drew w41 = w46 at h47 ⊢
     have hS48 := Kp.refl ([] : List Nat) w46
     refine Wu 0 39 (pt b2) hS48 (Wa 1 40 0 3 b2 0 (iA a0) [] h47 rfl hS48 rfl ?_)
     obtain ⟨t51, hg50, h⟩ := of_bind h
     refine Wc 2 41 (tS t51) 114 #[iA a0] hS48 (fun w hk => charabancref09_name_114_ok K (fun _ => False) w a0 nF hg50) (Wu 3 42 (.slice (some ⟨b7, 0, none⟩) (([sf2, sf3, sf4, sf5, sf1, sf6, sf7, sf8] : List ByteArray).length) 8) hS48 (Wu 4 43 (iA p1) hS48 ?_))
     have ⟨hc52, h⟩ := oz h
     refine AnyE.idxOwnA 5 44 1 34 9 p1 h47 (by kernel_rfl) hS48 rfl (by kernel_rfl) (by kernel_rfl) hc52 (AnyE.loadOwnA 6 45 1 9 9 p1 0 (tS (rdD ([sf2, sf3, sf4, sf5, sf1, sf6, sf7, sf8] : List ByteArray) p1)) [] (o := (Int.toNat p1) * 1 + 0) h47 rfl (by kernel_rfl) hS48 rfl rfl (by kernel_rfl) rfl hc52 (fun _ _ hk => by obtain rfl := hk; kernel_rfl) ?_)
     have ⟨hc53, h⟩ := oz h
     refine Wt 7 46 t51 (rdD ([sf2, sf3, sf4, sf5, sf1, sf6, sf7, sf8] : List ByteArray) p1) hS48 hc53 (Wu 8 4 (tS (t51 ++ (rdD ([sf2, sf3, sf4, sf5, sf1, sf6, sf7, sf8] : List ByteArray) p1))) hS48 (AnyE.done (by kernel_rfl) (fun w54 hu55 => ?_)))
     have h56 := h47.call hu55
     refine Vl [(4, tS (t51 ++ (rdD ([sf2, sf3, sf4, sf5, sf1, sf6, sf7, sf8] : List ByteArray) p1)))] ?_
     obtain rfl := sI h
     exact Xt (tS (t51 ++ (rdD ([sf2, sf3, sf4, sf5, sf1, sf6, sf7, sf8] : List ByteArray) p1))) ⟨rfl, h56.below⟩
    ·refine Xg 1 [.c 24] (Xq 1 25 [.c 26] 2 [(47, .slice (some ⟨b7, 0, none⟩) (([sf2, sf3, sf4, sf5, sf1, sf6, sf7, sf8] : List ByteArray).length) 8), (48, iA p1)] ?_)
     have ⟨hc57, h⟩ := oz h
     refine Yo (OpE.idxOwnA 49 1 34 9 p1 h40 (by kernel_rfl) rfl (by kernel_rfl) (by kernel_rfl) hc57 (Yo (OpE.loadOwnA 50 1 9 9 p1 0 (o := (Int.toNat p1) * 1 + 0) h40 (by kernel_rfl) rfl (by kernel_rfl) (by kernel_rfl) hc57 (fun cs58 hk59 => ?_))))
     obtain rfl := hk59
     refine ⟨tS (rdD ([sf2, sf3, sf4, sf5, sf1, sf6, sf7, sf8] : List ByteArray) p1), by kernel_rfl, ?_⟩
     refine Yd 1 [(4, tS (rdD ([sf2, sf3, sf4, sf5, sf1, sf6, sf7, sf8] : List ByteArray) p1))] ?_
     obtain rfl := sI h
     exact Xt (tS (rdD ([sf2, sf3, sf4, sf5, sf1, sf6, sf7, sf8] : List ByteArray) p1)) ⟨rfl, h40.below⟩
   clear hJ43
   rcases oc h with ⟨hc36, h⟩ | ⟨hc36, h⟩
   ·refine Yf 27 true hc36 (Zp 4 [1, 2, 5, 31] [(31, tB (!t20))] ?_)
    rcases oc h with ⟨hc37, h⟩ | ⟨hc37, h⟩
    ·refine Yf 31 true hc37 (Zp 3 [1, 2, 5, 31, 34] [(34, tB (p1 == 4))] ?_)
     rcases oc h with ⟨hc38, h⟩ | ⟨hc38, h⟩
     ·refine Yf 34 true hc38 (Zp 4 [1, 2, 5, 38] [(38, tB true)] (Ul [(1, iA p1), (2, pt b2), (5, .slice (some ⟨b7, 0, none⟩) (([sf2, sf3, sf4, sf5, sf1, sf6, sf7, sf8] : List ByteArray).length) 8), (38, tB true)] ?_))
      exact hj44 true w26 h (h25.pk [0, 1])
     ·refine Yf 34 false hc38 (Zp 4 [1, 2, 5, 38] [(38, tB (p1 == 5))] (Ul [(1, iA p1), (2, pt b2), (5, .slice (some ⟨b7, 0, none⟩) (([sf2, sf3, sf4, sf5, sf1, sf6, sf7, sf8] : List ByteArray).length) 8), (38, tB (p1 == 5))] ?_))
      exact hj44 (p1 == 5) w26 h (h25.pk [0, 1])
    ·refine Yf 31 false hc37 (Zp 7 [1, 2, 5, 38] [(38, tB false)] (Ul [(1, iA p1), (2, pt b2), (5, .slice (some ⟨b7, 0, none⟩) (([sf2, sf3, sf4, sf5, sf1, sf6, sf7, sf8] : List ByteArray).length) 8), (38, tB false)] ?_))
     exact hj44 false w26 h (h25.pk [0, 1])
   ·refine Yf 27 false hc36 (Zp 11 [1, 2, 5, 38] [(38, tB false)] (Ul [(1, iA p1), (2, pt b2), (5, .slice (some ⟨b7, 0, none⟩) (([sf2, sf3, sf4, sf5, sf1, sf6, sf7, sf8] : List ByteArray).length) 8), (38, tB false)] ?_))
    exact hj44 false w26 h (h25.pk [0, 1])
 clear hJ28
 rcases oc h with ⟨hc21, h⟩ | ⟨hc21, h⟩
 ·refine Yf 17 true hc21 (Zp 3 [1, 2, 5, 6, 7, 20] [(20, tB (p1 == 6))] ?_)
  have h22 := h18.boxOwn 1 rfl Rp.str ([sf2, sf3, sf4, sf5, sf1, sf6, sf7, sf8] : List ByteArray) (cells_str _ _ _) (Nat.le_of_ble_eq_true (by kernel_rfl))
  refine Ul [(1, iA p1), (2, pt b2), (5, .slice (some ⟨b7, 0, none⟩) (([sf2, sf3, sf4, sf5, sf1, sf6, sf7, sf8] : List ByteArray).length) 8), (6, tB t15), (7, tB t20), (20, tB (p1 == 6))] ?_
  exact hj29 (p1 == 6) w16 h (h22.pk [0, 1])
 ·refine Yf 17 false hc21 (Zp 3 [1, 2, 5, 6, 7, 20] [(20, tB false)] ?_)
  have h23 := h18.boxOwn 1 rfl Rp.str ([sf2, sf3, sf4, sf5, sf1, sf6, sf7, sf8] : List ByteArray) (cells_str _ _ _) (Nat.le_of_ble_eq_true (by kernel_rfl))
  refine Ul [(1, iA p1), (2, pt b2), (5, .slice (some ⟨b7, 0, none⟩) (([sf2, sf3, sf4, sf5, sf1, sf6, sf7, sf8] : List ByteArray).length) 8), (6, tB t15), (7, tB t20), (20, tB false)] ?_
  exact hj29 false w16 h (h23.pk [0, 1])
end

section
def charabancref09_shifts_107.post (M0 : Nat → Prop) (w0 : World) (r : (List ByteArray)) : Ending → World → Prop := fun e w => ∃ (A1 : Option Addr) (c1 : Nat), e = .returned (.slice A1 r.length c1) ∧ Holds M0 w0 w [own Rp.str 9 (.slice A1 r.length c1) r]
def charabancref09_shifts_107.f (K : Nat) : Option (List ByteArray) := some ([(⟨#[114, 108, 99]⟩ : ByteArray), (⟨#[114, 114, 99]⟩ : ByteArray), (⟨#[114, 108]⟩ : ByteArray), (⟨#[114, 114]⟩ : ByteArray), (⟨#[115, 108, 97]⟩ : ByteArray), (⟨#[115, 114, 97]⟩ : ByteArray), (⟨#[115, 108, 108]⟩ : ByteArray), (⟨#[115, 114, 108]⟩ : ByteArray)] : List ByteArray)
theorem charabancref09_shifts_107_ok (K : Nat) (M0 : Nat → Prop) (w0 : World) (ho : ∀ b, M0 b → b < w0.heap.size) {r : (List ByteArray)} (h : charabancref09_shifts_107.f K = some r) :
  Calls Tryz.prog 107 #[] w0 (charabancref09_shifts_107.post M0 w0 r) := by
 unfold charabancref09_shifts_107.f at h
 have h0 : Holds M0 w0 w0 [] := Holds.start ho
 refine calls_of F107 rfl [] (by kernel_rfl) (Xd 1 1 [.c 2] 1 [] (Xg 1 [.c 3, .c 4] (Xr (Yo (OpE.lit 1 9 [tS sf19, tS sf20, tS sf21, tS sf22, tS sf23, tS sf24, tS sf25, tS sf26] 8 h0 (by kernel_rfl) (by kernel_rfl) ?_)))))
 intro w1 b2 h3 hb4 hn5
 refine Yd 1 [(0, .slice (some ⟨b2, 0, none⟩) (([sf19, sf20, sf21, sf22, sf23, sf24, sf25, sf26] : List ByteArray).length) 8)] (Xt (.slice (some ⟨b2, 0, none⟩) (([sf19, sf20, sf21, sf22, sf23, sf24, sf25, sf26] : List ByteArray).length) 8) ?_)
 have h6 := h3.boxOwn 0 rfl Rp.str ([sf19, sf20, sf21, sf22, sf23, sf24, sf25, sf26] : List ByteArray) (cells_str _ _ _) (Nat.le_of_ble_eq_true (by kernel_rfl))
 obtain rfl := sI h
 exact ⟨(some ⟨b2, 0, none⟩), 8, rfl, h6.pk [0]⟩
end

section
abbrev charabancref09_bits_68.post := pS
def charabancref09_bits_68.f (K : Nat) (p0_0 : Int) (p0_1 : Int) (p0_2 : Int) (p0_3 : Int) (p0_4 : Int) (p0_5 : Int) (p1 : Int) (p2 : Int) (p3 : Int) : Option ByteArray := (charabancref09_reg_71.f K 0 0 0 0 0 0 p3).bind fun t10 => Let (fun (t32 : ByteArray) => cond (p1 == 0) ((charabancref09_shifts_107.f K).bind fun t43 => cond (inR p2 t43.length) (cond (mayCat (rdD t43 p2).size (⟨#[32]⟩ : ByteArray).size) (cond (mayCat ((rdD t43 p2) ++ (⟨#[32]⟩ : ByteArray)).size t32.size) (some (((rdD t43 p2) ++ (⟨#[32]⟩ : ByteArray)) ++ t32)) none) none) none) ((charabancref09_digits_74.f K p2 10 1).bind fun t58 => cond (inR p1 ([(⟨#[]⟩ : ByteArray), (⟨#[98, 105, 116, 32]⟩ : ByteArray), (⟨#[114, 101, 115, 32]⟩ : ByteArray), (⟨#[115, 101, 116, 32]⟩ : ByteArray)] : List ByteArray).length) (cond (mayCat (rdD ([(⟨#[]⟩ : ByteArray), (⟨#[98, 105, 116, 32]⟩ : ByteArray), (⟨#[114, 101, 115, 32]⟩ : ByteArray), (⟨#[115, 101, 116, 32]⟩ : ByteArray)] : List ByteArray) p1).size t58.size) (cond (mayCat ((rdD ([(⟨#[]⟩ : ByteArray), (⟨#[98, 105, 116, 32]⟩ : ByteArray), (⟨#[114, 101, 115, 32]⟩ : ByteArray), (⟨#[115, 101, 116, 32]⟩ : ByteArray)] : List ByteArray) p1) ++ t58).size (⟨#[44]⟩ : ByteArray).size) (cond (mayCat (((rdD ([(⟨#[]⟩ : ByteArray), (⟨#[98, 105, 116, 32]⟩ : ByteArray), (⟨#[114, 101, 115, 32]⟩ : ByteArray), (⟨#[115, 101, 116, 32]⟩ : ByteArray)] : List ByteArray) p1) ++ t58) ++ (⟨#[44]⟩ : ByteArray)).size t32.size) (some ((((rdD ([(⟨#[]⟩ : ByteArray), (⟨#[98, 105, 116, 32]⟩ : ByteArray), (⟨#[114, 101, 115, 32]⟩ : ByteArray), (⟨#[115, 101, 116, 32]⟩ : ByteArray)] : List ByteArray) p1) ++ t58) ++ (⟨#[44]⟩ : ByteArray)) ++ t32)) none) none) none) none)) (fun j35 => cond (p0_0 != 1) ((charabancref09_Index_106.f K p0_0 p0_2).bind fun t16 => Let (fun (t18 : Bool) => cond t18 (cond (mayCat t16.size (⟨#[44]⟩ : ByteArray).size) ((charabancref09_reg_71.f K 0 0 0 0 0 0 p3).bind fun t30 => cond (mayCat (t16 ++ (⟨#[44]⟩ : ByteArray)).size t30.size) (j35 ((t16 ++ (⟨#[44]⟩ : ByteArray)) ++ t30)) none) none) (j35 t16)) (fun j21 => cond (p1 != 1) (j21 (p3 != 6)) (j21 false))) (j35 t10))
theorem charabancref09_bits_68_ok (K : Nat) (M0 : Nat → Prop) (w0 : World) (a0 : Int) (a1 : Int) (a2 : Int) (a3 : Int) (a4 : Int) (a5 : Int) (p1 : Int) (p2 : Int) (p3 : Int) (ho : ∀ b, M0 b → b < w0.heap.size) {r : ByteArray} (h : charabancref09_bits_68.f K a0 a1 a2 a3 a4 a5 p1 p2 p3 = some r) :
  Calls Tryz.prog 68 #[.agg #[iA a0, iB a1, iB a2, iC a3, iA a4, iA a5], iA p1, iA p2, iA p3] w0 (charabancref09_bits_68.post M0 w0 r) := by
 unfold charabancref09_bits_68.f at h
 have h0 : Holds M0 w0 w0 [] := Holds.start ho
 refine calls_of F68 rfl [.agg #[iA a0, iB a1, iB a2, iC a3, iA a4, iA a5], iA p1, iA p2, iA p3] (by kernel_rfl) (Xg 1 [.c 1, .c 2] (Xr (Yx 4 25 [iA a0, iB a1, iB a2, iC a3, iA a4, iA a5] h0 ?_)))
 intro w1 b2 h3 hb4 hn5
 refine Yp 1 [(1, iA p1), (2, iA p2), (3, iA p3), (4, pt b2)] (Zy 1 3 [.c 4] 2 [1, 2, 3, 4, 10, 11] [(10, .agg #[iA 0, iB 0, iB 0, iC 0, iA 0, iA 0]), (11, iA p3)] ?_)
 obtain ⟨t10, hg9, h⟩ := of_bind h
 refine Yc 12 71 #[.agg #[iA 0, iB 0, iB 0, iC 0, iA 0, iA 0], iA p3] ((charabancref09_reg_71_ok K _ w1  0 0 0 0 0 0 p3 h3.old' hg9).mono ?_)
 rintro _ w6 ⟨rfl, hb7⟩
 refine ⟨_, rfl, ?_⟩
 have h8 := h3.call hb7
 refine Zp 1 [1, 2, 3, 4, 9] [(9, tS t10)] (Zy 2 6 [.c 7, .c 16] 1 [1, 2, 3, 4, 9, 13] [(13, pt b2)] (Ya 14 0 3 b2 0 (iA a0) h8 rfl (Zd 1 [1, 2, 3, 4, 9, 15] [(15, tB (a0 != 1))] ?_)))
 obtain ⟨j35, hJ36, h⟩ := of_let h
 have hj37 : ∀ (t32 : ByteArray) (w34 : World), j35 t32 = some r → Holds M0 w0 w34 [] → RunsI F68 [.c 16] [(1, iA p1), (2, iA p2), (9, tS t32)] w34 (charabancref09_bits_68.post M0 w0 r) := by
  intro t32 w34 h h33
  rw [hJ36] at h
  clear hJ36
  dsimp only at h
  refine Xd 2 18 [.c 19, .c 24] 2 [(1, iA p1), (2, iA p2), (9, tS t32), (34, tB (p1 == 0))] (Vc 34 20 23 h (fun hc38 h => ?_) fun hc38 h => ?_)
  ·refine Xg 1 [.c 21, .c 22, .c 24] (Xr ?_)
   obtain ⟨t43, hg42, h⟩ := of_bind h
   refine Yc 35 107 #[] ((charabancref09_shifts_107_ok K _ w34  h33.old' hg42).mono ?_)
   rintro _ w39 ⟨A44, c45, rfl, hr47⟩
   refine ⟨_, rfl, ?_⟩
   have hb40 := hr47.below
   have h41 := h33.join hr47
   refine Yp 1 [(9, tS t32), (35, sV A44 t43 c45), (36, iA p2)] ?_
   have ⟨hc48, h⟩ := oz h
   refine Yo (OpE.idxOwnA 37 0 34 9 p2 h41 (by kernel_rfl) rfl (by kernel_rfl) (by kernel_rfl) hc48 (Yo (OpE.loadOwnA 38 0 9 9 p2 0 (o := (Int.toNat p2) * 1 + 0) h41 (by kernel_rfl) rfl (by kernel_rfl) (by kernel_rfl) hc48 (fun cs49 hk50 => ?_))))
   obtain rfl := hk50
   refine ⟨tS (rdD t43 p2), by kernel_rfl, ?_⟩
   have ⟨hc51, h⟩ := oz h
   refine Yt 39 (rdD t43 p2) sf18 hc51 (Yp 1 [(39, tS ((rdD t43 p2) ++ sf18)), (40, tS t32)] ?_)
   have ⟨hc52, h⟩ := oz h
   refine Yt 41 ((rdD t43 p2) ++ sf18) t32 hc52 (Yd 1 [(8, tS (((rdD t43 p2) ++ sf18) ++ t32))] ?_)
   obtain rfl := sI h
   exact Xt (tS (((rdD t43 p2) ++ sf18) ++ t32)) ⟨rfl, h41.below⟩
  ·refine Xg 1 [.c 24] (Xg 1 [.c 25, .c 26] (RunsI.any 11 (by kernel_rfl) (by kernel_rfl) (by kernel_rfl) (Kp ([] : List Nat) (World.drew w34)) ?_))
   have h54 := h33.drew
   generalize World.drew w34 = w53 at h54 ⊢
   have hS55 := Kp.refl ([] : List Nat) w53
   refine Wu 1 43 (iA p1) hS55 (Wu 4 46 (iA p2) hS55 ?_)
   obtain ⟨t58, hg57, h⟩ := of_bind h
   refine Wc 5 47 (tS t58) 74 #[iA p2, iA 10, iA 1] hS55 (fun w hk => charabancref09_digits_74_ok K (fun _ => False) w p2 10 1 nF hg57) (Wu 8 50 (tS t32) hS55 (AnyE.one 0 (by kernel_rfl) (fun w59 hu60 => ?_)))
   have h61 := h54.call hu60
   have hS62 := hS55.up hu60
   refine OpE.lit 42 9 [tS (⟨#[]⟩ : ByteArray), tS sf13, tS sf14, tS sf15] 4 h61 (by kernel_rfl) (by kernel_rfl) ?_
   intro w63 b64 h65 hb66 hn67
   have hn68 := Nat.le_trans hS62.1 hn67
   have hS69 := hS62.up hb66
   refine ⟨hS69, ?_⟩
   refine AnyE.one 2 (by kernel_rfl) (fun w70 hu71 => ?_)
   have h72 := h65.call hu71
   have hS73 := hS69.up hu71
   have ⟨hc74, h⟩ := oz h
   have h75 := h72.boxOwn 0 rfl Rp.str ([(⟨#[]⟩ : ByteArray), sf13, sf14, sf15] : List ByteArray) (cells_str _ _ _) (Nat.le_of_ble_eq_true (by kernel_rfl))
   refine OpE.idxOwnA 44 0 34 9 p1 h75 (by kernel_rfl) rfl (by kernel_rfl) (by kernel_rfl) hc74 (⟨hS73, ?_⟩)
   refine AnyE.one 3 (by kernel_rfl) (fun w77 hu78 => ?_)
   have h79 := h75.call hu78
   have hS80 := hS73.up hu78
   refine OpE.loadOwnA 45 0 9 9 p1 0 (o := (Int.toNat p1) * 1 + 0) h79 (by kernel_rfl) rfl (by kernel_rfl) (by kernel_rfl) hc74 (fun cs81 hk82 => ?_)
   obtain rfl := hk82
   refine ⟨tS (rdD ([(⟨#[]⟩ : ByteArray), sf13, sf14, sf15] : List ByteArray) p1), by kernel_rfl, ?_⟩
   refine ⟨hS80, ?_⟩
   have ⟨hc84, h⟩ := oz h
   refine Wt 6 48 (rdD ([(⟨#[]⟩ : ByteArray), sf13, sf14, sf15] : List ByteArray) p1) t58 hS80 hc84 ?_
   have ⟨hc85, h⟩ := oz h
   refine Wt 7 49 ((rdD ([(⟨#[]⟩ : ByteArray), sf13, sf14, sf15] : List ByteArray) p1) ++ t58) sf12 hS80 hc85 ?_
   have ⟨hc86, h⟩ := oz h
   refine Wt 9 51 (((rdD ([(⟨#[]⟩ : ByteArray), sf13, sf14, sf15] : List ByteArray) p1) ++ t58) ++ sf12) t32 hS80 hc86 (Wu 10 8 (tS ((((rdD ([(⟨#[]⟩ : ByteArray), sf13, sf14, sf15] : List ByteArray) p1) ++ t58) ++ sf12) ++ t32)) hS80 (AnyE.done (by kernel_rfl) (fun w87 hu88 => ?_)))
   have h89 := h79.call hu88
   refine Vl [(8, tS ((((rdD ([(⟨#[]⟩ : ByteArray), sf13, sf14, sf15] : List ByteArray) p1) ++ t58) ++ sf12) ++ t32))] ?_
   obtain rfl := sI h
   exact Xt (tS ((((rdD ([(⟨#[]⟩ : ByteArray), sf13, sf14, sf15] : List ByteArray) p1) ++ t58) ++ sf12) ++ t32)) ⟨rfl, h89.below⟩
 clear hJ36
 refine Vc 15 8 15 h (fun hc11 h => ?_) fun hc11 h => ?_
 ·refine Xq 1 9 [.c 10, .c 16] 1 [(1, iA p1), (2, iA p2), (3, iA p3), (4, pt b2), (16, pt b2)] (Ya 17 0 3 b2 0 (iA a0) h8 rfl (Zp 1 [1, 2, 3, 17, 18] [(17, iA a0), (18, pu b2 2)] (Ya 19 0 5 b2 2 (iB a2) h8 rfl ?_)))
  obtain ⟨t16, hg15, h⟩ := of_bind h
  refine Yc 20 106 #[iA a0, iB a2] ((charabancref09_Index_106_ok K _ w6  a0 a2 h8.old' hg15).mono ?_)
  rintro _ w12 ⟨rfl, hb13⟩
  refine ⟨_, rfl, ?_⟩
  have h14 := h8.call hb13
  refine Zp 1 [1, 2, 3, 9] [(9, tS t16)] (Zy 1 11 [.c 12, .c 16] 3 [1, 2, 3, 9, 23] [(23, tB (p1 != 1))] ?_)
  obtain ⟨j21, hJ22, h⟩ := of_let h
  have hj23 : ∀ (t18 : Bool) (w20 : World), j21 t18 = some r → Holds M0 w0 w20 [] → RegI F68 11 [.c 12, .c 16] 6 [(1, iA p1), (2, iA p2), (3, iA p3), (9, tS t16), (26, tB t18)] w20 (charabancref09_bits_68.post M0 w0 r) := by
   intro t18 w20 h h19
   rw [hJ22] at h
   clear hJ22
   dsimp only at h
   refine Ye (Vc 26 13 14 h (fun hc24 h => ?_) fun hc24 h => ?_)
   ·refine Xr (Yp 1 [(1, iA p1), (2, iA p2), (3, iA p3), (27, tS t16)] ?_)
    have ⟨hc25, h⟩ := oz h
    refine Yt 28 t16 sf12 hc25 (Zp 2 [1, 2, 28, 29, 30] [(28, tS (t16 ++ sf12)), (29, .agg #[iA 0, iB 0, iB 0, iC 0, iA 0, iA 0]), (30, iA p3)] ?_)
    obtain ⟨t30, hg29, h⟩ := of_bind h
    refine Yc 31 71 #[.agg #[iA 0, iB 0, iB 0, iC 0, iA 0, iA 0], iA p3] ((charabancref09_reg_71_ok K _ w20  0 0 0 0 0 0 p3 h19.old' hg29).mono ?_)
    rintro _ w26 ⟨rfl, hb27⟩
    refine ⟨_, rfl, ?_⟩
    have h28 := h19.call hb27
    have ⟨hc31, h⟩ := oz h
    refine Yt 32 (t16 ++ sf12) t30 hc31 (Zd 1 [1, 2, 9] [(9, tS ((t16 ++ sf12) ++ t30))] (Vl [(1, iA p1), (2, iA p2), (9, tS ((t16 ++ sf12) ++ t30))] ?_))
    exact hj37 ((t16 ++ sf12) ++ t30) w26 h (h28.pk [])
   ·refine Xg 1 [.c 16] (Vl [(1, iA p1), (2, iA p2), (9, tS t16)] ?_)
    exact hj37 t16 w20 h (h19.pk [])
  clear hJ22
  rcases oc h with ⟨hc17, h⟩ | ⟨hc17, h⟩
  ·refine Yf 23 true hc17 (Zp 3 [1, 2, 3, 9, 26] [(26, tB (p3 != 6))] (Ul [(1, iA p1), (2, iA p2), (3, iA p3), (9, tS t16), (26, tB (p3 != 6))] ?_))
   exact hj23 (p3 != 6) w12 h (h14.pk [])
  ·refine Yf 23 false hc17 (Zp 3 [1, 2, 3, 9, 26] [(26, tB false)] (Ul [(1, iA p1), (2, iA p2), (3, iA p3), (9, tS t16), (26, tB false)] ?_))
   exact hj23 false w12 h (h14.pk [])
 ·refine Xg 1 [.c 16] (Vl [(1, iA p1), (2, iA p2), (9, tS t10)] ?_)
  exact hj37 t10 w6 h (h8.pk [])
end

section
abbrev charabancref09_pair_108.post := pS
def charabancref09_pair_108.f (K : Nat) (p0_0 : Int) (p0_1 : Int) (p0_2 : Int) (p0_3 : Int) (p0_4 : Int) (p0_5 : Int) (p1 : Int) (p2 : ByteArray) : Option ByteArray := (charabancref09_indexed_113.f K p0_0 p0_1 p0_2 p0_3 p0_4 p0_5).bind fun t15 => Let (fun (t19 : Bool) => cond t19 ((charabancref09_name_114.f K p0_0).bind fun t30 => some t30) (cond (inR p1 ([(⟨#[98, 99]⟩ : ByteArray), (⟨#[100, 101]⟩ : ByteArray), (⟨#[104, 108]⟩ : ByteArray), p2] : List ByteArray).length) (some (rdD ([(⟨#[98, 99]⟩ : ByteArray), (⟨#[100, 101]⟩ : ByteArray), (⟨#[104, 108]⟩ : ByteArray), p2] : List ByteArray) p1)) none)) (fun j22 => cond t15 (j22 (p1 == 2)) (j22 false))
theorem charabancref09_pair_108_ok (K : Nat) (M0 : Nat → Prop) (w0 : World) (a0 : Int) (a1 : Int) (a2 : Int) (a3 : Int) (a4 : Int) (a5 : Int) (p1 : Int) (p2 : ByteArray) (ho : ∀ b, M0 b → b < w0.heap.size) {r : ByteArray} (h : charabancref09_pair_108.f K a0 a1 a2 a3 a4 a5 p1 p2 = some r) :
  Calls Tryz.prog 108 #[.agg #[iA a0, iB a1, iB a2, iC a3, iA a4, iA a5], iA p1, tS p2] w0 (charabancref09_pair_108.post M0 w0 r) := by
 unfold charabancref09_pair_108.f at h
 have h0 : Holds M0 w0 w0 [] := Holds.start ho
 refine calls_of F108 rfl [.agg #[iA a0, iB a1, iB a2, iC a3, iA a4, iA a5], iA p1, tS p2] (by kernel_rfl) (Xg 1 [.c 1, .c 2] (Xr (Yx 3 25 [iA a0, iB a1, iB a2, iC a3, iA a4, iA a5] h0 ?_)))
 intro w1 b2 h3 hb4 hn5
 refine Yp 1 [(1, iA p1), (2, tS p2), (3, pt b2)] (Zy 1 3 [.c 4] 1 [1, 3, 9] [(9, tS p2)] (Yo (OpE.lit 10 9 [tS sf9, tS sf10, tS sf11, tS p2] 4 h3 (by kernel_rfl) (by kernel_rfl) ?_)))
 intro w6 b7 h8 hb9 hn10
 refine Zd 1 [1, 3, 7] [(7, .slice (some ⟨b7, 0, none⟩) (([sf9, sf10, sf11, p2] : List ByteArray).length) 4)] (Xg 1 [.c 5, .c 6] (Xr (Ya 11 0 25 b2 0 (.agg #[iA a0, iB a1, iB a2, iC a3, iA a4, iA a5]) h8 rfl ?_)))
 obtain ⟨t15, hg14, h⟩ := of_bind h
 refine Yc 12 113 #[.agg #[iA a0, iB a1, iB a2, iC a3, iA a4, iA a5]] ((charabancref09_indexed_113_ok K _ w6  a0 a1 a2 a3 a4 a5 h8.old' hg14).mono ?_)
 rintro _ w11 ⟨rfl, hb12⟩
 refine ⟨_, rfl, ?_⟩
 have h13 := h8.call hb12
 refine Zp 1 [1, 3, 7, 8] [(8, tB t15)] (Zy 2 8 [.c 9, .c 14] 2 [1, 3, 7, 14] [(14, tB t15)] ?_)
 obtain ⟨j22, hJ23, h⟩ := of_let h
 have hj24 : ∀ (t19 : Bool) (w21 : World), j22 t19 = some r → Holds M0 w0 w21 [box b2 25 [iA a0, iB a1, iB a2, iC a3, iA a4, iA a5], own Rp.str 9 (.slice (some ⟨b7, 0, none⟩) (([sf9, sf10, sf11, p2] : List ByteArray).length) 4) ([sf9, sf10, sf11, p2] : List ByteArray)] → RegI F108 8 [.c 9, .c 14] 5 [(1, iA p1), (3, pt b2), (7, .slice (some ⟨b7, 0, none⟩) (([sf9, sf10, sf11, p2] : List ByteArray).length) 4), (17, tB t19)] w21 (charabancref09_pair_108.post M0 w0 r) := by
  intro t19 w21 h h20
  rw [hJ23] at h
  clear hJ23
  dsimp only at h
  refine Ye (Vc 17 10 13 h (fun hc25 h => ?_) fun hc25 h => ?_)
  ·refine Xq 1 11 [.c 12, .c 14] 1 [(18, pt b2)] (Ya 19 0 3 b2 0 (iA a0) h20 rfl ?_)
   obtain ⟨t30, hg29, h⟩ := of_bind h
   refine Yc 20 114 #[iA a0] ((charabancref09_name_114_ok K _ w21  a0 h20.old' hg29).mono ?_)
   rintro _ w26 ⟨rfl, hb27⟩
   refine ⟨_, rfl, ?_⟩
   have h28 := h20.call hb27
   refine Yd 1 [(6, tS t30)] ?_
   obtain rfl := sI h
   exact Xt (tS t30) ⟨rfl, h28.below⟩
  ·refine Xg 1 [.c 14] (Xq 1 15 [.c 16] 2 [(21, .slice (some ⟨b7, 0, none⟩) (([sf9, sf10, sf11, p2] : List ByteArray).length) 4), (22, iA p1)] ?_)
   have ⟨hc31, h⟩ := oz h
   refine Yo (OpE.idxOwnA 23 1 34 9 p1 h20 (by kernel_rfl) rfl (by kernel_rfl) (by kernel_rfl) hc31 (Yo (OpE.loadOwnA 24 1 9 9 p1 0 (o := (Int.toNat p1) * 1 + 0) h20 (by kernel_rfl) rfl (by kernel_rfl) (by kernel_rfl) hc31 (fun cs32 hk33 => ?_))))
   obtain rfl := hk33
   refine ⟨tS (rdD ([sf9, sf10, sf11, p2] : List ByteArray) p1), by kernel_rfl, ?_⟩
   refine Yd 1 [(6, tS (rdD ([sf9, sf10, sf11, p2] : List ByteArray) p1))] ?_
   obtain rfl := sI h
   exact Xt (tS (rdD ([sf9, sf10, sf11, p2] : List ByteArray) p1)) ⟨rfl, h20.below⟩
 clear hJ23
 rcases oc h with ⟨hc16, h⟩ | ⟨hc16, h⟩
 ·refine Yf 14 true hc16 (Zp 3 [1, 3, 7, 17] [(17, tB (p1 == 2))] ?_)
  have h17 := h13.boxOwn 1 rfl Rp.str ([sf9, sf10, sf11, p2] : List ByteArray) (cells_str _ _ _) (Nat.le_of_ble_eq_true (by kernel_rfl))
  refine Ul [(1, iA p1), (3, pt b2), (7, .slice (some ⟨b7, 0, none⟩) (([sf9, sf10, sf11, p2] : List ByteArray).length) 4), (17, tB (p1 == 2))] ?_
  exact hj24 (p1 == 2) w11 h (h17.pk [0, 1])
 ·refine Yf 14 false hc16 (Zp 3 [1, 3, 7, 17] [(17, tB false)] ?_)
  have h18 := h13.boxOwn 1 rfl Rp.str ([sf9, sf10, sf11, p2] : List ByteArray) (cells_str _ _ _) (Nat.le_of_ble_eq_true (by kernel_rfl))
  refine Ul [(1, iA p1), (3, pt b2), (7, .slice (some ⟨b7, 0, none⟩) (([sf9, sf10, sf11, p2] : List ByteArray).length) 4), (17, tB false)] ?_
  exact hj24 false w11 h (h18.pk [0, 1])
end

section
abbrev charabancref09_Hex_43.post := pS
def charabancref09_Hex_43.f (K : Nat) (p0 : Int) (p1 : Int) : Option ByteArray := cond (decide (p0 ≥ 0)) ((charabancref09_digits_74.f K p0 16 (if 8 < (if 0 > p1 then 0 else p1) then 8 else (if 0 > p1 then 0 else p1))).bind fun t6 => cond (mayCat t6.size (⟨#[104]⟩ : ByteArray).size) (some (t6 ++ (⟨#[104]⟩ : ByteArray))) none) (cond (p0 == (IntKind.wrap .i64 (0 - p0))) (some (⟨#[45, 56, 48, 48, 48, 48, 48, 48, 48, 48, 48, 48, 48, 48, 48, 48, 48, 104]⟩ : ByteArray)) ((charabancref09_digits_74.f K (IntKind.wrap .i64 (0 - p0)) 16 (if 8 < (if 0 > p1 then 0 else p1) then 8 else (if 0 > p1 then 0 else p1))).bind fun t13 => cond (mayCat (⟨#[45]⟩ : ByteArray).size t13.size) (cond (mayCat ((⟨#[45]⟩ : ByteArray) ++ t13).size (⟨#[104]⟩ : ByteArray).size) (some (((⟨#[45]⟩ : ByteArray) ++ t13) ++ (⟨#[104]⟩ : ByteArray))) none) none))
theorem charabancref09_Hex_43_ok (K : Nat) (M0 : Nat → Prop) (w0 : World) (p0 : Int) (p1 : Int) (ho : ∀ b, M0 b → b < w0.heap.size) {r : ByteArray} (h : charabancref09_Hex_43.f K p0 p1 = some r) :
  Calls Tryz.prog 43 #[iA p0, iA p1] w0 (charabancref09_Hex_43.post M0 w0 r) := by
 unfold charabancref09_Hex_43.f at h
 have h0 : Holds M0 w0 w0 [] := Holds.start ho
 refine calls_of F43 rfl [iA p0, iA p1] (by kernel_rfl) (Xq 1 1 [.c 2] 1 [(0, iA p0), (1, iA p1)] (Zy 1 3 [.c 4] 4 [0, 1] [(1, iA (if 8 < (if 0 > p1 then 0 else p1) then 8 else (if 0 > p1 then 0 else p1)))] (Zy 2 6 [.c 7, .c 12] 2 [0, 1, 9] [(9, tB (decide (p0 ≥ 0)))] (Ye (Vc 9 8 11 h (fun hc1 h => ?_) fun hc1 h => ?_)))))
 ·refine Xq 1 9 [.c 10, .c 12] 2 [(10, iA p0), (11, iA (if 8 < (if 0 > p1 then 0 else p1) then 8 else (if 0 > p1 then 0 else p1)))] ?_
  obtain ⟨t6, hg5, h⟩ := of_bind h
  refine Yc 12 74 #[iA p0, iA 16, iA (if 8 < (if 0 > p1 then 0 else p1) then 8 else (if 0 > p1 then 0 else p1))] ((charabancref09_digits_74_ok K _ w0  p0 16 (if 8 < (if 0 > p1 then 0 else p1) then 8 else (if 0 > p1 then 0 else p1)) h0.old' hg5).mono ?_)
  rintro _ w2 ⟨rfl, hb3⟩
  refine ⟨_, rfl, ?_⟩
  have h4 := h0.call hb3
  have ⟨hc7, h⟩ := oz h
  refine Yt 13 t6 sf1 hc7 (Yd 1 [(4, tS (t6 ++ sf1))] ?_)
  obtain rfl := sI h
  exact Xt (tS (t6 ++ sf1)) ⟨rfl, h4.below⟩
 ·refine Xg 1 [.c 12] (Xd 2 14 [.c 15, .c 20] 4 [(0, iA p0), (1, iA (if 8 < (if 0 > p1 then 0 else p1) then 8 else (if 0 > p1 then 0 else p1))), (17, tB (p0 == (wA (0 - p0))))] (Vc 17 16 19 h (fun hc8 h => ?_) fun hc8 h => ?_))
  ·refine Xd 1 17 [.c 18, .c 20] 1 [(4, tS sf27)] ?_
   obtain rfl := sI h
   exact Xt (tS sf27) ⟨rfl, h0.below⟩
  ·refine Xg 1 [.c 20] (Xq 1 21 [.c 22] 3 [(19, iA (wA (0 - p0))), (20, iA (if 8 < (if 0 > p1 then 0 else p1) then 8 else (if 0 > p1 then 0 else p1)))] ?_)
   obtain ⟨t13, hg12, h⟩ := of_bind h
   refine Yc 21 74 #[iA (wA (0 - p0)), iA 16, iA (if 8 < (if 0 > p1 then 0 else p1) then 8 else (if 0 > p1 then 0 else p1))] ((charabancref09_digits_74_ok K _ w0  (wA (0 - p0)) 16 (if 8 < (if 0 > p1 then 0 else p1) then 8 else (if 0 > p1 then 0 else p1)) h0.old' hg12).mono ?_)
   rintro _ w9 ⟨rfl, hb10⟩
   refine ⟨_, rfl, ?_⟩
   have h11 := h0.call hb10
   have ⟨hc14, h⟩ := oz h
   refine Yt 22 sf16 t13 hc14 ?_
   have ⟨hc15, h⟩ := oz h
   refine Yt 23 (sf16 ++ t13) sf1 hc15 (Yd 1 [(4, tS ((sf16 ++ t13) ++ sf1))] ?_)
   obtain rfl := sI h
   exact Xt (tS ((sf16 ++ t13) ++ sf1)) ⟨rfl, h11.below⟩
end

section
abbrev charabancref09_nn_109.post := pS
def charabancref09_nn_109.f (K : Nat) (p0_0 : Int) (p0_1 : Int) (p0_2 : Int) (p0_3 : Int) (p0_4 : Int) (p0_5 : Int) : Option ByteArray := (charabancref09_Hex_43.f K (IntKind.wrap .i64 p0_3) 4).bind fun t10 => some t10
theorem charabancref09_nn_109_ok (K : Nat) (M0 : Nat → Prop) (w0 : World) (a0 : Int) (a1 : Int) (a2 : Int) (a3 : Int) (a4 : Int) (a5 : Int) (ho : ∀ b, M0 b → b < w0.heap.size) {r : ByteArray} (h : charabancref09_nn_109.f K a0 a1 a2 a3 a4 a5 = some r) :
  Calls Tryz.prog 109 #[.agg #[iA a0, iB a1, iB a2, iC a3, iA a4, iA a5]] w0 (charabancref09_nn_109.post M0 w0 r) := by
 unfold charabancref09_nn_109.f at h
 have h0 : Holds M0 w0 w0 [] := Holds.start ho
 refine calls_of F109 rfl [.agg #[iA a0, iB a1, iB a2, iC a3, iA a4, iA a5]] (by kernel_rfl) (Xg 1 [.c 1, .c 2] (Xr (Yx 1 25 [iA a0, iB a1, iB a2, iC a3, iA a4, iA a5] h0 ?_)))
 intro w1 b2 h3 hb4 hn5
 refine Yp 1 [(1, pt b2)] (Yq 1 3 [.c 4] 1 [(3, pu b2 3)] (Ya 4 0 23 b2 3 (iC a3) h3 rfl (Yp 1 [(5, iA (wA a3))] ?_)))
 obtain ⟨t10, hg9, h⟩ := of_bind h
 refine Yc 6 43 #[iA (wA a3), iA 4] ((charabancref09_Hex_43_ok K _ w1  (wA a3) 4 h3.old' hg9).mono ?_)
 rintro _ w6 ⟨rfl, hb7⟩
 refine ⟨_, rfl, ?_⟩
 have h8 := h3.call hb7
 refine Yd 1 [(2, tS t10)] ?_
 obtain rfl := sI h
 exact Xt (tS t10) ⟨rfl, h8.below⟩
end
end Go.Proofs.YtbcepghanbkncaaGreatDoor.LiL
