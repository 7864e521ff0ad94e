/- The statement's function ListingLines as a plain Lean function; written by wip/eng.py. -/
import Derived.Test.YtbcepghanbkncaaGreatDoorEngShort2
import Derived.Test.YtbcepghanbkncaaGreatDoorLiL8
set_option linter.unusedVariables false
set_option linter.unusedSimpArgs false
set_option maxHeartbeats 4000000
namespace Go.Proofs.YtbcepghanbkncaaGreatDoor.LiL
open Go.RowKit Go.Eng
set_option maxRecDepth 100000
noncomputable section
def B5 := bd Tryz.f5
def F5 := fn 5 Tryz.f5 B5 49 Tryz.func5
end

variable {mx0 : Int}
section
abbrev charabanclaw34_ListingLines_5.post := pB
def charabanclaw34_ListingLines_5.f (K : Nat) (p0 : List (Int × Int)) (p1 : Int) (p2 : Int) : Option Bool := (charabanclaw34_awake_7.f K).bind fun t5 => cond (!t5) (some false) (Let (fun (t8 : Bool) => cond t8 (some true) ((listing_Lines_14.f K p0 p1 p2).bind fun t19 => (charabancref34_Lines_17.f K p0 p1 p2).bind fun t28 => (charabancref09_Same_16.f K t19 t28).bind fun t37 => cond t37 ((listing_Rows_15.f K p0 p1 p2).bind fun t43 => (charabancref34_Rows_18.f K p0 p1 p2).bind fun t52 => (charabancref09_Same_16.f K t43 t52).bind fun t61 => cond t61 ((listing_Next_13.f K p0 p1 p2).bind fun t67 => (charabancref34_Next_19.f K p0 p1 p2).bind fun t72 => some (t67 == t72)) (some false)) (some false))) (fun j11 => cond (decide ((p0.length : Int) > 60)) (j11 true) (j11 (decide (p2 > 30)))))
theorem charabanclaw34_ListingLines_5_ok (K : Nat) (M0 : Nat → Prop) (w0 : World) (pA0 : Option Addr) (pc0 : Nat) (p0 : List (Int × Int)) (p1 : Int) (p2 : Int) (ho : ∀ b, M0 b → b < w0.heap.size) (hs0 : Sl (Rp.pair rC rB) w0 M0 (sV pA0 p0 pc0) p0) (hG0 : (cel 0 0 [iA mx0]).ok w0 M0) (hG1 : G1.ok w0 M0) (hG2 : G2.ok w0 M0) (hG3 : G3.ok w0 M0) (hG4 : G4.ok w0 M0) (hG5 : G5.ok w0 M0) (hG6 : G6.ok w0 M0) (hG7 : G7.ok w0 M0) (hG8 : G8.ok w0 M0) (hG9 : G9.ok w0 M0) (hG10 : G10.ok w0 M0) (hG11 : G11.ok w0 M0) (hG12 : G12.ok w0 M0) (hG13 : G13.ok w0 M0) (hG14 : G14.ok w0 M0) (hG15 : G15.ok w0 M0) (hG16 : G16.ok w0 M0) {r : Bool} (h : charabanclaw34_ListingLines_5.f K p0 p1 p2 = some r) :
  Calls Tryz.prog 5 #[sV pA0 p0 pc0, iC p1, iA p2] w0 (charabanclaw34_ListingLines_5.post M0 w0 r) := by
 unfold charabanclaw34_ListingLines_5.f at h
 have h0 : Holds M0 w0 w0 [] := Holds.start ho
 have h00 := h0.aS hs0
 have h0g0 := h00.add (cel 0 0 [iA mx0]) rfl ⟨hG0.1, fun hm => hG0.2.1 (hm.elim id (fun hm => absurd hm (by simp [mines, sl, gl, cel]))), hG0.2.2⟩
 have h0g1 := h0g0.aG hG1
 have h0g2 := h0g1.aG hG2
 have h0g3 := h0g2.aG hG3
 have h0g4 := h0g3.aG hG4
 have h0g5 := h0g4.aG hG5
 have h0g6 := h0g5.aG hG6
 have h0g7 := h0g6.aG hG7
 have h0g8 := h0g7.aG hG8
 have h0g9 := h0g8.aG hG9
 have h0g10 := h0g9.aG hG10
 have h0g11 := h0g10.aG hG11
 have h0g12 := h0g11.aG hG12
 have h0g13 := h0g12.aG hG13
 have h0g14 := h0g13.aG hG14
 have h0g15 := h0g14.aG hG15
 have h0g16 := h0g15.aG hG16
 have h0 : Holds M0 w0 w0 [sl (Rp.pair rC rB) (sV pA0 p0 pc0) p0, cel 0 0 [iA mx0], G1, G2, G3, G4, G5, G6, G7, G8, G9, G10, G11, G12, G13, G14, G15, G16] := h0g16
 refine calls_of F5 rfl [sV pA0 p0 pc0, iC p1, iA p2] (by kernel_rfl) (Xd 1 1 [.c 2] 1 [(0, sV pA0 p0 pc0), (1, iC p1), (2, iA p2)] (Xg 1 [.c 3, .c 4] (Xr ?_)))
 obtain ⟨t5, hg4, h⟩ := of_bind h
 refine Yc 8 7 #[] ((charabanclaw34_awake_7_ok K _ w0  h0.old' (h0.get 1 rfl) (h0.get 2 rfl) (h0.get 3 rfl) (h0.get 4 rfl) (h0.get 5 rfl) (h0.get 6 rfl) (h0.get 7 rfl) (h0.get 8 rfl) (h0.get 9 rfl) (h0.get 10 rfl) (h0.get 11 rfl) (h0.get 12 rfl) (h0.get 13 rfl) (h0.get 14 rfl) (h0.get 15 rfl) (h0.get 16 rfl) (h0.get 17 rfl) hg4).mono ?_)
 rintro _ w1 ⟨rfl, hb2⟩
 refine ⟨_, rfl, ?_⟩
 have h3 := h0.call hb2
 refine Zp 1 [0, 1, 2, 7] [(7, tB t5)] (Zy 2 6 [.c 7, .c 12] 2 [0, 1, 2, 10] [(10, tB (!t5))] (Ye (Vc 10 8 11 h (fun hc6 h => ?_) fun hc6 h => ?_)))
 ·refine Xd 1 9 [.c 10, .c 12] 1 [(6, tB false)] ?_
  obtain rfl := sI h
  exact Xt (tB false) ⟨rfl, h3.below⟩
 ·refine Xg 1 [.c 12] (Xq 2 14 [.c 15, .c 20] 4 [(0, sV pA0 p0 pc0), (1, iC p1), (2, iA p2), (14, tB (decide ((p0.length : Int) > 60)))] ?_)
  obtain ⟨j11, hJ12, h⟩ := of_let h
  have hj13 : ∀ (t8 : Bool) (w10 : World), j11 t8 = some r → Holds M0 w0 w10 [sl (Rp.pair rC rB) (sV pA0 p0 pc0) p0, cel 0 0 [iA mx0], G1, G2, G3, G4, G5, G6, G7, G8, G9, G10, G11, G12, G13, G14, G15, G16] → RegI F5 14 [.c 15, .c 20] 7 [(0, sV pA0 p0 pc0), (1, iC p1), (2, iA p2), (17, tB t8)] w10 (charabanclaw34_ListingLines_5.post M0 w0 r) := by
   intro t8 w10 h h9
   rw [hJ12] at h
   clear hJ12
   dsimp only at h
   refine Ye (Vc 17 16 19 h (fun hc14 h => ?_) fun hc14 h => ?_)
   ·refine Xd 1 17 [.c 18, .c 20] 1 [(6, tB true)] ?_
    obtain rfl := sI h
    exact Xt (tB true) ⟨rfl, h9.below⟩
   ·refine Xg 1 [.c 20] (Xq 1 21 [.c 22] 3 [(0, sV pA0 p0 pc0), (1, iC p1), (2, iA p2), (18, sV pA0 p0 pc0), (19, iC p1), (20, iA p2)] ?_)
    obtain ⟨t19, hg18, h⟩ := of_bind h
    refine Yc 21 14 #[sV pA0 p0 pc0, iC p1, iA p2] ((listing_Lines_14_ok K _ w10  pA0 pc0 p0 p1 p2 h9.old' (h9.get 0 rfl) (h9.get 2 rfl) (h9.get 3 rfl) (h9.get 4 rfl) (h9.get 5 rfl) (h9.get 6 rfl) (h9.get 7 rfl) (h9.get 8 rfl) (h9.get 9 rfl) (h9.get 10 rfl) (h9.get 11 rfl) (h9.get 12 rfl) (h9.get 13 rfl) (h9.get 16 rfl) (h9.get 17 rfl) hg18).mono ?_)
    rintro _ w15 ⟨A20, c21, rfl, hr23⟩
    refine ⟨_, rfl, ?_⟩
    have hb16 := hr23.below
    have h17 : Holds M0 w0 w15 [sl (Rp.pair rC rB) (sV pA0 p0 pc0) p0, cel 0 0 [iA mx0], G1, G2, G3, G4, G5, G6, G7, G8, G9, G10, G11, G12, G13, G14, G15, G16, own Rp.str 9 (sV A20 t19 c21) t19] := h9.join hr23
    refine Zp 3 [0, 1, 2, 21, 22, 23, 24] [(21, sV A20 t19 c21), (22, sV pA0 p0 pc0), (23, iC p1), (24, iA p2)] ?_
    obtain ⟨t28, hg27, h⟩ := of_bind h
    refine Yc 25 17 #[sV pA0 p0 pc0, iC p1, iA p2] ((charabancref34_Lines_17_ok K _ w15  pA0 pc0 p0 p1 p2 h17.old' (h17.get 0 rfl) hg27).mono ?_)
    rintro _ w24 ⟨A29, c30, rfl, hr32⟩
    refine ⟨_, rfl, ?_⟩
    have hb25 := hr32.below
    have h26 : Holds M0 w0 w24 [sl (Rp.pair rC rB) (sV pA0 p0 pc0) p0, cel 0 0 [iA mx0], G1, G2, G3, G4, G5, G6, G7, G8, G9, G10, G11, G12, G13, G14, G15, G16, own Rp.str 9 (sV A20 t19 c21) t19, own Rp.str 9 (sV A29 t28 c30) t28] := h17.join hr32
    obtain ⟨t37, hg36, h⟩ := of_bind h
    refine Yc 26 16 #[sV A20 t19 c21, sV A29 t28 c30] ((charabancref09_Same_16_ok K (fun _ => False) w24  A20 c21 A29 c30 t19 t28 nF (h26.ownSl 18 rfl) (h26.ownSl 19 rfl) hg36).mono ?_)
    rintro _ w33 ⟨rfl, hb34⟩
    refine ⟨_, rfl, ?_⟩
    have h35 := h26.call hb34
    refine Zp 1 [0, 1, 2, 27] [(27, tB t37)] ?_
    rcases oc h with ⟨hc38, h⟩ | ⟨hc38, h⟩
    ·refine Yf 27 true hc38 (Zp 3 [0, 1, 2, 27, 28, 29, 30] [(28, sV pA0 p0 pc0), (29, iC p1), (30, iA p2)] ?_)
     obtain ⟨t43, hg42, h⟩ := of_bind h
     refine Yc 31 15 #[sV pA0 p0 pc0, iC p1, iA p2] ((listing_Rows_15_ok K _ w33  pA0 pc0 p0 p1 p2 h35.old' (h35.get 0 rfl) (h35.get 13 rfl) (h35.get 14 rfl) (h35.get 15 rfl) (h35.get 16 rfl) (h35.get 17 rfl) hg42).mono ?_)
     rintro _ w39 ⟨A44, c45, rfl, hr47⟩
     refine ⟨_, rfl, ?_⟩
     have hb40 := hr47.below
     have h41 : Holds M0 w0 w39 [sl (Rp.pair rC rB) (sV pA0 p0 pc0) p0, cel 0 0 [iA mx0], G1, G2, G3, G4, G5, G6, G7, G8, G9, G10, G11, G12, G13, G14, G15, G16, own Rp.str 9 (sV A20 t19 c21) t19, own Rp.str 9 (sV A29 t28 c30) t28, own Rp.str 9 (sV A44 t43 c45) t43] := h35.join hr47
     refine Zp 3 [0, 1, 2, 27, 31, 32, 33, 34] [(31, sV A44 t43 c45), (32, sV pA0 p0 pc0), (33, iC p1), (34, iA p2)] ?_
     obtain ⟨t52, hg51, h⟩ := of_bind h
     refine Yc 35 18 #[sV pA0 p0 pc0, iC p1, iA p2] ((charabancref34_Rows_18_ok K _ w39  pA0 pc0 p0 p1 p2 h41.old' (h41.get 0 rfl) hg51).mono ?_)
     rintro _ w48 ⟨A53, c54, rfl, hr56⟩
     refine ⟨_, rfl, ?_⟩
     have hb49 := hr56.below
     have h50 : Holds M0 w0 w48 [sl (Rp.pair rC rB) (sV pA0 p0 pc0) p0, cel 0 0 [iA mx0], G1, G2, G3, G4, G5, G6, G7, G8, G9, G10, G11, G12, G13, G14, G15, G16, own Rp.str 9 (sV A20 t19 c21) t19, own Rp.str 9 (sV A29 t28 c30) t28, own Rp.str 9 (sV A44 t43 c45) t43, own Rp.str 9 (sV A53 t52 c54) t52] := h41.join hr56
     obtain ⟨t61, hg60, h⟩ := of_bind h
     refine Yc 36 16 #[sV A44 t43 c45, sV A53 t52 c54] ((charabancref09_Same_16_ok K (fun _ => False) w48  A44 c45 A53 c54 t43 t52 nF (h50.ownSl 20 rfl) (h50.ownSl 21 rfl) hg60).mono ?_)
     rintro _ w57 ⟨rfl, hb58⟩
     refine ⟨_, rfl, ?_⟩
     have h59 := h50.call hb58
     refine Zp 2 [0, 1, 2, 38] [(38, tB t61)] ?_
     rcases oc h with ⟨hc62, h⟩ | ⟨hc62, h⟩
     ·refine Yf 38 true hc62 (Zp 3 [0, 1, 2, 38, 39, 40, 41] [(39, sV pA0 p0 pc0), (40, iC p1), (41, iA p2)] ?_)
      obtain ⟨t67, hg66, h⟩ := of_bind h
      refine Yc 42 13 #[sV pA0 p0 pc0, iC p1, iA p2] ((listing_Next_13_ok K _ w57  pA0 pc0 p0 p1 p2 h59.old' (h59.get 0 rfl) hg66).mono ?_)
      rintro _ w63 ⟨rfl, hb64⟩
      refine ⟨_, rfl, ?_⟩
      have h65 := h59.call hb64
      refine Yp 3 [(38, tB true), (42, iC t67), (43, sV pA0 p0 pc0), (44, iC p1), (45, iA p2)] ?_
      obtain ⟨t72, hg71, h⟩ := of_bind h
      refine Yc 46 19 #[sV pA0 p0 pc0, iC p1, iA p2] ((charabancref34_Next_19_ok K _ w63  pA0 pc0 p0 p1 p2 h65.old' (h65.get 0 rfl) hg71).mono ?_)
      rintro _ w68 ⟨rfl, hb69⟩
      refine ⟨_, rfl, ?_⟩
      have h70 := h65.call hb69
      refine Yd 3 [(6, tB (t67 == t72))] ?_
      obtain rfl := sI h
      exact Xt (tB (t67 == t72)) ⟨rfl, h70.below⟩
     ·refine Yf 38 false hc62 (Yd 11 [(6, tB false)] ?_)
      obtain rfl := sI h
      exact Xt (tB false) ⟨rfl, h59.below⟩
    ·refine Yf 27 false hc38 (Yd 22 [(6, tB false)] ?_)
     obtain rfl := sI h
     exact Xt (tB false) ⟨rfl, h35.below⟩
  clear hJ12
  rcases oc h with ⟨hc7, h⟩ | ⟨hc7, h⟩
  ·refine Yf 14 true hc7 (Zp 3 [0, 1, 2, 17] [(17, tB true)] (Ul [(0, sV pA0 p0 pc0), (1, iC p1), (2, iA p2), (17, tB true)] ?_))
   exact hj13 true w1 h (h3.pk [0, 1, 2, 3, 4, 5, 6, 7, 8, 9, 10, 11, 12, 13, 14, 15, 16, 17])
  ·refine Yf 14 false hc7 (Zp 3 [0, 1, 2, 17] [(17, tB (decide (p2 > 30)))] (Ul [(0, sV pA0 p0 pc0), (1, iC p1), (2, iA p2), (17, tB (decide (p2 > 30)))] ?_))
   exact hj13 (decide (p2 > 30)) w1 h (h3.pk [0, 1, 2, 3, 4, 5, 6, 7, 8, 9, 10, 11, 12, 13, 14, 15, 16, 17])
end
end Go.Proofs.YtbcepghanbkncaaGreatDoor.LiL
