/- The statement's function ListingLeads as a plain Lean function; written by wip/eng.py. -/
import Derived.Test.YtbcepghanbkncaaGreatDoorEngShort2
import Derived.Test.YtbcepghanbkncaaGreatDoorLiT8
set_option linter.unusedVariables false
set_option linter.unusedSimpArgs false
set_option maxHeartbeats 4000000
namespace Go.Proofs.YtbcepghanbkncaaGreatDoor.LiT
open Go.RowKit Go.Eng
set_option maxRecDepth 100000
noncomputable section
def B3 := bd Tryz.f3
def F3 := fn 3 Tryz.f3 B3 66 Tryz.func3
end

variable {mx0 : Int}
section
abbrev charabanclaw34_ListingLeads_3.post := pB
def charabanclaw34_ListingLeads_3.l0 (K : Nat) (p0 : List (Int × Int)) (p1 : Int) (p2_0 : Int) (p2_1 : Int) (p2_2 : Int) (p2_3 : Int) (p2_4 : Int) (p2_5 : Int) (t34 : Int) (t35 : Bool) (t36 : Int) (t37 : Bool) (t40 : List Int) : Nat → Int → Option (Lp Unit Unit)
 | 0, _ => none
 | k + 1, t41 => cond (decide (t41 < (t40.length : Int))) (cond (inR t41 t40.length) (cond (inR (IntKind.wrap .i64 (t41 - 1)) t40.length) (cond (decide ((rdD t40 t41) ≤ (rdD t40 (IntKind.wrap .i64 (t41 - 1))))) (some (Lp.ret ())) (charabanclaw34_ListingLeads_3.l0 K p0 p1 p2_0 p2_1 p2_2 p2_3 p2_4 p2_5 t34 t35 t36 t37 t40 k (IntKind.wrap .i64 (t41 + 1)))) none) none) (some (Lp.go ()))
theorem charabanclaw34_ListingLeads_3.l0_ok (K : Nat) (M0 : Nat → Prop) (w0 : World) (pA0 : Option Addr) (pc0 : Nat) (p0 : List (Int × Int)) (p1 : Int) (a0 : Int) (a1 : Int) (a2 : Int) (a3 : Int) (a4 : Int) (a5 : Int) (t34 : Int) (t35 : Bool) (t36 : Int) (t37 : Bool) (t40 : List Int) (A38 : Option Addr) (c39 : Nat) (R : Ending → World → Prop) (x : Lp Unit Unit) (hk0 : ∀ (w1 : World), x = Lp.go () → Holds M0 w0 w1 [sl (Rp.pair rC rB) (sV pA0 p0 pc0) p0, own rC 23 (sV A38 t40 c39) t40, cel 0 0 [iA mx0], G1, G2, G3, G4, G5, G6, G7, G8, G9, G10, G11, G12, G13, G14, G15, G16] → RunsI F3 [.c 47] [(0, sV pA0 p0 pc0), (1, iC p1), (8, iC t34), (9, tB t35), (10, iC t36), (11, tB t37), (12, sV A38 t40 c39)] w1 R) (hk1 : ∀ (w1 : World), x = Lp.ret () → Holds M0 w0 w1 [cel 0 0 [iA mx0], G1, G2, G3, G4, G5, G6, G7, G8, G9, G10, G11, G12, G13, G14, G15, G16] → R (.returned (tB false)) w1) :
  ∀ (k : Nat) (t41 : Int) (w : World), charabanclaw34_ListingLeads_3.l0 K p0 p1 a0 a1 a2 a3 a4 a5 t34 t35 t36 t37 t40 k t41 = some x → Holds M0 w0 w [sl (Rp.pair rC rB) (sV pA0 p0 pc0) p0, own rC 23 (sV A38 t40 c39) t40, cel 0 0 [iA mx0], G1, G2, G3, G4, G5, G6, G7, G8, G9, G10, G11, G12, G13, G14, G15, G16] → RunsI F3 [.c 31, .lp 31, .blk 0, .c 47] [(0, sV pA0 p0 pc0), (1, iC p1), (8, iC t34), (9, tB t35), (10, iC t36), (11, tB t37), (12, sV A38 t40 c39), (13, iA t41)] w R := by
 intro k
 induction k with
 | zero => intro t41 w h hH; exact absurd h (by simp [charabanclaw34_ListingLeads_3.l0])
 | succ k ih =>
  intro t41 w h hH
  rw [charabanclaw34_ListingLeads_3.l0.eq_2] at h
  refine Xg 1 [.c 32, .c 37, .lp 31, .blk 0, .c 47] (Xd 1 33 [.c 34, .c 37, .lp 31, .blk 0, .c 47] 4 [(0, sV pA0 p0 pc0), (1, iC p1), (8, iC t34), (9, tB t35), (10, iC t36), (11, tB t37), (12, sV A38 t40 c39), (13, iA t41), (38, tB (decide (t41 < (t40.length : Int))))] (Vc 38 35 36 h (fun hc42 h => ?_) fun hc42 h => ?_))
  ·refine Xg 1 [.c 37, .lp 31, .blk 0, .c 47] (Xg 3 [.c 40, .c 41, .blk 1, .c 46, .lp 31, .blk 0, .c 47] (RunsI.any 10 (by kernel_rfl) (by kernel_rfl) (by kernel_rfl) (Kp ([] : List Nat) (World.drew w)) ?_))
   have h44 := hH.drew
   generalize World.drew w = w43 at h44 ⊢
   have hS45 := Kp.refl ([] : List Nat) w43
   refine Wu 0 41 (sV A38 t40 c39) hS45 (Wu 1 42 (iA t41) hS45 ?_)
   have ⟨hc47, h⟩ := oz h
   refine AnyE.idxOwnA 2 43 1 29 23 t41 h44 (by kernel_rfl) hS45 rfl (by kernel_rfl) (by kernel_rfl) hc47 (AnyE.loadOwnA 3 44 1 23 23 t41 0 (iC (rdD t40 t41)) [] (o := (Int.toNat t41) * 1 + 0) h44 rfl (by kernel_rfl) hS45 rfl rfl (by kernel_rfl) rfl hc47 (fun _ _ hk => by obtain rfl := hk; kernel_rfl) (Wu 4 45 (sV A38 t40 c39) hS45 (Wu 5 46 (iA t41) hS45 (Wu 6 47 (iA (wA (t41 - 1))) hS45 ?_))))
   have ⟨hc48, h⟩ := oz h
   refine AnyE.idxOwnA 7 48 1 29 23 (wA (t41 - 1)) h44 (by kernel_rfl) hS45 rfl (by kernel_rfl) (by kernel_rfl) hc48 (AnyE.loadOwnA 8 49 1 23 23 (wA (t41 - 1)) 0 (iC (rdD t40 (wA (t41 - 1)))) [] (o := (Int.toNat (wA (t41 - 1))) * 1 + 0) h44 rfl (by kernel_rfl) hS45 rfl rfl (by kernel_rfl) rfl hc48 (fun _ _ hk => by obtain rfl := hk; kernel_rfl) (Wu 9 50 (tB (decide ((rdD t40 t41) ≤ (rdD t40 (wA (t41 - 1)))))) hS45 (AnyE.done (by kernel_rfl) (fun w49 hu50 => ?_))))
   have h51 := h44.call hu50
   refine Vl [(0, sV pA0 p0 pc0), (1, iC p1), (8, iC t34), (9, tB t35), (10, iC t36), (11, tB t37), (12, sV A38 t40 c39), (13, iA t41), (50, tB (decide ((rdD t40 t41) ≤ (rdD t40 (wA (t41 - 1))))))] (Vc 50 42 45 h (fun hc52 h => ?_) fun hc52 h => ?_)
   ·refine Xd 1 43 [.c 44, .blk 1, .c 46, .lp 31, .blk 0, .c 47] 1 [(6, tB false)] (Xt (tB false) ?_)
    exact hk1 w49 (sI h).symm (h51.pk [2, 3, 4, 5, 6, 7, 8, 9, 10, 11, 12, 13, 14, 15, 16, 17, 18])
   ·refine Xg 1 [.blk 1, .c 46, .lp 31, .blk 0, .c 47] (Xd 1 46 [.lp 31, .blk 0, .c 47] 3 [(0, sV pA0 p0 pc0), (1, iC p1), (8, iC t34), (9, tB t35), (10, iC t36), (11, tB t37), (12, sV A38 t40 c39), (13, iA (wA (t41 + 1)))] (Xg 1 [.c 31, .lp 31, .blk 0, .c 47] (Vl [(0, sV pA0 p0 pc0), (1, iC p1), (8, iC t34), (9, tB t35), (10, iC t36), (11, tB t37), (12, sV A38 t40 c39), (13, iA (wA (t41 + 1)))] ?_)))
    exact ih (wA (t41 + 1)) w49 h (h51.pk [0, 1, 2, 3, 4, 5, 6, 7, 8, 9, 10, 11, 12, 13, 14, 15, 16, 17, 18])
  ·refine Xg 1 [.c 47] (Vl [(0, sV pA0 p0 pc0), (1, iC p1), (8, iC t34), (9, tB t35), (10, iC t36), (11, tB t37), (12, sV A38 t40 c39)] ?_)
   exact hk0 w (sI h).symm (hH.pk [0, 1, 2, 3, 4, 5, 6, 7, 8, 9, 10, 11, 12, 13, 14, 15, 16, 17, 18])
def charabanclaw34_ListingLeads_3.f (K : Nat) (p0 : List (Int × Int)) (p1 : Int) (p2_0 : Int) (p2_1 : Int) (p2_2 : Int) (p2_3 : Int) (p2_4 : Int) (p2_5 : Int) : Option Bool := (charabanclaw34_awake_7.f K).bind fun t10 => cond (!t10) (some false) (cond (decide ((p0.length : Int) > 60)) (some true) ((listing_Target_8.f K p2_0 p2_1 p2_2 p2_3 p2_4 p2_5 p1).bind fun yt17 => (charabancref34_Target_9.f K p2_0 p2_1 p2_2 p2_3 p2_4 p2_5 p1).bind fun yt23 => (listing_Targets_10.f K p0 p1 20).bind fun t29 => (charabanclaw34_ListingLeads_3.l0 K p0 p1 p2_0 p2_1 p2_2 p2_3 p2_4 p2_5 yt17.1 yt17.2 yt23.1 yt23.2 t29 K 1).bind (fun x53 => Lp.elim x53 (fun _ => some false) (fun _ => cond (yt17.1 == yt23.1) (cond (yt17.2 == yt23.2) ((charabancref34_Targets_12.f K p0 p1 20).bind fun t65 => (charabancref34_Words_11.f K t29 t65).bind fun t74 => some t74) (some false)) (some false)))))
theorem charabanclaw34_ListingLeads_3_ok (K : Nat) (M0 : Nat → Prop) (w0 : World) (pA0 : Option Addr) (pc0 : Nat) (p0 : List (Int × Int)) (p1 : Int) (a0 : Int) (a1 : Int) (a2 : Int) (a3 : Int) (a4 : Int) (a5 : Int) (ho : ∀ b, M0 b → b < w0.heap.size) (hs0 : Sl (Rp.pair rC rB) w0 M0 (sV pA0 p0 pc0) p0) (hG0 : (cel 0 0 [iA mx0]).ok w0 M0) (hG1 : G1.ok w0 M0) (hG2 : G2.ok w0 M0) (hG3 : G3.ok w0 M0) (hG4 : G4.ok w0 M0) (hG5 : G5.ok w0 M0) (hG6 : G6.ok w0 M0) (hG7 : G7.ok w0 M0) (hG8 : G8.ok w0 M0) (hG9 : G9.ok w0 M0) (hG10 : G10.ok w0 M0) (hG11 : G11.ok w0 M0) (hG12 : G12.ok w0 M0) (hG13 : G13.ok w0 M0) (hG14 : G14.ok w0 M0) (hG15 : G15.ok w0 M0) (hG16 : G16.ok w0 M0) {r : Bool} (h : charabanclaw34_ListingLeads_3.f K p0 p1 a0 a1 a2 a3 a4 a5 = some r) :
  Calls Tryz.prog 3 #[sV pA0 p0 pc0, iC p1, .agg #[iA a0, iB a1, iB a2, iC a3, iA a4, iA a5]] w0 (charabanclaw34_ListingLeads_3.post M0 w0 r) := by
 unfold charabanclaw34_ListingLeads_3.f at h
 have h0 : Holds M0 w0 w0 [] := Holds.start ho
 have h00 := h0.aS hs0
 have h0g0 := h00.add (cel 0 0 [iA mx0]) rfl ⟨hG0.1, fun hm => hG0.2.1 (hm.elim id (fun hm => absurd hm (by simp [mines, sl, gl, cel]))), hG0.2.2⟩
 have h0g1 := h0g0.aG hG1
 have h0g2 := h0g1.aG hG2
 have h0g3 := h0g2.aG hG3
 have h0g4 := h0g3.aG hG4
 have h0g5 := h0g4.aG hG5
 have h0g6 := h0g5.aG hG6
 have h0g7 := h0g6.aG hG7
 have h0g8 := h0g7.aG hG8
 have h0g9 := h0g8.aG hG9
 have h0g10 := h0g9.aG hG10
 have h0g11 := h0g10.aG hG11
 have h0g12 := h0g11.aG hG12
 have h0g13 := h0g12.aG hG13
 have h0g14 := h0g13.aG hG14
 have h0g15 := h0g14.aG hG15
 have h0g16 := h0g15.aG hG16
 have h0 : Holds M0 w0 w0 [sl (Rp.pair rC rB) (sV pA0 p0 pc0) p0, cel 0 0 [iA mx0], G1, G2, G3, G4, G5, G6, G7, G8, G9, G10, G11, G12, G13, G14, G15, G16] := h0g16
 refine calls_of F3 rfl [sV pA0 p0 pc0, iC p1, .agg #[iA a0, iB a1, iB a2, iC a3, iA a4, iA a5]] (by kernel_rfl) (Xg 1 [.c 1, .c 2] (Xr (Yx 5 25 [iA a0, iB a1, iB a2, iC a3, iA a4, iA a5] h0 ?_)))
 intro w1 b2 h3 hb4 hn5
 refine Yd 1 [(0, sV pA0 p0 pc0), (1, iC p1), (5, pt b2)] (Xg 1 [.c 3, .c 4] (Xr ?_))
 obtain ⟨t10, hg9, h⟩ := of_bind h
 refine Yc 14 7 #[] ((charabanclaw34_awake_7_ok K _ w1  h3.old' (h3.get 1 rfl) (h3.get 2 rfl) (h3.get 3 rfl) (h3.get 4 rfl) (h3.get 5 rfl) (h3.get 6 rfl) (h3.get 7 rfl) (h3.get 8 rfl) (h3.get 9 rfl) (h3.get 10 rfl) (h3.get 11 rfl) (h3.get 12 rfl) (h3.get 13 rfl) (h3.get 14 rfl) (h3.get 15 rfl) (h3.get 16 rfl) (h3.get 17 rfl) hg9).mono ?_)
 rintro _ w6 ⟨rfl, hb7⟩
 refine ⟨_, rfl, ?_⟩
 have h8 := h3.call hb7
 refine Zp 1 [0, 1, 5, 7] [(7, tB t10)] (Zy 2 6 [.c 7, .c 12] 2 [0, 1, 5, 16] [(16, tB (!t10))] (Ye (Vc 16 8 11 h (fun hc11 h => ?_) fun hc11 h => ?_)))
 ·refine Xd 1 9 [.c 10, .c 12] 1 [(6, tB false)] ?_
  obtain rfl := sI h
  exact Xt (tB false) ⟨rfl, h8.below⟩
 ·refine Xg 1 [.c 12] (Xd 2 14 [.c 15, .c 20] 3 [(0, sV pA0 p0 pc0), (1, iC p1), (5, pt b2), (19, tB (decide ((p0.length : Int) > 60)))] (Vc 19 16 19 h (fun hc12 h => ?_) fun hc12 h => ?_))
  ·refine Xd 1 17 [.c 18, .c 20] 1 [(6, tB true)] ?_
   obtain rfl := sI h
   exact Xt (tB true) ⟨rfl, h8.below⟩
  ·refine Xg 1 [.c 20] (Xg 1 [.c 21, .c 22] (Xr (Ya 21 18 25 b2 0 (.agg #[iA a0, iB a1, iB a2, iC a3, iA a4, iA a5]) h8 rfl (Yp 1 [(0, sV pA0 p0 pc0), (1, iC p1), (5, pt b2), (21, .agg #[iA a0, iB a1, iB a2, iC a3, iA a4, iA a5]), (22, iC p1)] ?_))))
   obtain ⟨⟨t17, t18⟩, hg16, h⟩ := of_bind h
   dsimp only at h
   refine Yc 23 8 #[.agg #[iA a0, iB a1, iB a2, iC a3, iA a4, iA a5], iC p1] ((listing_Target_8_ok K _ w6  a0 a1 a2 a3 a4 a5 p1 h8.old' hg16).mono ?_)
   rintro _ w13 ⟨rfl, hb14⟩
   refine ⟨_, rfl, ?_⟩
   have h15 := h8.call hb14
   refine Zd 5 [0, 1, 5, 8, 9] [(8, iC t17), (9, tB t18)] (Xg 1 [.c 23, .c 24] (Xr (Ya 27 18 25 b2 0 (.agg #[iA a0, iB a1, iB a2, iC a3, iA a4, iA a5]) h15 rfl (Zp 1 [0, 1, 8, 9, 27, 28] [(27, .agg #[iA a0, iB a1, iB a2, iC a3, iA a4, iA a5]), (28, iC p1)] ?_))))
   obtain ⟨⟨t23, t24⟩, hg22, h⟩ := of_bind h
   dsimp only at h
   refine Yc 29 9 #[.agg #[iA a0, iB a1, iB a2, iC a3, iA a4, iA a5], iC p1] ((charabancref34_Target_9_ok K _ w13  a0 a1 a2 a3 a4 a5 p1 h15.old' hg22).mono ?_)
   rintro _ w19 ⟨rfl, hb20⟩
   refine ⟨_, rfl, ?_⟩
   have h21 := h15.call hb20
   refine Zp 5 [0, 1, 8, 9, 10, 11] [(10, iC t23), (11, tB t24)] (Zy 1 25 [.c 26] 2 [0, 1, 8, 9, 10, 11, 32, 33] [(32, sV pA0 p0 pc0), (33, iC p1)] ?_)
   obtain ⟨t29, hg28, h⟩ := of_bind h
   refine Yc 34 10 #[sV pA0 p0 pc0, iC p1, iA 20] ((listing_Targets_10_ok K _ w19  pA0 pc0 p0 p1 20 h21.old' (h21.get 0 rfl) hg28).mono ?_)
   rintro _ w25 ⟨A30, c31, rfl, hr33⟩
   refine ⟨_, rfl, ?_⟩
   have hb26 := hr33.below
   have h27 : Holds M0 w0 w25 [sl (Rp.pair rC rB) (sV pA0 p0 pc0) p0, cel 0 0 [iA mx0], G1, G2, G3, G4, G5, G6, G7, G8, G9, G10, G11, G12, G13, G14, G15, G16, box b2 25 [iA a0, iB a1, iB a2, iC a3, iA a4, iA a5], own rC 23 (sV A30 t29 c31) t29] := h21.join hr33
   refine Zp 1 [0, 1, 8, 9, 10, 11, 12] [(12, sV A30 t29 c31)] (Zy 2 28 [.c 29, .c 47] 1 [0, 1, 8, 9, 10, 11, 12, 13] [(13, iA 1)] (Ye (Xg 2 [.c 31, .lp 31, .blk 0, .c 47] ?_)))
   obtain ⟨x53, hx54, h⟩ := of_bind h
   refine Vl [(0, sV pA0 p0 pc0), (1, iC p1), (8, iC t17), (9, tB t18), (10, iC t23), (11, tB t24), (12, sV A30 t29 c31), (13, iA 1)] (charabanclaw34_ListingLeads_3.l0_ok K M0 w0 pA0 pc0 p0 p1 a0 a1 a2 a3 a4 a5 t17 t18 t23 t24 t29 A30 c31 _ x53 ?_ ?_ K 1 w25 hx54 (h27.pk [0, 19, 1, 2, 3, 4, 5, 6, 7, 8, 9, 10, 11, 12, 13, 14, 15, 16, 17]))
   ·intro w56 hq75 h55
    (try rw [hq75] at h)
    dsimp only [Lp.elim] at h
    refine Xq 1 48 [.c 49] 4 [(0, sV pA0 p0 pc0), (1, iC p1), (9, tB t18), (11, tB t24), (12, sV A30 t29 c31), (54, tB (t17 == t23))] ?_
    rcases oc h with ⟨hc59, h⟩ | ⟨hc59, h⟩
    ·refine Yf 54 true hc59 (Zp 5 [0, 1, 12, 59] [(59, tB (t18 == t24))] ?_)
     rcases oc h with ⟨hc60, h⟩ | ⟨hc60, h⟩
     ·refine Yf 59 true hc60 (Yp 3 [(59, tB true), (60, sV A30 t29 c31), (61, sV pA0 p0 pc0), (62, iC p1)] ?_)
      obtain ⟨t65, hg64, h⟩ := of_bind h
      refine Yc 63 12 #[sV pA0 p0 pc0, iC p1, iA 20] ((charabancref34_Targets_12_ok K _ w56  pA0 pc0 p0 p1 20 h55.old' (h55.get 0 rfl) hg64).mono ?_)
      rintro _ w61 ⟨A66, c67, rfl, hr69⟩
      refine ⟨_, rfl, ?_⟩
      have hb62 := hr69.below
      have h63 : Holds M0 w0 w61 [sl (Rp.pair rC rB) (sV pA0 p0 pc0) p0, own rC 23 (sV A30 t29 c31) t29, cel 0 0 [iA mx0], G1, G2, G3, G4, G5, G6, G7, G8, G9, G10, G11, G12, G13, G14, G15, G16, own rC 23 (sV A66 t65 c67) t65] := h55.join hr69
      obtain ⟨t74, hg73, h⟩ := of_bind h
      refine Yc 64 11 #[sV A30 t29 c31, sV A66 t65 c67] ((charabancref34_Words_11_ok K (fun _ => False) w61  A30 c31 A66 c67 t29 t65 nF (h63.ownSl 1 rfl) (h63.ownSl 19 rfl) hg73).mono ?_)
      rintro _ w70 ⟨rfl, hb71⟩
      refine ⟨_, rfl, ?_⟩
      have h72 := h63.call hb71
      refine Yd 2 [(6, tB t74)] ?_
      obtain rfl := sI h
      exact Xt (tB t74) ⟨rfl, h72.below⟩
     ·refine Yf 59 false hc60 (Yd 7 [(6, tB false)] ?_)
      obtain rfl := sI h
      exact Xt (tB false) ⟨rfl, h55.below⟩
    ·refine Yf 54 false hc59 (Yd 12 [(6, tB false)] ?_)
     obtain rfl := sI h
     exact Xt (tB false) ⟨rfl, h55.below⟩
   ·intro w58 hq76 h57
    (try rw [hq76] at h)
    dsimp only [Lp.elim] at h
    obtain rfl := sI h
    exact ⟨rfl, h57.below⟩
end
end Go.Proofs.YtbcepghanbkncaaGreatDoor.LiT
