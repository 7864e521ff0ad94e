/- Functions of the program as plain Lean functions, each with the proof that the call comes to it; written by wip/eng.py. -/
import Derived.Test.YtbcepghanbkncaaGreatDoorEngShort2
import Derived.Test.YtbcepghanbkncaaGreatDoorLiT7
set_option linter.unusedVariables false
set_option linter.unusedSimpArgs false
set_option maxHeartbeats 4000000
namespace Go.Proofs.YtbcepghanbkncaaGreatDoor.LiT
open Go.RowKit Go.Eng
set_option maxRecDepth 100000
section
def charabancref14_Dump_22.post (M0 : Nat → Prop) (w0 : World) (r : (List Int)) : Ending → World → Prop := fun e w => ∃ (A1 : Option Addr) (c1 : Nat), e = .returned (.slice A1 r.length c1) ∧ Holds M0 w0 w [own (Rp.int .u8) 5 (.slice A1 r.length c1) r]
def charabancref14_Dump_22.l0 (K : Nat) (p0 : List (Int × Int)) (p1 : Int) (p2 : Int) : Nat → (List Int) → Int → Option (List Int)
 | 0, _, _ => none
 | k + 1, t4, t5 => Let (fun (t7 : Bool) => cond t7 ((charabancref14_Get_47.f K p0 (IntKind.wrap .u16 (p1 + (IntKind.wrap .u16 t5)))).bind fun t18 => cond (mayBe (t4.length + ([t18] : List Int).length) 1) (charabancref14_Dump_22.l0 K p0 p1 p2 k (t4 ++ ([t18] : List Int)) (IntKind.wrap .i64 (t5 + 1))) none) (some t4)) (fun j10 => cond (decide (t5 < p2)) (j10 (decide (t5 < 4096))) (j10 false))
theorem charabancref14_Dump_22.l0_ok (K : Nat) (M0 : Nat → Prop) (w0 : World) (pA0 : Option Addr) (pc0 : Nat) (p0 : List (Int × Int)) (p1 : Int) (p2 : Int) (R : Ending → World → Prop) (x : (List Int)) (hk0 : ∀ (t32 : List Int) (A30 : Option Addr) (c31 : Nat) (w1 : World), x = t32 → Holds M0 w0 w1 [own rB 5 (sV A30 t32 c31) t32] → RunsI F22 [.c 19] [(7, sV A30 t32 c31)] w1 R) :
  ∀ (k : Nat) (t4 : List Int) (t5 : Int) (A2 : Option Addr) (c3 : Nat) (w : World), charabancref14_Dump_22.l0 K p0 p1 p2 k t4 t5 = some x → Holds M0 w0 w [sl (Rp.pair rC rB) (sV pA0 p0 pc0) p0, own rB 5 (sV A2 t4 c3) t4] → RunsI F22 [.c 9, .lp 9, .blk 0, .c 19] [(0, sV pA0 p0 pc0), (1, iC p1), (2, iA p2), (7, sV A2 t4 c3), (8, iA t5)] w R := by
 intro k
 induction k with
 | zero => intro t4 t5 A2 c3 w h hH; exact absurd h (by simp [charabancref14_Dump_22.l0])
 | succ k ih =>
  intro t4 t5 A2 c3 w h hH
  rw [charabancref14_Dump_22.l0.eq_2] at h
  refine Xg 1 [.c 10, .c 15, .lp 9, .blk 0, .c 19] (Xq 1 11 [.c 12, .c 15, .lp 9, .blk 0, .c 19] 4 [(0, sV pA0 p0 pc0), (1, iC p1), (2, iA p2), (7, sV A2 t4 c3), (8, iA t5), (12, tB (decide (t5 < p2)))] ?_)
  obtain ⟨j10, hJ11, h⟩ := of_let h
  have hj12 : ∀ (t7 : Bool) (w9 : World), j10 t7 = some x → Holds M0 w0 w9 [sl (Rp.pair rC rB) (sV pA0 p0 pc0) p0, own rB 5 (sV A2 t4 c3) t4] → RegI F22 11 [.c 12, .c 15, .lp 9, .blk 0, .c 19] 7 [(0, sV pA0 p0 pc0), (1, iC p1), (2, iA p2), (7, sV A2 t4 c3), (8, iA t5), (15, tB t7)] w9 R := by
   intro t7 w9 h h8
   rw [hJ11] at h
   clear hJ11
   dsimp only at h
   refine Ye (Vc 15 13 14 h (fun hc13 h => ?_) fun hc13 h => ?_)
   ·refine Xg 1 [.c 15, .lp 9, .blk 0, .c 19] (Xq 2 17 [.blk 1, .c 18, .lp 9, .blk 0, .c 19] 6 [(0, sV pA0 p0 pc0), (1, iC p1), (2, iA p2), (8, iA t5), (18, sV A2 t4 c3), (19, sV pA0 p0 pc0), (23, iC (wC (p1 + (wC t5))))] ?_)
    obtain ⟨t18, hg17, h⟩ := of_bind h
    refine Yc 24 47 #[sV pA0 p0 pc0, iC (wC (p1 + (wC t5)))] ((charabancref14_Get_47_ok K _ w9  pA0 pc0 p0 (wC (p1 + (wC t5))) h8.old' (h8.get 0 rfl) hg17).mono ?_)
    rintro _ w14 ⟨rfl, hb15⟩
    refine ⟨_, rfl, ?_⟩
    have h16 := h8.call hb15
    refine Yo (OpE.lit 25 5 [iB t18] 1 h16 (by kernel_rfl) (by kernel_rfl) ?_)
    intro w19 b20 h21 hb22 hn23
    have ⟨hc24, h⟩ := oz h
    refine Yo (OpE.appendBox 26 1 2 39 5 1 ([t18] : List Int) 0 h21 (by kernel_rfl) (by kernel_rfl) (by kernel_rfl) rfl rfl rfl (cells_int _ _ _ _) hc24 ?_)
    intro w25 A26 c27 h28 hk29
    refine Zp 1 [0, 1, 2, 7, 8] [(7, .slice A26 ((t4 ++ ([t18] : List Int)).length) c27)] (Zy 1 18 [.lp 9, .blk 0, .c 19] 3 [0, 1, 2, 7, 8] [(8, iA (wA (t5 + 1)))] (Ye (Xg 1 [.c 9, .lp 9, .blk 0, .c 19] (Vl [(0, sV pA0 p0 pc0), (1, iC p1), (2, iA p2), (7, .slice A26 ((t4 ++ ([t18] : List Int)).length) c27), (8, iA (wA (t5 + 1)))] ?_))))
    exact ih (t4 ++ ([t18] : List Int)) (wA (t5 + 1)) A26 c27 w25 h (h28.pk [0, 1])
   ·refine Xg 1 [.c 19] (Vl [(7, sV A2 t4 c3)] ?_)
    exact hk0 t4 A2 c3 w9 (sI h).symm (h8.pk [1])
  clear hJ11
  rcases oc h with ⟨hc6, h⟩ | ⟨hc6, h⟩
  ·refine Yf 12 true hc6 (Zp 3 [0, 1, 2, 7, 8, 15] [(15, tB (decide (t5 < 4096)))] (Ul [(0, sV pA0 p0 pc0), (1, iC p1), (2, iA p2), (7, sV A2 t4 c3), (8, iA t5), (15, tB (decide (t5 < 4096)))] ?_))
   exact hj12 (decide (t5 < 4096)) w h (hH.pk [0, 1])
  ·refine Yf 12 false hc6 (Zp 3 [0, 1, 2, 7, 8, 15] [(15, tB false)] (Ul [(0, sV pA0 p0 pc0), (1, iC p1), (2, iA p2), (7, sV A2 t4 c3), (8, iA t5), (15, tB false)] ?_))
   exact hj12 false w h (hH.pk [0, 1])
def charabancref14_Dump_22.f (K : Nat) (p0 : List (Int × Int)) (p1 : Int) (p2 : Int) : Option (List Int) := (charabancref14_Dump_22.l0 K p0 p1 p2 K ([] : List Int) 0).bind (fun t37 => some t37)
theorem charabancref14_Dump_22_ok (K : Nat) (M0 : Nat → Prop) (w0 : World) (pA0 : Option Addr) (pc0 : Nat) (p0 : List (Int × Int)) (p1 : Int) (p2 : Int) (ho : ∀ b, M0 b → b < w0.heap.size) (hs0 : Sl (Rp.pair rC rB) w0 M0 (sV pA0 p0 pc0) p0) {r : (List Int)} (h : charabancref14_Dump_22.f K p0 p1 p2 = some r) :
  Calls Tryz.prog 22 #[sV pA0 p0 pc0, iC p1, iA p2] w0 (charabancref14_Dump_22.post M0 w0 r) := by
 unfold charabancref14_Dump_22.f at h
 have h0 : Holds M0 w0 w0 [] := Holds.start ho
 have h00 := h0.aS hs0
 have h0 : Holds M0 w0 w0 [sl (Rp.pair rC rB) (sV pA0 p0 pc0) p0] := h00
 refine calls_of F22 rfl [sV pA0 p0 pc0, iC p1, iA p2] (by kernel_rfl) (Xq 1 1 [.c 2] 1 [(0, sV pA0 p0 pc0), (1, iC p1), (2, iA p2)] (Zy 1 3 [.c 4] 1 [0, 1, 2, 7] [(7, n0)] (Zy 2 6 [.c 7, .c 19] 1 [0, 1, 2, 7, 8] [(8, iA 0)] (Ye (Xg 2 [.c 9, .lp 9, .blk 0, .c 19] ?_)))))
 obtain ⟨x33, hx34, h⟩ := of_bind h
 have h1 := h0.addOwnNil rB 5
 refine Vl [(0, sV pA0 p0 pc0), (1, iC p1), (2, iA p2), (7, .slice none (([] : List Int).length) 0), (8, iA 0)] (charabancref14_Dump_22.l0_ok K M0 w0 pA0 pc0 p0 p1 p2 _ x33 ?_ K ([] : List Int) 0 none 0 w0 hx34 (h1.pk [0, 1]))
 ·intro t37 A35 c36 w39 hq40 h38
  (try rw [hq40] at h)
  refine Xd 1 20 [.c 21] 2 [(6, sV A35 t37 c36)] (Xt (sV A35 t37 c36) ?_)
  obtain rfl := sI h
  exact ⟨A35, c36, rfl, h38.pk [0]⟩
end

section
def charabancref08_at_81.post (M0 : Nat → Prop) (w0 : World) (r : Int) : Ending → World → Prop := fun e w => e = .returned (.int .u8 r) ∧ Below w0.heap.size w0 w
def charabancref08_at_81.f (K : Nat) (p0 : List Int) (p1 : Int) : Option Int := cond (decide (p1 < (p0.length : Int))) (cond (inR p1 p0.length) (some (rdD p0 p1)) none) (some 0)
theorem charabancref08_at_81_ok (K : Nat) (M0 : Nat → Prop) (w0 : World) (pA0 : Option Addr) (pc0 : Nat) (p0 : List Int) (p1 : Int) (ho : ∀ b, M0 b → b < w0.heap.size) (hs0 : Sl rB w0 M0 (sV pA0 p0 pc0) p0) {r : Int} (h : charabancref08_at_81.f K p0 p1 = some r) :
  Calls Tryz.prog 81 #[sV pA0 p0 pc0, iA p1] w0 (charabancref08_at_81.post M0 w0 r) := by
 unfold charabancref08_at_81.f at h
 have h0 : Holds M0 w0 w0 [] := Holds.start ho
 have h00 := h0.aS hs0
 have h0 : Holds M0 w0 w0 [sl rB (sV pA0 p0 pc0) p0] := h00
 refine calls_of F81 rfl [sV pA0 p0 pc0, iA p1] (by kernel_rfl) (Xq 1 1 [.c 2] 1 [(0, sV pA0 p0 pc0), (1, iA p1)] (Zy 2 4 [.c 5, .c 10] 4 [0, 1, 8] [(8, tB (decide (p1 < (p0.length : Int))))] (Ye (Vc 8 6 9 h (fun hc1 h => ?_) fun hc1 h => ?_))))
 ·refine Xq 1 7 [.c 8, .c 10] 2 [(9, sV pA0 p0 pc0), (10, iA p1)] ?_
  have ⟨hc2, h⟩ := oz h
  refine Yo (OpE.idxSl 11 0 39 p1 h0 (by kernel_rfl) rfl (by kernel_rfl) (by kernel_rfl) hc2 ?_)
  intro b3 o4 cs5 hk6 h7
  obtain rfl := hk6
  refine Yz 12 1 5 b3 o4 0 (iB (rdD p0 p1)) h7 rfl (Yd 1 [(4, iB (rdD p0 p1))] ?_)
  obtain rfl := sI h
  exact Xt (iB (rdD p0 p1)) ⟨rfl, h7.below⟩
 ·refine Xg 1 [.c 10] (Xd 1 11 [.c 12] 1 [(4, iB 0)] ?_)
  obtain rfl := sI h
  exact Xt (iB 0) ⟨rfl, h0.below⟩
end

section
abbrev charabancref08_plane_82.post := pI
def charabancref08_plane_82.f (K : Nat) (p0 : Int) (p1 : Int) : Option Int := cond (p1 == 237) (some 2) (Let (fun (t3 : Bool) => cond t3 (some 5) (Let (fun (t11 : Bool) => cond t11 (some 6) (cond (p1 == 203) (some 1) (cond (p0 == 221) (some 3) (cond (p0 == 253) (some 4) (some 0))))) (fun j14 => cond (p1 == 203) (j14 (p0 == 253)) (j14 false)))) (fun j6 => cond (p1 == 203) (j6 (p0 == 221)) (j6 false)))
theorem charabancref08_plane_82_ok (K : Nat) (M0 : Nat → Prop) (w0 : World) (p0 : Int) (p1 : Int) (ho : ∀ b, M0 b → b < w0.heap.size) {r : Int} (h : charabancref08_plane_82.f K p0 p1 = some r) :
  Calls Tryz.prog 82 #[iB p0, iB p1] w0 (charabancref08_plane_82.post M0 w0 r) := by
 unfold charabancref08_plane_82.f at h
 have h0 : Holds M0 w0 w0 [] := Holds.start ho
 refine calls_of F82 rfl [iB p0, iB p1] (by kernel_rfl) (Xq 1 1 [.c 2] 1 [(0, iB p0), (1, iB p1)] (Zy 3 5 [.c 6, .blk 0, .c 41] 3 [0, 1, 5] [(5, tB (p1 == 237))] (Ye (Vc 5 7 10 h (fun hc1 h => ?_) fun hc1 h => ?_))))
 ·refine Xd 1 8 [.c 9, .blk 0, .c 41] 1 [(4, iA 2)] ?_
  obtain rfl := sI h
  exact Xt (iA 2) ⟨rfl, h0.below⟩
 ·refine Xq 1 11 [.c 12, .blk 0, .c 41] 3 [(0, iB p0), (1, iB p1), (11, tB (p1 == 203))] ?_
  obtain ⟨j6, hJ7, h⟩ := of_let h
  have hj8 : ∀ (t3 : Bool) (w5 : World), j6 t3 = some r → Holds M0 w0 w5 [] → RegI F82 11 [.c 12, .blk 0, .c 41] 7 [(0, iB p0), (1, iB p1), (8, tB t3)] w5 (charabancref08_plane_82.post M0 w0 r) := by
   intro t3 w5 h h4
   rw [hJ7] at h
   clear hJ7
   dsimp only at h
   refine Ye (Vc 8 13 16 h (fun hc9 h => ?_) fun hc9 h => ?_)
   ·refine Xd 1 14 [.c 15, .blk 0, .c 41] 1 [(4, iA 5)] ?_
    obtain rfl := sI h
    exact Xt (iA 5) ⟨rfl, h4.below⟩
   ·refine Xq 1 17 [.c 18, .blk 0, .c 41] 3 [(0, iB p0), (1, iB p1), (18, tB (p1 == 203))] ?_
    obtain ⟨j14, hJ15, h⟩ := of_let h
    have hj16 : ∀ (t11 : Bool) (w13 : World), j14 t11 = some r → Holds M0 w0 w13 [] → RegI F82 17 [.c 18, .blk 0, .c 41] 7 [(0, iB p0), (1, iB p1), (15, tB t11)] w13 (charabancref08_plane_82.post M0 w0 r) := by
     intro t11 w13 h h12
     rw [hJ15] at h
     clear hJ15
     dsimp only at h
     refine Ye (Vc 15 19 22 h (fun hc17 h => ?_) fun hc17 h => ?_)
     ·refine Xd 1 20 [.c 21, .blk 0, .c 41] 1 [(4, iA 6)] ?_
      obtain rfl := sI h
      exact Xt (iA 6) ⟨rfl, h12.below⟩
     ·refine Xd 1 23 [.c 24, .blk 0, .c 41] 3 [(0, iB p0), (22, tB (p1 == 203))] (Vc 22 25 28 h (fun hc18 h => ?_) fun hc18 h => ?_)
      ·refine Xd 1 26 [.c 27, .blk 0, .c 41] 1 [(4, iA 1)] ?_
       obtain rfl := sI h
       exact Xt (iA 1) ⟨rfl, h12.below⟩
      ·refine Xd 1 29 [.c 30, .blk 0, .c 41] 3 [(0, iB p0), (25, tB (p0 == 221))] (Vc 25 31 34 h (fun hc19 h => ?_) fun hc19 h => ?_)
       ·refine Xd 1 32 [.c 33, .blk 0, .c 41] 1 [(4, iA 3)] ?_
        obtain rfl := sI h
        exact Xt (iA 3) ⟨rfl, h12.below⟩
       ·refine Xd 1 35 [.c 36, .blk 0, .c 41] 3 [(28, tB (p0 == 253))] (Vc 28 37 40 h (fun hc20 h => ?_) fun hc20 h => ?_)
        ·refine Xd 1 38 [.c 39, .blk 0, .c 41] 1 [(4, iA 4)] ?_
         obtain rfl := sI h
         exact Xt (iA 4) ⟨rfl, h12.below⟩
        ·refine Xg 1 [.blk 0, .c 41] (Xd 2 42 [.c 43] 1 [(4, iA 0)] ?_)
         obtain rfl := sI h
         exact Xt (iA 0) ⟨rfl, h12.below⟩
    clear hJ15
    rcases oc h with ⟨hc10, h⟩ | ⟨hc10, h⟩
    ·refine Yf 18 true hc10 (Zp 4 [0, 1, 15] [(15, tB (p0 == 253))] (Ul [(0, iB p0), (1, iB p1), (15, tB (p0 == 253))] ?_))
     exact hj16 (p0 == 253) w5 h (h4.pk [])
    ·refine Yf 18 false hc10 (Zp 4 [0, 1, 15] [(15, tB false)] (Ul [(0, iB p0), (1, iB p1), (15, tB false)] ?_))
     exact hj16 false w5 h (h4.pk [])
  clear hJ7
  rcases oc h with ⟨hc2, h⟩ | ⟨hc2, h⟩
  ·refine Yf 11 true hc2 (Zp 4 [0, 1, 8] [(8, tB (p0 == 221))] (Ul [(0, iB p0), (1, iB p1), (8, tB (p0 == 221))] ?_))
   exact hj8 (p0 == 221) w0 h (h0.pk [])
  ·refine Yf 11 false hc2 (Zp 4 [0, 1, 8] [(8, tB false)] (Ul [(0, iB p0), (1, iB p1), (8, tB false)] ?_))
   exact hj8 false w0 h (h0.pk [])
end

section
abbrev charabancref08_Near_83.post := pB
def charabancref08_Near_83.f (K : Nat) (p0 : Int) (p1 : Int) : Option Bool := (charabancref08_Fields_27.f K p1).bind fun yt5 => Let (fun (t11 : Bool) => cond t11 (some true) (Let (fun (t19 : Bool) => cond t19 (cond (yt5.1 == 0) (cond (yt5.2.1 == 6) (cond (decide (yt5.2.2.1 ≥ 4)) (some (decide (yt5.2.2.1 ≤ 6))) (some false)) (some false)) (cond (yt5.1 == 1) (some ((yt5.2.2.1 == 6) != (yt5.2.1 == 6))) (cond (yt5.1 == 2) (some (yt5.2.2.1 == 6)) (some false)))) (some false)) (fun j22 => cond (p0 == 3) (j22 true) (j22 (p0 == 4))))) (fun j14 => cond (p0 == 5) (j14 true) (j14 (p0 == 6)))
theorem charabancref08_Near_83_ok (K : Nat) (M0 : Nat → Prop) (w0 : World) (p0 : Int) (p1 : Int) (ho : ∀ b, M0 b → b < w0.heap.size) {r : Bool} (h : charabancref08_Near_83.f K p0 p1 = some r) :
  Calls Tryz.prog 83 #[iA p0, iB p1] w0 (charabancref08_Near_83.post M0 w0 r) := by
 unfold charabancref08_Near_83.f at h
 have h0 : Holds M0 w0 w0 [] := Holds.start ho
 refine calls_of F83 rfl [iA p0, iB p1] (by kernel_rfl) (Xq 1 1 [.c 2] 1 [(0, iA p0), (1, iB p1)] (Zy 1 3 [.c 4] 1 [0, 11] [(11, iB p1)] ?_))
 obtain ⟨⟨t5, t6, t7, t8, t9⟩, hg4, h⟩ := of_bind h
 dsimp only at h
 refine Yc 12 27 #[iB p1] ((charabancref08_Fields_27_ok K _ w0  p1 h0.old' hg4).mono ?_)
 rintro _ w1 ⟨rfl, hb2⟩
 refine ⟨_, rfl, ?_⟩
 have h3 := h0.call hb2
 refine Yp 11 [(0, iA p0), (5, iA t5), (6, iA t6), (7, iA t7)] (Zy 2 6 [.c 7, .c 48] 1 [5, 6, 7, 18] [(18, iA p0)] (Zy 3 10 [.c 11, .c 14, .blk 0, .c 48] 2 [5, 6, 7, 18, 19] [(19, tB (p0 == 5))] (Ye ?_)))
 obtain ⟨j14, hJ15, h⟩ := of_let h
 have hj16 : ∀ (t11 : Bool) (w13 : World), j14 t11 = some r → Holds M0 w0 w13 [] → RunsI F83 [.c 14, .blk 0, .c 48] [(5, iA t5), (6, iA t6), (7, iA t7), (18, iA p0), (19, tB t11)] w13 (charabancref08_Near_83.post M0 w0 r) := by
  intro t11 w13 h h12
  rw [hJ15] at h
  clear hJ15
  dsimp only at h
  refine Vc 19 15 18 h (fun hc17 h => ?_) fun hc17 h => ?_
  ·refine Xd 1 16 [.c 17, .blk 0, .c 48] 1 [(4, tB true)] ?_
   obtain rfl := sI h
   exact Xt (tB true) ⟨rfl, h12.below⟩
  ·refine Xd 2 20 [.c 21, .c 24, .blk 0, .c 48] 2 [(5, iA t5), (6, iA t6), (7, iA t7), (18, iA p0), (22, tB (p0 == 3))] ?_
   obtain ⟨j22, hJ23, h⟩ := of_let h
   have hj24 : ∀ (t19 : Bool) (w21 : World), j22 t19 = some r → Holds M0 w0 w21 [] → RunsI F83 [.c 24, .blk 0, .c 48] [(5, iA t5), (6, iA t6), (7, iA t7), (22, tB t19)] w21 (charabancref08_Near_83.post M0 w0 r) := by
    intro t19 w21 h h20
    rw [hJ23] at h
    clear hJ23
    dsimp only at h
    refine Vc 22 25 47 h (fun hc25 h => ?_) fun hc25 h => ?_
    ·refine Xq 1 26 [.c 27, .blk 0, .c 48] 1 [(6, iA t6), (7, iA t7), (25, iA t5)] (Zy 2 29 [.c 30, .blk 1, .blk 0, .c 48] 2 [6, 7, 25, 26] [(26, tB (t5 == 0))] (Ye (Vc 26 31 34 h (fun hc26 h => ?_) fun hc26 h => ?_)))
     ·refine Xq 1 32 [.c 33, .blk 1, .blk 0, .c 48] 3 [(7, iA t7), (30, tB (t6 == 6))] ?_
      rcases oc h with ⟨hc27, h⟩ | ⟨hc27, h⟩
      ·refine Yf 30 true hc27 (Zp 4 [7, 34] [(34, tB (decide (t7 ≥ 4)))] ?_)
       rcases oc h with ⟨hc28, h⟩ | ⟨hc28, h⟩
       ·refine Yf 34 true hc28 (Yd 4 [(4, tB (decide (t7 ≤ 6)))] ?_)
        obtain rfl := sI h
        exact Xt (tB (decide (t7 ≤ 6))) ⟨rfl, h20.below⟩
       ·refine Yf 34 false hc28 (Yd 4 [(4, tB false)] ?_)
        obtain rfl := sI h
        exact Xt (tB false) ⟨rfl, h20.below⟩
      ·refine Yf 30 false hc27 (Yd 8 [(4, tB false)] ?_)
       obtain rfl := sI h
       exact Xt (tB false) ⟨rfl, h20.below⟩
     ·refine Xd 1 35 [.c 36, .blk 1, .blk 0, .c 48] 2 [(6, iA t6), (7, iA t7), (25, iA t5), (38, tB (t5 == 1))] (Vc 38 37 40 h (fun hc29 h => ?_) fun hc29 h => ?_)
      ·refine Xd 1 38 [.c 39, .blk 1, .blk 0, .c 48] 6 [(4, tB ((t7 == 6) != (t6 == 6)))] ?_
       obtain rfl := sI h
       exact Xt (tB ((t7 == 6) != (t6 == 6))) ⟨rfl, h20.below⟩
      ·refine Xd 1 41 [.c 42, .blk 1, .blk 0, .c 48] 2 [(7, iA t7), (45, tB (t5 == 2))] (Vc 45 43 46 h (fun hc30 h => ?_) fun hc30 h => ?_)
       ·refine Xd 1 44 [.c 45, .blk 1, .blk 0, .c 48] 3 [(4, tB (t7 == 6))] ?_
        obtain rfl := sI h
        exact Xt (tB (t7 == 6)) ⟨rfl, h20.below⟩
       ·refine Xg 1 [.blk 1, .blk 0, .c 48] (Xg 1 [.blk 0, .c 48] (Xd 2 49 [.c 50] 1 [(4, tB false)] ?_))
        obtain rfl := sI h
        exact Xt (tB false) ⟨rfl, h20.below⟩
    ·refine Xg 1 [.blk 0, .c 48] (Xd 2 49 [.c 50] 1 [(4, tB false)] ?_)
     obtain rfl := sI h
     exact Xt (tB false) ⟨rfl, h20.below⟩
   clear hJ23
   refine Vc 22 22 23 h (fun hc18 h => ?_) fun hc18 h => ?_
   ·refine Xg 1 [.c 24, .blk 0, .c 48] (Vl [(5, iA t5), (6, iA t6), (7, iA t7), (22, tB true)] ?_)
    exact hj24 true w13 h (h12.pk [])
   ·refine Xr (Yd 2 [(5, iA t5), (6, iA t6), (7, iA t7), (22, tB (p0 == 4))] (Vl [(5, iA t5), (6, iA t6), (7, iA t7), (22, tB (p0 == 4))] ?_))
    exact hj24 (p0 == 4) w13 h (h12.pk [])
 clear hJ15
 refine Vc 19 12 13 h (fun hc10 h => ?_) fun hc10 h => ?_
 ·refine Xg 1 [.c 14, .blk 0, .c 48] (Vl [(5, iA t5), (6, iA t6), (7, iA t7), (18, iA p0), (19, tB true)] ?_)
  exact hj16 true w1 h (h3.pk [])
 ·refine Xr (Yd 2 [(5, iA t5), (6, iA t6), (7, iA t7), (18, iA p0), (19, tB (p0 == 6))] (Vl [(5, iA t5), (6, iA t6), (7, iA t7), (18, iA p0), (19, tB (p0 == 6))] ?_))
  exact hj16 (p0 == 6) w1 h (h3.pk [])
end

section
abbrev charabancref08_one_136.post := pB
def charabancref08_one_136.f (K : Nat) (p0 : Int) (p1 : Int) (p2 : Int) : Option Bool := cond (p0 == 0) (cond (p2 == 6) (some true) (cond (p2 == 0) (some (decide (p1 ≥ 2))) (some false))) (cond (p0 == 3) (cond (p2 == 6) (some true) (cond (p2 == 3) (cond (p1 == 2) (some true) (some (p1 == 3))) (some false))) (some false))
theorem charabancref08_one_136_ok (K : Nat) (M0 : Nat → Prop) (w0 : World) (p0 : Int) (p1 : Int) (p2 : Int) (ho : ∀ b, M0 b → b < w0.heap.size) {r : Bool} (h : charabancref08_one_136.f K p0 p1 p2 = some r) :
  Calls Tryz.prog 136 #[iA p0, iA p1, iA p2] w0 (charabancref08_one_136.post M0 w0 r) := by
 unfold charabancref08_one_136.f at h
 have h0 : Holds M0 w0 w0 [] := Holds.start ho
 refine calls_of F136 rfl [iA p0, iA p1, iA p2] (by kernel_rfl) (Xq 1 1 [.c 2] 1 [(0, iA p0), (1, iA p1), (2, iA p2)] (Zy 2 4 [.c 5, .c 10] 2 [0, 1, 2, 8] [(8, tB (p0 == 0))] (Ye (Vc 8 6 9 h (fun hc1 h => ?_) fun hc1 h => ?_))))
 ·refine Xq 1 7 [.c 8, .c 10] 3 [(1, iA p1), (2, iA p2), (11, tB (p2 == 6))] ?_
  rcases oc h with ⟨hc2, h⟩ | ⟨hc2, h⟩
  ·refine Yf 11 true hc2 (Yd 8 [(6, tB true)] ?_)
   obtain rfl := sI h
   exact Xt (tB true) ⟨rfl, h0.below⟩
  ·refine Yf 11 false hc2 (Zp 3 [1, 11, 14] [(14, tB (p2 == 0))] ?_)
   rcases oc h with ⟨hc3, h⟩ | ⟨hc3, h⟩
   ·refine Yf 14 true hc3 (Yd 5 [(6, tB (decide (p1 ≥ 2)))] ?_)
    obtain rfl := sI h
    exact Xt (tB (decide (p1 ≥ 2))) ⟨rfl, h0.below⟩
   ·refine Yf 14 false hc3 (Yd 5 [(6, tB false)] ?_)
    obtain rfl := sI h
    exact Xt (tB false) ⟨rfl, h0.below⟩
 ·refine Xg 1 [.c 10] (Xq 1 11 [.c 12] 3 [(1, iA p1), (2, iA p2), (21, tB (p0 == 3))] ?_)
  rcases oc h with ⟨hc4, h⟩ | ⟨hc4, h⟩
  ·refine Yf 21 true hc4 (Zp 3 [1, 2, 21, 24] [(24, tB (p2 == 6))] ?_)
   rcases oc h with ⟨hc5, h⟩ | ⟨hc5, h⟩
   ·refine Yf 24 true hc5 (Yd 13 [(6, tB true)] ?_)
    obtain rfl := sI h
    exact Xt (tB true) ⟨rfl, h0.below⟩
   ·refine Yf 24 false hc5 (Zp 3 [1, 21, 24, 27] [(27, tB (p2 == 3))] ?_)
    rcases oc h with ⟨hc6, h⟩ | ⟨hc6, h⟩
    ·refine Yf 27 true hc6 (Zp 3 [1, 21, 24, 27, 30] [(30, tB (p1 == 2))] ?_)
     rcases oc h with ⟨hc7, h⟩ | ⟨hc7, h⟩
     ·refine Yf 30 true hc7 (Yd 7 [(6, tB true)] ?_)
      obtain rfl := sI h
      exact Xt (tB true) ⟨rfl, h0.below⟩
     ·refine Yf 30 false hc7 (Yd 7 [(6, tB (p1 == 3))] ?_)
      obtain rfl := sI h
      exact Xt (tB (p1 == 3)) ⟨rfl, h0.below⟩
    ·refine Yf 27 false hc6 (Yd 10 [(6, tB false)] ?_)
     obtain rfl := sI h
     exact Xt (tB false) ⟨rfl, h0.below⟩
  ·refine Yf 21 false hc4 (Yd 16 [(6, tB false)] ?_)
   obtain rfl := sI h
   exact Xt (tB false) ⟨rfl, h0.below⟩
end

section
abbrev charabancref08_two_137.post := pB
def charabancref08_two_137.f (K : Nat) (p0 : Int) (p1 : Int) (p2 : Int) (p3 : Int) (p4 : Int) : Option Bool := cond (p0 == 0) (cond (p2 == 1) (cond (p4 == 0) (some true) (cond (p2 == 2) (some (decide (p1 ≥ 4))) (some false))) (cond (p2 == 2) (some (decide (p1 ≥ 4))) (some false))) (cond (p0 == 3) (cond (p2 == 2) (some true) (cond (p2 == 3) (cond (p1 == 0) (some true) (cond (p2 == 4) (some true) (cond (p2 == 5) (cond (p4 == 1) (some (p3 == 0)) (some false)) (some false)))) (cond (p2 == 4) (some true) (cond (p2 == 5) (cond (p4 == 1) (some (p3 == 0)) (some false)) (some false))))) (some false))
theorem charabancref08_two_137_ok (K : Nat) (M0 : Nat → Prop) (w0 : World) (p0 : Int) (p1 : Int) (p2 : Int) (p3 : Int) (p4 : Int) (ho : ∀ b, M0 b → b < w0.heap.size) {r : Bool} (h : charabancref08_two_137.f K p0 p1 p2 p3 p4 = some r) :
  Calls Tryz.prog 137 #[iA p0, iA p1, iA p2, iA p3, iA p4] w0 (charabancref08_two_137.post M0 w0 r) := by
 unfold charabancref08_two_137.f at h
 have h0 : Holds M0 w0 w0 [] := Holds.start ho
 refine calls_of F137 rfl [iA p0, iA p1, iA p2, iA p3, iA p4] (by kernel_rfl) (Xq 1 1 [.c 2] 1 [(0, iA p0), (1, iA p1), (2, iA p2), (3, iA p3), (4, iA p4)] (Zy 2 4 [.c 5, .c 10] 2 [0, 1, 2, 3, 4, 12] [(12, tB (p0 == 0))] (Ye (Vc 12 6 9 h (fun hc1 h => ?_) fun hc1 h => ?_))))
 ·refine Xq 1 7 [.c 8, .c 10] 3 [(1, iA p1), (2, iA p2), (4, iA p4), (15, tB (p2 == 1))] ?_
  rcases oc h with ⟨hc2, h⟩ | ⟨hc2, h⟩
  ·refine Yf 15 true hc2 (Zp 4 [1, 2, 19] [(19, tB (p4 == 0))] ?_)
   rcases oc h with ⟨hc3, h⟩ | ⟨hc3, h⟩
   ·refine Yf 19 true hc3 (Yd 8 [(10, tB true)] ?_)
    obtain rfl := sI h
    exact Xt (tB true) ⟨rfl, h0.below⟩
   ·refine Yf 19 false hc3 (Zp 3 [1, 19, 22] [(22, tB (p2 == 2))] ?_)
    rcases oc h with ⟨hc4, h⟩ | ⟨hc4, h⟩
    ·refine Yf 22 true hc4 (Yd 5 [(10, tB (decide (p1 ≥ 4)))] ?_)
     obtain rfl := sI h
     exact Xt (tB (decide (p1 ≥ 4))) ⟨rfl, h0.below⟩
    ·refine Yf 22 false hc4 (Yd 5 [(10, tB false)] ?_)
     obtain rfl := sI h
     exact Xt (tB false) ⟨rfl, h0.below⟩
  ·refine Yf 15 false hc2 (Yp 7 [(1, iA p1), (19, tB false), (22, tB (p2 == 2))] ?_)
   rcases oc h with ⟨hc5, h⟩ | ⟨hc5, h⟩
   ·refine Yf 22 true hc5 (Yd 5 [(10, tB (decide (p1 ≥ 4)))] ?_)
    obtain rfl := sI h
    exact Xt (tB (decide (p1 ≥ 4))) ⟨rfl, h0.below⟩
   ·refine Yf 22 false hc5 (Yd 5 [(10, tB false)] ?_)
    obtain rfl := sI h
    exact Xt (tB false) ⟨rfl, h0.below⟩
 ·refine Xg 1 [.c 10] (Xq 1 11 [.c 12] 3 [(1, iA p1), (2, iA p2), (3, iA p3), (4, iA p4), (29, tB (p0 == 3))] ?_)
  rcases oc h with ⟨hc6, h⟩ | ⟨hc6, h⟩
  ·refine Yf 29 true hc6 (Zp 3 [1, 2, 3, 4, 29, 32] [(32, tB (p2 == 2))] ?_)
   rcases oc h with ⟨hc7, h⟩ | ⟨hc7, h⟩
   ·refine Yf 32 true hc7 (Yd 25 [(10, tB true)] ?_)
    obtain rfl := sI h
    exact Xt (tB true) ⟨rfl, h0.below⟩
   ·refine Yf 32 false hc7 (Zp 3 [1, 2, 3, 4, 29, 32, 35] [(35, tB (p2 == 3))] ?_)
    rcases oc h with ⟨hc8, h⟩ | ⟨hc8, h⟩
    ·refine Yf 35 true hc8 (Zp 5 [2, 3, 4, 29, 40] [(40, tB (p1 == 0))] ?_)
     rcases oc h with ⟨hc9, h⟩ | ⟨hc9, h⟩
     ·refine Yf 40 true hc9 (Yd 17 [(10, tB true)] ?_)
      obtain rfl := sI h
      exact Xt (tB true) ⟨rfl, h0.below⟩
     ·refine Yf 40 false hc9 (Zp 4 [2, 3, 4, 29, 44] [(44, tB (p2 == 4))] ?_)
      rcases oc h with ⟨hc10, h⟩ | ⟨hc10, h⟩
      ·refine Yf 44 true hc10 (Yd 13 [(10, tB true)] ?_)
       obtain rfl := sI h
       exact Xt (tB true) ⟨rfl, h0.below⟩
      ·refine Yf 44 false hc10 (Zp 3 [3, 4, 29, 44, 47] [(47, tB (p2 == 5))] ?_)
       rcases oc h with ⟨hc11, h⟩ | ⟨hc11, h⟩
       ·refine Yf 47 true hc11 (Zp 4 [3, 29, 44, 51] [(51, tB (p4 == 1))] ?_)
        rcases oc h with ⟨hc12, h⟩ | ⟨hc12, h⟩
        ·refine Yf 51 true hc12 (Yd 6 [(10, tB (p3 == 0))] ?_)
         obtain rfl := sI h
         exact Xt (tB (p3 == 0)) ⟨rfl, h0.below⟩
        ·refine Yf 51 false hc12 (Yd 6 [(10, tB false)] ?_)
         obtain rfl := sI h
         exact Xt (tB false) ⟨rfl, h0.below⟩
       ·refine Yf 47 false hc11 (Yd 10 [(10, tB false)] ?_)
        obtain rfl := sI h
        exact Xt (tB false) ⟨rfl, h0.below⟩
    ·refine Yf 35 false hc8 (Zp 9 [2, 3, 4, 29, 44] [(44, tB (p2 == 4))] ?_)
     rcases oc h with ⟨hc13, h⟩ | ⟨hc13, h⟩
     ·refine Yf 44 true hc13 (Yd 13 [(10, tB true)] ?_)
      obtain rfl := sI h
      exact Xt (tB true) ⟨rfl, h0.below⟩
     ·refine Yf 44 false hc13 (Zp 3 [3, 4, 29, 44, 47] [(47, tB (p2 == 5))] ?_)
      rcases oc h with ⟨hc14, h⟩ | ⟨hc14, h⟩
      ·refine Yf 47 true hc14 (Zp 4 [3, 29, 44, 51] [(51, tB (p4 == 1))] ?_)
       rcases oc h with ⟨hc15, h⟩ | ⟨hc15, h⟩
       ·refine Yf 51 true hc15 (Yd 6 [(10, tB (p3 == 0))] ?_)
        obtain rfl := sI h
        exact Xt (tB (p3 == 0)) ⟨rfl, h0.below⟩
       ·refine Yf 51 false hc15 (Yd 6 [(10, tB false)] ?_)
        obtain rfl := sI h
        exact Xt (tB false) ⟨rfl, h0.below⟩
      ·refine Yf 47 false hc14 (Yd 10 [(10, tB false)] ?_)
       obtain rfl := sI h
       exact Xt (tB false) ⟨rfl, h0.below⟩
  ·refine Yf 29 false hc6 (Yd 28 [(10, tB false)] ?_)
   obtain rfl := sI h
   exact Xt (tB false) ⟨rfl, h0.below⟩
end

section
abbrev charabancref08_Size_84.post := pI
def charabancref08_Size_84.f (K : Nat) (p0 : Int) (p1 : Int) : Option Int := (charabancref08_Fields_27.f K p1).bind fun yt5 => Let (fun (t12 : Bool) => cond t12 ((charabancref08_one_136.f K yt5.1 yt5.2.1 yt5.2.2.1).bind fun t23 => (charabancref08_two_137.f K yt5.1 yt5.2.1 yt5.2.2.1 yt5.2.2.2.1 yt5.2.2.2.2).bind fun t28 => cond t23 (some 1) (cond t28 (some 2) (some 0))) (cond (p0 == 2) (Let (fun (t33 : Bool) => cond t33 (some 2) (some 0)) (fun j36 => cond (yt5.1 == 1) (j36 (yt5.2.2.1 == 3)) (j36 false))) (some 0))) (fun j15 => cond (p0 == 0) (j15 true) (cond (p0 == 3) (j15 true) (j15 (p0 == 4))))
theorem charabancref08_Size_84_ok (K : Nat) (M0 : Nat → Prop) (w0 : World) (p0 : Int) (p1 : Int) (ho : ∀ b, M0 b → b < w0.heap.size) {r : Int} (h : charabancref08_Size_84.f K p0 p1 = some r) :
  Calls Tryz.prog 84 #[iA p0, iB p1] w0 (charabancref08_Size_84.post M0 w0 r) := by
 unfold charabancref08_Size_84.f at h
 have h0 : Holds M0 w0 w0 [] := Holds.start ho
 refine calls_of F84 rfl [iA p0, iB p1] (by kernel_rfl) (Xq 1 1 [.c 2] 1 [(0, iA p0), (1, iB p1)] (Zy 1 3 [.c 4] 1 [0, 13] [(13, iB p1)] ?_))
 obtain ⟨⟨t5, t6, t7, t8, t9⟩, hg4, h⟩ := of_bind h
 dsimp only at h
 refine Yc 14 27 #[iB p1] ((charabancref08_Fields_27_ok K _ w0  p1 h0.old' hg4).mono ?_)
 rintro _ w1 ⟨rfl, hb2⟩
 refine ⟨_, rfl, ?_⟩
 have h3 := h0.call hb2
 refine Yp 11 [(0, iA p0), (5, iA t5), (6, iA t6), (7, iA t7), (8, iA t8), (9, iA t9)] (Zy 2 6 [.c 7, .c 49] 1 [5, 6, 7, 8, 9, 20] [(20, iA p0)] (Zy 3 10 [.c 11, .c 18, .blk 0, .c 49] 2 [5, 6, 7, 8, 9, 20, 21] [(21, tB (p0 == 0))] (Ye ?_)))
 obtain ⟨j15, hJ16, h⟩ := of_let h
 have hj17 : ∀ (t12 : Bool) (w14 : World), j15 t12 = some r → Holds M0 w0 w14 [] → RunsI F84 [.c 18, .blk 0, .c 49] [(5, iA t5), (6, iA t6), (7, iA t7), (8, iA t8), (9, iA t9), (20, iA p0), (21, tB t12)] w14 (charabancref08_Size_84.post M0 w0 r) := by
  intro t12 w14 h h13
  rw [hJ16] at h
  clear hJ16
  dsimp only at h
  refine Vc 21 19 38 h (fun hc18 h => ?_) fun hc18 h => ?_
  ·refine Xq 1 20 [.c 21, .blk 0, .c 49] 3 [(5, iA t5), (6, iA t6), (7, iA t7), (8, iA t8), (9, iA t9), (25, iA t5), (26, iA t6), (27, iA t7)] ?_
   obtain ⟨t23, hg22, h⟩ := of_bind h
   refine Yc 28 136 #[iA t5, iA t6, iA t7] ((charabancref08_one_136_ok K _ w14  t5 t6 t7 h13.old' hg22).mono ?_)
   rintro _ w19 ⟨rfl, hb20⟩
   refine ⟨_, rfl, ?_⟩
   have h21 := h13.call hb20
   refine Zp 1 [5, 6, 7, 8, 9, 10] [(10, tB t23)] (Yq 1 22 [.c 23, .blk 0, .c 49] 5 [(10, tB t23), (29, iA t5), (30, iA t6), (31, iA t7), (32, iA t8), (33, iA t9)] ?_)
   obtain ⟨t28, hg27, h⟩ := of_bind h
   refine Yc 34 137 #[iA t5, iA t6, iA t7, iA t8, iA t9] ((charabancref08_two_137_ok K _ w19  t5 t6 t7 t8 t9 h21.old' hg27).mono ?_)
   rintro _ w24 ⟨rfl, hb25⟩
   refine ⟨_, rfl, ?_⟩
   have h26 := h21.call hb25
   refine Zp 1 [10, 11] [(11, tB t28)] (Zy 2 25 [.c 26, .c 31, .blk 0, .c 49] 1 [11, 35] [(35, tB t23)] (Ye (Vc 35 27 30 h (fun hc29 h => ?_) fun hc29 h => ?_)))
   ·refine Xd 1 28 [.c 29, .c 31, .blk 0, .c 49] 1 [(4, iA 1)] ?_
    obtain rfl := sI h
    exact Xt (iA 1) ⟨rfl, h26.below⟩
   ·refine Xg 1 [.c 31, .blk 0, .c 49] (Xd 1 32 [.c 33, .blk 0, .c 49] 1 [(36, tB t28)] (Vc 36 34 37 h (fun hc30 h => ?_) fun hc30 h => ?_))
    ·refine Xd 1 35 [.c 36, .blk 0, .c 49] 1 [(4, iA 2)] ?_
     obtain rfl := sI h
     exact Xt (iA 2) ⟨rfl, h26.below⟩
    ·refine Xg 1 [.blk 0, .c 49] (Xd 2 50 [.c 51] 1 [(4, iA 0)] ?_)
     obtain rfl := sI h
     exact Xt (iA 0) ⟨rfl, h26.below⟩
  ·refine Xd 1 39 [.c 40, .blk 0, .c 49] 2 [(5, iA t5), (7, iA t7), (37, tB (p0 == 2))] (Vc 37 41 48 h (fun hc31 h => ?_) fun hc31 h => ?_)
   ·refine Xq 1 42 [.c 43, .blk 0, .c 49] 3 [(7, iA t7), (41, tB (t5 == 1))] ?_
    obtain ⟨j36, hJ37, h⟩ := of_let h
    have hj38 : ∀ (t33 : Bool) (w35 : World), j36 t33 = some r → Holds M0 w0 w35 [] → RegI F84 42 [.c 43, .blk 0, .c 49] 6 [(44, tB t33)] w35 (charabancref08_Size_84.post M0 w0 r) := by
     intro t33 w35 h h34
     rw [hJ37] at h
     clear hJ37
     dsimp only at h
     refine Ye (Vc 44 44 47 h (fun hc39 h => ?_) fun hc39 h => ?_)
     ·refine Xd 1 45 [.c 46, .blk 0, .c 49] 1 [(4, iA 2)] ?_
      obtain rfl := sI h
      exact Xt (iA 2) ⟨rfl, h34.below⟩
     ·refine Xg 1 [.blk 0, .c 49] (Xd 2 50 [.c 51] 1 [(4, iA 0)] ?_)
      obtain rfl := sI h
      exact Xt (iA 0) ⟨rfl, h34.below⟩
    clear hJ37
    rcases oc h with ⟨hc32, h⟩ | ⟨hc32, h⟩
    ·refine Yf 41 true hc32 (Yp 3 [(44, tB (t7 == 3))] (Ul [(44, tB (t7 == 3))] ?_))
     exact hj38 (t7 == 3) w14 h (h13.pk [])
    ·refine Yf 41 false hc32 (Yp 3 [(44, tB false)] (Ul [(44, tB false)] ?_))
     exact hj38 false w14 h (h13.pk [])
   ·refine Xg 1 [.blk 0, .c 49] (Xd 2 50 [.c 51] 1 [(4, iA 0)] ?_)
    obtain rfl := sI h
    exact Xt (iA 0) ⟨rfl, h13.below⟩
 clear hJ16
 refine Vc 21 12 13 h (fun hc10 h => ?_) fun hc10 h => ?_
 ·refine Xg 1 [.c 18, .blk 0, .c 49] (Vl [(5, iA t5), (6, iA t6), (7, iA t7), (8, iA t8), (9, iA t9), (20, iA p0), (21, tB true)] ?_)
  exact hj17 true w1 h (h3.pk [])
 ·refine Xd 1 14 [.c 15, .c 18, .blk 0, .c 49] 2 [(5, iA t5), (6, iA t6), (7, iA t7), (8, iA t8), (9, iA t9), (20, iA p0), (21, tB (p0 == 3))] (Vc 21 16 17 h (fun hc11 h => ?_) fun hc11 h => ?_)
  ·refine Xg 1 [.c 18, .blk 0, .c 49] (Vl [(5, iA t5), (6, iA t6), (7, iA t7), (8, iA t8), (9, iA t9), (20, iA p0), (21, tB true)] ?_)
   exact hj17 true w1 h (h3.pk [])
  ·refine Xr (Yd 2 [(5, iA t5), (6, iA t6), (7, iA t7), (8, iA t8), (9, iA t9), (20, iA p0), (21, tB (p0 == 4))] (Vl [(5, iA t5), (6, iA t6), (7, iA t7), (8, iA t8), (9, iA t9), (20, iA p0), (21, tB (p0 == 4))] ?_))
   exact hj17 (p0 == 4) w1 h (h3.pk [])
end

section
def charabancref08_Next_53.post (M0 : Nat → Prop) (w0 : World) (r : Int × Int × Int × Int × Int × Int × Bool) : Ending → World → Prop := fun e w => e = .returned (.tuple #[.agg #[.int .i64 r.1, .int .u8 r.2.1, .int .u8 r.2.2.1, .int .u16 r.2.2.2.1, .int .i64 r.2.2.2.2.1, .int .i64 r.2.2.2.2.2.1], .bool r.2.2.2.2.2.2]) ∧ Below w0.heap.size w0 w
def charabancref08_Next_53.l0 (K : Nat) (p0 : List Int) : Nat → Int → Int → Int → Option (Int × Int × Int)
 | 0, _, _, _ => none
 | k + 1, t15, t16, t18 => (charabancref08_at_81.f K p0 t15).bind fun t23 => Let (fun (t30 : Bool) => cond t30 (cond (decide (t15 > 0)) (cond (inR t15 p0.length) (charabancref08_Next_53.l0 K p0 k (IntKind.wrap .i64 (t15 + 1)) (rdD p0 t15) (IntKind.wrap .i64 (t18 + 1))) none) (cond (inR t15 p0.length) (charabancref08_Next_53.l0 K p0 k (IntKind.wrap .i64 (t15 + 1)) (rdD p0 t15) t18) none)) (some (t15, t16, t18))) (fun j33 => cond (t23 == 221) (j33 true) ((charabancref08_at_81.f K p0 t15).bind fun t29 => j33 (t29 == 253)))
theorem charabancref08_Next_53.l0_ok (K : Nat) (M0 : Nat → Prop) (w0 : World) (pA0 : Option Addr) (pc0 : Nat) (p0 : List Int) (b14 : Nat) (b17 : Nat) (R : Ending → World → Prop) (x : Int × Int × Int) (hk0 : ∀ (t53 : Int) (t54 : Int) (t55 : Int) (w1 : World), x = (t53, t54, t55) → Holds M0 w0 w1 [sl rB (sV pA0 p0 pc0) p0, box b14 25 [iA 0, iB 0, iB 0, iC 0, iA 0, iA 0], box b17 25 [iA 0, iB 0, iB 0, iC 0, iA 0, iA t55]] → RunsI F53 [.c 27] [(0, sV pA0 p0 pc0), (2, pt b14), (4, iA t53), (5, iB t54), (6, pt b17)] w1 R) :
  ∀ (k : Nat) (t15 : Int) (t16 : Int) (t18 : Int) (w : World), charabancref08_Next_53.l0 K p0 k t15 t16 t18 = some x → Holds M0 w0 w [sl rB (sV pA0 p0 pc0) p0, box b14 25 [iA 0, iB 0, iB 0, iC 0, iA 0, iA 0], box b17 25 [iA 0, iB 0, iB 0, iC 0, iA 0, iA t18]] → RunsI F53 [.c 11, .lp 11, .blk 0, .c 27] [(0, sV pA0 p0 pc0), (2, pt b14), (4, iA t15), (5, iB t16), (6, pt b17)] w R := by
 intro k
 induction k with
 | zero => intro t15 t16 t18 w h hH; exact absurd h (by simp [charabancref08_Next_53.l0])
 | succ k ih =>
  intro t15 t16 t18 w h hH
  rw [charabancref08_Next_53.l0.eq_2] at h
  refine Xg 1 [.c 12, .c 17, .lp 11, .blk 0, .c 27] (Xq 1 13 [.c 14, .c 17, .lp 11, .blk 0, .c 27] 2 [(0, sV pA0 p0 pc0), (2, pt b14), (4, iA t15), (5, iB t16), (6, pt b17), (10, sV pA0 p0 pc0), (11, iA t15)] ?_)
  obtain ⟨t23, hg22, h⟩ := of_bind h
  refine Yc 12 81 #[sV pA0 p0 pc0, iA t15] ((charabancref08_at_81_ok K _ w  pA0 pc0 p0 t15 hH.old' (hH.get 0 rfl) hg22).mono ?_)
  rintro _ w19 ⟨rfl, hb20⟩
  refine ⟨_, rfl, ?_⟩
  have h21 := hH.call hb20
  refine Zp 2 [0, 2, 4, 5, 6, 14] [(14, tB (t23 == 221))] ?_
  obtain ⟨j33, hJ34, h⟩ := of_let h
  have hj35 : ∀ (t30 : Bool) (w32 : World), j33 t30 = some x → Holds M0 w0 w32 [sl rB (sV pA0 p0 pc0) p0, box b14 25 [iA 0, iB 0, iB 0, iC 0, iA 0, iA 0], box b17 25 [iA 0, iB 0, iB 0, iC 0, iA 0, iA t18]] → RegI F53 13 [.c 14, .c 17, .lp 11, .blk 0, .c 27] 10 [(0, sV pA0 p0 pc0), (2, pt b14), (4, iA t15), (5, iB t16), (6, pt b17), (19, tB t30)] w32 R := by
   intro t30 w32 h h31
   rw [hJ34] at h
   clear hJ34
   dsimp only at h
   refine Ye (Vc 19 15 16 h (fun hc36 h => ?_) fun hc36 h => ?_)
   ·refine Xg 1 [.c 17, .lp 11, .blk 0, .c 27] (Xd 3 20 [.c 21, .c 24, .blk 1, .lp 11, .blk 0, .c 27] 2 [(0, sV pA0 p0 pc0), (2, pt b14), (4, iA t15), (6, pt b17), (21, tB (decide (t15 > 0)))] (Vc 21 22 23 h (fun hc37 h => ?_) fun hc37 h => ?_))
    ·refine Xr (Yp 1 [(0, sV pA0 p0 pc0), (2, pt b14), (4, iA t15), (6, pt b17), (22, pu b17 5)] (Ya 23 2 3 b17 5 (iA t18) h31 rfl (Zp 2 [0, 2, 4, 6, 24, 25] [(24, iA (wA (t18 + 1))), (25, pu b17 5)] (Yb 2 3 b17 5 (iA (wA (t18 + 1))) [iA 0, iB 0, iB 0, iC 0, iA 0, iA (wA (t18 + 1))] h31 rfl ?_))))
     intro w38 h39 hk40
     refine Zy 1 25 [.c 26, .blk 1, .lp 11, .blk 0, .c 27] 2 [0, 2, 4, 6, 26, 27] [(26, sV pA0 p0 pc0), (27, iA t15)] ?_
     have ⟨hc41, h⟩ := oz h
     refine Yo (OpE.idxSl 28 0 39 t15 h39 (by kernel_rfl) rfl (by kernel_rfl) (by kernel_rfl) hc41 ?_)
     intro b42 o43 cs44 hk45 h46
     obtain rfl := hk45
     refine Yz 29 3 5 b42 o43 0 (iB (rdD p0 t15)) h46 rfl (Zd 1 [0, 2, 4, 5, 6] [(5, iB (rdD p0 t15))] (Xr (Zd 3 [0, 2, 4, 5, 6] [(4, iA (wA (t15 + 1)))] (Xg 2 [.c 11, .lp 11, .blk 0, .c 27] (Vl [(0, sV pA0 p0 pc0), (2, pt b14), (4, iA (wA (t15 + 1))), (5, iB (rdD p0 t15)), (6, pt b17)] ?_)))))
     exact ih (wA (t15 + 1)) (rdD p0 t15) (wA (t18 + 1)) w38 h (h46.pk [0, 1, 2])
    ·refine Xg 1 [.c 24, .blk 1, .lp 11, .blk 0, .c 27] (Xq 1 25 [.c 26, .blk 1, .lp 11, .blk 0, .c 27] 2 [(0, sV pA0 p0 pc0), (2, pt b14), (4, iA t15), (6, pt b17), (26, sV pA0 p0 pc0), (27, iA t15)] ?_)
     have ⟨hc47, h⟩ := oz h
     refine Yo (OpE.idxSl 28 0 39 t15 h31 (by kernel_rfl) rfl (by kernel_rfl) (by kernel_rfl) hc47 ?_)
     intro b48 o49 cs50 hk51 h52
     obtain rfl := hk51
     refine Yz 29 3 5 b48 o49 0 (iB (rdD p0 t15)) h52 rfl (Zd 1 [0, 2, 4, 5, 6] [(5, iB (rdD p0 t15))] (Xr (Zd 3 [0, 2, 4, 5, 6] [(4, iA (wA (t15 + 1)))] (Xg 2 [.c 11, .lp 11, .blk 0, .c 27] (Vl [(0, sV pA0 p0 pc0), (2, pt b14), (4, iA (wA (t15 + 1))), (5, iB (rdD p0 t15)), (6, pt b17)] ?_)))))
     exact ih (wA (t15 + 1)) (rdD p0 t15) t18 w32 h (h52.pk [0, 1, 2])
   ·refine Xg 1 [.c 27] (Vl [(0, sV pA0 p0 pc0), (2, pt b14), (4, iA t15), (5, iB t16), (6, pt b17)] ?_)
    exact hk0 t15 t16 t18 w32 (sI h).symm (h31.pk [0, 1, 2])
  clear hJ34
  rcases oc h with ⟨hc24, h⟩ | ⟨hc24, h⟩
  ·refine Yf 14 true hc24 (Zp 5 [0, 2, 4, 5, 6, 19] [(19, tB true)] (Ul [(0, sV pA0 p0 pc0), (2, pt b14), (4, iA t15), (5, iB t16), (6, pt b17), (19, tB true)] ?_))
   exact hj35 true w19 h (h21.pk [0, 1, 2])
  ·refine Yf 14 false hc24 (Zp 2 [0, 2, 4, 5, 6, 14, 15, 16] [(15, sV pA0 p0 pc0), (16, iA t15)] ?_)
   obtain ⟨t29, hg28, h⟩ := of_bind h
   refine Yc 17 81 #[sV pA0 p0 pc0, iA t15] ((charabancref08_at_81_ok K _ w19  pA0 pc0 p0 t15 h21.old' (h21.get 0 rfl) hg28).mono ?_)
   rintro _ w25 ⟨rfl, hb26⟩
   refine ⟨_, rfl, ?_⟩
   have h27 := h21.call hb26
   refine Zp 2 [0, 2, 4, 5, 6, 19] [(19, tB (t29 == 253))] (Ul [(0, sV pA0 p0 pc0), (2, pt b14), (4, iA t15), (5, iB t16), (6, pt b17), (19, tB (t29 == 253))] ?_)
   exact hj35 (t29 == 253) w25 h (h27.pk [0, 1, 2])
def charabancref08_Next_53.f (K : Nat) (p0 : List Int) : Option (Int × Int × Int × Int × Int × Int × Bool) := (charabancref08_Next_53.l0 K p0 K 0 0 0).bind (fun yx56 => (charabancref08_at_81.f K p0 yx56.1).bind fun t67 => (charabancref08_plane_82.f K yx56.2.1 t67).bind fun t72 => Let (fun (t77 : Bool) => Let (fun (t87 : Int) => Let (fun (t94 : Bool) => Let (fun (yj160 : Int × Int × Int) => (charabancref08_Size_84.f K t72 yj160.2.1).bind fun t167 => Let (fun (t177 : Int) => Let (fun (t201 : Int) => cond (decide ((IntKind.wrap .i64 (yj160.1 + t167)) > (p0.length : Int))) (some (0, 0, 0, 0, 0, 0, false)) (some (t72, yj160.2.1, yj160.2.2, t201, (IntKind.wrap .i64 (yj160.1 + t167)), t87, true))) (fun j204 => cond (decide (t167 > 1)) ((charabancref08_at_81.f K p0 (IntKind.wrap .i64 (yj160.1 + 1))).bind fun t189 => j204 (IntKind.wrap .u16 (t177 + (IntKind.wrap .u16 (256 * (IntKind.wrap .u16 t189)))))) (j204 t177))) (fun j180 => cond (decide (t167 > 0)) ((charabancref08_at_81.f K p0 yj160.1).bind fun t173 => j180 (IntKind.wrap .u16 t173)) (j180 0))) (fun j160 => cond t94 ((charabancref08_at_81.f K p0 (IntKind.wrap .i64 (yx56.1 + 1))).bind fun t105 => (charabancref08_at_81.f K p0 (IntKind.wrap .i64 (yx56.1 + 2))).bind fun t113 => j160 ((IntKind.wrap .i64 (yx56.1 + 3)), t113, t105)) (Let (fun (t118 : Bool) => cond t118 ((charabancref08_at_81.f K p0 (IntKind.wrap .i64 (yx56.1 + 1))).bind fun t129 => j160 ((IntKind.wrap .i64 (yx56.1 + 2)), t129, 0)) ((charabancref08_at_81.f K p0 yx56.1).bind fun t137 => (charabancref08_Near_83.f K t72 t137).bind fun t145 => cond t145 ((charabancref08_at_81.f K p0 (IntKind.wrap .i64 (yx56.1 + 1))).bind fun t151 => j160 ((IntKind.wrap .i64 ((IntKind.wrap .i64 (yx56.1 + 1)) + 1)), t137, t151)) (j160 ((IntKind.wrap .i64 (yx56.1 + 1)), t137, 0)))) (fun j121 => cond (t72 == 1) (j121 true) (j121 (t72 == 2)))))) (fun j97 => cond (t72 == 5) (j97 true) (j97 (t72 == 6)))) (fun j90 => cond t77 (j90 (IntKind.wrap .i64 (yx56.2.2 + 1))) (j90 yx56.2.2))) (fun j80 => cond (t72 == 2) (j80 (decide (yx56.1 > 0))) (j80 false)))
theorem charabancref08_Next_53_ok (K : Nat) (M0 : Nat → Prop) (w0 : World) (pA0 : Option Addr) (pc0 : Nat) (p0 : List Int) (ho : ∀ b, M0 b → b < w0.heap.size) (hs0 : Sl rB w0 M0 (sV pA0 p0 pc0) p0) {r : Int × Int × Int × Int × Int × Int × Bool} (h : charabancref08_Next_53.f K p0 = some r) :
  Calls Tryz.prog 53 #[sV pA0 p0 pc0] w0 (charabancref08_Next_53.post M0 w0 r) := by
 unfold charabancref08_Next_53.f at h
 have h0 : Holds M0 w0 w0 [] := Holds.start ho
 have h00 := h0.aS hs0
 have h0 : Holds M0 w0 w0 [sl rB (sV pA0 p0 pc0) p0] := h00
 refine calls_of F53 rfl [sV pA0 p0 pc0] (by kernel_rfl) (Xg 1 [.c 1, .c 2] (Xr (Yx 2 25 [iA 0, iB 0, iB 0, iC 0, iA 0, iA 0] h0 ?_)))
 intro w1 b2 h3 hb4 hn5
 refine Yp 1 [(0, sV pA0 p0 pc0), (2, pt b2)] (Zy 1 3 [.c 4] 1 [0, 2, 4] [(4, iA 0)] (Zy 1 5 [.c 6] 1 [0, 2, 4, 5] [(5, iB 0)] (Zy 1 7 [.c 8] 1 [0, 2, 4, 5, 9] [(9, .agg #[iA 0, iB 0, iB 0, iC 0, iA 0, iA 0])] (Yx 6 25 [iA 0, iB 0, iB 0, iC 0, iA 0, iA 0] h3 ?_))))
 intro w6 b7 h8 hb9 hn10
 refine Yb 2 25 b7 0 (.agg #[iA 0, iB 0, iB 0, iC 0, iA 0, iA 0]) [iA 0, iB 0, iB 0, iC 0, iA 0, iA 0] h8 rfl ?_
 intro w11 h12 hk13
 refine Ye (Xg 3 [.c 11, .lp 11, .blk 0, .c 27] ?_)
 obtain ⟨x56, hx57, h⟩ := of_bind h
 refine Vl [(0, sV pA0 p0 pc0), (2, pt b2), (4, iA 0), (5, iB 0), (6, pt b7)] (charabancref08_Next_53.l0_ok K M0 w0 pA0 pc0 p0 b2 b7 _ x56 ?_ K 0 0 0 w11 hx57 (h12.pk [0, 1, 2]))
 ·intro t58 t59 t60 w62 hq217 h61
  (try rw [hq217] at h)
  dsimp only at h
  refine Xq 1 28 [.c 29] 3 [(0, sV pA0 p0 pc0), (2, pt b2), (4, iA t58), (6, pt b7), (32, iB t59), (33, sV pA0 p0 pc0), (34, iA t58)] ?_
  obtain ⟨t67, hg66, h⟩ := of_bind h
  refine Yc 35 81 #[sV pA0 p0 pc0, iA t58] ((charabancref08_at_81_ok K _ w62  pA0 pc0 p0 t58 h61.old' (h61.get 0 rfl) hg66).mono ?_)
  rintro _ w63 ⟨rfl, hb64⟩
  refine ⟨_, rfl, ?_⟩
  have h65 := h61.call hb64
  obtain ⟨t72, hg71, h⟩ := of_bind h
  refine Yc 36 82 #[iB t59, iB t67] ((charabancref08_plane_82_ok K _ w63  t59 t67 h65.old' hg71).mono ?_)
  rintro _ w68 ⟨rfl, hb69⟩
  refine ⟨_, rfl, ?_⟩
  have h70 := h65.call hb69
  refine Zp 1 [0, 2, 4, 6, 36, 37] [(36, iA t72), (37, pt b7)] (Yb 2 3 b7 0 (iA t72) [iA t72, iB 0, iB 0, iC 0, iA 0, iA t60] h70 rfl ?_)
  intro w73 h74 hk75
  refine Zy 2 31 [.c 32, .c 35] 1 [0, 2, 4, 6, 38] [(38, pt b7)] (Ya 39 2 3 b7 0 (iA t72) h74 rfl (Zp 2 [0, 2, 4, 6, 41] [(41, tB (t72 == 2))] ?_))
  obtain ⟨j80, hJ81, h⟩ := of_let h
  have hj82 : ∀ (t77 : Bool) (w79 : World), j80 t77 = some r → Holds M0 w0 w79 [sl rB (sV pA0 p0 pc0) p0, box b2 25 [iA 0, iB 0, iB 0, iC 0, iA 0, iA 0], box b7 25 [iA t72, iB 0, iB 0, iC 0, iA 0, iA t60]] → RegI F53 31 [.c 32, .c 35] 7 [(0, sV pA0 p0 pc0), (2, pt b2), (4, iA t58), (6, pt b7), (44, tB t77)] w79 (charabancref08_Next_53.post M0 w0 r) := by
   intro t77 w79 h h78
   rw [hJ81] at h
   clear hJ81
   dsimp only at h
   refine Ye ?_
   obtain ⟨j90, hJ91, h⟩ := of_let h
   have hj92 : ∀ (t87 : Int) (w89 : World), j90 t87 = some r → Holds M0 w0 w89 [sl rB (sV pA0 p0 pc0) p0, box b2 25 [iA 0, iB 0, iB 0, iC 0, iA 0, iA 0], box b7 25 [iA t72, iB 0, iB 0, iC 0, iA 0, iA t87]] → RunsI F53 [.c 35] [(0, sV pA0 p0 pc0), (2, pt b2), (4, iA t58), (6, pt b7)] w89 (charabancref08_Next_53.post M0 w0 r) := by
    intro t87 w89 h h88
    rw [hJ91] at h
    clear hJ91
    dsimp only at h
    refine Xq 2 37 [.c 38, .c 74] 1 [(0, sV pA0 p0 pc0), (2, pt b2), (4, iA t58), (6, pt b7), (49, pt b7)] (Ya 50 2 3 b7 0 (iA t72) h88 rfl (Zy 3 41 [.c 42, .c 45, .blk 2, .c 74] 2 [0, 2, 4, 6, 50, 69] [(50, iA t72), (69, tB (t72 == 5))] (Ye ?_)))
    obtain ⟨j97, hJ98, h⟩ := of_let h
    have hj99 : ∀ (t94 : Bool) (w96 : World), j97 t94 = some r → Holds M0 w0 w96 [sl rB (sV pA0 p0 pc0) p0, box b2 25 [iA 0, iB 0, iB 0, iC 0, iA 0, iA 0], box b7 25 [iA t72, iB 0, iB 0, iC 0, iA 0, iA t87]] → RunsI F53 [.c 45, .blk 2, .c 74] [(0, sV pA0 p0 pc0), (2, pt b2), (4, iA t58), (6, pt b7), (50, iA t72), (69, tB t94)] w96 (charabancref08_Next_53.post M0 w0 r) := by
     intro t94 w96 h h95
     rw [hJ98] at h
     clear hJ98
     dsimp only at h
     obtain ⟨j160, hJ161, h⟩ := of_let h
     have hj162 : ∀ (t155 : Int) (t156 : Int) (t157 : Int) (w159 : World), j160 (t155, t156, t157) = some r → Holds M0 w0 w159 [sl rB (sV pA0 p0 pc0) p0, box b2 25 [iA 0, iB 0, iB 0, iC 0, iA 0, iA 0], box b7 25 [iA t72, iB t156, iB t157, iC 0, iA 0, iA t87]] → RunsI F53 [.blk 2, .c 74] [(0, sV pA0 p0 pc0), (2, pt b2), (4, iA t155), (6, pt b7)] w159 (charabancref08_Next_53.post M0 w0 r) := by
      intro t155 t156 t157 w159 h h158
      rw [hJ161] at h
      clear hJ161
      dsimp only at h
      refine Xq 2 75 [.c 76] 1 [(0, sV pA0 p0 pc0), (2, pt b2), (4, iA t155), (6, pt b7), (94, pt b7)] (Ya 95 2 3 b7 0 (iA t72) h158 rfl (Zp 1 [0, 2, 4, 6, 95, 96] [(95, iA t72), (96, pu b7 1)] (Ya 97 2 5 b7 1 (iB t156) h158 rfl ?_)))
      obtain ⟨t167, hg166, h⟩ := of_bind h
      refine Yc 98 84 #[iA t72, iB t156] ((charabancref08_Size_84_ok K _ w159  t72 t156 h158.old' hg166).mono ?_)
      rintro _ w163 ⟨rfl, hb164⟩
      refine ⟨_, rfl, ?_⟩
      have h165 := h158.call hb164
      refine Zp 1 [0, 2, 4, 6, 8] [(8, iA t167)] (Zy 2 78 [.c 79, .c 82] 2 [0, 2, 4, 6, 8, 100] [(100, tB (decide (t167 > 0)))] (Ye ?_))
      obtain ⟨j180, hJ181, h⟩ := of_let h
      have hj182 : ∀ (t177 : Int) (w179 : World), j180 t177 = some r → Holds M0 w0 w179 [sl rB (sV pA0 p0 pc0) p0, box b2 25 [iA 0, iB 0, iB 0, iC 0, iA 0, iA 0], box b7 25 [iA t72, iB t156, iB t157, iC t177, iA 0, iA t87]] → RunsI F53 [.c 82] [(0, sV pA0 p0 pc0), (2, pt b2), (4, iA t155), (6, pt b7), (8, iA t167)] w179 (charabancref08_Next_53.post M0 w0 r) := by
       intro t177 w179 h h178
       rw [hJ181] at h
       clear hJ181
       dsimp only at h
       refine Xd 2 84 [.c 85, .c 88] 2 [(0, sV pA0 p0 pc0), (2, pt b2), (4, iA t155), (6, pt b7), (8, iA t167), (107, tB (decide (t167 > 1)))] ?_
       obtain ⟨j204, hJ205, h⟩ := of_let h
       have hj206 : ∀ (t201 : Int) (w203 : World), j204 t201 = some r → Holds M0 w0 w203 [sl rB (sV pA0 p0 pc0) p0, box b2 25 [iA 0, iB 0, iB 0, iC 0, iA 0, iA 0], box b7 25 [iA t72, iB t156, iB t157, iC t201, iA 0, iA t87]] → RunsI F53 [.c 88] [(0, sV pA0 p0 pc0), (2, pt b2), (4, iA t155), (6, pt b7), (8, iA t167)] w203 (charabancref08_Next_53.post M0 w0 r) := by
        intro t201 w203 h h202
        rw [hJ205] at h
        clear hJ205
        dsimp only at h
        refine Xq 1 89 [.c 90] 4 [(0, sV pA0 p0 pc0), (2, pt b2), (6, pt b7), (120, iA (wA (t155 + t167))), (121, pu b7 4)] (Yb 2 3 b7 4 (iA (wA (t155 + t167))) [iA t72, iB t156, iB t157, iC t201, iA (wA (t155 + t167)), iA t87] h202 rfl ?_)
        intro w207 h208 hk209
        refine Zy 2 92 [.c 93, .c 98] 1 [0, 2, 6, 122] [(122, pu b7 4)] (Ya 123 2 3 b7 4 (iA (wA (t155 + t167))) h208 rfl (Zd 3 [2, 6, 126] [(126, tB (decide ((wA (t155 + t167)) > (p0.length : Int))))] (Vc 126 94 97 h (fun hc210 h => ?_) fun hc210 h => ?_)))
        ·refine Xq 1 95 [.c 96, .c 98] 1 [(2, pt b2), (127, .agg #[iA 0, iB 0, iB 0, iC 0, iA 0, iA 0])] (Yb 1 25 b2 0 (.agg #[iA 0, iB 0, iB 0, iC 0, iA 0, iA 0]) [iA 0, iB 0, iB 0, iC 0, iA 0, iA 0] h208 rfl ?_)
         intro w211 h212 hk213
         refine Zd 1 [2, 3] [(3, tB false)] (RunsI.toRet (by kernel_rfl) (RetI.valW [.cell 2 25, .tmp 3] [.agg #[iA 0, iB 0, iB 0, iC 0, iA 0, iA 0], tB false] (.tuple #[.agg #[iA 0, iB 0, iB 0, iC 0, iA 0, iA 0], tB false]) (by kernel_rfl) (ResAt.box 1 25 b2 0 h212 (by kernel_rfl) (by kernel_rfl) rfl (by kernel_rfl) (ResAt.tmp (by kernel_rfl) (by kernel_rfl) rfl)) (by kernel_rfl) ?_))
         obtain rfl := sI h
         exact ⟨rfl, h212.below⟩
        ·refine Xg 1 [.c 98] (Xg 1 [.c 99, .c 100] (Xr (Ya 128 2 25 b7 0 (.agg #[iA t72, iB t156, iB t157, iC t201, iA (wA (t155 + t167)), iA t87]) h208 rfl (Yb 1 25 b2 0 (.agg #[iA t72, iB t156, iB t157, iC t201, iA (wA (t155 + t167)), iA t87]) [iA t72, iB t156, iB t157, iC t201, iA (wA (t155 + t167)), iA t87] h208 rfl ?_))))
         intro w214 h215 hk216
         refine Yd 1 [(2, pt b2), (3, tB true)] (RunsI.toRet (by kernel_rfl) (RetI.valW [.cell 2 25, .tmp 3] [.agg #[iA t72, iB t156, iB t157, iC t201, iA (wA (t155 + t167)), iA t87], tB true] (.tuple #[.agg #[iA t72, iB t156, iB t157, iC t201, iA (wA (t155 + t167)), iA t87], tB true]) (by kernel_rfl) (ResAt.box 1 25 b2 0 h215 (by kernel_rfl) (by kernel_rfl) rfl (by kernel_rfl) (ResAt.tmp (by kernel_rfl) (by kernel_rfl) rfl)) (by kernel_rfl) ?_))
         obtain rfl := sI h
         exact ⟨rfl, h215.below⟩
       clear hJ205
       refine Vc 107 86 87 h (fun hc183 h => ?_) fun hc183 h => ?_
       ·refine RunsI.any 11 (by kernel_rfl) (by kernel_rfl) (by kernel_rfl) (Kp ([] : List Nat) (World.drew w179)) ?_
        have h185 := h178.drew
        generalize World.drew w179 = w184 at h185 ⊢
        have hS186 := Kp.refl ([] : List Nat) w184
        refine Wu 0 108 (pu b7 3) hS186 (Wa 1 109 2 23 b7 3 (iC t177) [] h185 rfl hS186 rfl (Wu 2 110 (sV pA0 p0 pc0) hS186 (Wu 3 111 (iA t155) hS186 (Wu 4 112 (iA (wA (t155 + 1))) hS186 ?_))))
        obtain ⟨t189, hg188, h⟩ := of_bind h
        refine Wc 5 113 (iB t189) 81 #[sV pA0 p0 pc0, iA (wA (t155 + 1))] hS186 (fun w hk => charabancref08_at_81_ok K (fun _ => False) w pA0 pc0 p0 (wA (t155 + 1)) nF (Sl.mono (h185.atI [] rfl hk 0 rfl rfl) (fun _ _ hf => hf.elim)) hg188) (Wu 6 114 (iC (wC t189)) hS186 (Wu 7 115 (iC (wC (256 * (wC t189)))) hS186 (Wu 8 116 (iC (wC (t177 + (wC (256 * (wC t189)))))) hS186 (Wu 9 117 (pu b7 3) hS186 (AnyE.last 10 (by kernel_rfl) (by kernel_rfl) (fun w190 hu191 => ?_))))))
        have h192 := h185.call hu191
        have hS193 := hS186.up hu191
        refine OpE.storeBox 2 23 b7 3 (iC (wC (t177 + (wC (256 * (wC t189)))))) [iA t72, iB t156, iB t157, iC (wC (t177 + (wC (256 * (wC t189))))), iA 0, iA t87] h192 (by kernel_rfl) (by kernel_rfl) rfl (by kernel_rfl) (by kernel_rfl) (by kernel_rfl) ?_
        intro w194 h195 hk196
        refine AnyE.done (by kernel_rfl) (fun w198 hu199 => ?_)
        have h200 := h195.call hu199
        refine Vl [(0, sV pA0 p0 pc0), (2, pt b2), (4, iA t155), (6, pt b7), (8, iA t167)] (Vl [(0, sV pA0 p0 pc0), (2, pt b2), (4, iA t155), (6, pt b7), (8, iA t167)] ?_)
        exact hj206 (wC (t177 + (wC (256 * (wC t189))))) w198 h (h200.pk [0, 1, 2])
       ·refine Xg 1 [.c 88] (Vl [(0, sV pA0 p0 pc0), (2, pt b2), (4, iA t155), (6, pt b7), (8, iA t167)] ?_)
        exact hj206 t177 w179 h (h178.pk [0, 1, 2])
      clear hJ181
      refine Vc 100 80 81 h (fun hc168 h => ?_) fun hc168 h => ?_
      ·refine Xr (Yp 2 [(0, sV pA0 p0 pc0), (2, pt b2), (4, iA t155), (6, pt b7), (8, iA t167), (101, sV pA0 p0 pc0), (102, iA t155)] ?_)
       obtain ⟨t173, hg172, h⟩ := of_bind h
       refine Yc 103 81 #[sV pA0 p0 pc0, iA t155] ((charabancref08_at_81_ok K _ w163  pA0 pc0 p0 t155 h165.old' (h165.get 0 rfl) hg172).mono ?_)
       rintro _ w169 ⟨rfl, hb170⟩
       refine ⟨_, rfl, ?_⟩
       have h171 := h165.call hb170
       refine Zp 2 [0, 2, 4, 6, 8, 104, 105] [(104, iC (wC t173)), (105, pu b7 3)] (Yb 2 23 b7 3 (iC (wC t173)) [iA t72, iB t156, iB t157, iC (wC t173), iA 0, iA t87] h171 rfl ?_)
       intro w174 h175 hk176
       refine Ye (Vl [(0, sV pA0 p0 pc0), (2, pt b2), (4, iA t155), (6, pt b7), (8, iA t167)] ?_)
       exact hj182 (wC t173) w174 h (h175.pk [0, 1, 2])
      ·refine Xg 1 [.c 82] (Vl [(0, sV pA0 p0 pc0), (2, pt b2), (4, iA t155), (6, pt b7), (8, iA t167)] ?_)
       exact hj182 0 w163 h (h165.pk [0, 1, 2])
     clear hJ161
     refine Vc 69 46 51 h (fun hc100 h => ?_) fun hc100 h => ?_
     ·refine Xq 1 47 [.c 48, .blk 2, .c 74] 3 [(0, sV pA0 p0 pc0), (2, pt b2), (4, iA t58), (6, pt b7), (72, sV pA0 p0 pc0), (74, iA (wA (t58 + 1)))] ?_
      obtain ⟨t105, hg104, h⟩ := of_bind h
      refine Yc 75 81 #[sV pA0 p0 pc0, iA (wA (t58 + 1))] ((charabancref08_at_81_ok K _ w96  pA0 pc0 p0 (wA (t58 + 1)) h95.old' (h95.get 0 rfl) hg104).mono ?_)
      rintro _ w101 ⟨rfl, hb102⟩
      refine ⟨_, rfl, ?_⟩
      have h103 := h95.call hb102
      refine Zp 1 [0, 2, 4, 6, 75, 76] [(75, iB t105), (76, pu b7 2)] (Yb 2 5 b7 2 (iB t105) [iA t72, iB 0, iB t105, iC 0, iA 0, iA t87] h103 rfl ?_)
      intro w106 h107 hk108
      refine Zy 1 49 [.c 50, .blk 2, .c 74] 3 [0, 2, 4, 6, 77, 79] [(77, sV pA0 p0 pc0), (79, iA (wA (t58 + 2)))] ?_
      obtain ⟨t113, hg112, h⟩ := of_bind h
      refine Yc 80 81 #[sV pA0 p0 pc0, iA (wA (t58 + 2))] ((charabancref08_at_81_ok K _ w106  pA0 pc0 p0 (wA (t58 + 2)) h107.old' (h107.get 0 rfl) hg112).mono ?_)
      rintro _ w109 ⟨rfl, hb110⟩
      refine ⟨_, rfl, ?_⟩
      have h111 := h107.call hb110
      refine Zp 1 [0, 2, 4, 6, 80, 81] [(80, iB t113), (81, pu b7 1)] (Yb 2 5 b7 1 (iB t113) [iA t72, iB t113, iB t105, iC 0, iA 0, iA t87] h111 rfl ?_)
      intro w114 h115 hk116
      refine Ye (Xr (Zd 3 [0, 2, 4, 6] [(4, iA (wA (t58 + 3)))] (Vl [(0, sV pA0 p0 pc0), (2, pt b2), (4, iA (wA (t58 + 3))), (6, pt b7)] ?_)))
      exact hj162 (wA (t58 + 3)) t113 t105 w114 h (h115.pk [0, 1, 2])
     ·refine Xd 2 53 [.c 54, .c 57, .blk 2, .c 74] 2 [(0, sV pA0 p0 pc0), (2, pt b2), (4, iA t58), (6, pt b7), (50, iA t72), (84, tB (t72 == 1))] ?_
      obtain ⟨j121, hJ122, h⟩ := of_let h
      have hj123 : ∀ (t118 : Bool) (w120 : World), j121 t118 = some r → Holds M0 w0 w120 [sl rB (sV pA0 p0 pc0) p0, box b2 25 [iA 0, iB 0, iB 0, iC 0, iA 0, iA 0], box b7 25 [iA t72, iB 0, iB 0, iC 0, iA 0, iA t87]] → RunsI F53 [.c 57, .blk 2, .c 74] [(0, sV pA0 p0 pc0), (2, pt b2), (4, iA t58), (6, pt b7), (84, tB t118)] w120 (charabancref08_Next_53.post M0 w0 r) := by
       intro t118 w120 h h119
       rw [hJ122] at h
       clear hJ122
       dsimp only at h
       refine Vc 84 58 61 h (fun hc124 h => ?_) fun hc124 h => ?_
       ·refine Xq 1 59 [.c 60, .blk 2, .c 74] 3 [(0, sV pA0 p0 pc0), (2, pt b2), (4, iA t58), (6, pt b7), (87, sV pA0 p0 pc0), (89, iA (wA (t58 + 1)))] ?_
        obtain ⟨t129, hg128, h⟩ := of_bind h
        refine Yc 90 81 #[sV pA0 p0 pc0, iA (wA (t58 + 1))] ((charabancref08_at_81_ok K _ w120  pA0 pc0 p0 (wA (t58 + 1)) h119.old' (h119.get 0 rfl) hg128).mono ?_)
        rintro _ w125 ⟨rfl, hb126⟩
        refine ⟨_, rfl, ?_⟩
        have h127 := h119.call hb126
        refine Zp 1 [0, 2, 4, 6, 90, 91] [(90, iB t129), (91, pu b7 1)] (Yb 2 5 b7 1 (iB t129) [iA t72, iB t129, iB 0, iC 0, iA 0, iA t87] h127 rfl ?_)
        intro w130 h131 hk132
        refine Ye (Xr (Zd 3 [0, 2, 4, 6] [(4, iA (wA (t58 + 2)))] (Vl [(0, sV pA0 p0 pc0), (2, pt b2), (4, iA (wA (t58 + 2))), (6, pt b7)] ?_)))
        exact hj162 (wA (t58 + 2)) t129 0 w130 h (h131.pk [0, 1, 2])
       ·refine Xq 1 62 [.c 63, .blk 2, .c 74] 2 [(0, sV pA0 p0 pc0), (2, pt b2), (4, iA t58), (6, pt b7), (51, sV pA0 p0 pc0), (52, iA t58)] ?_
        obtain ⟨t137, hg136, h⟩ := of_bind h
        refine Yc 53 81 #[sV pA0 p0 pc0, iA t58] ((charabancref08_at_81_ok K _ w120  pA0 pc0 p0 t58 h119.old' (h119.get 0 rfl) hg136).mono ?_)
        rintro _ w133 ⟨rfl, hb134⟩
        refine ⟨_, rfl, ?_⟩
        have h135 := h119.call hb134
        refine Zp 1 [0, 2, 4, 6, 53, 54] [(53, iB t137), (54, pu b7 1)] (Yb 2 5 b7 1 (iB t137) [iA t72, iB t137, iB 0, iC 0, iA 0, iA t87] h135 rfl ?_)
        intro w138 h139 hk140
        refine Zy 1 64 [.c 65, .blk 2, .c 74] 3 [0, 2, 4, 6] [(4, iA (wA (t58 + 1)))] (Zy 1 66 [.c 67, .blk 2, .c 74] 1 [0, 2, 4, 6, 57] [(57, pt b7)] (Ya 58 2 3 b7 0 (iA t72) h139 rfl (Zp 1 [0, 2, 4, 6, 58, 59] [(58, iA t72), (59, pu b7 1)] (Ya 60 2 5 b7 1 (iB t137) h139 rfl ?_))))
        obtain ⟨t145, hg144, h⟩ := of_bind h
        refine Yc 61 83 #[iA t72, iB t137] ((charabancref08_Near_83_ok K _ w138  t72 t137 h139.old' hg144).mono ?_)
        rintro _ w141 ⟨rfl, hb142⟩
        refine ⟨_, rfl, ?_⟩
        have h143 := h139.call hb142
        refine Zp 1 [0, 2, 4, 6, 7] [(7, tB t145)] (Zy 1 68 [.c 69, .blk 2, .c 74] 1 [0, 2, 4, 6, 62] [(62, tB t145)] (Ye (Vc 62 70 73 h (fun hc146 h => ?_) fun hc146 h => ?_)))
        ·refine Xq 1 71 [.c 72, .blk 2, .c 74] 2 [(0, sV pA0 p0 pc0), (2, pt b2), (4, iA (wA (t58 + 1))), (6, pt b7), (63, sV pA0 p0 pc0), (64, iA (wA (t58 + 1)))] ?_
         obtain ⟨t151, hg150, h⟩ := of_bind h
         refine Yc 65 81 #[sV pA0 p0 pc0, iA (wA (t58 + 1))] ((charabancref08_at_81_ok K _ w141  pA0 pc0 p0 (wA (t58 + 1)) h143.old' (h143.get 0 rfl) hg150).mono ?_)
         rintro _ w147 ⟨rfl, hb148⟩
         refine ⟨_, rfl, ?_⟩
         have h149 := h143.call hb148
         refine Zp 1 [0, 2, 4, 6, 65, 66] [(65, iB t151), (66, pu b7 2)] (Yb 2 5 b7 2 (iB t151) [iA t72, iB t137, iB t151, iC 0, iA 0, iA t87] h149 rfl ?_)
         intro w152 h153 hk154
         refine Ye (Xr (Zd 3 [0, 2, 4, 6] [(4, iA (wA ((wA (t58 + 1)) + 1)))] (Vl [(0, sV pA0 p0 pc0), (2, pt b2), (4, iA (wA ((wA (t58 + 1)) + 1))), (6, pt b7)] ?_)))
         exact hj162 (wA ((wA (t58 + 1)) + 1)) t137 t151 w152 h (h153.pk [0, 1, 2])
        ·refine Xg 1 [.blk 2, .c 74] (Vl [(0, sV pA0 p0 pc0), (2, pt b2), (4, iA (wA (t58 + 1))), (6, pt b7)] ?_)
         exact hj162 (wA (t58 + 1)) t137 0 w141 h (h143.pk [0, 1, 2])
      clear hJ122
      refine Vc 84 55 56 h (fun hc117 h => ?_) fun hc117 h => ?_
      ·refine Xg 1 [.c 57, .blk 2, .c 74] (Vl [(0, sV pA0 p0 pc0), (2, pt b2), (4, iA t58), (6, pt b7), (84, tB true)] ?_)
       exact hj123 true w96 h (h95.pk [0, 1, 2])
      ·refine Xr (Yd 2 [(0, sV pA0 p0 pc0), (2, pt b2), (4, iA t58), (6, pt b7), (84, tB (t72 == 2))] (Vl [(0, sV pA0 p0 pc0), (2, pt b2), (4, iA t58), (6, pt b7), (84, tB (t72 == 2))] ?_))
       exact hj123 (t72 == 2) w96 h (h95.pk [0, 1, 2])
    clear hJ98
    refine Vc 69 43 44 h (fun hc93 h => ?_) fun hc93 h => ?_
    ·refine Xg 1 [.c 45, .blk 2, .c 74] (Vl [(0, sV pA0 p0 pc0), (2, pt b2), (4, iA t58), (6, pt b7), (50, iA t72), (69, tB true)] ?_)
     exact hj99 true w89 h (h88.pk [0, 1, 2])
    ·refine Xr (Yd 2 [(0, sV pA0 p0 pc0), (2, pt b2), (4, iA t58), (6, pt b7), (50, iA t72), (69, tB (t72 == 6))] (Vl [(0, sV pA0 p0 pc0), (2, pt b2), (4, iA t58), (6, pt b7), (50, iA t72), (69, tB (t72 == 6))] ?_))
     exact hj99 (t72 == 6) w89 h (h88.pk [0, 1, 2])
   clear hJ91
   refine Vc 44 33 34 h (fun hc83 h => ?_) fun hc83 h => ?_
   ·refine Xr (Yp 1 [(0, sV pA0 p0 pc0), (2, pt b2), (4, iA t58), (6, pt b7), (45, pu b7 5)] (Ya 46 2 3 b7 5 (iA t60) h78 rfl (Zp 2 [0, 2, 4, 6, 47, 48] [(47, iA (wA (t60 + 1))), (48, pu b7 5)] (Yb 2 3 b7 5 (iA (wA (t60 + 1))) [iA t72, iB 0, iB 0, iC 0, iA 0, iA (wA (t60 + 1))] h78 rfl ?_))))
    intro w84 h85 hk86
    refine Ye (Vl [(0, sV pA0 p0 pc0), (2, pt b2), (4, iA t58), (6, pt b7)] ?_)
    exact hj92 (wA (t60 + 1)) w84 h (h85.pk [0, 1, 2])
   ·refine Xg 1 [.c 35] (Vl [(0, sV pA0 p0 pc0), (2, pt b2), (4, iA t58), (6, pt b7)] ?_)
    exact hj92 t60 w79 h (h78.pk [0, 1, 2])
  clear hJ81
  rcases oc h with ⟨hc76, h⟩ | ⟨hc76, h⟩
  ·refine Yf 41 true hc76 (Zp 3 [0, 2, 4, 6, 44] [(44, tB (decide (t58 > 0)))] (Ul [(0, sV pA0 p0 pc0), (2, pt b2), (4, iA t58), (6, pt b7), (44, tB (decide (t58 > 0)))] ?_))
   exact hj82 (decide (t58 > 0)) w73 h (h74.pk [0, 1, 2])
  ·refine Yf 41 false hc76 (Zp 3 [0, 2, 4, 6, 44] [(44, tB false)] (Ul [(0, sV pA0 p0 pc0), (2, pt b2), (4, iA t58), (6, pt b7), (44, tB false)] ?_))
   exact hj82 false w73 h (h74.pk [0, 1, 2])
end

section
def charabancref34_at_33.post (M0 : Nat → Prop) (w0 : World) (r : Int × Int × Int × Int × Int × Int × (List Int) × Bool) : Ending → World → Prop := fun e w => ∃ (A7 : Option Addr) (c7 : Nat), e = .returned (.tuple #[.agg #[.int .i64 r.1, .int .u8 r.2.1, .int .u8 r.2.2.1, .int .u16 r.2.2.2.1, .int .i64 r.2.2.2.2.1, .int .i64 r.2.2.2.2.2.1], .slice A7 r.2.2.2.2.2.2.1.length c7, .bool r.2.2.2.2.2.2.2]) ∧ Holds M0 w0 w [own (Rp.int .u8) 5 (.slice A7 r.2.2.2.2.2.2.1.length c7) r.2.2.2.2.2.2.1]
def charabancref34_at_33.f (K : Nat) (p0 : List (Int × Int)) (p1 : Int) : Option (Int × Int × Int × Int × Int × Int × (List Int) × Bool) := (charabancref14_Dump_22.f K p0 p1 8).bind fun t10 => (charabancref08_Next_53.f K t10).bind fun yt19 => cond (!yt19.2.2.2.2.2.2) (cond (cutR 0 1 t10.length) (some (0, 0, 0, 0, 0, 0, (cutL t10 0 1), false)) none) (cond (cutR 0 yt19.2.2.2.2.1 t10.length) (some (yt19.1, yt19.2.1, yt19.2.2.1, yt19.2.2.2.1, yt19.2.2.2.2.1, yt19.2.2.2.2.2.1, (cutL t10 0 yt19.2.2.2.2.1), true)) none)
theorem charabancref34_at_33_ok (K : Nat) (M0 : Nat → Prop) (w0 : World) (pA0 : Option Addr) (pc0 : Nat) (p0 : List (Int × Int)) (p1 : Int) (ho : ∀ b, M0 b → b < w0.heap.size) (hs0 : Sl (Rp.pair rC rB) w0 M0 (sV pA0 p0 pc0) p0) {r : Int × Int × Int × Int × Int × Int × (List Int) × Bool} (h : charabancref34_at_33.f K p0 p1 = some r) :
  Calls Tryz.prog 33 #[sV pA0 p0 pc0, iC p1] w0 (charabancref34_at_33.post M0 w0 r) := by
 unfold charabancref34_at_33.f at h
 have h0 : Holds M0 w0 w0 [] := Holds.start ho
 have h00 := h0.aS hs0
 have h0 : Holds M0 w0 w0 [sl (Rp.pair rC rB) (sV pA0 p0 pc0) p0] := h00
 refine calls_of F33 rfl [sV pA0 p0 pc0, iC p1] (by kernel_rfl) (Xg 1 [.c 1, .c 2] (Xr (Yx 4 25 [iA 0, iB 0, iB 0, iC 0, iA 0, iA 0] h0 ?_)))
 intro w1 b2 h3 hb4 hn5
 refine Yp 2 [(0, sV pA0 p0 pc0), (1, iC p1), (4, pt b2)] (Yq 1 3 [.c 4] 2 [(4, pt b2), (10, sV pA0 p0 pc0), (11, iC p1)] ?_)
 obtain ⟨t10, hg9, h⟩ := of_bind h
 refine Yc 12 22 #[sV pA0 p0 pc0, iC p1, iA 8] ((charabancref14_Dump_22_ok K _ w1  pA0 pc0 p0 p1 8 h3.old' (h3.get 0 rfl) hg9).mono ?_)
 rintro _ w6 ⟨A11, c12, rfl, hr14⟩
 refine ⟨_, rfl, ?_⟩
 have hb7 := hr14.below
 have h8 := h3.join hr14
 refine Zp 1 [4, 7] [(7, sV A11 t10 c12)] (Zy 1 5 [.c 6] 1 [4, 7, 14] [(14, sV A11 t10 c12)] ?_)
 obtain ⟨⟨t19, t20, t21, t22, t23, t24, t25⟩, hg18, h⟩ := of_bind h
 dsimp only at h
 refine Yc 15 53 #[sV A11 t10 c12] ((charabancref08_Next_53_ok K (fun _ => False) w6  A11 c12 t10 nF (h8.ownSl 2 rfl) hg18).mono ?_)
 rintro _ w15 ⟨rfl, hb16⟩
 refine ⟨_, rfl, ?_⟩
 have h17 := h8.call hb16
 refine Zp 3 [4, 7, 16, 17] [(16, .agg #[iA t19, iB t20, iB t21, iC t22, iA t23, iA t24]), (17, tB t25)] (Yx 8 25 [iA 0, iB 0, iB 0, iC 0, iA 0, iA 0] h17 ?_)
 intro w26 b27 h28 hb29 hn30
 refine Yb 3 25 b27 0 (.agg #[iA t19, iB t20, iB t21, iC t22, iA t23, iA t24]) [iA t19, iB t20, iB t21, iC t22, iA t23, iA t24] h28 rfl ?_
 intro w31 h32 hk33
 refine Zp 1 [4, 7, 8, 9] [(8, pt b27), (9, tB t25)] (Zy 2 8 [.c 9, .c 14] 2 [4, 7, 8, 19] [(19, tB (!t25))] (Ye (Vc 19 10 13 h (fun hc34 h => ?_) fun hc34 h => ?_)))
 ·refine Xg 1 [.c 11, .c 12, .c 14] (RunsI.any 6 (by kernel_rfl) (by kernel_rfl) (by kernel_rfl) (Kp (mines (pick [sl (Rp.pair rC rB) (sV pA0 p0 pc0) p0, box b2 25 [iA 0, iB 0, iB 0, iC 0, iA 0, iA 0], own rB 5 (sV A11 t10 c12) t10, box b27 25 [iA t19, iB t20, iB t21, iC t22, iA t23, iA t24]] [1])) (World.drew w31)) ?_)
  have h36 := h32.drew
  generalize World.drew w31 = w35 at h36 ⊢
  have hS37 := Kp.refl (mines (pick [sl (Rp.pair rC rB) (sV pA0 p0 pc0) p0, box b2 25 [iA 0, iB 0, iB 0, iC 0, iA 0, iA 0], own rB 5 (sV A11 t10 c12) t10, box b27 25 [iA t19, iB t20, iB t21, iC t22, iA t23, iA t24]] [1])) w35
  refine Wu 0 20 (.agg #[iA 0, iB 0, iB 0, iC 0, iA 0, iA 0]) hS37 (Wu 1 21 (sV A11 t10 c12) hS37 (AnyE.two 2 3 (by kernel_rfl) ?_ ?_))
  ·intro w39 hu40
   have h41 := h36.call hu40
   have hS42 := hS37.up hu40
   have ⟨hc43, h⟩ := oz h
   refine OpE.cutOwn 22 2 39 5 (some 1) h41 (by kernel_rfl) rfl (by kernel_rfl) (by kernel_rfl) hc43 ?_
   intro A44 c45 h46
   refine ⟨hS42, ?_⟩
   refine AnyE.one 3 (by kernel_rfl) (fun w48 hu49 => ?_)
   have h50 := h46.call hu49
   have hS51 := hS42.up hu49
   refine OpE.storeBox 1 25 b2 0 (.agg #[iA 0, iB 0, iB 0, iC 0, iA 0, iA 0]) [iA 0, iB 0, iB 0, iC 0, iA 0, iA 0] h50 (by kernel_rfl) (by kernel_rfl) rfl (by kernel_rfl) (by kernel_rfl) (by kernel_rfl) ?_
   intro w52 h53 hk54
   have hS55 := hS51.trans hk54 (Kp.turned h36 [1] rfl 1 rfl rfl)
   refine ⟨hS55, ?_⟩
   refine Wu 4 5 (.slice A44 ((cutL t10 0 1).length) c45) hS55 (Wu 5 6 (tB false) hS55 (AnyE.done (by kernel_rfl) (fun w56 hu57 => ?_)))
   have h58 := h53.call hu57
   refine Vl [(4, pt b2), (5, .slice A44 ((cutL t10 0 1).length) c45), (6, tB false)] (RunsI.toRet (by kernel_rfl) (RetI.valW [.cell 4 25, .tmp 5, .tmp 6] [.agg #[iA 0, iB 0, iB 0, iC 0, iA 0, iA 0], .slice A44 ((cutL t10 0 1).length) c45, tB false] (.tuple #[.agg #[iA 0, iB 0, iB 0, iC 0, iA 0, iA 0], .slice A44 ((cutL t10 0 1).length) c45, tB false]) (by kernel_rfl) (ResAt.box 1 25 b2 0 h58 (by kernel_rfl) (by kernel_rfl) rfl (by kernel_rfl) (ResAt.tmp (by kernel_rfl) (by kernel_rfl) (ResAt.tmp (by kernel_rfl) (by kernel_rfl) rfl))) (by kernel_rfl) ?_))
   obtain rfl := sI h
   exact ⟨A44, c45, rfl, h58.pk [2]⟩
  ·intro w59 hu60
   have h61 := h36.call hu60
   have hS62 := hS37.up hu60
   refine OpE.storeBox 1 25 b2 0 (.agg #[iA 0, iB 0, iB 0, iC 0, iA 0, iA 0]) [iA 0, iB 0, iB 0, iC 0, iA 0, iA 0] h61 (by kernel_rfl) (by kernel_rfl) rfl (by kernel_rfl) (by kernel_rfl) (by kernel_rfl) ?_
   intro w63 h64 hk65
   have hS66 := hS62.trans hk65 (Kp.turned h36 [1] rfl 1 rfl rfl)
   refine ⟨hS66, ?_⟩
   refine AnyE.one 2 (by kernel_rfl) (fun w67 hu68 => ?_)
   have h69 := h64.call hu68
   have hS70 := hS66.up hu68
   have ⟨hc71, h⟩ := oz h
   refine OpE.cutOwn 22 2 39 5 (some 1) h69 (by kernel_rfl) rfl (by kernel_rfl) (by kernel_rfl) hc71 ?_
   intro A72 c73 h74
   refine ⟨hS70, ?_⟩
   refine Wu 4 5 (.slice A72 ((cutL t10 0 1).length) c73) hS70 (Wu 5 6 (tB false) hS70 (AnyE.done (by kernel_rfl) (fun w76 hu77 => ?_)))
   have h78 := h74.call hu77
   refine Vl [(4, pt b2), (5, .slice A72 ((cutL t10 0 1).length) c73), (6, tB false)] (RunsI.toRet (by kernel_rfl) (RetI.valW [.cell 4 25, .tmp 5, .tmp 6] [.agg #[iA 0, iB 0, iB 0, iC 0, iA 0, iA 0], .slice A72 ((cutL t10 0 1).length) c73, tB false] (.tuple #[.agg #[iA 0, iB 0, iB 0, iC 0, iA 0, iA 0], .slice A72 ((cutL t10 0 1).length) c73, tB false]) (by kernel_rfl) (ResAt.box 1 25 b2 0 h78 (by kernel_rfl) (by kernel_rfl) rfl (by kernel_rfl) (ResAt.tmp (by kernel_rfl) (by kernel_rfl) (ResAt.tmp (by kernel_rfl) (by kernel_rfl) rfl))) (by kernel_rfl) ?_))
   obtain rfl := sI h
   exact ⟨A72, c73, rfl, h78.pk [2]⟩
 ·refine Xg 1 [.c 14] (Xg 1 [.c 15, .c 16] (RunsI.any 8 (by kernel_rfl) (by kernel_rfl) (by kernel_rfl) (Kp (mines (pick [sl (Rp.pair rC rB) (sV pA0 p0 pc0) p0, box b2 25 [iA 0, iB 0, iB 0, iC 0, iA 0, iA 0], own rB 5 (sV A11 t10 c12) t10, box b27 25 [iA t19, iB t20, iB t21, iC t22, iA t23, iA t24]] [1])) (World.drew w31)) ?_))
  have h80 := h32.drew
  generalize World.drew w31 = w79 at h80 ⊢
  have hS81 := Kp.refl (mines (pick [sl (Rp.pair rC rB) (sV pA0 p0 pc0) p0, box b2 25 [iA 0, iB 0, iB 0, iC 0, iA 0, iA 0], own rB 5 (sV A11 t10 c12) t10, box b27 25 [iA t19, iB t20, iB t21, iC t22, iA t23, iA t24]] [1])) w79
  refine Wa 0 23 3 25 b27 0 (.agg #[iA t19, iB t20, iB t21, iC t22, iA t23, iA t24]) [1] h80 rfl hS81 rfl (Wu 1 24 (sV A11 t10 c12) hS81 (Wu 2 25 (pu b27 4) hS81 (Wa 3 26 3 3 b27 4 (iA t23) [1] h80 rfl hS81 rfl (AnyE.two 4 5 (by kernel_rfl) ?_ ?_))))
  ·intro w83 hu84
   have h85 := h80.call hu84
   have hS86 := hS81.up hu84
   have ⟨hc87, h⟩ := oz h
   refine OpE.cutOwn 27 2 39 5 (some t23) h85 (by kernel_rfl) rfl (by kernel_rfl) (by kernel_rfl) hc87 ?_
   intro A88 c89 h90
   refine ⟨hS86, ?_⟩
   refine AnyE.one 5 (by kernel_rfl) (fun w92 hu93 => ?_)
   have h94 := h90.call hu93
   have hS95 := hS86.up hu93
   refine OpE.storeBox 1 25 b2 0 (.agg #[iA t19, iB t20, iB t21, iC t22, iA t23, iA t24]) [iA t19, iB t20, iB t21, iC t22, iA t23, iA t24] h94 (by kernel_rfl) (by kernel_rfl) rfl (by kernel_rfl) (by kernel_rfl) (by kernel_rfl) ?_
   intro w96 h97 hk98
   have hS99 := hS95.trans hk98 (Kp.turned h80 [1] rfl 1 rfl rfl)
   refine ⟨hS99, ?_⟩
   refine Wu 6 5 (.slice A88 ((cutL t10 0 t23).length) c89) hS99 (Wu 7 6 (tB true) hS99 (AnyE.done (by kernel_rfl) (fun w100 hu101 => ?_)))
   have h102 := h97.call hu101
   refine Vl [(4, pt b2), (5, .slice A88 ((cutL t10 0 t23).length) c89), (6, tB true)] (RunsI.toRet (by kernel_rfl) (RetI.valW [.cell 4 25, .tmp 5, .tmp 6] [.agg #[iA t19, iB t20, iB t21, iC t22, iA t23, iA t24], .slice A88 ((cutL t10 0 t23).length) c89, tB true] (.tuple #[.agg #[iA t19, iB t20, iB t21, iC t22, iA t23, iA t24], .slice A88 ((cutL t10 0 t23).length) c89, tB true]) (by kernel_rfl) (ResAt.box 1 25 b2 0 h102 (by kernel_rfl) (by kernel_rfl) rfl (by kernel_rfl) (ResAt.tmp (by kernel_rfl) (by kernel_rfl) (ResAt.tmp (by kernel_rfl) (by kernel_rfl) rfl))) (by kernel_rfl) ?_))
   obtain rfl := sI h
   exact ⟨A88, c89, rfl, h102.pk [2]⟩
  ·intro w103 hu104
   have h105 := h80.call hu104
   have hS106 := hS81.up hu104
   refine OpE.storeBox 1 25 b2 0 (.agg #[iA t19, iB t20, iB t21, iC t22, iA t23, iA t24]) [iA t19, iB t20, iB t21, iC t22, iA t23, iA t24] h105 (by kernel_rfl) (by kernel_rfl) rfl (by kernel_rfl) (by kernel_rfl) (by kernel_rfl) ?_
   intro w107 h108 hk109
   have hS110 := hS106.trans hk109 (Kp.turned h80 [1] rfl 1 rfl rfl)
   refine ⟨hS110, ?_⟩
   refine AnyE.one 4 (by kernel_rfl) (fun w111 hu112 => ?_)
   have h113 := h108.call hu112
   have hS114 := hS110.up hu112
   have ⟨hc115, h⟩ := oz h
   refine OpE.cutOwn 27 2 39 5 (some t23) h113 (by kernel_rfl) rfl (by kernel_rfl) (by kernel_rfl) hc115 ?_
   intro A116 c117 h118
   refine ⟨hS114, ?_⟩
   refine Wu 6 5 (.slice A116 ((cutL t10 0 t23).length) c117) hS114 (Wu 7 6 (tB true) hS114 (AnyE.done (by kernel_rfl) (fun w120 hu121 => ?_)))
   have h122 := h118.call hu121
   refine Vl [(4, pt b2), (5, .slice A116 ((cutL t10 0 t23).length) c117), (6, tB true)] (RunsI.toRet (by kernel_rfl) (RetI.valW [.cell 4 25, .tmp 5, .tmp 6] [.agg #[iA t19, iB t20, iB t21, iC t22, iA t23, iA t24], .slice A116 ((cutL t10 0 t23).length) c117, tB true] (.tuple #[.agg #[iA t19, iB t20, iB t21, iC t22, iA t23, iA t24], .slice A116 ((cutL t10 0 t23).length) c117, tB true]) (by kernel_rfl) (ResAt.box 1 25 b2 0 h122 (by kernel_rfl) (by kernel_rfl) rfl (by kernel_rfl) (ResAt.tmp (by kernel_rfl) (by kernel_rfl) (ResAt.tmp (by kernel_rfl) (by kernel_rfl) rfl))) (by kernel_rfl) ?_))
   obtain rfl := sI h
   exact ⟨A116, c117, rfl, h122.pk [2]⟩
end

section
def charabancref34_Targets_12.post (M0 : Nat → Prop) (w0 : World) (r : (List Int)) : Ending → World → Prop := fun e w => ∃ (A1 : Option Addr) (c1 : Nat), e = .returned (.slice A1 r.length c1) ∧ Holds M0 w0 w [own (Rp.int .u16) 23 (.slice A1 r.length c1) r]
def charabancref34_Targets_12.l0 (K : Nat) (p0 : List (Int × Int)) (p1 : Int) (p2 : Int) (t51 : Int) (t54 : List Int) (t55 : Int) (t58 : List Int) (t59 : Int) : Nat → Int → Option Int
 | 0, _ => none
 | k + 1, t60 => Let (fun (t65 : Bool) => cond t65 (charabancref34_Targets_12.l0 K p0 p1 p2 t51 t54 t55 t58 t59 k (IntKind.wrap .i64 (t60 + 1))) (some t60)) (fun j68 => cond (decide (t60 < (t54.length : Int))) (cond (inR t60 t54.length) (j68 (decide ((rdD t54 t60) < t59))) none) (j68 false))
theorem charabancref34_Targets_12.l0_ok (K : Nat) (M0 : Nat → Prop) (w0 : World) (pA0 : Option Addr) (pc0 : Nat) (p0 : List (Int × Int)) (p1 : Int) (p2 : Int) (t51 : Int) (t54 : List Int) (t55 : Int) (t58 : List Int) (t59 : Int) (A52 : Option Addr) (c53 : Nat) (A56 : Option Addr) (c57 : Nat) (R : Ending → World → Prop) (x : Int) (hk0 : ∀ (t72 : Int) (w1 : World), x = t72 → Holds M0 w0 w1 [sl (Rp.pair rC rB) (sV pA0 p0 pc0) p0, own rC 23 (sV A52 t54 c53) t54, own rB 5 (sV A56 t58 c57) t58] → RunsI F12 [.c 38, .c 52, .blk 1, .c 53, .lp 9, .blk 0, .c 54] [(0, sV pA0 p0 pc0), (1, iC t51), (2, iA p2), (7, sV A52 t54 c53), (8, iA t55), (10, sV A56 t58 c57), (12, iC t59), (14, iA t72)] w1 R) :
  ∀ (k : Nat) (t60 : Int) (w : World), charabancref34_Targets_12.l0 K p0 p1 p2 t51 t54 t55 t58 t59 k t60 = some x → Holds M0 w0 w [sl (Rp.pair rC rB) (sV pA0 p0 pc0) p0, own rC 23 (sV A52 t54 c53) t54, own rB 5 (sV A56 t58 c57) t58] → RunsI F12 [.c 30, .lp 30, .blk 2, .c 38, .c 52, .blk 1, .c 53, .lp 9, .blk 0, .c 54] [(0, sV pA0 p0 pc0), (1, iC t51), (2, iA p2), (7, sV A52 t54 c53), (8, iA t55), (10, sV A56 t58 c57), (12, iC t59), (14, iA t60)] w R := by
 intro k
 induction k with
 | zero => intro t60 w h hH; exact absurd h (by simp [charabancref34_Targets_12.l0])
 | succ k ih =>
  intro t60 w h hH
  rw [charabancref34_Targets_12.l0.eq_2] at h
  refine Xg 1 [.c 31, .c 36, .lp 30, .blk 2, .c 38, .c 52, .blk 1, .c 53, .lp 9, .blk 0, .c 54] (Xq 1 32 [.c 33, .c 36, .lp 30, .blk 2, .c 38, .c 52, .blk 1, .c 53, .lp 9, .blk 0, .c 54] 5 [(0, sV pA0 p0 pc0), (1, iC t51), (2, iA p2), (7, sV A52 t54 c53), (8, iA t55), (10, sV A56 t58 c57), (12, iC t59), (14, iA t60), (43, tB (decide (t60 < (t54.length : Int))))] ?_)
  obtain ⟨j68, hJ69, h⟩ := of_let h
  have hj70 : ∀ (t65 : Bool) (w67 : World), j68 t65 = some x → Holds M0 w0 w67 [sl (Rp.pair rC rB) (sV pA0 p0 pc0) p0, own rC 23 (sV A52 t54 c53) t54, own rB 5 (sV A56 t58 c57) t58] → RegI F12 32 [.c 33, .c 36, .lp 30, .blk 2, .c 38, .c 52, .blk 1, .c 53, .lp 9, .blk 0, .c 54] 12 [(0, sV pA0 p0 pc0), (1, iC t51), (2, iA p2), (7, sV A52 t54 c53), (8, iA t55), (10, sV A56 t58 c57), (12, iC t59), (14, iA t60), (50, tB t65)] w67 R := by
   intro t65 w67 h h66
   rw [hJ69] at h
   clear hJ69
   dsimp only at h
   refine Ye (Vc 50 34 35 h (fun hc71 h => ?_) fun hc71 h => ?_)
   ·refine Xg 1 [.c 36, .lp 30, .blk 2, .c 38, .c 52, .blk 1, .c 53, .lp 9, .blk 0, .c 54] (Xd 1 37 [.blk 3, .lp 30, .blk 2, .c 38, .c 52, .blk 1, .c 53, .lp 9, .blk 0, .c 54] 3 [(0, sV pA0 p0 pc0), (1, iC t51), (2, iA p2), (7, sV A52 t54 c53), (8, iA t55), (10, sV A56 t58 c57), (12, iC t59), (14, iA (wA (t60 + 1)))] (Xg 2 [.c 30, .lp 30, .blk 2, .c 38, .c 52, .blk 1, .c 53, .lp 9, .blk 0, .c 54] (Vl [(0, sV pA0 p0 pc0), (1, iC t51), (2, iA p2), (7, sV A52 t54 c53), (8, iA t55), (10, sV A56 t58 c57), (12, iC t59), (14, iA (wA (t60 + 1)))] ?_)))
    exact ih (wA (t60 + 1)) w67 h (h66.pk [0, 1, 2])
   ·refine Xg 1 [.c 38, .c 52, .blk 1, .c 53, .lp 9, .blk 0, .c 54] (Vl [(0, sV pA0 p0 pc0), (1, iC t51), (2, iA p2), (7, sV A52 t54 c53), (8, iA t55), (10, sV A56 t58 c57), (12, iC t59), (14, iA t60)] ?_)
    exact hk0 t60 w67 (sI h).symm (h66.pk [0, 1, 2])
  clear hJ69
  rcases oc h with ⟨hc61, h⟩ | ⟨hc61, h⟩
  ·refine Yf 43 true hc61 (Zp 2 [0, 1, 2, 7, 8, 10, 12, 14, 43, 44, 45] [(44, sV A52 t54 c53), (45, iA t60)] ?_)
   have ⟨hc62, h⟩ := oz h
   refine Yo (OpE.idxOwnA 46 1 29 23 t60 hH (by kernel_rfl) rfl (by kernel_rfl) (by kernel_rfl) hc62 (Yo (OpE.loadOwnA 47 1 23 23 t60 0 (o := (Int.toNat t60) * 1 + 0) hH (by kernel_rfl) rfl (by kernel_rfl) (by kernel_rfl) hc62 (fun cs63 hk64 => ?_))))
   obtain rfl := hk64
   refine ⟨iC (rdD t54 t60), by kernel_rfl, ?_⟩
   refine Zp 3 [0, 1, 2, 7, 8, 10, 12, 14, 50] [(50, tB (decide ((rdD t54 t60) < t59)))] (Ul [(0, sV pA0 p0 pc0), (1, iC t51), (2, iA p2), (7, sV A52 t54 c53), (8, iA t55), (10, sV A56 t58 c57), (12, iC t59), (14, iA t60), (50, tB (decide ((rdD t54 t60) < t59)))] ?_)
   exact hj70 (decide ((rdD t54 t60) < t59)) w h (hH.pk [0, 1, 2])
  ·refine Yf 43 false hc61 (Zp 7 [0, 1, 2, 7, 8, 10, 12, 14, 50] [(50, tB false)] (Ul [(0, sV pA0 p0 pc0), (1, iC t51), (2, iA p2), (7, sV A52 t54 c53), (8, iA t55), (10, sV A56 t58 c57), (12, iC t59), (14, iA t60), (50, tB false)] ?_))
   exact hj70 false w h (hH.pk [0, 1, 2])
def charabancref34_Targets_12.l1 (K : Nat) (p0 : List (Int × Int)) (p1 : Int) (p2 : Int) : Nat → Int → (List Int) → Int → Option (List Int)
 | 0, _, _, _ => none
 | k + 1, t2, t5, t6 => (charabancref34_many_32.f K p2).bind fun t11 => cond (decide (t6 < t11)) ((charabancref34_at_33.f K p0 t2).bind fun yt17 => (charabancref34_Target_9.f K yt17.1 yt17.2.1 yt17.2.2.1 yt17.2.2.2.1 yt17.2.2.2.2.1 yt17.2.2.2.2.2.1 t2).bind fun yt41 => Let (fun (t44 : Bool) => cond t44 ((charabancref34_Targets_12.l0 K p0 p1 p2 t2 t5 t6 yt17.2.2.2.2.2.2.1 yt41.1 K 0).bind (fun t75 => Let (fun (t82 : Bool) => cond t82 (cond (cutR 0 t75 t5.length) (cond (mayBe (([] : List Int).length + (cutL t5 0 t75).length) 2) (cond (mayBe ((([] : List Int) ++ (cutL t5 0 t75)).length + ([yt41.1] : List Int).length) 2) (cond (cutR t75 (t5.length : Int) t5.length) (cond (mayBe (((([] : List Int) ++ (cutL t5 0 t75)) ++ ([yt41.1] : List Int)).length + (cutL t5 t75 (t5.length : Int)).length) 2) (charabancref34_Targets_12.l1 K p0 p1 p2 k (IntKind.wrap .u16 (t2 + (IntKind.wrap .u16 (yt17.2.2.2.2.2.2.1.length : Int)))) (((([] : List Int) ++ (cutL t5 0 t75)) ++ ([yt41.1] : List Int)) ++ (cutL t5 t75 (t5.length : Int))) (IntKind.wrap .i64 (t6 + 1))) none) none) none) none) none) (charabancref34_Targets_12.l1 K p0 p1 p2 k (IntKind.wrap .u16 (t2 + (IntKind.wrap .u16 (yt17.2.2.2.2.2.2.1.length : Int)))) t5 (IntKind.wrap .i64 (t6 + 1)))) (fun j85 => cond (t75 == (t5.length : Int)) (j85 true) (cond (inR t75 t5.length) (j85 ((rdD t5 t75) != yt41.1)) none)))) (charabancref34_Targets_12.l1 K p0 p1 p2 k (IntKind.wrap .u16 (t2 + (IntKind.wrap .u16 (yt17.2.2.2.2.2.2.1.length : Int)))) t5 (IntKind.wrap .i64 (t6 + 1)))) (fun j47 => cond yt17.2.2.2.2.2.2.2 (j47 yt41.2) (j47 false))) (some t5)
theorem charabancref34_Targets_12.l1_ok (K : Nat) (M0 : Nat → Prop) (w0 : World) (pA0 : Option Addr) (pc0 : Nat) (p0 : List (Int × Int)) (p1 : Int) (p2 : Int) (R : Ending → World → Prop) (x : (List Int)) (hk0 : ∀ (t124 : List Int) (A122 : Option Addr) (c123 : Nat) (w1 : World), x = t124 → Holds M0 w0 w1 [own rC 23 (sV A122 t124 c123) t124] → RunsI F12 [.c 54] [(7, sV A122 t124 c123)] w1 R) :
  ∀ (k : Nat) (t2 : Int) (t5 : List Int) (t6 : Int) (A3 : Option Addr) (c4 : Nat) (w : World), charabancref34_Targets_12.l1 K p0 p1 p2 k t2 t5 t6 = some x → Holds M0 w0 w [sl (Rp.pair rC rB) (sV pA0 p0 pc0) p0, own rC 23 (sV A3 t5 c4) t5] → RunsI F12 [.c 9, .lp 9, .blk 0, .c 54] [(0, sV pA0 p0 pc0), (1, iC t2), (2, iA p2), (7, sV A3 t5 c4), (8, iA t6)] w R := by
 intro k
 induction k with
 | zero => intro t2 t5 t6 A3 c4 w h hH; exact absurd h (by simp [charabancref34_Targets_12.l1])
 | succ k ih =>
  intro t2 t5 t6 A3 c4 w h hH
  rw [charabancref34_Targets_12.l1.eq_2] at h
  refine Xg 1 [.c 10, .c 15, .lp 9, .blk 0, .c 54] (Xq 1 11 [.c 12, .c 15, .lp 9, .blk 0, .c 54] 2 [(0, sV pA0 p0 pc0), (1, iC t2), (2, iA p2), (7, sV A3 t5 c4), (8, iA t6), (16, iA t6), (17, iA p2)] ?_)
  obtain ⟨t11, hg10, h⟩ := of_bind h
  refine Yc 18 32 #[iA p2] ((charabancref34_many_32_ok K _ w  p2 hH.old' hg10).mono ?_)
  rintro _ w7 ⟨rfl, hb8⟩
  refine ⟨_, rfl, ?_⟩
  have h9 := hH.call hb8
  refine Zd 1 [0, 1, 2, 7, 8, 19] [(19, tB (decide (t6 < t11)))] (Vc 19 13 14 h (fun hc12 h => ?_) fun hc12 h => ?_)
  ·refine Xg 1 [.c 15, .lp 9, .blk 0, .c 54] (Xq 3 18 [.c 19, .blk 1, .c 53, .lp 9, .blk 0, .c 54] 2 [(0, sV pA0 p0 pc0), (1, iC t2), (2, iA p2), (7, sV A3 t5 c4), (8, iA t6), (23, sV pA0 p0 pc0), (24, iC t2)] ?_)
   obtain ⟨⟨t17, t18, t19, t20, t21, t22, t23, t27⟩, hg16, h⟩ := of_bind h
   dsimp only at h
   refine Yc 25 33 #[sV pA0 p0 pc0, iC t2] ((charabancref34_at_33_ok K _ w7  pA0 pc0 p0 t2 h9.old' (h9.get 0 rfl) hg16).mono ?_)
   rintro _ w13 ⟨A24, c25, rfl, hr28⟩
   refine ⟨_, rfl, ?_⟩
   have hb14 := hr28.below
   have h15 := h9.join hr28
   refine Zp 4 [0, 1, 2, 7, 8, 26, 27, 28] [(26, .agg #[iA t17, iB t18, iB t19, iC t20, iA t21, iA t22]), (27, sV A24 t23 c25), (28, tB t27)] (Yx 9 25 [iA 0, iB 0, iB 0, iC 0, iA 0, iA 0] h15 ?_)
   intro w29 b30 h31 hb32 hn33
   refine Yb 3 25 b30 0 (.agg #[iA t17, iB t18, iB t19, iC t20, iA t21, iA t22]) [iA t17, iB t18, iB t19, iC t20, iA t21, iA t22] h31 rfl ?_
   intro w34 h35 hk36
   refine Zd 2 [0, 1, 2, 7, 8, 9, 10, 11] [(9, pt b30), (10, sV A24 t23 c25), (11, tB t27)] (Xg 1 [.c 20, .c 21, .blk 1, .c 53, .lp 9, .blk 0, .c 54] (Xr (Ya 30 3 25 b30 0 (.agg #[iA t17, iB t18, iB t19, iC t20, iA t21, iA t22]) h35 rfl (Zp 1 [0, 1, 2, 7, 8, 10, 11, 30, 31] [(30, .agg #[iA t17, iB t18, iB t19, iC t20, iA t21, iA t22]), (31, iC t2)] ?_))))
   obtain ⟨⟨t41, t42⟩, hg40, h⟩ := of_bind h
   dsimp only at h
   refine Yc 32 9 #[.agg #[iA t17, iB t18, iB t19, iC t20, iA t21, iA t22], iC t2] ((charabancref34_Target_9_ok K _ w34  t17 t18 t19 t20 t21 t22 t2 h35.old' hg40).mono ?_)
   rintro _ w37 ⟨rfl, hb38⟩
   refine ⟨_, rfl, ?_⟩
   have h39 := h35.call hb38
   refine Zp 5 [0, 1, 2, 7, 8, 10, 11, 12, 13] [(12, iC t41), (13, tB t42)] (Zy 2 23 [.c 24, .c 52, .blk 1, .c 53, .lp 9, .blk 0, .c 54] 2 [0, 1, 2, 7, 8, 10, 12, 13, 36] [(36, tB t27)] ?_)
   obtain ⟨j47, hJ48, h⟩ := of_let h
   have hj49 : ∀ (t44 : Bool) (w46 : World), j47 t44 = some x → Holds M0 w0 w46 [sl (Rp.pair rC rB) (sV pA0 p0 pc0) p0, own rC 23 (sV A3 t5 c4) t5, own rB 5 (sV A24 t23 c25) t23] → RegI F12 23 [.c 24, .c 52, .blk 1, .c 53, .lp 9, .blk 0, .c 54] 4 [(0, sV pA0 p0 pc0), (1, iC t2), (2, iA p2), (7, sV A3 t5 c4), (8, iA t6), (10, sV A24 t23 c25), (12, iC t41), (38, tB t44)] w46 R := by
    intro t44 w46 h h45
    rw [hJ48] at h
    clear hJ48
    dsimp only at h
    refine Ye (Vc 38 25 51 h (fun hc50 h => ?_) fun hc50 h => ?_)
    ·refine Xd 1 26 [.c 27, .c 52, .blk 1, .c 53, .lp 9, .blk 0, .c 54] 1 [(0, sV pA0 p0 pc0), (1, iC t2), (2, iA p2), (7, sV A3 t5 c4), (8, iA t6), (10, sV A24 t23 c25), (12, iC t41), (14, iA 0)] (Xg 3 [.c 30, .lp 30, .blk 2, .c 38, .c 52, .blk 1, .c 53, .lp 9, .blk 0, .c 54] ?_)
     obtain ⟨x73, hx74, h⟩ := of_bind h
     refine Vl [(0, sV pA0 p0 pc0), (1, iC t2), (2, iA p2), (7, sV A3 t5 c4), (8, iA t6), (10, sV A24 t23 c25), (12, iC t41), (14, iA 0)] (charabancref34_Targets_12.l0_ok K M0 w0 pA0 pc0 p0 p1 p2 t2 t5 t6 t23 t41 A3 c4 A24 c25 _ x73 ?_ K 0 w46 hx74 (h45.pk [0, 1, 2]))
     ·intro t75 w77 hq132 h76
      (try rw [hq132] at h)
      refine Xq 1 39 [.c 40, .c 52, .blk 1, .c 53, .lp 9, .blk 0, .c 54] 5 [(0, sV pA0 p0 pc0), (1, iC t2), (2, iA p2), (7, sV A3 t5 c4), (8, iA t6), (10, sV A24 t23 c25), (12, iC t41), (14, iA t75), (57, tB (t75 == (t5.length : Int)))] ?_
      obtain ⟨j85, hJ86, h⟩ := of_let h
      have hj87 : ∀ (t82 : Bool) (w84 : World), j85 t82 = some x → Holds M0 w0 w84 [sl (Rp.pair rC rB) (sV pA0 p0 pc0) p0, own rC 23 (sV A3 t5 c4) t5, own rB 5 (sV A24 t23 c25) t23] → RegI F12 39 [.c 40, .c 52, .blk 1, .c 53, .lp 9, .blk 0, .c 54] 12 [(0, sV pA0 p0 pc0), (1, iC t2), (2, iA p2), (7, sV A3 t5 c4), (8, iA t6), (10, sV A24 t23 c25), (12, iC t41), (14, iA t75), (64, tB t82)] w84 R := by
       intro t82 w84 h h83
       rw [hJ86] at h
       clear hJ86
       dsimp only at h
       refine Ye (Vc 64 41 50 h (fun hc88 h => ?_) fun hc88 h => ?_)
       ·refine Xq 1 42 [.c 43, .c 52, .blk 1, .c 53, .lp 9, .blk 0, .c 54] 1 [(0, sV pA0 p0 pc0), (1, iC t2), (2, iA p2), (7, sV A3 t5 c4), (8, iA t6), (10, sV A24 t23 c25), (12, iC t41), (14, iA t75), (15, n0)] (Zy 1 44 [.c 45, .c 52, .blk 1, .c 53, .lp 9, .blk 0, .c 54] 3 [0, 1, 2, 7, 8, 10, 12, 14, 65, 66, 67] [(65, n0), (66, sV A3 t5 c4), (67, iA t75)] ?_)
        have h89 := h83.release 1 rfl
        have ⟨hc90, h⟩ := oz h
        refine Yo (OpE.cutSl 68 1 29 none (some t75) h89 (by kernel_rfl) rfl (by kernel_rfl) (by kernel_rfl) hc90 ?_)
        intro A91 c92 h93
        have h94 := h93.addOwnNil rC 23
        have ⟨hc95, h⟩ := oz h
        refine Yo (OpE.appendRow 69 4 29 23 2 (ys := (cutL t5 0 t75)) h94 (by kernel_rfl) (by kernel_rfl) (by kernel_rfl) rfl (h94.rdSl 3 rfl) hc95 ?_)
        intro w96 A97 c98 h99 hk100
        refine Zp 1 [0, 1, 2, 7, 8, 10, 12, 14, 15] [(15, .slice A97 ((([] : List Int) ++ (cutL t5 0 t75)).length) c98)] (Zy 1 46 [.c 47, .c 52, .blk 1, .c 53, .lp 9, .blk 0, .c 54] 2 [0, 1, 2, 7, 8, 10, 14, 70, 71] [(70, .slice A97 ((([] : List Int) ++ (cutL t5 0 t75)).length) c98), (71, iC t41)] (Yo (OpE.lit 72 23 [iC t41] 1 h99 (by kernel_rfl) (by kernel_rfl) ?_)))
        intro w101 b102 h103 hb104 hn105
        have ⟨hc106, h⟩ := oz h
        refine Yo (OpE.appendBox 73 4 5 29 23 2 ([t41] : List Int) 0 h103 (by kernel_rfl) (by kernel_rfl) (by kernel_rfl) rfl rfl rfl (cells_int _ _ _ _) hc106 ?_)
        intro w107 A108 c109 h110 hk111
        refine Zp 1 [0, 1, 2, 7, 8, 10, 14, 15] [(15, .slice A108 (((([] : List Int) ++ (cutL t5 0 t75)) ++ ([t41] : List Int)).length) c109)] (Zy 1 48 [.c 49, .c 52, .blk 1, .c 53, .lp 9, .blk 0, .c 54] 3 [0, 1, 2, 8, 10, 74, 75, 76] [(74, .slice A108 (((([] : List Int) ++ (cutL t5 0 t75)) ++ ([t41] : List Int)).length) c109), (75, sV A3 t5 c4), (76, iA t75)] ?_)
        have ⟨hc112, h⟩ := oz h
        refine Yo (OpE.cutSl 77 1 29 (some t75) none h110 (by kernel_rfl) rfl (by kernel_rfl) (by kernel_rfl) hc112 ?_)
        intro A113 c114 h115
        have ⟨hc116, h⟩ := oz h
        refine Yo (OpE.appendRow 78 4 29 23 2 (ys := (cutL t5 t75 (t5.length : Int))) h115 (by kernel_rfl) (by kernel_rfl) (by kernel_rfl) rfl (h115.rdSl 6 rfl) hc116 ?_)
        intro w117 A118 c119 h120 hk121
        refine Zd 1 [0, 1, 2, 8, 10, 15] [(15, .slice A118 ((((([] : List Int) ++ (cutL t5 0 t75)) ++ ([t41] : List Int)) ++ (cutL t5 t75 (t5.length : Int))).length) c119)] (Xr (Zd 2 [0, 1, 2, 7, 8, 10] [(7, .slice A118 ((((([] : List Int) ++ (cutL t5 0 t75)) ++ ([t41] : List Int)) ++ (cutL t5 t75 (t5.length : Int))).length) c119)] (Xr (Zp 6 [0, 1, 2, 7, 8] [(1, iC (wC (t2 + (wC (t23.length : Int)))))] (Zy 1 53 [.lp 9, .blk 0, .c 54] 3 [0, 1, 2, 7, 8] [(8, iA (wA (t6 + 1)))] (Ye (Xg 1 [.c 9, .lp 9, .blk 0, .c 54] (Vl [(0, sV pA0 p0 pc0), (1, iC (wC (t2 + (wC (t23.length : Int))))), (2, iA p2), (7, .slice A118 ((((([] : List Int) ++ (cutL t5 0 t75)) ++ ([t41] : List Int)) ++ (cutL t5 t75 (t5.length : Int))).length) c119), (8, iA (wA (t6 + 1)))] ?_))))))))
        exact ih (wC (t2 + (wC (t23.length : Int)))) (((([] : List Int) ++ (cutL t5 0 t75)) ++ ([t41] : List Int)) ++ (cutL t5 t75 (t5.length : Int))) (wA (t6 + 1)) A118 c119 w117 h (h120.pk [0, 4])
       ·refine Xq 1 52 [.blk 1, .c 53, .lp 9, .blk 0, .c 54] 6 [(0, sV pA0 p0 pc0), (1, iC (wC (t2 + (wC (t23.length : Int))))), (2, iA p2), (7, sV A3 t5 c4), (8, iA t6)] (Zy 1 53 [.lp 9, .blk 0, .c 54] 3 [0, 1, 2, 7, 8] [(8, iA (wA (t6 + 1)))] (Ye (Xg 1 [.c 9, .lp 9, .blk 0, .c 54] (Vl [(0, sV pA0 p0 pc0), (1, iC (wC (t2 + (wC (t23.length : Int))))), (2, iA p2), (7, sV A3 t5 c4), (8, iA (wA (t6 + 1)))] ?_))))
        exact ih (wC (t2 + (wC (t23.length : Int)))) t5 (wA (t6 + 1)) A3 c4 w84 h (h83.pk [0, 1])
      clear hJ86
      rcases oc h with ⟨hc78, h⟩ | ⟨hc78, h⟩
      ·refine Yf 57 true hc78 (Zp 7 [0, 1, 2, 7, 8, 10, 12, 14, 64] [(64, tB true)] (Ul [(0, sV pA0 p0 pc0), (1, iC t2), (2, iA p2), (7, sV A3 t5 c4), (8, iA t6), (10, sV A24 t23 c25), (12, iC t41), (14, iA t75), (64, tB true)] ?_))
       exact hj87 true w77 h (h76.pk [0, 1, 2])
      ·refine Yf 57 false hc78 (Zp 2 [0, 1, 2, 7, 8, 10, 12, 14, 57, 58, 59] [(58, sV A3 t5 c4), (59, iA t75)] ?_)
       have ⟨hc79, h⟩ := oz h
       refine Yo (OpE.idxOwnA 60 1 29 23 t75 h76 (by kernel_rfl) rfl (by kernel_rfl) (by kernel_rfl) hc79 (Yo (OpE.loadOwnA 61 1 23 23 t75 0 (o := (Int.toNat t75) * 1 + 0) h76 (by kernel_rfl) rfl (by kernel_rfl) (by kernel_rfl) hc79 (fun cs80 hk81 => ?_))))
       obtain rfl := hk81
       refine ⟨iC (rdD t5 t75), by kernel_rfl, ?_⟩
       refine Zp 3 [0, 1, 2, 7, 8, 10, 12, 14, 64] [(64, tB ((rdD t5 t75) != t41))] (Ul [(0, sV pA0 p0 pc0), (1, iC t2), (2, iA p2), (7, sV A3 t5 c4), (8, iA t6), (10, sV A24 t23 c25), (12, iC t41), (14, iA t75), (64, tB ((rdD t5 t75) != t41))] ?_)
       exact hj87 ((rdD t5 t75) != t41) w77 h (h76.pk [0, 1, 2])
    ·refine Xq 1 52 [.blk 1, .c 53, .lp 9, .blk 0, .c 54] 6 [(0, sV pA0 p0 pc0), (1, iC (wC (t2 + (wC (t23.length : Int))))), (2, iA p2), (7, sV A3 t5 c4), (8, iA t6)] (Zy 1 53 [.lp 9, .blk 0, .c 54] 3 [0, 1, 2, 7, 8] [(8, iA (wA (t6 + 1)))] (Ye (Xg 1 [.c 9, .lp 9, .blk 0, .c 54] (Vl [(0, sV pA0 p0 pc0), (1, iC (wC (t2 + (wC (t23.length : Int))))), (2, iA p2), (7, sV A3 t5 c4), (8, iA (wA (t6 + 1)))] ?_))))
     exact ih (wC (t2 + (wC (t23.length : Int)))) t5 (wA (t6 + 1)) A3 c4 w46 h (h45.pk [0, 1])
   clear hJ48
   rcases oc h with ⟨hc43, h⟩ | ⟨hc43, h⟩
   ·refine Yf 36 true hc43 (Zp 2 [0, 1, 2, 7, 8, 10, 12, 38] [(38, tB t42)] (Ul [(0, sV pA0 p0 pc0), (1, iC t2), (2, iA p2), (7, sV A3 t5 c4), (8, iA t6), (10, sV A24 t23 c25), (12, iC t41), (38, tB t42)] ?_))
    exact hj49 t42 w37 h (h39.pk [0, 1, 2])
   ·refine Yf 36 false hc43 (Zp 2 [0, 1, 2, 7, 8, 10, 12, 38] [(38, tB false)] (Ul [(0, sV pA0 p0 pc0), (1, iC t2), (2, iA p2), (7, sV A3 t5 c4), (8, iA t6), (10, sV A24 t23 c25), (12, iC t41), (38, tB false)] ?_))
    exact hj49 false w37 h (h39.pk [0, 1, 2])
  ·refine Xg 1 [.c 54] (Vl [(7, sV A3 t5 c4)] ?_)
   exact hk0 t5 A3 c4 w7 (sI h).symm (h9.pk [1])
def charabancref34_Targets_12.f (K : Nat) (p0 : List (Int × Int)) (p1 : Int) (p2 : Int) : Option (List Int) := (charabancref34_Targets_12.l1 K p0 p1 p2 K p1 ([] : List Int) 0).bind (fun t129 => some t129)
theorem charabancref34_Targets_12_ok (K : Nat) (M0 : Nat → Prop) (w0 : World) (pA0 : Option Addr) (pc0 : Nat) (p0 : List (Int × Int)) (p1 : Int) (p2 : Int) (ho : ∀ b, M0 b → b < w0.heap.size) (hs0 : Sl (Rp.pair rC rB) w0 M0 (sV pA0 p0 pc0) p0) {r : (List Int)} (h : charabancref34_Targets_12.f K p0 p1 p2 = some r) :
  Calls Tryz.prog 12 #[sV pA0 p0 pc0, iC p1, iA p2] w0 (charabancref34_Targets_12.post M0 w0 r) := by
 unfold charabancref34_Targets_12.f at h
 have h0 : Holds M0 w0 w0 [] := Holds.start ho
 have h00 := h0.aS hs0
 have h0 : Holds M0 w0 w0 [sl (Rp.pair rC rB) (sV pA0 p0 pc0) p0] := h00
 refine calls_of F12 rfl [sV pA0 p0 pc0, iC p1, iA p2] (by kernel_rfl) (Xq 1 1 [.c 2] 1 [(0, sV pA0 p0 pc0), (1, iC p1), (2, iA p2)] (Zy 1 3 [.c 4] 1 [0, 1, 2, 7] [(7, n0)] (Zy 2 6 [.c 7, .c 54] 1 [0, 1, 2, 7, 8] [(8, iA 0)] (Ye (Xg 2 [.c 9, .lp 9, .blk 0, .c 54] ?_)))))
 obtain ⟨x125, hx126, h⟩ := of_bind h
 have h1 := h0.addOwnNil rC 23
 refine Vl [(0, sV pA0 p0 pc0), (1, iC p1), (2, iA p2), (7, .slice none (([] : List Int).length) 0), (8, iA 0)] (charabancref34_Targets_12.l1_ok K M0 w0 pA0 pc0 p0 p1 p2 _ x125 ?_ K p1 ([] : List Int) 0 none 0 w0 hx126 (h1.pk [0, 1]))
 ·intro t129 A127 c128 w131 hq133 h130
  (try rw [hq133] at h)
  refine Xd 1 55 [.c 56] 2 [(6, sV A127 t129 c128)] (Xt (sV A127 t129 c128) ?_)
  obtain rfl := sI h
  exact ⟨A127, c128, rfl, h130.pk [0]⟩
end
end Go.Proofs.YtbcepghanbkncaaGreatDoor.LiT
