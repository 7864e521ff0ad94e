/- Functions of the program as plain Lean functions, each with the proof that the call comes to it; written by wip/eng.py. -/
import Derived.Test.YtbcepghanbkncaaGreatDoorEngShort2
import Derived.Test.YtbcepghanbkncaaGreatDoorLiL7
set_option linter.unusedVariables false
set_option linter.unusedSimpArgs false
set_option maxHeartbeats 4000000
namespace Go.Proofs.YtbcepghanbkncaaGreatDoor.LiL
open Go.RowKit Go.Eng
set_option maxRecDepth 100000
abbrev sh0 : ByteArray := ⟨#[32]⟩
abbrev sh1 : ByteArray := ⟨#[32, 32]⟩
abbrev sh2 : ByteArray := ⟨#[58]⟩
abbrev sh3 : ByteArray := ⟨#[46]⟩
section
def charabancref34_Rows_18.post (M0 : Nat → Prop) (w0 : World) (r : (List ByteArray)) : Ending → World → Prop := fun e w => ∃ (A1 : Option Addr) (c1 : Nat), e = .returned (.slice A1 r.length c1) ∧ Holds M0 w0 w [own Rp.str 9 (.slice A1 r.length c1) r]
def charabancref34_Rows_18.l0 (K : Nat) (p0 : List (Int × Int)) (p1 : Int) (p2 : Int) (t29 : Int) (t32 : List ByteArray) (t33 : Int) (t36 : List Int) : Nat → ByteArray → ByteArray → Int → Option (ByteArray × ByteArray)
 | 0, _, _, _ => none
 | k + 1, t37, t38, t39 => cond (decide (t39 < 16)) (cond (mayCat t37.size (⟨#[32]⟩ : ByteArray).size) (cond (cutR t39 (IntKind.wrap .i64 (t39 + 1)) t36.length) ((charabancref30_Digits_41.f K (cutL t36 t39 (IntKind.wrap .i64 (t39 + 1)))).bind fun t50 => cond (mayCat (t37 ++ (⟨#[32]⟩ : ByteArray)).size t50.size) (cond (inR t39 t36.length) (Let (fun (t64 : Bool) => cond t64 (cond (mayCat t38.size (strOf (cutL t36 t39 (IntKind.wrap .i64 (t39 + 1)))).size) (charabancref34_Rows_18.l0 K p0 p1 p2 t29 t32 t33 t36 k ((t37 ++ (⟨#[32]⟩ : ByteArray)) ++ t50) (t38 ++ (strOf (cutL t36 t39 (IntKind.wrap .i64 (t39 + 1))))) (IntKind.wrap .i64 (t39 + 1))) none) (cond (mayCat t38.size (⟨#[46]⟩ : ByteArray).size) (charabancref34_Rows_18.l0 K p0 p1 p2 t29 t32 t33 t36 k ((t37 ++ (⟨#[32]⟩ : ByteArray)) ++ t50) (t38 ++ (⟨#[46]⟩ : ByteArray)) (IntKind.wrap .i64 (t39 + 1))) none)) (fun j67 => cond (decide ((rdD t36 t39) ≥ 32)) (j67 (decide ((rdD t36 t39) ≤ 126))) (j67 false))) none) none) none) none) (some (t37, t38))
theorem charabancref34_Rows_18.l0_ok (K : Nat) (M0 : Nat → Prop) (w0 : World) (pA0 : Option Addr) (pc0 : Nat) (p0 : List (Int × Int)) (p1 : Int) (p2 : Int) (t29 : Int) (t32 : List ByteArray) (t33 : Int) (t36 : List Int) (A30 : Option Addr) (c31 : Nat) (A34 : Option Addr) (c35 : Nat) (R : Ending → World → Prop) (x : ByteArray × ByteArray) (hk0 : ∀ (t76 : ByteArray) (t77 : ByteArray) (w1 : World), x = (t76, t77) → Holds M0 w0 w1 [sl (Rp.pair rC rB) (sV pA0 p0 pc0) p0, own Rp.str 9 (sV A30 t32 c31) t32] → RunsI F18 [.c 44, .blk 1, .c 47, .lp 9, .blk 0, .c 48] [(0, sV pA0 p0 pc0), (1, iC t29), (2, iA p2), (7, sV A30 t32 c31), (8, iA t33), (10, tS t76), (11, tS t77)] w1 R) :
  ∀ (k : Nat) (t37 : ByteArray) (t38 : ByteArray) (t39 : Int) (w : World), charabancref34_Rows_18.l0 K p0 p1 p2 t29 t32 t33 t36 k t37 t38 t39 = some x → Holds M0 w0 w [sl (Rp.pair rC rB) (sV pA0 p0 pc0) p0, own Rp.str 9 (sV A30 t32 c31) t32, sl rB (sV A34 t36 c35) t36] → RunsI F18 [.c 28, .lp 28, .blk 2, .c 44, .blk 1, .c 47, .lp 9, .blk 0, .c 48] [(0, sV pA0 p0 pc0), (1, iC t29), (2, iA p2), (7, sV A30 t32 c31), (8, iA t33), (9, sV A34 t36 c35), (10, tS t37), (11, tS t38), (12, iA t39)] w R := by
 intro k
 induction k with
 | zero => intro t37 t38 t39 w h hH; exact absurd h (by simp [charabancref34_Rows_18.l0])
 | succ k ih =>
  intro t37 t38 t39 w h hH
  rw [charabancref34_Rows_18.l0.eq_2] at h
  refine Xg 1 [.c 29, .c 34, .lp 28, .blk 2, .c 44, .blk 1, .c 47, .lp 9, .blk 0, .c 48] (Xd 1 30 [.c 31, .c 34, .lp 28, .blk 2, .c 44, .blk 1, .c 47, .lp 9, .blk 0, .c 48] 2 [(0, sV pA0 p0 pc0), (1, iC t29), (2, iA p2), (7, sV A30 t32 c31), (8, iA t33), (9, sV A34 t36 c35), (10, tS t37), (11, tS t38), (12, iA t39), (27, tB (decide (t39 < 16)))] (Vc 27 32 33 h (fun hc40 h => ?_) fun hc40 h => ?_))
  ·refine Xg 1 [.c 34, .lp 28, .blk 2, .c 44, .blk 1, .c 47, .lp 9, .blk 0, .c 48] (Xq 3 37 [.c 38, .blk 3, .c 43, .lp 28, .blk 2, .c 44, .blk 1, .c 47, .lp 9, .blk 0, .c 48] 1 [(0, sV pA0 p0 pc0), (1, iC t29), (2, iA p2), (7, sV A30 t32 c31), (8, iA t33), (9, sV A34 t36 c35), (11, tS t38), (12, iA t39), (30, tS t37)] ?_)
   have ⟨hc41, h⟩ := oz h
   refine Yt 31 t37 sh0 hc41 (Zp 4 [0, 1, 2, 7, 8, 9, 11, 12, 31, 32, 33, 35] [(31, tS (t37 ++ sh0)), (32, sV A34 t36 c35), (33, iA t39), (35, iA (wA (t39 + 1)))] ?_)
   have ⟨hc42, h⟩ := oz h
   refine Yo (OpE.cutSl 36 2 39 (some t39) (some (wA (t39 + 1))) hH (by kernel_rfl) rfl (by kernel_rfl) (by kernel_rfl) hc42 ?_)
   intro A43 c44 h45
   obtain ⟨t50, hg49, h⟩ := of_bind h
   refine Yc 37 41 #[.slice A43 ((cutL t36 t39 (wA (t39 + 1))).length) c44] ((charabancref30_Digits_41_ok K _ w  A43 c44 (cutL t36 t39 (wA (t39 + 1))) h45.old' (h45.get 3 rfl) hg49).mono ?_)
   rintro _ w46 ⟨rfl, hb47⟩
   refine ⟨_, rfl, ?_⟩
   have h48 := h45.call hb47
   have ⟨hc51, h⟩ := oz h
   refine Yt 38 (t37 ++ sh0) t50 hc51 (Zp 1 [0, 1, 2, 7, 8, 9, 10, 11, 12] [(10, tS ((t37 ++ sh0) ++ t50))] (Zy 1 39 [.c 40, .blk 3, .c 43, .lp 28, .blk 2, .c 44, .blk 1, .c 47, .lp 9, .blk 0, .c 48] 2 [0, 1, 2, 7, 8, 9, 10, 11, 12, 39, 40] [(39, sV A34 t36 c35), (40, iA t39)] ?_))
   have ⟨hc52, h⟩ := oz h
   refine Yo (OpE.idxSl 41 2 39 t39 h48 (by kernel_rfl) rfl (by kernel_rfl) (by kernel_rfl) hc52 ?_)
   intro b53 o54 cs55 hk56 h57
   obtain rfl := hk56
   refine Yz 42 4 5 b53 o54 0 (iB (rdD t36 t39)) h57 rfl (Zp 2 [0, 1, 2, 7, 8, 9, 10, 11, 12, 44] [(44, tB (decide ((rdD t36 t39) ≥ 32)))] ?_)
   obtain ⟨j67, hJ68, h⟩ := of_let h
   have hj69 : ∀ (t64 : Bool) (w66 : World), j67 t64 = some x → Holds M0 w0 w66 [sl (Rp.pair rC rB) (sV pA0 p0 pc0) p0, own Rp.str 9 (sV A30 t32 c31) t32, sl rB (sV A34 t36 c35) t36] → RegI F18 39 [.c 40, .blk 3, .c 43, .lp 28, .blk 2, .c 44, .blk 1, .c 47, .lp 9, .blk 0, .c 48] 12 [(0, sV pA0 p0 pc0), (1, iC t29), (2, iA p2), (7, sV A30 t32 c31), (8, iA t33), (9, sV A34 t36 c35), (10, tS ((t37 ++ sh0) ++ t50)), (11, tS t38), (12, iA t39), (50, tB t64)] w66 R := by
    intro t64 w66 h h65
    rw [hJ68] at h
    clear hJ68
    dsimp only at h
    refine Ye (Vc 50 41 42 h (fun hc70 h => ?_) fun hc70 h => ?_)
    ·refine Xr (Yp 5 [(0, sV pA0 p0 pc0), (1, iC t29), (2, iA p2), (7, sV A30 t32 c31), (8, iA t33), (9, sV A34 t36 c35), (10, tS ((t37 ++ sh0) ++ t50)), (12, iA t39), (51, tS t38), (52, sV A34 t36 c35), (53, iA t39), (55, iA (wA (t39 + 1)))] (Yo (OpE.cutSl 56 2 39 (some t39) (some (wA (t39 + 1))) h65 (by kernel_rfl) rfl (by kernel_rfl) (by kernel_rfl) hc42 ?_)))
     intro A71 c72 h73
     refine Yo (OpE.run 57 (by kernel_rfl) (run_toStr (s := 39) (d := 9) (v := .slice A71 ((cutL t36 t39 (wA (t39 + 1))).length) c72) (by kernel_rfl) (by kernel_rfl) (h73.rdSl 3 rfl)) ?_)
     have ⟨hc74, h⟩ := oz h
     refine Yt 58 t38 (strOf (cutL t36 t39 (wA (t39 + 1)))) hc74 (Zp 1 [0, 1, 2, 7, 8, 9, 10, 11, 12] [(11, tS (t38 ++ (strOf (cutL t36 t39 (wA (t39 + 1))))))] (Zy 1 43 [.lp 28, .blk 2, .c 44, .blk 1, .c 47, .lp 9, .blk 0, .c 48] 3 [0, 1, 2, 7, 8, 9, 10, 11, 12] [(12, iA (wA (t39 + 1)))] (Ye (Xg 1 [.c 28, .lp 28, .blk 2, .c 44, .blk 1, .c 47, .lp 9, .blk 0, .c 48] (Vl [(0, sV pA0 p0 pc0), (1, iC t29), (2, iA p2), (7, sV A30 t32 c31), (8, iA t33), (9, sV A34 t36 c35), (10, tS ((t37 ++ sh0) ++ t50)), (11, tS (t38 ++ (strOf (cutL t36 t39 (wA (t39 + 1)))))), (12, iA (wA (t39 + 1)))] ?_)))))
     exact ih ((t37 ++ sh0) ++ t50) (t38 ++ (strOf (cutL t36 t39 (wA (t39 + 1))))) (wA (t39 + 1)) w66 h (h73.pk [0, 1, 2])
    ·refine Xr (Yp 1 [(0, sV pA0 p0 pc0), (1, iC t29), (2, iA p2), (7, sV A30 t32 c31), (8, iA t33), (9, sV A34 t36 c35), (10, tS ((t37 ++ sh0) ++ t50)), (12, iA t39), (59, tS t38)] ?_)
     have ⟨hc75, h⟩ := oz h
     refine Yt 60 t38 sh3 hc75 (Zp 1 [0, 1, 2, 7, 8, 9, 10, 11, 12] [(11, tS (t38 ++ sh3))] (Zy 1 43 [.lp 28, .blk 2, .c 44, .blk 1, .c 47, .lp 9, .blk 0, .c 48] 3 [0, 1, 2, 7, 8, 9, 10, 11, 12] [(12, iA (wA (t39 + 1)))] (Ye (Xg 1 [.c 28, .lp 28, .blk 2, .c 44, .blk 1, .c 47, .lp 9, .blk 0, .c 48] (Vl [(0, sV pA0 p0 pc0), (1, iC t29), (2, iA p2), (7, sV A30 t32 c31), (8, iA t33), (9, sV A34 t36 c35), (10, tS ((t37 ++ sh0) ++ t50)), (11, tS (t38 ++ sh3)), (12, iA (wA (t39 + 1)))] ?_)))))
     exact ih ((t37 ++ sh0) ++ t50) (t38 ++ sh3) (wA (t39 + 1)) w66 h (h65.pk [0, 1, 2])
   clear hJ68
   rcases oc h with ⟨hc58, h⟩ | ⟨hc58, h⟩
   ·refine Yf 44 true hc58 (Zp 2 [0, 1, 2, 7, 8, 9, 10, 11, 12, 44, 45, 46] [(45, sV A34 t36 c35), (46, iA t39)] (Yo (OpE.idxSl 47 2 39 t39 h57 (by kernel_rfl) rfl (by kernel_rfl) (by kernel_rfl) hc52 ?_)))
    intro b59 o60 cs61 hk62 h63
    obtain rfl := hk62
    refine Yz 48 5 5 b59 o60 0 (iB (rdD t36 t39)) h63 rfl (Zp 2 [0, 1, 2, 7, 8, 9, 10, 11, 12, 50] [(50, tB (decide ((rdD t36 t39) ≤ 126)))] (Ul [(0, sV pA0 p0 pc0), (1, iC t29), (2, iA p2), (7, sV A30 t32 c31), (8, iA t33), (9, sV A34 t36 c35), (10, tS ((t37 ++ sh0) ++ t50)), (11, tS t38), (12, iA t39), (50, tB (decide ((rdD t36 t39) ≤ 126)))] ?_))
    exact hj69 (decide ((rdD t36 t39) ≤ 126)) w46 h (h63.pk [0, 1, 2])
   ·refine Yf 44 false hc58 (Zp 6 [0, 1, 2, 7, 8, 9, 10, 11, 12, 50] [(50, tB false)] (Ul [(0, sV pA0 p0 pc0), (1, iC t29), (2, iA p2), (7, sV A30 t32 c31), (8, iA t33), (9, sV A34 t36 c35), (10, tS ((t37 ++ sh0) ++ t50)), (11, tS t38), (12, iA t39), (50, tB false)] ?_))
    exact hj69 false w46 h (h57.pk [0, 1, 2])
  ·refine Xg 1 [.c 44, .blk 1, .c 47, .lp 9, .blk 0, .c 48] (Vl [(0, sV pA0 p0 pc0), (1, iC t29), (2, iA p2), (7, sV A30 t32 c31), (8, iA t33), (10, tS t37), (11, tS t38)] ?_)
   exact hk0 t37 t38 w (sI h).symm (hH.pk [0, 1])
def charabancref34_Rows_18.l1 (K : Nat) (p0 : List (Int × Int)) (p1 : Int) (p2 : Int) : Nat → Int → (List ByteArray) → Int → Option (List ByteArray)
 | 0, _, _, _ => none
 | k + 1, t2, t5, t6 => (charabancref34_many_32.f K p2).bind fun t11 => cond (decide (t6 < t11)) ((charabancref14_Dump_22.f K p0 t2 16).bind fun t17 => (charabancref09_Hex_43.f K (IntKind.wrap .i64 t2) 4).bind fun t26 => cond (mayCat t26.size (⟨#[58]⟩ : ByteArray).size) ((charabancref34_Rows_18.l0 K p0 p1 p2 t2 t5 t6 t17 K (t26 ++ (⟨#[58]⟩ : ByteArray)) (⟨#[]⟩ : ByteArray) 0).bind (fun yx78 => cond (mayCat yx78.1.size (⟨#[32, 32]⟩ : ByteArray).size) (cond (mayCat (yx78.1 ++ (⟨#[32, 32]⟩ : ByteArray)).size yx78.2.size) (cond (mayBe (t5.length + ([((yx78.1 ++ (⟨#[32, 32]⟩ : ByteArray)) ++ yx78.2)] : List ByteArray).length) 16) (charabancref34_Rows_18.l1 K p0 p1 p2 k (IntKind.wrap .u16 (t2 + 16)) (t5 ++ ([((yx78.1 ++ (⟨#[32, 32]⟩ : ByteArray)) ++ yx78.2)] : List ByteArray)) (IntKind.wrap .i64 (t6 + 1))) none) none) none)) none) (some t5)
theorem charabancref34_Rows_18.l1_ok (K : Nat) (M0 : Nat → Prop) (w0 : World) (pA0 : Option Addr) (pc0 : Nat) (p0 : List (Int × Int)) (p1 : Int) (p2 : Int) (R : Ending → World → Prop) (x : (List ByteArray)) (hk0 : ∀ (t99 : List ByteArray) (A97 : Option Addr) (c98 : Nat) (w1 : World), x = t99 → Holds M0 w0 w1 [own Rp.str 9 (sV A97 t99 c98) t99] → RunsI F18 [.c 48] [(7, sV A97 t99 c98)] w1 R) :
  ∀ (k : Nat) (t2 : Int) (t5 : List ByteArray) (t6 : Int) (A3 : Option Addr) (c4 : Nat) (w : World), charabancref34_Rows_18.l1 K p0 p1 p2 k t2 t5 t6 = some x → Holds M0 w0 w [sl (Rp.pair rC rB) (sV pA0 p0 pc0) p0, own Rp.str 9 (sV A3 t5 c4) t5] → RunsI F18 [.c 9, .lp 9, .blk 0, .c 48] [(0, sV pA0 p0 pc0), (1, iC t2), (2, iA p2), (7, sV A3 t5 c4), (8, iA t6)] w R := by
 intro k
 induction k with
 | zero => intro t2 t5 t6 A3 c4 w h hH; exact absurd h (by simp [charabancref34_Rows_18.l1])
 | succ k ih =>
  intro t2 t5 t6 A3 c4 w h hH
  rw [charabancref34_Rows_18.l1.eq_2] at h
  refine Xg 1 [.c 10, .c 15, .lp 9, .blk 0, .c 48] (Xq 1 11 [.c 12, .c 15, .lp 9, .blk 0, .c 48] 2 [(0, sV pA0 p0 pc0), (1, iC t2), (2, iA p2), (7, sV A3 t5 c4), (8, iA t6), (13, iA t6), (14, iA p2)] ?_)
  obtain ⟨t11, hg10, h⟩ := of_bind h
  refine Yc 15 32 #[iA p2] ((charabancref34_many_32_ok K _ w  p2 hH.old' hg10).mono ?_)
  rintro _ w7 ⟨rfl, hb8⟩
  refine ⟨_, rfl, ?_⟩
  have h9 := hH.call hb8
  refine Zd 1 [0, 1, 2, 7, 8, 16] [(16, tB (decide (t6 < t11)))] (Vc 16 13 14 h (fun hc12 h => ?_) fun hc12 h => ?_)
  ·refine Xg 1 [.c 15, .lp 9, .blk 0, .c 48] (Xq 3 18 [.c 19, .blk 1, .c 47, .lp 9, .blk 0, .c 48] 2 [(0, sV pA0 p0 pc0), (1, iC t2), (2, iA p2), (7, sV A3 t5 c4), (8, iA t6), (19, sV pA0 p0 pc0), (20, iC t2)] ?_)
   obtain ⟨t17, hg16, h⟩ := of_bind h
   refine Yc 21 22 #[sV pA0 p0 pc0, iC t2, iA 16] ((charabancref14_Dump_22_ok K _ w7  pA0 pc0 p0 t2 16 h9.old' (h9.get 0 rfl) hg16).mono ?_)
   rintro _ w13 ⟨A18, c19, rfl, hr21⟩
   refine ⟨_, rfl, ?_⟩
   have hb14 := hr21.below
   have h15 := h9.join hr21
   refine Zp 1 [0, 1, 2, 7, 8, 9] [(9, sV A18 t17 c19)] (Zy 1 20 [.c 21, .blk 1, .c 47, .lp 9, .blk 0, .c 48] 2 [0, 1, 2, 7, 8, 9, 23] [(23, iA (wA t2))] ?_)
   obtain ⟨t26, hg25, h⟩ := of_bind h
   refine Yc 24 43 #[iA (wA t2), iA 4] ((charabancref09_Hex_43_ok K _ w13  (wA t2) 4 h15.old' hg25).mono ?_)
   rintro _ w22 ⟨rfl, hb23⟩
   refine ⟨_, rfl, ?_⟩
   have h24 := h15.call hb23
   have ⟨hc27, h⟩ := oz h
   refine Yt 25 t26 sh2 hc27 (Zp 1 [0, 1, 2, 7, 8, 9, 10] [(10, tS (t26 ++ sh2))] (Zy 1 22 [.c 23, .blk 1, .c 47, .lp 9, .blk 0, .c 48] 1 [0, 1, 2, 7, 8, 9, 10, 11] [(11, tS (⟨#[]⟩ : ByteArray))] (Zy 2 25 [.c 26, .c 44, .blk 1, .c 47, .lp 9, .blk 0, .c 48] 1 [0, 1, 2, 7, 8, 9, 10, 11, 12] [(12, iA 0)] (Ye (Xg 2 [.c 28, .lp 28, .blk 2, .c 44, .blk 1, .c 47, .lp 9, .blk 0, .c 48] ?_)))))
   obtain ⟨x78, hx79, h⟩ := of_bind h
   have h28 := h24.release 2 rfl
   refine Vl [(0, sV pA0 p0 pc0), (1, iC t2), (2, iA p2), (7, sV A3 t5 c4), (8, iA t6), (9, sV A18 t17 c19), (10, tS (t26 ++ sh2)), (11, tS (⟨#[]⟩ : ByteArray)), (12, iA 0)] (charabancref34_Rows_18.l0_ok K M0 w0 pA0 pc0 p0 p1 p2 t2 t5 t6 t17 A3 c4 A18 c19 _ x78 ?_ K (t26 ++ sh2) (⟨#[]⟩ : ByteArray) 0 w22 hx79 (h28.pk [0, 1, 2]))
   ·intro t80 t81 w83 hq107 h82
    (try rw [hq107] at h)
    dsimp only at h
    refine Xq 1 45 [.c 46, .blk 1, .c 47, .lp 9, .blk 0, .c 48] 2 [(0, sV pA0 p0 pc0), (1, iC t2), (2, iA p2), (8, iA t6), (11, tS t81), (61, sV A3 t5 c4), (62, tS t80)] ?_
    have ⟨hc84, h⟩ := oz h
    refine Yt 63 t80 sh1 hc84 (Zp 1 [0, 1, 2, 8, 61, 63, 64] [(63, tS (t80 ++ sh1)), (64, tS t81)] ?_)
    have ⟨hc85, h⟩ := oz h
    refine Yt 65 (t80 ++ sh1) t81 hc85 (Yo (OpE.lit 66 9 [tS ((t80 ++ sh1) ++ t81)] 1 h82 (by kernel_rfl) (by kernel_rfl) ?_))
    intro w86 b87 h88 hb89 hn90
    have ⟨hc91, h⟩ := oz h
    refine Yo (OpE.appendBox 67 1 2 34 9 16 ([((t80 ++ sh1) ++ t81)] : List ByteArray) 0 h88 (by kernel_rfl) (by kernel_rfl) (by kernel_rfl) rfl rfl rfl (cells_str _ _ _) hc91 ?_)
    intro w92 A93 c94 h95 hk96
    refine Zd 1 [0, 1, 2, 7, 8] [(7, .slice A93 ((t5 ++ ([((t80 ++ sh1) ++ t81)] : List ByteArray)).length) c94)] (Xr (Zp 3 [0, 1, 2, 7, 8] [(1, iC (wC (t2 + 16)))] (Zy 1 47 [.lp 9, .blk 0, .c 48] 3 [0, 1, 2, 7, 8] [(8, iA (wA (t6 + 1)))] (Ye (Xg 1 [.c 9, .lp 9, .blk 0, .c 48] (Vl [(0, sV pA0 p0 pc0), (1, iC (wC (t2 + 16))), (2, iA p2), (7, .slice A93 ((t5 ++ ([((t80 ++ sh1) ++ t81)] : List ByteArray)).length) c94), (8, iA (wA (t6 + 1)))] ?_))))))
    exact ih (wC (t2 + 16)) (t5 ++ ([((t80 ++ sh1) ++ t81)] : List ByteArray)) (wA (t6 + 1)) A93 c94 w92 h (h95.pk [0, 1])
  ·refine Xg 1 [.c 48] (Vl [(7, sV A3 t5 c4)] ?_)
   exact hk0 t5 A3 c4 w7 (sI h).symm (h9.pk [1])
def charabancref34_Rows_18.f (K : Nat) (p0 : List (Int × Int)) (p1 : Int) (p2 : Int) : Option (List ByteArray) := (charabancref34_Rows_18.l1 K p0 p1 p2 K p1 ([] : List ByteArray) 0).bind (fun t104 => some t104)
theorem charabancref34_Rows_18_ok (K : Nat) (M0 : Nat → Prop) (w0 : World) (pA0 : Option Addr) (pc0 : Nat) (p0 : List (Int × Int)) (p1 : Int) (p2 : Int) (ho : ∀ b, M0 b → b < w0.heap.size) (hs0 : Sl (Rp.pair rC rB) w0 M0 (sV pA0 p0 pc0) p0) {r : (List ByteArray)} (h : charabancref34_Rows_18.f K p0 p1 p2 = some r) :
  Calls Tryz.prog 18 #[sV pA0 p0 pc0, iC p1, iA p2] w0 (charabancref34_Rows_18.post M0 w0 r) := by
 unfold charabancref34_Rows_18.f at h
 have h0 : Holds M0 w0 w0 [] := Holds.start ho
 have h00 := h0.aS hs0
 have h0 : Holds M0 w0 w0 [sl (Rp.pair rC rB) (sV pA0 p0 pc0) p0] := h00
 refine calls_of F18 rfl [sV pA0 p0 pc0, iC p1, iA p2] (by kernel_rfl) (Xq 1 1 [.c 2] 1 [(0, sV pA0 p0 pc0), (1, iC p1), (2, iA p2)] (Zy 1 3 [.c 4] 1 [0, 1, 2, 7] [(7, n0)] (Zy 2 6 [.c 7, .c 48] 1 [0, 1, 2, 7, 8] [(8, iA 0)] (Ye (Xg 2 [.c 9, .lp 9, .blk 0, .c 48] ?_)))))
 obtain ⟨x100, hx101, h⟩ := of_bind h
 have h1 := h0.addOwnNil Rp.str 9
 refine Vl [(0, sV pA0 p0 pc0), (1, iC p1), (2, iA p2), (7, .slice none (([] : List ByteArray).length) 0), (8, iA 0)] (charabancref34_Rows_18.l1_ok K M0 w0 pA0 pc0 p0 p1 p2 _ x100 ?_ K p1 ([] : List ByteArray) 0 none 0 w0 hx101 (h1.pk [0, 1]))
 ·intro t104 A102 c103 w106 hq108 h105
  (try rw [hq108] at h)
  refine Xd 1 49 [.c 50] 2 [(6, sV A102 t104 c103)] (Xt (sV A102 t104 c103) ?_)
  obtain rfl := sI h
  exact ⟨A102, c103, rfl, h105.pk [0]⟩
end

section
def charabancref34_Next_19.post (M0 : Nat → Prop) (w0 : World) (r : Int) : Ending → World → Prop := fun e w => e = .returned (.int .u16 r) ∧ Below w0.heap.size w0 w
def charabancref34_Next_19.l0 (K : Nat) (p0 : List (Int × Int)) (p1 : Int) (p2 : Int) : Nat → Int → Int → Option Int
 | 0, _, _ => none
 | k + 1, t1, t2 => (charabancref34_many_32.f K p2).bind fun t7 => cond (decide (t2 < t7)) ((charabancref34_at_33.f K p0 t1).bind fun yt13 => charabancref34_Next_19.l0 K p0 p1 p2 k (IntKind.wrap .u16 (t1 + (IntKind.wrap .u16 (yt13.2.2.2.2.2.2.1.length : Int)))) (IntKind.wrap .i64 (t2 + 1))) (some t1)
theorem charabancref34_Next_19.l0_ok (K : Nat) (M0 : Nat → Prop) (w0 : World) (pA0 : Option Addr) (pc0 : Nat) (p0 : List (Int × Int)) (p1 : Int) (p2 : Int) (R : Ending → World → Prop) (x : Int) (hk0 : ∀ (t33 : Int) (w1 : World), x = t33 → Holds M0 w0 w1 [] → RunsI F19 [.c 19] [(1, iC t33)] w1 R) :
  ∀ (k : Nat) (t1 : Int) (t2 : Int) (w : World), charabancref34_Next_19.l0 K p0 p1 p2 k t1 t2 = some x → Holds M0 w0 w [sl (Rp.pair rC rB) (sV pA0 p0 pc0) p0] → RunsI F19 [.c 7, .lp 7, .blk 0, .c 19] [(0, sV pA0 p0 pc0), (1, iC t1), (2, iA p2), (7, iA t2)] w R := by
 intro k
 induction k with
 | zero => intro t1 t2 w h hH; exact absurd h (by simp [charabancref34_Next_19.l0])
 | succ k ih =>
  intro t1 t2 w h hH
  rw [charabancref34_Next_19.l0.eq_2] at h
  refine Xg 1 [.c 8, .c 13, .lp 7, .blk 0, .c 19] (Xq 1 9 [.c 10, .c 13, .lp 7, .blk 0, .c 19] 2 [(0, sV pA0 p0 pc0), (1, iC t1), (2, iA p2), (7, iA t2), (11, iA t2), (12, iA p2)] ?_)
  obtain ⟨t7, hg6, h⟩ := of_bind h
  refine Yc 13 32 #[iA p2] ((charabancref34_many_32_ok K _ w  p2 hH.old' hg6).mono ?_)
  rintro _ w3 ⟨rfl, hb4⟩
  refine ⟨_, rfl, ?_⟩
  have h5 := hH.call hb4
  refine Zd 1 [0, 1, 2, 7, 14] [(14, tB (decide (t2 < t7)))] (Vc 14 11 12 h (fun hc8 h => ?_) fun hc8 h => ?_)
  ·refine Xg 1 [.c 13, .lp 7, .blk 0, .c 19] (Xq 3 16 [.c 17, .blk 1, .c 18, .lp 7, .blk 0, .c 19] 2 [(0, sV pA0 p0 pc0), (1, iC t1), (2, iA p2), (7, iA t2), (18, sV pA0 p0 pc0), (19, iC t1)] ?_)
   obtain ⟨⟨t13, t14, t15, t16, t17, t18, t19, t23⟩, hg12, h⟩ := of_bind h
   dsimp only at h
   refine Yc 20 33 #[sV pA0 p0 pc0, iC t1] ((charabancref34_at_33_ok K _ w3  pA0 pc0 p0 t1 h5.old' (h5.get 0 rfl) hg12).mono ?_)
   rintro _ w9 ⟨A20, c21, rfl, hr24⟩
   refine ⟨_, rfl, ?_⟩
   have hb10 := hr24.below
   have h11 := h5.join hr24
   refine Zp 4 [0, 1, 2, 7, 21, 22, 23] [(21, .agg #[iA t13, iB t14, iB t15, iC t16, iA t17, iA t18]), (22, sV A20 t19 c21), (23, tB t23)] (Yx 8 25 [iA 0, iB 0, iB 0, iC 0, iA 0, iA 0] h11 ?_)
   intro w25 b26 h27 hb28 hn29
   refine Yb 2 25 b26 0 (.agg #[iA t13, iB t14, iB t15, iC t16, iA t17, iA t18]) [iA t13, iB t14, iB t15, iC t16, iA t17, iA t18] h27 rfl ?_
   intro w30 h31 hk32
   refine Zd 2 [0, 1, 2, 7, 9] [(9, sV A20 t19 c21)] (Xr (Zp 6 [0, 1, 2, 7] [(1, iC (wC (t1 + (wC (t19.length : Int)))))] (Zy 1 18 [.lp 7, .blk 0, .c 19] 3 [0, 1, 2, 7] [(7, iA (wA (t2 + 1)))] (Ye (Xg 1 [.c 7, .lp 7, .blk 0, .c 19] (Vl [(0, sV pA0 p0 pc0), (1, iC (wC (t1 + (wC (t19.length : Int))))), (2, iA p2), (7, iA (wA (t2 + 1)))] ?_))))))
   exact ih (wC (t1 + (wC (t19.length : Int)))) (wA (t2 + 1)) w30 h (h31.pk [0])
  ·refine Xg 1 [.c 19] (Vl [(1, iC t1)] ?_)
   exact hk0 t1 w3 (sI h).symm (h5.pk [])
def charabancref34_Next_19.f (K : Nat) (p0 : List (Int × Int)) (p1 : Int) (p2 : Int) : Option Int := (charabancref34_Next_19.l0 K p0 p1 p2 K p1 0).bind (fun t36 => some t36)
theorem charabancref34_Next_19_ok (K : Nat) (M0 : Nat → Prop) (w0 : World) (pA0 : Option Addr) (pc0 : Nat) (p0 : List (Int × Int)) (p1 : Int) (p2 : Int) (ho : ∀ b, M0 b → b < w0.heap.size) (hs0 : Sl (Rp.pair rC rB) w0 M0 (sV pA0 p0 pc0) p0) {r : Int} (h : charabancref34_Next_19.f K p0 p1 p2 = some r) :
  Calls Tryz.prog 19 #[sV pA0 p0 pc0, iC p1, iA p2] w0 (charabancref34_Next_19.post M0 w0 r) := by
 unfold charabancref34_Next_19.f at h
 have h0 : Holds M0 w0 w0 [] := Holds.start ho
 have h00 := h0.aS hs0
 have h0 : Holds M0 w0 w0 [sl (Rp.pair rC rB) (sV pA0 p0 pc0) p0] := h00
 refine calls_of F19 rfl [sV pA0 p0 pc0, iC p1, iA p2] (by kernel_rfl) (Xq 1 1 [.c 2] 1 [(0, sV pA0 p0 pc0), (1, iC p1), (2, iA p2)] (Zy 2 4 [.c 5, .c 19] 1 [0, 1, 2, 7] [(7, iA 0)] (Ye (Xg 2 [.c 7, .lp 7, .blk 0, .c 19] ?_))))
 obtain ⟨x34, hx35, h⟩ := of_bind h
 refine Vl [(0, sV pA0 p0 pc0), (1, iC p1), (2, iA p2), (7, iA 0)] (charabancref34_Next_19.l0_ok K M0 w0 pA0 pc0 p0 p1 p2 _ x34 ?_ K p1 0 w0 hx35 (h0.pk [0]))
 ·intro t36 w38 hq39 h37
  (try rw [hq39] at h)
  refine Xd 1 20 [.c 21] 2 [(6, iC t36)] ?_
  obtain rfl := sI h
  exact Xt (iC t36) ⟨rfl, h37.below⟩
end
end Go.Proofs.YtbcepghanbkncaaGreatDoor.LiL
