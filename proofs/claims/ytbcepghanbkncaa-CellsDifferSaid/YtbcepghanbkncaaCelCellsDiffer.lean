/- The statement's function CellsDiffer as a plain Lean function; written by wip/eng.py. -/
import Derived.Test.YtbcepghanbkncaaCel2
set_option linter.unusedVariables false
set_option linter.unusedSimpArgs false
set_option maxHeartbeats 4000000
namespace Go.Proofs.Ytbcepghanbkncaa.Cel
open Go.RowKit Go.Eng
noncomputable def B5 : Code := (Try.f5.body).getD .skip
noncomputable def F5 : Fun Try.prog := ⟨5, Try.f5, B5, 71, Try.func5, by kernel_rfl, by kernel_rfl, [], none⟩

/-! ### charabanc/charabanclaw14.CellsDiffer (function 5) -/
section
def charabanclaw14_CellsDiffer_5.post (M0 : Nat → Prop) (w0 : World) (r : Bool) : Ending → World → Prop := fun e w => e = .returned (.bool r) ∧ Below w0.heap.size w0 w
def charabanclaw14_CellsDiffer_5.l0 (K : Nat) (p0 : List (Int × Int)) (p1 : List (Int × Int)) (t50 : List (Int × Int)) : Nat → (List (Int × Int)) → Int → Option (List (Int × Int))
 | 0, _, _ => none
 | k + 1, t53, t54 => cond (decide (t54 < (t50.length : Int))) (cond (inR t54 t50.length) ((cells_Put_15.f K t53 ((rdD t50 t54).1) ((rdD t50 t54).2)).bind fun t79 => charabanclaw14_CellsDiffer_5.l0 K p0 p1 t50 k t79 (IntKind.wrap .i64 (t54 + 1))) none) (some t53)
set_option maxRecDepth 100000 in
theorem charabanclaw14_CellsDiffer_5.l0_ok (K : Nat) (M0 : Nat → Prop) (w0 : World) (pA0 : Option Addr) (pc0 : Nat) (pA1 : Option Addr) (pc1 : Nat) (p0 : List (Int × Int)) (p1 : List (Int × Int)) (t50 : List (Int × Int)) (A48 : Option Addr) (c49 : Nat) (R : Ending → World → Prop) (x : (List (Int × Int))) (hk0 : ∀ (t90 : List (Int × Int)) (A88 : Option Addr) (c89 : Nat) (w1 : World), x = t90 → Holds M0 w0 w1 [sl (Rp.pair (Rp.int .u16) (Rp.int .u8)) (.slice pA0 p0.length pc0) p0, sl (Rp.pair (Rp.int .u16) (Rp.int .u8)) (.slice pA1 p1.length pc1) p1, sl (Rp.pair (Rp.int .u16) (Rp.int .u8)) (.slice A88 t90.length c89) t90] → RunsI F5 [.c 47] [(0, .slice pA0 p0.length pc0), (1, .slice pA1 p1.length pc1), (7, .slice A88 t90.length c89)] w1 R) :
  ∀ (k : Nat) (t53 : List (Int × Int)) (t54 : Int) (A51 : Option Addr) (c52 : Nat) (w : World), charabanclaw14_CellsDiffer_5.l0 K p0 p1 t50 k t53 t54 = some x → Holds M0 w0 w [sl (Rp.pair (Rp.int .u16) (Rp.int .u8)) (.slice pA0 p0.length pc0) p0, sl (Rp.pair (Rp.int .u16) (Rp.int .u8)) (.slice pA1 p1.length pc1) p1, sl (Rp.pair (Rp.int .u16) (Rp.int .u8)) (.slice A48 t50.length c49) t50, sl (Rp.pair (Rp.int .u16) (Rp.int .u8)) (.slice A51 t53.length c52) t53] → RunsI F5 [.c 37, .lp 37, .blk 0, .c 47] [(0, .slice pA0 p0.length pc0), (1, .slice pA1 p1.length pc1), (6, .slice A48 t50.length c49), (7, .slice A51 t53.length c52), (8, .int .i64 t54)] w R := by
 intro k
 induction k with
 | zero => intro t53 t54 A51 c52 w h hH; exact absurd h (by simp [charabanclaw14_CellsDiffer_5.l0])
 | succ k ih =>
  intro t53 t54 A51 c52 w h hH
  rw [charabanclaw14_CellsDiffer_5.l0.eq_2] at h
  refine RunsI.g 1 [.c 38, .c 43, .lp 37, .blk 0, .c 47] ?_
  refine RunsI.g 1 [.c 39, .c 40, .c 43, .lp 37, .blk 0, .c 47] ?_
  refine RunsI.r ?_
  refine RegI.p 4 [(0, .slice pA0 p0.length pc0), (1, .slice pA1 p1.length pc1), (6, .slice A48 t50.length c49), (7, .slice A51 t53.length c52), (8, .int .i64 t54), (34, .bool (decide (t54 < (t50.length : Int))))] ?_
  refine RegI.d ?_
  rcases of_cond h with ⟨hc55, h⟩ | ⟨hc55, h⟩
  ·skip
   refine RunsI.f 34 true hc55 ?_
   refine RunsI.b true 41 ?_
   refine RunsI.g 1 [.c 43, .lp 37, .blk 0, .c 47] ?_
   refine RunsI.g 2 [.c 45, .blk 1, .c 46, .lp 37, .blk 0, .c 47] ?_
   refine RunsI.any 13 (by kernel_rfl) (by kernel_rfl) (by kernel_rfl) (Kp ([] : List Nat) (World.drew w)) ?_
   have h57 := hH.drew
   generalize World.drew w = w56 at h57 ⊢
   have hS58 := Kp.refl ([] : List Nat) w56
   refine AnyE.pure 0 37 (.slice A51 t53.length c52) (by kernel_rfl) hS58 (fun _ => by kernel_rfl) ?_
   refine AnyE.pure 1 38 (.slice A48 t50.length c49) (by kernel_rfl) hS58 (fun _ => by kernel_rfl) ?_
   refine AnyE.pure 2 39 (.int .i64 t54) (by kernel_rfl) hS58 (fun _ => by kernel_rfl) ?_
   obtain ⟨hc60, h⟩ := of_cond0 h
   refine AnyE.idxSl 3 40 2 22 t54 h57 (by kernel_rfl) hS58 rfl (by kernel_rfl) (by kernel_rfl) hc60 ?_
   intro b61 o62 cs63 hk64 h65
   obtain ⟨_, _, rfl, rfl, rfl⟩ := hk64
   refine AnyE.pure 4 41 (.pointer (some ⟨b61, o62, none⟩)) (by kernel_rfl) hS58 (fun _ => by kernel_rfl) ?_
   refine AnyE.loadCel 5 42 4 23 b61 o62 0 (.int .u16 ((rdD t50 t54).1)) [] h65 rfl (by kernel_rfl) hS58 rfl rfl (by kernel_rfl) (by kernel_rfl) ?_
   refine AnyE.pure 6 43 (.slice A48 t50.length c49) (by kernel_rfl) hS58 (fun _ => by kernel_rfl) ?_
   refine AnyE.pure 7 44 (.int .i64 t54) (by kernel_rfl) hS58 (fun _ => by kernel_rfl) ?_
   refine AnyE.idxSl 8 45 2 22 t54 h65 (by kernel_rfl) hS58 rfl (by kernel_rfl) (by kernel_rfl) hc60 ?_
   intro b66 o67 cs68 hk69 h70
   obtain ⟨_, _, rfl, rfl, rfl⟩ := hk69
   refine AnyE.pure 9 46 (.pointer (some ⟨b66, o67 + 1, none⟩)) (by kernel_rfl) hS58 (fun _ => by kernel_rfl) ?_
   refine AnyE.loadCel 10 47 5 5 b66 o67 1 (.int .u8 ((rdD t50 t54).2)) [] h70 rfl (by kernel_rfl) hS58 rfl rfl (by kernel_rfl) (by kernel_rfl) ?_
   refine AnyE.one 11 (by kernel_rfl) (fun w71 hu72 => ?_)
   have h73 := h70.call hu72
   have hS74 := hS58.up hu72
   obtain ⟨t79, hg78, h⟩ := of_bind h
   refine OpE.call 48 (by kernel_rfl) 15 #[.slice A51 t53.length c52, .int .u16 ((rdD t50 t54).1), .int .u8 ((rdD t50 t54).2)] (by kernel_rfl) ((cells_Put_15_ok K _ w71  A51 c52 t53 ((rdD t50 t54).1) ((rdD t50 t54).2) h73.old' (h73.get 3 rfl) hg78).mono ?_)
   rintro _ w75 ⟨A80, c81, rfl, hr83⟩
   refine ⟨_, rfl, ?_⟩
   have hb76 := hr83.below
   have h77 := h73.join hr83
   have hS84 := hS74.up hb76
   refine ⟨hS84, ?_⟩
   refine AnyE.pure 12 7 (.slice A80 t79.length c81) (by kernel_rfl) hS84 (fun _ => by kernel_rfl) ?_
   refine AnyE.done (by kernel_rfl) (fun w85 hu86 => ?_)
   have h87 := h77.call hu86
   refine RunsI.l [0, 1, 6, 7, 8] [(0, .slice pA0 p0.length pc0), (1, .slice pA1 p1.length pc1), (6, .slice A48 t50.length c49), (7, .slice A80 t79.length c81), (8, .int .i64 t54)] ?_
   refine RunsI.g 1 [.c 46, .lp 37, .blk 0, .c 47] ?_
   refine RunsI.r ?_
   refine RegI.p 3 [(0, .slice pA0 p0.length pc0), (1, .slice pA1 p1.length pc1), (6, .slice A48 t50.length c49), (7, .slice A80 t79.length c81), (8, .int .i64 (IntKind.wrap .i64 (t54 + 1)))] ?_
   refine RegI.d ?_
   refine RunsI.g 1 [.c 37, .lp 37, .blk 0, .c 47] ?_
   refine RunsI.l [0, 1, 6, 7, 8] [(0, .slice pA0 p0.length pc0), (1, .slice pA1 p1.length pc1), (6, .slice A48 t50.length c49), (7, .slice A80 t79.length c81), (8, .int .i64 (IntKind.wrap .i64 (t54 + 1)))] ?_
   exact ih t79 (IntKind.wrap .i64 (t54 + 1)) A80 c81 w85 h (h87.pick [0, 1, 2, 6] (by decide))
  ·skip
   refine RunsI.f 34 false hc55 ?_
   refine RunsI.b false 42 ?_
   refine RunsI.g 1 [.c 47] ?_
   refine RunsI.l [0, 1, 7] [(0, .slice pA0 p0.length pc0), (1, .slice pA1 p1.length pc1), (7, .slice A51 t53.length c52)] ?_
   exact hk0 t53 A51 c52 w (Option.some.inj h).symm (hH.pick [0, 1, 3] (by decide))
def charabanclaw14_CellsDiffer_5.f (K : Nat) (p0 : List (Int × Int)) (p1 : List (Int × Int)) : Option Bool := (charabanclaw14_awake_7.f K).bind fun t5 => cond (!t5) (some false) (Let (fun (t8 : Bool) => cond t8 (some true) ((cells_Diff_21.f K p0 p1).bind fun t19 => (charabancref14_Diff_22.f K p0 p1).bind fun t28 => (charabancref14_Same_10.f K t19 t28).bind fun t37 => cond (!t37) (some false) ((cells_Make_11.f K p0).bind fun t43 => (charabanclaw14_CellsDiffer_5.l0 K p0 p1 t19 K t43 0).bind (fun t95 => (cells_Make_11.f K p1).bind fun t102 => (charabancref14_Same_10.f K t95 t102).bind fun t111 => cond t111 ((cells_Diff_21.f K p0 p0).bind fun t117 => cond ((t117.length : Int) == 0) ((cells_Diff_21.f K p0 p1).bind fun t127 => (cells_Diff_21.f K p1 p0).bind fun t136 => some ((t127.length : Int) == (t136.length : Int))) (some false)) (some false))))) (fun j11 => cond (decide ((p0.length : Int) > 40)) (j11 true) (j11 (decide ((p1.length : Int) > 40)))))
set_option maxRecDepth 100000 in
theorem charabanclaw14_CellsDiffer_5_ok (K : Nat) (M0 : Nat → Prop) (w0 : World) (pA0 : Option Addr) (pc0 : Nat) (pA1 : Option Addr) (pc1 : Nat) (p0 : List (Int × Int)) (p1 : List (Int × Int)) (ho : ∀ b, M0 b → b < w0.heap.size) (hs0 : Sl (Rp.pair (Rp.int .u16) (Rp.int .u8)) w0 M0 (.slice pA0 p0.length pc0) p0) (hs1 : Sl (Rp.pair (Rp.int .u16) (Rp.int .u8)) w0 M0 (.slice pA1 p1.length pc1) p1) {r : Bool} (h : charabanclaw14_CellsDiffer_5.f K p0 p1 = some r) :
  Calls Try.prog 5 #[.slice pA0 p0.length pc0, .slice pA1 p1.length pc1] w0 (charabanclaw14_CellsDiffer_5.post M0 w0 r) := by
 unfold charabanclaw14_CellsDiffer_5.f at h
 have h0 : Holds M0 w0 w0 [] := Holds.start ho
 have h00 := h0.addSl (Rp.pair (Rp.int .u16) (Rp.int .u8)) (.slice pA0 p0.length pc0) p0 (hs0.mono (fun _ _ hm => hm.elim id (fun hm => absurd hm (by simp [mines, sl]))))
 have h01 := h00.addSl (Rp.pair (Rp.int .u16) (Rp.int .u8)) (.slice pA1 p1.length pc1) p1 (hs1.mono (fun _ _ hm => hm.elim id (fun hm => absurd hm (by simp [mines, sl]))))
 have h0 : Holds M0 w0 w0 [sl (Rp.pair (Rp.int .u16) (Rp.int .u8)) (.slice pA0 p0.length pc0) p0, sl (Rp.pair (Rp.int .u16) (Rp.int .u8)) (.slice pA1 p1.length pc1) p1] := h01
 refine calls_of F5 rfl [.slice pA0 p0.length pc0, .slice pA1 p1.length pc1] (by kernel_rfl) ?_
 refine RunsI.g 1 [.c 1, .c 2] ?_
 refine RunsI.r ?_
 refine RegI.p 1 [(0, .slice pA0 p0.length pc0), (1, .slice pA1 p1.length pc1)] ?_
 refine RegI.d ?_
 refine RunsI.g 1 [.c 3, .c 4] ?_
 refine RunsI.r ?_
 obtain ⟨t5, hg4, h⟩ := of_bind h
 refine RegI.o (OpE.call 9 (by kernel_rfl) 7 #[] (by kernel_rfl) ((charabanclaw14_awake_7_ok K _ w0  h0.old' hg4).mono ?_))
 rintro _ w1 ⟨rfl, hb2⟩
 refine ⟨_, rfl, ?_⟩
 have h3 := h0.call hb2
 refine RegI.p 1 [(0, .slice pA0 p0.length pc0), (1, .slice pA1 p1.length pc1), (5, .bool t5)] ?_
 refine RegI.d ?_
 refine RunsI.g 2 [.c 6, .c 7, .c 12] ?_
 refine RunsI.r ?_
 refine RegI.p 2 [(0, .slice pA0 p0.length pc0), (1, .slice pA1 p1.length pc1), (11, .bool (!t5))] ?_
 refine RegI.d ?_
 rcases of_cond h with ⟨hc6, h⟩ | ⟨hc6, h⟩
 ·skip
  refine RunsI.f 11 true hc6 ?_
  refine RunsI.b true 8 ?_
  refine RunsI.g 1 [.c 9, .c 10, .c 12] ?_
  refine RunsI.r ?_
  refine RegI.p 1 [(4, .bool false)] ?_
  refine RegI.d ?_
  refine RunsI.t (.bool false) ?_
  obtain rfl := Option.some.inj h
  exact ⟨rfl, h3.below⟩
 ·skip
  refine RunsI.f 11 false hc6 ?_
  refine RunsI.b false 11 ?_
  refine RunsI.g 1 [.c 12] ?_
  refine RunsI.g 2 [.c 14, .c 15, .c 20] ?_
  refine RunsI.r ?_
  refine RegI.p 4 [(0, .slice pA0 p0.length pc0), (1, .slice pA1 p1.length pc1), (15, .bool (decide ((p0.length : Int) > 40)))] ?_
  obtain ⟨j11, hJ12, h⟩ := of_let h
  have hj13 : ∀ (t8 : Bool) (w10 : World), j11 t8 = some r → Holds M0 w0 w10 [sl (Rp.pair (Rp.int .u16) (Rp.int .u8)) (.slice pA0 p0.length pc0) p0, sl (Rp.pair (Rp.int .u16) (Rp.int .u8)) (.slice pA1 p1.length pc1) p1] → RegI F5 14 [.c 15, .c 20] 8 [(0, .slice pA0 p0.length pc0), (1, .slice pA1 p1.length pc1), (19, .bool t8)] w10 (charabanclaw14_CellsDiffer_5.post M0 w0 r) := by
   intro t8 w10 h h9
   rw [hJ12] at h
   clear hJ12
   dsimp only at h
   refine RegI.d ?_
   rcases of_cond h with ⟨hc14, h⟩ | ⟨hc14, h⟩
   ·skip
    refine RunsI.f 19 true hc14 ?_
    refine RunsI.b true 16 ?_
    refine RunsI.g 1 [.c 17, .c 18, .c 20] ?_
    refine RunsI.r ?_
    refine RegI.p 1 [(4, .bool true)] ?_
    refine RegI.d ?_
    refine RunsI.t (.bool true) ?_
    obtain rfl := Option.some.inj h
    exact ⟨rfl, h9.below⟩
   ·skip
    refine RunsI.f 19 false hc14 ?_
    refine RunsI.b false 19 ?_
    refine RunsI.g 1 [.c 20] ?_
    refine RunsI.g 1 [.c 21, .c 22] ?_
    refine RunsI.r ?_
    refine RegI.p 2 [(0, .slice pA0 p0.length pc0), (1, .slice pA1 p1.length pc1), (20, .slice pA0 p0.length pc0), (21, .slice pA1 p1.length pc1)] ?_
    obtain ⟨t19, hg18, h⟩ := of_bind h
    refine RegI.o (OpE.call 22 (by kernel_rfl) 21 #[.slice pA0 p0.length pc0, .slice pA1 p1.length pc1] (by kernel_rfl) ((cells_Diff_21_ok K _ w10  pA0 pc0 pA1 pc1 p0 p1 h9.old' (h9.get 0 rfl) (h9.get 1 rfl) hg18).mono ?_))
    rintro _ w15 ⟨A20, c21, rfl, hr23⟩
    refine ⟨_, rfl, ?_⟩
    have hb16 := hr23.below
    have h17 := h9.join hr23
    refine RegI.p 1 [(0, .slice pA0 p0.length pc0), (1, .slice pA1 p1.length pc1), (6, .slice A20 t19.length c21)] ?_
    refine RegI.d ?_
    refine RunsI.g 2 [.c 24, .c 25, .c 30] ?_
    refine RunsI.r ?_
    refine RegI.p 3 [(0, .slice pA0 p0.length pc0), (1, .slice pA1 p1.length pc1), (6, .slice A20 t19.length c21), (23, .slice A20 t19.length c21), (24, .slice pA0 p0.length pc0), (25, .slice pA1 p1.length pc1)] ?_
    obtain ⟨t28, hg27, h⟩ := of_bind h
    refine RegI.o (OpE.call 26 (by kernel_rfl) 22 #[.slice pA0 p0.length pc0, .slice pA1 p1.length pc1] (by kernel_rfl) ((charabancref14_Diff_22_ok K _ w15  pA0 pc0 pA1 pc1 p0 p1 h17.old' (h17.get 0 rfl) (h17.get 1 rfl) hg27).mono ?_))
    rintro _ w24 ⟨A29, c30, rfl, hr32⟩
    refine ⟨_, rfl, ?_⟩
    have hb25 := hr32.below
    have h26 := h17.join hr32
    obtain ⟨t37, hg36, h⟩ := of_bind h
    refine RegI.o (OpE.call 27 (by kernel_rfl) 10 #[.slice A20 t19.length c21, .slice A29 t28.length c30] (by kernel_rfl) ((charabancref14_Same_10_ok K (fun _ => False) w24  A20 c21 A29 c30 t19 t28 (fun _ hf => hf.elim) (h26.slAny 2 rfl) (h26.ownSl 3 rfl) hg36).mono ?_))
    rintro _ w33 ⟨rfl, hb34⟩
    refine ⟨_, rfl, ?_⟩
    have h35 := h26.call hb34
    refine RegI.p 1 [(0, .slice pA0 p0.length pc0), (1, .slice pA1 p1.length pc1), (6, .slice A20 t19.length c21), (28, .bool (!t37))] ?_
    refine RegI.d ?_
    rcases of_cond h with ⟨hc38, h⟩ | ⟨hc38, h⟩
    ·skip
     refine RunsI.f 28 true hc38 ?_
     refine RunsI.b true 26 ?_
     refine RunsI.g 1 [.c 27, .c 28, .c 30] ?_
     refine RunsI.r ?_
     refine RegI.p 1 [(4, .bool false)] ?_
     refine RegI.d ?_
     refine RunsI.t (.bool false) ?_
     obtain rfl := Option.some.inj h
     exact ⟨rfl, h35.below⟩
    ·skip
     refine RunsI.f 28 false hc38 ?_
     refine RunsI.b false 29 ?_
     refine RunsI.g 1 [.c 30] ?_
     refine RunsI.g 1 [.c 31, .c 32] ?_
     refine RunsI.r ?_
     refine RegI.p 1 [(0, .slice pA0 p0.length pc0), (1, .slice pA1 p1.length pc1), (6, .slice A20 t19.length c21), (29, .slice pA0 p0.length pc0)] ?_
     obtain ⟨t43, hg42, h⟩ := of_bind h
     refine RegI.o (OpE.call 30 (by kernel_rfl) 11 #[.slice pA0 p0.length pc0] (by kernel_rfl) ((cells_Make_11_ok K _ w33  pA0 pc0 p0 h35.old' (h35.get 0 rfl) hg42).mono ?_))
     rintro _ w39 ⟨A44, c45, rfl, hr47⟩
     refine ⟨_, rfl, ?_⟩
     have hb40 := hr47.below
     have h41 := h35.join hr47
     refine RegI.p 1 [(0, .slice pA0 p0.length pc0), (1, .slice pA1 p1.length pc1), (6, .slice A20 t19.length c21), (7, .slice A44 t43.length c45)] ?_
     refine RegI.d ?_
     refine RunsI.g 2 [.c 34, .c 35, .c 47] ?_
     refine RunsI.r ?_
     refine RegI.p 1 [(0, .slice pA0 p0.length pc0), (1, .slice pA1 p1.length pc1), (6, .slice A20 t19.length c21), (7, .slice A44 t43.length c45), (8, .int .i64 0)] ?_
     refine RegI.d ?_
     refine RunsI.g 2 [.c 37, .lp 37, .blk 0, .c 47] ?_
     obtain ⟨x91, hx92, h⟩ := of_bind h
     refine RunsI.l [0, 1, 6, 7, 8] [(0, .slice pA0 p0.length pc0), (1, .slice pA1 p1.length pc1), (6, .slice A20 t19.length c21), (7, .slice A44 t43.length c45), (8, .int .i64 0)] ?_
     refine charabanclaw14_CellsDiffer_5.l0_ok K M0 w0 pA0 pc0 pA1 pc1 p0 p1 t19 A20 c21 _ x91 ?_ K t43 0 A44 c45 w39 hx92 (h41.pick [0, 1, 2, 4] (by decide))
     ·intro t95 A93 c94 w97 hq141 h96
      (try rw [hq141] at h)
      refine RunsI.g 1 [.c 48, .c 49] ?_
      refine RunsI.r ?_
      refine RegI.p 2 [(0, .slice pA0 p0.length pc0), (1, .slice pA1 p1.length pc1), (49, .slice A93 t95.length c94), (50, .slice pA1 p1.length pc1)] ?_
      obtain ⟨t102, hg101, h⟩ := of_bind h
      refine RegI.o (OpE.call 51 (by kernel_rfl) 11 #[.slice pA1 p1.length pc1] (by kernel_rfl) ((cells_Make_11_ok K _ w97  pA1 pc1 p1 h96.old' (h96.get 1 rfl) hg101).mono ?_))
      rintro _ w98 ⟨A103, c104, rfl, hr106⟩
      refine ⟨_, rfl, ?_⟩
      have hb99 := hr106.below
      have h100 := h96.join hr106
      obtain ⟨t111, hg110, h⟩ := of_bind h
      refine RegI.o (OpE.call 52 (by kernel_rfl) 10 #[.slice A93 t95.length c94, .slice A103 t102.length c104] (by kernel_rfl) ((charabancref14_Same_10_ok K _ w98  A93 c94 A103 c104 t95 t102 h100.old' (h100.get 2 rfl) (h100.get 3 rfl) hg110).mono ?_))
      rintro _ w107 ⟨rfl, hb108⟩
      refine ⟨_, rfl, ?_⟩
      have h109 := h100.call hb108
      refine RegI.p 1 [(0, .slice pA0 p0.length pc0), (1, .slice pA1 p1.length pc1), (53, .bool t111)] ?_
      rcases of_cond h with ⟨hc112, h⟩ | ⟨hc112, h⟩
      ·skip
       refine RegI.f 53 true hc112 ?_
       refine RegI.p 2 [(0, .slice pA0 p0.length pc0), (1, .slice pA1 p1.length pc1), (53, .bool true), (54, .slice pA0 p0.length pc0), (55, .slice pA0 p0.length pc0)] ?_
       obtain ⟨t117, hg116, h⟩ := of_bind h
       refine RegI.o (OpE.call 56 (by kernel_rfl) 21 #[.slice pA0 p0.length pc0, .slice pA0 p0.length pc0] (by kernel_rfl) ((cells_Diff_21_ok K _ w107  pA0 pc0 pA0 pc0 p0 p0 h109.old' (h109.get 0 rfl) (h109.get 0 rfl) hg116).mono ?_))
       rintro _ w113 ⟨A118, c119, rfl, hr121⟩
       refine ⟨_, rfl, ?_⟩
       have hb114 := hr121.below
       have h115 := h109.join hr121
       refine RegI.p 4 [(0, .slice pA0 p0.length pc0), (1, .slice pA1 p1.length pc1), (60, .bool ((t117.length : Int) == 0))] ?_
       rcases of_cond h with ⟨hc122, h⟩ | ⟨hc122, h⟩
       ·skip
        refine RegI.f 60 true hc122 ?_
        refine RegI.p 2 [(0, .slice pA0 p0.length pc0), (1, .slice pA1 p1.length pc1), (60, .bool true), (61, .slice pA0 p0.length pc0), (62, .slice pA1 p1.length pc1)] ?_
        obtain ⟨t127, hg126, h⟩ := of_bind h
        refine RegI.o (OpE.call 63 (by kernel_rfl) 21 #[.slice pA0 p0.length pc0, .slice pA1 p1.length pc1] (by kernel_rfl) ((cells_Diff_21_ok K _ w113  pA0 pc0 pA1 pc1 p0 p1 h115.old' (h115.get 0 rfl) (h115.get 1 rfl) hg126).mono ?_))
        rintro _ w123 ⟨A128, c129, rfl, hr131⟩
        refine ⟨_, rfl, ?_⟩
        have hb124 := hr131.below
        have h125 := h115.join hr131
        refine RegI.p 3 [(60, .bool true), (64, .int .i64 (t127.length : Int)), (65, .slice pA1 p1.length pc1), (66, .slice pA0 p0.length pc0)] ?_
        obtain ⟨t136, hg135, h⟩ := of_bind h
        refine RegI.o (OpE.call 67 (by kernel_rfl) 21 #[.slice pA1 p1.length pc1, .slice pA0 p0.length pc0] (by kernel_rfl) ((cells_Diff_21_ok K _ w123  pA1 pc1 pA0 pc0 p1 p0 h125.old' (h125.get 1 rfl) (h125.get 0 rfl) hg135).mono ?_))
        rintro _ w132 ⟨A137, c138, rfl, hr140⟩
        refine ⟨_, rfl, ?_⟩
        have hb133 := hr140.below
        have h134 := h125.join hr140
        refine RegI.p 4 [(4, .bool ((t127.length : Int) == (t136.length : Int)))] ?_
        refine RegI.d ?_
        refine RunsI.t (.bool ((t127.length : Int) == (t136.length : Int))) ?_
        obtain rfl := Option.some.inj h
        exact ⟨rfl, h134.below⟩
       ·skip
        refine RegI.f 60 false hc122 ?_
        refine RegI.p 11 [(4, .bool false)] ?_
        refine RegI.d ?_
        refine RunsI.t (.bool false) ?_
        obtain rfl := Option.some.inj h
        exact ⟨rfl, h115.below⟩
      ·skip
       refine RegI.f 53 false hc112 ?_
       refine RegI.p 18 [(4, .bool false)] ?_
       refine RegI.d ?_
       refine RunsI.t (.bool false) ?_
       obtain rfl := Option.some.inj h
       exact ⟨rfl, h109.below⟩
  clear hJ12
  rcases of_cond h with ⟨hc7, h⟩ | ⟨hc7, h⟩
  ·skip
   refine RegI.f 15 true hc7 ?_
   refine RegI.p 4 [(0, .slice pA0 p0.length pc0), (1, .slice pA1 p1.length pc1), (19, .bool true)] ?_
   refine RegI.l [0, 1, 19] [(0, .slice pA0 p0.length pc0), (1, .slice pA1 p1.length pc1), (19, .bool true)] ?_
   exact hj13 true w1 h (h3.pick [0, 1] (by decide))
  ·skip
   refine RegI.f 15 false hc7 ?_
   refine RegI.p 4 [(0, .slice pA0 p0.length pc0), (1, .slice pA1 p1.length pc1), (19, .bool (decide ((p1.length : Int) > 40)))] ?_
   refine RegI.l [0, 1, 19] [(0, .slice pA0 p0.length pc0), (1, .slice pA1 p1.length pc1), (19, .bool (decide ((p1.length : Int) > 40)))] ?_
   exact hj13 (decide ((p1.length : Int) > 40)) w1 h (h3.pick [0, 1] (by decide))
end
end Go.Proofs.Ytbcepghanbkncaa.Cel
