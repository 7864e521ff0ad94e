/- Functions of the program as plain Lean functions, each with the proof that the call comes to it; written by wip/eng.py. -/
import Derived.Test.YtilgjfckgkkfmaaDoorHx
set_option linter.unusedVariables false
set_option linter.unusedSimpArgs false
set_option maxHeartbeats 4000000
namespace Go.Proofs.YtilgjfckgkkfmaaDoor.Hx
open Go.RowKit Go.Eng
/-! ### charabanc/hexfile.Show (function 21) -/
section
def hexfile_Show_21.post (M0 : Nat → Prop) (w0 : World) (r : ByteArray) : Ending → World → Prop := fun e w => e = .returned (.string r) ∧ Below w0.heap.size w0 w
def hexfile_Show_21.l0 (K : Nat) (p0 : List (Int × Int)) (t47 : List (Int × Int)) (t48 : Int) : Nat → (List UInt8) → Int → (List Int) → Int → Option ((List UInt8) × Int × (List Int))
 | 0, _, _, _, _ => none
 | k + 1, t38, t41, t44, t49 => cond (decide (t49 < t48)) (cond (inR t49 t47.length) (Let (fun (t68 : Bool) => Let (fun (yj115 : (List UInt8) × Int × (List Int) × Int) => cond (yj115.2.2.2 == 0) (cond (mayBe (yj115.2.2.1.length + ([(rdD t47 t49).2] : List Int).length) 1) (hexfile_Show_21.l0 K p0 t47 t48 k yj115.1 ((rdD t47 t49).1) (yj115.2.2.1 ++ ([(rdD t47 t49).2] : List Int)) (IntKind.wrap .i64 (t49 + 1))) none) (cond (mayBe (yj115.2.2.1.length + ([(rdD t47 t49).2] : List Int).length) 1) (hexfile_Show_21.l0 K p0 t47 t48 k yj115.1 yj115.2.1 (yj115.2.2.1 ++ ([(rdD t47 t49).2] : List Int)) (IntKind.wrap .i64 (t49 + 1))) none)) (fun j115 => cond t68 ((hexfile_Line_11.f K 0 t41 t44).bind fun yt90 => cond (mayCat yt90.1.size (⟨#[10]⟩ : ByteArray).size) (cond (bldR t38.length (yt90.1 ++ (⟨#[10]⟩ : ByteArray)).size) (j115 ((t38 ++ (yt90.1 ++ (⟨#[10]⟩ : ByteArray)).data.toList), 0, ([] : List Int), 0)) none) none) (j115 (t38, t41, t44, (t44.length : Int))))) (fun j71 => cond (decide ((t44.length : Int) > 0)) (cond ((t44.length : Int) == 16) (j71 true) (j71 ((IntKind.wrap .i64 ((rdD t47 t49).1)) != (IntKind.wrap .i64 ((IntKind.wrap .i64 t41) + (t44.length : Int)))))) (j71 false))) none) (some (t38, t41, t44))
set_option maxRecDepth 100000 in
theorem hexfile_Show_21.l0_ok (K : Nat) (M0 : Nat → Prop) (w0 : World) (pA0 : Option Addr) (pc0 : Nat) (p0 : List (Int × Int)) (t47 : List (Int × Int)) (t48 : Int) (b34 : Nat) (b35 : Nat) (b39 : Nat) (b40 : Nat) (A45 : Option Addr) (c46 : Nat) (b50 : Nat) (R : Ending → World → Prop) (x : (List UInt8) × Int × (List Int)) (hk0 : ∀ (t152 : List UInt8) (t153 : Int) (t156 : List Int) (A150 : Option Addr) (c151 : Nat) (A154 : Option Addr) (c155 : Nat) (w1 : World), x = (t152, t153, t156) → Holds M0 w0 w1 [rng F21 8 b34 [(3, .pointer (some ⟨b35, 0, none⟩)), (8, .func (.func 76) #[] #[.pointer (some ⟨b39, 0, none⟩)])] .ready none, bl 75 5 b35 (.slice A150 t152.length c151) A150 c151 t152, box b39 41 [.slice pA0 p0.length pc0], sl (Rp.pair (Rp.int .u16) (Rp.int .u8)) (.slice pA0 p0.length pc0) p0, box b40 25 [.int .u8 0, .int .u16 t153, .slice A154 t156.length c155], own (Rp.int .u8) 5 (.slice A154 t156.length c155) t156, dfr b50] → RunsI F76 [.c 39] [(0, .func (.yield b34) #[] #[]), (3, .pointer (some ⟨b40, 0, none⟩))] w1 R) :
  ∀ (k : Nat) (t38 : List UInt8) (t41 : Int) (t44 : List Int) (t49 : Int) (A36 : Option Addr) (c37 : Nat) (A42 : Option Addr) (c43 : Nat) (w : World), hexfile_Show_21.l0 K p0 t47 t48 k t38 t41 t44 t49 = some x → Holds M0 w0 w [rng F21 8 b34 [(3, .pointer (some ⟨b35, 0, none⟩)), (8, .func (.func 76) #[] #[.pointer (some ⟨b39, 0, none⟩)])] .ready none, bl 75 5 b35 (.slice A36 t38.length c37) A36 c37 t38, box b39 41 [.slice pA0 p0.length pc0], sl (Rp.pair (Rp.int .u16) (Rp.int .u8)) (.slice pA0 p0.length pc0) p0, box b40 25 [.int .u8 0, .int .u16 t41, .slice A42 t44.length c43], own (Rp.int .u8) 5 (.slice A42 t44.length c43) t44, sl (Rp.pair (Rp.int .u16) (Rp.int .u8)) (.slice A45 t47.length c46) t47, dfr b50] → RunsI F76 [.c 7, .lp 7, .blk 0, .c 39] [(0, .func (.yield b34) #[] #[]), (3, .pointer (some ⟨b40, 0, none⟩)), (8, .slice A45 t47.length c46), (9, .int .i64 t48), (10, .int .i64 t49)] w R := by
 intro k
 induction k with
 | zero => intro t38 t41 t44 t49 A36 c37 A42 c43 w h hH; exact absurd h (by simp [hexfile_Show_21.l0])
 | succ k ih =>
  intro t38 t41 t44 t49 A36 c37 A42 c43 w h hH
  rw [hexfile_Show_21.l0.eq_2] at h
  refine RunsI.g 1 [.c 8, .c 9, .lp 7, .blk 0, .c 39] ?_
  refine RunsI.r ?_
  refine RegI.p 1 [(0, .func (.yield b34) #[] #[]), (3, .pointer (some ⟨b40, 0, none⟩)), (8, .slice A45 t47.length c46), (9, .int .i64 t48), (10, .int .i64 t49), (11, .bool (decide (t49 < t48)))] ?_
  refine RegI.d ?_
  refine RunsI.g 1 [.c 10, .c 13, .lp 7, .blk 0, .c 39] ?_
  rcases of_cond h with ⟨hc51, h⟩ | ⟨hc51, h⟩
  ·skip
   refine RunsI.f 11 true hc51 ?_
   refine RunsI.b true 11 ?_
   refine RunsI.g 1 [.c 13, .lp 7, .blk 0, .c 39] ?_
   refine RunsI.g 3 [.c 16, .c 17, .blk 1, .c 38, .lp 7, .blk 0, .c 39] ?_
   refine RunsI.r ?_
   obtain ⟨hc52, h⟩ := of_cond0 h
   refine RegI.o (OpE.idxSl 12 6 41 t49 hH (by kernel_rfl) rfl (by kernel_rfl) (by kernel_rfl) hc52 ?_)
   intro b53 o54 cs55 hk56 h57
   obtain ⟨_, _, rfl, rfl, rfl⟩ := hk56
   refine RegI.o (OpE.loadCel 13 8 85 b53 o54 0 (.agg #[.int .u16 ((rdD t47 t49).1), .int .u8 ((rdD t47 t49).2)]) h57 (by kernel_rfl) (by kernel_rfl) rfl (by kernel_rfl) ?_)
   refine RegI.o (OpE.box 5 85 [.int .u16 0, .int .u8 0] h57 (by kernel_rfl) (by kernel_rfl) ?_)
   intro w58 b59 h60 hb61 hn62
   refine RegI.o (OpE.storeBox 9 85 b59 0 (.agg #[.int .u16 ((rdD t47 t49).1), .int .u8 ((rdD t47 t49).2)]) [.int .u16 ((rdD t47 t49).1), .int .u8 ((rdD t47 t49).2)] h60 (by kernel_rfl) (by kernel_rfl) rfl (by kernel_rfl) (by kernel_rfl) (by kernel_rfl) ?_)
   intro w63 h64 hk65
   refine RegI.d ?_
   refine RunsI.g 1 [.c 18, .c 19, .blk 1, .c 38, .lp 7, .blk 0, .c 39] ?_
   refine RunsI.r ?_
   refine RegI.p 1 [(0, .func (.yield b34) #[] #[]), (3, .pointer (some ⟨b40, 0, none⟩)), (5, .pointer (some ⟨b59, 0, none⟩)), (8, .slice A45 t47.length c46), (9, .int .i64 t48), (10, .int .i64 t49), (14, .pointer (some ⟨b40, 2, none⟩))] ?_
   refine RegI.o (OpE.loadBox 15 4 23 b40 2 (.slice A42 t44.length c43) h64 (by kernel_rfl) (by kernel_rfl) rfl (by kernel_rfl) ?_)
   refine RegI.p 2 [(0, .func (.yield b34) #[] #[]), (3, .pointer (some ⟨b40, 0, none⟩)), (5, .pointer (some ⟨b59, 0, none⟩)), (6, .int .i64 (t44.length : Int)), (8, .slice A45 t47.length c46), (9, .int .i64 t48), (10, .int .i64 t49)] ?_
   refine RegI.d ?_
   refine RunsI.g 2 [.c 21, .c 22, .c 31, .blk 1, .c 38, .lp 7, .blk 0, .c 39] ?_
   refine RunsI.r ?_
   refine RegI.p 3 [(0, .func (.yield b34) #[] #[]), (3, .pointer (some ⟨b40, 0, none⟩)), (5, .pointer (some ⟨b59, 0, none⟩)), (6, .int .i64 (t44.length : Int)), (8, .slice A45 t47.length c46), (9, .int .i64 t48), (10, .int .i64 t49), (19, .bool (decide ((t44.length : Int) > 0)))] ?_
   obtain ⟨j71, hJ72, h⟩ := of_let h
   have hj73 : ∀ (t68 : Bool) (w70 : World), j71 t68 = some x → Holds M0 w0 w70 [rng F21 8 b34 [(3, .pointer (some ⟨b35, 0, none⟩)), (8, .func (.func 76) #[] #[.pointer (some ⟨b39, 0, none⟩)])] .ready none, bl 75 5 b35 (.slice A36 t38.length c37) A36 c37 t38, box b39 41 [.slice pA0 p0.length pc0], sl (Rp.pair (Rp.int .u16) (Rp.int .u8)) (.slice pA0 p0.length pc0) p0, box b40 25 [.int .u8 0, .int .u16 t41, .slice A42 t44.length c43], own (Rp.int .u8) 5 (.slice A42 t44.length c43) t44, box b59 85 [.int .u16 ((rdD t47 t49).1), .int .u8 ((rdD t47 t49).2)], sl (Rp.pair (Rp.int .u16) (Rp.int .u8)) (.slice A45 t47.length c46) t47, dfr b50] → RegI F76 21 [.c 22, .c 31, .blk 1, .c 38, .lp 7, .blk 0, .c 39] 17 [(0, .func (.yield b34) #[] #[]), (3, .pointer (some ⟨b40, 0, none⟩)), (5, .pointer (some ⟨b59, 0, none⟩)), (6, .int .i64 (t44.length : Int)), (8, .slice A45 t47.length c46), (9, .int .i64 t48), (10, .int .i64 t49), (33, .bool t68)] w70 R := by
    intro t68 w70 h h69
    rw [hJ72] at h
    clear hJ72
    dsimp only at h
    refine RegI.d ?_
    obtain ⟨j115, hJ116, h⟩ := of_let h
    have hj117 : ∀ (t107 : List UInt8) (t108 : Int) (t111 : List Int) (t112 : Int) (A105 : Option Addr) (c106 : Nat) (A109 : Option Addr) (c110 : Nat) (w114 : World), j115 (t107, t108, t111, t112) = some x → Holds M0 w0 w114 [rng F21 8 b34 [(3, .pointer (some ⟨b35, 0, none⟩)), (8, .func (.func 76) #[] #[.pointer (some ⟨b39, 0, none⟩)])] .ready none, bl 75 5 b35 (.slice A105 t107.length c106) A105 c106 t107, box b39 41 [.slice pA0 p0.length pc0], sl (Rp.pair (Rp.int .u16) (Rp.int .u8)) (.slice pA0 p0.length pc0) p0, box b40 25 [.int .u8 0, .int .u16 t108, .slice A109 t111.length c110], own (Rp.int .u8) 5 (.slice A109 t111.length c110) t111, box b59 85 [.int .u16 ((rdD t47 t49).1), .int .u8 ((rdD t47 t49).2)], sl (Rp.pair (Rp.int .u16) (Rp.int .u8)) (.slice A45 t47.length c46) t47, dfr b50] → RunsI F76 [.c 31, .blk 1, .c 38, .lp 7, .blk 0, .c 39] [(0, .func (.yield b34) #[] #[]), (3, .pointer (some ⟨b40, 0, none⟩)), (5, .pointer (some ⟨b59, 0, none⟩)), (6, .int .i64 t112), (8, .slice A45 t47.length c46), (9, .int .i64 t48), (10, .int .i64 t49)] w114 R := by
     intro t107 t108 t111 t112 A105 c106 A109 c110 w114 h h113
     rw [hJ116] at h
     clear hJ116
     dsimp only at h
     refine RunsI.g 2 [.c 33, .c 34, .c 37, .blk 1, .c 38, .lp 7, .blk 0, .c 39] ?_
     refine RunsI.r ?_
     refine RegI.p 2 [(0, .func (.yield b34) #[] #[]), (3, .pointer (some ⟨b40, 0, none⟩)), (5, .pointer (some ⟨b59, 0, none⟩)), (8, .slice A45 t47.length c46), (9, .int .i64 t48), (10, .int .i64 t49), (40, .bool (t112 == 0))] ?_
     refine RegI.d ?_
     rcases of_cond h with ⟨hc118, h⟩ | ⟨hc118, h⟩
     ·skip
      refine RunsI.f 40 true hc118 ?_
      refine RunsI.b true 35 ?_
      refine RunsI.r ?_
      refine RegI.p 1 [(0, .func (.yield b34) #[] #[]), (3, .pointer (some ⟨b40, 0, none⟩)), (5, .pointer (some ⟨b59, 0, none⟩)), (8, .slice A45 t47.length c46), (9, .int .i64 t48), (10, .int .i64 t49), (41, .pointer (some ⟨b59, 0, none⟩))] ?_
      refine RegI.o (OpE.loadBox 42 6 22 b59 0 (.int .u16 ((rdD t47 t49).1)) h113 (by kernel_rfl) (by kernel_rfl) rfl (by kernel_rfl) ?_)
      refine RegI.p 1 [(0, .func (.yield b34) #[] #[]), (3, .pointer (some ⟨b40, 0, none⟩)), (5, .pointer (some ⟨b59, 0, none⟩)), (8, .slice A45 t47.length c46), (9, .int .i64 t48), (10, .int .i64 t49), (42, .int .u16 ((rdD t47 t49).1)), (43, .pointer (some ⟨b40, 1, none⟩))] ?_
      refine RegI.o (OpE.storeBox 4 22 b40 1 (.int .u16 ((rdD t47 t49).1)) [.int .u8 0, .int .u16 ((rdD t47 t49).1), .slice A109 t111.length c110] h113 (by kernel_rfl) (by kernel_rfl) rfl (by kernel_rfl) (by kernel_rfl) (by kernel_rfl) ?_)
      intro w119 h120 hk121
      refine RegI.d ?_
      refine RunsI.r ?_
      refine RegI.p 1 [(0, .func (.yield b34) #[] #[]), (3, .pointer (some ⟨b40, 0, none⟩)), (5, .pointer (some ⟨b59, 0, none⟩)), (8, .slice A45 t47.length c46), (9, .int .i64 t48), (10, .int .i64 t49), (44, .pointer (some ⟨b40, 2, none⟩))] ?_
      refine RegI.o (OpE.loadBox 45 4 23 b40 2 (.slice A109 t111.length c110) h120 (by kernel_rfl) (by kernel_rfl) rfl (by kernel_rfl) ?_)
      refine RegI.p 1 [(0, .func (.yield b34) #[] #[]), (3, .pointer (some ⟨b40, 0, none⟩)), (8, .slice A45 t47.length c46), (9, .int .i64 t48), (10, .int .i64 t49), (45, .slice A109 t111.length c110), (46, .pointer (some ⟨b59, 1, none⟩))] ?_
      refine RegI.o (OpE.loadBox 47 6 5 b59 1 (.int .u8 ((rdD t47 t49).2)) h120 (by kernel_rfl) (by kernel_rfl) rfl (by kernel_rfl) ?_)
      refine RegI.o (OpE.lit 48 5 [.int .u8 ((rdD t47 t49).2)] 1 h120 (by kernel_rfl) (by kernel_rfl) ?_)
      intro w122 b123 h124 hb125 hn126
      obtain ⟨hc127, h⟩ := of_cond0 h
      refine RegI.o (OpE.appendBox 49 5 9 23 5 1 ([(rdD t47 t49).2] : List Int) 0 h124 (by kernel_rfl) (by kernel_rfl) (by kernel_rfl) rfl rfl rfl (cells_int _ _ _ _) hc127 ?_)
      intro w128 A129 c130 h131 hk132
      refine RegI.p 1 [(0, .func (.yield b34) #[] #[]), (3, .pointer (some ⟨b40, 0, none⟩)), (8, .slice A45 t47.length c46), (9, .int .i64 t48), (10, .int .i64 t49), (49, .slice A129 ((t111 ++ ([(rdD t47 t49).2] : List Int)).length) c130), (50, .pointer (some ⟨b40, 2, none⟩))] ?_
      refine RegI.o (OpE.storeBox 4 23 b40 2 (.slice A129 ((t111 ++ ([(rdD t47 t49).2] : List Int)).length) c130) [.int .u8 0, .int .u16 ((rdD t47 t49).1), .slice A129 ((t111 ++ ([(rdD t47 t49).2] : List Int)).length) c130] h131 (by kernel_rfl) (by kernel_rfl) rfl (by kernel_rfl) (by kernel_rfl) (by kernel_rfl) ?_)
      intro w133 h134 hk135
      refine RegI.d ?_
      refine RunsI.g 1 [.c 38, .lp 7, .blk 0, .c 39] ?_
      refine RunsI.r ?_
      refine RegI.p 2 [(0, .func (.yield b34) #[] #[]), (3, .pointer (some ⟨b40, 0, none⟩)), (8, .slice A45 t47.length c46), (9, .int .i64 t48), (10, .int .i64 (IntKind.wrap .i64 (t49 + 1)))] ?_
      refine RegI.d ?_
      refine RunsI.g 1 [.c 7, .lp 7, .blk 0, .c 39] ?_
      refine RunsI.l [0, 3, 8, 9, 10] [(0, .func (.yield b34) #[] #[]), (3, .pointer (some ⟨b40, 0, none⟩)), (8, .slice A45 t47.length c46), (9, .int .i64 t48), (10, .int .i64 (IntKind.wrap .i64 (t49 + 1)))] ?_
      exact ih t107 ((rdD t47 t49).1) (t111 ++ ([(rdD t47 t49).2] : List Int)) (IntKind.wrap .i64 (t49 + 1)) A105 c106 A129 c130 w133 h (h134.pick [0, 1, 2, 3, 4, 5, 7, 8] (by decide))
     ·skip
      refine RunsI.f 40 false hc118 ?_
      refine RunsI.b false 36 ?_
      refine RunsI.g 1 [.c 37, .blk 1, .c 38, .lp 7, .blk 0, .c 39] ?_
      refine RunsI.r ?_
      refine RegI.p 1 [(0, .func (.yield b34) #[] #[]), (3, .pointer (some ⟨b40, 0, none⟩)), (5, .pointer (some ⟨b59, 0, none⟩)), (8, .slice A45 t47.length c46), (9, .int .i64 t48), (10, .int .i64 t49), (44, .pointer (some ⟨b40, 2, none⟩))] ?_
      refine RegI.o (OpE.loadBox 45 4 23 b40 2 (.slice A109 t111.length c110) h113 (by kernel_rfl) (by kernel_rfl) rfl (by kernel_rfl) ?_)
      refine RegI.p 1 [(0, .func (.yield b34) #[] #[]), (3, .pointer (some ⟨b40, 0, none⟩)), (8, .slice A45 t47.length c46), (9, .int .i64 t48), (10, .int .i64 t49), (45, .slice A109 t111.length c110), (46, .pointer (some ⟨b59, 1, none⟩))] ?_
      refine RegI.o (OpE.loadBox 47 6 5 b59 1 (.int .u8 ((rdD t47 t49).2)) h113 (by kernel_rfl) (by kernel_rfl) rfl (by kernel_rfl) ?_)
      refine RegI.o (OpE.lit 48 5 [.int .u8 ((rdD t47 t49).2)] 1 h113 (by kernel_rfl) (by kernel_rfl) ?_)
      intro w136 b137 h138 hb139 hn140
      obtain ⟨hc141, h⟩ := of_cond0 h
      refine RegI.o (OpE.appendBox 49 5 9 23 5 1 ([(rdD t47 t49).2] : List Int) 0 h138 (by kernel_rfl) (by kernel_rfl) (by kernel_rfl) rfl rfl rfl (cells_int _ _ _ _) hc141 ?_)
      intro w142 A143 c144 h145 hk146
      refine RegI.p 1 [(0, .func (.yield b34) #[] #[]), (3, .pointer (some ⟨b40, 0, none⟩)), (8, .slice A45 t47.length c46), (9, .int .i64 t48), (10, .int .i64 t49), (49, .slice A143 ((t111 ++ ([(rdD t47 t49).2] : List Int)).length) c144), (50, .pointer (some ⟨b40, 2, none⟩))] ?_
      refine RegI.o (OpE.storeBox 4 23 b40 2 (.slice A143 ((t111 ++ ([(rdD t47 t49).2] : List Int)).length) c144) [.int .u8 0, .int .u16 t108, .slice A143 ((t111 ++ ([(rdD t47 t49).2] : List Int)).length) c144] h145 (by kernel_rfl) (by kernel_rfl) rfl (by kernel_rfl) (by kernel_rfl) (by kernel_rfl) ?_)
      intro w147 h148 hk149
      refine RegI.d ?_
      refine RunsI.g 1 [.c 38, .lp 7, .blk 0, .c 39] ?_
      refine RunsI.r ?_
      refine RegI.p 2 [(0, .func (.yield b34) #[] #[]), (3, .pointer (some ⟨b40, 0, none⟩)), (8, .slice A45 t47.length c46), (9, .int .i64 t48), (10, .int .i64 (IntKind.wrap .i64 (t49 + 1)))] ?_
      refine RegI.d ?_
      refine RunsI.g 1 [.c 7, .lp 7, .blk 0, .c 39] ?_
      refine RunsI.l [0, 3, 8, 9, 10] [(0, .func (.yield b34) #[] #[]), (3, .pointer (some ⟨b40, 0, none⟩)), (8, .slice A45 t47.length c46), (9, .int .i64 t48), (10, .int .i64 (IntKind.wrap .i64 (t49 + 1)))] ?_
      exact ih t107 t108 (t111 ++ ([(rdD t47 t49).2] : List Int)) (IntKind.wrap .i64 (t49 + 1)) A105 c106 A143 c144 w147 h (h148.pick [0, 1, 2, 3, 4, 5, 7, 8] (by decide))
    clear hJ116
    rcases of_cond h with ⟨hc74, h⟩ | ⟨hc74, h⟩
    ·skip
     refine RunsI.f 33 true hc74 ?_
     refine RunsI.b true 23 ?_
     refine RunsI.g 2 [.c 25, .c 26, .c 29, .c 31, .blk 1, .c 38, .lp 7, .blk 0, .c 39] ?_
     refine RunsI.r ?_
     refine RegI.p 1 [(0, .func (.yield b34) #[] #[]), (3, .pointer (some ⟨b40, 0, none⟩)), (5, .pointer (some ⟨b59, 0, none⟩)), (8, .slice A45 t47.length c46), (9, .int .i64 t48), (10, .int .i64 t49), (34, .func (.yield b34) #[] #[])] ?_
     refine RegI.o (OpE.loadBox 35 4 25 b40 0 (.agg #[.int .u8 0, .int .u16 t41, .slice A42 t44.length c43]) h69 (by kernel_rfl) (by kernel_rfl) rfl (by kernel_rfl) ?_)
     refine RegI.yield 36 b34 8 0 [.agg #[.int .u8 0, .int .u16 t41, .slice A42 t44.length c43]] [0, 3, 5, 8, 9, 10] [(0, .func (.yield b34) #[] #[]), (3, .pointer (some ⟨b40, 0, none⟩)), (5, .pointer (some ⟨b59, 0, none⟩)), (8, .slice A45 t47.length c46), (9, .int .i64 t48), (10, .int .i64 t49)] h69 (by kernel_rfl) (by kernel_rfl) (by kernel_rfl) (by kernel_rfl) rfl (by kernel_rfl) (by kernel_rfl) (by kernel_rfl) [.c 9, .bg, .c 10] (by kernel_rfl) [(9, .agg #[.int .u8 0, .int .u16 t41, .slice A42 t44.length c43]), (3, .pointer (some ⟨b35, 0, none⟩)), (8, .func (.func 76) #[] #[.pointer (some ⟨b39, 0, none⟩)])] (by kernel_rfl) ?_
     refine RunsI.l [3, 9] [(3, .pointer (some ⟨b35, 0, none⟩)), (9, .agg #[.int .u8 0, .int .u16 t41, .slice A42 t44.length c43])] ?_
     refine RunsI.r ?_
     refine RegI.o (OpE.box 4 25 [.int .u8 0, .int .u16 0, .slice none 0 0] h69 (by kernel_rfl) (by kernel_rfl) ?_)
     intro w75 b76 h77 hb78 hn79
     refine RegI.o (OpE.storeBox 9 25 b76 0 (.agg #[.int .u8 0, .int .u16 t41, .slice A42 t44.length c43]) [.int .u8 0, .int .u16 t41, .slice A42 t44.length c43] h77 (by kernel_rfl) (by kernel_rfl) rfl (by kernel_rfl) (by kernel_rfl) (by kernel_rfl) ?_)
     intro w80 h81 hk82
     refine RegI.d ?_
     refine RunsI.begin 0 h81 rfl rfl ?_
     intro w83 h84 hk85
     refine RunsI.g 2 [.c 12, .c 13, .blk 1] ?_
     refine RunsI.r ?_
     refine RegI.o (OpE.loadBox 11 9 25 b76 0 (.agg #[.int .u8 0, .int .u16 t41, .slice A42 t44.length c43]) h84 (by kernel_rfl) (by kernel_rfl) rfl (by kernel_rfl) ?_)
     obtain ⟨⟨t90, t91⟩, hg89, h⟩ := of_bind h
     dsimp only at h
     refine RegI.o (OpE.call 12 (by kernel_rfl) 11 #[.agg #[.int .u8 0, .int .u16 t41, .slice A42 t44.length c43]] (by kernel_rfl) ((hexfile_Line_11_ok K (fun _ => False) w83  A42 c43 0 t41 t44 (fun _ hf => hf.elim) (h84.ownSl 5 rfl) hg89).mono ?_))
     rintro _ w86 ⟨rfl, hb87⟩
     refine ⟨_, rfl, ?_⟩
     have h88 := h84.call hb87
     refine RegI.p 5 [(3, .pointer (some ⟨b35, 0, none⟩)), (5, .string t90)] ?_
     refine RegI.d ?_
     refine RunsI.r ?_
     refine RegI.p 1 [(3, .pointer (some ⟨b35, 0, none⟩)), (15, .string t90)] ?_
     obtain ⟨hc92, h⟩ := of_cond0 h
     refine RegI.o (OpE.run 16 (by kernel_rfl) (run_cat (a := t90) (b := (⟨#[10]⟩ : ByteArray)) (by kernel_rfl) hc92) ?_)
     obtain ⟨hc93, h⟩ := of_cond0 h
     refine RegI.o (OpE.call 17 (by kernel_rfl) 43 #[.pointer (some ⟨b35, 0, none⟩), .string (t90 ++ (⟨#[10]⟩ : ByteArray))] (by kernel_rfl) ((strings_Builder_WriteString_43_ok 1 (t90 ++ (⟨#[10]⟩ : ByteArray)) h88 rfl hc93).mono ?_))
     rintro _ w94 ⟨rfl, A95, c96, h97⟩
     refine ⟨_, rfl, ?_⟩
     refine RegI.d ?_
     refine RunsI.g 1 [] ?_
     refine RunsI.roundEnd 0 h97 rfl rfl ?_
     intro w98 h99 hk100
     refine cont_mk ?_
     refine RegI.p 1 [(0, .func (.yield b34) #[] #[]), (3, .pointer (some ⟨b40, 0, none⟩)), (5, .pointer (some ⟨b59, 0, none⟩)), (8, .slice A45 t47.length c46), (9, .int .i64 t48), (10, .int .i64 t49), (37, .bool false)] ?_
     refine RegI.d ?_
     refine RunsI.b false 28 ?_
     refine RunsI.g 1 [.c 29, .c 31, .blk 1, .c 38, .lp 7, .blk 0, .c 39] ?_
     refine RunsI.r ?_
     refine RegI.p 1 [(0, .func (.yield b34) #[] #[]), (3, .pointer (some ⟨b40, 0, none⟩)), (5, .pointer (some ⟨b59, 0, none⟩)), (8, .slice A45 t47.length c46), (9, .int .i64 t48), (10, .int .i64 t49), (38, .agg #[.int .u8 0, .int .u16 0, .slice none 0 0])] ?_
     refine RegI.o (OpE.storeBox 4 25 b40 0 (.agg #[.int .u8 0, .int .u16 0, .slice none 0 0]) [.int .u8 0, .int .u16 0, .slice none 0 0] h99 (by kernel_rfl) (by kernel_rfl) rfl (by kernel_rfl) (by kernel_rfl) (by kernel_rfl) ?_)
     intro w101 h102 hk103
     refine RegI.p 1 [(0, .func (.yield b34) #[] #[]), (3, .pointer (some ⟨b40, 0, none⟩)), (5, .pointer (some ⟨b59, 0, none⟩)), (6, .int .i64 0), (8, .slice A45 t47.length c46), (9, .int .i64 t48), (10, .int .i64 t49)] ?_
     refine RegI.d ?_
     have h104 := h102.addOwnNil (Rp.int .u8) 5
     refine RunsI.l [0, 3, 5, 6, 8, 9, 10] [(0, .func (.yield b34) #[] #[]), (3, .pointer (some ⟨b40, 0, none⟩)), (5, .pointer (some ⟨b59, 0, none⟩)), (6, .int .i64 0), (8, .slice A45 t47.length c46), (9, .int .i64 t48), (10, .int .i64 t49)] ?_
     exact hj117 (t38 ++ (t90 ++ (⟨#[10]⟩ : ByteArray)).data.toList) 0 ([] : List Int) 0 A95 c96 none 0 w101 h (h104.pick [0, 1, 2, 3, 4, 10, 6, 7, 8] (by decide))
    ·skip
     refine RunsI.f 33 false hc74 ?_
     refine RunsI.b false 30 ?_
     refine RunsI.g 1 [.c 31, .blk 1, .c 38, .lp 7, .blk 0, .c 39] ?_
     refine RunsI.l [0, 3, 5, 6, 8, 9, 10] [(0, .func (.yield b34) #[] #[]), (3, .pointer (some ⟨b40, 0, none⟩)), (5, .pointer (some ⟨b59, 0, none⟩)), (6, .int .i64 (t44.length : Int)), (8, .slice A45 t47.length c46), (9, .int .i64 t48), (10, .int .i64 t49)] ?_
     exact hj117 t38 t41 t44 (t44.length : Int) A36 c37 A42 c43 w70 h (h69.pick [0, 1, 2, 3, 4, 5, 6, 7, 8] (by decide))
   clear hJ72
   rcases of_cond h with ⟨hc66, h⟩ | ⟨hc66, h⟩
   ·skip
    refine RegI.f 19 true hc66 ?_
    refine RegI.p 3 [(0, .func (.yield b34) #[] #[]), (3, .pointer (some ⟨b40, 0, none⟩)), (5, .pointer (some ⟨b59, 0, none⟩)), (6, .int .i64 (t44.length : Int)), (8, .slice A45 t47.length c46), (9, .int .i64 t48), (10, .int .i64 t49), (19, .bool true), (22, .bool ((t44.length : Int) == 16))] ?_
    rcases of_cond h with ⟨hc67, h⟩ | ⟨hc67, h⟩
    ·skip
     refine RegI.f 22 true hc67 ?_
     refine RegI.p 11 [(0, .func (.yield b34) #[] #[]), (3, .pointer (some ⟨b40, 0, none⟩)), (5, .pointer (some ⟨b59, 0, none⟩)), (6, .int .i64 (t44.length : Int)), (8, .slice A45 t47.length c46), (9, .int .i64 t48), (10, .int .i64 t49), (33, .bool true)] ?_
     refine RegI.l [0, 3, 5, 6, 8, 9, 10, 33] [(0, .func (.yield b34) #[] #[]), (3, .pointer (some ⟨b40, 0, none⟩)), (5, .pointer (some ⟨b59, 0, none⟩)), (6, .int .i64 (t44.length : Int)), (8, .slice A45 t47.length c46), (9, .int .i64 t48), (10, .int .i64 t49), (33, .bool true)] ?_
     exact hj73 true w63 h (h64.pick [0, 1, 2, 3, 4, 5, 9, 6, 7] (by decide))
    ·skip
     refine RegI.f 22 false hc67 ?_
     refine RegI.p 1 [(0, .func (.yield b34) #[] #[]), (3, .pointer (some ⟨b40, 0, none⟩)), (5, .pointer (some ⟨b59, 0, none⟩)), (6, .int .i64 (t44.length : Int)), (8, .slice A45 t47.length c46), (9, .int .i64 t48), (10, .int .i64 t49), (19, .bool true), (22, .bool false), (23, .pointer (some ⟨b59, 0, none⟩))] ?_
     refine RegI.o (OpE.loadBox 24 9 22 b59 0 (.int .u16 ((rdD t47 t49).1)) h64 (by kernel_rfl) (by kernel_rfl) rfl (by kernel_rfl) ?_)
     refine RegI.p 2 [(0, .func (.yield b34) #[] #[]), (3, .pointer (some ⟨b40, 0, none⟩)), (5, .pointer (some ⟨b59, 0, none⟩)), (6, .int .i64 (t44.length : Int)), (8, .slice A45 t47.length c46), (9, .int .i64 t48), (10, .int .i64 t49), (19, .bool true), (22, .bool false), (25, .int .i64 (IntKind.wrap .i64 ((rdD t47 t49).1))), (26, .pointer (some ⟨b40, 1, none⟩))] ?_
     refine RegI.o (OpE.loadBox 27 4 22 b40 1 (.int .u16 t41) h64 (by kernel_rfl) (by kernel_rfl) rfl (by kernel_rfl) ?_)
     refine RegI.p 6 [(0, .func (.yield b34) #[] #[]), (3, .pointer (some ⟨b40, 0, none⟩)), (5, .pointer (some ⟨b59, 0, none⟩)), (6, .int .i64 (t44.length : Int)), (8, .slice A45 t47.length c46), (9, .int .i64 t48), (10, .int .i64 t49), (33, .bool ((IntKind.wrap .i64 ((rdD t47 t49).1)) != (IntKind.wrap .i64 ((IntKind.wrap .i64 t41) + (t44.length : Int)))))] ?_
     refine RegI.l [0, 3, 5, 6, 8, 9, 10, 33] [(0, .func (.yield b34) #[] #[]), (3, .pointer (some ⟨b40, 0, none⟩)), (5, .pointer (some ⟨b59, 0, none⟩)), (6, .int .i64 (t44.length : Int)), (8, .slice A45 t47.length c46), (9, .int .i64 t48), (10, .int .i64 t49), (33, .bool ((IntKind.wrap .i64 ((rdD t47 t49).1)) != (IntKind.wrap .i64 ((IntKind.wrap .i64 t41) + (t44.length : Int)))))] ?_
     exact hj73 ((IntKind.wrap .i64 ((rdD t47 t49).1)) != (IntKind.wrap .i64 ((IntKind.wrap .i64 t41) + (t44.length : Int)))) w63 h (h64.pick [0, 1, 2, 3, 4, 5, 9, 6, 7] (by decide))
   ·skip
    refine RegI.f 19 false hc66 ?_
    refine RegI.p 14 [(0, .func (.yield b34) #[] #[]), (3, .pointer (some ⟨b40, 0, none⟩)), (5, .pointer (some ⟨b59, 0, none⟩)), (6, .int .i64 (t44.length : Int)), (8, .slice A45 t47.length c46), (9, .int .i64 t48), (10, .int .i64 t49), (33, .bool false)] ?_
    refine RegI.l [0, 3, 5, 6, 8, 9, 10, 33] [(0, .func (.yield b34) #[] #[]), (3, .pointer (some ⟨b40, 0, none⟩)), (5, .pointer (some ⟨b59, 0, none⟩)), (6, .int .i64 (t44.length : Int)), (8, .slice A45 t47.length c46), (9, .int .i64 t48), (10, .int .i64 t49), (33, .bool false)] ?_
    exact hj73 false w63 h (h64.pick [0, 1, 2, 3, 4, 5, 9, 6, 7] (by decide))
  ·skip
   refine RunsI.f 11 false hc51 ?_
   refine RunsI.b false 12 ?_
   refine RunsI.g 1 [.c 39] ?_
   refine RunsI.l [0, 3] [(0, .func (.yield b34) #[] #[]), (3, .pointer (some ⟨b40, 0, none⟩))] ?_
   exact hk0 t38 t41 t44 A36 c37 A42 c43 w (Option.some.inj h).symm (hH.pick [0, 1, 2, 3, 4, 5, 7] (by decide))
def hexfile_Show_21.f (K : Nat) (p0 : List (Int × Int)) : Option ByteArray := (cells_Make_77.f K p0).bind fun t28 => (hexfile_Show_21.l0 K p0 t28 (t28.length : Int) K ([] : List UInt8) 0 ([] : List Int) 0).bind (fun yx157 => Let (fun (t197 : (List UInt8)) => (hexfile_Line_11.f K 1 0 ([] : List Int)).bind fun yt218 => cond (mayCat yt218.1.size (⟨#[10]⟩ : ByteArray).size) (cond (bldR t197.length (yt218.1 ++ (⟨#[10]⟩ : ByteArray)).size) (cond (Nat.blt 0 (t197 ++ (yt218.1 ++ (⟨#[10]⟩ : ByteArray)).data.toList).length) (some (⟨List.toArray (t197 ++ (yt218.1 ++ (⟨#[10]⟩ : ByteArray)).data.toList)⟩ : ByteArray)) none) none) none) (fun j200 => cond (decide ((yx157.2.2.length : Int) > 0)) ((hexfile_Line_11.f K 0 yx157.2.1 yx157.2.2).bind fun yt184 => cond (mayCat yt184.1.size (⟨#[10]⟩ : ByteArray).size) (cond (bldR yx157.1.length (yt184.1 ++ (⟨#[10]⟩ : ByteArray)).size) (j200 (yx157.1 ++ (yt184.1 ++ (⟨#[10]⟩ : ByteArray)).data.toList)) none) none) (j200 yx157.1)))
set_option maxRecDepth 100000 in
theorem hexfile_Show_21_ok (K : Nat) (M0 : Nat → Prop) (w0 : World) (pA0 : Option Addr) (pc0 : Nat) (p0 : List (Int × Int)) (ho : ∀ b, M0 b → b < w0.heap.size) (hs0 : Sl (Rp.pair (Rp.int .u16) (Rp.int .u8)) w0 M0 (.slice pA0 p0.length pc0) p0) {r : ByteArray} (h : hexfile_Show_21.f K p0 = some r) :
  Calls Tryd.prog 21 #[.slice pA0 p0.length pc0] w0 (hexfile_Show_21.post M0 w0 r) := by
 unfold hexfile_Show_21.f at h
 have h0 : Holds M0 w0 w0 [] := Holds.start ho
 have h00 := h0.addSl (Rp.pair (Rp.int .u16) (Rp.int .u8)) (.slice pA0 p0.length pc0) p0 (hs0.mono (fun _ _ hm => hm.elim id (fun hm => absurd hm (by simp [mines, sl]))))
 have h0 : Holds M0 w0 w0 [sl (Rp.pair (Rp.int .u16) (Rp.int .u8)) (.slice pA0 p0.length pc0) p0] := h00
 refine calls_of F21 rfl [.slice pA0 p0.length pc0] (by kernel_rfl) ?_
 refine RunsI.g 1 [.c 1, .c 2] ?_
 refine RunsI.r ?_
 refine RegI.p 1 [(0, .slice pA0 p0.length pc0)] ?_
 refine RegI.d ?_
 refine RunsI.g 1 [.c 3, .c 4] ?_
 refine RunsI.r ?_
 refine RegI.o (OpE.box 3 75 [.pointer none, .slice none 0 0] h0 (by kernel_rfl) (by kernel_rfl) ?_)
 intro w1 b2 h3 hb5 hn6
 have h4 := h3.boxBl (E := 5) 1 rfl
 refine RegI.d ?_
 refine RunsI.g 2 [.c 6, .c 7, .c 14] ?_
 refine RunsI.r ?_
 refine RegI.p 1 [(3, .pointer (some ⟨b2, 0, none⟩)), (7, .slice pA0 p0.length pc0)] ?_
 refine RegI.enter 8 [3] [(3, .pointer (some ⟨b2, 0, none⟩))] (by kernel_rfl) (by kernel_rfl) (by kernel_rfl) (by kernel_rfl) F42 42 rfl [.slice pA0 p0.length pc0] (by kernel_rfl) (by kernel_rfl) ?_
 refine RunsI.g 1 [.c 1, .c 2] ?_
 refine RunsI.r ?_
 refine RegI.o (OpE.box 1 41 [.slice pA0 p0.length pc0] h4 (by kernel_rfl) (by kernel_rfl) ?_)
 intro w7 b8 h9 hb10 hn11
 refine RegI.p 1 [(1, .pointer (some ⟨b8, 0, none⟩))] ?_
 refine RegI.d ?_
 refine RunsI.g 1 [.c 3, .c 4] ?_
 refine RunsI.r ?_
 refine RegI.p 2 [(2, .func (.func 76) #[] #[.pointer (some ⟨b8, 0, none⟩)])] ?_
 refine RegI.d ?_
 refine RunsI.t (.func (.func 76) #[] #[.pointer (some ⟨b8, 0, none⟩)]) ?_
 refine cont_mk ?_
 refine RegI.d ?_
 refine RunsI.g 1 [.c 8, .blk 0, .c 14] ?_
 refine RunsI.rangeFunc (G := F76) [3, 8] [(3, .pointer (some ⟨b2, 0, none⟩)), (8, .func (.func 76) #[] #[.pointer (some ⟨b8, 0, none⟩)])] 76 [.pointer (some ⟨b8, 0, none⟩)] h9 (by kernel_rfl) (by kernel_rfl) (by kernel_rfl) (fun _ _ => by kernel_rfl) rfl rfl (by kernel_rfl) rfl rfl ?_
 intro b12 b13 w14 h15 hb16 hn17 hn18
 refine RunsI.g 1 [.c 1, .c 2] ?_
 refine RunsI.r ?_
 refine RegI.o (OpE.box 3 25 [.int .u8 0, .int .u16 0, .slice none 0 0] h15 (by kernel_rfl) (by kernel_rfl) ?_)
 intro w19 b20 h21 hb22 hn23
 refine RegI.d ?_
 refine RunsI.g 2 [.c 4, .c 5, .c 39] ?_
 refine RunsI.r ?_
 refine RegI.o (OpE.loadBox 7 2 41 b8 0 (.slice pA0 p0.length pc0) h21 (by kernel_rfl) (by kernel_rfl) rfl (by kernel_rfl) ?_)
 obtain ⟨t28, hg27, h⟩ := of_bind h
 refine RegI.o (OpE.call 8 (by kernel_rfl) 77 #[.slice pA0 p0.length pc0] (by kernel_rfl) ((cells_Make_77_ok K _ w19  pA0 pc0 p0 h21.old' (h21.get 0 rfl) hg27).mono ?_))
 rintro _ w24 ⟨A29, c30, rfl, hr32⟩
 refine ⟨_, rfl, ?_⟩
 have hb25 := hr32.below
 have h26 := h21.join hr32
 refine RegI.p 2 [(0, .func (.yield b13) #[] #[]), (3, .pointer (some ⟨b20, 0, none⟩)), (8, .slice A29 t28.length c30), (9, .int .i64 (t28.length : Int)), (10, .int .i64 0)] ?_
 refine RegI.d ?_
 refine RunsI.g 2 [.c 7, .lp 7, .blk 0, .c 39] ?_
 obtain ⟨x157, hx158, h⟩ := of_bind h
 have h33 := h26.addOwnNil (Rp.int .u8) 5
 refine RunsI.l [0, 3, 8, 9, 10] [(0, .func (.yield b13) #[] #[]), (3, .pointer (some ⟨b20, 0, none⟩)), (8, .slice A29 t28.length c30), (9, .int .i64 (t28.length : Int)), (10, .int .i64 0)] ?_
 refine hexfile_Show_21.l0_ok K M0 w0 pA0 pc0 p0 t28 (t28.length : Int) b13 b2 b8 b20 A29 c30 b12 _ x157 ?_ K ([] : List UInt8) 0 ([] : List Int) 0 none 0 none 0 w24 hx158 (h33.pick [4, 1, 2, 0, 5, 7, 6, 3] (by decide))
 ·intro t161 t162 t165 A159 c160 A163 c164 w167 hq238 h166
  (try rw [hq238] at h)
  dsimp only at h
  refine RunsI.g 2 [.c 41, .c 42, .c 45] ?_
  refine RunsI.r ?_
  refine RegI.p 1 [(0, .func (.yield b13) #[] #[]), (3, .pointer (some ⟨b20, 0, none⟩)), (52, .pointer (some ⟨b20, 2, none⟩))] ?_
  refine RegI.o (OpE.loadBox 53 4 23 b20 2 (.slice A163 t165.length c164) h166 (by kernel_rfl) (by kernel_rfl) rfl (by kernel_rfl) ?_)
  refine RegI.p 3 [(0, .func (.yield b13) #[] #[]), (3, .pointer (some ⟨b20, 0, none⟩)), (56, .bool (decide ((t165.length : Int) > 0)))] ?_
  obtain ⟨j200, hJ201, h⟩ := of_let h
  have hj202 : ∀ (t197 : List UInt8) (A195 : Option Addr) (c196 : Nat) (w199 : World), j200 t197 = some r → Holds M0 w0 w199 [rng F21 8 b13 [(3, .pointer (some ⟨b2, 0, none⟩)), (8, .func (.func 76) #[] #[.pointer (some ⟨b8, 0, none⟩)])] .ready none, bl 75 5 b2 (.slice A195 t197.length c196) A195 c196 t197, box b8 41 [.slice pA0 p0.length pc0], sl (Rp.pair (Rp.int .u16) (Rp.int .u8)) (.slice pA0 p0.length pc0) p0, dfr b12] → RegI F76 41 [.c 42, .c 45] 10 [(0, .func (.yield b13) #[] #[]), (61, .bool false)] w199 (contR (F21.df b12) [.erf b13, .blk 0, .c 14] [(3, .pointer (some ⟨b2, 0, none⟩)), (8, .func (.func 76) #[] #[.pointer (some ⟨b8, 0, none⟩)])] (hexfile_Show_21.post M0 w0 r)) := by
   intro t197 A195 c196 w199 h h198
   rw [hJ201] at h
   clear hJ201
   dsimp only at h
   refine RegI.d ?_
   refine RunsI.b false 44 ?_
   refine RunsI.g 1 [.c 45] ?_
   refine RunsI.r ?_
   refine RegI.p 2 [(62, .func (.yield b13) #[] #[]), (63, .agg #[.int .u8 1, .int .u16 0, .slice none 0 0])] ?_
   refine RegI.yield 64 b13 8 0 [.agg #[.int .u8 1, .int .u16 0, .slice none 0 0]] [] [] h198 (by kernel_rfl) (by kernel_rfl) (by kernel_rfl) (by kernel_rfl) rfl (by kernel_rfl) (by kernel_rfl) (by kernel_rfl) [.c 9, .bg, .c 10] (by kernel_rfl) [(9, .agg #[.int .u8 1, .int .u16 0, .slice none 0 0]), (3, .pointer (some ⟨b2, 0, none⟩)), (8, .func (.func 76) #[] #[.pointer (some ⟨b8, 0, none⟩)])] (by kernel_rfl) ?_
   refine RunsI.l [3, 9] [(3, .pointer (some ⟨b2, 0, none⟩)), (9, .agg #[.int .u8 1, .int .u16 0, .slice none 0 0])] ?_
   refine RunsI.r ?_
   refine RegI.o (OpE.box 4 25 [.int .u8 0, .int .u16 0, .slice none 0 0] h198 (by kernel_rfl) (by kernel_rfl) ?_)
   intro w203 b204 h205 hb206 hn207
   refine RegI.o (OpE.storeBox 5 25 b204 0 (.agg #[.int .u8 1, .int .u16 0, .slice none 0 0]) [.int .u8 1, .int .u16 0, .slice none 0 0] h205 (by kernel_rfl) (by kernel_rfl) rfl (by kernel_rfl) (by kernel_rfl) (by kernel_rfl) ?_)
   intro w208 h209 hk210
   refine RegI.d ?_
   refine RunsI.begin 0 h209 rfl rfl ?_
   intro w211 h212 hk213
   refine RunsI.g 2 [.c 12, .c 13, .blk 1] ?_
   refine RunsI.r ?_
   refine RegI.o (OpE.loadBox 11 5 25 b204 0 (.agg #[.int .u8 1, .int .u16 0, .slice none 0 0]) h212 (by kernel_rfl) (by kernel_rfl) rfl (by kernel_rfl) ?_)
   obtain ⟨⟨t218, t219⟩, hg217, h⟩ := of_bind h
   dsimp only at h
   refine RegI.o (OpE.call 12 (by kernel_rfl) 11 #[.agg #[.int .u8 1, .int .u16 0, .slice none 0 0]] (by kernel_rfl) ((hexfile_Line_11_ok K _ w211  none 0 1 0 ([] : List Int) h212.old' (Sl.nil _ _ _) hg217).mono ?_))
   rintro _ w214 ⟨rfl, hb215⟩
   refine ⟨_, rfl, ?_⟩
   have h216 := h212.call hb215
   refine RegI.p 5 [(3, .pointer (some ⟨b2, 0, none⟩)), (5, .string t218)] ?_
   refine RegI.d ?_
   refine RunsI.r ?_
   refine RegI.p 1 [(3, .pointer (some ⟨b2, 0, none⟩)), (15, .string t218)] ?_
   obtain ⟨hc220, h⟩ := of_cond0 h
   refine RegI.o (OpE.run 16 (by kernel_rfl) (run_cat (a := t218) (b := (⟨#[10]⟩ : ByteArray)) (by kernel_rfl) hc220) ?_)
   obtain ⟨hc221, h⟩ := of_cond0 h
   refine RegI.o (OpE.call 17 (by kernel_rfl) 43 #[.pointer (some ⟨b2, 0, none⟩), .string (t218 ++ (⟨#[10]⟩ : ByteArray))] (by kernel_rfl) ((strings_Builder_WriteString_43_ok 1 (t218 ++ (⟨#[10]⟩ : ByteArray)) h216 rfl hc221).mono ?_))
   rintro _ w222 ⟨rfl, A223, c224, h225⟩
   refine ⟨_, rfl, ?_⟩
   refine RegI.d ?_
   refine RunsI.g 1 [] ?_
   refine RunsI.roundEnd 0 h225 rfl rfl ?_
   intro w226 h227 hk228
   refine cont_mk ?_
   refine RegI.d ?_
   refine RunsI.t (.tuple #[]) ?_
   refine contR_mk ?_
   refine RunsI.endLoop 0 h227 rfl rfl (by intro hh; cases hh) [.blk 0, .c 14] (by kernel_rfl) ?_
   intro w229 h230 hk231
   refine RunsI.g 2 [.c 15, .c 16] ?_
   refine RunsI.r ?_
   obtain ⟨hc232, h⟩ := of_cond0 h
   refine RegI.o (OpE.call 18 (by kernel_rfl) 44 #[.pointer (some ⟨b2, 0, none⟩)] (by kernel_rfl) ((strings_Builder_String_44_ok 1 h230 rfl hc232).mono ?_))
   rintro _ w233 ⟨rfl, h234⟩
   refine ⟨_, rfl, ?_⟩
   refine RegI.p 1 [(2, .string (⟨List.toArray (t197 ++ (t218 ++ (⟨#[10]⟩ : ByteArray)).data.toList)⟩ : ByteArray))] ?_
   refine RegI.d ?_
   refine RunsI.toRet (by kernel_rfl) ?_
   refine RetI.takeH 4 b12 h234 rfl ?_
   intro w235 h236 hk237
   refine RetI.val (.string (⟨List.toArray (t197 ++ (t218 ++ (⟨#[10]⟩ : ByteArray)).data.toList)⟩ : ByteArray)) (by kernel_rfl) ?_
   obtain rfl := Option.some.inj h
   exact ⟨rfl, h236.below⟩
  clear hJ201
  rcases of_cond h with ⟨hc168, h⟩ | ⟨hc168, h⟩
  ·skip
   refine RegI.f 56 true hc168 ?_
   refine RegI.p 1 [(0, .func (.yield b13) #[] #[]), (3, .pointer (some ⟨b20, 0, none⟩)), (56, .bool true), (57, .func (.yield b13) #[] #[])] ?_
   refine RegI.o (OpE.loadBox 58 4 25 b20 0 (.agg #[.int .u8 0, .int .u16 t162, .slice A163 t165.length c164]) h166 (by kernel_rfl) (by kernel_rfl) rfl (by kernel_rfl) ?_)
   refine RegI.yield 59 b13 8 0 [.agg #[.int .u8 0, .int .u16 t162, .slice A163 t165.length c164]] [0, 56] [(0, .func (.yield b13) #[] #[]), (56, .bool true)] h166 (by kernel_rfl) (by kernel_rfl) (by kernel_rfl) (by kernel_rfl) rfl (by kernel_rfl) (by kernel_rfl) (by kernel_rfl) [.c 9, .bg, .c 10] (by kernel_rfl) [(9, .agg #[.int .u8 0, .int .u16 t162, .slice A163 t165.length c164]), (3, .pointer (some ⟨b2, 0, none⟩)), (8, .func (.func 76) #[] #[.pointer (some ⟨b8, 0, none⟩)])] (by kernel_rfl) ?_
   refine RunsI.l [3, 9] [(3, .pointer (some ⟨b2, 0, none⟩)), (9, .agg #[.int .u8 0, .int .u16 t162, .slice A163 t165.length c164])] ?_
   refine RunsI.r ?_
   refine RegI.o (OpE.box 4 25 [.int .u8 0, .int .u16 0, .slice none 0 0] h166 (by kernel_rfl) (by kernel_rfl) ?_)
   intro w169 b170 h171 hb172 hn173
   refine RegI.o (OpE.storeBox 7 25 b170 0 (.agg #[.int .u8 0, .int .u16 t162, .slice A163 t165.length c164]) [.int .u8 0, .int .u16 t162, .slice A163 t165.length c164] h171 (by kernel_rfl) (by kernel_rfl) rfl (by kernel_rfl) (by kernel_rfl) (by kernel_rfl) ?_)
   intro w174 h175 hk176
   refine RegI.d ?_
   refine RunsI.begin 0 h175 rfl rfl ?_
   intro w177 h178 hk179
   refine RunsI.g 2 [.c 12, .c 13, .blk 1] ?_
   refine RunsI.r ?_
   refine RegI.o (OpE.loadBox 11 7 25 b170 0 (.agg #[.int .u8 0, .int .u16 t162, .slice A163 t165.length c164]) h178 (by kernel_rfl) (by kernel_rfl) rfl (by kernel_rfl) ?_)
   obtain ⟨⟨t184, t185⟩, hg183, h⟩ := of_bind h
   dsimp only at h
   refine RegI.o (OpE.call 12 (by kernel_rfl) 11 #[.agg #[.int .u8 0, .int .u16 t162, .slice A163 t165.length c164]] (by kernel_rfl) ((hexfile_Line_11_ok K (fun _ => False) w177  A163 c164 0 t162 t165 (fun _ hf => hf.elim) (h178.ownSl 5 rfl) hg183).mono ?_))
   rintro _ w180 ⟨rfl, hb181⟩
   refine ⟨_, rfl, ?_⟩
   have h182 := h178.call hb181
   refine RegI.p 5 [(3, .pointer (some ⟨b2, 0, none⟩)), (5, .string t184)] ?_
   refine RegI.d ?_
   refine RunsI.r ?_
   refine RegI.p 1 [(3, .pointer (some ⟨b2, 0, none⟩)), (15, .string t184)] ?_
   obtain ⟨hc186, h⟩ := of_cond0 h
   refine RegI.o (OpE.run 16 (by kernel_rfl) (run_cat (a := t184) (b := (⟨#[10]⟩ : ByteArray)) (by kernel_rfl) hc186) ?_)
   obtain ⟨hc187, h⟩ := of_cond0 h
   refine RegI.o (OpE.call 17 (by kernel_rfl) 43 #[.pointer (some ⟨b2, 0, none⟩), .string (t184 ++ (⟨#[10]⟩ : ByteArray))] (by kernel_rfl) ((strings_Builder_WriteString_43_ok 1 (t184 ++ (⟨#[10]⟩ : ByteArray)) h182 rfl hc187).mono ?_))
   rintro _ w188 ⟨rfl, A189, c190, h191⟩
   refine ⟨_, rfl, ?_⟩
   refine RegI.d ?_
   refine RunsI.g 1 [] ?_
   refine RunsI.roundEnd 0 h191 rfl rfl ?_
   intro w192 h193 hk194
   refine cont_mk ?_
   refine RegI.p 2 [(0, .func (.yield b13) #[] #[]), (61, .bool false)] ?_
   refine RegI.l [0, 61] [(0, .func (.yield b13) #[] #[]), (61, .bool false)] ?_
   exact hj202 (t161 ++ (t184 ++ (⟨#[10]⟩ : ByteArray)).data.toList) A189 c190 w192 h (h193.pick [0, 1, 2, 3, 6] (by decide))
  ·skip
   refine RegI.f 56 false hc168 ?_
   refine RegI.p 5 [(0, .func (.yield b13) #[] #[]), (61, .bool false)] ?_
   refine RegI.l [0, 61] [(0, .func (.yield b13) #[] #[]), (61, .bool false)] ?_
   exact hj202 t161 A159 c160 w167 h (h166.pick [0, 1, 2, 3, 6] (by decide))
end

/-! ### charabanc/charabanclaw33.awake (function 10) -/
section
def charabanclaw33_awake_10.post (M0 : Nat → Prop) (w0 : World) (r : Bool) : Ending → World → Prop := fun e w => e = .returned (.bool r) ∧ Below w0.heap.size w0 w
def charabanclaw33_awake_10.f (K : Nat) : Option Bool := (hexfile_Line_11.f K 0 0 ([62, 7] : List Int)).bind fun yt12 => (hexfile_Parse_14.f K (⟨#[58, 48, 50, 48, 48, 48, 48, 48, 48, 51, 69, 48, 55, 66, 57]⟩ : ByteArray)).bind fun yt18 => (hexfile_Read_19.f K (⟨#[58, 48, 50, 48, 48, 48, 48, 48, 48, 51, 69, 48, 55, 66, 57, 10, 58, 48, 48, 48, 48, 48, 48, 48, 49, 70, 70]⟩ : ByteArray)).bind fun yt38 => (hexfile_Read_19.f K (⟨#[58, 48, 50, 48, 48, 48, 48, 48, 48, 51, 69, 48, 55, 66, 57, 10]⟩ : ByteArray)).bind fun yt49 => cond ((ByteArray.toList yt12.1) == (ByteArray.toList (⟨#[58, 48, 50, 48, 48, 48, 48, 48, 48, 51, 69, 48, 55, 66, 57]⟩ : ByteArray))) (cond (yt12.2 == 0) (cond (yt18.2.2.2 == 0) (cond ((yt18.2.2.1.length : Int) == 2) (cond (yt38.2.1 == 0) (cond (yt38.2.2 == 0) (cond ((yt38.1.length : Int) == 2) ((hexfile_Show_21.f K yt38.1).bind fun t67 => cond ((ByteArray.toList t67) == (ByteArray.toList (⟨#[58, 48, 50, 48, 48, 48, 48, 48, 48, 51, 69, 48, 55, 66, 57, 10, 58, 48, 48, 48, 48, 48, 48, 48, 49, 70, 70, 10]⟩ : ByteArray))) (cond (yt49.2.1 == 332) (cond (yt49.2.2 == 2) ((hexfile_Sum_17.f K yt18.1 yt18.2.1 yt18.2.2.1).bind fun t75 => some (t75 == 185)) (some false)) (some false)) (some false)) (some false)) (some false)) (some false)) (some false)) (some false)) (some false)) (some false)
set_option maxRecDepth 100000 in
theorem charabanclaw33_awake_10_ok (K : Nat) (M0 : Nat → Prop) (w0 : World) (ho : ∀ b, M0 b → b < w0.heap.size) {r : Bool} (h : charabanclaw33_awake_10.f K = some r) :
  Calls Tryd.prog 10 #[] w0 (charabanclaw33_awake_10.post M0 w0 r) := by
 unfold charabanclaw33_awake_10.f at h
 have h0 : Holds M0 w0 w0 [] := Holds.start ho
 have h0 : Holds M0 w0 w0 [] := h0
 refine calls_of F10 rfl [] (by kernel_rfl) ?_
 refine RunsI.g 1 [.c 1, .c 2] ?_
 refine RunsI.r ?_
 refine RegI.p 1 [] ?_
 refine RegI.d ?_
 refine RunsI.g 1 [.c 3, .c 4] ?_
 refine RunsI.r ?_
 refine RegI.o (OpE.lit 12 5 [.int .u8 62, .int .u8 7] 2 h0 (by kernel_rfl) (by kernel_rfl) ?_)
 intro w1 b2 h3 hb4 hn5
 refine RegI.p 1 [(13, .agg #[.int .u8 0, .int .u16 0, .slice (some ⟨b2, 0, none⟩) (([62, 7] : List Int).length) 2])] ?_
 obtain ⟨⟨t12, t13⟩, hg11, h⟩ := of_bind h
 dsimp only at h
 have h6 := h3.boxOwn 0 rfl (Rp.int .u8) ([62, 7] : List Int) (cells_int _ _ _ _) (Nat.le_of_ble_eq_true (by kernel_rfl))
 have h7 := h6.release 0 rfl
 refine RegI.o (OpE.call 14 (by kernel_rfl) 11 #[.agg #[.int .u8 0, .int .u16 0, .slice (some ⟨b2, 0, none⟩) (([62, 7] : List Int).length) 2]] (by kernel_rfl) ((hexfile_Line_11_ok K _ w1  (some ⟨b2, 0, none⟩) 2 0 0 ([62, 7] : List Int) h7.old' (h7.get 0 rfl) hg11).mono ?_))
 rintro _ w8 ⟨rfl, hb9⟩
 refine ⟨_, rfl, ?_⟩
 have h10 := h7.call hb9
 refine RegI.p 5 [(1, .string t12), (2, .int .i64 t13)] ?_
 refine RegI.d ?_
 refine RunsI.g 1 [.c 5, .c 6] ?_
 refine RunsI.r ?_
 obtain ⟨⟨t18, t19, t20, t24⟩, hg17, h⟩ := of_bind h
 dsimp only at h
 refine RegI.o (OpE.call 18 (by kernel_rfl) 14 #[.string (⟨#[58, 48, 50, 48, 48, 48, 48, 48, 48, 51, 69, 48, 55, 66, 57]⟩ : ByteArray)] (by kernel_rfl) ((hexfile_Parse_14_ok K _ w8  (⟨#[58, 48, 50, 48, 48, 48, 48, 48, 48, 51, 69, 48, 55, 66, 57]⟩ : ByteArray) h10.old' hg17).mono ?_))
 rintro _ w14 ⟨A21, c22, rfl, hr25⟩
 refine ⟨_, rfl, ?_⟩
 have hb15 := hr25.below
 have h16 := h10.join hr25
 refine RegI.p 3 [(1, .string t12), (2, .int .i64 t13), (19, .agg #[.int .u8 t18, .int .u16 t19, .slice A21 t20.length c22]), (20, .int .i64 t24)] ?_
 refine RegI.o (OpE.box 3 25 [.int .u8 0, .int .u16 0, .slice none 0 0] h16 (by kernel_rfl) (by kernel_rfl) ?_)
 intro w26 b27 h28 hb29 hn30
 refine RegI.o (OpE.storeBox 2 25 b27 0 (.agg #[.int .u8 t18, .int .u16 t19, .slice A21 t20.length c22]) [.int .u8 t18, .int .u16 t19, .slice A21 t20.length c22] h28 (by kernel_rfl) (by kernel_rfl) rfl (by kernel_rfl) (by kernel_rfl) (by kernel_rfl) ?_)
 intro w31 h32 hk33
 refine RegI.p 1 [(1, .string t12), (2, .int .i64 t13), (3, .pointer (some ⟨b27, 0, none⟩)), (4, .int .i64 t24)] ?_
 refine RegI.d ?_
 refine RunsI.g 1 [.c 7, .c 8] ?_
 refine RunsI.r ?_
 obtain ⟨⟨t38, t42, t43⟩, hg37, h⟩ := of_bind h
 dsimp only at h
 refine RegI.o (OpE.call 22 (by kernel_rfl) 19 #[.string (⟨#[58, 48, 50, 48, 48, 48, 48, 48, 48, 51, 69, 48, 55, 66, 57, 10, 58, 48, 48, 48, 48, 48, 48, 48, 49, 70, 70]⟩ : ByteArray)] (by kernel_rfl) ((hexfile_Read_19_ok K _ w31  (⟨#[58, 48, 50, 48, 48, 48, 48, 48, 48, 51, 69, 48, 55, 66, 57, 10, 58, 48, 48, 48, 48, 48, 48, 48, 49, 70, 70]⟩ : ByteArray) h32.old' hg37).mono ?_))
 rintro _ w34 ⟨A39, c40, rfl, hr44⟩
 refine ⟨_, rfl, ?_⟩
 have hb35 := hr44.below
 have h36 := h32.join hr44
 refine RegI.p 7 [(1, .string t12), (2, .int .i64 t13), (3, .pointer (some ⟨b27, 0, none⟩)), (4, .int .i64 t24), (5, .slice A39 t38.length c40), (6, .int .i64 t42), (7, .int .i64 t43)] ?_
 refine RegI.d ?_
 refine RunsI.g 1 [.c 9, .c 10] ?_
 refine RunsI.r ?_
 obtain ⟨⟨t49, t53, t54⟩, hg48, h⟩ := of_bind h
 dsimp only at h
 refine RegI.o (OpE.call 27 (by kernel_rfl) 19 #[.string (⟨#[58, 48, 50, 48, 48, 48, 48, 48, 48, 51, 69, 48, 55, 66, 57, 10]⟩ : ByteArray)] (by kernel_rfl) ((hexfile_Read_19_ok K _ w34  (⟨#[58, 48, 50, 48, 48, 48, 48, 48, 48, 51, 69, 48, 55, 66, 57, 10]⟩ : ByteArray) h36.old' hg48).mono ?_))
 rintro _ w45 ⟨A50, c51, rfl, hr55⟩
 refine ⟨_, rfl, ?_⟩
 have hb46 := hr55.below
 have h47 := h36.join hr55
 refine RegI.p 7 [(1, .string t12), (2, .int .i64 t13), (3, .pointer (some ⟨b27, 0, none⟩)), (4, .int .i64 t24), (5, .slice A39 t38.length c40), (6, .int .i64 t42), (7, .int .i64 t43), (9, .int .i64 t53), (10, .int .i64 t54)] ?_
 refine RegI.d ?_
 refine RunsI.g 1 [.c 11, .c 12] ?_
 refine RunsI.r ?_
 refine RegI.p 3 [(2, .int .i64 t13), (3, .pointer (some ⟨b27, 0, none⟩)), (4, .int .i64 t24), (5, .slice A39 t38.length c40), (6, .int .i64 t42), (7, .int .i64 t43), (9, .int .i64 t53), (10, .int .i64 t54), (33, .bool ((ByteArray.toList t12) == (ByteArray.toList (⟨#[58, 48, 50, 48, 48, 48, 48, 48, 48, 51, 69, 48, 55, 66, 57]⟩ : ByteArray))))] ?_
 rcases of_cond h with ⟨hc56, h⟩ | ⟨hc56, h⟩
 ·skip
  refine RegI.f 33 true hc56 ?_
  refine RegI.p 4 [(3, .pointer (some ⟨b27, 0, none⟩)), (4, .int .i64 t24), (5, .slice A39 t38.length c40), (6, .int .i64 t42), (7, .int .i64 t43), (9, .int .i64 t53), (10, .int .i64 t54), (37, .bool (t13 == 0))] ?_
  rcases of_cond h with ⟨hc57, h⟩ | ⟨hc57, h⟩
  ·skip
   refine RegI.f 37 true hc57 ?_
   refine RegI.p 4 [(3, .pointer (some ⟨b27, 0, none⟩)), (5, .slice A39 t38.length c40), (6, .int .i64 t42), (7, .int .i64 t43), (9, .int .i64 t53), (10, .int .i64 t54), (41, .bool (t24 == 0))] ?_
   rcases of_cond h with ⟨hc58, h⟩ | ⟨hc58, h⟩
   ·skip
    refine RegI.f 41 true hc58 ?_
    refine RegI.p 1 [(3, .pointer (some ⟨b27, 0, none⟩)), (5, .slice A39 t38.length c40), (6, .int .i64 t42), (7, .int .i64 t43), (9, .int .i64 t53), (10, .int .i64 t54), (41, .bool true), (42, .pointer (some ⟨b27, 2, none⟩))] ?_
    refine RegI.o (OpE.loadBox 43 2 23 b27 2 (.slice A21 t20.length c22) h47 (by kernel_rfl) (by kernel_rfl) rfl (by kernel_rfl) ?_)
    refine RegI.p 4 [(3, .pointer (some ⟨b27, 0, none⟩)), (5, .slice A39 t38.length c40), (6, .int .i64 t42), (7, .int .i64 t43), (9, .int .i64 t53), (10, .int .i64 t54), (47, .bool ((t20.length : Int) == 2))] ?_
    rcases of_cond h with ⟨hc59, h⟩ | ⟨hc59, h⟩
    ·skip
     refine RegI.f 47 true hc59 ?_
     refine RegI.p 4 [(3, .pointer (some ⟨b27, 0, none⟩)), (5, .slice A39 t38.length c40), (7, .int .i64 t43), (9, .int .i64 t53), (10, .int .i64 t54), (51, .bool (t42 == 0))] ?_
     rcases of_cond h with ⟨hc60, h⟩ | ⟨hc60, h⟩
     ·skip
      refine RegI.f 51 true hc60 ?_
      refine RegI.p 4 [(3, .pointer (some ⟨b27, 0, none⟩)), (5, .slice A39 t38.length c40), (9, .int .i64 t53), (10, .int .i64 t54), (55, .bool (t43 == 0))] ?_
      rcases of_cond h with ⟨hc61, h⟩ | ⟨hc61, h⟩
      ·skip
       refine RegI.f 55 true hc61 ?_
       refine RegI.p 5 [(3, .pointer (some ⟨b27, 0, none⟩)), (5, .slice A39 t38.length c40), (9, .int .i64 t53), (10, .int .i64 t54), (60, .bool ((t38.length : Int) == 2))] ?_
       rcases of_cond h with ⟨hc62, h⟩ | ⟨hc62, h⟩
       ·skip
        refine RegI.f 60 true hc62 ?_
        refine RegI.p 1 [(3, .pointer (some ⟨b27, 0, none⟩)), (9, .int .i64 t53), (10, .int .i64 t54), (60, .bool true), (61, .slice A39 t38.length c40)] ?_
        obtain ⟨t67, hg66, h⟩ := of_bind h
        refine RegI.o (OpE.call 62 (by kernel_rfl) 21 #[.slice A39 t38.length c40] (by kernel_rfl) ((hexfile_Show_21_ok K _ w45  A39 c40 t38 h47.old' (h47.get 3 rfl) hg66).mono ?_))
        rintro _ w63 ⟨rfl, hb64⟩
        refine ⟨_, rfl, ?_⟩
        have h65 := h47.call hb64
        refine RegI.p 3 [(3, .pointer (some ⟨b27, 0, none⟩)), (9, .int .i64 t53), (10, .int .i64 t54), (65, .bool ((ByteArray.toList t67) == (ByteArray.toList (⟨#[58, 48, 50, 48, 48, 48, 48, 48, 48, 51, 69, 48, 55, 66, 57, 10, 58, 48, 48, 48, 48, 48, 48, 48, 49, 70, 70, 10]⟩ : ByteArray))))] ?_
        rcases of_cond h with ⟨hc68, h⟩ | ⟨hc68, h⟩
        ·skip
         refine RegI.f 65 true hc68 ?_
         refine RegI.p 4 [(3, .pointer (some ⟨b27, 0, none⟩)), (10, .int .i64 t54), (69, .bool (t53 == 332))] ?_
         rcases of_cond h with ⟨hc69, h⟩ | ⟨hc69, h⟩
         ·skip
          refine RegI.f 69 true hc69 ?_
          refine RegI.p 4 [(3, .pointer (some ⟨b27, 0, none⟩)), (73, .bool (t54 == 2))] ?_
          rcases of_cond h with ⟨hc70, h⟩ | ⟨hc70, h⟩
          ·skip
           refine RegI.f 73 true hc70 ?_
           refine RegI.o (OpE.loadBox 74 2 25 b27 0 (.agg #[.int .u8 t18, .int .u16 t19, .slice A21 t20.length c22]) h65 (by kernel_rfl) (by kernel_rfl) rfl (by kernel_rfl) ?_)
           obtain ⟨t75, hg74, h⟩ := of_bind h
           refine RegI.o (OpE.call 75 (by kernel_rfl) 17 #[.agg #[.int .u8 t18, .int .u16 t19, .slice A21 t20.length c22]] (by kernel_rfl) ((hexfile_Sum_17_ok K _ w63  A21 c22 t18 t19 t20 h65.old' (h65.get 1 rfl) hg74).mono ?_))
           rintro _ w71 ⟨rfl, hb72⟩
           refine ⟨_, rfl, ?_⟩
           have h73 := h65.call hb72
           refine RegI.p 3 [(0, .bool (t75 == 185))] ?_
           refine RegI.d ?_
           refine RunsI.t (.bool (t75 == 185)) ?_
           obtain rfl := Option.some.inj h
           exact ⟨rfl, h73.below⟩
          ·skip
           refine RegI.f 73 false hc70 ?_
           refine RegI.p 5 [(0, .bool false)] ?_
           refine RegI.d ?_
           refine RunsI.t (.bool false) ?_
           obtain rfl := Option.some.inj h
           exact ⟨rfl, h65.below⟩
         ·skip
          refine RegI.f 69 false hc69 ?_
          refine RegI.p 9 [(0, .bool false)] ?_
          refine RegI.d ?_
          refine RunsI.t (.bool false) ?_
          obtain rfl := Option.some.inj h
          exact ⟨rfl, h65.below⟩
        ·skip
         refine RegI.f 65 false hc68 ?_
         refine RegI.p 13 [(0, .bool false)] ?_
         refine RegI.d ?_
         refine RunsI.t (.bool false) ?_
         obtain rfl := Option.some.inj h
         exact ⟨rfl, h65.below⟩
       ·skip
        refine RegI.f 60 false hc62 ?_
        refine RegI.p 18 [(0, .bool false)] ?_
        refine RegI.d ?_
        refine RunsI.t (.bool false) ?_
        obtain rfl := Option.some.inj h
        exact ⟨rfl, h47.below⟩
      ·skip
       refine RegI.f 55 false hc61 ?_
       refine RegI.p 23 [(0, .bool false)] ?_
       refine RegI.d ?_
       refine RunsI.t (.bool false) ?_
       obtain rfl := Option.some.inj h
       exact ⟨rfl, h47.below⟩
     ·skip
      refine RegI.f 51 false hc60 ?_
      refine RegI.p 27 [(0, .bool false)] ?_
      refine RegI.d ?_
      refine RunsI.t (.bool false) ?_
      obtain rfl := Option.some.inj h
      exact ⟨rfl, h47.below⟩
    ·skip
     refine RegI.f 47 false hc59 ?_
     refine RegI.p 31 [(0, .bool false)] ?_
     refine RegI.d ?_
     refine RunsI.t (.bool false) ?_
     obtain rfl := Option.some.inj h
     exact ⟨rfl, h47.below⟩
   ·skip
    refine RegI.f 41 false hc58 ?_
    refine RegI.p 37 [(0, .bool false)] ?_
    refine RegI.d ?_
    refine RunsI.t (.bool false) ?_
    obtain rfl := Option.some.inj h
    exact ⟨rfl, h47.below⟩
  ·skip
   refine RegI.f 37 false hc57 ?_
   refine RegI.p 41 [(0, .bool false)] ?_
   refine RegI.d ?_
   refine RunsI.t (.bool false) ?_
   obtain rfl := Option.some.inj h
   exact ⟨rfl, h47.below⟩
 ·skip
  refine RegI.f 33 false hc56 ?_
  refine RegI.p 45 [(0, .bool false)] ?_
  refine RegI.d ?_
  refine RunsI.t (.bool false) ?_
  obtain rfl := Option.some.inj h
  exact ⟨rfl, h47.below⟩
end

/-! ### charabanc/charabancref01.Hi (function 67) -/
section
def charabancref01_Hi_67.post (M0 : Nat → Prop) (w0 : World) (r : Int) : Ending → World → Prop := fun e w => e = .returned (.int .u8 r) ∧ Below w0.heap.size w0 w
def charabancref01_Hi_67.f (K : Nat) (p0 : Int) : Option Int := some (IntKind.wrap .u8 (IntKind.wrap .i64 (Int.tdiv (IntKind.wrap .i64 p0) 256)))
set_option maxRecDepth 100000 in
theorem charabancref01_Hi_67_ok (K : Nat) (M0 : Nat → Prop) (w0 : World) (p0 : Int) (ho : ∀ b, M0 b → b < w0.heap.size) {r : Int} (h : charabancref01_Hi_67.f K p0 = some r) :
  Calls Tryd.prog 67 #[.int .u16 p0] w0 (charabancref01_Hi_67.post M0 w0 r) := by
 unfold charabancref01_Hi_67.f at h
 have h0 : Holds M0 w0 w0 [] := Holds.start ho
 have h0 : Holds M0 w0 w0 [] := h0
 refine calls_of F67 rfl [.int .u16 p0] (by kernel_rfl) ?_
 refine RunsI.g 1 [.c 1, .c 2] ?_
 refine RunsI.r ?_
 refine RegI.p 1 [(0, .int .u16 p0)] ?_
 refine RegI.d ?_
 refine RunsI.g 1 [.c 3, .c 4] ?_
 refine RunsI.r ?_
 refine RegI.p 5 [(2, .int .u8 (IntKind.wrap .u8 (IntKind.wrap .i64 (Int.tdiv (IntKind.wrap .i64 p0) 256))))] ?_
 refine RegI.d ?_
 refine RunsI.t (.int .u8 (IntKind.wrap .u8 (IntKind.wrap .i64 (Int.tdiv (IntKind.wrap .i64 p0) 256)))) ?_
 obtain rfl := Option.some.inj h
 exact ⟨rfl, h0.below⟩
end

/-! ### charabanc/charabancref01.Lo (function 68) -/
section
def charabancref01_Lo_68.post (M0 : Nat → Prop) (w0 : World) (r : Int) : Ending → World → Prop := fun e w => e = .returned (.int .u8 r) ∧ Below w0.heap.size w0 w
def charabancref01_Lo_68.f (K : Nat) (p0 : Int) : Option Int := some (IntKind.wrap .u8 (Int.tmod (IntKind.wrap .i64 p0) 256))
set_option maxRecDepth 100000 in
theorem charabancref01_Lo_68_ok (K : Nat) (M0 : Nat → Prop) (w0 : World) (p0 : Int) (ho : ∀ b, M0 b → b < w0.heap.size) {r : Int} (h : charabancref01_Lo_68.f K p0 = some r) :
  Calls Tryd.prog 68 #[.int .u16 p0] w0 (charabancref01_Lo_68.post M0 w0 r) := by
 unfold charabancref01_Lo_68.f at h
 have h0 : Holds M0 w0 w0 [] := Holds.start ho
 have h0 : Holds M0 w0 w0 [] := h0
 refine calls_of F68 rfl [.int .u16 p0] (by kernel_rfl) ?_
 refine RunsI.g 1 [.c 1, .c 2] ?_
 refine RunsI.r ?_
 refine RegI.p 1 [(0, .int .u16 p0)] ?_
 refine RegI.d ?_
 refine RunsI.g 1 [.c 3, .c 4] ?_
 refine RunsI.r ?_
 refine RegI.p 5 [(2, .int .u8 (IntKind.wrap .u8 (Int.tmod (IntKind.wrap .i64 p0) 256)))] ?_
 refine RegI.d ?_
 refine RunsI.t (.int .u8 (IntKind.wrap .u8 (Int.tmod (IntKind.wrap .i64 p0) 256))) ?_
 obtain rfl := Option.some.inj h
 exact ⟨rfl, h0.below⟩
end

/-! ### charabanc/charabancref33.raw (function 31) -/
section
def charabancref33_raw_31.post (M0 : Nat → Prop) (w0 : World) (r : (List Int)) : Ending → World → Prop := fun e w => ∃ (A1 : Option Addr) (c1 : Nat), e = .returned (.slice A1 r.length c1) ∧ Holds M0 w0 w [own (Rp.int .u8) 5 (.slice A1 r.length c1) r]
def charabancref33_raw_31.f (K : Nat) (p0_0 : Int) (p0_1 : Int) (p0_2 : List Int) : Option (List Int) := (charabancref01_Hi_67.f K p0_1).bind fun t11 => (charabancref01_Lo_68.f K p0_1).bind fun t13 => cond (mayBe (([(IntKind.wrap .u8 (Int.tmod (p0_2.length : Int) 256)), t11, t13, p0_0] : List Int).length + p0_2.length) 1) (some (([(IntKind.wrap .u8 (Int.tmod (p0_2.length : Int) 256)), t11, t13, p0_0] : List Int) ++ p0_2)) none
set_option maxRecDepth 100000 in
theorem charabancref33_raw_31_ok (K : Nat) (M0 : Nat → Prop) (w0 : World) (pA0_2 : Option Addr) (pc0_2 : Nat) (p0_0 : Int) (p0_1 : Int) (p0_2 : List Int) (ho : ∀ b, M0 b → b < w0.heap.size) (hs0_2 : Sl (Rp.int .u8) w0 M0 (.slice pA0_2 p0_2.length pc0_2) p0_2) {r : (List Int)} (h : charabancref33_raw_31.f K p0_0 p0_1 p0_2 = some r) :
  Calls Tryd.prog 31 #[.agg #[.int .u8 p0_0, .int .u16 p0_1, .slice pA0_2 p0_2.length pc0_2]] w0 (charabancref33_raw_31.post M0 w0 r) := by
 unfold charabancref33_raw_31.f at h
 have h0 : Holds M0 w0 w0 [] := Holds.start ho
 have h00_2 := h0.addSl (Rp.int .u8) (.slice pA0_2 p0_2.length pc0_2) p0_2 (hs0_2.mono (fun _ _ hm => hm.elim id (fun hm => absurd hm (by simp [mines, sl]))))
 have h0 : Holds M0 w0 w0 [sl (Rp.int .u8) (.slice pA0_2 p0_2.length pc0_2) p0_2] := h00_2
 refine calls_of F31 rfl [.agg #[.int .u8 p0_0, .int .u16 p0_1, .slice pA0_2 p0_2.length pc0_2]] (by kernel_rfl) ?_
 refine RunsI.g 1 [.c 1, .c 2] ?_
 refine RunsI.r ?_
 refine RegI.o (OpE.box 1 31 [.int .u8 p0_0, .int .u16 p0_1, .slice pA0_2 p0_2.length pc0_2] h0 (by kernel_rfl) (by kernel_rfl) ?_)
 intro w1 b2 h3 hb4 hn5
 refine RegI.p 1 [(1, .pointer (some ⟨b2, 0, none⟩))] ?_
 refine RegI.d ?_
 refine RunsI.g 1 [.c 3, .c 4] ?_
 refine RunsI.any 15 (by kernel_rfl) (by kernel_rfl) (by kernel_rfl) (Kp ([] : List Nat) (World.drew w1)) ?_
 have h7 := h3.drew
 generalize World.drew w1 = w6 at h7 ⊢
 have hS8 := Kp.refl ([] : List Nat) w6
 refine AnyE.pure 0 4 (.pointer (some ⟨b2, 2, none⟩)) (by kernel_rfl) hS8 (fun _ => by kernel_rfl) ?_
 refine AnyE.loadBox 1 5 1 23 b2 2 (.slice pA0_2 p0_2.length pc0_2) [] h7 rfl (by kernel_rfl) hS8 rfl rfl (by kernel_rfl) (by kernel_rfl) ?_
 refine AnyE.pure 2 6 (.int .i64 (p0_2.length : Int)) (by kernel_rfl) hS8 (fun _ => by kernel_rfl) ?_
 refine AnyE.pure 3 7 (.int .i64 (Int.tmod (p0_2.length : Int) 256)) (by kernel_rfl) hS8 (fun _ => by kernel_rfl) ?_
 refine AnyE.pure 4 8 (.int .u8 (IntKind.wrap .u8 (Int.tmod (p0_2.length : Int) 256))) (by kernel_rfl) hS8 (fun _ => by kernel_rfl) ?_
 refine AnyE.pure 5 9 (.pointer (some ⟨b2, 1, none⟩)) (by kernel_rfl) hS8 (fun _ => by kernel_rfl) ?_
 refine AnyE.loadBox 6 10 1 22 b2 1 (.int .u16 p0_1) [] h7 rfl (by kernel_rfl) hS8 rfl rfl (by kernel_rfl) (by kernel_rfl) ?_
 obtain ⟨t11, hg10, h⟩ := of_bind h
 refine AnyE.call 7 11 (.int .u8 t11) 67 #[.int .u16 p0_1] (by kernel_rfl) hS8 (fun _ => by kernel_rfl) (fun w hk => charabancref01_Hi_67_ok K (fun _ => False) w p0_1 (fun _ hf => hf.elim) hg10) ?_
 refine AnyE.pure 8 12 (.pointer (some ⟨b2, 1, none⟩)) (by kernel_rfl) hS8 (fun _ => by kernel_rfl) ?_
 refine AnyE.loadBox 9 13 1 22 b2 1 (.int .u16 p0_1) [] h7 rfl (by kernel_rfl) hS8 rfl rfl (by kernel_rfl) (by kernel_rfl) ?_
 obtain ⟨t13, hg12, h⟩ := of_bind h
 refine AnyE.call 10 14 (.int .u8 t13) 68 #[.int .u16 p0_1] (by kernel_rfl) hS8 (fun _ => by kernel_rfl) (fun w hk => charabancref01_Lo_68_ok K (fun _ => False) w p0_1 (fun _ hf => hf.elim) hg12) ?_
 refine AnyE.pure 11 15 (.pointer (some ⟨b2, 0, none⟩)) (by kernel_rfl) hS8 (fun _ => by kernel_rfl) ?_
 refine AnyE.loadBox 12 16 1 5 b2 0 (.int .u8 p0_0) [] h7 rfl (by kernel_rfl) hS8 rfl rfl (by kernel_rfl) (by kernel_rfl) ?_
 refine AnyE.one 13 (by kernel_rfl) (fun w14 hu15 => ?_)
 have h16 := h7.call hu15
 have hS17 := hS8.up hu15
 refine OpE.lit 17 5 [.int .u8 (IntKind.wrap .u8 (Int.tmod (p0_2.length : Int) 256)), .int .u8 t11, .int .u8 t13, .int .u8 p0_0] 4 h16 (by kernel_rfl) (by kernel_rfl) ?_
 intro w18 b19 h20 hb21 hn22
 have hn23 := Nat.le_trans hS17.1 hn22
 have hS24 := hS17.up hb21
 refine ⟨hS24, ?_⟩
 refine AnyE.pure 14 3 (.slice (some ⟨b19, 0, none⟩) (([(IntKind.wrap .u8 (Int.tmod (p0_2.length : Int) 256)), t11, t13, p0_0] : List Int).length) 4) (by kernel_rfl) hS24 (fun _ => by kernel_rfl) ?_
 refine AnyE.done (by kernel_rfl) (fun w25 hu26 => ?_)
 have h27 := h20.call hu26
 refine RunsI.l [1, 3] [(1, .pointer (some ⟨b2, 0, none⟩)), (3, .slice (some ⟨b19, 0, none⟩) (([(IntKind.wrap .u8 (Int.tmod (p0_2.length : Int) 256)), t11, t13, p0_0] : List Int).length) 4)] ?_
 refine RunsI.g 1 [.c 5, .c 6] ?_
 refine RunsI.r ?_
 refine RegI.p 2 [(18, .slice (some ⟨b19, 0, none⟩) (([(IntKind.wrap .u8 (Int.tmod (p0_2.length : Int) 256)), t11, t13, p0_0] : List Int).length) 4), (19, .pointer (some ⟨b2, 2, none⟩))] ?_
 refine RegI.o (OpE.loadBox 20 1 23 b2 2 (.slice pA0_2 p0_2.length pc0_2) h27 (by kernel_rfl) (by kernel_rfl) rfl (by kernel_rfl) ?_)
 have h28 := h27.boxOwn 2 rfl (Rp.int .u8) ([(IntKind.wrap .u8 (Int.tmod (p0_2.length : Int) 256)), t11, t13, p0_0] : List Int) (cells_int _ _ _ _) (Nat.le_of_ble_eq_true (by kernel_rfl))
 obtain ⟨hc29, h⟩ := of_cond0 h
 refine RegI.o (OpE.appendRow 21 2 23 5 1 (ys := p0_2) h28 (by kernel_rfl) (by kernel_rfl) (by kernel_rfl) rfl (h28.rdSl 0 rfl) hc29 ?_)
 intro w30 A31 c32 h33 hk34
 refine RegI.p 1 [(2, .slice A31 ((([(IntKind.wrap .u8 (Int.tmod (p0_2.length : Int) 256)), t11, t13, p0_0] : List Int) ++ p0_2).length) c32)] ?_
 refine RegI.d ?_
 refine RunsI.t (.slice A31 ((([(IntKind.wrap .u8 (Int.tmod (p0_2.length : Int) 256)), t11, t13, p0_0] : List Int) ++ p0_2).length) c32) ?_
 obtain rfl := Option.some.inj h
 exact ⟨A31, c32, rfl, h33.pick [2] (by decide)⟩
end

/-! ### charabanc/charabancref33.Sum (function 18) -/
section
def charabancref33_Sum_18.post (M0 : Nat → Prop) (w0 : World) (r : Int) : Ending → World → Prop := fun e w => e = .returned (.int .u8 r) ∧ Below w0.heap.size w0 w
def charabancref33_Sum_18.l0 (K : Nat) (p0_0 : Int) (p0_1 : Int) (p0_2 : List Int) (t18 : List Int) : Nat → Int → Int → Option Int
 | 0, _, _ => none
 | k + 1, t15, t19 => cond (decide (t19 < (t18.length : Int))) (cond (inR t19 t18.length) (charabancref33_Sum_18.l0 K p0_0 p0_1 p0_2 t18 k (IntKind.wrap .i64 (t15 + (IntKind.wrap .i64 (rdD t18 t19)))) (IntKind.wrap .i64 (t19 + 1))) none) (some t15)
set_option maxRecDepth 100000 in
theorem charabancref33_Sum_18.l0_ok (K : Nat) (M0 : Nat → Prop) (w0 : World) (pA0_2 : Option Addr) (pc0_2 : Nat) (p0_0 : Int) (p0_1 : Int) (p0_2 : List Int) (t18 : List Int) (A16 : Option Addr) (c17 : Nat) (R : Ending → World → Prop) (x : Int) (hk0 : ∀ (t24 : Int) (w1 : World), x = t24 → Holds M0 w0 w1 [] → RunsI F18 [.c 21] [(3, .int .i64 t24)] w1 R) :
  ∀ (k : Nat) (t15 : Int) (t19 : Int) (w : World), charabancref33_Sum_18.l0 K p0_0 p0_1 p0_2 t18 k t15 t19 = some x → Holds M0 w0 w [own (Rp.int .u8) 5 (.slice A16 t18.length c17) t18] → RunsI F18 [.c 11, .lp 11, .blk 0, .c 21] [(3, .int .i64 t15), (4, .slice A16 t18.length c17), (5, .int .i64 t19)] w R := by
 intro k
 induction k with
 | zero => intro t15 t19 w h hH; exact absurd h (by simp [charabancref33_Sum_18.l0])
 | succ k ih =>
  intro t15 t19 w h hH
  rw [charabancref33_Sum_18.l0.eq_2] at h
  refine RunsI.g 1 [.c 12, .c 17, .lp 11, .blk 0, .c 21] ?_
  refine RunsI.g 1 [.c 13, .c 14, .c 17, .lp 11, .blk 0, .c 21] ?_
  refine RunsI.r ?_
  refine RegI.p 4 [(3, .int .i64 t15), (4, .slice A16 t18.length c17), (5, .int .i64 t19), (11, .bool (decide (t19 < (t18.length : Int))))] ?_
  refine RegI.d ?_
  rcases of_cond h with ⟨hc20, h⟩ | ⟨hc20, h⟩
  ·skip
   refine RunsI.f 11 true hc20 ?_
   refine RunsI.b true 15 ?_
   refine RunsI.g 1 [.c 17, .lp 11, .blk 0, .c 21] ?_
   refine RunsI.g 2 [.c 19, .blk 1, .c 20, .lp 11, .blk 0, .c 21] ?_
   refine RunsI.r ?_
   refine RegI.p 3 [(4, .slice A16 t18.length c17), (5, .int .i64 t19), (14, .int .i64 t15), (15, .slice A16 t18.length c17), (16, .int .i64 t19)] ?_
   obtain ⟨hc21, h⟩ := of_cond0 h
   refine RegI.o (OpE.idxOwnA 17 0 23 5 t19 hH (by kernel_rfl) rfl (by kernel_rfl) (by kernel_rfl) hc21 ?_)
   refine RegI.o (OpE.loadOwnA 18 0 5 5 t19 0 (o := (Int.toNat t19) * 1 + 0) hH (by kernel_rfl) rfl (by kernel_rfl) (by kernel_rfl) hc21 (fun cs22 hk23 => ?_))
   obtain rfl := hk23
   refine ⟨.int .u8 (rdD t18 t19), by kernel_rfl, ?_⟩
   refine RegI.p 3 [(3, .int .i64 (IntKind.wrap .i64 (t15 + (IntKind.wrap .i64 (rdD t18 t19))))), (4, .slice A16 t18.length c17), (5, .int .i64 t19)] ?_
   refine RegI.d ?_
   refine RunsI.g 1 [.c 20, .lp 11, .blk 0, .c 21] ?_
   refine RunsI.r ?_
   refine RegI.p 3 [(3, .int .i64 (IntKind.wrap .i64 (t15 + (IntKind.wrap .i64 (rdD t18 t19))))), (4, .slice A16 t18.length c17), (5, .int .i64 (IntKind.wrap .i64 (t19 + 1)))] ?_
   refine RegI.d ?_
   refine RunsI.g 1 [.c 11, .lp 11, .blk 0, .c 21] ?_
   refine RunsI.l [3, 4, 5] [(3, .int .i64 (IntKind.wrap .i64 (t15 + (IntKind.wrap .i64 (rdD t18 t19))))), (4, .slice A16 t18.length c17), (5, .int .i64 (IntKind.wrap .i64 (t19 + 1)))] ?_
   exact ih (IntKind.wrap .i64 (t15 + (IntKind.wrap .i64 (rdD t18 t19)))) (IntKind.wrap .i64 (t19 + 1)) w h (hH.pick [0] (by decide))
  ·skip
   refine RunsI.f 11 false hc20 ?_
   refine RunsI.b false 16 ?_
   refine RunsI.g 1 [.c 21] ?_
   refine RunsI.l [3] [(3, .int .i64 t15)] ?_
   exact hk0 t15 w (Option.some.inj h).symm (hH.pick [] (by decide))
def charabancref33_Sum_18.f (K : Nat) (p0_0 : Int) (p0_1 : Int) (p0_2 : List Int) : Option Int := (charabancref33_raw_31.f K p0_0 p0_1 p0_2).bind fun t10 => (charabancref33_Sum_18.l0 K p0_0 p0_1 p0_2 t10 K 0 0).bind (fun t27 => some (IntKind.wrap .u8 (Int.tmod (IntKind.wrap .i64 (256 - (Int.tmod t27 256))) 256)))
set_option maxRecDepth 100000 in
theorem charabancref33_Sum_18_ok (K : Nat) (M0 : Nat → Prop) (w0 : World) (pA0_2 : Option Addr) (pc0_2 : Nat) (p0_0 : Int) (p0_1 : Int) (p0_2 : List Int) (ho : ∀ b, M0 b → b < w0.heap.size) (hs0_2 : Sl (Rp.int .u8) w0 M0 (.slice pA0_2 p0_2.length pc0_2) p0_2) {r : Int} (h : charabancref33_Sum_18.f K p0_0 p0_1 p0_2 = some r) :
  Calls Tryd.prog 18 #[.agg #[.int .u8 p0_0, .int .u16 p0_1, .slice pA0_2 p0_2.length pc0_2]] w0 (charabancref33_Sum_18.post M0 w0 r) := by
 unfold charabancref33_Sum_18.f at h
 have h0 : Holds M0 w0 w0 [] := Holds.start ho
 have h00_2 := h0.addSl (Rp.int .u8) (.slice pA0_2 p0_2.length pc0_2) p0_2 (hs0_2.mono (fun _ _ hm => hm.elim id (fun hm => absurd hm (by simp [mines, sl]))))
 have h0 : Holds M0 w0 w0 [sl (Rp.int .u8) (.slice pA0_2 p0_2.length pc0_2) p0_2] := h00_2
 refine calls_of F18 rfl [.agg #[.int .u8 p0_0, .int .u16 p0_1, .slice pA0_2 p0_2.length pc0_2]] (by kernel_rfl) ?_
 refine RunsI.g 1 [.c 1, .c 2] ?_
 refine RunsI.r ?_
 refine RegI.o (OpE.box 1 31 [.int .u8 p0_0, .int .u16 p0_1, .slice pA0_2 p0_2.length pc0_2] h0 (by kernel_rfl) (by kernel_rfl) ?_)
 intro w1 b2 h3 hb4 hn5
 refine RegI.p 1 [(1, .pointer (some ⟨b2, 0, none⟩))] ?_
 refine RegI.d ?_
 refine RunsI.g 1 [.c 3, .c 4] ?_
 refine RunsI.r ?_
 refine RegI.p 1 [(1, .pointer (some ⟨b2, 0, none⟩)), (3, .int .i64 0)] ?_
 refine RegI.d ?_
 refine RunsI.g 1 [.c 5, .c 6] ?_
 refine RunsI.r ?_
 refine RegI.o (OpE.loadBox 6 1 31 b2 0 (.agg #[.int .u8 p0_0, .int .u16 p0_1, .slice pA0_2 p0_2.length pc0_2]) h3 (by kernel_rfl) (by kernel_rfl) rfl (by kernel_rfl) ?_)
 obtain ⟨t10, hg9, h⟩ := of_bind h
 refine RegI.o (OpE.call 7 (by kernel_rfl) 31 #[.agg #[.int .u8 p0_0, .int .u16 p0_1, .slice pA0_2 p0_2.length pc0_2]] (by kernel_rfl) ((charabancref33_raw_31_ok K _ w1  pA0_2 pc0_2 p0_0 p0_1 p0_2 h3.old' (h3.get 0 rfl) hg9).mono ?_))
 rintro _ w6 ⟨A11, c12, rfl, hr14⟩
 refine ⟨_, rfl, ?_⟩
 have hb7 := hr14.below
 have h8 := h3.join hr14
 refine RegI.p 1 [(3, .int .i64 0), (4, .slice A11 t10.length c12)] ?_
 refine RegI.d ?_
 refine RunsI.g 2 [.c 8, .c 9, .c 21] ?_
 refine RunsI.r ?_
 refine RegI.p 1 [(3, .int .i64 0), (4, .slice A11 t10.length c12), (5, .int .i64 0)] ?_
 refine RegI.d ?_
 refine RunsI.g 2 [.c 11, .lp 11, .blk 0, .c 21] ?_
 obtain ⟨x25, hx26, h⟩ := of_bind h
 refine RunsI.l [3, 4, 5] [(3, .int .i64 0), (4, .slice A11 t10.length c12), (5, .int .i64 0)] ?_
 refine charabancref33_Sum_18.l0_ok K M0 w0 pA0_2 pc0_2 p0_0 p0_1 p0_2 t10 A11 c12 _ x25 ?_ K 0 0 w6 hx26 (h8.pick [2] (by decide))
 ·intro t27 w29 hq30 h28
  (try rw [hq30] at h)
  refine RunsI.g 1 [.c 22, .c 23] ?_
  refine RunsI.r ?_
  refine RegI.p 6 [(2, .int .u8 (IntKind.wrap .u8 (Int.tmod (IntKind.wrap .i64 (256 - (Int.tmod t27 256))) 256)))] ?_
  refine RegI.d ?_
  refine RunsI.t (.int .u8 (IntKind.wrap .u8 (Int.tmod (IntKind.wrap .i64 (256 - (Int.tmod t27 256))) 256))) ?_
  obtain rfl := Option.some.inj h
  exact ⟨rfl, h28.below⟩
end

/-! ### charabanc/charabancref33.two (function 32) -/
section
def charabancref33_two_32.post (M0 : Nat → Prop) (w0 : World) (r : ByteArray) : Ending → World → Prop := fun e w => e = .returned (.string r) ∧ Below w0.heap.size w0 w
def charabancref33_two_32.f (K : Nat) (p0 : Int) : Option ByteArray := cond (cutR (IntKind.wrap .u8 (Int.tdiv p0 16)) (IntKind.wrap .u8 ((IntKind.wrap .u8 (Int.tdiv p0 16)) + 1)) (⟨#[48, 49, 50, 51, 52, 53, 54, 55, 56, 57, 65, 66, 67, 68, 69, 70]⟩ : ByteArray).size) (cond (cutR (Int.tmod p0 16) (IntKind.wrap .u8 ((Int.tmod p0 16) + 1)) (⟨#[48, 49, 50, 51, 52, 53, 54, 55, 56, 57, 65, 66, 67, 68, 69, 70]⟩ : ByteArray).size) (cond (mayCat (strCut (⟨#[48, 49, 50, 51, 52, 53, 54, 55, 56, 57, 65, 66, 67, 68, 69, 70]⟩ : ByteArray) (IntKind.wrap .u8 (Int.tdiv p0 16)) (IntKind.wrap .u8 ((IntKind.wrap .u8 (Int.tdiv p0 16)) + 1))).size (strCut (⟨#[48, 49, 50, 51, 52, 53, 54, 55, 56, 57, 65, 66, 67, 68, 69, 70]⟩ : ByteArray) (Int.tmod p0 16) (IntKind.wrap .u8 ((Int.tmod p0 16) + 1))).size) (some ((strCut (⟨#[48, 49, 50, 51, 52, 53, 54, 55, 56, 57, 65, 66, 67, 68, 69, 70]⟩ : ByteArray) (IntKind.wrap .u8 (Int.tdiv p0 16)) (IntKind.wrap .u8 ((IntKind.wrap .u8 (Int.tdiv p0 16)) + 1))) ++ (strCut (⟨#[48, 49, 50, 51, 52, 53, 54, 55, 56, 57, 65, 66, 67, 68, 69, 70]⟩ : ByteArray) (Int.tmod p0 16) (IntKind.wrap .u8 ((Int.tmod p0 16) + 1))))) none) none) none
set_option maxRecDepth 100000 in
theorem charabancref33_two_32_ok (K : Nat) (M0 : Nat → Prop) (w0 : World) (p0 : Int) (ho : ∀ b, M0 b → b < w0.heap.size) {r : ByteArray} (h : charabancref33_two_32.f K p0 = some r) :
  Calls Tryd.prog 32 #[.int .u8 p0] w0 (charabancref33_two_32.post M0 w0 r) := by
 unfold charabancref33_two_32.f at h
 have h0 : Holds M0 w0 w0 [] := Holds.start ho
 have h0 : Holds M0 w0 w0 [] := h0
 refine calls_of F32 rfl [.int .u8 p0] (by kernel_rfl) ?_
 refine RunsI.g 1 [.c 1, .c 2] ?_
 refine RunsI.r ?_
 refine RegI.p 1 [(0, .int .u8 p0)] ?_
 refine RegI.d ?_
 refine RunsI.g 1 [.c 3, .c 4] ?_
 refine RunsI.r ?_
 refine RegI.p 1 [(0, .int .u8 p0), (3, .string (⟨#[48, 49, 50, 51, 52, 53, 54, 55, 56, 57, 65, 66, 67, 68, 69, 70]⟩ : ByteArray))] ?_
 refine RegI.d ?_
 refine RunsI.g 1 [.c 5, .c 6] ?_
 refine RunsI.any 16 (by kernel_rfl) (by kernel_rfl) (by kernel_rfl) (Kp ([] : List Nat) (World.drew w0)) ?_
 have h2 := h0.drew
 generalize World.drew w0 = w1 at h2 ⊢
 have hS3 := Kp.refl ([] : List Nat) w1
 refine AnyE.pure 0 4 (.string (⟨#[48, 49, 50, 51, 52, 53, 54, 55, 56, 57, 65, 66, 67, 68, 69, 70]⟩ : ByteArray)) (by kernel_rfl) hS3 (fun _ => by kernel_rfl) ?_
 refine AnyE.pure 1 5 (.int .u8 p0) (by kernel_rfl) hS3 (fun _ => by kernel_rfl) ?_
 refine AnyE.pure 2 6 (.int .u8 (IntKind.wrap .u8 (Int.tdiv p0 16))) (by kernel_rfl) hS3 (fun _ => by kernel_rfl) ?_
 refine AnyE.pure 3 7 (.int .u8 p0) (by kernel_rfl) hS3 (fun _ => by kernel_rfl) ?_
 refine AnyE.pure 4 8 (.int .u8 (IntKind.wrap .u8 (Int.tdiv p0 16))) (by kernel_rfl) hS3 (fun _ => by kernel_rfl) ?_
 refine AnyE.pure 5 9 (.int .u8 (IntKind.wrap .u8 ((IntKind.wrap .u8 (Int.tdiv p0 16)) + 1))) (by kernel_rfl) hS3 (fun _ => by kernel_rfl) ?_
 obtain ⟨hc5, h⟩ := of_cond0 h
 refine AnyE.run 6 10 (.string (strCut (⟨#[48, 49, 50, 51, 52, 53, 54, 55, 56, 57, 65, 66, 67, 68, 69, 70]⟩ : ByteArray) (IntKind.wrap .u8 (Int.tdiv p0 16)) (IntKind.wrap .u8 ((IntKind.wrap .u8 (Int.tdiv p0 16)) + 1)))) (by kernel_rfl) hS3 (fun _ hk => run_strCut (T := 9) (s := (⟨#[48, 49, 50, 51, 52, 53, 54, 55, 56, 57, 65, 66, 67, 68, 69, 70]⟩ : ByteArray)) (lo := (some (IntKind.wrap .u8 (Int.tdiv p0 16)))) (hi := (some (IntKind.wrap .u8 ((IntKind.wrap .u8 (Int.tdiv p0 16)) + 1)))) (by kernel_rfl) (by kernel_rfl) hc5) ?_
 refine AnyE.pure 7 11 (.string (⟨#[48, 49, 50, 51, 52, 53, 54, 55, 56, 57, 65, 66, 67, 68, 69, 70]⟩ : ByteArray)) (by kernel_rfl) hS3 (fun _ => by kernel_rfl) ?_
 refine AnyE.pure 8 12 (.int .u8 p0) (by kernel_rfl) hS3 (fun _ => by kernel_rfl) ?_
 refine AnyE.pure 9 13 (.int .u8 (Int.tmod p0 16)) (by kernel_rfl) hS3 (fun _ => by kernel_rfl) ?_
 refine AnyE.pure 10 14 (.int .u8 p0) (by kernel_rfl) hS3 (fun _ => by kernel_rfl) ?_
 refine AnyE.pure 11 15 (.int .u8 (Int.tmod p0 16)) (by kernel_rfl) hS3 (fun _ => by kernel_rfl) ?_
 refine AnyE.pure 12 16 (.int .u8 (IntKind.wrap .u8 ((Int.tmod p0 16) + 1))) (by kernel_rfl) hS3 (fun _ => by kernel_rfl) ?_
 obtain ⟨hc6, h⟩ := of_cond0 h
 refine AnyE.run 13 17 (.string (strCut (⟨#[48, 49, 50, 51, 52, 53, 54, 55, 56, 57, 65, 66, 67, 68, 69, 70]⟩ : ByteArray) (Int.tmod p0 16) (IntKind.wrap .u8 ((Int.tmod p0 16) + 1)))) (by kernel_rfl) hS3 (fun _ hk => run_strCut (T := 9) (s := (⟨#[48, 49, 50, 51, 52, 53, 54, 55, 56, 57, 65, 66, 67, 68, 69, 70]⟩ : ByteArray)) (lo := (some (Int.tmod p0 16))) (hi := (some (IntKind.wrap .u8 ((Int.tmod p0 16) + 1)))) (by kernel_rfl) (by kernel_rfl) hc6) ?_
 obtain ⟨hc7, h⟩ := of_cond0 h
 refine AnyE.run 14 18 (.string ((strCut (⟨#[48, 49, 50, 51, 52, 53, 54, 55, 56, 57, 65, 66, 67, 68, 69, 70]⟩ : ByteArray) (IntKind.wrap .u8 (Int.tdiv p0 16)) (IntKind.wrap .u8 ((IntKind.wrap .u8 (Int.tdiv p0 16)) + 1))) ++ (strCut (⟨#[48, 49, 50, 51, 52, 53, 54, 55, 56, 57, 65, 66, 67, 68, 69, 70]⟩ : ByteArray) (Int.tmod p0 16) (IntKind.wrap .u8 ((Int.tmod p0 16) + 1))))) (by kernel_rfl) hS3 (fun _ hk => run_cat (a := (strCut (⟨#[48, 49, 50, 51, 52, 53, 54, 55, 56, 57, 65, 66, 67, 68, 69, 70]⟩ : ByteArray) (IntKind.wrap .u8 (Int.tdiv p0 16)) (IntKind.wrap .u8 ((IntKind.wrap .u8 (Int.tdiv p0 16)) + 1)))) (b := (strCut (⟨#[48, 49, 50, 51, 52, 53, 54, 55, 56, 57, 65, 66, 67, 68, 69, 70]⟩ : ByteArray) (Int.tmod p0 16) (IntKind.wrap .u8 ((Int.tmod p0 16) + 1)))) (by kernel_rfl) hc7) ?_
 refine AnyE.pure 15 2 (.string ((strCut (⟨#[48, 49, 50, 51, 52, 53, 54, 55, 56, 57, 65, 66, 67, 68, 69, 70]⟩ : ByteArray) (IntKind.wrap .u8 (Int.tdiv p0 16)) (IntKind.wrap .u8 ((IntKind.wrap .u8 (Int.tdiv p0 16)) + 1))) ++ (strCut (⟨#[48, 49, 50, 51, 52, 53, 54, 55, 56, 57, 65, 66, 67, 68, 69, 70]⟩ : ByteArray) (Int.tmod p0 16) (IntKind.wrap .u8 ((Int.tmod p0 16) + 1))))) (by kernel_rfl) hS3 (fun _ => by kernel_rfl) ?_
 refine AnyE.done (by kernel_rfl) (fun w8 hu9 => ?_)
 have h10 := h2.call hu9
 refine RunsI.l [2] [(2, .string ((strCut (⟨#[48, 49, 50, 51, 52, 53, 54, 55, 56, 57, 65, 66, 67, 68, 69, 70]⟩ : ByteArray) (IntKind.wrap .u8 (Int.tdiv p0 16)) (IntKind.wrap .u8 ((IntKind.wrap .u8 (Int.tdiv p0 16)) + 1))) ++ (strCut (⟨#[48, 49, 50, 51, 52, 53, 54, 55, 56, 57, 65, 66, 67, 68, 69, 70]⟩ : ByteArray) (Int.tmod p0 16) (IntKind.wrap .u8 ((Int.tmod p0 16) + 1)))))] ?_
 refine RunsI.t (.string ((strCut (⟨#[48, 49, 50, 51, 52, 53, 54, 55, 56, 57, 65, 66, 67, 68, 69, 70]⟩ : ByteArray) (IntKind.wrap .u8 (Int.tdiv p0 16)) (IntKind.wrap .u8 ((IntKind.wrap .u8 (Int.tdiv p0 16)) + 1))) ++ (strCut (⟨#[48, 49, 50, 51, 52, 53, 54, 55, 56, 57, 65, 66, 67, 68, 69, 70]⟩ : ByteArray) (Int.tmod p0 16) (IntKind.wrap .u8 ((Int.tmod p0 16) + 1))))) ?_
 obtain rfl := Option.some.inj h
 exact ⟨rfl, h10.below⟩
end

/-! ### charabanc/charabancref33.Line (function 12) -/
section
def charabancref33_Line_12.post (M0 : Nat → Prop) (w0 : World) (r : ByteArray × Int) : Ending → World → Prop := fun e w => e = .returned (.tuple #[.string r.1, .int .i64 r.2]) ∧ Below w0.heap.size w0 w
def charabancref33_Line_12.l0 (K : Nat) (p0_0 : Int) (p0_1 : Int) (p0_2 : List Int) (t20 : List Int) : Nat → ByteArray → Int → Option ByteArray
 | 0, _, _ => none
 | k + 1, t17, t21 => cond (decide (t21 < (t20.length : Int))) (cond (inR t21 t20.length) ((charabancref33_two_32.f K (rdD t20 t21)).bind fun t30 => cond (mayCat t17.size t30.size) (charabancref33_Line_12.l0 K p0_0 p0_1 p0_2 t20 k (t17 ++ t30) (IntKind.wrap .i64 (t21 + 1))) none) none) (some t17)
set_option maxRecDepth 100000 in
theorem charabancref33_Line_12.l0_ok (K : Nat) (M0 : Nat → Prop) (w0 : World) (pA0_2 : Option Addr) (pc0_2 : Nat) (p0_0 : Int) (p0_1 : Int) (p0_2 : List Int) (t20 : List Int) (b16 : Nat) (A18 : Option Addr) (c19 : Nat) (R : Ending → World → Prop) (x : ByteArray) (hk0 : ∀ (t32 : ByteArray) (w1 : World), x = t32 → Holds M0 w0 w1 [box b16 31 [.int .u8 p0_0, .int .u16 p0_1, .slice pA0_2 p0_2.length pc0_2], sl (Rp.int .u8) (.slice pA0_2 p0_2.length pc0_2) p0_2] → RunsI F12 [.c 29] [(1, .pointer (some ⟨b16, 0, none⟩)), (4, .string t32)] w1 R) :
  ∀ (k : Nat) (t17 : ByteArray) (t21 : Int) (w : World), charabancref33_Line_12.l0 K p0_0 p0_1 p0_2 t20 k t17 t21 = some x → Holds M0 w0 w [box b16 31 [.int .u8 p0_0, .int .u16 p0_1, .slice pA0_2 p0_2.length pc0_2], sl (Rp.int .u8) (.slice pA0_2 p0_2.length pc0_2) p0_2, own (Rp.int .u8) 5 (.slice A18 t20.length c19) t20] → RunsI F12 [.c 19, .lp 19, .blk 0, .c 29] [(1, .pointer (some ⟨b16, 0, none⟩)), (4, .string t17), (5, .slice A18 t20.length c19), (6, .int .i64 t21)] w R := by
 intro k
 induction k with
 | zero => intro t17 t21 w h hH; exact absurd h (by simp [charabancref33_Line_12.l0])
 | succ k ih =>
  intro t17 t21 w h hH
  rw [charabancref33_Line_12.l0.eq_2] at h
  refine RunsI.g 1 [.c 20, .c 25, .lp 19, .blk 0, .c 29] ?_
  refine RunsI.g 1 [.c 21, .c 22, .c 25, .lp 19, .blk 0, .c 29] ?_
  refine RunsI.r ?_
  refine RegI.p 4 [(1, .pointer (some ⟨b16, 0, none⟩)), (4, .string t17), (5, .slice A18 t20.length c19), (6, .int .i64 t21), (16, .bool (decide (t21 < (t20.length : Int))))] ?_
  refine RegI.d ?_
  rcases of_cond h with ⟨hc22, h⟩ | ⟨hc22, h⟩
  ·skip
   refine RunsI.f 16 true hc22 ?_
   refine RunsI.b true 23 ?_
   refine RunsI.g 1 [.c 25, .lp 19, .blk 0, .c 29] ?_
   refine RunsI.g 2 [.c 27, .blk 1, .c 28, .lp 19, .blk 0, .c 29] ?_
   refine RunsI.r ?_
   refine RegI.p 3 [(1, .pointer (some ⟨b16, 0, none⟩)), (5, .slice A18 t20.length c19), (6, .int .i64 t21), (19, .string t17), (20, .slice A18 t20.length c19), (21, .int .i64 t21)] ?_
   obtain ⟨hc23, h⟩ := of_cond0 h
   refine RegI.o (OpE.idxOwnA 22 2 23 5 t21 hH (by kernel_rfl) rfl (by kernel_rfl) (by kernel_rfl) hc23 ?_)
   refine RegI.o (OpE.loadOwnA 23 2 5 5 t21 0 (o := (Int.toNat t21) * 1 + 0) hH (by kernel_rfl) rfl (by kernel_rfl) (by kernel_rfl) hc23 (fun cs24 hk25 => ?_))
   obtain rfl := hk25
   refine ⟨.int .u8 (rdD t20 t21), by kernel_rfl, ?_⟩
   obtain ⟨t30, hg29, h⟩ := of_bind h
   refine RegI.o (OpE.call 24 (by kernel_rfl) 32 #[.int .u8 (rdD t20 t21)] (by kernel_rfl) ((charabancref33_two_32_ok K _ w  (rdD t20 t21) hH.old' hg29).mono ?_))
   rintro _ w26 ⟨rfl, hb27⟩
   refine ⟨_, rfl, ?_⟩
   have h28 := hH.call hb27
   obtain ⟨hc31, h⟩ := of_cond0 h
   refine RegI.o (OpE.run 25 (by kernel_rfl) (run_cat (a := t17) (b := t30) (by kernel_rfl) hc31) ?_)
   refine RegI.p 1 [(1, .pointer (some ⟨b16, 0, none⟩)), (4, .string (t17 ++ t30)), (5, .slice A18 t20.length c19), (6, .int .i64 t21)] ?_
   refine RegI.d ?_
   refine RunsI.g 1 [.c 28, .lp 19, .blk 0, .c 29] ?_
   refine RunsI.r ?_
   refine RegI.p 3 [(1, .pointer (some ⟨b16, 0, none⟩)), (4, .string (t17 ++ t30)), (5, .slice A18 t20.length c19), (6, .int .i64 (IntKind.wrap .i64 (t21 + 1)))] ?_
   refine RegI.d ?_
   refine RunsI.g 1 [.c 19, .lp 19, .blk 0, .c 29] ?_
   refine RunsI.l [1, 4, 5, 6] [(1, .pointer (some ⟨b16, 0, none⟩)), (4, .string (t17 ++ t30)), (5, .slice A18 t20.length c19), (6, .int .i64 (IntKind.wrap .i64 (t21 + 1)))] ?_
   exact ih (t17 ++ t30) (IntKind.wrap .i64 (t21 + 1)) w26 h (h28.pick [0, 1, 2] (by decide))
  ·skip
   refine RunsI.f 16 false hc22 ?_
   refine RunsI.b false 24 ?_
   refine RunsI.g 1 [.c 29] ?_
   refine RunsI.l [1, 4] [(1, .pointer (some ⟨b16, 0, none⟩)), (4, .string t17)] ?_
   exact hk0 t17 w (Option.some.inj h).symm (hH.pick [0, 1] (by decide))
def charabancref33_Line_12.f (K : Nat) (p0_0 : Int) (p0_1 : Int) (p0_2 : List Int) : Option (ByteArray × Int) := cond (decide ((p0_2.length : Int) > 255)) (some ((⟨#[]⟩ : ByteArray), 2)) ((charabancref33_raw_31.f K p0_0 p0_1 p0_2).bind fun t11 => (charabancref33_Line_12.l0 K p0_0 p0_1 p0_2 t11 K (⟨#[58]⟩ : ByteArray) 0).bind (fun t35 => (charabancref33_Sum_18.f K p0_0 p0_1 p0_2).bind fun t42 => (charabancref33_two_32.f K t42).bind fun t47 => cond (mayCat t35.size t47.size) (some ((t35 ++ t47), 0)) none))
set_option maxRecDepth 100000 in
theorem charabancref33_Line_12_ok (K : Nat) (M0 : Nat → Prop) (w0 : World) (pA0_2 : Option Addr) (pc0_2 : Nat) (p0_0 : Int) (p0_1 : Int) (p0_2 : List Int) (ho : ∀ b, M0 b → b < w0.heap.size) (hs0_2 : Sl (Rp.int .u8) w0 M0 (.slice pA0_2 p0_2.length pc0_2) p0_2) {r : ByteArray × Int} (h : charabancref33_Line_12.f K p0_0 p0_1 p0_2 = some r) :
  Calls Tryd.prog 12 #[.agg #[.int .u8 p0_0, .int .u16 p0_1, .slice pA0_2 p0_2.length pc0_2]] w0 (charabancref33_Line_12.post M0 w0 r) := by
 unfold charabancref33_Line_12.f at h
 have h0 : Holds M0 w0 w0 [] := Holds.start ho
 have h00_2 := h0.addSl (Rp.int .u8) (.slice pA0_2 p0_2.length pc0_2) p0_2 (hs0_2.mono (fun _ _ hm => hm.elim id (fun hm => absurd hm (by simp [mines, sl]))))
 have h0 : Holds M0 w0 w0 [sl (Rp.int .u8) (.slice pA0_2 p0_2.length pc0_2) p0_2] := h00_2
 refine calls_of F12 rfl [.agg #[.int .u8 p0_0, .int .u16 p0_1, .slice pA0_2 p0_2.length pc0_2]] (by kernel_rfl) ?_
 refine RunsI.g 1 [.c 1, .c 2] ?_
 refine RunsI.r ?_
 refine RegI.o (OpE.box 1 31 [.int .u8 p0_0, .int .u16 p0_1, .slice pA0_2 p0_2.length pc0_2] h0 (by kernel_rfl) (by kernel_rfl) ?_)
 intro w1 b2 h3 hb4 hn5
 refine RegI.p 2 [(1, .pointer (some ⟨b2, 0, none⟩))] ?_
 refine RegI.d ?_
 refine RunsI.g 2 [.c 4, .c 5, .c 10] ?_
 refine RunsI.r ?_
 refine RegI.p 1 [(1, .pointer (some ⟨b2, 0, none⟩)), (7, .pointer (some ⟨b2, 2, none⟩))] ?_
 refine RegI.o (OpE.loadBox 8 1 23 b2 2 (.slice pA0_2 p0_2.length pc0_2) h3 (by kernel_rfl) (by kernel_rfl) rfl (by kernel_rfl) ?_)
 refine RegI.p 2 [(1, .pointer (some ⟨b2, 0, none⟩)), (10, .bool (decide ((p0_2.length : Int) > 255)))] ?_
 refine RegI.d ?_
 rcases of_cond h with ⟨hc6, h⟩ | ⟨hc6, h⟩
 ·skip
  refine RunsI.f 10 true hc6 ?_
  refine RunsI.b true 6 ?_
  refine RunsI.g 1 [.c 7, .c 8, .c 10] ?_
  refine RunsI.r ?_
  refine RegI.p 2 [(2, .string (⟨#[]⟩ : ByteArray)), (3, .int .i64 2)] ?_
  refine RegI.d ?_
  refine RunsI.t (.tuple #[.string (⟨#[]⟩ : ByteArray), .int .i64 2]) ?_
  obtain rfl := Option.some.inj h
  exact ⟨rfl, h3.below⟩
 ·skip
  refine RunsI.f 10 false hc6 ?_
  refine RunsI.b false 9 ?_
  refine RunsI.g 1 [.c 10] ?_
  refine RunsI.g 1 [.c 11, .c 12] ?_
  refine RunsI.r ?_
  refine RegI.p 1 [(1, .pointer (some ⟨b2, 0, none⟩)), (4, .string (⟨#[58]⟩ : ByteArray))] ?_
  refine RegI.d ?_
  refine RunsI.g 1 [.c 13, .c 14] ?_
  refine RunsI.r ?_
  refine RegI.o (OpE.loadBox 11 1 31 b2 0 (.agg #[.int .u8 p0_0, .int .u16 p0_1, .slice pA0_2 p0_2.length pc0_2]) h3 (by kernel_rfl) (by kernel_rfl) rfl (by kernel_rfl) ?_)
  obtain ⟨t11, hg10, h⟩ := of_bind h
  refine RegI.o (OpE.call 12 (by kernel_rfl) 31 #[.agg #[.int .u8 p0_0, .int .u16 p0_1, .slice pA0_2 p0_2.length pc0_2]] (by kernel_rfl) ((charabancref33_raw_31_ok K _ w1  pA0_2 pc0_2 p0_0 p0_1 p0_2 h3.old' (h3.get 0 rfl) hg10).mono ?_))
  rintro _ w7 ⟨A12, c13, rfl, hr15⟩
  refine ⟨_, rfl, ?_⟩
  have hb8 := hr15.below
  have h9 := h3.join hr15
  refine RegI.p 1 [(1, .pointer (some ⟨b2, 0, none⟩)), (4, .string (⟨#[58]⟩ : ByteArray)), (5, .slice A12 t11.length c13)] ?_
  refine RegI.d ?_
  refine RunsI.g 2 [.c 16, .c 17, .c 29] ?_
  refine RunsI.r ?_
  refine RegI.p 1 [(1, .pointer (some ⟨b2, 0, none⟩)), (4, .string (⟨#[58]⟩ : ByteArray)), (5, .slice A12 t11.length c13), (6, .int .i64 0)] ?_
  refine RegI.d ?_
  refine RunsI.g 2 [.c 19, .lp 19, .blk 0, .c 29] ?_
  obtain ⟨x33, hx34, h⟩ := of_bind h
  refine RunsI.l [1, 4, 5, 6] [(1, .pointer (some ⟨b2, 0, none⟩)), (4, .string (⟨#[58]⟩ : ByteArray)), (5, .slice A12 t11.length c13), (6, .int .i64 0)] ?_
  refine charabancref33_Line_12.l0_ok K M0 w0 pA0_2 pc0_2 p0_0 p0_1 p0_2 t11 b2 A12 c13 _ x33 ?_ K (⟨#[58]⟩ : ByteArray) 0 w7 hx34 (h9.pick [1, 0, 2] (by decide))
  ·intro t35 w37 hq49 h36
   (try rw [hq49] at h)
   refine RunsI.g 1 [.c 30, .c 31] ?_
   refine RunsI.r ?_
   refine RegI.p 1 [(1, .pointer (some ⟨b2, 0, none⟩)), (26, .string t35)] ?_
   refine RegI.o (OpE.loadBox 27 0 31 b2 0 (.agg #[.int .u8 p0_0, .int .u16 p0_1, .slice pA0_2 p0_2.length pc0_2]) h36 (by kernel_rfl) (by kernel_rfl) rfl (by kernel_rfl) ?_)
   obtain ⟨t42, hg41, h⟩ := of_bind h
   refine RegI.o (OpE.call 28 (by kernel_rfl) 18 #[.agg #[.int .u8 p0_0, .int .u16 p0_1, .slice pA0_2 p0_2.length pc0_2]] (by kernel_rfl) ((charabancref33_Sum_18_ok K _ w37  pA0_2 pc0_2 p0_0 p0_1 p0_2 h36.old' (h36.get 1 rfl) hg41).mono ?_))
   rintro _ w38 ⟨rfl, hb39⟩
   refine ⟨_, rfl, ?_⟩
   have h40 := h36.call hb39
   obtain ⟨t47, hg46, h⟩ := of_bind h
   refine RegI.o (OpE.call 29 (by kernel_rfl) 32 #[.int .u8 t42] (by kernel_rfl) ((charabancref33_two_32_ok K _ w38  t42 h40.old' hg46).mono ?_))
   rintro _ w43 ⟨rfl, hb44⟩
   refine ⟨_, rfl, ?_⟩
   have h45 := h40.call hb44
   obtain ⟨hc48, h⟩ := of_cond0 h
   refine RegI.o (OpE.run 30 (by kernel_rfl) (run_cat (a := t35) (b := t47) (by kernel_rfl) hc48) ?_)
   refine RegI.p 2 [(2, .string (t35 ++ t47)), (3, .int .i64 0)] ?_
   refine RegI.d ?_
   refine RunsI.t (.tuple #[.string (t35 ++ t47), .int .i64 0]) ?_
   obtain rfl := Option.some.inj h
   exact ⟨rfl, h45.below⟩
end

/-! ### charabanc/charabanclaw33.plain (function 13) -/
section
def charabanclaw33_plain_13.post (M0 : Nat → Prop) (w0 : World) (r : Int × Int × (List Int)) : Ending → World → Prop := fun e w => ∃ (A3 : Option Addr) (c3 : Nat), e = .returned (.agg #[.int .u8 r.1, .int .u16 r.2.1, .slice A3 r.2.2.length c3]) ∧ Holds M0 w0 w [sl (Rp.int .u8) (.slice A3 r.2.2.length c3) r.2.2]
def charabanclaw33_plain_13.f (K : Nat) (p0_0 : Int) (p0_1 : Int) (p0_2 : List Int) : Option (Int × Int × (List Int)) := some (p0_0, p0_1, p0_2)
set_option maxRecDepth 100000 in
theorem charabanclaw33_plain_13_ok (K : Nat) (M0 : Nat → Prop) (w0 : World) (pA0_2 : Option Addr) (pc0_2 : Nat) (p0_0 : Int) (p0_1 : Int) (p0_2 : List Int) (ho : ∀ b, M0 b → b < w0.heap.size) (hs0_2 : Sl (Rp.int .u8) w0 M0 (.slice pA0_2 p0_2.length pc0_2) p0_2) {r : Int × Int × (List Int)} (h : charabanclaw33_plain_13.f K p0_0 p0_1 p0_2 = some r) :
  Calls Tryd.prog 13 #[.agg #[.int .u8 p0_0, .int .u16 p0_1, .slice pA0_2 p0_2.length pc0_2]] w0 (charabanclaw33_plain_13.post M0 w0 r) := by
 unfold charabanclaw33_plain_13.f at h
 have h0 : Holds M0 w0 w0 [] := Holds.start ho
 have h00_2 := h0.addSl (Rp.int .u8) (.slice pA0_2 p0_2.length pc0_2) p0_2 (hs0_2.mono (fun _ _ hm => hm.elim id (fun hm => absurd hm (by simp [mines, sl]))))
 have h0 : Holds M0 w0 w0 [sl (Rp.int .u8) (.slice pA0_2 p0_2.length pc0_2) p0_2] := h00_2
 refine calls_of F13 rfl [.agg #[.int .u8 p0_0, .int .u16 p0_1, .slice pA0_2 p0_2.length pc0_2]] (by kernel_rfl) ?_
 refine RunsI.g 1 [.c 1, .c 2] ?_
 refine RunsI.r ?_
 refine RegI.o (OpE.box 1 25 [.int .u8 p0_0, .int .u16 p0_1, .slice pA0_2 p0_2.length pc0_2] h0 (by kernel_rfl) (by kernel_rfl) ?_)
 intro w1 b2 h3 hb4 hn5
 refine RegI.o (OpE.box 2 31 [.int .u8 0, .int .u16 0, .slice none 0 0] h3 (by kernel_rfl) (by kernel_rfl) ?_)
 intro w6 b7 h8 hb9 hn10
 refine RegI.d ?_
 refine RunsI.g 1 [.c 3, .c 4] ?_
 refine RunsI.r ?_
 refine RegI.p 1 [(1, .pointer (some ⟨b2, 0, none⟩)), (2, .pointer (some ⟨b7, 0, none⟩)), (3, .pointer (some ⟨b2, 0, none⟩))] ?_
 refine RegI.o (OpE.loadBox 4 1 5 b2 0 (.int .u8 p0_0) h8 (by kernel_rfl) (by kernel_rfl) rfl (by kernel_rfl) ?_)
 refine RegI.p 1 [(1, .pointer (some ⟨b2, 0, none⟩)), (2, .pointer (some ⟨b7, 0, none⟩)), (4, .int .u8 p0_0), (5, .pointer (some ⟨b2, 1, none⟩))] ?_
 refine RegI.o (OpE.loadBox 6 1 22 b2 1 (.int .u16 p0_1) h8 (by kernel_rfl) (by kernel_rfl) rfl (by kernel_rfl) ?_)
 refine RegI.p 1 [(2, .pointer (some ⟨b7, 0, none⟩)), (4, .int .u8 p0_0), (6, .int .u16 p0_1), (7, .pointer (some ⟨b2, 2, none⟩))] ?_
 refine RegI.o (OpE.loadBox 8 1 23 b2 2 (.slice pA0_2 p0_2.length pc0_2) h8 (by kernel_rfl) (by kernel_rfl) rfl (by kernel_rfl) ?_)
 refine RegI.p 1 [(2, .pointer (some ⟨b7, 0, none⟩)), (9, .agg #[.int .u8 p0_0, .int .u16 p0_1, .slice pA0_2 p0_2.length pc0_2])] ?_
 refine RegI.o (OpE.storeBox 2 31 b7 0 (.agg #[.int .u8 p0_0, .int .u16 p0_1, .slice pA0_2 p0_2.length pc0_2]) [.int .u8 p0_0, .int .u16 p0_1, .slice pA0_2 p0_2.length pc0_2] h8 (by kernel_rfl) (by kernel_rfl) rfl (by kernel_rfl) (by kernel_rfl) (by kernel_rfl) ?_)
 intro w11 h12 hk13
 refine RegI.d ?_
 refine RunsI.toRet (by kernel_rfl) ?_
 refine RetI.valW [.cell 2 31] [.agg #[.int .u8 p0_0, .int .u16 p0_1, .slice pA0_2 p0_2.length pc0_2]] (.agg #[.int .u8 p0_0, .int .u16 p0_1, .slice pA0_2 p0_2.length pc0_2]) (by kernel_rfl) (ResAt.box 2 31 b7 0 h12 (by kernel_rfl) (by kernel_rfl) rfl (by kernel_rfl) rfl) (by kernel_rfl) ?_
 obtain rfl := Option.some.inj h
 exact ⟨pA0_2, pc0_2, rfl, h12.pick [0] (by decide)⟩
end

/-! ### charabanc/charabancref33.value (function 71) -/
section
def charabancref33_value_71.post (M0 : Nat → Prop) (w0 : World) (r : Int) : Ending → World → Prop := fun e w => e = .returned (.int .i64 r) ∧ Below w0.heap.size w0 w
def charabancref33_value_71.f (K : Nat) (p0 : Int) : Option Int := Let (fun (t2 : Bool) => cond t2 (some (IntKind.wrap .i64 ((IntKind.wrap .i64 p0) - 48))) (Let (fun (t10 : Bool) => cond t10 (some (IntKind.wrap .i64 ((IntKind.wrap .i64 ((IntKind.wrap .i64 p0) - 65)) + 10))) (some (-1))) (fun j13 => cond (decide (p0 ≥ 65)) (j13 (decide (p0 ≤ 70))) (j13 false)))) (fun j5 => cond (decide (p0 ≥ 48)) (j5 (decide (p0 ≤ 57))) (j5 false))
set_option maxRecDepth 100000 in
theorem charabancref33_value_71_ok (K : Nat) (M0 : Nat → Prop) (w0 : World) (p0 : Int) (ho : ∀ b, M0 b → b < w0.heap.size) {r : Int} (h : charabancref33_value_71.f K p0 = some r) :
  Calls Tryd.prog 71 #[.int .u8 p0] w0 (charabancref33_value_71.post M0 w0 r) := by
 unfold charabancref33_value_71.f at h
 have h0 : Holds M0 w0 w0 [] := Holds.start ho
 have h0 : Holds M0 w0 w0 [] := h0
 refine calls_of F71 rfl [.int .u8 p0] (by kernel_rfl) ?_
 refine RunsI.g 1 [.c 1, .c 2] ?_
 refine RunsI.r ?_
 refine RegI.p 1 [(0, .int .u8 p0)] ?_
 refine RegI.d ?_
 refine RunsI.g 2 [.c 4, .c 5, .c 10] ?_
 refine RunsI.r ?_
 refine RegI.p 3 [(0, .int .u8 p0), (5, .bool (decide (p0 ≥ 48)))] ?_
 obtain ⟨j5, hJ6, h⟩ := of_let h
 have hj7 : ∀ (t2 : Bool) (w4 : World), j5 t2 = some r → Holds M0 w0 w4 [] → RegI F71 4 [.c 5, .c 10] 6 [(0, .int .u8 p0), (8, .bool t2)] w4 (charabancref33_value_71.post M0 w0 r) := by
  intro t2 w4 h h3
  rw [hJ6] at h
  clear hJ6
  dsimp only at h
  refine RegI.d ?_
  rcases of_cond h with ⟨hc8, h⟩ | ⟨hc8, h⟩
  ·skip
   refine RunsI.f 8 true hc8 ?_
   refine RunsI.b true 6 ?_
   refine RunsI.g 1 [.c 7, .c 8, .c 10] ?_
   refine RunsI.r ?_
   refine RegI.p 4 [(2, .int .i64 (IntKind.wrap .i64 ((IntKind.wrap .i64 p0) - 48)))] ?_
   refine RegI.d ?_
   refine RunsI.t (.int .i64 (IntKind.wrap .i64 ((IntKind.wrap .i64 p0) - 48))) ?_
   obtain rfl := Option.some.inj h
   exact ⟨rfl, h3.below⟩
  ·skip
   refine RunsI.f 8 false hc8 ?_
   refine RunsI.b false 9 ?_
   refine RunsI.g 1 [.c 10] ?_
   refine RunsI.g 2 [.c 12, .c 13, .c 18] ?_
   refine RunsI.r ?_
   refine RegI.p 3 [(0, .int .u8 p0), (14, .bool (decide (p0 ≥ 65)))] ?_
   obtain ⟨j13, hJ14, h⟩ := of_let h
   have hj15 : ∀ (t10 : Bool) (w12 : World), j13 t10 = some r → Holds M0 w0 w12 [] → RegI F71 12 [.c 13, .c 18] 6 [(0, .int .u8 p0), (17, .bool t10)] w12 (charabancref33_value_71.post M0 w0 r) := by
    intro t10 w12 h h11
    rw [hJ14] at h
    clear hJ14
    dsimp only at h
    refine RegI.d ?_
    rcases of_cond h with ⟨hc16, h⟩ | ⟨hc16, h⟩
    ·skip
     refine RunsI.f 17 true hc16 ?_
     refine RunsI.b true 14 ?_
     refine RunsI.g 1 [.c 15, .c 16, .c 18] ?_
     refine RunsI.r ?_
     refine RegI.p 5 [(2, .int .i64 (IntKind.wrap .i64 ((IntKind.wrap .i64 ((IntKind.wrap .i64 p0) - 65)) + 10)))] ?_
     refine RegI.d ?_
     refine RunsI.t (.int .i64 (IntKind.wrap .i64 ((IntKind.wrap .i64 ((IntKind.wrap .i64 p0) - 65)) + 10))) ?_
     obtain rfl := Option.some.inj h
     exact ⟨rfl, h11.below⟩
    ·skip
     refine RunsI.f 17 false hc16 ?_
     refine RunsI.b false 17 ?_
     refine RunsI.g 1 [.c 18] ?_
     refine RunsI.g 1 [.c 19, .c 20] ?_
     refine RunsI.r ?_
     refine RegI.p 1 [(2, .int .i64 (-1))] ?_
     refine RegI.d ?_
     refine RunsI.t (.int .i64 (-1)) ?_
     obtain rfl := Option.some.inj h
     exact ⟨rfl, h11.below⟩
   clear hJ14
   rcases of_cond h with ⟨hc9, h⟩ | ⟨hc9, h⟩
   ·skip
    refine RegI.f 14 true hc9 ?_
    refine RegI.p 3 [(0, .int .u8 p0), (17, .bool (decide (p0 ≤ 70)))] ?_
    refine RegI.l [0, 17] [(0, .int .u8 p0), (17, .bool (decide (p0 ≤ 70)))] ?_
    exact hj15 (decide (p0 ≤ 70)) w4 h (h3.pick [] (by decide))
   ·skip
    refine RegI.f 14 false hc9 ?_
    refine RegI.p 3 [(0, .int .u8 p0), (17, .bool false)] ?_
    refine RegI.l [0, 17] [(0, .int .u8 p0), (17, .bool false)] ?_
    exact hj15 false w4 h (h3.pick [] (by decide))
 clear hJ6
 rcases of_cond h with ⟨hc1, h⟩ | ⟨hc1, h⟩
 ·skip
  refine RegI.f 5 true hc1 ?_
  refine RegI.p 3 [(0, .int .u8 p0), (8, .bool (decide (p0 ≤ 57)))] ?_
  refine RegI.l [0, 8] [(0, .int .u8 p0), (8, .bool (decide (p0 ≤ 57)))] ?_
  exact hj7 (decide (p0 ≤ 57)) w0 h (h0.pick [] (by decide))
 ·skip
  refine RegI.f 5 false hc1 ?_
  refine RegI.p 3 [(0, .int .u8 p0), (8, .bool false)] ?_
  refine RegI.l [0, 8] [(0, .int .u8 p0), (8, .bool false)] ?_
  exact hj7 false w0 h (h0.pick [] (by decide))
end

/-! ### charabanc/charabancref33.bytes (function 37) -/
section
def charabancref33_bytes_37.post (M0 : Nat → Prop) (w0 : World) (r : (List Int) × Bool) : Ending → World → Prop := fun e w => ∃ (A1 : Option Addr) (c1 : Nat), e = .returned (.tuple #[.slice A1 r.1.length c1, .bool r.2]) ∧ Holds M0 w0 w [own (Rp.int .u8) 5 (.slice A1 r.1.length c1) r.1]
def charabancref33_bytes_37.l0 (K : Nat) (p0 : ByteArray) : Nat → (List Int) → Int → Option (Lp Unit (List Int))
 | 0, _, _ => none
 | k + 1, t4, t5 => cond (decide (t5 < (p0.size : Int))) (cond ((IntKind.wrap .i64 (t5 + 1)) == (p0.size : Int)) (some (Lp.ret ())) (cond (inR t5 p0.size) ((charabancref33_value_71.f K (btD p0 t5)).bind fun t13 => cond (inR (IntKind.wrap .i64 (t5 + 1)) p0.size) ((charabancref33_value_71.f K (btD p0 (IntKind.wrap .i64 (t5 + 1)))).bind fun t19 => Let (fun (t21 : Bool) => cond t21 (some (Lp.ret ())) (cond (mayBe (t4.length + ([(IntKind.wrap .u8 (IntKind.wrap .i64 ((IntKind.wrap .i64 (16 * t13)) + t19)))] : List Int).length) 1) (charabancref33_bytes_37.l0 K p0 k (t4 ++ ([(IntKind.wrap .u8 (IntKind.wrap .i64 ((IntKind.wrap .i64 (16 * t13)) + t19)))] : List Int)) (IntKind.wrap .i64 (t5 + 2))) none)) (fun j24 => cond (decide (t13 < 0)) (j24 true) (j24 (decide (t19 < 0))))) none) none)) (some (Lp.go t4))
set_option maxRecDepth 100000 in
theorem charabancref33_bytes_37.l0_ok (K : Nat) (M0 : Nat → Prop) (w0 : World) (p0 : ByteArray) (R : Ending → World → Prop) (x : Lp Unit (List Int)) (hk0 : ∀ (t41 : List Int) (A39 : Option Addr) (c40 : Nat) (w1 : World), x = Lp.go t41 → Holds M0 w0 w1 [own (Rp.int .u8) 5 (.slice A39 t41.length c40) t41] → RunsI F37 [.c 39] [(4, .slice A39 t41.length c40)] w1 R) (hk1 : ∀ (w1 : World), x = Lp.ret () → Holds M0 w0 w1 [] → R (.returned (.tuple #[.slice none 0 0, .bool false])) w1) :
  ∀ (k : Nat) (t4 : List Int) (t5 : Int) (A2 : Option Addr) (c3 : Nat) (w : World), charabancref33_bytes_37.l0 K p0 k t4 t5 = some x → Holds M0 w0 w [own (Rp.int .u8) 5 (.slice A2 t4.length c3) t4] → RunsI F37 [.c 9, .lp 9, .blk 0, .c 39] [(0, .string p0), (4, .slice A2 t4.length c3), (5, .int .i64 t5)] w R := by
 intro k
 induction k with
 | zero => intro t4 t5 A2 c3 w h hH; exact absurd h (by simp [charabancref33_bytes_37.l0])
 | succ k ih =>
  intro t4 t5 A2 c3 w h hH
  rw [charabancref33_bytes_37.l0.eq_2] at h
  refine RunsI.g 1 [.c 10, .c 15, .lp 9, .blk 0, .c 39] ?_
  refine RunsI.g 1 [.c 11, .c 12, .c 15, .lp 9, .blk 0, .c 39] ?_
  refine RunsI.r ?_
  refine RegI.p 4 [(0, .string p0), (4, .slice A2 t4.length c3), (5, .int .i64 t5), (11, .bool (decide (t5 < (p0.size : Int))))] ?_
  refine RegI.d ?_
  rcases of_cond h with ⟨hc6, h⟩ | ⟨hc6, h⟩
  ·skip
   refine RunsI.f 11 true hc6 ?_
   refine RunsI.b true 13 ?_
   refine RunsI.g 1 [.c 15, .lp 9, .blk 0, .c 39] ?_
   refine RunsI.g 4 [.c 19, .c 20, .c 25, .blk 1, .c 38, .lp 9, .blk 0, .c 39] ?_
   refine RunsI.r ?_
   refine RegI.p 5 [(0, .string p0), (4, .slice A2 t4.length c3), (5, .int .i64 t5), (18, .bool ((IntKind.wrap .i64 (t5 + 1)) == (p0.size : Int)))] ?_
   refine RegI.d ?_
   rcases of_cond h with ⟨hc7, h⟩ | ⟨hc7, h⟩
   ·skip
    refine RunsI.f 18 true hc7 ?_
    refine RunsI.b true 21 ?_
    refine RunsI.g 1 [.c 22, .c 23, .c 25, .blk 1, .c 38, .lp 9, .blk 0, .c 39] ?_
    refine RunsI.r ?_
    refine RegI.p 2 [(2, .slice none 0 0), (3, .bool false)] ?_
    refine RegI.d ?_
    refine RunsI.t (.tuple #[.slice none 0 0, .bool false]) ?_
    exact hk1 w (Option.some.inj h).symm (hH.pick [] (by decide))
   ·skip
    refine RunsI.f 18 false hc7 ?_
    refine RunsI.b false 24 ?_
    refine RunsI.g 1 [.c 25, .blk 1, .c 38, .lp 9, .blk 0, .c 39] ?_
    refine RunsI.g 1 [.c 26, .c 27, .blk 1, .c 38, .lp 9, .blk 0, .c 39] ?_
    refine RunsI.r ?_
    refine RegI.p 2 [(0, .string p0), (4, .slice A2 t4.length c3), (5, .int .i64 t5), (19, .string p0), (20, .int .i64 t5)] ?_
    obtain ⟨hc8, h⟩ := of_cond0 h
    refine RegI.o (OpE.run 21 (by kernel_rfl) (run_strIdx (T0 := 9) (s := p0) (j := t5) (by kernel_rfl) (by kernel_rfl) hc8) ?_)
    obtain ⟨t13, hg12, h⟩ := of_bind h
    refine RegI.o (OpE.call 22 (by kernel_rfl) 71 #[.int .u8 (btD p0 t5)] (by kernel_rfl) ((charabancref33_value_71_ok K _ w  (btD p0 t5) hH.old' hg12).mono ?_))
    rintro _ w9 ⟨rfl, hb10⟩
    refine ⟨_, rfl, ?_⟩
    have h11 := hH.call hb10
    refine RegI.p 1 [(0, .string p0), (4, .slice A2 t4.length c3), (5, .int .i64 t5), (6, .int .i64 t13)] ?_
    refine RegI.d ?_
    refine RunsI.g 1 [.c 28, .c 29, .blk 1, .c 38, .lp 9, .blk 0, .c 39] ?_
    refine RunsI.r ?_
    refine RegI.p 3 [(0, .string p0), (4, .slice A2 t4.length c3), (5, .int .i64 t5), (6, .int .i64 t13), (23, .string p0), (25, .int .i64 (IntKind.wrap .i64 (t5 + 1)))] ?_
    obtain ⟨hc14, h⟩ := of_cond0 h
    refine RegI.o (OpE.run 26 (by kernel_rfl) (run_strIdx (T0 := 9) (s := p0) (j := (IntKind.wrap .i64 (t5 + 1))) (by kernel_rfl) (by kernel_rfl) hc14) ?_)
    obtain ⟨t19, hg18, h⟩ := of_bind h
    refine RegI.o (OpE.call 27 (by kernel_rfl) 71 #[.int .u8 (btD p0 (IntKind.wrap .i64 (t5 + 1)))] (by kernel_rfl) ((charabancref33_value_71_ok K _ w9  (btD p0 (IntKind.wrap .i64 (t5 + 1))) h11.old' hg18).mono ?_))
    rintro _ w15 ⟨rfl, hb16⟩
    refine ⟨_, rfl, ?_⟩
    have h17 := h11.call hb16
    refine RegI.p 1 [(0, .string p0), (4, .slice A2 t4.length c3), (5, .int .i64 t5), (6, .int .i64 t13), (7, .int .i64 t19)] ?_
    refine RegI.d ?_
    refine RunsI.g 2 [.c 31, .c 32, .c 37, .blk 1, .c 38, .lp 9, .blk 0, .c 39] ?_
    refine RunsI.r ?_
    refine RegI.p 3 [(0, .string p0), (4, .slice A2 t4.length c3), (5, .int .i64 t5), (6, .int .i64 t13), (7, .int .i64 t19), (30, .bool (decide (t13 < 0)))] ?_
    obtain ⟨j24, hJ25, h⟩ := of_let h
    have hj26 : ∀ (t21 : Bool) (w23 : World), j24 t21 = some x → Holds M0 w0 w23 [own (Rp.int .u8) 5 (.slice A2 t4.length c3) t4] → RegI F37 31 [.c 32, .c 37, .blk 1, .c 38, .lp 9, .blk 0, .c 39] 6 [(0, .string p0), (4, .slice A2 t4.length c3), (5, .int .i64 t5), (6, .int .i64 t13), (7, .int .i64 t19), (33, .bool t21)] w23 R := by
     intro t21 w23 h h22
     rw [hJ25] at h
     clear hJ25
     dsimp only at h
     refine RegI.d ?_
     rcases of_cond h with ⟨hc27, h⟩ | ⟨hc27, h⟩
     ·skip
      refine RunsI.f 33 true hc27 ?_
      refine RunsI.b true 33 ?_
      refine RunsI.g 1 [.c 34, .c 35, .c 37, .blk 1, .c 38, .lp 9, .blk 0, .c 39] ?_
      refine RunsI.r ?_
      refine RegI.p 2 [(2, .slice none 0 0), (3, .bool false)] ?_
      refine RegI.d ?_
      refine RunsI.t (.tuple #[.slice none 0 0, .bool false]) ?_
      exact hk1 w23 (Option.some.inj h).symm (h22.pick [] (by decide))
     ·skip
      refine RunsI.f 33 false hc27 ?_
      refine RunsI.b false 36 ?_
      refine RunsI.g 1 [.c 37, .blk 1, .c 38, .lp 9, .blk 0, .c 39] ?_
      refine RunsI.r ?_
      refine RegI.p 6 [(0, .string p0), (5, .int .i64 t5), (34, .slice A2 t4.length c3), (39, .int .u8 (IntKind.wrap .u8 (IntKind.wrap .i64 ((IntKind.wrap .i64 (16 * t13)) + t19))))] ?_
      refine RegI.o (OpE.lit 40 5 [.int .u8 (IntKind.wrap .u8 (IntKind.wrap .i64 ((IntKind.wrap .i64 (16 * t13)) + t19)))] 1 h22 (by kernel_rfl) (by kernel_rfl) ?_)
      intro w28 b29 h30 hb31 hn32
      obtain ⟨hc33, h⟩ := of_cond0 h
      refine RegI.o (OpE.appendBox 41 0 1 23 5 1 ([(IntKind.wrap .u8 (IntKind.wrap .i64 ((IntKind.wrap .i64 (16 * t13)) + t19)))] : List Int) 0 h30 (by kernel_rfl) (by kernel_rfl) (by kernel_rfl) rfl rfl rfl (cells_int _ _ _ _) hc33 ?_)
      intro w34 A35 c36 h37 hk38
      refine RegI.p 1 [(0, .string p0), (4, .slice A35 ((t4 ++ ([(IntKind.wrap .u8 (IntKind.wrap .i64 ((IntKind.wrap .i64 (16 * t13)) + t19)))] : List Int)).length) c36), (5, .int .i64 t5)] ?_
      refine RegI.d ?_
      refine RunsI.g 1 [.c 38, .lp 9, .blk 0, .c 39] ?_
      refine RunsI.r ?_
      refine RegI.p 3 [(0, .string p0), (4, .slice A35 ((t4 ++ ([(IntKind.wrap .u8 (IntKind.wrap .i64 ((IntKind.wrap .i64 (16 * t13)) + t19)))] : List Int)).length) c36), (5, .int .i64 (IntKind.wrap .i64 (t5 + 2)))] ?_
      refine RegI.d ?_
      refine RunsI.g 1 [.c 9, .lp 9, .blk 0, .c 39] ?_
      refine RunsI.l [0, 4, 5] [(0, .string p0), (4, .slice A35 ((t4 ++ ([(IntKind.wrap .u8 (IntKind.wrap .i64 ((IntKind.wrap .i64 (16 * t13)) + t19)))] : List Int)).length) c36), (5, .int .i64 (IntKind.wrap .i64 (t5 + 2)))] ?_
      exact ih (t4 ++ ([(IntKind.wrap .u8 (IntKind.wrap .i64 ((IntKind.wrap .i64 (16 * t13)) + t19)))] : List Int)) (IntKind.wrap .i64 (t5 + 2)) A35 c36 w34 h (h37.pick [0] (by decide))
    clear hJ25
    rcases of_cond h with ⟨hc20, h⟩ | ⟨hc20, h⟩
    ·skip
     refine RegI.f 30 true hc20 ?_
     refine RegI.p 3 [(0, .string p0), (4, .slice A2 t4.length c3), (5, .int .i64 t5), (6, .int .i64 t13), (7, .int .i64 t19), (33, .bool true)] ?_
     refine RegI.l [0, 4, 5, 6, 7, 33] [(0, .string p0), (4, .slice A2 t4.length c3), (5, .int .i64 t5), (6, .int .i64 t13), (7, .int .i64 t19), (33, .bool true)] ?_
     exact hj26 true w15 h (h17.pick [0] (by decide))
    ·skip
     refine RegI.f 30 false hc20 ?_
     refine RegI.p 3 [(0, .string p0), (4, .slice A2 t4.length c3), (5, .int .i64 t5), (6, .int .i64 t13), (7, .int .i64 t19), (33, .bool (decide (t19 < 0)))] ?_
     refine RegI.l [0, 4, 5, 6, 7, 33] [(0, .string p0), (4, .slice A2 t4.length c3), (5, .int .i64 t5), (6, .int .i64 t13), (7, .int .i64 t19), (33, .bool (decide (t19 < 0)))] ?_
     exact hj26 (decide (t19 < 0)) w15 h (h17.pick [0] (by decide))
  ·skip
   refine RunsI.f 11 false hc6 ?_
   refine RunsI.b false 14 ?_
   refine RunsI.g 1 [.c 39] ?_
   refine RunsI.l [4] [(4, .slice A2 t4.length c3)] ?_
   exact hk0 t4 A2 c3 w (Option.some.inj h).symm (hH.pick [0] (by decide))
def charabancref33_bytes_37.f (K : Nat) (p0 : ByteArray) : Option ((List Int) × Bool) := (charabancref33_bytes_37.l0 K p0 K ([] : List Int) 0).bind (fun x42 => Lp.elim x42 (fun _ => some (([] : List Int), false)) (fun t46 => some (t46, true)))
set_option maxRecDepth 100000 in
theorem charabancref33_bytes_37_ok (K : Nat) (M0 : Nat → Prop) (w0 : World) (p0 : ByteArray) (ho : ∀ b, M0 b → b < w0.heap.size) {r : (List Int) × Bool} (h : charabancref33_bytes_37.f K p0 = some r) :
  Calls Tryd.prog 37 #[.string p0] w0 (charabancref33_bytes_37.post M0 w0 r) := by
 unfold charabancref33_bytes_37.f at h
 have h0 : Holds M0 w0 w0 [] := Holds.start ho
 have h0 : Holds M0 w0 w0 [] := h0
 refine calls_of F37 rfl [.string p0] (by kernel_rfl) ?_
 refine RunsI.g 1 [.c 1, .c 2] ?_
 refine RunsI.r ?_
 refine RegI.p 2 [(0, .string p0)] ?_
 refine RegI.d ?_
 refine RunsI.g 1 [.c 3, .c 4] ?_
 refine RunsI.r ?_
 refine RegI.p 1 [(0, .string p0), (4, .slice none 0 0)] ?_
 refine RegI.d ?_
 refine RunsI.g 2 [.c 6, .c 7, .c 39] ?_
 refine RunsI.r ?_
 refine RegI.p 1 [(0, .string p0), (4, .slice none 0 0), (5, .int .i64 0)] ?_
 refine RegI.d ?_
 refine RunsI.g 2 [.c 9, .lp 9, .blk 0, .c 39] ?_
 obtain ⟨x42, hx43, h⟩ := of_bind h
 have h1 := h0.addOwnNil (Rp.int .u8) 5
 refine RunsI.l [0, 4, 5] [(0, .string p0), (4, .slice none (([] : List Int).length) 0), (5, .int .i64 0)] ?_
 refine charabancref33_bytes_37.l0_ok K M0 w0 p0 _ x42 ?_ ?_ K ([] : List Int) 0 none 0 w0 hx43 (h1.pick [0] (by decide))
 ·intro t46 A44 c45 w48 hq51 h47
  (try rw [hq51] at h)
  dsimp only [Lp.elim] at h
  refine RunsI.g 1 [.c 40, .c 41] ?_
  refine RunsI.r ?_
  refine RegI.p 3 [(2, .slice A44 t46.length c45), (3, .bool true)] ?_
  refine RegI.d ?_
  refine RunsI.t (.tuple #[.slice A44 t46.length c45, .bool true]) ?_
  obtain rfl := Option.some.inj h
  exact ⟨A44, c45, rfl, h47.pick [0] (by decide)⟩
 ·intro w50 hq52 h49
  (try rw [hq52] at h)
  dsimp only [Lp.elim] at h
  have h53 := h49.addOwnNil (Rp.int .u8) 5
  obtain rfl := Option.some.inj h
  exact ⟨none, 0, rfl, h53.pick [0] (by decide)⟩
end

/-! ### charabanc/charabancref01.Word (function 38) -/
section
def charabancref01_Word_38.post (M0 : Nat → Prop) (w0 : World) (r : Int) : Ending → World → Prop := fun e w => e = .returned (.int .u16 r) ∧ Below w0.heap.size w0 w
def charabancref01_Word_38.f (K : Nat) (p0 : Int) (p1 : Int) : Option Int := some (IntKind.wrap .u16 (IntKind.wrap .i64 ((IntKind.wrap .i64 (256 * (IntKind.wrap .i64 p0))) + (IntKind.wrap .i64 p1))))
set_option maxRecDepth 100000 in
theorem charabancref01_Word_38_ok (K : Nat) (M0 : Nat → Prop) (w0 : World) (p0 : Int) (p1 : Int) (ho : ∀ b, M0 b → b < w0.heap.size) {r : Int} (h : charabancref01_Word_38.f K p0 p1 = some r) :
  Calls Tryd.prog 38 #[.int .u8 p0, .int .u8 p1] w0 (charabancref01_Word_38.post M0 w0 r) := by
 unfold charabancref01_Word_38.f at h
 have h0 : Holds M0 w0 w0 [] := Holds.start ho
 have h0 : Holds M0 w0 w0 [] := h0
 refine calls_of F38 rfl [.int .u8 p0, .int .u8 p1] (by kernel_rfl) ?_
 refine RunsI.g 1 [.c 1, .c 2] ?_
 refine RunsI.r ?_
 refine RegI.p 1 [(0, .int .u8 p0), (1, .int .u8 p1)] ?_
 refine RegI.d ?_
 refine RunsI.g 1 [.c 3, .c 4] ?_
 refine RunsI.r ?_
 refine RegI.p 8 [(4, .int .u16 (IntKind.wrap .u16 (IntKind.wrap .i64 ((IntKind.wrap .i64 (256 * (IntKind.wrap .i64 p0))) + (IntKind.wrap .i64 p1)))))] ?_
 refine RegI.d ?_
 refine RunsI.t (.int .u16 (IntKind.wrap .u16 (IntKind.wrap .i64 ((IntKind.wrap .i64 (256 * (IntKind.wrap .i64 p0))) + (IntKind.wrap .i64 p1))))) ?_
 obtain rfl := Option.some.inj h
 exact ⟨rfl, h0.below⟩
end

/-! ### charabanc/charabancref33.Parse (function 15) -/
section
def charabancref33_Parse_15.post (M0 : Nat → Prop) (w0 : World) (r : Int × Int × (List Int) × Int) : Ending → World → Prop := fun e w => ∃ (A3 : Option Addr) (c3 : Nat), e = .returned (.tuple #[.agg #[.int .u8 r.1, .int .u16 r.2.1, .slice A3 r.2.2.1.length c3], .int .i64 r.2.2.2]) ∧ Holds M0 w0 w [sl (Rp.int .u8) (.slice A3 r.2.2.1.length c3) r.2.2.1]
def charabancref33_Parse_15.f (K : Nat) (p0 : ByteArray) : Option (Int × Int × (List Int) × Int) := Let (fun (t8 : Bool) => cond t8 (some (0, 0, ([] : List Int), 330)) (cond (cutR 1 (p0.size : Int) p0.size) ((charabancref33_bytes_37.f K (strCut p0 1 (p0.size : Int))).bind fun yt23 => Let (fun (t34 : Bool) => cond t34 (some (0, 0, ([] : List Int), 330)) (cond (inR 3 yt23.1.length) (cond (inR 1 yt23.1.length) (cond (inR 2 yt23.1.length) ((charabancref01_Word_38.f K (rdD yt23.1 1) (rdD yt23.1 2)).bind fun t68 => cond (cutR 4 (IntKind.wrap .i64 ((yt23.1.length : Int) - 1)) yt23.1.length) ((charabancref33_Sum_18.f K (rdD yt23.1 3) t68 (cutL yt23.1 4 (IntKind.wrap .i64 ((yt23.1.length : Int) - 1)))).bind fun t100 => cond (inR (IntKind.wrap .i64 ((yt23.1.length : Int) - 1)) yt23.1.length) (cond (t100 != (rdD yt23.1 (IntKind.wrap .i64 ((yt23.1.length : Int) - 1)))) (some (0, 0, ([] : List Int), 331)) (some ((rdD yt23.1 3), t68, (cutL yt23.1 4 (IntKind.wrap .i64 ((yt23.1.length : Int) - 1))), 0))) none) none) none) none) none)) (fun j37 => cond (!yt23.2) (j37 true) (cond (decide ((yt23.1.length : Int) < 5)) (j37 true) (cond (inR 0 yt23.1.length) (j37 ((yt23.1.length : Int) != (IntKind.wrap .i64 ((IntKind.wrap .i64 (rdD yt23.1 0)) + 5)))) none)))) none)) (fun j11 => cond (decide ((p0.size : Int) < 1)) (j11 true) (cond (inR 0 p0.size) (j11 ((btD p0 0) != 58)) none))
set_option maxRecDepth 100000 in
theorem charabancref33_Parse_15_ok (K : Nat) (M0 : Nat → Prop) (w0 : World) (p0 : ByteArray) (ho : ∀ b, M0 b → b < w0.heap.size) {r : Int × Int × (List Int) × Int} (h : charabancref33_Parse_15.f K p0 = some r) :
  Calls Tryd.prog 15 #[.string p0] w0 (charabancref33_Parse_15.post M0 w0 r) := by
 unfold charabancref33_Parse_15.f at h
 have h0 : Holds M0 w0 w0 [] := Holds.start ho
 have h0 : Holds M0 w0 w0 [] := h0
 refine calls_of F15 rfl [.string p0] (by kernel_rfl) ?_
 refine RunsI.g 1 [.c 1, .c 2] ?_
 refine RunsI.r ?_
 refine RegI.o (OpE.box 2 31 [.int .u8 0, .int .u16 0, .slice none 0 0] h0 (by kernel_rfl) (by kernel_rfl) ?_)
 intro w1 b2 h3 hb4 hn5
 refine RegI.p 1 [(0, .string p0), (2, .pointer (some ⟨b2, 0, none⟩))] ?_
 refine RegI.d ?_
 refine RunsI.g 2 [.c 4, .c 5, .c 10] ?_
 refine RunsI.r ?_
 refine RegI.p 4 [(0, .string p0), (2, .pointer (some ⟨b2, 0, none⟩)), (10, .bool (decide ((p0.size : Int) < 1)))] ?_
 obtain ⟨j11, hJ12, h⟩ := of_let h
 have hj13 : ∀ (t8 : Bool) (w10 : World), j11 t8 = some r → Holds M0 w0 w10 [box b2 31 [.int .u8 0, .int .u16 0, .slice none 0 0]] → RegI F15 4 [.c 5, .c 10] 8 [(0, .string p0), (2, .pointer (some ⟨b2, 0, none⟩)), (14, .bool t8)] w10 (charabancref33_Parse_15.post M0 w0 r) := by
  intro t8 w10 h h9
  rw [hJ12] at h
  clear hJ12
  dsimp only at h
  refine RegI.d ?_
  rcases of_cond h with ⟨hc14, h⟩ | ⟨hc14, h⟩
  ·skip
   refine RunsI.f 14 true hc14 ?_
   refine RunsI.b true 6 ?_
   refine RunsI.g 1 [.c 7, .c 8, .c 10] ?_
   refine RunsI.r ?_
   refine RegI.p 1 [(2, .pointer (some ⟨b2, 0, none⟩)), (15, .agg #[.int .u8 0, .int .u16 0, .slice none 0 0])] ?_
   refine RegI.o (OpE.storeBox 0 31 b2 0 (.agg #[.int .u8 0, .int .u16 0, .slice none 0 0]) [.int .u8 0, .int .u16 0, .slice none 0 0] h9 (by kernel_rfl) (by kernel_rfl) rfl (by kernel_rfl) (by kernel_rfl) (by kernel_rfl) ?_)
   intro w15 h16 hk17
   refine RegI.p 1 [(2, .pointer (some ⟨b2, 0, none⟩)), (3, .int .i64 330)] ?_
   refine RegI.d ?_
   refine RunsI.toRet (by kernel_rfl) ?_
   refine RetI.valW [.cell 2 31, .tmp 3] [.agg #[.int .u8 0, .int .u16 0, .slice none 0 0], .int .i64 330] (.tuple #[.agg #[.int .u8 0, .int .u16 0, .slice none 0 0], .int .i64 330]) (by kernel_rfl) (ResAt.box 0 31 b2 0 h16 (by kernel_rfl) (by kernel_rfl) rfl (by kernel_rfl) (ResAt.tmp (by kernel_rfl) (by kernel_rfl) rfl)) (by kernel_rfl) ?_
   have h117 := h16.addSl (Rp.int .u8) (.slice none 0 0) [] (Sl.nil _ _ _)
   obtain rfl := Option.some.inj h
   exact ⟨none, 0, rfl, h117.pick [1] (by decide)⟩
  ·skip
   refine RunsI.f 14 false hc14 ?_
   refine RunsI.b false 9 ?_
   refine RunsI.g 1 [.c 10] ?_
   refine RunsI.g 1 [.c 11, .c 12] ?_
   refine RunsI.r ?_
   refine RegI.p 1 [(2, .pointer (some ⟨b2, 0, none⟩)), (17, .string p0)] ?_
   obtain ⟨hc18, h⟩ := of_cond0 h
   refine RegI.o (OpE.run 18 (by kernel_rfl) (run_strCut (T := 9) (s := p0) (lo := (some 1)) (hi := none) (by kernel_rfl) (by kernel_rfl) hc18) ?_)
   obtain ⟨⟨t23, t27⟩, hg22, h⟩ := of_bind h
   dsimp only at h
   refine RegI.o (OpE.call 19 (by kernel_rfl) 37 #[.string (strCut p0 1 (p0.size : Int))] (by kernel_rfl) ((charabancref33_bytes_37_ok K _ w10  (strCut p0 1 (p0.size : Int)) h9.old' hg22).mono ?_))
   rintro _ w19 ⟨A24, c25, rfl, hr28⟩
   refine ⟨_, rfl, ?_⟩
   have hb20 := hr28.below
   have h21 := h9.join hr28
   refine RegI.p 5 [(2, .pointer (some ⟨b2, 0, none⟩)), (4, .slice A24 t23.length c25), (5, .bool t27)] ?_
   refine RegI.d ?_
   refine RunsI.g 2 [.c 14, .c 15, .c 20] ?_
   refine RunsI.r ?_
   refine RegI.p 3 [(2, .pointer (some ⟨b2, 0, none⟩)), (4, .slice A24 t23.length c25), (24, .bool (!t27))] ?_
   obtain ⟨j37, hJ38, h⟩ := of_let h
   have hj39 : ∀ (t34 : Bool) (w36 : World), j37 t34 = some r → Holds M0 w0 w36 [box b2 31 [.int .u8 0, .int .u16 0, .slice none 0 0], own (Rp.int .u8) 5 (.slice A24 t23.length c25) t23] → RegI F15 14 [.c 15, .c 20] 17 [(2, .pointer (some ⟨b2, 0, none⟩)), (4, .slice A24 t23.length c25), (38, .bool t34)] w36 (charabancref33_Parse_15.post M0 w0 r) := by
    intro t34 w36 h h35
    rw [hJ38] at h
    clear hJ38
    dsimp only at h
    refine RegI.d ?_
    rcases of_cond h with ⟨hc40, h⟩ | ⟨hc40, h⟩
    ·skip
     refine RunsI.f 38 true hc40 ?_
     refine RunsI.b true 16 ?_
     refine RunsI.g 1 [.c 17, .c 18, .c 20] ?_
     refine RunsI.r ?_
     refine RegI.p 1 [(2, .pointer (some ⟨b2, 0, none⟩)), (39, .agg #[.int .u8 0, .int .u16 0, .slice none 0 0])] ?_
     refine RegI.o (OpE.storeBox 0 31 b2 0 (.agg #[.int .u8 0, .int .u16 0, .slice none 0 0]) [.int .u8 0, .int .u16 0, .slice none 0 0] h35 (by kernel_rfl) (by kernel_rfl) rfl (by kernel_rfl) (by kernel_rfl) (by kernel_rfl) ?_)
     intro w41 h42 hk43
     refine RegI.p 1 [(2, .pointer (some ⟨b2, 0, none⟩)), (3, .int .i64 330)] ?_
     refine RegI.d ?_
     refine RunsI.toRet (by kernel_rfl) ?_
     refine RetI.valW [.cell 2 31, .tmp 3] [.agg #[.int .u8 0, .int .u16 0, .slice none 0 0], .int .i64 330] (.tuple #[.agg #[.int .u8 0, .int .u16 0, .slice none 0 0], .int .i64 330]) (by kernel_rfl) (ResAt.box 0 31 b2 0 h42 (by kernel_rfl) (by kernel_rfl) rfl (by kernel_rfl) (ResAt.tmp (by kernel_rfl) (by kernel_rfl) rfl)) (by kernel_rfl) ?_
     have h118 := h42.addSl (Rp.int .u8) (.slice none 0 0) [] (Sl.nil _ _ _)
     obtain rfl := Option.some.inj h
     exact ⟨none, 0, rfl, h118.pick [2] (by decide)⟩
    ·skip
     refine RunsI.f 38 false hc40 ?_
     refine RunsI.b false 19 ?_
     refine RunsI.g 1 [.c 20] ?_
     refine RunsI.g 1 [.c 21, .c 22] ?_
     have h44 := h35.release 1 rfl
     refine RunsI.any 18 (by kernel_rfl) (by kernel_rfl) (by kernel_rfl) (Kp ([] : List Nat) (World.drew w36)) ?_
     have h46 := h44.drew
     generalize World.drew w36 = w45 at h46 ⊢
     have hS47 := Kp.refl ([] : List Nat) w45
     refine AnyE.pure 0 40 (.slice A24 t23.length c25) (by kernel_rfl) hS47 (fun _ => by kernel_rfl) ?_
     obtain ⟨hc49, h⟩ := of_cond0 h
     refine AnyE.idxSl 1 41 1 23 3 h46 (by kernel_rfl) hS47 rfl (by kernel_rfl) (by kernel_rfl) hc49 ?_
     intro b50 o51 cs52 hk53 h54
     obtain rfl := hk53
     refine AnyE.loadCel 2 42 2 5 b50 o51 0 (.int .u8 (rdD t23 3)) [] h54 rfl (by kernel_rfl) hS47 rfl rfl (by kernel_rfl) (by kernel_rfl) ?_
     refine AnyE.pure 3 43 (.slice A24 t23.length c25) (by kernel_rfl) hS47 (fun _ => by kernel_rfl) ?_
     obtain ⟨hc55, h⟩ := of_cond0 h
     refine AnyE.idxSl 4 44 1 23 1 h54 (by kernel_rfl) hS47 rfl (by kernel_rfl) (by kernel_rfl) hc55 ?_
     intro b56 o57 cs58 hk59 h60
     obtain rfl := hk59
     refine AnyE.loadCel 5 45 3 5 b56 o57 0 (.int .u8 (rdD t23 1)) [] h60 rfl (by kernel_rfl) hS47 rfl rfl (by kernel_rfl) (by kernel_rfl) ?_
     refine AnyE.pure 6 46 (.slice A24 t23.length c25) (by kernel_rfl) hS47 (fun _ => by kernel_rfl) ?_
     obtain ⟨hc61, h⟩ := of_cond0 h
     refine AnyE.idxSl 7 47 1 23 2 h60 (by kernel_rfl) hS47 rfl (by kernel_rfl) (by kernel_rfl) hc61 ?_
     intro b62 o63 cs64 hk65 h66
     obtain rfl := hk65
     refine AnyE.loadCel 8 48 4 5 b62 o63 0 (.int .u8 (rdD t23 2)) [] h66 rfl (by kernel_rfl) hS47 rfl rfl (by kernel_rfl) (by kernel_rfl) ?_
     obtain ⟨t68, hg67, h⟩ := of_bind h
     refine AnyE.call 9 49 (.int .u16 t68) 38 #[.int .u8 (rdD t23 1), .int .u8 (rdD t23 2)] (by kernel_rfl) hS47 (fun _ => by kernel_rfl) (fun w hk => charabancref01_Word_38_ok K (fun _ => False) w (rdD t23 1) (rdD t23 2) (fun _ hf => hf.elim) hg67) ?_
     refine AnyE.pure 10 50 (.slice A24 t23.length c25) (by kernel_rfl) hS47 (fun _ => by kernel_rfl) ?_
     refine AnyE.pure 11 51 (.slice A24 t23.length c25) (by kernel_rfl) hS47 (fun _ => by kernel_rfl) ?_
     refine AnyE.pure 12 52 (.int .i64 (t23.length : Int)) (by kernel_rfl) hS47 (fun _ => by kernel_rfl) ?_
     refine AnyE.pure 13 53 (.int .i64 (IntKind.wrap .i64 ((t23.length : Int) - 1))) (by kernel_rfl) hS47 (fun _ => by kernel_rfl) ?_
     obtain ⟨hc69, h⟩ := of_cond0 h
     refine AnyE.cutSl 14 54 1 23 (some 4) (some (IntKind.wrap .i64 ((t23.length : Int) - 1))) h66 (by kernel_rfl) hS47 rfl (by kernel_rfl) (by kernel_rfl) hc69 ?_
     intro A70 c71 h72
     refine AnyE.pure 15 55 (.agg #[.int .u8 (rdD t23 3), .int .u16 t68, .slice A70 ((cutL t23 4 (IntKind.wrap .i64 ((t23.length : Int) - 1))).length) c71]) (by kernel_rfl) hS47 (fun _ => by kernel_rfl) ?_
     refine AnyE.one 16 (by kernel_rfl) (fun w73 hu74 => ?_)
     have h75 := h72.call hu74
     have hS76 := hS47.up hu74
     refine OpE.box 6 31 [.int .u8 0, .int .u16 0, .slice none 0 0] h75 (by kernel_rfl) (by kernel_rfl) ?_
     intro w77 b78 h79 hb80 hn81
     have hn82 := Nat.le_trans hS76.1 hn81
     have hS83 := hS76.up hb80
     refine ⟨hS83, ?_⟩
     refine AnyE.last 17 (by kernel_rfl) (by kernel_rfl) (fun w84 hu85 => ?_)
     have h86 := h79.call hu85
     have hS87 := hS83.up hu85
     refine OpE.storeBox 6 31 b78 0 (.agg #[.int .u8 (rdD t23 3), .int .u16 t68, .slice A70 ((cutL t23 4 (IntKind.wrap .i64 ((t23.length : Int) - 1))).length) c71]) [.int .u8 (rdD t23 3), .int .u16 t68, .slice A70 ((cutL t23 4 (IntKind.wrap .i64 ((t23.length : Int) - 1))).length) c71] h86 (by kernel_rfl) (by kernel_rfl) rfl (by kernel_rfl) (by kernel_rfl) (by kernel_rfl) ?_
     intro w88 h89 hk90
     refine AnyE.done (by kernel_rfl) (fun w92 hu93 => ?_)
     have h94 := h89.call hu93
     refine RunsI.l [2, 4, 6] [(2, .pointer (some ⟨b2, 0, none⟩)), (4, .slice A24 t23.length c25), (6, .pointer (some ⟨b78, 0, none⟩))] ?_
     refine RunsI.g 2 [.c 24, .c 25, .c 30] ?_
     refine RunsI.any 9 (by kernel_rfl) (by kernel_rfl) (by kernel_rfl) (Kp ([] : List Nat) (World.drew w92)) ?_
     have h96 := h94.drew
     generalize World.drew w92 = w95 at h96 ⊢
     have hS97 := Kp.refl ([] : List Nat) w95
     refine AnyE.loadBox 0 56 6 31 b78 0 (.agg #[.int .u8 (rdD t23 3), .int .u16 t68, .slice A70 ((cutL t23 4 (IntKind.wrap .i64 ((t23.length : Int) - 1))).length) c71]) [] h96 rfl (by kernel_rfl) hS97 rfl rfl (by kernel_rfl) (by kernel_rfl) ?_
     obtain ⟨t100, hg99, h⟩ := of_bind h
     refine AnyE.call 1 57 (.int .u8 t100) 18 #[.agg #[.int .u8 (rdD t23 3), .int .u16 t68, .slice A70 ((cutL t23 4 (IntKind.wrap .i64 ((t23.length : Int) - 1))).length) c71]] (by kernel_rfl) hS97 (fun _ => by kernel_rfl) (fun w hk => charabancref33_Sum_18_ok K (fun _ => False) w A70 c71 (rdD t23 3) t68 (cutL t23 4 (IntKind.wrap .i64 ((t23.length : Int) - 1))) (fun _ hf => hf.elim) (Sl.mono (h96.atI [] rfl hk 5 rfl rfl) (fun _ _ hf => hf.elim)) hg99) ?_
     refine AnyE.pure 2 58 (.slice A24 t23.length c25) (by kernel_rfl) hS97 (fun _ => by kernel_rfl) ?_
     refine AnyE.pure 3 59 (.slice A24 t23.length c25) (by kernel_rfl) hS97 (fun _ => by kernel_rfl) ?_
     refine AnyE.pure 4 60 (.int .i64 (t23.length : Int)) (by kernel_rfl) hS97 (fun _ => by kernel_rfl) ?_
     refine AnyE.pure 5 61 (.int .i64 (IntKind.wrap .i64 ((t23.length : Int) - 1))) (by kernel_rfl) hS97 (fun _ => by kernel_rfl) ?_
     obtain ⟨hc101, h⟩ := of_cond0 h
     refine AnyE.idxSl 6 62 1 23 (IntKind.wrap .i64 ((t23.length : Int) - 1)) h96 (by kernel_rfl) hS97 rfl (by kernel_rfl) (by kernel_rfl) hc101 ?_
     intro b102 o103 cs104 hk105 h106
     obtain rfl := hk105
     refine AnyE.loadCel 7 63 7 5 b102 o103 0 (.int .u8 (rdD t23 (IntKind.wrap .i64 ((t23.length : Int) - 1)))) [] h106 rfl (by kernel_rfl) hS97 rfl rfl (by kernel_rfl) (by kernel_rfl) ?_
     refine AnyE.pure 8 64 (.bool (t100 != (rdD t23 (IntKind.wrap .i64 ((t23.length : Int) - 1))))) (by kernel_rfl) hS97 (fun _ => by kernel_rfl) ?_
     refine AnyE.done (by kernel_rfl) (fun w107 hu108 => ?_)
     have h109 := h106.call hu108
     refine RunsI.l [2, 6, 64] [(2, .pointer (some ⟨b2, 0, none⟩)), (6, .pointer (some ⟨b78, 0, none⟩)), (64, .bool (t100 != (rdD t23 (IntKind.wrap .i64 ((t23.length : Int) - 1)))))] ?_
     rcases of_cond h with ⟨hc110, h⟩ | ⟨hc110, h⟩
     ·skip
      refine RunsI.f 64 true hc110 ?_
      refine RunsI.b true 26 ?_
      refine RunsI.g 1 [.c 27, .c 28, .c 30] ?_
      refine RunsI.r ?_
      refine RegI.p 1 [(2, .pointer (some ⟨b2, 0, none⟩)), (65, .agg #[.int .u8 0, .int .u16 0, .slice none 0 0])] ?_
      refine RegI.o (OpE.storeBox 0 31 b2 0 (.agg #[.int .u8 0, .int .u16 0, .slice none 0 0]) [.int .u8 0, .int .u16 0, .slice none 0 0] h109 (by kernel_rfl) (by kernel_rfl) rfl (by kernel_rfl) (by kernel_rfl) (by kernel_rfl) ?_)
      intro w111 h112 hk113
      refine RegI.p 1 [(2, .pointer (some ⟨b2, 0, none⟩)), (3, .int .i64 331)] ?_
      refine RegI.d ?_
      refine RunsI.toRet (by kernel_rfl) ?_
      refine RetI.valW [.cell 2 31, .tmp 3] [.agg #[.int .u8 0, .int .u16 0, .slice none 0 0], .int .i64 331] (.tuple #[.agg #[.int .u8 0, .int .u16 0, .slice none 0 0], .int .i64 331]) (by kernel_rfl) (ResAt.box 0 31 b2 0 h112 (by kernel_rfl) (by kernel_rfl) rfl (by kernel_rfl) (ResAt.tmp (by kernel_rfl) (by kernel_rfl) rfl)) (by kernel_rfl) ?_
      have h119 := h112.addSl (Rp.int .u8) (.slice none 0 0) [] (Sl.nil _ _ _)
      obtain rfl := Option.some.inj h
      exact ⟨none, 0, rfl, h119.pick [8] (by decide)⟩
     ·skip
      refine RunsI.f 64 false hc110 ?_
      refine RunsI.b false 29 ?_
      refine RunsI.g 1 [.c 30] ?_
      refine RunsI.g 1 [.c 31, .c 32] ?_
      refine RunsI.r ?_
      refine RegI.o (OpE.loadBox 66 6 31 b78 0 (.agg #[.int .u8 (rdD t23 3), .int .u16 t68, .slice A70 ((cutL t23 4 (IntKind.wrap .i64 ((t23.length : Int) - 1))).length) c71]) h109 (by kernel_rfl) (by kernel_rfl) rfl (by kernel_rfl) ?_)
      refine RegI.o (OpE.storeBox 0 31 b2 0 (.agg #[.int .u8 (rdD t23 3), .int .u16 t68, .slice A70 ((cutL t23 4 (IntKind.wrap .i64 ((t23.length : Int) - 1))).length) c71]) [.int .u8 (rdD t23 3), .int .u16 t68, .slice A70 ((cutL t23 4 (IntKind.wrap .i64 ((t23.length : Int) - 1))).length) c71] h109 (by kernel_rfl) (by kernel_rfl) rfl (by kernel_rfl) (by kernel_rfl) (by kernel_rfl) ?_)
      intro w114 h115 hk116
      refine RegI.p 1 [(2, .pointer (some ⟨b2, 0, none⟩)), (3, .int .i64 0)] ?_
      refine RegI.d ?_
      refine RunsI.toRet (by kernel_rfl) ?_
      refine RetI.valW [.cell 2 31, .tmp 3] [.agg #[.int .u8 (rdD t23 3), .int .u16 t68, .slice A70 ((cutL t23 4 (IntKind.wrap .i64 ((t23.length : Int) - 1))).length) c71], .int .i64 0] (.tuple #[.agg #[.int .u8 (rdD t23 3), .int .u16 t68, .slice A70 ((cutL t23 4 (IntKind.wrap .i64 ((t23.length : Int) - 1))).length) c71], .int .i64 0]) (by kernel_rfl) (ResAt.box 0 31 b2 0 h115 (by kernel_rfl) (by kernel_rfl) rfl (by kernel_rfl) (ResAt.tmp (by kernel_rfl) (by kernel_rfl) rfl)) (by kernel_rfl) ?_
      obtain rfl := Option.some.inj h
      exact ⟨A70, c71, rfl, h115.pick [5] (by decide)⟩
   clear hJ38
   rcases of_cond h with ⟨hc29, h⟩ | ⟨hc29, h⟩
   ·skip
    refine RegI.f 24 true hc29 ?_
    refine RegI.p 14 [(2, .pointer (some ⟨b2, 0, none⟩)), (4, .slice A24 t23.length c25), (38, .bool true)] ?_
    refine RegI.l [2, 4, 38] [(2, .pointer (some ⟨b2, 0, none⟩)), (4, .slice A24 t23.length c25), (38, .bool true)] ?_
    exact hj39 true w19 h (h21.pick [0, 1] (by decide))
   ·skip
    refine RegI.f 24 false hc29 ?_
    refine RegI.p 5 [(2, .pointer (some ⟨b2, 0, none⟩)), (4, .slice A24 t23.length c25), (29, .bool (decide ((t23.length : Int) < 5)))] ?_
    rcases of_cond h with ⟨hc30, h⟩ | ⟨hc30, h⟩
    ·skip
     refine RegI.f 29 true hc30 ?_
     refine RegI.p 9 [(2, .pointer (some ⟨b2, 0, none⟩)), (4, .slice A24 t23.length c25), (38, .bool true)] ?_
     refine RegI.l [2, 4, 38] [(2, .pointer (some ⟨b2, 0, none⟩)), (4, .slice A24 t23.length c25), (38, .bool true)] ?_
     exact hj39 true w19 h (h21.pick [0, 1] (by decide))
    ·skip
     refine RegI.f 29 false hc30 ?_
     refine RegI.p 3 [(2, .pointer (some ⟨b2, 0, none⟩)), (4, .slice A24 t23.length c25), (29, .bool false), (31, .int .i64 (t23.length : Int)), (32, .slice A24 t23.length c25)] ?_
     obtain ⟨hc31, h⟩ := of_cond0 h
     refine RegI.o (OpE.idxOwnA 33 1 23 5 0 h21 (by kernel_rfl) rfl (by kernel_rfl) (by kernel_rfl) hc31 ?_)
     refine RegI.o (OpE.loadOwnA 34 1 5 5 0 0 (o := (Int.toNat 0) * 1 + 0) h21 (by kernel_rfl) rfl (by kernel_rfl) (by kernel_rfl) hc31 (fun cs32 hk33 => ?_))
     obtain rfl := hk33
     refine ⟨.int .u8 (rdD t23 0), by kernel_rfl, ?_⟩
     refine RegI.p 4 [(2, .pointer (some ⟨b2, 0, none⟩)), (4, .slice A24 t23.length c25), (38, .bool ((t23.length : Int) != (IntKind.wrap .i64 ((IntKind.wrap .i64 (rdD t23 0)) + 5))))] ?_
     refine RegI.l [2, 4, 38] [(2, .pointer (some ⟨b2, 0, none⟩)), (4, .slice A24 t23.length c25), (38, .bool ((t23.length : Int) != (IntKind.wrap .i64 ((IntKind.wrap .i64 (rdD t23 0)) + 5))))] ?_
     exact hj39 ((t23.length : Int) != (IntKind.wrap .i64 ((IntKind.wrap .i64 (rdD t23 0)) + 5))) w19 h (h21.pick [0, 1] (by decide))
 clear hJ12
 rcases of_cond h with ⟨hc6, h⟩ | ⟨hc6, h⟩
 ·skip
  refine RegI.f 10 true hc6 ?_
  refine RegI.p 4 [(0, .string p0), (2, .pointer (some ⟨b2, 0, none⟩)), (14, .bool true)] ?_
  refine RegI.l [0, 2, 14] [(0, .string p0), (2, .pointer (some ⟨b2, 0, none⟩)), (14, .bool true)] ?_
  exact hj13 true w1 h (h3.pick [0] (by decide))
 ·skip
  refine RegI.f 10 false hc6 ?_
  refine RegI.p 1 [(0, .string p0), (2, .pointer (some ⟨b2, 0, none⟩)), (10, .bool false), (11, .string p0)] ?_
  obtain ⟨hc7, h⟩ := of_cond0 h
  refine RegI.o (OpE.run 12 (by kernel_rfl) (run_strIdx (T0 := 9) (s := p0) (j := 0) (by kernel_rfl) (by kernel_rfl) hc7) ?_)
  refine RegI.p 2 [(0, .string p0), (2, .pointer (some ⟨b2, 0, none⟩)), (14, .bool ((btD p0 0) != 58))] ?_
  refine RegI.l [0, 2, 14] [(0, .string p0), (2, .pointer (some ⟨b2, 0, none⟩)), (14, .bool ((btD p0 0) != 58))] ?_
  exact hj13 ((btD p0 0) != 58) w1 h (h3.pick [0] (by decide))
end

/-! ### charabanc/charabancref33.Same (function 16) -/
section
def charabancref33_Same_16.post (M0 : Nat → Prop) (w0 : World) (r : Bool) : Ending → World → Prop := fun e w => e = .returned (.bool r) ∧ Below w0.heap.size w0 w
def charabancref33_Same_16.f (K : Nat) (p0_0 : Int) (p0_1 : Int) (p0_2 : List Int) (p1_0 : Int) (p1_1 : Int) (p1_2 : List Int) : Option Bool := cond (p0_0 == p1_0) (cond (p0_1 == p1_1) (some ((ByteArray.toList (strOf p0_2)) == (ByteArray.toList (strOf p1_2)))) (some false)) (some false)
set_option maxRecDepth 100000 in
theorem charabancref33_Same_16_ok (K : Nat) (M0 : Nat → Prop) (w0 : World) (pA0_2 : Option Addr) (pc0_2 : Nat) (pA1_2 : Option Addr) (pc1_2 : Nat) (p0_0 : Int) (p0_1 : Int) (p0_2 : List Int) (p1_0 : Int) (p1_1 : Int) (p1_2 : List Int) (ho : ∀ b, M0 b → b < w0.heap.size) (hs0_2 : Sl (Rp.int .u8) w0 M0 (.slice pA0_2 p0_2.length pc0_2) p0_2) (hs1_2 : Sl (Rp.int .u8) w0 M0 (.slice pA1_2 p1_2.length pc1_2) p1_2) {r : Bool} (h : charabancref33_Same_16.f K p0_0 p0_1 p0_2 p1_0 p1_1 p1_2 = some r) :
  Calls Tryd.prog 16 #[.agg #[.int .u8 p0_0, .int .u16 p0_1, .slice pA0_2 p0_2.length pc0_2], .agg #[.int .u8 p1_0, .int .u16 p1_1, .slice pA1_2 p1_2.length pc1_2]] w0 (charabancref33_Same_16.post M0 w0 r) := by
 unfold charabancref33_Same_16.f at h
 have h0 : Holds M0 w0 w0 [] := Holds.start ho
 have h00_2 := h0.addSl (Rp.int .u8) (.slice pA0_2 p0_2.length pc0_2) p0_2 (hs0_2.mono (fun _ _ hm => hm.elim id (fun hm => absurd hm (by simp [mines, sl]))))
 have h01_2 := h00_2.addSl (Rp.int .u8) (.slice pA1_2 p1_2.length pc1_2) p1_2 (hs1_2.mono (fun _ _ hm => hm.elim id (fun hm => absurd hm (by simp [mines, sl]))))
 have h0 : Holds M0 w0 w0 [sl (Rp.int .u8) (.slice pA0_2 p0_2.length pc0_2) p0_2, sl (Rp.int .u8) (.slice pA1_2 p1_2.length pc1_2) p1_2] := h01_2
 refine calls_of F16 rfl [.agg #[.int .u8 p0_0, .int .u16 p0_1, .slice pA0_2 p0_2.length pc0_2], .agg #[.int .u8 p1_0, .int .u16 p1_1, .slice pA1_2 p1_2.length pc1_2]] (by kernel_rfl) ?_
 refine RunsI.g 1 [.c 1, .c 2] ?_
 refine RunsI.r ?_
 refine RegI.o (OpE.box 2 31 [.int .u8 p0_0, .int .u16 p0_1, .slice pA0_2 p0_2.length pc0_2] h0 (by kernel_rfl) (by kernel_rfl) ?_)
 intro w1 b2 h3 hb4 hn5
 refine RegI.o (OpE.box 3 31 [.int .u8 p1_0, .int .u16 p1_1, .slice pA1_2 p1_2.length pc1_2] h3 (by kernel_rfl) (by kernel_rfl) ?_)
 intro w6 b7 h8 hb9 hn10
 refine RegI.p 1 [(2, .pointer (some ⟨b2, 0, none⟩)), (3, .pointer (some ⟨b7, 0, none⟩))] ?_
 refine RegI.d ?_
 refine RunsI.g 1 [.c 3, .c 4] ?_
 refine RunsI.r ?_
 refine RegI.p 1 [(2, .pointer (some ⟨b2, 0, none⟩)), (3, .pointer (some ⟨b7, 0, none⟩)), (5, .pointer (some ⟨b2, 0, none⟩))] ?_
 refine RegI.o (OpE.loadBox 6 2 5 b2 0 (.int .u8 p0_0) h8 (by kernel_rfl) (by kernel_rfl) rfl (by kernel_rfl) ?_)
 refine RegI.p 1 [(2, .pointer (some ⟨b2, 0, none⟩)), (3, .pointer (some ⟨b7, 0, none⟩)), (6, .int .u8 p0_0), (7, .pointer (some ⟨b7, 0, none⟩))] ?_
 refine RegI.o (OpE.loadBox 8 3 5 b7 0 (.int .u8 p1_0) h8 (by kernel_rfl) (by kernel_rfl) rfl (by kernel_rfl) ?_)
 refine RegI.p 2 [(2, .pointer (some ⟨b2, 0, none⟩)), (3, .pointer (some ⟨b7, 0, none⟩)), (10, .bool (p0_0 == p1_0))] ?_
 rcases of_cond h with ⟨hc11, h⟩ | ⟨hc11, h⟩
 ·skip
  refine RegI.f 10 true hc11 ?_
  refine RegI.p 1 [(2, .pointer (some ⟨b2, 0, none⟩)), (3, .pointer (some ⟨b7, 0, none⟩)), (10, .bool true), (11, .pointer (some ⟨b2, 1, none⟩))] ?_
  refine RegI.o (OpE.loadBox 12 2 22 b2 1 (.int .u16 p0_1) h8 (by kernel_rfl) (by kernel_rfl) rfl (by kernel_rfl) ?_)
  refine RegI.p 1 [(2, .pointer (some ⟨b2, 0, none⟩)), (3, .pointer (some ⟨b7, 0, none⟩)), (10, .bool true), (12, .int .u16 p0_1), (13, .pointer (some ⟨b7, 1, none⟩))] ?_
  refine RegI.o (OpE.loadBox 14 3 22 b7 1 (.int .u16 p1_1) h8 (by kernel_rfl) (by kernel_rfl) rfl (by kernel_rfl) ?_)
  refine RegI.p 3 [(2, .pointer (some ⟨b2, 0, none⟩)), (3, .pointer (some ⟨b7, 0, none⟩)), (17, .bool (p0_1 == p1_1))] ?_
  rcases of_cond h with ⟨hc12, h⟩ | ⟨hc12, h⟩
  ·skip
   refine RegI.f 17 true hc12 ?_
   refine RegI.p 1 [(3, .pointer (some ⟨b7, 0, none⟩)), (17, .bool true), (18, .pointer (some ⟨b2, 2, none⟩))] ?_
   refine RegI.o (OpE.loadBox 19 2 23 b2 2 (.slice pA0_2 p0_2.length pc0_2) h8 (by kernel_rfl) (by kernel_rfl) rfl (by kernel_rfl) ?_)
   refine RegI.o (OpE.run 20 (by kernel_rfl) (run_toStr (s := 23) (d := 9) (v := .slice pA0_2 p0_2.length pc0_2) (by kernel_rfl) (by kernel_rfl) (h8.rdSl 0 rfl)) ?_)
   refine RegI.p 1 [(17, .bool true), (20, .string (strOf p0_2)), (21, .pointer (some ⟨b7, 2, none⟩))] ?_
   refine RegI.o (OpE.loadBox 22 3 23 b7 2 (.slice pA1_2 p1_2.length pc1_2) h8 (by kernel_rfl) (by kernel_rfl) rfl (by kernel_rfl) ?_)
   refine RegI.o (OpE.run 23 (by kernel_rfl) (run_toStr (s := 23) (d := 9) (v := .slice pA1_2 p1_2.length pc1_2) (by kernel_rfl) (by kernel_rfl) (h8.rdSl 1 rfl)) ?_)
   refine RegI.p 3 [(4, .bool ((ByteArray.toList (strOf p0_2)) == (ByteArray.toList (strOf p1_2))))] ?_
   refine RegI.d ?_
   refine RunsI.t (.bool ((ByteArray.toList (strOf p0_2)) == (ByteArray.toList (strOf p1_2)))) ?_
   obtain rfl := Option.some.inj h
   exact ⟨rfl, h8.below⟩
  ·skip
   refine RegI.f 17 false hc12 ?_
   refine RegI.p 9 [(4, .bool false)] ?_
   refine RegI.d ?_
   refine RunsI.t (.bool false) ?_
   obtain rfl := Option.some.inj h
   exact ⟨rfl, h8.below⟩
 ·skip
  refine RegI.f 10 false hc11 ?_
  refine RegI.p 16 [(4, .bool false)] ?_
  refine RegI.d ?_
  refine RunsI.t (.bool false) ?_
  obtain rfl := Option.some.inj h
  exact ⟨rfl, h8.below⟩
end

/-! ### charabanc/charabancref14.Get (function 45) -/
section
def charabancref14_Get_45.post (M0 : Nat → Prop) (w0 : World) (r : Int) : Ending → World → Prop := fun e w => e = .returned (.int .u8 r) ∧ Below w0.heap.size w0 w
def charabancref14_Get_45.l0 (K : Nat) (p0 : List (Int × Int)) (p1 : Int) : Nat → Int → Int → Option Int
 | 0, _, _ => none
 | k + 1, t1, t2 => cond (decide (t2 < (p0.length : Int))) (cond (inR t2 p0.length) (cond (((rdD p0 t2).1) == p1) (charabancref14_Get_45.l0 K p0 p1 k ((rdD p0 t2).2) (IntKind.wrap .i64 (t2 + 1))) (charabancref14_Get_45.l0 K p0 p1 k t1 (IntKind.wrap .i64 (t2 + 1)))) none) (some t1)
set_option maxRecDepth 100000 in
theorem charabancref14_Get_45.l0_ok (K : Nat) (M0 : Nat → Prop) (w0 : World) (pA0 : Option Addr) (pc0 : Nat) (p0 : List (Int × Int)) (p1 : Int) (R : Ending → World → Prop) (x : Int) (hk0 : ∀ (t16 : Int) (w1 : World), x = t16 → Holds M0 w0 w1 [] → RunsI F45 [.c 23] [(5, .int .u8 t16)] w1 R) :
  ∀ (k : Nat) (t1 : Int) (t2 : Int) (w : World), charabancref14_Get_45.l0 K p0 p1 k t1 t2 = some x → Holds M0 w0 w [sl (Rp.pair (Rp.int .u16) (Rp.int .u8)) (.slice pA0 p0.length pc0) p0] → RunsI F45 [.c 9, .lp 9, .blk 0, .c 23] [(0, .slice pA0 p0.length pc0), (1, .int .u16 p1), (5, .int .u8 t1), (6, .int .i64 t2)] w R := by
 intro k
 induction k with
 | zero => intro t1 t2 w h hH; exact absurd h (by simp [charabancref14_Get_45.l0])
 | succ k ih =>
  intro t1 t2 w h hH
  rw [charabancref14_Get_45.l0.eq_2] at h
  refine RunsI.g 1 [.c 10, .c 15, .lp 9, .blk 0, .c 23] ?_
  refine RunsI.g 1 [.c 11, .c 12, .c 15, .lp 9, .blk 0, .c 23] ?_
  refine RunsI.r ?_
  refine RegI.p 4 [(0, .slice pA0 p0.length pc0), (1, .int .u16 p1), (5, .int .u8 t1), (6, .int .i64 t2), (10, .bool (decide (t2 < (p0.length : Int))))] ?_
  refine RegI.d ?_
  rcases of_cond h with ⟨hc3, h⟩ | ⟨hc3, h⟩
  ·skip
   refine RunsI.f 10 true hc3 ?_
   refine RunsI.b true 13 ?_
   refine RunsI.g 1 [.c 15, .lp 9, .blk 0, .c 23] ?_
   refine RunsI.g 3 [.c 18, .c 19, .blk 1, .c 22, .lp 9, .blk 0, .c 23] ?_
   refine RunsI.r ?_
   refine RegI.p 2 [(0, .slice pA0 p0.length pc0), (1, .int .u16 p1), (5, .int .u8 t1), (6, .int .i64 t2), (13, .slice pA0 p0.length pc0), (14, .int .i64 t2)] ?_
   obtain ⟨hc4, h⟩ := of_cond0 h
   refine RegI.o (OpE.idxSl 15 0 41 t2 hH (by kernel_rfl) rfl (by kernel_rfl) (by kernel_rfl) hc4 ?_)
   intro b5 o6 cs7 hk8 h9
   obtain ⟨_, _, rfl, rfl, rfl⟩ := hk8
   refine RegI.p 1 [(0, .slice pA0 p0.length pc0), (1, .int .u16 p1), (5, .int .u8 t1), (6, .int .i64 t2), (16, .pointer (some ⟨b5, o6, none⟩))] ?_
   refine RegI.o (OpE.loadCel 17 1 22 b5 o6 0 (.int .u16 ((rdD p0 t2).1)) h9 (by kernel_rfl) (by kernel_rfl) rfl (by kernel_rfl) ?_)
   refine RegI.p 2 [(0, .slice pA0 p0.length pc0), (1, .int .u16 p1), (5, .int .u8 t1), (6, .int .i64 t2), (19, .bool (((rdD p0 t2).1) == p1))] ?_
   refine RegI.d ?_
   rcases of_cond h with ⟨hc10, h⟩ | ⟨hc10, h⟩
   ·skip
    refine RunsI.f 19 true hc10 ?_
    refine RunsI.b true 20 ?_
    refine RunsI.r ?_
    refine RegI.p 2 [(0, .slice pA0 p0.length pc0), (1, .int .u16 p1), (6, .int .i64 t2), (20, .slice pA0 p0.length pc0), (21, .int .i64 t2)] ?_
    refine RegI.o (OpE.idxSl 22 0 41 t2 h9 (by kernel_rfl) rfl (by kernel_rfl) (by kernel_rfl) hc4 ?_)
    intro b11 o12 cs13 hk14 h15
    obtain ⟨_, _, rfl, rfl, rfl⟩ := hk14
    refine RegI.p 1 [(0, .slice pA0 p0.length pc0), (1, .int .u16 p1), (6, .int .i64 t2), (23, .pointer (some ⟨b11, o12 + 1, none⟩))] ?_
    refine RegI.o (OpE.loadCel 24 2 5 b11 o12 1 (.int .u8 ((rdD p0 t2).2)) h15 (by kernel_rfl) (by kernel_rfl) rfl (by kernel_rfl) ?_)
    refine RegI.p 1 [(0, .slice pA0 p0.length pc0), (1, .int .u16 p1), (5, .int .u8 ((rdD p0 t2).2)), (6, .int .i64 t2)] ?_
    refine RegI.d ?_
    refine RunsI.g 1 [.c 22, .lp 9, .blk 0, .c 23] ?_
    refine RunsI.r ?_
    refine RegI.p 3 [(0, .slice pA0 p0.length pc0), (1, .int .u16 p1), (5, .int .u8 ((rdD p0 t2).2)), (6, .int .i64 (IntKind.wrap .i64 (t2 + 1)))] ?_
    refine RegI.d ?_
    refine RunsI.g 1 [.c 9, .lp 9, .blk 0, .c 23] ?_
    refine RunsI.l [0, 1, 5, 6] [(0, .slice pA0 p0.length pc0), (1, .int .u16 p1), (5, .int .u8 ((rdD p0 t2).2)), (6, .int .i64 (IntKind.wrap .i64 (t2 + 1)))] ?_
    exact ih ((rdD p0 t2).2) (IntKind.wrap .i64 (t2 + 1)) w h (h15.pick [0] (by decide))
   ·skip
    refine RunsI.f 19 false hc10 ?_
    refine RunsI.b false 21 ?_
    refine RunsI.g 1 [.blk 1, .c 22, .lp 9, .blk 0, .c 23] ?_
    refine RunsI.g 1 [.c 22, .lp 9, .blk 0, .c 23] ?_
    refine RunsI.r ?_
    refine RegI.p 3 [(0, .slice pA0 p0.length pc0), (1, .int .u16 p1), (5, .int .u8 t1), (6, .int .i64 (IntKind.wrap .i64 (t2 + 1)))] ?_
    refine RegI.d ?_
    refine RunsI.g 1 [.c 9, .lp 9, .blk 0, .c 23] ?_
    refine RunsI.l [0, 1, 5, 6] [(0, .slice pA0 p0.length pc0), (1, .int .u16 p1), (5, .int .u8 t1), (6, .int .i64 (IntKind.wrap .i64 (t2 + 1)))] ?_
    exact ih t1 (IntKind.wrap .i64 (t2 + 1)) w h (h9.pick [0] (by decide))
  ·skip
   refine RunsI.f 10 false hc3 ?_
   refine RunsI.b false 14 ?_
   refine RunsI.g 1 [.c 23] ?_
   refine RunsI.l [5] [(5, .int .u8 t1)] ?_
   exact hk0 t1 w (Option.some.inj h).symm (hH.pick [] (by decide))
def charabancref14_Get_45.f (K : Nat) (p0 : List (Int × Int)) (p1 : Int) : Option Int := (charabancref14_Get_45.l0 K p0 p1 K 0 0).bind (fun t19 => some t19)
set_option maxRecDepth 100000 in
theorem charabancref14_Get_45_ok (K : Nat) (M0 : Nat → Prop) (w0 : World) (pA0 : Option Addr) (pc0 : Nat) (p0 : List (Int × Int)) (p1 : Int) (ho : ∀ b, M0 b → b < w0.heap.size) (hs0 : Sl (Rp.pair (Rp.int .u16) (Rp.int .u8)) w0 M0 (.slice pA0 p0.length pc0) p0) {r : Int} (h : charabancref14_Get_45.f K p0 p1 = some r) :
  Calls Tryd.prog 45 #[.slice pA0 p0.length pc0, .int .u16 p1] w0 (charabancref14_Get_45.post M0 w0 r) := by
 unfold charabancref14_Get_45.f at h
 have h0 : Holds M0 w0 w0 [] := Holds.start ho
 have h00 := h0.addSl (Rp.pair (Rp.int .u16) (Rp.int .u8)) (.slice pA0 p0.length pc0) p0 (hs0.mono (fun _ _ hm => hm.elim id (fun hm => absurd hm (by simp [mines, sl]))))
 have h0 : Holds M0 w0 w0 [sl (Rp.pair (Rp.int .u16) (Rp.int .u8)) (.slice pA0 p0.length pc0) p0] := h00
 refine calls_of F45 rfl [.slice pA0 p0.length pc0, .int .u16 p1] (by kernel_rfl) ?_
 refine RunsI.g 1 [.c 1, .c 2] ?_
 refine RunsI.r ?_
 refine RegI.p 1 [(0, .slice pA0 p0.length pc0), (1, .int .u16 p1)] ?_
 refine RegI.d ?_
 refine RunsI.g 1 [.c 3, .c 4] ?_
 refine RunsI.r ?_
 refine RegI.p 1 [(0, .slice pA0 p0.length pc0), (1, .int .u16 p1), (5, .int .u8 0)] ?_
 refine RegI.d ?_
 refine RunsI.g 2 [.c 6, .c 7, .c 23] ?_
 refine RunsI.r ?_
 refine RegI.p 1 [(0, .slice pA0 p0.length pc0), (1, .int .u16 p1), (5, .int .u8 0), (6, .int .i64 0)] ?_
 refine RegI.d ?_
 refine RunsI.g 2 [.c 9, .lp 9, .blk 0, .c 23] ?_
 obtain ⟨x17, hx18, h⟩ := of_bind h
 refine RunsI.l [0, 1, 5, 6] [(0, .slice pA0 p0.length pc0), (1, .int .u16 p1), (5, .int .u8 0), (6, .int .i64 0)] ?_
 refine charabancref14_Get_45.l0_ok K M0 w0 pA0 pc0 p0 p1 _ x17 ?_ K 0 0 w0 hx18 (h0.pick [0] (by decide))
 ·intro t19 w21 hq22 h20
  (try rw [hq22] at h)
  refine RunsI.g 1 [.c 24, .c 25] ?_
  refine RunsI.r ?_
  refine RegI.p 2 [(4, .int .u8 t19)] ?_
  refine RegI.d ?_
  refine RunsI.t (.int .u8 t19) ?_
  obtain rfl := Option.some.inj h
  exact ⟨rfl, h20.below⟩
end

/-! ### charabanc/charabancref14.Make (function 24) -/
section
def charabancref14_Make_24.post (M0 : Nat → Prop) (w0 : World) (r : (List (Int × Int))) : Ending → World → Prop := fun e w => ∃ (A1 : Option Addr) (c1 : Nat), e = .returned (.slice A1 r.length c1) ∧ Holds M0 w0 w [own (Rp.pair (Rp.int .u16) (Rp.int .u8)) 85 (.slice A1 r.length c1) r]
def charabancref14_Make_24.l0 (K : Nat) (p0 : List (Int × Int)) (t8 : List (Int × Int)) (t9 : Int) : Nat → Int → Int → Option Int
 | 0, _, _ => none
 | k + 1, t10, t11 => cond (decide (t11 < (p0.length : Int))) (cond (inR t11 p0.length) (Let (fun (t31 : Bool) => cond t31 (charabancref14_Make_24.l0 K p0 t8 t9 k (IntKind.wrap .i64 ((rdD p0 t11).1)) (IntKind.wrap .i64 (t11 + 1))) (charabancref14_Make_24.l0 K p0 t8 t9 k t10 (IntKind.wrap .i64 (t11 + 1)))) (fun j34 => cond (decide ((IntKind.wrap .i64 ((rdD p0 t11).1)) > t9)) (cond (decide ((IntKind.wrap .i64 ((rdD p0 t11).1)) < t10)) ((charabancref14_Get_45.f K p0 ((rdD p0 t11).1)).bind fun t30 => j34 (t30 != 0)) (j34 false)) (j34 false))) none) (some t10)
set_option maxRecDepth 100000 in
theorem charabancref14_Make_24.l0_ok (K : Nat) (M0 : Nat → Prop) (w0 : World) (pA0 : Option Addr) (pc0 : Nat) (p0 : List (Int × Int)) (t8 : List (Int × Int)) (t9 : Int) (A6 : Option Addr) (c7 : Nat) (R : Ending → World → Prop) (x : Int) (hk0 : ∀ (t38 : Int) (w1 : World), x = t38 → Holds M0 w0 w1 [sl (Rp.pair (Rp.int .u16) (Rp.int .u8)) (.slice pA0 p0.length pc0) p0, own (Rp.pair (Rp.int .u16) (Rp.int .u8)) 85 (.slice A6 t8.length c7) t8] → RunsI F24 [.c 32, .blk 1, .lp 8, .blk 0] [(0, .slice pA0 p0.length pc0), (3, .slice A6 t8.length c7), (5, .int .i64 t38)] w1 R) :
  ∀ (k : Nat) (t10 : Int) (t11 : Int) (w : World), charabancref14_Make_24.l0 K p0 t8 t9 k t10 t11 = some x → Holds M0 w0 w [sl (Rp.pair (Rp.int .u16) (Rp.int .u8)) (.slice pA0 p0.length pc0) p0, own (Rp.pair (Rp.int .u16) (Rp.int .u8)) 85 (.slice A6 t8.length c7) t8] → RunsI F24 [.c 16, .lp 16, .blk 2, .c 32, .blk 1, .lp 8, .blk 0] [(0, .slice pA0 p0.length pc0), (3, .slice A6 t8.length c7), (4, .int .i64 t9), (5, .int .i64 t10), (6, .int .i64 t11)] w R := by
 intro k
 induction k with
 | zero => intro t10 t11 w h hH; exact absurd h (by simp [charabancref14_Make_24.l0])
 | succ k ih =>
  intro t10 t11 w h hH
  rw [charabancref14_Make_24.l0.eq_2] at h
  refine RunsI.g 1 [.c 17, .c 22, .lp 16, .blk 2, .c 32, .blk 1, .lp 8, .blk 0] ?_
  refine RunsI.g 1 [.c 18, .c 19, .c 22, .lp 16, .blk 2, .c 32, .blk 1, .lp 8, .blk 0] ?_
  refine RunsI.r ?_
  refine RegI.p 4 [(0, .slice pA0 p0.length pc0), (3, .slice A6 t8.length c7), (4, .int .i64 t9), (5, .int .i64 t10), (6, .int .i64 t11), (11, .bool (decide (t11 < (p0.length : Int))))] ?_
  refine RegI.d ?_
  rcases of_cond h with ⟨hc12, h⟩ | ⟨hc12, h⟩
  ·skip
   refine RunsI.f 11 true hc12 ?_
   refine RunsI.b true 20 ?_
   refine RunsI.g 1 [.c 22, .lp 16, .blk 2, .c 32, .blk 1, .lp 8, .blk 0] ?_
   refine RunsI.g 3 [.c 25, .c 26, .blk 3, .c 31, .lp 16, .blk 2, .c 32, .blk 1, .lp 8, .blk 0] ?_
   refine RunsI.r ?_
   refine RegI.p 2 [(0, .slice pA0 p0.length pc0), (3, .slice A6 t8.length c7), (4, .int .i64 t9), (5, .int .i64 t10), (6, .int .i64 t11), (14, .slice pA0 p0.length pc0), (15, .int .i64 t11)] ?_
   obtain ⟨hc13, h⟩ := of_cond0 h
   refine RegI.o (OpE.idxSl 16 0 41 t11 hH (by kernel_rfl) rfl (by kernel_rfl) (by kernel_rfl) hc13 ?_)
   intro b14 o15 cs16 hk17 h18
   obtain ⟨_, _, rfl, rfl, rfl⟩ := hk17
   refine RegI.p 1 [(0, .slice pA0 p0.length pc0), (3, .slice A6 t8.length c7), (4, .int .i64 t9), (5, .int .i64 t10), (6, .int .i64 t11), (17, .pointer (some ⟨b14, o15, none⟩))] ?_
   refine RegI.o (OpE.loadCel 18 2 22 b14 o15 0 (.int .u16 ((rdD p0 t11).1)) h18 (by kernel_rfl) (by kernel_rfl) rfl (by kernel_rfl) ?_)
   refine RegI.p 2 [(0, .slice pA0 p0.length pc0), (3, .slice A6 t8.length c7), (4, .int .i64 t9), (5, .int .i64 t10), (6, .int .i64 t11), (7, .int .i64 (IntKind.wrap .i64 ((rdD p0 t11).1)))] ?_
   refine RegI.d ?_
   refine RunsI.g 1 [.c 27, .c 28, .blk 3, .c 31, .lp 16, .blk 2, .c 32, .blk 1, .lp 8, .blk 0] ?_
   refine RunsI.r ?_
   refine RegI.p 4 [(0, .slice pA0 p0.length pc0), (3, .slice A6 t8.length c7), (4, .int .i64 t9), (5, .int .i64 t10), (6, .int .i64 t11), (7, .int .i64 (IntKind.wrap .i64 ((rdD p0 t11).1))), (23, .bool (decide ((IntKind.wrap .i64 ((rdD p0 t11).1)) > t9)))] ?_
   obtain ⟨j34, hJ35, h⟩ := of_let h
   have hj36 : ∀ (t31 : Bool) (w33 : World), j34 t31 = some x → Holds M0 w0 w33 [sl (Rp.pair (Rp.int .u16) (Rp.int .u8)) (.slice pA0 p0.length pc0) p0, own (Rp.pair (Rp.int .u16) (Rp.int .u8)) 85 (.slice A6 t8.length c7) t8] → RegI F24 27 [.c 28, .blk 3, .c 31, .lp 16, .blk 2, .c 32, .blk 1, .lp 8, .blk 0] 18 [(0, .slice pA0 p0.length pc0), (3, .slice A6 t8.length c7), (4, .int .i64 t9), (5, .int .i64 t10), (6, .int .i64 t11), (7, .int .i64 (IntKind.wrap .i64 ((rdD p0 t11).1))), (37, .bool t31)] w33 R := by
    intro t31 w33 h h32
    rw [hJ35] at h
    clear hJ35
    dsimp only at h
    refine RegI.d ?_
    rcases of_cond h with ⟨hc37, h⟩ | ⟨hc37, h⟩
    ·skip
     refine RunsI.f 37 true hc37 ?_
     refine RunsI.b true 29 ?_
     refine RunsI.r ?_
     refine RegI.p 2 [(0, .slice pA0 p0.length pc0), (3, .slice A6 t8.length c7), (4, .int .i64 t9), (5, .int .i64 (IntKind.wrap .i64 ((rdD p0 t11).1))), (6, .int .i64 t11)] ?_
     refine RegI.d ?_
     refine RunsI.g 1 [.c 31, .lp 16, .blk 2, .c 32, .blk 1, .lp 8, .blk 0] ?_
     refine RunsI.r ?_
     refine RegI.p 3 [(0, .slice pA0 p0.length pc0), (3, .slice A6 t8.length c7), (4, .int .i64 t9), (5, .int .i64 (IntKind.wrap .i64 ((rdD p0 t11).1))), (6, .int .i64 (IntKind.wrap .i64 (t11 + 1)))] ?_
     refine RegI.d ?_
     refine RunsI.g 1 [.c 16, .lp 16, .blk 2, .c 32, .blk 1, .lp 8, .blk 0] ?_
     refine RunsI.l [0, 3, 4, 5, 6] [(0, .slice pA0 p0.length pc0), (3, .slice A6 t8.length c7), (4, .int .i64 t9), (5, .int .i64 (IntKind.wrap .i64 ((rdD p0 t11).1))), (6, .int .i64 (IntKind.wrap .i64 (t11 + 1)))] ?_
     exact ih (IntKind.wrap .i64 ((rdD p0 t11).1)) (IntKind.wrap .i64 (t11 + 1)) w33 h (h32.pick [0, 1] (by decide))
    ·skip
     refine RunsI.f 37 false hc37 ?_
     refine RunsI.b false 30 ?_
     refine RunsI.g 1 [.blk 3, .c 31, .lp 16, .blk 2, .c 32, .blk 1, .lp 8, .blk 0] ?_
     refine RunsI.g 1 [.c 31, .lp 16, .blk 2, .c 32, .blk 1, .lp 8, .blk 0] ?_
     refine RunsI.r ?_
     refine RegI.p 3 [(0, .slice pA0 p0.length pc0), (3, .slice A6 t8.length c7), (4, .int .i64 t9), (5, .int .i64 t10), (6, .int .i64 (IntKind.wrap .i64 (t11 + 1)))] ?_
     refine RegI.d ?_
     refine RunsI.g 1 [.c 16, .lp 16, .blk 2, .c 32, .blk 1, .lp 8, .blk 0] ?_
     refine RunsI.l [0, 3, 4, 5, 6] [(0, .slice pA0 p0.length pc0), (3, .slice A6 t8.length c7), (4, .int .i64 t9), (5, .int .i64 t10), (6, .int .i64 (IntKind.wrap .i64 (t11 + 1)))] ?_
     exact ih t10 (IntKind.wrap .i64 (t11 + 1)) w33 h (h32.pick [0, 1] (by decide))
   clear hJ35
   rcases of_cond h with ⟨hc19, h⟩ | ⟨hc19, h⟩
   ·skip
    refine RegI.f 23 true hc19 ?_
    refine RegI.p 5 [(0, .slice pA0 p0.length pc0), (3, .slice A6 t8.length c7), (4, .int .i64 t9), (5, .int .i64 t10), (6, .int .i64 t11), (7, .int .i64 (IntKind.wrap .i64 ((rdD p0 t11).1))), (28, .bool (decide ((IntKind.wrap .i64 ((rdD p0 t11).1)) < t10)))] ?_
    rcases of_cond h with ⟨hc20, h⟩ | ⟨hc20, h⟩
    ·skip
     refine RegI.f 28 true hc20 ?_
     refine RegI.p 3 [(0, .slice pA0 p0.length pc0), (3, .slice A6 t8.length c7), (4, .int .i64 t9), (5, .int .i64 t10), (6, .int .i64 t11), (7, .int .i64 (IntKind.wrap .i64 ((rdD p0 t11).1))), (28, .bool true), (29, .slice pA0 p0.length pc0), (30, .slice pA0 p0.length pc0), (31, .int .i64 t11)] ?_
     refine RegI.o (OpE.idxSl 32 0 41 t11 h18 (by kernel_rfl) rfl (by kernel_rfl) (by kernel_rfl) hc13 ?_)
     intro b21 o22 cs23 hk24 h25
     obtain ⟨_, _, rfl, rfl, rfl⟩ := hk24
     refine RegI.p 1 [(0, .slice pA0 p0.length pc0), (3, .slice A6 t8.length c7), (4, .int .i64 t9), (5, .int .i64 t10), (6, .int .i64 t11), (7, .int .i64 (IntKind.wrap .i64 ((rdD p0 t11).1))), (28, .bool true), (29, .slice pA0 p0.length pc0), (33, .pointer (some ⟨b21, o22, none⟩))] ?_
     refine RegI.o (OpE.loadCel 34 3 22 b21 o22 0 (.int .u16 ((rdD p0 t11).1)) h25 (by kernel_rfl) (by kernel_rfl) rfl (by kernel_rfl) ?_)
     obtain ⟨t30, hg29, h⟩ := of_bind h
     refine RegI.o (OpE.call 35 (by kernel_rfl) 45 #[.slice pA0 p0.length pc0, .int .u16 ((rdD p0 t11).1)] (by kernel_rfl) ((charabancref14_Get_45_ok K _ w  pA0 pc0 p0 ((rdD p0 t11).1) h25.old' (h25.get 0 rfl) hg29).mono ?_))
     rintro _ w26 ⟨rfl, hb27⟩
     refine ⟨_, rfl, ?_⟩
     have h28 := h25.call hb27
     refine RegI.p 2 [(0, .slice pA0 p0.length pc0), (3, .slice A6 t8.length c7), (4, .int .i64 t9), (5, .int .i64 t10), (6, .int .i64 t11), (7, .int .i64 (IntKind.wrap .i64 ((rdD p0 t11).1))), (37, .bool (t30 != 0))] ?_
     refine RegI.l [0, 3, 4, 5, 6, 7, 37] [(0, .slice pA0 p0.length pc0), (3, .slice A6 t8.length c7), (4, .int .i64 t9), (5, .int .i64 t10), (6, .int .i64 t11), (7, .int .i64 (IntKind.wrap .i64 ((rdD p0 t11).1))), (37, .bool (t30 != 0))] ?_
     exact hj36 (t30 != 0) w26 h (h28.pick [0, 1] (by decide))
    ·skip
     refine RegI.f 28 false hc20 ?_
     refine RegI.p 9 [(0, .slice pA0 p0.length pc0), (3, .slice A6 t8.length c7), (4, .int .i64 t9), (5, .int .i64 t10), (6, .int .i64 t11), (7, .int .i64 (IntKind.wrap .i64 ((rdD p0 t11).1))), (37, .bool false)] ?_
     refine RegI.l [0, 3, 4, 5, 6, 7, 37] [(0, .slice pA0 p0.length pc0), (3, .slice A6 t8.length c7), (4, .int .i64 t9), (5, .int .i64 t10), (6, .int .i64 t11), (7, .int .i64 (IntKind.wrap .i64 ((rdD p0 t11).1))), (37, .bool false)] ?_
     exact hj36 false w h (h18.pick [0, 1] (by decide))
   ·skip
    refine RegI.f 23 false hc19 ?_
    refine RegI.p 14 [(0, .slice pA0 p0.length pc0), (3, .slice A6 t8.length c7), (4, .int .i64 t9), (5, .int .i64 t10), (6, .int .i64 t11), (7, .int .i64 (IntKind.wrap .i64 ((rdD p0 t11).1))), (37, .bool false)] ?_
    refine RegI.l [0, 3, 4, 5, 6, 7, 37] [(0, .slice pA0 p0.length pc0), (3, .slice A6 t8.length c7), (4, .int .i64 t9), (5, .int .i64 t10), (6, .int .i64 t11), (7, .int .i64 (IntKind.wrap .i64 ((rdD p0 t11).1))), (37, .bool false)] ?_
    exact hj36 false w h (h18.pick [0, 1] (by decide))
  ·skip
   refine RunsI.f 11 false hc12 ?_
   refine RunsI.b false 21 ?_
   refine RunsI.g 1 [.c 32, .blk 1, .lp 8, .blk 0] ?_
   refine RunsI.l [0, 3, 5] [(0, .slice pA0 p0.length pc0), (3, .slice A6 t8.length c7), (5, .int .i64 t10)] ?_
   exact hk0 t10 w (Option.some.inj h).symm (hH.pick [0, 1] (by decide))
def charabancref14_Make_24.l1 (K : Nat) (p0 : List (Int × Int)) : Nat → (List (Int × Int)) → Int → Option (List (Int × Int))
 | 0, _, _ => none
 | k + 1, t4, t5 => (charabancref14_Make_24.l0 K p0 t4 t5 K 65536 0).bind (fun t41 => cond (t41 == 65536) (some t4) ((charabancref14_Get_45.f K p0 (IntKind.wrap .u16 t41)).bind fun t49 => cond (mayBe (t4.length + ([((IntKind.wrap .u16 t41), t49)] : List (Int × Int)).length) 4) (charabancref14_Make_24.l1 K p0 k (t4 ++ ([((IntKind.wrap .u16 t41), t49)] : List (Int × Int))) t41) none))
set_option maxRecDepth 100000 in
theorem charabancref14_Make_24.l1_ok (K : Nat) (M0 : Nat → Prop) (w0 : World) (pA0 : Option Addr) (pc0 : Nat) (p0 : List (Int × Int)) (R : Ending → World → Prop) (x : (List (Int × Int))) (hk0 : ∀ (t63 : List (Int × Int)) (A61 : Option Addr) (c62 : Nat) (w1 : World), x = t63 → Holds M0 w0 w1 [own (Rp.pair (Rp.int .u16) (Rp.int .u8)) 85 (.slice A61 t63.length c62) t63] → R (.returned (.slice A61 t63.length c62)) w1) :
  ∀ (k : Nat) (t4 : List (Int × Int)) (t5 : Int) (A2 : Option Addr) (c3 : Nat) (w : World), charabancref14_Make_24.l1 K p0 k t4 t5 = some x → Holds M0 w0 w [sl (Rp.pair (Rp.int .u16) (Rp.int .u8)) (.slice pA0 p0.length pc0) p0, own (Rp.pair (Rp.int .u16) (Rp.int .u8)) 85 (.slice A2 t4.length c3) t4] → RunsI F24 [.c 8, .lp 8, .blk 0] [(0, .slice pA0 p0.length pc0), (3, .slice A2 t4.length c3), (4, .int .i64 t5)] w R := by
 intro k
 induction k with
 | zero => intro t4 t5 A2 c3 w h hH; exact absurd h (by simp [charabancref14_Make_24.l1])
 | succ k ih =>
  intro t4 t5 A2 c3 w h hH
  rw [charabancref14_Make_24.l1.eq_2] at h
  refine RunsI.g 1 [.c 9, .blk 1, .lp 8, .blk 0] ?_
  refine RunsI.g 1 [.c 10, .c 11, .blk 1, .lp 8, .blk 0] ?_
  refine RunsI.r ?_
  refine RegI.p 1 [(0, .slice pA0 p0.length pc0), (3, .slice A2 t4.length c3), (4, .int .i64 t5), (5, .int .i64 65536)] ?_
  refine RegI.d ?_
  refine RunsI.g 2 [.c 13, .c 14, .c 32, .blk 1, .lp 8, .blk 0] ?_
  refine RunsI.r ?_
  refine RegI.p 1 [(0, .slice pA0 p0.length pc0), (3, .slice A2 t4.length c3), (4, .int .i64 t5), (5, .int .i64 65536), (6, .int .i64 0)] ?_
  refine RegI.d ?_
  refine RunsI.g 2 [.c 16, .lp 16, .blk 2, .c 32, .blk 1, .lp 8, .blk 0] ?_
  obtain ⟨x39, hx40, h⟩ := of_bind h
  refine RunsI.l [0, 3, 4, 5, 6] [(0, .slice pA0 p0.length pc0), (3, .slice A2 t4.length c3), (4, .int .i64 t5), (5, .int .i64 65536), (6, .int .i64 0)] ?_
  refine charabancref14_Make_24.l0_ok K M0 w0 pA0 pc0 p0 t4 t5 A2 c3 _ x39 ?_ K 65536 0 w hx40 (hH.pick [0, 1] (by decide))
  ·intro t41 w43 hq71 h42
   (try rw [hq71] at h)
   refine RunsI.g 2 [.c 34, .c 35, .c 40, .blk 1, .lp 8, .blk 0] ?_
   refine RunsI.r ?_
   refine RegI.p 2 [(0, .slice pA0 p0.length pc0), (3, .slice A2 t4.length c3), (5, .int .i64 t41), (40, .bool (t41 == 65536))] ?_
   refine RegI.d ?_
   rcases of_cond h with ⟨hc44, h⟩ | ⟨hc44, h⟩
   ·skip
    refine RunsI.f 40 true hc44 ?_
    refine RunsI.b true 36 ?_
    refine RunsI.g 1 [.c 37, .c 38, .c 40, .blk 1, .lp 8, .blk 0] ?_
    refine RunsI.r ?_
    refine RegI.p 2 [(2, .slice A2 t4.length c3)] ?_
    refine RegI.d ?_
    refine RunsI.t (.slice A2 t4.length c3) ?_
    exact hk0 t4 A2 c3 w43 (Option.some.inj h).symm (h42.pick [1] (by decide))
   ·skip
    refine RunsI.f 40 false hc44 ?_
    refine RunsI.b false 39 ?_
    refine RunsI.g 1 [.c 40, .blk 1, .lp 8, .blk 0] ?_
    refine RunsI.g 1 [.c 41, .c 42, .blk 1, .lp 8, .blk 0] ?_
    refine RunsI.r ?_
    refine RegI.p 6 [(0, .slice pA0 p0.length pc0), (5, .int .i64 t41), (42, .slice A2 t4.length c3), (44, .int .u16 (IntKind.wrap .u16 t41)), (45, .slice pA0 p0.length pc0), (47, .int .u16 (IntKind.wrap .u16 t41))] ?_
    obtain ⟨t49, hg48, h⟩ := of_bind h
    refine RegI.o (OpE.call 48 (by kernel_rfl) 45 #[.slice pA0 p0.length pc0, .int .u16 (IntKind.wrap .u16 t41)] (by kernel_rfl) ((charabancref14_Get_45_ok K _ w43  pA0 pc0 p0 (IntKind.wrap .u16 t41) h42.old' (h42.get 0 rfl) hg48).mono ?_))
    rintro _ w45 ⟨rfl, hb46⟩
    refine ⟨_, rfl, ?_⟩
    have h47 := h42.call hb46
    refine RegI.p 1 [(0, .slice pA0 p0.length pc0), (5, .int .i64 t41), (42, .slice A2 t4.length c3), (49, .agg #[.int .u16 (IntKind.wrap .u16 t41), .int .u8 t49])] ?_
    refine RegI.o (OpE.lit 50 85 [.int .u16 (IntKind.wrap .u16 t41), .int .u8 t49] 1 h47 (by kernel_rfl) (by kernel_rfl) ?_)
    intro w50 b51 h52 hb53 hn54
    obtain ⟨hc55, h⟩ := of_cond0 h
    refine RegI.o (OpE.appendBox 51 1 2 41 85 4 ([((IntKind.wrap .u16 t41), t49)] : List (Int × Int)) 0 h52 (by kernel_rfl) (by kernel_rfl) (by kernel_rfl) rfl rfl rfl (⟨[_, _], _, rfl, ⟨[_], [_], rfl, rfl, rfl⟩, rfl⟩) hc55 ?_)
    intro w56 A57 c58 h59 hk60
    refine RegI.p 1 [(0, .slice pA0 p0.length pc0), (3, .slice A57 ((t4 ++ ([((IntKind.wrap .u16 t41), t49)] : List (Int × Int))).length) c58), (5, .int .i64 t41)] ?_
    refine RegI.d ?_
    refine RunsI.r ?_
    refine RegI.p 2 [(0, .slice pA0 p0.length pc0), (3, .slice A57 ((t4 ++ ([((IntKind.wrap .u16 t41), t49)] : List (Int × Int))).length) c58), (4, .int .i64 t41)] ?_
    refine RegI.d ?_
    refine RunsI.g 2 [.c 8, .lp 8, .blk 0] ?_
    refine RunsI.l [0, 3, 4] [(0, .slice pA0 p0.length pc0), (3, .slice A57 ((t4 ++ ([((IntKind.wrap .u16 t41), t49)] : List (Int × Int))).length) c58), (4, .int .i64 t41)] ?_
    exact ih (t4 ++ ([((IntKind.wrap .u16 t41), t49)] : List (Int × Int))) t41 A57 c58 w56 h (h59.pick [0, 1] (by decide))
def charabancref14_Make_24.f (K : Nat) (p0 : List (Int × Int)) : Option (List (Int × Int)) := (charabancref14_Make_24.l1 K p0 K ([] : List (Int × Int)) (-1)).bind (fun t68 => some t68)
set_option maxRecDepth 100000 in
theorem charabancref14_Make_24_ok (K : Nat) (M0 : Nat → Prop) (w0 : World) (pA0 : Option Addr) (pc0 : Nat) (p0 : List (Int × Int)) (ho : ∀ b, M0 b → b < w0.heap.size) (hs0 : Sl (Rp.pair (Rp.int .u16) (Rp.int .u8)) w0 M0 (.slice pA0 p0.length pc0) p0) {r : (List (Int × Int))} (h : charabancref14_Make_24.f K p0 = some r) :
  Calls Tryd.prog 24 #[.slice pA0 p0.length pc0] w0 (charabancref14_Make_24.post M0 w0 r) := by
 unfold charabancref14_Make_24.f at h
 have h0 : Holds M0 w0 w0 [] := Holds.start ho
 have h00 := h0.addSl (Rp.pair (Rp.int .u16) (Rp.int .u8)) (.slice pA0 p0.length pc0) p0 (hs0.mono (fun _ _ hm => hm.elim id (fun hm => absurd hm (by simp [mines, sl]))))
 have h0 : Holds M0 w0 w0 [sl (Rp.pair (Rp.int .u16) (Rp.int .u8)) (.slice pA0 p0.length pc0) p0] := h00
 refine calls_of F24 rfl [.slice pA0 p0.length pc0] (by kernel_rfl) ?_
 refine RunsI.g 1 [.c 1, .c 2] ?_
 refine RunsI.r ?_
 refine RegI.p 1 [(0, .slice pA0 p0.length pc0)] ?_
 refine RegI.d ?_
 refine RunsI.g 1 [.c 3, .c 4] ?_
 refine RunsI.r ?_
 refine RegI.p 1 [(0, .slice pA0 p0.length pc0), (3, .slice none 0 0)] ?_
 refine RegI.d ?_
 refine RunsI.g 1 [.c 5, .c 6] ?_
 refine RunsI.r ?_
 refine RegI.p 1 [(0, .slice pA0 p0.length pc0), (3, .slice none 0 0), (4, .int .i64 (-1))] ?_
 refine RegI.d ?_
 refine RunsI.g 2 [.c 8, .lp 8, .blk 0] ?_
 obtain ⟨x64, hx65, h⟩ := of_bind h
 have h1 := h0.addOwnNil (Rp.pair (Rp.int .u16) (Rp.int .u8)) 85
 refine RunsI.l [0, 3, 4] [(0, .slice pA0 p0.length pc0), (3, .slice none (([] : List (Int × Int)).length) 0), (4, .int .i64 (-1))] ?_
 refine charabancref14_Make_24.l1_ok K M0 w0 pA0 pc0 p0 _ x64 ?_ K ([] : List (Int × Int)) (-1) none 0 w0 hx65 (h1.pick [0, 1] (by decide))
 ·intro t68 A66 c67 w70 hq72 h69
  (try rw [hq72] at h)
  obtain rfl := Option.some.inj h
  exact ⟨A66, c67, rfl, h69.pick [0] (by decide)⟩
end

/-! ### charabanc/charabancref14.Load (function 41) -/
section
def charabancref14_Load_41.post (M0 : Nat → Prop) (w0 : World) (r : (List (Int × Int))) : Ending → World → Prop := fun e w => ∃ (A1 : Option Addr) (c1 : Nat), e = .returned (.slice A1 r.length c1) ∧ Holds M0 w0 w [own (Rp.pair (Rp.int .u16) (Rp.int .u8)) 85 (.slice A1 r.length c1) r]
def charabancref14_Load_41.l0 (K : Nat) (p0 : List (Int × Int)) (p1 : Int) (p2 : List Int) : Nat → (List (Int × Int)) → Int → Option (List (Int × Int))
 | 0, _, _ => none
 | k + 1, t10, t11 => cond (decide (t11 < (p2.length : Int))) (cond (inR t11 p2.length) (cond (mayBe (t10.length + ([((IntKind.wrap .u16 (p1 + (IntKind.wrap .u16 (Int.tmod t11 65536)))), (rdD p2 t11))] : List (Int × Int)).length) 4) (charabancref14_Load_41.l0 K p0 p1 p2 k (t10 ++ ([((IntKind.wrap .u16 (p1 + (IntKind.wrap .u16 (Int.tmod t11 65536)))), (rdD p2 t11))] : List (Int × Int))) (IntKind.wrap .i64 (t11 + 1))) none) none) (some t10)
set_option maxRecDepth 100000 in
theorem charabancref14_Load_41.l0_ok (K : Nat) (M0 : Nat → Prop) (w0 : World) (pA0 : Option Addr) (pc0 : Nat) (pA2 : Option Addr) (pc2 : Nat) (p0 : List (Int × Int)) (p1 : Int) (p2 : List Int) (R : Ending → World → Prop) (x : (List (Int × Int))) (hk0 : ∀ (t32 : List (Int × Int)) (A30 : Option Addr) (c31 : Nat) (w1 : World), x = t32 → Holds M0 w0 w1 [own (Rp.pair (Rp.int .u16) (Rp.int .u8)) 85 (.slice A30 t32.length c31) t32] → RunsI F41 [.c 21] [(7, .slice A30 t32.length c31)] w1 R) :
  ∀ (k : Nat) (t10 : List (Int × Int)) (t11 : Int) (A8 : Option Addr) (c9 : Nat) (w : World), charabancref14_Load_41.l0 K p0 p1 p2 k t10 t11 = some x → Holds M0 w0 w [sl (Rp.int .u8) (.slice pA2 p2.length pc2) p2, own (Rp.pair (Rp.int .u16) (Rp.int .u8)) 85 (.slice A8 t10.length c9) t10] → RunsI F41 [.c 11, .lp 11, .blk 0, .c 21] [(1, .int .u16 p1), (2, .slice pA2 p2.length pc2), (7, .slice A8 t10.length c9), (8, .int .i64 t11)] w R := by
 intro k
 induction k with
 | zero => intro t10 t11 A8 c9 w h hH; exact absurd h (by simp [charabancref14_Load_41.l0])
 | succ k ih =>
  intro t10 t11 A8 c9 w h hH
  rw [charabancref14_Load_41.l0.eq_2] at h
  refine RunsI.g 1 [.c 12, .c 17, .lp 11, .blk 0, .c 21] ?_
  refine RunsI.g 1 [.c 13, .c 14, .c 17, .lp 11, .blk 0, .c 21] ?_
  refine RunsI.r ?_
  refine RegI.p 4 [(1, .int .u16 p1), (2, .slice pA2 p2.length pc2), (7, .slice A8 t10.length c9), (8, .int .i64 t11), (15, .bool (decide (t11 < (p2.length : Int))))] ?_
  refine RegI.d ?_
  rcases of_cond h with ⟨hc12, h⟩ | ⟨hc12, h⟩
  ·skip
   refine RunsI.f 15 true hc12 ?_
   refine RunsI.b true 15 ?_
   refine RunsI.g 1 [.c 17, .lp 11, .blk 0, .c 21] ?_
   refine RunsI.g 2 [.c 19, .blk 1, .c 20, .lp 11, .blk 0, .c 21] ?_
   refine RunsI.r ?_
   refine RegI.p 8 [(1, .int .u16 p1), (2, .slice pA2 p2.length pc2), (8, .int .i64 t11), (18, .slice A8 t10.length c9), (23, .int .u16 (IntKind.wrap .u16 (p1 + (IntKind.wrap .u16 (Int.tmod t11 65536))))), (24, .slice pA2 p2.length pc2), (25, .int .i64 t11)] ?_
   obtain ⟨hc13, h⟩ := of_cond0 h
   refine RegI.o (OpE.idxSl 26 0 23 t11 hH (by kernel_rfl) rfl (by kernel_rfl) (by kernel_rfl) hc13 ?_)
   intro b14 o15 cs16 hk17 h18
   obtain rfl := hk17
   refine RegI.o (OpE.loadCel 27 2 5 b14 o15 0 (.int .u8 (rdD p2 t11)) h18 (by kernel_rfl) (by kernel_rfl) rfl (by kernel_rfl) ?_)
   refine RegI.p 1 [(1, .int .u16 p1), (2, .slice pA2 p2.length pc2), (8, .int .i64 t11), (18, .slice A8 t10.length c9), (28, .agg #[.int .u16 (IntKind.wrap .u16 (p1 + (IntKind.wrap .u16 (Int.tmod t11 65536)))), .int .u8 (rdD p2 t11)])] ?_
   refine RegI.o (OpE.lit 29 85 [.int .u16 (IntKind.wrap .u16 (p1 + (IntKind.wrap .u16 (Int.tmod t11 65536)))), .int .u8 (rdD p2 t11)] 1 h18 (by kernel_rfl) (by kernel_rfl) ?_)
   intro w19 b20 h21 hb22 hn23
   obtain ⟨hc24, h⟩ := of_cond0 h
   refine RegI.o (OpE.appendBox 30 1 3 41 85 4 ([((IntKind.wrap .u16 (p1 + (IntKind.wrap .u16 (Int.tmod t11 65536)))), (rdD p2 t11))] : List (Int × Int)) 0 h21 (by kernel_rfl) (by kernel_rfl) (by kernel_rfl) rfl rfl rfl (⟨[_, _], _, rfl, ⟨[_], [_], rfl, rfl, rfl⟩, rfl⟩) hc24 ?_)
   intro w25 A26 c27 h28 hk29
   refine RegI.p 1 [(1, .int .u16 p1), (2, .slice pA2 p2.length pc2), (7, .slice A26 ((t10 ++ ([((IntKind.wrap .u16 (p1 + (IntKind.wrap .u16 (Int.tmod t11 65536)))), (rdD p2 t11))] : List (Int × Int))).length) c27), (8, .int .i64 t11)] ?_
   refine RegI.d ?_
   refine RunsI.g 1 [.c 20, .lp 11, .blk 0, .c 21] ?_
   refine RunsI.r ?_
   refine RegI.p 3 [(1, .int .u16 p1), (2, .slice pA2 p2.length pc2), (7, .slice A26 ((t10 ++ ([((IntKind.wrap .u16 (p1 + (IntKind.wrap .u16 (Int.tmod t11 65536)))), (rdD p2 t11))] : List (Int × Int))).length) c27), (8, .int .i64 (IntKind.wrap .i64 (t11 + 1)))] ?_
   refine RegI.d ?_
   refine RunsI.g 1 [.c 11, .lp 11, .blk 0, .c 21] ?_
   refine RunsI.l [1, 2, 7, 8] [(1, .int .u16 p1), (2, .slice pA2 p2.length pc2), (7, .slice A26 ((t10 ++ ([((IntKind.wrap .u16 (p1 + (IntKind.wrap .u16 (Int.tmod t11 65536)))), (rdD p2 t11))] : List (Int × Int))).length) c27), (8, .int .i64 (IntKind.wrap .i64 (t11 + 1)))] ?_
   exact ih (t10 ++ ([((IntKind.wrap .u16 (p1 + (IntKind.wrap .u16 (Int.tmod t11 65536)))), (rdD p2 t11))] : List (Int × Int))) (IntKind.wrap .i64 (t11 + 1)) A26 c27 w25 h (h28.pick [0, 1] (by decide))
  ·skip
   refine RunsI.f 15 false hc12 ?_
   refine RunsI.b false 16 ?_
   refine RunsI.g 1 [.c 21] ?_
   refine RunsI.l [7] [(7, .slice A8 t10.length c9)] ?_
   exact hk0 t10 A8 c9 w (Option.some.inj h).symm (hH.pick [1] (by decide))
def charabancref14_Load_41.f (K : Nat) (p0 : List (Int × Int)) (p1 : Int) (p2 : List Int) : Option (List (Int × Int)) := cond (mayBe (([] : List (Int × Int)).length + p0.length) 4) ((charabancref14_Load_41.l0 K p0 p1 p2 K (([] : List (Int × Int)) ++ p0) 0).bind (fun t37 => (charabancref14_Make_24.f K t37).bind fun t44 => some t44)) none
set_option maxRecDepth 100000 in
theorem charabancref14_Load_41_ok (K : Nat) (M0 : Nat → Prop) (w0 : World) (pA0 : Option Addr) (pc0 : Nat) (pA2 : Option Addr) (pc2 : Nat) (p0 : List (Int × Int)) (p1 : Int) (p2 : List Int) (ho : ∀ b, M0 b → b < w0.heap.size) (hs0 : Sl (Rp.pair (Rp.int .u16) (Rp.int .u8)) w0 M0 (.slice pA0 p0.length pc0) p0) (hs2 : Sl (Rp.int .u8) w0 M0 (.slice pA2 p2.length pc2) p2) {r : (List (Int × Int))} (h : charabancref14_Load_41.f K p0 p1 p2 = some r) :
  Calls Tryd.prog 41 #[.slice pA0 p0.length pc0, .int .u16 p1, .slice pA2 p2.length pc2] w0 (charabancref14_Load_41.post M0 w0 r) := by
 unfold charabancref14_Load_41.f at h
 have h0 : Holds M0 w0 w0 [] := Holds.start ho
 have h00 := h0.addSl (Rp.pair (Rp.int .u16) (Rp.int .u8)) (.slice pA0 p0.length pc0) p0 (hs0.mono (fun _ _ hm => hm.elim id (fun hm => absurd hm (by simp [mines, sl]))))
 have h02 := h00.addSl (Rp.int .u8) (.slice pA2 p2.length pc2) p2 (hs2.mono (fun _ _ hm => hm.elim id (fun hm => absurd hm (by simp [mines, sl]))))
 have h0 : Holds M0 w0 w0 [sl (Rp.pair (Rp.int .u16) (Rp.int .u8)) (.slice pA0 p0.length pc0) p0, sl (Rp.int .u8) (.slice pA2 p2.length pc2) p2] := h02
 refine calls_of F41 rfl [.slice pA0 p0.length pc0, .int .u16 p1, .slice pA2 p2.length pc2] (by kernel_rfl) ?_
 refine RunsI.g 1 [.c 1, .c 2] ?_
 refine RunsI.r ?_
 refine RegI.p 1 [(0, .slice pA0 p0.length pc0), (1, .int .u16 p1), (2, .slice pA2 p2.length pc2)] ?_
 refine RegI.d ?_
 refine RunsI.g 1 [.c 3, .c 4] ?_
 refine RunsI.r ?_
 refine RegI.p 1 [(0, .slice pA0 p0.length pc0), (1, .int .u16 p1), (2, .slice pA2 p2.length pc2), (7, .slice none 0 0)] ?_
 refine RegI.d ?_
 refine RunsI.g 1 [.c 5, .c 6] ?_
 refine RunsI.r ?_
 refine RegI.p 2 [(1, .int .u16 p1), (2, .slice pA2 p2.length pc2), (9, .slice none 0 0), (10, .slice pA0 p0.length pc0)] ?_
 have h1 := h0.addOwnNil (Rp.pair (Rp.int .u16) (Rp.int .u8)) 85
 obtain ⟨hc2, h⟩ := of_cond0 h
 refine RegI.o (OpE.appendRow 11 2 41 85 4 (ys := p0) h1 (by kernel_rfl) (by kernel_rfl) (by kernel_rfl) rfl (h1.rdSl 0 rfl) hc2 ?_)
 intro w3 A4 c5 h6 hk7
 refine RegI.p 1 [(1, .int .u16 p1), (2, .slice pA2 p2.length pc2), (7, .slice A4 ((([] : List (Int × Int)) ++ p0).length) c5)] ?_
 refine RegI.d ?_
 refine RunsI.g 2 [.c 8, .c 9, .c 21] ?_
 refine RunsI.r ?_
 refine RegI.p 1 [(1, .int .u16 p1), (2, .slice pA2 p2.length pc2), (7, .slice A4 ((([] : List (Int × Int)) ++ p0).length) c5), (8, .int .i64 0)] ?_
 refine RegI.d ?_
 refine RunsI.g 2 [.c 11, .lp 11, .blk 0, .c 21] ?_
 obtain ⟨x33, hx34, h⟩ := of_bind h
 refine RunsI.l [1, 2, 7, 8] [(1, .int .u16 p1), (2, .slice pA2 p2.length pc2), (7, .slice A4 ((([] : List (Int × Int)) ++ p0).length) c5), (8, .int .i64 0)] ?_
 refine charabancref14_Load_41.l0_ok K M0 w0 pA0 pc0 pA2 pc2 p0 p1 p2 _ x33 ?_ K (([] : List (Int × Int)) ++ p0) 0 A4 c5 w3 hx34 (h6.pick [1, 2] (by decide))
 ·intro t37 A35 c36 w39 hq49 h38
  (try rw [hq49] at h)
  refine RunsI.g 1 [.c 22, .c 23] ?_
  refine RunsI.r ?_
  refine RegI.p 1 [(31, .slice A35 t37.length c36)] ?_
  obtain ⟨t44, hg43, h⟩ := of_bind h
  refine RegI.o (OpE.call 32 (by kernel_rfl) 24 #[.slice A35 t37.length c36] (by kernel_rfl) ((charabancref14_Make_24_ok K (fun _ => False) w39  A35 c36 t37 (fun _ hf => hf.elim) (h38.ownSl 0 rfl) hg43).mono ?_))
  rintro _ w40 ⟨A45, c46, rfl, hr48⟩
  refine ⟨_, rfl, ?_⟩
  have hb41 := hr48.below
  have h42 := h38.join (hr48.anyM ⟨own_flat (fun _ _ _ _ _ h => h), trivial⟩ _ h38.old')
  refine RegI.p 1 [(6, .slice A45 t44.length c46)] ?_
  refine RegI.d ?_
  refine RunsI.t (.slice A45 t44.length c46) ?_
  obtain rfl := Option.some.inj h
  exact ⟨A45, c46, rfl, h42.pick [1] (by decide)⟩
end

/-! ### charabanc/charabancref33.Read (function 20) -/
section
def charabancref33_Read_20.post (M0 : Nat → Prop) (w0 : World) (r : (List (Int × Int)) × Int × Int) : Ending → World → Prop := fun e w => ∃ (A1 : Option Addr) (c1 : Nat), e = .returned (.tuple #[.slice A1 r.1.length c1, .int .i64 r.2.1, .int .i64 r.2.2]) ∧ Holds M0 w0 w [own (Rp.pair (Rp.int .u16) (Rp.int .u8)) 85 (.slice A1 r.1.length c1) r.1]
def charabancref33_Read_20.l0 (K : Nat) (p0 : ByteArray) : Nat → (List (Int × Int)) → Bool → ByteArray → Int → Int → Option (Lp (Int × Int) ((List (Int × Int)) × Bool × Int))
 | 0, _, _, _, _, _ => none
 | k + 1, t5, t6, t7, t8, t9 => cond (decide (t9 ≤ (p0.size : Int))) (Let (fun (t13 : Bool) => cond t13 (cond (cutR (IntKind.wrap .i64 (t9 - (t7.size : Int))) (IntKind.wrap .i64 (t9 + 1)) p0.size) (charabancref33_Read_20.l0 K p0 k t5 t6 (strCut p0 (IntKind.wrap .i64 (t9 - (t7.size : Int))) (IntKind.wrap .i64 (t9 + 1))) t8 (IntKind.wrap .i64 (t9 + 1))) none) (cond (!((ByteArray.toList t7) == (ByteArray.toList (⟨#[]⟩ : ByteArray)))) ((charabancref33_Parse_15.f K t7).bind fun yt26 => cond (yt26.2.2.2 != 0) (some (Lp.ret (yt26.2.2.2, (IntKind.wrap .i64 (t8 + 1))))) (cond (decide (yt26.1 > 1)) (some (Lp.ret (330, (IntKind.wrap .i64 (t8 + 1))))) (cond t6 (some (Lp.ret (332, (IntKind.wrap .i64 (t8 + 1))))) (cond (!(yt26.1 == 1)) ((charabancref14_Load_41.f K t5 yt26.2.1 yt26.2.2.1).bind fun t50 => charabancref33_Read_20.l0 K p0 k t50 (yt26.1 == 1) (⟨#[]⟩ : ByteArray) (IntKind.wrap .i64 (t8 + 1)) (IntKind.wrap .i64 (t9 + 1))) (charabancref33_Read_20.l0 K p0 k t5 (yt26.1 == 1) (⟨#[]⟩ : ByteArray) (IntKind.wrap .i64 (t8 + 1)) (IntKind.wrap .i64 (t9 + 1))))))) (charabancref33_Read_20.l0 K p0 k t5 t6 (⟨#[]⟩ : ByteArray) (IntKind.wrap .i64 (t8 + 1)) (IntKind.wrap .i64 (t9 + 1))))) (fun j16 => cond (decide (t9 < (p0.size : Int))) (cond (inR t9 p0.size) (j16 ((btD p0 t9) != 10)) none) (j16 false))) (some (Lp.go (t5, t6, t8)))
set_option maxRecDepth 100000 in
theorem charabancref33_Read_20.l0_ok (K : Nat) (M0 : Nat → Prop) (w0 : World) (p0 : ByteArray) (R : Ending → World → Prop) (x : Lp (Int × Int) ((List (Int × Int)) × Bool × Int)) (hk0 : ∀ (t57 : List (Int × Int)) (t58 : Bool) (t59 : Int) (A55 : Option Addr) (c56 : Nat) (w1 : World), x = Lp.go (t57, t58, t59) → Holds M0 w0 w1 [own (Rp.pair (Rp.int .u16) (Rp.int .u8)) 85 (.slice A55 t57.length c56) t57] → RunsI F20 [.c 81] [(5, .slice A55 t57.length c56), (6, .bool t58), (8, .int .i64 t59)] w1 R) (hk1 : ∀ (t60 : Int) (t61 : Int) (w1 : World), x = Lp.ret (t60, t61) → Holds M0 w0 w1 [] → R (.returned (.tuple #[.slice none 0 0, .int .i64 t60, .int .i64 t61])) w1) :
  ∀ (k : Nat) (t5 : List (Int × Int)) (t6 : Bool) (t7 : ByteArray) (t8 : Int) (t9 : Int) (A3 : Option Addr) (c4 : Nat) (w : World), charabancref33_Read_20.l0 K p0 k t5 t6 t7 t8 t9 = some x → Holds M0 w0 w [own (Rp.pair (Rp.int .u16) (Rp.int .u8)) 85 (.slice A3 t5.length c4) t5] → RunsI F20 [.c 23, .lp 23, .blk 0, .c 81] [(0, .string p0), (5, .slice A3 t5.length c4), (6, .bool t6), (7, .string t7), (8, .int .i64 t8), (9, .int .i64 t9)] w R := by
 intro k
 induction k with
 | zero => intro t5 t6 t7 t8 t9 A3 c4 w h hH; exact absurd h (by simp [charabancref33_Read_20.l0])
 | succ k ih =>
  intro t5 t6 t7 t8 t9 A3 c4 w h hH
  rw [charabancref33_Read_20.l0.eq_2] at h
  refine RunsI.g 1 [.c 24, .c 29, .lp 23, .blk 0, .c 81] ?_
  refine RunsI.g 1 [.c 25, .c 26, .c 29, .lp 23, .blk 0, .c 81] ?_
  refine RunsI.r ?_
  refine RegI.p 4 [(0, .string p0), (5, .slice A3 t5.length c4), (6, .bool t6), (7, .string t7), (8, .int .i64 t8), (9, .int .i64 t9), (18, .bool (decide (t9 ≤ (p0.size : Int))))] ?_
  refine RegI.d ?_
  rcases of_cond h with ⟨hc10, h⟩ | ⟨hc10, h⟩
  ·skip
   refine RunsI.f 18 true hc10 ?_
   refine RunsI.b true 27 ?_
   refine RunsI.g 1 [.c 29, .lp 23, .blk 0, .c 81] ?_
   refine RunsI.g 4 [.c 33, .c 34, .c 39, .blk 1, .c 80, .lp 23, .blk 0, .c 81] ?_
   refine RunsI.r ?_
   refine RegI.p 5 [(0, .string p0), (5, .slice A3 t5.length c4), (6, .bool t6), (7, .string t7), (8, .int .i64 t8), (9, .int .i64 t9), (25, .bool (decide (t9 < (p0.size : Int))))] ?_
   obtain ⟨j16, hJ17, h⟩ := of_let h
   have hj18 : ∀ (t13 : Bool) (w15 : World), j16 t13 = some x → Holds M0 w0 w15 [own (Rp.pair (Rp.int .u16) (Rp.int .u8)) 85 (.slice A3 t5.length c4) t5] → RegI F20 33 [.c 34, .c 39, .blk 1, .c 80, .lp 23, .blk 0, .c 81] 10 [(0, .string p0), (5, .slice A3 t5.length c4), (6, .bool t6), (7, .string t7), (8, .int .i64 t8), (9, .int .i64 t9), (30, .bool t13)] w15 R := by
    intro t13 w15 h h14
    rw [hJ17] at h
    clear hJ17
    dsimp only at h
    refine RegI.d ?_
    rcases of_cond h with ⟨hc19, h⟩ | ⟨hc19, h⟩
    ·skip
     refine RunsI.f 30 true hc19 ?_
     refine RunsI.b true 35 ?_
     refine RunsI.g 1 [.c 36, .c 37, .c 39, .blk 1, .c 80, .lp 23, .blk 0, .c 81] ?_
     refine RunsI.r ?_
     refine RegI.p 7 [(0, .string p0), (5, .slice A3 t5.length c4), (6, .bool t6), (8, .int .i64 t8), (9, .int .i64 t9), (31, .string p0), (35, .int .i64 (IntKind.wrap .i64 (t9 - (t7.size : Int)))), (37, .int .i64 (IntKind.wrap .i64 (t9 + 1)))] ?_
     obtain ⟨hc20, h⟩ := of_cond0 h
     refine RegI.o (OpE.run 38 (by kernel_rfl) (run_strCut (T := 9) (s := p0) (lo := (some (IntKind.wrap .i64 (t9 - (t7.size : Int))))) (hi := (some (IntKind.wrap .i64 (t9 + 1)))) (by kernel_rfl) (by kernel_rfl) hc20) ?_)
     refine RegI.p 1 [(0, .string p0), (5, .slice A3 t5.length c4), (6, .bool t6), (7, .string (strCut p0 (IntKind.wrap .i64 (t9 - (t7.size : Int))) (IntKind.wrap .i64 (t9 + 1)))), (8, .int .i64 t8), (9, .int .i64 t9)] ?_
     refine RegI.d ?_
     refine RunsI.g 1 [.c 80, .lp 23, .blk 0, .c 81] ?_
     refine RunsI.r ?_
     refine RegI.p 3 [(0, .string p0), (5, .slice A3 t5.length c4), (6, .bool t6), (7, .string (strCut p0 (IntKind.wrap .i64 (t9 - (t7.size : Int))) (IntKind.wrap .i64 (t9 + 1)))), (8, .int .i64 t8), (9, .int .i64 (IntKind.wrap .i64 (t9 + 1)))] ?_
     refine RegI.d ?_
     refine RunsI.g 1 [.c 23, .lp 23, .blk 0, .c 81] ?_
     refine RunsI.l [0, 5, 6, 7, 8, 9] [(0, .string p0), (5, .slice A3 t5.length c4), (6, .bool t6), (7, .string (strCut p0 (IntKind.wrap .i64 (t9 - (t7.size : Int))) (IntKind.wrap .i64 (t9 + 1)))), (8, .int .i64 t8), (9, .int .i64 (IntKind.wrap .i64 (t9 + 1)))] ?_
     exact ih t5 t6 (strCut p0 (IntKind.wrap .i64 (t9 - (t7.size : Int))) (IntKind.wrap .i64 (t9 + 1))) t8 (IntKind.wrap .i64 (t9 + 1)) A3 c4 w15 h (h14.pick [0] (by decide))
    ·skip
     refine RunsI.f 30 false hc19 ?_
     refine RunsI.b false 38 ?_
     refine RunsI.g 1 [.c 39, .blk 1, .c 80, .lp 23, .blk 0, .c 81] ?_
     refine RunsI.g 1 [.c 40, .c 41, .blk 1, .c 80, .lp 23, .blk 0, .c 81] ?_
     refine RunsI.r ?_
     refine RegI.p 3 [(0, .string p0), (5, .slice A3 t5.length c4), (6, .bool t6), (7, .string t7), (8, .int .i64 (IntKind.wrap .i64 (t8 + 1))), (9, .int .i64 t9)] ?_
     refine RegI.d ?_
     refine RunsI.g 2 [.c 43, .c 44, .c 79, .blk 1, .c 80, .lp 23, .blk 0, .c 81] ?_
     refine RunsI.r ?_
     refine RegI.p 2 [(0, .string p0), (5, .slice A3 t5.length c4), (6, .bool t6), (7, .string t7), (8, .int .i64 (IntKind.wrap .i64 (t8 + 1))), (9, .int .i64 t9), (42, .bool (!((ByteArray.toList t7) == (ByteArray.toList (⟨#[]⟩ : ByteArray)))))] ?_
     refine RegI.d ?_
     rcases of_cond h with ⟨hc21, h⟩ | ⟨hc21, h⟩
     ·skip
      refine RunsI.f 42 true hc21 ?_
      refine RunsI.b true 45 ?_
      refine RunsI.g 1 [.c 46, .c 47, .c 79, .blk 1, .c 80, .lp 23, .blk 0, .c 81] ?_
      refine RunsI.r ?_
      refine RegI.p 1 [(0, .string p0), (5, .slice A3 t5.length c4), (6, .bool t6), (8, .int .i64 (IntKind.wrap .i64 (t8 + 1))), (9, .int .i64 t9), (44, .string t7)] ?_
      obtain ⟨⟨t26, t27, t28, t32⟩, hg25, h⟩ := of_bind h
      dsimp only at h
      refine RegI.o (OpE.call 45 (by kernel_rfl) 15 #[.string t7] (by kernel_rfl) ((charabancref33_Parse_15_ok K _ w15  t7 h14.old' hg25).mono ?_))
      rintro _ w22 ⟨A29, c30, rfl, hr33⟩
      refine ⟨_, rfl, ?_⟩
      have hb23 := hr33.below
      have h24 := h14.join hr33
      refine RegI.p 3 [(0, .string p0), (5, .slice A3 t5.length c4), (6, .bool t6), (8, .int .i64 (IntKind.wrap .i64 (t8 + 1))), (9, .int .i64 t9), (46, .agg #[.int .u8 t26, .int .u16 t27, .slice A29 t28.length c30]), (47, .int .i64 t32)] ?_
      refine RegI.o (OpE.box 10 31 [.int .u8 0, .int .u16 0, .slice none 0 0] h24 (by kernel_rfl) (by kernel_rfl) ?_)
      intro w34 b35 h36 hb37 hn38
      refine RegI.o (OpE.storeBox 2 31 b35 0 (.agg #[.int .u8 t26, .int .u16 t27, .slice A29 t28.length c30]) [.int .u8 t26, .int .u16 t27, .slice A29 t28.length c30] h36 (by kernel_rfl) (by kernel_rfl) rfl (by kernel_rfl) (by kernel_rfl) (by kernel_rfl) ?_)
      intro w39 h40 hk41
      refine RegI.p 1 [(0, .string p0), (5, .slice A3 t5.length c4), (6, .bool t6), (8, .int .i64 (IntKind.wrap .i64 (t8 + 1))), (9, .int .i64 t9), (10, .pointer (some ⟨b35, 0, none⟩)), (11, .int .i64 t32)] ?_
      refine RegI.d ?_
      refine RunsI.g 2 [.c 49, .c 50, .c 55, .c 79, .blk 1, .c 80, .lp 23, .blk 0, .c 81] ?_
      refine RunsI.r ?_
      refine RegI.p 2 [(0, .string p0), (5, .slice A3 t5.length c4), (6, .bool t6), (8, .int .i64 (IntKind.wrap .i64 (t8 + 1))), (9, .int .i64 t9), (10, .pointer (some ⟨b35, 0, none⟩)), (11, .int .i64 t32), (49, .bool (t32 != 0))] ?_
      refine RegI.d ?_
      rcases of_cond h with ⟨hc42, h⟩ | ⟨hc42, h⟩
      ·skip
       refine RunsI.f 49 true hc42 ?_
       refine RunsI.b true 51 ?_
       refine RunsI.g 1 [.c 52, .c 53, .c 55, .c 79, .blk 1, .c 80, .lp 23, .blk 0, .c 81] ?_
       refine RunsI.r ?_
       refine RegI.p 5 [(2, .slice none 0 0), (3, .int .i64 t32), (4, .int .i64 (IntKind.wrap .i64 (t8 + 1)))] ?_
       refine RegI.d ?_
       refine RunsI.t (.tuple #[.slice none 0 0, .int .i64 t32, .int .i64 (IntKind.wrap .i64 (t8 + 1))]) ?_
       exact hk1 t32 (IntKind.wrap .i64 (t8 + 1)) w39 (Option.some.inj h).symm (h40.pick [] (by decide))
      ·skip
       refine RunsI.f 49 false hc42 ?_
       refine RunsI.b false 54 ?_
       refine RunsI.g 1 [.c 55, .c 79, .blk 1, .c 80, .lp 23, .blk 0, .c 81] ?_
       refine RunsI.g 2 [.c 57, .c 58, .c 63, .c 79, .blk 1, .c 80, .lp 23, .blk 0, .c 81] ?_
       refine RunsI.r ?_
       refine RegI.p 1 [(0, .string p0), (5, .slice A3 t5.length c4), (6, .bool t6), (8, .int .i64 (IntKind.wrap .i64 (t8 + 1))), (9, .int .i64 t9), (10, .pointer (some ⟨b35, 0, none⟩)), (52, .pointer (some ⟨b35, 0, none⟩))] ?_
       refine RegI.o (OpE.loadBox 53 2 5 b35 0 (.int .u8 t26) h40 (by kernel_rfl) (by kernel_rfl) rfl (by kernel_rfl) ?_)
       refine RegI.p 1 [(0, .string p0), (5, .slice A3 t5.length c4), (6, .bool t6), (8, .int .i64 (IntKind.wrap .i64 (t8 + 1))), (9, .int .i64 t9), (10, .pointer (some ⟨b35, 0, none⟩)), (54, .bool (decide (t26 > 1)))] ?_
       refine RegI.d ?_
       rcases of_cond h with ⟨hc43, h⟩ | ⟨hc43, h⟩
       ·skip
        refine RunsI.f 54 true hc43 ?_
        refine RunsI.b true 59 ?_
        refine RunsI.g 1 [.c 60, .c 61, .c 63, .c 79, .blk 1, .c 80, .lp 23, .blk 0, .c 81] ?_
        refine RunsI.r ?_
        refine RegI.p 4 [(2, .slice none 0 0), (3, .int .i64 330), (4, .int .i64 (IntKind.wrap .i64 (t8 + 1)))] ?_
        refine RegI.d ?_
        refine RunsI.t (.tuple #[.slice none 0 0, .int .i64 330, .int .i64 (IntKind.wrap .i64 (t8 + 1))]) ?_
        exact hk1 330 (IntKind.wrap .i64 (t8 + 1)) w39 (Option.some.inj h).symm (h40.pick [] (by decide))
       ·skip
        refine RunsI.f 54 false hc43 ?_
        refine RunsI.b false 62 ?_
        refine RunsI.g 1 [.c 63, .c 79, .blk 1, .c 80, .lp 23, .blk 0, .c 81] ?_
        refine RunsI.g 2 [.c 65, .c 66, .c 71, .c 79, .blk 1, .c 80, .lp 23, .blk 0, .c 81] ?_
        refine RunsI.r ?_
        refine RegI.p 1 [(0, .string p0), (5, .slice A3 t5.length c4), (8, .int .i64 (IntKind.wrap .i64 (t8 + 1))), (9, .int .i64 t9), (10, .pointer (some ⟨b35, 0, none⟩)), (56, .bool t6)] ?_
        refine RegI.d ?_
        rcases of_cond h with ⟨hc44, h⟩ | ⟨hc44, h⟩
        ·skip
         refine RunsI.f 56 true hc44 ?_
         refine RunsI.b true 67 ?_
         refine RunsI.g 1 [.c 68, .c 69, .c 71, .c 79, .blk 1, .c 80, .lp 23, .blk 0, .c 81] ?_
         refine RunsI.r ?_
         refine RegI.p 4 [(2, .slice none 0 0), (3, .int .i64 332), (4, .int .i64 (IntKind.wrap .i64 (t8 + 1)))] ?_
         refine RegI.d ?_
         refine RunsI.t (.tuple #[.slice none 0 0, .int .i64 332, .int .i64 (IntKind.wrap .i64 (t8 + 1))]) ?_
         exact hk1 332 (IntKind.wrap .i64 (t8 + 1)) w39 (Option.some.inj h).symm (h40.pick [] (by decide))
        ·skip
         refine RunsI.f 56 false hc44 ?_
         refine RunsI.b false 70 ?_
         refine RunsI.g 1 [.c 71, .c 79, .blk 1, .c 80, .lp 23, .blk 0, .c 81] ?_
         refine RunsI.g 1 [.c 72, .c 73, .c 79, .blk 1, .c 80, .lp 23, .blk 0, .c 81] ?_
         refine RunsI.r ?_
         refine RegI.p 1 [(0, .string p0), (5, .slice A3 t5.length c4), (8, .int .i64 (IntKind.wrap .i64 (t8 + 1))), (9, .int .i64 t9), (10, .pointer (some ⟨b35, 0, none⟩)), (58, .pointer (some ⟨b35, 0, none⟩))] ?_
         refine RegI.o (OpE.loadBox 59 2 5 b35 0 (.int .u8 t26) h40 (by kernel_rfl) (by kernel_rfl) rfl (by kernel_rfl) ?_)
         refine RegI.p 2 [(0, .string p0), (5, .slice A3 t5.length c4), (6, .bool (t26 == 1)), (8, .int .i64 (IntKind.wrap .i64 (t8 + 1))), (9, .int .i64 t9), (10, .pointer (some ⟨b35, 0, none⟩))] ?_
         refine RegI.d ?_
         refine RunsI.g 1 [.c 74, .c 75, .c 79, .blk 1, .c 80, .lp 23, .blk 0, .c 81] ?_
         refine RunsI.r ?_
         refine RegI.p 2 [(0, .string p0), (5, .slice A3 t5.length c4), (6, .bool (t26 == 1)), (8, .int .i64 (IntKind.wrap .i64 (t8 + 1))), (9, .int .i64 t9), (10, .pointer (some ⟨b35, 0, none⟩)), (62, .bool (!(t26 == 1)))] ?_
         refine RegI.d ?_
         rcases of_cond h with ⟨hc45, h⟩ | ⟨hc45, h⟩
         ·skip
          refine RunsI.f 62 true hc45 ?_
          refine RunsI.b true 76 ?_
          refine RunsI.r ?_
          refine RegI.p 2 [(0, .string p0), (6, .bool (t26 == 1)), (8, .int .i64 (IntKind.wrap .i64 (t8 + 1))), (9, .int .i64 t9), (10, .pointer (some ⟨b35, 0, none⟩)), (63, .slice A3 t5.length c4), (64, .pointer (some ⟨b35, 1, none⟩))] ?_
          refine RegI.o (OpE.loadBox 65 2 22 b35 1 (.int .u16 t27) h40 (by kernel_rfl) (by kernel_rfl) rfl (by kernel_rfl) ?_)
          refine RegI.p 1 [(0, .string p0), (6, .bool (t26 == 1)), (8, .int .i64 (IntKind.wrap .i64 (t8 + 1))), (9, .int .i64 t9), (63, .slice A3 t5.length c4), (65, .int .u16 t27), (66, .pointer (some ⟨b35, 2, none⟩))] ?_
          refine RegI.o (OpE.loadBox 67 2 23 b35 2 (.slice A29 t28.length c30) h40 (by kernel_rfl) (by kernel_rfl) rfl (by kernel_rfl) ?_)
          obtain ⟨t50, hg49, h⟩ := of_bind h
          refine RegI.o (OpE.call 68 (by kernel_rfl) 41 #[.slice A3 t5.length c4, .int .u16 t27, .slice A29 t28.length c30] (by kernel_rfl) ((charabancref14_Load_41_ok K (fun _ => False) w39  A3 c4 A29 c30 t5 t27 t28 (fun _ hf => hf.elim) (h40.ownSl 0 rfl) (h40.slAny 1 rfl) hg49).mono ?_))
          rintro _ w46 ⟨A51, c52, rfl, hr54⟩
          refine ⟨_, rfl, ?_⟩
          have hb47 := hr54.below
          have h48 := h40.join (hr54.anyM ⟨own_flat (fun _ _ _ _ _ h => h), trivial⟩ _ h40.old')
          refine RegI.p 1 [(0, .string p0), (5, .slice A51 t50.length c52), (6, .bool (t26 == 1)), (8, .int .i64 (IntKind.wrap .i64 (t8 + 1))), (9, .int .i64 t9)] ?_
          refine RegI.d ?_
          refine RunsI.r ?_
          refine RegI.p 1 [(0, .string p0), (5, .slice A51 t50.length c52), (6, .bool (t26 == 1)), (7, .string (⟨#[]⟩ : ByteArray)), (8, .int .i64 (IntKind.wrap .i64 (t8 + 1))), (9, .int .i64 t9)] ?_
          refine RegI.d ?_
          refine RunsI.g 1 [.c 80, .lp 23, .blk 0, .c 81] ?_
          refine RunsI.r ?_
          refine RegI.p 3 [(0, .string p0), (5, .slice A51 t50.length c52), (6, .bool (t26 == 1)), (7, .string (⟨#[]⟩ : ByteArray)), (8, .int .i64 (IntKind.wrap .i64 (t8 + 1))), (9, .int .i64 (IntKind.wrap .i64 (t9 + 1)))] ?_
          refine RegI.d ?_
          refine RunsI.g 1 [.c 23, .lp 23, .blk 0, .c 81] ?_
          refine RunsI.l [0, 5, 6, 7, 8, 9] [(0, .string p0), (5, .slice A51 t50.length c52), (6, .bool (t26 == 1)), (7, .string (⟨#[]⟩ : ByteArray)), (8, .int .i64 (IntKind.wrap .i64 (t8 + 1))), (9, .int .i64 (IntKind.wrap .i64 (t9 + 1)))] ?_
          exact ih t50 (t26 == 1) (⟨#[]⟩ : ByteArray) (IntKind.wrap .i64 (t8 + 1)) (IntKind.wrap .i64 (t9 + 1)) A51 c52 w46 h (h48.pick [3] (by decide))
         ·skip
          refine RunsI.f 62 false hc45 ?_
          refine RunsI.b false 77 ?_
          refine RunsI.g 1 [.c 79, .blk 1, .c 80, .lp 23, .blk 0, .c 81] ?_
          refine RunsI.r ?_
          refine RegI.p 1 [(0, .string p0), (5, .slice A3 t5.length c4), (6, .bool (t26 == 1)), (7, .string (⟨#[]⟩ : ByteArray)), (8, .int .i64 (IntKind.wrap .i64 (t8 + 1))), (9, .int .i64 t9)] ?_
          refine RegI.d ?_
          refine RunsI.g 1 [.c 80, .lp 23, .blk 0, .c 81] ?_
          refine RunsI.r ?_
          refine RegI.p 3 [(0, .string p0), (5, .slice A3 t5.length c4), (6, .bool (t26 == 1)), (7, .string (⟨#[]⟩ : ByteArray)), (8, .int .i64 (IntKind.wrap .i64 (t8 + 1))), (9, .int .i64 (IntKind.wrap .i64 (t9 + 1)))] ?_
          refine RegI.d ?_
          refine RunsI.g 1 [.c 23, .lp 23, .blk 0, .c 81] ?_
          refine RunsI.l [0, 5, 6, 7, 8, 9] [(0, .string p0), (5, .slice A3 t5.length c4), (6, .bool (t26 == 1)), (7, .string (⟨#[]⟩ : ByteArray)), (8, .int .i64 (IntKind.wrap .i64 (t8 + 1))), (9, .int .i64 (IntKind.wrap .i64 (t9 + 1)))] ?_
          exact ih t5 (t26 == 1) (⟨#[]⟩ : ByteArray) (IntKind.wrap .i64 (t8 + 1)) (IntKind.wrap .i64 (t9 + 1)) A3 c4 w39 h (h40.pick [0] (by decide))
     ·skip
      refine RunsI.f 42 false hc21 ?_
      refine RunsI.b false 78 ?_
      refine RunsI.g 1 [.c 79, .blk 1, .c 80, .lp 23, .blk 0, .c 81] ?_
      refine RunsI.r ?_
      refine RegI.p 1 [(0, .string p0), (5, .slice A3 t5.length c4), (6, .bool t6), (7, .string (⟨#[]⟩ : ByteArray)), (8, .int .i64 (IntKind.wrap .i64 (t8 + 1))), (9, .int .i64 t9)] ?_
      refine RegI.d ?_
      refine RunsI.g 1 [.c 80, .lp 23, .blk 0, .c 81] ?_
      refine RunsI.r ?_
      refine RegI.p 3 [(0, .string p0), (5, .slice A3 t5.length c4), (6, .bool t6), (7, .string (⟨#[]⟩ : ByteArray)), (8, .int .i64 (IntKind.wrap .i64 (t8 + 1))), (9, .int .i64 (IntKind.wrap .i64 (t9 + 1)))] ?_
      refine RegI.d ?_
      refine RunsI.g 1 [.c 23, .lp 23, .blk 0, .c 81] ?_
      refine RunsI.l [0, 5, 6, 7, 8, 9] [(0, .string p0), (5, .slice A3 t5.length c4), (6, .bool t6), (7, .string (⟨#[]⟩ : ByteArray)), (8, .int .i64 (IntKind.wrap .i64 (t8 + 1))), (9, .int .i64 (IntKind.wrap .i64 (t9 + 1)))] ?_
      exact ih t5 t6 (⟨#[]⟩ : ByteArray) (IntKind.wrap .i64 (t8 + 1)) (IntKind.wrap .i64 (t9 + 1)) A3 c4 w15 h (h14.pick [0] (by decide))
   clear hJ17
   rcases of_cond h with ⟨hc11, h⟩ | ⟨hc11, h⟩
   ·skip
    refine RegI.f 25 true hc11 ?_
    refine RegI.p 2 [(0, .string p0), (5, .slice A3 t5.length c4), (6, .bool t6), (7, .string t7), (8, .int .i64 t8), (9, .int .i64 t9), (25, .bool true), (26, .string p0), (27, .int .i64 t9)] ?_
    obtain ⟨hc12, h⟩ := of_cond0 h
    refine RegI.o (OpE.run 28 (by kernel_rfl) (run_strIdx (T0 := 9) (s := p0) (j := t9) (by kernel_rfl) (by kernel_rfl) hc12) ?_)
    refine RegI.p 2 [(0, .string p0), (5, .slice A3 t5.length c4), (6, .bool t6), (7, .string t7), (8, .int .i64 t8), (9, .int .i64 t9), (30, .bool ((btD p0 t9) != 10))] ?_
    refine RegI.l [0, 5, 6, 7, 8, 9, 30] [(0, .string p0), (5, .slice A3 t5.length c4), (6, .bool t6), (7, .string t7), (8, .int .i64 t8), (9, .int .i64 t9), (30, .bool ((btD p0 t9) != 10))] ?_
    exact hj18 ((btD p0 t9) != 10) w h (hH.pick [0] (by decide))
   ·skip
    refine RegI.f 25 false hc11 ?_
    refine RegI.p 5 [(0, .string p0), (5, .slice A3 t5.length c4), (6, .bool t6), (7, .string t7), (8, .int .i64 t8), (9, .int .i64 t9), (30, .bool false)] ?_
    refine RegI.l [0, 5, 6, 7, 8, 9, 30] [(0, .string p0), (5, .slice A3 t5.length c4), (6, .bool t6), (7, .string t7), (8, .int .i64 t8), (9, .int .i64 t9), (30, .bool false)] ?_
    exact hj18 false w h (hH.pick [0] (by decide))
  ·skip
   refine RunsI.f 18 false hc10 ?_
   refine RunsI.b false 28 ?_
   refine RunsI.g 1 [.c 81] ?_
   refine RunsI.l [5, 6, 8] [(5, .slice A3 t5.length c4), (6, .bool t6), (8, .int .i64 t8)] ?_
   exact hk0 t5 t6 t8 A3 c4 w (Option.some.inj h).symm (hH.pick [0] (by decide))
def charabancref33_Read_20.f (K : Nat) (p0 : ByteArray) : Option ((List (Int × Int)) × Int × Int) := cond (decide ((p0.size : Int) > 65536)) (some (([] : List (Int × Int)), 2, 0)) ((charabancref33_Read_20.l0 K p0 K ([] : List (Int × Int)) false (⟨#[]⟩ : ByteArray) 0 0).bind (fun x62 => Lp.elim x62 (fun yx62 => some (([] : List (Int × Int)), yx62.1, yx62.2)) (fun yx62 => cond (!yx62.2.1) (some (([] : List (Int × Int)), 332, yx62.2.2)) (some (yx62.1, 0, 0)))))
set_option maxRecDepth 100000 in
theorem charabancref33_Read_20_ok (K : Nat) (M0 : Nat → Prop) (w0 : World) (p0 : ByteArray) (ho : ∀ b, M0 b → b < w0.heap.size) {r : (List (Int × Int)) × Int × Int} (h : charabancref33_Read_20.f K p0 = some r) :
  Calls Tryd.prog 20 #[.string p0] w0 (charabancref33_Read_20.post M0 w0 r) := by
 unfold charabancref33_Read_20.f at h
 have h0 : Holds M0 w0 w0 [] := Holds.start ho
 have h0 : Holds M0 w0 w0 [] := h0
 refine calls_of F20 rfl [.string p0] (by kernel_rfl) ?_
 refine RunsI.g 1 [.c 1, .c 2] ?_
 refine RunsI.r ?_
 refine RegI.p 3 [(0, .string p0)] ?_
 refine RegI.d ?_
 refine RunsI.g 2 [.c 4, .c 5, .c 10] ?_
 refine RunsI.r ?_
 refine RegI.p 3 [(0, .string p0), (14, .bool (decide ((p0.size : Int) > 65536)))] ?_
 refine RegI.d ?_
 rcases of_cond h with ⟨hc1, h⟩ | ⟨hc1, h⟩
 ·skip
  refine RunsI.f 14 true hc1 ?_
  refine RunsI.b true 6 ?_
  refine RunsI.g 1 [.c 7, .c 8, .c 10] ?_
  refine RunsI.r ?_
  refine RegI.p 3 [(2, .slice none 0 0), (3, .int .i64 2), (4, .int .i64 0)] ?_
  refine RegI.d ?_
  refine RunsI.t (.tuple #[.slice none 0 0, .int .i64 2, .int .i64 0]) ?_
  have h76 := h0.addOwnNil (Rp.pair (Rp.int .u16) (Rp.int .u8)) 85
  obtain rfl := Option.some.inj h
  exact ⟨none, 0, rfl, h76.pick [0] (by decide)⟩
 ·skip
  refine RunsI.f 14 false hc1 ?_
  refine RunsI.b false 9 ?_
  refine RunsI.g 1 [.c 10] ?_
  refine RunsI.g 1 [.c 11, .c 12] ?_
  refine RunsI.r ?_
  refine RegI.p 1 [(0, .string p0), (5, .slice none 0 0)] ?_
  refine RegI.d ?_
  refine RunsI.g 1 [.c 13, .c 14] ?_
  refine RunsI.r ?_
  refine RegI.p 1 [(0, .string p0), (5, .slice none 0 0), (6, .bool false)] ?_
  refine RegI.d ?_
  refine RunsI.g 1 [.c 15, .c 16] ?_
  refine RunsI.r ?_
  refine RegI.p 1 [(0, .string p0), (5, .slice none 0 0), (6, .bool false), (7, .string (⟨#[]⟩ : ByteArray))] ?_
  refine RegI.d ?_
  refine RunsI.g 1 [.c 17, .c 18] ?_
  refine RunsI.r ?_
  refine RegI.p 1 [(0, .string p0), (5, .slice none 0 0), (6, .bool false), (7, .string (⟨#[]⟩ : ByteArray)), (8, .int .i64 0)] ?_
  refine RegI.d ?_
  refine RunsI.g 2 [.c 20, .c 21, .c 81] ?_
  refine RunsI.r ?_
  refine RegI.p 1 [(0, .string p0), (5, .slice none 0 0), (6, .bool false), (7, .string (⟨#[]⟩ : ByteArray)), (8, .int .i64 0), (9, .int .i64 0)] ?_
  refine RegI.d ?_
  refine RunsI.g 2 [.c 23, .lp 23, .blk 0, .c 81] ?_
  obtain ⟨x62, hx63, h⟩ := of_bind h
  have h2 := h0.addOwnNil (Rp.pair (Rp.int .u16) (Rp.int .u8)) 85
  refine RunsI.l [0, 5, 6, 7, 8, 9] [(0, .string p0), (5, .slice none (([] : List (Int × Int)).length) 0), (6, .bool false), (7, .string (⟨#[]⟩ : ByteArray)), (8, .int .i64 0), (9, .int .i64 0)] ?_
  refine charabancref33_Read_20.l0_ok K M0 w0 p0 _ x62 ?_ ?_ K ([] : List (Int × Int)) false (⟨#[]⟩ : ByteArray) 0 0 none 0 w0 hx63 (h2.pick [0] (by decide))
  ·intro t66 t67 t68 A64 c65 w70 hq77 h69
   (try rw [hq77] at h)
   dsimp only [Lp.elim] at h
   refine RunsI.g 2 [.c 83, .c 84, .c 89] ?_
   refine RunsI.r ?_
   refine RegI.p 2 [(5, .slice A64 t66.length c65), (8, .int .i64 t68), (70, .bool (!t67))] ?_
   refine RegI.d ?_
   rcases of_cond h with ⟨hc75, h⟩ | ⟨hc75, h⟩
   ·skip
    refine RunsI.f 70 true hc75 ?_
    refine RunsI.b true 85 ?_
    refine RunsI.g 1 [.c 86, .c 87, .c 89] ?_
    refine RunsI.r ?_
    refine RegI.p 4 [(2, .slice none 0 0), (3, .int .i64 332), (4, .int .i64 t68)] ?_
    refine RegI.d ?_
    refine RunsI.t (.tuple #[.slice none 0 0, .int .i64 332, .int .i64 t68]) ?_
    have h78 := h69.addOwnNil (Rp.pair (Rp.int .u16) (Rp.int .u8)) 85
    obtain rfl := Option.some.inj h
    exact ⟨none, 0, rfl, h78.pick [1] (by decide)⟩
   ·skip
    refine RunsI.f 70 false hc75 ?_
    refine RunsI.b false 88 ?_
    refine RunsI.g 1 [.c 89] ?_
    refine RunsI.g 1 [.c 90, .c 91] ?_
    refine RunsI.r ?_
    refine RegI.p 4 [(2, .slice A64 t66.length c65), (3, .int .i64 0), (4, .int .i64 0)] ?_
    refine RegI.d ?_
    refine RunsI.t (.tuple #[.slice A64 t66.length c65, .int .i64 0, .int .i64 0]) ?_
    obtain rfl := Option.some.inj h
    exact ⟨A64, c65, rfl, h69.pick [0] (by decide)⟩
  ·intro t71 t72 w74 hq79 h73
   (try rw [hq79] at h)
   dsimp only [Lp.elim] at h
   have h80 := h73.addOwnNil (Rp.pair (Rp.int .u16) (Rp.int .u8)) 85
   obtain rfl := Option.some.inj h
   exact ⟨none, 0, rfl, h80.pick [0] (by decide)⟩
end
end Go.Proofs.YtilgjfckgkkfmaaDoor.Hx
