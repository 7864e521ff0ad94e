/- Functions of the program as plain Lean functions, each with the proof that the call comes to it; written by wip/eng.py. -/
import Derived.Test.YtbcepghanbkncaaGreatDoorEngShort2
import Derived.Test.YtbcepghanbkncaaGreatDoorLiT6
set_option linter.unusedVariables false
set_option linter.unusedSimpArgs false
set_option maxHeartbeats 4000000
namespace Go.Proofs.YtbcepghanbkncaaGreatDoor.LiT
open Go.RowKit Go.Eng
variable {mx0 : Int}
set_option maxRecDepth 100000
abbrev sg0 : ByteArray := ⟨#[32]⟩
abbrev sg1 : ByteArray := ⟨#[32, 32]⟩
abbrev sg2 : ByteArray := ⟨#[58, 32]⟩
abbrev sg3 : ByteArray := ⟨#[48, 48, 48, 48, 104, 58, 32, 51, 101, 48, 55, 32, 32, 32, 32, 32, 108, 100, 32, 97, 44, 48, 55, 104]⟩
abbrev sg4 : ByteArray := ⟨#[48, 48, 48, 50, 104, 58, 32, 49, 56, 102, 99, 32, 32, 32, 32, 32, 106, 114, 32, 36, 45, 50]⟩
abbrev sg5 : ByteArray := ⟨#[58]⟩
section
def listing_Lines_14.post (M0 : Nat → Prop) (w0 : World) (r : (List ByteArray)) : Ending → World → Prop := fun e w => ∃ (A1 : Option Addr) (c1 : Nat), e = .returned (.slice A1 r.length c1) ∧ Holds M0 w0 w [own Rp.str 9 (.slice A1 r.length c1) r]
def listing_Lines_14.l0 (K : Nat) (p0 : List (Int × Int)) (p1 : Int) (p2 : Int) : Nat → (List ByteArray) → Int → Int → Option ((List ByteArray) × Int)
 | 0, _, _, _ => none
 | k + 1, t33, t37, t38 => cond (decide (t38 < (if 200 < p2 then 200 else p2))) ((listing_at_49.f K p0 t37).bind fun yt45 => (listing_digits_35.f K yt45.2.1).bind fun t81 => (strings_Repeat_36.f K (⟨#[32]⟩ : ByteArray) (if (IntKind.wrap .i64 (8 - (t81.size : Int))) > 0 then (IntKind.wrap .i64 (8 - (t81.size : Int))) else 0)).bind fun t86 => cond (mayCat t81.size t86.size) ((text_Hex_37.f K (IntKind.wrap .i64 yt45.1) 4).bind fun t93 => cond (mayCat t93.size (⟨#[58, 32]⟩ : ByteArray).size) (cond (mayCat (t93 ++ (⟨#[58, 32]⟩ : ByteArray)).size (t81 ++ t86).size) (cond (mayCat ((t93 ++ (⟨#[58, 32]⟩ : ByteArray)) ++ (t81 ++ t86)).size (⟨#[32]⟩ : ByteArray).size) ((listing_one_text_38.f K yt45.1 yt45.2.1 yt45.2.2.1 yt45.2.2.2.1 yt45.2.2.2.2.1 yt45.2.2.2.2.2.1 yt45.2.2.2.2.2.2.1 yt45.2.2.2.2.2.2.2.1 yt45.2.2.2.2.2.2.2.2).bind fun t98 => cond (mayCat (((t93 ++ (⟨#[58, 32]⟩ : ByteArray)) ++ (t81 ++ t86)) ++ (⟨#[32]⟩ : ByteArray)).size t98.size) (cond (mayBe (t33.length + ([((((t93 ++ (⟨#[58, 32]⟩ : ByteArray)) ++ (t81 ++ t86)) ++ (⟨#[32]⟩ : ByteArray)) ++ t98)] : List ByteArray).length) 16) ((listing_one_next_34.f K yt45.1 yt45.2.1 yt45.2.2.1 yt45.2.2.2.1 yt45.2.2.2.2.1 yt45.2.2.2.2.2.1 yt45.2.2.2.2.2.2.1 yt45.2.2.2.2.2.2.2.1 yt45.2.2.2.2.2.2.2.2).bind fun t140 => listing_Lines_14.l0 K p0 p1 p2 k (t33 ++ ([((((t93 ++ (⟨#[58, 32]⟩ : ByteArray)) ++ (t81 ++ t86)) ++ (⟨#[32]⟩ : ByteArray)) ++ t98)] : List ByteArray)) t140 (IntKind.wrap .i64 (t38 + 1))) none) none) none) none) none) none) (some (t33, t37))
theorem listing_Lines_14.l0_ok (K : Nat) (M0 : Nat → Prop) (w0 : World) (pA0 : Option Addr) (pc0 : Nat) (p0 : List (Int × Int)) (p1 : Int) (p2 : Int) (b29 : Nat) (b30 : Nat) (b34 : Nat) (b35 : Nat) (b36 : Nat) (b39 : Nat) (R : Ending → World → Prop) (x : (List ByteArray) × Int) (hk0 : ∀ (t146 : List ByteArray) (t147 : Int) (A144 : Option Addr) (c145 : Nat) (w1 : World), x = (t146, t147) → Holds M0 w0 w1 [box b30 34 [sV A144 t146 c145], own Rp.str 9 (sV A144 t146 c145) t146, box b34 3 [iA p2], box b35 22 [sV pA0 p0 pc0], sl (Rp.pair rC rB) (sV pA0 p0 pc0) p0, box b36 23 [iC t147], rng F14 8 b29 [(7, pt b30), (13, .func (.func 48) #[] #[pt b34, pt b35, pt b36])] .ready none, dfr b39, G1, G2, G3, G4, G5, G6, G7, G8, G9, G10, G11, G12, G15, G16] → RunsI F48 [] [] w1 R) :
  ∀ (k : Nat) (t33 : List ByteArray) (t37 : Int) (t38 : Int) (A31 : Option Addr) (c32 : Nat) (w : World), listing_Lines_14.l0 K p0 p1 p2 k t33 t37 t38 = some x → Holds M0 w0 w [rng F14 8 b29 [(7, pt b30), (13, .func (.func 48) #[] #[pt b34, pt b35, pt b36])] .ready none, box b30 34 [sV A31 t33 c32], own Rp.str 9 (sV A31 t33 c32) t33, box b34 3 [iA p2], box b35 22 [sV pA0 p0 pc0], sl (Rp.pair rC rB) (sV pA0 p0 pc0) p0, box b36 23 [iC t37], dfr b39, G1, G2, G3, G4, G5, G6, G7, G8, G9, G10, G11, G12, G15, G16] → RunsI F48 [.c 4, .lp 4, .blk 0] [(0, .func (.yield b29) #[] #[]), (2, pt b35), (3, pt b36), (7, iA (if 200 < p2 then 200 else p2)), (8, iA t38)] w R := by
 intro k
 induction k with
 | zero => intro t33 t37 t38 A31 c32 w h hH; exact absurd h (by simp [listing_Lines_14.l0])
 | succ k ih =>
  intro t33 t37 t38 A31 c32 w h hH
  rw [listing_Lines_14.l0.eq_2] at h
  refine Xd 1 5 [.c 6, .lp 4, .blk 0] 1 [(0, .func (.yield b29) #[] #[]), (2, pt b35), (3, pt b36), (7, iA (if 200 < p2 then 200 else p2)), (8, iA t38), (9, tB (decide (t38 < (if 200 < p2 then 200 else p2))))] (Xg 1 [.c 7, .c 10, .lp 4, .blk 0] (Vc 9 8 9 h (fun hc40 h => ?_) fun hc40 h => ?_))
  ·refine Xg 1 [.c 10, .lp 4, .blk 0] (Xg 3 [.c 13, .c 14, .blk 1, .c 21, .lp 4, .blk 0] (Xr (Ya 10 4 22 b35 0 (sV pA0 p0 pc0) hH rfl (Ya 11 6 23 b36 0 (iC t37) hH rfl ?_))))
   obtain ⟨⟨t45, t46, t50, t51, t52, t53, t54, t55, t56⟩, hg44, h⟩ := of_bind h
   dsimp only at h
   refine Yc 12 49 #[sV pA0 p0 pc0, iC t37] ((listing_at_49_ok K _ w  pA0 pc0 p0 t37 hH.old' (hH.get 5 rfl) hg44).mono ?_)
   rintro _ w41 ⟨A47, c48, rfl, hr57⟩
   refine ⟨_, rfl, ?_⟩
   have hb42 := hr57.below
   have h43 : Holds M0 w0 w41 [rng F14 8 b29 [(7, pt b30), (13, .func (.func 48) #[] #[pt b34, pt b35, pt b36])] .ready none, box b30 34 [sV A31 t33 c32], own Rp.str 9 (sV A31 t33 c32) t33, box b34 3 [iA p2], box b35 22 [sV pA0 p0 pc0], sl (Rp.pair rC rB) (sV pA0 p0 pc0) p0, box b36 23 [iC t37], dfr b39, G1, G2, G3, G4, G5, G6, G7, G8, G9, G10, G11, G12, G15, G16, own rB 5 (sV A47 t46 c48) t46] := hH.join hr57
   refine Yx 5 53 [iC 0, n0, iA 0, iB 0, iB 0, iC 0, iA 0, iA 0, tB false] h43 ?_
   intro w58 b59 h60 hb61 hn62
   refine Yb 23 53 b59 0 (.agg #[iC t45, sV A47 t46 c48, iA t50, iB t51, iB t52, iC t53, iA t54, iA t55, tB t56]) [iC t45, sV A47 t46 c48, iA t50, iB t51, iB t52, iC t53, iA t54, iA t55, tB t56] h60 rfl ?_
   intro w63 h64 hk65
   refine Yq 2 16 [.c 17, .c 20, .blk 1, .c 21, .lp 4, .blk 0] 1 [(0, .func (.yield b29) #[] #[]), (2, pt b35), (3, pt b36), (5, pt b59), (7, iA (if 200 < p2 then 200 else p2)), (8, iA t38), (13, .func (.yield b29) #[] #[])] (Ya 14 23 53 b59 0 (.agg #[iC t45, sV A47 t46 c48, iA t50, iB t51, iB t52, iC t53, iA t54, iA t55, tB t56]) h64 rfl (RegI.yield 15 b29 8 0 [.agg #[iC t45, sV A47 t46 c48, iA t50, iB t51, iB t52, iC t53, iA t54, iA t55, tB t56]] [0, 2, 3, 5, 7, 8] [(0, .func (.yield b29) #[] #[]), (2, pt b35), (3, pt b36), (5, pt b59), (7, iA (if 200 < p2 then 200 else p2)), (8, iA t38)] h64 (by kernel_rfl) (by kernel_rfl) (by kernel_rfl) (by kernel_rfl) rfl (by kernel_rfl) (by kernel_rfl) (by kernel_rfl) [.c 9, .bg, .c 10] (by kernel_rfl) [(14, .agg #[iC t45, sV A47 t46 c48, iA t50, iB t51, iB t52, iC t53, iA t54, iA t55, tB t56]), (7, pt b30), (13, .func (.func 48) #[] #[pt b34, pt b35, pt b36])] (by kernel_rfl) (Vl [(7, pt b30), (14, .agg #[iC t45, sV A47 t46 c48, iA t50, iB t51, iB t52, iC t53, iA t54, iA t55, tB t56])] (Xr (Yx 8 53 [iC 0, n0, iA 0, iB 0, iB 0, iC 0, iA 0, iA 0, tB false] h64 ?_)))))
   intro w66 b67 h68 hb69 hn70
   refine Yb 24 53 b67 0 (.agg #[iC t45, sV A47 t46 c48, iA t50, iB t51, iB t52, iC t53, iA t54, iA t55, tB t56]) [iC t45, sV A47 t46 c48, iA t50, iB t51, iB t52, iC t53, iA t54, iA t55, tB t56] h68 rfl ?_
   intro w71 h72 hk73
   refine Ye (RunsI.begin 0 h72 rfl rfl ?_)
   intro w74 h75 hk76
   refine Xq 2 12 [.c 13, .blk 1] 1 [(7, pt b30), (8, pt b67), (15, pu b67 1)] (Ya 16 24 39 b67 1 (sV A47 t46 c48) h75 rfl ?_)
   obtain ⟨t81, hg80, h⟩ := of_bind h
   refine Yc 17 35 #[sV A47 t46 c48] ((listing_digits_35_ok K (fun _ => False) w74  A47 c48 t46 nF (h75.ownSl 22 rfl) (gF (h75.get 19 rfl)) (gF (h75.get 20 rfl)) (gF (h75.get 21 rfl)) hg80).mono ?_)
   rintro _ w77 ⟨rfl, hb78⟩
   refine ⟨_, rfl, ?_⟩
   have h79 := h75.call hb78
   refine Zp 1 [7, 8, 9] [(9, tS t81)] (Zy 1 14 [.c 15, .blk 1] 5 [7, 8, 18, 22] [(18, tS t81), (22, iA (if (wA (8 - (t81.size : Int))) > 0 then (wA (8 - (t81.size : Int))) else 0))] ?_)
   obtain ⟨t86, hg85, h⟩ := of_bind h
   refine Yc 23 36 #[tS sg0, iA (if (wA (8 - (t81.size : Int))) > 0 then (wA (8 - (t81.size : Int))) else 0)] ((strings_Repeat_36_ok K _ w77  sg0 (if (wA (8 - (t81.size : Int))) > 0 then (wA (8 - (t81.size : Int))) else 0) h79.old' hg85).mono ?_)
   rintro _ w82 ⟨rfl, hb83⟩
   refine ⟨_, rfl, ?_⟩
   have h84 := h79.call hb83
   have ⟨hc87, h⟩ := oz h
   refine Yt 24 t81 t86 hc87 (Zd 1 [7, 8, 9] [(9, tS (t81 ++ t86))] (RunsI.any 15 (by kernel_rfl) (by kernel_rfl) (by kernel_rfl) (Kp (mines (pick [rng F14 8 b29 [(7, pt b30), (13, .func (.func 48) #[] #[pt b34, pt b35, pt b36])] .busy none, box b30 34 [sV A31 t33 c32], own Rp.str 9 (sV A31 t33 c32) t33, box b34 3 [iA p2], box b35 22 [sV pA0 p0 pc0], sl (Rp.pair rC rB) (sV pA0 p0 pc0) p0, box b36 23 [iC t37], dfr b39, G1, G2, G3, G4, G5, G6, G7, G8, G9, G10, G11, G12, G15, G16, own rB 5 (sV A47 t46 c48) t46, box b59 53 [iC t45, sV A47 t46 c48, iA t50, iB t51, iB t52, iC t53, iA t54, iA t55, tB t56], box b67 53 [iC t45, sV A47 t46 c48, iA t50, iB t51, iB t52, iC t53, iA t54, iA t55, tB t56]] [2])) (World.drew w82)) ?_))
   have h89 := h84.drew
   generalize World.drew w82 = w88 at h89 ⊢
   have hS90 := Kp.refl (mines (pick [rng F14 8 b29 [(7, pt b30), (13, .func (.func 48) #[] #[pt b34, pt b35, pt b36])] .busy none, box b30 34 [sV A31 t33 c32], own Rp.str 9 (sV A31 t33 c32) t33, box b34 3 [iA p2], box b35 22 [sV pA0 p0 pc0], sl (Rp.pair rC rB) (sV pA0 p0 pc0) p0, box b36 23 [iC t37], dfr b39, G1, G2, G3, G4, G5, G6, G7, G8, G9, G10, G11, G12, G15, G16, own rB 5 (sV A47 t46 c48) t46, box b59 53 [iC t45, sV A47 t46 c48, iA t50, iB t51, iB t52, iC t53, iA t54, iA t55, tB t56], box b67 53 [iC t45, sV A47 t46 c48, iA t50, iB t51, iB t52, iC t53, iA t54, iA t55, tB t56]] [2])) w88
   refine Wa 0 25 1 34 b30 0 (sV A31 t33 c32) [2] h89 rfl hS90 rfl (Wu 1 26 (pt b67) hS90 (Wa 2 27 24 23 b67 0 (iC t45) [2] h89 rfl hS90 rfl (Wu 3 28 (iA (wA t45)) hS90 ?_)))
   obtain ⟨t93, hg92, h⟩ := of_bind h
   refine Wc 4 29 (tS t93) 37 #[iA (wA t45), iA 4] hS90 (fun w hk => text_Hex_37_ok K (fun _ => False) w (wA t45) 4 nF (gF (h89.atI [2] rfl hk 19 rfl rfl)) (gF (h89.atI [2] rfl hk 20 rfl rfl)) (gF (h89.atI [2] rfl hk 21 rfl rfl)) hg92) ?_
   have ⟨hc94, h⟩ := oz h
   refine Wt 5 30 t93 sg2 hS90 hc94 (Wu 6 31 (tS (t81 ++ t86)) hS90 ?_)
   have ⟨hc95, h⟩ := oz h
   refine Wt 7 32 (t93 ++ sg2) (t81 ++ t86) hS90 hc95 ?_
   have ⟨hc96, h⟩ := oz h
   refine Wt 8 33 ((t93 ++ sg2) ++ (t81 ++ t86)) sg0 hS90 hc96 (Wa 9 34 24 53 b67 0 (.agg #[iC t45, sV A47 t46 c48, iA t50, iB t51, iB t52, iC t53, iA t54, iA t55, tB t56]) [2] h89 rfl hS90 rfl ?_)
   obtain ⟨t98, hg97, h⟩ := of_bind h
   refine Wc 10 35 (tS t98) 38 #[.agg #[iC t45, sV A47 t46 c48, iA t50, iB t51, iB t52, iC t53, iA t54, iA t55, tB t56]] hS90 (fun w hk => listing_one_text_38_ok K (fun _ => False) w A47 c48 t45 t46 t50 t51 t52 t53 t54 t55 t56 nF (own_sl (h89.atI [2] rfl hk 22 rfl rfl) (fun _ _ hf => hf.elim) (fun _ _ hf => hf)) (gF (h89.atI [2] rfl hk 8 rfl rfl)) (gF (h89.atI [2] rfl hk 9 rfl rfl)) (gF (h89.atI [2] rfl hk 10 rfl rfl)) (gF (h89.atI [2] rfl hk 11 rfl rfl)) (gF (h89.atI [2] rfl hk 12 rfl rfl)) (gF (h89.atI [2] rfl hk 13 rfl rfl)) (gF (h89.atI [2] rfl hk 14 rfl rfl)) (gF (h89.atI [2] rfl hk 15 rfl rfl)) (gF (h89.atI [2] rfl hk 16 rfl rfl)) (gF (h89.atI [2] rfl hk 17 rfl rfl)) (gF (h89.atI [2] rfl hk 18 rfl rfl)) (gF (h89.atI [2] rfl hk 19 rfl rfl)) (gF (h89.atI [2] rfl hk 20 rfl rfl)) (gF (h89.atI [2] rfl hk 21 rfl rfl)) hg97) ?_
   have ⟨hc99, h⟩ := oz h
   refine Wt 11 36 (((t93 ++ sg2) ++ (t81 ++ t86)) ++ sg0) t98 hS90 hc99 (AnyE.one 12 (by kernel_rfl) (fun w100 hu101 => ?_))
   have h102 := h89.call hu101
   have hS103 := hS90.up hu101
   refine OpE.lit 37 9 [tS ((((t93 ++ sg2) ++ (t81 ++ t86)) ++ sg0) ++ t98)] 1 h102 (by kernel_rfl) (by kernel_rfl) ?_
   intro w104 b105 h106 hb107 hn108
   have hn109 := Nat.le_trans hS103.1 hn108
   have hS110 := hS103.up hb107
   refine ⟨hS110, ?_⟩
   refine AnyE.one 13 (by kernel_rfl) (fun w111 hu112 => ?_)
   have h113 := h106.call hu112
   have hS114 := hS110.up hu112
   have ⟨hc115, h⟩ := oz h
   refine OpE.appendBox 38 2 25 34 9 16 ([((((t93 ++ sg2) ++ (t81 ++ t86)) ++ sg0) ++ t98)] : List ByteArray) 0 h113 (by kernel_rfl) (by kernel_rfl) (by kernel_rfl) rfl rfl rfl (cells_str _ _ _) hc115 ?_
   intro w116 A117 c118 h119 hk120
   have hS121 := hS114.trans hk120 (Kp.turned h89 [2] rfl 2 rfl rfl)
   refine ⟨hS121, ?_⟩
   refine AnyE.last 14 (by kernel_rfl) (by kernel_rfl) (fun w122 hu123 => ?_)
   have h124 := h119.call hu123
   have hS125 := hS121.up hu123
   refine OpE.storeBox 1 34 b30 0 (.slice A117 ((t33 ++ ([((((t93 ++ sg2) ++ (t81 ++ t86)) ++ sg0) ++ t98)] : List ByteArray)).length) c118) [.slice A117 ((t33 ++ ([((((t93 ++ sg2) ++ (t81 ++ t86)) ++ sg0) ++ t98)] : List ByteArray)).length) c118] h124 (by kernel_rfl) (by kernel_rfl) rfl (by kernel_rfl) (by kernel_rfl) (by kernel_rfl) ?_
   intro w126 h127 hk128
   refine AnyE.done (by kernel_rfl) (fun w130 hu131 => ?_)
   have h132 := h127.call hu131
   refine Vl [] (Xg 1 [] (RunsI.roundEnd 0 h132 rfl rfl ?_))
   intro w133 h134 hk135
   refine cont_mk (Yd 1 [(0, .func (.yield b29) #[] #[]), (2, pt b35), (3, pt b36), (5, pt b59), (7, iA (if 200 < p2 then 200 else p2)), (8, iA t38), (16, tB false)] (Xb false 19 (Xg 1 [.c 20, .blk 1, .c 21, .lp 4, .blk 0] (Xr (Ya 17 23 53 b59 0 (.agg #[iC t45, sV A47 t46 c48, iA t50, iB t51, iB t52, iC t53, iA t54, iA t55, tB t56]) h134 rfl ?_)))))
   obtain ⟨t140, hg139, h⟩ := of_bind h
   refine Yc 18 34 #[.agg #[iC t45, sV A47 t46 c48, iA t50, iB t51, iB t52, iC t53, iA t54, iA t55, tB t56]] ((listing_one_next_34_ok K (fun _ => False) w133  A47 c48 t45 t46 t50 t51 t52 t53 t54 t55 t56 nF (h134.ownSl 22 rfl) hg139).mono ?_)
   rintro _ w136 ⟨rfl, hb137⟩
   refine ⟨_, rfl, ?_⟩
   have h138 := h134.call hb137
   refine Yb 6 23 b36 0 (iC t140) [iC t140] h138 rfl ?_
   intro w141 h142 hk143
   refine Zy 1 21 [.lp 4, .blk 0] 2 [0, 2, 3, 7, 8] [(8, iA (wA (t38 + 1)))] (Ye (Xg 1 [.c 4, .lp 4, .blk 0] (Vl [(0, .func (.yield b29) #[] #[]), (2, pt b35), (3, pt b36), (7, iA (if 200 < p2 then 200 else p2)), (8, iA (wA (t38 + 1)))] ?_)))
   exact ih (t33 ++ ([((((t93 ++ sg2) ++ (t81 ++ t86)) ++ sg0) ++ t98)] : List ByteArray)) t140 (wA (t38 + 1)) A117 c118 w141 h (h142.pk [0, 1, 2, 3, 4, 5, 6, 7, 8, 9, 10, 11, 12, 13, 14, 15, 16, 17, 18, 19, 20, 21])
  ·refine Xg 1 [] (Vl [] ?_)
   exact hk0 t33 t37 A31 c32 w (sI h).symm (hH.pk [1, 2, 3, 4, 5, 6, 0, 7, 8, 9, 10, 11, 12, 13, 14, 15, 16, 17, 18, 19, 20, 21])
def listing_Lines_14.f (K : Nat) (p0 : List (Int × Int)) (p1 : Int) (p2 : Int) : Option (List ByteArray) := (listing_Lines_14.l0 K p0 p1 p2 K ([] : List ByteArray) p1 0).bind (fun yx148 => some yx148.1)
theorem listing_Lines_14_ok (K : Nat) (M0 : Nat → Prop) (w0 : World) (pA0 : Option Addr) (pc0 : Nat) (p0 : List (Int × Int)) (p1 : Int) (p2 : Int) (ho : ∀ b, M0 b → b < w0.heap.size) (hs0 : Sl (Rp.pair rC rB) w0 M0 (sV pA0 p0 pc0) p0) (hG1 : G1.ok w0 M0) (hG2 : G2.ok w0 M0) (hG3 : G3.ok w0 M0) (hG4 : G4.ok w0 M0) (hG5 : G5.ok w0 M0) (hG6 : G6.ok w0 M0) (hG7 : G7.ok w0 M0) (hG8 : G8.ok w0 M0) (hG9 : G9.ok w0 M0) (hG10 : G10.ok w0 M0) (hG11 : G11.ok w0 M0) (hG12 : G12.ok w0 M0) (hG15 : G15.ok w0 M0) (hG16 : G16.ok w0 M0) {r : (List ByteArray)} (h : listing_Lines_14.f K p0 p1 p2 = some r) :
  Calls Tryz.prog 14 #[sV pA0 p0 pc0, iC p1, iA p2] w0 (listing_Lines_14.post M0 w0 r) := by
 unfold listing_Lines_14.f at h
 have h0 : Holds M0 w0 w0 [] := Holds.start ho
 have h00 := h0.aS hs0
 have h0g1 := h00.aG hG1
 have h0g2 := h0g1.aG hG2
 have h0g3 := h0g2.aG hG3
 have h0g4 := h0g3.aG hG4
 have h0g5 := h0g4.aG hG5
 have h0g6 := h0g5.aG hG6
 have h0g7 := h0g6.aG hG7
 have h0g8 := h0g7.aG hG8
 have h0g9 := h0g8.aG hG9
 have h0g10 := h0g9.aG hG10
 have h0g11 := h0g10.aG hG11
 have h0g12 := h0g11.aG hG12
 have h0g15 := h0g12.aG hG15
 have h0g16 := h0g15.aG hG16
 have h0 : Holds M0 w0 w0 [sl (Rp.pair rC rB) (sV pA0 p0 pc0) p0, G1, G2, G3, G4, G5, G6, G7, G8, G9, G10, G11, G12, G15, G16] := h0g16
 refine calls_of F14 rfl [sV pA0 p0 pc0, iC p1, iA p2] (by kernel_rfl) (Xd 1 1 [.c 2] 1 [(0, sV pA0 p0 pc0), (1, iC p1), (2, iA p2)] (Xg 1 [.c 3, .c 4] (Xr (Yx 7 34 [n0] h0 ?_))))
 intro w1 b2 h3 hb4 hn5
 refine Yq 2 6 [.c 7, .c 16] 3 [(7, pt b2), (10, sV pA0 p0 pc0), (11, iC p1), (12, iA p2)] (RegI.enter 13 [7] [(7, pt b2)] (by kernel_rfl) (by kernel_rfl) (by kernel_rfl) (by kernel_rfl) F29 29 rfl [sV pA0 p0 pc0, iC p1, iA p2] (by kernel_rfl) (by kernel_rfl) (Xg 1 [.c 1, .c 2] (Xr (Yx 3 22 [sV pA0 p0 pc0] h3 ?_))))
 intro w6 b7 h8 hb9 hn10
 refine Yx 4 23 [iC p1] h8 ?_
 intro w11 b12 h13 hb14 hn15
 refine Yx 5 3 [iA p2] h13 ?_
 intro w16 b17 h18 hb19 hn20
 refine Yp 1 [(3, pt b7), (4, pt b12), (5, pt b17)] (Yq 1 3 [.c 4] 2 [(6, .func (.func 48) #[] #[pt b17, pt b7, pt b12])] (Ye (Xt (.func (.func 48) #[] #[pt b17, pt b7, pt b12]) (cont_mk (Ye (Xg 1 [.c 8, .blk 0, .c 16] (RunsI.rangeFunc (G := F48) [7, 13] [(7, pt b2), (13, .func (.func 48) #[] #[pt b17, pt b7, pt b12])] 48 [pt b17, pt b7, pt b12] h18 (by kernel_rfl) (by kernel_rfl) (by kernel_rfl) (fun _ _ => by kernel_rfl) rfl rfl (by kernel_rfl) rfl rfl ?_)))))))
 intro b21 b22 w23 h24 hb25 hn26 hn27
 refine Xg 1 [.c 1, .c 2] (Xr (Ya 6 18 3 b17 0 (iA p2) h24 rfl (Yd 2 [(0, .func (.yield b22) #[] #[]), (2, pt b7), (3, pt b12), (7, iA (if 200 < p2 then 200 else p2)), (8, iA 0)] (Xg 2 [.c 4, .lp 4, .blk 0] ?_))))
 obtain ⟨x148, hx149, h⟩ := of_bind h
 have h28 := h24.addOwnNil Rp.str 9
 refine Vl [(0, .func (.yield b22) #[] #[]), (2, pt b7), (3, pt b12), (7, iA (if 200 < p2 then 200 else p2)), (8, iA 0)] (listing_Lines_14.l0_ok K M0 w0 pA0 pc0 p0 p1 p2 b22 b2 b17 b7 b12 b21 _ x148 ?_ K ([] : List ByteArray) p1 0 none 0 w23 hx149 (h28.pk [20, 15, 21, 18, 16, 0, 17, 19, 1, 2, 3, 4, 5, 6, 7, 8, 9, 10, 11, 12, 13, 14]))
 ·intro t152 t153 A150 c151 w155 hq162 h154
  (try rw [hq162] at h)
  dsimp only at h
  refine Xt (.tuple #[]) (contR_mk (RunsI.endLoop 6 h154 rfl rfl (by intro hh; cases hh) [.blk 0, .c 16] (by kernel_rfl) ?_))
  intro w156 h157 hk158
  refine Xg 2 [.c 17, .c 18] (Xr (Ya 39 0 34 b2 0 (sV A150 t152 c151) h157 rfl (Yd 1 [(6, sV A150 t152 c151)] (RunsI.toRet (by kernel_rfl) (RetI.takeH 7 b21 h157 rfl ?_)))))
  intro w159 h160 hk161
  refine RetI.val (sV A150 t152 c151) (by kernel_rfl) ?_
  obtain rfl := sI h
  exact ⟨A150, c151, rfl, h160.pk [1]⟩
end

section
theorem strings_Builder_WriteRune_103_ok {M0 : Nat → Prop} {w0 w : World} {H : List Chunk} (c : Nat) (hO : Others M0 w0 H c) {b cp : Nat} {A : Option Addr} {l : List UInt8} (r : Int) (hH : Holds M0 w0 w H) (hR : bldQ l.length r = true) (hi : H[c]? = some (bl 84 5 b (sV A l cp) A cp l)) :
  Calls Tryz.prog 103 #[pt b, .int .i32 r] w fun e w' => e = .returned (.tuple #[iA ((u8B r).length : Int), .nilIface]) ∧ ∃ A' cp', Holds M0 w0 w' (H.set c (bl 84 5 b (.slice A' (l ++ u8B r).length cp') A' cp' (l ++ u8B r))) := by
 have hcl : c < H.length := (List.getElem?_eq_some_iff.1 hi).1
 simp only [bldQ, Bool.and_eq_true, decide_eq_true_eq] at hR
 obtain ⟨⟨hlen, hr0⟩, hr1⟩ := hR
 have hlen := Nat.le_of_ble_eq_true hlen
 refine calls_of F103 rfl [pt b, .int .i32 r] (by kernel_rfl) (Xq 1 1 [.c 2] 2 [(0, pt b), (1, .int .i32 r)] (Zy 1 3 [.c 4] 1 [0, 1, 7] [(7, pt b)] (Yc 8 85 #[pt b] ((hH.copyCheck (c := c) strings_Builder_WriteString_54_copy hi).mono ?_))))
 rintro _ w1 ⟨rfl, h1⟩
 refine ⟨_, rfl, ?_⟩
 have hset0 : H.set c (bl 84 5 b (sV A l cp) A cp l) = H := by
  refine List.ext_getElem? fun j => ?_
  by_cases hjc : c = j
  ·subst hjc; rw [List.getElem?_set_self hcl, hi]
  ·rw [List.getElem?_set_ne hjc]
 rw [hset0] at h1
 refine Ul [(0, pt b), (1, .int .i32 r)] (Ye (Xg 1 [.c 5, .c 6] (Xr ?_)))
 obtain ⟨⟨p, hp, hb⟩, ho, hne⟩ := h1.get c hi
 have hld : ∀ {w : World} {p v : Value}, w.heap[b]? = some (.cells #[p, v] 84 (0, 0)) → ∀ j u, [v][j]? = some u → w.cell? ⟨b, 1 + j, none⟩ = some u := fun {w p v} hb => box_cells (cs := [p, v]) hb 1
 refine Zp 3 [0, 1, 11] [(11, pu b 1)] (Yo (OpE.load 12 39 (b := b) (o := 1) (cs := [sV A l cp]) (v := sV A l cp) (by kernel_rfl) (by kernel_rfl) (hld hb) (by kernel_rfl) (Zp 2 [0, 1, 6] [(6, iA (l.length : Int))] (Zy 1 7 [.c 8] 4 [0, 1, 6, 14, 17] [(14, pt b), (17, pu b 1)] (Yo (OpE.load 18 39 (b := b) (o := 1) (cs := [sV A l cp]) (v := sV A l cp) (by kernel_rfl) (by kernel_rfl) (hld hb) (by kernel_rfl) (Zp 1 [0, 6, 14, 18, 19] [(18, sV A l cp), (19, .int .i32 r)] ?_)))))))
 have hrow : ∀ g, (Value.slice A l.length cp).ownBlock = some g → w0.heap.size ≤ g := fun g hg => (h1.mine g (List.mem_flatMap.2 ⟨_, List.mem_of_getElem? hi, List.mem_cons_of_mem _ (by simp [hg])⟩)).1
 have ho' : w1.ownsRow w0.heap.size 5 1 (sV A l cp) l.length (Lib.byteCells l) := by
  refine ⟨ho.1, ?_⟩
  rcases ho.2 with hn | ⟨g, cap, cur, hv, h0, rest⟩
  ·exact .inl hn
  ·exact .inr ⟨g, cap, cur, hv, hrow g (by rw [hv]; rfl), rest⟩
 have hcall := Tryz.utf8_AppendRune_plain w0.heap.size (sV A l cp) l.length (Lib.byteCells l) r (by omega) (by omega) w1 ho' hlen h1.below.size
 rw [u8B_cells hr0 hr1, ← Lib.byteCells_append, Lib.byteCells_length, ← List.length_append] at hcall
 refine Yc 20 155 #[sV A l cp, .int .i32 r] (hcall.mono ?_)
 rintro _ w2 ⟨v', rfl, h2, h3⟩
 refine ⟨_, rfl, ?_⟩
 obtain ⟨A2, cp2, rfl, h4⟩ := h1.blRow hO hi (by decide) (fun h => by have h5 := (u8B_len r).1; rw [(List.append_eq_nil_iff.1 h).2] at h5; simp at h5) h2 h3
 have hi4 : (H.set c (bl 84 5 b (sV A l cp) A2 cp2 (l ++ u8B r)))[c]? = some (bl 84 5 b (sV A l cp) A2 cp2 (l ++ u8B r)) := by rw [List.getElem?_set_self hcl]
 refine Zp 2 [0, 6, 20, 22] [(20, .slice A2 (l ++ u8B r).length cp2), (22, pu b 1)] (Yo (OpE.storeBl c 39 (A2 := A2) (n2 := (l ++ u8B r).length) (c2 := cp2) h4 (by kernel_rfl) (by kernel_rfl) hi4 (by kernel_rfl) ?_))
 intro w3 h5
 rw [List.set_set] at h5
 obtain ⟨⟨p3, hp3, hb3⟩, ho3, hne3⟩ := h5.get c (List.getElem?_set_self hcl)
 refine Yq 1 9 [.c 10] 3 [(6, iA (l.length : Int)), (25, pu b 1)] (Yo (OpE.load 26 39 (b := b) (o := 1) (cs := [.slice A2 (l ++ u8B r).length cp2]) (v := .slice A2 (l ++ u8B r).length cp2) (by kernel_rfl) (by kernel_rfl) (hld hb3) (by kernel_rfl) ?_))
 have hlast : IntKind.wrap .i64 (((l ++ u8B r).length : Int) - (l.length : Int)) = ((u8B r).length : Int) := by
  have := (u8B_len r).2
  rw [List.length_append, IntKind.wrap_i64]
  omega
 refine Yd 5 [(4, iA (IntKind.wrap .i64 (((l ++ u8B r).length : Int) - (l.length : Int)))), (5, .nilIface)] (Xt (.tuple #[iA (IntKind.wrap .i64 (((l ++ u8B r).length : Int) - (l.length : Int))), .nilIface]) ?_)
 rw [hlast]
 exact ⟨rfl, A2, cp2, h5⟩
end


section
open Go.Shelf Go.Lib
def plainR (r : Int) : Int := if r < 32 ∨ r > 126 then 46 else r
theorem strings_Map_65_one (x : Int) (W : World) : Calls Tryz.prog 66 #[.int .i32 x] W fun e w' => e = .returned (.int .i32 (plainR x)) ∧ w' = W := by
 unfold plainR
 by_cases h1 : x < 32
 ·rw [if_pos (.inl h1)]
  go_enter Tryz.func66, Tryz.ntmps66
  go_wp2
  go_ret
  exact ⟨rfl, rfl⟩
 ·by_cases h2 : x > 126
  ·rw [if_pos (.inr h2)]
   go_enter Tryz.func66, Tryz.ntmps66
   go_wp2
   go_ret
   exact ⟨rfl, rfl⟩
  ·rw [if_neg (fun h => h.elim h1 h2)]
   go_enter Tryz.func66, Tryz.ntmps66
   go_wp2
   go_ret
   exact ⟨rfl, rfl⟩
theorem strings_Map_65_ok (s : ByteArray) {w : World} (hT : Lib.Utf8Tabs 13 14 w) (hs : Nat.blt s.size 35184372088832 = true) :
  Calls Tryz.prog 65 #[.func (.func 66) #[] #[], tS s] w fun e w' => e = .returned (.string ⟨(Lib.mapD plainR s.data.toList).toArray⟩) ∧ Below w.heap.size w w' := by
 refine Tryz.strings_Map_runes 66 #[] (enters_of Tryz.func66 (by kernel_rfl) rfl) plainR s w (by simpa [Nat.blt_eq] using hs) (fun W x _ _ => ?_) (fun x hx => ?_) hT
 ·refine (strings_Map_65_one (x : Int) W).mono ?_
  rintro e w' ⟨rfl, rfl⟩
  exact ⟨rfl, 0, rfl⟩
 ·unfold plainR
  split <;> omega
end


section
abbrev listing_latin_67.post := pS
def listing_latin_67.l0 (K : Nat) (p0 : List Int) : Nat → (List UInt8) → Int → Option (List UInt8)
 | 0, _, _ => none
 | k + 1, t10, t11 => cond (decide (t11 < (p0.length : Int))) (cond (inR t11 p0.length) (cond (bldQ t10.length (IntKind.wrap .i32 (rdD p0 t11))) (listing_latin_67.l0 K p0 k (t10 ++ u8B (IntKind.wrap .i32 (rdD p0 t11))) (IntKind.wrap .i64 (t11 + 1))) none) none) (some t10)
theorem listing_latin_67.l0_ok (K : Nat) (M0 : Nat → Prop) (w0 : World) (pA0 : Option Addr) (pc0 : Nat) (p0 : List Int) (b7 : Nat)  (hs0 : Sl rB w0 M0 (sV pA0 p0 pc0) p0) (R : Ending → World → Prop) (x : (List UInt8)) (hk0 : ∀ (t28 : List UInt8) (A26 : Option Addr) (c27 : Nat) (w1 : World), x = t28 → Holds M0 w0 w1 [bl 84 5 b7 (sV A26 t28 c27) A26 c27 t28] → RunsI F67 [.c 21] [(3, pt b7)] w1 R) :
  ∀ (k : Nat) (t10 : List UInt8) (t11 : Int) (A8 : Option Addr) (c9 : Nat) (w : World), listing_latin_67.l0 K p0 k t10 t11 = some x → Holds M0 w0 w [bl 84 5 b7 (sV A8 t10 c9) A8 c9 t10, sl rB (sV pA0 p0 pc0) p0] → RunsI F67 [.c 9, .lp 9, .blk 0, .c 21] [(3, pt b7), (6, sV pA0 p0 pc0), (7, iA (p0.length : Int)), (8, iA t11)] w R := by
 intro k
 induction k with
 | zero => intro t10 t11 A8 c9 w h hH; exact absurd h (by simp [listing_latin_67.l0])
 | succ k ih =>
  intro t10 t11 A8 c9 w h hH
  rw [listing_latin_67.l0.eq_2] at h
  refine Xd 1 10 [.c 11, .lp 9, .blk 0, .c 21] 1 [(3, pt b7), (6, sV pA0 p0 pc0), (7, iA (p0.length : Int)), (8, iA t11), (9, tB (decide (t11 < (p0.length : Int))))] (Xg 1 [.c 12, .c 15, .lp 9, .blk 0, .c 21] (Vc 9 13 14 h (fun hc12 h => ?_) fun hc12 h => ?_))
  ·refine Xg 1 [.c 15, .lp 9, .blk 0, .c 21] (Xg 3 [.c 18, .c 19, .blk 1, .c 20, .lp 9, .blk 0, .c 21] (Xr ?_))
   have ⟨hc13, h⟩ := oz h
   refine Yo (OpE.idxSl 10 1 39 t11 hH (by kernel_rfl) rfl (by kernel_rfl) (by kernel_rfl) hc13 ?_)
   intro b14 o15 cs16 hk17 h18
   obtain rfl := hk17
   refine Yz 11 2 5 b14 o15 0 (iB (rdD p0 t11)) h18 rfl (Yd 1 [(3, pt b7), (5, iB (rdD p0 t11)), (6, sV pA0 p0 pc0), (7, iA (p0.length : Int)), (8, iA t11)] (Xr (Zp 2 [3, 6, 7, 8, 13] [(13, .int .i32 (IntKind.wrap .i32 (rdD p0 t11)))] ?_)))
   have h19 := h18.pk [0, 1]
   have ⟨hc21, h⟩ := oz h
   have ho20 : Others M0 w0 [bl 84 5 b7 (sV A8 t10 c9) A8 c9 t10, sl rB (sV pA0 p0 pc0) p0] 0 := by
    intro j d hj hd
    rcases j with _ | _ | j
    ·exact absurd rfl hj
    ·obtain rfl := sI hd; exact ⟨rfl, hs0⟩
    ·cases hd
   refine Yc 14 103 #[pt b7, .int .i32 (IntKind.wrap .i32 (rdD p0 t11))] ((strings_Builder_WriteRune_103_ok 0 ho20 (IntKind.wrap .i32 (rdD p0 t11)) h19 hc21 rfl).mono ?_)
   rintro _ w22 ⟨rfl, A23, c24, h25⟩
   refine ⟨_, rfl, ?_⟩
   refine Zy 1 20 [.lp 9, .blk 0, .c 21] 2 [3, 6, 7, 8] [(8, iA (wA (t11 + 1)))] (Ye (Xg 1 [.c 9, .lp 9, .blk 0, .c 21] (Vl [(3, pt b7), (6, sV pA0 p0 pc0), (7, iA (p0.length : Int)), (8, iA (wA (t11 + 1)))] ?_)))
   exact ih (t10 ++ u8B (IntKind.wrap .i32 (rdD p0 t11))) (wA (t11 + 1)) A23 c24 w22 h (h25.pk [0, 1])
  ·refine Xg 1 [.c 21] (Vl [(3, pt b7)] ?_)
   exact hk0 t10 A8 c9 w (sI h).symm (hH.pk [0])
def listing_latin_67.f (K : Nat) (p0 : List Int) : Option ByteArray := (listing_latin_67.l0 K p0 K ([] : List UInt8) 0).bind (fun t33 => some (⟨List.toArray t33⟩ : ByteArray))
theorem listing_latin_67_ok (K : Nat) (M0 : Nat → Prop) (w0 : World) (pA0 : Option Addr) (pc0 : Nat) (p0 : List Int) (ho : ∀ b, M0 b → b < w0.heap.size) (hs0 : Sl rB w0 M0 (sV pA0 p0 pc0) p0) {r : ByteArray} (h : listing_latin_67.f K p0 = some r) :
  Calls Tryz.prog 67 #[sV pA0 p0 pc0] w0 (listing_latin_67.post M0 w0 r) := by
 unfold listing_latin_67.f at h
 have h0 : Holds M0 w0 w0 [] := Holds.start ho
 have h00 := h0.aS hs0
 have h0 : Holds M0 w0 w0 [sl rB (sV pA0 p0 pc0) p0] := h00
 refine calls_of F67 rfl [sV pA0 p0 pc0] (by kernel_rfl) (Xd 1 1 [.c 2] 1 [(0, sV pA0 p0 pc0)] (Xg 1 [.c 3, .c 4] (Xr (Yx 3 84 [.pointer none, n0] h0 ?_))))
 intro w1 b2 h3 hb5 hn6
 have h4 := h3.boxBl (E := 5) 1 rfl
 refine Yq 2 6 [.c 7, .c 21] 3 [(3, pt b2), (6, sV pA0 p0 pc0), (7, iA (p0.length : Int)), (8, iA 0)] (Ye (Xg 2 [.c 9, .lp 9, .blk 0, .c 21] ?_))
 obtain ⟨x29, hx30, h⟩ := of_bind h
 refine Vl [(3, pt b2), (6, sV pA0 p0 pc0), (7, iA (p0.length : Int)), (8, iA 0)] (listing_latin_67.l0_ok K M0 w0 pA0 pc0 p0 b2 hs0 _ x29 ?_ K ([] : List UInt8) 0 none 0 w1 hx30 (h4.pk [1, 0]))
 ·intro t33 A31 c32 w35 hq39 h34
  (try rw [hq39] at h)
  refine Xg 1 [.c 22, .c 23] (Xr (Yc 16 56 #[pt b2] ((Tryz.Builder_String_any w0.heap.size b2 t33 w35 (bl_is h34 0 rfl rfl) h34.below.size).mono ?_)))
  rintro _ w36 ⟨rfl, hb37⟩
  refine ⟨_, rfl, ?_⟩
  have h38 := h34.only hb37
  refine Yd 1 [(2, tS (⟨List.toArray t33⟩ : ByteArray))] ?_
  obtain rfl := sI h
  exact Xt (tS (⟨List.toArray t33⟩ : ByteArray)) ⟨rfl, h38.below⟩
end

section
abbrev listing_plain_40.post := pS
def listing_plain_40.f (K : Nat) (p0 : List Int) : Option ByteArray := (listing_latin_67.f K p0).bind fun t5 => cond (Nat.blt t5.size 35184372088832) (some (⟨(Lib.mapD plainR t5.data.toList).toArray⟩ : ByteArray)) none
theorem listing_plain_40_ok (K : Nat) (M0 : Nat → Prop) (w0 : World) (pA0 : Option Addr) (pc0 : Nat) (p0 : List Int) (ho : ∀ b, M0 b → b < w0.heap.size) (hs0 : Sl rB w0 M0 (sV pA0 p0 pc0) p0) (hG13 : G13.ok w0 M0) (hG14 : G14.ok w0 M0) {r : ByteArray} (h : listing_plain_40.f K p0 = some r) :
  Calls Tryz.prog 40 #[sV pA0 p0 pc0] w0 (listing_plain_40.post M0 w0 r) := by
 unfold listing_plain_40.f at h
 have h0 : Holds M0 w0 w0 [] := Holds.start ho
 have h00 := h0.aS hs0
 have h0g13 := h00.aG hG13
 have h0g14 := h0g13.aG hG14
 have h0 : Holds M0 w0 w0 [sl rB (sV pA0 p0 pc0) p0, G13, G14] := h0g14
 refine calls_of F40 rfl [sV pA0 p0 pc0] (by kernel_rfl) (Xq 1 1 [.c 2] 1 [(0, sV pA0 p0 pc0)] (Yq 1 3 [.c 4] 1 [(3, sV pA0 p0 pc0)] ?_))
 obtain ⟨t5, hg4, h⟩ := of_bind h
 refine Yc 4 67 #[sV pA0 p0 pc0] ((listing_latin_67_ok K _ w0  pA0 pc0 p0 h0.old' (h0.get 0 rfl) hg4).mono ?_)
 rintro _ w1 ⟨rfl, hb2⟩
 refine ⟨_, rfl, ?_⟩
 have h3 := h0.call hb2
 have ⟨hc6, h⟩ := oz h
 refine Yc 5 65 #[.func (.func 66) #[] #[], tS t5] ((strings_Map_65_ok t5 (utf8_of (h3.get 1 rfl) (h3.get 2 rfl) (by kernel_rfl) (by kernel_rfl)) hc6).mono ?_)
 rintro _ w7 ⟨rfl, hb8⟩
 refine ⟨_, rfl, ?_⟩
 have h9 := h3.call hb8
 refine Yd 1 [(2, tS (⟨(Lib.mapD plainR t5.data.toList).toArray⟩ : ByteArray))] ?_
 obtain rfl := sI h
 exact Xt (tS (⟨(Lib.mapD plainR t5.data.toList).toArray⟩ : ByteArray)) ⟨rfl, h9.below⟩
end

section
def listing_Rows_15.post (M0 : Nat → Prop) (w0 : World) (r : (List ByteArray)) : Ending → World → Prop := fun e w => ∃ (A1 : Option Addr) (c1 : Nat), e = .returned (.slice A1 r.length c1) ∧ Holds M0 w0 w [own Rp.str 9 (.slice A1 r.length c1) r]
def listing_Rows_15.l0 (K : Nat) (p0 : List (Int × Int)) (p1 : Int) (p2 : Int) (t23 : Int) (t26 : List ByteArray) (t29 : List Int) (t31 : Int) (t32 : Int) : Nat → ByteArray → Int → Option ByteArray
 | 0, _, _ => none
 | k + 1, t30, t33 => cond (decide (t33 < t32)) (cond (inR t33 t29.length) ((listing_digits_35.f K ([(rdD t29 t33)] : List Int)).bind fun t49 => cond (mayCat (⟨#[32]⟩ : ByteArray).size t49.size) (cond (mayCat t30.size ((⟨#[32]⟩ : ByteArray) ++ t49).size) (listing_Rows_15.l0 K p0 p1 p2 t23 t26 t29 t31 t32 k (t30 ++ ((⟨#[32]⟩ : ByteArray) ++ t49)) (IntKind.wrap .i64 (t33 + 1))) none) none) none) (some t30)
theorem listing_Rows_15.l0_ok (K : Nat) (M0 : Nat → Prop) (w0 : World) (pA0 : Option Addr) (pc0 : Nat) (p0 : List (Int × Int)) (p1 : Int) (p2 : Int) (t23 : Int) (t26 : List ByteArray) (t29 : List Int) (t31 : Int) (t32 : Int) (A24 : Option Addr) (c25 : Nat) (A27 : Option Addr) (c28 : Nat) (R : Ending → World → Prop) (x : ByteArray) (hk0 : ∀ (t52 : ByteArray) (w1 : World), x = t52 → Holds M0 w0 w1 [sl (Rp.pair rC rB) (sV pA0 p0 pc0) p0, own Rp.str 9 (sV A24 t26 c25) t26, own rB 5 (sV A27 t29 c28) t29, G12, G13, G14, G15, G16] → RunsI F15 [.c 38, .blk 1, .c 41, .lp 9, .blk 0, .c 42] [(0, sV pA0 p0 pc0), (1, iC t23), (7, sV A24 t26 c25), (8, sV A27 t29 c28), (9, tS t52), (13, iA (if 200 < p2 then 200 else p2)), (14, iA t31)] w1 R) :
  ∀ (k : Nat) (t30 : ByteArray) (t33 : Int) (w : World), listing_Rows_15.l0 K p0 p1 p2 t23 t26 t29 t31 t32 k t30 t33 = some x → Holds M0 w0 w [sl (Rp.pair rC rB) (sV pA0 p0 pc0) p0, own Rp.str 9 (sV A24 t26 c25) t26, own rB 5 (sV A27 t29 c28) t29, G12, G13, G14, G15, G16] → RunsI F15 [.c 26, .lp 26, .blk 2, .c 38, .blk 1, .c 41, .lp 9, .blk 0, .c 42] [(0, sV pA0 p0 pc0), (1, iC t23), (7, sV A24 t26 c25), (8, sV A27 t29 c28), (9, tS t30), (13, iA (if 200 < p2 then 200 else p2)), (14, iA t31), (23, sV A27 t29 c28), (24, iA t32), (25, iA t33)] w R := by
 intro k
 induction k with
 | zero => intro t30 t33 w h hH; exact absurd h (by simp [listing_Rows_15.l0])
 | succ k ih =>
  intro t30 t33 w h hH
  rw [listing_Rows_15.l0.eq_2] at h
  refine Xd 1 27 [.c 28, .lp 26, .blk 2, .c 38, .blk 1, .c 41, .lp 9, .blk 0, .c 42] 1 [(0, sV pA0 p0 pc0), (1, iC t23), (7, sV A24 t26 c25), (8, sV A27 t29 c28), (9, tS t30), (13, iA (if 200 < p2 then 200 else p2)), (14, iA t31), (23, sV A27 t29 c28), (24, iA t32), (25, iA t33), (26, tB (decide (t33 < t32)))] (Xg 1 [.c 29, .c 32, .lp 26, .blk 2, .c 38, .blk 1, .c 41, .lp 9, .blk 0, .c 42] (Vc 26 30 31 h (fun hc34 h => ?_) fun hc34 h => ?_))
  ·refine Xg 1 [.c 32, .lp 26, .blk 2, .c 38, .blk 1, .c 41, .lp 9, .blk 0, .c 42] (Xg 3 [.c 35, .c 36, .blk 3, .c 37, .lp 26, .blk 2, .c 38, .blk 1, .c 41, .lp 9, .blk 0, .c 42] (Xr ?_))
   have ⟨hc35, h⟩ := oz h
   refine Yo (OpE.idxOwnA 27 2 39 5 t33 hH (by kernel_rfl) rfl (by kernel_rfl) (by kernel_rfl) hc35 (Yo (OpE.loadOwnA 28 2 5 5 t33 0 (o := (Int.toNat t33) * 1 + 0) hH (by kernel_rfl) rfl (by kernel_rfl) (by kernel_rfl) hc35 (fun cs36 hk37 => ?_))))
   obtain rfl := hk37
   refine ⟨iB (rdD t29 t33), by kernel_rfl, ?_⟩
   refine Yd 1 [(0, sV pA0 p0 pc0), (1, iC t23), (7, sV A24 t26 c25), (8, sV A27 t29 c28), (9, tS t30), (11, iB (rdD t29 t33)), (13, iA (if 200 < p2 then 200 else p2)), (14, iA t31), (23, sV A27 t29 c28), (24, iA t32), (25, iA t33)] (Xr (Zp 2 [0, 1, 7, 8, 13, 14, 23, 24, 25, 29, 30] [(29, tS t30), (30, iB (rdD t29 t33))] (Yo (OpE.lit 31 5 [iB (rdD t29 t33)] 1 hH (by kernel_rfl) (by kernel_rfl) ?_))))
   intro w38 b39 h40 hb41 hn42
   obtain ⟨t49, hg48, h⟩ := of_bind h
   have h43 := h40.boxOwn 8 rfl rB ([(rdD t29 t33)] : List Int) (cells_int _ _ _ _) (Nat.le_of_ble_eq_true (by kernel_rfl))
   have h44 := h43.release 8 rfl
   refine Yc 32 35 #[.slice (some ⟨b39, 0, none⟩) (([(rdD t29 t33)] : List Int).length) 1] ((listing_digits_35_ok K _ w38  (some ⟨b39, 0, none⟩) 1 ([(rdD t29 t33)] : List Int) h44.old' (h44.get 8 rfl) (h44.get 3 rfl) (h44.get 6 rfl) (h44.get 7 rfl) hg48).mono ?_)
   rintro _ w45 ⟨rfl, hb46⟩
   refine ⟨_, rfl, ?_⟩
   have h47 := h44.call hb46
   have ⟨hc50, h⟩ := oz h
   refine Yt 33 sg0 t49 hc50 ?_
   have ⟨hc51, h⟩ := oz h
   refine Yt 34 t30 (sg0 ++ t49) hc51 (Zp 1 [0, 1, 7, 8, 9, 13, 14, 23, 24, 25] [(9, tS (t30 ++ (sg0 ++ t49)))] (Zy 1 37 [.lp 26, .blk 2, .c 38, .blk 1, .c 41, .lp 9, .blk 0, .c 42] 2 [0, 1, 7, 8, 9, 13, 14, 23, 24, 25] [(25, iA (wA (t33 + 1)))] (Ye (Xg 1 [.c 26, .lp 26, .blk 2, .c 38, .blk 1, .c 41, .lp 9, .blk 0, .c 42] (Vl [(0, sV pA0 p0 pc0), (1, iC t23), (7, sV A24 t26 c25), (8, sV A27 t29 c28), (9, tS (t30 ++ (sg0 ++ t49))), (13, iA (if 200 < p2 then 200 else p2)), (14, iA t31), (23, sV A27 t29 c28), (24, iA t32), (25, iA (wA (t33 + 1)))] ?_)))))
   exact ih (t30 ++ (sg0 ++ t49)) (wA (t33 + 1)) w45 h (h47.pk [0, 1, 2, 3, 4, 5, 6, 7])
  ·refine Xg 1 [.c 38, .blk 1, .c 41, .lp 9, .blk 0, .c 42] (Vl [(0, sV pA0 p0 pc0), (1, iC t23), (7, sV A24 t26 c25), (8, sV A27 t29 c28), (9, tS t30), (13, iA (if 200 < p2 then 200 else p2)), (14, iA t31)] ?_)
   exact hk0 t30 w (sI h).symm (hH.pk [0, 1, 2, 3, 4, 5, 6, 7])
def listing_Rows_15.l1 (K : Nat) (p0 : List (Int × Int)) (p1 : Int) (p2 : Int) : Nat → Int → (List ByteArray) → Int → Option (List ByteArray)
 | 0, _, _, _ => none
 | k + 1, t2, t5, t6 => cond (decide (t6 < (if 200 < p2 then 200 else p2))) ((cells_Dump_39.f K p0 t2 16).bind fun t12 => (text_Hex_37.f K (IntKind.wrap .i64 t2) 4).bind fun t21 => cond (mayCat t21.size (⟨#[58]⟩ : ByteArray).size) ((listing_Rows_15.l0 K p0 p1 p2 t2 t5 t12 t6 (t12.length : Int) K (t21 ++ (⟨#[58]⟩ : ByteArray)) 0).bind (fun t55 => cond (mayCat t55.size (⟨#[32, 32]⟩ : ByteArray).size) ((listing_plain_40.f K t12).bind fun t63 => cond (mayCat (t55 ++ (⟨#[32, 32]⟩ : ByteArray)).size t63.size) (cond (mayBe (t5.length + ([((t55 ++ (⟨#[32, 32]⟩ : ByteArray)) ++ t63)] : List ByteArray).length) 16) (listing_Rows_15.l1 K p0 p1 p2 k (IntKind.wrap .u16 (t2 + 16)) (t5 ++ ([((t55 ++ (⟨#[32, 32]⟩ : ByteArray)) ++ t63)] : List ByteArray)) (IntKind.wrap .i64 (t6 + 1))) none) none) none)) none) (some t5)
theorem listing_Rows_15.l1_ok (K : Nat) (M0 : Nat → Prop) (w0 : World) (pA0 : Option Addr) (pc0 : Nat) (p0 : List (Int × Int)) (p1 : Int) (p2 : Int) (R : Ending → World → Prop) (x : (List ByteArray)) (hk0 : ∀ (t78 : List ByteArray) (A76 : Option Addr) (c77 : Nat) (w1 : World), x = t78 → Holds M0 w0 w1 [own Rp.str 9 (sV A76 t78 c77) t78, G12, G13, G14, G15, G16] → RunsI F15 [.c 42] [(7, sV A76 t78 c77)] w1 R) :
  ∀ (k : Nat) (t2 : Int) (t5 : List ByteArray) (t6 : Int) (A3 : Option Addr) (c4 : Nat) (w : World), listing_Rows_15.l1 K p0 p1 p2 k t2 t5 t6 = some x → Holds M0 w0 w [sl (Rp.pair rC rB) (sV pA0 p0 pc0) p0, own Rp.str 9 (sV A3 t5 c4) t5, G12, G13, G14, G15, G16] → RunsI F15 [.c 9, .lp 9, .blk 0, .c 42] [(0, sV pA0 p0 pc0), (1, iC t2), (7, sV A3 t5 c4), (13, iA (if 200 < p2 then 200 else p2)), (14, iA t6)] w R := by
 intro k
 induction k with
 | zero => intro t2 t5 t6 A3 c4 w h hH; exact absurd h (by simp [listing_Rows_15.l1])
 | succ k ih =>
  intro t2 t5 t6 A3 c4 w h hH
  rw [listing_Rows_15.l1.eq_2] at h
  refine Xd 1 10 [.c 11, .lp 9, .blk 0, .c 42] 1 [(0, sV pA0 p0 pc0), (1, iC t2), (7, sV A3 t5 c4), (13, iA (if 200 < p2 then 200 else p2)), (14, iA t6), (15, tB (decide (t6 < (if 200 < p2 then 200 else p2))))] (Xg 1 [.c 12, .c 15, .lp 9, .blk 0, .c 42] (Vc 15 13 14 h (fun hc7 h => ?_) fun hc7 h => ?_))
  ·refine Xg 1 [.c 15, .lp 9, .blk 0, .c 42] (Xq 3 18 [.c 19, .blk 1, .c 41, .lp 9, .blk 0, .c 42] 2 [(0, sV pA0 p0 pc0), (1, iC t2), (7, sV A3 t5 c4), (13, iA (if 200 < p2 then 200 else p2)), (14, iA t6), (16, sV pA0 p0 pc0), (17, iC t2)] ?_)
   obtain ⟨t12, hg11, h⟩ := of_bind h
   refine Yc 18 39 #[sV pA0 p0 pc0, iC t2, iA 16] ((cells_Dump_39_ok K _ w  pA0 pc0 p0 t2 16 hH.old' (hH.get 0 rfl) hg11).mono ?_)
   rintro _ w8 ⟨A13, c14, rfl, hr16⟩
   refine ⟨_, rfl, ?_⟩
   have hb9 := hr16.below
   have h10 := hH.join hr16
   refine Zp 1 [0, 1, 7, 8, 13, 14] [(8, sV A13 t12 c14)] (Zy 1 20 [.c 21, .blk 1, .c 41, .lp 9, .blk 0, .c 42] 2 [0, 1, 7, 8, 13, 14, 20] [(20, iA (wA t2))] ?_)
   obtain ⟨t21, hg20, h⟩ := of_bind h
   refine Yc 21 37 #[iA (wA t2), iA 4] ((text_Hex_37_ok K _ w8  (wA t2) 4 h10.old' (h10.get 2 rfl) (h10.get 5 rfl) (h10.get 6 rfl) hg20).mono ?_)
   rintro _ w17 ⟨rfl, hb18⟩
   refine ⟨_, rfl, ?_⟩
   have h19 := h10.call hb18
   have ⟨hc22, h⟩ := oz h
   refine Yt 22 t21 sg5 hc22 (Zp 1 [0, 1, 7, 8, 9, 13, 14] [(9, tS (t21 ++ sg5))] (Zy 2 23 [.c 24, .c 38, .blk 1, .c 41, .lp 9, .blk 0, .c 42] 3 [0, 1, 7, 8, 9, 13, 14, 23, 24, 25] [(23, sV A13 t12 c14), (24, iA (t12.length : Int)), (25, iA 0)] (Ye (Xg 2 [.c 26, .lp 26, .blk 2, .c 38, .blk 1, .c 41, .lp 9, .blk 0, .c 42] ?_))))
   obtain ⟨x53, hx54, h⟩ := of_bind h
   refine Vl [(0, sV pA0 p0 pc0), (1, iC t2), (7, sV A3 t5 c4), (8, sV A13 t12 c14), (9, tS (t21 ++ sg5)), (13, iA (if 200 < p2 then 200 else p2)), (14, iA t6), (23, sV A13 t12 c14), (24, iA (t12.length : Int)), (25, iA 0)] (listing_Rows_15.l0_ok K M0 w0 pA0 pc0 p0 p1 p2 t2 t5 t12 t6 (t12.length : Int) A3 c4 A13 c14 _ x53 ?_ K (t21 ++ sg5) 0 w17 hx54 (h19.pk [0, 1, 7, 2, 3, 4, 5, 6]))
   ·intro t55 w57 hq86 h56
    (try rw [hq86] at h)
    refine Xq 1 39 [.c 40, .blk 1, .c 41, .lp 9, .blk 0, .c 42] 2 [(0, sV pA0 p0 pc0), (1, iC t2), (8, sV A13 t12 c14), (13, iA (if 200 < p2 then 200 else p2)), (14, iA t6), (36, sV A3 t5 c4), (37, tS t55)] ?_
    have ⟨hc58, h⟩ := oz h
    refine Yt 38 t55 sg1 hc58 (Zp 1 [0, 1, 13, 14, 36, 38, 39] [(38, tS (t55 ++ sg1)), (39, sV A13 t12 c14)] ?_)
    obtain ⟨t63, hg62, h⟩ := of_bind h
    refine Yc 40 40 #[sV A13 t12 c14] ((listing_plain_40_ok K (fun _ => False) w57  A13 c14 t12 nF (h56.ownSl 2 rfl) (gF (h56.get 4 rfl)) (gF (h56.get 5 rfl)) hg62).mono ?_)
    rintro _ w59 ⟨rfl, hb60⟩
    refine ⟨_, rfl, ?_⟩
    have h61 := h56.call hb60
    have ⟨hc64, h⟩ := oz h
    refine Yt 41 (t55 ++ sg1) t63 hc64 (Yo (OpE.lit 42 9 [tS ((t55 ++ sg1) ++ t63)] 1 h61 (by kernel_rfl) (by kernel_rfl) ?_))
    intro w65 b66 h67 hb68 hn69
    have ⟨hc70, h⟩ := oz h
    refine Yo (OpE.appendBox 43 1 8 34 9 16 ([((t55 ++ sg1) ++ t63)] : List ByteArray) 0 h67 (by kernel_rfl) (by kernel_rfl) (by kernel_rfl) rfl rfl rfl (cells_str _ _ _) hc70 ?_)
    intro w71 A72 c73 h74 hk75
    refine Zd 1 [0, 1, 7, 13, 14] [(7, .slice A72 ((t5 ++ ([((t55 ++ sg1) ++ t63)] : List ByteArray)).length) c73)] (Xr (Zp 3 [0, 1, 7, 13, 14] [(1, iC (wC (t2 + 16)))] (Zy 1 41 [.lp 9, .blk 0, .c 42] 2 [0, 1, 7, 13, 14] [(14, iA (wA (t6 + 1)))] (Ye (Xg 1 [.c 9, .lp 9, .blk 0, .c 42] (Vl [(0, sV pA0 p0 pc0), (1, iC (wC (t2 + 16))), (7, .slice A72 ((t5 ++ ([((t55 ++ sg1) ++ t63)] : List ByteArray)).length) c73), (13, iA (if 200 < p2 then 200 else p2)), (14, iA (wA (t6 + 1)))] ?_))))))
    exact ih (wC (t2 + 16)) (t5 ++ ([((t55 ++ sg1) ++ t63)] : List ByteArray)) (wA (t6 + 1)) A72 c73 w71 h (h74.pk [0, 1, 3, 4, 5, 6, 7])
  ·refine Xg 1 [.c 42] (Vl [(7, sV A3 t5 c4)] ?_)
   exact hk0 t5 A3 c4 w (sI h).symm (hH.pk [1, 2, 3, 4, 5, 6])
def listing_Rows_15.f (K : Nat) (p0 : List (Int × Int)) (p1 : Int) (p2 : Int) : Option (List ByteArray) := (listing_Rows_15.l1 K p0 p1 p2 K p1 ([] : List ByteArray) 0).bind (fun t83 => some t83)
theorem listing_Rows_15_ok (K : Nat) (M0 : Nat → Prop) (w0 : World) (pA0 : Option Addr) (pc0 : Nat) (p0 : List (Int × Int)) (p1 : Int) (p2 : Int) (ho : ∀ b, M0 b → b < w0.heap.size) (hs0 : Sl (Rp.pair rC rB) w0 M0 (sV pA0 p0 pc0) p0) (hG12 : G12.ok w0 M0) (hG13 : G13.ok w0 M0) (hG14 : G14.ok w0 M0) (hG15 : G15.ok w0 M0) (hG16 : G16.ok w0 M0) {r : (List ByteArray)} (h : listing_Rows_15.f K p0 p1 p2 = some r) :
  Calls Tryz.prog 15 #[sV pA0 p0 pc0, iC p1, iA p2] w0 (listing_Rows_15.post M0 w0 r) := by
 unfold listing_Rows_15.f at h
 have h0 : Holds M0 w0 w0 [] := Holds.start ho
 have h00 := h0.aS hs0
 have h0g12 := h00.aG hG12
 have h0g13 := h0g12.aG hG13
 have h0g14 := h0g13.aG hG14
 have h0g15 := h0g14.aG hG15
 have h0g16 := h0g15.aG hG16
 have h0 : Holds M0 w0 w0 [sl (Rp.pair rC rB) (sV pA0 p0 pc0) p0, G12, G13, G14, G15, G16] := h0g16
 refine calls_of F15 rfl [sV pA0 p0 pc0, iC p1, iA p2] (by kernel_rfl) (Xq 1 1 [.c 2] 1 [(0, sV pA0 p0 pc0), (1, iC p1), (2, iA p2)] (Zy 1 3 [.c 4] 1 [0, 1, 2, 7] [(7, n0)] (Zy 2 6 [.c 7, .c 42] 3 [0, 1, 7, 13, 14] [(13, iA (if 200 < p2 then 200 else p2)), (14, iA 0)] (Ye (Xg 2 [.c 9, .lp 9, .blk 0, .c 42] ?_)))))
 obtain ⟨x79, hx80, h⟩ := of_bind h
 have h1 := h0.addOwnNil Rp.str 9
 refine Vl [(0, sV pA0 p0 pc0), (1, iC p1), (7, .slice none (([] : List ByteArray).length) 0), (13, iA (if 200 < p2 then 200 else p2)), (14, iA 0)] (listing_Rows_15.l1_ok K M0 w0 pA0 pc0 p0 p1 p2 _ x79 ?_ K p1 ([] : List ByteArray) 0 none 0 w0 hx80 (h1.pk [0, 6, 1, 2, 3, 4, 5]))
 ·intro t83 A81 c82 w85 hq87 h84
  (try rw [hq87] at h)
  refine Xd 1 43 [.c 44] 2 [(6, sV A81 t83 c82)] (Xt (sV A81 t83 c82) ?_)
  obtain rfl := sI h
  exact ⟨A81, c82, rfl, h84.pk [0]⟩
end

section
abbrev charabancref09_Same_16.post := pB
def charabancref09_Same_16.l0 (K : Nat) (p0 : List ByteArray) (p1 : List ByteArray) : Nat → Int → Option (Lp Unit Unit)
 | 0, _ => none
 | k + 1, t2 => cond (decide (t2 < (p0.length : Int))) (cond (inR t2 p0.length) (cond (inR t2 p1.length) (cond (!((ByteArray.toList (rdD p0 t2)) == (ByteArray.toList (rdD p1 t2)))) (some (Lp.ret ())) (charabancref09_Same_16.l0 K p0 p1 k (IntKind.wrap .i64 (t2 + 1)))) none) none) (some (Lp.go ()))
theorem charabancref09_Same_16.l0_ok (K : Nat) (M0 : Nat → Prop) (w0 : World) (pA0 : Option Addr) (pc0 : Nat) (pA1 : Option Addr) (pc1 : Nat) (p0 : List ByteArray) (p1 : List ByteArray) (R : Ending → World → Prop) (x : Lp Unit Unit) (hk0 : ∀ (w1 : World), x = Lp.go () → Holds M0 w0 w1 [] → RunsI F16 [.c 31] [] w1 R) (hk1 : ∀ (w1 : World), x = Lp.ret () → Holds M0 w0 w1 [] → R (.returned (tB false)) w1) :
  ∀ (k : Nat) (t2 : Int) (w : World), charabancref09_Same_16.l0 K p0 p1 k t2 = some x → Holds M0 w0 w [sl Rp.str (sV pA0 p0 pc0) p0, sl Rp.str (sV pA1 p1 pc1) p1] → RunsI F16 [.c 15, .lp 15, .blk 0, .c 31] [(0, sV pA0 p0 pc0), (1, sV pA1 p1 pc1), (5, iA t2)] w R := by
 intro k
 induction k with
 | zero => intro t2 w h hH; exact absurd h (by simp [charabancref09_Same_16.l0])
 | succ k ih =>
  intro t2 w h hH
  rw [charabancref09_Same_16.l0.eq_2] at h
  refine Xg 1 [.c 16, .c 21, .lp 15, .blk 0, .c 31] (Xd 1 17 [.c 18, .c 21, .lp 15, .blk 0, .c 31] 4 [(0, sV pA0 p0 pc0), (1, sV pA1 p1 pc1), (5, iA t2), (14, tB (decide (t2 < (p0.length : Int))))] (Vc 14 19 20 h (fun hc3 h => ?_) fun hc3 h => ?_))
  ·refine Xg 1 [.c 21, .lp 15, .blk 0, .c 31] (Xg 3 [.c 24, .c 25, .blk 1, .c 30, .lp 15, .blk 0, .c 31] (RunsI.any 9 (by kernel_rfl) (by kernel_rfl) (by kernel_rfl) (Kp ([] : List Nat) (World.drew w)) ?_))
   have h5 := hH.drew
   generalize World.drew w = w4 at h5 ⊢
   have hS6 := Kp.refl ([] : List Nat) w4
   refine Wu 0 17 (sV pA0 p0 pc0) hS6 (Wu 1 18 (iA t2) hS6 ?_)
   have ⟨hc8, h⟩ := oz h
   refine AnyE.idxSl 2 19 0 34 t2 h5 (by kernel_rfl) hS6 rfl (by kernel_rfl) (by kernel_rfl) hc8 ?_
   intro b9 o10 cs11 hk12 h13
   obtain rfl := hk12
   refine AnyE.loadCel 3 20 2 9 b9 o10 0 (tS (rdD p0 t2)) [] h13 rfl (by kernel_rfl) hS6 rfl rfl (by kernel_rfl) (by kernel_rfl) (Wu 4 21 (sV pA1 p1 pc1) hS6 (Wu 5 22 (iA t2) hS6 ?_))
   have ⟨hc14, h⟩ := oz h
   refine AnyE.idxSl 6 23 1 34 t2 h13 (by kernel_rfl) hS6 rfl (by kernel_rfl) (by kernel_rfl) hc14 ?_
   intro b15 o16 cs17 hk18 h19
   obtain rfl := hk18
   refine AnyE.loadCel 7 24 3 9 b15 o16 0 (tS (rdD p1 t2)) [] h19 rfl (by kernel_rfl) hS6 rfl rfl (by kernel_rfl) (by kernel_rfl) (Wu 8 25 (tB (!((ByteArray.toList (rdD p0 t2)) == (ByteArray.toList (rdD p1 t2))))) hS6 (AnyE.done (by kernel_rfl) (fun w20 hu21 => ?_)))
   have h22 := h19.call hu21
   refine Vl [(0, sV pA0 p0 pc0), (1, sV pA1 p1 pc1), (5, iA t2), (25, tB (!((ByteArray.toList (rdD p0 t2)) == (ByteArray.toList (rdD p1 t2)))))] (Vc 25 26 29 h (fun hc23 h => ?_) fun hc23 h => ?_)
   ·refine Xd 1 27 [.c 28, .blk 1, .c 30, .lp 15, .blk 0, .c 31] 1 [(4, tB false)] (Xt (tB false) ?_)
    exact hk1 w20 (sI h).symm (h22.pk [])
   ·refine Xg 1 [.blk 1, .c 30, .lp 15, .blk 0, .c 31] (Xd 1 30 [.lp 15, .blk 0, .c 31] 3 [(0, sV pA0 p0 pc0), (1, sV pA1 p1 pc1), (5, iA (wA (t2 + 1)))] (Xg 1 [.c 15, .lp 15, .blk 0, .c 31] (Vl [(0, sV pA0 p0 pc0), (1, sV pA1 p1 pc1), (5, iA (wA (t2 + 1)))] ?_)))
    exact ih (wA (t2 + 1)) w20 h (h22.pk [0, 1])
  ·refine Xg 1 [.c 31] (Vl [] ?_)
   exact hk0 w (sI h).symm (hH.pk [])
def charabancref09_Same_16.f (K : Nat) (p0 : List ByteArray) (p1 : List ByteArray) : Option Bool := cond ((p0.length : Int) != (p1.length : Int)) (some false) ((charabancref09_Same_16.l0 K p0 p1 K 0).bind (fun x24 => Lp.elim x24 (fun _ => some false) (fun _ => some true)))
theorem charabancref09_Same_16_ok (K : Nat) (M0 : Nat → Prop) (w0 : World) (pA0 : Option Addr) (pc0 : Nat) (pA1 : Option Addr) (pc1 : Nat) (p0 : List ByteArray) (p1 : List ByteArray) (ho : ∀ b, M0 b → b < w0.heap.size) (hs0 : Sl Rp.str w0 M0 (sV pA0 p0 pc0) p0) (hs1 : Sl Rp.str w0 M0 (sV pA1 p1 pc1) p1) {r : Bool} (h : charabancref09_Same_16.f K p0 p1 = some r) :
  Calls Tryz.prog 16 #[sV pA0 p0 pc0, sV pA1 p1 pc1] w0 (charabancref09_Same_16.post M0 w0 r) := by
 unfold charabancref09_Same_16.f at h
 have h0 : Holds M0 w0 w0 [] := Holds.start ho
 have h00 := h0.aS hs0
 have h01 := h00.aS hs1
 have h0 : Holds M0 w0 w0 [sl Rp.str (sV pA0 p0 pc0) p0, sl Rp.str (sV pA1 p1 pc1) p1] := h01
 refine calls_of F16 rfl [sV pA0 p0 pc0, sV pA1 p1 pc1] (by kernel_rfl) (Xq 1 1 [.c 2] 1 [(0, sV pA0 p0 pc0), (1, sV pA1 p1 pc1)] (Zy 2 4 [.c 5, .c 10] 5 [0, 1, 10] [(10, tB ((p0.length : Int) != (p1.length : Int)))] (Ye (Vc 10 6 9 h (fun hc1 h => ?_) fun hc1 h => ?_))))
 ·refine Xd 1 7 [.c 8, .c 10] 1 [(4, tB false)] ?_
  obtain rfl := sI h
  exact Xt (tB false) ⟨rfl, h0.below⟩
 ·refine Xg 1 [.c 10] (Xd 2 12 [.c 13, .c 31] 1 [(0, sV pA0 p0 pc0), (1, sV pA1 p1 pc1), (5, iA 0)] (Xg 2 [.c 15, .lp 15, .blk 0, .c 31] ?_))
  obtain ⟨x24, hx25, h⟩ := of_bind h
  refine Vl [(0, sV pA0 p0 pc0), (1, sV pA1 p1 pc1), (5, iA 0)] (charabancref09_Same_16.l0_ok K M0 w0 pA0 pc0 pA1 pc1 p0 p1 _ x24 ?_ ?_ K 0 w0 hx25 (h0.pk [0, 1]))
  ·intro w27 hq30 h26
   (try rw [hq30] at h)
   dsimp only [Lp.elim] at h
   refine Xd 1 32 [.c 33] 1 [(4, tB true)] ?_
   obtain rfl := sI h
   exact Xt (tB true) ⟨rfl, h26.below⟩
  ·intro w29 hq31 h28
   (try rw [hq31] at h)
   dsimp only [Lp.elim] at h
   obtain rfl := sI h
   exact ⟨rfl, h28.below⟩
end

section
def slices_Concat_uint8_uint8_44.post (M0 : Nat → Prop) (w0 : World) (r : (List Int)) : Ending → World → Prop := fun e w => ∃ (A1 : Option Addr) (c1 : Nat), e = .returned (.slice A1 r.length c1) ∧ Holds M0 w0 w [own (Rp.int .u8) 5 (.slice A1 r.length c1) r]
def slices_Concat_uint8_uint8_44.l0 (K : Nat) (p0 : List (List Int)) : Nat → Int → Int → Option Int
 | 0, _, _ => none
 | k + 1, t1, t2 => cond (decide (t2 < (p0.length : Int))) (cond (inR t2 p0.length) (cond (decide ((IntKind.wrap .i64 (t1 + ((rdD p0 t2).length : Int))) < 0)) (none) (slices_Concat_uint8_uint8_44.l0 K p0 k (IntKind.wrap .i64 (t1 + ((rdD p0 t2).length : Int))) (IntKind.wrap .i64 (t2 + 1)))) none) (some t1)
theorem slices_Concat_uint8_uint8_44.l0_ok (K : Nat) (M0 : Nat → Prop) (w0 : World) (pA0 : Option Addr) (pc0 : Nat) (p0 : List (List Int)) (R : Ending → World → Prop) (x : Int) (hk0 : ∀ (t16 : Int) (w1 : World), x = t16 → Holds M0 w0 w1 [sl (Rp.slice rB) (sV pA0 p0 pc0) p0] → RunsI F44 [.c 27] [(0, sV pA0 p0 pc0), (3, iA t16)] w1 R) :
  ∀ (k : Nat) (t1 : Int) (t2 : Int) (w : World), slices_Concat_uint8_uint8_44.l0 K p0 k t1 t2 = some x → Holds M0 w0 w [sl (Rp.slice rB) (sV pA0 p0 pc0) p0] → RunsI F44 [.c 9, .lp 9, .blk 0, .c 27] [(0, sV pA0 p0 pc0), (3, iA t1), (9, sV pA0 p0 pc0), (10, iA (p0.length : Int)), (11, iA t2)] w R := by
 intro k
 induction k with
 | zero => intro t1 t2 w h hH; exact absurd h (by simp [slices_Concat_uint8_uint8_44.l0])
 | succ k ih =>
  intro t1 t2 w h hH
  rw [slices_Concat_uint8_uint8_44.l0.eq_2] at h
  refine Xd 1 10 [.c 11, .lp 9, .blk 0, .c 27] 1 [(0, sV pA0 p0 pc0), (3, iA t1), (9, sV pA0 p0 pc0), (10, iA (p0.length : Int)), (11, iA t2), (12, tB (decide (t2 < (p0.length : Int))))] (Xg 1 [.c 12, .c 15, .lp 9, .blk 0, .c 27] (Vc 12 13 14 h (fun hc3 h => ?_) fun hc3 h => ?_))
  ·refine Xg 1 [.c 15, .lp 9, .blk 0, .c 27] (Xg 3 [.c 18, .c 19, .blk 1, .c 26, .lp 9, .blk 0, .c 27] (Xr ?_))
   have ⟨hc4, h⟩ := oz h
   refine Yo (OpE.idxSl 13 0 109 t2 hH (by kernel_rfl) rfl (by kernel_rfl) (by kernel_rfl) hc4 ?_)
   intro b5 o6 cs7 hk8 h9
   obtain ⟨_, rfl, hs11⟩ := hk8
   obtain ⟨A12, c13, rfl⟩ := hs11.form
   have h14 := h9.addSl _ _ _ hs11
   refine Yz 14 1 39 b5 o6 0 (.slice A12 ((rdD p0 t2).length) c13) h14 rfl (Yp 1 [(0, sV pA0 p0 pc0), (3, iA t1), (5, .slice A12 ((rdD p0 t2).length) c13), (9, sV pA0 p0 pc0), (10, iA (p0.length : Int)), (11, iA t2)] (Zy 1 20 [.c 21, .blk 1, .c 26, .lp 9, .blk 0, .c 27] 5 [0, 3, 9, 10, 11] [(3, iA (wA (t1 + ((rdD p0 t2).length : Int))))] (Zy 1 22 [.c 23, .blk 1, .c 26, .lp 9, .blk 0, .c 27] 2 [0, 3, 9, 10, 11, 20] [(20, tB (decide ((wA (t1 + ((rdD p0 t2).length : Int))) < 0)))] (Ye (Vc 20 24 25 h (fun hc15 h => ?_) fun hc15 h => ?_)))))
   ·refine Xr ?_
    exact absurd h (by simp)
   ·refine Xg 1 [.blk 1, .c 26, .lp 9, .blk 0, .c 27] (Xd 1 26 [.lp 9, .blk 0, .c 27] 2 [(0, sV pA0 p0 pc0), (3, iA (wA (t1 + ((rdD p0 t2).length : Int)))), (9, sV pA0 p0 pc0), (10, iA (p0.length : Int)), (11, iA (wA (t2 + 1)))] (Xg 1 [.c 9, .lp 9, .blk 0, .c 27] (Vl [(0, sV pA0 p0 pc0), (3, iA (wA (t1 + ((rdD p0 t2).length : Int)))), (9, sV pA0 p0 pc0), (10, iA (p0.length : Int)), (11, iA (wA (t2 + 1)))] ?_)))
    exact ih (wA (t1 + ((rdD p0 t2).length : Int))) (wA (t2 + 1)) w h (h14.pk [0])
  ·refine Xg 1 [.c 27] (Vl [(0, sV pA0 p0 pc0), (3, iA t1)] ?_)
   exact hk0 t1 w (sI h).symm (hH.pk [0])
def slices_Concat_uint8_uint8_44.l1 (K : Nat) (p0 : List (List Int)) : Nat → (List Int) → Int → Option (List Int)
 | 0, _, _ => none
 | k + 1, t45, t46 => cond (decide (t46 < (p0.length : Int))) (cond (inR t46 p0.length) (cond (mayBe (t45.length + (rdD p0 t46).length) 1) (slices_Concat_uint8_uint8_44.l1 K p0 k (t45 ++ (rdD p0 t46)) (IntKind.wrap .i64 (t46 + 1))) none) none) (some t45)
theorem slices_Concat_uint8_uint8_44.l1_ok (K : Nat) (M0 : Nat → Prop) (w0 : World) (pA0 : Option Addr) (pc0 : Nat) (p0 : List (List Int)) (R : Ending → World → Prop) (x : (List Int)) (hk0 : ∀ (t67 : List Int) (A65 : Option Addr) (c66 : Nat) (w1 : World), x = t67 → Holds M0 w0 w1 [own rB 5 (sV A65 t67 c66) t67] → RunsI F44 [.c 46] [(6, sV A65 t67 c66)] w1 R) :
  ∀ (k : Nat) (t45 : List Int) (t46 : Int) (A43 : Option Addr) (c44 : Nat) (w : World), slices_Concat_uint8_uint8_44.l1 K p0 k t45 t46 = some x → Holds M0 w0 w [own rB 5 (sV A43 t45 c44) t45, sl (Rp.slice rB) (sV pA0 p0 pc0) p0] → RunsI F44 [.c 34, .lp 34, .blk 2, .c 46] [(6, sV A43 t45 c44), (25, sV pA0 p0 pc0), (26, iA (p0.length : Int)), (27, iA t46)] w R := by
 intro k
 induction k with
 | zero => intro t45 t46 A43 c44 w h hH; exact absurd h (by simp [slices_Concat_uint8_uint8_44.l1])
 | succ k ih =>
  intro t45 t46 A43 c44 w h hH
  rw [slices_Concat_uint8_uint8_44.l1.eq_2] at h
  refine Xd 1 35 [.c 36, .lp 34, .blk 2, .c 46] 1 [(6, sV A43 t45 c44), (25, sV pA0 p0 pc0), (26, iA (p0.length : Int)), (27, iA t46), (28, tB (decide (t46 < (p0.length : Int))))] (Xg 1 [.c 37, .c 40, .lp 34, .blk 2, .c 46] (Vc 28 38 39 h (fun hc47 h => ?_) fun hc47 h => ?_))
  ·refine Xg 1 [.c 40, .lp 34, .blk 2, .c 46] (Xg 3 [.c 43, .c 44, .blk 3, .c 45, .lp 34, .blk 2, .c 46] (Xr ?_))
   have ⟨hc48, h⟩ := oz h
   refine Yo (OpE.idxSl 29 1 109 t46 hH (by kernel_rfl) rfl (by kernel_rfl) (by kernel_rfl) hc48 ?_)
   intro b49 o50 cs51 hk52 h53
   obtain ⟨_, rfl, hs55⟩ := hk52
   obtain ⟨A56, c57, rfl⟩ := hs55.form
   have h58 := h53.addSl _ _ _ hs55
   refine Yz 30 2 39 b49 o50 0 (.slice A56 ((rdD p0 t46).length) c57) h58 rfl (Yd 1 [(6, sV A43 t45 c44), (8, .slice A56 ((rdD p0 t46).length) c57), (25, sV pA0 p0 pc0), (26, iA (p0.length : Int)), (27, iA t46)] (Xr (Zp 2 [25, 26, 27, 31, 32] [(31, sV A43 t45 c44), (32, .slice A56 ((rdD p0 t46).length) c57)] ?_)))
   have ⟨hc59, h⟩ := oz h
   refine Yo (OpE.appendRow 33 0 39 5 1 (ys := (rdD p0 t46)) h58 (by kernel_rfl) (by kernel_rfl) (by kernel_rfl) rfl (h58.rdSl 3 rfl) hc59 ?_)
   intro w60 A61 c62 h63 hk64
   refine Zp 1 [6, 25, 26, 27] [(6, .slice A61 ((t45 ++ (rdD p0 t46)).length) c62)] (Zy 1 45 [.lp 34, .blk 2, .c 46] 2 [6, 25, 26, 27] [(27, iA (wA (t46 + 1)))] (Ye (Xg 1 [.c 34, .lp 34, .blk 2, .c 46] (Vl [(6, .slice A61 ((t45 ++ (rdD p0 t46)).length) c62), (25, sV pA0 p0 pc0), (26, iA (p0.length : Int)), (27, iA (wA (t46 + 1)))] ?_))))
   exact ih (t45 ++ (rdD p0 t46)) (wA (t46 + 1)) A61 c62 w60 h (h63.pk [0, 1])
  ·refine Xg 1 [.c 46] (Vl [(6, sV A43 t45 c44)] ?_)
   exact hk0 t45 A43 c44 w (sI h).symm (hH.pk [0])
def slices_Concat_uint8_uint8_44.f (K : Nat) (p0 : List (List Int)) : Option (List Int) := (slices_Concat_uint8_uint8_44.l0 K p0 K 0 0).bind (fun t19 => Let (fun (t37 : (List Int)) => (slices_Concat_uint8_uint8_44.l1 K p0 K t37 0).bind (fun t72 => some t72)) (fun j40 => cond (decide (t19 < 0)) (none) (cond (decide ((IntKind.wrap .i64 (t19 - 0)) > 0)) (cond (zerR (IntKind.wrap .i64 (t19 - 0))) (cond (cutR 0 0 (List.replicate (Int.toNat (IntKind.wrap .i64 (t19 - 0))) (0 : Int)).length) (j40 (cutL (List.replicate (Int.toNat (IntKind.wrap .i64 (t19 - 0))) (0 : Int)) 0 0)) none) none) (j40 ([] : List Int)))))
theorem slices_Concat_uint8_uint8_44_ok (K : Nat) (M0 : Nat → Prop) (w0 : World) (pA0 : Option Addr) (pc0 : Nat) (p0 : List (List Int)) (ho : ∀ b, M0 b → b < w0.heap.size) (hs0 : Sl (Rp.slice rB) w0 M0 (sV pA0 p0 pc0) p0) {r : (List Int)} (h : slices_Concat_uint8_uint8_44.f K p0 = some r) :
  Calls Tryz.prog 44 #[sV pA0 p0 pc0] w0 (slices_Concat_uint8_uint8_44.post M0 w0 r) := by
 unfold slices_Concat_uint8_uint8_44.f at h
 have h0 : Holds M0 w0 w0 [] := Holds.start ho
 have h00 := h0.aS hs0
 have h0 : Holds M0 w0 w0 [sl (Rp.slice rB) (sV pA0 p0 pc0) p0] := h00
 refine calls_of F44 rfl [sV pA0 p0 pc0] (by kernel_rfl) (Xq 1 1 [.c 2] 1 [(0, sV pA0 p0 pc0)] (Zy 1 3 [.c 4] 1 [0, 3] [(3, iA 0)] (Zy 2 6 [.c 7, .c 27] 3 [0, 3, 9, 10, 11] [(9, sV pA0 p0 pc0), (10, iA (p0.length : Int)), (11, iA 0)] (Ye (Xg 2 [.c 9, .lp 9, .blk 0, .c 27] ?_)))))
 obtain ⟨x17, hx18, h⟩ := of_bind h
 refine Vl [(0, sV pA0 p0 pc0), (3, iA 0), (9, sV pA0 p0 pc0), (10, iA (p0.length : Int)), (11, iA 0)] (slices_Concat_uint8_uint8_44.l0_ok K M0 w0 pA0 pc0 p0 _ x17 ?_ K 0 0 w0 hx18 (h0.pk [0]))
 ·intro t19 w21 hq75 h20
  (try rw [hq75] at h)
  refine Xq 1 28 [.c 29] 1 [(0, sV pA0 p0 pc0), (23, iA t19)] (RegI.enter 24 [0] [(0, sV pA0 p0 pc0)] (by kernel_rfl) (by kernel_rfl) (by kernel_rfl) (by kernel_rfl) F75 75 rfl [n0, iA t19] (by kernel_rfl) (by kernel_rfl) ?_)
  obtain ⟨j40, hJ41, h⟩ := of_let h
  have hj42 : ∀ (t37 : List Int) (A35 : Option Addr) (c36 : Nat) (w39 : World), j40 t37 = some r → Holds M0 w0 w39 [sl (Rp.slice rB) (sV pA0 p0 pc0) p0, own rB 5 (sV A35 t37 c36) t37] → RegI F44 28 [.c 29] 2 [(0, sV pA0 p0 pc0), (24, sV A35 t37 c36)] w39 (slices_Concat_uint8_uint8_44.post M0 w0 r) := by
   intro t37 A35 c36 w39 h h38
   rw [hJ41] at h
   clear hJ41
   dsimp only at h
   refine Yp 1 [(0, sV pA0 p0 pc0), (6, sV A35 t37 c36)] (Zy 2 31 [.c 32, .c 46] 3 [6, 25, 26, 27] [(25, sV pA0 p0 pc0), (26, iA (p0.length : Int)), (27, iA 0)] (Ye (Xg 2 [.c 34, .lp 34, .blk 2, .c 46] ?_)))
   obtain ⟨x68, hx69, h⟩ := of_bind h
   refine Vl [(6, sV A35 t37 c36), (25, sV pA0 p0 pc0), (26, iA (p0.length : Int)), (27, iA 0)] (slices_Concat_uint8_uint8_44.l1_ok K M0 w0 pA0 pc0 p0 _ x68 ?_ K t37 0 A35 c36 w39 hx69 (h38.pk [1, 0]))
   ·intro t72 A70 c71 w74 hq76 h73
    (try rw [hq76] at h)
    refine Xd 1 47 [.c 48] 2 [(2, sV A70 t72 c71)] (Xt (sV A70 t72 c71) ?_)
    obtain rfl := sI h
    exact ⟨A70, c71, rfl, h73.pk [0]⟩
  clear hJ41
  refine Xq 1 1 [.c 2] 1 [(0, n0), (1, iA t19)] (Zy 2 4 [.c 5, .c 8] 2 [0, 1, 6] [(6, tB (decide (t19 < 0)))] (Ye (Vc 6 6 7 h (fun hc22 h => ?_) fun hc22 h => ?_)))
  ·refine Xr ?_
   exact absurd h (by simp)
  ·refine Xg 1 [.c 8] (Xq 2 10 [.c 11, .c 16] 8 [(0, n0), (1, iA (wA (t19 - 0)))] (Zy 1 12 [.c 13, .c 16] 2 [0, 1, 16] [(16, tB (decide ((wA (t19 - 0)) > 0)))] (Ye (Vc 16 14 15 h (fun hc23 h => ?_) fun hc23 h => ?_))))
   ·refine Xr (Yp 3 [(0, n0), (1, iA (wA (t19 - 0))), (17, n0), (19, iA 0)] (Yo (OpE.run 20 (by kernel_rfl) (run_cutNil (T := 39) (by kernel_rfl) (by kernel_rfl)) (Yp 1 [(0, n0), (20, n0), (21, iA (wA (t19 - 0)))] ?_))))
    have ⟨hc24, h⟩ := oz h
    refine Yo (OpE.appZeros 22 39 3 5 (kq := .i64) (kn := .i64) (x := (wA (t19 - 0))) h20 (by kernel_rfl) (by kernel_rfl) (by kernel_rfl) (by kernel_rfl) (by kernel_rfl) hc24 ?_)
    intro w25 A26 c27 h28 hb29
    refine Yp 2 [(22, .slice A26 ((List.replicate (Int.toNat (wA (t19 - 0))) (0 : Int)).length) c27), (24, iA 0)] ?_
    have ⟨hc30, h⟩ := oz h
    refine Yo (OpE.cutOwn 25 1 39 5 (some 0) h28 (by kernel_rfl) rfl (by kernel_rfl) (by kernel_rfl) hc30 ?_)
    intro A31 c32 h33
    refine Yp 1 [(0, .slice A31 ((cutL (List.replicate (Int.toNat (wA (t19 - 0))) (0 : Int)) 0 0).length) c32)] (Yq 1 17 [.c 18] 2 [(4, .slice A31 ((cutL (List.replicate (Int.toNat (wA (t19 - 0))) (0 : Int)) 0 0).length) c32)] (Ye (Xt (.slice A31 ((cutL (List.replicate (Int.toNat (wA (t19 - 0))) (0 : Int)) 0 0).length) c32) (cont_mk (Ul [(0, sV pA0 p0 pc0), (24, .slice A31 ((cutL (List.replicate (Int.toNat (wA (t19 - 0))) (0 : Int)) 0 0).length) c32)] ?_)))))
    exact hj42 (cutL (List.replicate (Int.toNat (wA (t19 - 0))) (0 : Int)) 0 0) A31 c32 w25 h (h33.pk [0, 1])
   ·refine Xg 1 [.c 16] (Xd 1 17 [.c 18] 2 [(4, n0)] (Xt (n0) (cont_mk ?_)))
    have h34 := h20.addOwnNil rB 5
    refine Ul [(0, sV pA0 p0 pc0), (24, .slice none (([] : List Int).length) 0)] ?_
    exact hj42 ([] : List Int) none 0 w21 h (h34.pk [0, 1])
end

section
abbrev strings_Index_45.post := pI
def strings_Index_45.f (K : Nat) (p0 : ByteArray) (p1 : ByteArray) : Option Int := cond (Nat.blt p0.size 4294967281) (some (Lib.index p0.data.toList p1.data.toList)) none
theorem strings_Index_45_ok (K : Nat) (M0 : Nat → Prop) (w0 : World) (p0 : ByteArray) (p1 : ByteArray) (ho : ∀ b, M0 b → b < w0.heap.size) (hG0 : (cel 0 0 [iA mx0]).ok w0 M0) {r : Int} (h : strings_Index_45.f K p0 p1 = some r) : Calls Tryz.prog 45 #[tS p0, tS p1] w0 (strings_Index_45.post M0 w0 r) := by
 obtain ⟨hc, h⟩ := oz h
 obtain rfl := sI h
 refine (Tryz.strings_Index p0 p1 mx0 w0 (by simpa [Nat.blt_eq] using hc) (hG0.2.2 0 _ rfl)).mono ?_
 rintro e w' ⟨rfl, rfl⟩
 exact ⟨rfl, Below.refl _ _⟩
end

section
def listing_Find_20.post (M0 : Nat → Prop) (w0 : World) (r : Int × Bool) : Ending → World → Prop := fun e w => e = .returned (.tuple #[.int .u16 r.1, .bool r.2]) ∧ Below w0.heap.size w0 w
def listing_Find_20.l0 (K : Nat) (p0 : List (Int × Int)) (p1 : Int) (p2 : List Int) : Nat → (List Int) → Int → Option (List Int)
 | 0, _, _ => none
 | k + 1, t10, t11 => cond (decide (t11 < (p0.length : Int))) (cond (inR t11 p0.length) (cond (inR ((rdD p0 t11).1) t10.length) (listing_Find_20.l0 K p0 p1 p2 k (stD t10 ((rdD p0 t11).1) (rdD p0 t11).2) (IntKind.wrap .i64 (t11 + 1))) none) none) (some t10)
theorem listing_Find_20.l0_ok (K : Nat) (M0 : Nat → Prop) (w0 : World) (pA0 : Option Addr) (pc0 : Nat) (pA2 : Option Addr) (pc2 : Nat) (p0 : List (Int × Int)) (p1 : Int) (p2 : List Int) (A8 : Option Addr) (c9 : Nat) (R : Ending → World → Prop) (x : (List Int)) (hk0 : ∀ (t32 : List Int) (w1 : World), x = t32 → Holds M0 w0 w1 [sl rB (sV pA2 p2 pc2) p2, own rB 5 (sV A8 t32 c9) t32, cel 0 0 [iA mx0]] → RunsI F20 [.c 29] [(1, iC p1), (2, sV pA2 p2 pc2), (8, sV A8 t32 c9)] w1 R) :
  ∀ (k : Nat) (t10 : List Int) (t11 : Int) (w : World), listing_Find_20.l0 K p0 p1 p2 k t10 t11 = some x → Holds M0 w0 w [sl rB (sV pA2 p2 pc2) p2, own rB 5 (sV A8 t10 c9) t10, sl (Rp.pair rC rB) (sV pA0 p0 pc0) p0, cel 0 0 [iA mx0]] → RunsI F20 [.c 17, .lp 17, .blk 0, .c 29] [(1, iC p1), (2, sV pA2 p2 pc2), (8, sV A8 t10 c9), (17, sV pA0 p0 pc0), (18, iA (p0.length : Int)), (19, iA t11)] w R := by
 intro k
 induction k with
 | zero => intro t10 t11 w h hH; exact absurd h (by simp [listing_Find_20.l0])
 | succ k ih =>
  intro t10 t11 w h hH
  rw [listing_Find_20.l0.eq_2] at h
  refine Xd 1 18 [.c 19, .lp 17, .blk 0, .c 29] 1 [(1, iC p1), (2, sV pA2 p2 pc2), (8, sV A8 t10 c9), (17, sV pA0 p0 pc0), (18, iA (p0.length : Int)), (19, iA t11), (20, tB (decide (t11 < (p0.length : Int))))] (Xg 1 [.c 20, .c 23, .lp 17, .blk 0, .c 29] (Vc 20 21 22 h (fun hc12 h => ?_) fun hc12 h => ?_))
  ·refine Xg 1 [.c 23, .lp 17, .blk 0, .c 29] (Xg 3 [.c 26, .c 27, .blk 1, .c 28, .lp 17, .blk 0, .c 29] (Xr ?_))
   have ⟨hc13, h⟩ := oz h
   refine Yo (OpE.idxSl 21 2 22 t11 hH (by kernel_rfl) rfl (by kernel_rfl) (by kernel_rfl) hc13 ?_)
   intro b14 o15 cs16 hk17 h18
   obtain ⟨_, _, rfl, rfl, rfl⟩ := hk17
   refine Yz 22 4 69 b14 o15 0 (.agg #[iC ((rdD p0 t11).1), iB ((rdD p0 t11).2)]) h18 rfl (Yx 10 69 [iC 0, iB 0] h18 ?_)
   intro w19 b20 h21 hb22 hn23
   refine Yb 5 69 b20 0 (.agg #[iC ((rdD p0 t11).1), iB ((rdD p0 t11).2)]) [iC ((rdD p0 t11).1), iB ((rdD p0 t11).2)] h21 rfl ?_
   intro w24 h25 hk26
   refine Ye (Xr (Yp 2 [(1, iC p1), (2, sV pA2 p2 pc2), (8, sV A8 t10 c9), (10, pt b20), (17, sV pA0 p0 pc0), (18, iA (p0.length : Int)), (19, iA t11), (23, sV A8 t10 c9), (24, pt b20)] (Ya 25 5 23 b20 0 (iC ((rdD p0 t11).1)) h25 rfl (Zp 1 [1, 2, 8, 17, 18, 19, 23, 25, 26] [(25, iC ((rdD p0 t11).1)), (26, pu b20 1)] (Ya 27 5 5 b20 1 (iB ((rdD p0 t11).2)) h25 rfl ?_)))))
   have ⟨hc27, h⟩ := oz h
   refine Yo (OpE.idxOwnA 28 1 39 5 ((rdD p0 t11).1) h25 (by kernel_rfl) rfl (by kernel_rfl) (by kernel_rfl) hc27 (Yo (OpE.storeOwnA 1 5 5 ((rdD p0 t11).1) 0 (iB ((rdD p0 t11).2)) (o := (Int.toNat ((rdD p0 t11).1)) * 1 + 0) (rdD p0 t11).2 h25 (by kernel_rfl) (by kernel_rfl) rfl (by kernel_rfl) (by kernel_rfl) (by kernel_rfl) hc27 (fun _ hk => by obtain rfl := hk; exact rfl) ?_)))
   intro w28 h29 hk30
   refine Zy 1 28 [.lp 17, .blk 0, .c 29] 2 [1, 2, 8, 17, 18, 19] [(1, iC p1), (19, iA (wA (t11 + 1)))] (Ye (Xg 1 [.c 17, .lp 17, .blk 0, .c 29] (Vl [(1, iC p1), (2, sV pA2 p2 pc2), (8, sV A8 t10 c9), (17, sV pA0 p0 pc0), (18, iA (p0.length : Int)), (19, iA (wA (t11 + 1)))] ?_)))
   have h31 : Holds M0 w0 w28 [sl rB (sV pA2 p2 pc2) p2, own rB 5 (.slice A8 ((stD t10 ((rdD p0 t11).1) (rdD p0 t11).2).length) c9) (stD t10 ((rdD p0 t11).1) (rdD p0 t11).2), sl (Rp.pair rC rB) (sV pA0 p0 pc0) p0, cel 0 0 [iA mx0], cel b14 o15 [iC ((rdD p0 t11).1), iB ((rdD p0 t11).2)], box b20 69 [iC ((rdD p0 t11).1), iB ((rdD p0 t11).2)]] := by have hY : Holds M0 w0 w28 [sl rB (sV pA2 p2 pc2) p2, own rB 5 (sV A8 t10 c9) (stD t10 ((rdD p0 t11).1) (rdD p0 t11).2), sl (Rp.pair rC rB) (sV pA0 p0 pc0) p0, cel 0 0 [iA mx0], cel b14 o15 [iC ((rdD p0 t11).1), iB ((rdD p0 t11).2)], box b20 69 [iC ((rdD p0 t11).1), iB ((rdD p0 t11).2)]] := h29; simpa only [sV, stD_length] using hY
   refine RunsI.is [(1, iC p1), (2, sV pA2 p2 pc2), (8, .slice A8 ((stD t10 ((rdD p0 t11).1) (rdD p0 t11).2).length) c9), (17, sV pA0 p0 pc0), (18, iA (p0.length : Int)), (19, iA (wA (t11 + 1)))] (by simp only [sV, stD_length]) (Vl [(1, iC p1), (2, sV pA2 p2 pc2), (8, .slice A8 ((stD t10 ((rdD p0 t11).1) (rdD p0 t11).2).length) c9), (17, sV pA0 p0 pc0), (18, iA (p0.length : Int)), (19, iA (wA (t11 + 1)))] ?_)
   exact ih (stD t10 ((rdD p0 t11).1) (rdD p0 t11).2) (wA (t11 + 1)) w28 h (h31.pk [0, 1, 2, 3])
  ·refine Xg 1 [.c 29] (Vl [(1, iC p1), (2, sV pA2 p2 pc2), (8, sV A8 t10 c9)] ?_)
   exact hk0 t10 w (sI h).symm (hH.pk [0, 1, 3])
def listing_Find_20.f (K : Nat) (p0 : List (Int × Int)) (p1 : Int) (p2 : List Int) : Option (Int × Bool) := cond (decide ((p2.length : Int) > 64)) (some (0, false)) (cond (makeR 65536 1) ((listing_Find_20.l0 K p0 p1 p2 K (List.replicate (Int.toNat 65536) (0 : Int)) 0).bind (fun t35 => cond (cutR p1 (t35.length : Int) t35.length) (cond (cutR 0 64 t35.length) ((slices_Concat_uint8_uint8_44.f K ([(cutL t35 p1 (t35.length : Int)), t35, (cutL t35 0 64)] : List (List Int))).bind fun t72 => cond (cutR 0 (IntKind.wrap .i64 (65536 + (if (IntKind.wrap .i64 ((p2.length : Int) - 1)) > 0 then (IntKind.wrap .i64 ((p2.length : Int) - 1)) else 0))) t72.length) ((strings_Index_45.f K (strOf (cutL t72 0 (IntKind.wrap .i64 (65536 + (if (IntKind.wrap .i64 ((p2.length : Int) - 1)) > 0 then (IntKind.wrap .i64 ((p2.length : Int) - 1)) else 0))))) (strOf p2)).bind fun t91 => cond (decide (t91 < 0)) (some (0, false)) (some ((IntKind.wrap .u16 (p1 + (IntKind.wrap .u16 t91))), true))) none) none) none)) none)
theorem listing_Find_20_ok (K : Nat) (M0 : Nat → Prop) (w0 : World) (pA0 : Option Addr) (pc0 : Nat) (pA2 : Option Addr) (pc2 : Nat) (p0 : List (Int × Int)) (p1 : Int) (p2 : List Int) (ho : ∀ b, M0 b → b < w0.heap.size) (hs0 : Sl (Rp.pair rC rB) w0 M0 (sV pA0 p0 pc0) p0) (hs2 : Sl rB w0 M0 (sV pA2 p2 pc2) p2) (hG0 : (cel 0 0 [iA mx0]).ok w0 M0) {r : Int × Bool} (h : listing_Find_20.f K p0 p1 p2 = some r) :
  Calls Tryz.prog 20 #[sV pA0 p0 pc0, iC p1, sV pA2 p2 pc2] w0 (listing_Find_20.post M0 w0 r) := by
 unfold listing_Find_20.f at h
 have h0 : Holds M0 w0 w0 [] := Holds.start ho
 have h00 := h0.aS hs0
 have h02 := h00.aS hs2
 have h0g0 := h02.add (cel 0 0 [iA mx0]) rfl ⟨hG0.1, fun hm => hG0.2.1 (hm.elim id (fun hm => absurd hm (by simp [mines, sl, gl, cel]))), hG0.2.2⟩
 have h0 : Holds M0 w0 w0 [sl (Rp.pair rC rB) (sV pA0 p0 pc0) p0, sl rB (sV pA2 p2 pc2) p2, cel 0 0 [iA mx0]] := h0g0
 refine calls_of F20 rfl [sV pA0 p0 pc0, iC p1, sV pA2 p2 pc2] (by kernel_rfl) (Xq 1 1 [.c 2] 2 [(0, sV pA0 p0 pc0), (1, iC p1), (2, sV pA2 p2 pc2)] (Zy 2 4 [.c 5, .c 10] 3 [0, 1, 2, 15] [(15, tB (decide ((p2.length : Int) > 64)))] (Ye (Vc 15 6 9 h (fun hc1 h => ?_) fun hc1 h => ?_))))
 ·refine Xd 1 7 [.c 8, .c 10] 2 [(6, iC 0), (7, tB false)] ?_
  obtain rfl := sI h
  exact Xt (.tuple #[iC 0, tB false]) ⟨rfl, h0.below⟩
 ·refine Xg 1 [.c 10] (Xg 1 [.c 11, .c 12] (Xr ?_))
  have ⟨hc2, h⟩ := oz h
  refine Yo (OpE.makeAll 16 39 5 1 [iB 0] (k := .i64) (k' := .i64) (x := 65536) rB 0 h0 (by kernel_rfl) (by kernel_rfl) (by kernel_rfl) (by kernel_rfl) hc2 (fun _ _ => rfl) ?_)
  intro w3 A4 c5 h6 hb7
  refine Yp 1 [(0, sV pA0 p0 pc0), (1, iC p1), (2, sV pA2 p2 pc2), (8, .slice A4 ((List.replicate (Int.toNat 65536) (0 : Int)).length) c5)] (Zy 2 14 [.c 15, .c 29] 3 [1, 2, 8, 17, 18, 19] [(17, sV pA0 p0 pc0), (18, iA (p0.length : Int)), (19, iA 0)] (Ye (Xg 2 [.c 17, .lp 17, .blk 0, .c 29] ?_)))
  obtain ⟨x33, hx34, h⟩ := of_bind h
  refine Vl [(1, iC p1), (2, sV pA2 p2 pc2), (8, .slice A4 ((List.replicate (Int.toNat 65536) (0 : Int)).length) c5), (17, sV pA0 p0 pc0), (18, iA (p0.length : Int)), (19, iA 0)] (listing_Find_20.l0_ok K M0 w0 pA0 pc0 pA2 pc2 p0 p1 p2 A4 c5 _ x33 ?_ K (List.replicate (Int.toNat 65536) (0 : Int)) 0 w3 hx34 (h6.pk [1, 3, 0, 2]))
  ·intro t35 w37 hq96 h36
   (try rw [hq96] at h)
   refine Xg 1 [.c 30, .c 31] ?_
   have h38 := h36.release 1 rfl
   refine RunsI.any 9 (by kernel_rfl) (by kernel_rfl) (by kernel_rfl) (Kp ([] : List Nat) (World.drew w37)) ?_
   have h40 := h38.drew
   generalize World.drew w37 = w39 at h40 ⊢
   have hS41 := Kp.refl ([] : List Nat) w39
   refine Wu 0 30 (sV A4 t35 c5) hS41 (Wu 1 31 (iC p1) hS41 ?_)
   have ⟨hc43, h⟩ := oz h
   refine AnyE.cutSl 2 32 1 39 (some p1) none h40 (by kernel_rfl) hS41 rfl (by kernel_rfl) (by kernel_rfl) hc43 ?_
   intro A44 c45 h46
   refine Wu 3 33 (sV A4 t35 c5) hS41 (Wu 4 34 (sV A4 t35 c5) hS41 ?_)
   have ⟨hc47, h⟩ := oz h
   refine AnyE.cutSl 5 35 1 39 none (some 64) h46 (by kernel_rfl) hS41 rfl (by kernel_rfl) (by kernel_rfl) hc47 ?_
   intro A48 c49 h50
   refine AnyE.one 6 (by kernel_rfl) (fun w51 hu52 => ?_)
   have h53 := h50.call hu52
   have hS54 := hS41.up hu52
   refine OpE.lit 36 39 [.slice A44 ((cutL t35 p1 (t35.length : Int)).length) c45, sV A4 t35 c5, .slice A48 ((cutL t35 0 64).length) c49] 3 h53 (by kernel_rfl) (by kernel_rfl) ?_
   intro w55 b56 h57 hb58 hn59
   have hn60 := Nat.le_trans hS54.1 hn59
   have hS61 := hS54.up hb58
   refine ⟨hS61, ?_⟩
   refine AnyE.one 7 (by kernel_rfl) (fun w62 hu63 => ?_)
   have h64 := h57.call hu63
   have hS65 := hS61.up hu63
   obtain ⟨t72, hg71, h⟩ := of_bind h
   have h66 := h64.boxOwn 5 rfl (Rp.slice rB) ([(cutL t35 p1 (t35.length : Int)), t35, (cutL t35 0 64)] : List (List Int)) (⟨[_], _, rfl, ⟨_, rfl, h64.get 3 rfl⟩, ⟨[_], _, rfl, ⟨_, rfl, h64.get 1 rfl⟩, ⟨[_], _, rfl, ⟨_, rfl, h64.get 4 rfl⟩, rfl⟩⟩⟩) (Nat.le_of_ble_eq_true (by kernel_rfl))
   have h67 := h66.release 5 rfl
   refine OpE.call 37 (by kernel_rfl) 44 #[.slice (some ⟨b56, 0, none⟩) (([(cutL t35 p1 (t35.length : Int)), t35, (cutL t35 0 64)] : List (List Int)).length) 3] (by kernel_rfl) ((slices_Concat_uint8_uint8_44_ok K _ w62  (some ⟨b56, 0, none⟩) 3 ([(cutL t35 p1 (t35.length : Int)), t35, (cutL t35 0 64)] : List (List Int)) h67.old' (h67.get 5 rfl) hg71).mono ?_)
   rintro _ w68 ⟨A73, c74, rfl, hr76⟩
   refine ⟨_, rfl, ?_⟩
   have hb69 := hr76.below
   have h70 := h67.join hr76
   have hS77 := hS65.up hb69
   refine ⟨hS77, ?_⟩
   refine Wu 8 11 (sV A73 t72 c74) hS77 (AnyE.done (by kernel_rfl) (fun w78 hu79 => ?_))
   have h80 := h70.call hu79
   refine Vl [(1, iC p1), (2, sV pA2 p2 pc2), (11, sV A73 t72 c74)] (Xg 1 [.c 32, .c 33] ?_)
   have h81 := h80.release 6 rfl
   refine RunsI.any 12 (by kernel_rfl) (by kernel_rfl) (by kernel_rfl) (Kp ([] : List Nat) (World.drew w78)) ?_
   have h83 := h81.drew
   generalize World.drew w78 = w82 at h83 ⊢
   have hS84 := Kp.refl ([] : List Nat) w82
   refine Wu 0 38 (sV A73 t72 c74) hS84 (Wu 1 39 (sV pA2 p2 pc2) hS84 (Wu 2 40 (iA (p2.length : Int)) hS84 (Wu 3 41 (iA (wA ((p2.length : Int) - 1))) hS84 (Wu 4 42 (iA (if (wA ((p2.length : Int) - 1)) > 0 then (wA ((p2.length : Int) - 1)) else 0)) hS84 (Wu 5 43 (iA (wA (65536 + (if (wA ((p2.length : Int) - 1)) > 0 then (wA ((p2.length : Int) - 1)) else 0)))) hS84 ?_)))))
   have ⟨hc86, h⟩ := oz h
   refine AnyE.cutSl 6 44 6 39 none (some (wA (65536 + (if (wA ((p2.length : Int) - 1)) > 0 then (wA ((p2.length : Int) - 1)) else 0)))) h83 (by kernel_rfl) hS84 rfl (by kernel_rfl) (by kernel_rfl) hc86 ?_
   intro A87 c88 h89
   refine AnyE.run 7 45 (tS (strOf (cutL t72 0 (wA (65536 + (if (wA ((p2.length : Int) - 1)) > 0 then (wA ((p2.length : Int) - 1)) else 0)))))) (by kernel_rfl) hS84 (fun _ hk => run_toStr (s := 39) (d := 9) (v := .slice A87 ((cutL t72 0 (wA (65536 + (if (wA ((p2.length : Int) - 1)) > 0 then (wA ((p2.length : Int) - 1)) else 0)))).length) c88) (by kernel_rfl) (by kernel_rfl) (h89.rdSlI [] rfl hk 7 rfl rfl)) (Wu 8 46 (sV pA2 p2 pc2) hS84 (AnyE.run 9 47 (tS (strOf p2)) (by kernel_rfl) hS84 (fun _ hk => run_toStr (s := 39) (d := 9) (v := sV pA2 p2 pc2) (by kernel_rfl) (by kernel_rfl) (h89.rdSlI [] rfl hk 0 rfl rfl)) ?_))
   obtain ⟨t91, hg90, h⟩ := of_bind h
   refine Wc 10 48 (iA t91) 45 #[tS (strOf (cutL t72 0 (wA (65536 + (if (wA ((p2.length : Int) - 1)) > 0 then (wA ((p2.length : Int) - 1)) else 0))))), tS (strOf p2)] hS84 (fun w hk => strings_Index_45_ok K (fun _ => False) w (strOf (cutL t72 0 (wA (65536 + (if (wA ((p2.length : Int) - 1)) > 0 then (wA ((p2.length : Int) - 1)) else 0))))) (strOf p2) nF ⟨(h89.atI [] rfl hk 2 rfl rfl).1, fun hf => hf.elim, (h89.atI [] rfl hk 2 rfl rfl).2.2⟩ hg90) (Wu 11 12 (iA t91) hS84 (AnyE.done (by kernel_rfl) (fun w92 hu93 => ?_)))
   have h94 := h89.call hu93
   refine Vl [(1, iC p1), (12, iA t91)] (Ze 2 35 [.c 36, .c 41] 2 [1, 12, 50] [(50, tB (decide (t91 < 0)))] (Vc 50 37 40 h (fun hc95 h => ?_) fun hc95 h => ?_))
   ·refine Xd 1 38 [.c 39, .c 41] 2 [(6, iC 0), (7, tB false)] ?_
    obtain rfl := sI h
    exact Xt (.tuple #[iC 0, tB false]) ⟨rfl, h94.below⟩
   ·refine Xg 1 [.c 41] (Xd 1 42 [.c 43] 6 [(6, iC (wC (p1 + (wC t91)))), (7, tB true)] ?_)
    obtain rfl := sI h
    exact Xt (.tuple #[iC (wC (p1 + (wC t91))), tB true]) ⟨rfl, h94.below⟩
end

section
def charabancref14_Get_47.post (M0 : Nat → Prop) (w0 : World) (r : Int) : Ending → World → Prop := fun e w => e = .returned (.int .u8 r) ∧ Below w0.heap.size w0 w
def charabancref14_Get_47.l0 (K : Nat) (p0 : List (Int × Int)) (p1 : Int) : Nat → Int → Int → Option Int
 | 0, _, _ => none
 | k + 1, t1, t2 => cond (decide (t2 < (p0.length : Int))) (cond (inR t2 p0.length) (cond (((rdD p0 t2).1) == p1) (charabancref14_Get_47.l0 K p0 p1 k ((rdD p0 t2).2) (IntKind.wrap .i64 (t2 + 1))) (charabancref14_Get_47.l0 K p0 p1 k t1 (IntKind.wrap .i64 (t2 + 1)))) none) (some t1)
theorem charabancref14_Get_47.l0_ok (K : Nat) (M0 : Nat → Prop) (w0 : World) (pA0 : Option Addr) (pc0 : Nat) (p0 : List (Int × Int)) (p1 : Int) (R : Ending → World → Prop) (x : Int) (hk0 : ∀ (t16 : Int) (w1 : World), x = t16 → Holds M0 w0 w1 [] → RunsI F47 [.c 23] [(5, iB t16)] w1 R) :
  ∀ (k : Nat) (t1 : Int) (t2 : Int) (w : World), charabancref14_Get_47.l0 K p0 p1 k t1 t2 = some x → Holds M0 w0 w [sl (Rp.pair rC rB) (sV pA0 p0 pc0) p0] → RunsI F47 [.c 9, .lp 9, .blk 0, .c 23] [(0, sV pA0 p0 pc0), (1, iC p1), (5, iB t1), (6, iA t2)] w R := by
 intro k
 induction k with
 | zero => intro t1 t2 w h hH; exact absurd h (by simp [charabancref14_Get_47.l0])
 | succ k ih =>
  intro t1 t2 w h hH
  rw [charabancref14_Get_47.l0.eq_2] at h
  refine Xg 1 [.c 10, .c 15, .lp 9, .blk 0, .c 23] (Xd 1 11 [.c 12, .c 15, .lp 9, .blk 0, .c 23] 4 [(0, sV pA0 p0 pc0), (1, iC p1), (5, iB t1), (6, iA t2), (10, tB (decide (t2 < (p0.length : Int))))] (Vc 10 13 14 h (fun hc3 h => ?_) fun hc3 h => ?_))
  ·refine Xg 1 [.c 15, .lp 9, .blk 0, .c 23] (Xq 3 18 [.c 19, .blk 1, .c 22, .lp 9, .blk 0, .c 23] 2 [(0, sV pA0 p0 pc0), (1, iC p1), (5, iB t1), (6, iA t2), (13, sV pA0 p0 pc0), (14, iA t2)] ?_)
   have ⟨hc4, h⟩ := oz h
   refine Yo (OpE.idxSl 15 0 22 t2 hH (by kernel_rfl) rfl (by kernel_rfl) (by kernel_rfl) hc4 ?_)
   intro b5 o6 cs7 hk8 h9
   obtain ⟨_, _, rfl, rfl, rfl⟩ := hk8
   refine Zp 1 [0, 1, 5, 6, 16] [(16, pu b5 o6)] (Yz 17 1 23 b5 o6 0 (iC ((rdD p0 t2).1)) h9 rfl (Zd 2 [0, 1, 5, 6, 19] [(19, tB (((rdD p0 t2).1) == p1))] (Vc 19 20 21 h (fun hc10 h => ?_) fun hc10 h => ?_)))
   ·refine Xr (Yp 2 [(0, sV pA0 p0 pc0), (1, iC p1), (6, iA t2), (20, sV pA0 p0 pc0), (21, iA t2)] (Yo (OpE.idxSl 22 0 22 t2 h9 (by kernel_rfl) rfl (by kernel_rfl) (by kernel_rfl) hc4 ?_)))
    intro b11 o12 cs13 hk14 h15
    obtain ⟨_, _, rfl, rfl, rfl⟩ := hk14
    refine Zp 1 [0, 1, 6, 23] [(23, .pointer (some ⟨b11, o12 + 1, none⟩))] (Yz 24 2 5 b11 o12 1 (iB ((rdD p0 t2).2)) h15 rfl (Zp 1 [0, 1, 5, 6] [(5, iB ((rdD p0 t2).2))] (Zy 1 22 [.lp 9, .blk 0, .c 23] 3 [0, 1, 5, 6] [(6, iA (wA (t2 + 1)))] (Ye (Xg 1 [.c 9, .lp 9, .blk 0, .c 23] (Vl [(0, sV pA0 p0 pc0), (1, iC p1), (5, iB ((rdD p0 t2).2)), (6, iA (wA (t2 + 1)))] ?_))))))
    exact ih ((rdD p0 t2).2) (wA (t2 + 1)) w h (h15.pk [0])
   ·refine Xg 1 [.blk 1, .c 22, .lp 9, .blk 0, .c 23] (Xd 1 22 [.lp 9, .blk 0, .c 23] 3 [(0, sV pA0 p0 pc0), (1, iC p1), (5, iB t1), (6, iA (wA (t2 + 1)))] (Xg 1 [.c 9, .lp 9, .blk 0, .c 23] (Vl [(0, sV pA0 p0 pc0), (1, iC p1), (5, iB t1), (6, iA (wA (t2 + 1)))] ?_)))
    exact ih t1 (wA (t2 + 1)) w h (h9.pk [0])
  ·refine Xg 1 [.c 23] (Vl [(5, iB t1)] ?_)
   exact hk0 t1 w (sI h).symm (hH.pk [])
def charabancref14_Get_47.f (K : Nat) (p0 : List (Int × Int)) (p1 : Int) : Option Int := (charabancref14_Get_47.l0 K p0 p1 K 0 0).bind (fun t19 => some t19)
theorem charabancref14_Get_47_ok (K : Nat) (M0 : Nat → Prop) (w0 : World) (pA0 : Option Addr) (pc0 : Nat) (p0 : List (Int × Int)) (p1 : Int) (ho : ∀ b, M0 b → b < w0.heap.size) (hs0 : Sl (Rp.pair rC rB) w0 M0 (sV pA0 p0 pc0) p0) {r : Int} (h : charabancref14_Get_47.f K p0 p1 = some r) :
  Calls Tryz.prog 47 #[sV pA0 p0 pc0, iC p1] w0 (charabancref14_Get_47.post M0 w0 r) := by
 unfold charabancref14_Get_47.f at h
 have h0 : Holds M0 w0 w0 [] := Holds.start ho
 have h00 := h0.aS hs0
 have h0 : Holds M0 w0 w0 [sl (Rp.pair rC rB) (sV pA0 p0 pc0) p0] := h00
 refine calls_of F47 rfl [sV pA0 p0 pc0, iC p1] (by kernel_rfl) (Xq 1 1 [.c 2] 1 [(0, sV pA0 p0 pc0), (1, iC p1)] (Zy 1 3 [.c 4] 1 [0, 1, 5] [(5, iB 0)] (Zy 2 6 [.c 7, .c 23] 1 [0, 1, 5, 6] [(6, iA 0)] (Ye (Xg 2 [.c 9, .lp 9, .blk 0, .c 23] ?_)))))
 obtain ⟨x17, hx18, h⟩ := of_bind h
 refine Vl [(0, sV pA0 p0 pc0), (1, iC p1), (5, iB 0), (6, iA 0)] (charabancref14_Get_47.l0_ok K M0 w0 pA0 pc0 p0 p1 _ x17 ?_ K 0 0 w0 hx18 (h0.pk [0]))
 ·intro t19 w21 hq22 h20
  (try rw [hq22] at h)
  refine Xd 1 24 [.c 25] 2 [(4, iB t19)] ?_
  obtain rfl := sI h
  exact Xt (iB t19) ⟨rfl, h20.below⟩
end

section
def charabancref14_Make_46.post (M0 : Nat → Prop) (w0 : World) (r : (List (Int × Int))) : Ending → World → Prop := fun e w => ∃ (A1 : Option Addr) (c1 : Nat), e = .returned (.slice A1 r.length c1) ∧ Holds M0 w0 w [own (Rp.pair (Rp.int .u16) (Rp.int .u8)) 69 (.slice A1 r.length c1) r]
def charabancref14_Make_46.l0 (K : Nat) (p0 : List (Int × Int)) (t8 : List (Int × Int)) (t9 : Int) : Nat → Int → Int → Option Int
 | 0, _, _ => none
 | k + 1, t10, t11 => cond (decide (t11 < (p0.length : Int))) (cond (inR t11 p0.length) (Let (fun (t31 : Bool) => cond t31 (charabancref14_Make_46.l0 K p0 t8 t9 k (IntKind.wrap .i64 ((rdD p0 t11).1)) (IntKind.wrap .i64 (t11 + 1))) (charabancref14_Make_46.l0 K p0 t8 t9 k t10 (IntKind.wrap .i64 (t11 + 1)))) (fun j34 => cond (decide ((IntKind.wrap .i64 ((rdD p0 t11).1)) > t9)) (cond (decide ((IntKind.wrap .i64 ((rdD p0 t11).1)) < t10)) ((charabancref14_Get_47.f K p0 ((rdD p0 t11).1)).bind fun t30 => j34 (t30 != 0)) (j34 false)) (j34 false))) none) (some t10)
theorem charabancref14_Make_46.l0_ok (K : Nat) (M0 : Nat → Prop) (w0 : World) (pA0 : Option Addr) (pc0 : Nat) (p0 : List (Int × Int)) (t8 : List (Int × Int)) (t9 : Int) (A6 : Option Addr) (c7 : Nat) (R : Ending → World → Prop) (x : Int) (hk0 : ∀ (t38 : Int) (w1 : World), x = t38 → Holds M0 w0 w1 [sl (Rp.pair rC rB) (sV pA0 p0 pc0) p0, own (Rp.pair rC rB) 69 (sV A6 t8 c7) t8] → RunsI F46 [.c 32, .blk 1, .lp 8, .blk 0] [(0, sV pA0 p0 pc0), (3, sV A6 t8 c7), (5, iA t38)] w1 R) :
  ∀ (k : Nat) (t10 : Int) (t11 : Int) (w : World), charabancref14_Make_46.l0 K p0 t8 t9 k t10 t11 = some x → Holds M0 w0 w [sl (Rp.pair rC rB) (sV pA0 p0 pc0) p0, own (Rp.pair rC rB) 69 (sV A6 t8 c7) t8] → RunsI F46 [.c 16, .lp 16, .blk 2, .c 32, .blk 1, .lp 8, .blk 0] [(0, sV pA0 p0 pc0), (3, sV A6 t8 c7), (4, iA t9), (5, iA t10), (6, iA t11)] w R := by
 intro k
 induction k with
 | zero => intro t10 t11 w h hH; exact absurd h (by simp [charabancref14_Make_46.l0])
 | succ k ih =>
  intro t10 t11 w h hH
  rw [charabancref14_Make_46.l0.eq_2] at h
  refine Xg 1 [.c 17, .c 22, .lp 16, .blk 2, .c 32, .blk 1, .lp 8, .blk 0] (Xd 1 18 [.c 19, .c 22, .lp 16, .blk 2, .c 32, .blk 1, .lp 8, .blk 0] 4 [(0, sV pA0 p0 pc0), (3, sV A6 t8 c7), (4, iA t9), (5, iA t10), (6, iA t11), (11, tB (decide (t11 < (p0.length : Int))))] (Vc 11 20 21 h (fun hc12 h => ?_) fun hc12 h => ?_))
  ·refine Xg 1 [.c 22, .lp 16, .blk 2, .c 32, .blk 1, .lp 8, .blk 0] (Xq 3 25 [.c 26, .blk 3, .c 31, .lp 16, .blk 2, .c 32, .blk 1, .lp 8, .blk 0] 2 [(0, sV pA0 p0 pc0), (3, sV A6 t8 c7), (4, iA t9), (5, iA t10), (6, iA t11), (14, sV pA0 p0 pc0), (15, iA t11)] ?_)
   have ⟨hc13, h⟩ := oz h
   refine Yo (OpE.idxSl 16 0 22 t11 hH (by kernel_rfl) rfl (by kernel_rfl) (by kernel_rfl) hc13 ?_)
   intro b14 o15 cs16 hk17 h18
   obtain ⟨_, _, rfl, rfl, rfl⟩ := hk17
   refine Zp 1 [0, 3, 4, 5, 6, 17] [(17, pu b14 o15)] (Yz 18 2 23 b14 o15 0 (iC ((rdD p0 t11).1)) h18 rfl (Zp 2 [0, 3, 4, 5, 6, 7] [(7, iA (wA ((rdD p0 t11).1)))] (Zy 1 27 [.c 28, .blk 3, .c 31, .lp 16, .blk 2, .c 32, .blk 1, .lp 8, .blk 0] 4 [0, 3, 4, 5, 6, 7, 23] [(23, tB (decide ((wA ((rdD p0 t11).1)) > t9)))] ?_)))
   obtain ⟨j34, hJ35, h⟩ := of_let h
   have hj36 : ∀ (t31 : Bool) (w33 : World), j34 t31 = some x → Holds M0 w0 w33 [sl (Rp.pair rC rB) (sV pA0 p0 pc0) p0, own (Rp.pair rC rB) 69 (sV A6 t8 c7) t8] → RegI F46 27 [.c 28, .blk 3, .c 31, .lp 16, .blk 2, .c 32, .blk 1, .lp 8, .blk 0] 18 [(0, sV pA0 p0 pc0), (3, sV A6 t8 c7), (4, iA t9), (5, iA t10), (6, iA t11), (7, iA (wA ((rdD p0 t11).1))), (37, tB t31)] w33 R := by
    intro t31 w33 h h32
    rw [hJ35] at h
    clear hJ35
    dsimp only at h
    refine Ye (Vc 37 29 30 h (fun hc37 h => ?_) fun hc37 h => ?_)
    ·refine Xr (Yp 2 [(0, sV pA0 p0 pc0), (3, sV A6 t8 c7), (4, iA t9), (5, iA (wA ((rdD p0 t11).1))), (6, iA t11)] (Zy 1 31 [.lp 16, .blk 2, .c 32, .blk 1, .lp 8, .blk 0] 3 [0, 3, 4, 5, 6] [(6, iA (wA (t11 + 1)))] (Ye (Xg 1 [.c 16, .lp 16, .blk 2, .c 32, .blk 1, .lp 8, .blk 0] (Vl [(0, sV pA0 p0 pc0), (3, sV A6 t8 c7), (4, iA t9), (5, iA (wA ((rdD p0 t11).1))), (6, iA (wA (t11 + 1)))] ?_)))))
     exact ih (wA ((rdD p0 t11).1)) (wA (t11 + 1)) w33 h (h32.pk [0, 1])
    ·refine Xg 1 [.blk 3, .c 31, .lp 16, .blk 2, .c 32, .blk 1, .lp 8, .blk 0] (Xd 1 31 [.lp 16, .blk 2, .c 32, .blk 1, .lp 8, .blk 0] 3 [(0, sV pA0 p0 pc0), (3, sV A6 t8 c7), (4, iA t9), (5, iA t10), (6, iA (wA (t11 + 1)))] (Xg 1 [.c 16, .lp 16, .blk 2, .c 32, .blk 1, .lp 8, .blk 0] (Vl [(0, sV pA0 p0 pc0), (3, sV A6 t8 c7), (4, iA t9), (5, iA t10), (6, iA (wA (t11 + 1)))] ?_)))
     exact ih t10 (wA (t11 + 1)) w33 h (h32.pk [0, 1])
   clear hJ35
   rcases oc h with ⟨hc19, h⟩ | ⟨hc19, h⟩
   ·refine Yf 23 true hc19 (Zp 5 [0, 3, 4, 5, 6, 7, 28] [(28, tB (decide ((wA ((rdD p0 t11).1)) < t10)))] ?_)
    rcases oc h with ⟨hc20, h⟩ | ⟨hc20, h⟩
    ·refine Yf 28 true hc20 (Zp 3 [0, 3, 4, 5, 6, 7, 28, 29, 30, 31] [(29, sV pA0 p0 pc0), (30, sV pA0 p0 pc0), (31, iA t11)] (Yo (OpE.idxSl 32 0 22 t11 h18 (by kernel_rfl) rfl (by kernel_rfl) (by kernel_rfl) hc13 ?_)))
     intro b21 o22 cs23 hk24 h25
     obtain ⟨_, _, rfl, rfl, rfl⟩ := hk24
     refine Zp 1 [0, 3, 4, 5, 6, 7, 28, 29, 33] [(33, pu b21 o22)] (Yz 34 3 23 b21 o22 0 (iC ((rdD p0 t11).1)) h25 rfl ?_)
     obtain ⟨t30, hg29, h⟩ := of_bind h
     refine Yc 35 47 #[sV pA0 p0 pc0, iC ((rdD p0 t11).1)] ((charabancref14_Get_47_ok K _ w  pA0 pc0 p0 ((rdD p0 t11).1) h25.old' (h25.get 0 rfl) hg29).mono ?_)
     rintro _ w26 ⟨rfl, hb27⟩
     refine ⟨_, rfl, ?_⟩
     have h28 := h25.call hb27
     refine Zp 2 [0, 3, 4, 5, 6, 7, 37] [(37, tB (t30 != 0))] (Ul [(0, sV pA0 p0 pc0), (3, sV A6 t8 c7), (4, iA t9), (5, iA t10), (6, iA t11), (7, iA (wA ((rdD p0 t11).1))), (37, tB (t30 != 0))] ?_)
     exact hj36 (t30 != 0) w26 h (h28.pk [0, 1])
    ·refine Yf 28 false hc20 (Zp 9 [0, 3, 4, 5, 6, 7, 37] [(37, tB false)] (Ul [(0, sV pA0 p0 pc0), (3, sV A6 t8 c7), (4, iA t9), (5, iA t10), (6, iA t11), (7, iA (wA ((rdD p0 t11).1))), (37, tB false)] ?_))
     exact hj36 false w h (h18.pk [0, 1])
   ·refine Yf 23 false hc19 (Zp 14 [0, 3, 4, 5, 6, 7, 37] [(37, tB false)] (Ul [(0, sV pA0 p0 pc0), (3, sV A6 t8 c7), (4, iA t9), (5, iA t10), (6, iA t11), (7, iA (wA ((rdD p0 t11).1))), (37, tB false)] ?_))
    exact hj36 false w h (h18.pk [0, 1])
  ·refine Xg 1 [.c 32, .blk 1, .lp 8, .blk 0] (Vl [(0, sV pA0 p0 pc0), (3, sV A6 t8 c7), (5, iA t10)] ?_)
   exact hk0 t10 w (sI h).symm (hH.pk [0, 1])
def charabancref14_Make_46.l1 (K : Nat) (p0 : List (Int × Int)) : Nat → (List (Int × Int)) → Int → Option (List (Int × Int))
 | 0, _, _ => none
 | k + 1, t4, t5 => (charabancref14_Make_46.l0 K p0 t4 t5 K 65536 0).bind (fun t41 => cond (t41 == 65536) (some t4) ((charabancref14_Get_47.f K p0 (IntKind.wrap .u16 t41)).bind fun t49 => cond (mayBe (t4.length + ([((IntKind.wrap .u16 t41), t49)] : List (Int × Int)).length) 4) (charabancref14_Make_46.l1 K p0 k (t4 ++ ([((IntKind.wrap .u16 t41), t49)] : List (Int × Int))) t41) none))
theorem charabancref14_Make_46.l1_ok (K : Nat) (M0 : Nat → Prop) (w0 : World) (pA0 : Option Addr) (pc0 : Nat) (p0 : List (Int × Int)) (R : Ending → World → Prop) (x : (List (Int × Int))) (hk0 : ∀ (t63 : List (Int × Int)) (A61 : Option Addr) (c62 : Nat) (w1 : World), x = t63 → Holds M0 w0 w1 [own (Rp.pair rC rB) 69 (sV A61 t63 c62) t63] → R (.returned (sV A61 t63 c62)) w1) :
  ∀ (k : Nat) (t4 : List (Int × Int)) (t5 : Int) (A2 : Option Addr) (c3 : Nat) (w : World), charabancref14_Make_46.l1 K p0 k t4 t5 = some x → Holds M0 w0 w [sl (Rp.pair rC rB) (sV pA0 p0 pc0) p0, own (Rp.pair rC rB) 69 (sV A2 t4 c3) t4] → RunsI F46 [.c 8, .lp 8, .blk 0] [(0, sV pA0 p0 pc0), (3, sV A2 t4 c3), (4, iA t5)] w R := by
 intro k
 induction k with
 | zero => intro t4 t5 A2 c3 w h hH; exact absurd h (by simp [charabancref14_Make_46.l1])
 | succ k ih =>
  intro t4 t5 A2 c3 w h hH
  rw [charabancref14_Make_46.l1.eq_2] at h
  refine Xg 1 [.c 9, .blk 1, .lp 8, .blk 0] (Xq 1 10 [.c 11, .blk 1, .lp 8, .blk 0] 1 [(0, sV pA0 p0 pc0), (3, sV A2 t4 c3), (4, iA t5), (5, iA 65536)] (Zy 2 13 [.c 14, .c 32, .blk 1, .lp 8, .blk 0] 1 [0, 3, 4, 5, 6] [(6, iA 0)] (Ye (Xg 2 [.c 16, .lp 16, .blk 2, .c 32, .blk 1, .lp 8, .blk 0] ?_))))
  obtain ⟨x39, hx40, h⟩ := of_bind h
  refine Vl [(0, sV pA0 p0 pc0), (3, sV A2 t4 c3), (4, iA t5), (5, iA 65536), (6, iA 0)] (charabancref14_Make_46.l0_ok K M0 w0 pA0 pc0 p0 t4 t5 A2 c3 _ x39 ?_ K 65536 0 w hx40 (hH.pk [0, 1]))
  ·intro t41 w43 hq71 h42
   (try rw [hq71] at h)
   refine Xd 2 34 [.c 35, .c 40, .blk 1, .lp 8, .blk 0] 2 [(0, sV pA0 p0 pc0), (3, sV A2 t4 c3), (5, iA t41), (40, tB (t41 == 65536))] (Vc 40 36 39 h (fun hc44 h => ?_) fun hc44 h => ?_)
   ·refine Xd 1 37 [.c 38, .c 40, .blk 1, .lp 8, .blk 0] 2 [(2, sV A2 t4 c3)] (Xt (sV A2 t4 c3) ?_)
    exact hk0 t4 A2 c3 w43 (sI h).symm (h42.pk [1])
   ·refine Xg 1 [.c 40, .blk 1, .lp 8, .blk 0] (Xq 1 41 [.c 42, .blk 1, .lp 8, .blk 0] 6 [(0, sV pA0 p0 pc0), (5, iA t41), (42, sV A2 t4 c3), (44, iC (wC t41)), (45, sV pA0 p0 pc0), (47, iC (wC t41))] ?_)
    obtain ⟨t49, hg48, h⟩ := of_bind h
    refine Yc 48 47 #[sV pA0 p0 pc0, iC (wC t41)] ((charabancref14_Get_47_ok K _ w43  pA0 pc0 p0 (wC t41) h42.old' (h42.get 0 rfl) hg48).mono ?_)
    rintro _ w45 ⟨rfl, hb46⟩
    refine ⟨_, rfl, ?_⟩
    have h47 := h42.call hb46
    refine Zp 1 [0, 5, 42, 49] [(49, .agg #[iC (wC t41), iB t49])] (Yo (OpE.lit 50 69 [iC (wC t41), iB t49] 1 h47 (by kernel_rfl) (by kernel_rfl) ?_))
    intro w50 b51 h52 hb53 hn54
    have ⟨hc55, h⟩ := oz h
    refine Yo (OpE.appendBox 51 1 2 22 69 4 ([((wC t41), t49)] : List (Int × Int)) 0 h52 (by kernel_rfl) (by kernel_rfl) (by kernel_rfl) rfl rfl rfl (⟨[_, _], _, rfl, ⟨[_], [_], rfl, rfl, rfl⟩, rfl⟩) hc55 ?_)
    intro w56 A57 c58 h59 hk60
    refine Zd 1 [0, 3, 5] [(3, .slice A57 ((t4 ++ ([((wC t41), t49)] : List (Int × Int))).length) c58)] (Xr (Zd 2 [0, 3, 4] [(4, iA t41)] (Xg 2 [.c 8, .lp 8, .blk 0] (Vl [(0, sV pA0 p0 pc0), (3, .slice A57 ((t4 ++ ([((wC t41), t49)] : List (Int × Int))).length) c58), (4, iA t41)] ?_))))
    exact ih (t4 ++ ([((wC t41), t49)] : List (Int × Int))) t41 A57 c58 w56 h (h59.pk [0, 1])
def charabancref14_Make_46.f (K : Nat) (p0 : List (Int × Int)) : Option (List (Int × Int)) := (charabancref14_Make_46.l1 K p0 K ([] : List (Int × Int)) (-1)).bind (fun t68 => some t68)
theorem charabancref14_Make_46_ok (K : Nat) (M0 : Nat → Prop) (w0 : World) (pA0 : Option Addr) (pc0 : Nat) (p0 : List (Int × Int)) (ho : ∀ b, M0 b → b < w0.heap.size) (hs0 : Sl (Rp.pair rC rB) w0 M0 (sV pA0 p0 pc0) p0) {r : (List (Int × Int))} (h : charabancref14_Make_46.f K p0 = some r) :
  Calls Tryz.prog 46 #[sV pA0 p0 pc0] w0 (charabancref14_Make_46.post M0 w0 r) := by
 unfold charabancref14_Make_46.f at h
 have h0 : Holds M0 w0 w0 [] := Holds.start ho
 have h00 := h0.aS hs0
 have h0 : Holds M0 w0 w0 [sl (Rp.pair rC rB) (sV pA0 p0 pc0) p0] := h00
 refine calls_of F46 rfl [sV pA0 p0 pc0] (by kernel_rfl) (Xq 1 1 [.c 2] 1 [(0, sV pA0 p0 pc0)] (Zy 1 3 [.c 4] 1 [0, 3] [(3, n0)] (Zy 1 5 [.c 6] 1 [0, 3, 4] [(4, iA (-1))] (Ye (Xg 2 [.c 8, .lp 8, .blk 0] ?_)))))
 obtain ⟨x64, hx65, h⟩ := of_bind h
 have h1 := h0.addOwnNil (Rp.pair rC rB) 69
 refine Vl [(0, sV pA0 p0 pc0), (3, .slice none (([] : List (Int × Int)).length) 0), (4, iA (-1))] (charabancref14_Make_46.l1_ok K M0 w0 pA0 pc0 p0 _ x64 ?_ K ([] : List (Int × Int)) (-1) none 0 w0 hx65 (h1.pk [0, 1]))
 ·intro t68 A66 c67 w70 hq72 h69
  (try rw [hq72] at h)
  obtain rfl := sI h
  exact ⟨A66, c67, rfl, h69.pk [0]⟩
end

section
def charabancref14_Load_23.post (M0 : Nat → Prop) (w0 : World) (r : (List (Int × Int))) : Ending → World → Prop := fun e w => ∃ (A1 : Option Addr) (c1 : Nat), e = .returned (.slice A1 r.length c1) ∧ Holds M0 w0 w [own (Rp.pair (Rp.int .u16) (Rp.int .u8)) 69 (.slice A1 r.length c1) r]
def charabancref14_Load_23.l0 (K : Nat) (p0 : List (Int × Int)) (p1 : Int) (p2 : List Int) : Nat → (List (Int × Int)) → Int → Option (List (Int × Int))
 | 0, _, _ => none
 | k + 1, t10, t11 => cond (decide (t11 < (p2.length : Int))) (cond (inR t11 p2.length) (cond (mayBe (t10.length + ([((IntKind.wrap .u16 (p1 + (IntKind.wrap .u16 (Int.tmod t11 65536)))), (rdD p2 t11))] : List (Int × Int)).length) 4) (charabancref14_Load_23.l0 K p0 p1 p2 k (t10 ++ ([((IntKind.wrap .u16 (p1 + (IntKind.wrap .u16 (Int.tmod t11 65536)))), (rdD p2 t11))] : List (Int × Int))) (IntKind.wrap .i64 (t11 + 1))) none) none) (some t10)
theorem charabancref14_Load_23.l0_ok (K : Nat) (M0 : Nat → Prop) (w0 : World) (pA0 : Option Addr) (pc0 : Nat) (pA2 : Option Addr) (pc2 : Nat) (p0 : List (Int × Int)) (p1 : Int) (p2 : List Int) (R : Ending → World → Prop) (x : (List (Int × Int))) (hk0 : ∀ (t32 : List (Int × Int)) (A30 : Option Addr) (c31 : Nat) (w1 : World), x = t32 → Holds M0 w0 w1 [own (Rp.pair rC rB) 69 (sV A30 t32 c31) t32] → RunsI F23 [.c 21] [(7, sV A30 t32 c31)] w1 R) :
  ∀ (k : Nat) (t10 : List (Int × Int)) (t11 : Int) (A8 : Option Addr) (c9 : Nat) (w : World), charabancref14_Load_23.l0 K p0 p1 p2 k t10 t11 = some x → Holds M0 w0 w [sl rB (sV pA2 p2 pc2) p2, own (Rp.pair rC rB) 69 (sV A8 t10 c9) t10] → RunsI F23 [.c 11, .lp 11, .blk 0, .c 21] [(1, iC p1), (2, sV pA2 p2 pc2), (7, sV A8 t10 c9), (8, iA t11)] w R := by
 intro k
 induction k with
 | zero => intro t10 t11 A8 c9 w h hH; exact absurd h (by simp [charabancref14_Load_23.l0])
 | succ k ih =>
  intro t10 t11 A8 c9 w h hH
  rw [charabancref14_Load_23.l0.eq_2] at h
  refine Xg 1 [.c 12, .c 17, .lp 11, .blk 0, .c 21] (Xd 1 13 [.c 14, .c 17, .lp 11, .blk 0, .c 21] 4 [(1, iC p1), (2, sV pA2 p2 pc2), (7, sV A8 t10 c9), (8, iA t11), (15, tB (decide (t11 < (p2.length : Int))))] (Vc 15 15 16 h (fun hc12 h => ?_) fun hc12 h => ?_))
  ·refine Xg 1 [.c 17, .lp 11, .blk 0, .c 21] (Xq 2 19 [.blk 1, .c 20, .lp 11, .blk 0, .c 21] 8 [(1, iC p1), (2, sV pA2 p2 pc2), (8, iA t11), (18, sV A8 t10 c9), (23, iC (wC (p1 + (wC (Int.tmod t11 65536))))), (24, sV pA2 p2 pc2), (25, iA t11)] ?_)
   have ⟨hc13, h⟩ := oz h
   refine Yo (OpE.idxSl 26 0 39 t11 hH (by kernel_rfl) rfl (by kernel_rfl) (by kernel_rfl) hc13 ?_)
   intro b14 o15 cs16 hk17 h18
   obtain rfl := hk17
   refine Yz 27 2 5 b14 o15 0 (iB (rdD p2 t11)) h18 rfl (Zp 1 [1, 2, 8, 18, 28] [(28, .agg #[iC (wC (p1 + (wC (Int.tmod t11 65536)))), iB (rdD p2 t11)])] (Yo (OpE.lit 29 69 [iC (wC (p1 + (wC (Int.tmod t11 65536)))), iB (rdD p2 t11)] 1 h18 (by kernel_rfl) (by kernel_rfl) ?_)))
   intro w19 b20 h21 hb22 hn23
   have ⟨hc24, h⟩ := oz h
   refine Yo (OpE.appendBox 30 1 3 22 69 4 ([((wC (p1 + (wC (Int.tmod t11 65536)))), (rdD p2 t11))] : List (Int × Int)) 0 h21 (by kernel_rfl) (by kernel_rfl) (by kernel_rfl) rfl rfl rfl (⟨[_, _], _, rfl, ⟨[_], [_], rfl, rfl, rfl⟩, rfl⟩) hc24 ?_)
   intro w25 A26 c27 h28 hk29
   refine Zp 1 [1, 2, 7, 8] [(7, .slice A26 ((t10 ++ ([((wC (p1 + (wC (Int.tmod t11 65536)))), (rdD p2 t11))] : List (Int × Int))).length) c27)] (Zy 1 20 [.lp 11, .blk 0, .c 21] 3 [1, 2, 7, 8] [(8, iA (wA (t11 + 1)))] (Ye (Xg 1 [.c 11, .lp 11, .blk 0, .c 21] (Vl [(1, iC p1), (2, sV pA2 p2 pc2), (7, .slice A26 ((t10 ++ ([((wC (p1 + (wC (Int.tmod t11 65536)))), (rdD p2 t11))] : List (Int × Int))).length) c27), (8, iA (wA (t11 + 1)))] ?_))))
   exact ih (t10 ++ ([((wC (p1 + (wC (Int.tmod t11 65536)))), (rdD p2 t11))] : List (Int × Int))) (wA (t11 + 1)) A26 c27 w25 h (h28.pk [0, 1])
  ·refine Xg 1 [.c 21] (Vl [(7, sV A8 t10 c9)] ?_)
   exact hk0 t10 A8 c9 w (sI h).symm (hH.pk [1])
def charabancref14_Load_23.f (K : Nat) (p0 : List (Int × Int)) (p1 : Int) (p2 : List Int) : Option (List (Int × Int)) := cond (mayBe (([] : List (Int × Int)).length + p0.length) 4) ((charabancref14_Load_23.l0 K p0 p1 p2 K (([] : List (Int × Int)) ++ p0) 0).bind (fun t37 => (charabancref14_Make_46.f K t37).bind fun t44 => some t44)) none
theorem charabancref14_Load_23_ok (K : Nat) (M0 : Nat → Prop) (w0 : World) (pA0 : Option Addr) (pc0 : Nat) (pA2 : Option Addr) (pc2 : Nat) (p0 : List (Int × Int)) (p1 : Int) (p2 : List Int) (ho : ∀ b, M0 b → b < w0.heap.size) (hs0 : Sl (Rp.pair rC rB) w0 M0 (sV pA0 p0 pc0) p0) (hs2 : Sl rB w0 M0 (sV pA2 p2 pc2) p2) {r : (List (Int × Int))} (h : charabancref14_Load_23.f K p0 p1 p2 = some r) :
  Calls Tryz.prog 23 #[sV pA0 p0 pc0, iC p1, sV pA2 p2 pc2] w0 (charabancref14_Load_23.post M0 w0 r) := by
 unfold charabancref14_Load_23.f at h
 have h0 : Holds M0 w0 w0 [] := Holds.start ho
 have h00 := h0.aS hs0
 have h02 := h00.aS hs2
 have h0 : Holds M0 w0 w0 [sl (Rp.pair rC rB) (sV pA0 p0 pc0) p0, sl rB (sV pA2 p2 pc2) p2] := h02
 refine calls_of F23 rfl [sV pA0 p0 pc0, iC p1, sV pA2 p2 pc2] (by kernel_rfl) (Xq 1 1 [.c 2] 1 [(0, sV pA0 p0 pc0), (1, iC p1), (2, sV pA2 p2 pc2)] (Zy 1 3 [.c 4] 1 [0, 1, 2, 7] [(7, n0)] (Zy 1 5 [.c 6] 2 [1, 2, 9, 10] [(9, n0), (10, sV pA0 p0 pc0)] ?_)))
 have h1 := h0.addOwnNil (Rp.pair rC rB) 69
 have ⟨hc2, h⟩ := oz h
 refine Yo (OpE.appendRow 11 2 22 69 4 (ys := p0) h1 (by kernel_rfl) (by kernel_rfl) (by kernel_rfl) rfl (h1.rdSl 0 rfl) hc2 ?_)
 intro w3 A4 c5 h6 hk7
 refine Zp 1 [1, 2, 7] [(7, .slice A4 ((([] : List (Int × Int)) ++ p0).length) c5)] (Zy 2 8 [.c 9, .c 21] 1 [1, 2, 7, 8] [(8, iA 0)] (Ye (Xg 2 [.c 11, .lp 11, .blk 0, .c 21] ?_)))
 obtain ⟨x33, hx34, h⟩ := of_bind h
 refine Vl [(1, iC p1), (2, sV pA2 p2 pc2), (7, .slice A4 ((([] : List (Int × Int)) ++ p0).length) c5), (8, iA 0)] (charabancref14_Load_23.l0_ok K M0 w0 pA0 pc0 pA2 pc2 p0 p1 p2 _ x33 ?_ K (([] : List (Int × Int)) ++ p0) 0 A4 c5 w3 hx34 (h6.pk [1, 2]))
 ·intro t37 A35 c36 w39 hq49 h38
  (try rw [hq49] at h)
  refine Xq 1 22 [.c 23] 1 [(31, sV A35 t37 c36)] ?_
  obtain ⟨t44, hg43, h⟩ := of_bind h
  refine Yc 32 46 #[sV A35 t37 c36] ((charabancref14_Make_46_ok K (fun _ => False) w39  A35 c36 t37 nF (h38.ownSl 0 rfl) hg43).mono ?_)
  rintro _ w40 ⟨A45, c46, rfl, hr48⟩
  refine ⟨_, rfl, ?_⟩
  have hb41 := hr48.below
  have h42 := h38.join (hr48.anyM ⟨own_flat (fun _ _ _ _ _ h => h), trivial⟩ _ h38.old')
  refine Yd 1 [(6, sV A45 t44 c46)] (Xt (sV A45 t44 c46) ?_)
  obtain rfl := sI h
  exact ⟨A45, c46, rfl, h42.pk [1]⟩
end

section
abbrev charabanclaw34_awake_7.post := pB
def charabanclaw34_awake_7.f (K : Nat) : Option Bool := (charabancref14_Load_23.f K ([] : List (Int × Int)) 0 ([62, 7, 24, 252, 65] : List Int)).bind fun t12 => (listing_Lines_14.f K t12 0 2).bind fun t21 => (listing_Rows_15.f K t12 0 1).bind fun t30 => (listing_Find_20.f K t12 0 ([7, 24] : List Int)).bind fun yt46 => (listing_Target_8.f K 0 195 0 9 3 0 0).bind fun yt52 => (charabancref09_Same_16.f K t21 ([(⟨#[48, 48, 48, 48, 104, 58, 32, 51, 101, 48, 55, 32, 32, 32, 32, 32, 108, 100, 32, 97, 44, 48, 55, 104]⟩ : ByteArray), (⟨#[48, 48, 48, 50, 104, 58, 32, 49, 56, 102, 99, 32, 32, 32, 32, 32, 106, 114, 32, 36, 45, 50]⟩ : ByteArray)] : List ByteArray)).bind fun t65 => cond t65 (cond ((t30.length : Int) == 1) (cond (inR 0 t30.length) (cond ((ByteArray.toList (rdD t30 0)) == (ByteArray.toList (⟨#[48, 48, 48, 48, 104, 58, 32, 51, 101, 32, 48, 55, 32, 49, 56, 32, 102, 99, 32, 52, 49, 32, 48, 48, 32, 48, 48, 32, 48, 48, 32, 48, 48, 32, 48, 48, 32, 48, 48, 32, 48, 48, 32, 48, 48, 32, 48, 48, 32, 48, 48, 32, 48, 48, 32, 32, 62, 46, 46, 46, 65, 46, 46, 46, 46, 46, 46, 46, 46, 46, 46, 46]⟩ : ByteArray))) ((listing_Next_13.f K t12 0 2).bind fun t76 => cond (t76 == 4) (cond (yt46.1 == 1) (cond yt46.2 (cond (yt52.1 == 9) (cond yt52.2 ((listing_Targets_10.f K t12 0 2).bind fun t86 => (charabancref34_Words_11.f K t86 ([0] : List Int)).bind fun t102 => some t102) (some false)) (some false)) (some false)) (some false)) (some false)) (some false)) none) (some false)) (some false)
theorem charabanclaw34_awake_7_ok (K : Nat) (M0 : Nat → Prop) (w0 : World) (ho : ∀ b, M0 b → b < w0.heap.size) (hG0 : (cel 0 0 [iA mx0]).ok w0 M0) (hG1 : G1.ok w0 M0) (hG2 : G2.ok w0 M0) (hG3 : G3.ok w0 M0) (hG4 : G4.ok w0 M0) (hG5 : G5.ok w0 M0) (hG6 : G6.ok w0 M0) (hG7 : G7.ok w0 M0) (hG8 : G8.ok w0 M0) (hG9 : G9.ok w0 M0) (hG10 : G10.ok w0 M0) (hG11 : G11.ok w0 M0) (hG12 : G12.ok w0 M0) (hG13 : G13.ok w0 M0) (hG14 : G14.ok w0 M0) (hG15 : G15.ok w0 M0) (hG16 : G16.ok w0 M0) {r : Bool} (h : charabanclaw34_awake_7.f K = some r) :
  Calls Tryz.prog 7 #[] w0 (charabanclaw34_awake_7.post M0 w0 r) := by
 unfold charabanclaw34_awake_7.f at h
 have h0 : Holds M0 w0 w0 [] := Holds.start ho
 have h0g0 := h0.add (cel 0 0 [iA mx0]) rfl ⟨hG0.1, fun hm => hG0.2.1 (hm.elim id (fun hm => absurd hm (by simp [mines, sl, gl, cel]))), hG0.2.2⟩
 have h0g1 := h0g0.aG hG1
 have h0g2 := h0g1.aG hG2
 have h0g3 := h0g2.aG hG3
 have h0g4 := h0g3.aG hG4
 have h0g5 := h0g4.aG hG5
 have h0g6 := h0g5.aG hG6
 have h0g7 := h0g6.aG hG7
 have h0g8 := h0g7.aG hG8
 have h0g9 := h0g8.aG hG9
 have h0g10 := h0g9.aG hG10
 have h0g11 := h0g10.aG hG11
 have h0g12 := h0g11.aG hG12
 have h0g13 := h0g12.aG hG13
 have h0g14 := h0g13.aG hG14
 have h0g15 := h0g14.aG hG15
 have h0g16 := h0g15.aG hG16
 have h0 : Holds M0 w0 w0 [cel 0 0 [iA mx0], G1, G2, G3, G4, G5, G6, G7, G8, G9, G10, G11, G12, G13, G14, G15, G16] := h0g16
 refine calls_of F7 rfl [] (by kernel_rfl) (Xd 1 1 [.c 2] 1 [] (Xg 1 [.c 3, .c 4] (Xr (Yo (OpE.lit 8 5 [iB 62, iB 7, iB 24, iB 252, iB 65] 5 h0 (by kernel_rfl) (by kernel_rfl) ?_)))))
 intro w1 b2 h3 hb4 hn5
 obtain ⟨t12, hg11, h⟩ := of_bind h
 have h6 := h3.boxOwn 17 rfl rB ([62, 7, 24, 252, 65] : List Int) (cells_int _ _ _ _) (Nat.le_of_ble_eq_true (by kernel_rfl))
 have h7 := h6.release 17 rfl
 refine Yc 9 23 #[n0, iC 0, .slice (some ⟨b2, 0, none⟩) (([62, 7, 24, 252, 65] : List Int).length) 5] ((charabancref14_Load_23_ok K _ w1  none 0 (some ⟨b2, 0, none⟩) 5 ([] : List (Int × Int)) 0 ([62, 7, 24, 252, 65] : List Int) h7.old' (Sl.nil _ _ _) (h7.get 17 rfl) hg11).mono ?_)
 rintro _ w8 ⟨A13, c14, rfl, hr16⟩
 refine ⟨_, rfl, ?_⟩
 have hb9 := hr16.below
 have h10 : Holds M0 w0 w8 [cel 0 0 [iA mx0], G1, G2, G3, G4, G5, G6, G7, G8, G9, G10, G11, G12, G13, G14, G15, G16, sl rB (.slice (some ⟨b2, 0, none⟩) (([62, 7, 24, 252, 65] : List Int).length) 5) ([62, 7, 24, 252, 65] : List Int), own (Rp.pair rC rB) 69 (sV A13 t12 c14) t12] := h7.join hr16
 refine Yp 1 [(1, sV A13 t12 c14)] (Zy 1 5 [.c 6] 1 [1, 10] [(10, sV A13 t12 c14)] ?_)
 obtain ⟨t21, hg20, h⟩ := of_bind h
 refine Yc 11 14 #[sV A13 t12 c14, iC 0, iA 2] ((listing_Lines_14_ok K (fun _ => False) w8  A13 c14 t12 0 2 nF (h10.ownSl 18 rfl) (gF (h10.get 1 rfl)) (gF (h10.get 2 rfl)) (gF (h10.get 3 rfl)) (gF (h10.get 4 rfl)) (gF (h10.get 5 rfl)) (gF (h10.get 6 rfl)) (gF (h10.get 7 rfl)) (gF (h10.get 8 rfl)) (gF (h10.get 9 rfl)) (gF (h10.get 10 rfl)) (gF (h10.get 11 rfl)) (gF (h10.get 12 rfl)) (gF (h10.get 15 rfl)) (gF (h10.get 16 rfl)) hg20).mono ?_)
 rintro _ w17 ⟨A22, c23, rfl, hr25⟩
 refine ⟨_, rfl, ?_⟩
 have hb18 := hr25.below
 have h19 : Holds M0 w0 w17 [cel 0 0 [iA mx0], G1, G2, G3, G4, G5, G6, G7, G8, G9, G10, G11, G12, G13, G14, G15, G16, sl rB (.slice (some ⟨b2, 0, none⟩) (([62, 7, 24, 252, 65] : List Int).length) 5) ([62, 7, 24, 252, 65] : List Int), own (Rp.pair rC rB) 69 (sV A13 t12 c14) t12, own Rp.str 9 (sV A22 t21 c23) t21] := h10.join (hr25.anyM ⟨own_flat (fun _ _ _ _ _ h => h), trivial⟩ _ h10.old')
 refine Zp 1 [1, 2] [(2, sV A22 t21 c23)] (Zy 1 7 [.c 8] 1 [1, 2, 12] [(12, sV A13 t12 c14)] ?_)
 obtain ⟨t30, hg29, h⟩ := of_bind h
 refine Yc 13 15 #[sV A13 t12 c14, iC 0, iA 1] ((listing_Rows_15_ok K (fun _ => False) w17  A13 c14 t12 0 1 nF (h19.ownSl 18 rfl) (gF (h19.get 12 rfl)) (gF (h19.get 13 rfl)) (gF (h19.get 14 rfl)) (gF (h19.get 15 rfl)) (gF (h19.get 16 rfl)) hg29).mono ?_)
 rintro _ w26 ⟨A31, c32, rfl, hr34⟩
 refine ⟨_, rfl, ?_⟩
 have hb27 := hr34.below
 have h28 : Holds M0 w0 w26 [cel 0 0 [iA mx0], G1, G2, G3, G4, G5, G6, G7, G8, G9, G10, G11, G12, G13, G14, G15, G16, sl rB (.slice (some ⟨b2, 0, none⟩) (([62, 7, 24, 252, 65] : List Int).length) 5) ([62, 7, 24, 252, 65] : List Int), own (Rp.pair rC rB) 69 (sV A13 t12 c14) t12, own Rp.str 9 (sV A22 t21 c23) t21, own Rp.str 9 (sV A31 t30 c32) t30] := h19.join (hr34.anyM ⟨own_flat (fun _ _ _ _ _ h => h), trivial⟩ _ h19.old')
 refine Zp 1 [1, 2, 3] [(3, sV A31 t30 c32)] (Zy 1 9 [.c 10] 1 [1, 2, 3, 15] [(15, sV A13 t12 c14)] (Yo (OpE.lit 16 5 [iB 7, iB 24] 2 h28 (by kernel_rfl) (by kernel_rfl) ?_)))
 intro w35 b36 h37 hb38 hn39
 obtain ⟨⟨t46, t47⟩, hg45, h⟩ := of_bind h
 dsimp only at h
 have h40 := h37.boxOwn 21 rfl rB ([7, 24] : List Int) (cells_int _ _ _ _) (Nat.le_of_ble_eq_true (by kernel_rfl))
 have h41 := h40.release 21 rfl
 refine Yc 17 20 #[sV A13 t12 c14, iC 0, .slice (some ⟨b36, 0, none⟩) (([7, 24] : List Int).length) 2] ((listing_Find_20_ok K (fun _ => False) w35  A13 c14 (some ⟨b36, 0, none⟩) 2 t12 0 ([7, 24] : List Int) nF (h41.ownSl 18 rfl) (h41.slAny 21 rfl) ⟨(h41.get 0 rfl).1, fun hf => hf.elim, (h41.get 0 rfl).2.2⟩ hg45).mono ?_)
 rintro _ w42 ⟨rfl, hb43⟩
 refine ⟨_, rfl, ?_⟩
 have h44 := h41.call hb43
 refine Zp 5 [1, 2, 3, 4, 5] [(4, iC t46), (5, tB t47)] (Zy 1 11 [.c 12] 1 [1, 2, 3, 4, 5, 21] [(21, .agg #[iA 0, iB 195, iB 0, iC 9, iA 3, iA 0])] ?_)
 obtain ⟨⟨t52, t53⟩, hg51, h⟩ := of_bind h
 dsimp only at h
 refine Yc 22 8 #[.agg #[iA 0, iB 195, iB 0, iC 9, iA 3, iA 0], iC 0] ((listing_Target_8_ok K _ w42  0 195 0 9 3 0 0 h44.old' hg51).mono ?_)
 rintro _ w48 ⟨rfl, hb49⟩
 refine ⟨_, rfl, ?_⟩
 have h50 := h44.call hb49
 refine Zp 5 [1, 2, 3, 4, 5, 6, 7] [(6, iC t52), (7, tB t53)] (Zy 1 13 [.c 14] 1 [1, 3, 4, 5, 6, 7, 25] [(25, sV A22 t21 c23)] (Yo (OpE.lit 26 9 [tS sg3, tS sg4] 2 h50 (by kernel_rfl) (by kernel_rfl) ?_)))
 intro w54 b55 h56 hb57 hn58
 obtain ⟨t65, hg64, h⟩ := of_bind h
 have h59 := h56.boxOwn 22 rfl Rp.str ([sg3, sg4] : List ByteArray) (cells_str _ _ _) (Nat.le_of_ble_eq_true (by kernel_rfl))
 have h60 := h59.release 22 rfl
 refine Yc 27 16 #[sV A22 t21 c23, .slice (some ⟨b55, 0, none⟩) (([sg3, sg4] : List ByteArray).length) 2] ((charabancref09_Same_16_ok K (fun _ => False) w54  A22 c23 (some ⟨b55, 0, none⟩) 2 t21 ([sg3, sg4] : List ByteArray) nF (h60.ownSl 19 rfl) (h60.slAny 22 rfl) hg64).mono ?_)
 rintro _ w61 ⟨rfl, hb62⟩
 refine ⟨_, rfl, ?_⟩
 have h63 := h60.call hb62
 refine Zp 1 [1, 3, 4, 5, 6, 7, 28] [(28, tB t65)] ?_
 rcases oc h with ⟨hc66, h⟩ | ⟨hc66, h⟩
 ·refine Yf 28 true hc66 (Zp 5 [1, 3, 4, 5, 6, 7, 33] [(33, tB ((t30.length : Int) == 1))] ?_)
  rcases oc h with ⟨hc67, h⟩ | ⟨hc67, h⟩
  ·refine Yf 33 true hc67 (Zp 1 [1, 4, 5, 6, 7, 33, 34] [(34, sV A31 t30 c32)] ?_)
   have ⟨hc68, h⟩ := oz h
   refine Yo (OpE.idxOwnA 35 20 34 9 0 h63 (by kernel_rfl) rfl (by kernel_rfl) (by kernel_rfl) hc68 (Yo (OpE.loadOwnA 36 20 9 9 0 0 (o := (Int.toNat 0) * 1 + 0) h63 (by kernel_rfl) rfl (by kernel_rfl) (by kernel_rfl) hc68 (fun cs69 hk70 => ?_))))
   obtain rfl := hk70
   refine ⟨tS (rdD t30 0), by kernel_rfl, ?_⟩
   refine Zp 3 [1, 4, 5, 6, 7, 39] [(39, tB ((ByteArray.toList (rdD t30 0)) == (ByteArray.toList (⟨#[48, 48, 48, 48, 104, 58, 32, 51, 101, 32, 48, 55, 32, 49, 56, 32, 102, 99, 32, 52, 49, 32, 48, 48, 32, 48, 48, 32, 48, 48, 32, 48, 48, 32, 48, 48, 32, 48, 48, 32, 48, 48, 32, 48, 48, 32, 48, 48, 32, 48, 48, 32, 48, 48, 32, 32, 62, 46, 46, 46, 65, 46, 46, 46, 46, 46, 46, 46, 46, 46, 46, 46]⟩ : ByteArray))))] ?_
   rcases oc h with ⟨hc71, h⟩ | ⟨hc71, h⟩
   ·refine Yf 39 true hc71 (Zp 1 [1, 4, 5, 6, 7, 39, 40] [(40, sV A13 t12 c14)] ?_)
    obtain ⟨t76, hg75, h⟩ := of_bind h
    refine Yc 41 13 #[sV A13 t12 c14, iC 0, iA 2] ((listing_Next_13_ok K (fun _ => False) w61  A13 c14 t12 0 2 nF (h63.ownSl 18 rfl) hg75).mono ?_)
    rintro _ w72 ⟨rfl, hb73⟩
    refine ⟨_, rfl, ?_⟩
    have h74 := h63.call hb73
    refine Zp 3 [1, 4, 5, 6, 7, 44] [(44, tB (t76 == 4))] ?_
    rcases oc h with ⟨hc77, h⟩ | ⟨hc77, h⟩
    ·refine Yf 44 true hc77 (Zp 4 [1, 5, 6, 7, 48] [(48, tB (t46 == 1))] ?_)
     rcases oc h with ⟨hc78, h⟩ | ⟨hc78, h⟩
     ·refine Yf 48 true hc78 (Zp 3 [1, 6, 7, 51] [(51, tB t47)] ?_)
      rcases oc h with ⟨hc79, h⟩ | ⟨hc79, h⟩
      ·refine Yf 51 true hc79 (Zp 4 [1, 7, 55] [(55, tB (t52 == 9))] ?_)
       rcases oc h with ⟨hc80, h⟩ | ⟨hc80, h⟩
       ·refine Yf 55 true hc80 (Zp 3 [1, 58] [(58, tB t53)] ?_)
        rcases oc h with ⟨hc81, h⟩ | ⟨hc81, h⟩
        ·refine Yf 58 true hc81 (Zp 1 [58, 59] [(59, sV A13 t12 c14)] ?_)
         obtain ⟨t86, hg85, h⟩ := of_bind h
         refine Yc 60 10 #[sV A13 t12 c14, iC 0, iA 2] ((listing_Targets_10_ok K (fun _ => False) w72  A13 c14 t12 0 2 nF (h74.ownSl 18 rfl) hg85).mono ?_)
         rintro _ w82 ⟨A87, c88, rfl, hr90⟩
         refine ⟨_, rfl, ?_⟩
         have hb83 := hr90.below
         have h84 : Holds M0 w0 w82 [cel 0 0 [iA mx0], G1, G2, G3, G4, G5, G6, G7, G8, G9, G10, G11, G12, G13, G14, G15, G16, sl rB (.slice (some ⟨b2, 0, none⟩) (([62, 7, 24, 252, 65] : List Int).length) 5) ([62, 7, 24, 252, 65] : List Int), own (Rp.pair rC rB) 69 (sV A13 t12 c14) t12, own Rp.str 9 (sV A22 t21 c23) t21, own Rp.str 9 (sV A31 t30 c32) t30, sl rB (.slice (some ⟨b36, 0, none⟩) (([7, 24] : List Int).length) 2) ([7, 24] : List Int), sl Rp.str (.slice (some ⟨b55, 0, none⟩) (([sg3, sg4] : List ByteArray).length) 2) ([sg3, sg4] : List ByteArray), own rC 23 (sV A87 t86 c88) t86] := h74.join (hr90.anyM ⟨own_flat (fun _ _ _ _ _ h => h), trivial⟩ _ h74.old')
         refine Yo (OpE.lit 61 23 [iC 0] 1 h84 (by kernel_rfl) (by kernel_rfl) ?_)
         intro w91 b92 h93 hb94 hn95
         obtain ⟨t102, hg101, h⟩ := of_bind h
         have h96 := h93.boxOwn 24 rfl rC ([0] : List Int) (cells_int _ _ _ _) (Nat.le_of_ble_eq_true (by kernel_rfl))
         have h97 := h96.release 24 rfl
         refine Yc 62 11 #[sV A87 t86 c88, .slice (some ⟨b92, 0, none⟩) (([0] : List Int).length) 1] ((charabancref34_Words_11_ok K (fun _ => False) w91  A87 c88 (some ⟨b92, 0, none⟩) 1 t86 ([0] : List Int) nF (h97.ownSl 23 rfl) (h97.slAny 24 rfl) hg101).mono ?_)
         rintro _ w98 ⟨rfl, hb99⟩
         refine ⟨_, rfl, ?_⟩
         have h100 := h97.call hb99
         refine Yd 2 [(0, tB t102)] ?_
         obtain rfl := sI h
         exact Xt (tB t102) ⟨rfl, h100.below⟩
        ·refine Yf 58 false hc81 (Yd 6 [(0, tB false)] ?_)
         obtain rfl := sI h
         exact Xt (tB false) ⟨rfl, h74.below⟩
       ·refine Yf 55 false hc80 (Yd 9 [(0, tB false)] ?_)
        obtain rfl := sI h
        exact Xt (tB false) ⟨rfl, h74.below⟩
      ·refine Yf 51 false hc79 (Yd 13 [(0, tB false)] ?_)
       obtain rfl := sI h
       exact Xt (tB false) ⟨rfl, h74.below⟩
     ·refine Yf 48 false hc78 (Yd 16 [(0, tB false)] ?_)
      obtain rfl := sI h
      exact Xt (tB false) ⟨rfl, h74.below⟩
    ·refine Yf 44 false hc77 (Yd 20 [(0, tB false)] ?_)
     obtain rfl := sI h
     exact Xt (tB false) ⟨rfl, h74.below⟩
   ·refine Yf 39 false hc71 (Yd 25 [(0, tB false)] ?_)
    obtain rfl := sI h
    exact Xt (tB false) ⟨rfl, h63.below⟩
  ·refine Yf 33 false hc67 (Yd 31 [(0, tB false)] ?_)
   obtain rfl := sI h
   exact Xt (tB false) ⟨rfl, h63.below⟩
 ·refine Yf 28 false hc66 (Yd 36 [(0, tB false)] ?_)
  obtain rfl := sI h
  exact Xt (tB false) ⟨rfl, h63.below⟩
end

section
def charabancref08_Fields_27.post (M0 : Nat → Prop) (w0 : World) (r : Int × Int × Int × Int × Int) : Ending → World → Prop := fun e w => e = .returned (.tuple #[.int .i64 r.1, .int .i64 r.2.1, .int .i64 r.2.2.1, .int .i64 r.2.2.2.1, .int .i64 r.2.2.2.2]) ∧ Below w0.heap.size w0 w
def charabancref08_Fields_27.f (K : Nat) (p0 : Int) : Option (Int × Int × Int × Int × Int) := some ((IntKind.wrap .i64 (Int.tdiv (IntKind.wrap .i64 p0) 64)), (Int.tmod (IntKind.wrap .i64 (Int.tdiv (IntKind.wrap .i64 p0) 8)) 8), (Int.tmod (IntKind.wrap .i64 p0) 8), (Int.tmod (IntKind.wrap .i64 (Int.tdiv (IntKind.wrap .i64 p0) 16)) 4), (Int.tmod (IntKind.wrap .i64 (Int.tdiv (IntKind.wrap .i64 p0) 8)) 2))
theorem charabancref08_Fields_27_ok (K : Nat) (M0 : Nat → Prop) (w0 : World) (p0 : Int) (ho : ∀ b, M0 b → b < w0.heap.size) {r : Int × Int × Int × Int × Int} (h : charabancref08_Fields_27.f K p0 = some r) :
  Calls Tryz.prog 27 #[iB p0] w0 (charabancref08_Fields_27.post M0 w0 r) := by
 unfold charabancref08_Fields_27.f at h
 have h0 : Holds M0 w0 w0 [] := Holds.start ho
 refine calls_of F27 rfl [iB p0] (by kernel_rfl) (Xq 1 1 [.c 2] 5 [(0, iB p0)] (Yq 1 3 [.c 4] 3 [(7, iA (wA p0))] (Yq 1 5 [.c 6] 18 [(2, iA (wA (Int.tdiv (wA p0) 64))), (3, iA (Int.tmod (wA (Int.tdiv (wA p0) 8)) 8)), (4, iA (Int.tmod (wA p0) 8)), (5, iA (Int.tmod (wA (Int.tdiv (wA p0) 16)) 4)), (6, iA (Int.tmod (wA (Int.tdiv (wA p0) 8)) 2))] (Ye ?_))))
 obtain rfl := sI h
 exact Xt (.tuple #[iA (wA (Int.tdiv (wA p0) 64)), iA (Int.tmod (wA (Int.tdiv (wA p0) 8)) 8), iA (Int.tmod (wA p0) 8), iA (Int.tmod (wA (Int.tdiv (wA p0) 16)) 4), iA (Int.tmod (wA (Int.tdiv (wA p0) 8)) 2)]) ⟨rfl, h0.below⟩
end

section
abbrev charabancref01_Signed_28.post := pI
def charabancref01_Signed_28.f (K : Nat) (p0 : Int) : Option Int := cond (decide (p0 < 128)) (some (IntKind.wrap .i64 p0)) (some (IntKind.wrap .i64 ((IntKind.wrap .i64 p0) - 256)))
theorem charabancref01_Signed_28_ok (K : Nat) (M0 : Nat → Prop) (w0 : World) (p0 : Int) (ho : ∀ b, M0 b → b < w0.heap.size) {r : Int} (h : charabancref01_Signed_28.f K p0 = some r) :
  Calls Tryz.prog 28 #[iB p0] w0 (charabancref01_Signed_28.post M0 w0 r) := by
 unfold charabancref01_Signed_28.f at h
 have h0 : Holds M0 w0 w0 [] := Holds.start ho
 refine calls_of F28 rfl [iB p0] (by kernel_rfl) (Xq 1 1 [.c 2] 1 [(0, iB p0)] (Zy 2 4 [.c 5, .c 10] 2 [0, 4] [(4, tB (decide (p0 < 128)))] (Ye (Vc 4 6 9 h (fun hc1 h => ?_) fun hc1 h => ?_))))
 ·refine Xd 1 7 [.c 8, .c 10] 3 [(2, iA (wA p0))] ?_
  obtain rfl := sI h
  exact Xt (iA (wA p0)) ⟨rfl, h0.below⟩
 ·refine Xg 1 [.c 10] (Xd 1 11 [.c 12] 4 [(2, iA (wA ((wA p0) - 256)))] ?_)
  obtain rfl := sI h
  exact Xt (iA (wA ((wA p0) - 256))) ⟨rfl, h0.below⟩
end

section
def charabancref34_Target_9.post (M0 : Nat → Prop) (w0 : World) (r : Int × Bool) : Ending → World → Prop := fun e w => e = .returned (.tuple #[.int .u16 r.1, .bool r.2]) ∧ Below w0.heap.size w0 w
def charabancref34_Target_9.f (K : Nat) (p0_0 : Int) (p0_1 : Int) (p0_2 : Int) (p0_3 : Int) (p0_4 : Int) (p0_5 : Int) (p1 : Int) : Option (Int × Bool) := Let (fun (t8 : Bool) => cond t8 (some (0, false)) ((charabancref08_Fields_27.f K p0_1).bind fun yt19 => (charabancref01_Signed_28.f K (IntKind.wrap .u8 (Int.tmod p0_3 256))).bind fun t29 => Let (fun (t35 : Bool) => cond t35 (some ((IntKind.wrap .u16 ((IntKind.wrap .u16 (p1 + (IntKind.wrap .u16 p0_4))) + (IntKind.wrap .u16 (IntKind.wrap .i64 (t29 + 65536))))), true)) (Let (fun (t51 : Bool) => cond t51 (some (p0_3, true)) (Let (fun (t59 : Bool) => cond t59 (some ((IntKind.wrap .u16 (IntKind.wrap .i64 (8 * yt19.2.1))), true)) (some (0, false))) (fun j62 => cond (yt19.1 == 3) (j62 (yt19.2.2.1 == 7)) (j62 false)))) (fun j54 => cond (yt19.1 == 3) (cond (yt19.2.2.1 == 2) (j54 true) (cond (yt19.2.2.1 == 4) (j54 true) (cond (yt19.2.2.1 == 3) (cond (yt19.2.1 == 0) (j54 true) (cond (yt19.2.2.1 == 5) (cond (yt19.2.2.2.2 == 1) (j54 (yt19.2.2.2.1 == 0)) (j54 false)) (j54 false))) (cond (yt19.2.2.1 == 5) (cond (yt19.2.2.2.2 == 1) (j54 (yt19.2.2.2.1 == 0)) (j54 false)) (j54 false))))) (j54 false)))) (fun j38 => cond (yt19.1 == 0) (cond (yt19.2.2.1 == 0) (j38 (decide (yt19.2.1 ≥ 2))) (j38 false)) (j38 false)))) (fun j11 => cond (p0_0 != 0) (cond (p0_0 != 3) (j11 (p0_0 != 4)) (j11 false)) (j11 false))
theorem charabancref34_Target_9_ok (K : Nat) (M0 : Nat → Prop) (w0 : World) (a0 : Int) (a1 : Int) (a2 : Int) (a3 : Int) (a4 : Int) (a5 : Int) (p1 : Int) (ho : ∀ b, M0 b → b < w0.heap.size) {r : Int × Bool} (h : charabancref34_Target_9.f K a0 a1 a2 a3 a4 a5 p1 = some r) :
  Calls Tryz.prog 9 #[.agg #[iA a0, iB a1, iB a2, iC a3, iA a4, iA a5], iC p1] w0 (charabancref34_Target_9.post M0 w0 r) := by
 unfold charabancref34_Target_9.f at h
 have h0 : Holds M0 w0 w0 [] := Holds.start ho
 refine calls_of F9 rfl [.agg #[iA a0, iB a1, iB a2, iC a3, iA a4, iA a5], iC p1] (by kernel_rfl) (Xg 1 [.c 1, .c 2] (Xr (Yx 2 25 [iA a0, iB a1, iB a2, iC a3, iA a4, iA a5] h0 ?_)))
 intro w1 b2 h3 hb4 hn5
 refine Yp 2 [(1, iC p1), (2, pt b2)] (Zy 2 4 [.c 5, .c 10] 1 [1, 2, 12] [(12, pt b2)] (Ya 13 0 3 b2 0 (iA a0) h3 rfl (Zp 2 [1, 2, 15] [(15, tB (a0 != 0))] ?_)))
 obtain ⟨j11, hJ12, h⟩ := of_let h
 have hj13 : ∀ (t8 : Bool) (w10 : World), j11 t8 = some r → Holds M0 w0 w10 [box b2 25 [iA a0, iB a1, iB a2, iC a3, iA a4, iA a5]] → RegI F9 4 [.c 5, .c 10] 13 [(1, iC p1), (2, pt b2), (24, tB t8)] w10 (charabancref34_Target_9.post M0 w0 r) := by
  intro t8 w10 h h9
  rw [hJ12] at h
  clear hJ12
  dsimp only at h
  refine Ye (Vc 24 6 9 h (fun hc14 h => ?_) fun hc14 h => ?_)
  ·refine Xd 1 7 [.c 8, .c 10] 2 [(4, iC 0), (5, tB false)] ?_
   obtain rfl := sI h
   exact Xt (.tuple #[iC 0, tB false]) ⟨rfl, h9.below⟩
  ·refine Xg 1 [.c 10] (Xq 1 11 [.c 12] 1 [(1, iC p1), (2, pt b2), (26, pu b2 1)] (Ya 27 0 5 b2 1 (iB a1) h9 rfl ?_))
   obtain ⟨⟨t19, t20, t21, t22, t23⟩, hg18, h⟩ := of_bind h
   dsimp only at h
   refine Yc 28 27 #[iB a1] ((charabancref08_Fields_27_ok K _ w10  a1 h9.old' hg18).mono ?_)
   rintro _ w15 ⟨rfl, hb16⟩
   refine ⟨_, rfl, ?_⟩
   have h17 := h9.call hb16
   refine Zd 11 [1, 2, 6, 7, 8, 9, 10] [(6, iA t19), (7, iA t20), (8, iA t21), (9, iA t22), (10, iA t23)] (Xg 1 [.c 13, .c 14] (RunsI.any 14 (by kernel_rfl) (by kernel_rfl) (by kernel_rfl) (Kp ([] : List Nat) (World.drew w15)) ?_))
   have h25 := h17.drew
   generalize World.drew w15 = w24 at h25 ⊢
   have hS26 := Kp.refl ([] : List Nat) w24
   refine Wu 0 34 (iC p1) hS26 (Wu 1 35 (pu b2 4) hS26 (Wa 2 36 0 3 b2 4 (iA a4) [] h25 rfl hS26 rfl (Wu 3 37 (iC (wC a4)) hS26 (Wu 4 38 (iC (wC (p1 + (wC a4)))) hS26 (Wu 5 39 (pu b2 3) hS26 (Wa 6 40 0 23 b2 3 (iC a3) [] h25 rfl hS26 rfl (Wu 7 41 (iC (Int.tmod a3 256)) hS26 (Wu 8 42 (iB (wB (Int.tmod a3 256))) hS26 ?_))))))))
   obtain ⟨t29, hg28, h⟩ := of_bind h
   refine Wc 9 43 (iA t29) 28 #[iB (wB (Int.tmod a3 256))] hS26 (fun w hk => charabancref01_Signed_28_ok K (fun _ => False) w (wB (Int.tmod a3 256)) nF hg28) (Wu 10 44 (iA (wA (t29 + 65536))) hS26 (Wu 11 45 (iC (wC (wA (t29 + 65536)))) hS26 (Wu 12 46 (iC (wC ((wC (p1 + (wC a4))) + (wC (wA (t29 + 65536)))))) hS26 (Wu 13 11 (iC (wC ((wC (p1 + (wC a4))) + (wC (wA (t29 + 65536)))))) hS26 (AnyE.done (by kernel_rfl) (fun w30 hu31 => ?_))))))
   have h32 := h25.call hu31
   refine Vl [(2, pt b2), (6, iA t19), (7, iA t20), (8, iA t21), (9, iA t22), (10, iA t23), (11, iC (wC ((wC (p1 + (wC a4))) + (wC (wA (t29 + 65536))))))] (Zq 3 17 [.c 18, .blk 0, .c 35] 3 [2, 6, 7, 8, 9, 10, 11, 50] [(50, tB (t19 == 0))] ?_)
   obtain ⟨j38, hJ39, h⟩ := of_let h
   have hj40 : ∀ (t35 : Bool) (w37 : World), j38 t35 = some r → Holds M0 w0 w37 [box b2 25 [iA a0, iB a1, iB a2, iC a3, iA a4, iA a5]] → RegI F9 17 [.c 18, .blk 0, .c 35] 11 [(2, pt b2), (6, iA t19), (7, iA t20), (8, iA t21), (9, iA t22), (10, iA t23), (11, iC (wC ((wC (p1 + (wC a4))) + (wC (wA (t29 + 65536)))))), (47, tB t35)] w37 (charabancref34_Target_9.post M0 w0 r) := by
    intro t35 w37 h h36
    rw [hJ39] at h
    clear hJ39
    dsimp only at h
    refine Ye (Vc 47 19 22 h (fun hc41 h => ?_) fun hc41 h => ?_)
    ·refine Xd 1 20 [.c 21, .blk 0, .c 35] 3 [(4, iC (wC ((wC (p1 + (wC a4))) + (wC (wA (t29 + 65536)))))), (5, tB true)] ?_
     obtain rfl := sI h
     exact Xt (.tuple #[iC (wC ((wC (p1 + (wC a4))) + (wC (wA (t29 + 65536))))), tB true]) ⟨rfl, h36.below⟩
    ·refine Xq 1 23 [.c 24, .blk 0, .c 35] 3 [(2, pt b2), (6, iA t19), (7, iA t20), (8, iA t21), (9, iA t22), (10, iA t23), (62, tB (t19 == 3))] ?_
     obtain ⟨j54, hJ55, h⟩ := of_let h
     have hj56 : ∀ (t51 : Bool) (w53 : World), j54 t51 = some r → Holds M0 w0 w53 [box b2 25 [iA a0, iB a1, iB a2, iC a3, iA a4, iA a5]] → RegI F9 23 [.c 24, .blk 0, .c 35] 31 [(2, pt b2), (6, iA t19), (7, iA t20), (8, iA t21), (59, tB t51)] w53 (charabancref34_Target_9.post M0 w0 r) := by
      intro t51 w53 h h52
      rw [hJ55] at h
      clear hJ55
      dsimp only at h
      refine Ye (Vc 59 25 28 h (fun hc57 h => ?_) fun hc57 h => ?_)
      ·refine Xq 1 26 [.c 27, .blk 0, .c 35] 1 [(90, pu b2 3)] (Ya 91 0 23 b2 3 (iC a3) h52 rfl (Yd 2 [(4, iC a3), (5, tB true)] ?_))
       obtain rfl := sI h
       exact Xt (.tuple #[iC a3, tB true]) ⟨rfl, h52.below⟩
      ·refine Xq 1 29 [.c 30, .blk 0, .c 35] 3 [(7, iA t20), (8, iA t21), (95, tB (t19 == 3))] ?_
       obtain ⟨j62, hJ63, h⟩ := of_let h
       have hj64 : ∀ (t59 : Bool) (w61 : World), j62 t59 = some r → Holds M0 w0 w61 [] → RegI F9 29 [.c 30, .blk 0, .c 35] 7 [(7, iA t20), (92, tB t59)] w61 (charabancref34_Target_9.post M0 w0 r) := by
        intro t59 w61 h h60
        rw [hJ63] at h
        clear hJ63
        dsimp only at h
        refine Ye (Vc 92 31 34 h (fun hc65 h => ?_) fun hc65 h => ?_)
        ·refine Xd 1 32 [.c 33, .blk 0, .c 35] 5 [(4, iC (wC (wA (8 * t20)))), (5, tB true)] ?_
         obtain rfl := sI h
         exact Xt (.tuple #[iC (wC (wA (8 * t20))), tB true]) ⟨rfl, h60.below⟩
        ·refine Xg 1 [.blk 0, .c 35] (Xd 2 36 [.c 37] 2 [(4, iC 0), (5, tB false)] ?_)
         obtain rfl := sI h
         exact Xt (.tuple #[iC 0, tB false]) ⟨rfl, h60.below⟩
       clear hJ63
       rcases oc h with ⟨hc58, h⟩ | ⟨hc58, h⟩
       ·refine Yf 95 true hc58 (Zp 4 [7, 92] [(92, tB (t21 == 7))] (Ul [(7, iA t20), (92, tB (t21 == 7))] ?_))
        exact hj64 (t21 == 7) w53 h (h52.pk [])
       ·refine Yf 95 false hc58 (Zp 4 [7, 92] [(92, tB false)] (Ul [(7, iA t20), (92, tB false)] ?_))
        exact hj64 false w53 h (h52.pk [])
     clear hJ55
     rcases oc h with ⟨hc42, h⟩ | ⟨hc42, h⟩
     ·refine Yf 62 true hc42 (Zp 3 [2, 6, 7, 8, 9, 10, 62, 65] [(65, tB (t21 == 2))] ?_)
      rcases oc h with ⟨hc43, h⟩ | ⟨hc43, h⟩
      ·refine Yf 65 true hc43 (Zp 25 [2, 6, 7, 8, 59] [(59, tB true)] (Ul [(2, pt b2), (6, iA t19), (7, iA t20), (8, iA t21), (59, tB true)] ?_))
       exact hj56 true w37 h (h36.pk [0])
      ·refine Yf 65 false hc43 (Zp 4 [2, 6, 7, 8, 9, 10, 62, 69] [(69, tB (t21 == 4))] ?_)
       rcases oc h with ⟨hc44, h⟩ | ⟨hc44, h⟩
       ·refine Yf 69 true hc44 (Zp 21 [2, 6, 7, 8, 59] [(59, tB true)] (Ul [(2, pt b2), (6, iA t19), (7, iA t20), (8, iA t21), (59, tB true)] ?_))
        exact hj56 true w37 h (h36.pk [0])
       ·refine Yf 69 false hc44 (Zp 3 [2, 6, 7, 8, 9, 10, 62, 69, 72] [(72, tB (t21 == 3))] ?_)
        rcases oc h with ⟨hc45, h⟩ | ⟨hc45, h⟩
        ·refine Yf 72 true hc45 (Zp 5 [2, 6, 7, 8, 9, 10, 62, 77] [(77, tB (t20 == 0))] ?_)
         rcases oc h with ⟨hc46, h⟩ | ⟨hc46, h⟩
         ·refine Yf 77 true hc46 (Zp 13 [2, 6, 7, 8, 59] [(59, tB true)] (Ul [(2, pt b2), (6, iA t19), (7, iA t20), (8, iA t21), (59, tB true)] ?_))
          exact hj56 true w37 h (h36.pk [0])
         ·refine Yf 77 false hc46 (Zp 3 [2, 6, 7, 8, 9, 10, 62, 77, 80] [(80, tB (t21 == 5))] ?_)
          rcases oc h with ⟨hc47, h⟩ | ⟨hc47, h⟩
          ·refine Yf 80 true hc47 (Zp 4 [2, 6, 7, 8, 9, 62, 77, 84] [(84, tB (t23 == 1))] ?_)
           rcases oc h with ⟨hc48, h⟩ | ⟨hc48, h⟩
           ·refine Yf 84 true hc48 (Zp 6 [2, 6, 7, 8, 59] [(59, tB (t22 == 0))] (Ul [(2, pt b2), (6, iA t19), (7, iA t20), (8, iA t21), (59, tB (t22 == 0))] ?_))
            exact hj56 (t22 == 0) w37 h (h36.pk [0])
           ·refine Yf 84 false hc48 (Zp 6 [2, 6, 7, 8, 59] [(59, tB false)] (Ul [(2, pt b2), (6, iA t19), (7, iA t20), (8, iA t21), (59, tB false)] ?_))
            exact hj56 false w37 h (h36.pk [0])
          ·refine Yf 80 false hc47 (Zp 10 [2, 6, 7, 8, 59] [(59, tB false)] (Ul [(2, pt b2), (6, iA t19), (7, iA t20), (8, iA t21), (59, tB false)] ?_))
           exact hj56 false w37 h (h36.pk [0])
        ·refine Yf 72 false hc45 (Zp 8 [2, 6, 7, 8, 9, 10, 62, 77, 80] [(77, tB false), (80, tB (t21 == 5))] ?_)
         rcases oc h with ⟨hc49, h⟩ | ⟨hc49, h⟩
         ·refine Yf 80 true hc49 (Zp 4 [2, 6, 7, 8, 9, 62, 77, 84] [(84, tB (t23 == 1))] ?_)
          rcases oc h with ⟨hc50, h⟩ | ⟨hc50, h⟩
          ·refine Yf 84 true hc50 (Zp 6 [2, 6, 7, 8, 59] [(59, tB (t22 == 0))] (Ul [(2, pt b2), (6, iA t19), (7, iA t20), (8, iA t21), (59, tB (t22 == 0))] ?_))
           exact hj56 (t22 == 0) w37 h (h36.pk [0])
          ·refine Yf 84 false hc50 (Zp 6 [2, 6, 7, 8, 59] [(59, tB false)] (Ul [(2, pt b2), (6, iA t19), (7, iA t20), (8, iA t21), (59, tB false)] ?_))
           exact hj56 false w37 h (h36.pk [0])
         ·refine Yf 80 false hc49 (Zp 10 [2, 6, 7, 8, 59] [(59, tB false)] (Ul [(2, pt b2), (6, iA t19), (7, iA t20), (8, iA t21), (59, tB false)] ?_))
          exact hj56 false w37 h (h36.pk [0])
     ·refine Yf 62 false hc42 (Zp 28 [2, 6, 7, 8, 59] [(59, tB false)] (Ul [(2, pt b2), (6, iA t19), (7, iA t20), (8, iA t21), (59, tB false)] ?_))
      exact hj56 false w37 h (h36.pk [0])
   clear hJ39
   rcases oc h with ⟨hc33, h⟩ | ⟨hc33, h⟩
   ·refine Yf 50 true hc33 (Zp 4 [2, 6, 7, 8, 9, 10, 11, 54] [(54, tB (t21 == 0))] ?_)
    rcases oc h with ⟨hc34, h⟩ | ⟨hc34, h⟩
    ·refine Yf 54 true hc34 (Zp 4 [2, 6, 7, 8, 9, 10, 11, 47] [(47, tB (decide (t20 ≥ 2)))] (Ul [(2, pt b2), (6, iA t19), (7, iA t20), (8, iA t21), (9, iA t22), (10, iA t23), (11, iC (wC ((wC (p1 + (wC a4))) + (wC (wA (t29 + 65536)))))), (47, tB (decide (t20 ≥ 2)))] ?_))
     exact hj40 (decide (t20 ≥ 2)) w30 h (h32.pk [0])
    ·refine Yf 54 false hc34 (Zp 4 [2, 6, 7, 8, 9, 10, 11, 47] [(47, tB false)] (Ul [(2, pt b2), (6, iA t19), (7, iA t20), (8, iA t21), (9, iA t22), (10, iA t23), (11, iC (wC ((wC (p1 + (wC a4))) + (wC (wA (t29 + 65536)))))), (47, tB false)] ?_))
     exact hj40 false w30 h (h32.pk [0])
   ·refine Yf 50 false hc33 (Zp 8 [2, 6, 7, 8, 9, 10, 11, 47] [(47, tB false)] (Ul [(2, pt b2), (6, iA t19), (7, iA t20), (8, iA t21), (9, iA t22), (10, iA t23), (11, iC (wC ((wC (p1 + (wC a4))) + (wC (wA (t29 + 65536)))))), (47, tB false)] ?_))
    exact hj40 false w30 h (h32.pk [0])
 clear hJ12
 rcases oc h with ⟨hc6, h⟩ | ⟨hc6, h⟩
 ·refine Yf 15 true hc6 (Zp 1 [1, 2, 15, 16] [(16, pt b2)] (Ya 17 0 3 b2 0 (iA a0) h3 rfl (Zp 3 [1, 2, 20] [(20, tB (a0 != 3))] ?_)))
  rcases oc h with ⟨hc7, h⟩ | ⟨hc7, h⟩
  ·refine Yf 20 true hc7 (Zp 1 [1, 2, 20, 21] [(21, pt b2)] (Ya 22 0 3 b2 0 (iA a0) h3 rfl (Zp 2 [1, 2, 24] [(24, tB (a0 != 4))] (Ul [(1, iC p1), (2, pt b2), (24, tB (a0 != 4))] ?_))))
   exact hj13 (a0 != 4) w1 h (h3.pk [0])
  ·refine Yf 20 false hc7 (Zp 4 [1, 2, 24] [(24, tB false)] (Ul [(1, iC p1), (2, pt b2), (24, tB false)] ?_))
   exact hj13 false w1 h (h3.pk [0])
 ·refine Yf 15 false hc6 (Zp 9 [1, 2, 24] [(24, tB false)] (Ul [(1, iC p1), (2, pt b2), (24, tB false)] ?_))
  exact hj13 false w1 h (h3.pk [0])
end

section
abbrev charabancref34_many_32.post := pI
def charabancref34_many_32.f (K : Nat) (p0 : Int) : Option Int := some (if 200 < (if 0 > p0 then 0 else p0) then 200 else (if 0 > p0 then 0 else p0))
theorem charabancref34_many_32_ok (K : Nat) (M0 : Nat → Prop) (w0 : World) (p0 : Int) (ho : ∀ b, M0 b → b < w0.heap.size) {r : Int} (h : charabancref34_many_32.f K p0 = some r) :
  Calls Tryz.prog 32 #[iA p0] w0 (charabancref34_many_32.post M0 w0 r) := by
 unfold charabancref34_many_32.f at h
 have h0 : Holds M0 w0 w0 [] := Holds.start ho
 refine calls_of F32 rfl [iA p0] (by kernel_rfl) (Xq 1 1 [.c 2] 1 [(0, iA p0)] (Yq 1 3 [.c 4] 4 [(2, iA (if 200 < (if 0 > p0 then 0 else p0) then 200 else (if 0 > p0 then 0 else p0)))] (Ye ?_)))
 obtain rfl := sI h
 exact Xt (iA (if 200 < (if 0 > p0 then 0 else p0) then 200 else (if 0 > p0 then 0 else p0))) ⟨rfl, h0.below⟩
end
end Go.Proofs.YtbcepghanbkncaaGreatDoor.LiT
