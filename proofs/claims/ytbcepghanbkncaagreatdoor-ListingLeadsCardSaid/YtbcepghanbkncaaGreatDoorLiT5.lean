/- Functions of the program as plain Lean functions, each with the proof that the call comes to it; written by wip/eng.py. -/
import Derived.Test.YtbcepghanbkncaaGreatDoorEngShort2
import Derived.Test.YtbcepghanbkncaaGreatDoorLiT4
import Derived.Test.YtbcepghanbkncaaGreatDoorLiTSrLibE
set_option linter.unusedVariables false
set_option linter.unusedSimpArgs false
set_option maxHeartbeats 4000000
namespace Go.Proofs.YtbcepghanbkncaaGreatDoor.LiT
open Go.RowKit Go.Eng
set_option maxRecDepth 100000
abbrev se0 : ByteArray := ⟨#[40]⟩
abbrev se1 : ByteArray := ⟨#[41]⟩
abbrev se2 : ByteArray := ⟨#[108, 100, 32]⟩
abbrev se3 : ByteArray := ⟨#[44]⟩
abbrev se4 : ByteArray := ⟨#[48, 49, 50, 51, 52, 53, 54, 55, 56, 57, 97, 98, 99, 100, 101, 102, 103, 104, 105, 106, 107, 108, 109, 110, 111, 112, 113, 114, 115, 116, 117, 118, 119, 120, 121, 122]⟩
abbrev se5 : ByteArray := ⟨#[45]⟩
abbrev se6 : ByteArray := ⟨#[104]⟩
abbrev se7 : ByteArray := ⟨#[44, 97]⟩
abbrev se8 : ByteArray := ⟨#[108, 100, 32, 97, 44]⟩
abbrev se9 : ByteArray := ⟨#[108, 100, 32, 40, 98, 99, 41, 44, 97]⟩
abbrev se10 : ByteArray := ⟨#[108, 100, 32, 97, 44, 40, 98, 99, 41]⟩
abbrev se11 : ByteArray := ⟨#[108, 100, 32, 40, 100, 101, 41, 44, 97]⟩
abbrev se12 : ByteArray := ⟨#[108, 100, 32, 97, 44, 40, 100, 101, 41]⟩
section
def listing_Targets_10.post (M0 : Nat → Prop) (w0 : World) (r : (List Int)) : Ending → World → Prop := fun e w => ∃ (A1 : Option Addr) (c1 : Nat), e = .returned (.slice A1 r.length c1) ∧ Holds M0 w0 w [own (Rp.int .u16) 23 (.slice A1 r.length c1) r]
def listing_Targets_10.l0 (K : Nat) (p0 : List (Int × Int)) (p1 : Int) (p2 : Int) : Nat → (List (Int × Bool)) → Int → Int → Option ((List (Int × Bool)) × Int)
 | 0, _, _, _ => none
 | k + 1, t39, t43, t44 => cond (decide (t44 < (if 200 < p2 then 200 else p2))) ((listing_at_49.f K p0 t43).bind fun yt51 => Let (fun (t106 : (List (Int × Bool))) => (listing_one_next_34.f K yt51.1 yt51.2.1 yt51.2.2.1 yt51.2.2.2.1 yt51.2.2.2.2.1 yt51.2.2.2.2.2.1 yt51.2.2.2.2.2.2.1 yt51.2.2.2.2.2.2.2.1 yt51.2.2.2.2.2.2.2.2).bind fun t116 => listing_Targets_10.l0 K p0 p1 p2 k t106 t116 (IntKind.wrap .i64 (t44 + 1))) (fun j109 => (listing_Target_8.f K yt51.2.2.1 yt51.2.2.2.1 yt51.2.2.2.2.1 yt51.2.2.2.2.2.1 yt51.2.2.2.2.2.2.1 yt51.2.2.2.2.2.2.2.1 yt51.1).bind fun yt87 => Let (fun (t90 : Bool) => cond t90 (j109 (insK t39 yt87.1 true)) (j109 t39)) (fun j93 => cond yt87.2 (j93 yt51.2.2.2.2.2.2.2.2) (j93 false)))) (some (t39, t43))
theorem listing_Targets_10.l0_ok (K : Nat) (M0 : Nat → Prop) (w0 : World) (pA0 : Option Addr) (pc0 : Nat) (p0 : List (Int × Int)) (p1 : Int) (p2 : Int) (b36 : Nat) (b37 : Nat) (b38 : Nat) (b40 : Nat) (b41 : Nat) (b42 : Nat) (b45 : Nat) (R : Ending → World → Prop) (x : (List (Int × Bool)) × Int) (hk0 : ∀ (t120 : List (Int × Bool)) (t121 : Int) (w1 : World), x = (t120, t121) → Holds M0 w0 w1 [box b37 48 [.map (some b38)], mp (ekI .u16) (fun (x : Bool) => Value.bool x) b38 t120, box b40 3 [iA p2], box b41 22 [sV pA0 p0 pc0], sl (Rp.pair rC rB) (sV pA0 p0 pc0) p0, box b42 23 [iC t121], rng F10 8 b36 [(7, pt b37), (15, .func (.func 48) #[] #[pt b40, pt b41, pt b42])] .ready none, dfr b45] → RunsI F48 [] [] w1 R) :
  ∀ (k : Nat) (t39 : List (Int × Bool)) (t43 : Int) (t44 : Int) (w : World), listing_Targets_10.l0 K p0 p1 p2 k t39 t43 t44 = some x → Holds M0 w0 w [rng F10 8 b36 [(7, pt b37), (15, .func (.func 48) #[] #[pt b40, pt b41, pt b42])] .ready none, box b37 48 [.map (some b38)], mp (ekI .u16) (fun (x : Bool) => Value.bool x) b38 t39, box b40 3 [iA p2], box b41 22 [sV pA0 p0 pc0], sl (Rp.pair rC rB) (sV pA0 p0 pc0) p0, box b42 23 [iC t43], dfr b45] → RunsI F48 [.c 4, .lp 4, .blk 0] [(0, .func (.yield b36) #[] #[]), (2, pt b41), (3, pt b42), (7, iA (if 200 < p2 then 200 else p2)), (8, iA t44)] w R := by
 intro k
 induction k with
 | zero => intro t39 t43 t44 w h hH; exact absurd h (by simp [listing_Targets_10.l0])
 | succ k ih =>
  intro t39 t43 t44 w h hH
  rw [listing_Targets_10.l0.eq_2] at h
  refine Xd 1 5 [.c 6, .lp 4, .blk 0] 1 [(0, .func (.yield b36) #[] #[]), (2, pt b41), (3, pt b42), (7, iA (if 200 < p2 then 200 else p2)), (8, iA t44), (9, tB (decide (t44 < (if 200 < p2 then 200 else p2))))] (Xg 1 [.c 7, .c 10, .lp 4, .blk 0] (Vc 9 8 9 h (fun hc46 h => ?_) fun hc46 h => ?_))
  ·refine Xg 1 [.c 10, .lp 4, .blk 0] (Xg 3 [.c 13, .c 14, .blk 1, .c 21, .lp 4, .blk 0] (Xr (Ya 10 4 22 b41 0 (sV pA0 p0 pc0) hH rfl (Ya 11 6 23 b42 0 (iC t43) hH rfl ?_))))
   obtain ⟨⟨t51, t52, t56, t57, t58, t59, t60, t61, t62⟩, hg50, h⟩ := of_bind h
   dsimp only at h
   refine Yc 12 49 #[sV pA0 p0 pc0, iC t43] ((listing_at_49_ok K _ w  pA0 pc0 p0 t43 hH.old' (hH.get 5 rfl) hg50).mono ?_)
   rintro _ w47 ⟨A53, c54, rfl, hr63⟩
   refine ⟨_, rfl, ?_⟩
   have hb48 := hr63.below
   have h49 := hH.join hr63
   refine Yx 5 53 [iC 0, n0, iA 0, iB 0, iB 0, iC 0, iA 0, iA 0, tB false] h49 ?_
   intro w64 b65 h66 hb67 hn68
   refine Yb 9 53 b65 0 (.agg #[iC t51, sV A53 t52 c54, iA t56, iB t57, iB t58, iC t59, iA t60, iA t61, tB t62]) [iC t51, sV A53 t52 c54, iA t56, iB t57, iB t58, iC t59, iA t60, iA t61, tB t62] h66 rfl ?_
   intro w69 h70 hk71
   refine Yq 2 16 [.c 17, .c 20, .blk 1, .c 21, .lp 4, .blk 0] 1 [(0, .func (.yield b36) #[] #[]), (2, pt b41), (3, pt b42), (5, pt b65), (7, iA (if 200 < p2 then 200 else p2)), (8, iA t44), (13, .func (.yield b36) #[] #[])] (Ya 14 9 53 b65 0 (.agg #[iC t51, sV A53 t52 c54, iA t56, iB t57, iB t58, iC t59, iA t60, iA t61, tB t62]) h70 rfl (RegI.yield 15 b36 8 0 [.agg #[iC t51, sV A53 t52 c54, iA t56, iB t57, iB t58, iC t59, iA t60, iA t61, tB t62]] [0, 2, 3, 5, 7, 8] [(0, .func (.yield b36) #[] #[]), (2, pt b41), (3, pt b42), (5, pt b65), (7, iA (if 200 < p2 then 200 else p2)), (8, iA t44)] h70 (by kernel_rfl) (by kernel_rfl) (by kernel_rfl) (by kernel_rfl) rfl (by kernel_rfl) (by kernel_rfl) (by kernel_rfl) [.c 9, .bg, .c 10] (by kernel_rfl) [(16, .agg #[iC t51, sV A53 t52 c54, iA t56, iB t57, iB t58, iC t59, iA t60, iA t61, tB t62]), (7, pt b37), (15, .func (.func 48) #[] #[pt b40, pt b41, pt b42])] (by kernel_rfl) (Vl [(7, pt b37), (16, .agg #[iC t51, sV A53 t52 c54, iA t56, iB t57, iB t58, iC t59, iA t60, iA t61, tB t62])] ?_)))
   obtain ⟨j109, hJ110, h⟩ := of_let h
   have hj111 : ∀ (t106 : List (Int × Bool)) (w108 : World), j109 t106 = some x → Holds M0 w0 w108 [rng F10 8 b36 [(7, pt b37), (15, .func (.func 48) #[] #[pt b40, pt b41, pt b42])] .ready none, box b37 48 [.map (some b38)], mp (ekI .u16) (fun (x : Bool) => Value.bool x) b38 t106, box b40 3 [iA p2], box b41 22 [sV pA0 p0 pc0], sl (Rp.pair rC rB) (sV pA0 p0 pc0) p0, box b42 23 [iC t43], box b65 53 [iC t51, sV A53 t52 c54, iA t56, iB t57, iB t58, iC t59, iA t60, iA t61, tB t62], own rB 5 (sV A53 t52 c54) t52, dfr b45] → RegI F48 16 [.c 17, .c 20, .blk 1, .c 21, .lp 4, .blk 0] 3 [(0, .func (.yield b36) #[] #[]), (2, pt b41), (3, pt b42), (5, pt b65), (7, iA (if 200 < p2 then 200 else p2)), (8, iA t44), (15, tB true)] w108 R := by
    intro t106 w108 h h107
    rw [hJ110] at h
    clear hJ110
    dsimp only at h
    refine Yd 1 [(0, .func (.yield b36) #[] #[]), (2, pt b41), (3, pt b42), (5, pt b65), (7, iA (if 200 < p2 then 200 else p2)), (8, iA t44), (16, tB false)] (Xb false 19 (Xg 1 [.c 20, .blk 1, .c 21, .lp 4, .blk 0] (Xr (Ya 17 7 53 b65 0 (.agg #[iC t51, sV A53 t52 c54, iA t56, iB t57, iB t58, iC t59, iA t60, iA t61, tB t62]) h107 rfl ?_))))
    obtain ⟨t116, hg115, h⟩ := of_bind h
    refine Yc 18 34 #[.agg #[iC t51, sV A53 t52 c54, iA t56, iB t57, iB t58, iC t59, iA t60, iA t61, tB t62]] ((listing_one_next_34_ok K (fun _ => False) w108  A53 c54 t51 t52 t56 t57 t58 t59 t60 t61 t62 nF (h107.ownSl 8 rfl) hg115).mono ?_)
    rintro _ w112 ⟨rfl, hb113⟩
    refine ⟨_, rfl, ?_⟩
    have h114 := h107.call hb113
    refine Yb 6 23 b42 0 (iC t116) [iC t116] h114 rfl ?_
    intro w117 h118 hk119
    refine Zy 1 21 [.lp 4, .blk 0] 2 [0, 2, 3, 7, 8] [(8, iA (wA (t44 + 1)))] (Ye (Xg 1 [.c 4, .lp 4, .blk 0] (Vl [(0, .func (.yield b36) #[] #[]), (2, pt b41), (3, pt b42), (7, iA (if 200 < p2 then 200 else p2)), (8, iA (wA (t44 + 1)))] ?_)))
    exact ih t106 t116 (wA (t44 + 1)) w117 h (h118.pk [0, 1, 2, 3, 4, 5, 6, 9])
   clear hJ110
   refine Xr (Yx 8 53 [iC 0, n0, iA 0, iB 0, iB 0, iC 0, iA 0, iA 0, tB false] h70 ?_)
   intro w72 b73 h74 hb75 hn76
   refine Yb 10 53 b73 0 (.agg #[iC t51, sV A53 t52 c54, iA t56, iB t57, iB t58, iC t59, iA t60, iA t61, tB t62]) [iC t51, sV A53 t52 c54, iA t56, iB t57, iB t58, iC t59, iA t60, iA t61, tB t62] h74 rfl ?_
   intro w77 h78 hk79
   refine Ye (RunsI.begin 0 h78 rfl rfl ?_)
   intro w80 h81 hk82
   refine Xq 2 12 [.c 13, .blk 1] 1 [(7, pt b37), (8, pt b73), (18, pu b73 2)] (Ya 19 10 25 b73 2 (.agg #[iA t56, iB t57, iB t58, iC t59, iA t60, iA t61]) h81 rfl (Zp 1 [7, 8, 19, 20] [(19, .agg #[iA t56, iB t57, iB t58, iC t59, iA t60, iA t61]), (20, pt b73)] (Ya 21 10 23 b73 0 (iC t51) h81 rfl ?_)))
   obtain ⟨⟨t87, t88⟩, hg86, h⟩ := of_bind h
   dsimp only at h
   refine Yc 22 8 #[.agg #[iA t56, iB t57, iB t58, iC t59, iA t60, iA t61], iC t51] ((listing_Target_8_ok K _ w80  t56 t57 t58 t59 t60 t61 t51 h81.old' hg86).mono ?_)
   rintro _ w83 ⟨rfl, hb84⟩
   refine ⟨_, rfl, ?_⟩
   have h85 := h81.call hb84
   refine Zp 5 [7, 8, 9, 10] [(9, iC t87), (10, tB t88)] (Zy 1 14 [.c 15, .blk 1] 2 [7, 8, 9, 26] [(26, tB t88)] ?_)
   obtain ⟨j93, hJ94, h⟩ := of_let h
   have hj95 : ∀ (t90 : Bool) (w92 : World), j93 t90 = some x → Holds M0 w0 w92 [box b37 48 [.map (some b38)], mp (ekI .u16) (fun (x : Bool) => Value.bool x) b38 t39, box b40 3 [iA p2], box b41 22 [sV pA0 p0 pc0], sl (Rp.pair rC rB) (sV pA0 p0 pc0) p0, box b42 23 [iC t43], rng F10 8 b36 [(7, pt b37), (15, .func (.func 48) #[] #[pt b40, pt b41, pt b42])] .busy none, box b65 53 [iC t51, sV A53 t52 c54, iA t56, iB t57, iB t58, iC t59, iA t60, iA t61, tB t62], own rB 5 (sV A53 t52 c54) t52, dfr b45] → RegI (F10.rd b36) 14 [.c 15, .blk 1] 5 [(7, pt b37), (9, iC t87), (29, tB t90)] w92 (cont (fun e' w' => RegI F48 16 [.c 17, .c 20, .blk 1, .c 21, .lp 4, .blk 0] 3 e' w' R) 15 [(0, .func (.yield b36) #[] #[]), (2, pt b41), (3, pt b42), (5, pt b65), (7, iA (if 200 < p2 then 200 else p2)), (8, iA t44)]) := by
    intro t90 w92 h h91
    rw [hJ94] at h
    clear hJ94
    dsimp only at h
    refine Ye (Vc 29 16 17 h (fun hc96 h => ?_) fun hc96 h => ?_)
    ·refine Xr (Ya 30 0 48 b37 0 (.map (some b38)) h91 rfl (Yp 1 [(30, .map (some b38)), (31, iC t87)] (Yo (OpE.mapSet (ek := (ekI .u16)) (ev := (fun (x : Bool) => Value.bool x)) 1 48 23 4 t87 true h91 (by kernel_rfl) rfl (by kernel_rfl) rfl rfl (by kernel_rfl) (KeyOk.int .u16 (by kernel_rfl)) (insK t39 t87 true) rfl ?_))))
     intro w97 h98 hk99
     refine Ye (Xg 1 [] (RunsI.roundEnd 6 h98 rfl rfl ?_))
     intro w100 h101 hk102
     refine cont_mk (Ul [(0, .func (.yield b36) #[] #[]), (2, pt b41), (3, pt b42), (5, pt b65), (7, iA (if 200 < p2 then 200 else p2)), (8, iA t44), (15, tB true)] ?_)
     exact hj111 (insK t39 t87 true) w100 h (h101.pk [6, 0, 1, 2, 3, 4, 5, 7, 8, 9])
    ·refine Xg 1 [.blk 1] (Xg 1 [] (RunsI.roundEnd 6 h91 rfl rfl ?_))
     intro w103 h104 hk105
     refine cont_mk (Ul [(0, .func (.yield b36) #[] #[]), (2, pt b41), (3, pt b42), (5, pt b65), (7, iA (if 200 < p2 then 200 else p2)), (8, iA t44), (15, tB true)] ?_)
     exact hj111 t39 w103 h (h104.pk [6, 0, 1, 2, 3, 4, 5, 7, 8, 9])
   clear hJ94
   rcases oc h with ⟨hc89, h⟩ | ⟨hc89, h⟩
   ·refine Yf 26 true hc89 (Zp 1 [7, 9, 26, 27] [(27, pu b73 8)] (Ya 28 10 4 b73 8 (tB t62) h85 rfl (Zp 1 [7, 9, 29] [(29, tB t62)] (Ul [(7, pt b37), (9, iC t87), (29, tB t62)] ?_))))
    exact hj95 t62 w83 h (h85.pk [1, 2, 3, 4, 5, 6, 0, 9, 8, 7])
   ·refine Yf 26 false hc89 (Zp 3 [7, 9, 29] [(29, tB false)] (Ul [(7, pt b37), (9, iC t87), (29, tB false)] ?_))
    exact hj95 false w83 h (h85.pk [1, 2, 3, 4, 5, 6, 0, 9, 8, 7])
  ·refine Xg 1 [] (Vl [] ?_)
   exact hk0 t39 t43 w (sI h).symm (hH.pk [1, 2, 3, 4, 5, 6, 0, 7])
theorem listing_Targets_10.all_ok (K : Nat) (M0 : Nat → Prop) (w0 : World) (pA0 : Option Addr) (pc0 : Nat) (p0 : List (Int × Int)) (p1 : Int) (p2 : Int) (t162 : List (Int × Bool)) (b155 : Nat) (b156 : Nat) (b160 : Nat) (b161 : Nat) (b163 : Nat) (b164 : Nat) (b167 : Nat) (b168 : Nat) (R : Ending → World → Prop) (hm49 : t162.length ≤ 49) (hk0 : ∀ (t195 : List Int) (A193 : Option Addr) (c194 : Nat) (w1 : World), t195.Perm (t162.map Prod.fst) → (∀ b, (Value.slice A193 t195.length c194).ownBlock = some b → b167 < b) → Holds M0 w0 w1 [box b156 29 [sV A193 t195 c194], own rC 23 (sV A193 t195 c194) t195, box b160 48 [.map (some b161)], mpR (ekI .u16) (fun (x : Bool) => Value.bool x) b161 t162, dfr b167, rng F78 6 b155 [(2, pt b156), (6, .func (.func 52) #[] #[pt b160])] .ready none, dfr b168] → RunsI F52 [] [] w1 R) :
  ∀ (k : Nat) (t159 : List Int) (t165 : List (Int × Bool)) (t166 : Option (Int × Bool)) (A157 : Option Addr) (c158 : Nat) (w : World), t165.length = k → (t159 ++ t165.map Prod.fst).Perm (t162.map Prod.fst) → (∀ b, (Value.slice A157 t159.length c158).ownBlock = some b → b167 < b) → Holds M0 w0 w [rng F78 6 b155 [(2, pt b156), (6, .func (.func 52) #[] #[pt b160])] .ready none, box b156 29 [sV A157 t159 c158], own rC 23 (sV A157 t159 c158) t159, box b160 48 [.map (some b161)], mpR (ekI .u16) (fun (x : Bool) => Value.bool x) b161 t162, itr (ekI .u16) (fun (x : Bool) => Value.bool x) b163 b164 t165 t166, dfr b167, dfr b168] → RunsI F52 [.c 4, .lp 4, .blk 0] [(0, .func (.yield b155) #[] #[]), (5, pt b163)] w R := by
 intro k
 induction k with
 | zero =>
  intro t159 t165 t166 A157 c158 w hk hp hA hH
  obtain rfl : t165 = [] := List.eq_nil_of_length_eq_zero hk
  refine Xg 1 [.c 5, .c 6, .lp 4, .blk 0] (Xr (Yo (OpE.nextMap (ek := (ekI .u16)) (ev := (fun (x : Bool) => Value.bool x)) 6 5 hH (by kernel_rfl) rfl (by kernel_rfl) (fun _ => ?_) (fun p left' w' hp' _ => absurd hp'.length_eq (by simp)))))
  refine Yd 1 [(0, .func (.yield b155) #[] #[]), (5, pt b163), (7, tB false)] (Xg 1 [.c 7, .c 10, .lp 4, .blk 0] (Xb false 9 (Xg 1 [] (Vl [] ?_))))
  exact hk0 t159 A157 c158 w (by simpa using hp) hA (hH.pk [1, 2, 3, 4, 6, 0, 7])
 | succ k ih =>
  intro t159 t165 t166 A157 c158 w hk hp hA hH
  refine Xg 1 [.c 5, .c 6, .lp 4, .blk 0] (Xr (Yo (OpE.nextMap (ek := (ekI .u16)) (ev := (fun (x : Bool) => Value.bool x)) 6 5 hH (by kernel_rfl) rfl (by kernel_rfl) (fun h0 => by rw [h0] at hk; cases hk) (fun p left' w171 hp' h172 => ?_))))
  have hm' : left'.length = k := by have := hp'.length_eq; simp at this; omega
  have hp2 : (t159 ++ [p.1] ++ left'.map Prod.fst).Perm (t162.map Prod.fst) := by
   rw [List.append_assoc]
   exact ((hp'.map Prod.fst).symm.append_left t159).trans hp
  refine Yd 1 [(0, .func (.yield b155) #[] #[]), (5, pt b163), (7, tB true)] (Xg 1 [.c 7, .c 10, .lp 4, .blk 0] (Xb true 8 (Xg 3 [.c 12, .c 13, .blk 1, .lp 4, .blk 0] (Xr (Yo (OpE.entryMap (ek := (ekI .u16)) (ev := (fun (x : Bool) => Value.bool x)) 8 5 p h172 (by kernel_rfl) rfl (by kernel_rfl) (Yp 2 [(0, .func (.yield b155) #[] #[]), (3, iC p.1), (5, pt b163)] (Zy 1 14 [.c 15, .blk 1, .lp 4, .blk 0] 2 [0, 5, 10, 11] [(10, .func (.yield b155) #[] #[]), (11, iC p.1)] (RegI.yield 12 b155 6 0 [iC p.1] [0, 5] [(0, .func (.yield b155) #[] #[]), (5, pt b163)] h172 (by kernel_rfl) (by kernel_rfl) (by kernel_rfl) (by kernel_rfl) rfl (by kernel_rfl) (by kernel_rfl) (by kernel_rfl) [.c 7, .bg, .c 8] (by kernel_rfl) [(7, iC p.1), (2, pt b156), (6, .func (.func 52) #[] #[pt b160])] (by kernel_rfl) (Vl [(2, pt b156), (7, iC p.1)] (Xr (Zd 1 [2, 5] [(5, iC p.1)] ?_))))))))))))
  refine RunsI.begin 0 h172 rfl rfl ?_
  intro w173 h174 hk175
  refine Xg 1 [.c 9, .blk 1] (Xr (Ya 8 1 29 b156 0 (sV A157 t159 c158) h174 rfl (Yp 1 [(2, pt b156), (8, sV A157 t159 c158), (9, iC p.1)] (Yo (OpE.lit 10 23 [iC p.1] 1 h174 (by kernel_rfl) (by kernel_rfl) ?_)))))
  intro w176 b177 h178 hb179 hn180
  have hc181 : mayBe (t159.length + ([p.1] : List Int).length) 2 = true := by
   have hl := hp2.length_eq
   simp only [List.length_append, List.length_map, List.length_cons, List.length_nil] at hl ⊢
   simp only [mayBe, Bool.and_eq_true, Nat.ble_eq]
   omega
  refine Yo (OpE.appendBoxN 11 2 8 29 23 2 ([p.1] : List Int) 0 h178 (by kernel_rfl) (by kernel_rfl) (by kernel_rfl) rfl rfl rfl (cells_int _ _ _ _) hc181 ?_)
  intro w182 A183 c184 h185 hk186 hA2
  refine Yb 1 29 b156 0 (.slice A183 ((t159 ++ ([p.1] : List Int)).length) c184) [.slice A183 ((t159 ++ ([p.1] : List Int)).length) c184] h185 rfl ?_
  intro w187 h188 hk189
  refine Ye (Xg 1 [] (RunsI.roundEnd 0 h188 rfl rfl ?_))
  intro w190 h191 hk192
  refine cont_mk (Yd 1 [(0, .func (.yield b155) #[] #[]), (5, pt b163), (13, tB false)] (Xb false 17 (Xg 3 [.c 4, .lp 4, .blk 0] (Vl [(0, .func (.yield b155) #[] #[]), (5, pt b163)] ?_))))
  exact ih (t159 ++ [p.1]) left' (some p) A183 c184 w190 hm' hp2 (fun b hb => (hA2 b hb).elim (hA b) fun hh => Nat.lt_of_lt_of_le (h178.mine b167 (List.mem_flatMap.2 ⟨_, List.mem_of_getElem? (i := 6) rfl, List.mem_singleton.2 rfl⟩)).2 hh) (h191.pk [0, 1, 2, 3, 4, 5, 6, 7])
def listing_Targets_10.f (K : Nat) (p0 : List (Int × Int)) (p1 : Int) (p2 : Int) : Option (List Int) := (listing_Targets_10.l0 K p0 p1 p2 K ([] : List (Int × Bool)) p1 0).bind (fun yx122 => cond (Nat.ble 1000 K && Nat.ble yx122.1.length 49 && distB (yx122.1.map Prod.fst)) (some (sortB id (yx122.1.map Prod.fst))) none)
theorem listing_Targets_10_ok (K : Nat) (M0 : Nat → Prop) (w0 : World) (pA0 : Option Addr) (pc0 : Nat) (p0 : List (Int × Int)) (p1 : Int) (p2 : Int) (ho : ∀ b, M0 b → b < w0.heap.size) (hs0 : Sl (Rp.pair rC rB) w0 M0 (sV pA0 p0 pc0) p0) {r : (List Int)} (h : listing_Targets_10.f K p0 p1 p2 = some r) :
  Calls Tryz.prog 10 #[sV pA0 p0 pc0, iC p1, iA p2] w0 (listing_Targets_10.post M0 w0 r) := by
 unfold listing_Targets_10.f at h
 have h0 : Holds M0 w0 w0 [] := Holds.start ho
 have h00 := h0.aS hs0
 have h0 : Holds M0 w0 w0 [sl (Rp.pair rC rB) (sV pA0 p0 pc0) p0] := h00
 refine calls_of F10 rfl [sV pA0 p0 pc0, iC p1, iA p2] (by kernel_rfl) (Xd 1 1 [.c 2] 1 [(0, sV pA0 p0 pc0), (1, iC p1), (2, iA p2)] (Xg 1 [.c 3, .c 4] (Xr (Yo (OpE.makeMap 11 (ekI .u16) (fun (x : Bool) => Value.bool x) h0 (by kernel_rfl) (by kernel_rfl) ?_)))))
 intro w1 b2 h3 hb4 hn5
 refine Yx 7 48 [.map none] h3 ?_
 intro w6 b7 h8 hb9 hn10
 refine Yb 2 48 b7 0 (.map (some b2)) [.map (some b2)] h8 rfl ?_
 intro w11 h12 hk13
 refine Yq 2 6 [.c 7, .c 18] 3 [(7, pt b7), (12, sV pA0 p0 pc0), (13, iC p1), (14, iA p2)] (RegI.enter 15 [7] [(7, pt b7)] (by kernel_rfl) (by kernel_rfl) (by kernel_rfl) (by kernel_rfl) F29 29 rfl [sV pA0 p0 pc0, iC p1, iA p2] (by kernel_rfl) (by kernel_rfl) (Xg 1 [.c 1, .c 2] (Xr (Yx 3 22 [sV pA0 p0 pc0] h12 ?_))))
 intro w14 b15 h16 hb17 hn18
 refine Yx 4 23 [iC p1] h16 ?_
 intro w19 b20 h21 hb22 hn23
 refine Yx 5 3 [iA p2] h21 ?_
 intro w24 b25 h26 hb27 hn28
 refine Yp 1 [(3, pt b15), (4, pt b20), (5, pt b25)] (Yq 1 3 [.c 4] 2 [(6, .func (.func 48) #[] #[pt b25, pt b15, pt b20])] (Ye (Xt (.func (.func 48) #[] #[pt b25, pt b15, pt b20]) (cont_mk (Ye (Xg 1 [.c 8, .blk 0, .c 18] (RunsI.rangeFunc (G := F48) [7, 15] [(7, pt b7), (15, .func (.func 48) #[] #[pt b25, pt b15, pt b20])] 48 [pt b25, pt b15, pt b20] h26 (by kernel_rfl) (by kernel_rfl) (by kernel_rfl) (fun _ _ => by kernel_rfl) rfl rfl (by kernel_rfl) rfl rfl ?_)))))))
 intro b29 b30 w31 h32 hb33 hn34 hn35
 refine Xg 1 [.c 1, .c 2] (Xr (Ya 6 5 3 b25 0 (iA p2) h32 rfl (Yd 2 [(0, .func (.yield b30) #[] #[]), (2, pt b15), (3, pt b20), (7, iA (if 200 < p2 then 200 else p2)), (8, iA 0)] (Xg 2 [.c 4, .lp 4, .blk 0] ?_))))
 obtain ⟨x122, hx123, h⟩ := of_bind h
 refine Vl [(0, .func (.yield b30) #[] #[]), (2, pt b15), (3, pt b20), (7, iA (if 200 < p2 then 200 else p2)), (8, iA 0)] (listing_Targets_10.l0_ok K M0 w0 pA0 pc0 p0 p1 p2 b30 b7 b2 b25 b15 b20 b29 _ x122 ?_ K ([] : List (Int × Bool)) p1 0 w31 hx123 (h32.pk [7, 2, 1, 5, 3, 0, 4, 6]))
 ·intro t124 t125 w127 hq216 h126
  (try rw [hq216] at h)
  dsimp only at h
  refine Xt (.tuple #[]) (contR_mk (RunsI.endLoop 6 h126 rfl rfl (by intro hh; cases hh) [.blk 0, .c 18] (by kernel_rfl) ?_))
  intro w128 h129 hk130
  refine Xg 2 [.c 19, .c 20] (Xr (Ya 32 0 48 b7 0 (.map (some b2)) h129 rfl (RegI.enter 33 [] [] (by kernel_rfl) (by kernel_rfl) (by kernel_rfl) (by kernel_rfl) F31 31 rfl [.map (some b2)] (by kernel_rfl) (by kernel_rfl) (Xg 1 [.c 1, .c 2] (Xr (Yx 1 48 [.map (some b2)] h129 ?_))))))
  intro w131 b132 h133 hb134 hn135
  refine Yp 1 [(1, pt b132)] (Yq 1 3 [.c 4] 2 [(2, .func (.func 52) #[] #[pt b132])] (Ye (Xt (.func (.func 52) #[] #[pt b132]) (cont_mk (RegI.enter 34 [] [] (by kernel_rfl) (by kernel_rfl) (by kernel_rfl) (by kernel_rfl) F30 30 rfl [.func (.func 52) #[] #[pt b132]] (by kernel_rfl) (by kernel_rfl) (Xq 1 1 [.c 2] 1 [(0, .func (.func 52) #[] #[pt b132])] (Yq 1 3 [.c 4] 1 [(4, .func (.func 52) #[] #[pt b132])] (RegI.enter 5 [] [] (by kernel_rfl) (by kernel_rfl) (by kernel_rfl) (by kernel_rfl) F50 50 rfl [.func (.func 52) #[] #[pt b132]] (by kernel_rfl) (by kernel_rfl) (Xq 1 1 [.c 2] 1 [(0, .func (.func 52) #[] #[pt b132])] (Yq 1 3 [.c 4] 1 [(3, .func (.func 52) #[] #[pt b132])] (RegI.enter 4 [] [] (by kernel_rfl) (by kernel_rfl) (by kernel_rfl) (by kernel_rfl) F78 78 rfl [n0, .func (.func 52) #[] #[pt b132]] (by kernel_rfl) (by kernel_rfl) ?_)))))))))))
  refine Xg 1 [.c 1, .c 2] (Xr (Yx 2 29 [n0] h133 ?_))
  intro w136 b137 h138 hb139 hn140
  refine Yp 1 [(1, .func (.func 52) #[] #[pt b132]), (2, pt b137)] (Zy 2 4 [.c 5, .c 10] 1 [2, 6] [(6, .func (.func 52) #[] #[pt b132])] (Ye (Xg 1 [.c 6, .blk 0, .c 10] (RunsI.rangeFunc (G := F52) [2, 6] [(2, pt b137), (6, .func (.func 52) #[] #[pt b132])] 52 [pt b132] h138 (by kernel_rfl) (by kernel_rfl) (by kernel_rfl) (fun _ _ => by kernel_rfl) rfl rfl (by kernel_rfl) rfl rfl ?_))))
  intro b141 b142 w143 h144 hb145 hn146 hn147
  refine Xg 1 [.c 1, .c 2] (Xr (Ya 4 8 48 b132 0 (.map (some b2)) h144 rfl ?_))
  have h148 := h144.releaseMap 1 rfl
  refine Yo (OpE.rangeMap (ek := (ekI .u16)) (ev := (fun (x : Bool) => Value.bool x)) 5 1 48 23 4 h148 (by kernel_rfl) rfl (by kernel_rfl) (by kernel_rfl) ?_)
  intro w149 b150 h151 hb152 hn153
  refine Ye (Xg 2 [.c 4, .lp 4, .blk 0] ?_)
  have ⟨hc196, h⟩ := oz h
  rw [Bool.and_eq_true, Bool.and_eq_true, Nat.ble_eq, Nat.ble_eq, distB_iff] at hc196
  have h154 := h151.addOwnNil rC 23
  refine Vl [(0, .func (.yield b142) #[] #[]), (5, pt b150)] (listing_Targets_10.all_ok K M0 w0 pA0 pc0 p0 p1 p2 t124 b142 b137 b132 b2 b150 b2 b29 b141 _ hc196.1.2 ?_ t124.length ([] : List Int) t124 none none 0 w149 rfl (List.Perm.refl _) (fun b hb => by cases hb) (h154.pk [11, 9, 13, 8, 1, 12, 7, 10]))
  ·intro t200 A198 c199 w202 hp217 hA h201
   refine Xt (.tuple #[]) (contR_mk (RunsI.endLoop 5 h201 rfl rfl (by intro hh; cases hh) [.blk 0, .c 10] (by kernel_rfl) ?_))
   intro w203 h204 hk205
   refine Xg 2 [.c 11, .c 12] (Xr (Ya 12 0 29 b137 0 (sV A198 t200 c199) h204 rfl (Yd 1 [(4, sV A198 t200 c199)] (RunsI.toRet (by kernel_rfl) (RetI.takeH 6 b141 h204 rfl ?_)))))
   intro w206 h207 hk208
   refine RetI.val (sV A198 t200 c199) (by kernel_rfl) (cont_mk (Yd 1 [(2, sV A198 t200 c199)] (Xt (sV A198 t200 c199) (cont_mk (Yp 1 [(3, sV A198 t200 c199)] (Zy 1 5 [.c 6] 1 [3, 6] [(6, sV A198 t200 c199)] ?_))))))
   have hD := (h207.mine b29 (List.mem_flatMap.2 ⟨_, List.mem_of_getElem? (i := 4) rfl, List.mem_singleton.2 rfl⟩)).2
   have hg212 := Sr.sort_one hc196.1.1 (xs := t200) (by rw [hp217.length_eq, List.length_map]; exact hc196.1.2) ((hp217.nodup_iff).2 hc196.2)
   refine Yc 7 51 #[sV A198 t200 c199] ((slices_Sort_uint16_uint16_51_ok K (fun _ => False) (upTo w206 b29) A198 c199 t200 (h207.alone (c := 1) rfl hD hA) hg212).mono ?_)
   rintro _ w209 ⟨rfl, h210⟩
   refine ⟨_, rfl, ?_⟩
   have h211 := h207.joined (j := 4) rfl (v' := .slice A198 (sortB id t200).length c199) (fun b hb => hA b (by cases A198 <;> exact hb)) h210
   refine Yq 1 7 [.c 8] 2 [(2, sV A198 t200 c199)] (Ye (Xt (sV A198 t200 c199) (cont_mk (Yd 1 [(6, sV A198 t200 c199)] (RunsI.toRet (by kernel_rfl) (RetI.takeH 1 b29 h211 rfl ?_))))))
   intro w213 h214 hk215
   refine RetI.val (sV A198 t200 c199) (by kernel_rfl) ?_
   obtain rfl := sI h
   have hs : sortB id t200 = sortB id (t124.map Prod.fst) := sortB_perm_eq id hp217 (by simpa using hc196.2)
   have hl : (sortB id (t124.map Prod.fst)).length = t200.length := by rw [(sortB_perm _ _).length_eq, hp217.length_eq]
   rw [hs] at h214
   exact ⟨A198, c199, by rw [hl], h214.pk [0]⟩
end

section
abbrev charabancref34_Words_11.post := pB
def charabancref34_Words_11.l0 (K : Nat) (p0 : List Int) (p1 : List Int) : Nat → Int → Option (Lp Unit Unit)
 | 0, _ => none
 | k + 1, t2 => cond (decide (t2 < (p0.length : Int))) (cond (inR t2 p0.length) (cond (inR t2 p1.length) (cond ((rdD p0 t2) != (rdD p1 t2)) (some (Lp.ret ())) (charabancref34_Words_11.l0 K p0 p1 k (IntKind.wrap .i64 (t2 + 1)))) none) none) (some (Lp.go ()))
theorem charabancref34_Words_11.l0_ok (K : Nat) (M0 : Nat → Prop) (w0 : World) (pA0 : Option Addr) (pc0 : Nat) (pA1 : Option Addr) (pc1 : Nat) (p0 : List Int) (p1 : List Int) (R : Ending → World → Prop) (x : Lp Unit Unit) (hk0 : ∀ (w1 : World), x = Lp.go () → Holds M0 w0 w1 [] → RunsI F11 [.c 31] [] w1 R) (hk1 : ∀ (w1 : World), x = Lp.ret () → Holds M0 w0 w1 [] → R (.returned (tB false)) w1) :
  ∀ (k : Nat) (t2 : Int) (w : World), charabancref34_Words_11.l0 K p0 p1 k t2 = some x → Holds M0 w0 w [sl rC (sV pA0 p0 pc0) p0, sl rC (sV pA1 p1 pc1) p1] → RunsI F11 [.c 15, .lp 15, .blk 0, .c 31] [(0, sV pA0 p0 pc0), (1, sV pA1 p1 pc1), (5, iA t2)] w R := by
 intro k
 induction k with
 | zero => intro t2 w h hH; exact absurd h (by simp [charabancref34_Words_11.l0])
 | succ k ih =>
  intro t2 w h hH
  rw [charabancref34_Words_11.l0.eq_2] at h
  refine Xg 1 [.c 16, .c 21, .lp 15, .blk 0, .c 31] (Xd 1 17 [.c 18, .c 21, .lp 15, .blk 0, .c 31] 4 [(0, sV pA0 p0 pc0), (1, sV pA1 p1 pc1), (5, iA t2), (14, tB (decide (t2 < (p0.length : Int))))] (Vc 14 19 20 h (fun hc3 h => ?_) fun hc3 h => ?_))
  ·refine Xg 1 [.c 21, .lp 15, .blk 0, .c 31] (Xg 3 [.c 24, .c 25, .blk 1, .c 30, .lp 15, .blk 0, .c 31] (RunsI.any 9 (by kernel_rfl) (by kernel_rfl) (by kernel_rfl) (Kp ([] : List Nat) (World.drew w)) ?_))
   have h5 := hH.drew
   generalize World.drew w = w4 at h5 ⊢
   have hS6 := Kp.refl ([] : List Nat) w4
   refine Wu 0 17 (sV pA0 p0 pc0) hS6 (Wu 1 18 (iA t2) hS6 ?_)
   have ⟨hc8, h⟩ := oz h
   refine AnyE.idxSl 2 19 0 29 t2 h5 (by kernel_rfl) hS6 rfl (by kernel_rfl) (by kernel_rfl) hc8 ?_
   intro b9 o10 cs11 hk12 h13
   obtain rfl := hk12
   refine AnyE.loadCel 3 20 2 23 b9 o10 0 (iC (rdD p0 t2)) [] h13 rfl (by kernel_rfl) hS6 rfl rfl (by kernel_rfl) (by kernel_rfl) (Wu 4 21 (sV pA1 p1 pc1) hS6 (Wu 5 22 (iA t2) hS6 ?_))
   have ⟨hc14, h⟩ := oz h
   refine AnyE.idxSl 6 23 1 29 t2 h13 (by kernel_rfl) hS6 rfl (by kernel_rfl) (by kernel_rfl) hc14 ?_
   intro b15 o16 cs17 hk18 h19
   obtain rfl := hk18
   refine AnyE.loadCel 7 24 3 23 b15 o16 0 (iC (rdD p1 t2)) [] h19 rfl (by kernel_rfl) hS6 rfl rfl (by kernel_rfl) (by kernel_rfl) (Wu 8 25 (tB ((rdD p0 t2) != (rdD p1 t2))) hS6 (AnyE.done (by kernel_rfl) (fun w20 hu21 => ?_)))
   have h22 := h19.call hu21
   refine Vl [(0, sV pA0 p0 pc0), (1, sV pA1 p1 pc1), (5, iA t2), (25, tB ((rdD p0 t2) != (rdD p1 t2)))] (Vc 25 26 29 h (fun hc23 h => ?_) fun hc23 h => ?_)
   ·refine Xd 1 27 [.c 28, .blk 1, .c 30, .lp 15, .blk 0, .c 31] 1 [(4, tB false)] (Xt (tB false) ?_)
    exact hk1 w20 (sI h).symm (h22.pk [])
   ·refine Xg 1 [.blk 1, .c 30, .lp 15, .blk 0, .c 31] (Xd 1 30 [.lp 15, .blk 0, .c 31] 3 [(0, sV pA0 p0 pc0), (1, sV pA1 p1 pc1), (5, iA (wA (t2 + 1)))] (Xg 1 [.c 15, .lp 15, .blk 0, .c 31] (Vl [(0, sV pA0 p0 pc0), (1, sV pA1 p1 pc1), (5, iA (wA (t2 + 1)))] ?_)))
    exact ih (wA (t2 + 1)) w20 h (h22.pk [0, 1])
  ·refine Xg 1 [.c 31] (Vl [] ?_)
   exact hk0 w (sI h).symm (hH.pk [])
def charabancref34_Words_11.f (K : Nat) (p0 : List Int) (p1 : List Int) : Option Bool := cond ((p0.length : Int) != (p1.length : Int)) (some false) ((charabancref34_Words_11.l0 K p0 p1 K 0).bind (fun x24 => Lp.elim x24 (fun _ => some false) (fun _ => some true)))
theorem charabancref34_Words_11_ok (K : Nat) (M0 : Nat → Prop) (w0 : World) (pA0 : Option Addr) (pc0 : Nat) (pA1 : Option Addr) (pc1 : Nat) (p0 : List Int) (p1 : List Int) (ho : ∀ b, M0 b → b < w0.heap.size) (hs0 : Sl rC w0 M0 (sV pA0 p0 pc0) p0) (hs1 : Sl rC w0 M0 (sV pA1 p1 pc1) p1) {r : Bool} (h : charabancref34_Words_11.f K p0 p1 = some r) :
  Calls Tryz.prog 11 #[sV pA0 p0 pc0, sV pA1 p1 pc1] w0 (charabancref34_Words_11.post M0 w0 r) := by
 unfold charabancref34_Words_11.f at h
 have h0 : Holds M0 w0 w0 [] := Holds.start ho
 have h00 := h0.aS hs0
 have h01 := h00.aS hs1
 have h0 : Holds M0 w0 w0 [sl rC (sV pA0 p0 pc0) p0, sl rC (sV pA1 p1 pc1) p1] := h01
 refine calls_of F11 rfl [sV pA0 p0 pc0, sV pA1 p1 pc1] (by kernel_rfl) (Xq 1 1 [.c 2] 1 [(0, sV pA0 p0 pc0), (1, sV pA1 p1 pc1)] (Zy 2 4 [.c 5, .c 10] 5 [0, 1, 10] [(10, tB ((p0.length : Int) != (p1.length : Int)))] (Ye (Vc 10 6 9 h (fun hc1 h => ?_) fun hc1 h => ?_))))
 ·refine Xd 1 7 [.c 8, .c 10] 1 [(4, tB false)] ?_
  obtain rfl := sI h
  exact Xt (tB false) ⟨rfl, h0.below⟩
 ·refine Xg 1 [.c 10] (Xd 2 12 [.c 13, .c 31] 1 [(0, sV pA0 p0 pc0), (1, sV pA1 p1 pc1), (5, iA 0)] (Xg 2 [.c 15, .lp 15, .blk 0, .c 31] ?_))
  obtain ⟨x24, hx25, h⟩ := of_bind h
  refine Vl [(0, sV pA0 p0 pc0), (1, sV pA1 p1 pc1), (5, iA 0)] (charabancref34_Words_11.l0_ok K M0 w0 pA0 pc0 pA1 pc1 p0 p1 _ x24 ?_ ?_ K 0 w0 hx25 (h0.pk [0, 1]))
  ·intro w27 hq30 h26
   (try rw [hq30] at h)
   dsimp only [Lp.elim] at h
   refine Xd 1 32 [.c 33] 1 [(4, tB true)] ?_
   obtain rfl := sI h
   exact Xt (tB true) ⟨rfl, h26.below⟩
  ·intro w29 hq31 h28
   (try rw [hq31] at h)
   dsimp only [Lp.elim] at h
   obtain rfl := sI h
   exact ⟨rfl, h28.below⟩
end

section
def listing_Next_13.post (M0 : Nat → Prop) (w0 : World) (r : Int) : Ending → World → Prop := fun e w => e = .returned (.int .u16 r) ∧ Below w0.heap.size w0 w
def listing_Next_13.l0 (K : Nat) (p0 : List (Int × Int)) (p1 : Int) (p2 : Int) : Nat → Int → Int → Int → Option (Int × Int)
 | 0, _, _, _ => none
 | k + 1, t30, t34, t35 => cond (decide (t35 < (if 200 < p2 then 200 else p2))) ((listing_at_49.f K p0 t34).bind fun yt42 => (listing_one_next_34.f K yt42.1 yt42.2.1 yt42.2.2.1 yt42.2.2.2.1 yt42.2.2.2.2.1 yt42.2.2.2.2.2.1 yt42.2.2.2.2.2.2.1 yt42.2.2.2.2.2.2.2.1 yt42.2.2.2.2.2.2.2.2).bind fun t78 => (listing_one_next_34.f K yt42.1 yt42.2.1 yt42.2.2.1 yt42.2.2.2.1 yt42.2.2.2.2.1 yt42.2.2.2.2.2.1 yt42.2.2.2.2.2.2.1 yt42.2.2.2.2.2.2.2.1 yt42.2.2.2.2.2.2.2.2).bind fun t89 => listing_Next_13.l0 K p0 p1 p2 k t78 t89 (IntKind.wrap .i64 (t35 + 1))) (some (t30, t34))
theorem listing_Next_13.l0_ok (K : Nat) (M0 : Nat → Prop) (w0 : World) (pA0 : Option Addr) (pc0 : Nat) (p0 : List (Int × Int)) (p1 : Int) (p2 : Int) (b28 : Nat) (b29 : Nat) (b31 : Nat) (b32 : Nat) (b33 : Nat) (b36 : Nat) (R : Ending → World → Prop) (x : Int × Int) (hk0 : ∀ (t93 : Int) (t94 : Int) (w1 : World), x = (t93, t94) → Holds M0 w0 w1 [box b29 23 [iC t93], box b31 3 [iA p2], box b32 22 [sV pA0 p0 pc0], sl (Rp.pair rC rB) (sV pA0 p0 pc0) p0, box b33 23 [iC t94], rng F13 6 b28 [(4, pt b29), (11, .func (.func 48) #[] #[pt b31, pt b32, pt b33])] .ready none, dfr b36] → RunsI F48 [] [] w1 R) :
  ∀ (k : Nat) (t30 : Int) (t34 : Int) (t35 : Int) (w : World), listing_Next_13.l0 K p0 p1 p2 k t30 t34 t35 = some x → Holds M0 w0 w [rng F13 6 b28 [(4, pt b29), (11, .func (.func 48) #[] #[pt b31, pt b32, pt b33])] .ready none, box b29 23 [iC t30], box b31 3 [iA p2], box b32 22 [sV pA0 p0 pc0], sl (Rp.pair rC rB) (sV pA0 p0 pc0) p0, box b33 23 [iC t34], dfr b36] → RunsI F48 [.c 4, .lp 4, .blk 0] [(0, .func (.yield b28) #[] #[]), (2, pt b32), (3, pt b33), (7, iA (if 200 < p2 then 200 else p2)), (8, iA t35)] w R := by
 intro k
 induction k with
 | zero => intro t30 t34 t35 w h hH; exact absurd h (by simp [listing_Next_13.l0])
 | succ k ih =>
  intro t30 t34 t35 w h hH
  rw [listing_Next_13.l0.eq_2] at h
  refine Xd 1 5 [.c 6, .lp 4, .blk 0] 1 [(0, .func (.yield b28) #[] #[]), (2, pt b32), (3, pt b33), (7, iA (if 200 < p2 then 200 else p2)), (8, iA t35), (9, tB (decide (t35 < (if 200 < p2 then 200 else p2))))] (Xg 1 [.c 7, .c 10, .lp 4, .blk 0] (Vc 9 8 9 h (fun hc37 h => ?_) fun hc37 h => ?_))
  ·refine Xg 1 [.c 10, .lp 4, .blk 0] (Xg 3 [.c 13, .c 14, .blk 1, .c 21, .lp 4, .blk 0] (Xr (Ya 10 3 22 b32 0 (sV pA0 p0 pc0) hH rfl (Ya 11 5 23 b33 0 (iC t34) hH rfl ?_))))
   obtain ⟨⟨t42, t43, t47, t48, t49, t50, t51, t52, t53⟩, hg41, h⟩ := of_bind h
   dsimp only at h
   refine Yc 12 49 #[sV pA0 p0 pc0, iC t34] ((listing_at_49_ok K _ w  pA0 pc0 p0 t34 hH.old' (hH.get 4 rfl) hg41).mono ?_)
   rintro _ w38 ⟨A44, c45, rfl, hr54⟩
   refine ⟨_, rfl, ?_⟩
   have hb39 := hr54.below
   have h40 := hH.join hr54
   refine Yx 5 53 [iC 0, n0, iA 0, iB 0, iB 0, iC 0, iA 0, iA 0, tB false] h40 ?_
   intro w55 b56 h57 hb58 hn59
   refine Yb 8 53 b56 0 (.agg #[iC t42, sV A44 t43 c45, iA t47, iB t48, iB t49, iC t50, iA t51, iA t52, tB t53]) [iC t42, sV A44 t43 c45, iA t47, iB t48, iB t49, iC t50, iA t51, iA t52, tB t53] h57 rfl ?_
   intro w60 h61 hk62
   refine Yq 2 16 [.c 17, .c 20, .blk 1, .c 21, .lp 4, .blk 0] 1 [(0, .func (.yield b28) #[] #[]), (2, pt b32), (3, pt b33), (5, pt b56), (7, iA (if 200 < p2 then 200 else p2)), (8, iA t35), (13, .func (.yield b28) #[] #[])] (Ya 14 8 53 b56 0 (.agg #[iC t42, sV A44 t43 c45, iA t47, iB t48, iB t49, iC t50, iA t51, iA t52, tB t53]) h61 rfl (RegI.yield 15 b28 6 0 [.agg #[iC t42, sV A44 t43 c45, iA t47, iB t48, iB t49, iC t50, iA t51, iA t52, tB t53]] [0, 2, 3, 5, 7, 8] [(0, .func (.yield b28) #[] #[]), (2, pt b32), (3, pt b33), (5, pt b56), (7, iA (if 200 < p2 then 200 else p2)), (8, iA t35)] h61 (by kernel_rfl) (by kernel_rfl) (by kernel_rfl) (by kernel_rfl) rfl (by kernel_rfl) (by kernel_rfl) (by kernel_rfl) [.c 7, .bg, .c 8] (by kernel_rfl) [(12, .agg #[iC t42, sV A44 t43 c45, iA t47, iB t48, iB t49, iC t50, iA t51, iA t52, tB t53]), (4, pt b29), (11, .func (.func 48) #[] #[pt b31, pt b32, pt b33])] (by kernel_rfl) (Vl [(4, pt b29), (12, .agg #[iC t42, sV A44 t43 c45, iA t47, iB t48, iB t49, iC t50, iA t51, iA t52, tB t53])] (Xr (Yx 7 53 [iC 0, n0, iA 0, iB 0, iB 0, iC 0, iA 0, iA 0, tB false] h61 ?_)))))
   intro w63 b64 h65 hb66 hn67
   refine Yb 9 53 b64 0 (.agg #[iC t42, sV A44 t43 c45, iA t47, iB t48, iB t49, iC t50, iA t51, iA t52, tB t53]) [iC t42, sV A44 t43 c45, iA t47, iB t48, iB t49, iC t50, iA t51, iA t52, tB t53] h65 rfl ?_
   intro w68 h69 hk70
   refine Ye (RunsI.begin 0 h69 rfl rfl ?_)
   intro w71 h72 hk73
   refine Xg 1 [.c 9, .blk 1] (Xr (Ya 13 9 53 b64 0 (.agg #[iC t42, sV A44 t43 c45, iA t47, iB t48, iB t49, iC t50, iA t51, iA t52, tB t53]) h72 rfl ?_))
   obtain ⟨t78, hg77, h⟩ := of_bind h
   refine Yc 14 34 #[.agg #[iC t42, sV A44 t43 c45, iA t47, iB t48, iB t49, iC t50, iA t51, iA t52, tB t53]] ((listing_one_next_34_ok K (fun _ => False) w71  A44 c45 t42 t43 t47 t48 t49 t50 t51 t52 t53 nF (h72.ownSl 7 rfl) hg77).mono ?_)
   rintro _ w74 ⟨rfl, hb75⟩
   refine ⟨_, rfl, ?_⟩
   have h76 := h72.call hb75
   refine Yb 1 23 b29 0 (iC t78) [iC t78] h76 rfl ?_
   intro w79 h80 hk81
   refine Ye (Xg 1 [] (RunsI.roundEnd 0 h80 rfl rfl ?_))
   intro w82 h83 hk84
   refine cont_mk (Yd 1 [(0, .func (.yield b28) #[] #[]), (2, pt b32), (3, pt b33), (5, pt b56), (7, iA (if 200 < p2 then 200 else p2)), (8, iA t35), (16, tB false)] (Xb false 19 (Xg 1 [.c 20, .blk 1, .c 21, .lp 4, .blk 0] (Xr (Ya 17 8 53 b56 0 (.agg #[iC t42, sV A44 t43 c45, iA t47, iB t48, iB t49, iC t50, iA t51, iA t52, tB t53]) h83 rfl ?_)))))
   obtain ⟨t89, hg88, h⟩ := of_bind h
   refine Yc 18 34 #[.agg #[iC t42, sV A44 t43 c45, iA t47, iB t48, iB t49, iC t50, iA t51, iA t52, tB t53]] ((listing_one_next_34_ok K (fun _ => False) w82  A44 c45 t42 t43 t47 t48 t49 t50 t51 t52 t53 nF (h83.ownSl 7 rfl) hg88).mono ?_)
   rintro _ w85 ⟨rfl, hb86⟩
   refine ⟨_, rfl, ?_⟩
   have h87 := h83.call hb86
   refine Yb 5 23 b33 0 (iC t89) [iC t89] h87 rfl ?_
   intro w90 h91 hk92
   refine Zy 1 21 [.lp 4, .blk 0] 2 [0, 2, 3, 7, 8] [(8, iA (wA (t35 + 1)))] (Ye (Xg 1 [.c 4, .lp 4, .blk 0] (Vl [(0, .func (.yield b28) #[] #[]), (2, pt b32), (3, pt b33), (7, iA (if 200 < p2 then 200 else p2)), (8, iA (wA (t35 + 1)))] ?_)))
   exact ih t78 t89 (wA (t35 + 1)) w90 h (h91.pk [0, 1, 2, 3, 4, 5, 6])
  ·refine Xg 1 [] (Vl [] ?_)
   exact hk0 t30 t34 w (sI h).symm (hH.pk [1, 2, 3, 4, 5, 0, 6])
def listing_Next_13.f (K : Nat) (p0 : List (Int × Int)) (p1 : Int) (p2 : Int) : Option Int := (listing_Next_13.l0 K p0 p1 p2 K p1 p1 0).bind (fun yx95 => some yx95.1)
theorem listing_Next_13_ok (K : Nat) (M0 : Nat → Prop) (w0 : World) (pA0 : Option Addr) (pc0 : Nat) (p0 : List (Int × Int)) (p1 : Int) (p2 : Int) (ho : ∀ b, M0 b → b < w0.heap.size) (hs0 : Sl (Rp.pair rC rB) w0 M0 (sV pA0 p0 pc0) p0) {r : Int} (h : listing_Next_13.f K p0 p1 p2 = some r) :
  Calls Tryz.prog 13 #[sV pA0 p0 pc0, iC p1, iA p2] w0 (listing_Next_13.post M0 w0 r) := by
 unfold listing_Next_13.f at h
 have h0 : Holds M0 w0 w0 [] := Holds.start ho
 have h00 := h0.aS hs0
 have h0 : Holds M0 w0 w0 [sl (Rp.pair rC rB) (sV pA0 p0 pc0) p0] := h00
 refine calls_of F13 rfl [sV pA0 p0 pc0, iC p1, iA p2] (by kernel_rfl) (Xg 1 [.c 1, .c 2] (Xr (Yx 4 23 [iC p1] h0 ?_)))
 intro w1 b2 h3 hb4 hn5
 refine Yp 1 [(0, sV pA0 p0 pc0), (2, iA p2), (4, pt b2)] (Zy 2 4 [.c 5, .c 10] 1 [2, 4, 8] [(8, sV pA0 p0 pc0)] (Ya 9 1 23 b2 0 (iC p1) h3 rfl (Zp 1 [4, 8, 9, 10] [(9, iC p1), (10, iA p2)] (RegI.enter 11 [4] [(4, pt b2)] (by kernel_rfl) (by kernel_rfl) (by kernel_rfl) (by kernel_rfl) F29 29 rfl [sV pA0 p0 pc0, iC p1, iA p2] (by kernel_rfl) (by kernel_rfl) (Xg 1 [.c 1, .c 2] (Xr (Yx 3 22 [sV pA0 p0 pc0] h3 ?_)))))))
 intro w6 b7 h8 hb9 hn10
 refine Yx 4 23 [iC p1] h8 ?_
 intro w11 b12 h13 hb14 hn15
 refine Yx 5 3 [iA p2] h13 ?_
 intro w16 b17 h18 hb19 hn20
 refine Yp 1 [(3, pt b7), (4, pt b12), (5, pt b17)] (Yq 1 3 [.c 4] 2 [(6, .func (.func 48) #[] #[pt b17, pt b7, pt b12])] (Ye (Xt (.func (.func 48) #[] #[pt b17, pt b7, pt b12]) (cont_mk (Ye (Xg 1 [.c 6, .blk 0, .c 10] (RunsI.rangeFunc (G := F48) [4, 11] [(4, pt b2), (11, .func (.func 48) #[] #[pt b17, pt b7, pt b12])] 48 [pt b17, pt b7, pt b12] h18 (by kernel_rfl) (by kernel_rfl) (by kernel_rfl) (fun _ _ => by kernel_rfl) rfl rfl (by kernel_rfl) rfl rfl ?_)))))))
 intro b21 b22 w23 h24 hb25 hn26 hn27
 refine Xg 1 [.c 1, .c 2] (Xr (Ya 6 4 3 b17 0 (iA p2) h24 rfl (Yd 2 [(0, .func (.yield b22) #[] #[]), (2, pt b7), (3, pt b12), (7, iA (if 200 < p2 then 200 else p2)), (8, iA 0)] (Xg 2 [.c 4, .lp 4, .blk 0] ?_))))
 obtain ⟨x95, hx96, h⟩ := of_bind h
 refine Vl [(0, .func (.yield b22) #[] #[]), (2, pt b7), (3, pt b12), (7, iA (if 200 < p2 then 200 else p2)), (8, iA 0)] (listing_Next_13.l0_ok K M0 w0 pA0 pc0 p0 p1 p2 b22 b2 b17 b7 b12 b21 _ x95 ?_ K p1 p1 0 w23 hx96 (h24.pk [6, 1, 4, 2, 0, 3, 5]))
 ·intro t97 t98 w100 hq107 h99
  (try rw [hq107] at h)
  dsimp only at h
  refine Xt (.tuple #[]) (contR_mk (RunsI.endLoop 5 h99 rfl rfl (by intro hh; cases hh) [.blk 0, .c 10] (by kernel_rfl) ?_))
  intro w101 h102 hk103
  refine Xg 2 [.c 11, .c 12] (Xr (Ya 15 0 23 b2 0 (iC t97) h102 rfl (Yd 1 [(6, iC t97)] (RunsI.toRet (by kernel_rfl) (RetI.takeH 6 b21 h102 rfl ?_)))))
  intro w104 h105 hk106
  refine RetI.val (iC t97) (by kernel_rfl) ?_
  obtain rfl := sI h
  exact ⟨rfl, h105.below⟩
end

section
abbrev strings_Repeat_36.post := pS
def strings_Repeat_36.f (K : Nat) (p0 : ByteArray) (p1 : Int) : Option ByteArray := cond (repR p0.size p1) (some (⟨(Lib.repeatL p0.data.toList p1.toNat).toArray⟩ : ByteArray)) none
theorem strings_Repeat_36_ok (K : Nat) (M0 : Nat → Prop) (w0 : World) (p0 : ByteArray) (p1 : Int) (ho : ∀ b, M0 b → b < w0.heap.size) {r : ByteArray} (h : strings_Repeat_36.f K p0 p1 = some r) : Calls Tryz.prog 36 #[tS p0, iA p1] w0 (strings_Repeat_36.post M0 w0 r) := by
 obtain ⟨hc, h⟩ := oz h
 obtain rfl := sI h
 obtain ⟨h1, h2, h3⟩ := repR_of hc
 have hq : ((p1.toNat : Nat) : Int) = p1 := Int.toNat_of_nonneg h1
 rw [← hq]
 refine (Tryz.strings_Repeat p0 p1.toNat w0 h2 h3).mono ?_
 rintro e w' ⟨rfl, hb⟩
 exact ⟨by rw [hq], hb⟩
end

section
def strings_CutPrefix_61.post (M0 : Nat → Prop) (w0 : World) (r : ByteArray × Bool) : Ending → World → Prop := fun e w => e = .returned (.tuple #[.string r.1, .bool r.2]) ∧ Below w0.heap.size w0 w
def strings_CutPrefix_61.f (K : Nat) (p0 : ByteArray) (p1 : ByteArray) : Option (ByteArray × Bool) := some ((⟨(Lib.trimPrefix p0.data.toList p1.data.toList).toArray⟩ : ByteArray), Lib.hasPrefix p0.data.toList p1.data.toList)
theorem strings_CutPrefix_61_ok (K : Nat) (M0 : Nat → Prop) (w0 : World) (p0 : ByteArray) (p1 : ByteArray) (ho : ∀ b, M0 b → b < w0.heap.size) {r : ByteArray × Bool} (h : strings_CutPrefix_61.f K p0 p1 = some r) : Calls Tryz.prog 61 #[tS p0, tS p1] w0 (strings_CutPrefix_61.post M0 w0 r) := by
 obtain rfl := sI h
 refine (Tryz.strings_CutPrefix p0 p1 w0).mono ?_
 rintro e w' ⟨rfl, rfl⟩
 exact ⟨rfl, Below.refl _ _⟩
end

section
abbrev text_Hex_37.post := pS
def text_Hex_37.l0 (K : Nat) (p0 : Int) (p1 : Int) : Nat → Int → (List Int) → Int → Option (Int × (List Int) × Int)
 | 0, _, _, _ => none
 | k + 1, t13, t15, t16 => cond (decide (t13 ≥ 16)) (cond (inR (band .u64 t13 15) (⟨#[48, 49, 50, 51, 52, 53, 54, 55, 56, 57, 97, 98, 99, 100, 101, 102, 103, 104, 105, 106, 107, 108, 109, 110, 111, 112, 113, 114, 115, 116, 117, 118, 119, 120, 121, 122]⟩ : ByteArray).size) (cond (inR (IntKind.wrap .i64 (t16 - 1)) 65) (cond (inR (IntKind.wrap .i64 (t16 - 1)) t15.length) (text_Hex_37.l0 K p0 p1 k (Int.fdiv t13 (2 ^ 4)) (stD t15 (IntKind.wrap .i64 (t16 - 1)) (btD (⟨#[48, 49, 50, 51, 52, 53, 54, 55, 56, 57, 97, 98, 99, 100, 101, 102, 103, 104, 105, 106, 107, 108, 109, 110, 111, 112, 113, 114, 115, 116, 117, 118, 119, 120, 121, 122]⟩ : ByteArray) (band .u64 t13 15))) (IntKind.wrap .i64 (t16 - 1))) none) none) none) (some (t13, t15, t16))
theorem text_Hex_37.l0_ok (K : Nat) (M0 : Nat → Prop) (w0 : World) (p0 : Int) (p1 : Int) (b14 : Nat) (R : Ending → World → Prop) (x : Int × (List Int) × Int) (hk0 : ∀ (t24 : Int) (t25 : List Int) (t26 : Int) (w1 : World), x = (t24, t25, t26) → Holds M0 w0 w1 [box b14 187 (List.flatMap (fun (x : Int) => ([iB x] : List Value)) t25), G12, G15, G16] → RunsI F144 [.c 43, .c 68] [(0, n0), (1, iD t24), (3, tB (decide (p0 < 0))), (4, tB false), (10, n0), (11, tS (⟨#[]⟩ : ByteArray)), (12, pt b14), (13, iA t26)] w1 R) :
  ∀ (k : Nat) (t13 : Int) (t15 : List Int) (t16 : Int) (w : World), text_Hex_37.l0 K p0 p1 k t13 t15 t16 = some x → Holds M0 w0 w [box b14 187 (List.flatMap (fun (x : Int) => ([iB x] : List Value)) t15), G12, G15, G16] → RunsI F144 [.c 31, .lp 31, .blk 0, .c 43, .c 68] [(0, n0), (1, iD t13), (3, tB (decide (p0 < 0))), (4, tB false), (10, n0), (11, tS (⟨#[]⟩ : ByteArray)), (12, pt b14), (13, iA t16), (14, iD 4), (15, iD 16), (16, iD 15)] w R := by
 intro k
 induction k with
 | zero => intro t13 t15 t16 w h hH; exact absurd h (by simp [text_Hex_37.l0])
 | succ k ih =>
  intro t13 t15 t16 w h hH
  rw [text_Hex_37.l0.eq_2] at h
  refine Xg 1 [.c 32, .c 37, .lp 31, .blk 0, .c 43, .c 68] (Xd 1 33 [.c 34, .c 37, .lp 31, .blk 0, .c 43, .c 68] 3 [(0, n0), (1, iD t13), (3, tB (decide (p0 < 0))), (4, tB false), (10, n0), (11, tS (⟨#[]⟩ : ByteArray)), (12, pt b14), (13, iA t16), (14, iD 4), (15, iD 16), (16, iD 15), (46, tB (decide (t13 ≥ 16)))] (Vc 46 35 36 h (fun hc17 h => ?_) fun hc17 h => ?_))
  ·refine Xg 1 [.c 37, .lp 31, .blk 0, .c 43, .c 68] (Xq 2 39 [.c 40, .blk 1, .lp 31, .blk 0, .c 43, .c 68] 3 [(0, n0), (1, iD t13), (3, tB (decide (p0 < 0))), (4, tB false), (10, n0), (11, tS (⟨#[]⟩ : ByteArray)), (12, pt b14), (13, iA (wA (t16 - 1))), (14, iD 4), (15, iD 16), (16, iD 15)] (Zy 1 41 [.c 42, .blk 1, .lp 31, .blk 0, .c 43, .c 68] 4 [0, 1, 3, 4, 10, 11, 12, 13, 14, 15, 16, 49, 52] [(49, iA (wA (t16 - 1))), (52, iD (band .u64 t13 15))] ?_))
   have ⟨hc18, h⟩ := oz h
   refine Yo (OpE.run 53 (by kernel_rfl) (run_strIdx (T0 := 9) (s := se4) (j := (band .u64 t13 15)) (by kernel_rfl) (by kernel_rfl) hc18) ?_)
   have ⟨hc19, h⟩ := oz h
   refine Yo (OpE.run 54 (by kernel_rfl) (run_idxArr (T := 187) (b := b14) (o := 0) (ix := (wA (t16 - 1))) (len := 65) (s := 1) (by kernel_rfl) (by kernel_rfl) hc19) ?_)
   have ⟨hc20, h⟩ := oz h
   refine Yo (OpE.storeArr (en := (fun (x : Int) => ([iB x] : List Value))) 0 5 b14 1 (wA (t16 - 1)) (iB (btD se4 (band .u64 t13 15))) (xs := t15) (btD se4 (band .u64 t13 15)) (o := 0 + (Int.toNat (wA (t16 - 1))) * 1) hH (by kernel_rfl) (by kernel_rfl) rfl (fun _ => rfl) (by omega) (by kernel_rfl) (by kernel_rfl) hc20 ?_)
   intro w21 h22 hk23
   refine Ye (Xr (Yd 4 [(0, n0), (1, iD (Int.fdiv t13 (2 ^ 4))), (3, tB (decide (p0 < 0))), (4, tB false), (10, n0), (11, tS (⟨#[]⟩ : ByteArray)), (12, pt b14), (13, iA (wA (t16 - 1))), (14, iD 4), (15, iD 16), (16, iD 15)] (Xg 2 [.c 31, .lp 31, .blk 0, .c 43, .c 68] (Vl [(0, n0), (1, iD (Int.fdiv t13 (2 ^ 4))), (3, tB (decide (p0 < 0))), (4, tB false), (10, n0), (11, tS (⟨#[]⟩ : ByteArray)), (12, pt b14), (13, iA (wA (t16 - 1))), (14, iD 4), (15, iD 16), (16, iD 15)] ?_))))
   exact ih (Int.fdiv t13 (2 ^ 4)) (stD t15 (wA (t16 - 1)) (btD se4 (band .u64 t13 15))) (wA (t16 - 1)) w21 h (h22.pk [0, 1, 2, 3])
  ·refine Xg 1 [.c 43, .c 68] (Vl [(0, n0), (1, iD t13), (3, tB (decide (p0 < 0))), (4, tB false), (10, n0), (11, tS (⟨#[]⟩ : ByteArray)), (12, pt b14), (13, iA t16)] ?_)
   exact hk0 t13 t15 t16 w (sI h).symm (hH.pk [0, 1, 2, 3])
def text_Hex_37.f (K : Nat) (p0 : Int) (p1 : Int) : Option ByteArray := Let (fun (t7 : Int) => (text_Hex_37.l0 K p0 p1 K t7 (List.replicate 65 0) 65).bind (fun yx27 => cond (inR yx27.1 (⟨#[48, 49, 50, 51, 52, 53, 54, 55, 56, 57, 97, 98, 99, 100, 101, 102, 103, 104, 105, 106, 107, 108, 109, 110, 111, 112, 113, 114, 115, 116, 117, 118, 119, 120, 121, 122]⟩ : ByteArray).size) (cond (inR (IntKind.wrap .i64 (yx27.2.2 - 1)) 65) (cond (inR (IntKind.wrap .i64 (yx27.2.2 - 1)) yx27.2.1.length) (Let (fun (yj50 : (List Int) × Int) => cond (cutR yj50.2 65 65) (cond (Nat.beq yj50.1.length 65) ((strings_CutPrefix_61.f K (strOf (cutL yj50.1 yj50.2 65)) (⟨#[45]⟩ : ByteArray)).bind fun yt59 => Let (fun (t68 : ByteArray) => cond yt59.2 (cond (mayCat (⟨#[45]⟩ : ByteArray).size t68.size) (cond (mayCat ((⟨#[45]⟩ : ByteArray) ++ t68).size (⟨#[104]⟩ : ByteArray).size) (some (((⟨#[45]⟩ : ByteArray) ++ t68) ++ (⟨#[104]⟩ : ByteArray))) none) none) (cond (mayCat t68.size (⟨#[104]⟩ : ByteArray).size) (some (t68 ++ (⟨#[104]⟩ : ByteArray))) none)) (fun j71 => cond (decide ((IntKind.wrap .i64 ((if (if 8 < p1 then 8 else p1) > 0 then (if 8 < p1 then 8 else p1) else 0) - (yt59.1.size : Int))) > 0)) ((strings_Repeat_36.f K (⟨#[48]⟩ : ByteArray) (IntKind.wrap .i64 ((if (if 8 < p1 then 8 else p1) > 0 then (if 8 < p1 then 8 else p1) else 0) - (yt59.1.size : Int)))).bind fun t66 => cond (mayCat t66.size yt59.1.size) (j71 (t66 ++ yt59.1)) none) (j71 yt59.1))) none) none) (fun j50 => cond (decide (p0 < 0)) (cond (inR (IntKind.wrap .i64 ((IntKind.wrap .i64 (yx27.2.2 - 1)) - 1)) 65) (cond (inR (IntKind.wrap .i64 ((IntKind.wrap .i64 (yx27.2.2 - 1)) - 1)) (stD yx27.2.1 (IntKind.wrap .i64 (yx27.2.2 - 1)) (btD (⟨#[48, 49, 50, 51, 52, 53, 54, 55, 56, 57, 97, 98, 99, 100, 101, 102, 103, 104, 105, 106, 107, 108, 109, 110, 111, 112, 113, 114, 115, 116, 117, 118, 119, 120, 121, 122]⟩ : ByteArray) yx27.1)).length) (j50 ((stD (stD yx27.2.1 (IntKind.wrap .i64 (yx27.2.2 - 1)) (btD (⟨#[48, 49, 50, 51, 52, 53, 54, 55, 56, 57, 97, 98, 99, 100, 101, 102, 103, 104, 105, 106, 107, 108, 109, 110, 111, 112, 113, 114, 115, 116, 117, 118, 119, 120, 121, 122]⟩ : ByteArray) yx27.1)) (IntKind.wrap .i64 ((IntKind.wrap .i64 (yx27.2.2 - 1)) - 1)) 45), (IntKind.wrap .i64 ((IntKind.wrap .i64 (yx27.2.2 - 1)) - 1)))) none) none) (j50 ((stD yx27.2.1 (IntKind.wrap .i64 (yx27.2.2 - 1)) (btD (⟨#[48, 49, 50, 51, 52, 53, 54, 55, 56, 57, 97, 98, 99, 100, 101, 102, 103, 104, 105, 106, 107, 108, 109, 110, 111, 112, 113, 114, 115, 116, 117, 118, 119, 120, 121, 122]⟩ : ByteArray) yx27.1)), (IntKind.wrap .i64 (yx27.2.2 - 1)))))) none) none) none)) (fun j10 => cond (decide (p0 < 0)) (j10 (IntKind.wrap .u64 (0 - (IntKind.wrap .u64 p0)))) (j10 (IntKind.wrap .u64 p0)))
theorem text_Hex_37_ok (K : Nat) (M0 : Nat → Prop) (w0 : World) (p0 : Int) (p1 : Int) (ho : ∀ b, M0 b → b < w0.heap.size) (hG12 : G12.ok w0 M0) (hG15 : G15.ok w0 M0) (hG16 : G16.ok w0 M0) {r : ByteArray} (h : text_Hex_37.f K p0 p1 = some r) :
  Calls Tryz.prog 37 #[iA p0, iA p1] w0 (text_Hex_37.post M0 w0 r) := by
 unfold text_Hex_37.f at h
 have h0 : Holds M0 w0 w0 [] := Holds.start ho
 have h0g12 := h0.aG hG12
 have h0g15 := h0g12.aG hG15
 have h0g16 := h0g15.aG hG16
 have h0 : Holds M0 w0 w0 [G12, G15, G16] := h0g16
 refine calls_of F37 rfl [iA p0, iA p1] (by kernel_rfl) (Xq 1 1 [.c 2] 1 [(0, iA p0), (1, iA p1)] (Zy 1 3 [.c 4] 1 [1, 9] [(9, iA p0)] (RegI.enter 10 [1] [(1, iA p1)] (by kernel_rfl) (by kernel_rfl) (by kernel_rfl) (by kernel_rfl) F62 62 rfl [iA p0, iA 16] (by kernel_rfl) (by kernel_rfl) (Xq 1 1 [.c 2] 1 [(0, iA p0), (1, iA 16)] (Yq 1 3 [.c 4] 2 [(5, iA p0), (6, iA 16)] (RegI.enter 7 [] [] (by kernel_rfl) (by kernel_rfl) (by kernel_rfl) (by kernel_rfl) F92 92 rfl [iA p0, iA 16] (by kernel_rfl) (by kernel_rfl) (Xq 1 1 [.c 2] 1 [(0, iA p0), (1, iA 16)] (Zy 2 4 [.c 5, .c 42] 2 [0, 1, 11] [(11, tB false)] (Ye (Xb false 41 (Xq 2 43 [.c 44] 5 [(46, iD (wD p0)), (47, iA 16), (49, tB (decide (p0 < 0)))] ?_)))))))))))
 refine RegI.enter 50 [] [] (by kernel_rfl) (by kernel_rfl) (by kernel_rfl) (by kernel_rfl) F144 144 rfl [n0, iD (wD p0), iA 16, tB (decide (p0 < 0)), tB false] (by kernel_rfl) (by kernel_rfl) (Xq 1 1 [.c 2] 2 [(0, n0), (1, iD (wD p0)), (2, iA 16), (3, tB (decide (p0 < 0))), (4, tB false), (10, n0), (11, tS (⟨#[]⟩ : ByteArray))] (Zy 2 4 [.c 5, .c 8] 10 [0, 1, 2, 3, 4, 10, 11, 28] [(28, tB false)] (Ye (Xb false 7 (Xg 2 [.c 9, .c 10] (Xr (Yx 12 187 (List.flatMap (fun (x : Int) => ([iB x] : List Value)) (List.replicate 65 0)) h0 ?_)))))))
 intro w1 b2 h3 hb4 hn5
 refine Zy 1 11 [.c 12] 1 [0, 1, 2, 3, 4, 10, 11, 12, 13] [(12, pt b2), (13, iA 65)] (Zy 2 14 [.c 15, .c 18] 1 [0, 1, 2, 3, 4, 10, 11, 12, 13, 30] [(30, tB (decide (p0 < 0)))] (Ye ?_))
 obtain ⟨j10, hJ11, h⟩ := of_let h
 have hj12 : ∀ (t7 : Int) (w9 : World), j10 t7 = some r → Holds M0 w0 w9 [box b2 187 (List.flatMap (fun (x : Int) => ([iB x] : List Value)) (List.replicate 65 0)), G12, G15, G16] → RunsI F144 [.c 18] [(0, n0), (1, iD t7), (2, iA 16), (3, tB (decide (p0 < 0))), (4, tB false), (10, n0), (11, tS (⟨#[]⟩ : ByteArray)), (12, pt b2), (13, iA 65)] w9 (cont (fun e' w' => RegI F92 43 [.c 44] 6 e' w' (cont (fun e' w' => RegI F62 3 [.c 4] 3 e' w' (cont (fun e' w' => RegI F37 3 [.c 4] 2 e' w' (text_Hex_37.post M0 w0 r)) 10 [(1, iA p1)])) 7 [])) 50 []) := by
  intro t7 w9 h h8
  rw [hJ11] at h
  clear hJ11
  dsimp only at h
  refine Xq 2 20 [.c 21, .c 68] 1 [(0, n0), (1, iD t7), (2, iA 16), (3, tB (decide (p0 < 0))), (4, tB false), (10, n0), (11, tS (⟨#[]⟩ : ByteArray)), (12, pt b2), (13, iA 65), (33, iA 16)] (RegI.enter 34 [0, 1, 2, 3, 4, 10, 11, 12, 13] [(0, n0), (1, iD t7), (2, iA 16), (3, tB (decide (p0 < 0))), (4, tB false), (10, n0), (11, tS (⟨#[]⟩ : ByteArray)), (12, pt b2), (13, iA 65)] (by kernel_rfl) (by kernel_rfl) (by kernel_rfl) (by kernel_rfl) F170 170 rfl [iA 16] (by kernel_rfl) (by kernel_rfl) (Xq 1 1 [.c 2] 1 [(0, iA 16)] (Yq 1 3 [.c 4] 6 [(2, tB true)] (Ye (Xt (tB true) (cont_mk (Ye (Xb true 22 (Xq 1 23 [.c 24, .c 68] 2 [(0, n0), (1, iD t7), (2, iA 16), (3, tB (decide (p0 < 0))), (4, tB false), (10, n0), (11, tS (⟨#[]⟩ : ByteArray)), (12, pt b2), (13, iA 65), (36, iD 16)] (RegI.enter 37 [0, 1, 2, 3, 4, 10, 11, 12, 13] [(0, n0), (1, iD t7), (2, iA 16), (3, tB (decide (p0 < 0))), (4, tB false), (10, n0), (11, tS (⟨#[]⟩ : ByteArray)), (12, pt b2), (13, iA 65)] (by kernel_rfl) (by kernel_rfl) (by kernel_rfl) (by kernel_rfl) F171 171 rfl [iD 16] (by kernel_rfl) (by kernel_rfl) (Xd 1 1 [.c 2] 1 [(0, iD 16)] ?_)))))))))))
  refine Xg 1 [.c 3, .c 8] (Xb false 7 (Xq 2 9 [.c 10] 1 [(6, iD 16)] (RegI.enter 7 [] [] (by kernel_rfl) (by kernel_rfl) (by kernel_rfl) (by kernel_rfl) F179 179 rfl [iD 16] (by kernel_rfl) (by kernel_rfl) (Xq 1 1 [.c 2] 1 [(0, iD 16)] (Zy 2 4 [.c 5, .c 10] 2 [0, 4] [(4, tB false)] (Ye (Xb false 9 (Xq 2 11 [.c 12] 6 [(10, iD 15)] (Yo (OpE.run 11 (by kernel_rfl) (run_idxArr (T := 200) (b := 16) (o := 0) (ix := 15) (len := 64) (s := 1) (by kernel_rfl) (by kernel_rfl) (by kernel_rfl)) (Yo (OpE.loadTab 12 3 5 en_16 tab_16 0 1 15 (iB 4) (o := 0 + (Int.toNat 15) * 1 + 0) h8 (by kernel_rfl) rfl (fun _ => rfl) (by kernel_rfl) (by omega) (by kernel_rfl) (fun _ => by kernel_rfl) (Yd 2 [(2, iA 4)] ?_)))))))))))))
  refine Xt (iA 4) (cont_mk (Yd 1 [(2, iA 4)] (Xt (iA 4) (cont_mk (Yp 2 [(0, n0), (1, iD t7), (2, iA 16), (3, tB (decide (p0 < 0))), (4, tB false), (10, n0), (11, tS (⟨#[]⟩ : ByteArray)), (12, pt b2), (13, iA 65), (14, iD 4)] (Zy 1 25 [.c 26, .c 68] 3 [0, 1, 2, 3, 4, 10, 11, 12, 13, 14, 15] [(15, iD 16)] (Zy 1 27 [.c 28, .c 68] 4 [0, 1, 3, 4, 10, 11, 12, 13, 14, 15, 16] [(16, iD 15)] (Ye (Xg 3 [.c 31, .lp 31, .blk 0, .c 43, .c 68] ?_)))))))))
  obtain ⟨x27, hx28, h⟩ := of_bind h
  refine Vl [(0, n0), (1, iD t7), (3, tB (decide (p0 < 0))), (4, tB false), (10, n0), (11, tS (⟨#[]⟩ : ByteArray)), (12, pt b2), (13, iA 65), (14, iD 4), (15, iD 16), (16, iD 15)] (text_Hex_37.l0_ok K M0 w0 p0 p1 b2 _ x27 ?_ K t7 (List.replicate 65 0) 65 w9 hx28 (h8.pk [0, 1, 2, 3]))
  ·intro t29 t30 t31 w33 hq78 h32
   (try rw [hq78] at h)
   dsimp only at h
   refine Xd 1 44 [.c 45, .c 68] 3 [(0, n0), (1, iD t29), (3, tB (decide (p0 < 0))), (4, tB false), (10, n0), (11, tS (⟨#[]⟩ : ByteArray)), (12, pt b2), (13, iA (wA (t31 - 1)))] (Xr (Zp 2 [0, 3, 4, 10, 11, 12, 13, 60, 61] [(60, iA (wA (t31 - 1))), (61, iD t29)] ?_))
   have ⟨hc34, h⟩ := oz h
   refine Yo (OpE.run 62 (by kernel_rfl) (run_strIdx (T0 := 9) (s := se4) (j := t29) (by kernel_rfl) (by kernel_rfl) hc34) ?_)
   have ⟨hc35, h⟩ := oz h
   refine Yo (OpE.run 63 (by kernel_rfl) (run_idxArr (T := 187) (b := b2) (o := 0) (ix := (wA (t31 - 1))) (len := 65) (s := 1) (by kernel_rfl) (by kernel_rfl) hc35) ?_)
   have ⟨hc36, h⟩ := oz h
   refine Yo (OpE.storeArr (en := (fun (x : Int) => ([iB x] : List Value))) 0 5 b2 1 (wA (t31 - 1)) (iB (btD se4 t29)) (xs := t30) (btD se4 t29) (o := 0 + (Int.toNat (wA (t31 - 1))) * 1) h32 (by kernel_rfl) (by kernel_rfl) rfl (fun _ => rfl) (by omega) (by kernel_rfl) (by kernel_rfl) hc36 ?_)
   intro w37 h38 hk39
   refine Yq 2 70 [.c 71, .c 76] 1 [(0, n0), (4, tB false), (10, n0), (11, tS (⟨#[]⟩ : ByteArray)), (12, pt b2), (13, iA (wA (t31 - 1))), (89, tB (decide (p0 < 0)))] (Ye ?_)
   obtain ⟨j50, hJ51, h⟩ := of_let h
   have hj52 : ∀ (t46 : List Int) (t47 : Int) (w49 : World), j50 (t46, t47) = some r → Holds M0 w0 w49 [box b2 187 (List.flatMap (fun (x : Int) => ([iB x] : List Value)) t46), G12, G15, G16] → RunsI F144 [.c 76] [(0, n0), (4, tB false), (10, n0), (11, tS (⟨#[]⟩ : ByteArray)), (12, pt b2), (13, iA t47)] w49 (cont (fun e' w' => RegI F92 43 [.c 44] 6 e' w' (cont (fun e' w' => RegI F62 3 [.c 4] 3 e' w' (cont (fun e' w' => RegI F37 3 [.c 4] 2 e' w' (text_Hex_37.post M0 w0 r)) 10 [(1, iA p1)])) 7 [])) 50 []) := by
    intro t46 t47 w49 h h48
    rw [hJ51] at h
    clear hJ51
    dsimp only at h
    refine Xd 2 78 [.c 79, .c 84] 1 [(0, n0), (10, n0), (11, tS (⟨#[]⟩ : ByteArray)), (12, pt b2), (13, iA t47), (94, tB false)] (Xb false 83 (Zq 2 85 [.c 86] 1 [10, 12, 99] [(99, iA t47)] ?_))
    have ⟨hc53, h⟩ := oz h
    refine Yo (OpE.run 100 (by kernel_rfl) (run_cutArr (T := 187) (b := b2) (lo := (some t47)) (hi := none) (len := 65) (sz := 1) (by kernel_rfl) (by kernel_rfl) hc53) ?_)
    have ⟨hc54, h⟩ := oz h
    refine Yo (OpE.run 101 (by kernel_rfl) (run_toStr (s := 39) (d := 9) (v := (slicedAt ⟨b2, 0, none⟩ (Int.toNat t47) (Int.toNat 65) 65 1)) (by kernel_rfl) (by kernel_rfl) (h48.rdArr 0 rfl t47 65 hc54 hc53)) (Zd 1 [10, 11] [(11, tS (strOf (cutL t46 t47 65)))] (Xt (.tuple #[n0, tS (strOf (cutL t46 t47 65))]) (cont_mk (Yp 5 [(9, tS (strOf (cutL t46 t47 65)))] (Yq 1 45 [.c 46] 2 [(4, tS (strOf (cutL t46 t47 65)))] (Ye (Xt (tS (strOf (cutL t46 t47 65))) (cont_mk (Yd 1 [(4, tS (strOf (cutL t46 t47 65)))] (Xt (tS (strOf (cutL t46 t47 65))) (cont_mk ?_))))))))))))
    obtain ⟨⟨t59, t60⟩, hg58, h⟩ := of_bind h
    dsimp only at h
    refine Yc 11 61 #[tS (strOf (cutL t46 t47 65)), tS se5] ((strings_CutPrefix_61_ok K _ w49  (strOf (cutL t46 t47 65)) se5 h48.old' hg58).mono ?_)
    rintro _ w55 ⟨rfl, hb56⟩
    refine ⟨_, rfl, ?_⟩
    have h57 := h48.call hb56
    refine Yp 5 [(1, iA p1), (5, tS t59), (6, tB t60)] (Zy 2 6 [.c 7, .c 12] 7 [5, 6, 7] [(7, iA (wA ((if (if 8 < p1 then 8 else p1) > 0 then (if 8 < p1 then 8 else p1) else 0) - (t59.size : Int))))] (Zy 1 8 [.c 9, .c 12] 2 [5, 6, 7, 21] [(21, tB (decide ((wA ((if (if 8 < p1 then 8 else p1) > 0 then (if 8 < p1 then 8 else p1) else 0) - (t59.size : Int))) > 0)))] (Ye ?_)))
    obtain ⟨j71, hJ72, h⟩ := of_let h
    have hj73 : ∀ (t68 : ByteArray) (w70 : World), j71 t68 = some r → Holds M0 w0 w70 [G12, G15, G16] → RunsI F37 [.c 12] [(5, tS t68), (6, tB t60)] w70 (text_Hex_37.post M0 w0 r) := by
     intro t68 w70 h h69
     rw [hJ72] at h
     clear hJ72
     dsimp only at h
     refine Xd 2 14 [.c 15, .c 18] 1 [(5, tS t68), (26, tB t60)] (Vc 26 16 17 h (fun hc74 h => ?_) fun hc74 h => ?_)
     ·refine Xr (Yp 1 [(27, tS t68)] ?_)
      have ⟨hc75, h⟩ := oz h
      refine Yt 28 se5 t68 hc75 (Yp 1 [(5, tS (se5 ++ t68))] (Yq 1 19 [.c 20] 1 [(29, tS (se5 ++ t68))] ?_))
      have ⟨hc76, h⟩ := oz h
      refine Yt 30 (se5 ++ t68) se6 hc76 (Yd 1 [(4, tS ((se5 ++ t68) ++ se6))] ?_)
      obtain rfl := sI h
      exact Xt (tS ((se5 ++ t68) ++ se6)) ⟨rfl, h69.below⟩
     ·refine Xg 1 [.c 18] (Xq 1 19 [.c 20] 1 [(29, tS t68)] ?_)
      have ⟨hc77, h⟩ := oz h
      refine Yt 30 t68 se6 hc77 (Yd 1 [(4, tS (t68 ++ se6))] ?_)
      obtain rfl := sI h
      exact Xt (tS (t68 ++ se6)) ⟨rfl, h69.below⟩
    clear hJ72
    refine Vc 21 10 11 h (fun hc61 h => ?_) fun hc61 h => ?_
    ·refine Xr (Yp 1 [(5, tS t59), (6, tB t60), (22, iA (wA ((if (if 8 < p1 then 8 else p1) > 0 then (if 8 < p1 then 8 else p1) else 0) - (t59.size : Int))))] ?_)
     obtain ⟨t66, hg65, h⟩ := of_bind h
     refine Yc 23 36 #[tS (⟨#[48]⟩ : ByteArray), iA (wA ((if (if 8 < p1 then 8 else p1) > 0 then (if 8 < p1 then 8 else p1) else 0) - (t59.size : Int)))] ((strings_Repeat_36_ok K _ w55  (⟨#[48]⟩ : ByteArray) (wA ((if (if 8 < p1 then 8 else p1) > 0 then (if 8 < p1 then 8 else p1) else 0) - (t59.size : Int))) h57.old' hg65).mono ?_)
     rintro _ w62 ⟨rfl, hb63⟩
     refine ⟨_, rfl, ?_⟩
     have h64 := h57.call hb63
     refine Zp 1 [6, 23, 24] [(23, tS t66), (24, tS t59)] ?_
     have ⟨hc67, h⟩ := oz h
     refine Yt 25 t66 t59 hc67 (Zd 1 [5, 6] [(5, tS (t66 ++ t59))] (Vl [(5, tS (t66 ++ t59)), (6, tB t60)] ?_))
     exact hj73 (t66 ++ t59) w62 h (h64.pk [1, 2, 3])
    ·refine Xg 1 [.c 12] (Vl [(5, tS t59), (6, tB t60)] ?_)
     exact hj73 t59 w55 h (h57.pk [1, 2, 3])
   clear hJ51
   refine Vc 89 72 75 h (fun hc40 h => ?_) fun hc40 h => ?_
   ·refine Xd 1 73 [.c 74, .c 76] 3 [(0, n0), (4, tB false), (10, n0), (11, tS (⟨#[]⟩ : ByteArray)), (12, pt b2), (13, iA (wA ((wA (t31 - 1)) - 1)))] (Xr (Zp 1 [0, 4, 10, 11, 12, 13, 92] [(92, iA (wA ((wA (t31 - 1)) - 1)))] ?_))
    have ⟨hc41, h⟩ := oz h
    refine Yo (OpE.run 93 (by kernel_rfl) (run_idxArr (T := 187) (b := b2) (o := 0) (ix := (wA ((wA (t31 - 1)) - 1))) (len := 65) (s := 1) (by kernel_rfl) (by kernel_rfl) hc41) ?_)
    have ⟨hc42, h⟩ := oz h
    refine Yo (OpE.storeArr (en := (fun (x : Int) => ([iB x] : List Value))) 0 5 b2 1 (wA ((wA (t31 - 1)) - 1)) (iB 45) (xs := (stD t30 (wA (t31 - 1)) (btD se4 t29))) 45 (o := 0 + (Int.toNat (wA ((wA (t31 - 1)) - 1))) * 1) h38 (by kernel_rfl) (by kernel_rfl) rfl (fun _ => rfl) (by omega) (by kernel_rfl) (by kernel_rfl) hc42 ?_)
    intro w43 h44 hk45
    refine Ye (Vl [(0, n0), (4, tB false), (10, n0), (11, tS (⟨#[]⟩ : ByteArray)), (12, pt b2), (13, iA (wA ((wA (t31 - 1)) - 1)))] ?_)
    exact hj52 (stD (stD t30 (wA (t31 - 1)) (btD se4 t29)) (wA ((wA (t31 - 1)) - 1)) 45) (wA ((wA (t31 - 1)) - 1)) w43 h (h44.pk [0, 1, 2, 3])
   ·refine Xg 1 [.c 76] (Vl [(0, n0), (4, tB false), (10, n0), (11, tS (⟨#[]⟩ : ByteArray)), (12, pt b2), (13, iA (wA (t31 - 1)))] ?_)
    exact hj52 (stD t30 (wA (t31 - 1)) (btD se4 t29)) (wA (t31 - 1)) w37 h (h38.pk [0, 1, 2, 3])
 clear hJ11
 refine Vc 30 16 17 h (fun hc6 h => ?_) fun hc6 h => ?_
 ·refine Xr (Yd 3 [(0, n0), (1, iD (wD (0 - (wD p0)))), (2, iA 16), (3, tB (decide (p0 < 0))), (4, tB false), (10, n0), (11, tS (⟨#[]⟩ : ByteArray)), (12, pt b2), (13, iA 65)] (Vl [(0, n0), (1, iD (wD (0 - (wD p0)))), (2, iA 16), (3, tB (decide (p0 < 0))), (4, tB false), (10, n0), (11, tS (⟨#[]⟩ : ByteArray)), (12, pt b2), (13, iA 65)] ?_))
  exact hj12 (wD (0 - (wD p0))) w1 h (h3.pk [3, 0, 1, 2])
 ·refine Xg 1 [.c 18] (Vl [(0, n0), (1, iD (wD p0)), (2, iA 16), (3, tB (decide (p0 < 0))), (4, tB false), (10, n0), (11, tS (⟨#[]⟩ : ByteArray)), (12, pt b2), (13, iA 65)] ?_)
  exact hj12 (wD p0) w1 h (h3.pk [3, 0, 1, 2])
end

section
theorem strings_Builder_WriteString_54_info : (Tryz.prog.info? 84).map (·.size) = some 2 := by kernel_rfl
theorem strings_Builder_WriteString_54_byte : (Tryz.prog.info? 5).map (fun i => (i.zero, i.size, i.bytes)) = some (some (iB 0), 1, 1) := by kernel_rfl
theorem strings_Builder_WriteString_54_copy : CopyOk Tryz.prog 85 84 := by
 refine ⟨fun b w h0 => ?_, fun b w h0 hsh hfz => ?_⟩
 ·obtain ⟨j, hj, _⟩ := Option.map_eq_some_iff.1 strings_Builder_WriteString_54_info
  go_enter Tryz.func85, Tryz.ntmps85
  go_wp2
  rw [Lib.run_neq_ptr_same w _ Tryz.underlying82 hj]
  go_wp2
  go_end0
  exact ⟨rfl, rfl⟩
 ·obtain ⟨j, hj, hjs⟩ := Option.map_eq_some_iff.1 strings_Builder_WriteString_54_info
  go_enter Tryz.func85, Tryz.ntmps85
  go_wp2
  rw [Lib.run_to_unsafe w ⟨b, 0, none⟩ Tryz.underlying82 Tryz.underlying162 hj (by rw [hjs]; decide) hsh (Nat.zero_lt_succ 1)]
  simp only [Result.andThen]
  rw [Oper.upon_value]
  go_wp2
  rw [run_callFunc_extern Tryz.func138 (by kernel_rfl) (by kernel_rfl) (by kernel_rfl) (e := Extern.AbiNoEscape.same) (by kernel_rfl)]
  rw [Lib.run_noEscape]
  simp only [Result.andThen]
  rw [Oper.upon_value]
  go_wp2
  rw [Lib.run_from_unsafe w ⟨b, 0, none⟩ Tryz.underlying162 Tryz.underlying82 hj hsh (by kernel_rfl)]
  simp only [Result.andThen]
  rw [Oper.upon_value]
  go_wp2
  go_end0
  exact ⟨rfl, rfl⟩
theorem strings_Builder_WriteString_54_ok {M0 : Nat → Prop} {w0 w : World} {H : List Chunk} (c : Nat) {b cp : Nat} {A : Option Addr} {l : List UInt8} (s : ByteArray) (hH : Holds M0 w0 w H) (hi : H[c]? = some (bl 84 5 b (sV A l cp) A cp l)) (hR : bldR l.length s.size = true) :
  Calls Tryz.prog 54 #[pt b, tS s] w fun e w' => e = .returned (.tuple #[iA (s.size : Int), .nilIface]) ∧ ∃ A' cp', Holds M0 w0 w' (H.set c (bl 84 5 b (.slice A' (l ++ s.data.toList).length cp') A' cp' (l ++ s.data.toList))) := by
 have hcl : c < H.length := (List.getElem?_eq_some_iff.1 hi).1
 refine calls_of F54 rfl [pt b, tS s] (by kernel_rfl) (Xq 1 1 [.c 2] 2 [(0, pt b), (1, tS s)] (Zy 1 3 [.c 4] 1 [0, 1, 6] [(6, pt b)] (Yc 7 85 #[pt b] ((hH.copyCheck strings_Builder_WriteString_54_copy hi).mono ?_))))
 rintro _ w1 ⟨rfl, h1⟩
 refine ⟨_, rfl, ?_⟩
 refine Ul [(0, pt b), (1, tS s)] (Ye (Xg 1 [.c 5, .c 6] (Xr ?_)))
 have hi1 : (H.set c (bl 84 5 b (sV A l cp) A cp l))[c]? = some (bl 84 5 b (sV A l cp) A cp l) := by rw [List.getElem?_set_self hcl]
 obtain ⟨⟨p, hp, hb⟩, ho, hne⟩ := h1.get c hi1
 refine Yp 4 [(1, tS s), (8, pt b), (11, pu b 1)] (Yo (OpE.load 12 39 (b := b) (o := 1) (cs := [sV A l cp]) (v := sV A l cp) (by kernel_rfl) (by kernel_rfl) (box_cells (cs := [p, sV A l cp]) hb 1) (by kernel_rfl) (Zp 1 [1, 8, 12, 13] [(12, sV A l cp), (13, tS s)] ?_)))
 obtain ⟨inf, hi0, hpt⟩ := Option.map_eq_some_iff.1 strings_Builder_WriteString_54_byte
 simp only [Prod.mk.injEq] at hpt
 obtain ⟨hz, hsz, hby⟩ := hpt
 obtain ⟨A2, cp2, w2, hr, h2⟩ := h1.blApp (ty := (opOf F54.B 5 6).type) (t := 39) (u := 9) Tryz.underlying39 Tryz.underlying9 hi0 hz hsz hby hi1 (by decide) s hR
 rw [List.set_set] at h2
 have hi2 : (H.set c (bl 84 5 b (sV A l cp) A2 cp2 (l ++ s.data.toList)))[c]? = some (bl 84 5 b (sV A l cp) A2 cp2 (l ++ s.data.toList)) := by rw [List.getElem?_set_self hcl]
 refine Yo (OpE.run 14 (by kernel_rfl) (run_appendStr (T := 39) (U := 9) (v := sV A l cp) (s := s) (by kernel_rfl) hr) (Yp 2 [(1, tS s), (14, .slice A2 (l ++ s.data.toList).length cp2), (16, pu b 1)] (Yo (OpE.storeBl c 39 (A2 := A2) (n2 := (l ++ s.data.toList).length) (c2 := cp2) h2 (by kernel_rfl) (by kernel_rfl) hi2 (by kernel_rfl) ?_))))
 intro w3 h3
 rw [List.set_set] at h3
 refine Yq 1 7 [.c 8] 4 [(4, iA (s.size : Int)), (5, .nilIface)] (Ye (Xt (.tuple #[iA (s.size : Int), .nilIface]) ?_))
 exact ⟨rfl, A2, cp2, h3⟩
end


section
abbrev stringslite_HasSuffix_139.post := pB
def stringslite_HasSuffix_139.f (K : Nat) (p0 : ByteArray) (p1 : ByteArray) : Option Bool := cond (decide ((p0.size : Int) ≥ (p1.size : Int))) (cond (cutR (IntKind.wrap .i64 ((p0.size : Int) - (p1.size : Int))) (p0.size : Int) p0.size) (some ((ByteArray.toList (strCut p0 (IntKind.wrap .i64 ((p0.size : Int) - (p1.size : Int))) (p0.size : Int))) == (ByteArray.toList p1))) none) (some false)
theorem stringslite_HasSuffix_139_ok (K : Nat) (M0 : Nat → Prop) (w0 : World) (p0 : ByteArray) (p1 : ByteArray) (ho : ∀ b, M0 b → b < w0.heap.size) {r : Bool} (h : stringslite_HasSuffix_139.f K p0 p1 = some r) :
  Calls Tryz.prog 139 #[tS p0, tS p1] w0 (stringslite_HasSuffix_139.post M0 w0 r) := by
 unfold stringslite_HasSuffix_139.f at h
 have h0 : Holds M0 w0 w0 [] := Holds.start ho
 refine calls_of F139 rfl [tS p0, tS p1] (by kernel_rfl) (Xq 1 1 [.c 2] 1 [(0, tS p0), (1, tS p1)] (Zy 1 3 [.c 4] 6 [0, 1, 10] [(10, tB (decide ((p0.size : Int) ≥ (p1.size : Int))))] ?_))
 rcases oc h with ⟨hc1, h⟩ | ⟨hc1, h⟩
 ·refine Yf 10 true hc1 (Zp 6 [1, 10, 11, 16] [(11, tS p0), (16, iA (wA ((p0.size : Int) - (p1.size : Int))))] ?_)
  have ⟨hc2, h⟩ := oz h
  refine Yo (OpE.run 17 (by kernel_rfl) (run_strCut (T := 9) (s := p0) (lo := (some (wA ((p0.size : Int) - (p1.size : Int))))) (hi := none) (by kernel_rfl) (by kernel_rfl) hc2) (Yd 4 [(4, tB ((ByteArray.toList (strCut p0 (wA ((p0.size : Int) - (p1.size : Int))) (p0.size : Int))) == (ByteArray.toList p1)))] ?_))
  obtain rfl := sI h
  exact Xt (tB ((ByteArray.toList (strCut p0 (wA ((p0.size : Int) - (p1.size : Int))) (p0.size : Int))) == (ByteArray.toList p1))) ⟨rfl, h0.below⟩
 ·refine Yf 10 false hc1 (Yd 11 [(4, tB false)] ?_)
  obtain rfl := sI h
  exact Xt (tB false) ⟨rfl, h0.below⟩
end

section
abbrev stringslite_TrimSuffix_86.post := pS
def stringslite_TrimSuffix_86.f (K : Nat) (p0 : ByteArray) (p1 : ByteArray) : Option ByteArray := (stringslite_HasSuffix_139.f K p0 p1).bind fun t5 => cond t5 (cond (cutR 0 (IntKind.wrap .i64 ((p0.size : Int) - (p1.size : Int))) p0.size) (some (strCut p0 0 (IntKind.wrap .i64 ((p0.size : Int) - (p1.size : Int))))) none) (some p0)
theorem stringslite_TrimSuffix_86_ok (K : Nat) (M0 : Nat → Prop) (w0 : World) (p0 : ByteArray) (p1 : ByteArray) (ho : ∀ b, M0 b → b < w0.heap.size) {r : ByteArray} (h : stringslite_TrimSuffix_86.f K p0 p1 = some r) :
  Calls Tryz.prog 86 #[tS p0, tS p1] w0 (stringslite_TrimSuffix_86.post M0 w0 r) := by
 unfold stringslite_TrimSuffix_86.f at h
 have h0 : Holds M0 w0 w0 [] := Holds.start ho
 refine calls_of F86 rfl [tS p0, tS p1] (by kernel_rfl) (Xq 1 1 [.c 2] 1 [(0, tS p0), (1, tS p1)] (Zy 2 4 [.c 5, .c 10] 2 [0, 1, 5, 6] [(5, tS p0), (6, tS p1)] ?_))
 obtain ⟨t5, hg4, h⟩ := of_bind h
 refine Yc 7 139 #[tS p0, tS p1] ((stringslite_HasSuffix_139_ok K _ w0  p0 p1 h0.old' hg4).mono ?_)
 rintro _ w1 ⟨rfl, hb2⟩
 refine ⟨_, rfl, ?_⟩
 have h3 := h0.call hb2
 refine Ye (Vc 7 6 9 h (fun hc6 h => ?_) fun hc6 h => ?_)
 ·refine Xq 1 7 [.c 8, .c 10] 6 [(8, tS p0), (13, iA (wA ((p0.size : Int) - (p1.size : Int))))] ?_
  have ⟨hc7, h⟩ := oz h
  refine Yo (OpE.run 14 (by kernel_rfl) (run_strCut (T := 9) (s := p0) (lo := none) (hi := (some (wA ((p0.size : Int) - (p1.size : Int))))) (by kernel_rfl) (by kernel_rfl) hc7) (Yd 1 [(4, tS (strCut p0 0 (wA ((p0.size : Int) - (p1.size : Int)))))] ?_))
  obtain rfl := sI h
  exact Xt (tS (strCut p0 0 (wA ((p0.size : Int) - (p1.size : Int))))) ⟨rfl, h3.below⟩
 ·refine Xg 1 [.c 10] (Xd 1 11 [.c 12] 2 [(4, tS p0)] ?_)
  obtain rfl := sI h
  exact Xt (tS p0) ⟨rfl, h3.below⟩
end

section
abbrev strings_TrimSuffix_55.post := pS
def strings_TrimSuffix_55.f (K : Nat) (p0 : ByteArray) (p1 : ByteArray) : Option ByteArray := (stringslite_TrimSuffix_86.f K p0 p1).bind fun t5 => some t5
theorem strings_TrimSuffix_55_ok (K : Nat) (M0 : Nat → Prop) (w0 : World) (p0 : ByteArray) (p1 : ByteArray) (ho : ∀ b, M0 b → b < w0.heap.size) {r : ByteArray} (h : strings_TrimSuffix_55.f K p0 p1 = some r) :
  Calls Tryz.prog 55 #[tS p0, tS p1] w0 (strings_TrimSuffix_55.post M0 w0 r) := by
 unfold strings_TrimSuffix_55.f at h
 have h0 : Holds M0 w0 w0 [] := Holds.start ho
 refine calls_of F55 rfl [tS p0, tS p1] (by kernel_rfl) (Xq 1 1 [.c 2] 1 [(0, tS p0), (1, tS p1)] (Yq 1 3 [.c 4] 2 [(5, tS p0), (6, tS p1)] ?_))
 obtain ⟨t5, hg4, h⟩ := of_bind h
 refine Yc 7 86 #[tS p0, tS p1] ((stringslite_TrimSuffix_86_ok K _ w0  p0 p1 h0.old' hg4).mono ?_)
 rintro _ w1 ⟨rfl, hb2⟩
 refine ⟨_, rfl, ?_⟩
 have h3 := h0.call hb2
 refine Yd 1 [(4, tS t5)] ?_
 obtain rfl := sI h
 exact Xt (tS t5) ⟨rfl, h3.below⟩
end

section
abbrev listing_digits_35.post := pS
def listing_digits_35.l0 (K : Nat) (p0 : List Int) : Nat → (List UInt8) → Int → Option (List UInt8)
 | 0, _, _ => none
 | k + 1, t10, t11 => cond (decide (t11 < (p0.length : Int))) (cond (inR t11 p0.length) ((text_Hex_37.f K (IntKind.wrap .i64 (rdD p0 t11)) 2).bind fun t23 => (strings_TrimSuffix_55.f K t23 (⟨#[104]⟩ : ByteArray)).bind fun t28 => cond (bldR t10.length t28.size) (listing_digits_35.l0 K p0 k (t10 ++ t28.data.toList) (IntKind.wrap .i64 (t11 + 1))) none) none) (some t10)
theorem listing_digits_35.l0_ok (K : Nat) (M0 : Nat → Prop) (w0 : World) (pA0 : Option Addr) (pc0 : Nat) (p0 : List Int) (b7 : Nat) (R : Ending → World → Prop) (x : (List UInt8)) (hk0 : ∀ (t36 : List UInt8) (A34 : Option Addr) (c35 : Nat) (w1 : World), x = t36 → Holds M0 w0 w1 [bl 84 5 b7 (sV A34 t36 c35) A34 c35 t36, G12, G15, G16] → RunsI F35 [.c 21] [(3, pt b7)] w1 R) :
  ∀ (k : Nat) (t10 : List UInt8) (t11 : Int) (A8 : Option Addr) (c9 : Nat) (w : World), listing_digits_35.l0 K p0 k t10 t11 = some x → Holds M0 w0 w [bl 84 5 b7 (sV A8 t10 c9) A8 c9 t10, sl rB (sV pA0 p0 pc0) p0, G12, G15, G16] → RunsI F35 [.c 9, .lp 9, .blk 0, .c 21] [(3, pt b7), (6, sV pA0 p0 pc0), (7, iA (p0.length : Int)), (8, iA t11)] w R := by
 intro k
 induction k with
 | zero => intro t10 t11 A8 c9 w h hH; exact absurd h (by simp [listing_digits_35.l0])
 | succ k ih =>
  intro t10 t11 A8 c9 w h hH
  rw [listing_digits_35.l0.eq_2] at h
  refine Xd 1 10 [.c 11, .lp 9, .blk 0, .c 21] 1 [(3, pt b7), (6, sV pA0 p0 pc0), (7, iA (p0.length : Int)), (8, iA t11), (9, tB (decide (t11 < (p0.length : Int))))] (Xg 1 [.c 12, .c 15, .lp 9, .blk 0, .c 21] (Vc 9 13 14 h (fun hc12 h => ?_) fun hc12 h => ?_))
  ·refine Xg 1 [.c 15, .lp 9, .blk 0, .c 21] (Xg 3 [.c 18, .c 19, .blk 1, .c 20, .lp 9, .blk 0, .c 21] (Xr ?_))
   have ⟨hc13, h⟩ := oz h
   refine Yo (OpE.idxSl 10 1 39 t11 hH (by kernel_rfl) rfl (by kernel_rfl) (by kernel_rfl) hc13 ?_)
   intro b14 o15 cs16 hk17 h18
   obtain rfl := hk17
   refine Yz 11 5 5 b14 o15 0 (iB (rdD p0 t11)) h18 rfl (Yd 1 [(3, pt b7), (5, iB (rdD p0 t11)), (6, sV pA0 p0 pc0), (7, iA (p0.length : Int)), (8, iA t11)] (Xr (Zp 2 [3, 6, 7, 8, 13] [(13, iA (wA (rdD p0 t11)))] ?_)))
   obtain ⟨t23, hg22, h⟩ := of_bind h
   refine Yc 14 37 #[iA (wA (rdD p0 t11)), iA 2] ((text_Hex_37_ok K _ w  (wA (rdD p0 t11)) 2 h18.old' (h18.get 2 rfl) (h18.get 3 rfl) (h18.get 4 rfl) hg22).mono ?_)
   rintro _ w19 ⟨rfl, hb20⟩
   refine ⟨_, rfl, ?_⟩
   have h21 := h18.call hb20
   obtain ⟨t28, hg27, h⟩ := of_bind h
   refine Yc 15 55 #[tS t23, tS se6] ((strings_TrimSuffix_55_ok K _ w19  t23 se6 h21.old' hg27).mono ?_)
   rintro _ w24 ⟨rfl, hb25⟩
   refine ⟨_, rfl, ?_⟩
   have h26 := h21.call hb25
   have ⟨hc29, h⟩ := oz h
   refine Yc 16 54 #[pt b7, tS t28] ((strings_Builder_WriteString_54_ok 0 t28 h26 rfl hc29).mono ?_)
   rintro _ w30 ⟨rfl, A31, c32, h33⟩
   refine ⟨_, rfl, ?_⟩
   refine Zy 1 20 [.lp 9, .blk 0, .c 21] 2 [3, 6, 7, 8] [(8, iA (wA (t11 + 1)))] (Ye (Xg 1 [.c 9, .lp 9, .blk 0, .c 21] (Vl [(3, pt b7), (6, sV pA0 p0 pc0), (7, iA (p0.length : Int)), (8, iA (wA (t11 + 1)))] ?_)))
   exact ih (t10 ++ t28.data.toList) (wA (t11 + 1)) A31 c32 w30 h (h33.pk [0, 1, 2, 3, 4])
  ·refine Xg 1 [.c 21] (Vl [(3, pt b7)] ?_)
   exact hk0 t10 A8 c9 w (sI h).symm (hH.pk [0, 2, 3, 4])
def listing_digits_35.f (K : Nat) (p0 : List Int) : Option ByteArray := (listing_digits_35.l0 K p0 K ([] : List UInt8) 0).bind (fun t41 => some (⟨List.toArray t41⟩ : ByteArray))
theorem listing_digits_35_ok (K : Nat) (M0 : Nat → Prop) (w0 : World) (pA0 : Option Addr) (pc0 : Nat) (p0 : List Int) (ho : ∀ b, M0 b → b < w0.heap.size) (hs0 : Sl rB w0 M0 (sV pA0 p0 pc0) p0) (hG12 : G12.ok w0 M0) (hG15 : G15.ok w0 M0) (hG16 : G16.ok w0 M0) {r : ByteArray} (h : listing_digits_35.f K p0 = some r) :
  Calls Tryz.prog 35 #[sV pA0 p0 pc0] w0 (listing_digits_35.post M0 w0 r) := by
 unfold listing_digits_35.f at h
 have h0 : Holds M0 w0 w0 [] := Holds.start ho
 have h00 := h0.aS hs0
 have h0g12 := h00.aG hG12
 have h0g15 := h0g12.aG hG15
 have h0g16 := h0g15.aG hG16
 have h0 : Holds M0 w0 w0 [sl rB (sV pA0 p0 pc0) p0, G12, G15, G16] := h0g16
 refine calls_of F35 rfl [sV pA0 p0 pc0] (by kernel_rfl) (Xd 1 1 [.c 2] 1 [(0, sV pA0 p0 pc0)] (Xg 1 [.c 3, .c 4] (Xr (Yx 3 84 [.pointer none, n0] h0 ?_))))
 intro w1 b2 h3 hb5 hn6
 have h4 := h3.boxBl (E := 5) 4 rfl
 refine Yq 2 6 [.c 7, .c 21] 3 [(3, pt b2), (6, sV pA0 p0 pc0), (7, iA (p0.length : Int)), (8, iA 0)] (Ye (Xg 2 [.c 9, .lp 9, .blk 0, .c 21] ?_))
 obtain ⟨x37, hx38, h⟩ := of_bind h
 refine Vl [(3, pt b2), (6, sV pA0 p0 pc0), (7, iA (p0.length : Int)), (8, iA 0)] (listing_digits_35.l0_ok K M0 w0 pA0 pc0 p0 b2 _ x37 ?_ K ([] : List UInt8) 0 none 0 w1 hx38 (h4.pk [4, 0, 1, 2, 3]))
 ·intro t41 A39 c40 w43 hq47 h42
  (try rw [hq47] at h)
  refine Xg 1 [.c 22, .c 23] (Xr (Yc 18 56 #[pt b2] ((Tryz.Builder_String_any w0.heap.size b2 t41 w43 (bl_is h42 0 rfl rfl) h42.below.size).mono ?_)))
  rintro _ w44 ⟨rfl, hb45⟩
  refine ⟨_, rfl, ?_⟩
  have h46 := h42.only hb45
  refine Yd 1 [(2, tS (⟨List.toArray t41⟩ : ByteArray))] ?_
  obtain rfl := sI h
  exact Xt (tS (⟨List.toArray t41⟩ : ByteArray)) ⟨rfl, h46.below⟩
end

section
def text_of_93.post (M0 : Nat → Prop) (w0 : World) (r : Int × Int × Int × Int × Int × Int × Int × Int × Int × Int × Int) : Ending → World → Prop := fun e w => e = .returned (.agg #[.int .i64 r.1, .int .u8 r.2.1, .int .u8 r.2.2.1, .int .u16 r.2.2.2.1, .int .i64 r.2.2.2.2.1, .int .i64 r.2.2.2.2.2.1, .int .i64 r.2.2.2.2.2.2.1, .int .i64 r.2.2.2.2.2.2.2.1, .int .i64 r.2.2.2.2.2.2.2.2.1, .int .i64 r.2.2.2.2.2.2.2.2.2.1, .int .i64 r.2.2.2.2.2.2.2.2.2.2]) ∧ Below w0.heap.size w0 w
def text_of_93.f (K : Nat) (p0_0 : Int) (p0_1 : Int) (p0_2 : Int) (p0_3 : Int) (p0_4 : Int) (p0_5 : Int) : Option (Int × Int × Int × Int × Int × Int × Int × Int × Int × Int × Int) := (decode_Fields_24.f K p0_1).bind fun yt23 => some (p0_0, p0_1, p0_2, p0_3, p0_4, p0_5, yt23.1, yt23.2.1, yt23.2.2.1, yt23.2.2.2.1, yt23.2.2.2.2)
theorem text_of_93_ok (K : Nat) (M0 : Nat → Prop) (w0 : World) (a0 : Int) (a1 : Int) (a2 : Int) (a3 : Int) (a4 : Int) (a5 : Int) (ho : ∀ b, M0 b → b < w0.heap.size) {r : Int × Int × Int × Int × Int × Int × Int × Int × Int × Int × Int} (h : text_of_93.f K a0 a1 a2 a3 a4 a5 = some r) :
  Calls Tryz.prog 93 #[.agg #[iA a0, iB a1, iB a2, iC a3, iA a4, iA a5]] w0 (text_of_93.post M0 w0 r) := by
 unfold text_of_93.f at h
 have h0 : Holds M0 w0 w0 [] := Holds.start ho
 refine calls_of F93 rfl [.agg #[iA a0, iB a1, iB a2, iC a3, iA a4, iA a5]] (by kernel_rfl) (Xg 1 [.c 1, .c 2] (Xr (Yx 1 25 [iA a0, iB a1, iB a2, iC a3, iA a4, iA a5] h0 ?_)))
 intro w1 b2 h3 hb4 hn5
 refine Yx 2 126 [iA 0, iB 0, iB 0, iC 0, iA 0, iA 0, iA 0, iA 0, iA 0, iA 0, iA 0] h3 ?_
 intro w6 b7 h8 hb9 hn10
 refine Ye (Xg 1 [.c 3, .c 4] (Xr (Ya 4 0 25 b2 0 (.agg #[iA a0, iB a1, iB a2, iC a3, iA a4, iA a5]) h8 rfl (Yp 1 [(1, pt b2), (2, pt b7), (5, .agg #[iA a0, iB a1, iB a2, iC a3, iA a4, iA a5, iA 0, iA 0, iA 0, iA 0, iA 0])] (Yx 3 126 [iA 0, iB 0, iB 0, iC 0, iA 0, iA 0, iA 0, iA 0, iA 0, iA 0, iA 0] h8 ?_)))))
 intro w11 b12 h13 hb14 hn15
 refine Yb 2 126 b12 0 (.agg #[iA a0, iB a1, iB a2, iC a3, iA a4, iA a5, iA 0, iA 0, iA 0, iA 0, iA 0]) [iA a0, iB a1, iB a2, iC a3, iA a4, iA a5, iA 0, iA 0, iA 0, iA 0, iA 0] h13 rfl ?_
 intro w16 h17 hk18
 refine Zy 1 5 [.c 6] 1 [2, 3, 7] [(3, pt b12), (7, pu b2 1)] (Ya 8 0 5 b2 1 (iB a1) h17 rfl ?_)
 obtain ⟨⟨t23, t24, t25, t26, t27⟩, hg22, h⟩ := of_bind h
 dsimp only at h
 refine Yc 9 24 #[iB a1] ((decode_Fields_24_ok K _ w16  a1 h17.old' hg22).mono ?_)
 rintro _ w19 ⟨rfl, hb20⟩
 refine ⟨_, rfl, ?_⟩
 have h21 := h17.call hb20
 refine Yp 7 [(2, pt b7), (3, pt b12), (10, iA t23), (11, iA t24), (12, iA t25), (13, iA t26), (14, iA t27), (15, pu b12 6)] (Yb 2 3 b12 6 (iA t23) [iA a0, iB a1, iB a2, iC a3, iA a4, iA a5, iA t23, iA 0, iA 0, iA 0, iA 0] h21 rfl ?_)
 intro w28 h29 hk30
 refine Zp 1 [2, 3, 11, 12, 13, 14, 16] [(16, pu b12 7)] (Yb 2 3 b12 7 (iA t24) [iA a0, iB a1, iB a2, iC a3, iA a4, iA a5, iA t23, iA t24, iA 0, iA 0, iA 0] h29 rfl ?_)
 intro w31 h32 hk33
 refine Zp 1 [2, 3, 12, 13, 14, 17] [(17, pu b12 8)] (Yb 2 3 b12 8 (iA t25) [iA a0, iB a1, iB a2, iC a3, iA a4, iA a5, iA t23, iA t24, iA t25, iA 0, iA 0] h32 rfl ?_)
 intro w34 h35 hk36
 refine Zp 1 [2, 3, 13, 14, 18] [(18, pu b12 9)] (Yb 2 3 b12 9 (iA t26) [iA a0, iB a1, iB a2, iC a3, iA a4, iA a5, iA t23, iA t24, iA t25, iA t26, iA 0] h35 rfl ?_)
 intro w37 h38 hk39
 refine Zp 1 [2, 3, 14, 19] [(19, pu b12 10)] (Yb 2 3 b12 10 (iA t27) [iA a0, iB a1, iB a2, iC a3, iA a4, iA a5, iA t23, iA t24, iA t25, iA t26, iA t27] h38 rfl ?_)
 intro w40 h41 hk42
 refine Ye (Xg 1 [.c 7, .c 8] (Xr (Ya 20 2 126 b12 0 (.agg #[iA a0, iB a1, iB a2, iC a3, iA a4, iA a5, iA t23, iA t24, iA t25, iA t26, iA t27]) h41 rfl (Yb 1 126 b7 0 (.agg #[iA a0, iB a1, iB a2, iC a3, iA a4, iA a5, iA t23, iA t24, iA t25, iA t26, iA t27]) [iA a0, iB a1, iB a2, iC a3, iA a4, iA a5, iA t23, iA t24, iA t25, iA t26, iA t27] h41 rfl ?_))))
 intro w43 h44 hk45
 refine Ye (RunsI.toRet (by kernel_rfl) (RetI.valW [.cell 2 126] [.agg #[iA a0, iB a1, iB a2, iC a3, iA a4, iA a5, iA t23, iA t24, iA t25, iA t26, iA t27]] (.agg #[iA a0, iB a1, iB a2, iC a3, iA a4, iA a5, iA t23, iA t24, iA t25, iA t26, iA t27]) (by kernel_rfl) (ResAt.box 1 126 b7 0 h44 (by kernel_rfl) (by kernel_rfl) rfl (by kernel_rfl) rfl) (by kernel_rfl) ?_))
 obtain rfl := sI h
 exact ⟨rfl, h44.below⟩
end

section
abbrev strconv_Itoa_153.post := pS
def strconv_Itoa_153.f (K : Nat) (p0 : Int) : Option ByteArray := cond (in64 p0) (some (⟨(Lib.itoa p0).toArray⟩ : ByteArray)) none
theorem strconv_Itoa_153_ok (K : Nat) (M0 : Nat → Prop) (w0 : World) (p0 : Int) (ho : ∀ b, M0 b → b < w0.heap.size) (hG12 : G12.ok w0 M0) {r : ByteArray} (h : strconv_Itoa_153.f K p0 = some r) : Calls Tryz.prog 153 #[iA p0] w0 (strconv_Itoa_153.post M0 w0 r) := by
 obtain ⟨hc, h⟩ := oz h
 obtain rfl := sI h
 refine (Tryz.strconv_Itoa p0 (in64_l hc) (in64_r hc) w0 (tabIs_of_gl hG12 (by kernel_rfl) (by kernel_rfl))).mono ?_
 rintro e w' ⟨rfl, k, os, rfl⟩
 exact ⟨rfl, Lib.below_grow _ _ (Nat.le_refl _) _ _⟩
end

section
abbrev text_signed_172.post := pS
def text_signed_172.f (K : Nat) (p0 : Int) : Option ByteArray := cond (decide (p0 < 0)) ((strconv_Itoa_153.f K p0).bind fun t6 => some t6) ((strconv_Itoa_153.f K p0).bind fun t11 => cond (mayCat (⟨#[43]⟩ : ByteArray).size t11.size) (some ((⟨#[43]⟩ : ByteArray) ++ t11)) none)
theorem text_signed_172_ok (K : Nat) (M0 : Nat → Prop) (w0 : World) (p0 : Int) (ho : ∀ b, M0 b → b < w0.heap.size) (hG12 : G12.ok w0 M0) {r : ByteArray} (h : text_signed_172.f K p0 = some r) :
  Calls Tryz.prog 172 #[iA p0] w0 (text_signed_172.post M0 w0 r) := by
 unfold text_signed_172.f at h
 have h0 : Holds M0 w0 w0 [] := Holds.start ho
 have h0g12 := h0.aG hG12
 have h0 : Holds M0 w0 w0 [G12] := h0g12
 refine calls_of F172 rfl [iA p0] (by kernel_rfl) (Xq 1 1 [.c 2] 1 [(0, iA p0)] (Zy 2 4 [.c 5, .c 10] 2 [0, 4] [(4, tB (decide (p0 < 0)))] (Ye (Vc 4 6 9 h (fun hc1 h => ?_) fun hc1 h => ?_))))
 ·refine Xq 1 7 [.c 8, .c 10] 1 [(5, iA p0)] ?_
  obtain ⟨t6, hg5, h⟩ := of_bind h
  refine Yc 6 153 #[iA p0] ((strconv_Itoa_153_ok K _ w0  p0 h0.old' (h0.get 0 rfl) hg5).mono ?_)
  rintro _ w2 ⟨rfl, hb3⟩
  refine ⟨_, rfl, ?_⟩
  have h4 := h0.call hb3
  refine Yd 1 [(2, tS t6)] ?_
  obtain rfl := sI h
  exact Xt (tS t6) ⟨rfl, h4.below⟩
 ·refine Xg 1 [.c 10] (Xq 1 11 [.c 12] 1 [(7, iA p0)] ?_)
  obtain ⟨t11, hg10, h⟩ := of_bind h
  refine Yc 8 153 #[iA p0] ((strconv_Itoa_153_ok K _ w0  p0 h0.old' (h0.get 0 rfl) hg10).mono ?_)
  rintro _ w7 ⟨rfl, hb8⟩
  refine ⟨_, rfl, ?_⟩
  have h9 := h0.call hb8
  have ⟨hc12, h⟩ := oz h
  refine Yt 9 (⟨#[43]⟩ : ByteArray) t11 hc12 (Yd 1 [(2, tS ((⟨#[43]⟩ : ByteArray) ++ t11))] ?_)
  obtain rfl := sI h
  exact Xt (tS ((⟨#[43]⟩ : ByteArray) ++ t11)) ⟨rfl, h9.below⟩
end

section
abbrev text_shown_to_145.post := pS
def text_shown_to_145.f (K : Nat) (p0_0_0 : Int) (p0_0_1 : Int) (p0_0_2 : Int) (p0_0_3 : Int) (p0_0_4 : Int) (p0_0_5 : Int) (p0_1 : Int) (p0_2 : Int) (p0_3 : Int) (p0_4 : Int) (p0_5 : Int) : Option ByteArray := (bits_Lo_26.f K p0_0_3).bind fun t10 => (bits_Signed_25.f K t10).bind fun t15 => (text_signed_172.f K (IntKind.wrap .i64 (t15 + 2))).bind fun t20 => cond (mayCat (⟨#[36]⟩ : ByteArray).size t20.size) (some ((⟨#[36]⟩ : ByteArray) ++ t20)) none
theorem text_shown_to_145_ok (K : Nat) (M0 : Nat → Prop) (w0 : World) (a6 : Int) (a7 : Int) (a8 : Int) (a9 : Int) (d0 : Int) (d1 : Int) (a1 : Int) (a2 : Int) (a3 : Int) (a4 : Int) (a5 : Int) (ho : ∀ b, M0 b → b < w0.heap.size) (hG12 : G12.ok w0 M0) {r : ByteArray} (h : text_shown_to_145.f K a6 a7 a8 a9 d0 d1 a1 a2 a3 a4 a5 = some r) :
  Calls Tryz.prog 145 #[.agg #[iA a6, iB a7, iB a8, iC a9, iA d0, iA d1, iA a1, iA a2, iA a3, iA a4, iA a5]] w0 (text_shown_to_145.post M0 w0 r) := by
 unfold text_shown_to_145.f at h
 have h0 : Holds M0 w0 w0 [] := Holds.start ho
 have h0g12 := h0.aG hG12
 have h0 : Holds M0 w0 w0 [G12] := h0g12
 refine calls_of F145 rfl [.agg #[iA a6, iB a7, iB a8, iC a9, iA d0, iA d1, iA a1, iA a2, iA a3, iA a4, iA a5]] (by kernel_rfl) (Xg 1 [.c 1, .c 2] (Xr (Yx 1 126 [iA a6, iB a7, iB a8, iC a9, iA d0, iA d1, iA a1, iA a2, iA a3, iA a4, iA a5] h0 ?_)))
 intro w1 b2 h3 hb4 hn5
 refine Yp 1 [(1, pt b2)] (Yq 1 3 [.c 4] 2 [(4, pu b2 3)] (Ya 5 1 23 b2 3 (iC a9) h3 rfl ?_))
 obtain ⟨t10, hg9, h⟩ := of_bind h
 refine Yc 6 26 #[iC a9] ((bits_Lo_26_ok K _ w1  a9 h3.old' hg9).mono ?_)
 rintro _ w6 ⟨rfl, hb7⟩
 refine ⟨_, rfl, ?_⟩
 have h8 := h3.call hb7
 obtain ⟨t15, hg14, h⟩ := of_bind h
 refine Yc 7 25 #[iB t10] ((bits_Signed_25_ok K _ w6  t10 h8.old' hg14).mono ?_)
 rintro _ w11 ⟨rfl, hb12⟩
 refine ⟨_, rfl, ?_⟩
 have h13 := h8.call hb12
 refine Yp 1 [(8, iA (wA (t15 + 2)))] ?_
 obtain ⟨t20, hg19, h⟩ := of_bind h
 refine Yc 9 172 #[iA (wA (t15 + 2))] ((text_signed_172_ok K _ w11  (wA (t15 + 2)) h13.old' (h13.get 0 rfl) hg19).mono ?_)
 rintro _ w16 ⟨rfl, hb17⟩
 refine ⟨_, rfl, ?_⟩
 have h18 := h13.call hb17
 have ⟨hc21, h⟩ := oz h
 refine Yt 10 (⟨#[36]⟩ : ByteArray) t20 hc21 (Yd 1 [(2, tS ((⟨#[36]⟩ : ByteArray) ++ t20))] ?_)
 obtain rfl := sI h
 exact Xt (tS ((⟨#[36]⟩ : ByteArray) ++ t20)) ⟨rfl, h18.below⟩
end

section
abbrev text_shown_indexed_173.post := pB
def text_shown_indexed_173.f (K : Nat) (p0_0_0 : Int) (p0_0_1 : Int) (p0_0_2 : Int) (p0_0_3 : Int) (p0_0_4 : Int) (p0_0_5 : Int) (p0_1 : Int) (p0_2 : Int) (p0_3 : Int) (p0_4 : Int) (p0_5 : Int) : Option Bool := cond (p0_0_0 == 3) (some true) (some (p0_0_0 == 4))
theorem text_shown_indexed_173_ok (K : Nat) (M0 : Nat → Prop) (w0 : World) (a6 : Int) (a7 : Int) (a8 : Int) (a9 : Int) (d0 : Int) (d1 : Int) (a1 : Int) (a2 : Int) (a3 : Int) (a4 : Int) (a5 : Int) (ho : ∀ b, M0 b → b < w0.heap.size) {r : Bool} (h : text_shown_indexed_173.f K a6 a7 a8 a9 d0 d1 a1 a2 a3 a4 a5 = some r) :
  Calls Tryz.prog 173 #[.agg #[iA a6, iB a7, iB a8, iC a9, iA d0, iA d1, iA a1, iA a2, iA a3, iA a4, iA a5]] w0 (text_shown_indexed_173.post M0 w0 r) := by
 unfold text_shown_indexed_173.f at h
 have h0 : Holds M0 w0 w0 [] := Holds.start ho
 refine calls_of F173 rfl [.agg #[iA a6, iB a7, iB a8, iC a9, iA d0, iA d1, iA a1, iA a2, iA a3, iA a4, iA a5]] (by kernel_rfl) (Xg 1 [.c 1, .c 2] (Xr (Yx 1 126 [iA a6, iB a7, iB a8, iC a9, iA d0, iA d1, iA a1, iA a2, iA a3, iA a4, iA a5] h0 ?_)))
 intro w1 b2 h3 hb4 hn5
 refine Yp 1 [(1, pt b2)] (Zy 1 3 [.c 4] 2 [1, 4] [(4, pt b2)] (Ya 5 0 3 b2 0 (iA a6) h3 rfl (Zp 2 [1, 7] [(7, tB (a6 == 3))] ?_)))
 rcases oc h with ⟨hc6, h⟩ | ⟨hc6, h⟩
 ·refine Yf 7 true hc6 (Yd 6 [(2, tB true)] ?_)
  obtain rfl := sI h
  exact Xt (tB true) ⟨rfl, h3.below⟩
 ·refine Yf 7 false hc6 (Zp 2 [7, 9] [(9, pt b2)] (Ya 10 0 3 b2 0 (iA a6) h3 rfl (Yd 3 [(2, tB (a6 == 4))] ?_)))
  obtain rfl := sI h
  exact Xt (tB (a6 == 4)) ⟨rfl, h3.below⟩
end

section
abbrev text_index_174.post := pS
def text_index_174.f (K : Nat) (p0 : Int) : Option ByteArray := Let (fun (t2 : Bool) => cond t2 (some (⟨#[105, 120]⟩ : ByteArray)) (some (⟨#[105, 121]⟩ : ByteArray))) (fun j5 => cond (p0 == 3) (j5 true) (j5 (p0 == 5)))
theorem text_index_174_ok (K : Nat) (M0 : Nat → Prop) (w0 : World) (p0 : Int) (ho : ∀ b, M0 b → b < w0.heap.size) {r : ByteArray} (h : text_index_174.f K p0 = some r) :
  Calls Tryz.prog 174 #[iA p0] w0 (text_index_174.post M0 w0 r) := by
 unfold text_index_174.f at h
 have h0 : Holds M0 w0 w0 [] := Holds.start ho
 refine calls_of F174 rfl [iA p0] (by kernel_rfl) (Xq 1 1 [.c 2] 1 [(0, iA p0)] (Zy 2 4 [.c 5, .c 10] 3 [0, 5] [(5, tB (p0 == 3))] ?_))
 obtain ⟨j5, hJ6, h⟩ := of_let h
 have hj7 : ∀ (t2 : Bool) (w4 : World), j5 t2 = some r → Holds M0 w0 w4 [] → RegI F174 4 [.c 5, .c 10] 6 [(8, tB t2)] w4 (text_index_174.post M0 w0 r) := by
  intro t2 w4 h h3
  rw [hJ6] at h
  clear hJ6
  dsimp only at h
  refine Ye (Vc 8 6 9 h (fun hc8 h => ?_) fun hc8 h => ?_)
  ·refine Xd 1 7 [.c 8, .c 10] 1 [(2, tS (⟨#[105, 120]⟩ : ByteArray))] ?_
   obtain rfl := sI h
   exact Xt (tS (⟨#[105, 120]⟩ : ByteArray)) ⟨rfl, h3.below⟩
  ·refine Xg 1 [.c 10] (Xd 1 11 [.c 12] 1 [(2, tS (⟨#[105, 121]⟩ : ByteArray))] ?_)
   obtain rfl := sI h
   exact Xt (tS (⟨#[105, 121]⟩ : ByteArray)) ⟨rfl, h3.below⟩
 clear hJ6
 rcases oc h with ⟨hc1, h⟩ | ⟨hc1, h⟩
 ·refine Yf 5 true hc1 (Yp 3 [(8, tB true)] (Ul [(8, tB true)] ?_))
  exact hj7 true w0 h (h0.pk [])
 ·refine Yf 5 false hc1 (Yp 3 [(8, tB (p0 == 5))] (Ul [(8, tB (p0 == 5))] ?_))
  exact hj7 (p0 == 5) w0 h (h0.pk [])
end

section
abbrev text_shown_pair_147.post := pS
def text_shown_pair_147.f (K : Nat) (p0_0_0 : Int) (p0_0_1 : Int) (p0_0_2 : Int) (p0_0_3 : Int) (p0_0_4 : Int) (p0_0_5 : Int) (p0_1 : Int) (p0_2 : Int) (p0_3 : Int) (p0_4 : Int) (p0_5 : Int) (p1 : Int) (p2 : Bool) : Option ByteArray := Let (fun (t12 : Bool) => cond t12 ((text_index_174.f K p0_0_0).bind fun t23 => some t23) (Let (fun (t25 : Bool) => cond t25 (some (rdD tab_7 4)) (cond (inR p1 5) (some (rdD tab_7 p1)) none)) (fun j28 => cond (p1 == 3) (j28 p2) (j28 false)))) (fun j15 => cond (p1 == 2) ((text_shown_indexed_173.f K p0_0_0 p0_0_1 p0_0_2 p0_0_3 p0_0_4 p0_0_5 p0_1 p0_2 p0_3 p0_4 p0_5).bind fun t11 => j15 t11) (j15 false))
theorem text_shown_pair_147_ok (K : Nat) (M0 : Nat → Prop) (w0 : World) (a6 : Int) (a7 : Int) (a8 : Int) (a9 : Int) (d0 : Int) (d1 : Int) (a1 : Int) (a2 : Int) (a3 : Int) (a4 : Int) (a5 : Int) (p1 : Int) (p2 : Bool) (ho : ∀ b, M0 b → b < w0.heap.size) (hG7 : G7.ok w0 M0) {r : ByteArray} (h : text_shown_pair_147.f K a6 a7 a8 a9 d0 d1 a1 a2 a3 a4 a5 p1 p2 = some r) :
  Calls Tryz.prog 147 #[.agg #[iA a6, iB a7, iB a8, iC a9, iA d0, iA d1, iA a1, iA a2, iA a3, iA a4, iA a5], iA p1, tB p2] w0 (text_shown_pair_147.post M0 w0 r) := by
 unfold text_shown_pair_147.f at h
 have h0 : Holds M0 w0 w0 [] := Holds.start ho
 have h0g7 := h0.aG hG7
 have h0 : Holds M0 w0 w0 [G7] := h0g7
 refine calls_of F147 rfl [.agg #[iA a6, iB a7, iB a8, iC a9, iA d0, iA d1, iA a1, iA a2, iA a3, iA a4, iA a5], iA p1, tB p2] (by kernel_rfl) (Xg 1 [.c 1, .c 2] (Xr (Yx 3 126 [iA a6, iB a7, iB a8, iC a9, iA d0, iA d1, iA a1, iA a2, iA a3, iA a4, iA a5] h0 ?_)))
 intro w1 b2 h3 hb4 hn5
 refine Yp 1 [(1, iA p1), (2, tB p2), (3, pt b2)] (Zy 3 5 [.c 6, .blk 0, .c 17] 3 [1, 2, 3, 10] [(10, tB (p1 == 2))] ?_)
 obtain ⟨j15, hJ16, h⟩ := of_let h
 have hj17 : ∀ (t12 : Bool) (w14 : World), j15 t12 = some r → Holds M0 w0 w14 [box b2 126 [iA a6, iB a7, iB a8, iC a9, iA d0, iA d1, iA a1, iA a2, iA a3, iA a4, iA a5], G7] → RegI F147 5 [.c 6, .blk 0, .c 17] 7 [(1, iA p1), (2, tB p2), (3, pt b2), (7, tB t12)] w14 (text_shown_pair_147.post M0 w0 r) := by
  intro t12 w14 h h13
  rw [hJ16] at h
  clear hJ16
  dsimp only at h
  refine Ye (Vc 7 7 10 h (fun hc18 h => ?_) fun hc18 h => ?_)
  ·refine Xq 1 8 [.c 9, .blk 0, .c 17] 2 [(15, pt b2)] (Ya 16 0 3 b2 0 (iA a6) h13 rfl ?_)
   obtain ⟨t23, hg22, h⟩ := of_bind h
   refine Yc 17 174 #[iA a6] ((text_index_174_ok K _ w14  a6 h13.old' hg22).mono ?_)
   rintro _ w19 ⟨rfl, hb20⟩
   refine ⟨_, rfl, ?_⟩
   have h21 := h13.call hb20
   refine Yd 1 [(6, tS t23)] ?_
   obtain rfl := sI h
   exact Xt (tS t23) ⟨rfl, h21.below⟩
  ·refine Xq 1 11 [.c 12, .blk 0, .c 17] 3 [(1, iA p1), (2, tB p2), (21, tB (p1 == 3))] ?_
   obtain ⟨j28, hJ29, h⟩ := of_let h
   have hj30 : ∀ (t25 : Bool) (w27 : World), j28 t25 = some r → Holds M0 w0 w27 [G7] → RegI F147 11 [.c 12, .blk 0, .c 17] 6 [(1, iA p1), (18, tB t25)] w27 (text_shown_pair_147.post M0 w0 r) := by
    intro t25 w27 h h26
    rw [hJ29] at h
    clear hJ29
    dsimp only at h
    refine Ye (Vc 18 13 16 h (fun hc31 h => ?_) fun hc31 h => ?_)
    ·refine Xg 1 [.c 14, .c 15, .blk 0, .c 17] (Xr (Yo (OpE.run 24 (by kernel_rfl) (run_idxArr (T := 173) (b := 7) (o := 0) (ix := 4) (len := 5) (s := 1) (by kernel_rfl) (by kernel_rfl) (by kernel_rfl)) (Yo (OpE.loadTab 25 0 9 en_7 tab_7 0 1 4 (tS (rdD tab_7 4)) (o := 0 + (Int.toNat 4) * 1 + 0) h26 (by kernel_rfl) rfl (fun _ => rfl) (by kernel_rfl) (by omega) (by kernel_rfl) (fun _ => by kernel_rfl) (Yd 1 [(6, tS (rdD tab_7 4))] ?_))))))
     obtain rfl := sI h
     exact Xt (tS (rdD tab_7 4)) ⟨rfl, h26.below⟩
    ·refine Xg 1 [.blk 0, .c 17] (Xq 2 18 [.c 19] 1 [(26, iA p1)] ?_)
     have ⟨hc32, h⟩ := oz h
     refine Yo (OpE.run 27 (by kernel_rfl) (run_idxArr (T := 173) (b := 7) (o := 0) (ix := p1) (len := 5) (s := 1) (by kernel_rfl) (by kernel_rfl) hc32) (Yo (OpE.loadTab 28 0 9 en_7 tab_7 0 1 p1 (tS (rdD tab_7 p1)) (o := 0 + (Int.toNat p1) * 1 + 0) h26 (by kernel_rfl) rfl (fun _ => rfl) (by kernel_rfl) (by omega) hc32 (fun _ => by kernel_rfl) (Yd 1 [(6, tS (rdD tab_7 p1))] ?_))))
     obtain rfl := sI h
     exact Xt (tS (rdD tab_7 p1)) ⟨rfl, h26.below⟩
   clear hJ29
   rcases oc h with ⟨hc24, h⟩ | ⟨hc24, h⟩
   ·refine Yf 21 true hc24 (Zp 3 [1, 18] [(18, tB p2)] (Ul [(1, iA p1), (18, tB p2)] ?_))
    exact hj30 p2 w14 h (h13.pk [1])
   ·refine Yf 21 false hc24 (Zp 3 [1, 18] [(18, tB false)] (Ul [(1, iA p1), (18, tB false)] ?_))
    exact hj30 false w14 h (h13.pk [1])
 clear hJ16
 rcases oc h with ⟨hc6, h⟩ | ⟨hc6, h⟩
 ·refine Yf 10 true hc6 (Ya 11 1 126 b2 0 (.agg #[iA a6, iB a7, iB a8, iC a9, iA d0, iA d1, iA a1, iA a2, iA a3, iA a4, iA a5]) h3 rfl ?_)
  obtain ⟨t11, hg10, h⟩ := of_bind h
  refine Yc 12 173 #[.agg #[iA a6, iB a7, iB a8, iC a9, iA d0, iA d1, iA a1, iA a2, iA a3, iA a4, iA a5]] ((text_shown_indexed_173_ok K _ w1  a6 a7 a8 a9 d0 d1 a1 a2 a3 a4 a5 h3.old' hg10).mono ?_)
  rintro _ w7 ⟨rfl, hb8⟩
  refine ⟨_, rfl, ?_⟩
  have h9 := h3.call hb8
  refine Zp 2 [1, 2, 3, 7] [(7, tB t11)] (Ul [(1, iA p1), (2, tB p2), (3, pt b2), (7, tB t11)] ?_)
  exact hj17 t11 w7 h (h9.pk [1, 0])
 ·refine Yf 10 false hc6 (Zp 4 [1, 2, 3, 7] [(7, tB false)] (Ul [(1, iA p1), (2, tB p2), (3, pt b2), (7, tB false)] ?_))
  exact hj17 false w1 h (h3.pk [1, 0])
end

section
abbrev text_shown_hl_146.post := pS
def text_shown_hl_146.f (K : Nat) (p0_0_0 : Int) (p0_0_1 : Int) (p0_0_2 : Int) (p0_0_3 : Int) (p0_0_4 : Int) (p0_0_5 : Int) (p0_1 : Int) (p0_2 : Int) (p0_3 : Int) (p0_4 : Int) (p0_5 : Int) : Option ByteArray := (text_shown_pair_147.f K p0_0_0 p0_0_1 p0_0_2 p0_0_3 p0_0_4 p0_0_5 p0_1 p0_2 p0_3 p0_4 p0_5 2 false).bind fun t10 => some t10
theorem text_shown_hl_146_ok (K : Nat) (M0 : Nat → Prop) (w0 : World) (a6 : Int) (a7 : Int) (a8 : Int) (a9 : Int) (d0 : Int) (d1 : Int) (a1 : Int) (a2 : Int) (a3 : Int) (a4 : Int) (a5 : Int) (ho : ∀ b, M0 b → b < w0.heap.size) (hG7 : G7.ok w0 M0) {r : ByteArray} (h : text_shown_hl_146.f K a6 a7 a8 a9 d0 d1 a1 a2 a3 a4 a5 = some r) :
  Calls Tryz.prog 146 #[.agg #[iA a6, iB a7, iB a8, iC a9, iA d0, iA d1, iA a1, iA a2, iA a3, iA a4, iA a5]] w0 (text_shown_hl_146.post M0 w0 r) := by
 unfold text_shown_hl_146.f at h
 have h0 : Holds M0 w0 w0 [] := Holds.start ho
 have h0g7 := h0.aG hG7
 have h0 : Holds M0 w0 w0 [G7] := h0g7
 refine calls_of F146 rfl [.agg #[iA a6, iB a7, iB a8, iC a9, iA d0, iA d1, iA a1, iA a2, iA a3, iA a4, iA a5]] (by kernel_rfl) (Xg 1 [.c 1, .c 2] (Xr (Yx 1 126 [iA a6, iB a7, iB a8, iC a9, iA d0, iA d1, iA a1, iA a2, iA a3, iA a4, iA a5] h0 ?_)))
 intro w1 b2 h3 hb4 hn5
 refine Yd 1 [(1, pt b2)] (Xg 1 [.c 3, .c 4] (Xr (Ya 3 1 126 b2 0 (.agg #[iA a6, iB a7, iB a8, iC a9, iA d0, iA d1, iA a1, iA a2, iA a3, iA a4, iA a5]) h3 rfl ?_)))
 obtain ⟨t10, hg9, h⟩ := of_bind h
 refine Yc 4 147 #[.agg #[iA a6, iB a7, iB a8, iC a9, iA d0, iA d1, iA a1, iA a2, iA a3, iA a4, iA a5], iA 2, tB false] ((text_shown_pair_147_ok K _ w1  a6 a7 a8 a9 d0 d1 a1 a2 a3 a4 a5 2 false h3.old' (h3.get 0 rfl) hg9).mono ?_)
 rintro _ w6 ⟨rfl, hb7⟩
 refine ⟨_, rfl, ?_⟩
 have h8 := h3.call hb7
 refine Yd 1 [(2, tS t10)] ?_
 obtain rfl := sI h
 exact Xt (tS t10) ⟨rfl, h8.below⟩
end

section
abbrev text_shown_nn_148.post := pS
def text_shown_nn_148.f (K : Nat) (p0_0_0 : Int) (p0_0_1 : Int) (p0_0_2 : Int) (p0_0_3 : Int) (p0_0_4 : Int) (p0_0_5 : Int) (p0_1 : Int) (p0_2 : Int) (p0_3 : Int) (p0_4 : Int) (p0_5 : Int) : Option ByteArray := (text_Hex_37.f K (IntKind.wrap .i64 p0_0_3) 4).bind fun t10 => some t10
theorem text_shown_nn_148_ok (K : Nat) (M0 : Nat → Prop) (w0 : World) (a6 : Int) (a7 : Int) (a8 : Int) (a9 : Int) (d0 : Int) (d1 : Int) (a1 : Int) (a2 : Int) (a3 : Int) (a4 : Int) (a5 : Int) (ho : ∀ b, M0 b → b < w0.heap.size) (hG12 : G12.ok w0 M0) (hG15 : G15.ok w0 M0) (hG16 : G16.ok w0 M0) {r : ByteArray} (h : text_shown_nn_148.f K a6 a7 a8 a9 d0 d1 a1 a2 a3 a4 a5 = some r) :
  Calls Tryz.prog 148 #[.agg #[iA a6, iB a7, iB a8, iC a9, iA d0, iA d1, iA a1, iA a2, iA a3, iA a4, iA a5]] w0 (text_shown_nn_148.post M0 w0 r) := by
 unfold text_shown_nn_148.f at h
 have h0 : Holds M0 w0 w0 [] := Holds.start ho
 have h0g12 := h0.aG hG12
 have h0g15 := h0g12.aG hG15
 have h0g16 := h0g15.aG hG16
 have h0 : Holds M0 w0 w0 [G12, G15, G16] := h0g16
 refine calls_of F148 rfl [.agg #[iA a6, iB a7, iB a8, iC a9, iA d0, iA d1, iA a1, iA a2, iA a3, iA a4, iA a5]] (by kernel_rfl) (Xg 1 [.c 1, .c 2] (Xr (Yx 1 126 [iA a6, iB a7, iB a8, iC a9, iA d0, iA d1, iA a1, iA a2, iA a3, iA a4, iA a5] h0 ?_)))
 intro w1 b2 h3 hb4 hn5
 refine Yp 1 [(1, pt b2)] (Yq 1 3 [.c 4] 2 [(4, pu b2 3)] (Ya 5 3 23 b2 3 (iC a9) h3 rfl (Yp 1 [(6, iA (wA a9))] ?_)))
 obtain ⟨t10, hg9, h⟩ := of_bind h
 refine Yc 7 37 #[iA (wA a9), iA 4] ((text_Hex_37_ok K _ w1  (wA a9) 4 h3.old' (h3.get 0 rfl) (h3.get 1 rfl) (h3.get 2 rfl) hg9).mono ?_)
 rintro _ w6 ⟨rfl, hb7⟩
 refine ⟨_, rfl, ?_⟩
 have h8 := h3.call hb7
 refine Yd 1 [(2, tS t10)] ?_
 obtain rfl := sI h
 exact Xt (tS t10) ⟨rfl, h8.below⟩
end

section
abbrev text_shown_through_149.post := pS
def text_shown_through_149.f (K : Nat) (p0_0_0 : Int) (p0_0_1 : Int) (p0_0_2 : Int) (p0_0_3 : Int) (p0_0_4 : Int) (p0_0_5 : Int) (p0_1 : Int) (p0_2 : Int) (p0_3 : Int) (p0_4 : Int) (p0_5 : Int) : Option ByteArray := (text_shown_nn_148.f K p0_0_0 p0_0_1 p0_0_2 p0_0_3 p0_0_4 p0_0_5 p0_1 p0_2 p0_3 p0_4 p0_5).bind fun t10 => cond (mayCat (⟨#[40]⟩ : ByteArray).size t10.size) (cond (mayCat ((⟨#[40]⟩ : ByteArray) ++ t10).size (⟨#[41]⟩ : ByteArray).size) (cond (mayCat (⟨#[108, 100, 32]⟩ : ByteArray).size (((⟨#[40]⟩ : ByteArray) ++ t10) ++ (⟨#[41]⟩ : ByteArray)).size) (cond (mayCat ((⟨#[108, 100, 32]⟩ : ByteArray) ++ (((⟨#[40]⟩ : ByteArray) ++ t10) ++ (⟨#[41]⟩ : ByteArray))).size (⟨#[44]⟩ : ByteArray).size) ((text_shown_hl_146.f K p0_0_0 p0_0_1 p0_0_2 p0_0_3 p0_0_4 p0_0_5 p0_1 p0_2 p0_3 p0_4 p0_5).bind fun t20 => cond (mayCat (((⟨#[108, 100, 32]⟩ : ByteArray) ++ (((⟨#[40]⟩ : ByteArray) ++ t10) ++ (⟨#[41]⟩ : ByteArray))) ++ (⟨#[44]⟩ : ByteArray)).size t20.size) ((text_shown_hl_146.f K p0_0_0 p0_0_1 p0_0_2 p0_0_3 p0_0_4 p0_0_5 p0_1 p0_2 p0_3 p0_4 p0_5).bind fun t23 => cond (mayCat (⟨#[108, 100, 32]⟩ : ByteArray).size t23.size) (cond (mayCat ((⟨#[108, 100, 32]⟩ : ByteArray) ++ t23).size (⟨#[44]⟩ : ByteArray).size) (cond (mayCat (((⟨#[108, 100, 32]⟩ : ByteArray) ++ t23) ++ (⟨#[44]⟩ : ByteArray)).size (((⟨#[40]⟩ : ByteArray) ++ t10) ++ (⟨#[41]⟩ : ByteArray)).size) (cond (mayCat ((⟨#[108, 100, 32]⟩ : ByteArray) ++ (((⟨#[40]⟩ : ByteArray) ++ t10) ++ (⟨#[41]⟩ : ByteArray))).size (⟨#[44, 97]⟩ : ByteArray).size) (cond (mayCat (⟨#[108, 100, 32, 97, 44]⟩ : ByteArray).size (((⟨#[40]⟩ : ByteArray) ++ t10) ++ (⟨#[41]⟩ : ByteArray)).size) (cond (inR p0_2 8) (some (rdD ([(⟨#[108, 100, 32, 40, 98, 99, 41, 44, 97]⟩ : ByteArray), (⟨#[108, 100, 32, 97, 44, 40, 98, 99, 41]⟩ : ByteArray), (⟨#[108, 100, 32, 40, 100, 101, 41, 44, 97]⟩ : ByteArray), (⟨#[108, 100, 32, 97, 44, 40, 100, 101, 41]⟩ : ByteArray), ((((⟨#[108, 100, 32]⟩ : ByteArray) ++ (((⟨#[40]⟩ : ByteArray) ++ t10) ++ (⟨#[41]⟩ : ByteArray))) ++ (⟨#[44]⟩ : ByteArray)) ++ t20), ((((⟨#[108, 100, 32]⟩ : ByteArray) ++ t23) ++ (⟨#[44]⟩ : ByteArray)) ++ (((⟨#[40]⟩ : ByteArray) ++ t10) ++ (⟨#[41]⟩ : ByteArray))), (((⟨#[108, 100, 32]⟩ : ByteArray) ++ (((⟨#[40]⟩ : ByteArray) ++ t10) ++ (⟨#[41]⟩ : ByteArray))) ++ (⟨#[44, 97]⟩ : ByteArray)), ((⟨#[108, 100, 32, 97, 44]⟩ : ByteArray) ++ (((⟨#[40]⟩ : ByteArray) ++ t10) ++ (⟨#[41]⟩ : ByteArray)))] : List ByteArray) p0_2)) none) none) none) none) none) none) none) none) none) none) none
theorem text_shown_through_149_ok (K : Nat) (M0 : Nat → Prop) (w0 : World) (a6 : Int) (a7 : Int) (a8 : Int) (a9 : Int) (d0 : Int) (d1 : Int) (a1 : Int) (a2 : Int) (a3 : Int) (a4 : Int) (a5 : Int) (ho : ∀ b, M0 b → b < w0.heap.size) (hG7 : G7.ok w0 M0) (hG12 : G12.ok w0 M0) (hG15 : G15.ok w0 M0) (hG16 : G16.ok w0 M0) {r : ByteArray} (h : text_shown_through_149.f K a6 a7 a8 a9 d0 d1 a1 a2 a3 a4 a5 = some r) :
  Calls Tryz.prog 149 #[.agg #[iA a6, iB a7, iB a8, iC a9, iA d0, iA d1, iA a1, iA a2, iA a3, iA a4, iA a5]] w0 (text_shown_through_149.post M0 w0 r) := by
 unfold text_shown_through_149.f at h
 have h0 : Holds M0 w0 w0 [] := Holds.start ho
 have h0g7 := h0.aG hG7
 have h0g12 := h0g7.aG hG12
 have h0g15 := h0g12.aG hG15
 have h0g16 := h0g15.aG hG16
 have h0 : Holds M0 w0 w0 [G7, G12, G15, G16] := h0g16
 refine calls_of F149 rfl [.agg #[iA a6, iB a7, iB a8, iC a9, iA d0, iA d1, iA a1, iA a2, iA a3, iA a4, iA a5]] (by kernel_rfl) (Xg 1 [.c 1, .c 2] (Xr (Yx 1 126 [iA a6, iB a7, iB a8, iC a9, iA d0, iA d1, iA a1, iA a2, iA a3, iA a4, iA a5] h0 ?_)))
 intro w1 b2 h3 hb4 hn5
 refine Yd 1 [(1, pt b2)] (Xg 1 [.c 3, .c 4] (Xr (Ya 4 4 126 b2 0 (.agg #[iA a6, iB a7, iB a8, iC a9, iA d0, iA d1, iA a1, iA a2, iA a3, iA a4, iA a5]) h3 rfl ?_)))
 obtain ⟨t10, hg9, h⟩ := of_bind h
 refine Yc 5 148 #[.agg #[iA a6, iB a7, iB a8, iC a9, iA d0, iA d1, iA a1, iA a2, iA a3, iA a4, iA a5]] ((text_shown_nn_148_ok K _ w1  a6 a7 a8 a9 d0 d1 a1 a2 a3 a4 a5 h3.old' (h3.get 1 rfl) (h3.get 2 rfl) (h3.get 3 rfl) hg9).mono ?_)
 rintro _ w6 ⟨rfl, hb7⟩
 refine ⟨_, rfl, ?_⟩
 have h8 := h3.call hb7
 have ⟨hc11, h⟩ := oz h
 refine Yt 6 se0 t10 hc11 ?_
 have ⟨hc12, h⟩ := oz h
 refine Yt 7 (se0 ++ t10) se1 hc12 (Zd 1 [1, 3] [(3, tS ((se0 ++ t10) ++ se1))] (Xg 1 [.c 5, .c 6] (RunsI.any 22 (by kernel_rfl) (by kernel_rfl) (by kernel_rfl) (Kp ([] : List Nat) (World.drew w6)) ?_)))
 have h14 := h8.drew
 generalize World.drew w6 = w13 at h14 ⊢
 have hS15 := Kp.refl ([] : List Nat) w13
 refine Wu 0 8 (tS ((se0 ++ t10) ++ se1)) hS15 ?_
 have ⟨hc17, h⟩ := oz h
 refine Wt 1 9 se2 ((se0 ++ t10) ++ se1) hS15 hc17 ?_
 have ⟨hc18, h⟩ := oz h
 refine Wt 2 10 (se2 ++ ((se0 ++ t10) ++ se1)) se3 hS15 hc18 (Wa 3 11 4 126 b2 0 (.agg #[iA a6, iB a7, iB a8, iC a9, iA d0, iA d1, iA a1, iA a2, iA a3, iA a4, iA a5]) [] h14 rfl hS15 rfl ?_)
 obtain ⟨t20, hg19, h⟩ := of_bind h
 refine Wc 4 12 (tS t20) 146 #[.agg #[iA a6, iB a7, iB a8, iC a9, iA d0, iA d1, iA a1, iA a2, iA a3, iA a4, iA a5]] hS15 (fun w hk => text_shown_hl_146_ok K (fun _ => False) w a6 a7 a8 a9 d0 d1 a1 a2 a3 a4 a5 nF (gF (h14.atI [] rfl hk 0 rfl rfl)) hg19) ?_
 have ⟨hc21, h⟩ := oz h
 refine Wt 5 13 ((se2 ++ ((se0 ++ t10) ++ se1)) ++ se3) t20 hS15 hc21 (Wa 6 14 4 126 b2 0 (.agg #[iA a6, iB a7, iB a8, iC a9, iA d0, iA d1, iA a1, iA a2, iA a3, iA a4, iA a5]) [] h14 rfl hS15 rfl ?_)
 obtain ⟨t23, hg22, h⟩ := of_bind h
 refine Wc 7 15 (tS t23) 146 #[.agg #[iA a6, iB a7, iB a8, iC a9, iA d0, iA d1, iA a1, iA a2, iA a3, iA a4, iA a5]] hS15 (fun w hk => text_shown_hl_146_ok K (fun _ => False) w a6 a7 a8 a9 d0 d1 a1 a2 a3 a4 a5 nF (gF (h14.atI [] rfl hk 0 rfl rfl)) hg22) ?_
 have ⟨hc24, h⟩ := oz h
 refine Wt 8 16 se2 t23 hS15 hc24 ?_
 have ⟨hc25, h⟩ := oz h
 refine Wt 9 17 (se2 ++ t23) se3 hS15 hc25 (Wu 10 18 (tS ((se0 ++ t10) ++ se1)) hS15 ?_)
 have ⟨hc26, h⟩ := oz h
 refine Wt 11 19 ((se2 ++ t23) ++ se3) ((se0 ++ t10) ++ se1) hS15 hc26 (Wu 12 20 (tS ((se0 ++ t10) ++ se1)) hS15 (Wt 13 21 se2 ((se0 ++ t10) ++ se1) hS15 hc17 ?_))
 have ⟨hc27, h⟩ := oz h
 refine Wt 14 22 (se2 ++ ((se0 ++ t10) ++ se1)) se7 hS15 hc27 (Wu 15 23 (tS ((se0 ++ t10) ++ se1)) hS15 ?_)
 have ⟨hc28, h⟩ := oz h
 refine Wt 16 24 se8 ((se0 ++ t10) ++ se1) hS15 hc28 (Wu 17 25 (.agg (List.flatMap (fun (x : ByteArray) => ([tS x] : List Value)) ([se9, se10, se11, se12, (((se2 ++ ((se0 ++ t10) ++ se1)) ++ se3) ++ t20), (((se2 ++ t23) ++ se3) ++ ((se0 ++ t10) ++ se1)), ((se2 ++ ((se0 ++ t10) ++ se1)) ++ se7), (se8 ++ ((se0 ++ t10) ++ se1))] : List ByteArray)).toArray) hS15 (Wu 18 26 (pu b2 7) hS15 (Wa 19 27 4 3 b2 7 (iA a2) [] h14 rfl hS15 rfl ?_)))
 have ⟨hc29, h⟩ := oz h
 refine AnyE.run 20 28 (tS (rdD ([se9, se10, se11, se12, (((se2 ++ ((se0 ++ t10) ++ se1)) ++ se3) ++ t20), (((se2 ++ t23) ++ se3) ++ ((se0 ++ t10) ++ se1)), ((se2 ++ ((se0 ++ t10) ++ se1)) ++ se7), (se8 ++ ((se0 ++ t10) ++ se1))] : List ByteArray) a2)) (by kernel_rfl) hS15 (fun _ hk => run_indexTab (T0 := 169) (en := (fun (x : ByteArray) => ([tS x] : List Value))) (tab := ([se9, se10, se11, se12, (((se2 ++ ((se0 ++ t10) ++ se1)) ++ se3) ++ t20), (((se2 ++ t23) ++ se3) ++ ((se0 ++ t10) ++ se1)), ((se2 ++ ((se0 ++ t10) ++ se1)) ++ se7), (se8 ++ ((se0 ++ t10) ++ se1))] : List ByteArray)) (len := 8) (sz := 1) (j := a2) (v := tS (rdD ([se9, se10, se11, se12, (((se2 ++ ((se0 ++ t10) ++ se1)) ++ se3) ++ t20), (((se2 ++ t23) ++ se3) ++ ((se0 ++ t10) ++ se1)), ((se2 ++ ((se0 ++ t10) ++ se1)) ++ se7), (se8 ++ ((se0 ++ t10) ++ se1))] : List ByteArray) a2)) (fun _ => rfl) (by kernel_rfl) (by kernel_rfl) rfl hc29 (fun _ => by kernel_rfl)) (Wu 21 2 (tS (rdD ([se9, se10, se11, se12, (((se2 ++ ((se0 ++ t10) ++ se1)) ++ se3) ++ t20), (((se2 ++ t23) ++ se3) ++ ((se0 ++ t10) ++ se1)), ((se2 ++ ((se0 ++ t10) ++ se1)) ++ se7), (se8 ++ ((se0 ++ t10) ++ se1))] : List ByteArray) a2)) hS15 (AnyE.done (by kernel_rfl) (fun w30 hu31 => ?_)))
 have h32 := h14.call hu31
 refine Vl [(2, tS (rdD ([se9, se10, se11, se12, (((se2 ++ ((se0 ++ t10) ++ se1)) ++ se3) ++ t20), (((se2 ++ t23) ++ se3) ++ ((se0 ++ t10) ++ se1)), ((se2 ++ ((se0 ++ t10) ++ se1)) ++ se7), (se8 ++ ((se0 ++ t10) ++ se1))] : List ByteArray) a2))] ?_
 obtain rfl := sI h
 exact Xt (tS (rdD ([se9, se10, se11, se12, (((se2 ++ ((se0 ++ t10) ++ se1)) ++ se3) ++ t20), (((se2 ++ t23) ++ se3) ++ ((se0 ++ t10) ++ se1)), ((se2 ++ ((se0 ++ t10) ++ se1)) ++ se7), (se8 ++ ((se0 ++ t10) ++ se1))] : List ByteArray) a2)) ⟨rfl, h32.below⟩
end

section
abbrev text_Index_152.post := pS
def text_Index_152.f (K : Nat) (p0 : Int) (p1 : Int) : Option ByteArray := (text_index_174.f K p0).bind fun t5 => cond (mayCat (⟨#[40]⟩ : ByteArray).size t5.size) ((bits_Signed_25.f K p1).bind fun t11 => (text_signed_172.f K t11).bind fun t16 => cond (mayCat ((⟨#[40]⟩ : ByteArray) ++ t5).size t16.size) (cond (mayCat (((⟨#[40]⟩ : ByteArray) ++ t5) ++ t16).size (⟨#[41]⟩ : ByteArray).size) (some ((((⟨#[40]⟩ : ByteArray) ++ t5) ++ t16) ++ (⟨#[41]⟩ : ByteArray))) none) none) none
theorem text_Index_152_ok (K : Nat) (M0 : Nat → Prop) (w0 : World) (p0 : Int) (p1 : Int) (ho : ∀ b, M0 b → b < w0.heap.size) (hG12 : G12.ok w0 M0) {r : ByteArray} (h : text_Index_152.f K p0 p1 = some r) :
  Calls Tryz.prog 152 #[iA p0, iB p1] w0 (text_Index_152.post M0 w0 r) := by
 unfold text_Index_152.f at h
 have h0 : Holds M0 w0 w0 [] := Holds.start ho
 have h0g12 := h0.aG hG12
 have h0 : Holds M0 w0 w0 [G12] := h0g12
 refine calls_of F152 rfl [iA p0, iB p1] (by kernel_rfl) (Xq 1 1 [.c 2] 1 [(0, iA p0), (1, iB p1)] (Zy 1 3 [.c 4] 1 [1, 5] [(5, iA p0)] ?_))
 obtain ⟨t5, hg4, h⟩ := of_bind h
 refine Yc 6 174 #[iA p0] ((text_index_174_ok K _ w0  p0 h0.old' hg4).mono ?_)
 rintro _ w1 ⟨rfl, hb2⟩
 refine ⟨_, rfl, ?_⟩
 have h3 := h0.call hb2
 have ⟨hc6, h⟩ := oz h
 refine Yt 7 se0 t5 hc6 (Yp 1 [(7, tS (se0 ++ t5)), (8, iB p1)] ?_)
 obtain ⟨t11, hg10, h⟩ := of_bind h
 refine Yc 9 25 #[iB p1] ((bits_Signed_25_ok K _ w1  p1 h3.old' hg10).mono ?_)
 rintro _ w7 ⟨rfl, hb8⟩
 refine ⟨_, rfl, ?_⟩
 have h9 := h3.call hb8
 obtain ⟨t16, hg15, h⟩ := of_bind h
 refine Yc 10 172 #[iA t11] ((text_signed_172_ok K _ w7  t11 h9.old' (h9.get 0 rfl) hg15).mono ?_)
 rintro _ w12 ⟨rfl, hb13⟩
 refine ⟨_, rfl, ?_⟩
 have h14 := h9.call hb13
 have ⟨hc17, h⟩ := oz h
 refine Yt 11 (se0 ++ t5) t16 hc17 ?_
 have ⟨hc18, h⟩ := oz h
 refine Yt 12 ((se0 ++ t5) ++ t16) se1 hc18 (Yd 1 [(4, tS (((se0 ++ t5) ++ t16) ++ se1))] ?_)
 obtain rfl := sI h
 exact Xt (tS (((se0 ++ t5) ++ t16) ++ se1)) ⟨rfl, h14.below⟩
end

section
abbrev text_shown_reg_150.post := pS
def text_shown_reg_150.f (K : Nat) (p0_0_0 : Int) (p0_0_1 : Int) (p0_0_2 : Int) (p0_0_3 : Int) (p0_0_4 : Int) (p0_0_5 : Int) (p0_1 : Int) (p0_2 : Int) (p0_3 : Int) (p0_4 : Int) (p0_5 : Int) (p1 : Int) : Option ByteArray := (text_shown_indexed_173.f K p0_0_0 p0_0_1 p0_0_2 p0_0_3 p0_0_4 p0_0_5 p0_1 p0_2 p0_3 p0_4 p0_5).bind fun t10 => cond (!t10) (cond (inR p1 8) (some (rdD tab_6 p1)) none) (cond (p1 == 6) ((text_Index_152.f K p0_0_0 p0_0_2).bind fun t17 => some t17) (Let (fun (t30 : Bool) => cond t30 ((text_index_174.f K p0_0_0).bind fun t42 => cond (inR p1 8) (cond (mayCat t42.size (rdD tab_6 p1).size) (some (t42 ++ (rdD tab_6 p1))) none) none) (cond (inR p1 8) (some (rdD tab_6 p1)) none)) (fun j33 => cond (p1 == 4) ((decode_Near_122.f K p0_0_0 p0_0_1).bind fun t23 => j33 (!t23)) (cond (p1 == 5) ((decode_Near_122.f K p0_0_0 p0_0_1).bind fun t29 => j33 (!t29)) (j33 false)))))
theorem text_shown_reg_150_ok (K : Nat) (M0 : Nat → Prop) (w0 : World) (a6 : Int) (a7 : Int) (a8 : Int) (a9 : Int) (d0 : Int) (d1 : Int) (a1 : Int) (a2 : Int) (a3 : Int) (a4 : Int) (a5 : Int) (p1 : Int) (ho : ∀ b, M0 b → b < w0.heap.size) (hG6 : G6.ok w0 M0) (hG12 : G12.ok w0 M0) {r : ByteArray} (h : text_shown_reg_150.f K a6 a7 a8 a9 d0 d1 a1 a2 a3 a4 a5 p1 = some r) :
  Calls Tryz.prog 150 #[.agg #[iA a6, iB a7, iB a8, iC a9, iA d0, iA d1, iA a1, iA a2, iA a3, iA a4, iA a5], iA p1] w0 (text_shown_reg_150.post M0 w0 r) := by
 unfold text_shown_reg_150.f at h
 have h0 : Holds M0 w0 w0 [] := Holds.start ho
 have h0g6 := h0.aG hG6
 have h0g12 := h0g6.aG hG12
 have h0 : Holds M0 w0 w0 [G6, G12] := h0g12
 refine calls_of F150 rfl [.agg #[iA a6, iB a7, iB a8, iC a9, iA d0, iA d1, iA a1, iA a2, iA a3, iA a4, iA a5], iA p1] (by kernel_rfl) (Xg 1 [.c 1, .c 2] (Xr (Yx 2 126 [iA a6, iB a7, iB a8, iC a9, iA d0, iA d1, iA a1, iA a2, iA a3, iA a4, iA a5] h0 ?_)))
 intro w1 b2 h3 hb4 hn5
 refine Yd 1 [(1, iA p1), (2, pt b2)] (Xg 3 [.c 5, .c 6, .blk 0, .c 21] (Xr (Ya 6 2 126 b2 0 (.agg #[iA a6, iB a7, iB a8, iC a9, iA d0, iA d1, iA a1, iA a2, iA a3, iA a4, iA a5]) h3 rfl ?_)))
 obtain ⟨t10, hg9, h⟩ := of_bind h
 refine Yc 7 173 #[.agg #[iA a6, iB a7, iB a8, iC a9, iA d0, iA d1, iA a1, iA a2, iA a3, iA a4, iA a5]] ((text_shown_indexed_173_ok K _ w1  a6 a7 a8 a9 d0 d1 a1 a2 a3 a4 a5 h3.old' hg9).mono ?_)
 rintro _ w6 ⟨rfl, hb7⟩
 refine ⟨_, rfl, ?_⟩
 have h8 := h3.call hb7
 refine Zd 2 [1, 2, 5] [(5, tB (!t10))] (Vc 5 7 8 h (fun hc11 h => ?_) fun hc11 h => ?_)
 ·refine Xg 1 [.blk 0, .c 21] (Xq 2 22 [.c 23] 1 [(44, iA p1)] ?_)
  have ⟨hc48, h⟩ := oz h
  refine Yo (OpE.run 45 (by kernel_rfl) (run_idxArr (T := 169) (b := 6) (o := 0) (ix := p1) (len := 8) (s := 1) (by kernel_rfl) (by kernel_rfl) hc48) (Yo (OpE.loadTab 46 0 9 en_6 tab_6 0 1 p1 (tS (rdD tab_6 p1)) (o := 0 + (Int.toNat p1) * 1 + 0) h8 (by kernel_rfl) rfl (fun _ => rfl) (by kernel_rfl) (by omega) hc48 (fun _ => by kernel_rfl) (Yd 1 [(4, tS (rdD tab_6 p1))] ?_))))
  obtain rfl := sI h
  exact Xt (tS (rdD tab_6 p1)) ⟨rfl, h8.below⟩
 ·refine Xd 1 9 [.c 10, .blk 0, .c 21] 3 [(1, iA p1), (2, pt b2), (9, tB (p1 == 6))] (Vc 9 11 14 h (fun hc12 h => ?_) fun hc12 h => ?_)
  ·refine Xq 1 12 [.c 13, .blk 0, .c 21] 2 [(2, pt b2), (13, pt b2)] (Ya 14 2 3 b2 0 (iA a6) h8 rfl (Yp 2 [(14, iA a6), (16, pu b2 2)] (Ya 17 2 5 b2 2 (iB a8) h8 rfl ?_)))
   obtain ⟨t17, hg16, h⟩ := of_bind h
   refine Yc 18 152 #[iA a6, iB a8] ((text_Index_152_ok K _ w6  a6 a8 h8.old' (h8.get 1 rfl) hg16).mono ?_)
   rintro _ w13 ⟨rfl, hb14⟩
   refine ⟨_, rfl, ?_⟩
   have h15 := h8.call hb14
   refine Yd 1 [(4, tS t17)] ?_
   obtain rfl := sI h
   exact Xt (tS t17) ⟨rfl, h15.below⟩
  ·refine Xq 1 15 [.c 16, .blk 0, .c 21] 3 [(1, iA p1), (2, pt b2), (22, tB (p1 == 4))] ?_
   obtain ⟨j33, hJ34, h⟩ := of_let h
   have hj35 : ∀ (t30 : Bool) (w32 : World), j33 t30 = some r → Holds M0 w0 w32 [box b2 126 [iA a6, iB a7, iB a8, iC a9, iA d0, iA d1, iA a1, iA a2, iA a3, iA a4, iA a5], G6, G12] → RegI F150 15 [.c 16, .blk 0, .c 21] 17 [(1, iA p1), (2, pt b2), (19, tB t30)] w32 (text_shown_reg_150.post M0 w0 r) := by
    intro t30 w32 h h31
    rw [hJ34] at h
    clear hJ34
    dsimp only at h
    refine Ye (Vc 19 17 20 h (fun hc36 h => ?_) fun hc36 h => ?_)
    ·refine Xg 1 [.c 18, .c 19, .blk 0, .c 21] (RunsI.any 9 (by kernel_rfl) (by kernel_rfl) (by kernel_rfl) (Kp ([] : List Nat) (World.drew w32)) ?_)
     have h38 := h31.drew
     generalize World.drew w32 = w37 at h38 ⊢
     have hS39 := Kp.refl ([] : List Nat) w37
     refine Wu 0 36 (pt b2) hS39 (Wu 1 37 (pt b2) hS39 (Wa 2 38 0 3 b2 0 (iA a6) [] h38 rfl hS39 rfl ?_))
     obtain ⟨t42, hg41, h⟩ := of_bind h
     refine Wc 3 39 (tS t42) 174 #[iA a6] hS39 (fun w hk => text_index_174_ok K (fun _ => False) w a6 nF hg41) (Wu 4 40 (iA p1) hS39 ?_)
     have ⟨hc43, h⟩ := oz h
     refine AnyE.run 5 41 (.pointer (some ⟨6, 0 + (Int.toNat p1) * 1, none⟩)) (by kernel_rfl) hS39 (fun _ hk => run_idxArr (T := 169) (b := 6) (o := 0) (ix := p1) (len := 8) (s := 1) (by kernel_rfl) (by kernel_rfl) hc43) (AnyE.loadTab 6 42 1 9 en_6 tab_6 0 1 p1 (tS (rdD tab_6 p1)) [] (o := 0 + (Int.toNat p1) * 1 + 0) h38 rfl (by kernel_rfl) hS39 rfl rfl (fun _ => rfl) (by kernel_rfl) (by omega) hc43 (fun _ => by kernel_rfl) ?_)
     have ⟨hc44, h⟩ := oz h
     refine Wt 7 43 t42 (rdD tab_6 p1) hS39 hc44 (Wu 8 4 (tS (t42 ++ (rdD tab_6 p1))) hS39 (AnyE.done (by kernel_rfl) (fun w45 hu46 => ?_)))
     have h47 := h38.call hu46
     refine Vl [(4, tS (t42 ++ (rdD tab_6 p1)))] ?_
     obtain rfl := sI h
     exact Xt (tS (t42 ++ (rdD tab_6 p1))) ⟨rfl, h47.below⟩
    ·refine Xg 1 [.blk 0, .c 21] (Xq 2 22 [.c 23] 1 [(44, iA p1)] ?_)
     have ⟨hc49, h⟩ := oz h
     refine Yo (OpE.run 45 (by kernel_rfl) (run_idxArr (T := 169) (b := 6) (o := 0) (ix := p1) (len := 8) (s := 1) (by kernel_rfl) (by kernel_rfl) hc49) (Yo (OpE.loadTab 46 1 9 en_6 tab_6 0 1 p1 (tS (rdD tab_6 p1)) (o := 0 + (Int.toNat p1) * 1 + 0) h31 (by kernel_rfl) rfl (fun _ => rfl) (by kernel_rfl) (by omega) hc49 (fun _ => by kernel_rfl) (Yd 1 [(4, tS (rdD tab_6 p1))] ?_))))
     obtain rfl := sI h
     exact Xt (tS (rdD tab_6 p1)) ⟨rfl, h31.below⟩
   clear hJ34
   rcases oc h with ⟨hc18, h⟩ | ⟨hc18, h⟩
   ·refine Yf 22 true hc18 (Zp 6 [1, 2, 26, 28] [(26, tB true), (28, pt b2)] (Ya 29 2 3 b2 0 (iA a6) h8 rfl (Zp 2 [1, 2, 26, 29, 31] [(29, iA a6), (31, pu b2 1)] (Ya 32 2 5 b2 1 (iB a7) h8 rfl ?_))))
    obtain ⟨t23, hg22, h⟩ := of_bind h
    refine Yc 33 122 #[iA a6, iB a7] ((decode_Near_122_ok K _ w6  a6 a7 h8.old' hg22).mono ?_)
    rintro _ w19 ⟨rfl, hb20⟩
    refine ⟨_, rfl, ?_⟩
    have h21 := h8.call hb20
    refine Zp 3 [1, 2, 19] [(19, tB (!t23))] (Ul [(1, iA p1), (2, pt b2), (19, tB (!t23))] ?_)
    exact hj35 (!t23) w19 h (h21.pk [2, 0, 1])
   ·refine Yf 22 false hc18 (Zp 4 [1, 2, 26] [(26, tB (p1 == 5))] ?_)
    rcases oc h with ⟨hc24, h⟩ | ⟨hc24, h⟩
    ·refine Yf 26 true hc24 (Zp 2 [1, 2, 26, 28] [(28, pt b2)] (Ya 29 2 3 b2 0 (iA a6) h8 rfl (Zp 2 [1, 2, 26, 29, 31] [(29, iA a6), (31, pu b2 1)] (Ya 32 2 5 b2 1 (iB a7) h8 rfl ?_))))
     obtain ⟨t29, hg28, h⟩ := of_bind h
     refine Yc 33 122 #[iA a6, iB a7] ((decode_Near_122_ok K _ w6  a6 a7 h8.old' hg28).mono ?_)
     rintro _ w25 ⟨rfl, hb26⟩
     refine ⟨_, rfl, ?_⟩
     have h27 := h8.call hb26
     refine Zp 3 [1, 2, 19] [(19, tB (!t29))] (Ul [(1, iA p1), (2, pt b2), (19, tB (!t29))] ?_)
     exact hj35 (!t29) w25 h (h27.pk [2, 0, 1])
    ·refine Yf 26 false hc24 (Zp 10 [1, 2, 19] [(19, tB false)] (Ul [(1, iA p1), (2, pt b2), (19, tB false)] ?_))
     exact hj35 false w6 h (h8.pk [2, 0, 1])
end

section
abbrev text_shown_n_151.post := pS
def text_shown_n_151.f (K : Nat) (p0_0_0 : Int) (p0_0_1 : Int) (p0_0_2 : Int) (p0_0_3 : Int) (p0_0_4 : Int) (p0_0_5 : Int) (p0_1 : Int) (p0_2 : Int) (p0_3 : Int) (p0_4 : Int) (p0_5 : Int) : Option ByteArray := (bits_Lo_26.f K p0_0_3).bind fun t10 => (text_Hex_37.f K (IntKind.wrap .i64 t10) 2).bind fun t15 => some t15
theorem text_shown_n_151_ok (K : Nat) (M0 : Nat → Prop) (w0 : World) (a6 : Int) (a7 : Int) (a8 : Int) (a9 : Int) (d0 : Int) (d1 : Int) (a1 : Int) (a2 : Int) (a3 : Int) (a4 : Int) (a5 : Int) (ho : ∀ b, M0 b → b < w0.heap.size) (hG12 : G12.ok w0 M0) (hG15 : G15.ok w0 M0) (hG16 : G16.ok w0 M0) {r : ByteArray} (h : text_shown_n_151.f K a6 a7 a8 a9 d0 d1 a1 a2 a3 a4 a5 = some r) :
  Calls Tryz.prog 151 #[.agg #[iA a6, iB a7, iB a8, iC a9, iA d0, iA d1, iA a1, iA a2, iA a3, iA a4, iA a5]] w0 (text_shown_n_151.post M0 w0 r) := by
 unfold text_shown_n_151.f at h
 have h0 : Holds M0 w0 w0 [] := Holds.start ho
 have h0g12 := h0.aG hG12
 have h0g15 := h0g12.aG hG15
 have h0g16 := h0g15.aG hG16
 have h0 : Holds M0 w0 w0 [G12, G15, G16] := h0g16
 refine calls_of F151 rfl [.agg #[iA a6, iB a7, iB a8, iC a9, iA d0, iA d1, iA a1, iA a2, iA a3, iA a4, iA a5]] (by kernel_rfl) (Xg 1 [.c 1, .c 2] (Xr (Yx 1 126 [iA a6, iB a7, iB a8, iC a9, iA d0, iA d1, iA a1, iA a2, iA a3, iA a4, iA a5] h0 ?_)))
 intro w1 b2 h3 hb4 hn5
 refine Yp 1 [(1, pt b2)] (Yq 1 3 [.c 4] 2 [(4, pu b2 3)] (Ya 5 3 23 b2 3 (iC a9) h3 rfl ?_))
 obtain ⟨t10, hg9, h⟩ := of_bind h
 refine Yc 6 26 #[iC a9] ((bits_Lo_26_ok K _ w1  a9 h3.old' hg9).mono ?_)
 rintro _ w6 ⟨rfl, hb7⟩
 refine ⟨_, rfl, ?_⟩
 have h8 := h3.call hb7
 refine Yp 1 [(7, iA (wA t10))] ?_
 obtain ⟨t15, hg14, h⟩ := of_bind h
 refine Yc 8 37 #[iA (wA t10), iA 2] ((text_Hex_37_ok K _ w6  (wA t10) 2 h8.old' (h8.get 0 rfl) (h8.get 1 rfl) (h8.get 2 rfl) hg14).mono ?_)
 rintro _ w11 ⟨rfl, hb12⟩
 refine ⟨_, rfl, ?_⟩
 have h13 := h8.call hb12
 refine Yd 1 [(2, tS t15)] ?_
 obtain rfl := sI h
 exact Xt (tS t15) ⟨rfl, h13.below⟩
end
end Go.Proofs.YtbcepghanbkncaaGreatDoor.LiT
