/- The statement's function LatchOne as a plain Lean function; written by wip/eng.py. -/
import Derived.Test.YtngcadmhnbpgjaaDoorLatch
set_option linter.unusedVariables false
set_option linter.unusedSimpArgs false
set_option maxHeartbeats 4000000
namespace Go.Proofs.YtngcadmhnbpgjaaDoor.Latch
open Go.RowKit Go.Eng
noncomputable def B5 : Code := (Tryd.f5.body).getD .skip
noncomputable def F5 : Fun Tryd.prog := ⟨5, Tryd.f5, B5, 88, Tryd.func5, by kernel_rfl, by kernel_rfl⟩

/-! ### charabanc/charabanclaw20.LatchOne (function 5) -/
section
def charabanclaw20_LatchOne_5.post (M0 : Nat → Prop) (w0 : World) (r : Bool) : Ending → World → Prop := fun e w => e = .returned (.bool r) ∧ Below w0.heap.size w0 w
def charabanclaw20_LatchOne_5.l0 (K : Nat) (p0 : List Int) : Nat → Bool → Int → Int → Int → Option (Lp Unit Unit)
  | 0, _, _, _, _ => none
  | k + 1, t17, t18, t19, t20 => cond (decide (t20 < (p0.length : Int))) (cond (cutR t20 (IntKind.wrap .i64 (t20 + 1)) p0.length) (Let (fun (yj114 : Bool × Int × (List Int)) => cond (inR t20 p0.length) (cond ((rdD p0 t20) == 0) (Let (fun (t171 : Bool) => cond t171 (some (Lp.ret ())) (charabanclaw20_LatchOne_5.l0 K p0 k yj114.1 yj114.2.1 0 (IntKind.wrap .i64 (t20 + 1)))) (fun j174 => cond (yj114.1 != (0 != 0)) (j174 true) (j174 (yj114.2.1 != 0)))) (Let (fun (t130 : Bool) => cond t130 (Let (fun (t141 : Bool) => cond t141 (some (Lp.ret ())) (Let (fun (t182 : Bool) => cond t182 (some (Lp.ret ())) (charabanclaw20_LatchOne_5.l0 K p0 k yj114.1 yj114.2.1 (rdD p0 t20) (IntKind.wrap .i64 (t20 + 1)))) (fun j185 => cond (yj114.1 != ((rdD p0 t20) != 0)) (j185 true) (j185 (yj114.2.1 != (rdD p0 t20)))))) (fun j144 => cond ((yj114.2.2.length : Int) != 1) (j144 true) (cond (inR 0 yj114.2.2.length) (j144 ((rdD yj114.2.2 0) != 0)) none))) (cond (decide ((rdD p0 t20) > 0)) (Let (fun (t163 : Bool) => cond t163 (some (Lp.ret ())) (Let (fun (t193 : Bool) => cond t193 (some (Lp.ret ())) (charabanclaw20_LatchOne_5.l0 K p0 k yj114.1 yj114.2.1 t19 (IntKind.wrap .i64 (t20 + 1)))) (fun j196 => cond (yj114.1 != (t19 != 0)) (j196 true) (j196 (yj114.2.1 != t19))))) (fun j166 => cond ((yj114.2.2.length : Int) != 1) (j166 true) (cond (inR 0 yj114.2.2.length) (j166 ((rdD yj114.2.2 0) != 255)) none))) (Let (fun (t204 : Bool) => cond t204 (some (Lp.ret ())) (charabanclaw20_LatchOne_5.l0 K p0 k yj114.1 yj114.2.1 t19 (IntKind.wrap .i64 (t20 + 1)))) (fun j207 => cond (yj114.1 != (t19 != 0)) (j207 true) (j207 (yj114.2.1 != t19)))))) (fun j133 => cond (decide ((rdD p0 t20) > 0)) (j133 (t19 == 0)) (j133 false)))) none) (fun j114 => (latch_Play_11.f K t17 t18 (cutL p0 t20 (IntKind.wrap .i64 (t20 + 1)))).bind fun yt38 => j114 (yt38.1, yt38.2.1, yt38.2.2))) none) (some (Lp.go ()))
set_option maxRecDepth 100000 in
theorem charabanclaw20_LatchOne_5.l0_ok (K : Nat) (M0 : Nat → Prop) (w0 : World) (pA0 : Option Addr) (pc0 : Nat) (p0 : List Int) (b16 : Nat) (R : Ending → World → Prop) (x : Lp Unit Unit) (hk0 : ∀ (w1 : World), x = Lp.go () → Holds M0 w0 w1 [cel 0 0 (tab_0.flatMap en_0)] → RunsI F5 [.c 78] [] w1 R) (hk1 : ∀ (w1 : World), x = Lp.ret () → Holds M0 w0 w1 [cel 0 0 (tab_0.flatMap en_0)] → R (.returned (.bool false)) w1) :
    ∀ (k : Nat) (t17 : Bool) (t18 : Int) (t19 : Int) (t20 : Int) (w : World), charabanclaw20_LatchOne_5.l0 K p0 k t17 t18 t19 t20 = some x → Holds M0 w0 w [sl (Rp.int .i64) (.slice pA0 p0.length pc0) p0, box b16 29 [.bool t17, .int .i64 t18], cel 0 0 (tab_0.flatMap en_0)] → RunsI F5 [.c 29, .lp 29, .blk 0, .c 78] [(0, .slice pA0 p0.length pc0), (4, .pointer (some ⟨b16, 0, none⟩)), (5, .int .i64 t19), (6, .int .i64 t20)] w R := by
  intro k
  induction k with
  | zero => intro t17 t18 t19 t20 w h hH; exact absurd h (by simp [charabanclaw20_LatchOne_5.l0])
  | succ k ih =>
    intro t17 t18 t19 t20 w h hH
    rw [charabanclaw20_LatchOne_5.l0.eq_2] at h
    refine RunsI.go 1 [.c 30, .c 35, .lp 29, .blk 0, .c 78] (by kernel_rfl) ?_
    refine RunsI.go 1 [.c 31, .c 32, .c 35, .lp 29, .blk 0, .c 78] (by kernel_rfl) ?_
    refine RunsI.region (by kernel_rfl) ?_
    refine RegI.pure 4 [0, 4, 5, 6, 19] [(0, .slice pA0 p0.length pc0), (4, .pointer (some ⟨b16, 0, none⟩)), (5, .int .i64 t19), (6, .int .i64 t20), (19, .bool (decide (t20 < (p0.length : Int))))] (by kernel_rfl) ?_
    refine RegI.done (by kernel_rfl) ?_
    rcases of_cond h with ⟨hc21, h⟩ | ⟨hc21, h⟩
    · skip
      refine RunsI.fix 19 true hc21 (by kernel_rfl) (by kernel_rfl) ?_
      refine RunsI.cond true 33 (by kernel_rfl) ?_
      refine RunsI.go 1 [.c 35, .lp 29, .blk 0, .c 78] (by kernel_rfl) ?_
      refine RunsI.go 3 [.c 38, .c 39, .blk 1, .c 77, .lp 29, .blk 0, .c 78] (by kernel_rfl) ?_
      refine RunsI.any 13 (by kernel_rfl) (by kernel_rfl) (by kernel_rfl) (Kp ([] : List Nat) (World.drew w)) ?_
      have h23 := hH.drew
      generalize World.drew w = w22 at h23 ⊢
      have hS24 := Kp.refl ([] : List Nat) w22
      refine AnyE.loadBox 0 23 1 29 b16 0 (.agg #[.bool t17, .int .i64 t18]) [] h23 rfl (by kernel_rfl) hS24 rfl rfl (by kernel_rfl) (by kernel_rfl) ?_
      refine AnyE.pure 1 24 (.slice pA0 p0.length pc0) (by kernel_rfl) hS24 (fun _ => by kernel_rfl) ?_
      refine AnyE.pure 2 25 (.int .i64 t20) (by kernel_rfl) hS24 (fun _ => by kernel_rfl) ?_
      refine AnyE.pure 3 26 (.int .i64 t20) (by kernel_rfl) hS24 (fun _ => by kernel_rfl) ?_
      refine AnyE.pure 4 27 (.int .i64 (IntKind.wrap .i64 (t20 + 1))) (by kernel_rfl) hS24 (fun _ => by kernel_rfl) ?_
      obtain ⟨hc26, h⟩ := of_cond0 h
      refine AnyE.cutSl 5 28 0 30 (some t20) (some (IntKind.wrap .i64 (t20 + 1))) h23 (by kernel_rfl) hS24 rfl (by kernel_rfl) (by kernel_rfl) hc26 ?_
      intro A27 c28 h29
      obtain ⟨j114, hJ115, h⟩ := of_let h
      have hj116 : ∀ (t107 : Bool) (t108 : Int) (t111 : List Int) (b106 : Nat) (A109 : Option Addr) (c110 : Nat) (w113 : World), j114 (t107, t108, t111) = some x → Holds M0 w0 w113 [sl (Rp.int .i64) (.slice pA0 p0.length pc0) p0, box b16 29 [.bool t17, .int .i64 t18], box b106 29 [.bool t107, .int .i64 t108], own (Rp.int .u8) 5 (.slice A109 t111.length c110) t111, cel 0 0 (tab_0.flatMap en_0)] → RunsI F5 [.c 39, .blk 1, .c 77, .lp 29, .blk 0, .c 78] [(0, .slice pA0 p0.length pc0), (4, .pointer (some ⟨b16, 0, none⟩)), (5, .int .i64 t19), (6, .int .i64 t20), (7, .pointer (some ⟨b106, 0, none⟩)), (8, .slice A109 t111.length c110)] w113 R := by
        intro t107 t108 t111 b106 A109 c110 w113 h h112
        rw [hJ115] at h
        clear hJ115
        dsimp only at h
        refine RunsI.go 3 [.c 42, .c 43, .blk 2, .c 68, .blk 1, .c 77, .lp 29, .blk 0, .c 78] (by kernel_rfl) ?_
        refine RunsI.region (by kernel_rfl) ?_
        refine RegI.pure 2 [0, 4, 5, 6, 7, 8, 33, 34] [(0, .slice pA0 p0.length pc0), (4, .pointer (some ⟨b16, 0, none⟩)), (5, .int .i64 t19), (6, .int .i64 t20), (7, .pointer (some ⟨b106, 0, none⟩)), (8, .slice A109 t111.length c110), (33, .slice pA0 p0.length pc0), (34, .int .i64 t20)] (by kernel_rfl) ?_
        obtain ⟨hc117, h⟩ := of_cond0 h
        refine RegI.op (by kernel_rfl) (OpE.idxSl 35 0 30 t20 h112 (by kernel_rfl) rfl (by kernel_rfl) (by kernel_rfl) hc117 ?_)
        intro b118 o119 cs120 hk121 h122
        obtain rfl := hk121
        refine RegI.op (by kernel_rfl) (OpE.loadCel 36 5 3 b118 o119 0 (.int .i64 (rdD p0 t20)) h122 (by kernel_rfl) (by kernel_rfl) rfl (by kernel_rfl) ?_)
        refine RegI.pure 2 [0, 4, 5, 6, 7, 8, 32] [(0, .slice pA0 p0.length pc0), (4, .pointer (some ⟨b16, 0, none⟩)), (5, .int .i64 t19), (6, .int .i64 t20), (7, .pointer (some ⟨b106, 0, none⟩)), (8, .slice A109 t111.length c110), (32, .bool ((rdD p0 t20) == 0))] (by kernel_rfl) ?_
        refine RegI.done (by kernel_rfl) ?_
        rcases of_cond h with ⟨hc123, h⟩ | ⟨hc123, h⟩
        · skip
          refine RunsI.fix 32 true hc123 (by kernel_rfl) (by kernel_rfl) ?_
          refine RunsI.cond true 44 (by kernel_rfl) ?_
          refine RunsI.region (by kernel_rfl) ?_
          refine RegI.pure 1 [0, 4, 5, 6, 7] [(0, .slice pA0 p0.length pc0), (4, .pointer (some ⟨b16, 0, none⟩)), (5, .int .i64 0), (6, .int .i64 t20), (7, .pointer (some ⟨b106, 0, none⟩))] (by kernel_rfl) ?_
          refine RegI.done (by kernel_rfl) ?_
          refine RunsI.go 3 [.c 70, .c 71, .c 76, .blk 1, .c 77, .lp 29, .blk 0, .c 78] (by kernel_rfl) ?_
          refine RunsI.region (by kernel_rfl) ?_
          refine RegI.pure 1 [0, 4, 5, 6, 7, 76] [(0, .slice pA0 p0.length pc0), (4, .pointer (some ⟨b16, 0, none⟩)), (5, .int .i64 0), (6, .int .i64 t20), (7, .pointer (some ⟨b106, 0, none⟩)), (76, .pointer (some ⟨b106, 0, none⟩))] (by kernel_rfl) ?_
          refine RegI.op (by kernel_rfl) (OpE.loadBox 77 2 4 b106 0 (.bool t107) h122 (by kernel_rfl) (by kernel_rfl) rfl (by kernel_rfl) ?_)
          refine RegI.pure 4 [0, 4, 5, 6, 7, 81] [(0, .slice pA0 p0.length pc0), (4, .pointer (some ⟨b16, 0, none⟩)), (5, .int .i64 0), (6, .int .i64 t20), (7, .pointer (some ⟨b106, 0, none⟩)), (81, .bool (t107 != (0 != 0)))] (by kernel_rfl) ?_
          obtain ⟨j174, hJ175, h⟩ := of_let h
          have hj176 : ∀ (t171 : Bool) (w173 : World), j174 t171 = some x → Holds M0 w0 w173 [sl (Rp.int .i64) (.slice pA0 p0.length pc0) p0, box b16 29 [.bool t17, .int .i64 t18], box b106 29 [.bool t107, .int .i64 t108], cel 0 0 (tab_0.flatMap en_0)] → RegI F5 70 [.c 71, .c 76, .blk 1, .c 77, .lp 29, .blk 0, .c 78] 11 [(0, .slice pA0 p0.length pc0), (4, .pointer (some ⟨b16, 0, none⟩)), (5, .int .i64 0), (6, .int .i64 t20), (7, .pointer (some ⟨b106, 0, none⟩)), (86, .bool t171)] w173 R := by
            intro t171 w173 h h172
            rw [hJ175] at h
            clear hJ175
            dsimp only at h
            refine RegI.done (by kernel_rfl) ?_
            rcases of_cond h with ⟨hc177, h⟩ | ⟨hc177, h⟩
            · skip
              refine RunsI.fix 86 true hc177 (by kernel_rfl) (by kernel_rfl) ?_
              refine RunsI.cond true 72 (by kernel_rfl) ?_
              refine RunsI.go 1 [.c 73, .c 74, .c 76, .blk 1, .c 77, .lp 29, .blk 0, .c 78] (by kernel_rfl) ?_
              refine RunsI.region (by kernel_rfl) ?_
              refine RegI.pure 1 [2] [(2, .bool false)] (by kernel_rfl) ?_
              refine RegI.done (by kernel_rfl) ?_
              refine RunsI.ret (.bool false) (by kernel_rfl) (by kernel_rfl) ?_
              exact hk1 w173 (Option.some.inj h).symm (h172.pick [3] (by decide))
            · skip
              refine RunsI.fix 86 false hc177 (by kernel_rfl) (by kernel_rfl) ?_
              refine RunsI.cond false 75 (by kernel_rfl) ?_
              refine RunsI.go 1 [.c 76, .blk 1, .c 77, .lp 29, .blk 0, .c 78] (by kernel_rfl) ?_
              refine RunsI.region (by kernel_rfl) ?_
              refine RegI.op (by kernel_rfl) (OpE.loadBox 87 2 29 b106 0 (.agg #[.bool t107, .int .i64 t108]) h172 (by kernel_rfl) (by kernel_rfl) rfl (by kernel_rfl) ?_)
              refine RegI.op (by kernel_rfl) (OpE.storeBox 1 29 b16 0 (.agg #[.bool t107, .int .i64 t108]) [.bool t107, .int .i64 t108] h172 (by kernel_rfl) (by kernel_rfl) rfl (by kernel_rfl) (by kernel_rfl) (by kernel_rfl) ?_)
              intro w178 h179 hk180
              refine RegI.done (by kernel_rfl) ?_
              refine RunsI.go 1 [.c 77, .lp 29, .blk 0, .c 78] (by kernel_rfl) ?_
              refine RunsI.region (by kernel_rfl) ?_
              refine RegI.pure 3 [0, 4, 5, 6] [(0, .slice pA0 p0.length pc0), (4, .pointer (some ⟨b16, 0, none⟩)), (5, .int .i64 0), (6, .int .i64 (IntKind.wrap .i64 (t20 + 1)))] (by kernel_rfl) ?_
              refine RegI.done (by kernel_rfl) ?_
              refine RunsI.go 1 [.c 29, .lp 29, .blk 0, .c 78] (by kernel_rfl) ?_
              refine RunsI.only [0, 4, 5, 6] [(0, .slice pA0 p0.length pc0), (4, .pointer (some ⟨b16, 0, none⟩)), (5, .int .i64 0), (6, .int .i64 (IntKind.wrap .i64 (t20 + 1)))] (by kernel_rfl) (by kernel_rfl) ?_
              exact ih t107 t108 0 (IntKind.wrap .i64 (t20 + 1)) w178 h (h179.pick [0, 1, 3] (by decide))
          clear hJ175
          rcases of_cond h with ⟨hc170, h⟩ | ⟨hc170, h⟩
          · skip
            refine RegI.fix 81 true hc170 (by kernel_rfl) (by kernel_rfl) ?_
            refine RegI.pure 5 [0, 4, 5, 6, 7, 82, 83, 84, 85, 86] [(0, .slice pA0 p0.length pc0), (4, .pointer (some ⟨b16, 0, none⟩)), (5, .int .i64 0), (6, .int .i64 t20), (7, .pointer (some ⟨b106, 0, none⟩)), (82, undef), (83, undef), (84, undef), (85, undef), (86, .bool true)] (by kernel_rfl) ?_
            refine RegI.only [0, 4, 5, 6, 7, 86] [(0, .slice pA0 p0.length pc0), (4, .pointer (some ⟨b16, 0, none⟩)), (5, .int .i64 0), (6, .int .i64 t20), (7, .pointer (some ⟨b106, 0, none⟩)), (86, .bool true)] (by kernel_rfl) (by kernel_rfl) ?_
            exact hj176 true w113 h (h122.pick [0, 1, 2, 4] (by decide))
          · skip
            refine RegI.fix 81 false hc170 (by kernel_rfl) (by kernel_rfl) ?_
            refine RegI.pure 1 [0, 4, 5, 6, 7, 81, 82] [(0, .slice pA0 p0.length pc0), (4, .pointer (some ⟨b16, 0, none⟩)), (5, .int .i64 0), (6, .int .i64 t20), (7, .pointer (some ⟨b106, 0, none⟩)), (81, .bool false), (82, .pointer (some ⟨b106, 1, none⟩))] (by kernel_rfl) ?_
            refine RegI.op (by kernel_rfl) (OpE.loadBox 83 2 3 b106 1 (.int .i64 t108) h122 (by kernel_rfl) (by kernel_rfl) rfl (by kernel_rfl) ?_)
            refine RegI.pure 3 [0, 4, 5, 6, 7, 82, 83, 84, 85, 86] [(0, .slice pA0 p0.length pc0), (4, .pointer (some ⟨b16, 0, none⟩)), (5, .int .i64 0), (6, .int .i64 t20), (7, .pointer (some ⟨b106, 0, none⟩)), (82, .pointer (some ⟨b106, 1, none⟩)), (83, .int .i64 t108), (84, .int .i64 0), (85, .bool (t108 != 0)), (86, .bool (t108 != 0))] (by kernel_rfl) ?_
            refine RegI.only [0, 4, 5, 6, 7, 86] [(0, .slice pA0 p0.length pc0), (4, .pointer (some ⟨b16, 0, none⟩)), (5, .int .i64 0), (6, .int .i64 t20), (7, .pointer (some ⟨b106, 0, none⟩)), (86, .bool (t108 != 0))] (by kernel_rfl) (by kernel_rfl) ?_
            exact hj176 (t108 != 0) w113 h (h122.pick [0, 1, 2, 4] (by decide))
        · skip
          refine RunsI.fix 32 false hc123 (by kernel_rfl) (by kernel_rfl) ?_
          refine RunsI.cond false 45 (by kernel_rfl) ?_
          refine RunsI.go 1 [.c 46, .c 47, .blk 2, .c 68, .blk 1, .c 77, .lp 29, .blk 0, .c 78] (by kernel_rfl) ?_
          refine RunsI.region (by kernel_rfl) ?_
          refine RegI.pure 2 [0, 4, 5, 6, 7, 8, 39, 40] [(0, .slice pA0 p0.length pc0), (4, .pointer (some ⟨b16, 0, none⟩)), (5, .int .i64 t19), (6, .int .i64 t20), (7, .pointer (some ⟨b106, 0, none⟩)), (8, .slice A109 t111.length c110), (39, .slice pA0 p0.length pc0), (40, .int .i64 t20)] (by kernel_rfl) ?_
          refine RegI.op (by kernel_rfl) (OpE.idxSl 41 0 30 t20 h122 (by kernel_rfl) rfl (by kernel_rfl) (by kernel_rfl) hc117 ?_)
          intro b124 o125 cs126 hk127 h128
          obtain rfl := hk127
          refine RegI.op (by kernel_rfl) (OpE.loadCel 42 6 3 b124 o125 0 (.int .i64 (rdD p0 t20)) h128 (by kernel_rfl) (by kernel_rfl) rfl (by kernel_rfl) ?_)
          refine RegI.pure 2 [0, 4, 5, 6, 7, 8, 44] [(0, .slice pA0 p0.length pc0), (4, .pointer (some ⟨b16, 0, none⟩)), (5, .int .i64 t19), (6, .int .i64 t20), (7, .pointer (some ⟨b106, 0, none⟩)), (8, .slice A109 t111.length c110), (44, .bool (decide ((rdD p0 t20) > 0)))] (by kernel_rfl) ?_
          obtain ⟨j133, hJ134, h⟩ := of_let h
          have hj135 : ∀ (t130 : Bool) (w132 : World), j133 t130 = some x → Holds M0 w0 w132 [sl (Rp.int .i64) (.slice pA0 p0.length pc0) p0, box b16 29 [.bool t17, .int .i64 t18], box b106 29 [.bool t107, .int .i64 t108], own (Rp.int .u8) 5 (.slice A109 t111.length c110) t111, cel 0 0 (tab_0.flatMap en_0)] → RegI F5 46 [.c 47, .blk 2, .c 68, .blk 1, .c 77, .lp 29, .blk 0, .c 78] 10 [(0, .slice pA0 p0.length pc0), (4, .pointer (some ⟨b16, 0, none⟩)), (5, .int .i64 t19), (6, .int .i64 t20), (7, .pointer (some ⟨b106, 0, none⟩)), (8, .slice A109 t111.length c110), (38, .bool t130)] w132 R := by
            intro t130 w132 h h131
            rw [hJ134] at h
            clear hJ134
            dsimp only at h
            refine RegI.done (by kernel_rfl) ?_
            rcases of_cond h with ⟨hc136, h⟩ | ⟨hc136, h⟩
            · skip
              refine RunsI.fix 38 true hc136 (by kernel_rfl) (by kernel_rfl) ?_
              refine RunsI.cond true 48 (by kernel_rfl) ?_
              refine RunsI.go 2 [.c 50, .c 51, .c 56, .blk 2, .c 68, .blk 1, .c 77, .lp 29, .blk 0, .c 78] (by kernel_rfl) ?_
              refine RunsI.region (by kernel_rfl) ?_
              refine RegI.pure 4 [0, 4, 6, 7, 8, 51] [(0, .slice pA0 p0.length pc0), (4, .pointer (some ⟨b16, 0, none⟩)), (6, .int .i64 t20), (7, .pointer (some ⟨b106, 0, none⟩)), (8, .slice A109 t111.length c110), (51, .bool ((t111.length : Int) != 1))] (by kernel_rfl) ?_
              obtain ⟨j144, hJ145, h⟩ := of_let h
              have hj146 : ∀ (t141 : Bool) (w143 : World), j144 t141 = some x → Holds M0 w0 w143 [sl (Rp.int .i64) (.slice pA0 p0.length pc0) p0, box b16 29 [.bool t17, .int .i64 t18], box b106 29 [.bool t107, .int .i64 t108], cel 0 0 (tab_0.flatMap en_0)] → RegI F5 50 [.c 51, .c 56, .blk 2, .c 68, .blk 1, .c 77, .lp 29, .blk 0, .c 78] 9 [(0, .slice pA0 p0.length pc0), (4, .pointer (some ⟨b16, 0, none⟩)), (6, .int .i64 t20), (7, .pointer (some ⟨b106, 0, none⟩)), (56, .bool t141)] w143 R := by
                intro t141 w143 h h142
                rw [hJ145] at h
                clear hJ145
                dsimp only at h
                refine RegI.done (by kernel_rfl) ?_
                rcases of_cond h with ⟨hc147, h⟩ | ⟨hc147, h⟩
                · skip
                  refine RunsI.fix 56 true hc147 (by kernel_rfl) (by kernel_rfl) ?_
                  refine RunsI.cond true 52 (by kernel_rfl) ?_
                  refine RunsI.go 1 [.c 53, .c 54, .c 56, .blk 2, .c 68, .blk 1, .c 77, .lp 29, .blk 0, .c 78] (by kernel_rfl) ?_
                  refine RunsI.region (by kernel_rfl) ?_
                  refine RegI.pure 1 [2] [(2, .bool false)] (by kernel_rfl) ?_
                  refine RegI.done (by kernel_rfl) ?_
                  refine RunsI.ret (.bool false) (by kernel_rfl) (by kernel_rfl) ?_
                  exact hk1 w143 (Option.some.inj h).symm (h142.pick [3] (by decide))
                · skip
                  refine RunsI.fix 56 false hc147 (by kernel_rfl) (by kernel_rfl) ?_
                  refine RunsI.cond false 55 (by kernel_rfl) ?_
                  refine RunsI.go 1 [.c 56, .blk 2, .c 68, .blk 1, .c 77, .lp 29, .blk 0, .c 78] (by kernel_rfl) ?_
                  refine RunsI.region (by kernel_rfl) ?_
                  refine RegI.pure 2 [0, 4, 6, 7, 57, 58] [(0, .slice pA0 p0.length pc0), (4, .pointer (some ⟨b16, 0, none⟩)), (6, .int .i64 t20), (7, .pointer (some ⟨b106, 0, none⟩)), (57, .slice pA0 p0.length pc0), (58, .int .i64 t20)] (by kernel_rfl) ?_
                  refine RegI.op (by kernel_rfl) (OpE.idxSl 59 0 30 t20 h142 (by kernel_rfl) rfl (by kernel_rfl) (by kernel_rfl) hc117 ?_)
                  intro b148 o149 cs150 hk151 h152
                  obtain rfl := hk151
                  refine RegI.op (by kernel_rfl) (OpE.loadCel 60 4 3 b148 o149 0 (.int .i64 (rdD p0 t20)) h152 (by kernel_rfl) (by kernel_rfl) rfl (by kernel_rfl) ?_)
                  refine RegI.pure 1 [0, 4, 5, 6, 7] [(0, .slice pA0 p0.length pc0), (4, .pointer (some ⟨b16, 0, none⟩)), (5, .int .i64 (rdD p0 t20)), (6, .int .i64 t20), (7, .pointer (some ⟨b106, 0, none⟩))] (by kernel_rfl) ?_
                  refine RegI.done (by kernel_rfl) ?_
                  refine RunsI.go 3 [.c 70, .c 71, .c 76, .blk 1, .c 77, .lp 29, .blk 0, .c 78] (by kernel_rfl) ?_
                  refine RunsI.region (by kernel_rfl) ?_
                  refine RegI.pure 1 [0, 4, 5, 6, 7, 76] [(0, .slice pA0 p0.length pc0), (4, .pointer (some ⟨b16, 0, none⟩)), (5, .int .i64 (rdD p0 t20)), (6, .int .i64 t20), (7, .pointer (some ⟨b106, 0, none⟩)), (76, .pointer (some ⟨b106, 0, none⟩))] (by kernel_rfl) ?_
                  refine RegI.op (by kernel_rfl) (OpE.loadBox 77 2 4 b106 0 (.bool t107) h152 (by kernel_rfl) (by kernel_rfl) rfl (by kernel_rfl) ?_)
                  refine RegI.pure 4 [0, 4, 5, 6, 7, 81] [(0, .slice pA0 p0.length pc0), (4, .pointer (some ⟨b16, 0, none⟩)), (5, .int .i64 (rdD p0 t20)), (6, .int .i64 t20), (7, .pointer (some ⟨b106, 0, none⟩)), (81, .bool (t107 != ((rdD p0 t20) != 0)))] (by kernel_rfl) ?_
                  obtain ⟨j185, hJ186, h⟩ := of_let h
                  have hj187 : ∀ (t182 : Bool) (w184 : World), j185 t182 = some x → Holds M0 w0 w184 [sl (Rp.int .i64) (.slice pA0 p0.length pc0) p0, box b16 29 [.bool t17, .int .i64 t18], box b106 29 [.bool t107, .int .i64 t108], cel 0 0 (tab_0.flatMap en_0)] → RegI F5 70 [.c 71, .c 76, .blk 1, .c 77, .lp 29, .blk 0, .c 78] 11 [(0, .slice pA0 p0.length pc0), (4, .pointer (some ⟨b16, 0, none⟩)), (5, .int .i64 (rdD p0 t20)), (6, .int .i64 t20), (7, .pointer (some ⟨b106, 0, none⟩)), (86, .bool t182)] w184 R := by
                    intro t182 w184 h h183
                    rw [hJ186] at h
                    clear hJ186
                    dsimp only at h
                    refine RegI.done (by kernel_rfl) ?_
                    rcases of_cond h with ⟨hc188, h⟩ | ⟨hc188, h⟩
                    · skip
                      refine RunsI.fix 86 true hc188 (by kernel_rfl) (by kernel_rfl) ?_
                      refine RunsI.cond true 72 (by kernel_rfl) ?_
                      refine RunsI.go 1 [.c 73, .c 74, .c 76, .blk 1, .c 77, .lp 29, .blk 0, .c 78] (by kernel_rfl) ?_
                      refine RunsI.region (by kernel_rfl) ?_
                      refine RegI.pure 1 [2] [(2, .bool false)] (by kernel_rfl) ?_
                      refine RegI.done (by kernel_rfl) ?_
                      refine RunsI.ret (.bool false) (by kernel_rfl) (by kernel_rfl) ?_
                      exact hk1 w184 (Option.some.inj h).symm (h183.pick [3] (by decide))
                    · skip
                      refine RunsI.fix 86 false hc188 (by kernel_rfl) (by kernel_rfl) ?_
                      refine RunsI.cond false 75 (by kernel_rfl) ?_
                      refine RunsI.go 1 [.c 76, .blk 1, .c 77, .lp 29, .blk 0, .c 78] (by kernel_rfl) ?_
                      refine RunsI.region (by kernel_rfl) ?_
                      refine RegI.op (by kernel_rfl) (OpE.loadBox 87 2 29 b106 0 (.agg #[.bool t107, .int .i64 t108]) h183 (by kernel_rfl) (by kernel_rfl) rfl (by kernel_rfl) ?_)
                      refine RegI.op (by kernel_rfl) (OpE.storeBox 1 29 b16 0 (.agg #[.bool t107, .int .i64 t108]) [.bool t107, .int .i64 t108] h183 (by kernel_rfl) (by kernel_rfl) rfl (by kernel_rfl) (by kernel_rfl) (by kernel_rfl) ?_)
                      intro w189 h190 hk191
                      refine RegI.done (by kernel_rfl) ?_
                      refine RunsI.go 1 [.c 77, .lp 29, .blk 0, .c 78] (by kernel_rfl) ?_
                      refine RunsI.region (by kernel_rfl) ?_
                      refine RegI.pure 3 [0, 4, 5, 6] [(0, .slice pA0 p0.length pc0), (4, .pointer (some ⟨b16, 0, none⟩)), (5, .int .i64 (rdD p0 t20)), (6, .int .i64 (IntKind.wrap .i64 (t20 + 1)))] (by kernel_rfl) ?_
                      refine RegI.done (by kernel_rfl) ?_
                      refine RunsI.go 1 [.c 29, .lp 29, .blk 0, .c 78] (by kernel_rfl) ?_
                      refine RunsI.only [0, 4, 5, 6] [(0, .slice pA0 p0.length pc0), (4, .pointer (some ⟨b16, 0, none⟩)), (5, .int .i64 (rdD p0 t20)), (6, .int .i64 (IntKind.wrap .i64 (t20 + 1)))] (by kernel_rfl) (by kernel_rfl) ?_
                      exact ih t107 t108 (rdD p0 t20) (IntKind.wrap .i64 (t20 + 1)) w189 h (h190.pick [0, 1, 3] (by decide))
                  clear hJ186
                  rcases of_cond h with ⟨hc181, h⟩ | ⟨hc181, h⟩
                  · skip
                    refine RegI.fix 81 true hc181 (by kernel_rfl) (by kernel_rfl) ?_
                    refine RegI.pure 5 [0, 4, 5, 6, 7, 82, 83, 84, 85, 86] [(0, .slice pA0 p0.length pc0), (4, .pointer (some ⟨b16, 0, none⟩)), (5, .int .i64 (rdD p0 t20)), (6, .int .i64 t20), (7, .pointer (some ⟨b106, 0, none⟩)), (82, undef), (83, undef), (84, undef), (85, undef), (86, .bool true)] (by kernel_rfl) ?_
                    refine RegI.only [0, 4, 5, 6, 7, 86] [(0, .slice pA0 p0.length pc0), (4, .pointer (some ⟨b16, 0, none⟩)), (5, .int .i64 (rdD p0 t20)), (6, .int .i64 t20), (7, .pointer (some ⟨b106, 0, none⟩)), (86, .bool true)] (by kernel_rfl) (by kernel_rfl) ?_
                    exact hj187 true w143 h (h152.pick [0, 1, 2, 3] (by decide))
                  · skip
                    refine RegI.fix 81 false hc181 (by kernel_rfl) (by kernel_rfl) ?_
                    refine RegI.pure 1 [0, 4, 5, 6, 7, 81, 82] [(0, .slice pA0 p0.length pc0), (4, .pointer (some ⟨b16, 0, none⟩)), (5, .int .i64 (rdD p0 t20)), (6, .int .i64 t20), (7, .pointer (some ⟨b106, 0, none⟩)), (81, .bool false), (82, .pointer (some ⟨b106, 1, none⟩))] (by kernel_rfl) ?_
                    refine RegI.op (by kernel_rfl) (OpE.loadBox 83 2 3 b106 1 (.int .i64 t108) h152 (by kernel_rfl) (by kernel_rfl) rfl (by kernel_rfl) ?_)
                    refine RegI.pure 3 [0, 4, 5, 6, 7, 82, 83, 84, 85, 86] [(0, .slice pA0 p0.length pc0), (4, .pointer (some ⟨b16, 0, none⟩)), (5, .int .i64 (rdD p0 t20)), (6, .int .i64 t20), (7, .pointer (some ⟨b106, 0, none⟩)), (82, .pointer (some ⟨b106, 1, none⟩)), (83, .int .i64 t108), (84, .int .i64 (rdD p0 t20)), (85, .bool (t108 != (rdD p0 t20))), (86, .bool (t108 != (rdD p0 t20)))] (by kernel_rfl) ?_
                    refine RegI.only [0, 4, 5, 6, 7, 86] [(0, .slice pA0 p0.length pc0), (4, .pointer (some ⟨b16, 0, none⟩)), (5, .int .i64 (rdD p0 t20)), (6, .int .i64 t20), (7, .pointer (some ⟨b106, 0, none⟩)), (86, .bool (t108 != (rdD p0 t20)))] (by kernel_rfl) (by kernel_rfl) ?_
                    exact hj187 (t108 != (rdD p0 t20)) w143 h (h152.pick [0, 1, 2, 3] (by decide))
              clear hJ145
              rcases of_cond h with ⟨hc137, h⟩ | ⟨hc137, h⟩
              · skip
                refine RegI.fix 51 true hc137 (by kernel_rfl) (by kernel_rfl) ?_
                refine RegI.pure 5 [0, 4, 6, 7, 52, 53, 54, 55, 56] [(0, .slice pA0 p0.length pc0), (4, .pointer (some ⟨b16, 0, none⟩)), (6, .int .i64 t20), (7, .pointer (some ⟨b106, 0, none⟩)), (52, undef), (53, undef), (54, undef), (55, undef), (56, .bool true)] (by kernel_rfl) ?_
                refine RegI.only [0, 4, 6, 7, 56] [(0, .slice pA0 p0.length pc0), (4, .pointer (some ⟨b16, 0, none⟩)), (6, .int .i64 t20), (7, .pointer (some ⟨b106, 0, none⟩)), (56, .bool true)] (by kernel_rfl) (by kernel_rfl) ?_
                exact hj146 true w132 h (h131.pick [0, 1, 2, 4] (by decide))
              · skip
                refine RegI.fix 51 false hc137 (by kernel_rfl) (by kernel_rfl) ?_
                refine RegI.pure 1 [0, 4, 6, 7, 51, 52] [(0, .slice pA0 p0.length pc0), (4, .pointer (some ⟨b16, 0, none⟩)), (6, .int .i64 t20), (7, .pointer (some ⟨b106, 0, none⟩)), (51, .bool false), (52, .slice A109 t111.length c110)] (by kernel_rfl) ?_
                obtain ⟨hc138, h⟩ := of_cond0 h
                refine RegI.op (by kernel_rfl) (OpE.idxOwnA 53 3 31 5 0 h131 (by kernel_rfl) rfl (by kernel_rfl) (by kernel_rfl) hc138 ?_)
                refine RegI.op (by kernel_rfl) (OpE.loadOwnA 54 3 5 5 0 0 (o := (Int.toNat 0) * 1 + 0) h131 (by kernel_rfl) rfl (by kernel_rfl) (by kernel_rfl) hc138 (fun cs139 hk140 => ?_))
                obtain rfl := hk140
                refine ⟨.int .u8 (rdD t111 0), by kernel_rfl, ?_⟩
                refine RegI.pure 2 [0, 4, 6, 7, 52, 53, 54, 55, 56] [(0, .slice pA0 p0.length pc0), (4, .pointer (some ⟨b16, 0, none⟩)), (6, .int .i64 t20), (7, .pointer (some ⟨b106, 0, none⟩)), (52, .slice A109 t111.length c110), (53, .pointer (some ⟨(blkD A109), (Int.toNat 0) * 1, none⟩)), (54, .int .u8 (rdD t111 0)), (55, .bool ((rdD t111 0) != 0)), (56, .bool ((rdD t111 0) != 0))] (by kernel_rfl) ?_
                refine RegI.only [0, 4, 6, 7, 56] [(0, .slice pA0 p0.length pc0), (4, .pointer (some ⟨b16, 0, none⟩)), (6, .int .i64 t20), (7, .pointer (some ⟨b106, 0, none⟩)), (56, .bool ((rdD t111 0) != 0))] (by kernel_rfl) (by kernel_rfl) ?_
                exact hj146 ((rdD t111 0) != 0) w132 h (h131.pick [0, 1, 2, 4] (by decide))
            · skip
              refine RunsI.fix 38 false hc136 (by kernel_rfl) (by kernel_rfl) ?_
              refine RunsI.cond false 57 (by kernel_rfl) ?_
              refine RunsI.go 1 [.c 58, .c 59, .blk 2, .c 68, .blk 1, .c 77, .lp 29, .blk 0, .c 78] (by kernel_rfl) ?_
              refine RunsI.region (by kernel_rfl) ?_
              refine RegI.pure 2 [0, 4, 5, 6, 7, 8, 62, 63] [(0, .slice pA0 p0.length pc0), (4, .pointer (some ⟨b16, 0, none⟩)), (5, .int .i64 t19), (6, .int .i64 t20), (7, .pointer (some ⟨b106, 0, none⟩)), (8, .slice A109 t111.length c110), (62, .slice pA0 p0.length pc0), (63, .int .i64 t20)] (by kernel_rfl) ?_
              refine RegI.op (by kernel_rfl) (OpE.idxSl 64 0 30 t20 h131 (by kernel_rfl) rfl (by kernel_rfl) (by kernel_rfl) hc117 ?_)
              intro b153 o154 cs155 hk156 h157
              obtain rfl := hk156
              refine RegI.op (by kernel_rfl) (OpE.loadCel 65 5 3 b153 o154 0 (.int .i64 (rdD p0 t20)) h157 (by kernel_rfl) (by kernel_rfl) rfl (by kernel_rfl) ?_)
              refine RegI.pure 2 [0, 4, 5, 6, 7, 8, 61] [(0, .slice pA0 p0.length pc0), (4, .pointer (some ⟨b16, 0, none⟩)), (5, .int .i64 t19), (6, .int .i64 t20), (7, .pointer (some ⟨b106, 0, none⟩)), (8, .slice A109 t111.length c110), (61, .bool (decide ((rdD p0 t20) > 0)))] (by kernel_rfl) ?_
              refine RegI.done (by kernel_rfl) ?_
              rcases of_cond h with ⟨hc158, h⟩ | ⟨hc158, h⟩
              · skip
                refine RunsI.fix 61 true hc158 (by kernel_rfl) (by kernel_rfl) ?_
                refine RunsI.cond true 60 (by kernel_rfl) ?_
                refine RunsI.go 1 [.c 61, .c 62, .blk 2, .c 68, .blk 1, .c 77, .lp 29, .blk 0, .c 78] (by kernel_rfl) ?_
                refine RunsI.region (by kernel_rfl) ?_
                refine RegI.pure 4 [0, 4, 5, 6, 7, 8, 70] [(0, .slice pA0 p0.length pc0), (4, .pointer (some ⟨b16, 0, none⟩)), (5, .int .i64 t19), (6, .int .i64 t20), (7, .pointer (some ⟨b106, 0, none⟩)), (8, .slice A109 t111.length c110), (70, .bool ((t111.length : Int) != 1))] (by kernel_rfl) ?_
                obtain ⟨j166, hJ167, h⟩ := of_let h
                have hj168 : ∀ (t163 : Bool) (w165 : World), j166 t163 = some x → Holds M0 w0 w165 [sl (Rp.int .i64) (.slice pA0 p0.length pc0) p0, box b16 29 [.bool t17, .int .i64 t18], box b106 29 [.bool t107, .int .i64 t108], cel 0 0 (tab_0.flatMap en_0)] → RegI F5 61 [.c 62, .blk 2, .c 68, .blk 1, .c 77, .lp 29, .blk 0, .c 78] 9 [(0, .slice pA0 p0.length pc0), (4, .pointer (some ⟨b16, 0, none⟩)), (5, .int .i64 t19), (6, .int .i64 t20), (7, .pointer (some ⟨b106, 0, none⟩)), (75, .bool t163)] w165 R := by
                  intro t163 w165 h h164
                  rw [hJ167] at h
                  clear hJ167
                  dsimp only at h
                  refine RegI.done (by kernel_rfl) ?_
                  rcases of_cond h with ⟨hc169, h⟩ | ⟨hc169, h⟩
                  · skip
                    refine RunsI.fix 75 true hc169 (by kernel_rfl) (by kernel_rfl) ?_
                    refine RunsI.cond true 63 (by kernel_rfl) ?_
                    refine RunsI.go 1 [.c 64, .c 65, .blk 2, .c 68, .blk 1, .c 77, .lp 29, .blk 0, .c 78] (by kernel_rfl) ?_
                    refine RunsI.region (by kernel_rfl) ?_
                    refine RegI.pure 1 [2] [(2, .bool false)] (by kernel_rfl) ?_
                    refine RegI.done (by kernel_rfl) ?_
                    refine RunsI.ret (.bool false) (by kernel_rfl) (by kernel_rfl) ?_
                    exact hk1 w165 (Option.some.inj h).symm (h164.pick [3] (by decide))
                  · skip
                    refine RunsI.fix 75 false hc169 (by kernel_rfl) (by kernel_rfl) ?_
                    refine RunsI.cond false 66 (by kernel_rfl) ?_
                    refine RunsI.go 1 [.blk 2, .c 68, .blk 1, .c 77, .lp 29, .blk 0, .c 78] (by kernel_rfl) ?_
                    refine RunsI.go 3 [.c 70, .c 71, .c 76, .blk 1, .c 77, .lp 29, .blk 0, .c 78] (by kernel_rfl) ?_
                    refine RunsI.region (by kernel_rfl) ?_
                    refine RegI.pure 1 [0, 4, 5, 6, 7, 76] [(0, .slice pA0 p0.length pc0), (4, .pointer (some ⟨b16, 0, none⟩)), (5, .int .i64 t19), (6, .int .i64 t20), (7, .pointer (some ⟨b106, 0, none⟩)), (76, .pointer (some ⟨b106, 0, none⟩))] (by kernel_rfl) ?_
                    refine RegI.op (by kernel_rfl) (OpE.loadBox 77 2 4 b106 0 (.bool t107) h164 (by kernel_rfl) (by kernel_rfl) rfl (by kernel_rfl) ?_)
                    refine RegI.pure 4 [0, 4, 5, 6, 7, 81] [(0, .slice pA0 p0.length pc0), (4, .pointer (some ⟨b16, 0, none⟩)), (5, .int .i64 t19), (6, .int .i64 t20), (7, .pointer (some ⟨b106, 0, none⟩)), (81, .bool (t107 != (t19 != 0)))] (by kernel_rfl) ?_
                    obtain ⟨j196, hJ197, h⟩ := of_let h
                    have hj198 : ∀ (t193 : Bool) (w195 : World), j196 t193 = some x → Holds M0 w0 w195 [sl (Rp.int .i64) (.slice pA0 p0.length pc0) p0, box b16 29 [.bool t17, .int .i64 t18], box b106 29 [.bool t107, .int .i64 t108], cel 0 0 (tab_0.flatMap en_0)] → RegI F5 70 [.c 71, .c 76, .blk 1, .c 77, .lp 29, .blk 0, .c 78] 11 [(0, .slice pA0 p0.length pc0), (4, .pointer (some ⟨b16, 0, none⟩)), (5, .int .i64 t19), (6, .int .i64 t20), (7, .pointer (some ⟨b106, 0, none⟩)), (86, .bool t193)] w195 R := by
                      intro t193 w195 h h194
                      rw [hJ197] at h
                      clear hJ197
                      dsimp only at h
                      refine RegI.done (by kernel_rfl) ?_
                      rcases of_cond h with ⟨hc199, h⟩ | ⟨hc199, h⟩
                      · skip
                        refine RunsI.fix 86 true hc199 (by kernel_rfl) (by kernel_rfl) ?_
                        refine RunsI.cond true 72 (by kernel_rfl) ?_
                        refine RunsI.go 1 [.c 73, .c 74, .c 76, .blk 1, .c 77, .lp 29, .blk 0, .c 78] (by kernel_rfl) ?_
                        refine RunsI.region (by kernel_rfl) ?_
                        refine RegI.pure 1 [2] [(2, .bool false)] (by kernel_rfl) ?_
                        refine RegI.done (by kernel_rfl) ?_
                        refine RunsI.ret (.bool false) (by kernel_rfl) (by kernel_rfl) ?_
                        exact hk1 w195 (Option.some.inj h).symm (h194.pick [3] (by decide))
                      · skip
                        refine RunsI.fix 86 false hc199 (by kernel_rfl) (by kernel_rfl) ?_
                        refine RunsI.cond false 75 (by kernel_rfl) ?_
                        refine RunsI.go 1 [.c 76, .blk 1, .c 77, .lp 29, .blk 0, .c 78] (by kernel_rfl) ?_
                        refine RunsI.region (by kernel_rfl) ?_
                        refine RegI.op (by kernel_rfl) (OpE.loadBox 87 2 29 b106 0 (.agg #[.bool t107, .int .i64 t108]) h194 (by kernel_rfl) (by kernel_rfl) rfl (by kernel_rfl) ?_)
                        refine RegI.op (by kernel_rfl) (OpE.storeBox 1 29 b16 0 (.agg #[.bool t107, .int .i64 t108]) [.bool t107, .int .i64 t108] h194 (by kernel_rfl) (by kernel_rfl) rfl (by kernel_rfl) (by kernel_rfl) (by kernel_rfl) ?_)
                        intro w200 h201 hk202
                        refine RegI.done (by kernel_rfl) ?_
                        refine RunsI.go 1 [.c 77, .lp 29, .blk 0, .c 78] (by kernel_rfl) ?_
                        refine RunsI.region (by kernel_rfl) ?_
                        refine RegI.pure 3 [0, 4, 5, 6] [(0, .slice pA0 p0.length pc0), (4, .pointer (some ⟨b16, 0, none⟩)), (5, .int .i64 t19), (6, .int .i64 (IntKind.wrap .i64 (t20 + 1)))] (by kernel_rfl) ?_
                        refine RegI.done (by kernel_rfl) ?_
                        refine RunsI.go 1 [.c 29, .lp 29, .blk 0, .c 78] (by kernel_rfl) ?_
                        refine RunsI.only [0, 4, 5, 6] [(0, .slice pA0 p0.length pc0), (4, .pointer (some ⟨b16, 0, none⟩)), (5, .int .i64 t19), (6, .int .i64 (IntKind.wrap .i64 (t20 + 1)))] (by kernel_rfl) (by kernel_rfl) ?_
                        exact ih t107 t108 t19 (IntKind.wrap .i64 (t20 + 1)) w200 h (h201.pick [0, 1, 3] (by decide))
                    clear hJ197
                    rcases of_cond h with ⟨hc192, h⟩ | ⟨hc192, h⟩
                    · skip
                      refine RegI.fix 81 true hc192 (by kernel_rfl) (by kernel_rfl) ?_
                      refine RegI.pure 5 [0, 4, 5, 6, 7, 82, 83, 84, 85, 86] [(0, .slice pA0 p0.length pc0), (4, .pointer (some ⟨b16, 0, none⟩)), (5, .int .i64 t19), (6, .int .i64 t20), (7, .pointer (some ⟨b106, 0, none⟩)), (82, undef), (83, undef), (84, undef), (85, undef), (86, .bool true)] (by kernel_rfl) ?_
                      refine RegI.only [0, 4, 5, 6, 7, 86] [(0, .slice pA0 p0.length pc0), (4, .pointer (some ⟨b16, 0, none⟩)), (5, .int .i64 t19), (6, .int .i64 t20), (7, .pointer (some ⟨b106, 0, none⟩)), (86, .bool true)] (by kernel_rfl) (by kernel_rfl) ?_
                      exact hj198 true w165 h (h164.pick [0, 1, 2, 3] (by decide))
                    · skip
                      refine RegI.fix 81 false hc192 (by kernel_rfl) (by kernel_rfl) ?_
                      refine RegI.pure 1 [0, 4, 5, 6, 7, 81, 82] [(0, .slice pA0 p0.length pc0), (4, .pointer (some ⟨b16, 0, none⟩)), (5, .int .i64 t19), (6, .int .i64 t20), (7, .pointer (some ⟨b106, 0, none⟩)), (81, .bool false), (82, .pointer (some ⟨b106, 1, none⟩))] (by kernel_rfl) ?_
                      refine RegI.op (by kernel_rfl) (OpE.loadBox 83 2 3 b106 1 (.int .i64 t108) h164 (by kernel_rfl) (by kernel_rfl) rfl (by kernel_rfl) ?_)
                      refine RegI.pure 3 [0, 4, 5, 6, 7, 82, 83, 84, 85, 86] [(0, .slice pA0 p0.length pc0), (4, .pointer (some ⟨b16, 0, none⟩)), (5, .int .i64 t19), (6, .int .i64 t20), (7, .pointer (some ⟨b106, 0, none⟩)), (82, .pointer (some ⟨b106, 1, none⟩)), (83, .int .i64 t108), (84, .int .i64 t19), (85, .bool (t108 != t19)), (86, .bool (t108 != t19))] (by kernel_rfl) ?_
                      refine RegI.only [0, 4, 5, 6, 7, 86] [(0, .slice pA0 p0.length pc0), (4, .pointer (some ⟨b16, 0, none⟩)), (5, .int .i64 t19), (6, .int .i64 t20), (7, .pointer (some ⟨b106, 0, none⟩)), (86, .bool (t108 != t19))] (by kernel_rfl) (by kernel_rfl) ?_
                      exact hj198 (t108 != t19) w165 h (h164.pick [0, 1, 2, 3] (by decide))
                clear hJ167
                rcases of_cond h with ⟨hc159, h⟩ | ⟨hc159, h⟩
                · skip
                  refine RegI.fix 70 true hc159 (by kernel_rfl) (by kernel_rfl) ?_
                  refine RegI.pure 5 [0, 4, 5, 6, 7, 71, 72, 73, 74, 75] [(0, .slice pA0 p0.length pc0), (4, .pointer (some ⟨b16, 0, none⟩)), (5, .int .i64 t19), (6, .int .i64 t20), (7, .pointer (some ⟨b106, 0, none⟩)), (71, undef), (72, undef), (73, undef), (74, undef), (75, .bool true)] (by kernel_rfl) ?_
                  refine RegI.only [0, 4, 5, 6, 7, 75] [(0, .slice pA0 p0.length pc0), (4, .pointer (some ⟨b16, 0, none⟩)), (5, .int .i64 t19), (6, .int .i64 t20), (7, .pointer (some ⟨b106, 0, none⟩)), (75, .bool true)] (by kernel_rfl) (by kernel_rfl) ?_
                  exact hj168 true w132 h (h157.pick [0, 1, 2, 4] (by decide))
                · skip
                  refine RegI.fix 70 false hc159 (by kernel_rfl) (by kernel_rfl) ?_
                  refine RegI.pure 1 [0, 4, 5, 6, 7, 70, 71] [(0, .slice pA0 p0.length pc0), (4, .pointer (some ⟨b16, 0, none⟩)), (5, .int .i64 t19), (6, .int .i64 t20), (7, .pointer (some ⟨b106, 0, none⟩)), (70, .bool false), (71, .slice A109 t111.length c110)] (by kernel_rfl) ?_
                  obtain ⟨hc160, h⟩ := of_cond0 h
                  refine RegI.op (by kernel_rfl) (OpE.idxOwnA 72 3 31 5 0 h157 (by kernel_rfl) rfl (by kernel_rfl) (by kernel_rfl) hc160 ?_)
                  refine RegI.op (by kernel_rfl) (OpE.loadOwnA 73 3 5 5 0 0 (o := (Int.toNat 0) * 1 + 0) h157 (by kernel_rfl) rfl (by kernel_rfl) (by kernel_rfl) hc160 (fun cs161 hk162 => ?_))
                  obtain rfl := hk162
                  refine ⟨.int .u8 (rdD t111 0), by kernel_rfl, ?_⟩
                  refine RegI.pure 2 [0, 4, 5, 6, 7, 71, 72, 73, 74, 75] [(0, .slice pA0 p0.length pc0), (4, .pointer (some ⟨b16, 0, none⟩)), (5, .int .i64 t19), (6, .int .i64 t20), (7, .pointer (some ⟨b106, 0, none⟩)), (71, .slice A109 t111.length c110), (72, .pointer (some ⟨(blkD A109), (Int.toNat 0) * 1, none⟩)), (73, .int .u8 (rdD t111 0)), (74, .bool ((rdD t111 0) != 255)), (75, .bool ((rdD t111 0) != 255))] (by kernel_rfl) ?_
                  refine RegI.only [0, 4, 5, 6, 7, 75] [(0, .slice pA0 p0.length pc0), (4, .pointer (some ⟨b16, 0, none⟩)), (5, .int .i64 t19), (6, .int .i64 t20), (7, .pointer (some ⟨b106, 0, none⟩)), (75, .bool ((rdD t111 0) != 255))] (by kernel_rfl) (by kernel_rfl) ?_
                  exact hj168 ((rdD t111 0) != 255) w132 h (h157.pick [0, 1, 2, 4] (by decide))
              · skip
                refine RunsI.fix 61 false hc158 (by kernel_rfl) (by kernel_rfl) ?_
                refine RunsI.cond false 67 (by kernel_rfl) ?_
                refine RunsI.go 1 [.blk 2, .c 68, .blk 1, .c 77, .lp 29, .blk 0, .c 78] (by kernel_rfl) ?_
                refine RunsI.go 3 [.c 70, .c 71, .c 76, .blk 1, .c 77, .lp 29, .blk 0, .c 78] (by kernel_rfl) ?_
                refine RunsI.region (by kernel_rfl) ?_
                refine RegI.pure 1 [0, 4, 5, 6, 7, 76] [(0, .slice pA0 p0.length pc0), (4, .pointer (some ⟨b16, 0, none⟩)), (5, .int .i64 t19), (6, .int .i64 t20), (7, .pointer (some ⟨b106, 0, none⟩)), (76, .pointer (some ⟨b106, 0, none⟩))] (by kernel_rfl) ?_
                refine RegI.op (by kernel_rfl) (OpE.loadBox 77 2 4 b106 0 (.bool t107) h157 (by kernel_rfl) (by kernel_rfl) rfl (by kernel_rfl) ?_)
                refine RegI.pure 4 [0, 4, 5, 6, 7, 81] [(0, .slice pA0 p0.length pc0), (4, .pointer (some ⟨b16, 0, none⟩)), (5, .int .i64 t19), (6, .int .i64 t20), (7, .pointer (some ⟨b106, 0, none⟩)), (81, .bool (t107 != (t19 != 0)))] (by kernel_rfl) ?_
                obtain ⟨j207, hJ208, h⟩ := of_let h
                have hj209 : ∀ (t204 : Bool) (w206 : World), j207 t204 = some x → Holds M0 w0 w206 [sl (Rp.int .i64) (.slice pA0 p0.length pc0) p0, box b16 29 [.bool t17, .int .i64 t18], box b106 29 [.bool t107, .int .i64 t108], cel 0 0 (tab_0.flatMap en_0)] → RegI F5 70 [.c 71, .c 76, .blk 1, .c 77, .lp 29, .blk 0, .c 78] 11 [(0, .slice pA0 p0.length pc0), (4, .pointer (some ⟨b16, 0, none⟩)), (5, .int .i64 t19), (6, .int .i64 t20), (7, .pointer (some ⟨b106, 0, none⟩)), (86, .bool t204)] w206 R := by
                  intro t204 w206 h h205
                  rw [hJ208] at h
                  clear hJ208
                  dsimp only at h
                  refine RegI.done (by kernel_rfl) ?_
                  rcases of_cond h with ⟨hc210, h⟩ | ⟨hc210, h⟩
                  · skip
                    refine RunsI.fix 86 true hc210 (by kernel_rfl) (by kernel_rfl) ?_
                    refine RunsI.cond true 72 (by kernel_rfl) ?_
                    refine RunsI.go 1 [.c 73, .c 74, .c 76, .blk 1, .c 77, .lp 29, .blk 0, .c 78] (by kernel_rfl) ?_
                    refine RunsI.region (by kernel_rfl) ?_
                    refine RegI.pure 1 [2] [(2, .bool false)] (by kernel_rfl) ?_
                    refine RegI.done (by kernel_rfl) ?_
                    refine RunsI.ret (.bool false) (by kernel_rfl) (by kernel_rfl) ?_
                    exact hk1 w206 (Option.some.inj h).symm (h205.pick [3] (by decide))
                  · skip
                    refine RunsI.fix 86 false hc210 (by kernel_rfl) (by kernel_rfl) ?_
                    refine RunsI.cond false 75 (by kernel_rfl) ?_
                    refine RunsI.go 1 [.c 76, .blk 1, .c 77, .lp 29, .blk 0, .c 78] (by kernel_rfl) ?_
                    refine RunsI.region (by kernel_rfl) ?_
                    refine RegI.op (by kernel_rfl) (OpE.loadBox 87 2 29 b106 0 (.agg #[.bool t107, .int .i64 t108]) h205 (by kernel_rfl) (by kernel_rfl) rfl (by kernel_rfl) ?_)
                    refine RegI.op (by kernel_rfl) (OpE.storeBox 1 29 b16 0 (.agg #[.bool t107, .int .i64 t108]) [.bool t107, .int .i64 t108] h205 (by kernel_rfl) (by kernel_rfl) rfl (by kernel_rfl) (by kernel_rfl) (by kernel_rfl) ?_)
                    intro w211 h212 hk213
                    refine RegI.done (by kernel_rfl) ?_
                    refine RunsI.go 1 [.c 77, .lp 29, .blk 0, .c 78] (by kernel_rfl) ?_
                    refine RunsI.region (by kernel_rfl) ?_
                    refine RegI.pure 3 [0, 4, 5, 6] [(0, .slice pA0 p0.length pc0), (4, .pointer (some ⟨b16, 0, none⟩)), (5, .int .i64 t19), (6, .int .i64 (IntKind.wrap .i64 (t20 + 1)))] (by kernel_rfl) ?_
                    refine RegI.done (by kernel_rfl) ?_
                    refine RunsI.go 1 [.c 29, .lp 29, .blk 0, .c 78] (by kernel_rfl) ?_
                    refine RunsI.only [0, 4, 5, 6] [(0, .slice pA0 p0.length pc0), (4, .pointer (some ⟨b16, 0, none⟩)), (5, .int .i64 t19), (6, .int .i64 (IntKind.wrap .i64 (t20 + 1)))] (by kernel_rfl) (by kernel_rfl) ?_
                    exact ih t107 t108 t19 (IntKind.wrap .i64 (t20 + 1)) w211 h (h212.pick [0, 1, 3] (by decide))
                clear hJ208
                rcases of_cond h with ⟨hc203, h⟩ | ⟨hc203, h⟩
                · skip
                  refine RegI.fix 81 true hc203 (by kernel_rfl) (by kernel_rfl) ?_
                  refine RegI.pure 5 [0, 4, 5, 6, 7, 82, 83, 84, 85, 86] [(0, .slice pA0 p0.length pc0), (4, .pointer (some ⟨b16, 0, none⟩)), (5, .int .i64 t19), (6, .int .i64 t20), (7, .pointer (some ⟨b106, 0, none⟩)), (82, undef), (83, undef), (84, undef), (85, undef), (86, .bool true)] (by kernel_rfl) ?_
                  refine RegI.only [0, 4, 5, 6, 7, 86] [(0, .slice pA0 p0.length pc0), (4, .pointer (some ⟨b16, 0, none⟩)), (5, .int .i64 t19), (6, .int .i64 t20), (7, .pointer (some ⟨b106, 0, none⟩)), (86, .bool true)] (by kernel_rfl) (by kernel_rfl) ?_
                  exact hj209 true w132 h (h157.pick [0, 1, 2, 4] (by decide))
                · skip
                  refine RegI.fix 81 false hc203 (by kernel_rfl) (by kernel_rfl) ?_
                  refine RegI.pure 1 [0, 4, 5, 6, 7, 81, 82] [(0, .slice pA0 p0.length pc0), (4, .pointer (some ⟨b16, 0, none⟩)), (5, .int .i64 t19), (6, .int .i64 t20), (7, .pointer (some ⟨b106, 0, none⟩)), (81, .bool false), (82, .pointer (some ⟨b106, 1, none⟩))] (by kernel_rfl) ?_
                  refine RegI.op (by kernel_rfl) (OpE.loadBox 83 2 3 b106 1 (.int .i64 t108) h157 (by kernel_rfl) (by kernel_rfl) rfl (by kernel_rfl) ?_)
                  refine RegI.pure 3 [0, 4, 5, 6, 7, 82, 83, 84, 85, 86] [(0, .slice pA0 p0.length pc0), (4, .pointer (some ⟨b16, 0, none⟩)), (5, .int .i64 t19), (6, .int .i64 t20), (7, .pointer (some ⟨b106, 0, none⟩)), (82, .pointer (some ⟨b106, 1, none⟩)), (83, .int .i64 t108), (84, .int .i64 t19), (85, .bool (t108 != t19)), (86, .bool (t108 != t19))] (by kernel_rfl) ?_
                  refine RegI.only [0, 4, 5, 6, 7, 86] [(0, .slice pA0 p0.length pc0), (4, .pointer (some ⟨b16, 0, none⟩)), (5, .int .i64 t19), (6, .int .i64 t20), (7, .pointer (some ⟨b106, 0, none⟩)), (86, .bool (t108 != t19))] (by kernel_rfl) (by kernel_rfl) ?_
                  exact hj209 (t108 != t19) w132 h (h157.pick [0, 1, 2, 4] (by decide))
          clear hJ134
          rcases of_cond h with ⟨hc129, h⟩ | ⟨hc129, h⟩
          · skip
            refine RegI.fix 44 true hc129 (by kernel_rfl) (by kernel_rfl) ?_
            refine RegI.pure 4 [0, 4, 5, 6, 7, 8, 38, 45, 46] [(0, .slice pA0 p0.length pc0), (4, .pointer (some ⟨b16, 0, none⟩)), (5, .int .i64 t19), (6, .int .i64 t20), (7, .pointer (some ⟨b106, 0, none⟩)), (8, .slice A109 t111.length c110), (38, .bool (t19 == 0)), (45, .int .i64 t19), (46, .bool (t19 == 0))] (by kernel_rfl) ?_
            refine RegI.only [0, 4, 5, 6, 7, 8, 38] [(0, .slice pA0 p0.length pc0), (4, .pointer (some ⟨b16, 0, none⟩)), (5, .int .i64 t19), (6, .int .i64 t20), (7, .pointer (some ⟨b106, 0, none⟩)), (8, .slice A109 t111.length c110), (38, .bool (t19 == 0))] (by kernel_rfl) (by kernel_rfl) ?_
            exact hj135 (t19 == 0) w113 h (h128.pick [0, 1, 2, 3, 4] (by decide))
          · skip
            refine RegI.fix 44 false hc129 (by kernel_rfl) (by kernel_rfl) ?_
            refine RegI.pure 4 [0, 4, 5, 6, 7, 8, 38, 45, 46] [(0, .slice pA0 p0.length pc0), (4, .pointer (some ⟨b16, 0, none⟩)), (5, .int .i64 t19), (6, .int .i64 t20), (7, .pointer (some ⟨b106, 0, none⟩)), (8, .slice A109 t111.length c110), (38, .bool false), (45, undef), (46, undef)] (by kernel_rfl) ?_
            refine RegI.only [0, 4, 5, 6, 7, 8, 38] [(0, .slice pA0 p0.length pc0), (4, .pointer (some ⟨b16, 0, none⟩)), (5, .int .i64 t19), (6, .int .i64 t20), (7, .pointer (some ⟨b106, 0, none⟩)), (8, .slice A109 t111.length c110), (38, .bool false)] (by kernel_rfl) (by kernel_rfl) ?_
            exact hj135 false w113 h (h128.pick [0, 1, 2, 3, 4] (by decide))
      clear hJ115
      refine AnyE.two 6 10 (by kernel_rfl) ?_ ?_
      · skip
        intro w30 hu31
        have h32 := h29.call hu31
        have hS33 := hS24.up hu31
        obtain ⟨⟨t38, t39, t40⟩, hg37, h⟩ := of_bind h
        dsimp only at h
        refine OpE.call 29 (by kernel_rfl) 11 #[.agg #[.bool t17, .int .i64 t18], .slice A27 ((cutL p0 t20 (IntKind.wrap .i64 (t20 + 1))).length) c28] (by kernel_rfl) ((latch_Play_11_ok K _ w30  A27 c28 t17 t18 (cutL p0 t20 (IntKind.wrap .i64 (t20 + 1))) h32.old' (h32.get 3 rfl) hg37).mono ?_)
        rintro _ w34 ⟨A41, c42, rfl, hr44⟩
        refine ⟨_, rfl, ?_⟩
        have hb35 := hr44.below
        have h36 := h32.join hr44
        have hS45 := hS33.up hb35
        refine ⟨hS45, ?_⟩
        refine AnyE.pure 7 22 (.tuple #[.agg #[.bool t38, .int .i64 t39], .slice A41 t40.length c42]) (by kernel_rfl) hS45 (fun _ => by kernel_rfl) ?_
        refine AnyE.pure 8 30 (.agg #[.bool t38, .int .i64 t39]) (by kernel_rfl) hS45 (fun _ => by kernel_rfl) ?_
        refine AnyE.pure 9 31 (.slice A41 t40.length c42) (by kernel_rfl) hS45 (fun _ => by kernel_rfl) ?_
        refine AnyE.one 10 (by kernel_rfl) (fun w46 hu47 => ?_)
        have h48 := h36.call hu47
        have hS49 := hS45.up hu47
        refine OpE.box 7 29 [.bool false, .int .i64 0] h48 (by kernel_rfl) (by kernel_rfl) ?_
        intro w50 b51 h52 hb53 hn54
        have hn55 := Nat.le_trans hS49.1 hn54
        have hS56 := hS49.up hb53
        refine ⟨hS56, ?_⟩
        refine AnyE.one 11 (by kernel_rfl) (fun w57 hu58 => ?_)
        have h59 := h52.call hu58
        have hS60 := hS56.up hu58
        refine OpE.storeBox 5 29 b51 0 (.agg #[.bool t38, .int .i64 t39]) [.bool t38, .int .i64 t39] h59 (by kernel_rfl) (by kernel_rfl) rfl (by kernel_rfl) (by kernel_rfl) (by kernel_rfl) ?_
        intro w61 h62 hk63
        have hS64 := hS60.trans hk63 (fun x hx => .inr (by rw [List.mem_singleton.1 hx]; exact hn55))
        refine ⟨hS64, ?_⟩
        refine AnyE.pure 12 8 (.slice A41 t40.length c42) (by kernel_rfl) hS64 (fun _ => by kernel_rfl) ?_
        refine AnyE.done (by kernel_rfl) (fun w65 hu66 => ?_)
        have h67 := h62.call hu66
        refine RunsI.only [0, 4, 5, 6, 7, 8] [(0, .slice pA0 p0.length pc0), (4, .pointer (some ⟨b16, 0, none⟩)), (5, .int .i64 t19), (6, .int .i64 t20), (7, .pointer (some ⟨b51, 0, none⟩)), (8, .slice A41 t40.length c42)] (by kernel_rfl) (by kernel_rfl) ?_
        refine RunsI.only [0, 4, 5, 6, 7, 8] [(0, .slice pA0 p0.length pc0), (4, .pointer (some ⟨b16, 0, none⟩)), (5, .int .i64 t19), (6, .int .i64 t20), (7, .pointer (some ⟨b51, 0, none⟩)), (8, .slice A41 t40.length c42)] (by kernel_rfl) (by kernel_rfl) ?_
        exact hj116 t38 t39 t40 b51 A41 c42 w65 h (h67.pick [0, 1, 5, 4, 2] (by decide))
      · skip
        intro w68 hu69
        have h70 := h29.call hu69
        have hS71 := hS24.up hu69
        refine OpE.box 7 29 [.bool false, .int .i64 0] h70 (by kernel_rfl) (by kernel_rfl) ?_
        intro w72 b73 h74 hb75 hn76
        have hn77 := Nat.le_trans hS71.1 hn76
        have hS78 := hS71.up hb75
        refine ⟨hS78, ?_⟩
        refine AnyE.one 6 (by kernel_rfl) (fun w79 hu80 => ?_)
        have h81 := h74.call hu80
        have hS82 := hS78.up hu80
        obtain ⟨⟨t87, t88, t89⟩, hg86, h⟩ := of_bind h
        dsimp only at h
        refine OpE.call 29 (by kernel_rfl) 11 #[.agg #[.bool t17, .int .i64 t18], .slice A27 ((cutL p0 t20 (IntKind.wrap .i64 (t20 + 1))).length) c28] (by kernel_rfl) ((latch_Play_11_ok K _ w79  A27 c28 t17 t18 (cutL p0 t20 (IntKind.wrap .i64 (t20 + 1))) h81.old' (h81.get 3 rfl) hg86).mono ?_)
        rintro _ w83 ⟨A90, c91, rfl, hr93⟩
        refine ⟨_, rfl, ?_⟩
        have hb84 := hr93.below
        have h85 := h81.join hr93
        have hS94 := hS82.up hb84
        refine ⟨hS94, ?_⟩
        refine AnyE.pure 7 22 (.tuple #[.agg #[.bool t87, .int .i64 t88], .slice A90 t89.length c91]) (by kernel_rfl) hS94 (fun _ => by kernel_rfl) ?_
        refine AnyE.pure 8 30 (.agg #[.bool t87, .int .i64 t88]) (by kernel_rfl) hS94 (fun _ => by kernel_rfl) ?_
        refine AnyE.pure 9 31 (.slice A90 t89.length c91) (by kernel_rfl) hS94 (fun _ => by kernel_rfl) ?_
        refine AnyE.one 11 (by kernel_rfl) (fun w95 hu96 => ?_)
        have h97 := h85.call hu96
        have hS98 := hS94.up hu96
        refine OpE.storeBox 4 29 b73 0 (.agg #[.bool t87, .int .i64 t88]) [.bool t87, .int .i64 t88] h97 (by kernel_rfl) (by kernel_rfl) rfl (by kernel_rfl) (by kernel_rfl) (by kernel_rfl) ?_
        intro w99 h100 hk101
        have hS102 := hS98.trans hk101 (fun x hx => .inr (by rw [List.mem_singleton.1 hx]; exact hn77))
        refine ⟨hS102, ?_⟩
        refine AnyE.pure 12 8 (.slice A90 t89.length c91) (by kernel_rfl) hS102 (fun _ => by kernel_rfl) ?_
        refine AnyE.done (by kernel_rfl) (fun w103 hu104 => ?_)
        have h105 := h100.call hu104
        refine RunsI.only [0, 4, 5, 6, 7, 8] [(0, .slice pA0 p0.length pc0), (4, .pointer (some ⟨b16, 0, none⟩)), (5, .int .i64 t19), (6, .int .i64 t20), (7, .pointer (some ⟨b73, 0, none⟩)), (8, .slice A90 t89.length c91)] (by kernel_rfl) (by kernel_rfl) ?_
        refine RunsI.only [0, 4, 5, 6, 7, 8] [(0, .slice pA0 p0.length pc0), (4, .pointer (some ⟨b16, 0, none⟩)), (5, .int .i64 t19), (6, .int .i64 t20), (7, .pointer (some ⟨b73, 0, none⟩)), (8, .slice A90 t89.length c91)] (by kernel_rfl) (by kernel_rfl) ?_
        exact hj116 t87 t88 t89 b73 A90 c91 w103 h (h105.pick [0, 1, 4, 5, 2] (by decide))
    · skip
      refine RunsI.fix 19 false hc21 (by kernel_rfl) (by kernel_rfl) ?_
      refine RunsI.cond false 34 (by kernel_rfl) ?_
      refine RunsI.go 1 [.c 78] (by kernel_rfl) ?_
      refine RunsI.only [] [] (by kernel_rfl) (by kernel_rfl) ?_
      exact hk0 w (Option.some.inj h).symm (hH.pick [2] (by decide))
def charabanclaw20_LatchOne_5.f (K : Nat) (p0 : List Int) : Option Bool := (charabanclaw20_awake_6.f K).bind fun t5 => cond (!t5) (some false) (cond (decide ((p0.length : Int) > 200)) (some true) ((charabanclaw20_LatchOne_5.l0 K p0 K false 0 0 0).bind (fun x214 => Lp.elim x214 (fun _ => some false) (fun _ => some true))))
set_option maxRecDepth 100000 in
theorem charabanclaw20_LatchOne_5_ok (K : Nat) (M0 : Nat → Prop) (w0 : World) (pA0 : Option Addr) (pc0 : Nat) (p0 : List Int) (ho : ∀ b, M0 b → b < w0.heap.size) (hs0 : Sl (Rp.int .i64) w0 M0 (.slice pA0 p0.length pc0) p0) (hG0 : (cel 0 0 (tab_0.flatMap en_0)).ok w0 M0) {r : Bool} (h : charabanclaw20_LatchOne_5.f K p0 = some r) :
    Calls Tryd.prog 5 #[.slice pA0 p0.length pc0] w0 (charabanclaw20_LatchOne_5.post M0 w0 r) := by
  unfold charabanclaw20_LatchOne_5.f at h
  have h0 : Holds M0 w0 w0 [] := Holds.start ho
  have h00 := h0.addSl (Rp.int .i64) (.slice pA0 p0.length pc0) p0 (hs0.mono (fun _ _ hm => hm.elim id (fun hm => absurd hm (by simp [mines, sl]))))
  have h0g0 := h00.add (cel 0 0 (tab_0.flatMap en_0)) rfl ⟨hG0.1, fun hm => hG0.2.1 (hm.elim id (fun hm => absurd hm (by simp [mines, sl, cel]))), hG0.2.2⟩
  have h0 : Holds M0 w0 w0 [sl (Rp.int .i64) (.slice pA0 p0.length pc0) p0, cel 0 0 (tab_0.flatMap en_0)] := h0g0
  refine calls_of F5 rfl [.slice pA0 p0.length pc0] (by kernel_rfl) ?_
  refine RunsI.go 1 [.c 1, .c 2] (by kernel_rfl) ?_
  refine RunsI.region (by kernel_rfl) ?_
  refine RegI.pure 1 [0] [(0, .slice pA0 p0.length pc0)] (by kernel_rfl) ?_
  refine RegI.done (by kernel_rfl) ?_
  refine RunsI.go 1 [.c 3, .c 4] (by kernel_rfl) ?_
  refine RunsI.region (by kernel_rfl) ?_
  obtain ⟨t5, hg4, h⟩ := of_bind h
  refine RegI.op (by kernel_rfl) (OpE.call 9 (by kernel_rfl) 6 #[] (by kernel_rfl) ((charabanclaw20_awake_6_ok K _ w0  h0.old' (h0.get 1 rfl) hg4).mono ?_))
  rintro _ w1 ⟨rfl, hb2⟩
  refine ⟨_, rfl, ?_⟩
  have h3 := h0.call hb2
  refine RegI.pure 1 [0, 3] [(0, .slice pA0 p0.length pc0), (3, .bool t5)] (by kernel_rfl) ?_
  refine RegI.done (by kernel_rfl) ?_
  refine RunsI.go 2 [.c 6, .c 7, .c 12] (by kernel_rfl) ?_
  refine RunsI.region (by kernel_rfl) ?_
  refine RegI.pure 2 [0, 11] [(0, .slice pA0 p0.length pc0), (11, .bool (!t5))] (by kernel_rfl) ?_
  refine RegI.done (by kernel_rfl) ?_
  rcases of_cond h with ⟨hc6, h⟩ | ⟨hc6, h⟩
  · skip
    refine RunsI.fix 11 true hc6 (by kernel_rfl) (by kernel_rfl) ?_
    refine RunsI.cond true 8 (by kernel_rfl) ?_
    refine RunsI.go 1 [.c 9, .c 10, .c 12] (by kernel_rfl) ?_
    refine RunsI.region (by kernel_rfl) ?_
    refine RegI.pure 1 [2] [(2, .bool false)] (by kernel_rfl) ?_
    refine RegI.done (by kernel_rfl) ?_
    refine RunsI.ret (.bool false) (by kernel_rfl) (by kernel_rfl) ?_
    obtain rfl := Option.some.inj h
    exact ⟨rfl, h3.below⟩
  · skip
    refine RunsI.fix 11 false hc6 (by kernel_rfl) (by kernel_rfl) ?_
    refine RunsI.cond false 11 (by kernel_rfl) ?_
    refine RunsI.go 1 [.c 12] (by kernel_rfl) ?_
    refine RunsI.go 2 [.c 14, .c 15, .c 20] (by kernel_rfl) ?_
    refine RunsI.region (by kernel_rfl) ?_
    refine RegI.pure 3 [0, 14] [(0, .slice pA0 p0.length pc0), (14, .bool (decide ((p0.length : Int) > 200)))] (by kernel_rfl) ?_
    refine RegI.done (by kernel_rfl) ?_
    rcases of_cond h with ⟨hc7, h⟩ | ⟨hc7, h⟩
    · skip
      refine RunsI.fix 14 true hc7 (by kernel_rfl) (by kernel_rfl) ?_
      refine RunsI.cond true 16 (by kernel_rfl) ?_
      refine RunsI.go 1 [.c 17, .c 18, .c 20] (by kernel_rfl) ?_
      refine RunsI.region (by kernel_rfl) ?_
      refine RegI.pure 1 [2] [(2, .bool true)] (by kernel_rfl) ?_
      refine RegI.done (by kernel_rfl) ?_
      refine RunsI.ret (.bool true) (by kernel_rfl) (by kernel_rfl) ?_
      obtain rfl := Option.some.inj h
      exact ⟨rfl, h3.below⟩
    · skip
      refine RunsI.fix 14 false hc7 (by kernel_rfl) (by kernel_rfl) ?_
      refine RunsI.cond false 19 (by kernel_rfl) ?_
      refine RunsI.go 1 [.c 20] (by kernel_rfl) ?_
      refine RunsI.go 1 [.c 21, .c 22] (by kernel_rfl) ?_
      refine RunsI.region (by kernel_rfl) ?_
      refine RegI.pure 1 [0, 15] [(0, .slice pA0 p0.length pc0), (15, .agg #[.bool false, .int .i64 0])] (by kernel_rfl) ?_
      refine RegI.op (by kernel_rfl) (OpE.box 4 29 [.bool false, .int .i64 0] h3 (by kernel_rfl) (by kernel_rfl) ?_)
      intro w8 b9 h10 hb11 hn12
      refine RegI.op (by kernel_rfl) (OpE.storeBox 2 29 b9 0 (.agg #[.bool false, .int .i64 0]) [.bool false, .int .i64 0] h10 (by kernel_rfl) (by kernel_rfl) rfl (by kernel_rfl) (by kernel_rfl) (by kernel_rfl) ?_)
      intro w13 h14 hk15
      refine RegI.done (by kernel_rfl) ?_
      refine RunsI.go 1 [.c 23, .c 24] (by kernel_rfl) ?_
      refine RunsI.region (by kernel_rfl) ?_
      refine RegI.pure 1 [0, 4, 5] [(0, .slice pA0 p0.length pc0), (4, .pointer (some ⟨b9, 0, none⟩)), (5, .int .i64 0)] (by kernel_rfl) ?_
      refine RegI.done (by kernel_rfl) ?_
      refine RunsI.go 2 [.c 26, .c 27, .c 78] (by kernel_rfl) ?_
      refine RunsI.region (by kernel_rfl) ?_
      refine RegI.pure 1 [0, 4, 5, 6] [(0, .slice pA0 p0.length pc0), (4, .pointer (some ⟨b9, 0, none⟩)), (5, .int .i64 0), (6, .int .i64 0)] (by kernel_rfl) ?_
      refine RegI.done (by kernel_rfl) ?_
      refine RunsI.go 2 [.c 29, .lp 29, .blk 0, .c 78] (by kernel_rfl) ?_
      obtain ⟨x214, hx215, h⟩ := of_bind h
      refine RunsI.only [0, 4, 5, 6] [(0, .slice pA0 p0.length pc0), (4, .pointer (some ⟨b9, 0, none⟩)), (5, .int .i64 0), (6, .int .i64 0)] (by kernel_rfl) (by kernel_rfl) ?_
      refine charabanclaw20_LatchOne_5.l0_ok K M0 w0 pA0 pc0 p0 b9 _ x214 ?_ ?_ K false 0 0 0 w13 hx215 (h14.pick [0, 2, 1] (by decide))
      · intro w217 hq220 h216
        (try rw [hq220] at h)
        dsimp only [Lp.elim] at h
        refine RunsI.go 1 [.c 79, .c 80] (by kernel_rfl) ?_
        refine RunsI.region (by kernel_rfl) ?_
        refine RegI.pure 1 [2] [(2, .bool true)] (by kernel_rfl) ?_
        refine RegI.done (by kernel_rfl) ?_
        refine RunsI.ret (.bool true) (by kernel_rfl) (by kernel_rfl) ?_
        obtain rfl := Option.some.inj h
        exact ⟨rfl, h216.below⟩
      · intro w219 hq221 h218
        (try rw [hq221] at h)
        dsimp only [Lp.elim] at h
        obtain rfl := Option.some.inj h
        exact ⟨rfl, h218.below⟩
end
end Go.Proofs.YtngcadmhnbpgjaaDoor.Latch
