/- The statement's function DecodeSums as a plain Lean function; written by wip/eng.py. -/
import Derived.Test.YtmcdkmakjjlcnaaDec3
set_option linter.unusedVariables false
set_option linter.unusedSimpArgs false
set_option maxHeartbeats 4000000
namespace Go.Proofs.Ytmcdkmakjjlcnaa.Dec
open Go.RowKit Go.Eng
noncomputable def B7 : Code := (Try.f7.body).getD .skip
noncomputable def F7 : Fun Try.prog := ⟨7, Try.f7, B7, 72, Try.func7, by kernel_rfl, by kernel_rfl, [], none⟩

/-! ### charabanc/charabanclaw08.DecodeSums (function 7) -/
section
def charabanclaw08_DecodeSums_7.post (M0 : Nat → Prop) (w0 : World) (r : Bool) : Ending → World → Prop := fun e w => e = .returned (.bool r) ∧ Below w0.heap.size w0 w
def charabanclaw08_DecodeSums_7.l0 (K : Nat) (p0 : List Int) (t20 : List (Int × Int × Int × Int × Int × Int)) (t21 : Int) : Nat → Int → Int → Option (Lp Unit Int)
  | 0, _, _ => none
  | k + 1, t22, t23 => cond (decide (t23 < (t20.length : Int))) (cond (cutR t22 (p0.length : Int) p0.length) ((decode_Next_15.f K (cutL p0 t22 (p0.length : Int))).bind fun yt33 => Let (fun (t64 : Bool) => cond t64 (some (Lp.ret ())) (charabanclaw08_DecodeSums_7.l0 K p0 t20 t21 k (IntKind.wrap .i64 (t22 + yt33.2.2.2.2.1)) (IntKind.wrap .i64 (t23 + 1)))) (fun j67 => cond (!yt33.2.2.2.2.2.2) (j67 true) (cond (inR t23 t20.length) (cond (!((yt33.1 == ((rdD t20 t23).1)) && ((yt33.2.1 == ((rdD t20 t23).2.1)) && ((yt33.2.2.1 == ((rdD t20 t23).2.2.1)) && ((yt33.2.2.2.1 == ((rdD t20 t23).2.2.2.1)) && ((yt33.2.2.2.2.1 == ((rdD t20 t23).2.2.2.2.1)) && ((yt33.2.2.2.2.2.1 == ((rdD t20 t23).2.2.2.2.2)) && true))))))) (j67 true) (j67 (decide (yt33.2.2.2.2.1 < 1)))) none))) none) (some (Lp.go t22))
set_option maxRecDepth 100000 in
theorem charabanclaw08_DecodeSums_7.l0_ok (K : Nat) (M0 : Nat → Prop) (w0 : World) (pA0 : Option Addr) (pc0 : Nat) (p0 : List Int) (t20 : List (Int × Int × Int × Int × Int × Int)) (t21 : Int) (A18 : Option Addr) (c19 : Nat) (R : Ending → World → Prop) (x : Lp Unit Int) (hk0 : ∀ (t71 : Int) (w1 : World), x = Lp.go t71 → Holds M0 w0 w1 [sl (Rp.int .u8) (.slice pA0 p0.length pc0) p0] → RunsI F7 [.c 49] [(0, .slice pA0 p0.length pc0), (5, .int .i64 t21), (6, .int .i64 t71)] w1 R) (hk1 : ∀ (w1 : World), x = Lp.ret () → Holds M0 w0 w1 [] → R (.returned (.bool false)) w1) :
    ∀ (k : Nat) (t22 : Int) (t23 : Int) (w : World), charabanclaw08_DecodeSums_7.l0 K p0 t20 t21 k t22 t23 = some x → Holds M0 w0 w [sl (Rp.int .u8) (.slice pA0 p0.length pc0) p0, own (Rp.pair (Rp.int .i64) (Rp.pair (Rp.int .u8) (Rp.pair (Rp.int .u8) (Rp.pair (Rp.int .u16) (Rp.pair (Rp.int .i64) (Rp.int .i64)))))) 30 (.slice A18 t20.length c19) t20] → RunsI F7 [.c 29, .lp 29, .blk 0, .c 49] [(0, .slice pA0 p0.length pc0), (4, .slice A18 t20.length c19), (5, .int .i64 t21), (6, .int .i64 t22), (7, .int .i64 t23)] w R := by
  intro k
  induction k with
  | zero => intro t22 t23 w h hH; exact absurd h (by simp [charabanclaw08_DecodeSums_7.l0])
  | succ k ih =>
    intro t22 t23 w h hH
    rw [charabanclaw08_DecodeSums_7.l0.eq_2] at h
    refine RunsI.go 1 [.c 30, .c 35, .lp 29, .blk 0, .c 49] (by kernel_rfl) ?_
    refine RunsI.go 1 [.c 31, .c 32, .c 35, .lp 29, .blk 0, .c 49] (by kernel_rfl) ?_
    refine RunsI.region (by kernel_rfl) ?_
    refine RegI.pure 4 [0, 4, 5, 6, 7, 26] [(0, .slice pA0 p0.length pc0), (4, .slice A18 t20.length c19), (5, .int .i64 t21), (6, .int .i64 t22), (7, .int .i64 t23), (26, .bool (decide (t23 < (t20.length : Int))))] (by kernel_rfl) ?_
    refine RegI.done (by kernel_rfl) ?_
    rcases of_cond h with ⟨hc24, h⟩ | ⟨hc24, h⟩
    · skip
      refine RunsI.fix 26 true hc24 (by kernel_rfl) (by kernel_rfl) ?_
      refine RunsI.cond true 33 (by kernel_rfl) ?_
      refine RunsI.go 1 [.c 35, .lp 29, .blk 0, .c 49] (by kernel_rfl) ?_
      refine RunsI.go 3 [.c 38, .c 39, .blk 1, .c 48, .lp 29, .blk 0, .c 49] (by kernel_rfl) ?_
      refine RunsI.region (by kernel_rfl) ?_
      refine RegI.pure 2 [0, 4, 5, 6, 7, 30, 31] [(0, .slice pA0 p0.length pc0), (4, .slice A18 t20.length c19), (5, .int .i64 t21), (6, .int .i64 t22), (7, .int .i64 t23), (30, .slice pA0 p0.length pc0), (31, .int .i64 t22)] (by kernel_rfl) ?_
      obtain ⟨hc25, h⟩ := of_cond0 h
      refine RegI.op (by kernel_rfl) (OpE.cutSl 32 0 27 (some t22) none hH (by kernel_rfl) rfl (by kernel_rfl) (by kernel_rfl) hc25 ?_)
      intro A26 c27 h28
      obtain ⟨⟨t33, t34, t35, t36, t37, t38, t39⟩, hg32, h⟩ := of_bind h
      dsimp only at h
      refine RegI.op (by kernel_rfl) (OpE.call 33 (by kernel_rfl) 15 #[.slice A26 ((cutL p0 t22 (p0.length : Int)).length) c27] (by kernel_rfl) ((decode_Next_15_ok K _ w  A26 c27 (cutL p0 t22 (p0.length : Int)) h28.old' (h28.get 2 rfl) hg32).mono ?_))
      rintro _ w29 ⟨rfl, hb30⟩
      refine ⟨_, rfl, ?_⟩
      have h31 := h28.call hb30
      refine RegI.pure 3 [0, 4, 5, 6, 7, 34, 35] [(0, .slice pA0 p0.length pc0), (4, .slice A18 t20.length c19), (5, .int .i64 t21), (6, .int .i64 t22), (7, .int .i64 t23), (34, .agg #[.int .i64 t33, .int .u8 t34, .int .u8 t35, .int .u16 t36, .int .i64 t37, .int .i64 t38]), (35, .bool t39)] (by kernel_rfl) ?_
      refine RegI.op (by kernel_rfl) (OpE.box 8 30 [.int .i64 0, .int .u8 0, .int .u8 0, .int .u16 0, .int .i64 0, .int .i64 0] h31 (by kernel_rfl) (by kernel_rfl) ?_)
      intro w40 b41 h42 hb43 hn44
      refine RegI.op (by kernel_rfl) (OpE.storeBox 3 30 b41 0 (.agg #[.int .i64 t33, .int .u8 t34, .int .u8 t35, .int .u16 t36, .int .i64 t37, .int .i64 t38]) [.int .i64 t33, .int .u8 t34, .int .u8 t35, .int .u16 t36, .int .i64 t37, .int .i64 t38] h42 (by kernel_rfl) (by kernel_rfl) rfl (by kernel_rfl) (by kernel_rfl) (by kernel_rfl) ?_)
      intro w45 h46 hk47
      refine RegI.pure 1 [0, 4, 5, 6, 7, 8, 9] [(0, .slice pA0 p0.length pc0), (4, .slice A18 t20.length c19), (5, .int .i64 t21), (6, .int .i64 t22), (7, .int .i64 t23), (8, .pointer (some ⟨b41, 0, none⟩)), (9, .bool t39)] (by kernel_rfl) ?_
      refine RegI.done (by kernel_rfl) ?_
      refine RunsI.go 2 [.c 41, .c 42, .c 47, .blk 1, .c 48, .lp 29, .blk 0, .c 49] (by kernel_rfl) ?_
      refine RunsI.any 15 (by kernel_rfl) (by kernel_rfl) (by kernel_rfl) (Kp ([] : List Nat) (World.drew w45)) ?_
      have h49 := h46.drew
      generalize World.drew w45 = w48 at h49 ⊢
      have hS50 := Kp.refl ([] : List Nat) w48
      refine AnyE.pure 0 36 (.bool t39) (by kernel_rfl) hS50 (fun _ => by kernel_rfl) ?_
      refine AnyE.pure 1 37 (.bool (!t39)) (by kernel_rfl) hS50 (fun _ => by kernel_rfl) ?_
      refine AnyE.pure 2 38 (.bool (!t39)) (by kernel_rfl) hS50 (fun _ => by kernel_rfl) ?_
      obtain ⟨j67, hJ68, h⟩ := of_let h
      have hj69 : ∀ (t64 : Bool) (w66 : World), j67 t64 = some x → Holds M0 w0 w66 [sl (Rp.int .u8) (.slice pA0 p0.length pc0) p0, own (Rp.pair (Rp.int .i64) (Rp.pair (Rp.int .u8) (Rp.pair (Rp.int .u8) (Rp.pair (Rp.int .u16) (Rp.pair (Rp.int .i64) (Rp.int .i64)))))) 30 (.slice A18 t20.length c19) t20, box b41 30 [.int .i64 t33, .int .u8 t34, .int .u8 t35, .int .u16 t36, .int .i64 t37, .int .i64 t38]] → RunsI F7 [.c 42, .c 47, .blk 1, .c 48, .lp 29, .blk 0, .c 49] [(0, .slice pA0 p0.length pc0), (4, .slice A18 t20.length c19), (5, .int .i64 t21), (6, .int .i64 t22), (7, .int .i64 t23), (8, .pointer (some ⟨b41, 0, none⟩)), (50, .bool t64)] w66 R := by
        intro t64 w66 h h65
        rw [hJ68] at h
        clear hJ68
        dsimp only at h
        rcases of_cond h with ⟨hc70, h⟩ | ⟨hc70, h⟩
        · skip
          refine RunsI.fix 50 true hc70 (by kernel_rfl) (by kernel_rfl) ?_
          refine RunsI.cond true 43 (by kernel_rfl) ?_
          refine RunsI.go 1 [.c 44, .c 45, .c 47, .blk 1, .c 48, .lp 29, .blk 0, .c 49] (by kernel_rfl) ?_
          refine RunsI.region (by kernel_rfl) ?_
          refine RegI.pure 1 [2] [(2, .bool false)] (by kernel_rfl) ?_
          refine RegI.done (by kernel_rfl) ?_
          refine RunsI.ret (.bool false) (by kernel_rfl) (by kernel_rfl) ?_
          exact hk1 w66 (Option.some.inj h).symm (h65.pick [] (by decide))
        · skip
          refine RunsI.fix 50 false hc70 (by kernel_rfl) (by kernel_rfl) ?_
          refine RunsI.cond false 46 (by kernel_rfl) ?_
          refine RunsI.go 1 [.c 47, .blk 1, .c 48, .lp 29, .blk 0, .c 49] (by kernel_rfl) ?_
          refine RunsI.region (by kernel_rfl) ?_
          refine RegI.pure 2 [0, 4, 5, 7, 51, 52] [(0, .slice pA0 p0.length pc0), (4, .slice A18 t20.length c19), (5, .int .i64 t21), (7, .int .i64 t23), (51, .int .i64 t22), (52, .pointer (some ⟨b41, 4, none⟩))] (by kernel_rfl) ?_
          refine RegI.op (by kernel_rfl) (OpE.loadBox 53 2 3 b41 4 (.int .i64 t37) h65 (by kernel_rfl) (by kernel_rfl) rfl (by kernel_rfl) ?_)
          refine RegI.pure 2 [0, 4, 5, 6, 7] [(0, .slice pA0 p0.length pc0), (4, .slice A18 t20.length c19), (5, .int .i64 t21), (6, .int .i64 (IntKind.wrap .i64 (t22 + t37))), (7, .int .i64 t23)] (by kernel_rfl) ?_
          refine RegI.done (by kernel_rfl) ?_
          refine RunsI.go 1 [.c 48, .lp 29, .blk 0, .c 49] (by kernel_rfl) ?_
          refine RunsI.region (by kernel_rfl) ?_
          refine RegI.pure 3 [0, 4, 5, 6, 7] [(0, .slice pA0 p0.length pc0), (4, .slice A18 t20.length c19), (5, .int .i64 t21), (6, .int .i64 (IntKind.wrap .i64 (t22 + t37))), (7, .int .i64 (IntKind.wrap .i64 (t23 + 1)))] (by kernel_rfl) ?_
          refine RegI.done (by kernel_rfl) ?_
          refine RunsI.go 1 [.c 29, .lp 29, .blk 0, .c 49] (by kernel_rfl) ?_
          refine RunsI.only [0, 4, 5, 6, 7] [(0, .slice pA0 p0.length pc0), (4, .slice A18 t20.length c19), (5, .int .i64 t21), (6, .int .i64 (IntKind.wrap .i64 (t22 + t37))), (7, .int .i64 (IntKind.wrap .i64 (t23 + 1)))] (by kernel_rfl) (by kernel_rfl) ?_
          exact ih (IntKind.wrap .i64 (t22 + t37)) (IntKind.wrap .i64 (t23 + 1)) w66 h (h65.pick [0, 1] (by decide))
      clear hJ68
      rcases of_cond h with ⟨hc52, h⟩ | ⟨hc52, h⟩
      · skip
        refine AnyE.fix 38 true hc52 (by kernel_rfl) (by kernel_rfl) ?_
        refine AnyE.no 3 39 (by kernel_rfl) hS50 ?_
        refine AnyE.no 4 40 (by kernel_rfl) hS50 ?_
        refine AnyE.no 5 41 (by kernel_rfl) hS50 ?_
        refine AnyE.no 6 42 (by kernel_rfl) hS50 ?_
        refine AnyE.no 7 43 (by kernel_rfl) hS50 ?_
        refine AnyE.no 8 44 (by kernel_rfl) hS50 ?_
        refine AnyE.pure 9 45 (.bool true) (by kernel_rfl) hS50 (fun _ => by kernel_rfl) ?_
        refine AnyE.pure 10 46 (.bool true) (by kernel_rfl) hS50 (fun _ => by kernel_rfl) ?_
        refine AnyE.no 11 47 (by kernel_rfl) hS50 ?_
        refine AnyE.no 12 48 (by kernel_rfl) hS50 ?_
        refine AnyE.no 13 49 (by kernel_rfl) hS50 ?_
        refine AnyE.pure 14 50 (.bool true) (by kernel_rfl) hS50 (fun _ => by kernel_rfl) ?_
        refine AnyE.done (by kernel_rfl) (fun w53 hu54 => ?_)
        have h55 := h49.call hu54
        refine RunsI.only [0, 4, 5, 6, 7, 8, 39, 40, 41, 42, 43, 44, 47, 48, 49, 50] [(0, .slice pA0 p0.length pc0), (4, .slice A18 t20.length c19), (5, .int .i64 t21), (6, .int .i64 t22), (7, .int .i64 t23), (8, .pointer (some ⟨b41, 0, none⟩)), (39, undef), (40, undef), (41, undef), (42, undef), (43, undef), (44, undef), (47, undef), (48, undef), (49, undef), (50, .bool true)] (by kernel_rfl) (by kernel_rfl) ?_
        refine RunsI.only [0, 4, 5, 6, 7, 8, 50] [(0, .slice pA0 p0.length pc0), (4, .slice A18 t20.length c19), (5, .int .i64 t21), (6, .int .i64 t22), (7, .int .i64 t23), (8, .pointer (some ⟨b41, 0, none⟩)), (50, .bool true)] (by kernel_rfl) (by kernel_rfl) ?_
        exact hj69 true w53 h (h55.pick [0, 1, 3] (by decide))
      · skip
        refine AnyE.fix 38 false hc52 (by kernel_rfl) (by kernel_rfl) ?_
        refine AnyE.loadBox 3 39 3 30 b41 0 (.agg #[.int .i64 t33, .int .u8 t34, .int .u8 t35, .int .u16 t36, .int .i64 t37, .int .i64 t38]) [] h49 rfl (by kernel_rfl) hS50 rfl rfl (by kernel_rfl) (by kernel_rfl) ?_
        refine AnyE.pure 4 40 (.slice A18 t20.length c19) (by kernel_rfl) hS50 (fun _ => by kernel_rfl) ?_
        refine AnyE.pure 5 41 (.int .i64 t23) (by kernel_rfl) hS50 (fun _ => by kernel_rfl) ?_
        obtain ⟨hc56, h⟩ := of_cond0 h
        refine AnyE.idxOwnA 6 42 1 33 30 t23 h49 (by kernel_rfl) hS50 rfl (by kernel_rfl) (by kernel_rfl) hc56 ?_
        refine AnyE.loadOwnA 7 43 1 30 30 t23 0 (.agg #[.int .i64 ((rdD t20 t23).1), .int .u8 ((rdD t20 t23).2.1), .int .u8 ((rdD t20 t23).2.2.1), .int .u16 ((rdD t20 t23).2.2.2.1), .int .i64 ((rdD t20 t23).2.2.2.2.1), .int .i64 ((rdD t20 t23).2.2.2.2.2)]) [] (o := (Int.toNat t23) * 6 + 0) h49 rfl (by kernel_rfl) hS50 rfl rfl (by kernel_rfl) rfl hc56 (fun _ _ hk => by obtain ⟨_, _, rfl, rfl, ⟨_, _, rfl, rfl, ⟨_, _, rfl, rfl, ⟨_, _, rfl, rfl, ⟨_, _, rfl, rfl, rfl⟩⟩⟩⟩⟩ := hk; kernel_rfl) ?_
        refine AnyE.run 8 44 (.bool (!((t33 == ((rdD t20 t23).1)) && ((t34 == ((rdD t20 t23).2.1)) && ((t35 == ((rdD t20 t23).2.2.1)) && ((t36 == ((rdD t20 t23).2.2.2.1)) && ((t37 == ((rdD t20 t23).2.2.2.2.1)) && ((t38 == ((rdD t20 t23).2.2.2.2.2)) && true)))))))) (by kernel_rfl) hS50 (fun _ hk => run_eqS (neg := true) (t := 30) (x := .agg #[.int .i64 t33, .int .u8 t34, .int .u8 t35, .int .u16 t36, .int .i64 t37, .int .i64 t38]) (y := .agg #[.int .i64 ((rdD t20 t23).1), .int .u8 ((rdD t20 t23).2.1), .int .u8 ((rdD t20 t23).2.2.1), .int .u16 ((rdD t20 t23).2.2.2.1), .int .i64 ((rdD t20 t23).2.2.2.2.1), .int .i64 ((rdD t20 t23).2.2.2.2.2)]) (b := ((t33 == ((rdD t20 t23).1)) && ((t34 == ((rdD t20 t23).2.1)) && ((t35 == ((rdD t20 t23).2.2.1)) && ((t36 == ((rdD t20 t23).2.2.2.1)) && ((t37 == ((rdD t20 t23).2.2.2.2.1)) && ((t38 == ((rdD t20 t23).2.2.2.2.2)) && true))))))) (by kernel_rfl) (by kernel_rfl) (by kernel_rfl) (by kernel_rfl)) ?_
        refine AnyE.pure 9 45 (.bool (!((t33 == ((rdD t20 t23).1)) && ((t34 == ((rdD t20 t23).2.1)) && ((t35 == ((rdD t20 t23).2.2.1)) && ((t36 == ((rdD t20 t23).2.2.2.1)) && ((t37 == ((rdD t20 t23).2.2.2.2.1)) && ((t38 == ((rdD t20 t23).2.2.2.2.2)) && true)))))))) (by kernel_rfl) hS50 (fun _ => by kernel_rfl) ?_
        refine AnyE.pure 10 46 (.bool (!((t33 == ((rdD t20 t23).1)) && ((t34 == ((rdD t20 t23).2.1)) && ((t35 == ((rdD t20 t23).2.2.1)) && ((t36 == ((rdD t20 t23).2.2.2.1)) && ((t37 == ((rdD t20 t23).2.2.2.2.1)) && ((t38 == ((rdD t20 t23).2.2.2.2.2)) && true)))))))) (by kernel_rfl) hS50 (fun _ => by kernel_rfl) ?_
        rcases of_cond h with ⟨hc57, h⟩ | ⟨hc57, h⟩
        · skip
          refine AnyE.fix 46 true hc57 (by kernel_rfl) (by kernel_rfl) ?_
          refine AnyE.no 11 47 (by kernel_rfl) hS50 ?_
          refine AnyE.no 12 48 (by kernel_rfl) hS50 ?_
          refine AnyE.no 13 49 (by kernel_rfl) hS50 ?_
          refine AnyE.pure 14 50 (.bool true) (by kernel_rfl) hS50 (fun _ => by kernel_rfl) ?_
          refine AnyE.done (by kernel_rfl) (fun w58 hu59 => ?_)
          have h60 := h49.call hu59
          refine RunsI.only [0, 4, 5, 6, 7, 8, 39, 40, 41, 42, 43, 44, 47, 48, 49, 50] [(0, .slice pA0 p0.length pc0), (4, .slice A18 t20.length c19), (5, .int .i64 t21), (6, .int .i64 t22), (7, .int .i64 t23), (8, .pointer (some ⟨b41, 0, none⟩)), (39, .agg #[.int .i64 t33, .int .u8 t34, .int .u8 t35, .int .u16 t36, .int .i64 t37, .int .i64 t38]), (40, .slice A18 t20.length c19), (41, .int .i64 t23), (42, .pointer (some ⟨(blkD A18), (Int.toNat t23) * 6, none⟩)), (43, .agg #[.int .i64 ((rdD t20 t23).1), .int .u8 ((rdD t20 t23).2.1), .int .u8 ((rdD t20 t23).2.2.1), .int .u16 ((rdD t20 t23).2.2.2.1), .int .i64 ((rdD t20 t23).2.2.2.2.1), .int .i64 ((rdD t20 t23).2.2.2.2.2)]), (44, .bool (!((t33 == ((rdD t20 t23).1)) && ((t34 == ((rdD t20 t23).2.1)) && ((t35 == ((rdD t20 t23).2.2.1)) && ((t36 == ((rdD t20 t23).2.2.2.1)) && ((t37 == ((rdD t20 t23).2.2.2.2.1)) && ((t38 == ((rdD t20 t23).2.2.2.2.2)) && true)))))))), (47, undef), (48, undef), (49, undef), (50, .bool true)] (by kernel_rfl) (by kernel_rfl) ?_
          refine RunsI.only [0, 4, 5, 6, 7, 8, 50] [(0, .slice pA0 p0.length pc0), (4, .slice A18 t20.length c19), (5, .int .i64 t21), (6, .int .i64 t22), (7, .int .i64 t23), (8, .pointer (some ⟨b41, 0, none⟩)), (50, .bool true)] (by kernel_rfl) (by kernel_rfl) ?_
          exact hj69 true w58 h (h60.pick [0, 1, 3] (by decide))
        · skip
          refine AnyE.fix 46 false hc57 (by kernel_rfl) (by kernel_rfl) ?_
          refine AnyE.pure 11 47 (.pointer (some ⟨b41, 4, none⟩)) (by kernel_rfl) hS50 (fun _ => by kernel_rfl) ?_
          refine AnyE.loadBox 12 48 3 3 b41 4 (.int .i64 t37) [] h49 rfl (by kernel_rfl) hS50 rfl rfl (by kernel_rfl) (by kernel_rfl) ?_
          refine AnyE.pure 13 49 (.bool (decide (t37 < 1))) (by kernel_rfl) hS50 (fun _ => by kernel_rfl) ?_
          refine AnyE.pure 14 50 (.bool (decide (t37 < 1))) (by kernel_rfl) hS50 (fun _ => by kernel_rfl) ?_
          refine AnyE.done (by kernel_rfl) (fun w61 hu62 => ?_)
          have h63 := h49.call hu62
          refine RunsI.only [0, 4, 5, 6, 7, 8, 39, 40, 41, 42, 43, 44, 47, 48, 49, 50] [(0, .slice pA0 p0.length pc0), (4, .slice A18 t20.length c19), (5, .int .i64 t21), (6, .int .i64 t22), (7, .int .i64 t23), (8, .pointer (some ⟨b41, 0, none⟩)), (39, .agg #[.int .i64 t33, .int .u8 t34, .int .u8 t35, .int .u16 t36, .int .i64 t37, .int .i64 t38]), (40, .slice A18 t20.length c19), (41, .int .i64 t23), (42, .pointer (some ⟨(blkD A18), (Int.toNat t23) * 6, none⟩)), (43, .agg #[.int .i64 ((rdD t20 t23).1), .int .u8 ((rdD t20 t23).2.1), .int .u8 ((rdD t20 t23).2.2.1), .int .u16 ((rdD t20 t23).2.2.2.1), .int .i64 ((rdD t20 t23).2.2.2.2.1), .int .i64 ((rdD t20 t23).2.2.2.2.2)]), (44, .bool (!((t33 == ((rdD t20 t23).1)) && ((t34 == ((rdD t20 t23).2.1)) && ((t35 == ((rdD t20 t23).2.2.1)) && ((t36 == ((rdD t20 t23).2.2.2.1)) && ((t37 == ((rdD t20 t23).2.2.2.2.1)) && ((t38 == ((rdD t20 t23).2.2.2.2.2)) && true)))))))), (47, .pointer (some ⟨b41, 4, none⟩)), (48, .int .i64 t37), (49, .bool (decide (t37 < 1))), (50, .bool (decide (t37 < 1)))] (by kernel_rfl) (by kernel_rfl) ?_
          refine RunsI.only [0, 4, 5, 6, 7, 8, 50] [(0, .slice pA0 p0.length pc0), (4, .slice A18 t20.length c19), (5, .int .i64 t21), (6, .int .i64 t22), (7, .int .i64 t23), (8, .pointer (some ⟨b41, 0, none⟩)), (50, .bool (decide (t37 < 1)))] (by kernel_rfl) (by kernel_rfl) ?_
          exact hj69 (decide (t37 < 1)) w61 h (h63.pick [0, 1, 3] (by decide))
    · skip
      refine RunsI.fix 26 false hc24 (by kernel_rfl) (by kernel_rfl) ?_
      refine RunsI.cond false 34 (by kernel_rfl) ?_
      refine RunsI.go 1 [.c 49] (by kernel_rfl) ?_
      refine RunsI.only [0, 5, 6] [(0, .slice pA0 p0.length pc0), (5, .int .i64 t21), (6, .int .i64 t22)] (by kernel_rfl) (by kernel_rfl) ?_
      exact hk0 t22 w (Option.some.inj h).symm (hH.pick [0] (by decide))
def charabanclaw08_DecodeSums_7.f (K : Nat) (p0 : List Int) : Option Bool := (charabanclaw08_awake_8.f K).bind fun t5 => cond (!t5) (some false) (cond (decide ((p0.length : Int) > 300)) (some true) ((decode_All_17.f K p0).bind fun yt12 => (charabanclaw08_DecodeSums_7.l0 K p0 yt12.1 yt12.2 K 0 0).bind (fun x72 => Lp.elim x72 (fun _ => some false) (fun t74 => cond (cutR t74 (p0.length : Int) p0.length) ((decode_Next_15.f K (cutL p0 t74 (p0.length : Int))).bind fun yt87 => cond ((IntKind.wrap .i64 (t74 + yt12.2)) == (p0.length : Int)) (some (!yt87.2.2.2.2.2.2)) (some false)) none))))
set_option maxRecDepth 100000 in
theorem charabanclaw08_DecodeSums_7_ok (K : Nat) (M0 : Nat → Prop) (w0 : World) (pA0 : Option Addr) (pc0 : Nat) (p0 : List Int) (ho : ∀ b, M0 b → b < w0.heap.size) (hs0 : Sl (Rp.int .u8) w0 M0 (.slice pA0 p0.length pc0) p0) {r : Bool} (h : charabanclaw08_DecodeSums_7.f K p0 = some r) :
    Calls Try.prog 7 #[.slice pA0 p0.length pc0] w0 (charabanclaw08_DecodeSums_7.post M0 w0 r) := by
  unfold charabanclaw08_DecodeSums_7.f at h
  have h0 : Holds M0 w0 w0 [] := Holds.start ho
  have h00 := h0.addSl (Rp.int .u8) (.slice pA0 p0.length pc0) p0 (hs0.mono (fun _ _ hm => hm.elim id (fun hm => absurd hm (by simp [mines, sl]))))
  have h0 : Holds M0 w0 w0 [sl (Rp.int .u8) (.slice pA0 p0.length pc0) p0] := h00
  refine calls_of F7 rfl [.slice pA0 p0.length pc0] (by kernel_rfl) ?_
  refine RunsI.go 1 [.c 1, .c 2] (by kernel_rfl) ?_
  refine RunsI.region (by kernel_rfl) ?_
  refine RegI.pure 1 [0] [(0, .slice pA0 p0.length pc0)] (by kernel_rfl) ?_
  refine RegI.done (by kernel_rfl) ?_
  refine RunsI.go 1 [.c 3, .c 4] (by kernel_rfl) ?_
  refine RunsI.region (by kernel_rfl) ?_
  obtain ⟨t5, hg4, h⟩ := of_bind h
  refine RegI.op (by kernel_rfl) (OpE.call 12 (by kernel_rfl) 8 #[] (by kernel_rfl) ((charabanclaw08_awake_8_ok K _ w0  h0.old' hg4).mono ?_))
  rintro _ w1 ⟨rfl, hb2⟩
  refine ⟨_, rfl, ?_⟩
  have h3 := h0.call hb2
  refine RegI.pure 1 [0, 3] [(0, .slice pA0 p0.length pc0), (3, .bool t5)] (by kernel_rfl) ?_
  refine RegI.done (by kernel_rfl) ?_
  refine RunsI.go 2 [.c 6, .c 7, .c 12] (by kernel_rfl) ?_
  refine RunsI.region (by kernel_rfl) ?_
  refine RegI.pure 2 [0, 14] [(0, .slice pA0 p0.length pc0), (14, .bool (!t5))] (by kernel_rfl) ?_
  refine RegI.done (by kernel_rfl) ?_
  rcases of_cond h with ⟨hc6, h⟩ | ⟨hc6, h⟩
  · skip
    refine RunsI.fix 14 true hc6 (by kernel_rfl) (by kernel_rfl) ?_
    refine RunsI.cond true 8 (by kernel_rfl) ?_
    refine RunsI.go 1 [.c 9, .c 10, .c 12] (by kernel_rfl) ?_
    refine RunsI.region (by kernel_rfl) ?_
    refine RegI.pure 1 [2] [(2, .bool false)] (by kernel_rfl) ?_
    refine RegI.done (by kernel_rfl) ?_
    refine RunsI.ret (.bool false) (by kernel_rfl) (by kernel_rfl) ?_
    obtain rfl := Option.some.inj h
    exact ⟨rfl, h3.below⟩
  · skip
    refine RunsI.fix 14 false hc6 (by kernel_rfl) (by kernel_rfl) ?_
    refine RunsI.cond false 11 (by kernel_rfl) ?_
    refine RunsI.go 1 [.c 12] (by kernel_rfl) ?_
    refine RunsI.go 2 [.c 14, .c 15, .c 20] (by kernel_rfl) ?_
    refine RunsI.region (by kernel_rfl) ?_
    refine RegI.pure 3 [0, 17] [(0, .slice pA0 p0.length pc0), (17, .bool (decide ((p0.length : Int) > 300)))] (by kernel_rfl) ?_
    refine RegI.done (by kernel_rfl) ?_
    rcases of_cond h with ⟨hc7, h⟩ | ⟨hc7, h⟩
    · skip
      refine RunsI.fix 17 true hc7 (by kernel_rfl) (by kernel_rfl) ?_
      refine RunsI.cond true 16 (by kernel_rfl) ?_
      refine RunsI.go 1 [.c 17, .c 18, .c 20] (by kernel_rfl) ?_
      refine RunsI.region (by kernel_rfl) ?_
      refine RegI.pure 1 [2] [(2, .bool true)] (by kernel_rfl) ?_
      refine RegI.done (by kernel_rfl) ?_
      refine RunsI.ret (.bool true) (by kernel_rfl) (by kernel_rfl) ?_
      obtain rfl := Option.some.inj h
      exact ⟨rfl, h3.below⟩
    · skip
      refine RunsI.fix 17 false hc7 (by kernel_rfl) (by kernel_rfl) ?_
      refine RunsI.cond false 19 (by kernel_rfl) ?_
      refine RunsI.go 1 [.c 20] (by kernel_rfl) ?_
      refine RunsI.go 1 [.c 21, .c 22] (by kernel_rfl) ?_
      refine RunsI.region (by kernel_rfl) ?_
      refine RegI.pure 1 [0, 19] [(0, .slice pA0 p0.length pc0), (19, .slice pA0 p0.length pc0)] (by kernel_rfl) ?_
      obtain ⟨⟨t12, t16⟩, hg11, h⟩ := of_bind h
      dsimp only at h
      refine RegI.op (by kernel_rfl) (OpE.call 20 (by kernel_rfl) 17 #[.slice pA0 p0.length pc0] (by kernel_rfl) ((decode_All_17_ok K _ w1  pA0 pc0 p0 h3.old' (h3.get 0 rfl) hg11).mono ?_))
      rintro _ w8 ⟨A13, c14, rfl, hr17⟩
      refine ⟨_, rfl, ?_⟩
      have hb9 := hr17.below
      have h10 := h3.join hr17
      refine RegI.pure 5 [0, 4, 5] [(0, .slice pA0 p0.length pc0), (4, .slice A13 t12.length c14), (5, .int .i64 t16)] (by kernel_rfl) ?_
      refine RegI.done (by kernel_rfl) ?_
      refine RunsI.go 1 [.c 23, .c 24] (by kernel_rfl) ?_
      refine RunsI.region (by kernel_rfl) ?_
      refine RegI.pure 1 [0, 4, 5, 6] [(0, .slice pA0 p0.length pc0), (4, .slice A13 t12.length c14), (5, .int .i64 t16), (6, .int .i64 0)] (by kernel_rfl) ?_
      refine RegI.done (by kernel_rfl) ?_
      refine RunsI.go 2 [.c 26, .c 27, .c 49] (by kernel_rfl) ?_
      refine RunsI.region (by kernel_rfl) ?_
      refine RegI.pure 1 [0, 4, 5, 6, 7] [(0, .slice pA0 p0.length pc0), (4, .slice A13 t12.length c14), (5, .int .i64 t16), (6, .int .i64 0), (7, .int .i64 0)] (by kernel_rfl) ?_
      refine RegI.done (by kernel_rfl) ?_
      refine RunsI.go 2 [.c 29, .lp 29, .blk 0, .c 49] (by kernel_rfl) ?_
      obtain ⟨x72, hx73, h⟩ := of_bind h
      refine RunsI.only [0, 4, 5, 6, 7] [(0, .slice pA0 p0.length pc0), (4, .slice A13 t12.length c14), (5, .int .i64 t16), (6, .int .i64 0), (7, .int .i64 0)] (by kernel_rfl) (by kernel_rfl) ?_
      refine charabanclaw08_DecodeSums_7.l0_ok K M0 w0 pA0 pc0 p0 t12 t16 A13 c14 _ x72 ?_ ?_ K 0 0 w8 hx73 (h10.pick [0, 1] (by decide))
      · intro t74 w76 hq103 h75
        (try rw [hq103] at h)
        dsimp only [Lp.elim] at h
        refine RunsI.go 1 [.c 50, .c 51] (by kernel_rfl) ?_
        refine RunsI.region (by kernel_rfl) ?_
        refine RegI.pure 2 [0, 5, 6, 56, 57] [(0, .slice pA0 p0.length pc0), (5, .int .i64 t16), (6, .int .i64 t74), (56, .slice pA0 p0.length pc0), (57, .int .i64 t74)] (by kernel_rfl) ?_
        obtain ⟨hc79, h⟩ := of_cond0 h
        refine RegI.op (by kernel_rfl) (OpE.cutSl 58 0 27 (some t74) none h75 (by kernel_rfl) rfl (by kernel_rfl) (by kernel_rfl) hc79 ?_)
        intro A80 c81 h82
        obtain ⟨⟨t87, t88, t89, t90, t91, t92, t93⟩, hg86, h⟩ := of_bind h
        dsimp only at h
        refine RegI.op (by kernel_rfl) (OpE.call 59 (by kernel_rfl) 15 #[.slice A80 ((cutL p0 t74 (p0.length : Int)).length) c81] (by kernel_rfl) ((decode_Next_15_ok K _ w76  A80 c81 (cutL p0 t74 (p0.length : Int)) h82.old' (h82.get 1 rfl) hg86).mono ?_))
        rintro _ w83 ⟨rfl, hb84⟩
        refine ⟨_, rfl, ?_⟩
        have h85 := h82.call hb84
        refine RegI.pure 3 [0, 5, 6, 60, 61] [(0, .slice pA0 p0.length pc0), (5, .int .i64 t16), (6, .int .i64 t74), (60, .agg #[.int .i64 t87, .int .u8 t88, .int .u8 t89, .int .u16 t90, .int .i64 t91, .int .i64 t92]), (61, .bool t93)] (by kernel_rfl) ?_
        refine RegI.op (by kernel_rfl) (OpE.box 10 30 [.int .i64 0, .int .u8 0, .int .u8 0, .int .u16 0, .int .i64 0, .int .i64 0] h85 (by kernel_rfl) (by kernel_rfl) ?_)
        intro w94 b95 h96 hb97 hn98
        refine RegI.op (by kernel_rfl) (OpE.storeBox 2 30 b95 0 (.agg #[.int .i64 t87, .int .u8 t88, .int .u8 t89, .int .u16 t90, .int .i64 t91, .int .i64 t92]) [.int .i64 t87, .int .u8 t88, .int .u8 t89, .int .u16 t90, .int .i64 t91, .int .i64 t92] h96 (by kernel_rfl) (by kernel_rfl) rfl (by kernel_rfl) (by kernel_rfl) (by kernel_rfl) ?_)
        intro w99 h100 hk101
        refine RegI.pure 1 [0, 5, 6, 11] [(0, .slice pA0 p0.length pc0), (5, .int .i64 t16), (6, .int .i64 t74), (11, .bool t93)] (by kernel_rfl) ?_
        refine RegI.done (by kernel_rfl) ?_
        refine RunsI.go 1 [.c 52, .c 53] (by kernel_rfl) ?_
        refine RunsI.region (by kernel_rfl) ?_
        refine RegI.pure 7 [11, 68] [(11, .bool t93), (68, .bool ((IntKind.wrap .i64 (t74 + t16)) == (p0.length : Int)))] (by kernel_rfl) ?_
        rcases of_cond h with ⟨hc102, h⟩ | ⟨hc102, h⟩
        · skip
          refine RegI.fix 68 true hc102 (by kernel_rfl) (by kernel_rfl) ?_
          refine RegI.pure 4 [2] [(2, .bool (!t93))] (by kernel_rfl) ?_
          refine RegI.done (by kernel_rfl) ?_
          refine RunsI.ret (.bool (!t93)) (by kernel_rfl) (by kernel_rfl) ?_
          obtain rfl := Option.some.inj h
          exact ⟨rfl, h100.below⟩
        · skip
          refine RegI.fix 68 false hc102 (by kernel_rfl) (by kernel_rfl) ?_
          refine RegI.pure 4 [2] [(2, .bool false)] (by kernel_rfl) ?_
          refine RegI.done (by kernel_rfl) ?_
          refine RunsI.ret (.bool false) (by kernel_rfl) (by kernel_rfl) ?_
          obtain rfl := Option.some.inj h
          exact ⟨rfl, h100.below⟩
      · intro w78 hq104 h77
        (try rw [hq104] at h)
        dsimp only [Lp.elim] at h
        obtain rfl := Option.some.inj h
        exact ⟨rfl, h77.below⟩
end
end Go.Proofs.Ytmcdkmakjjlcnaa.Dec
