/- Functions of the program as plain Lean functions, each with the proof that the call comes to it; written by wip/eng.py. -/
import Derived.Test.YtmebkghfjamffaaDoorHis3
set_option linter.unusedVariables false
set_option linter.unusedSimpArgs false
set_option maxHeartbeats 4000000
namespace Go.Proofs.YtmebkghfjamffaaDoor.His
open Go.RowKit Go.Eng
/-! ### charabanc/charabancref29.Tenures (function 18) -/
section
def charabancref29_Tenures_18.post (M0 : Nat → Prop) (w0 : World) (r : (List (Int × Int × Int × Int))) : Ending → World → Prop := fun e w => ∃ (A1 : Option Addr) (c1 : Nat), e = .returned (.slice A1 r.length c1) ∧ Holds M0 w0 w [own (Rp.pair (Rp.int .i64) (Rp.pair (Rp.int .i64) (Rp.pair (Rp.int .i64) (Rp.int .i64)))) 50 (.slice A1 r.length c1) r]
def charabancref29_Tenures_18.l0 (K : Nat) (p0 : List (Int × Int × Int × Int × Int × Int)) : Nat → (List (Int × Int × Int × Int)) → Int → Option (List (Int × Int × Int × Int))
  | 0, _, _ => none
  | k + 1, t4, t5 => cond (decide (t5 < (p0.length : Int))) (Let (fun (t25 : Bool) => cond t25 (cond (inR t5 p0.length) (cond (inR (IntKind.wrap .i64 ((t4.length : Int) - 1)) t4.length) (cond (inR (IntKind.wrap .i64 ((t4.length : Int) - 1)) (stD t4 (IntKind.wrap .i64 ((t4.length : Int) - 1)) ((rdD t4 (IntKind.wrap .i64 ((t4.length : Int) - 1))).1, (rdD t4 (IntKind.wrap .i64 ((t4.length : Int) - 1))).2.1, (rdD p0 t5).1, (rdD t4 (IntKind.wrap .i64 ((t4.length : Int) - 1))).2.2.2)).length) (charabancref29_Tenures_18.l0 K p0 k (stD (stD t4 (IntKind.wrap .i64 ((t4.length : Int) - 1)) ((rdD t4 (IntKind.wrap .i64 ((t4.length : Int) - 1))).1, (rdD t4 (IntKind.wrap .i64 ((t4.length : Int) - 1))).2.1, (rdD p0 t5).1, (rdD t4 (IntKind.wrap .i64 ((t4.length : Int) - 1))).2.2.2)) (IntKind.wrap .i64 ((t4.length : Int) - 1)) ((rdD (stD t4 (IntKind.wrap .i64 ((t4.length : Int) - 1)) ((rdD t4 (IntKind.wrap .i64 ((t4.length : Int) - 1))).1, (rdD t4 (IntKind.wrap .i64 ((t4.length : Int) - 1))).2.1, (rdD p0 t5).1, (rdD t4 (IntKind.wrap .i64 ((t4.length : Int) - 1))).2.2.2)) (IntKind.wrap .i64 ((t4.length : Int) - 1))).1, (rdD (stD t4 (IntKind.wrap .i64 ((t4.length : Int) - 1)) ((rdD t4 (IntKind.wrap .i64 ((t4.length : Int) - 1))).1, (rdD t4 (IntKind.wrap .i64 ((t4.length : Int) - 1))).2.1, (rdD p0 t5).1, (rdD t4 (IntKind.wrap .i64 ((t4.length : Int) - 1))).2.2.2)) (IntKind.wrap .i64 ((t4.length : Int) - 1))).2.1, (rdD (stD t4 (IntKind.wrap .i64 ((t4.length : Int) - 1)) ((rdD t4 (IntKind.wrap .i64 ((t4.length : Int) - 1))).1, (rdD t4 (IntKind.wrap .i64 ((t4.length : Int) - 1))).2.1, (rdD p0 t5).1, (rdD t4 (IntKind.wrap .i64 ((t4.length : Int) - 1))).2.2.2)) (IntKind.wrap .i64 ((t4.length : Int) - 1))).2.2.1, (IntKind.wrap .i64 (((rdD (stD t4 (IntKind.wrap .i64 ((t4.length : Int) - 1)) ((rdD t4 (IntKind.wrap .i64 ((t4.length : Int) - 1))).1, (rdD t4 (IntKind.wrap .i64 ((t4.length : Int) - 1))).2.1, (rdD p0 t5).1, (rdD t4 (IntKind.wrap .i64 ((t4.length : Int) - 1))).2.2.2)) (IntKind.wrap .i64 ((t4.length : Int) - 1))).2.2.2) + 1)))) (IntKind.wrap .i64 (t5 + 1))) none) none) none) (cond (inR t5 p0.length) (cond (mayBe (t4.length + ([((rdD p0 t5).2.1, (rdD p0 t5).1, (rdD p0 t5).1, 1)] : List (Int × Int × Int × Int)).length) 32) (charabancref29_Tenures_18.l0 K p0 k (t4 ++ ([((rdD p0 t5).2.1, (rdD p0 t5).1, (rdD p0 t5).1, 1)] : List (Int × Int × Int × Int))) (IntKind.wrap .i64 (t5 + 1))) none) none)) (fun j28 => cond (decide ((IntKind.wrap .i64 ((t4.length : Int) - 1)) ≥ 0)) (cond (inR (IntKind.wrap .i64 ((t4.length : Int) - 1)) t4.length) (cond (inR t5 p0.length) (j28 (((rdD t4 (IntKind.wrap .i64 ((t4.length : Int) - 1))).1) == ((rdD p0 t5).2.1))) none) none) (j28 false))) (some t4)
set_option maxRecDepth 100000 in
theorem charabancref29_Tenures_18.l0_ok (K : Nat) (M0 : Nat → Prop) (w0 : World) (pA0 : Option Addr) (pc0 : Nat) (p0 : List (Int × Int × Int × Int × Int × Int)) (R : Ending → World → Prop) (x : (List (Int × Int × Int × Int))) (hk0 : ∀ (t96 : List (Int × Int × Int × Int)) (A94 : Option Addr) (c95 : Nat) (w1 : World), x = t96 → Holds M0 w0 w1 [own (Rp.pair (Rp.int .i64) (Rp.pair (Rp.int .i64) (Rp.pair (Rp.int .i64) (Rp.int .i64)))) 50 (.slice A94 t96.length c95) t96] → RunsI F18 [.c 27] [(3, .slice A94 t96.length c95)] w1 R) :
    ∀ (k : Nat) (t4 : List (Int × Int × Int × Int)) (t5 : Int) (A2 : Option Addr) (c3 : Nat) (w : World), charabancref29_Tenures_18.l0 K p0 k t4 t5 = some x → Holds M0 w0 w [sl (Rp.pair (Rp.int .i64) (Rp.pair (Rp.int .i64) (Rp.pair (Rp.int .i64) (Rp.pair (Rp.int .u16) (Rp.pair (Rp.int .i64) (Rp.int .u8)))))) (.slice pA0 p0.length pc0) p0, own (Rp.pair (Rp.int .i64) (Rp.pair (Rp.int .i64) (Rp.pair (Rp.int .i64) (Rp.int .i64)))) 50 (.slice A2 t4.length c3) t4] → RunsI F18 [.c 9, .lp 9, .blk 0, .c 27] [(0, .slice pA0 p0.length pc0), (3, .slice A2 t4.length c3), (4, .int .i64 t5)] w R := by
  intro k
  induction k with
  | zero => intro t4 t5 A2 c3 w h hH; exact absurd h (by simp [charabancref29_Tenures_18.l0])
  | succ k ih =>
    intro t4 t5 A2 c3 w h hH
    rw [charabancref29_Tenures_18.l0.eq_2] at h
    refine RunsI.go 1 [.c 10, .c 15, .lp 9, .blk 0, .c 27] (by kernel_rfl) ?_
    refine RunsI.go 1 [.c 11, .c 12, .c 15, .lp 9, .blk 0, .c 27] (by kernel_rfl) ?_
    refine RunsI.region (by kernel_rfl) ?_
    refine RegI.pure 4 [0, 3, 4, 9] [(0, .slice pA0 p0.length pc0), (3, .slice A2 t4.length c3), (4, .int .i64 t5), (9, .bool (decide (t5 < (p0.length : Int))))] (by kernel_rfl) ?_
    refine RegI.done (by kernel_rfl) ?_
    rcases of_cond h with ⟨hc6, h⟩ | ⟨hc6, h⟩
    · skip
      refine RunsI.fix 9 true hc6 (by kernel_rfl) (by kernel_rfl) ?_
      refine RunsI.cond true 13 (by kernel_rfl) ?_
      refine RunsI.go 1 [.c 15, .lp 9, .blk 0, .c 27] (by kernel_rfl) ?_
      refine RunsI.go 3 [.c 18, .c 19, .blk 1, .c 26, .lp 9, .blk 0, .c 27] (by kernel_rfl) ?_
      refine RunsI.region (by kernel_rfl) ?_
      refine RegI.pure 4 [0, 3, 4, 5] [(0, .slice pA0 p0.length pc0), (3, .slice A2 t4.length c3), (4, .int .i64 t5), (5, .int .i64 (IntKind.wrap .i64 ((t4.length : Int) - 1)))] (by kernel_rfl) ?_
      refine RegI.done (by kernel_rfl) ?_
      refine RunsI.go 1 [.c 20, .c 21, .blk 1, .c 26, .lp 9, .blk 0, .c 27] (by kernel_rfl) ?_
      refine RunsI.any 15 (by kernel_rfl) (by kernel_rfl) (by kernel_rfl) (Kp ([] : List Nat) (World.drew w)) ?_
      have h8 := hH.drew
      generalize World.drew w = w7 at h8 ⊢
      have hS9 := Kp.refl ([] : List Nat) w7
      refine AnyE.pure 0 15 (.int .i64 (IntKind.wrap .i64 ((t4.length : Int) - 1))) (by kernel_rfl) hS9 (fun _ => by kernel_rfl) ?_
      refine AnyE.pure 1 16 (.bool (decide ((IntKind.wrap .i64 ((t4.length : Int) - 1)) ≥ 0))) (by kernel_rfl) hS9 (fun _ => by kernel_rfl) ?_
      refine AnyE.pure 2 17 (.bool (decide ((IntKind.wrap .i64 ((t4.length : Int) - 1)) ≥ 0))) (by kernel_rfl) hS9 (fun _ => by kernel_rfl) ?_
      obtain ⟨j28, hJ29, h⟩ := of_let h
      have hj30 : ∀ (t25 : Bool) (w27 : World), j28 t25 = some x → Holds M0 w0 w27 [sl (Rp.pair (Rp.int .i64) (Rp.pair (Rp.int .i64) (Rp.pair (Rp.int .i64) (Rp.pair (Rp.int .u16) (Rp.pair (Rp.int .i64) (Rp.int .u8)))))) (.slice pA0 p0.length pc0) p0, own (Rp.pair (Rp.int .i64) (Rp.pair (Rp.int .i64) (Rp.pair (Rp.int .i64) (Rp.int .i64)))) 50 (.slice A2 t4.length c3) t4] → RunsI F18 [.c 21, .blk 1, .c 26, .lp 9, .blk 0, .c 27] [(0, .slice pA0 p0.length pc0), (3, .slice A2 t4.length c3), (4, .int .i64 t5), (5, .int .i64 (IntKind.wrap .i64 ((t4.length : Int) - 1))), (29, .bool t25)] w27 R := by
        intro t25 w27 h h26
        rw [hJ29] at h
        clear hJ29
        dsimp only at h
        rcases of_cond h with ⟨hc31, h⟩ | ⟨hc31, h⟩
        · skip
          refine RunsI.fix 29 true hc31 (by kernel_rfl) (by kernel_rfl) ?_
          refine RunsI.cond true 22 (by kernel_rfl) ?_
          refine RunsI.go 1 [.c 23, .c 24, .blk 1, .c 26, .lp 9, .blk 0, .c 27] (by kernel_rfl) ?_
          refine RunsI.region (by kernel_rfl) ?_
          refine RegI.pure 4 [0, 3, 4, 5, 30, 31, 32, 33] [(0, .slice pA0 p0.length pc0), (3, .slice A2 t4.length c3), (4, .int .i64 t5), (5, .int .i64 (IntKind.wrap .i64 ((t4.length : Int) - 1))), (30, .slice A2 t4.length c3), (31, .int .i64 (IntKind.wrap .i64 ((t4.length : Int) - 1))), (32, .slice pA0 p0.length pc0), (33, .int .i64 t5)] (by kernel_rfl) ?_
          obtain ⟨hc32, h⟩ := of_cond0 h
          refine RegI.op (by kernel_rfl) (OpE.idxSl 34 0 26 t5 h26 (by kernel_rfl) rfl (by kernel_rfl) (by kernel_rfl) hc32 ?_)
          intro b33 o34 cs35 hk36 h37
          obtain ⟨_, _, rfl, rfl, ⟨_, _, rfl, rfl, ⟨_, _, rfl, rfl, ⟨_, _, rfl, rfl, ⟨_, _, rfl, rfl, rfl⟩⟩⟩⟩⟩ := hk36
          refine RegI.pure 1 [0, 3, 4, 5, 30, 31, 35] [(0, .slice pA0 p0.length pc0), (3, .slice A2 t4.length c3), (4, .int .i64 t5), (5, .int .i64 (IntKind.wrap .i64 ((t4.length : Int) - 1))), (30, .slice A2 t4.length c3), (31, .int .i64 (IntKind.wrap .i64 ((t4.length : Int) - 1))), (35, .pointer (some ⟨b33, o34, none⟩))] (by kernel_rfl) ?_
          refine RegI.op (by kernel_rfl) (OpE.loadCel 36 2 3 b33 o34 0 (.int .i64 ((rdD p0 t5).1)) h37 (by kernel_rfl) (by kernel_rfl) rfl (by kernel_rfl) ?_)
          obtain ⟨hc38, h⟩ := of_cond0 h
          refine RegI.op (by kernel_rfl) (OpE.idxOwnA 37 1 41 50 (IntKind.wrap .i64 ((t4.length : Int) - 1)) h37 (by kernel_rfl) rfl (by kernel_rfl) (by kernel_rfl) hc38 ?_)
          refine RegI.pure 1 [0, 3, 4, 5, 36, 38] [(0, .slice pA0 p0.length pc0), (3, .slice A2 t4.length c3), (4, .int .i64 t5), (5, .int .i64 (IntKind.wrap .i64 ((t4.length : Int) - 1))), (36, .int .i64 ((rdD p0 t5).1)), (38, .pointer (some ⟨(blkD A2), (Int.toNat (IntKind.wrap .i64 ((t4.length : Int) - 1))) * 4 + 2, none⟩))] (by kernel_rfl) ?_
          refine RegI.op (by kernel_rfl) (OpE.storeOwnA 1 3 50 (IntKind.wrap .i64 ((t4.length : Int) - 1)) 2 (.int .i64 ((rdD p0 t5).1)) (o := (Int.toNat (IntKind.wrap .i64 ((t4.length : Int) - 1))) * 4 + 2) ((rdD t4 (IntKind.wrap .i64 ((t4.length : Int) - 1))).1, (rdD t4 (IntKind.wrap .i64 ((t4.length : Int) - 1))).2.1, (rdD p0 t5).1, (rdD t4 (IntKind.wrap .i64 ((t4.length : Int) - 1))).2.2.2) h37 (by kernel_rfl) (by kernel_rfl) rfl (by kernel_rfl) (by kernel_rfl) (by kernel_rfl) hc38 (fun _ hk => by obtain ⟨_, _, rfl, rfl, ⟨_, _, rfl, rfl, ⟨_, _, rfl, rfl, rfl⟩⟩⟩ := hk; exact ⟨[_], [_, _, _], rfl, rfl, ⟨[_], [_, _], rfl, rfl, ⟨[_], [_], rfl, rfl, rfl⟩⟩⟩) ?_)
          intro w39 h40 hk41
          refine RegI.done (by kernel_rfl) ?_
          refine RunsI.region (by kernel_rfl) ?_
          refine RegI.pure 2 [0, 3, 4, 39, 40] [(0, .slice pA0 p0.length pc0), (3, .slice A2 t4.length c3), (4, .int .i64 t5), (39, .slice A2 t4.length c3), (40, .int .i64 (IntKind.wrap .i64 ((t4.length : Int) - 1)))] (by kernel_rfl) ?_
          obtain ⟨hc42, h⟩ := of_cond0 h
          refine RegI.op (by kernel_rfl) (OpE.idxOwnA 41 1 41 50 (IntKind.wrap .i64 ((t4.length : Int) - 1)) h40 (by kernel_rfl) rfl (by kernel_rfl) (by kernel_rfl) hc42 ?_)
          refine RegI.pure 1 [0, 3, 4, 39, 40, 42] [(0, .slice pA0 p0.length pc0), (3, .slice A2 t4.length c3), (4, .int .i64 t5), (39, .slice A2 t4.length c3), (40, .int .i64 (IntKind.wrap .i64 ((t4.length : Int) - 1))), (42, .pointer (some ⟨(blkD A2), (Int.toNat (IntKind.wrap .i64 ((t4.length : Int) - 1))) * 4 + 3, none⟩))] (by kernel_rfl) ?_
          refine RegI.op (by kernel_rfl) (OpE.loadOwnA 43 1 3 50 (IntKind.wrap .i64 ((t4.length : Int) - 1)) 3 (o := (Int.toNat (IntKind.wrap .i64 ((t4.length : Int) - 1))) * 4 + 3) h40 (by kernel_rfl) rfl (by kernel_rfl) (by kernel_rfl) hc42 (fun cs43 hk44 => ?_))
          obtain ⟨_, _, rfl, rfl, ⟨_, _, rfl, rfl, ⟨_, _, rfl, rfl, rfl⟩⟩⟩ := hk44
          refine ⟨.int .i64 ((rdD (stD t4 (IntKind.wrap .i64 ((t4.length : Int) - 1)) ((rdD t4 (IntKind.wrap .i64 ((t4.length : Int) - 1))).1, (rdD t4 (IntKind.wrap .i64 ((t4.length : Int) - 1))).2.1, (rdD p0 t5).1, (rdD t4 (IntKind.wrap .i64 ((t4.length : Int) - 1))).2.2.2)) (IntKind.wrap .i64 ((t4.length : Int) - 1))).2.2.2), by kernel_rfl, ?_⟩
          refine RegI.pure 1 [0, 3, 4, 39, 40, 44] [(0, .slice pA0 p0.length pc0), (3, .slice A2 t4.length c3), (4, .int .i64 t5), (39, .slice A2 t4.length c3), (40, .int .i64 (IntKind.wrap .i64 ((t4.length : Int) - 1))), (44, .int .i64 (IntKind.wrap .i64 (((rdD (stD t4 (IntKind.wrap .i64 ((t4.length : Int) - 1)) ((rdD t4 (IntKind.wrap .i64 ((t4.length : Int) - 1))).1, (rdD t4 (IntKind.wrap .i64 ((t4.length : Int) - 1))).2.1, (rdD p0 t5).1, (rdD t4 (IntKind.wrap .i64 ((t4.length : Int) - 1))).2.2.2)) (IntKind.wrap .i64 ((t4.length : Int) - 1))).2.2.2) + 1)))] (by kernel_rfl) ?_
          refine RegI.op (by kernel_rfl) (OpE.idxOwnA 45 1 41 50 (IntKind.wrap .i64 ((t4.length : Int) - 1)) h40 (by kernel_rfl) rfl (by kernel_rfl) (by kernel_rfl) hc42 ?_)
          refine RegI.pure 1 [0, 3, 4, 44, 46] [(0, .slice pA0 p0.length pc0), (3, .slice A2 t4.length c3), (4, .int .i64 t5), (44, .int .i64 (IntKind.wrap .i64 (((rdD (stD t4 (IntKind.wrap .i64 ((t4.length : Int) - 1)) ((rdD t4 (IntKind.wrap .i64 ((t4.length : Int) - 1))).1, (rdD t4 (IntKind.wrap .i64 ((t4.length : Int) - 1))).2.1, (rdD p0 t5).1, (rdD t4 (IntKind.wrap .i64 ((t4.length : Int) - 1))).2.2.2)) (IntKind.wrap .i64 ((t4.length : Int) - 1))).2.2.2) + 1))), (46, .pointer (some ⟨(blkD A2), (Int.toNat (IntKind.wrap .i64 ((t4.length : Int) - 1))) * 4 + 3, none⟩))] (by kernel_rfl) ?_
          refine RegI.op (by kernel_rfl) (OpE.storeOwnA 1 3 50 (IntKind.wrap .i64 ((t4.length : Int) - 1)) 3 (.int .i64 (IntKind.wrap .i64 (((rdD (stD t4 (IntKind.wrap .i64 ((t4.length : Int) - 1)) ((rdD t4 (IntKind.wrap .i64 ((t4.length : Int) - 1))).1, (rdD t4 (IntKind.wrap .i64 ((t4.length : Int) - 1))).2.1, (rdD p0 t5).1, (rdD t4 (IntKind.wrap .i64 ((t4.length : Int) - 1))).2.2.2)) (IntKind.wrap .i64 ((t4.length : Int) - 1))).2.2.2) + 1))) (o := (Int.toNat (IntKind.wrap .i64 ((t4.length : Int) - 1))) * 4 + 3) ((rdD (stD t4 (IntKind.wrap .i64 ((t4.length : Int) - 1)) ((rdD t4 (IntKind.wrap .i64 ((t4.length : Int) - 1))).1, (rdD t4 (IntKind.wrap .i64 ((t4.length : Int) - 1))).2.1, (rdD p0 t5).1, (rdD t4 (IntKind.wrap .i64 ((t4.length : Int) - 1))).2.2.2)) (IntKind.wrap .i64 ((t4.length : Int) - 1))).1, (rdD (stD t4 (IntKind.wrap .i64 ((t4.length : Int) - 1)) ((rdD t4 (IntKind.wrap .i64 ((t4.length : Int) - 1))).1, (rdD t4 (IntKind.wrap .i64 ((t4.length : Int) - 1))).2.1, (rdD p0 t5).1, (rdD t4 (IntKind.wrap .i64 ((t4.length : Int) - 1))).2.2.2)) (IntKind.wrap .i64 ((t4.length : Int) - 1))).2.1, (rdD (stD t4 (IntKind.wrap .i64 ((t4.length : Int) - 1)) ((rdD t4 (IntKind.wrap .i64 ((t4.length : Int) - 1))).1, (rdD t4 (IntKind.wrap .i64 ((t4.length : Int) - 1))).2.1, (rdD p0 t5).1, (rdD t4 (IntKind.wrap .i64 ((t4.length : Int) - 1))).2.2.2)) (IntKind.wrap .i64 ((t4.length : Int) - 1))).2.2.1, (IntKind.wrap .i64 (((rdD (stD t4 (IntKind.wrap .i64 ((t4.length : Int) - 1)) ((rdD t4 (IntKind.wrap .i64 ((t4.length : Int) - 1))).1, (rdD t4 (IntKind.wrap .i64 ((t4.length : Int) - 1))).2.1, (rdD p0 t5).1, (rdD t4 (IntKind.wrap .i64 ((t4.length : Int) - 1))).2.2.2)) (IntKind.wrap .i64 ((t4.length : Int) - 1))).2.2.2) + 1))) h40 (by kernel_rfl) (by kernel_rfl) rfl (by kernel_rfl) (by kernel_rfl) (by kernel_rfl) hc42 (fun _ hk => by obtain ⟨_, _, rfl, rfl, ⟨_, _, rfl, rfl, ⟨_, _, rfl, rfl, rfl⟩⟩⟩ := hk; exact ⟨[_], [_, _, _], rfl, rfl, ⟨[_], [_, _], rfl, rfl, ⟨[_], [_], rfl, rfl, rfl⟩⟩⟩) ?_)
          intro w45 h46 hk47
          refine RegI.done (by kernel_rfl) ?_
          refine RunsI.go 1 [.c 26, .lp 9, .blk 0, .c 27] (by kernel_rfl) ?_
          refine RunsI.region (by kernel_rfl) ?_
          refine RegI.pure 3 [0, 3, 4] [(0, .slice pA0 p0.length pc0), (3, .slice A2 t4.length c3), (4, .int .i64 (IntKind.wrap .i64 (t5 + 1)))] (by kernel_rfl) ?_
          refine RegI.done (by kernel_rfl) ?_
          refine RunsI.go 1 [.c 9, .lp 9, .blk 0, .c 27] (by kernel_rfl) ?_
          refine RunsI.only [0, 3, 4] [(0, .slice pA0 p0.length pc0), (3, .slice A2 t4.length c3), (4, .int .i64 (IntKind.wrap .i64 (t5 + 1)))] (by kernel_rfl) (by kernel_rfl) ?_
          have h93 : Holds M0 w0 w45 [sl (Rp.pair (Rp.int .i64) (Rp.pair (Rp.int .i64) (Rp.pair (Rp.int .i64) (Rp.pair (Rp.int .u16) (Rp.pair (Rp.int .i64) (Rp.int .u8)))))) (.slice pA0 p0.length pc0) p0, own (Rp.pair (Rp.int .i64) (Rp.pair (Rp.int .i64) (Rp.pair (Rp.int .i64) (Rp.int .i64)))) 50 (.slice A2 ((stD (stD t4 (IntKind.wrap .i64 ((t4.length : Int) - 1)) ((rdD t4 (IntKind.wrap .i64 ((t4.length : Int) - 1))).1, (rdD t4 (IntKind.wrap .i64 ((t4.length : Int) - 1))).2.1, (rdD p0 t5).1, (rdD t4 (IntKind.wrap .i64 ((t4.length : Int) - 1))).2.2.2)) (IntKind.wrap .i64 ((t4.length : Int) - 1)) ((rdD (stD t4 (IntKind.wrap .i64 ((t4.length : Int) - 1)) ((rdD t4 (IntKind.wrap .i64 ((t4.length : Int) - 1))).1, (rdD t4 (IntKind.wrap .i64 ((t4.length : Int) - 1))).2.1, (rdD p0 t5).1, (rdD t4 (IntKind.wrap .i64 ((t4.length : Int) - 1))).2.2.2)) (IntKind.wrap .i64 ((t4.length : Int) - 1))).1, (rdD (stD t4 (IntKind.wrap .i64 ((t4.length : Int) - 1)) ((rdD t4 (IntKind.wrap .i64 ((t4.length : Int) - 1))).1, (rdD t4 (IntKind.wrap .i64 ((t4.length : Int) - 1))).2.1, (rdD p0 t5).1, (rdD t4 (IntKind.wrap .i64 ((t4.length : Int) - 1))).2.2.2)) (IntKind.wrap .i64 ((t4.length : Int) - 1))).2.1, (rdD (stD t4 (IntKind.wrap .i64 ((t4.length : Int) - 1)) ((rdD t4 (IntKind.wrap .i64 ((t4.length : Int) - 1))).1, (rdD t4 (IntKind.wrap .i64 ((t4.length : Int) - 1))).2.1, (rdD p0 t5).1, (rdD t4 (IntKind.wrap .i64 ((t4.length : Int) - 1))).2.2.2)) (IntKind.wrap .i64 ((t4.length : Int) - 1))).2.2.1, (IntKind.wrap .i64 (((rdD (stD t4 (IntKind.wrap .i64 ((t4.length : Int) - 1)) ((rdD t4 (IntKind.wrap .i64 ((t4.length : Int) - 1))).1, (rdD t4 (IntKind.wrap .i64 ((t4.length : Int) - 1))).2.1, (rdD p0 t5).1, (rdD t4 (IntKind.wrap .i64 ((t4.length : Int) - 1))).2.2.2)) (IntKind.wrap .i64 ((t4.length : Int) - 1))).2.2.2) + 1)))).length) c3) (stD (stD t4 (IntKind.wrap .i64 ((t4.length : Int) - 1)) ((rdD t4 (IntKind.wrap .i64 ((t4.length : Int) - 1))).1, (rdD t4 (IntKind.wrap .i64 ((t4.length : Int) - 1))).2.1, (rdD p0 t5).1, (rdD t4 (IntKind.wrap .i64 ((t4.length : Int) - 1))).2.2.2)) (IntKind.wrap .i64 ((t4.length : Int) - 1)) ((rdD (stD t4 (IntKind.wrap .i64 ((t4.length : Int) - 1)) ((rdD t4 (IntKind.wrap .i64 ((t4.length : Int) - 1))).1, (rdD t4 (IntKind.wrap .i64 ((t4.length : Int) - 1))).2.1, (rdD p0 t5).1, (rdD t4 (IntKind.wrap .i64 ((t4.length : Int) - 1))).2.2.2)) (IntKind.wrap .i64 ((t4.length : Int) - 1))).1, (rdD (stD t4 (IntKind.wrap .i64 ((t4.length : Int) - 1)) ((rdD t4 (IntKind.wrap .i64 ((t4.length : Int) - 1))).1, (rdD t4 (IntKind.wrap .i64 ((t4.length : Int) - 1))).2.1, (rdD p0 t5).1, (rdD t4 (IntKind.wrap .i64 ((t4.length : Int) - 1))).2.2.2)) (IntKind.wrap .i64 ((t4.length : Int) - 1))).2.1, (rdD (stD t4 (IntKind.wrap .i64 ((t4.length : Int) - 1)) ((rdD t4 (IntKind.wrap .i64 ((t4.length : Int) - 1))).1, (rdD t4 (IntKind.wrap .i64 ((t4.length : Int) - 1))).2.1, (rdD p0 t5).1, (rdD t4 (IntKind.wrap .i64 ((t4.length : Int) - 1))).2.2.2)) (IntKind.wrap .i64 ((t4.length : Int) - 1))).2.2.1, (IntKind.wrap .i64 (((rdD (stD t4 (IntKind.wrap .i64 ((t4.length : Int) - 1)) ((rdD t4 (IntKind.wrap .i64 ((t4.length : Int) - 1))).1, (rdD t4 (IntKind.wrap .i64 ((t4.length : Int) - 1))).2.1, (rdD p0 t5).1, (rdD t4 (IntKind.wrap .i64 ((t4.length : Int) - 1))).2.2.2)) (IntKind.wrap .i64 ((t4.length : Int) - 1))).2.2.2) + 1)))), cel b33 o34 [.int .i64 ((rdD p0 t5).1), .int .i64 ((rdD p0 t5).2.1), .int .i64 ((rdD p0 t5).2.2.1), .int .u16 ((rdD p0 t5).2.2.2.1), .int .i64 ((rdD p0 t5).2.2.2.2.1), .int .u8 ((rdD p0 t5).2.2.2.2.2)]] := by have hY : Holds M0 w0 w45 [sl (Rp.pair (Rp.int .i64) (Rp.pair (Rp.int .i64) (Rp.pair (Rp.int .i64) (Rp.pair (Rp.int .u16) (Rp.pair (Rp.int .i64) (Rp.int .u8)))))) (.slice pA0 p0.length pc0) p0, own (Rp.pair (Rp.int .i64) (Rp.pair (Rp.int .i64) (Rp.pair (Rp.int .i64) (Rp.int .i64)))) 50 (.slice A2 t4.length c3) (stD (stD t4 (IntKind.wrap .i64 ((t4.length : Int) - 1)) ((rdD t4 (IntKind.wrap .i64 ((t4.length : Int) - 1))).1, (rdD t4 (IntKind.wrap .i64 ((t4.length : Int) - 1))).2.1, (rdD p0 t5).1, (rdD t4 (IntKind.wrap .i64 ((t4.length : Int) - 1))).2.2.2)) (IntKind.wrap .i64 ((t4.length : Int) - 1)) ((rdD (stD t4 (IntKind.wrap .i64 ((t4.length : Int) - 1)) ((rdD t4 (IntKind.wrap .i64 ((t4.length : Int) - 1))).1, (rdD t4 (IntKind.wrap .i64 ((t4.length : Int) - 1))).2.1, (rdD p0 t5).1, (rdD t4 (IntKind.wrap .i64 ((t4.length : Int) - 1))).2.2.2)) (IntKind.wrap .i64 ((t4.length : Int) - 1))).1, (rdD (stD t4 (IntKind.wrap .i64 ((t4.length : Int) - 1)) ((rdD t4 (IntKind.wrap .i64 ((t4.length : Int) - 1))).1, (rdD t4 (IntKind.wrap .i64 ((t4.length : Int) - 1))).2.1, (rdD p0 t5).1, (rdD t4 (IntKind.wrap .i64 ((t4.length : Int) - 1))).2.2.2)) (IntKind.wrap .i64 ((t4.length : Int) - 1))).2.1, (rdD (stD t4 (IntKind.wrap .i64 ((t4.length : Int) - 1)) ((rdD t4 (IntKind.wrap .i64 ((t4.length : Int) - 1))).1, (rdD t4 (IntKind.wrap .i64 ((t4.length : Int) - 1))).2.1, (rdD p0 t5).1, (rdD t4 (IntKind.wrap .i64 ((t4.length : Int) - 1))).2.2.2)) (IntKind.wrap .i64 ((t4.length : Int) - 1))).2.2.1, (IntKind.wrap .i64 (((rdD (stD t4 (IntKind.wrap .i64 ((t4.length : Int) - 1)) ((rdD t4 (IntKind.wrap .i64 ((t4.length : Int) - 1))).1, (rdD t4 (IntKind.wrap .i64 ((t4.length : Int) - 1))).2.1, (rdD p0 t5).1, (rdD t4 (IntKind.wrap .i64 ((t4.length : Int) - 1))).2.2.2)) (IntKind.wrap .i64 ((t4.length : Int) - 1))).2.2.2) + 1)))), cel b33 o34 [.int .i64 ((rdD p0 t5).1), .int .i64 ((rdD p0 t5).2.1), .int .i64 ((rdD p0 t5).2.2.1), .int .u16 ((rdD p0 t5).2.2.2.1), .int .i64 ((rdD p0 t5).2.2.2.2.1), .int .u8 ((rdD p0 t5).2.2.2.2.2)]] := h46; simpa only [stD_length] using hY
          refine RunsI.is [(0, .slice pA0 p0.length pc0), (3, .slice A2 ((stD (stD t4 (IntKind.wrap .i64 ((t4.length : Int) - 1)) ((rdD t4 (IntKind.wrap .i64 ((t4.length : Int) - 1))).1, (rdD t4 (IntKind.wrap .i64 ((t4.length : Int) - 1))).2.1, (rdD p0 t5).1, (rdD t4 (IntKind.wrap .i64 ((t4.length : Int) - 1))).2.2.2)) (IntKind.wrap .i64 ((t4.length : Int) - 1)) ((rdD (stD t4 (IntKind.wrap .i64 ((t4.length : Int) - 1)) ((rdD t4 (IntKind.wrap .i64 ((t4.length : Int) - 1))).1, (rdD t4 (IntKind.wrap .i64 ((t4.length : Int) - 1))).2.1, (rdD p0 t5).1, (rdD t4 (IntKind.wrap .i64 ((t4.length : Int) - 1))).2.2.2)) (IntKind.wrap .i64 ((t4.length : Int) - 1))).1, (rdD (stD t4 (IntKind.wrap .i64 ((t4.length : Int) - 1)) ((rdD t4 (IntKind.wrap .i64 ((t4.length : Int) - 1))).1, (rdD t4 (IntKind.wrap .i64 ((t4.length : Int) - 1))).2.1, (rdD p0 t5).1, (rdD t4 (IntKind.wrap .i64 ((t4.length : Int) - 1))).2.2.2)) (IntKind.wrap .i64 ((t4.length : Int) - 1))).2.1, (rdD (stD t4 (IntKind.wrap .i64 ((t4.length : Int) - 1)) ((rdD t4 (IntKind.wrap .i64 ((t4.length : Int) - 1))).1, (rdD t4 (IntKind.wrap .i64 ((t4.length : Int) - 1))).2.1, (rdD p0 t5).1, (rdD t4 (IntKind.wrap .i64 ((t4.length : Int) - 1))).2.2.2)) (IntKind.wrap .i64 ((t4.length : Int) - 1))).2.2.1, (IntKind.wrap .i64 (((rdD (stD t4 (IntKind.wrap .i64 ((t4.length : Int) - 1)) ((rdD t4 (IntKind.wrap .i64 ((t4.length : Int) - 1))).1, (rdD t4 (IntKind.wrap .i64 ((t4.length : Int) - 1))).2.1, (rdD p0 t5).1, (rdD t4 (IntKind.wrap .i64 ((t4.length : Int) - 1))).2.2.2)) (IntKind.wrap .i64 ((t4.length : Int) - 1))).2.2.2) + 1)))).length) c3), (4, .int .i64 (IntKind.wrap .i64 (t5 + 1)))] (by simp only [stD_length]) ?_
          refine RunsI.only [0, 3, 4] [(0, .slice pA0 p0.length pc0), (3, .slice A2 ((stD (stD t4 (IntKind.wrap .i64 ((t4.length : Int) - 1)) ((rdD t4 (IntKind.wrap .i64 ((t4.length : Int) - 1))).1, (rdD t4 (IntKind.wrap .i64 ((t4.length : Int) - 1))).2.1, (rdD p0 t5).1, (rdD t4 (IntKind.wrap .i64 ((t4.length : Int) - 1))).2.2.2)) (IntKind.wrap .i64 ((t4.length : Int) - 1)) ((rdD (stD t4 (IntKind.wrap .i64 ((t4.length : Int) - 1)) ((rdD t4 (IntKind.wrap .i64 ((t4.length : Int) - 1))).1, (rdD t4 (IntKind.wrap .i64 ((t4.length : Int) - 1))).2.1, (rdD p0 t5).1, (rdD t4 (IntKind.wrap .i64 ((t4.length : Int) - 1))).2.2.2)) (IntKind.wrap .i64 ((t4.length : Int) - 1))).1, (rdD (stD t4 (IntKind.wrap .i64 ((t4.length : Int) - 1)) ((rdD t4 (IntKind.wrap .i64 ((t4.length : Int) - 1))).1, (rdD t4 (IntKind.wrap .i64 ((t4.length : Int) - 1))).2.1, (rdD p0 t5).1, (rdD t4 (IntKind.wrap .i64 ((t4.length : Int) - 1))).2.2.2)) (IntKind.wrap .i64 ((t4.length : Int) - 1))).2.1, (rdD (stD t4 (IntKind.wrap .i64 ((t4.length : Int) - 1)) ((rdD t4 (IntKind.wrap .i64 ((t4.length : Int) - 1))).1, (rdD t4 (IntKind.wrap .i64 ((t4.length : Int) - 1))).2.1, (rdD p0 t5).1, (rdD t4 (IntKind.wrap .i64 ((t4.length : Int) - 1))).2.2.2)) (IntKind.wrap .i64 ((t4.length : Int) - 1))).2.2.1, (IntKind.wrap .i64 (((rdD (stD t4 (IntKind.wrap .i64 ((t4.length : Int) - 1)) ((rdD t4 (IntKind.wrap .i64 ((t4.length : Int) - 1))).1, (rdD t4 (IntKind.wrap .i64 ((t4.length : Int) - 1))).2.1, (rdD p0 t5).1, (rdD t4 (IntKind.wrap .i64 ((t4.length : Int) - 1))).2.2.2)) (IntKind.wrap .i64 ((t4.length : Int) - 1))).2.2.2) + 1)))).length) c3), (4, .int .i64 (IntKind.wrap .i64 (t5 + 1)))] (by kernel_rfl) (by kernel_rfl) ?_
          exact ih (stD (stD t4 (IntKind.wrap .i64 ((t4.length : Int) - 1)) ((rdD t4 (IntKind.wrap .i64 ((t4.length : Int) - 1))).1, (rdD t4 (IntKind.wrap .i64 ((t4.length : Int) - 1))).2.1, (rdD p0 t5).1, (rdD t4 (IntKind.wrap .i64 ((t4.length : Int) - 1))).2.2.2)) (IntKind.wrap .i64 ((t4.length : Int) - 1)) ((rdD (stD t4 (IntKind.wrap .i64 ((t4.length : Int) - 1)) ((rdD t4 (IntKind.wrap .i64 ((t4.length : Int) - 1))).1, (rdD t4 (IntKind.wrap .i64 ((t4.length : Int) - 1))).2.1, (rdD p0 t5).1, (rdD t4 (IntKind.wrap .i64 ((t4.length : Int) - 1))).2.2.2)) (IntKind.wrap .i64 ((t4.length : Int) - 1))).1, (rdD (stD t4 (IntKind.wrap .i64 ((t4.length : Int) - 1)) ((rdD t4 (IntKind.wrap .i64 ((t4.length : Int) - 1))).1, (rdD t4 (IntKind.wrap .i64 ((t4.length : Int) - 1))).2.1, (rdD p0 t5).1, (rdD t4 (IntKind.wrap .i64 ((t4.length : Int) - 1))).2.2.2)) (IntKind.wrap .i64 ((t4.length : Int) - 1))).2.1, (rdD (stD t4 (IntKind.wrap .i64 ((t4.length : Int) - 1)) ((rdD t4 (IntKind.wrap .i64 ((t4.length : Int) - 1))).1, (rdD t4 (IntKind.wrap .i64 ((t4.length : Int) - 1))).2.1, (rdD p0 t5).1, (rdD t4 (IntKind.wrap .i64 ((t4.length : Int) - 1))).2.2.2)) (IntKind.wrap .i64 ((t4.length : Int) - 1))).2.2.1, (IntKind.wrap .i64 (((rdD (stD t4 (IntKind.wrap .i64 ((t4.length : Int) - 1)) ((rdD t4 (IntKind.wrap .i64 ((t4.length : Int) - 1))).1, (rdD t4 (IntKind.wrap .i64 ((t4.length : Int) - 1))).2.1, (rdD p0 t5).1, (rdD t4 (IntKind.wrap .i64 ((t4.length : Int) - 1))).2.2.2)) (IntKind.wrap .i64 ((t4.length : Int) - 1))).2.2.2) + 1)))) (IntKind.wrap .i64 (t5 + 1)) A2 c3 w45 h (h93.pick [0, 1] (by decide))
        · skip
          refine RunsI.fix 29 false hc31 (by kernel_rfl) (by kernel_rfl) ?_
          refine RunsI.cond false 25 (by kernel_rfl) ?_
          refine RunsI.any 20 (by kernel_rfl) (by kernel_rfl) (by kernel_rfl) (Kp (mines (pick [sl (Rp.pair (Rp.int .i64) (Rp.pair (Rp.int .i64) (Rp.pair (Rp.int .i64) (Rp.pair (Rp.int .u16) (Rp.pair (Rp.int .i64) (Rp.int .u8)))))) (.slice pA0 p0.length pc0) p0, own (Rp.pair (Rp.int .i64) (Rp.pair (Rp.int .i64) (Rp.pair (Rp.int .i64) (Rp.int .i64)))) 50 (.slice A2 t4.length c3) t4] [1])) (World.drew w27)) ?_
          have h49 := h26.drew
          generalize World.drew w27 = w48 at h49 ⊢
          have hS50 := Kp.refl (mines (pick [sl (Rp.pair (Rp.int .i64) (Rp.pair (Rp.int .i64) (Rp.pair (Rp.int .i64) (Rp.pair (Rp.int .u16) (Rp.pair (Rp.int .i64) (Rp.int .u8)))))) (.slice pA0 p0.length pc0) p0, own (Rp.pair (Rp.int .i64) (Rp.pair (Rp.int .i64) (Rp.pair (Rp.int .i64) (Rp.int .i64)))) 50 (.slice A2 t4.length c3) t4] [1])) w48
          refine AnyE.pure 0 47 (.slice A2 t4.length c3) (by kernel_rfl) hS50 (fun _ => by kernel_rfl) ?_
          refine AnyE.pure 1 48 (.slice pA0 p0.length pc0) (by kernel_rfl) hS50 (fun _ => by kernel_rfl) ?_
          refine AnyE.pure 2 49 (.int .i64 t5) (by kernel_rfl) hS50 (fun _ => by kernel_rfl) ?_
          obtain ⟨hc52, h⟩ := of_cond0 h
          refine AnyE.idxSl 3 50 0 26 t5 h49 (by kernel_rfl) hS50 rfl (by kernel_rfl) (by kernel_rfl) hc52 ?_
          intro b53 o54 cs55 hk56 h57
          obtain ⟨_, _, rfl, rfl, ⟨_, _, rfl, rfl, ⟨_, _, rfl, rfl, ⟨_, _, rfl, rfl, ⟨_, _, rfl, rfl, rfl⟩⟩⟩⟩⟩ := hk56
          refine AnyE.pure 4 51 (.pointer (some ⟨b53, o54 + 1, none⟩)) (by kernel_rfl) hS50 (fun _ => by kernel_rfl) ?_
          refine AnyE.loadCel 5 52 2 3 b53 o54 1 (.int .i64 ((rdD p0 t5).2.1)) [1] h57 rfl (by kernel_rfl) hS50 rfl rfl (by kernel_rfl) (by kernel_rfl) ?_
          refine AnyE.pure 6 53 (.slice pA0 p0.length pc0) (by kernel_rfl) hS50 (fun _ => by kernel_rfl) ?_
          refine AnyE.pure 7 54 (.int .i64 t5) (by kernel_rfl) hS50 (fun _ => by kernel_rfl) ?_
          refine AnyE.idxSl 8 55 0 26 t5 h57 (by kernel_rfl) hS50 rfl (by kernel_rfl) (by kernel_rfl) hc52 ?_
          intro b58 o59 cs60 hk61 h62
          obtain ⟨_, _, rfl, rfl, ⟨_, _, rfl, rfl, ⟨_, _, rfl, rfl, ⟨_, _, rfl, rfl, ⟨_, _, rfl, rfl, rfl⟩⟩⟩⟩⟩ := hk61
          refine AnyE.pure 9 56 (.pointer (some ⟨b58, o59, none⟩)) (by kernel_rfl) hS50 (fun _ => by kernel_rfl) ?_
          refine AnyE.loadCel 10 57 3 3 b58 o59 0 (.int .i64 ((rdD p0 t5).1)) [1] h62 rfl (by kernel_rfl) hS50 rfl rfl (by kernel_rfl) (by kernel_rfl) ?_
          refine AnyE.pure 11 58 (.slice pA0 p0.length pc0) (by kernel_rfl) hS50 (fun _ => by kernel_rfl) ?_
          refine AnyE.pure 12 59 (.int .i64 t5) (by kernel_rfl) hS50 (fun _ => by kernel_rfl) ?_
          refine AnyE.idxSl 13 60 0 26 t5 h62 (by kernel_rfl) hS50 rfl (by kernel_rfl) (by kernel_rfl) hc52 ?_
          intro b63 o64 cs65 hk66 h67
          obtain ⟨_, _, rfl, rfl, ⟨_, _, rfl, rfl, ⟨_, _, rfl, rfl, ⟨_, _, rfl, rfl, ⟨_, _, rfl, rfl, rfl⟩⟩⟩⟩⟩ := hk66
          refine AnyE.pure 14 61 (.pointer (some ⟨b63, o64, none⟩)) (by kernel_rfl) hS50 (fun _ => by kernel_rfl) ?_
          refine AnyE.loadCel 15 62 4 3 b63 o64 0 (.int .i64 ((rdD p0 t5).1)) [1] h67 rfl (by kernel_rfl) hS50 rfl rfl (by kernel_rfl) (by kernel_rfl) ?_
          refine AnyE.pure 16 63 (.agg #[.int .i64 ((rdD p0 t5).2.1), .int .i64 ((rdD p0 t5).1), .int .i64 ((rdD p0 t5).1), .int .i64 1]) (by kernel_rfl) hS50 (fun _ => by kernel_rfl) ?_
          refine AnyE.one 17 (by kernel_rfl) (fun w68 hu69 => ?_)
          have h70 := h67.call hu69
          have hS71 := hS50.up hu69
          refine OpE.lit 64 50 [.int .i64 ((rdD p0 t5).2.1), .int .i64 ((rdD p0 t5).1), .int .i64 ((rdD p0 t5).1), .int .i64 1] 1 h70 (by kernel_rfl) (by kernel_rfl) ?_
          intro w72 b73 h74 hb75 hn76
          have hn77 := Nat.le_trans hS71.1 hn76
          have hS78 := hS71.up hb75
          refine ⟨hS78, ?_⟩
          refine AnyE.one 18 (by kernel_rfl) (fun w79 hu80 => ?_)
          have h81 := h74.call hu80
          have hS82 := hS78.up hu80
          obtain ⟨hc83, h⟩ := of_cond0 h
          refine OpE.appendBox 65 1 5 41 50 32 ([((rdD p0 t5).2.1, (rdD p0 t5).1, (rdD p0 t5).1, 1)] : List (Int × Int × Int × Int)) 0 h81 (by kernel_rfl) (by kernel_rfl) (by kernel_rfl) rfl rfl rfl (⟨[_, _, _, _], _, rfl, ⟨[_], [_, _, _], rfl, rfl, ⟨[_], [_, _], rfl, rfl, ⟨[_], [_], rfl, rfl, rfl⟩⟩⟩, rfl⟩) hc83 ?_
          intro w84 A85 c86 h87 hk88
          have hS89 := hS82.trans hk88 (Kp.turned h67 [1] rfl 1 rfl rfl)
          refine ⟨hS89, ?_⟩
          refine AnyE.pure 19 3 (.slice A85 ((t4 ++ ([((rdD p0 t5).2.1, (rdD p0 t5).1, (rdD p0 t5).1, 1)] : List (Int × Int × Int × Int))).length) c86) (by kernel_rfl) hS89 (fun _ => by kernel_rfl) ?_
          refine AnyE.done (by kernel_rfl) (fun w90 hu91 => ?_)
          have h92 := h87.call hu91
          refine RunsI.only [0, 3, 4] [(0, .slice pA0 p0.length pc0), (3, .slice A85 ((t4 ++ ([((rdD p0 t5).2.1, (rdD p0 t5).1, (rdD p0 t5).1, 1)] : List (Int × Int × Int × Int))).length) c86), (4, .int .i64 t5)] (by kernel_rfl) (by kernel_rfl) ?_
          refine RunsI.go 1 [.c 26, .lp 9, .blk 0, .c 27] (by kernel_rfl) ?_
          refine RunsI.region (by kernel_rfl) ?_
          refine RegI.pure 3 [0, 3, 4] [(0, .slice pA0 p0.length pc0), (3, .slice A85 ((t4 ++ ([((rdD p0 t5).2.1, (rdD p0 t5).1, (rdD p0 t5).1, 1)] : List (Int × Int × Int × Int))).length) c86), (4, .int .i64 (IntKind.wrap .i64 (t5 + 1)))] (by kernel_rfl) ?_
          refine RegI.done (by kernel_rfl) ?_
          refine RunsI.go 1 [.c 9, .lp 9, .blk 0, .c 27] (by kernel_rfl) ?_
          refine RunsI.only [0, 3, 4] [(0, .slice pA0 p0.length pc0), (3, .slice A85 ((t4 ++ ([((rdD p0 t5).2.1, (rdD p0 t5).1, (rdD p0 t5).1, 1)] : List (Int × Int × Int × Int))).length) c86), (4, .int .i64 (IntKind.wrap .i64 (t5 + 1)))] (by kernel_rfl) (by kernel_rfl) ?_
          exact ih (t4 ++ ([((rdD p0 t5).2.1, (rdD p0 t5).1, (rdD p0 t5).1, 1)] : List (Int × Int × Int × Int))) (IntKind.wrap .i64 (t5 + 1)) A85 c86 w90 h (h92.pick [0, 1] (by decide))
      clear hJ29
      rcases of_cond h with ⟨hc11, h⟩ | ⟨hc11, h⟩
      · skip
        refine AnyE.fix 17 true hc11 (by kernel_rfl) (by kernel_rfl) ?_
        refine AnyE.pure 3 18 (.slice A2 t4.length c3) (by kernel_rfl) hS9 (fun _ => by kernel_rfl) ?_
        refine AnyE.pure 4 19 (.int .i64 (IntKind.wrap .i64 ((t4.length : Int) - 1))) (by kernel_rfl) hS9 (fun _ => by kernel_rfl) ?_
        obtain ⟨hc12, h⟩ := of_cond0 h
        refine AnyE.idxOwnA 5 20 1 41 50 (IntKind.wrap .i64 ((t4.length : Int) - 1)) h8 (by kernel_rfl) hS9 rfl (by kernel_rfl) (by kernel_rfl) hc12 ?_
        refine AnyE.pure 6 21 (.pointer (some ⟨(blkD A2), (Int.toNat (IntKind.wrap .i64 ((t4.length : Int) - 1))) * 4, none⟩)) (by kernel_rfl) hS9 (fun _ => by kernel_rfl) ?_
        refine AnyE.loadOwnA 7 22 1 3 50 (IntKind.wrap .i64 ((t4.length : Int) - 1)) 0 (.int .i64 ((rdD t4 (IntKind.wrap .i64 ((t4.length : Int) - 1))).1)) [] (o := (Int.toNat (IntKind.wrap .i64 ((t4.length : Int) - 1))) * 4 + 0) h8 rfl (by kernel_rfl) hS9 rfl rfl (by kernel_rfl) rfl hc12 (fun _ _ hk => by obtain ⟨_, _, rfl, rfl, ⟨_, _, rfl, rfl, ⟨_, _, rfl, rfl, rfl⟩⟩⟩ := hk; kernel_rfl) ?_
        refine AnyE.pure 8 23 (.slice pA0 p0.length pc0) (by kernel_rfl) hS9 (fun _ => by kernel_rfl) ?_
        refine AnyE.pure 9 24 (.int .i64 t5) (by kernel_rfl) hS9 (fun _ => by kernel_rfl) ?_
        obtain ⟨hc13, h⟩ := of_cond0 h
        refine AnyE.idxSl 10 25 0 26 t5 h8 (by kernel_rfl) hS9 rfl (by kernel_rfl) (by kernel_rfl) hc13 ?_
        intro b14 o15 cs16 hk17 h18
        obtain ⟨_, _, rfl, rfl, ⟨_, _, rfl, rfl, ⟨_, _, rfl, rfl, ⟨_, _, rfl, rfl, ⟨_, _, rfl, rfl, rfl⟩⟩⟩⟩⟩ := hk17
        refine AnyE.pure 11 26 (.pointer (some ⟨b14, o15 + 1, none⟩)) (by kernel_rfl) hS9 (fun _ => by kernel_rfl) ?_
        refine AnyE.loadCel 12 27 2 3 b14 o15 1 (.int .i64 ((rdD p0 t5).2.1)) [] h18 rfl (by kernel_rfl) hS9 rfl rfl (by kernel_rfl) (by kernel_rfl) ?_
        refine AnyE.pure 13 28 (.bool (((rdD t4 (IntKind.wrap .i64 ((t4.length : Int) - 1))).1) == ((rdD p0 t5).2.1))) (by kernel_rfl) hS9 (fun _ => by kernel_rfl) ?_
        refine AnyE.pure 14 29 (.bool (((rdD t4 (IntKind.wrap .i64 ((t4.length : Int) - 1))).1) == ((rdD p0 t5).2.1))) (by kernel_rfl) hS9 (fun _ => by kernel_rfl) ?_
        refine AnyE.done (by kernel_rfl) (fun w19 hu20 => ?_)
        have h21 := h18.call hu20
        refine RunsI.only [0, 3, 4, 5, 29] [(0, .slice pA0 p0.length pc0), (3, .slice A2 t4.length c3), (4, .int .i64 t5), (5, .int .i64 (IntKind.wrap .i64 ((t4.length : Int) - 1))), (29, .bool (((rdD t4 (IntKind.wrap .i64 ((t4.length : Int) - 1))).1) == ((rdD p0 t5).2.1)))] (by kernel_rfl) (by kernel_rfl) ?_
        refine RunsI.only [0, 3, 4, 5, 29] [(0, .slice pA0 p0.length pc0), (3, .slice A2 t4.length c3), (4, .int .i64 t5), (5, .int .i64 (IntKind.wrap .i64 ((t4.length : Int) - 1))), (29, .bool (((rdD t4 (IntKind.wrap .i64 ((t4.length : Int) - 1))).1) == ((rdD p0 t5).2.1)))] (by kernel_rfl) (by kernel_rfl) ?_
        exact hj30 (((rdD t4 (IntKind.wrap .i64 ((t4.length : Int) - 1))).1) == ((rdD p0 t5).2.1)) w19 h (h21.pick [0, 1] (by decide))
      · skip
        refine AnyE.fix 17 false hc11 (by kernel_rfl) (by kernel_rfl) ?_
        refine AnyE.no 3 18 (by kernel_rfl) hS9 ?_
        refine AnyE.no 4 19 (by kernel_rfl) hS9 ?_
        refine AnyE.no 5 20 (by kernel_rfl) hS9 ?_
        refine AnyE.no 6 21 (by kernel_rfl) hS9 ?_
        refine AnyE.no 7 22 (by kernel_rfl) hS9 ?_
        refine AnyE.no 8 23 (by kernel_rfl) hS9 ?_
        refine AnyE.no 9 24 (by kernel_rfl) hS9 ?_
        refine AnyE.no 10 25 (by kernel_rfl) hS9 ?_
        refine AnyE.no 11 26 (by kernel_rfl) hS9 ?_
        refine AnyE.no 12 27 (by kernel_rfl) hS9 ?_
        refine AnyE.no 13 28 (by kernel_rfl) hS9 ?_
        refine AnyE.pure 14 29 (.bool false) (by kernel_rfl) hS9 (fun _ => by kernel_rfl) ?_
        refine AnyE.done (by kernel_rfl) (fun w22 hu23 => ?_)
        have h24 := h8.call hu23
        refine RunsI.only [0, 3, 4, 5, 29] [(0, .slice pA0 p0.length pc0), (3, .slice A2 t4.length c3), (4, .int .i64 t5), (5, .int .i64 (IntKind.wrap .i64 ((t4.length : Int) - 1))), (29, .bool false)] (by kernel_rfl) (by kernel_rfl) ?_
        refine RunsI.only [0, 3, 4, 5, 29] [(0, .slice pA0 p0.length pc0), (3, .slice A2 t4.length c3), (4, .int .i64 t5), (5, .int .i64 (IntKind.wrap .i64 ((t4.length : Int) - 1))), (29, .bool false)] (by kernel_rfl) (by kernel_rfl) ?_
        exact hj30 false w22 h (h24.pick [0, 1] (by decide))
    · skip
      refine RunsI.fix 9 false hc6 (by kernel_rfl) (by kernel_rfl) ?_
      refine RunsI.cond false 14 (by kernel_rfl) ?_
      refine RunsI.go 1 [.c 27] (by kernel_rfl) ?_
      refine RunsI.only [3] [(3, .slice A2 t4.length c3)] (by kernel_rfl) (by kernel_rfl) ?_
      exact hk0 t4 A2 c3 w (Option.some.inj h).symm (hH.pick [1] (by decide))
def charabancref29_Tenures_18.f (K : Nat) (p0 : List (Int × Int × Int × Int × Int × Int)) : Option (List (Int × Int × Int × Int)) := (charabancref29_Tenures_18.l0 K p0 K ([] : List (Int × Int × Int × Int)) 0).bind (fun t101 => some t101)
set_option maxRecDepth 100000 in
theorem charabancref29_Tenures_18_ok (K : Nat) (M0 : Nat → Prop) (w0 : World) (pA0 : Option Addr) (pc0 : Nat) (p0 : List (Int × Int × Int × Int × Int × Int)) (ho : ∀ b, M0 b → b < w0.heap.size) (hs0 : Sl (Rp.pair (Rp.int .i64) (Rp.pair (Rp.int .i64) (Rp.pair (Rp.int .i64) (Rp.pair (Rp.int .u16) (Rp.pair (Rp.int .i64) (Rp.int .u8)))))) w0 M0 (.slice pA0 p0.length pc0) p0) {r : (List (Int × Int × Int × Int))} (h : charabancref29_Tenures_18.f K p0 = some r) :
    Calls Tryd.prog 18 #[.slice pA0 p0.length pc0] w0 (charabancref29_Tenures_18.post M0 w0 r) := by
  unfold charabancref29_Tenures_18.f at h
  have h0 : Holds M0 w0 w0 [] := Holds.start ho
  have h00 := h0.addSl (Rp.pair (Rp.int .i64) (Rp.pair (Rp.int .i64) (Rp.pair (Rp.int .i64) (Rp.pair (Rp.int .u16) (Rp.pair (Rp.int .i64) (Rp.int .u8)))))) (.slice pA0 p0.length pc0) p0 (hs0.mono (fun _ _ hm => hm.elim id (fun hm => absurd hm (by simp [mines, sl]))))
  have h0 : Holds M0 w0 w0 [sl (Rp.pair (Rp.int .i64) (Rp.pair (Rp.int .i64) (Rp.pair (Rp.int .i64) (Rp.pair (Rp.int .u16) (Rp.pair (Rp.int .i64) (Rp.int .u8)))))) (.slice pA0 p0.length pc0) p0] := h00
  refine calls_of F18 rfl [.slice pA0 p0.length pc0] (by kernel_rfl) ?_
  refine RunsI.go 1 [.c 1, .c 2] (by kernel_rfl) ?_
  refine RunsI.region (by kernel_rfl) ?_
  refine RegI.pure 1 [0] [(0, .slice pA0 p0.length pc0)] (by kernel_rfl) ?_
  refine RegI.done (by kernel_rfl) ?_
  refine RunsI.go 1 [.c 3, .c 4] (by kernel_rfl) ?_
  refine RunsI.region (by kernel_rfl) ?_
  refine RegI.pure 1 [0, 3] [(0, .slice pA0 p0.length pc0), (3, .slice none 0 0)] (by kernel_rfl) ?_
  refine RegI.done (by kernel_rfl) ?_
  refine RunsI.go 2 [.c 6, .c 7, .c 27] (by kernel_rfl) ?_
  refine RunsI.region (by kernel_rfl) ?_
  refine RegI.pure 1 [0, 3, 4] [(0, .slice pA0 p0.length pc0), (3, .slice none 0 0), (4, .int .i64 0)] (by kernel_rfl) ?_
  refine RegI.done (by kernel_rfl) ?_
  refine RunsI.go 2 [.c 9, .lp 9, .blk 0, .c 27] (by kernel_rfl) ?_
  obtain ⟨x97, hx98, h⟩ := of_bind h
  have h1 := h0.addOwnNil (Rp.pair (Rp.int .i64) (Rp.pair (Rp.int .i64) (Rp.pair (Rp.int .i64) (Rp.int .i64)))) 50
  refine RunsI.only [0, 3, 4] [(0, .slice pA0 p0.length pc0), (3, .slice none (([] : List (Int × Int × Int × Int)).length) 0), (4, .int .i64 0)] (by kernel_rfl) (by kernel_rfl) ?_
  refine charabancref29_Tenures_18.l0_ok K M0 w0 pA0 pc0 p0 _ x97 ?_ K ([] : List (Int × Int × Int × Int)) 0 none 0 w0 hx98 (h1.pick [0, 1] (by decide))
  · intro t101 A99 c100 w103 hq104 h102
    (try rw [hq104] at h)
    refine RunsI.go 1 [.c 28, .c 29] (by kernel_rfl) ?_
    refine RunsI.region (by kernel_rfl) ?_
    refine RegI.pure 2 [2] [(2, .slice A99 t101.length c100)] (by kernel_rfl) ?_
    refine RegI.done (by kernel_rfl) ?_
    refine RunsI.ret (.slice A99 t101.length c100) (by kernel_rfl) (by kernel_rfl) ?_
    obtain rfl := Option.some.inj h
    exact ⟨A99, c100, rfl, h102.pick [0] (by decide)⟩
end

/-! ### charabanc/charabancref29.Of (function 25) -/
section
def charabancref29_Of_25.post (M0 : Nat → Prop) (w0 : World) (r : (List (Int × Int × Int × Int × Int × Int))) : Ending → World → Prop := fun e w => ∃ (A1 : Option Addr) (c1 : Nat), e = .returned (.slice A1 r.length c1) ∧ Holds M0 w0 w [own (Rp.pair (Rp.int .i64) (Rp.pair (Rp.int .i64) (Rp.pair (Rp.int .i64) (Rp.pair (Rp.int .u16) (Rp.pair (Rp.int .i64) (Rp.int .u8)))))) 54 (.slice A1 r.length c1) r]
def charabancref29_Of_25.l0 (K : Nat) (p0 : List (Int × Int × Int × Int × Int × Int)) (p1 : Int) : Nat → (List (Int × Int × Int × Int × Int × Int)) → Int → Option (List (Int × Int × Int × Int × Int × Int))
  | 0, _, _ => none
  | k + 1, t4, t5 => cond (decide (t5 < (p0.length : Int))) (cond (inR t5 p0.length) (cond (((rdD p0 t5).2.1) == p1) (cond (mayBe (t4.length + ([((rdD p0 t5).1, (rdD p0 t5).2.1, (rdD p0 t5).2.2.1, (rdD p0 t5).2.2.2.1, (rdD p0 t5).2.2.2.2.1, (rdD p0 t5).2.2.2.2.2)] : List (Int × Int × Int × Int × Int × Int)).length) 48) (charabancref29_Of_25.l0 K p0 p1 k (t4 ++ ([((rdD p0 t5).1, (rdD p0 t5).2.1, (rdD p0 t5).2.2.1, (rdD p0 t5).2.2.2.1, (rdD p0 t5).2.2.2.2.1, (rdD p0 t5).2.2.2.2.2)] : List (Int × Int × Int × Int × Int × Int))) (IntKind.wrap .i64 (t5 + 1))) none) (charabancref29_Of_25.l0 K p0 p1 k t4 (IntKind.wrap .i64 (t5 + 1)))) none) (some t4)
set_option maxRecDepth 100000 in
theorem charabancref29_Of_25.l0_ok (K : Nat) (M0 : Nat → Prop) (w0 : World) (pA0 : Option Addr) (pc0 : Nat) (p0 : List (Int × Int × Int × Int × Int × Int)) (p1 : Int) (R : Ending → World → Prop) (x : (List (Int × Int × Int × Int × Int × Int))) (hk0 : ∀ (t32 : List (Int × Int × Int × Int × Int × Int)) (A30 : Option Addr) (c31 : Nat) (w1 : World), x = t32 → Holds M0 w0 w1 [own (Rp.pair (Rp.int .i64) (Rp.pair (Rp.int .i64) (Rp.pair (Rp.int .i64) (Rp.pair (Rp.int .u16) (Rp.pair (Rp.int .i64) (Rp.int .u8)))))) 54 (.slice A30 t32.length c31) t32] → RunsI F25 [.c 23] [(5, .slice A30 t32.length c31)] w1 R) :
    ∀ (k : Nat) (t4 : List (Int × Int × Int × Int × Int × Int)) (t5 : Int) (A2 : Option Addr) (c3 : Nat) (w : World), charabancref29_Of_25.l0 K p0 p1 k t4 t5 = some x → Holds M0 w0 w [sl (Rp.pair (Rp.int .i64) (Rp.pair (Rp.int .i64) (Rp.pair (Rp.int .i64) (Rp.pair (Rp.int .u16) (Rp.pair (Rp.int .i64) (Rp.int .u8)))))) (.slice pA0 p0.length pc0) p0, own (Rp.pair (Rp.int .i64) (Rp.pair (Rp.int .i64) (Rp.pair (Rp.int .i64) (Rp.pair (Rp.int .u16) (Rp.pair (Rp.int .i64) (Rp.int .u8)))))) 54 (.slice A2 t4.length c3) t4] → RunsI F25 [.c 9, .lp 9, .blk 0, .c 23] [(0, .slice pA0 p0.length pc0), (1, .int .i64 p1), (5, .slice A2 t4.length c3), (6, .int .i64 t5)] w R := by
  intro k
  induction k with
  | zero => intro t4 t5 A2 c3 w h hH; exact absurd h (by simp [charabancref29_Of_25.l0])
  | succ k ih =>
    intro t4 t5 A2 c3 w h hH
    rw [charabancref29_Of_25.l0.eq_2] at h
    refine RunsI.go 1 [.c 10, .c 15, .lp 9, .blk 0, .c 23] (by kernel_rfl) ?_
    refine RunsI.go 1 [.c 11, .c 12, .c 15, .lp 9, .blk 0, .c 23] (by kernel_rfl) ?_
    refine RunsI.region (by kernel_rfl) ?_
    refine RegI.pure 4 [0, 1, 5, 6, 10] [(0, .slice pA0 p0.length pc0), (1, .int .i64 p1), (5, .slice A2 t4.length c3), (6, .int .i64 t5), (10, .bool (decide (t5 < (p0.length : Int))))] (by kernel_rfl) ?_
    refine RegI.done (by kernel_rfl) ?_
    rcases of_cond h with ⟨hc6, h⟩ | ⟨hc6, h⟩
    · skip
      refine RunsI.fix 10 true hc6 (by kernel_rfl) (by kernel_rfl) ?_
      refine RunsI.cond true 13 (by kernel_rfl) ?_
      refine RunsI.go 1 [.c 15, .lp 9, .blk 0, .c 23] (by kernel_rfl) ?_
      refine RunsI.go 3 [.c 18, .c 19, .blk 1, .c 22, .lp 9, .blk 0, .c 23] (by kernel_rfl) ?_
      refine RunsI.region (by kernel_rfl) ?_
      refine RegI.pure 2 [0, 1, 5, 6, 13, 14] [(0, .slice pA0 p0.length pc0), (1, .int .i64 p1), (5, .slice A2 t4.length c3), (6, .int .i64 t5), (13, .slice pA0 p0.length pc0), (14, .int .i64 t5)] (by kernel_rfl) ?_
      obtain ⟨hc7, h⟩ := of_cond0 h
      refine RegI.op (by kernel_rfl) (OpE.idxSl 15 0 26 t5 hH (by kernel_rfl) rfl (by kernel_rfl) (by kernel_rfl) hc7 ?_)
      intro b8 o9 cs10 hk11 h12
      obtain ⟨_, _, rfl, rfl, ⟨_, _, rfl, rfl, ⟨_, _, rfl, rfl, ⟨_, _, rfl, rfl, ⟨_, _, rfl, rfl, rfl⟩⟩⟩⟩⟩ := hk11
      refine RegI.pure 1 [0, 1, 5, 6, 16] [(0, .slice pA0 p0.length pc0), (1, .int .i64 p1), (5, .slice A2 t4.length c3), (6, .int .i64 t5), (16, .pointer (some ⟨b8, o9 + 1, none⟩))] (by kernel_rfl) ?_
      refine RegI.op (by kernel_rfl) (OpE.loadCel 17 2 3 b8 o9 1 (.int .i64 ((rdD p0 t5).2.1)) h12 (by kernel_rfl) (by kernel_rfl) rfl (by kernel_rfl) ?_)
      refine RegI.pure 2 [0, 1, 5, 6, 19] [(0, .slice pA0 p0.length pc0), (1, .int .i64 p1), (5, .slice A2 t4.length c3), (6, .int .i64 t5), (19, .bool (((rdD p0 t5).2.1) == p1))] (by kernel_rfl) ?_
      refine RegI.done (by kernel_rfl) ?_
      rcases of_cond h with ⟨hc13, h⟩ | ⟨hc13, h⟩
      · skip
        refine RunsI.fix 19 true hc13 (by kernel_rfl) (by kernel_rfl) ?_
        refine RunsI.cond true 20 (by kernel_rfl) ?_
        refine RunsI.region (by kernel_rfl) ?_
        refine RegI.pure 3 [0, 1, 6, 20, 21, 22] [(0, .slice pA0 p0.length pc0), (1, .int .i64 p1), (6, .int .i64 t5), (20, .slice A2 t4.length c3), (21, .slice pA0 p0.length pc0), (22, .int .i64 t5)] (by kernel_rfl) ?_
        refine RegI.op (by kernel_rfl) (OpE.idxSl 23 0 26 t5 h12 (by kernel_rfl) rfl (by kernel_rfl) (by kernel_rfl) hc7 ?_)
        intro b14 o15 cs16 hk17 h18
        obtain ⟨_, _, rfl, rfl, ⟨_, _, rfl, rfl, ⟨_, _, rfl, rfl, ⟨_, _, rfl, rfl, ⟨_, _, rfl, rfl, rfl⟩⟩⟩⟩⟩ := hk17
        refine RegI.op (by kernel_rfl) (OpE.loadCel 24 3 54 b14 o15 0 (.agg #[.int .i64 ((rdD p0 t5).1), .int .i64 ((rdD p0 t5).2.1), .int .i64 ((rdD p0 t5).2.2.1), .int .u16 ((rdD p0 t5).2.2.2.1), .int .i64 ((rdD p0 t5).2.2.2.2.1), .int .u8 ((rdD p0 t5).2.2.2.2.2)]) h18 (by kernel_rfl) (by kernel_rfl) rfl (by kernel_rfl) ?_)
        refine RegI.op (by kernel_rfl) (OpE.lit 25 54 [.int .i64 ((rdD p0 t5).1), .int .i64 ((rdD p0 t5).2.1), .int .i64 ((rdD p0 t5).2.2.1), .int .u16 ((rdD p0 t5).2.2.2.1), .int .i64 ((rdD p0 t5).2.2.2.2.1), .int .u8 ((rdD p0 t5).2.2.2.2.2)] 1 h18 (by kernel_rfl) (by kernel_rfl) ?_)
        intro w19 b20 h21 hb22 hn23
        obtain ⟨hc24, h⟩ := of_cond0 h
        refine RegI.op (by kernel_rfl) (OpE.appendBox 26 1 4 26 54 48 ([((rdD p0 t5).1, (rdD p0 t5).2.1, (rdD p0 t5).2.2.1, (rdD p0 t5).2.2.2.1, (rdD p0 t5).2.2.2.2.1, (rdD p0 t5).2.2.2.2.2)] : List (Int × Int × Int × Int × Int × Int)) 0 h21 (by kernel_rfl) (by kernel_rfl) (by kernel_rfl) rfl rfl rfl (⟨[_, _, _, _, _, _], _, rfl, ⟨[_], [_, _, _, _, _], rfl, rfl, ⟨[_], [_, _, _, _], rfl, rfl, ⟨[_], [_, _, _], rfl, rfl, ⟨[_], [_, _], rfl, rfl, ⟨[_], [_], rfl, rfl, rfl⟩⟩⟩⟩⟩, rfl⟩) hc24 ?_)
        intro w25 A26 c27 h28 hk29
        refine RegI.pure 1 [0, 1, 5, 6] [(0, .slice pA0 p0.length pc0), (1, .int .i64 p1), (5, .slice A26 ((t4 ++ ([((rdD p0 t5).1, (rdD p0 t5).2.1, (rdD p0 t5).2.2.1, (rdD p0 t5).2.2.2.1, (rdD p0 t5).2.2.2.2.1, (rdD p0 t5).2.2.2.2.2)] : List (Int × Int × Int × Int × Int × Int))).length) c27), (6, .int .i64 t5)] (by kernel_rfl) ?_
        refine RegI.done (by kernel_rfl) ?_
        refine RunsI.go 1 [.c 22, .lp 9, .blk 0, .c 23] (by kernel_rfl) ?_
        refine RunsI.region (by kernel_rfl) ?_
        refine RegI.pure 3 [0, 1, 5, 6] [(0, .slice pA0 p0.length pc0), (1, .int .i64 p1), (5, .slice A26 ((t4 ++ ([((rdD p0 t5).1, (rdD p0 t5).2.1, (rdD p0 t5).2.2.1, (rdD p0 t5).2.2.2.1, (rdD p0 t5).2.2.2.2.1, (rdD p0 t5).2.2.2.2.2)] : List (Int × Int × Int × Int × Int × Int))).length) c27), (6, .int .i64 (IntKind.wrap .i64 (t5 + 1)))] (by kernel_rfl) ?_
        refine RegI.done (by kernel_rfl) ?_
        refine RunsI.go 1 [.c 9, .lp 9, .blk 0, .c 23] (by kernel_rfl) ?_
        refine RunsI.only [0, 1, 5, 6] [(0, .slice pA0 p0.length pc0), (1, .int .i64 p1), (5, .slice A26 ((t4 ++ ([((rdD p0 t5).1, (rdD p0 t5).2.1, (rdD p0 t5).2.2.1, (rdD p0 t5).2.2.2.1, (rdD p0 t5).2.2.2.2.1, (rdD p0 t5).2.2.2.2.2)] : List (Int × Int × Int × Int × Int × Int))).length) c27), (6, .int .i64 (IntKind.wrap .i64 (t5 + 1)))] (by kernel_rfl) (by kernel_rfl) ?_
        exact ih (t4 ++ ([((rdD p0 t5).1, (rdD p0 t5).2.1, (rdD p0 t5).2.2.1, (rdD p0 t5).2.2.2.1, (rdD p0 t5).2.2.2.2.1, (rdD p0 t5).2.2.2.2.2)] : List (Int × Int × Int × Int × Int × Int))) (IntKind.wrap .i64 (t5 + 1)) A26 c27 w25 h (h28.pick [0, 1] (by decide))
      · skip
        refine RunsI.fix 19 false hc13 (by kernel_rfl) (by kernel_rfl) ?_
        refine RunsI.cond false 21 (by kernel_rfl) ?_
        refine RunsI.go 1 [.blk 1, .c 22, .lp 9, .blk 0, .c 23] (by kernel_rfl) ?_
        refine RunsI.go 1 [.c 22, .lp 9, .blk 0, .c 23] (by kernel_rfl) ?_
        refine RunsI.region (by kernel_rfl) ?_
        refine RegI.pure 3 [0, 1, 5, 6] [(0, .slice pA0 p0.length pc0), (1, .int .i64 p1), (5, .slice A2 t4.length c3), (6, .int .i64 (IntKind.wrap .i64 (t5 + 1)))] (by kernel_rfl) ?_
        refine RegI.done (by kernel_rfl) ?_
        refine RunsI.go 1 [.c 9, .lp 9, .blk 0, .c 23] (by kernel_rfl) ?_
        refine RunsI.only [0, 1, 5, 6] [(0, .slice pA0 p0.length pc0), (1, .int .i64 p1), (5, .slice A2 t4.length c3), (6, .int .i64 (IntKind.wrap .i64 (t5 + 1)))] (by kernel_rfl) (by kernel_rfl) ?_
        exact ih t4 (IntKind.wrap .i64 (t5 + 1)) A2 c3 w h (h12.pick [0, 1] (by decide))
    · skip
      refine RunsI.fix 10 false hc6 (by kernel_rfl) (by kernel_rfl) ?_
      refine RunsI.cond false 14 (by kernel_rfl) ?_
      refine RunsI.go 1 [.c 23] (by kernel_rfl) ?_
      refine RunsI.only [5] [(5, .slice A2 t4.length c3)] (by kernel_rfl) (by kernel_rfl) ?_
      exact hk0 t4 A2 c3 w (Option.some.inj h).symm (hH.pick [1] (by decide))
def charabancref29_Of_25.f (K : Nat) (p0 : List (Int × Int × Int × Int × Int × Int)) (p1 : Int) : Option (List (Int × Int × Int × Int × Int × Int)) := (charabancref29_Of_25.l0 K p0 p1 K ([] : List (Int × Int × Int × Int × Int × Int)) 0).bind (fun t37 => some t37)
set_option maxRecDepth 100000 in
theorem charabancref29_Of_25_ok (K : Nat) (M0 : Nat → Prop) (w0 : World) (pA0 : Option Addr) (pc0 : Nat) (p0 : List (Int × Int × Int × Int × Int × Int)) (p1 : Int) (ho : ∀ b, M0 b → b < w0.heap.size) (hs0 : Sl (Rp.pair (Rp.int .i64) (Rp.pair (Rp.int .i64) (Rp.pair (Rp.int .i64) (Rp.pair (Rp.int .u16) (Rp.pair (Rp.int .i64) (Rp.int .u8)))))) w0 M0 (.slice pA0 p0.length pc0) p0) {r : (List (Int × Int × Int × Int × Int × Int))} (h : charabancref29_Of_25.f K p0 p1 = some r) :
    Calls Tryd.prog 25 #[.slice pA0 p0.length pc0, .int .i64 p1] w0 (charabancref29_Of_25.post M0 w0 r) := by
  unfold charabancref29_Of_25.f at h
  have h0 : Holds M0 w0 w0 [] := Holds.start ho
  have h00 := h0.addSl (Rp.pair (Rp.int .i64) (Rp.pair (Rp.int .i64) (Rp.pair (Rp.int .i64) (Rp.pair (Rp.int .u16) (Rp.pair (Rp.int .i64) (Rp.int .u8)))))) (.slice pA0 p0.length pc0) p0 (hs0.mono (fun _ _ hm => hm.elim id (fun hm => absurd hm (by simp [mines, sl]))))
  have h0 : Holds M0 w0 w0 [sl (Rp.pair (Rp.int .i64) (Rp.pair (Rp.int .i64) (Rp.pair (Rp.int .i64) (Rp.pair (Rp.int .u16) (Rp.pair (Rp.int .i64) (Rp.int .u8)))))) (.slice pA0 p0.length pc0) p0] := h00
  refine calls_of F25 rfl [.slice pA0 p0.length pc0, .int .i64 p1] (by kernel_rfl) ?_
  refine RunsI.go 1 [.c 1, .c 2] (by kernel_rfl) ?_
  refine RunsI.region (by kernel_rfl) ?_
  refine RegI.pure 1 [0, 1] [(0, .slice pA0 p0.length pc0), (1, .int .i64 p1)] (by kernel_rfl) ?_
  refine RegI.done (by kernel_rfl) ?_
  refine RunsI.go 1 [.c 3, .c 4] (by kernel_rfl) ?_
  refine RunsI.region (by kernel_rfl) ?_
  refine RegI.pure 1 [0, 1, 5] [(0, .slice pA0 p0.length pc0), (1, .int .i64 p1), (5, .slice none 0 0)] (by kernel_rfl) ?_
  refine RegI.done (by kernel_rfl) ?_
  refine RunsI.go 2 [.c 6, .c 7, .c 23] (by kernel_rfl) ?_
  refine RunsI.region (by kernel_rfl) ?_
  refine RegI.pure 1 [0, 1, 5, 6] [(0, .slice pA0 p0.length pc0), (1, .int .i64 p1), (5, .slice none 0 0), (6, .int .i64 0)] (by kernel_rfl) ?_
  refine RegI.done (by kernel_rfl) ?_
  refine RunsI.go 2 [.c 9, .lp 9, .blk 0, .c 23] (by kernel_rfl) ?_
  obtain ⟨x33, hx34, h⟩ := of_bind h
  have h1 := h0.addOwnNil (Rp.pair (Rp.int .i64) (Rp.pair (Rp.int .i64) (Rp.pair (Rp.int .i64) (Rp.pair (Rp.int .u16) (Rp.pair (Rp.int .i64) (Rp.int .u8)))))) 54
  refine RunsI.only [0, 1, 5, 6] [(0, .slice pA0 p0.length pc0), (1, .int .i64 p1), (5, .slice none (([] : List (Int × Int × Int × Int × Int × Int)).length) 0), (6, .int .i64 0)] (by kernel_rfl) (by kernel_rfl) ?_
  refine charabancref29_Of_25.l0_ok K M0 w0 pA0 pc0 p0 p1 _ x33 ?_ K ([] : List (Int × Int × Int × Int × Int × Int)) 0 none 0 w0 hx34 (h1.pick [0, 1] (by decide))
  · intro t37 A35 c36 w39 hq40 h38
    (try rw [hq40] at h)
    refine RunsI.go 1 [.c 24, .c 25] (by kernel_rfl) ?_
    refine RunsI.region (by kernel_rfl) ?_
    refine RegI.pure 2 [4] [(4, .slice A35 t37.length c36)] (by kernel_rfl) ?_
    refine RegI.done (by kernel_rfl) ?_
    refine RunsI.ret (.slice A35 t37.length c36) (by kernel_rfl) (by kernel_rfl) ?_
    obtain rfl := Option.some.inj h
    exact ⟨A35, c36, rfl, h38.pick [0] (by decide)⟩
end

/-! ### charabanc/charabancref29.Counts (function 20) -/
section
def charabancref29_Counts_20.post (M0 : Nat → Prop) (w0 : World) (r : (List Int)) : Ending → World → Prop := fun e w => e = .returned (.agg (List.flatMap (fun (x : Int) => ([.int .i64 x] : List Value)) r).toArray) ∧ Below w0.heap.size w0 w
def charabancref29_Counts_20.l0 (K : Nat) (p0 : List (Int × Int × Int × Int × Int × Int)) : Nat → (List Int) → Int → Option (List Int)
  | 0, _, _ => none
  | k + 1, t13, t14 => cond (decide (t14 < 4)) ((charabancref29_Of_25.f K p0 t14).bind fun t20 => cond (inR t14 4) (cond (inR t14 t13.length) (charabancref29_Counts_20.l0 K p0 k (stD t13 t14 (t20.length : Int)) (IntKind.wrap .i64 (t14 + 1))) none) none) (some t13)
set_option maxRecDepth 100000 in
theorem charabancref29_Counts_20.l0_ok (K : Nat) (M0 : Nat → Prop) (w0 : World) (pA0 : Option Addr) (pc0 : Nat) (p0 : List (Int × Int × Int × Int × Int × Int)) (b11 : Nat) (b12 : Nat) (R : Ending → World → Prop) (x : (List Int)) (hk0 : ∀ (t30 : List Int) (w1 : World), x = t30 → Holds M0 w0 w1 [box b11 43 (List.flatMap (fun (x : Int) => ([.int .i64 x] : List Value)) (List.replicate 4 0)), box b12 43 (List.flatMap (fun (x : Int) => ([.int .i64 x] : List Value)) t30)] → RunsI F20 [.c 19] [(2, .pointer (some ⟨b11, 0, none⟩)), (3, .pointer (some ⟨b12, 0, none⟩))] w1 R) :
    ∀ (k : Nat) (t13 : List Int) (t14 : Int) (w : World), charabancref29_Counts_20.l0 K p0 k t13 t14 = some x → Holds M0 w0 w [sl (Rp.pair (Rp.int .i64) (Rp.pair (Rp.int .i64) (Rp.pair (Rp.int .i64) (Rp.pair (Rp.int .u16) (Rp.pair (Rp.int .i64) (Rp.int .u8)))))) (.slice pA0 p0.length pc0) p0, box b11 43 (List.flatMap (fun (x : Int) => ([.int .i64 x] : List Value)) (List.replicate 4 0)), box b12 43 (List.flatMap (fun (x : Int) => ([.int .i64 x] : List Value)) t13)] → RunsI F20 [.c 9, .lp 9, .blk 0, .c 19] [(0, .slice pA0 p0.length pc0), (2, .pointer (some ⟨b11, 0, none⟩)), (3, .pointer (some ⟨b12, 0, none⟩)), (4, .int .i64 t14)] w R := by
  intro k
  induction k with
  | zero => intro t13 t14 w h hH; exact absurd h (by simp [charabancref29_Counts_20.l0])
  | succ k ih =>
    intro t13 t14 w h hH
    rw [charabancref29_Counts_20.l0.eq_2] at h
    refine RunsI.go 1 [.c 10, .c 15, .lp 9, .blk 0, .c 19] (by kernel_rfl) ?_
    refine RunsI.go 1 [.c 11, .c 12, .c 15, .lp 9, .blk 0, .c 19] (by kernel_rfl) ?_
    refine RunsI.region (by kernel_rfl) ?_
    refine RegI.pure 2 [0, 2, 3, 4, 6] [(0, .slice pA0 p0.length pc0), (2, .pointer (some ⟨b11, 0, none⟩)), (3, .pointer (some ⟨b12, 0, none⟩)), (4, .int .i64 t14), (6, .bool (decide (t14 < 4)))] (by kernel_rfl) ?_
    refine RegI.done (by kernel_rfl) ?_
    rcases of_cond h with ⟨hc15, h⟩ | ⟨hc15, h⟩
    · skip
      refine RunsI.fix 6 true hc15 (by kernel_rfl) (by kernel_rfl) ?_
      refine RunsI.cond true 13 (by kernel_rfl) ?_
      refine RunsI.go 1 [.c 15, .lp 9, .blk 0, .c 19] (by kernel_rfl) ?_
      refine RunsI.go 2 [.c 17, .blk 1, .c 18, .lp 9, .blk 0, .c 19] (by kernel_rfl) ?_
      refine RunsI.region (by kernel_rfl) ?_
      refine RegI.pure 3 [0, 2, 3, 4, 9, 10, 11] [(0, .slice pA0 p0.length pc0), (2, .pointer (some ⟨b11, 0, none⟩)), (3, .pointer (some ⟨b12, 0, none⟩)), (4, .int .i64 t14), (9, .int .i64 t14), (10, .slice pA0 p0.length pc0), (11, .int .i64 t14)] (by kernel_rfl) ?_
      obtain ⟨t20, hg19, h⟩ := of_bind h
      refine RegI.op (by kernel_rfl) (OpE.call 12 (by kernel_rfl) 25 #[.slice pA0 p0.length pc0, .int .i64 t14] (by kernel_rfl) ((charabancref29_Of_25_ok K _ w  pA0 pc0 p0 t14 hH.old' (hH.get 0 rfl) hg19).mono ?_))
      rintro _ w16 ⟨A21, c22, rfl, hr24⟩
      refine ⟨_, rfl, ?_⟩
      have hb17 := hr24.below
      have h18 := hH.join hr24
      refine RegI.pure 1 [0, 2, 3, 4, 9, 13] [(0, .slice pA0 p0.length pc0), (2, .pointer (some ⟨b11, 0, none⟩)), (3, .pointer (some ⟨b12, 0, none⟩)), (4, .int .i64 t14), (9, .int .i64 t14), (13, .int .i64 (t20.length : Int))] (by kernel_rfl) ?_
      obtain ⟨hc25, h⟩ := of_cond0 h
      refine RegI.op (by kernel_rfl) (OpE.run 14 (by kernel_rfl) (run_idxArr (T := 43) (b := b12) (o := 0) (ix := t14) (len := 4) (s := 1) (by kernel_rfl) (by kernel_rfl) hc25) ?_)
      obtain ⟨hc26, h⟩ := of_cond0 h
      refine RegI.op (by kernel_rfl) (OpE.storeArr (en := (fun (x : Int) => ([.int .i64 x] : List Value))) 2 3 b12 1 t14 (.int .i64 (t20.length : Int)) (xs := t13) (t20.length : Int) (o := 0 + (Int.toNat t14) * 1) h18 (by kernel_rfl) (by kernel_rfl) rfl (fun _ => rfl) (by omega) (by kernel_rfl) (by kernel_rfl) hc26 ?_)
      intro w27 h28 hk29
      refine RegI.done (by kernel_rfl) ?_
      refine RunsI.go 1 [.c 18, .lp 9, .blk 0, .c 19] (by kernel_rfl) ?_
      refine RunsI.region (by kernel_rfl) ?_
      refine RegI.pure 3 [0, 2, 3, 4] [(0, .slice pA0 p0.length pc0), (2, .pointer (some ⟨b11, 0, none⟩)), (3, .pointer (some ⟨b12, 0, none⟩)), (4, .int .i64 (IntKind.wrap .i64 (t14 + 1)))] (by kernel_rfl) ?_
      refine RegI.done (by kernel_rfl) ?_
      refine RunsI.go 1 [.c 9, .lp 9, .blk 0, .c 19] (by kernel_rfl) ?_
      refine RunsI.only [0, 2, 3, 4] [(0, .slice pA0 p0.length pc0), (2, .pointer (some ⟨b11, 0, none⟩)), (3, .pointer (some ⟨b12, 0, none⟩)), (4, .int .i64 (IntKind.wrap .i64 (t14 + 1)))] (by kernel_rfl) (by kernel_rfl) ?_
      exact ih (stD t13 t14 (t20.length : Int)) (IntKind.wrap .i64 (t14 + 1)) w27 h (h28.pick [0, 1, 2] (by decide))
    · skip
      refine RunsI.fix 6 false hc15 (by kernel_rfl) (by kernel_rfl) ?_
      refine RunsI.cond false 14 (by kernel_rfl) ?_
      refine RunsI.go 1 [.c 19] (by kernel_rfl) ?_
      refine RunsI.only [2, 3] [(2, .pointer (some ⟨b11, 0, none⟩)), (3, .pointer (some ⟨b12, 0, none⟩))] (by kernel_rfl) (by kernel_rfl) ?_
      exact hk0 t13 w (Option.some.inj h).symm (hH.pick [1, 2] (by decide))
def charabancref29_Counts_20.f (K : Nat) (p0 : List (Int × Int × Int × Int × Int × Int)) : Option (List Int) := (charabancref29_Counts_20.l0 K p0 K (List.replicate 4 0) 0).bind (fun t33 => cond (Nat.beq t33.length 4) (some t33) none)
set_option maxRecDepth 100000 in
theorem charabancref29_Counts_20_ok (K : Nat) (M0 : Nat → Prop) (w0 : World) (pA0 : Option Addr) (pc0 : Nat) (p0 : List (Int × Int × Int × Int × Int × Int)) (ho : ∀ b, M0 b → b < w0.heap.size) (hs0 : Sl (Rp.pair (Rp.int .i64) (Rp.pair (Rp.int .i64) (Rp.pair (Rp.int .i64) (Rp.pair (Rp.int .u16) (Rp.pair (Rp.int .i64) (Rp.int .u8)))))) w0 M0 (.slice pA0 p0.length pc0) p0) {r : (List Int)} (h : charabancref29_Counts_20.f K p0 = some r) :
    Calls Tryd.prog 20 #[.slice pA0 p0.length pc0] w0 (charabancref29_Counts_20.post M0 w0 r) := by
  unfold charabancref29_Counts_20.f at h
  have h0 : Holds M0 w0 w0 [] := Holds.start ho
  have h00 := h0.addSl (Rp.pair (Rp.int .i64) (Rp.pair (Rp.int .i64) (Rp.pair (Rp.int .i64) (Rp.pair (Rp.int .u16) (Rp.pair (Rp.int .i64) (Rp.int .u8)))))) (.slice pA0 p0.length pc0) p0 (hs0.mono (fun _ _ hm => hm.elim id (fun hm => absurd hm (by simp [mines, sl]))))
  have h0 : Holds M0 w0 w0 [sl (Rp.pair (Rp.int .i64) (Rp.pair (Rp.int .i64) (Rp.pair (Rp.int .i64) (Rp.pair (Rp.int .u16) (Rp.pair (Rp.int .i64) (Rp.int .u8)))))) (.slice pA0 p0.length pc0) p0] := h00
  refine calls_of F20 rfl [.slice pA0 p0.length pc0] (by kernel_rfl) ?_
  refine RunsI.go 1 [.c 1, .c 2] (by kernel_rfl) ?_
  refine RunsI.region (by kernel_rfl) ?_
  refine RegI.op (by kernel_rfl) (OpE.box 2 43 (List.flatMap (fun (x : Int) => ([.int .i64 x] : List Value)) (List.replicate 4 0)) h0 (by kernel_rfl) (by kernel_rfl) ?_)
  intro w1 b2 h3 hb4 hn5
  refine RegI.done (by kernel_rfl) ?_
  refine RunsI.go 1 [.c 3, .c 4] (by kernel_rfl) ?_
  refine RunsI.region (by kernel_rfl) ?_
  refine RegI.op (by kernel_rfl) (OpE.box 3 43 (List.flatMap (fun (x : Int) => ([.int .i64 x] : List Value)) (List.replicate 4 0)) h3 (by kernel_rfl) (by kernel_rfl) ?_)
  intro w6 b7 h8 hb9 hn10
  refine RegI.done (by kernel_rfl) ?_
  refine RunsI.go 2 [.c 6, .c 7, .c 19] (by kernel_rfl) ?_
  refine RunsI.region (by kernel_rfl) ?_
  refine RegI.pure 1 [0, 2, 3, 4] [(0, .slice pA0 p0.length pc0), (2, .pointer (some ⟨b2, 0, none⟩)), (3, .pointer (some ⟨b7, 0, none⟩)), (4, .int .i64 0)] (by kernel_rfl) ?_
  refine RegI.done (by kernel_rfl) ?_
  refine RunsI.go 2 [.c 9, .lp 9, .blk 0, .c 19] (by kernel_rfl) ?_
  obtain ⟨x31, hx32, h⟩ := of_bind h
  refine RunsI.only [0, 2, 3, 4] [(0, .slice pA0 p0.length pc0), (2, .pointer (some ⟨b2, 0, none⟩)), (3, .pointer (some ⟨b7, 0, none⟩)), (4, .int .i64 0)] (by kernel_rfl) (by kernel_rfl) ?_
  refine charabancref29_Counts_20.l0_ok K M0 w0 pA0 pc0 p0 b2 b7 _ x31 ?_ K (List.replicate 4 0) 0 w6 hx32 (h8.pick [0, 1, 2] (by decide))
  · intro t33 w35 hq40 h34
    (try rw [hq40] at h)
    refine RunsI.go 1 [.c 20, .c 21] (by kernel_rfl) ?_
    refine RunsI.region (by kernel_rfl) ?_
    obtain ⟨hc36, h⟩ := of_cond0 h
    refine RegI.op (by kernel_rfl) (OpE.loadBox 15 1 43 b7 0 (.agg (List.flatMap (fun (x : Int) => ([.int .i64 x] : List Value)) t33).toArray) h34 (by kernel_rfl) (by kernel_rfl) rfl (loadV_arr (en := (fun (x : Int) => ([.int .i64 x] : List Value))) (len := 4) (sz := 1) (m := 4) (fun _ => rfl) (by kernel_rfl) (by kernel_rfl) rfl hc36) ?_)
    refine RegI.op (by kernel_rfl) (OpE.storeArrAll (en := (fun (x : Int) => ([.int .i64 x] : List Value))) 0 43 b2 4 1 4 t33 h34 (by kernel_rfl) (by kernel_rfl) rfl (fun _ => rfl) (fun _ => rfl) (by kernel_rfl) rfl (flat_m (sz := 1) (len := 4) (fun _ => rfl) (by kernel_rfl) rfl) hc36 ?_)
    intro w37 h38 hk39
    refine RegI.done (by kernel_rfl) ?_
    refine RunsI.toRet (by kernel_rfl) ?_
    refine RetI.valW [.cell 2 43] [.agg (List.flatMap (fun (x : Int) => ([.int .i64 x] : List Value)) t33).toArray] (.agg (List.flatMap (fun (x : Int) => ([.int .i64 x] : List Value)) t33).toArray) (by kernel_rfl) (ResAt.box 0 43 b2 0 h38 (by kernel_rfl) (by kernel_rfl) rfl (loadV_arr (en := (fun (x : Int) => ([.int .i64 x] : List Value))) (len := 4) (sz := 1) (m := 4) (fun _ => rfl) (by kernel_rfl) (by kernel_rfl) rfl hc36) rfl) (by kernel_rfl) ?_
    obtain rfl := Option.some.inj h
    exact ⟨rfl, h38.below⟩
end

/-! ### charabanc/charabancref29.first (function 51) -/
section
def charabancref29_first_51.post (M0 : Nat → Prop) (w0 : World) (r : Int) : Ending → World → Prop := fun e w => e = .returned (.int .i64 r) ∧ Below w0.heap.size w0 w
def charabancref29_first_51.l0 (K : Nat) (p0 : List (Int × Int × Int × Int × Int × Int)) (p1 : Int) : Nat → Int → Option (Lp Int Unit)
  | 0, _ => none
  | k + 1, t1 => cond (decide (t1 < (p0.length : Int))) (cond (inR t1 p0.length) (cond (((rdD p0 t1).2.1) == p1) (some (Lp.ret t1)) (charabancref29_first_51.l0 K p0 p1 k (IntKind.wrap .i64 (t1 + 1)))) none) (some (Lp.go ()))
set_option maxRecDepth 100000 in
theorem charabancref29_first_51.l0_ok (K : Nat) (M0 : Nat → Prop) (w0 : World) (pA0 : Option Addr) (pc0 : Nat) (p0 : List (Int × Int × Int × Int × Int × Int)) (p1 : Int) (R : Ending → World → Prop) (x : Lp Int Unit) (hk0 : ∀ (w1 : World), x = Lp.go () → Holds M0 w0 w1 [] → RunsI F51 [.c 23] [] w1 R) (hk1 : ∀ (t10 : Int) (w1 : World), x = Lp.ret t10 → Holds M0 w0 w1 [] → R (.returned (.int .i64 t10)) w1) :
    ∀ (k : Nat) (t1 : Int) (w : World), charabancref29_first_51.l0 K p0 p1 k t1 = some x → Holds M0 w0 w [sl (Rp.pair (Rp.int .i64) (Rp.pair (Rp.int .i64) (Rp.pair (Rp.int .i64) (Rp.pair (Rp.int .u16) (Rp.pair (Rp.int .i64) (Rp.int .u8)))))) (.slice pA0 p0.length pc0) p0] → RunsI F51 [.c 7, .lp 7, .blk 0, .c 23] [(0, .slice pA0 p0.length pc0), (1, .int .i64 p1), (5, .int .i64 t1)] w R := by
  intro k
  induction k with
  | zero => intro t1 w h hH; exact absurd h (by simp [charabancref29_first_51.l0])
  | succ k ih =>
    intro t1 w h hH
    rw [charabancref29_first_51.l0.eq_2] at h
    refine RunsI.go 1 [.c 8, .c 13, .lp 7, .blk 0, .c 23] (by kernel_rfl) ?_
    refine RunsI.go 1 [.c 9, .c 10, .c 13, .lp 7, .blk 0, .c 23] (by kernel_rfl) ?_
    refine RunsI.region (by kernel_rfl) ?_
    refine RegI.pure 4 [0, 1, 5, 9] [(0, .slice pA0 p0.length pc0), (1, .int .i64 p1), (5, .int .i64 t1), (9, .bool (decide (t1 < (p0.length : Int))))] (by kernel_rfl) ?_
    refine RegI.done (by kernel_rfl) ?_
    rcases of_cond h with ⟨hc2, h⟩ | ⟨hc2, h⟩
    · skip
      refine RunsI.fix 9 true hc2 (by kernel_rfl) (by kernel_rfl) ?_
      refine RunsI.cond true 11 (by kernel_rfl) ?_
      refine RunsI.go 1 [.c 13, .lp 7, .blk 0, .c 23] (by kernel_rfl) ?_
      refine RunsI.go 3 [.c 16, .c 17, .blk 1, .c 22, .lp 7, .blk 0, .c 23] (by kernel_rfl) ?_
      refine RunsI.region (by kernel_rfl) ?_
      refine RegI.pure 2 [0, 1, 5, 12, 13] [(0, .slice pA0 p0.length pc0), (1, .int .i64 p1), (5, .int .i64 t1), (12, .slice pA0 p0.length pc0), (13, .int .i64 t1)] (by kernel_rfl) ?_
      obtain ⟨hc3, h⟩ := of_cond0 h
      refine RegI.op (by kernel_rfl) (OpE.idxSl 14 0 26 t1 hH (by kernel_rfl) rfl (by kernel_rfl) (by kernel_rfl) hc3 ?_)
      intro b4 o5 cs6 hk7 h8
      obtain ⟨_, _, rfl, rfl, ⟨_, _, rfl, rfl, ⟨_, _, rfl, rfl, ⟨_, _, rfl, rfl, ⟨_, _, rfl, rfl, rfl⟩⟩⟩⟩⟩ := hk7
      refine RegI.pure 1 [0, 1, 5, 15] [(0, .slice pA0 p0.length pc0), (1, .int .i64 p1), (5, .int .i64 t1), (15, .pointer (some ⟨b4, o5 + 1, none⟩))] (by kernel_rfl) ?_
      refine RegI.op (by kernel_rfl) (OpE.loadCel 16 1 3 b4 o5 1 (.int .i64 ((rdD p0 t1).2.1)) h8 (by kernel_rfl) (by kernel_rfl) rfl (by kernel_rfl) ?_)
      refine RegI.pure 2 [0, 1, 5, 18] [(0, .slice pA0 p0.length pc0), (1, .int .i64 p1), (5, .int .i64 t1), (18, .bool (((rdD p0 t1).2.1) == p1))] (by kernel_rfl) ?_
      refine RegI.done (by kernel_rfl) ?_
      rcases of_cond h with ⟨hc9, h⟩ | ⟨hc9, h⟩
      · skip
        refine RunsI.fix 18 true hc9 (by kernel_rfl) (by kernel_rfl) ?_
        refine RunsI.cond true 18 (by kernel_rfl) ?_
        refine RunsI.go 1 [.c 19, .c 20, .blk 1, .c 22, .lp 7, .blk 0, .c 23] (by kernel_rfl) ?_
        refine RunsI.region (by kernel_rfl) ?_
        refine RegI.pure 2 [4] [(4, .int .i64 t1)] (by kernel_rfl) ?_
        refine RegI.done (by kernel_rfl) ?_
        refine RunsI.ret (.int .i64 t1) (by kernel_rfl) (by kernel_rfl) ?_
        exact hk1 t1 w (Option.some.inj h).symm (h8.pick [] (by decide))
      · skip
        refine RunsI.fix 18 false hc9 (by kernel_rfl) (by kernel_rfl) ?_
        refine RunsI.cond false 21 (by kernel_rfl) ?_
        refine RunsI.go 1 [.blk 1, .c 22, .lp 7, .blk 0, .c 23] (by kernel_rfl) ?_
        refine RunsI.go 1 [.c 22, .lp 7, .blk 0, .c 23] (by kernel_rfl) ?_
        refine RunsI.region (by kernel_rfl) ?_
        refine RegI.pure 3 [0, 1, 5] [(0, .slice pA0 p0.length pc0), (1, .int .i64 p1), (5, .int .i64 (IntKind.wrap .i64 (t1 + 1)))] (by kernel_rfl) ?_
        refine RegI.done (by kernel_rfl) ?_
        refine RunsI.go 1 [.c 7, .lp 7, .blk 0, .c 23] (by kernel_rfl) ?_
        refine RunsI.only [0, 1, 5] [(0, .slice pA0 p0.length pc0), (1, .int .i64 p1), (5, .int .i64 (IntKind.wrap .i64 (t1 + 1)))] (by kernel_rfl) (by kernel_rfl) ?_
        exact ih (IntKind.wrap .i64 (t1 + 1)) w h (h8.pick [0] (by decide))
    · skip
      refine RunsI.fix 9 false hc2 (by kernel_rfl) (by kernel_rfl) ?_
      refine RunsI.cond false 12 (by kernel_rfl) ?_
      refine RunsI.go 1 [.c 23] (by kernel_rfl) ?_
      refine RunsI.only [] [] (by kernel_rfl) (by kernel_rfl) ?_
      exact hk0 w (Option.some.inj h).symm (hH.pick [] (by decide))
def charabancref29_first_51.f (K : Nat) (p0 : List (Int × Int × Int × Int × Int × Int)) (p1 : Int) : Option Int := (charabancref29_first_51.l0 K p0 p1 K 0).bind (fun x11 => Lp.elim x11 (fun t15 => some t15) (fun _ => some (-1)))
set_option maxRecDepth 100000 in
theorem charabancref29_first_51_ok (K : Nat) (M0 : Nat → Prop) (w0 : World) (pA0 : Option Addr) (pc0 : Nat) (p0 : List (Int × Int × Int × Int × Int × Int)) (p1 : Int) (ho : ∀ b, M0 b → b < w0.heap.size) (hs0 : Sl (Rp.pair (Rp.int .i64) (Rp.pair (Rp.int .i64) (Rp.pair (Rp.int .i64) (Rp.pair (Rp.int .u16) (Rp.pair (Rp.int .i64) (Rp.int .u8)))))) w0 M0 (.slice pA0 p0.length pc0) p0) {r : Int} (h : charabancref29_first_51.f K p0 p1 = some r) :
    Calls Tryd.prog 51 #[.slice pA0 p0.length pc0, .int .i64 p1] w0 (charabancref29_first_51.post M0 w0 r) := by
  unfold charabancref29_first_51.f at h
  have h0 : Holds M0 w0 w0 [] := Holds.start ho
  have h00 := h0.addSl (Rp.pair (Rp.int .i64) (Rp.pair (Rp.int .i64) (Rp.pair (Rp.int .i64) (Rp.pair (Rp.int .u16) (Rp.pair (Rp.int .i64) (Rp.int .u8)))))) (.slice pA0 p0.length pc0) p0 (hs0.mono (fun _ _ hm => hm.elim id (fun hm => absurd hm (by simp [mines, sl]))))
  have h0 : Holds M0 w0 w0 [sl (Rp.pair (Rp.int .i64) (Rp.pair (Rp.int .i64) (Rp.pair (Rp.int .i64) (Rp.pair (Rp.int .u16) (Rp.pair (Rp.int .i64) (Rp.int .u8)))))) (.slice pA0 p0.length pc0) p0] := h00
  refine calls_of F51 rfl [.slice pA0 p0.length pc0, .int .i64 p1] (by kernel_rfl) ?_
  refine RunsI.go 1 [.c 1, .c 2] (by kernel_rfl) ?_
  refine RunsI.region (by kernel_rfl) ?_
  refine RegI.pure 1 [0, 1] [(0, .slice pA0 p0.length pc0), (1, .int .i64 p1)] (by kernel_rfl) ?_
  refine RegI.done (by kernel_rfl) ?_
  refine RunsI.go 2 [.c 4, .c 5, .c 23] (by kernel_rfl) ?_
  refine RunsI.region (by kernel_rfl) ?_
  refine RegI.pure 1 [0, 1, 5] [(0, .slice pA0 p0.length pc0), (1, .int .i64 p1), (5, .int .i64 0)] (by kernel_rfl) ?_
  refine RegI.done (by kernel_rfl) ?_
  refine RunsI.go 2 [.c 7, .lp 7, .blk 0, .c 23] (by kernel_rfl) ?_
  obtain ⟨x11, hx12, h⟩ := of_bind h
  refine RunsI.only [0, 1, 5] [(0, .slice pA0 p0.length pc0), (1, .int .i64 p1), (5, .int .i64 0)] (by kernel_rfl) (by kernel_rfl) ?_
  refine charabancref29_first_51.l0_ok K M0 w0 pA0 pc0 p0 p1 _ x11 ?_ ?_ K 0 w0 hx12 (h0.pick [0] (by decide))
  · intro w14 hq18 h13
    (try rw [hq18] at h)
    dsimp only [Lp.elim] at h
    refine RunsI.go 1 [.c 24, .c 25] (by kernel_rfl) ?_
    refine RunsI.region (by kernel_rfl) ?_
    refine RegI.pure 1 [4] [(4, .int .i64 (-1))] (by kernel_rfl) ?_
    refine RegI.done (by kernel_rfl) ?_
    refine RunsI.ret (.int .i64 (-1)) (by kernel_rfl) (by kernel_rfl) ?_
    obtain rfl := Option.some.inj h
    exact ⟨rfl, h13.below⟩
  · intro t15 w17 hq19 h16
    (try rw [hq19] at h)
    dsimp only [Lp.elim] at h
    obtain rfl := Option.some.inj h
    exact ⟨rfl, h16.below⟩
end

/-! ### charabanc/charabancref29.last (function 52) -/
section
def charabancref29_last_52.post (M0 : Nat → Prop) (w0 : World) (r : Int) : Ending → World → Prop := fun e w => e = .returned (.int .i64 r) ∧ Below w0.heap.size w0 w
def charabancref29_last_52.l0 (K : Nat) (p0 : List (Int × Int × Int × Int × Int × Int)) (p1 : Int) : Nat → Int → Option (Lp Int Unit)
  | 0, _ => none
  | k + 1, t1 => cond (decide (t1 ≥ 0)) (cond (inR t1 p0.length) (cond (((rdD p0 t1).2.1) == p1) (some (Lp.ret t1)) (charabancref29_last_52.l0 K p0 p1 k (IntKind.wrap .i64 (t1 - 1)))) none) (some (Lp.go ()))
set_option maxRecDepth 100000 in
theorem charabancref29_last_52.l0_ok (K : Nat) (M0 : Nat → Prop) (w0 : World) (pA0 : Option Addr) (pc0 : Nat) (p0 : List (Int × Int × Int × Int × Int × Int)) (p1 : Int) (R : Ending → World → Prop) (x : Lp Int Unit) (hk0 : ∀ (w1 : World), x = Lp.go () → Holds M0 w0 w1 [] → RunsI F52 [.c 23] [] w1 R) (hk1 : ∀ (t10 : Int) (w1 : World), x = Lp.ret t10 → Holds M0 w0 w1 [] → R (.returned (.int .i64 t10)) w1) :
    ∀ (k : Nat) (t1 : Int) (w : World), charabancref29_last_52.l0 K p0 p1 k t1 = some x → Holds M0 w0 w [sl (Rp.pair (Rp.int .i64) (Rp.pair (Rp.int .i64) (Rp.pair (Rp.int .i64) (Rp.pair (Rp.int .u16) (Rp.pair (Rp.int .i64) (Rp.int .u8)))))) (.slice pA0 p0.length pc0) p0] → RunsI F52 [.c 7, .lp 7, .blk 0, .c 23] [(0, .slice pA0 p0.length pc0), (1, .int .i64 p1), (5, .int .i64 t1)] w R := by
  intro k
  induction k with
  | zero => intro t1 w h hH; exact absurd h (by simp [charabancref29_last_52.l0])
  | succ k ih =>
    intro t1 w h hH
    rw [charabancref29_last_52.l0.eq_2] at h
    refine RunsI.go 1 [.c 8, .c 13, .lp 7, .blk 0, .c 23] (by kernel_rfl) ?_
    refine RunsI.go 1 [.c 9, .c 10, .c 13, .lp 7, .blk 0, .c 23] (by kernel_rfl) ?_
    refine RunsI.region (by kernel_rfl) ?_
    refine RegI.pure 2 [0, 1, 5, 10] [(0, .slice pA0 p0.length pc0), (1, .int .i64 p1), (5, .int .i64 t1), (10, .bool (decide (t1 ≥ 0)))] (by kernel_rfl) ?_
    refine RegI.done (by kernel_rfl) ?_
    rcases of_cond h with ⟨hc2, h⟩ | ⟨hc2, h⟩
    · skip
      refine RunsI.fix 10 true hc2 (by kernel_rfl) (by kernel_rfl) ?_
      refine RunsI.cond true 11 (by kernel_rfl) ?_
      refine RunsI.go 1 [.c 13, .lp 7, .blk 0, .c 23] (by kernel_rfl) ?_
      refine RunsI.go 3 [.c 16, .c 17, .blk 1, .c 22, .lp 7, .blk 0, .c 23] (by kernel_rfl) ?_
      refine RunsI.region (by kernel_rfl) ?_
      refine RegI.pure 2 [0, 1, 5, 13, 14] [(0, .slice pA0 p0.length pc0), (1, .int .i64 p1), (5, .int .i64 t1), (13, .slice pA0 p0.length pc0), (14, .int .i64 t1)] (by kernel_rfl) ?_
      obtain ⟨hc3, h⟩ := of_cond0 h
      refine RegI.op (by kernel_rfl) (OpE.idxSl 15 0 26 t1 hH (by kernel_rfl) rfl (by kernel_rfl) (by kernel_rfl) hc3 ?_)
      intro b4 o5 cs6 hk7 h8
      obtain ⟨_, _, rfl, rfl, ⟨_, _, rfl, rfl, ⟨_, _, rfl, rfl, ⟨_, _, rfl, rfl, ⟨_, _, rfl, rfl, rfl⟩⟩⟩⟩⟩ := hk7
      refine RegI.pure 1 [0, 1, 5, 16] [(0, .slice pA0 p0.length pc0), (1, .int .i64 p1), (5, .int .i64 t1), (16, .pointer (some ⟨b4, o5 + 1, none⟩))] (by kernel_rfl) ?_
      refine RegI.op (by kernel_rfl) (OpE.loadCel 17 1 3 b4 o5 1 (.int .i64 ((rdD p0 t1).2.1)) h8 (by kernel_rfl) (by kernel_rfl) rfl (by kernel_rfl) ?_)
      refine RegI.pure 2 [0, 1, 5, 19] [(0, .slice pA0 p0.length pc0), (1, .int .i64 p1), (5, .int .i64 t1), (19, .bool (((rdD p0 t1).2.1) == p1))] (by kernel_rfl) ?_
      refine RegI.done (by kernel_rfl) ?_
      rcases of_cond h with ⟨hc9, h⟩ | ⟨hc9, h⟩
      · skip
        refine RunsI.fix 19 true hc9 (by kernel_rfl) (by kernel_rfl) ?_
        refine RunsI.cond true 18 (by kernel_rfl) ?_
        refine RunsI.go 1 [.c 19, .c 20, .blk 1, .c 22, .lp 7, .blk 0, .c 23] (by kernel_rfl) ?_
        refine RunsI.region (by kernel_rfl) ?_
        refine RegI.pure 2 [4] [(4, .int .i64 t1)] (by kernel_rfl) ?_
        refine RegI.done (by kernel_rfl) ?_
        refine RunsI.ret (.int .i64 t1) (by kernel_rfl) (by kernel_rfl) ?_
        exact hk1 t1 w (Option.some.inj h).symm (h8.pick [] (by decide))
      · skip
        refine RunsI.fix 19 false hc9 (by kernel_rfl) (by kernel_rfl) ?_
        refine RunsI.cond false 21 (by kernel_rfl) ?_
        refine RunsI.go 1 [.blk 1, .c 22, .lp 7, .blk 0, .c 23] (by kernel_rfl) ?_
        refine RunsI.go 1 [.c 22, .lp 7, .blk 0, .c 23] (by kernel_rfl) ?_
        refine RunsI.region (by kernel_rfl) ?_
        refine RegI.pure 3 [0, 1, 5] [(0, .slice pA0 p0.length pc0), (1, .int .i64 p1), (5, .int .i64 (IntKind.wrap .i64 (t1 - 1)))] (by kernel_rfl) ?_
        refine RegI.done (by kernel_rfl) ?_
        refine RunsI.go 1 [.c 7, .lp 7, .blk 0, .c 23] (by kernel_rfl) ?_
        refine RunsI.only [0, 1, 5] [(0, .slice pA0 p0.length pc0), (1, .int .i64 p1), (5, .int .i64 (IntKind.wrap .i64 (t1 - 1)))] (by kernel_rfl) (by kernel_rfl) ?_
        exact ih (IntKind.wrap .i64 (t1 - 1)) w h (h8.pick [0] (by decide))
    · skip
      refine RunsI.fix 10 false hc2 (by kernel_rfl) (by kernel_rfl) ?_
      refine RunsI.cond false 12 (by kernel_rfl) ?_
      refine RunsI.go 1 [.c 23] (by kernel_rfl) ?_
      refine RunsI.only [] [] (by kernel_rfl) (by kernel_rfl) ?_
      exact hk0 w (Option.some.inj h).symm (hH.pick [] (by decide))
def charabancref29_last_52.f (K : Nat) (p0 : List (Int × Int × Int × Int × Int × Int)) (p1 : Int) : Option Int := (charabancref29_last_52.l0 K p0 p1 K (IntKind.wrap .i64 ((p0.length : Int) - 1))).bind (fun x11 => Lp.elim x11 (fun t15 => some t15) (fun _ => some (-1)))
set_option maxRecDepth 100000 in
theorem charabancref29_last_52_ok (K : Nat) (M0 : Nat → Prop) (w0 : World) (pA0 : Option Addr) (pc0 : Nat) (p0 : List (Int × Int × Int × Int × Int × Int)) (p1 : Int) (ho : ∀ b, M0 b → b < w0.heap.size) (hs0 : Sl (Rp.pair (Rp.int .i64) (Rp.pair (Rp.int .i64) (Rp.pair (Rp.int .i64) (Rp.pair (Rp.int .u16) (Rp.pair (Rp.int .i64) (Rp.int .u8)))))) w0 M0 (.slice pA0 p0.length pc0) p0) {r : Int} (h : charabancref29_last_52.f K p0 p1 = some r) :
    Calls Tryd.prog 52 #[.slice pA0 p0.length pc0, .int .i64 p1] w0 (charabancref29_last_52.post M0 w0 r) := by
  unfold charabancref29_last_52.f at h
  have h0 : Holds M0 w0 w0 [] := Holds.start ho
  have h00 := h0.addSl (Rp.pair (Rp.int .i64) (Rp.pair (Rp.int .i64) (Rp.pair (Rp.int .i64) (Rp.pair (Rp.int .u16) (Rp.pair (Rp.int .i64) (Rp.int .u8)))))) (.slice pA0 p0.length pc0) p0 (hs0.mono (fun _ _ hm => hm.elim id (fun hm => absurd hm (by simp [mines, sl]))))
  have h0 : Holds M0 w0 w0 [sl (Rp.pair (Rp.int .i64) (Rp.pair (Rp.int .i64) (Rp.pair (Rp.int .i64) (Rp.pair (Rp.int .u16) (Rp.pair (Rp.int .i64) (Rp.int .u8)))))) (.slice pA0 p0.length pc0) p0] := h00
  refine calls_of F52 rfl [.slice pA0 p0.length pc0, .int .i64 p1] (by kernel_rfl) ?_
  refine RunsI.go 1 [.c 1, .c 2] (by kernel_rfl) ?_
  refine RunsI.region (by kernel_rfl) ?_
  refine RegI.pure 1 [0, 1] [(0, .slice pA0 p0.length pc0), (1, .int .i64 p1)] (by kernel_rfl) ?_
  refine RegI.done (by kernel_rfl) ?_
  refine RunsI.go 2 [.c 4, .c 5, .c 23] (by kernel_rfl) ?_
  refine RunsI.region (by kernel_rfl) ?_
  refine RegI.pure 4 [0, 1, 5] [(0, .slice pA0 p0.length pc0), (1, .int .i64 p1), (5, .int .i64 (IntKind.wrap .i64 ((p0.length : Int) - 1)))] (by kernel_rfl) ?_
  refine RegI.done (by kernel_rfl) ?_
  refine RunsI.go 2 [.c 7, .lp 7, .blk 0, .c 23] (by kernel_rfl) ?_
  obtain ⟨x11, hx12, h⟩ := of_bind h
  refine RunsI.only [0, 1, 5] [(0, .slice pA0 p0.length pc0), (1, .int .i64 p1), (5, .int .i64 (IntKind.wrap .i64 ((p0.length : Int) - 1)))] (by kernel_rfl) (by kernel_rfl) ?_
  refine charabancref29_last_52.l0_ok K M0 w0 pA0 pc0 p0 p1 _ x11 ?_ ?_ K (IntKind.wrap .i64 ((p0.length : Int) - 1)) w0 hx12 (h0.pick [0] (by decide))
  · intro w14 hq18 h13
    (try rw [hq18] at h)
    dsimp only [Lp.elim] at h
    refine RunsI.go 1 [.c 24, .c 25] (by kernel_rfl) ?_
    refine RunsI.region (by kernel_rfl) ?_
    refine RegI.pure 1 [4] [(4, .int .i64 (-1))] (by kernel_rfl) ?_
    refine RegI.done (by kernel_rfl) ?_
    refine RunsI.ret (.int .i64 (-1)) (by kernel_rfl) (by kernel_rfl) ?_
    obtain rfl := Option.some.inj h
    exact ⟨rfl, h13.below⟩
  · intro t15 w17 hq19 h16
    (try rw [hq19] at h)
    dsimp only [Lp.elim] at h
    obtain rfl := Option.some.inj h
    exact ⟨rfl, h16.below⟩
end

/-! ### charabanc/charabancref29.Meets (function 22) -/
section
def charabancref29_Meets_22.post (M0 : Nat → Prop) (w0 : World) (r : Bool) : Ending → World → Prop := fun e w => e = .returned (.bool r) ∧ Below w0.heap.size w0 w
def charabancref29_Meets_22.l0 (K : Nat) (p0 : List (Int × Int × Int × Int × Int × Int)) : Nat → Int → Option (Lp Unit Unit)
  | 0, _ => none
  | k + 1, t1 => cond (decide (t1 < 4)) ((charabancref29_first_51.f K p0 t1).bind fun t7 => cond (decide (t7 < 0)) (some (Lp.ret ())) (charabancref29_Meets_22.l0 K p0 k (IntKind.wrap .i64 (t1 + 1)))) (some (Lp.go ()))
set_option maxRecDepth 100000 in
theorem charabancref29_Meets_22.l0_ok (K : Nat) (M0 : Nat → Prop) (w0 : World) (pA0 : Option Addr) (pc0 : Nat) (p0 : List (Int × Int × Int × Int × Int × Int)) (R : Ending → World → Prop) (x : Lp Unit Unit) (hk0 : ∀ (w1 : World), x = Lp.go () → Holds M0 w0 w1 [sl (Rp.pair (Rp.int .i64) (Rp.pair (Rp.int .i64) (Rp.pair (Rp.int .i64) (Rp.pair (Rp.int .u16) (Rp.pair (Rp.int .i64) (Rp.int .u8)))))) (.slice pA0 p0.length pc0) p0] → RunsI F22 [.c 23] [(0, .slice pA0 p0.length pc0)] w1 R) (hk1 : ∀ (w1 : World), x = Lp.ret () → Holds M0 w0 w1 [] → R (.returned (.bool false)) w1) :
    ∀ (k : Nat) (t1 : Int) (w : World), charabancref29_Meets_22.l0 K p0 k t1 = some x → Holds M0 w0 w [sl (Rp.pair (Rp.int .i64) (Rp.pair (Rp.int .i64) (Rp.pair (Rp.int .i64) (Rp.pair (Rp.int .u16) (Rp.pair (Rp.int .i64) (Rp.int .u8)))))) (.slice pA0 p0.length pc0) p0] → RunsI F22 [.c 7, .lp 7, .blk 0, .c 23] [(0, .slice pA0 p0.length pc0), (3, .int .i64 t1)] w R := by
  intro k
  induction k with
  | zero => intro t1 w h hH; exact absurd h (by simp [charabancref29_Meets_22.l0])
  | succ k ih =>
    intro t1 w h hH
    rw [charabancref29_Meets_22.l0.eq_2] at h
    refine RunsI.go 1 [.c 8, .c 13, .lp 7, .blk 0, .c 23] (by kernel_rfl) ?_
    refine RunsI.go 1 [.c 9, .c 10, .c 13, .lp 7, .blk 0, .c 23] (by kernel_rfl) ?_
    refine RunsI.region (by kernel_rfl) ?_
    refine RegI.pure 2 [0, 3, 7] [(0, .slice pA0 p0.length pc0), (3, .int .i64 t1), (7, .bool (decide (t1 < 4)))] (by kernel_rfl) ?_
    refine RegI.done (by kernel_rfl) ?_
    rcases of_cond h with ⟨hc2, h⟩ | ⟨hc2, h⟩
    · skip
      refine RunsI.fix 7 true hc2 (by kernel_rfl) (by kernel_rfl) ?_
      refine RunsI.cond true 11 (by kernel_rfl) ?_
      refine RunsI.go 1 [.c 13, .lp 7, .blk 0, .c 23] (by kernel_rfl) ?_
      refine RunsI.go 3 [.c 16, .c 17, .blk 1, .c 22, .lp 7, .blk 0, .c 23] (by kernel_rfl) ?_
      refine RunsI.region (by kernel_rfl) ?_
      refine RegI.pure 2 [0, 3, 10, 11] [(0, .slice pA0 p0.length pc0), (3, .int .i64 t1), (10, .slice pA0 p0.length pc0), (11, .int .i64 t1)] (by kernel_rfl) ?_
      obtain ⟨t7, hg6, h⟩ := of_bind h
      refine RegI.op (by kernel_rfl) (OpE.call 12 (by kernel_rfl) 51 #[.slice pA0 p0.length pc0, .int .i64 t1] (by kernel_rfl) ((charabancref29_first_51_ok K _ w  pA0 pc0 p0 t1 hH.old' (hH.get 0 rfl) hg6).mono ?_))
      rintro _ w3 ⟨rfl, hb4⟩
      refine ⟨_, rfl, ?_⟩
      have h5 := hH.call hb4
      refine RegI.pure 1 [0, 3, 13] [(0, .slice pA0 p0.length pc0), (3, .int .i64 t1), (13, .bool (decide (t7 < 0)))] (by kernel_rfl) ?_
      refine RegI.done (by kernel_rfl) ?_
      rcases of_cond h with ⟨hc8, h⟩ | ⟨hc8, h⟩
      · skip
        refine RunsI.fix 13 true hc8 (by kernel_rfl) (by kernel_rfl) ?_
        refine RunsI.cond true 18 (by kernel_rfl) ?_
        refine RunsI.go 1 [.c 19, .c 20, .blk 1, .c 22, .lp 7, .blk 0, .c 23] (by kernel_rfl) ?_
        refine RunsI.region (by kernel_rfl) ?_
        refine RegI.pure 1 [2] [(2, .bool false)] (by kernel_rfl) ?_
        refine RegI.done (by kernel_rfl) ?_
        refine RunsI.ret (.bool false) (by kernel_rfl) (by kernel_rfl) ?_
        exact hk1 w3 (Option.some.inj h).symm (h5.pick [] (by decide))
      · skip
        refine RunsI.fix 13 false hc8 (by kernel_rfl) (by kernel_rfl) ?_
        refine RunsI.cond false 21 (by kernel_rfl) ?_
        refine RunsI.go 1 [.blk 1, .c 22, .lp 7, .blk 0, .c 23] (by kernel_rfl) ?_
        refine RunsI.go 1 [.c 22, .lp 7, .blk 0, .c 23] (by kernel_rfl) ?_
        refine RunsI.region (by kernel_rfl) ?_
        refine RegI.pure 3 [0, 3] [(0, .slice pA0 p0.length pc0), (3, .int .i64 (IntKind.wrap .i64 (t1 + 1)))] (by kernel_rfl) ?_
        refine RegI.done (by kernel_rfl) ?_
        refine RunsI.go 1 [.c 7, .lp 7, .blk 0, .c 23] (by kernel_rfl) ?_
        refine RunsI.only [0, 3] [(0, .slice pA0 p0.length pc0), (3, .int .i64 (IntKind.wrap .i64 (t1 + 1)))] (by kernel_rfl) (by kernel_rfl) ?_
        exact ih (IntKind.wrap .i64 (t1 + 1)) w3 h (h5.pick [0] (by decide))
    · skip
      refine RunsI.fix 7 false hc2 (by kernel_rfl) (by kernel_rfl) ?_
      refine RunsI.cond false 12 (by kernel_rfl) ?_
      refine RunsI.go 1 [.c 23] (by kernel_rfl) ?_
      refine RunsI.only [0] [(0, .slice pA0 p0.length pc0)] (by kernel_rfl) (by kernel_rfl) ?_
      exact hk0 w (Option.some.inj h).symm (hH.pick [0] (by decide))
def charabancref29_Meets_22.l1 (K : Nat) (p0 : List (Int × Int × Int × Int × Int × Int)) (t17 : Int) : Nat → Int → Option (Lp Unit Unit)
  | 0, _ => none
  | k + 1, t18 => cond (decide (t18 < 4)) (Let (fun (t42 : Bool) => cond t42 (some (Lp.ret ())) (charabancref29_Meets_22.l1 K p0 t17 k (IntKind.wrap .i64 (t18 + 1)))) (fun j45 => cond (t17 != t18) ((charabancref29_first_51.f K p0 t17).bind fun t25 => (charabancref29_first_51.f K p0 t18).bind fun t30 => cond (decide (t25 < t30)) ((charabancref29_last_52.f K p0 t17).bind fun t36 => (charabancref29_last_52.f K p0 t18).bind fun t41 => j45 (decide (t36 > t41))) (j45 false)) (j45 false))) (some (Lp.go ()))
set_option maxRecDepth 100000 in
theorem charabancref29_Meets_22.l1_ok (K : Nat) (M0 : Nat → Prop) (w0 : World) (pA0 : Option Addr) (pc0 : Nat) (p0 : List (Int × Int × Int × Int × Int × Int)) (t17 : Int) (R : Ending → World → Prop) (x : Lp Unit Unit) (hk0 : ∀ (w1 : World), x = Lp.go () → Holds M0 w0 w1 [sl (Rp.pair (Rp.int .i64) (Rp.pair (Rp.int .i64) (Rp.pair (Rp.int .i64) (Rp.pair (Rp.int .u16) (Rp.pair (Rp.int .i64) (Rp.int .u8)))))) (.slice pA0 p0.length pc0) p0] → RunsI F22 [.c 56, .lp 28, .blk 2, .c 57] [(0, .slice pA0 p0.length pc0), (4, .int .i64 t17)] w1 R) (hk1 : ∀ (w1 : World), x = Lp.ret () → Holds M0 w0 w1 [] → R (.returned (.bool true)) w1) :
    ∀ (k : Nat) (t18 : Int) (w : World), charabancref29_Meets_22.l1 K p0 t17 k t18 = some x → Holds M0 w0 w [sl (Rp.pair (Rp.int .i64) (Rp.pair (Rp.int .i64) (Rp.pair (Rp.int .i64) (Rp.pair (Rp.int .u16) (Rp.pair (Rp.int .i64) (Rp.int .u8)))))) (.slice pA0 p0.length pc0) p0] → RunsI F22 [.c 40, .lp 40, .blk 4, .blk 3, .c 56, .lp 28, .blk 2, .c 57] [(0, .slice pA0 p0.length pc0), (4, .int .i64 t17), (5, .int .i64 t18)] w R := by
  intro k
  induction k with
  | zero => intro t18 w h hH; exact absurd h (by simp [charabancref29_Meets_22.l1])
  | succ k ih =>
    intro t18 w h hH
    rw [charabancref29_Meets_22.l1.eq_2] at h
    refine RunsI.go 1 [.c 41, .c 46, .lp 40, .blk 4, .blk 3, .c 56, .lp 28, .blk 2, .c 57] (by kernel_rfl) ?_
    refine RunsI.go 1 [.c 42, .c 43, .c 46, .lp 40, .blk 4, .blk 3, .c 56, .lp 28, .blk 2, .c 57] (by kernel_rfl) ?_
    refine RunsI.region (by kernel_rfl) ?_
    refine RegI.pure 2 [0, 4, 5, 19] [(0, .slice pA0 p0.length pc0), (4, .int .i64 t17), (5, .int .i64 t18), (19, .bool (decide (t18 < 4)))] (by kernel_rfl) ?_
    refine RegI.done (by kernel_rfl) ?_
    rcases of_cond h with ⟨hc19, h⟩ | ⟨hc19, h⟩
    · skip
      refine RunsI.fix 19 true hc19 (by kernel_rfl) (by kernel_rfl) ?_
      refine RunsI.cond true 44 (by kernel_rfl) ?_
      refine RunsI.go 1 [.c 46, .lp 40, .blk 4, .blk 3, .c 56, .lp 28, .blk 2, .c 57] (by kernel_rfl) ?_
      refine RunsI.go 3 [.c 49, .c 50, .blk 5, .c 55, .lp 40, .blk 4, .blk 3, .c 56, .lp 28, .blk 2, .c 57] (by kernel_rfl) ?_
      refine RunsI.region (by kernel_rfl) ?_
      refine RegI.pure 4 [0, 4, 5, 25] [(0, .slice pA0 p0.length pc0), (4, .int .i64 t17), (5, .int .i64 t18), (25, .bool (t17 != t18))] (by kernel_rfl) ?_
      obtain ⟨j45, hJ46, h⟩ := of_let h
      have hj47 : ∀ (t42 : Bool) (w44 : World), j45 t42 = some x → Holds M0 w0 w44 [sl (Rp.pair (Rp.int .i64) (Rp.pair (Rp.int .i64) (Rp.pair (Rp.int .i64) (Rp.pair (Rp.int .u16) (Rp.pair (Rp.int .i64) (Rp.int .u8)))))) (.slice pA0 p0.length pc0) p0] → RegI F22 49 [.c 50, .blk 5, .c 55, .lp 40, .blk 4, .blk 3, .c 56, .lp 28, .blk 2, .c 57] 21 [(0, .slice pA0 p0.length pc0), (4, .int .i64 t17), (5, .int .i64 t18), (42, .bool t42)] w44 R := by
        intro t42 w44 h h43
        rw [hJ46] at h
        clear hJ46
        dsimp only at h
        refine RegI.done (by kernel_rfl) ?_
        rcases of_cond h with ⟨hc48, h⟩ | ⟨hc48, h⟩
        · skip
          refine RunsI.fix 42 true hc48 (by kernel_rfl) (by kernel_rfl) ?_
          refine RunsI.cond true 51 (by kernel_rfl) ?_
          refine RunsI.go 1 [.c 52, .c 53, .blk 5, .c 55, .lp 40, .blk 4, .blk 3, .c 56, .lp 28, .blk 2, .c 57] (by kernel_rfl) ?_
          refine RunsI.region (by kernel_rfl) ?_
          refine RegI.pure 1 [2] [(2, .bool true)] (by kernel_rfl) ?_
          refine RegI.done (by kernel_rfl) ?_
          refine RunsI.ret (.bool true) (by kernel_rfl) (by kernel_rfl) ?_
          exact hk1 w44 (Option.some.inj h).symm (h43.pick [] (by decide))
        · skip
          refine RunsI.fix 42 false hc48 (by kernel_rfl) (by kernel_rfl) ?_
          refine RunsI.cond false 54 (by kernel_rfl) ?_
          refine RunsI.go 1 [.blk 5, .c 55, .lp 40, .blk 4, .blk 3, .c 56, .lp 28, .blk 2, .c 57] (by kernel_rfl) ?_
          refine RunsI.go 1 [.c 55, .lp 40, .blk 4, .blk 3, .c 56, .lp 28, .blk 2, .c 57] (by kernel_rfl) ?_
          refine RunsI.region (by kernel_rfl) ?_
          refine RegI.pure 3 [0, 4, 5] [(0, .slice pA0 p0.length pc0), (4, .int .i64 t17), (5, .int .i64 (IntKind.wrap .i64 (t18 + 1)))] (by kernel_rfl) ?_
          refine RegI.done (by kernel_rfl) ?_
          refine RunsI.go 1 [.c 40, .lp 40, .blk 4, .blk 3, .c 56, .lp 28, .blk 2, .c 57] (by kernel_rfl) ?_
          refine RunsI.only [0, 4, 5] [(0, .slice pA0 p0.length pc0), (4, .int .i64 t17), (5, .int .i64 (IntKind.wrap .i64 (t18 + 1)))] (by kernel_rfl) (by kernel_rfl) ?_
          exact ih (IntKind.wrap .i64 (t18 + 1)) w44 h (h43.pick [0] (by decide))
      clear hJ46
      rcases of_cond h with ⟨hc20, h⟩ | ⟨hc20, h⟩
      · skip
        refine RegI.fix 25 true hc20 (by kernel_rfl) (by kernel_rfl) ?_
        refine RegI.pure 2 [0, 4, 5, 25, 26, 27] [(0, .slice pA0 p0.length pc0), (4, .int .i64 t17), (5, .int .i64 t18), (25, .bool true), (26, .slice pA0 p0.length pc0), (27, .int .i64 t17)] (by kernel_rfl) ?_
        obtain ⟨t25, hg24, h⟩ := of_bind h
        refine RegI.op (by kernel_rfl) (OpE.call 28 (by kernel_rfl) 51 #[.slice pA0 p0.length pc0, .int .i64 t17] (by kernel_rfl) ((charabancref29_first_51_ok K _ w  pA0 pc0 p0 t17 hH.old' (hH.get 0 rfl) hg24).mono ?_))
        rintro _ w21 ⟨rfl, hb22⟩
        refine ⟨_, rfl, ?_⟩
        have h23 := hH.call hb22
        refine RegI.pure 2 [0, 4, 5, 25, 28, 29, 30] [(0, .slice pA0 p0.length pc0), (4, .int .i64 t17), (5, .int .i64 t18), (25, .bool true), (28, .int .i64 t25), (29, .slice pA0 p0.length pc0), (30, .int .i64 t18)] (by kernel_rfl) ?_
        obtain ⟨t30, hg29, h⟩ := of_bind h
        refine RegI.op (by kernel_rfl) (OpE.call 31 (by kernel_rfl) 51 #[.slice pA0 p0.length pc0, .int .i64 t18] (by kernel_rfl) ((charabancref29_first_51_ok K _ w21  pA0 pc0 p0 t18 h23.old' (h23.get 0 rfl) hg29).mono ?_))
        rintro _ w26 ⟨rfl, hb27⟩
        refine ⟨_, rfl, ?_⟩
        have h28 := h23.call hb27
        refine RegI.pure 3 [0, 4, 5, 34] [(0, .slice pA0 p0.length pc0), (4, .int .i64 t17), (5, .int .i64 t18), (34, .bool (decide (t25 < t30)))] (by kernel_rfl) ?_
        rcases of_cond h with ⟨hc31, h⟩ | ⟨hc31, h⟩
        · skip
          refine RegI.fix 34 true hc31 (by kernel_rfl) (by kernel_rfl) ?_
          refine RegI.pure 2 [0, 4, 5, 34, 35, 36] [(0, .slice pA0 p0.length pc0), (4, .int .i64 t17), (5, .int .i64 t18), (34, .bool true), (35, .slice pA0 p0.length pc0), (36, .int .i64 t17)] (by kernel_rfl) ?_
          obtain ⟨t36, hg35, h⟩ := of_bind h
          refine RegI.op (by kernel_rfl) (OpE.call 37 (by kernel_rfl) 52 #[.slice pA0 p0.length pc0, .int .i64 t17] (by kernel_rfl) ((charabancref29_last_52_ok K _ w26  pA0 pc0 p0 t17 h28.old' (h28.get 0 rfl) hg35).mono ?_))
          rintro _ w32 ⟨rfl, hb33⟩
          refine ⟨_, rfl, ?_⟩
          have h34 := h28.call hb33
          refine RegI.pure 2 [0, 4, 5, 34, 37, 38, 39] [(0, .slice pA0 p0.length pc0), (4, .int .i64 t17), (5, .int .i64 t18), (34, .bool true), (37, .int .i64 t36), (38, .slice pA0 p0.length pc0), (39, .int .i64 t18)] (by kernel_rfl) ?_
          obtain ⟨t41, hg40, h⟩ := of_bind h
          refine RegI.op (by kernel_rfl) (OpE.call 40 (by kernel_rfl) 52 #[.slice pA0 p0.length pc0, .int .i64 t18] (by kernel_rfl) ((charabancref29_last_52_ok K _ w32  pA0 pc0 p0 t18 h34.old' (h34.get 0 rfl) hg40).mono ?_))
          rintro _ w37 ⟨rfl, hb38⟩
          refine ⟨_, rfl, ?_⟩
          have h39 := h34.call hb38
          refine RegI.pure 2 [0, 4, 5, 42] [(0, .slice pA0 p0.length pc0), (4, .int .i64 t17), (5, .int .i64 t18), (42, .bool (decide (t36 > t41)))] (by kernel_rfl) ?_
          refine RegI.only [0, 4, 5, 42] [(0, .slice pA0 p0.length pc0), (4, .int .i64 t17), (5, .int .i64 t18), (42, .bool (decide (t36 > t41)))] (by kernel_rfl) (by kernel_rfl) ?_
          exact hj47 (decide (t36 > t41)) w37 h (h39.pick [0] (by decide))
        · skip
          refine RegI.fix 34 false hc31 (by kernel_rfl) (by kernel_rfl) ?_
          refine RegI.pure 8 [0, 4, 5, 42] [(0, .slice pA0 p0.length pc0), (4, .int .i64 t17), (5, .int .i64 t18), (42, .bool false)] (by kernel_rfl) ?_
          refine RegI.only [0, 4, 5, 42] [(0, .slice pA0 p0.length pc0), (4, .int .i64 t17), (5, .int .i64 t18), (42, .bool false)] (by kernel_rfl) (by kernel_rfl) ?_
          exact hj47 false w26 h (h28.pick [0] (by decide))
      · skip
        refine RegI.fix 25 false hc20 (by kernel_rfl) (by kernel_rfl) ?_
        refine RegI.pure 17 [0, 4, 5, 42] [(0, .slice pA0 p0.length pc0), (4, .int .i64 t17), (5, .int .i64 t18), (42, .bool false)] (by kernel_rfl) ?_
        refine RegI.only [0, 4, 5, 42] [(0, .slice pA0 p0.length pc0), (4, .int .i64 t17), (5, .int .i64 t18), (42, .bool false)] (by kernel_rfl) (by kernel_rfl) ?_
        exact hj47 false w h (hH.pick [0] (by decide))
    · skip
      refine RunsI.fix 19 false hc19 (by kernel_rfl) (by kernel_rfl) ?_
      refine RunsI.cond false 45 (by kernel_rfl) ?_
      refine RunsI.go 2 [.c 56, .lp 28, .blk 2, .c 57] (by kernel_rfl) ?_
      refine RunsI.only [0, 4] [(0, .slice pA0 p0.length pc0), (4, .int .i64 t17)] (by kernel_rfl) (by kernel_rfl) ?_
      exact hk0 w (Option.some.inj h).symm (hH.pick [0] (by decide))
def charabancref29_Meets_22.l2 (K : Nat) (p0 : List (Int × Int × Int × Int × Int × Int)) : Nat → Int → Option (Lp Unit Unit)
  | 0, _ => none
  | k + 1, t15 => cond (decide (t15 < 4)) ((charabancref29_Meets_22.l1 K p0 t15 K 1).bind (fun x49 => Lp.elim x49 (fun _ => some (Lp.ret ())) (fun _ => charabancref29_Meets_22.l2 K p0 k (IntKind.wrap .i64 (t15 + 1))))) (some (Lp.go ()))
set_option maxRecDepth 100000 in
theorem charabancref29_Meets_22.l2_ok (K : Nat) (M0 : Nat → Prop) (w0 : World) (pA0 : Option Addr) (pc0 : Nat) (p0 : List (Int × Int × Int × Int × Int × Int)) (R : Ending → World → Prop) (x : Lp Unit Unit) (hk0 : ∀ (w1 : World), x = Lp.go () → Holds M0 w0 w1 [] → RunsI F22 [.c 57] [] w1 R) (hk1 : ∀ (w1 : World), x = Lp.ret () → Holds M0 w0 w1 [] → R (.returned (.bool true)) w1) :
    ∀ (k : Nat) (t15 : Int) (w : World), charabancref29_Meets_22.l2 K p0 k t15 = some x → Holds M0 w0 w [sl (Rp.pair (Rp.int .i64) (Rp.pair (Rp.int .i64) (Rp.pair (Rp.int .i64) (Rp.pair (Rp.int .u16) (Rp.pair (Rp.int .i64) (Rp.int .u8)))))) (.slice pA0 p0.length pc0) p0] → RunsI F22 [.c 28, .lp 28, .blk 2, .c 57] [(0, .slice pA0 p0.length pc0), (4, .int .i64 t15)] w R := by
  intro k
  induction k with
  | zero => intro t15 w h hH; exact absurd h (by simp [charabancref29_Meets_22.l2])
  | succ k ih =>
    intro t15 w h hH
    rw [charabancref29_Meets_22.l2.eq_2] at h
    refine RunsI.go 1 [.c 29, .c 34, .lp 28, .blk 2, .c 57] (by kernel_rfl) ?_
    refine RunsI.go 1 [.c 30, .c 31, .c 34, .lp 28, .blk 2, .c 57] (by kernel_rfl) ?_
    refine RunsI.region (by kernel_rfl) ?_
    refine RegI.pure 2 [0, 4, 15] [(0, .slice pA0 p0.length pc0), (4, .int .i64 t15), (15, .bool (decide (t15 < 4)))] (by kernel_rfl) ?_
    refine RegI.done (by kernel_rfl) ?_
    rcases of_cond h with ⟨hc16, h⟩ | ⟨hc16, h⟩
    · skip
      refine RunsI.fix 15 true hc16 (by kernel_rfl) (by kernel_rfl) ?_
      refine RunsI.cond true 32 (by kernel_rfl) ?_
      refine RunsI.go 1 [.c 34, .lp 28, .blk 2, .c 57] (by kernel_rfl) ?_
      refine RunsI.go 3 [.c 37, .c 38, .blk 3, .c 56, .lp 28, .blk 2, .c 57] (by kernel_rfl) ?_
      refine RunsI.region (by kernel_rfl) ?_
      refine RegI.pure 1 [0, 4, 5] [(0, .slice pA0 p0.length pc0), (4, .int .i64 t15), (5, .int .i64 1)] (by kernel_rfl) ?_
      refine RegI.done (by kernel_rfl) ?_
      refine RunsI.go 2 [.c 40, .lp 40, .blk 4, .blk 3, .c 56, .lp 28, .blk 2, .c 57] (by kernel_rfl) ?_
      obtain ⟨x49, hx50, h⟩ := of_bind h
      refine RunsI.only [0, 4, 5] [(0, .slice pA0 p0.length pc0), (4, .int .i64 t15), (5, .int .i64 1)] (by kernel_rfl) (by kernel_rfl) ?_
      refine charabancref29_Meets_22.l1_ok K M0 w0 pA0 pc0 p0 t15 _ x49 ?_ ?_ K 1 w hx50 (hH.pick [0] (by decide))
      · intro w52 hq61 h51
        (try rw [hq61] at h)
        dsimp only [Lp.elim] at h
        refine RunsI.region (by kernel_rfl) ?_
        refine RegI.pure 3 [0, 4] [(0, .slice pA0 p0.length pc0), (4, .int .i64 (IntKind.wrap .i64 (t15 + 1)))] (by kernel_rfl) ?_
        refine RegI.done (by kernel_rfl) ?_
        refine RunsI.go 1 [.c 28, .lp 28, .blk 2, .c 57] (by kernel_rfl) ?_
        refine RunsI.only [0, 4] [(0, .slice pA0 p0.length pc0), (4, .int .i64 (IntKind.wrap .i64 (t15 + 1)))] (by kernel_rfl) (by kernel_rfl) ?_
        exact ih (IntKind.wrap .i64 (t15 + 1)) w52 h (h51.pick [0] (by decide))
      · intro w54 hq62 h53
        (try rw [hq62] at h)
        dsimp only [Lp.elim] at h
        exact hk1 w54 (Option.some.inj h).symm (h53.pick [] (by decide))
    · skip
      refine RunsI.fix 15 false hc16 (by kernel_rfl) (by kernel_rfl) ?_
      refine RunsI.cond false 33 (by kernel_rfl) ?_
      refine RunsI.go 1 [.c 57] (by kernel_rfl) ?_
      refine RunsI.only [] [] (by kernel_rfl) (by kernel_rfl) ?_
      exact hk0 w (Option.some.inj h).symm (hH.pick [] (by decide))
def charabancref29_Meets_22.f (K : Nat) (p0 : List (Int × Int × Int × Int × Int × Int)) : Option Bool := (charabancref29_Meets_22.l0 K p0 K 1).bind (fun x9 => Lp.elim x9 (fun _ => some false) (fun _ => (charabancref29_Meets_22.l2 K p0 K 1).bind (fun x55 => Lp.elim x55 (fun _ => some true) (fun _ => some false))))
set_option maxRecDepth 100000 in
theorem charabancref29_Meets_22_ok (K : Nat) (M0 : Nat → Prop) (w0 : World) (pA0 : Option Addr) (pc0 : Nat) (p0 : List (Int × Int × Int × Int × Int × Int)) (ho : ∀ b, M0 b → b < w0.heap.size) (hs0 : Sl (Rp.pair (Rp.int .i64) (Rp.pair (Rp.int .i64) (Rp.pair (Rp.int .i64) (Rp.pair (Rp.int .u16) (Rp.pair (Rp.int .i64) (Rp.int .u8)))))) w0 M0 (.slice pA0 p0.length pc0) p0) {r : Bool} (h : charabancref29_Meets_22.f K p0 = some r) :
    Calls Tryd.prog 22 #[.slice pA0 p0.length pc0] w0 (charabancref29_Meets_22.post M0 w0 r) := by
  unfold charabancref29_Meets_22.f at h
  have h0 : Holds M0 w0 w0 [] := Holds.start ho
  have h00 := h0.addSl (Rp.pair (Rp.int .i64) (Rp.pair (Rp.int .i64) (Rp.pair (Rp.int .i64) (Rp.pair (Rp.int .u16) (Rp.pair (Rp.int .i64) (Rp.int .u8)))))) (.slice pA0 p0.length pc0) p0 (hs0.mono (fun _ _ hm => hm.elim id (fun hm => absurd hm (by simp [mines, sl]))))
  have h0 : Holds M0 w0 w0 [sl (Rp.pair (Rp.int .i64) (Rp.pair (Rp.int .i64) (Rp.pair (Rp.int .i64) (Rp.pair (Rp.int .u16) (Rp.pair (Rp.int .i64) (Rp.int .u8)))))) (.slice pA0 p0.length pc0) p0] := h00
  refine calls_of F22 rfl [.slice pA0 p0.length pc0] (by kernel_rfl) ?_
  refine RunsI.go 1 [.c 1, .c 2] (by kernel_rfl) ?_
  refine RunsI.region (by kernel_rfl) ?_
  refine RegI.pure 1 [0] [(0, .slice pA0 p0.length pc0)] (by kernel_rfl) ?_
  refine RegI.done (by kernel_rfl) ?_
  refine RunsI.go 2 [.c 4, .c 5, .c 23] (by kernel_rfl) ?_
  refine RunsI.region (by kernel_rfl) ?_
  refine RegI.pure 1 [0, 3] [(0, .slice pA0 p0.length pc0), (3, .int .i64 1)] (by kernel_rfl) ?_
  refine RegI.done (by kernel_rfl) ?_
  refine RunsI.go 2 [.c 7, .lp 7, .blk 0, .c 23] (by kernel_rfl) ?_
  obtain ⟨x9, hx10, h⟩ := of_bind h
  refine RunsI.only [0, 3] [(0, .slice pA0 p0.length pc0), (3, .int .i64 1)] (by kernel_rfl) (by kernel_rfl) ?_
  refine charabancref29_Meets_22.l0_ok K M0 w0 pA0 pc0 p0 _ x9 ?_ ?_ K 1 w0 hx10 (h0.pick [0] (by decide))
  · intro w12 hq63 h11
    (try rw [hq63] at h)
    dsimp only [Lp.elim] at h
    refine RunsI.go 2 [.c 25, .c 26, .c 57] (by kernel_rfl) ?_
    refine RunsI.region (by kernel_rfl) ?_
    refine RegI.pure 1 [0, 4] [(0, .slice pA0 p0.length pc0), (4, .int .i64 1)] (by kernel_rfl) ?_
    refine RegI.done (by kernel_rfl) ?_
    refine RunsI.go 2 [.c 28, .lp 28, .blk 2, .c 57] (by kernel_rfl) ?_
    obtain ⟨x55, hx56, h⟩ := of_bind h
    refine RunsI.only [0, 4] [(0, .slice pA0 p0.length pc0), (4, .int .i64 1)] (by kernel_rfl) (by kernel_rfl) ?_
    refine charabancref29_Meets_22.l2_ok K M0 w0 pA0 pc0 p0 _ x55 ?_ ?_ K 1 w12 hx56 (h11.pick [0] (by decide))
    · intro w58 hq64 h57
      (try rw [hq64] at h)
      dsimp only [Lp.elim] at h
      refine RunsI.go 1 [.c 58, .c 59] (by kernel_rfl) ?_
      refine RunsI.region (by kernel_rfl) ?_
      refine RegI.pure 1 [2] [(2, .bool false)] (by kernel_rfl) ?_
      refine RegI.done (by kernel_rfl) ?_
      refine RunsI.ret (.bool false) (by kernel_rfl) (by kernel_rfl) ?_
      obtain rfl := Option.some.inj h
      exact ⟨rfl, h57.below⟩
    · intro w60 hq65 h59
      (try rw [hq65] at h)
      dsimp only [Lp.elim] at h
      obtain rfl := Option.some.inj h
      exact ⟨rfl, h59.below⟩
  · intro w14 hq66 h13
    (try rw [hq66] at h)
    dsimp only [Lp.elim] at h
    obtain rfl := Option.some.inj h
    exact ⟨rfl, h13.below⟩
end

/-! ### charabanc/charabancref28.Events (function 23) -/
section
def charabancref28_Events_23.post (M0 : Nat → Prop) (w0 : World) (r : Bool) : Ending → World → Prop := fun e w => e = .returned (.bool r) ∧ Below w0.heap.size w0 w
def charabancref28_Events_23.l0 (K : Nat) (p0 : List (Int × Int × Int × Int × Int × Int)) (p1 : List (Int × Int × Int × Int × Int × Int)) : Nat → Int → Option (Lp Unit Unit)
  | 0, _ => none
  | k + 1, t2 => cond (decide (t2 < (p0.length : Int))) (cond (inR t2 p0.length) (cond (inR t2 p1.length) (cond (!((((rdD p0 t2).1) == ((rdD p1 t2).1)) && ((((rdD p0 t2).2.1) == ((rdD p1 t2).2.1)) && ((((rdD p0 t2).2.2.1) == ((rdD p1 t2).2.2.1)) && ((((rdD p0 t2).2.2.2.1) == ((rdD p1 t2).2.2.2.1)) && ((((rdD p0 t2).2.2.2.2.1) == ((rdD p1 t2).2.2.2.2.1)) && ((((rdD p0 t2).2.2.2.2.2) == ((rdD p1 t2).2.2.2.2.2)) && true))))))) (some (Lp.ret ())) (charabancref28_Events_23.l0 K p0 p1 k (IntKind.wrap .i64 (t2 + 1)))) none) none) (some (Lp.go ()))
set_option maxRecDepth 100000 in
theorem charabancref28_Events_23.l0_ok (K : Nat) (M0 : Nat → Prop) (w0 : World) (pA0 : Option Addr) (pc0 : Nat) (pA1 : Option Addr) (pc1 : Nat) (p0 : List (Int × Int × Int × Int × Int × Int)) (p1 : List (Int × Int × Int × Int × Int × Int)) (R : Ending → World → Prop) (x : Lp Unit Unit) (hk0 : ∀ (w1 : World), x = Lp.go () → Holds M0 w0 w1 [] → RunsI F23 [.c 31] [] w1 R) (hk1 : ∀ (w1 : World), x = Lp.ret () → Holds M0 w0 w1 [] → R (.returned (.bool false)) w1) :
    ∀ (k : Nat) (t2 : Int) (w : World), charabancref28_Events_23.l0 K p0 p1 k t2 = some x → Holds M0 w0 w [sl (Rp.pair (Rp.int .i64) (Rp.pair (Rp.int .i64) (Rp.pair (Rp.int .i64) (Rp.pair (Rp.int .u16) (Rp.pair (Rp.int .i64) (Rp.int .u8)))))) (.slice pA0 p0.length pc0) p0, sl (Rp.pair (Rp.int .i64) (Rp.pair (Rp.int .i64) (Rp.pair (Rp.int .i64) (Rp.pair (Rp.int .u16) (Rp.pair (Rp.int .i64) (Rp.int .u8)))))) (.slice pA1 p1.length pc1) p1] → RunsI F23 [.c 15, .lp 15, .blk 0, .c 31] [(0, .slice pA0 p0.length pc0), (1, .slice pA1 p1.length pc1), (5, .int .i64 t2)] w R := by
  intro k
  induction k with
  | zero => intro t2 w h hH; exact absurd h (by simp [charabancref28_Events_23.l0])
  | succ k ih =>
    intro t2 w h hH
    rw [charabancref28_Events_23.l0.eq_2] at h
    refine RunsI.go 1 [.c 16, .c 21, .lp 15, .blk 0, .c 31] (by kernel_rfl) ?_
    refine RunsI.go 1 [.c 17, .c 18, .c 21, .lp 15, .blk 0, .c 31] (by kernel_rfl) ?_
    refine RunsI.region (by kernel_rfl) ?_
    refine RegI.pure 4 [0, 1, 5, 14] [(0, .slice pA0 p0.length pc0), (1, .slice pA1 p1.length pc1), (5, .int .i64 t2), (14, .bool (decide (t2 < (p0.length : Int))))] (by kernel_rfl) ?_
    refine RegI.done (by kernel_rfl) ?_
    rcases of_cond h with ⟨hc3, h⟩ | ⟨hc3, h⟩
    · skip
      refine RunsI.fix 14 true hc3 (by kernel_rfl) (by kernel_rfl) ?_
      refine RunsI.cond true 19 (by kernel_rfl) ?_
      refine RunsI.go 1 [.c 21, .lp 15, .blk 0, .c 31] (by kernel_rfl) ?_
      refine RunsI.go 3 [.c 24, .c 25, .blk 1, .c 30, .lp 15, .blk 0, .c 31] (by kernel_rfl) ?_
      refine RunsI.any 9 (by kernel_rfl) (by kernel_rfl) (by kernel_rfl) (Kp ([] : List Nat) (World.drew w)) ?_
      have h5 := hH.drew
      generalize World.drew w = w4 at h5 ⊢
      have hS6 := Kp.refl ([] : List Nat) w4
      refine AnyE.pure 0 17 (.slice pA0 p0.length pc0) (by kernel_rfl) hS6 (fun _ => by kernel_rfl) ?_
      refine AnyE.pure 1 18 (.int .i64 t2) (by kernel_rfl) hS6 (fun _ => by kernel_rfl) ?_
      obtain ⟨hc8, h⟩ := of_cond0 h
      refine AnyE.idxSl 2 19 0 26 t2 h5 (by kernel_rfl) hS6 rfl (by kernel_rfl) (by kernel_rfl) hc8 ?_
      intro b9 o10 cs11 hk12 h13
      obtain ⟨_, _, rfl, rfl, ⟨_, _, rfl, rfl, ⟨_, _, rfl, rfl, ⟨_, _, rfl, rfl, ⟨_, _, rfl, rfl, rfl⟩⟩⟩⟩⟩ := hk12
      refine AnyE.loadCel 3 20 2 54 b9 o10 0 (.agg #[.int .i64 ((rdD p0 t2).1), .int .i64 ((rdD p0 t2).2.1), .int .i64 ((rdD p0 t2).2.2.1), .int .u16 ((rdD p0 t2).2.2.2.1), .int .i64 ((rdD p0 t2).2.2.2.2.1), .int .u8 ((rdD p0 t2).2.2.2.2.2)]) [] h13 rfl (by kernel_rfl) hS6 rfl rfl (by kernel_rfl) (by kernel_rfl) ?_
      refine AnyE.pure 4 21 (.slice pA1 p1.length pc1) (by kernel_rfl) hS6 (fun _ => by kernel_rfl) ?_
      refine AnyE.pure 5 22 (.int .i64 t2) (by kernel_rfl) hS6 (fun _ => by kernel_rfl) ?_
      obtain ⟨hc14, h⟩ := of_cond0 h
      refine AnyE.idxSl 6 23 1 26 t2 h13 (by kernel_rfl) hS6 rfl (by kernel_rfl) (by kernel_rfl) hc14 ?_
      intro b15 o16 cs17 hk18 h19
      obtain ⟨_, _, rfl, rfl, ⟨_, _, rfl, rfl, ⟨_, _, rfl, rfl, ⟨_, _, rfl, rfl, ⟨_, _, rfl, rfl, rfl⟩⟩⟩⟩⟩ := hk18
      refine AnyE.loadCel 7 24 3 54 b15 o16 0 (.agg #[.int .i64 ((rdD p1 t2).1), .int .i64 ((rdD p1 t2).2.1), .int .i64 ((rdD p1 t2).2.2.1), .int .u16 ((rdD p1 t2).2.2.2.1), .int .i64 ((rdD p1 t2).2.2.2.2.1), .int .u8 ((rdD p1 t2).2.2.2.2.2)]) [] h19 rfl (by kernel_rfl) hS6 rfl rfl (by kernel_rfl) (by kernel_rfl) ?_
      refine AnyE.run 8 25 (.bool (!((((rdD p0 t2).1) == ((rdD p1 t2).1)) && ((((rdD p0 t2).2.1) == ((rdD p1 t2).2.1)) && ((((rdD p0 t2).2.2.1) == ((rdD p1 t2).2.2.1)) && ((((rdD p0 t2).2.2.2.1) == ((rdD p1 t2).2.2.2.1)) && ((((rdD p0 t2).2.2.2.2.1) == ((rdD p1 t2).2.2.2.2.1)) && ((((rdD p0 t2).2.2.2.2.2) == ((rdD p1 t2).2.2.2.2.2)) && true)))))))) (by kernel_rfl) hS6 (fun _ hk => run_eqS (neg := true) (t := 54) (x := .agg #[.int .i64 ((rdD p0 t2).1), .int .i64 ((rdD p0 t2).2.1), .int .i64 ((rdD p0 t2).2.2.1), .int .u16 ((rdD p0 t2).2.2.2.1), .int .i64 ((rdD p0 t2).2.2.2.2.1), .int .u8 ((rdD p0 t2).2.2.2.2.2)]) (y := .agg #[.int .i64 ((rdD p1 t2).1), .int .i64 ((rdD p1 t2).2.1), .int .i64 ((rdD p1 t2).2.2.1), .int .u16 ((rdD p1 t2).2.2.2.1), .int .i64 ((rdD p1 t2).2.2.2.2.1), .int .u8 ((rdD p1 t2).2.2.2.2.2)]) (b := ((((rdD p0 t2).1) == ((rdD p1 t2).1)) && ((((rdD p0 t2).2.1) == ((rdD p1 t2).2.1)) && ((((rdD p0 t2).2.2.1) == ((rdD p1 t2).2.2.1)) && ((((rdD p0 t2).2.2.2.1) == ((rdD p1 t2).2.2.2.1)) && ((((rdD p0 t2).2.2.2.2.1) == ((rdD p1 t2).2.2.2.2.1)) && ((((rdD p0 t2).2.2.2.2.2) == ((rdD p1 t2).2.2.2.2.2)) && true))))))) (by kernel_rfl) (by kernel_rfl) (by kernel_rfl) (by kernel_rfl)) ?_
      refine AnyE.done (by kernel_rfl) (fun w20 hu21 => ?_)
      have h22 := h19.call hu21
      refine RunsI.only [0, 1, 5, 25] [(0, .slice pA0 p0.length pc0), (1, .slice pA1 p1.length pc1), (5, .int .i64 t2), (25, .bool (!((((rdD p0 t2).1) == ((rdD p1 t2).1)) && ((((rdD p0 t2).2.1) == ((rdD p1 t2).2.1)) && ((((rdD p0 t2).2.2.1) == ((rdD p1 t2).2.2.1)) && ((((rdD p0 t2).2.2.2.1) == ((rdD p1 t2).2.2.2.1)) && ((((rdD p0 t2).2.2.2.2.1) == ((rdD p1 t2).2.2.2.2.1)) && ((((rdD p0 t2).2.2.2.2.2) == ((rdD p1 t2).2.2.2.2.2)) && true))))))))] (by kernel_rfl) (by kernel_rfl) ?_
      rcases of_cond h with ⟨hc23, h⟩ | ⟨hc23, h⟩
      · skip
        refine RunsI.fix 25 true hc23 (by kernel_rfl) (by kernel_rfl) ?_
        refine RunsI.cond true 26 (by kernel_rfl) ?_
        refine RunsI.go 1 [.c 27, .c 28, .blk 1, .c 30, .lp 15, .blk 0, .c 31] (by kernel_rfl) ?_
        refine RunsI.region (by kernel_rfl) ?_
        refine RegI.pure 1 [4] [(4, .bool false)] (by kernel_rfl) ?_
        refine RegI.done (by kernel_rfl) ?_
        refine RunsI.ret (.bool false) (by kernel_rfl) (by kernel_rfl) ?_
        exact hk1 w20 (Option.some.inj h).symm (h22.pick [] (by decide))
      · skip
        refine RunsI.fix 25 false hc23 (by kernel_rfl) (by kernel_rfl) ?_
        refine RunsI.cond false 29 (by kernel_rfl) ?_
        refine RunsI.go 1 [.blk 1, .c 30, .lp 15, .blk 0, .c 31] (by kernel_rfl) ?_
        refine RunsI.go 1 [.c 30, .lp 15, .blk 0, .c 31] (by kernel_rfl) ?_
        refine RunsI.region (by kernel_rfl) ?_
        refine RegI.pure 3 [0, 1, 5] [(0, .slice pA0 p0.length pc0), (1, .slice pA1 p1.length pc1), (5, .int .i64 (IntKind.wrap .i64 (t2 + 1)))] (by kernel_rfl) ?_
        refine RegI.done (by kernel_rfl) ?_
        refine RunsI.go 1 [.c 15, .lp 15, .blk 0, .c 31] (by kernel_rfl) ?_
        refine RunsI.only [0, 1, 5] [(0, .slice pA0 p0.length pc0), (1, .slice pA1 p1.length pc1), (5, .int .i64 (IntKind.wrap .i64 (t2 + 1)))] (by kernel_rfl) (by kernel_rfl) ?_
        exact ih (IntKind.wrap .i64 (t2 + 1)) w20 h (h22.pick [0, 1] (by decide))
    · skip
      refine RunsI.fix 14 false hc3 (by kernel_rfl) (by kernel_rfl) ?_
      refine RunsI.cond false 20 (by kernel_rfl) ?_
      refine RunsI.go 1 [.c 31] (by kernel_rfl) ?_
      refine RunsI.only [] [] (by kernel_rfl) (by kernel_rfl) ?_
      exact hk0 w (Option.some.inj h).symm (hH.pick [] (by decide))
def charabancref28_Events_23.f (K : Nat) (p0 : List (Int × Int × Int × Int × Int × Int)) (p1 : List (Int × Int × Int × Int × Int × Int)) : Option Bool := cond ((p0.length : Int) != (p1.length : Int)) (some false) ((charabancref28_Events_23.l0 K p0 p1 K 0).bind (fun x24 => Lp.elim x24 (fun _ => some false) (fun _ => some true)))
set_option maxRecDepth 100000 in
theorem charabancref28_Events_23_ok (K : Nat) (M0 : Nat → Prop) (w0 : World) (pA0 : Option Addr) (pc0 : Nat) (pA1 : Option Addr) (pc1 : Nat) (p0 : List (Int × Int × Int × Int × Int × Int)) (p1 : List (Int × Int × Int × Int × Int × Int)) (ho : ∀ b, M0 b → b < w0.heap.size) (hs0 : Sl (Rp.pair (Rp.int .i64) (Rp.pair (Rp.int .i64) (Rp.pair (Rp.int .i64) (Rp.pair (Rp.int .u16) (Rp.pair (Rp.int .i64) (Rp.int .u8)))))) w0 M0 (.slice pA0 p0.length pc0) p0) (hs1 : Sl (Rp.pair (Rp.int .i64) (Rp.pair (Rp.int .i64) (Rp.pair (Rp.int .i64) (Rp.pair (Rp.int .u16) (Rp.pair (Rp.int .i64) (Rp.int .u8)))))) w0 M0 (.slice pA1 p1.length pc1) p1) {r : Bool} (h : charabancref28_Events_23.f K p0 p1 = some r) :
    Calls Tryd.prog 23 #[.slice pA0 p0.length pc0, .slice pA1 p1.length pc1] w0 (charabancref28_Events_23.post M0 w0 r) := by
  unfold charabancref28_Events_23.f at h
  have h0 : Holds M0 w0 w0 [] := Holds.start ho
  have h00 := h0.addSl (Rp.pair (Rp.int .i64) (Rp.pair (Rp.int .i64) (Rp.pair (Rp.int .i64) (Rp.pair (Rp.int .u16) (Rp.pair (Rp.int .i64) (Rp.int .u8)))))) (.slice pA0 p0.length pc0) p0 (hs0.mono (fun _ _ hm => hm.elim id (fun hm => absurd hm (by simp [mines, sl]))))
  have h01 := h00.addSl (Rp.pair (Rp.int .i64) (Rp.pair (Rp.int .i64) (Rp.pair (Rp.int .i64) (Rp.pair (Rp.int .u16) (Rp.pair (Rp.int .i64) (Rp.int .u8)))))) (.slice pA1 p1.length pc1) p1 (hs1.mono (fun _ _ hm => hm.elim id (fun hm => absurd hm (by simp [mines, sl]))))
  have h0 : Holds M0 w0 w0 [sl (Rp.pair (Rp.int .i64) (Rp.pair (Rp.int .i64) (Rp.pair (Rp.int .i64) (Rp.pair (Rp.int .u16) (Rp.pair (Rp.int .i64) (Rp.int .u8)))))) (.slice pA0 p0.length pc0) p0, sl (Rp.pair (Rp.int .i64) (Rp.pair (Rp.int .i64) (Rp.pair (Rp.int .i64) (Rp.pair (Rp.int .u16) (Rp.pair (Rp.int .i64) (Rp.int .u8)))))) (.slice pA1 p1.length pc1) p1] := h01
  refine calls_of F23 rfl [.slice pA0 p0.length pc0, .slice pA1 p1.length pc1] (by kernel_rfl) ?_
  refine RunsI.go 1 [.c 1, .c 2] (by kernel_rfl) ?_
  refine RunsI.region (by kernel_rfl) ?_
  refine RegI.pure 1 [0, 1] [(0, .slice pA0 p0.length pc0), (1, .slice pA1 p1.length pc1)] (by kernel_rfl) ?_
  refine RegI.done (by kernel_rfl) ?_
  refine RunsI.go 2 [.c 4, .c 5, .c 10] (by kernel_rfl) ?_
  refine RunsI.region (by kernel_rfl) ?_
  refine RegI.pure 5 [0, 1, 10] [(0, .slice pA0 p0.length pc0), (1, .slice pA1 p1.length pc1), (10, .bool ((p0.length : Int) != (p1.length : Int)))] (by kernel_rfl) ?_
  refine RegI.done (by kernel_rfl) ?_
  rcases of_cond h with ⟨hc1, h⟩ | ⟨hc1, h⟩
  · skip
    refine RunsI.fix 10 true hc1 (by kernel_rfl) (by kernel_rfl) ?_
    refine RunsI.cond true 6 (by kernel_rfl) ?_
    refine RunsI.go 1 [.c 7, .c 8, .c 10] (by kernel_rfl) ?_
    refine RunsI.region (by kernel_rfl) ?_
    refine RegI.pure 1 [4] [(4, .bool false)] (by kernel_rfl) ?_
    refine RegI.done (by kernel_rfl) ?_
    refine RunsI.ret (.bool false) (by kernel_rfl) (by kernel_rfl) ?_
    obtain rfl := Option.some.inj h
    exact ⟨rfl, h0.below⟩
  · skip
    refine RunsI.fix 10 false hc1 (by kernel_rfl) (by kernel_rfl) ?_
    refine RunsI.cond false 9 (by kernel_rfl) ?_
    refine RunsI.go 1 [.c 10] (by kernel_rfl) ?_
    refine RunsI.go 2 [.c 12, .c 13, .c 31] (by kernel_rfl) ?_
    refine RunsI.region (by kernel_rfl) ?_
    refine RegI.pure 1 [0, 1, 5] [(0, .slice pA0 p0.length pc0), (1, .slice pA1 p1.length pc1), (5, .int .i64 0)] (by kernel_rfl) ?_
    refine RegI.done (by kernel_rfl) ?_
    refine RunsI.go 2 [.c 15, .lp 15, .blk 0, .c 31] (by kernel_rfl) ?_
    obtain ⟨x24, hx25, h⟩ := of_bind h
    refine RunsI.only [0, 1, 5] [(0, .slice pA0 p0.length pc0), (1, .slice pA1 p1.length pc1), (5, .int .i64 0)] (by kernel_rfl) (by kernel_rfl) ?_
    refine charabancref28_Events_23.l0_ok K M0 w0 pA0 pc0 pA1 pc1 p0 p1 _ x24 ?_ ?_ K 0 w0 hx25 (h0.pick [0, 1] (by decide))
    · intro w27 hq30 h26
      (try rw [hq30] at h)
      dsimp only [Lp.elim] at h
      refine RunsI.go 1 [.c 32, .c 33] (by kernel_rfl) ?_
      refine RunsI.region (by kernel_rfl) ?_
      refine RegI.pure 1 [4] [(4, .bool true)] (by kernel_rfl) ?_
      refine RegI.done (by kernel_rfl) ?_
      refine RunsI.ret (.bool true) (by kernel_rfl) (by kernel_rfl) ?_
      obtain rfl := Option.some.inj h
      exact ⟨rfl, h26.below⟩
    · intro w29 hq31 h28
      (try rw [hq31] at h)
      dsimp only [Lp.elim] at h
      obtain rfl := Option.some.inj h
      exact ⟨rfl, h28.below⟩
end

/-! ### charabanc/charabancref11.Number (function 59) -/
section
def charabancref11_Number_59.post (M0 : Nat → Prop) (w0 : World) (r : ByteArray) : Ending → World → Prop := fun e w => e = .returned (.string r) ∧ Below w0.heap.size w0 w
def charabancref11_Number_59.Ok (SELF : Int → Option ByteArray) : Prop := ∀ (M0 : Nat → Prop) (w0 : World) (p0 : Int) (ho : ∀ b, M0 b → b < w0.heap.size) {r : ByteArray} (h : SELF p0 = some r), Calls Tryd.prog 59 #[.int .i64 p0] w0 (charabancref11_Number_59.post M0 w0 r)
def charabancref11_Number_59.l0 (K : Nat)(SELF : Int → Option ByteArray) (p0 : Int) : Nat → Int → ByteArray → Option ByteArray
  | 0, _, _ => none
  | k + 1, t9, t10 => cond (cutR (Int.tmod t9 10) (IntKind.wrap .i64 ((Int.tmod t9 10) + 1)) (⟨#[48, 49, 50, 51, 52, 53, 54, 55, 56, 57]⟩ : ByteArray).size) (cond (mayCat (strCut (⟨#[48, 49, 50, 51, 52, 53, 54, 55, 56, 57]⟩ : ByteArray) (Int.tmod t9 10) (IntKind.wrap .i64 ((Int.tmod t9 10) + 1))).size t10.size) (cond ((IntKind.wrap .i64 (Int.tdiv t9 10)) == 0) (some ((strCut (⟨#[48, 49, 50, 51, 52, 53, 54, 55, 56, 57]⟩ : ByteArray) (Int.tmod t9 10) (IntKind.wrap .i64 ((Int.tmod t9 10) + 1))) ++ t10)) (charabancref11_Number_59.l0 K SELF p0 k (IntKind.wrap .i64 (Int.tdiv t9 10)) ((strCut (⟨#[48, 49, 50, 51, 52, 53, 54, 55, 56, 57]⟩ : ByteArray) (Int.tmod t9 10) (IntKind.wrap .i64 ((Int.tmod t9 10) + 1))) ++ t10))) none) none
set_option maxRecDepth 100000 in
theorem charabancref11_Number_59.l0_ok (K : Nat) (SELF : Int → Option ByteArray) (hSELF : charabancref11_Number_59.Ok SELF) (M0 : Nat → Prop) (w0 : World) (p0 : Int) (R : Ending → World → Prop) (x : ByteArray) (hk0 : ∀ (t14 : ByteArray) (w1 : World), x = t14 → Holds M0 w0 w1 [] → R (.returned (.string t14)) w1) :
    ∀ (k : Nat) (t9 : Int) (t10 : ByteArray) (w : World), charabancref11_Number_59.l0 K SELF p0 k t9 t10 = some x → Holds M0 w0 w [] → RunsI F59 [.c 22, .lp 22, .blk 0] [(0, .int .i64 t9), (3, .string t10)] w R := by
  intro k
  induction k with
  | zero => intro t9 t10 w h hH; exact absurd h (by simp [charabancref11_Number_59.l0])
  | succ k ih =>
    intro t9 t10 w h hH
    rw [charabancref11_Number_59.l0.eq_2] at h
    refine RunsI.go 1 [.c 23, .blk 1, .lp 22, .blk 0] (by kernel_rfl) ?_
    refine RunsI.go 1 [.c 24, .c 25, .blk 1, .lp 22, .blk 0] (by kernel_rfl) ?_
    refine RunsI.region (by kernel_rfl) ?_
    refine RegI.pure 5 [0, 3, 15, 18] [(0, .int .i64 t9), (3, .string t10), (15, .int .i64 (Int.tmod t9 10)), (18, .int .i64 (IntKind.wrap .i64 ((Int.tmod t9 10) + 1)))] (by kernel_rfl) ?_
    obtain ⟨hc11, h⟩ := of_cond0 h
    refine RegI.op (by kernel_rfl) (OpE.run 19 (by kernel_rfl) (run_strCut (T := 9) (s := (⟨#[48, 49, 50, 51, 52, 53, 54, 55, 56, 57]⟩ : ByteArray)) (lo := (some (Int.tmod t9 10))) (hi := (some (IntKind.wrap .i64 ((Int.tmod t9 10) + 1)))) (by kernel_rfl) (by kernel_rfl) hc11) ?_)
    refine RegI.pure 1 [0, 19, 20] [(0, .int .i64 t9), (19, .string (strCut (⟨#[48, 49, 50, 51, 52, 53, 54, 55, 56, 57]⟩ : ByteArray) (Int.tmod t9 10) (IntKind.wrap .i64 ((Int.tmod t9 10) + 1)))), (20, .string t10)] (by kernel_rfl) ?_
    obtain ⟨hc12, h⟩ := of_cond0 h
    refine RegI.op (by kernel_rfl) (OpE.run 21 (by kernel_rfl) (run_cat (a := (strCut (⟨#[48, 49, 50, 51, 52, 53, 54, 55, 56, 57]⟩ : ByteArray) (Int.tmod t9 10) (IntKind.wrap .i64 ((Int.tmod t9 10) + 1)))) (b := t10) (by kernel_rfl) hc12) ?_)
    refine RegI.pure 1 [0, 3] [(0, .int .i64 t9), (3, .string ((strCut (⟨#[48, 49, 50, 51, 52, 53, 54, 55, 56, 57]⟩ : ByteArray) (Int.tmod t9 10) (IntKind.wrap .i64 ((Int.tmod t9 10) + 1))) ++ t10))] (by kernel_rfl) ?_
    refine RegI.done (by kernel_rfl) ?_
    refine RunsI.go 1 [.c 26, .c 27, .blk 1, .lp 22, .blk 0] (by kernel_rfl) ?_
    refine RunsI.region (by kernel_rfl) ?_
    refine RegI.pure 3 [0, 3] [(0, .int .i64 (IntKind.wrap .i64 (Int.tdiv t9 10))), (3, .string ((strCut (⟨#[48, 49, 50, 51, 52, 53, 54, 55, 56, 57]⟩ : ByteArray) (Int.tmod t9 10) (IntKind.wrap .i64 ((Int.tmod t9 10) + 1))) ++ t10))] (by kernel_rfl) ?_
    refine RegI.done (by kernel_rfl) ?_
    refine RunsI.go 1 [.c 28, .c 29, .blk 1, .lp 22, .blk 0] (by kernel_rfl) ?_
    refine RunsI.region (by kernel_rfl) ?_
    refine RegI.pure 2 [0, 3, 25] [(0, .int .i64 (IntKind.wrap .i64 (Int.tdiv t9 10))), (3, .string ((strCut (⟨#[48, 49, 50, 51, 52, 53, 54, 55, 56, 57]⟩ : ByteArray) (Int.tmod t9 10) (IntKind.wrap .i64 ((Int.tmod t9 10) + 1))) ++ t10)), (25, .bool ((IntKind.wrap .i64 (Int.tdiv t9 10)) == 0))] (by kernel_rfl) ?_
    refine RegI.done (by kernel_rfl) ?_
    rcases of_cond h with ⟨hc13, h⟩ | ⟨hc13, h⟩
    · skip
      refine RunsI.fix 25 true hc13 (by kernel_rfl) (by kernel_rfl) ?_
      refine RunsI.cond true 30 (by kernel_rfl) ?_
      refine RunsI.go 1 [.c 31, .c 32, .blk 1, .lp 22, .blk 0] (by kernel_rfl) ?_
      refine RunsI.region (by kernel_rfl) ?_
      refine RegI.pure 2 [2] [(2, .string ((strCut (⟨#[48, 49, 50, 51, 52, 53, 54, 55, 56, 57]⟩ : ByteArray) (Int.tmod t9 10) (IntKind.wrap .i64 ((Int.tmod t9 10) + 1))) ++ t10))] (by kernel_rfl) ?_
      refine RegI.done (by kernel_rfl) ?_
      refine RunsI.ret (.string ((strCut (⟨#[48, 49, 50, 51, 52, 53, 54, 55, 56, 57]⟩ : ByteArray) (Int.tmod t9 10) (IntKind.wrap .i64 ((Int.tmod t9 10) + 1))) ++ t10)) (by kernel_rfl) (by kernel_rfl) ?_
      exact hk0 ((strCut (⟨#[48, 49, 50, 51, 52, 53, 54, 55, 56, 57]⟩ : ByteArray) (Int.tmod t9 10) (IntKind.wrap .i64 ((Int.tmod t9 10) + 1))) ++ t10) w (Option.some.inj h).symm (hH.pick [] (by decide))
    · skip
      refine RunsI.fix 25 false hc13 (by kernel_rfl) (by kernel_rfl) ?_
      refine RunsI.cond false 33 (by kernel_rfl) ?_
      refine RunsI.go 1 [.blk 1, .lp 22, .blk 0] (by kernel_rfl) ?_
      refine RunsI.go 2 [.c 22, .lp 22, .blk 0] (by kernel_rfl) ?_
      refine RunsI.only [0, 3] [(0, .int .i64 (IntKind.wrap .i64 (Int.tdiv t9 10))), (3, .string ((strCut (⟨#[48, 49, 50, 51, 52, 53, 54, 55, 56, 57]⟩ : ByteArray) (Int.tmod t9 10) (IntKind.wrap .i64 ((Int.tmod t9 10) + 1))) ++ t10))] (by kernel_rfl) (by kernel_rfl) ?_
      exact ih (IntKind.wrap .i64 (Int.tdiv t9 10)) ((strCut (⟨#[48, 49, 50, 51, 52, 53, 54, 55, 56, 57]⟩ : ByteArray) (Int.tmod t9 10) (IntKind.wrap .i64 ((Int.tmod t9 10) + 1))) ++ t10) w h (hH.pick [] (by decide))
def charabancref11_Number_59.g (K : Nat) : Nat → Int → Option ByteArray
  | 0, _ => none
  | k + 1, p0 => cond (decide (p0 < 0)) (cond (p0 == (IntKind.wrap .i64 (0 - p0))) (some (⟨#[45, 57, 50, 50, 51, 51, 55, 50, 48, 51, 54, 56, 53, 52, 55, 55, 53, 56, 48, 56]⟩ : ByteArray)) (((charabancref11_Number_59.g K k) (IntKind.wrap .i64 (0 - p0))).bind fun t7 => cond (mayCat (⟨#[45]⟩ : ByteArray).size t7.size) (some ((⟨#[45]⟩ : ByteArray) ++ t7)) none)) ((charabancref11_Number_59.l0 K (charabancref11_Number_59.g K k) p0 K p0 (⟨#[]⟩ : ByteArray)).bind (fun t17 => some t17))
def charabancref11_Number_59.f (K : Nat) (p0 : Int) : Option ByteArray := charabancref11_Number_59.g K K p0
set_option maxRecDepth 100000 in
theorem charabancref11_Number_59.g_ok (K : Nat) : ∀ k, charabancref11_Number_59.Ok (charabancref11_Number_59.g K k) := by
  intro k
  induction k with
  | zero => intro M0 w0 p0 ho r h; exact absurd h (by simp [charabancref11_Number_59.g])
  | succ k ih =>
    intro M0 w0 p0 ho r h
    generalize hS : charabancref11_Number_59.g K k = SELF at ih
    rw [charabancref11_Number_59.g.eq_2, hS] at h
    clear hS
    have hSELF := ih
    clear ih
    have h0 : Holds M0 w0 w0 [] := Holds.start ho
    have h0 : Holds M0 w0 w0 [] := h0
    refine calls_of F59 rfl [.int .i64 p0] (by kernel_rfl) ?_
    refine RunsI.go 1 [.c 1, .c 2] (by kernel_rfl) ?_
    refine RunsI.region (by kernel_rfl) ?_
    refine RegI.pure 1 [0] [(0, .int .i64 p0)] (by kernel_rfl) ?_
    refine RegI.done (by kernel_rfl) ?_
    refine RunsI.go 2 [.c 4, .c 5, .c 18] (by kernel_rfl) ?_
    refine RunsI.region (by kernel_rfl) ?_
    refine RegI.pure 2 [0, 5] [(0, .int .i64 p0), (5, .bool (decide (p0 < 0)))] (by kernel_rfl) ?_
    refine RegI.done (by kernel_rfl) ?_
    rcases of_cond h with ⟨hc1, h⟩ | ⟨hc1, h⟩
    · skip
      refine RunsI.fix 5 true hc1 (by kernel_rfl) (by kernel_rfl) ?_
      refine RunsI.cond true 6 (by kernel_rfl) ?_
      refine RunsI.go 2 [.c 8, .c 9, .c 14, .c 18] (by kernel_rfl) ?_
      refine RunsI.region (by kernel_rfl) ?_
      refine RegI.pure 4 [0, 9] [(0, .int .i64 p0), (9, .bool (p0 == (IntKind.wrap .i64 (0 - p0))))] (by kernel_rfl) ?_
      refine RegI.done (by kernel_rfl) ?_
      rcases of_cond h with ⟨hc2, h⟩ | ⟨hc2, h⟩
      · skip
        refine RunsI.fix 9 true hc2 (by kernel_rfl) (by kernel_rfl) ?_
        refine RunsI.cond true 10 (by kernel_rfl) ?_
        refine RunsI.go 1 [.c 11, .c 12, .c 14, .c 18] (by kernel_rfl) ?_
        refine RunsI.region (by kernel_rfl) ?_
        refine RegI.pure 1 [2] [(2, .string (⟨#[45, 57, 50, 50, 51, 51, 55, 50, 48, 51, 54, 56, 53, 52, 55, 55, 53, 56, 48, 56]⟩ : ByteArray))] (by kernel_rfl) ?_
        refine RegI.done (by kernel_rfl) ?_
        refine RunsI.ret (.string (⟨#[45, 57, 50, 50, 51, 51, 55, 50, 48, 51, 54, 56, 53, 52, 55, 55, 53, 56, 48, 56]⟩ : ByteArray)) (by kernel_rfl) (by kernel_rfl) ?_
        obtain rfl := Option.some.inj h
        exact ⟨rfl, h0.below⟩
      · skip
        refine RunsI.fix 9 false hc2 (by kernel_rfl) (by kernel_rfl) ?_
        refine RunsI.cond false 13 (by kernel_rfl) ?_
        refine RunsI.go 1 [.c 14, .c 18] (by kernel_rfl) ?_
        refine RunsI.go 1 [.c 15, .c 16, .c 18] (by kernel_rfl) ?_
        refine RunsI.region (by kernel_rfl) ?_
        refine RegI.pure 2 [11] [(11, .int .i64 (IntKind.wrap .i64 (0 - p0)))] (by kernel_rfl) ?_
        obtain ⟨t7, hg6, h⟩ := of_bind h
        refine RegI.op (by kernel_rfl) (OpE.call 12 (by kernel_rfl) 59 #[.int .i64 (IntKind.wrap .i64 (0 - p0))] (by kernel_rfl) ((hSELF _ w0  (IntKind.wrap .i64 (0 - p0)) h0.old' hg6).mono ?_))
        rintro _ w3 ⟨rfl, hb4⟩
        refine ⟨_, rfl, ?_⟩
        have h5 := h0.call hb4
        obtain ⟨hc8, h⟩ := of_cond0 h
        refine RegI.op (by kernel_rfl) (OpE.run 13 (by kernel_rfl) (run_cat (a := (⟨#[45]⟩ : ByteArray)) (b := t7) (by kernel_rfl) hc8) ?_)
        refine RegI.pure 1 [2] [(2, .string ((⟨#[45]⟩ : ByteArray) ++ t7))] (by kernel_rfl) ?_
        refine RegI.done (by kernel_rfl) ?_
        refine RunsI.ret (.string ((⟨#[45]⟩ : ByteArray) ++ t7)) (by kernel_rfl) (by kernel_rfl) ?_
        obtain rfl := Option.some.inj h
        exact ⟨rfl, h5.below⟩
    · skip
      refine RunsI.fix 5 false hc1 (by kernel_rfl) (by kernel_rfl) ?_
      refine RunsI.cond false 17 (by kernel_rfl) ?_
      refine RunsI.go 1 [.c 18] (by kernel_rfl) ?_
      refine RunsI.go 1 [.c 19, .c 20] (by kernel_rfl) ?_
      refine RunsI.region (by kernel_rfl) ?_
      refine RegI.pure 1 [0, 3] [(0, .int .i64 p0), (3, .string (⟨#[]⟩ : ByteArray))] (by kernel_rfl) ?_
      refine RegI.done (by kernel_rfl) ?_
      refine RunsI.go 2 [.c 22, .lp 22, .blk 0] (by kernel_rfl) ?_
      obtain ⟨x15, hx16, h⟩ := of_bind h
      refine RunsI.only [0, 3] [(0, .int .i64 p0), (3, .string (⟨#[]⟩ : ByteArray))] (by kernel_rfl) (by kernel_rfl) ?_
      refine charabancref11_Number_59.l0_ok K SELF hSELF M0 w0 p0 _ x15 ?_ K p0 (⟨#[]⟩ : ByteArray) w0 hx16 (h0.pick [] (by decide))
      · intro t17 w19 hq20 h18
        (try rw [hq20] at h)
        obtain rfl := Option.some.inj h
        exact ⟨rfl, h18.below⟩
theorem charabancref11_Number_59_ok (K : Nat) (M0 : Nat → Prop) (w0 : World) (p0 : Int) (ho : ∀ b, M0 b → b < w0.heap.size) {r : ByteArray} (h : charabancref11_Number_59.f K p0 = some r) :
    Calls Tryd.prog 59 #[.int .i64 p0] w0 (charabancref11_Number_59.post M0 w0 r) := charabancref11_Number_59.g_ok K K M0 w0 p0 ho h
end

/-! ### charabanc/charabancref16.Kind (function 60) -/
section
def charabancref16_Kind_60.post (M0 : Nat → Prop) (w0 : World) (r : ByteArray) : Ending → World → Prop := fun e w => e = .returned (.string r) ∧ Below w0.heap.size w0 w
def charabancref16_Kind_60.f (K : Nat) (p0 : Int) : Option ByteArray := Let (fun (t9 : Bool) => cond t9 (some (⟨#[63]⟩ : ByteArray)) (cond (inR (IntKind.wrap .i64 (p0 - 1)) ([(⟨#[102, 101, 116, 99, 104]⟩ : ByteArray), (⟨#[114, 101, 97, 100]⟩ : ByteArray), (⟨#[119, 114, 105, 116, 101]⟩ : ByteArray), (⟨#[105, 110]⟩ : ByteArray), (⟨#[111, 117, 116]⟩ : ByteArray), (⟨#[97, 99, 107]⟩ : ByteArray), (⟨#[105, 110, 110, 101, 114]⟩ : ByteArray)] : List ByteArray).length) (some (rdD ([(⟨#[102, 101, 116, 99, 104]⟩ : ByteArray), (⟨#[114, 101, 97, 100]⟩ : ByteArray), (⟨#[119, 114, 105, 116, 101]⟩ : ByteArray), (⟨#[105, 110]⟩ : ByteArray), (⟨#[111, 117, 116]⟩ : ByteArray), (⟨#[97, 99, 107]⟩ : ByteArray), (⟨#[105, 110, 110, 101, 114]⟩ : ByteArray)] : List ByteArray) (IntKind.wrap .i64 (p0 - 1)))) none)) (fun j12 => cond (decide (p0 < 1)) (j12 true) (j12 (decide (p0 > 7))))
set_option maxRecDepth 100000 in
theorem charabancref16_Kind_60_ok (K : Nat) (M0 : Nat → Prop) (w0 : World) (p0 : Int) (ho : ∀ b, M0 b → b < w0.heap.size) {r : ByteArray} (h : charabancref16_Kind_60.f K p0 = some r) :
    Calls Tryd.prog 60 #[.int .i64 p0] w0 (charabancref16_Kind_60.post M0 w0 r) := by
  unfold charabancref16_Kind_60.f at h
  have h0 : Holds M0 w0 w0 [] := Holds.start ho
  have h0 : Holds M0 w0 w0 [] := h0
  refine calls_of F60 rfl [.int .i64 p0] (by kernel_rfl) ?_
  refine RunsI.go 1 [.c 1, .c 2] (by kernel_rfl) ?_
  refine RunsI.region (by kernel_rfl) ?_
  refine RegI.pure 1 [0] [(0, .int .i64 p0)] (by kernel_rfl) ?_
  refine RegI.done (by kernel_rfl) ?_
  refine RunsI.go 1 [.c 3, .c 4] (by kernel_rfl) ?_
  refine RunsI.region (by kernel_rfl) ?_
  refine RegI.op (by kernel_rfl) (OpE.lit 4 9 [.string (⟨#[102, 101, 116, 99, 104]⟩ : ByteArray), .string (⟨#[114, 101, 97, 100]⟩ : ByteArray), .string (⟨#[119, 114, 105, 116, 101]⟩ : ByteArray), .string (⟨#[105, 110]⟩ : ByteArray), .string (⟨#[111, 117, 116]⟩ : ByteArray), .string (⟨#[97, 99, 107]⟩ : ByteArray), .string (⟨#[105, 110, 110, 101, 114]⟩ : ByteArray)] 7 h0 (by kernel_rfl) (by kernel_rfl) ?_)
  intro w1 b2 h3 hb4 hn5
  refine RegI.pure 1 [0, 3] [(0, .int .i64 p0), (3, .slice (some ⟨b2, 0, none⟩) (([(⟨#[102, 101, 116, 99, 104]⟩ : ByteArray), (⟨#[114, 101, 97, 100]⟩ : ByteArray), (⟨#[119, 114, 105, 116, 101]⟩ : ByteArray), (⟨#[105, 110]⟩ : ByteArray), (⟨#[111, 117, 116]⟩ : ByteArray), (⟨#[97, 99, 107]⟩ : ByteArray), (⟨#[105, 110, 110, 101, 114]⟩ : ByteArray)] : List ByteArray).length) 7)] (by kernel_rfl) ?_
  refine RegI.done (by kernel_rfl) ?_
  refine RunsI.go 2 [.c 6, .c 7, .c 12] (by kernel_rfl) ?_
  refine RunsI.region (by kernel_rfl) ?_
  refine RegI.pure 3 [0, 3, 7] [(0, .int .i64 p0), (3, .slice (some ⟨b2, 0, none⟩) (([(⟨#[102, 101, 116, 99, 104]⟩ : ByteArray), (⟨#[114, 101, 97, 100]⟩ : ByteArray), (⟨#[119, 114, 105, 116, 101]⟩ : ByteArray), (⟨#[105, 110]⟩ : ByteArray), (⟨#[111, 117, 116]⟩ : ByteArray), (⟨#[97, 99, 107]⟩ : ByteArray), (⟨#[105, 110, 110, 101, 114]⟩ : ByteArray)] : List ByteArray).length) 7), (7, .bool (decide (p0 < 1)))] (by kernel_rfl) ?_
  obtain ⟨j12, hJ13, h⟩ := of_let h
  have hj14 : ∀ (t9 : Bool) (w11 : World), j12 t9 = some r → Holds M0 w0 w11 [own Rp.str 9 (.slice (some ⟨b2, 0, none⟩) (([(⟨#[102, 101, 116, 99, 104]⟩ : ByteArray), (⟨#[114, 101, 97, 100]⟩ : ByteArray), (⟨#[119, 114, 105, 116, 101]⟩ : ByteArray), (⟨#[105, 110]⟩ : ByteArray), (⟨#[111, 117, 116]⟩ : ByteArray), (⟨#[97, 99, 107]⟩ : ByteArray), (⟨#[105, 110, 110, 101, 114]⟩ : ByteArray)] : List ByteArray).length) 7) ([(⟨#[102, 101, 116, 99, 104]⟩ : ByteArray), (⟨#[114, 101, 97, 100]⟩ : ByteArray), (⟨#[119, 114, 105, 116, 101]⟩ : ByteArray), (⟨#[105, 110]⟩ : ByteArray), (⟨#[111, 117, 116]⟩ : ByteArray), (⟨#[97, 99, 107]⟩ : ByteArray), (⟨#[105, 110, 110, 101, 114]⟩ : ByteArray)] : List ByteArray)] → RegI F60 6 [.c 7, .c 12] 6 [(0, .int .i64 p0), (3, .slice (some ⟨b2, 0, none⟩) (([(⟨#[102, 101, 116, 99, 104]⟩ : ByteArray), (⟨#[114, 101, 97, 100]⟩ : ByteArray), (⟨#[119, 114, 105, 116, 101]⟩ : ByteArray), (⟨#[105, 110]⟩ : ByteArray), (⟨#[111, 117, 116]⟩ : ByteArray), (⟨#[97, 99, 107]⟩ : ByteArray), (⟨#[105, 110, 110, 101, 114]⟩ : ByteArray)] : List ByteArray).length) 7), (10, .bool t9)] w11 (charabancref16_Kind_60.post M0 w0 r) := by
    intro t9 w11 h h10
    rw [hJ13] at h
    clear hJ13
    dsimp only at h
    refine RegI.done (by kernel_rfl) ?_
    rcases of_cond h with ⟨hc15, h⟩ | ⟨hc15, h⟩
    · skip
      refine RunsI.fix 10 true hc15 (by kernel_rfl) (by kernel_rfl) ?_
      refine RunsI.cond true 8 (by kernel_rfl) ?_
      refine RunsI.go 1 [.c 9, .c 10, .c 12] (by kernel_rfl) ?_
      refine RunsI.region (by kernel_rfl) ?_
      refine RegI.pure 1 [2] [(2, .string (⟨#[63]⟩ : ByteArray))] (by kernel_rfl) ?_
      refine RegI.done (by kernel_rfl) ?_
      refine RunsI.ret (.string (⟨#[63]⟩ : ByteArray)) (by kernel_rfl) (by kernel_rfl) ?_
      obtain rfl := Option.some.inj h
      exact ⟨rfl, h10.below⟩
    · skip
      refine RunsI.fix 10 false hc15 (by kernel_rfl) (by kernel_rfl) ?_
      refine RunsI.cond false 11 (by kernel_rfl) ?_
      refine RunsI.go 1 [.c 12] (by kernel_rfl) ?_
      refine RunsI.go 1 [.c 13, .c 14] (by kernel_rfl) ?_
      refine RunsI.region (by kernel_rfl) ?_
      refine RegI.pure 3 [11, 13] [(11, .slice (some ⟨b2, 0, none⟩) (([(⟨#[102, 101, 116, 99, 104]⟩ : ByteArray), (⟨#[114, 101, 97, 100]⟩ : ByteArray), (⟨#[119, 114, 105, 116, 101]⟩ : ByteArray), (⟨#[105, 110]⟩ : ByteArray), (⟨#[111, 117, 116]⟩ : ByteArray), (⟨#[97, 99, 107]⟩ : ByteArray), (⟨#[105, 110, 110, 101, 114]⟩ : ByteArray)] : List ByteArray).length) 7), (13, .int .i64 (IntKind.wrap .i64 (p0 - 1)))] (by kernel_rfl) ?_
      obtain ⟨hc16, h⟩ := of_cond0 h
      refine RegI.op (by kernel_rfl) (OpE.idxOwnA 14 0 101 9 (IntKind.wrap .i64 (p0 - 1)) h10 (by kernel_rfl) rfl (by kernel_rfl) (by kernel_rfl) hc16 ?_)
      refine RegI.op (by kernel_rfl) (OpE.loadOwnA 15 0 9 9 (IntKind.wrap .i64 (p0 - 1)) 0 (o := (Int.toNat (IntKind.wrap .i64 (p0 - 1))) * 1 + 0) h10 (by kernel_rfl) rfl (by kernel_rfl) (by kernel_rfl) hc16 (fun cs17 hk18 => ?_))
      obtain rfl := hk18
      refine ⟨.string (rdD ([(⟨#[102, 101, 116, 99, 104]⟩ : ByteArray), (⟨#[114, 101, 97, 100]⟩ : ByteArray), (⟨#[119, 114, 105, 116, 101]⟩ : ByteArray), (⟨#[105, 110]⟩ : ByteArray), (⟨#[111, 117, 116]⟩ : ByteArray), (⟨#[97, 99, 107]⟩ : ByteArray), (⟨#[105, 110, 110, 101, 114]⟩ : ByteArray)] : List ByteArray) (IntKind.wrap .i64 (p0 - 1))), by kernel_rfl, ?_⟩
      refine RegI.pure 1 [2] [(2, .string (rdD ([(⟨#[102, 101, 116, 99, 104]⟩ : ByteArray), (⟨#[114, 101, 97, 100]⟩ : ByteArray), (⟨#[119, 114, 105, 116, 101]⟩ : ByteArray), (⟨#[105, 110]⟩ : ByteArray), (⟨#[111, 117, 116]⟩ : ByteArray), (⟨#[97, 99, 107]⟩ : ByteArray), (⟨#[105, 110, 110, 101, 114]⟩ : ByteArray)] : List ByteArray) (IntKind.wrap .i64 (p0 - 1))))] (by kernel_rfl) ?_
      refine RegI.done (by kernel_rfl) ?_
      refine RunsI.ret (.string (rdD ([(⟨#[102, 101, 116, 99, 104]⟩ : ByteArray), (⟨#[114, 101, 97, 100]⟩ : ByteArray), (⟨#[119, 114, 105, 116, 101]⟩ : ByteArray), (⟨#[105, 110]⟩ : ByteArray), (⟨#[111, 117, 116]⟩ : ByteArray), (⟨#[97, 99, 107]⟩ : ByteArray), (⟨#[105, 110, 110, 101, 114]⟩ : ByteArray)] : List ByteArray) (IntKind.wrap .i64 (p0 - 1)))) (by kernel_rfl) (by kernel_rfl) ?_
      obtain rfl := Option.some.inj h
      exact ⟨rfl, h10.below⟩
  clear hJ13
  rcases of_cond h with ⟨hc6, h⟩ | ⟨hc6, h⟩
  · skip
    refine RegI.fix 7 true hc6 (by kernel_rfl) (by kernel_rfl) ?_
    refine RegI.pure 3 [0, 3, 10] [(0, .int .i64 p0), (3, .slice (some ⟨b2, 0, none⟩) (([(⟨#[102, 101, 116, 99, 104]⟩ : ByteArray), (⟨#[114, 101, 97, 100]⟩ : ByteArray), (⟨#[119, 114, 105, 116, 101]⟩ : ByteArray), (⟨#[105, 110]⟩ : ByteArray), (⟨#[111, 117, 116]⟩ : ByteArray), (⟨#[97, 99, 107]⟩ : ByteArray), (⟨#[105, 110, 110, 101, 114]⟩ : ByteArray)] : List ByteArray).length) 7), (10, .bool true)] (by kernel_rfl) ?_
    have h7 := h3.boxOwn 0 rfl Rp.str ([(⟨#[102, 101, 116, 99, 104]⟩ : ByteArray), (⟨#[114, 101, 97, 100]⟩ : ByteArray), (⟨#[119, 114, 105, 116, 101]⟩ : ByteArray), (⟨#[105, 110]⟩ : ByteArray), (⟨#[111, 117, 116]⟩ : ByteArray), (⟨#[97, 99, 107]⟩ : ByteArray), (⟨#[105, 110, 110, 101, 114]⟩ : ByteArray)] : List ByteArray) (cells_str _ _ _) (Nat.le_of_ble_eq_true (by kernel_rfl))
    refine RegI.only [0, 3, 10] [(0, .int .i64 p0), (3, .slice (some ⟨b2, 0, none⟩) (([(⟨#[102, 101, 116, 99, 104]⟩ : ByteArray), (⟨#[114, 101, 97, 100]⟩ : ByteArray), (⟨#[119, 114, 105, 116, 101]⟩ : ByteArray), (⟨#[105, 110]⟩ : ByteArray), (⟨#[111, 117, 116]⟩ : ByteArray), (⟨#[97, 99, 107]⟩ : ByteArray), (⟨#[105, 110, 110, 101, 114]⟩ : ByteArray)] : List ByteArray).length) 7), (10, .bool true)] (by kernel_rfl) (by kernel_rfl) ?_
    exact hj14 true w1 h (h7.pick [0] (by decide))
  · skip
    refine RegI.fix 7 false hc6 (by kernel_rfl) (by kernel_rfl) ?_
    refine RegI.pure 3 [0, 3, 10] [(0, .int .i64 p0), (3, .slice (some ⟨b2, 0, none⟩) (([(⟨#[102, 101, 116, 99, 104]⟩ : ByteArray), (⟨#[114, 101, 97, 100]⟩ : ByteArray), (⟨#[119, 114, 105, 116, 101]⟩ : ByteArray), (⟨#[105, 110]⟩ : ByteArray), (⟨#[111, 117, 116]⟩ : ByteArray), (⟨#[97, 99, 107]⟩ : ByteArray), (⟨#[105, 110, 110, 101, 114]⟩ : ByteArray)] : List ByteArray).length) 7), (10, .bool (decide (p0 > 7)))] (by kernel_rfl) ?_
    have h8 := h3.boxOwn 0 rfl Rp.str ([(⟨#[102, 101, 116, 99, 104]⟩ : ByteArray), (⟨#[114, 101, 97, 100]⟩ : ByteArray), (⟨#[119, 114, 105, 116, 101]⟩ : ByteArray), (⟨#[105, 110]⟩ : ByteArray), (⟨#[111, 117, 116]⟩ : ByteArray), (⟨#[97, 99, 107]⟩ : ByteArray), (⟨#[105, 110, 110, 101, 114]⟩ : ByteArray)] : List ByteArray) (cells_str _ _ _) (Nat.le_of_ble_eq_true (by kernel_rfl))
    refine RegI.only [0, 3, 10] [(0, .int .i64 p0), (3, .slice (some ⟨b2, 0, none⟩) (([(⟨#[102, 101, 116, 99, 104]⟩ : ByteArray), (⟨#[114, 101, 97, 100]⟩ : ByteArray), (⟨#[119, 114, 105, 116, 101]⟩ : ByteArray), (⟨#[105, 110]⟩ : ByteArray), (⟨#[111, 117, 116]⟩ : ByteArray), (⟨#[97, 99, 107]⟩ : ByteArray), (⟨#[105, 110, 110, 101, 114]⟩ : ByteArray)] : List ByteArray).length) 7), (10, .bool (decide (p0 > 7)))] (by kernel_rfl) (by kernel_rfl) ?_
    exact hj14 (decide (p0 > 7)) w1 h (h8.pick [0] (by decide))
end

/-! ### charabanc/charabancref09.digits (function 96) -/
section
def charabancref09_digits_96.post (M0 : Nat → Prop) (w0 : World) (r : ByteArray) : Ending → World → Prop := fun e w => e = .returned (.string r) ∧ Below w0.heap.size w0 w
def charabancref09_digits_96.l0 (K : Nat) (p0 : Int) (p1 : Int) (p2 : Int) : Nat → Int → ByteArray → Option ByteArray
  | 0, _, _ => none
  | k + 1, t1, t2 => Let (fun (t5 : Bool) => cond t5 (cond (p1 != 0) (cond (cutR (Int.tmod t1 p1) (IntKind.wrap .i64 ((Int.tmod t1 p1) + 1)) (⟨#[48, 49, 50, 51, 52, 53, 54, 55, 56, 57, 97, 98, 99, 100, 101, 102]⟩ : ByteArray).size) (cond (mayCat (strCut (⟨#[48, 49, 50, 51, 52, 53, 54, 55, 56, 57, 97, 98, 99, 100, 101, 102]⟩ : ByteArray) (Int.tmod t1 p1) (IntKind.wrap .i64 ((Int.tmod t1 p1) + 1))).size t2.size) (charabancref09_digits_96.l0 K p0 p1 p2 k (IntKind.wrap .i64 (Int.tdiv t1 p1)) ((strCut (⟨#[48, 49, 50, 51, 52, 53, 54, 55, 56, 57, 97, 98, 99, 100, 101, 102]⟩ : ByteArray) (Int.tmod t1 p1) (IntKind.wrap .i64 ((Int.tmod t1 p1) + 1))) ++ t2)) none) none) none) (some t2)) (fun j8 => cond (decide (t1 > 0)) (j8 true) (cond (decide ((t2.size : Int) < p2)) (j8 true) (j8 ((ByteArray.toList t2) == (ByteArray.toList (⟨#[]⟩ : ByteArray))))))
set_option maxRecDepth 100000 in
theorem charabancref09_digits_96.l0_ok (K : Nat) (M0 : Nat → Prop) (w0 : World) (p0 : Int) (p1 : Int) (p2 : Int) (R : Ending → World → Prop) (x : ByteArray) (hk0 : ∀ (t22 : ByteArray) (w1 : World), x = t22 → Holds M0 w0 w1 [] → RunsI F96 [.c 19] [(8, .string t22)] w1 R) :
    ∀ (k : Nat) (t1 : Int) (t2 : ByteArray) (w : World), charabancref09_digits_96.l0 K p0 p1 p2 k t1 t2 = some x → Holds M0 w0 w [] → RunsI F96 [.c 9, .lp 9, .blk 0, .c 19] [(0, .int .i64 t1), (1, .int .i64 p1), (2, .int .i64 p2), (7, .string (⟨#[48, 49, 50, 51, 52, 53, 54, 55, 56, 57, 97, 98, 99, 100, 101, 102]⟩ : ByteArray)), (8, .string t2)] w R := by
  intro k
  induction k with
  | zero => intro t1 t2 w h hH; exact absurd h (by simp [charabancref09_digits_96.l0])
  | succ k ih =>
    intro t1 t2 w h hH
    rw [charabancref09_digits_96.l0.eq_2] at h
    refine RunsI.go 1 [.c 10, .c 15, .lp 9, .blk 0, .c 19] (by kernel_rfl) ?_
    refine RunsI.go 1 [.c 11, .c 12, .c 15, .lp 9, .blk 0, .c 19] (by kernel_rfl) ?_
    refine RunsI.region (by kernel_rfl) ?_
    refine RegI.pure 3 [0, 1, 2, 7, 8, 11] [(0, .int .i64 t1), (1, .int .i64 p1), (2, .int .i64 p2), (7, .string (⟨#[48, 49, 50, 51, 52, 53, 54, 55, 56, 57, 97, 98, 99, 100, 101, 102]⟩ : ByteArray)), (8, .string t2), (11, .bool (decide (t1 > 0)))] (by kernel_rfl) ?_
    obtain ⟨j8, hJ9, h⟩ := of_let h
    have hj10 : ∀ (t5 : Bool) (w7 : World), j8 t5 = some x → Holds M0 w0 w7 [] → RegI F96 11 [.c 12, .c 15, .lp 9, .blk 0, .c 19] 12 [(0, .int .i64 t1), (1, .int .i64 p1), (2, .int .i64 p2), (7, .string (⟨#[48, 49, 50, 51, 52, 53, 54, 55, 56, 57, 97, 98, 99, 100, 101, 102]⟩ : ByteArray)), (8, .string t2), (20, .bool t5)] w7 R := by
      intro t5 w7 h h6
      rw [hJ9] at h
      clear hJ9
      dsimp only at h
      refine RegI.done (by kernel_rfl) ?_
      rcases of_cond h with ⟨hc11, h⟩ | ⟨hc11, h⟩
      · skip
        refine RunsI.fix 20 true hc11 (by kernel_rfl) (by kernel_rfl) ?_
        refine RunsI.cond true 13 (by kernel_rfl) ?_
        refine RunsI.go 1 [.c 15, .lp 9, .blk 0, .c 19] (by kernel_rfl) ?_
        refine RunsI.go 2 [.c 17, .c 18, .blk 1, .lp 9, .blk 0, .c 19] (by kernel_rfl) ?_
        refine RunsI.any 12 (by kernel_rfl) (by kernel_rfl) (by kernel_rfl) (Kp ([] : List Nat) (World.drew w7)) ?_
        have h13 := h6.drew
        generalize World.drew w7 = w12 at h13 ⊢
        have hS14 := Kp.refl ([] : List Nat) w12
        refine AnyE.pure 0 21 (.string (⟨#[48, 49, 50, 51, 52, 53, 54, 55, 56, 57, 97, 98, 99, 100, 101, 102]⟩ : ByteArray)) (by kernel_rfl) hS14 (fun _ => by kernel_rfl) ?_
        refine AnyE.pure 1 22 (.int .i64 t1) (by kernel_rfl) hS14 (fun _ => by kernel_rfl) ?_
        refine AnyE.pure 2 23 (.int .i64 p1) (by kernel_rfl) hS14 (fun _ => by kernel_rfl) ?_
        obtain ⟨hc16, h⟩ := of_cond0 h
        refine AnyE.run 3 24 (.int .i64 (Int.tmod t1 p1)) (by kernel_rfl) hS14 (fun _ hk => run_rem (k := .i64) (a := t1) (b := p1) (by kernel_rfl) hc16) ?_
        refine AnyE.pure 4 25 (.int .i64 t1) (by kernel_rfl) hS14 (fun _ => by kernel_rfl) ?_
        refine AnyE.pure 5 26 (.int .i64 p1) (by kernel_rfl) hS14 (fun _ => by kernel_rfl) ?_
        refine AnyE.run 6 27 (.int .i64 (Int.tmod t1 p1)) (by kernel_rfl) hS14 (fun _ hk => run_rem (k := .i64) (a := t1) (b := p1) (by kernel_rfl) hc16) ?_
        refine AnyE.pure 7 28 (.int .i64 (IntKind.wrap .i64 ((Int.tmod t1 p1) + 1))) (by kernel_rfl) hS14 (fun _ => by kernel_rfl) ?_
        obtain ⟨hc17, h⟩ := of_cond0 h
        refine AnyE.run 8 29 (.string (strCut (⟨#[48, 49, 50, 51, 52, 53, 54, 55, 56, 57, 97, 98, 99, 100, 101, 102]⟩ : ByteArray) (Int.tmod t1 p1) (IntKind.wrap .i64 ((Int.tmod t1 p1) + 1)))) (by kernel_rfl) hS14 (fun _ hk => run_strCut (T := 9) (s := (⟨#[48, 49, 50, 51, 52, 53, 54, 55, 56, 57, 97, 98, 99, 100, 101, 102]⟩ : ByteArray)) (lo := (some (Int.tmod t1 p1))) (hi := (some (IntKind.wrap .i64 ((Int.tmod t1 p1) + 1)))) (by kernel_rfl) (by kernel_rfl) hc17) ?_
        refine AnyE.pure 9 30 (.string t2) (by kernel_rfl) hS14 (fun _ => by kernel_rfl) ?_
        obtain ⟨hc18, h⟩ := of_cond0 h
        refine AnyE.run 10 31 (.string ((strCut (⟨#[48, 49, 50, 51, 52, 53, 54, 55, 56, 57, 97, 98, 99, 100, 101, 102]⟩ : ByteArray) (Int.tmod t1 p1) (IntKind.wrap .i64 ((Int.tmod t1 p1) + 1))) ++ t2)) (by kernel_rfl) hS14 (fun _ hk => run_cat (a := (strCut (⟨#[48, 49, 50, 51, 52, 53, 54, 55, 56, 57, 97, 98, 99, 100, 101, 102]⟩ : ByteArray) (Int.tmod t1 p1) (IntKind.wrap .i64 ((Int.tmod t1 p1) + 1)))) (b := t2) (by kernel_rfl) hc18) ?_
        refine AnyE.pure 11 8 (.string ((strCut (⟨#[48, 49, 50, 51, 52, 53, 54, 55, 56, 57, 97, 98, 99, 100, 101, 102]⟩ : ByteArray) (Int.tmod t1 p1) (IntKind.wrap .i64 ((Int.tmod t1 p1) + 1))) ++ t2)) (by kernel_rfl) hS14 (fun _ => by kernel_rfl) ?_
        refine AnyE.done (by kernel_rfl) (fun w19 hu20 => ?_)
        have h21 := h13.call hu20
        refine RunsI.only [0, 1, 2, 7, 8] [(0, .int .i64 t1), (1, .int .i64 p1), (2, .int .i64 p2), (7, .string (⟨#[48, 49, 50, 51, 52, 53, 54, 55, 56, 57, 97, 98, 99, 100, 101, 102]⟩ : ByteArray)), (8, .string ((strCut (⟨#[48, 49, 50, 51, 52, 53, 54, 55, 56, 57, 97, 98, 99, 100, 101, 102]⟩ : ByteArray) (Int.tmod t1 p1) (IntKind.wrap .i64 ((Int.tmod t1 p1) + 1))) ++ t2))] (by kernel_rfl) (by kernel_rfl) ?_
        refine RunsI.region (by kernel_rfl) ?_
        refine RegI.pure 2 [1, 2, 7, 8, 32, 33] [(1, .int .i64 p1), (2, .int .i64 p2), (7, .string (⟨#[48, 49, 50, 51, 52, 53, 54, 55, 56, 57, 97, 98, 99, 100, 101, 102]⟩ : ByteArray)), (8, .string ((strCut (⟨#[48, 49, 50, 51, 52, 53, 54, 55, 56, 57, 97, 98, 99, 100, 101, 102]⟩ : ByteArray) (Int.tmod t1 p1) (IntKind.wrap .i64 ((Int.tmod t1 p1) + 1))) ++ t2)), (32, .int .i64 t1), (33, .int .i64 p1)] (by kernel_rfl) ?_
        refine RegI.op (by kernel_rfl) (OpE.run 34 (by kernel_rfl) (run_quo (k := .i64) (a := t1) (b := p1) (by kernel_rfl) hc16) ?_)
        refine RegI.pure 1 [0, 1, 2, 7, 8] [(0, .int .i64 (IntKind.wrap .i64 (Int.tdiv t1 p1))), (1, .int .i64 p1), (2, .int .i64 p2), (7, .string (⟨#[48, 49, 50, 51, 52, 53, 54, 55, 56, 57, 97, 98, 99, 100, 101, 102]⟩ : ByteArray)), (8, .string ((strCut (⟨#[48, 49, 50, 51, 52, 53, 54, 55, 56, 57, 97, 98, 99, 100, 101, 102]⟩ : ByteArray) (Int.tmod t1 p1) (IntKind.wrap .i64 ((Int.tmod t1 p1) + 1))) ++ t2))] (by kernel_rfl) ?_
        refine RegI.done (by kernel_rfl) ?_
        refine RunsI.go 2 [.c 9, .lp 9, .blk 0, .c 19] (by kernel_rfl) ?_
        refine RunsI.only [0, 1, 2, 7, 8] [(0, .int .i64 (IntKind.wrap .i64 (Int.tdiv t1 p1))), (1, .int .i64 p1), (2, .int .i64 p2), (7, .string (⟨#[48, 49, 50, 51, 52, 53, 54, 55, 56, 57, 97, 98, 99, 100, 101, 102]⟩ : ByteArray)), (8, .string ((strCut (⟨#[48, 49, 50, 51, 52, 53, 54, 55, 56, 57, 97, 98, 99, 100, 101, 102]⟩ : ByteArray) (Int.tmod t1 p1) (IntKind.wrap .i64 ((Int.tmod t1 p1) + 1))) ++ t2))] (by kernel_rfl) (by kernel_rfl) ?_
        exact ih (IntKind.wrap .i64 (Int.tdiv t1 p1)) ((strCut (⟨#[48, 49, 50, 51, 52, 53, 54, 55, 56, 57, 97, 98, 99, 100, 101, 102]⟩ : ByteArray) (Int.tmod t1 p1) (IntKind.wrap .i64 ((Int.tmod t1 p1) + 1))) ++ t2) w19 h (h21.pick [] (by decide))
      · skip
        refine RunsI.fix 20 false hc11 (by kernel_rfl) (by kernel_rfl) ?_
        refine RunsI.cond false 14 (by kernel_rfl) ?_
        refine RunsI.go 1 [.c 19] (by kernel_rfl) ?_
        refine RunsI.only [8] [(8, .string t2)] (by kernel_rfl) (by kernel_rfl) ?_
        exact hk0 t2 w7 (Option.some.inj h).symm (h6.pick [] (by decide))
    clear hJ9
    rcases of_cond h with ⟨hc3, h⟩ | ⟨hc3, h⟩
    · skip
      refine RegI.fix 11 true hc3 (by kernel_rfl) (by kernel_rfl) ?_
      refine RegI.pure 9 [0, 1, 2, 7, 8, 20] [(0, .int .i64 t1), (1, .int .i64 p1), (2, .int .i64 p2), (7, .string (⟨#[48, 49, 50, 51, 52, 53, 54, 55, 56, 57, 97, 98, 99, 100, 101, 102]⟩ : ByteArray)), (8, .string t2), (20, .bool true)] (by kernel_rfl) ?_
      refine RegI.only [0, 1, 2, 7, 8, 20] [(0, .int .i64 t1), (1, .int .i64 p1), (2, .int .i64 p2), (7, .string (⟨#[48, 49, 50, 51, 52, 53, 54, 55, 56, 57, 97, 98, 99, 100, 101, 102]⟩ : ByteArray)), (8, .string t2), (20, .bool true)] (by kernel_rfl) (by kernel_rfl) ?_
      exact hj10 true w h (hH.pick [] (by decide))
    · skip
      refine RegI.fix 11 false hc3 (by kernel_rfl) (by kernel_rfl) ?_
      refine RegI.pure 6 [0, 1, 2, 7, 8, 17] [(0, .int .i64 t1), (1, .int .i64 p1), (2, .int .i64 p2), (7, .string (⟨#[48, 49, 50, 51, 52, 53, 54, 55, 56, 57, 97, 98, 99, 100, 101, 102]⟩ : ByteArray)), (8, .string t2), (17, .bool (decide ((t2.size : Int) < p2)))] (by kernel_rfl) ?_
      rcases of_cond h with ⟨hc4, h⟩ | ⟨hc4, h⟩
      · skip
        refine RegI.fix 17 true hc4 (by kernel_rfl) (by kernel_rfl) ?_
        refine RegI.pure 3 [0, 1, 2, 7, 8, 20] [(0, .int .i64 t1), (1, .int .i64 p1), (2, .int .i64 p2), (7, .string (⟨#[48, 49, 50, 51, 52, 53, 54, 55, 56, 57, 97, 98, 99, 100, 101, 102]⟩ : ByteArray)), (8, .string t2), (20, .bool true)] (by kernel_rfl) ?_
        refine RegI.only [0, 1, 2, 7, 8, 20] [(0, .int .i64 t1), (1, .int .i64 p1), (2, .int .i64 p2), (7, .string (⟨#[48, 49, 50, 51, 52, 53, 54, 55, 56, 57, 97, 98, 99, 100, 101, 102]⟩ : ByteArray)), (8, .string t2), (20, .bool true)] (by kernel_rfl) (by kernel_rfl) ?_
        exact hj10 true w h (hH.pick [] (by decide))
      · skip
        refine RegI.fix 17 false hc4 (by kernel_rfl) (by kernel_rfl) ?_
        refine RegI.pure 3 [0, 1, 2, 7, 8, 20] [(0, .int .i64 t1), (1, .int .i64 p1), (2, .int .i64 p2), (7, .string (⟨#[48, 49, 50, 51, 52, 53, 54, 55, 56, 57, 97, 98, 99, 100, 101, 102]⟩ : ByteArray)), (8, .string t2), (20, .bool ((ByteArray.toList t2) == (ByteArray.toList (⟨#[]⟩ : ByteArray))))] (by kernel_rfl) ?_
        refine RegI.only [0, 1, 2, 7, 8, 20] [(0, .int .i64 t1), (1, .int .i64 p1), (2, .int .i64 p2), (7, .string (⟨#[48, 49, 50, 51, 52, 53, 54, 55, 56, 57, 97, 98, 99, 100, 101, 102]⟩ : ByteArray)), (8, .string t2), (20, .bool ((ByteArray.toList t2) == (ByteArray.toList (⟨#[]⟩ : ByteArray))))] (by kernel_rfl) (by kernel_rfl) ?_
        exact hj10 ((ByteArray.toList t2) == (ByteArray.toList (⟨#[]⟩ : ByteArray))) w h (hH.pick [] (by decide))
def charabancref09_digits_96.f (K : Nat) (p0 : Int) (p1 : Int) (p2 : Int) : Option ByteArray := (charabancref09_digits_96.l0 K p0 p1 p2 K p0 (⟨#[]⟩ : ByteArray)).bind (fun t25 => some t25)
set_option maxRecDepth 100000 in
theorem charabancref09_digits_96_ok (K : Nat) (M0 : Nat → Prop) (w0 : World) (p0 : Int) (p1 : Int) (p2 : Int) (ho : ∀ b, M0 b → b < w0.heap.size) {r : ByteArray} (h : charabancref09_digits_96.f K p0 p1 p2 = some r) :
    Calls Tryd.prog 96 #[.int .i64 p0, .int .i64 p1, .int .i64 p2] w0 (charabancref09_digits_96.post M0 w0 r) := by
  unfold charabancref09_digits_96.f at h
  have h0 : Holds M0 w0 w0 [] := Holds.start ho
  have h0 : Holds M0 w0 w0 [] := h0
  refine calls_of F96 rfl [.int .i64 p0, .int .i64 p1, .int .i64 p2] (by kernel_rfl) ?_
  refine RunsI.go 1 [.c 1, .c 2] (by kernel_rfl) ?_
  refine RunsI.region (by kernel_rfl) ?_
  refine RegI.pure 1 [0, 1, 2] [(0, .int .i64 p0), (1, .int .i64 p1), (2, .int .i64 p2)] (by kernel_rfl) ?_
  refine RegI.done (by kernel_rfl) ?_
  refine RunsI.go 1 [.c 3, .c 4] (by kernel_rfl) ?_
  refine RunsI.region (by kernel_rfl) ?_
  refine RegI.pure 1 [0, 1, 2, 7] [(0, .int .i64 p0), (1, .int .i64 p1), (2, .int .i64 p2), (7, .string (⟨#[48, 49, 50, 51, 52, 53, 54, 55, 56, 57, 97, 98, 99, 100, 101, 102]⟩ : ByteArray))] (by kernel_rfl) ?_
  refine RegI.done (by kernel_rfl) ?_
  refine RunsI.go 1 [.c 5, .c 6] (by kernel_rfl) ?_
  refine RunsI.region (by kernel_rfl) ?_
  refine RegI.pure 1 [0, 1, 2, 7, 8] [(0, .int .i64 p0), (1, .int .i64 p1), (2, .int .i64 p2), (7, .string (⟨#[48, 49, 50, 51, 52, 53, 54, 55, 56, 57, 97, 98, 99, 100, 101, 102]⟩ : ByteArray)), (8, .string (⟨#[]⟩ : ByteArray))] (by kernel_rfl) ?_
  refine RegI.done (by kernel_rfl) ?_
  refine RunsI.go 3 [.c 9, .lp 9, .blk 0, .c 19] (by kernel_rfl) ?_
  obtain ⟨x23, hx24, h⟩ := of_bind h
  refine RunsI.only [0, 1, 2, 7, 8] [(0, .int .i64 p0), (1, .int .i64 p1), (2, .int .i64 p2), (7, .string (⟨#[48, 49, 50, 51, 52, 53, 54, 55, 56, 57, 97, 98, 99, 100, 101, 102]⟩ : ByteArray)), (8, .string (⟨#[]⟩ : ByteArray))] (by kernel_rfl) (by kernel_rfl) ?_
  refine charabancref09_digits_96.l0_ok K M0 w0 p0 p1 p2 _ x23 ?_ K p0 (⟨#[]⟩ : ByteArray) w0 hx24 (h0.pick [] (by decide))
  · intro t25 w27 hq28 h26
    (try rw [hq28] at h)
    refine RunsI.go 1 [.c 20, .c 21] (by kernel_rfl) ?_
    refine RunsI.region (by kernel_rfl) ?_
    refine RegI.pure 2 [6] [(6, .string t25)] (by kernel_rfl) ?_
    refine RegI.done (by kernel_rfl) ?_
    refine RunsI.ret (.string t25) (by kernel_rfl) (by kernel_rfl) ?_
    obtain rfl := Option.some.inj h
    exact ⟨rfl, h26.below⟩
end

/-! ### charabanc/charabancref09.Hex (function 61) -/
section
def charabancref09_Hex_61.post (M0 : Nat → Prop) (w0 : World) (r : ByteArray) : Ending → World → Prop := fun e w => e = .returned (.string r) ∧ Below w0.heap.size w0 w
def charabancref09_Hex_61.f (K : Nat) (p0 : Int) (p1 : Int) : Option ByteArray := cond (decide (p0 ≥ 0)) ((charabancref09_digits_96.f K p0 16 (if 8 < (if 0 > p1 then 0 else p1) then 8 else (if 0 > p1 then 0 else p1))).bind fun t6 => cond (mayCat t6.size (⟨#[104]⟩ : ByteArray).size) (some (t6 ++ (⟨#[104]⟩ : ByteArray))) none) (cond (p0 == (IntKind.wrap .i64 (0 - p0))) (some (⟨#[45, 56, 48, 48, 48, 48, 48, 48, 48, 48, 48, 48, 48, 48, 48, 48, 48, 104]⟩ : ByteArray)) ((charabancref09_digits_96.f K (IntKind.wrap .i64 (0 - p0)) 16 (if 8 < (if 0 > p1 then 0 else p1) then 8 else (if 0 > p1 then 0 else p1))).bind fun t13 => cond (mayCat (⟨#[45]⟩ : ByteArray).size t13.size) (cond (mayCat ((⟨#[45]⟩ : ByteArray) ++ t13).size (⟨#[104]⟩ : ByteArray).size) (some (((⟨#[45]⟩ : ByteArray) ++ t13) ++ (⟨#[104]⟩ : ByteArray))) none) none))
set_option maxRecDepth 100000 in
theorem charabancref09_Hex_61_ok (K : Nat) (M0 : Nat → Prop) (w0 : World) (p0 : Int) (p1 : Int) (ho : ∀ b, M0 b → b < w0.heap.size) {r : ByteArray} (h : charabancref09_Hex_61.f K p0 p1 = some r) :
    Calls Tryd.prog 61 #[.int .i64 p0, .int .i64 p1] w0 (charabancref09_Hex_61.post M0 w0 r) := by
  unfold charabancref09_Hex_61.f at h
  have h0 : Holds M0 w0 w0 [] := Holds.start ho
  have h0 : Holds M0 w0 w0 [] := h0
  refine calls_of F61 rfl [.int .i64 p0, .int .i64 p1] (by kernel_rfl) ?_
  refine RunsI.go 1 [.c 1, .c 2] (by kernel_rfl) ?_
  refine RunsI.region (by kernel_rfl) ?_
  refine RegI.pure 1 [0, 1] [(0, .int .i64 p0), (1, .int .i64 p1)] (by kernel_rfl) ?_
  refine RegI.done (by kernel_rfl) ?_
  refine RunsI.go 1 [.c 3, .c 4] (by kernel_rfl) ?_
  refine RunsI.region (by kernel_rfl) ?_
  refine RegI.pure 4 [0, 1] [(0, .int .i64 p0), (1, .int .i64 (if 8 < (if 0 > p1 then 0 else p1) then 8 else (if 0 > p1 then 0 else p1)))] (by kernel_rfl) ?_
  refine RegI.done (by kernel_rfl) ?_
  refine RunsI.go 2 [.c 6, .c 7, .c 12] (by kernel_rfl) ?_
  refine RunsI.region (by kernel_rfl) ?_
  refine RegI.pure 2 [0, 1, 9] [(0, .int .i64 p0), (1, .int .i64 (if 8 < (if 0 > p1 then 0 else p1) then 8 else (if 0 > p1 then 0 else p1))), (9, .bool (decide (p0 ≥ 0)))] (by kernel_rfl) ?_
  refine RegI.done (by kernel_rfl) ?_
  rcases of_cond h with ⟨hc1, h⟩ | ⟨hc1, h⟩
  · skip
    refine RunsI.fix 9 true hc1 (by kernel_rfl) (by kernel_rfl) ?_
    refine RunsI.cond true 8 (by kernel_rfl) ?_
    refine RunsI.go 1 [.c 9, .c 10, .c 12] (by kernel_rfl) ?_
    refine RunsI.region (by kernel_rfl) ?_
    refine RegI.pure 2 [10, 11] [(10, .int .i64 p0), (11, .int .i64 (if 8 < (if 0 > p1 then 0 else p1) then 8 else (if 0 > p1 then 0 else p1)))] (by kernel_rfl) ?_
    obtain ⟨t6, hg5, h⟩ := of_bind h
    refine RegI.op (by kernel_rfl) (OpE.call 12 (by kernel_rfl) 96 #[.int .i64 p0, .int .i64 16, .int .i64 (if 8 < (if 0 > p1 then 0 else p1) then 8 else (if 0 > p1 then 0 else p1))] (by kernel_rfl) ((charabancref09_digits_96_ok K _ w0  p0 16 (if 8 < (if 0 > p1 then 0 else p1) then 8 else (if 0 > p1 then 0 else p1)) h0.old' hg5).mono ?_))
    rintro _ w2 ⟨rfl, hb3⟩
    refine ⟨_, rfl, ?_⟩
    have h4 := h0.call hb3
    obtain ⟨hc7, h⟩ := of_cond0 h
    refine RegI.op (by kernel_rfl) (OpE.run 13 (by kernel_rfl) (run_cat (a := t6) (b := (⟨#[104]⟩ : ByteArray)) (by kernel_rfl) hc7) ?_)
    refine RegI.pure 1 [4] [(4, .string (t6 ++ (⟨#[104]⟩ : ByteArray)))] (by kernel_rfl) ?_
    refine RegI.done (by kernel_rfl) ?_
    refine RunsI.ret (.string (t6 ++ (⟨#[104]⟩ : ByteArray))) (by kernel_rfl) (by kernel_rfl) ?_
    obtain rfl := Option.some.inj h
    exact ⟨rfl, h4.below⟩
  · skip
    refine RunsI.fix 9 false hc1 (by kernel_rfl) (by kernel_rfl) ?_
    refine RunsI.cond false 11 (by kernel_rfl) ?_
    refine RunsI.go 1 [.c 12] (by kernel_rfl) ?_
    refine RunsI.go 2 [.c 14, .c 15, .c 20] (by kernel_rfl) ?_
    refine RunsI.region (by kernel_rfl) ?_
    refine RegI.pure 4 [0, 1, 17] [(0, .int .i64 p0), (1, .int .i64 (if 8 < (if 0 > p1 then 0 else p1) then 8 else (if 0 > p1 then 0 else p1))), (17, .bool (p0 == (IntKind.wrap .i64 (0 - p0))))] (by kernel_rfl) ?_
    refine RegI.done (by kernel_rfl) ?_
    rcases of_cond h with ⟨hc8, h⟩ | ⟨hc8, h⟩
    · skip
      refine RunsI.fix 17 true hc8 (by kernel_rfl) (by kernel_rfl) ?_
      refine RunsI.cond true 16 (by kernel_rfl) ?_
      refine RunsI.go 1 [.c 17, .c 18, .c 20] (by kernel_rfl) ?_
      refine RunsI.region (by kernel_rfl) ?_
      refine RegI.pure 1 [4] [(4, .string (⟨#[45, 56, 48, 48, 48, 48, 48, 48, 48, 48, 48, 48, 48, 48, 48, 48, 48, 104]⟩ : ByteArray))] (by kernel_rfl) ?_
      refine RegI.done (by kernel_rfl) ?_
      refine RunsI.ret (.string (⟨#[45, 56, 48, 48, 48, 48, 48, 48, 48, 48, 48, 48, 48, 48, 48, 48, 48, 104]⟩ : ByteArray)) (by kernel_rfl) (by kernel_rfl) ?_
      obtain rfl := Option.some.inj h
      exact ⟨rfl, h0.below⟩
    · skip
      refine RunsI.fix 17 false hc8 (by kernel_rfl) (by kernel_rfl) ?_
      refine RunsI.cond false 19 (by kernel_rfl) ?_
      refine RunsI.go 1 [.c 20] (by kernel_rfl) ?_
      refine RunsI.go 1 [.c 21, .c 22] (by kernel_rfl) ?_
      refine RunsI.region (by kernel_rfl) ?_
      refine RegI.pure 3 [19, 20] [(19, .int .i64 (IntKind.wrap .i64 (0 - p0))), (20, .int .i64 (if 8 < (if 0 > p1 then 0 else p1) then 8 else (if 0 > p1 then 0 else p1)))] (by kernel_rfl) ?_
      obtain ⟨t13, hg12, h⟩ := of_bind h
      refine RegI.op (by kernel_rfl) (OpE.call 21 (by kernel_rfl) 96 #[.int .i64 (IntKind.wrap .i64 (0 - p0)), .int .i64 16, .int .i64 (if 8 < (if 0 > p1 then 0 else p1) then 8 else (if 0 > p1 then 0 else p1))] (by kernel_rfl) ((charabancref09_digits_96_ok K _ w0  (IntKind.wrap .i64 (0 - p0)) 16 (if 8 < (if 0 > p1 then 0 else p1) then 8 else (if 0 > p1 then 0 else p1)) h0.old' hg12).mono ?_))
      rintro _ w9 ⟨rfl, hb10⟩
      refine ⟨_, rfl, ?_⟩
      have h11 := h0.call hb10
      obtain ⟨hc14, h⟩ := of_cond0 h
      refine RegI.op (by kernel_rfl) (OpE.run 22 (by kernel_rfl) (run_cat (a := (⟨#[45]⟩ : ByteArray)) (b := t13) (by kernel_rfl) hc14) ?_)
      obtain ⟨hc15, h⟩ := of_cond0 h
      refine RegI.op (by kernel_rfl) (OpE.run 23 (by kernel_rfl) (run_cat (a := ((⟨#[45]⟩ : ByteArray) ++ t13)) (b := (⟨#[104]⟩ : ByteArray)) (by kernel_rfl) hc15) ?_)
      refine RegI.pure 1 [4] [(4, .string (((⟨#[45]⟩ : ByteArray) ++ t13) ++ (⟨#[104]⟩ : ByteArray)))] (by kernel_rfl) ?_
      refine RegI.done (by kernel_rfl) ?_
      refine RunsI.ret (.string (((⟨#[45]⟩ : ByteArray) ++ t13) ++ (⟨#[104]⟩ : ByteArray))) (by kernel_rfl) (by kernel_rfl) ?_
      obtain rfl := Option.some.inj h
      exact ⟨rfl, h11.below⟩
end

/-! ### charabanc/charabancref29.Line (function 27) -/
section
def charabancref29_Line_27.post (M0 : Nat → Prop) (w0 : World) (r : ByteArray) : Ending → World → Prop := fun e w => e = .returned (.string r) ∧ Below w0.heap.size w0 w
def charabancref29_Line_27.f (K : Nat) (p0_0 : Int) (p0_1 : Int) (p0_2 : Int) (p0_3 : Int) (p0_4 : Int) (p0_5 : Int) : Option ByteArray := Let (fun (t14 : Bool) => Let (fun (t24 : ByteArray) => (charabancref11_Number_59.f K p0_0).bind fun t35 => cond (mayCat t35.size (⟨#[32]⟩ : ByteArray).size) (cond (mayCat (t35 ++ (⟨#[32]⟩ : ByteArray)).size t24.size) (cond (mayCat ((t35 ++ (⟨#[32]⟩ : ByteArray)) ++ t24).size (⟨#[32]⟩ : ByteArray).size) ((charabancref16_Kind_60.f K p0_2).bind fun t40 => cond (mayCat (((t35 ++ (⟨#[32]⟩ : ByteArray)) ++ t24) ++ (⟨#[32]⟩ : ByteArray)).size t40.size) (cond (mayCat ((((t35 ++ (⟨#[32]⟩ : ByteArray)) ++ t24) ++ (⟨#[32]⟩ : ByteArray)) ++ t40).size (⟨#[32]⟩ : ByteArray).size) ((charabancref09_Hex_61.f K (IntKind.wrap .i64 p0_3) 4).bind fun t44 => cond (mayCat (((((t35 ++ (⟨#[32]⟩ : ByteArray)) ++ t24) ++ (⟨#[32]⟩ : ByteArray)) ++ t40) ++ (⟨#[32]⟩ : ByteArray)).size t44.size) (cond (mayCat ((((((t35 ++ (⟨#[32]⟩ : ByteArray)) ++ t24) ++ (⟨#[32]⟩ : ByteArray)) ++ t40) ++ (⟨#[32]⟩ : ByteArray)) ++ t44).size (⟨#[32]⟩ : ByteArray).size) ((charabancref09_Hex_61.f K (IntKind.wrap .i64 p0_5) 2).bind fun t48 => cond (mayCat (((((((t35 ++ (⟨#[32]⟩ : ByteArray)) ++ t24) ++ (⟨#[32]⟩ : ByteArray)) ++ t40) ++ (⟨#[32]⟩ : ByteArray)) ++ t44) ++ (⟨#[32]⟩ : ByteArray)).size t48.size) (some ((((((((t35 ++ (⟨#[32]⟩ : ByteArray)) ++ t24) ++ (⟨#[32]⟩ : ByteArray)) ++ t40) ++ (⟨#[32]⟩ : ByteArray)) ++ t44) ++ (⟨#[32]⟩ : ByteArray)) ++ t48)) none) none) none) none) none) none) none) none) (fun j27 => cond t14 (cond (inR (IntKind.wrap .i64 (p0_1 - 1)) ([(⟨#[99, 112, 117, 48]⟩ : ByteArray), (⟨#[99, 112, 117, 49]⟩ : ByteArray), (⟨#[100, 109, 97]⟩ : ByteArray)] : List ByteArray).length) (j27 (rdD ([(⟨#[99, 112, 117, 48]⟩ : ByteArray), (⟨#[99, 112, 117, 49]⟩ : ByteArray), (⟨#[100, 109, 97]⟩ : ByteArray)] : List ByteArray) (IntKind.wrap .i64 (p0_1 - 1)))) none) (j27 (⟨#[63]⟩ : ByteArray)))) (fun j17 => cond (decide (p0_1 ≥ 1)) (j17 (decide (p0_1 ≤ 3))) (j17 false))
set_option maxRecDepth 100000 in
theorem charabancref29_Line_27_ok (K : Nat) (M0 : Nat → Prop) (w0 : World) (p0_0 : Int) (p0_1 : Int) (p0_2 : Int) (p0_3 : Int) (p0_4 : Int) (p0_5 : Int) (ho : ∀ b, M0 b → b < w0.heap.size) {r : ByteArray} (h : charabancref29_Line_27.f K p0_0 p0_1 p0_2 p0_3 p0_4 p0_5 = some r) :
    Calls Tryd.prog 27 #[.agg #[.int .i64 p0_0, .int .i64 p0_1, .int .i64 p0_2, .int .u16 p0_3, .int .i64 p0_4, .int .u8 p0_5]] w0 (charabancref29_Line_27.post M0 w0 r) := by
  unfold charabancref29_Line_27.f at h
  have h0 : Holds M0 w0 w0 [] := Holds.start ho
  have h0 : Holds M0 w0 w0 [] := h0
  refine calls_of F27 rfl [.agg #[.int .i64 p0_0, .int .i64 p0_1, .int .i64 p0_2, .int .u16 p0_3, .int .i64 p0_4, .int .u8 p0_5]] (by kernel_rfl) ?_
  refine RunsI.go 1 [.c 1, .c 2] (by kernel_rfl) ?_
  refine RunsI.region (by kernel_rfl) ?_
  refine RegI.op (by kernel_rfl) (OpE.box 1 54 [.int .i64 p0_0, .int .i64 p0_1, .int .i64 p0_2, .int .u16 p0_3, .int .i64 p0_4, .int .u8 p0_5] h0 (by kernel_rfl) (by kernel_rfl) ?_)
  intro w1 b2 h3 hb4 hn5
  refine RegI.pure 1 [1] [(1, .pointer (some ⟨b2, 0, none⟩))] (by kernel_rfl) ?_
  refine RegI.done (by kernel_rfl) ?_
  refine RunsI.go 1 [.c 3, .c 4] (by kernel_rfl) ?_
  refine RunsI.region (by kernel_rfl) ?_
  refine RegI.op (by kernel_rfl) (OpE.lit 5 9 [.string (⟨#[99, 112, 117, 48]⟩ : ByteArray), .string (⟨#[99, 112, 117, 49]⟩ : ByteArray), .string (⟨#[100, 109, 97]⟩ : ByteArray)] 3 h3 (by kernel_rfl) (by kernel_rfl) ?_)
  intro w6 b7 h8 hb9 hn10
  refine RegI.pure 1 [1, 3] [(1, .pointer (some ⟨b2, 0, none⟩)), (3, .slice (some ⟨b7, 0, none⟩) (([(⟨#[99, 112, 117, 48]⟩ : ByteArray), (⟨#[99, 112, 117, 49]⟩ : ByteArray), (⟨#[100, 109, 97]⟩ : ByteArray)] : List ByteArray).length) 3)] (by kernel_rfl) ?_
  refine RegI.done (by kernel_rfl) ?_
  refine RunsI.go 1 [.c 5, .c 6] (by kernel_rfl) ?_
  refine RunsI.region (by kernel_rfl) ?_
  refine RegI.pure 1 [1, 3, 4] [(1, .pointer (some ⟨b2, 0, none⟩)), (3, .slice (some ⟨b7, 0, none⟩) (([(⟨#[99, 112, 117, 48]⟩ : ByteArray), (⟨#[99, 112, 117, 49]⟩ : ByteArray), (⟨#[100, 109, 97]⟩ : ByteArray)] : List ByteArray).length) 3), (4, .string (⟨#[63]⟩ : ByteArray))] (by kernel_rfl) ?_
  refine RegI.done (by kernel_rfl) ?_
  refine RunsI.go 2 [.c 8, .c 9, .c 12] (by kernel_rfl) ?_
  refine RunsI.region (by kernel_rfl) ?_
  refine RegI.pure 1 [1, 3, 4, 6] [(1, .pointer (some ⟨b2, 0, none⟩)), (3, .slice (some ⟨b7, 0, none⟩) (([(⟨#[99, 112, 117, 48]⟩ : ByteArray), (⟨#[99, 112, 117, 49]⟩ : ByteArray), (⟨#[100, 109, 97]⟩ : ByteArray)] : List ByteArray).length) 3), (4, .string (⟨#[63]⟩ : ByteArray)), (6, .pointer (some ⟨b2, 1, none⟩))] (by kernel_rfl) ?_
  refine RegI.op (by kernel_rfl) (OpE.loadBox 7 0 3 b2 1 (.int .i64 p0_1) h8 (by kernel_rfl) (by kernel_rfl) rfl (by kernel_rfl) ?_)
  refine RegI.pure 2 [1, 3, 4, 9] [(1, .pointer (some ⟨b2, 0, none⟩)), (3, .slice (some ⟨b7, 0, none⟩) (([(⟨#[99, 112, 117, 48]⟩ : ByteArray), (⟨#[99, 112, 117, 49]⟩ : ByteArray), (⟨#[100, 109, 97]⟩ : ByteArray)] : List ByteArray).length) 3), (4, .string (⟨#[63]⟩ : ByteArray)), (9, .bool (decide (p0_1 ≥ 1)))] (by kernel_rfl) ?_
  obtain ⟨j17, hJ18, h⟩ := of_let h
  have hj19 : ∀ (t14 : Bool) (w16 : World), j17 t14 = some r → Holds M0 w0 w16 [box b2 54 [.int .i64 p0_0, .int .i64 p0_1, .int .i64 p0_2, .int .u16 p0_3, .int .i64 p0_4, .int .u8 p0_5], own Rp.str 9 (.slice (some ⟨b7, 0, none⟩) (([(⟨#[99, 112, 117, 48]⟩ : ByteArray), (⟨#[99, 112, 117, 49]⟩ : ByteArray), (⟨#[100, 109, 97]⟩ : ByteArray)] : List ByteArray).length) 3) ([(⟨#[99, 112, 117, 48]⟩ : ByteArray), (⟨#[99, 112, 117, 49]⟩ : ByteArray), (⟨#[100, 109, 97]⟩ : ByteArray)] : List ByteArray)] → RegI F27 8 [.c 9, .c 12] 8 [(1, .pointer (some ⟨b2, 0, none⟩)), (3, .slice (some ⟨b7, 0, none⟩) (([(⟨#[99, 112, 117, 48]⟩ : ByteArray), (⟨#[99, 112, 117, 49]⟩ : ByteArray), (⟨#[100, 109, 97]⟩ : ByteArray)] : List ByteArray).length) 3), (4, .string (⟨#[63]⟩ : ByteArray)), (13, .bool t14)] w16 (charabancref29_Line_27.post M0 w0 r) := by
    intro t14 w16 h h15
    rw [hJ18] at h
    clear hJ18
    dsimp only at h
    refine RegI.done (by kernel_rfl) ?_
    obtain ⟨j27, hJ28, h⟩ := of_let h
    have hj29 : ∀ (t24 : ByteArray) (w26 : World), j27 t24 = some r → Holds M0 w0 w26 [box b2 54 [.int .i64 p0_0, .int .i64 p0_1, .int .i64 p0_2, .int .u16 p0_3, .int .i64 p0_4, .int .u8 p0_5]] → RunsI F27 [.c 12] [(1, .pointer (some ⟨b2, 0, none⟩)), (4, .string t24)] w26 (charabancref29_Line_27.post M0 w0 r) := by
      intro t24 w26 h h25
      rw [hJ28] at h
      clear hJ28
      dsimp only at h
      refine RunsI.go 1 [.c 13, .c 14] (by kernel_rfl) ?_
      refine RunsI.any 24 (by kernel_rfl) (by kernel_rfl) (by kernel_rfl) (Kp ([] : List Nat) (World.drew w26)) ?_
      have h31 := h25.drew
      generalize World.drew w26 = w30 at h31 ⊢
      have hS32 := Kp.refl ([] : List Nat) w30
      refine AnyE.pure 0 20 (.pointer (some ⟨b2, 0, none⟩)) (by kernel_rfl) hS32 (fun _ => by kernel_rfl) ?_
      refine AnyE.loadBox 1 21 0 3 b2 0 (.int .i64 p0_0) [] h31 rfl (by kernel_rfl) hS32 rfl rfl (by kernel_rfl) (by kernel_rfl) ?_
      obtain ⟨t35, hg34, h⟩ := of_bind h
      refine AnyE.call 2 22 (.string t35) 59 #[.int .i64 p0_0] (by kernel_rfl) hS32 (fun _ => by kernel_rfl) (fun w hk => charabancref11_Number_59_ok K (fun _ => False) w p0_0 (fun _ hf => hf.elim) hg34) ?_
      obtain ⟨hc36, h⟩ := of_cond0 h
      refine AnyE.run 3 23 (.string (t35 ++ (⟨#[32]⟩ : ByteArray))) (by kernel_rfl) hS32 (fun _ hk => run_cat (a := t35) (b := (⟨#[32]⟩ : ByteArray)) (by kernel_rfl) hc36) ?_
      refine AnyE.pure 4 24 (.string t24) (by kernel_rfl) hS32 (fun _ => by kernel_rfl) ?_
      obtain ⟨hc37, h⟩ := of_cond0 h
      refine AnyE.run 5 25 (.string ((t35 ++ (⟨#[32]⟩ : ByteArray)) ++ t24)) (by kernel_rfl) hS32 (fun _ hk => run_cat (a := (t35 ++ (⟨#[32]⟩ : ByteArray))) (b := t24) (by kernel_rfl) hc37) ?_
      obtain ⟨hc38, h⟩ := of_cond0 h
      refine AnyE.run 6 26 (.string (((t35 ++ (⟨#[32]⟩ : ByteArray)) ++ t24) ++ (⟨#[32]⟩ : ByteArray))) (by kernel_rfl) hS32 (fun _ hk => run_cat (a := ((t35 ++ (⟨#[32]⟩ : ByteArray)) ++ t24)) (b := (⟨#[32]⟩ : ByteArray)) (by kernel_rfl) hc38) ?_
      refine AnyE.pure 7 27 (.pointer (some ⟨b2, 2, none⟩)) (by kernel_rfl) hS32 (fun _ => by kernel_rfl) ?_
      refine AnyE.loadBox 8 28 0 3 b2 2 (.int .i64 p0_2) [] h31 rfl (by kernel_rfl) hS32 rfl rfl (by kernel_rfl) (by kernel_rfl) ?_
      obtain ⟨t40, hg39, h⟩ := of_bind h
      refine AnyE.call 9 29 (.string t40) 60 #[.int .i64 p0_2] (by kernel_rfl) hS32 (fun _ => by kernel_rfl) (fun w hk => charabancref16_Kind_60_ok K (fun _ => False) w p0_2 (fun _ hf => hf.elim) hg39) ?_
      obtain ⟨hc41, h⟩ := of_cond0 h
      refine AnyE.run 10 30 (.string ((((t35 ++ (⟨#[32]⟩ : ByteArray)) ++ t24) ++ (⟨#[32]⟩ : ByteArray)) ++ t40)) (by kernel_rfl) hS32 (fun _ hk => run_cat (a := (((t35 ++ (⟨#[32]⟩ : ByteArray)) ++ t24) ++ (⟨#[32]⟩ : ByteArray))) (b := t40) (by kernel_rfl) hc41) ?_
      obtain ⟨hc42, h⟩ := of_cond0 h
      refine AnyE.run 11 31 (.string (((((t35 ++ (⟨#[32]⟩ : ByteArray)) ++ t24) ++ (⟨#[32]⟩ : ByteArray)) ++ t40) ++ (⟨#[32]⟩ : ByteArray))) (by kernel_rfl) hS32 (fun _ hk => run_cat (a := ((((t35 ++ (⟨#[32]⟩ : ByteArray)) ++ t24) ++ (⟨#[32]⟩ : ByteArray)) ++ t40)) (b := (⟨#[32]⟩ : ByteArray)) (by kernel_rfl) hc42) ?_
      refine AnyE.pure 12 32 (.pointer (some ⟨b2, 3, none⟩)) (by kernel_rfl) hS32 (fun _ => by kernel_rfl) ?_
      refine AnyE.loadBox 13 33 0 52 b2 3 (.int .u16 p0_3) [] h31 rfl (by kernel_rfl) hS32 rfl rfl (by kernel_rfl) (by kernel_rfl) ?_
      refine AnyE.pure 14 34 (.int .i64 (IntKind.wrap .i64 p0_3)) (by kernel_rfl) hS32 (fun _ => by kernel_rfl) ?_
      obtain ⟨t44, hg43, h⟩ := of_bind h
      refine AnyE.call 15 35 (.string t44) 61 #[.int .i64 (IntKind.wrap .i64 p0_3), .int .i64 4] (by kernel_rfl) hS32 (fun _ => by kernel_rfl) (fun w hk => charabancref09_Hex_61_ok K (fun _ => False) w (IntKind.wrap .i64 p0_3) 4 (fun _ hf => hf.elim) hg43) ?_
      obtain ⟨hc45, h⟩ := of_cond0 h
      refine AnyE.run 16 36 (.string ((((((t35 ++ (⟨#[32]⟩ : ByteArray)) ++ t24) ++ (⟨#[32]⟩ : ByteArray)) ++ t40) ++ (⟨#[32]⟩ : ByteArray)) ++ t44)) (by kernel_rfl) hS32 (fun _ hk => run_cat (a := (((((t35 ++ (⟨#[32]⟩ : ByteArray)) ++ t24) ++ (⟨#[32]⟩ : ByteArray)) ++ t40) ++ (⟨#[32]⟩ : ByteArray))) (b := t44) (by kernel_rfl) hc45) ?_
      obtain ⟨hc46, h⟩ := of_cond0 h
      refine AnyE.run 17 37 (.string (((((((t35 ++ (⟨#[32]⟩ : ByteArray)) ++ t24) ++ (⟨#[32]⟩ : ByteArray)) ++ t40) ++ (⟨#[32]⟩ : ByteArray)) ++ t44) ++ (⟨#[32]⟩ : ByteArray))) (by kernel_rfl) hS32 (fun _ hk => run_cat (a := ((((((t35 ++ (⟨#[32]⟩ : ByteArray)) ++ t24) ++ (⟨#[32]⟩ : ByteArray)) ++ t40) ++ (⟨#[32]⟩ : ByteArray)) ++ t44)) (b := (⟨#[32]⟩ : ByteArray)) (by kernel_rfl) hc46) ?_
      refine AnyE.pure 18 38 (.pointer (some ⟨b2, 5, none⟩)) (by kernel_rfl) hS32 (fun _ => by kernel_rfl) ?_
      refine AnyE.loadBox 19 39 0 5 b2 5 (.int .u8 p0_5) [] h31 rfl (by kernel_rfl) hS32 rfl rfl (by kernel_rfl) (by kernel_rfl) ?_
      refine AnyE.pure 20 40 (.int .i64 (IntKind.wrap .i64 p0_5)) (by kernel_rfl) hS32 (fun _ => by kernel_rfl) ?_
      obtain ⟨t48, hg47, h⟩ := of_bind h
      refine AnyE.call 21 41 (.string t48) 61 #[.int .i64 (IntKind.wrap .i64 p0_5), .int .i64 2] (by kernel_rfl) hS32 (fun _ => by kernel_rfl) (fun w hk => charabancref09_Hex_61_ok K (fun _ => False) w (IntKind.wrap .i64 p0_5) 2 (fun _ hf => hf.elim) hg47) ?_
      obtain ⟨hc49, h⟩ := of_cond0 h
      refine AnyE.run 22 42 (.string ((((((((t35 ++ (⟨#[32]⟩ : ByteArray)) ++ t24) ++ (⟨#[32]⟩ : ByteArray)) ++ t40) ++ (⟨#[32]⟩ : ByteArray)) ++ t44) ++ (⟨#[32]⟩ : ByteArray)) ++ t48)) (by kernel_rfl) hS32 (fun _ hk => run_cat (a := (((((((t35 ++ (⟨#[32]⟩ : ByteArray)) ++ t24) ++ (⟨#[32]⟩ : ByteArray)) ++ t40) ++ (⟨#[32]⟩ : ByteArray)) ++ t44) ++ (⟨#[32]⟩ : ByteArray))) (b := t48) (by kernel_rfl) hc49) ?_
      refine AnyE.pure 23 2 (.string ((((((((t35 ++ (⟨#[32]⟩ : ByteArray)) ++ t24) ++ (⟨#[32]⟩ : ByteArray)) ++ t40) ++ (⟨#[32]⟩ : ByteArray)) ++ t44) ++ (⟨#[32]⟩ : ByteArray)) ++ t48)) (by kernel_rfl) hS32 (fun _ => by kernel_rfl) ?_
      refine AnyE.done (by kernel_rfl) (fun w50 hu51 => ?_)
      have h52 := h31.call hu51
      refine RunsI.only [2] [(2, .string ((((((((t35 ++ (⟨#[32]⟩ : ByteArray)) ++ t24) ++ (⟨#[32]⟩ : ByteArray)) ++ t40) ++ (⟨#[32]⟩ : ByteArray)) ++ t44) ++ (⟨#[32]⟩ : ByteArray)) ++ t48))] (by kernel_rfl) (by kernel_rfl) ?_
      refine RunsI.ret (.string ((((((((t35 ++ (⟨#[32]⟩ : ByteArray)) ++ t24) ++ (⟨#[32]⟩ : ByteArray)) ++ t40) ++ (⟨#[32]⟩ : ByteArray)) ++ t44) ++ (⟨#[32]⟩ : ByteArray)) ++ t48)) (by kernel_rfl) (by kernel_rfl) ?_
      obtain rfl := Option.some.inj h
      exact ⟨rfl, h52.below⟩
    clear hJ28
    rcases of_cond h with ⟨hc20, h⟩ | ⟨hc20, h⟩
    · skip
      refine RunsI.fix 13 true hc20 (by kernel_rfl) (by kernel_rfl) ?_
      refine RunsI.cond true 10 (by kernel_rfl) ?_
      refine RunsI.region (by kernel_rfl) ?_
      refine RegI.pure 2 [1, 14, 15] [(1, .pointer (some ⟨b2, 0, none⟩)), (14, .slice (some ⟨b7, 0, none⟩) (([(⟨#[99, 112, 117, 48]⟩ : ByteArray), (⟨#[99, 112, 117, 49]⟩ : ByteArray), (⟨#[100, 109, 97]⟩ : ByteArray)] : List ByteArray).length) 3), (15, .pointer (some ⟨b2, 1, none⟩))] (by kernel_rfl) ?_
      refine RegI.op (by kernel_rfl) (OpE.loadBox 16 0 3 b2 1 (.int .i64 p0_1) h15 (by kernel_rfl) (by kernel_rfl) rfl (by kernel_rfl) ?_)
      refine RegI.pure 1 [1, 14, 17] [(1, .pointer (some ⟨b2, 0, none⟩)), (14, .slice (some ⟨b7, 0, none⟩) (([(⟨#[99, 112, 117, 48]⟩ : ByteArray), (⟨#[99, 112, 117, 49]⟩ : ByteArray), (⟨#[100, 109, 97]⟩ : ByteArray)] : List ByteArray).length) 3), (17, .int .i64 (IntKind.wrap .i64 (p0_1 - 1)))] (by kernel_rfl) ?_
      obtain ⟨hc21, h⟩ := of_cond0 h
      refine RegI.op (by kernel_rfl) (OpE.idxOwnA 18 1 101 9 (IntKind.wrap .i64 (p0_1 - 1)) h15 (by kernel_rfl) rfl (by kernel_rfl) (by kernel_rfl) hc21 ?_)
      refine RegI.op (by kernel_rfl) (OpE.loadOwnA 19 1 9 9 (IntKind.wrap .i64 (p0_1 - 1)) 0 (o := (Int.toNat (IntKind.wrap .i64 (p0_1 - 1))) * 1 + 0) h15 (by kernel_rfl) rfl (by kernel_rfl) (by kernel_rfl) hc21 (fun cs22 hk23 => ?_))
      obtain rfl := hk23
      refine ⟨.string (rdD ([(⟨#[99, 112, 117, 48]⟩ : ByteArray), (⟨#[99, 112, 117, 49]⟩ : ByteArray), (⟨#[100, 109, 97]⟩ : ByteArray)] : List ByteArray) (IntKind.wrap .i64 (p0_1 - 1))), by kernel_rfl, ?_⟩
      refine RegI.pure 1 [1, 4] [(1, .pointer (some ⟨b2, 0, none⟩)), (4, .string (rdD ([(⟨#[99, 112, 117, 48]⟩ : ByteArray), (⟨#[99, 112, 117, 49]⟩ : ByteArray), (⟨#[100, 109, 97]⟩ : ByteArray)] : List ByteArray) (IntKind.wrap .i64 (p0_1 - 1))))] (by kernel_rfl) ?_
      refine RegI.done (by kernel_rfl) ?_
      refine RunsI.only [1, 4] [(1, .pointer (some ⟨b2, 0, none⟩)), (4, .string (rdD ([(⟨#[99, 112, 117, 48]⟩ : ByteArray), (⟨#[99, 112, 117, 49]⟩ : ByteArray), (⟨#[100, 109, 97]⟩ : ByteArray)] : List ByteArray) (IntKind.wrap .i64 (p0_1 - 1))))] (by kernel_rfl) (by kernel_rfl) ?_
      exact hj29 (rdD ([(⟨#[99, 112, 117, 48]⟩ : ByteArray), (⟨#[99, 112, 117, 49]⟩ : ByteArray), (⟨#[100, 109, 97]⟩ : ByteArray)] : List ByteArray) (IntKind.wrap .i64 (p0_1 - 1))) w16 h (h15.pick [0] (by decide))
    · skip
      refine RunsI.fix 13 false hc20 (by kernel_rfl) (by kernel_rfl) ?_
      refine RunsI.cond false 11 (by kernel_rfl) ?_
      refine RunsI.go 1 [.c 12] (by kernel_rfl) ?_
      refine RunsI.only [1, 4] [(1, .pointer (some ⟨b2, 0, none⟩)), (4, .string (⟨#[63]⟩ : ByteArray))] (by kernel_rfl) (by kernel_rfl) ?_
      exact hj29 (⟨#[63]⟩ : ByteArray) w16 h (h15.pick [0] (by decide))
  clear hJ18
  rcases of_cond h with ⟨hc11, h⟩ | ⟨hc11, h⟩
  · skip
    refine RegI.fix 9 true hc11 (by kernel_rfl) (by kernel_rfl) ?_
    refine RegI.pure 1 [1, 3, 4, 9, 10] [(1, .pointer (some ⟨b2, 0, none⟩)), (3, .slice (some ⟨b7, 0, none⟩) (([(⟨#[99, 112, 117, 48]⟩ : ByteArray), (⟨#[99, 112, 117, 49]⟩ : ByteArray), (⟨#[100, 109, 97]⟩ : ByteArray)] : List ByteArray).length) 3), (4, .string (⟨#[63]⟩ : ByteArray)), (9, .bool true), (10, .pointer (some ⟨b2, 1, none⟩))] (by kernel_rfl) ?_
    refine RegI.op (by kernel_rfl) (OpE.loadBox 11 0 3 b2 1 (.int .i64 p0_1) h8 (by kernel_rfl) (by kernel_rfl) rfl (by kernel_rfl) ?_)
    refine RegI.pure 2 [1, 3, 4, 13] [(1, .pointer (some ⟨b2, 0, none⟩)), (3, .slice (some ⟨b7, 0, none⟩) (([(⟨#[99, 112, 117, 48]⟩ : ByteArray), (⟨#[99, 112, 117, 49]⟩ : ByteArray), (⟨#[100, 109, 97]⟩ : ByteArray)] : List ByteArray).length) 3), (4, .string (⟨#[63]⟩ : ByteArray)), (13, .bool (decide (p0_1 ≤ 3)))] (by kernel_rfl) ?_
    have h12 := h8.boxOwn 1 rfl Rp.str ([(⟨#[99, 112, 117, 48]⟩ : ByteArray), (⟨#[99, 112, 117, 49]⟩ : ByteArray), (⟨#[100, 109, 97]⟩ : ByteArray)] : List ByteArray) (cells_str _ _ _) (Nat.le_of_ble_eq_true (by kernel_rfl))
    refine RegI.only [1, 3, 4, 13] [(1, .pointer (some ⟨b2, 0, none⟩)), (3, .slice (some ⟨b7, 0, none⟩) (([(⟨#[99, 112, 117, 48]⟩ : ByteArray), (⟨#[99, 112, 117, 49]⟩ : ByteArray), (⟨#[100, 109, 97]⟩ : ByteArray)] : List ByteArray).length) 3), (4, .string (⟨#[63]⟩ : ByteArray)), (13, .bool (decide (p0_1 ≤ 3)))] (by kernel_rfl) (by kernel_rfl) ?_
    exact hj19 (decide (p0_1 ≤ 3)) w6 h (h12.pick [0, 1] (by decide))
  · skip
    refine RegI.fix 9 false hc11 (by kernel_rfl) (by kernel_rfl) ?_
    refine RegI.pure 4 [1, 3, 4, 13] [(1, .pointer (some ⟨b2, 0, none⟩)), (3, .slice (some ⟨b7, 0, none⟩) (([(⟨#[99, 112, 117, 48]⟩ : ByteArray), (⟨#[99, 112, 117, 49]⟩ : ByteArray), (⟨#[100, 109, 97]⟩ : ByteArray)] : List ByteArray).length) 3), (4, .string (⟨#[63]⟩ : ByteArray)), (13, .bool false)] (by kernel_rfl) ?_
    have h13 := h8.boxOwn 1 rfl Rp.str ([(⟨#[99, 112, 117, 48]⟩ : ByteArray), (⟨#[99, 112, 117, 49]⟩ : ByteArray), (⟨#[100, 109, 97]⟩ : ByteArray)] : List ByteArray) (cells_str _ _ _) (Nat.le_of_ble_eq_true (by kernel_rfl))
    refine RegI.only [1, 3, 4, 13] [(1, .pointer (some ⟨b2, 0, none⟩)), (3, .slice (some ⟨b7, 0, none⟩) (([(⟨#[99, 112, 117, 48]⟩ : ByteArray), (⟨#[99, 112, 117, 49]⟩ : ByteArray), (⟨#[100, 109, 97]⟩ : ByteArray)] : List ByteArray).length) 3), (4, .string (⟨#[63]⟩ : ByteArray)), (13, .bool false)] (by kernel_rfl) (by kernel_rfl) ?_
    exact hj19 false w6 h (h13.pick [0, 1] (by decide))
end
end Go.Proofs.YtmebkghfjamffaaDoor.His
