/- Functions of the program as plain Lean functions, each with the proof that the call comes to it; written by wip/eng.py. -/
import Derived.Test.YtilgjfckgkkfmaaDoorHx2
set_option linter.unusedVariables false
set_option linter.unusedSimpArgs false
set_option maxHeartbeats 4000000
namespace Go.Proofs.YtilgjfckgkkfmaaDoor.Hx
open Go.RowKit Go.Eng
/-! ### charabanc/charabancref33.Show (function 22) -/
section
def charabancref33_Show_22.post (M0 : Nat → Prop) (w0 : World) (r : ByteArray) : Ending → World → Prop := fun e w => e = .returned (.string r) ∧ Below w0.heap.size w0 w
def charabancref33_Show_22.l0 (K : Nat) (p0 : List (Int × Int)) (t30 : List (Int × Int)) (t31 : ByteArray) (t34 : Int) : Nat → Int → (List Int) → Option (Int × (List Int))
 | 0, _, _ => none
 | k + 1, t32, t37 => Let (fun (t54 : Bool) => cond t54 (cond (inR t32 t30.length) (cond (mayBe (t37.length + ([(rdD t30 t32).2] : List Int).length) 1) (charabancref33_Show_22.l0 K p0 t30 t31 t34 k (IntKind.wrap .i64 (t32 + 1)) (t37 ++ ([(rdD t30 t32).2] : List Int))) none) none) (some (t32, t37))) (fun j57 => cond (decide (t32 < (t30.length : Int))) (cond (decide ((t37.length : Int) < 16)) (cond (inR t32 t30.length) (j57 ((IntKind.wrap .i64 ((rdD t30 t32).1)) == (IntKind.wrap .i64 ((IntKind.wrap .i64 t34) + (t37.length : Int))))) none) (j57 false)) (j57 false))
set_option maxRecDepth 100000 in
theorem charabancref33_Show_22.l0_ok (K : Nat) (M0 : Nat → Prop) (w0 : World) (pA0 : Option Addr) (pc0 : Nat) (p0 : List (Int × Int)) (t30 : List (Int × Int)) (t31 : ByteArray) (t34 : Int) (A28 : Option Addr) (c29 : Nat) (b33 : Nat) (R : Ending → World → Prop) (x : Int × (List Int)) (hk0 : ∀ (t99 : Int) (t102 : List Int) (A100 : Option Addr) (c101 : Nat) (w1 : World), x = (t99, t102) → Holds M0 w0 w1 [own (Rp.pair (Rp.int .u16) (Rp.int .u8)) 85 (.slice A28 t30.length c29) t30, box b33 31 [.int .u8 0, .int .u16 t34, .slice A100 t102.length c101], own (Rp.int .u8) 5 (.slice A100 t102.length c101) t102] → RunsI F22 [.c 33, .blk 1, .lp 11, .blk 0, .c 36] [(3, .slice A28 t30.length c29), (4, .string t31), (5, .int .i64 t99), (6, .pointer (some ⟨b33, 0, none⟩))] w1 R) :
  ∀ (k : Nat) (t32 : Int) (t37 : List Int) (A35 : Option Addr) (c36 : Nat) (w : World), charabancref33_Show_22.l0 K p0 t30 t31 t34 k t32 t37 = some x → Holds M0 w0 w [own (Rp.pair (Rp.int .u16) (Rp.int .u8)) 85 (.slice A28 t30.length c29) t30, box b33 31 [.int .u8 0, .int .u16 t34, .slice A35 t37.length c36], own (Rp.int .u8) 5 (.slice A35 t37.length c36) t37] → RunsI F22 [.c 23, .lp 23, .blk 2, .c 33, .blk 1, .lp 11, .blk 0, .c 36] [(3, .slice A28 t30.length c29), (4, .string t31), (5, .int .i64 t32), (6, .pointer (some ⟨b33, 0, none⟩))] w R := by
 intro k
 induction k with
 | zero => intro t32 t37 A35 c36 w h hH; exact absurd h (by simp [charabancref33_Show_22.l0])
 | succ k ih =>
  intro t32 t37 A35 c36 w h hH
  rw [charabancref33_Show_22.l0.eq_2] at h
  refine RunsI.g 1 [.c 24, .c 29, .lp 23, .blk 2, .c 33, .blk 1, .lp 11, .blk 0, .c 36] ?_
  refine RunsI.g 1 [.c 25, .c 26, .c 29, .lp 23, .blk 2, .c 33, .blk 1, .lp 11, .blk 0, .c 36] ?_
  refine RunsI.any 26 (by kernel_rfl) (by kernel_rfl) (by kernel_rfl) (Kp ([] : List Nat) (World.drew w)) ?_
  have h39 := hH.drew
  generalize World.drew w = w38 at h39 ⊢
  have hS40 := Kp.refl ([] : List Nat) w38
  refine AnyE.pure 0 23 (.int .i64 t32) (by kernel_rfl) hS40 (fun _ => by kernel_rfl) ?_
  refine AnyE.pure 1 24 (.slice A28 t30.length c29) (by kernel_rfl) hS40 (fun _ => by kernel_rfl) ?_
  refine AnyE.pure 2 25 (.int .i64 (t30.length : Int)) (by kernel_rfl) hS40 (fun _ => by kernel_rfl) ?_
  refine AnyE.pure 3 26 (.bool (decide (t32 < (t30.length : Int)))) (by kernel_rfl) hS40 (fun _ => by kernel_rfl) ?_
  refine AnyE.pure 4 27 (.bool (decide (t32 < (t30.length : Int)))) (by kernel_rfl) hS40 (fun _ => by kernel_rfl) ?_
  obtain ⟨j57, hJ58, h⟩ := of_let h
  have hj59 : ∀ (t54 : Bool) (w56 : World), j57 t54 = some x → Holds M0 w0 w56 [own (Rp.pair (Rp.int .u16) (Rp.int .u8)) 85 (.slice A28 t30.length c29) t30, box b33 31 [.int .u8 0, .int .u16 t34, .slice A35 t37.length c36], own (Rp.int .u8) 5 (.slice A35 t37.length c36) t37] → RunsI F22 [.c 26, .c 29, .lp 23, .blk 2, .c 33, .blk 1, .lp 11, .blk 0, .c 36] [(3, .slice A28 t30.length c29), (4, .string t31), (5, .int .i64 t32), (6, .pointer (some ⟨b33, 0, none⟩)), (48, .bool t54)] w56 R := by
   intro t54 w56 h h55
   rw [hJ58] at h
   clear hJ58
   dsimp only at h
   rcases of_cond h with ⟨hc60, h⟩ | ⟨hc60, h⟩
   ·skip
    refine RunsI.f 48 true hc60 ?_
    refine RunsI.b true 27 ?_
    refine RunsI.g 1 [.c 29, .lp 23, .blk 2, .c 33, .blk 1, .lp 11, .blk 0, .c 36] ?_
    refine RunsI.g 2 [.c 31, .c 32, .blk 3, .lp 23, .blk 2, .c 33, .blk 1, .lp 11, .blk 0, .c 36] ?_
    refine RunsI.any 11 (by kernel_rfl) (by kernel_rfl) (by kernel_rfl) (Kp (mines (pick [own (Rp.pair (Rp.int .u16) (Rp.int .u8)) 85 (.slice A28 t30.length c29) t30, box b33 31 [.int .u8 0, .int .u16 t34, .slice A35 t37.length c36], own (Rp.int .u8) 5 (.slice A35 t37.length c36) t37] [2])) (World.drew w56)) ?_
    have h62 := h55.drew
    generalize World.drew w56 = w61 at h62 ⊢
    have hS63 := Kp.refl (mines (pick [own (Rp.pair (Rp.int .u16) (Rp.int .u8)) 85 (.slice A28 t30.length c29) t30, box b33 31 [.int .u8 0, .int .u16 t34, .slice A35 t37.length c36], own (Rp.int .u8) 5 (.slice A35 t37.length c36) t37] [2])) w61
    refine AnyE.pure 0 49 (.pointer (some ⟨b33, 2, none⟩)) (by kernel_rfl) hS63 (fun _ => by kernel_rfl) ?_
    refine AnyE.loadBox 1 50 1 23 b33 2 (.slice A35 t37.length c36) [2] h62 rfl (by kernel_rfl) hS63 rfl rfl (by kernel_rfl) (by kernel_rfl) ?_
    refine AnyE.pure 2 51 (.slice A28 t30.length c29) (by kernel_rfl) hS63 (fun _ => by kernel_rfl) ?_
    refine AnyE.pure 3 52 (.int .i64 t32) (by kernel_rfl) hS63 (fun _ => by kernel_rfl) ?_
    obtain ⟨hc65, h⟩ := of_cond0 h
    refine AnyE.idxOwnA 4 53 0 41 85 t32 h62 (by kernel_rfl) hS63 rfl (by kernel_rfl) (by kernel_rfl) hc65 ?_
    refine AnyE.pure 5 54 (.pointer (some ⟨(blkD A28), (Int.toNat t32) * 2 + 1, none⟩)) (by kernel_rfl) hS63 (fun _ => by kernel_rfl) ?_
    refine AnyE.loadOwnA 6 55 0 5 85 t32 1 (.int .u8 ((rdD t30 t32).2)) [2] (o := (Int.toNat t32) * 2 + 1) h62 rfl (by kernel_rfl) hS63 rfl rfl (by kernel_rfl) rfl hc65 (fun _ _ hk => by obtain ⟨_, _, rfl, rfl, rfl⟩ := hk; kernel_rfl) ?_
    refine AnyE.one 7 (by kernel_rfl) (fun w66 hu67 => ?_)
    have h68 := h62.call hu67
    have hS69 := hS63.up hu67
    refine OpE.lit 56 5 [.int .u8 ((rdD t30 t32).2)] 1 h68 (by kernel_rfl) (by kernel_rfl) ?_
    intro w70 b71 h72 hb73 hn74
    have hn75 := Nat.le_trans hS69.1 hn74
    have hS76 := hS69.up hb73
    refine ⟨hS76, ?_⟩
    refine AnyE.one 8 (by kernel_rfl) (fun w77 hu78 => ?_)
    have h79 := h72.call hu78
    have hS80 := hS76.up hu78
    obtain ⟨hc81, h⟩ := of_cond0 h
    refine OpE.appendBox 57 2 3 23 5 1 ([(rdD t30 t32).2] : List Int) 0 h79 (by kernel_rfl) (by kernel_rfl) (by kernel_rfl) rfl rfl rfl (cells_int _ _ _ _) hc81 ?_
    intro w82 A83 c84 h85 hk86
    have hS87 := hS80.trans hk86 (Kp.turned h62 [2] rfl 2 rfl rfl)
    refine ⟨hS87, ?_⟩
    refine AnyE.pure 9 58 (.pointer (some ⟨b33, 2, none⟩)) (by kernel_rfl) hS87 (fun _ => by kernel_rfl) ?_
    refine AnyE.last 10 (by kernel_rfl) (by kernel_rfl) (fun w88 hu89 => ?_)
    have h90 := h85.call hu89
    have hS91 := hS87.up hu89
    refine OpE.storeBox 1 23 b33 2 (.slice A83 ((t37 ++ ([(rdD t30 t32).2] : List Int)).length) c84) [.int .u8 0, .int .u16 t34, .slice A83 ((t37 ++ ([(rdD t30 t32).2] : List Int)).length) c84] h90 (by kernel_rfl) (by kernel_rfl) rfl (by kernel_rfl) (by kernel_rfl) (by kernel_rfl) ?_
    intro w92 h93 hk94
    refine AnyE.done (by kernel_rfl) (fun w96 hu97 => ?_)
    have h98 := h93.call hu97
    refine RunsI.l [3, 4, 5, 6] [(3, .slice A28 t30.length c29), (4, .string t31), (5, .int .i64 t32), (6, .pointer (some ⟨b33, 0, none⟩))] ?_
    refine RunsI.r ?_
    refine RegI.p 3 [(3, .slice A28 t30.length c29), (4, .string t31), (5, .int .i64 (IntKind.wrap .i64 (t32 + 1))), (6, .pointer (some ⟨b33, 0, none⟩))] ?_
    refine RegI.d ?_
    refine RunsI.g 2 [.c 23, .lp 23, .blk 2, .c 33, .blk 1, .lp 11, .blk 0, .c 36] ?_
    refine RunsI.l [3, 4, 5, 6] [(3, .slice A28 t30.length c29), (4, .string t31), (5, .int .i64 (IntKind.wrap .i64 (t32 + 1))), (6, .pointer (some ⟨b33, 0, none⟩))] ?_
    exact ih (IntKind.wrap .i64 (t32 + 1)) (t37 ++ ([(rdD t30 t32).2] : List Int)) A83 c84 w96 h (h98.pick [0, 1, 2] (by decide))
   ·skip
    refine RunsI.f 48 false hc60 ?_
    refine RunsI.b false 28 ?_
    refine RunsI.g 1 [.c 33, .blk 1, .lp 11, .blk 0, .c 36] ?_
    refine RunsI.l [3, 4, 5, 6] [(3, .slice A28 t30.length c29), (4, .string t31), (5, .int .i64 t32), (6, .pointer (some ⟨b33, 0, none⟩))] ?_
    exact hk0 t32 t37 A35 c36 w56 (Option.some.inj h).symm (h55.pick [0, 1, 2] (by decide))
  clear hJ58
  rcases of_cond h with ⟨hc42, h⟩ | ⟨hc42, h⟩
  ·skip
   refine AnyE.fix 27 true hc42 (by kernel_rfl) (by kernel_rfl) ?_
   refine AnyE.pure 5 28 (.pointer (some ⟨b33, 2, none⟩)) (by kernel_rfl) hS40 (fun _ => by kernel_rfl) ?_
   refine AnyE.loadBox 6 29 1 23 b33 2 (.slice A35 t37.length c36) [] h39 rfl (by kernel_rfl) hS40 rfl rfl (by kernel_rfl) (by kernel_rfl) ?_
   refine AnyE.pure 7 30 (.int .i64 (t37.length : Int)) (by kernel_rfl) hS40 (fun _ => by kernel_rfl) ?_
   refine AnyE.pure 8 31 (.bool (decide ((t37.length : Int) < 16))) (by kernel_rfl) hS40 (fun _ => by kernel_rfl) ?_
   refine AnyE.pure 9 32 (.bool (decide ((t37.length : Int) < 16))) (by kernel_rfl) hS40 (fun _ => by kernel_rfl) ?_
   refine AnyE.pure 10 33 (.bool (decide ((t37.length : Int) < 16))) (by kernel_rfl) hS40 (fun _ => by kernel_rfl) ?_
   rcases of_cond h with ⟨hc43, h⟩ | ⟨hc43, h⟩
   ·skip
    refine AnyE.fix 33 true hc43 (by kernel_rfl) (by kernel_rfl) ?_
    refine AnyE.pure 11 34 (.slice A28 t30.length c29) (by kernel_rfl) hS40 (fun _ => by kernel_rfl) ?_
    refine AnyE.pure 12 35 (.int .i64 t32) (by kernel_rfl) hS40 (fun _ => by kernel_rfl) ?_
    obtain ⟨hc44, h⟩ := of_cond0 h
    refine AnyE.idxOwnA 13 36 0 41 85 t32 h39 (by kernel_rfl) hS40 rfl (by kernel_rfl) (by kernel_rfl) hc44 ?_
    refine AnyE.pure 14 37 (.pointer (some ⟨(blkD A28), (Int.toNat t32) * 2, none⟩)) (by kernel_rfl) hS40 (fun _ => by kernel_rfl) ?_
    refine AnyE.loadOwnA 15 38 0 22 85 t32 0 (.int .u16 ((rdD t30 t32).1)) [] (o := (Int.toNat t32) * 2 + 0) h39 rfl (by kernel_rfl) hS40 rfl rfl (by kernel_rfl) rfl hc44 (fun _ _ hk => by obtain ⟨_, _, rfl, rfl, rfl⟩ := hk; kernel_rfl) ?_
    refine AnyE.pure 16 39 (.int .i64 (IntKind.wrap .i64 ((rdD t30 t32).1))) (by kernel_rfl) hS40 (fun _ => by kernel_rfl) ?_
    refine AnyE.pure 17 40 (.pointer (some ⟨b33, 1, none⟩)) (by kernel_rfl) hS40 (fun _ => by kernel_rfl) ?_
    refine AnyE.loadBox 18 41 1 22 b33 1 (.int .u16 t34) [] h39 rfl (by kernel_rfl) hS40 rfl rfl (by kernel_rfl) (by kernel_rfl) ?_
    refine AnyE.pure 19 42 (.int .i64 (IntKind.wrap .i64 t34)) (by kernel_rfl) hS40 (fun _ => by kernel_rfl) ?_
    refine AnyE.pure 20 43 (.pointer (some ⟨b33, 2, none⟩)) (by kernel_rfl) hS40 (fun _ => by kernel_rfl) ?_
    refine AnyE.loadBox 21 44 1 23 b33 2 (.slice A35 t37.length c36) [] h39 rfl (by kernel_rfl) hS40 rfl rfl (by kernel_rfl) (by kernel_rfl) ?_
    refine AnyE.pure 22 45 (.int .i64 (t37.length : Int)) (by kernel_rfl) hS40 (fun _ => by kernel_rfl) ?_
    refine AnyE.pure 23 46 (.int .i64 (IntKind.wrap .i64 ((IntKind.wrap .i64 t34) + (t37.length : Int)))) (by kernel_rfl) hS40 (fun _ => by kernel_rfl) ?_
    refine AnyE.pure 24 47 (.bool ((IntKind.wrap .i64 ((rdD t30 t32).1)) == (IntKind.wrap .i64 ((IntKind.wrap .i64 t34) + (t37.length : Int))))) (by kernel_rfl) hS40 (fun _ => by kernel_rfl) ?_
    refine AnyE.pure 25 48 (.bool ((IntKind.wrap .i64 ((rdD t30 t32).1)) == (IntKind.wrap .i64 ((IntKind.wrap .i64 t34) + (t37.length : Int))))) (by kernel_rfl) hS40 (fun _ => by kernel_rfl) ?_
    refine AnyE.done (by kernel_rfl) (fun w45 hu46 => ?_)
    have h47 := h39.call hu46
    refine RunsI.l [3, 4, 5, 6, 48] [(3, .slice A28 t30.length c29), (4, .string t31), (5, .int .i64 t32), (6, .pointer (some ⟨b33, 0, none⟩)), (48, .bool ((IntKind.wrap .i64 ((rdD t30 t32).1)) == (IntKind.wrap .i64 ((IntKind.wrap .i64 t34) + (t37.length : Int)))))] ?_
    refine RunsI.l [3, 4, 5, 6, 48] [(3, .slice A28 t30.length c29), (4, .string t31), (5, .int .i64 t32), (6, .pointer (some ⟨b33, 0, none⟩)), (48, .bool ((IntKind.wrap .i64 ((rdD t30 t32).1)) == (IntKind.wrap .i64 ((IntKind.wrap .i64 t34) + (t37.length : Int)))))] ?_
    exact hj59 ((IntKind.wrap .i64 ((rdD t30 t32).1)) == (IntKind.wrap .i64 ((IntKind.wrap .i64 t34) + (t37.length : Int)))) w45 h (h47.pick [0, 1, 2] (by decide))
   ·skip
    refine AnyE.fix 33 false hc43 (by kernel_rfl) (by kernel_rfl) ?_
    refine AnyE.no 11 34 (by kernel_rfl) hS40 ?_
    refine AnyE.no 12 35 (by kernel_rfl) hS40 ?_
    refine AnyE.no 13 36 (by kernel_rfl) hS40 ?_
    refine AnyE.no 14 37 (by kernel_rfl) hS40 ?_
    refine AnyE.no 15 38 (by kernel_rfl) hS40 ?_
    refine AnyE.no 16 39 (by kernel_rfl) hS40 ?_
    refine AnyE.no 17 40 (by kernel_rfl) hS40 ?_
    refine AnyE.no 18 41 (by kernel_rfl) hS40 ?_
    refine AnyE.no 19 42 (by kernel_rfl) hS40 ?_
    refine AnyE.no 20 43 (by kernel_rfl) hS40 ?_
    refine AnyE.no 21 44 (by kernel_rfl) hS40 ?_
    refine AnyE.no 22 45 (by kernel_rfl) hS40 ?_
    refine AnyE.no 23 46 (by kernel_rfl) hS40 ?_
    refine AnyE.no 24 47 (by kernel_rfl) hS40 ?_
    refine AnyE.pure 25 48 (.bool false) (by kernel_rfl) hS40 (fun _ => by kernel_rfl) ?_
    refine AnyE.done (by kernel_rfl) (fun w48 hu49 => ?_)
    have h50 := h39.call hu49
    refine RunsI.l [3, 4, 5, 6, 48] [(3, .slice A28 t30.length c29), (4, .string t31), (5, .int .i64 t32), (6, .pointer (some ⟨b33, 0, none⟩)), (48, .bool false)] ?_
    refine RunsI.l [3, 4, 5, 6, 48] [(3, .slice A28 t30.length c29), (4, .string t31), (5, .int .i64 t32), (6, .pointer (some ⟨b33, 0, none⟩)), (48, .bool false)] ?_
    exact hj59 false w48 h (h50.pick [0, 1, 2] (by decide))
  ·skip
   refine AnyE.fix 27 false hc42 (by kernel_rfl) (by kernel_rfl) ?_
   refine AnyE.no 5 28 (by kernel_rfl) hS40 ?_
   refine AnyE.no 6 29 (by kernel_rfl) hS40 ?_
   refine AnyE.no 7 30 (by kernel_rfl) hS40 ?_
   refine AnyE.no 8 31 (by kernel_rfl) hS40 ?_
   refine AnyE.pure 9 32 (.bool false) (by kernel_rfl) hS40 (fun _ => by kernel_rfl) ?_
   refine AnyE.pure 10 33 (.bool false) (by kernel_rfl) hS40 (fun _ => by kernel_rfl) ?_
   refine AnyE.no 11 34 (by kernel_rfl) hS40 ?_
   refine AnyE.no 12 35 (by kernel_rfl) hS40 ?_
   refine AnyE.no 13 36 (by kernel_rfl) hS40 ?_
   refine AnyE.no 14 37 (by kernel_rfl) hS40 ?_
   refine AnyE.no 15 38 (by kernel_rfl) hS40 ?_
   refine AnyE.no 16 39 (by kernel_rfl) hS40 ?_
   refine AnyE.no 17 40 (by kernel_rfl) hS40 ?_
   refine AnyE.no 18 41 (by kernel_rfl) hS40 ?_
   refine AnyE.no 19 42 (by kernel_rfl) hS40 ?_
   refine AnyE.no 20 43 (by kernel_rfl) hS40 ?_
   refine AnyE.no 21 44 (by kernel_rfl) hS40 ?_
   refine AnyE.no 22 45 (by kernel_rfl) hS40 ?_
   refine AnyE.no 23 46 (by kernel_rfl) hS40 ?_
   refine AnyE.no 24 47 (by kernel_rfl) hS40 ?_
   refine AnyE.pure 25 48 (.bool false) (by kernel_rfl) hS40 (fun _ => by kernel_rfl) ?_
   refine AnyE.done (by kernel_rfl) (fun w51 hu52 => ?_)
   have h53 := h39.call hu52
   refine RunsI.l [3, 4, 5, 6, 48] [(3, .slice A28 t30.length c29), (4, .string t31), (5, .int .i64 t32), (6, .pointer (some ⟨b33, 0, none⟩)), (48, .bool false)] ?_
   refine RunsI.l [3, 4, 5, 6, 48] [(3, .slice A28 t30.length c29), (4, .string t31), (5, .int .i64 t32), (6, .pointer (some ⟨b33, 0, none⟩)), (48, .bool false)] ?_
   exact hj59 false w51 h (h53.pick [0, 1, 2] (by decide))
def charabancref33_Show_22.l1 (K : Nat) (p0 : List (Int × Int)) (t12 : List (Int × Int)) : Nat → ByteArray → Int → Option ByteArray
 | 0, _, _ => none
 | k + 1, t13, t14 => cond (decide (t14 < (t12.length : Int))) (cond (inR t14 t12.length) ((charabancref33_Show_22.l0 K p0 t12 t13 ((rdD t12 t14).1) K t14 ([] : List Int)).bind (fun yx103 => (charabancref33_Line_12.f K 0 ((rdD t12 t14).1) yx103.2).bind fun yt115 => cond (mayCat t13.size yt115.1.size) (cond (mayCat (t13 ++ yt115.1).size (⟨#[10]⟩ : ByteArray).size) (charabancref33_Show_22.l1 K p0 t12 k ((t13 ++ yt115.1) ++ (⟨#[10]⟩ : ByteArray)) yx103.1) none) none)) none) (some t13)
set_option maxRecDepth 100000 in
theorem charabancref33_Show_22.l1_ok (K : Nat) (M0 : Nat → Prop) (w0 : World) (pA0 : Option Addr) (pc0 : Nat) (p0 : List (Int × Int)) (t12 : List (Int × Int)) (A10 : Option Addr) (c11 : Nat) (R : Ending → World → Prop) (x : ByteArray) (hk0 : ∀ (t119 : ByteArray) (w1 : World), x = t119 → Holds M0 w0 w1 [] → RunsI F22 [.c 36] [(4, .string t119)] w1 R) :
  ∀ (k : Nat) (t13 : ByteArray) (t14 : Int) (w : World), charabancref33_Show_22.l1 K p0 t12 k t13 t14 = some x → Holds M0 w0 w [own (Rp.pair (Rp.int .u16) (Rp.int .u8)) 85 (.slice A10 t12.length c11) t12] → RunsI F22 [.c 11, .lp 11, .blk 0, .c 36] [(3, .slice A10 t12.length c11), (4, .string t13), (5, .int .i64 t14)] w R := by
 intro k
 induction k with
 | zero => intro t13 t14 w h hH; exact absurd h (by simp [charabancref33_Show_22.l1])
 | succ k ih =>
  intro t13 t14 w h hH
  rw [charabancref33_Show_22.l1.eq_2] at h
  refine RunsI.g 1 [.c 12, .c 17, .lp 11, .blk 0, .c 36] ?_
  refine RunsI.g 1 [.c 13, .c 14, .c 17, .lp 11, .blk 0, .c 36] ?_
  refine RunsI.r ?_
  refine RegI.p 4 [(3, .slice A10 t12.length c11), (4, .string t13), (5, .int .i64 t14), (16, .bool (decide (t14 < (t12.length : Int))))] ?_
  refine RegI.d ?_
  rcases of_cond h with ⟨hc15, h⟩ | ⟨hc15, h⟩
  ·skip
   refine RunsI.f 16 true hc15 ?_
   refine RunsI.b true 15 ?_
   refine RunsI.g 1 [.c 17, .lp 11, .blk 0, .c 36] ?_
   refine RunsI.g 2 [.c 19, .c 20, .blk 1, .lp 11, .blk 0, .c 36] ?_
   refine RunsI.r ?_
   refine RegI.p 2 [(3, .slice A10 t12.length c11), (4, .string t13), (5, .int .i64 t14), (17, .slice A10 t12.length c11), (18, .int .i64 t14)] ?_
   obtain ⟨hc16, h⟩ := of_cond0 h
   refine RegI.o (OpE.idxOwnA 19 0 41 85 t14 hH (by kernel_rfl) rfl (by kernel_rfl) (by kernel_rfl) hc16 ?_)
   refine RegI.p 1 [(3, .slice A10 t12.length c11), (4, .string t13), (5, .int .i64 t14), (20, .pointer (some ⟨(blkD A10), (Int.toNat t14) * 2, none⟩))] ?_
   refine RegI.o (OpE.loadOwnA 21 0 22 85 t14 0 (o := (Int.toNat t14) * 2 + 0) hH (by kernel_rfl) rfl (by kernel_rfl) (by kernel_rfl) hc16 (fun cs17 hk18 => ?_))
   obtain ⟨_, _, rfl, rfl, rfl⟩ := hk18
   refine ⟨.int .u16 ((rdD t12 t14).1), by kernel_rfl, ?_⟩
   refine RegI.p 1 [(3, .slice A10 t12.length c11), (4, .string t13), (5, .int .i64 t14), (22, .agg #[.int .u8 0, .int .u16 ((rdD t12 t14).1), .slice none 0 0])] ?_
   refine RegI.o (OpE.box 6 31 [.int .u8 0, .int .u16 0, .slice none 0 0] hH (by kernel_rfl) (by kernel_rfl) ?_)
   intro w19 b20 h21 hb22 hn23
   refine RegI.o (OpE.storeBox 1 31 b20 0 (.agg #[.int .u8 0, .int .u16 ((rdD t12 t14).1), .slice none 0 0]) [.int .u8 0, .int .u16 ((rdD t12 t14).1), .slice none 0 0] h21 (by kernel_rfl) (by kernel_rfl) rfl (by kernel_rfl) (by kernel_rfl) (by kernel_rfl) ?_)
   intro w24 h25 hk26
   refine RegI.d ?_
   refine RunsI.g 3 [.c 23, .lp 23, .blk 2, .c 33, .blk 1, .lp 11, .blk 0, .c 36] ?_
   obtain ⟨x103, hx104, h⟩ := of_bind h
   have h27 := h25.addOwnNil (Rp.int .u8) 5
   refine RunsI.l [3, 4, 5, 6] [(3, .slice A10 t12.length c11), (4, .string t13), (5, .int .i64 t14), (6, .pointer (some ⟨b20, 0, none⟩))] ?_
   refine charabancref33_Show_22.l0_ok K M0 w0 pA0 pc0 p0 t12 t13 ((rdD t12 t14).1) A10 c11 b20 _ x103 ?_ K t14 ([] : List Int) none 0 w24 hx104 (h27.pick [0, 1, 2] (by decide))
   ·intro t105 t108 A106 c107 w110 hq133 h109
    (try rw [hq133] at h)
    dsimp only at h
    refine RunsI.g 1 [.c 34, .c 35, .blk 1, .lp 11, .blk 0, .c 36] ?_
    refine RunsI.r ?_
    refine RegI.o (OpE.loadBox 62 1 31 b20 0 (.agg #[.int .u8 0, .int .u16 ((rdD t12 t14).1), .slice A106 t108.length c107]) h109 (by kernel_rfl) (by kernel_rfl) rfl (by kernel_rfl) ?_)
    obtain ⟨⟨t115, t116⟩, hg114, h⟩ := of_bind h
    dsimp only at h
    refine RegI.o (OpE.call 63 (by kernel_rfl) 12 #[.agg #[.int .u8 0, .int .u16 ((rdD t12 t14).1), .slice A106 t108.length c107]] (by kernel_rfl) ((charabancref33_Line_12_ok K (fun _ => False) w110  A106 c107 0 ((rdD t12 t14).1) t108 (fun _ hf => hf.elim) (h109.ownSl 2 rfl) hg114).mono ?_))
    rintro _ w111 ⟨rfl, hb112⟩
    refine ⟨_, rfl, ?_⟩
    have h113 := h109.call hb112
    refine RegI.p 5 [(3, .slice A10 t12.length c11), (4, .string t13), (5, .int .i64 t105), (7, .string t115)] ?_
    refine RegI.d ?_
    refine RunsI.r ?_
    refine RegI.p 2 [(3, .slice A10 t12.length c11), (5, .int .i64 t105), (66, .string t13), (67, .string t115)] ?_
    obtain ⟨hc117, h⟩ := of_cond0 h
    refine RegI.o (OpE.run 68 (by kernel_rfl) (run_cat (a := t13) (b := t115) (by kernel_rfl) hc117) ?_)
    obtain ⟨hc118, h⟩ := of_cond0 h
    refine RegI.o (OpE.run 69 (by kernel_rfl) (run_cat (a := (t13 ++ t115)) (b := (⟨#[10]⟩ : ByteArray)) (by kernel_rfl) hc118) ?_)
    refine RegI.p 1 [(3, .slice A10 t12.length c11), (4, .string ((t13 ++ t115) ++ (⟨#[10]⟩ : ByteArray))), (5, .int .i64 t105)] ?_
    refine RegI.d ?_
    refine RunsI.g 2 [.c 11, .lp 11, .blk 0, .c 36] ?_
    refine RunsI.l [3, 4, 5] [(3, .slice A10 t12.length c11), (4, .string ((t13 ++ t115) ++ (⟨#[10]⟩ : ByteArray))), (5, .int .i64 t105)] ?_
    exact ih ((t13 ++ t115) ++ (⟨#[10]⟩ : ByteArray)) t105 w111 h (h113.pick [0] (by decide))
  ·skip
   refine RunsI.f 16 false hc15 ?_
   refine RunsI.b false 16 ?_
   refine RunsI.g 1 [.c 36] ?_
   refine RunsI.l [4] [(4, .string t13)] ?_
   exact hk0 t13 w (Option.some.inj h).symm (hH.pick [] (by decide))
def charabancref33_Show_22.f (K : Nat) (p0 : List (Int × Int)) : Option ByteArray := (charabancref14_Make_24.f K p0).bind fun t5 => (charabancref33_Show_22.l1 K p0 t5 K (⟨#[]⟩ : ByteArray) 0).bind (fun t122 => (charabancref33_Line_12.f K 1 0 ([] : List Int)).bind fun yt129 => cond (mayCat t122.size yt129.1.size) (cond (mayCat (t122 ++ yt129.1).size (⟨#[10]⟩ : ByteArray).size) (some ((t122 ++ yt129.1) ++ (⟨#[10]⟩ : ByteArray))) none) none)
set_option maxRecDepth 100000 in
theorem charabancref33_Show_22_ok (K : Nat) (M0 : Nat → Prop) (w0 : World) (pA0 : Option Addr) (pc0 : Nat) (p0 : List (Int × Int)) (ho : ∀ b, M0 b → b < w0.heap.size) (hs0 : Sl (Rp.pair (Rp.int .u16) (Rp.int .u8)) w0 M0 (.slice pA0 p0.length pc0) p0) {r : ByteArray} (h : charabancref33_Show_22.f K p0 = some r) :
  Calls Tryd.prog 22 #[.slice pA0 p0.length pc0] w0 (charabancref33_Show_22.post M0 w0 r) := by
 unfold charabancref33_Show_22.f at h
 have h0 : Holds M0 w0 w0 [] := Holds.start ho
 have h00 := h0.addSl (Rp.pair (Rp.int .u16) (Rp.int .u8)) (.slice pA0 p0.length pc0) p0 (hs0.mono (fun _ _ hm => hm.elim id (fun hm => absurd hm (by simp [mines, sl]))))
 have h0 : Holds M0 w0 w0 [sl (Rp.pair (Rp.int .u16) (Rp.int .u8)) (.slice pA0 p0.length pc0) p0] := h00
 refine calls_of F22 rfl [.slice pA0 p0.length pc0] (by kernel_rfl) ?_
 refine RunsI.g 1 [.c 1, .c 2] ?_
 refine RunsI.r ?_
 refine RegI.p 1 [(0, .slice pA0 p0.length pc0)] ?_
 refine RegI.d ?_
 refine RunsI.g 1 [.c 3, .c 4] ?_
 refine RunsI.r ?_
 refine RegI.p 1 [(11, .slice pA0 p0.length pc0)] ?_
 obtain ⟨t5, hg4, h⟩ := of_bind h
 refine RegI.o (OpE.call 12 (by kernel_rfl) 24 #[.slice pA0 p0.length pc0] (by kernel_rfl) ((charabancref14_Make_24_ok K _ w0  pA0 pc0 p0 h0.old' (h0.get 0 rfl) hg4).mono ?_))
 rintro _ w1 ⟨A6, c7, rfl, hr9⟩
 refine ⟨_, rfl, ?_⟩
 have hb2 := hr9.below
 have h3 := h0.join hr9
 refine RegI.p 1 [(3, .slice A6 t5.length c7)] ?_
 refine RegI.d ?_
 refine RunsI.g 1 [.c 5, .c 6] ?_
 refine RunsI.r ?_
 refine RegI.p 1 [(3, .slice A6 t5.length c7), (4, .string (⟨#[]⟩ : ByteArray))] ?_
 refine RegI.d ?_
 refine RunsI.g 2 [.c 8, .c 9, .c 36] ?_
 refine RunsI.r ?_
 refine RegI.p 1 [(3, .slice A6 t5.length c7), (4, .string (⟨#[]⟩ : ByteArray)), (5, .int .i64 0)] ?_
 refine RegI.d ?_
 refine RunsI.g 2 [.c 11, .lp 11, .blk 0, .c 36] ?_
 obtain ⟨x120, hx121, h⟩ := of_bind h
 refine RunsI.l [3, 4, 5] [(3, .slice A6 t5.length c7), (4, .string (⟨#[]⟩ : ByteArray)), (5, .int .i64 0)] ?_
 refine charabancref33_Show_22.l1_ok K M0 w0 pA0 pc0 p0 t5 A6 c7 _ x120 ?_ K (⟨#[]⟩ : ByteArray) 0 w1 hx121 (h3.pick [1] (by decide))
 ·intro t122 w124 hq134 h123
  (try rw [hq134] at h)
  refine RunsI.g 1 [.c 37, .c 38] ?_
  refine RunsI.r ?_
  refine RegI.p 1 [(4, .string t122), (71, .agg #[.int .u8 1, .int .u16 0, .slice none 0 0])] ?_
  obtain ⟨⟨t129, t130⟩, hg128, h⟩ := of_bind h
  dsimp only at h
  refine RegI.o (OpE.call 72 (by kernel_rfl) 12 #[.agg #[.int .u8 1, .int .u16 0, .slice none 0 0]] (by kernel_rfl) ((charabancref33_Line_12_ok K _ w124  none 0 1 0 ([] : List Int) h123.old' (Sl.nil _ _ _) hg128).mono ?_))
  rintro _ w125 ⟨rfl, hb126⟩
  refine ⟨_, rfl, ?_⟩
  have h127 := h123.call hb126
  refine RegI.p 5 [(4, .string t122), (9, .string t129)] ?_
  refine RegI.d ?_
  refine RunsI.g 1 [.c 39, .c 40] ?_
  refine RunsI.r ?_
  refine RegI.p 2 [(75, .string t122), (76, .string t129)] ?_
  obtain ⟨hc131, h⟩ := of_cond0 h
  refine RegI.o (OpE.run 77 (by kernel_rfl) (run_cat (a := t122) (b := t129) (by kernel_rfl) hc131) ?_)
  obtain ⟨hc132, h⟩ := of_cond0 h
  refine RegI.o (OpE.run 78 (by kernel_rfl) (run_cat (a := (t122 ++ t129)) (b := (⟨#[10]⟩ : ByteArray)) (by kernel_rfl) hc132) ?_)
  refine RegI.p 1 [(2, .string ((t122 ++ t129) ++ (⟨#[10]⟩ : ByteArray)))] ?_
  refine RegI.d ?_
  refine RunsI.t (.string ((t122 ++ t129) ++ (⟨#[10]⟩ : ByteArray))) ?_
  obtain rfl := Option.some.inj h
  exact ⟨rfl, h127.below⟩
end

/-! ### charabanc/charabancref14.Same (function 23) -/
section
def charabancref14_Same_23.post (M0 : Nat → Prop) (w0 : World) (r : Bool) : Ending → World → Prop := fun e w => e = .returned (.bool r) ∧ Below w0.heap.size w0 w
def charabancref14_Same_23.l0 (K : Nat) (p0 : List (Int × Int)) (p1 : List (Int × Int)) : Nat → Int → Option (Lp Unit Unit)
 | 0, _ => none
 | k + 1, t2 => cond (decide (t2 < (p0.length : Int))) (cond (inR t2 p0.length) (cond (inR t2 p1.length) (cond (!((((rdD p0 t2).1) == ((rdD p1 t2).1)) && ((((rdD p0 t2).2) == ((rdD p1 t2).2)) && true))) (some (Lp.ret ())) (charabancref14_Same_23.l0 K p0 p1 k (IntKind.wrap .i64 (t2 + 1)))) none) none) (some (Lp.go ()))
set_option maxRecDepth 100000 in
theorem charabancref14_Same_23.l0_ok (K : Nat) (M0 : Nat → Prop) (w0 : World) (pA0 : Option Addr) (pc0 : Nat) (pA1 : Option Addr) (pc1 : Nat) (p0 : List (Int × Int)) (p1 : List (Int × Int)) (R : Ending → World → Prop) (x : Lp Unit Unit) (hk0 : ∀ (w1 : World), x = Lp.go () → Holds M0 w0 w1 [] → RunsI F23 [.c 31] [] w1 R) (hk1 : ∀ (w1 : World), x = Lp.ret () → Holds M0 w0 w1 [] → R (.returned (.bool false)) w1) :
  ∀ (k : Nat) (t2 : Int) (w : World), charabancref14_Same_23.l0 K p0 p1 k t2 = some x → Holds M0 w0 w [sl (Rp.pair (Rp.int .u16) (Rp.int .u8)) (.slice pA0 p0.length pc0) p0, sl (Rp.pair (Rp.int .u16) (Rp.int .u8)) (.slice pA1 p1.length pc1) p1] → RunsI F23 [.c 15, .lp 15, .blk 0, .c 31] [(0, .slice pA0 p0.length pc0), (1, .slice pA1 p1.length pc1), (5, .int .i64 t2)] w R := by
 intro k
 induction k with
 | zero => intro t2 w h hH; exact absurd h (by simp [charabancref14_Same_23.l0])
 | succ k ih =>
  intro t2 w h hH
  rw [charabancref14_Same_23.l0.eq_2] at h
  refine RunsI.g 1 [.c 16, .c 21, .lp 15, .blk 0, .c 31] ?_
  refine RunsI.g 1 [.c 17, .c 18, .c 21, .lp 15, .blk 0, .c 31] ?_
  refine RunsI.r ?_
  refine RegI.p 4 [(0, .slice pA0 p0.length pc0), (1, .slice pA1 p1.length pc1), (5, .int .i64 t2), (14, .bool (decide (t2 < (p0.length : Int))))] ?_
  refine RegI.d ?_
  rcases of_cond h with ⟨hc3, h⟩ | ⟨hc3, h⟩
  ·skip
   refine RunsI.f 14 true hc3 ?_
   refine RunsI.b true 19 ?_
   refine RunsI.g 1 [.c 21, .lp 15, .blk 0, .c 31] ?_
   refine RunsI.g 3 [.c 24, .c 25, .blk 1, .c 30, .lp 15, .blk 0, .c 31] ?_
   refine RunsI.any 9 (by kernel_rfl) (by kernel_rfl) (by kernel_rfl) (Kp ([] : List Nat) (World.drew w)) ?_
   have h5 := hH.drew
   generalize World.drew w = w4 at h5 ⊢
   have hS6 := Kp.refl ([] : List Nat) w4
   refine AnyE.pure 0 17 (.slice pA0 p0.length pc0) (by kernel_rfl) hS6 (fun _ => by kernel_rfl) ?_
   refine AnyE.pure 1 18 (.int .i64 t2) (by kernel_rfl) hS6 (fun _ => by kernel_rfl) ?_
   obtain ⟨hc8, h⟩ := of_cond0 h
   refine AnyE.idxSl 2 19 0 41 t2 h5 (by kernel_rfl) hS6 rfl (by kernel_rfl) (by kernel_rfl) hc8 ?_
   intro b9 o10 cs11 hk12 h13
   obtain ⟨_, _, rfl, rfl, rfl⟩ := hk12
   refine AnyE.loadCel 3 20 2 85 b9 o10 0 (.agg #[.int .u16 ((rdD p0 t2).1), .int .u8 ((rdD p0 t2).2)]) [] h13 rfl (by kernel_rfl) hS6 rfl rfl (by kernel_rfl) (by kernel_rfl) ?_
   refine AnyE.pure 4 21 (.slice pA1 p1.length pc1) (by kernel_rfl) hS6 (fun _ => by kernel_rfl) ?_
   refine AnyE.pure 5 22 (.int .i64 t2) (by kernel_rfl) hS6 (fun _ => by kernel_rfl) ?_
   obtain ⟨hc14, h⟩ := of_cond0 h
   refine AnyE.idxSl 6 23 1 41 t2 h13 (by kernel_rfl) hS6 rfl (by kernel_rfl) (by kernel_rfl) hc14 ?_
   intro b15 o16 cs17 hk18 h19
   obtain ⟨_, _, rfl, rfl, rfl⟩ := hk18
   refine AnyE.loadCel 7 24 3 85 b15 o16 0 (.agg #[.int .u16 ((rdD p1 t2).1), .int .u8 ((rdD p1 t2).2)]) [] h19 rfl (by kernel_rfl) hS6 rfl rfl (by kernel_rfl) (by kernel_rfl) ?_
   refine AnyE.run 8 25 (.bool (!((((rdD p0 t2).1) == ((rdD p1 t2).1)) && ((((rdD p0 t2).2) == ((rdD p1 t2).2)) && true)))) (by kernel_rfl) hS6 (fun _ hk => run_eqS (neg := true) (t := 85) (x := .agg #[.int .u16 ((rdD p0 t2).1), .int .u8 ((rdD p0 t2).2)]) (y := .agg #[.int .u16 ((rdD p1 t2).1), .int .u8 ((rdD p1 t2).2)]) (b := ((((rdD p0 t2).1) == ((rdD p1 t2).1)) && ((((rdD p0 t2).2) == ((rdD p1 t2).2)) && true))) (by kernel_rfl) (by kernel_rfl) (by kernel_rfl) (by kernel_rfl)) ?_
   refine AnyE.done (by kernel_rfl) (fun w20 hu21 => ?_)
   have h22 := h19.call hu21
   refine RunsI.l [0, 1, 5, 25] [(0, .slice pA0 p0.length pc0), (1, .slice pA1 p1.length pc1), (5, .int .i64 t2), (25, .bool (!((((rdD p0 t2).1) == ((rdD p1 t2).1)) && ((((rdD p0 t2).2) == ((rdD p1 t2).2)) && true))))] ?_
   rcases of_cond h with ⟨hc23, h⟩ | ⟨hc23, h⟩
   ·skip
    refine RunsI.f 25 true hc23 ?_
    refine RunsI.b true 26 ?_
    refine RunsI.g 1 [.c 27, .c 28, .blk 1, .c 30, .lp 15, .blk 0, .c 31] ?_
    refine RunsI.r ?_
    refine RegI.p 1 [(4, .bool false)] ?_
    refine RegI.d ?_
    refine RunsI.t (.bool false) ?_
    exact hk1 w20 (Option.some.inj h).symm (h22.pick [] (by decide))
   ·skip
    refine RunsI.f 25 false hc23 ?_
    refine RunsI.b false 29 ?_
    refine RunsI.g 1 [.blk 1, .c 30, .lp 15, .blk 0, .c 31] ?_
    refine RunsI.g 1 [.c 30, .lp 15, .blk 0, .c 31] ?_
    refine RunsI.r ?_
    refine RegI.p 3 [(0, .slice pA0 p0.length pc0), (1, .slice pA1 p1.length pc1), (5, .int .i64 (IntKind.wrap .i64 (t2 + 1)))] ?_
    refine RegI.d ?_
    refine RunsI.g 1 [.c 15, .lp 15, .blk 0, .c 31] ?_
    refine RunsI.l [0, 1, 5] [(0, .slice pA0 p0.length pc0), (1, .slice pA1 p1.length pc1), (5, .int .i64 (IntKind.wrap .i64 (t2 + 1)))] ?_
    exact ih (IntKind.wrap .i64 (t2 + 1)) w20 h (h22.pick [0, 1] (by decide))
  ·skip
   refine RunsI.f 14 false hc3 ?_
   refine RunsI.b false 20 ?_
   refine RunsI.g 1 [.c 31] ?_
   refine RunsI.l [] [] ?_
   exact hk0 w (Option.some.inj h).symm (hH.pick [] (by decide))
def charabancref14_Same_23.f (K : Nat) (p0 : List (Int × Int)) (p1 : List (Int × Int)) : Option Bool := cond ((p0.length : Int) != (p1.length : Int)) (some false) ((charabancref14_Same_23.l0 K p0 p1 K 0).bind (fun x24 => Lp.elim x24 (fun _ => some false) (fun _ => some true)))
set_option maxRecDepth 100000 in
theorem charabancref14_Same_23_ok (K : Nat) (M0 : Nat → Prop) (w0 : World) (pA0 : Option Addr) (pc0 : Nat) (pA1 : Option Addr) (pc1 : Nat) (p0 : List (Int × Int)) (p1 : List (Int × Int)) (ho : ∀ b, M0 b → b < w0.heap.size) (hs0 : Sl (Rp.pair (Rp.int .u16) (Rp.int .u8)) w0 M0 (.slice pA0 p0.length pc0) p0) (hs1 : Sl (Rp.pair (Rp.int .u16) (Rp.int .u8)) w0 M0 (.slice pA1 p1.length pc1) p1) {r : Bool} (h : charabancref14_Same_23.f K p0 p1 = some r) :
  Calls Tryd.prog 23 #[.slice pA0 p0.length pc0, .slice pA1 p1.length pc1] w0 (charabancref14_Same_23.post M0 w0 r) := by
 unfold charabancref14_Same_23.f at h
 have h0 : Holds M0 w0 w0 [] := Holds.start ho
 have h00 := h0.addSl (Rp.pair (Rp.int .u16) (Rp.int .u8)) (.slice pA0 p0.length pc0) p0 (hs0.mono (fun _ _ hm => hm.elim id (fun hm => absurd hm (by simp [mines, sl]))))
 have h01 := h00.addSl (Rp.pair (Rp.int .u16) (Rp.int .u8)) (.slice pA1 p1.length pc1) p1 (hs1.mono (fun _ _ hm => hm.elim id (fun hm => absurd hm (by simp [mines, sl]))))
 have h0 : Holds M0 w0 w0 [sl (Rp.pair (Rp.int .u16) (Rp.int .u8)) (.slice pA0 p0.length pc0) p0, sl (Rp.pair (Rp.int .u16) (Rp.int .u8)) (.slice pA1 p1.length pc1) p1] := h01
 refine calls_of F23 rfl [.slice pA0 p0.length pc0, .slice pA1 p1.length pc1] (by kernel_rfl) ?_
 refine RunsI.g 1 [.c 1, .c 2] ?_
 refine RunsI.r ?_
 refine RegI.p 1 [(0, .slice pA0 p0.length pc0), (1, .slice pA1 p1.length pc1)] ?_
 refine RegI.d ?_
 refine RunsI.g 2 [.c 4, .c 5, .c 10] ?_
 refine RunsI.r ?_
 refine RegI.p 5 [(0, .slice pA0 p0.length pc0), (1, .slice pA1 p1.length pc1), (10, .bool ((p0.length : Int) != (p1.length : Int)))] ?_
 refine RegI.d ?_
 rcases of_cond h with ⟨hc1, h⟩ | ⟨hc1, h⟩
 ·skip
  refine RunsI.f 10 true hc1 ?_
  refine RunsI.b true 6 ?_
  refine RunsI.g 1 [.c 7, .c 8, .c 10] ?_
  refine RunsI.r ?_
  refine RegI.p 1 [(4, .bool false)] ?_
  refine RegI.d ?_
  refine RunsI.t (.bool false) ?_
  obtain rfl := Option.some.inj h
  exact ⟨rfl, h0.below⟩
 ·skip
  refine RunsI.f 10 false hc1 ?_
  refine RunsI.b false 9 ?_
  refine RunsI.g 1 [.c 10] ?_
  refine RunsI.g 2 [.c 12, .c 13, .c 31] ?_
  refine RunsI.r ?_
  refine RegI.p 1 [(0, .slice pA0 p0.length pc0), (1, .slice pA1 p1.length pc1), (5, .int .i64 0)] ?_
  refine RegI.d ?_
  refine RunsI.g 2 [.c 15, .lp 15, .blk 0, .c 31] ?_
  obtain ⟨x24, hx25, h⟩ := of_bind h
  refine RunsI.l [0, 1, 5] [(0, .slice pA0 p0.length pc0), (1, .slice pA1 p1.length pc1), (5, .int .i64 0)] ?_
  refine charabancref14_Same_23.l0_ok K M0 w0 pA0 pc0 pA1 pc1 p0 p1 _ x24 ?_ ?_ K 0 w0 hx25 (h0.pick [0, 1] (by decide))
  ·intro w27 hq30 h26
   (try rw [hq30] at h)
   dsimp only [Lp.elim] at h
   refine RunsI.g 1 [.c 32, .c 33] ?_
   refine RunsI.r ?_
   refine RegI.p 1 [(4, .bool true)] ?_
   refine RegI.d ?_
   refine RunsI.t (.bool true) ?_
   obtain rfl := Option.some.inj h
   exact ⟨rfl, h26.below⟩
  ·intro w29 hq31 h28
   (try rw [hq31] at h)
   dsimp only [Lp.elim] at h
   obtain rfl := Option.some.inj h
   exact ⟨rfl, h28.below⟩
end
end Go.Proofs.YtilgjfckgkkfmaaDoor.Hx
