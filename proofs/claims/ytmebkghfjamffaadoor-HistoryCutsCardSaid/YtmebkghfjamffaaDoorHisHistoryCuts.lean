/- The statement's function HistoryCuts as a plain Lean function; written by wip/eng.py. -/
import Derived.Test.YtmebkghfjamffaaDoorHis4
set_option linter.unusedVariables false
set_option linter.unusedSimpArgs false
set_option maxHeartbeats 4000000
namespace Go.Proofs.YtmebkghfjamffaaDoor.His
open Go.RowKit Go.Eng
noncomputable def B4 : Code := (Tryd.f4.body).getD .skip
noncomputable def F4 : Fun Tryd.prog := ⟨4, Tryd.f4, B4, 122, Tryd.func4, by kernel_rfl, by kernel_rfl, [], none⟩

/-! ### charabanc/charabanclaw29.HistoryCuts (function 4) -/
section
def charabanclaw29_HistoryCuts_4.post (M0 : Nat → Prop) (w0 : World) (r : Bool) : Ending → World → Prop := fun e w => e = .returned (.bool r) ∧ Below w0.heap.size w0 w
def charabanclaw29_HistoryCuts_4.l0 (K : Nat) (p0 : List (Int × Int × Int × Int × Int × Int)) (p1 : Int) (t82 : List (Int × Int × Int × Int)) (t85 : List (Int × Int × Int × Int)) : Nat → Int → Option (Lp Unit Unit)
  | 0, _ => none
  | k + 1, t86 => cond (decide (t86 < (t82.length : Int))) (cond (inR t86 t82.length) (cond (inR t86 t85.length) (Let (fun (t109 : Bool) => cond t109 (some (Lp.ret ())) (charabanclaw29_HistoryCuts_4.l0 K p0 p1 t82 t85 k (IntKind.wrap .i64 (t86 + 1)))) (fun j112 => cond (((rdD t82 t86).1) != ((rdD t85 t86).1)) (j112 true) (cond (((rdD t82 t86).2.1) != ((rdD t85 t86).2.1)) (j112 true) (cond (((rdD t82 t86).2.2.1) != ((rdD t85 t86).2.2.1)) (j112 true) (j112 (((rdD t82 t86).2.2.2) != ((rdD t85 t86).2.2.2))))))) none) none) (some (Lp.go ()))
set_option maxRecDepth 100000 in
theorem charabanclaw29_HistoryCuts_4.l0_ok (K : Nat) (M0 : Nat → Prop) (w0 : World) (pA0 : Option Addr) (pc0 : Nat) (p0 : List (Int × Int × Int × Int × Int × Int)) (p1 : Int) (t82 : List (Int × Int × Int × Int)) (t85 : List (Int × Int × Int × Int)) (A80 : Option Addr) (c81 : Nat) (A83 : Option Addr) (c84 : Nat) (R : Ending → World → Prop) (x : Lp Unit Unit) (hk0 : ∀ (w1 : World), x = Lp.go () → Holds M0 w0 w1 [sl (Rp.pair (Rp.int .i64) (Rp.pair (Rp.int .i64) (Rp.pair (Rp.int .i64) (Rp.pair (Rp.int .u16) (Rp.pair (Rp.int .i64) (Rp.int .u8)))))) (.slice pA0 p0.length pc0) p0, gl 0 (tab_0.flatMap en_0), gl 1 (tab_1.flatMap en_1), gl 2 (tab_2.flatMap en_2), gl 3 (tab_3.flatMap en_3), gl 7 (tab_7.flatMap en_7), gl 8 (tab_8.flatMap en_8)] → RunsI F4 [.c 53] [(0, .slice pA0 p0.length pc0)] w1 R) (hk1 : ∀ (w1 : World), x = Lp.ret () → Holds M0 w0 w1 [gl 0 (tab_0.flatMap en_0), gl 1 (tab_1.flatMap en_1), gl 2 (tab_2.flatMap en_2), gl 3 (tab_3.flatMap en_3), gl 7 (tab_7.flatMap en_7), gl 8 (tab_8.flatMap en_8)] → R (.returned (.bool false)) w1) :
    ∀ (k : Nat) (t86 : Int) (w : World), charabanclaw29_HistoryCuts_4.l0 K p0 p1 t82 t85 k t86 = some x → Holds M0 w0 w [sl (Rp.pair (Rp.int .i64) (Rp.pair (Rp.int .i64) (Rp.pair (Rp.int .i64) (Rp.pair (Rp.int .u16) (Rp.pair (Rp.int .i64) (Rp.int .u8)))))) (.slice pA0 p0.length pc0) p0, own (Rp.pair (Rp.int .i64) (Rp.pair (Rp.int .i64) (Rp.pair (Rp.int .i64) (Rp.int .i64)))) 49 (.slice A80 t82.length c81) t82, own (Rp.pair (Rp.int .i64) (Rp.pair (Rp.int .i64) (Rp.pair (Rp.int .i64) (Rp.int .i64)))) 50 (.slice A83 t85.length c84) t85, gl 0 (tab_0.flatMap en_0), gl 1 (tab_1.flatMap en_1), gl 2 (tab_2.flatMap en_2), gl 3 (tab_3.flatMap en_3), gl 7 (tab_7.flatMap en_7), gl 8 (tab_8.flatMap en_8)] → RunsI F4 [.c 37, .lp 37, .blk 0, .c 53] [(0, .slice pA0 p0.length pc0), (6, .slice A80 t82.length c81), (7, .slice A83 t85.length c84), (8, .int .i64 t86)] w R := by
  intro k
  induction k with
  | zero => intro t86 w h hH; exact absurd h (by simp [charabanclaw29_HistoryCuts_4.l0])
  | succ k ih =>
    intro t86 w h hH
    rw [charabanclaw29_HistoryCuts_4.l0.eq_2] at h
    refine RunsI.go 1 [.c 38, .c 43, .lp 37, .blk 0, .c 53] (by kernel_rfl) ?_
    refine RunsI.go 1 [.c 39, .c 40, .c 43, .lp 37, .blk 0, .c 53] (by kernel_rfl) ?_
    refine RunsI.region (by kernel_rfl) ?_
    refine RegI.pure 4 [0, 6, 7, 8, 52] [(0, .slice pA0 p0.length pc0), (6, .slice A80 t82.length c81), (7, .slice A83 t85.length c84), (8, .int .i64 t86), (52, .bool (decide (t86 < (t82.length : Int))))] (by kernel_rfl) ?_
    refine RegI.done (by kernel_rfl) ?_
    rcases of_cond h with ⟨hc87, h⟩ | ⟨hc87, h⟩
    · skip
      refine RunsI.fix 52 true hc87 (by kernel_rfl) (by kernel_rfl) ?_
      refine RunsI.cond true 41 (by kernel_rfl) ?_
      refine RunsI.go 1 [.c 43, .lp 37, .blk 0, .c 53] (by kernel_rfl) ?_
      refine RunsI.go 3 [.c 46, .c 47, .blk 1, .c 52, .lp 37, .blk 0, .c 53] (by kernel_rfl) ?_
      refine RunsI.any 50 (by kernel_rfl) (by kernel_rfl) (by kernel_rfl) (Kp ([] : List Nat) (World.drew w)) ?_
      have h89 := hH.drew
      generalize World.drew w = w88 at h89 ⊢
      have hS90 := Kp.refl ([] : List Nat) w88
      refine AnyE.pure 0 55 (.slice A80 t82.length c81) (by kernel_rfl) hS90 (fun _ => by kernel_rfl) ?_
      refine AnyE.pure 1 56 (.int .i64 t86) (by kernel_rfl) hS90 (fun _ => by kernel_rfl) ?_
      obtain ⟨hc92, h⟩ := of_cond0 h
      refine AnyE.idxOwnA 2 57 1 39 49 t86 h89 (by kernel_rfl) hS90 rfl (by kernel_rfl) (by kernel_rfl) hc92 ?_
      refine AnyE.pure 3 58 (.pointer (some ⟨(blkD A80), (Int.toNat t86) * 4, none⟩)) (by kernel_rfl) hS90 (fun _ => by kernel_rfl) ?_
      refine AnyE.loadOwnA 4 59 1 3 49 t86 0 (.int .i64 ((rdD t82 t86).1)) [] (o := (Int.toNat t86) * 4 + 0) h89 rfl (by kernel_rfl) hS90 rfl rfl (by kernel_rfl) rfl hc92 (fun _ _ hk => by obtain ⟨_, _, rfl, rfl, ⟨_, _, rfl, rfl, ⟨_, _, rfl, rfl, rfl⟩⟩⟩ := hk; kernel_rfl) ?_
      refine AnyE.pure 5 60 (.slice A83 t85.length c84) (by kernel_rfl) hS90 (fun _ => by kernel_rfl) ?_
      refine AnyE.pure 6 61 (.int .i64 t86) (by kernel_rfl) hS90 (fun _ => by kernel_rfl) ?_
      obtain ⟨hc93, h⟩ := of_cond0 h
      refine AnyE.idxOwnA 7 62 2 41 50 t86 h89 (by kernel_rfl) hS90 rfl (by kernel_rfl) (by kernel_rfl) hc93 ?_
      refine AnyE.pure 8 63 (.pointer (some ⟨(blkD A83), (Int.toNat t86) * 4, none⟩)) (by kernel_rfl) hS90 (fun _ => by kernel_rfl) ?_
      refine AnyE.loadOwnA 9 64 2 3 50 t86 0 (.int .i64 ((rdD t85 t86).1)) [] (o := (Int.toNat t86) * 4 + 0) h89 rfl (by kernel_rfl) hS90 rfl rfl (by kernel_rfl) rfl hc93 (fun _ _ hk => by obtain ⟨_, _, rfl, rfl, ⟨_, _, rfl, rfl, ⟨_, _, rfl, rfl, rfl⟩⟩⟩ := hk; kernel_rfl) ?_
      refine AnyE.pure 10 65 (.bool (((rdD t82 t86).1) != ((rdD t85 t86).1))) (by kernel_rfl) hS90 (fun _ => by kernel_rfl) ?_
      refine AnyE.pure 11 66 (.bool (((rdD t82 t86).1) != ((rdD t85 t86).1))) (by kernel_rfl) hS90 (fun _ => by kernel_rfl) ?_
      obtain ⟨j112, hJ113, h⟩ := of_let h
      have hj114 : ∀ (t109 : Bool) (w111 : World), j112 t109 = some x → Holds M0 w0 w111 [sl (Rp.pair (Rp.int .i64) (Rp.pair (Rp.int .i64) (Rp.pair (Rp.int .i64) (Rp.pair (Rp.int .u16) (Rp.pair (Rp.int .i64) (Rp.int .u8)))))) (.slice pA0 p0.length pc0) p0, own (Rp.pair (Rp.int .i64) (Rp.pair (Rp.int .i64) (Rp.pair (Rp.int .i64) (Rp.int .i64)))) 49 (.slice A80 t82.length c81) t82, own (Rp.pair (Rp.int .i64) (Rp.pair (Rp.int .i64) (Rp.pair (Rp.int .i64) (Rp.int .i64)))) 50 (.slice A83 t85.length c84) t85, gl 0 (tab_0.flatMap en_0), gl 1 (tab_1.flatMap en_1), gl 2 (tab_2.flatMap en_2), gl 3 (tab_3.flatMap en_3), gl 7 (tab_7.flatMap en_7), gl 8 (tab_8.flatMap en_8)] → RunsI F4 [.c 47, .blk 1, .c 52, .lp 37, .blk 0, .c 53] [(0, .slice pA0 p0.length pc0), (6, .slice A80 t82.length c81), (7, .slice A83 t85.length c84), (8, .int .i64 t86), (104, .bool t109)] w111 R := by
        intro t109 w111 h h110
        rw [hJ113] at h
        clear hJ113
        dsimp only at h
        rcases of_cond h with ⟨hc115, h⟩ | ⟨hc115, h⟩
        · skip
          refine RunsI.fix 104 true hc115 (by kernel_rfl) (by kernel_rfl) ?_
          refine RunsI.cond true 48 (by kernel_rfl) ?_
          refine RunsI.go 1 [.c 49, .c 50, .blk 1, .c 52, .lp 37, .blk 0, .c 53] (by kernel_rfl) ?_
          refine RunsI.region (by kernel_rfl) ?_
          refine RegI.pure 1 [4] [(4, .bool false)] (by kernel_rfl) ?_
          refine RegI.done (by kernel_rfl) ?_
          refine RunsI.ret (.bool false) (by kernel_rfl) (by kernel_rfl) ?_
          exact hk1 w111 (Option.some.inj h).symm (h110.pick [3, 4, 5, 6, 7, 8] (by decide))
        · skip
          refine RunsI.fix 104 false hc115 (by kernel_rfl) (by kernel_rfl) ?_
          refine RunsI.cond false 51 (by kernel_rfl) ?_
          refine RunsI.go 1 [.blk 1, .c 52, .lp 37, .blk 0, .c 53] (by kernel_rfl) ?_
          refine RunsI.go 1 [.c 52, .lp 37, .blk 0, .c 53] (by kernel_rfl) ?_
          refine RunsI.region (by kernel_rfl) ?_
          refine RegI.pure 3 [0, 6, 7, 8] [(0, .slice pA0 p0.length pc0), (6, .slice A80 t82.length c81), (7, .slice A83 t85.length c84), (8, .int .i64 (IntKind.wrap .i64 (t86 + 1)))] (by kernel_rfl) ?_
          refine RegI.done (by kernel_rfl) ?_
          refine RunsI.go 1 [.c 37, .lp 37, .blk 0, .c 53] (by kernel_rfl) ?_
          refine RunsI.only [0, 6, 7, 8] [(0, .slice pA0 p0.length pc0), (6, .slice A80 t82.length c81), (7, .slice A83 t85.length c84), (8, .int .i64 (IntKind.wrap .i64 (t86 + 1)))] (by kernel_rfl) (by kernel_rfl) ?_
          exact ih (IntKind.wrap .i64 (t86 + 1)) w111 h (h110.pick [0, 1, 2, 3, 4, 5, 6, 7, 8] (by decide))
      clear hJ113
      rcases of_cond h with ⟨hc94, h⟩ | ⟨hc94, h⟩
      · skip
        refine AnyE.fix 66 true hc94 (by kernel_rfl) (by kernel_rfl) ?_
        refine AnyE.no 12 67 (by kernel_rfl) hS90 ?_
        refine AnyE.no 13 68 (by kernel_rfl) hS90 ?_
        refine AnyE.no 14 69 (by kernel_rfl) hS90 ?_
        refine AnyE.no 15 70 (by kernel_rfl) hS90 ?_
        refine AnyE.no 16 71 (by kernel_rfl) hS90 ?_
        refine AnyE.no 17 72 (by kernel_rfl) hS90 ?_
        refine AnyE.no 18 73 (by kernel_rfl) hS90 ?_
        refine AnyE.no 19 74 (by kernel_rfl) hS90 ?_
        refine AnyE.no 20 75 (by kernel_rfl) hS90 ?_
        refine AnyE.no 21 76 (by kernel_rfl) hS90 ?_
        refine AnyE.no 22 77 (by kernel_rfl) hS90 ?_
        refine AnyE.pure 23 78 (.bool true) (by kernel_rfl) hS90 (fun _ => by kernel_rfl) ?_
        refine AnyE.pure 24 79 (.bool true) (by kernel_rfl) hS90 (fun _ => by kernel_rfl) ?_
        refine AnyE.no 25 80 (by kernel_rfl) hS90 ?_
        refine AnyE.no 26 81 (by kernel_rfl) hS90 ?_
        refine AnyE.no 27 82 (by kernel_rfl) hS90 ?_
        refine AnyE.no 28 83 (by kernel_rfl) hS90 ?_
        refine AnyE.no 29 84 (by kernel_rfl) hS90 ?_
        refine AnyE.no 30 85 (by kernel_rfl) hS90 ?_
        refine AnyE.no 31 86 (by kernel_rfl) hS90 ?_
        refine AnyE.no 32 87 (by kernel_rfl) hS90 ?_
        refine AnyE.no 33 88 (by kernel_rfl) hS90 ?_
        refine AnyE.no 34 89 (by kernel_rfl) hS90 ?_
        refine AnyE.no 35 90 (by kernel_rfl) hS90 ?_
        refine AnyE.pure 36 91 (.bool true) (by kernel_rfl) hS90 (fun _ => by kernel_rfl) ?_
        refine AnyE.pure 37 92 (.bool true) (by kernel_rfl) hS90 (fun _ => by kernel_rfl) ?_
        refine AnyE.no 38 93 (by kernel_rfl) hS90 ?_
        refine AnyE.no 39 94 (by kernel_rfl) hS90 ?_
        refine AnyE.no 40 95 (by kernel_rfl) hS90 ?_
        refine AnyE.no 41 96 (by kernel_rfl) hS90 ?_
        refine AnyE.no 42 97 (by kernel_rfl) hS90 ?_
        refine AnyE.no 43 98 (by kernel_rfl) hS90 ?_
        refine AnyE.no 44 99 (by kernel_rfl) hS90 ?_
        refine AnyE.no 45 100 (by kernel_rfl) hS90 ?_
        refine AnyE.no 46 101 (by kernel_rfl) hS90 ?_
        refine AnyE.no 47 102 (by kernel_rfl) hS90 ?_
        refine AnyE.no 48 103 (by kernel_rfl) hS90 ?_
        refine AnyE.pure 49 104 (.bool true) (by kernel_rfl) hS90 (fun _ => by kernel_rfl) ?_
        refine AnyE.done (by kernel_rfl) (fun w95 hu96 => ?_)
        have h97 := h89.call hu96
        refine RunsI.only [0, 6, 7, 8, 104] [(0, .slice pA0 p0.length pc0), (6, .slice A80 t82.length c81), (7, .slice A83 t85.length c84), (8, .int .i64 t86), (104, .bool true)] (by kernel_rfl) (by kernel_rfl) ?_
        refine RunsI.only [0, 6, 7, 8, 104] [(0, .slice pA0 p0.length pc0), (6, .slice A80 t82.length c81), (7, .slice A83 t85.length c84), (8, .int .i64 t86), (104, .bool true)] (by kernel_rfl) (by kernel_rfl) ?_
        exact hj114 true w95 h (h97.pick [0, 1, 2, 3, 4, 5, 6, 7, 8] (by decide))
      · skip
        refine AnyE.fix 66 false hc94 (by kernel_rfl) (by kernel_rfl) ?_
        refine AnyE.pure 12 67 (.slice A80 t82.length c81) (by kernel_rfl) hS90 (fun _ => by kernel_rfl) ?_
        refine AnyE.pure 13 68 (.int .i64 t86) (by kernel_rfl) hS90 (fun _ => by kernel_rfl) ?_
        refine AnyE.idxOwnA 14 69 1 39 49 t86 h89 (by kernel_rfl) hS90 rfl (by kernel_rfl) (by kernel_rfl) hc92 ?_
        refine AnyE.pure 15 70 (.pointer (some ⟨(blkD A80), (Int.toNat t86) * 4 + 1, none⟩)) (by kernel_rfl) hS90 (fun _ => by kernel_rfl) ?_
        refine AnyE.loadOwnA 16 71 1 3 49 t86 1 (.int .i64 ((rdD t82 t86).2.1)) [] (o := (Int.toNat t86) * 4 + 1) h89 rfl (by kernel_rfl) hS90 rfl rfl (by kernel_rfl) rfl hc92 (fun _ _ hk => by obtain ⟨_, _, rfl, rfl, ⟨_, _, rfl, rfl, ⟨_, _, rfl, rfl, rfl⟩⟩⟩ := hk; kernel_rfl) ?_
        refine AnyE.pure 17 72 (.slice A83 t85.length c84) (by kernel_rfl) hS90 (fun _ => by kernel_rfl) ?_
        refine AnyE.pure 18 73 (.int .i64 t86) (by kernel_rfl) hS90 (fun _ => by kernel_rfl) ?_
        refine AnyE.idxOwnA 19 74 2 41 50 t86 h89 (by kernel_rfl) hS90 rfl (by kernel_rfl) (by kernel_rfl) hc93 ?_
        refine AnyE.pure 20 75 (.pointer (some ⟨(blkD A83), (Int.toNat t86) * 4 + 1, none⟩)) (by kernel_rfl) hS90 (fun _ => by kernel_rfl) ?_
        refine AnyE.loadOwnA 21 76 2 3 50 t86 1 (.int .i64 ((rdD t85 t86).2.1)) [] (o := (Int.toNat t86) * 4 + 1) h89 rfl (by kernel_rfl) hS90 rfl rfl (by kernel_rfl) rfl hc93 (fun _ _ hk => by obtain ⟨_, _, rfl, rfl, ⟨_, _, rfl, rfl, ⟨_, _, rfl, rfl, rfl⟩⟩⟩ := hk; kernel_rfl) ?_
        refine AnyE.pure 22 77 (.bool (((rdD t82 t86).2.1) != ((rdD t85 t86).2.1))) (by kernel_rfl) hS90 (fun _ => by kernel_rfl) ?_
        refine AnyE.pure 23 78 (.bool (((rdD t82 t86).2.1) != ((rdD t85 t86).2.1))) (by kernel_rfl) hS90 (fun _ => by kernel_rfl) ?_
        refine AnyE.pure 24 79 (.bool (((rdD t82 t86).2.1) != ((rdD t85 t86).2.1))) (by kernel_rfl) hS90 (fun _ => by kernel_rfl) ?_
        rcases of_cond h with ⟨hc98, h⟩ | ⟨hc98, h⟩
        · skip
          refine AnyE.fix 79 true hc98 (by kernel_rfl) (by kernel_rfl) ?_
          refine AnyE.no 25 80 (by kernel_rfl) hS90 ?_
          refine AnyE.no 26 81 (by kernel_rfl) hS90 ?_
          refine AnyE.no 27 82 (by kernel_rfl) hS90 ?_
          refine AnyE.no 28 83 (by kernel_rfl) hS90 ?_
          refine AnyE.no 29 84 (by kernel_rfl) hS90 ?_
          refine AnyE.no 30 85 (by kernel_rfl) hS90 ?_
          refine AnyE.no 31 86 (by kernel_rfl) hS90 ?_
          refine AnyE.no 32 87 (by kernel_rfl) hS90 ?_
          refine AnyE.no 33 88 (by kernel_rfl) hS90 ?_
          refine AnyE.no 34 89 (by kernel_rfl) hS90 ?_
          refine AnyE.no 35 90 (by kernel_rfl) hS90 ?_
          refine AnyE.pure 36 91 (.bool true) (by kernel_rfl) hS90 (fun _ => by kernel_rfl) ?_
          refine AnyE.pure 37 92 (.bool true) (by kernel_rfl) hS90 (fun _ => by kernel_rfl) ?_
          refine AnyE.no 38 93 (by kernel_rfl) hS90 ?_
          refine AnyE.no 39 94 (by kernel_rfl) hS90 ?_
          refine AnyE.no 40 95 (by kernel_rfl) hS90 ?_
          refine AnyE.no 41 96 (by kernel_rfl) hS90 ?_
          refine AnyE.no 42 97 (by kernel_rfl) hS90 ?_
          refine AnyE.no 43 98 (by kernel_rfl) hS90 ?_
          refine AnyE.no 44 99 (by kernel_rfl) hS90 ?_
          refine AnyE.no 45 100 (by kernel_rfl) hS90 ?_
          refine AnyE.no 46 101 (by kernel_rfl) hS90 ?_
          refine AnyE.no 47 102 (by kernel_rfl) hS90 ?_
          refine AnyE.no 48 103 (by kernel_rfl) hS90 ?_
          refine AnyE.pure 49 104 (.bool true) (by kernel_rfl) hS90 (fun _ => by kernel_rfl) ?_
          refine AnyE.done (by kernel_rfl) (fun w99 hu100 => ?_)
          have h101 := h89.call hu100
          refine RunsI.only [0, 6, 7, 8, 104] [(0, .slice pA0 p0.length pc0), (6, .slice A80 t82.length c81), (7, .slice A83 t85.length c84), (8, .int .i64 t86), (104, .bool true)] (by kernel_rfl) (by kernel_rfl) ?_
          refine RunsI.only [0, 6, 7, 8, 104] [(0, .slice pA0 p0.length pc0), (6, .slice A80 t82.length c81), (7, .slice A83 t85.length c84), (8, .int .i64 t86), (104, .bool true)] (by kernel_rfl) (by kernel_rfl) ?_
          exact hj114 true w99 h (h101.pick [0, 1, 2, 3, 4, 5, 6, 7, 8] (by decide))
        · skip
          refine AnyE.fix 79 false hc98 (by kernel_rfl) (by kernel_rfl) ?_
          refine AnyE.pure 25 80 (.slice A80 t82.length c81) (by kernel_rfl) hS90 (fun _ => by kernel_rfl) ?_
          refine AnyE.pure 26 81 (.int .i64 t86) (by kernel_rfl) hS90 (fun _ => by kernel_rfl) ?_
          refine AnyE.idxOwnA 27 82 1 39 49 t86 h89 (by kernel_rfl) hS90 rfl (by kernel_rfl) (by kernel_rfl) hc92 ?_
          refine AnyE.pure 28 83 (.pointer (some ⟨(blkD A80), (Int.toNat t86) * 4 + 2, none⟩)) (by kernel_rfl) hS90 (fun _ => by kernel_rfl) ?_
          refine AnyE.loadOwnA 29 84 1 3 49 t86 2 (.int .i64 ((rdD t82 t86).2.2.1)) [] (o := (Int.toNat t86) * 4 + 2) h89 rfl (by kernel_rfl) hS90 rfl rfl (by kernel_rfl) rfl hc92 (fun _ _ hk => by obtain ⟨_, _, rfl, rfl, ⟨_, _, rfl, rfl, ⟨_, _, rfl, rfl, rfl⟩⟩⟩ := hk; kernel_rfl) ?_
          refine AnyE.pure 30 85 (.slice A83 t85.length c84) (by kernel_rfl) hS90 (fun _ => by kernel_rfl) ?_
          refine AnyE.pure 31 86 (.int .i64 t86) (by kernel_rfl) hS90 (fun _ => by kernel_rfl) ?_
          refine AnyE.idxOwnA 32 87 2 41 50 t86 h89 (by kernel_rfl) hS90 rfl (by kernel_rfl) (by kernel_rfl) hc93 ?_
          refine AnyE.pure 33 88 (.pointer (some ⟨(blkD A83), (Int.toNat t86) * 4 + 2, none⟩)) (by kernel_rfl) hS90 (fun _ => by kernel_rfl) ?_
          refine AnyE.loadOwnA 34 89 2 3 50 t86 2 (.int .i64 ((rdD t85 t86).2.2.1)) [] (o := (Int.toNat t86) * 4 + 2) h89 rfl (by kernel_rfl) hS90 rfl rfl (by kernel_rfl) rfl hc93 (fun _ _ hk => by obtain ⟨_, _, rfl, rfl, ⟨_, _, rfl, rfl, ⟨_, _, rfl, rfl, rfl⟩⟩⟩ := hk; kernel_rfl) ?_
          refine AnyE.pure 35 90 (.bool (((rdD t82 t86).2.2.1) != ((rdD t85 t86).2.2.1))) (by kernel_rfl) hS90 (fun _ => by kernel_rfl) ?_
          refine AnyE.pure 36 91 (.bool (((rdD t82 t86).2.2.1) != ((rdD t85 t86).2.2.1))) (by kernel_rfl) hS90 (fun _ => by kernel_rfl) ?_
          refine AnyE.pure 37 92 (.bool (((rdD t82 t86).2.2.1) != ((rdD t85 t86).2.2.1))) (by kernel_rfl) hS90 (fun _ => by kernel_rfl) ?_
          rcases of_cond h with ⟨hc102, h⟩ | ⟨hc102, h⟩
          · skip
            refine AnyE.fix 92 true hc102 (by kernel_rfl) (by kernel_rfl) ?_
            refine AnyE.no 38 93 (by kernel_rfl) hS90 ?_
            refine AnyE.no 39 94 (by kernel_rfl) hS90 ?_
            refine AnyE.no 40 95 (by kernel_rfl) hS90 ?_
            refine AnyE.no 41 96 (by kernel_rfl) hS90 ?_
            refine AnyE.no 42 97 (by kernel_rfl) hS90 ?_
            refine AnyE.no 43 98 (by kernel_rfl) hS90 ?_
            refine AnyE.no 44 99 (by kernel_rfl) hS90 ?_
            refine AnyE.no 45 100 (by kernel_rfl) hS90 ?_
            refine AnyE.no 46 101 (by kernel_rfl) hS90 ?_
            refine AnyE.no 47 102 (by kernel_rfl) hS90 ?_
            refine AnyE.no 48 103 (by kernel_rfl) hS90 ?_
            refine AnyE.pure 49 104 (.bool true) (by kernel_rfl) hS90 (fun _ => by kernel_rfl) ?_
            refine AnyE.done (by kernel_rfl) (fun w103 hu104 => ?_)
            have h105 := h89.call hu104
            refine RunsI.only [0, 6, 7, 8, 104] [(0, .slice pA0 p0.length pc0), (6, .slice A80 t82.length c81), (7, .slice A83 t85.length c84), (8, .int .i64 t86), (104, .bool true)] (by kernel_rfl) (by kernel_rfl) ?_
            refine RunsI.only [0, 6, 7, 8, 104] [(0, .slice pA0 p0.length pc0), (6, .slice A80 t82.length c81), (7, .slice A83 t85.length c84), (8, .int .i64 t86), (104, .bool true)] (by kernel_rfl) (by kernel_rfl) ?_
            exact hj114 true w103 h (h105.pick [0, 1, 2, 3, 4, 5, 6, 7, 8] (by decide))
          · skip
            refine AnyE.fix 92 false hc102 (by kernel_rfl) (by kernel_rfl) ?_
            refine AnyE.pure 38 93 (.slice A80 t82.length c81) (by kernel_rfl) hS90 (fun _ => by kernel_rfl) ?_
            refine AnyE.pure 39 94 (.int .i64 t86) (by kernel_rfl) hS90 (fun _ => by kernel_rfl) ?_
            refine AnyE.idxOwnA 40 95 1 39 49 t86 h89 (by kernel_rfl) hS90 rfl (by kernel_rfl) (by kernel_rfl) hc92 ?_
            refine AnyE.pure 41 96 (.pointer (some ⟨(blkD A80), (Int.toNat t86) * 4 + 3, none⟩)) (by kernel_rfl) hS90 (fun _ => by kernel_rfl) ?_
            refine AnyE.loadOwnA 42 97 1 3 49 t86 3 (.int .i64 ((rdD t82 t86).2.2.2)) [] (o := (Int.toNat t86) * 4 + 3) h89 rfl (by kernel_rfl) hS90 rfl rfl (by kernel_rfl) rfl hc92 (fun _ _ hk => by obtain ⟨_, _, rfl, rfl, ⟨_, _, rfl, rfl, ⟨_, _, rfl, rfl, rfl⟩⟩⟩ := hk; kernel_rfl) ?_
            refine AnyE.pure 43 98 (.slice A83 t85.length c84) (by kernel_rfl) hS90 (fun _ => by kernel_rfl) ?_
            refine AnyE.pure 44 99 (.int .i64 t86) (by kernel_rfl) hS90 (fun _ => by kernel_rfl) ?_
            refine AnyE.idxOwnA 45 100 2 41 50 t86 h89 (by kernel_rfl) hS90 rfl (by kernel_rfl) (by kernel_rfl) hc93 ?_
            refine AnyE.pure 46 101 (.pointer (some ⟨(blkD A83), (Int.toNat t86) * 4 + 3, none⟩)) (by kernel_rfl) hS90 (fun _ => by kernel_rfl) ?_
            refine AnyE.loadOwnA 47 102 2 3 50 t86 3 (.int .i64 ((rdD t85 t86).2.2.2)) [] (o := (Int.toNat t86) * 4 + 3) h89 rfl (by kernel_rfl) hS90 rfl rfl (by kernel_rfl) rfl hc93 (fun _ _ hk => by obtain ⟨_, _, rfl, rfl, ⟨_, _, rfl, rfl, ⟨_, _, rfl, rfl, rfl⟩⟩⟩ := hk; kernel_rfl) ?_
            refine AnyE.pure 48 103 (.bool (((rdD t82 t86).2.2.2) != ((rdD t85 t86).2.2.2))) (by kernel_rfl) hS90 (fun _ => by kernel_rfl) ?_
            refine AnyE.pure 49 104 (.bool (((rdD t82 t86).2.2.2) != ((rdD t85 t86).2.2.2))) (by kernel_rfl) hS90 (fun _ => by kernel_rfl) ?_
            refine AnyE.done (by kernel_rfl) (fun w106 hu107 => ?_)
            have h108 := h89.call hu107
            refine RunsI.only [0, 6, 7, 8, 104] [(0, .slice pA0 p0.length pc0), (6, .slice A80 t82.length c81), (7, .slice A83 t85.length c84), (8, .int .i64 t86), (104, .bool (((rdD t82 t86).2.2.2) != ((rdD t85 t86).2.2.2)))] (by kernel_rfl) (by kernel_rfl) ?_
            refine RunsI.only [0, 6, 7, 8, 104] [(0, .slice pA0 p0.length pc0), (6, .slice A80 t82.length c81), (7, .slice A83 t85.length c84), (8, .int .i64 t86), (104, .bool (((rdD t82 t86).2.2.2) != ((rdD t85 t86).2.2.2)))] (by kernel_rfl) (by kernel_rfl) ?_
            exact hj114 (((rdD t82 t86).2.2.2) != ((rdD t85 t86).2.2.2)) w106 h (h108.pick [0, 1, 2, 3, 4, 5, 6, 7, 8] (by decide))
    · skip
      refine RunsI.fix 52 false hc87 (by kernel_rfl) (by kernel_rfl) ?_
      refine RunsI.cond false 42 (by kernel_rfl) ?_
      refine RunsI.go 1 [.c 53] (by kernel_rfl) ?_
      refine RunsI.only [0] [(0, .slice pA0 p0.length pc0)] (by kernel_rfl) (by kernel_rfl) ?_
      exact hk0 w (Option.some.inj h).symm (hH.pick [0, 3, 4, 5, 6, 7, 8] (by decide))
def charabanclaw29_HistoryCuts_4.l1 (K : Nat) (p0 : List (Int × Int × Int × Int × Int × Int)) (p1 : Int) : Nat → Int → Option (Lp Unit Unit)
  | 0, _ => none
  | k + 1, t122 => cond (decide (t122 < (p0.length : Int))) (cond (inR t122 p0.length) ((history_Line_26.f K ((rdD p0 t122).1) ((rdD p0 t122).2.1) ((rdD p0 t122).2.2.1) ((rdD p0 t122).2.2.2.1) ((rdD p0 t122).2.2.2.2.1) ((rdD p0 t122).2.2.2.2.2)).bind fun t135 => (charabancref29_Line_27.f K ((rdD p0 t122).1) ((rdD p0 t122).2.1) ((rdD p0 t122).2.2.1) ((rdD p0 t122).2.2.2.1) ((rdD p0 t122).2.2.2.2.1) ((rdD p0 t122).2.2.2.2.2)).bind fun t142 => cond (!((ByteArray.toList t135) == (ByteArray.toList t142))) (some (Lp.ret ())) (charabanclaw29_HistoryCuts_4.l1 K p0 p1 k (IntKind.wrap .i64 (t122 + 1)))) none) (some (Lp.go ()))
set_option maxRecDepth 100000 in
theorem charabanclaw29_HistoryCuts_4.l1_ok (K : Nat) (M0 : Nat → Prop) (w0 : World) (pA0 : Option Addr) (pc0 : Nat) (p0 : List (Int × Int × Int × Int × Int × Int)) (p1 : Int) (R : Ending → World → Prop) (x : Lp Unit Unit) (hk0 : ∀ (w1 : World), x = Lp.go () → Holds M0 w0 w1 [gl 0 (tab_0.flatMap en_0), gl 1 (tab_1.flatMap en_1), gl 2 (tab_2.flatMap en_2), gl 3 (tab_3.flatMap en_3), gl 7 (tab_7.flatMap en_7), gl 8 (tab_8.flatMap en_8)] → RunsI F4 [.c 74] [] w1 R) (hk1 : ∀ (w1 : World), x = Lp.ret () → Holds M0 w0 w1 [gl 0 (tab_0.flatMap en_0), gl 1 (tab_1.flatMap en_1), gl 2 (tab_2.flatMap en_2), gl 3 (tab_3.flatMap en_3), gl 7 (tab_7.flatMap en_7), gl 8 (tab_8.flatMap en_8)] → R (.returned (.bool false)) w1) :
    ∀ (k : Nat) (t122 : Int) (w : World), charabanclaw29_HistoryCuts_4.l1 K p0 p1 k t122 = some x → Holds M0 w0 w [sl (Rp.pair (Rp.int .i64) (Rp.pair (Rp.int .i64) (Rp.pair (Rp.int .i64) (Rp.pair (Rp.int .u16) (Rp.pair (Rp.int .i64) (Rp.int .u8)))))) (.slice pA0 p0.length pc0) p0, gl 0 (tab_0.flatMap en_0), gl 1 (tab_1.flatMap en_1), gl 2 (tab_2.flatMap en_2), gl 3 (tab_3.flatMap en_3), gl 7 (tab_7.flatMap en_7), gl 8 (tab_8.flatMap en_8)] → RunsI F4 [.c 58, .lp 58, .blk 2, .c 74] [(0, .slice pA0 p0.length pc0), (9, .int .i64 t122)] w R := by
  intro k
  induction k with
  | zero => intro t122 w h hH; exact absurd h (by simp [charabanclaw29_HistoryCuts_4.l1])
  | succ k ih =>
    intro t122 w h hH
    rw [charabanclaw29_HistoryCuts_4.l1.eq_2] at h
    refine RunsI.go 1 [.c 59, .c 64, .lp 58, .blk 2, .c 74] (by kernel_rfl) ?_
    refine RunsI.go 1 [.c 60, .c 61, .c 64, .lp 58, .blk 2, .c 74] (by kernel_rfl) ?_
    refine RunsI.region (by kernel_rfl) ?_
    refine RegI.pure 4 [0, 9, 108] [(0, .slice pA0 p0.length pc0), (9, .int .i64 t122), (108, .bool (decide (t122 < (p0.length : Int))))] (by kernel_rfl) ?_
    refine RegI.done (by kernel_rfl) ?_
    rcases of_cond h with ⟨hc123, h⟩ | ⟨hc123, h⟩
    · skip
      refine RunsI.fix 108 true hc123 (by kernel_rfl) (by kernel_rfl) ?_
      refine RunsI.cond true 62 (by kernel_rfl) ?_
      refine RunsI.go 1 [.c 64, .lp 58, .blk 2, .c 74] (by kernel_rfl) ?_
      refine RunsI.go 3 [.c 67, .c 68, .blk 3, .c 73, .lp 58, .blk 2, .c 74] (by kernel_rfl) ?_
      refine RunsI.any 11 (by kernel_rfl) (by kernel_rfl) (by kernel_rfl) (Kp ([] : List Nat) (World.drew w)) ?_
      have h125 := hH.drew
      generalize World.drew w = w124 at h125 ⊢
      have hS126 := Kp.refl ([] : List Nat) w124
      refine AnyE.pure 0 111 (.slice pA0 p0.length pc0) (by kernel_rfl) hS126 (fun _ => by kernel_rfl) ?_
      refine AnyE.pure 1 112 (.int .i64 t122) (by kernel_rfl) hS126 (fun _ => by kernel_rfl) ?_
      obtain ⟨hc128, h⟩ := of_cond0 h
      refine AnyE.idxSl 2 113 0 26 t122 h125 (by kernel_rfl) hS126 rfl (by kernel_rfl) (by kernel_rfl) hc128 ?_
      intro b129 o130 cs131 hk132 h133
      obtain ⟨_, _, rfl, rfl, ⟨_, _, rfl, rfl, ⟨_, _, rfl, rfl, ⟨_, _, rfl, rfl, ⟨_, _, rfl, rfl, rfl⟩⟩⟩⟩⟩ := hk132
      refine AnyE.loadCel 3 114 7 54 b129 o130 0 (.agg #[.int .i64 ((rdD p0 t122).1), .int .i64 ((rdD p0 t122).2.1), .int .i64 ((rdD p0 t122).2.2.1), .int .u16 ((rdD p0 t122).2.2.2.1), .int .i64 ((rdD p0 t122).2.2.2.2.1), .int .u8 ((rdD p0 t122).2.2.2.2.2)]) [] h133 rfl (by kernel_rfl) hS126 rfl rfl (by kernel_rfl) (by kernel_rfl) ?_
      obtain ⟨t135, hg134, h⟩ := of_bind h
      refine AnyE.call 4 115 (.string t135) 26 #[.agg #[.int .i64 ((rdD p0 t122).1), .int .i64 ((rdD p0 t122).2.1), .int .i64 ((rdD p0 t122).2.2.1), .int .u16 ((rdD p0 t122).2.2.2.1), .int .i64 ((rdD p0 t122).2.2.2.2.1), .int .u8 ((rdD p0 t122).2.2.2.2.2)]] (by kernel_rfl) hS126 (fun _ => by kernel_rfl) (fun w hk => history_Line_26_ok K (fun _ => False) w ((rdD p0 t122).1) ((rdD p0 t122).2.1) ((rdD p0 t122).2.2.1) ((rdD p0 t122).2.2.2.1) ((rdD p0 t122).2.2.2.2.1) ((rdD p0 t122).2.2.2.2.2) (fun _ hf => hf.elim) ⟨(h133.atI [] rfl hk 1 rfl rfl).1, fun hf => hf.elim, (h133.atI [] rfl hk 1 rfl rfl).2.2⟩ ⟨(h133.atI [] rfl hk 2 rfl rfl).1, fun hf => hf.elim, (h133.atI [] rfl hk 2 rfl rfl).2.2⟩ ⟨(h133.atI [] rfl hk 4 rfl rfl).1, fun hf => hf.elim, (h133.atI [] rfl hk 4 rfl rfl).2.2⟩ ⟨(h133.atI [] rfl hk 5 rfl rfl).1, fun hf => hf.elim, (h133.atI [] rfl hk 5 rfl rfl).2.2⟩ ⟨(h133.atI [] rfl hk 6 rfl rfl).1, fun hf => hf.elim, (h133.atI [] rfl hk 6 rfl rfl).2.2⟩ hg134) ?_
      refine AnyE.pure 5 116 (.slice pA0 p0.length pc0) (by kernel_rfl) hS126 (fun _ => by kernel_rfl) ?_
      refine AnyE.pure 6 117 (.int .i64 t122) (by kernel_rfl) hS126 (fun _ => by kernel_rfl) ?_
      refine AnyE.idxSl 7 118 0 26 t122 h133 (by kernel_rfl) hS126 rfl (by kernel_rfl) (by kernel_rfl) hc128 ?_
      intro b136 o137 cs138 hk139 h140
      obtain ⟨_, _, rfl, rfl, ⟨_, _, rfl, rfl, ⟨_, _, rfl, rfl, ⟨_, _, rfl, rfl, ⟨_, _, rfl, rfl, rfl⟩⟩⟩⟩⟩ := hk139
      refine AnyE.loadCel 8 119 8 54 b136 o137 0 (.agg #[.int .i64 ((rdD p0 t122).1), .int .i64 ((rdD p0 t122).2.1), .int .i64 ((rdD p0 t122).2.2.1), .int .u16 ((rdD p0 t122).2.2.2.1), .int .i64 ((rdD p0 t122).2.2.2.2.1), .int .u8 ((rdD p0 t122).2.2.2.2.2)]) [] h140 rfl (by kernel_rfl) hS126 rfl rfl (by kernel_rfl) (by kernel_rfl) ?_
      obtain ⟨t142, hg141, h⟩ := of_bind h
      refine AnyE.call 9 120 (.string t142) 27 #[.agg #[.int .i64 ((rdD p0 t122).1), .int .i64 ((rdD p0 t122).2.1), .int .i64 ((rdD p0 t122).2.2.1), .int .u16 ((rdD p0 t122).2.2.2.1), .int .i64 ((rdD p0 t122).2.2.2.2.1), .int .u8 ((rdD p0 t122).2.2.2.2.2)]] (by kernel_rfl) hS126 (fun _ => by kernel_rfl) (fun w hk => charabancref29_Line_27_ok K (fun _ => False) w ((rdD p0 t122).1) ((rdD p0 t122).2.1) ((rdD p0 t122).2.2.1) ((rdD p0 t122).2.2.2.1) ((rdD p0 t122).2.2.2.2.1) ((rdD p0 t122).2.2.2.2.2) (fun _ hf => hf.elim) hg141) ?_
      refine AnyE.pure 10 121 (.bool (!((ByteArray.toList t135) == (ByteArray.toList t142)))) (by kernel_rfl) hS126 (fun _ => by kernel_rfl) ?_
      refine AnyE.done (by kernel_rfl) (fun w143 hu144 => ?_)
      have h145 := h140.call hu144
      refine RunsI.only [0, 9, 121] [(0, .slice pA0 p0.length pc0), (9, .int .i64 t122), (121, .bool (!((ByteArray.toList t135) == (ByteArray.toList t142))))] (by kernel_rfl) (by kernel_rfl) ?_
      rcases of_cond h with ⟨hc146, h⟩ | ⟨hc146, h⟩
      · skip
        refine RunsI.fix 121 true hc146 (by kernel_rfl) (by kernel_rfl) ?_
        refine RunsI.cond true 69 (by kernel_rfl) ?_
        refine RunsI.go 1 [.c 70, .c 71, .blk 3, .c 73, .lp 58, .blk 2, .c 74] (by kernel_rfl) ?_
        refine RunsI.region (by kernel_rfl) ?_
        refine RegI.pure 1 [4] [(4, .bool false)] (by kernel_rfl) ?_
        refine RegI.done (by kernel_rfl) ?_
        refine RunsI.ret (.bool false) (by kernel_rfl) (by kernel_rfl) ?_
        exact hk1 w143 (Option.some.inj h).symm (h145.pick [1, 2, 3, 4, 5, 6] (by decide))
      · skip
        refine RunsI.fix 121 false hc146 (by kernel_rfl) (by kernel_rfl) ?_
        refine RunsI.cond false 72 (by kernel_rfl) ?_
        refine RunsI.go 1 [.blk 3, .c 73, .lp 58, .blk 2, .c 74] (by kernel_rfl) ?_
        refine RunsI.go 1 [.c 73, .lp 58, .blk 2, .c 74] (by kernel_rfl) ?_
        refine RunsI.region (by kernel_rfl) ?_
        refine RegI.pure 3 [0, 9] [(0, .slice pA0 p0.length pc0), (9, .int .i64 (IntKind.wrap .i64 (t122 + 1)))] (by kernel_rfl) ?_
        refine RegI.done (by kernel_rfl) ?_
        refine RunsI.go 1 [.c 58, .lp 58, .blk 2, .c 74] (by kernel_rfl) ?_
        refine RunsI.only [0, 9] [(0, .slice pA0 p0.length pc0), (9, .int .i64 (IntKind.wrap .i64 (t122 + 1)))] (by kernel_rfl) (by kernel_rfl) ?_
        exact ih (IntKind.wrap .i64 (t122 + 1)) w143 h (h145.pick [0, 1, 2, 3, 4, 5, 6] (by decide))
    · skip
      refine RunsI.fix 108 false hc123 (by kernel_rfl) (by kernel_rfl) ?_
      refine RunsI.cond false 63 (by kernel_rfl) ?_
      refine RunsI.go 1 [.c 74] (by kernel_rfl) ?_
      refine RunsI.only [] [] (by kernel_rfl) (by kernel_rfl) ?_
      exact hk0 w (Option.some.inj h).symm (hH.pick [1, 2, 3, 4, 5, 6] (by decide))
def charabanclaw29_HistoryCuts_4.f (K : Nat) (p0 : List (Int × Int × Int × Int × Int × Int)) (p1 : Int) : Option Bool := (charabanclaw29_awake_9.f K).bind fun t5 => cond (!t5) (some false) (cond (decide ((p0.length : Int) > 100)) (some true) ((history_Tenures_17.f K p0).bind fun t12 => (charabancref29_Tenures_18.f K p0).bind fun t21 => Let (fun (t73 : Bool) => cond t73 (some false) ((charabanclaw29_HistoryCuts_4.l0 K p0 p1 t12 t21 K 0).bind (fun x116 => Lp.elim x116 (fun _ => some false) (fun _ => (charabanclaw29_HistoryCuts_4.l1 K p0 p1 K 0).bind (fun x147 => Lp.elim x147 (fun _ => some false) (fun _ => some true)))))) (fun j76 => cond ((t12.length : Int) != (t21.length : Int)) (j76 true) ((history_Counts_19.f K p0).bind fun t31 => (charabancref29_Counts_20.f K p0).bind fun t36 => cond (Nat.beq t31.length 4 && Nat.beq t36.length 4) (cond (!(t31 == t36)) (j76 true) ((history_Meets_21.f K p0).bind fun t43 => (charabancref29_Meets_22.f K p0).bind fun t48 => cond (t43 != t48) (j76 true) ((history_Of_24.f K p0 p1).bind fun t54 => (charabancref29_Of_25.f K p0 p1).bind fun t63 => (charabancref28_Events_23.f K t54 t63).bind fun t72 => j76 (!t72)))) none))))
set_option maxRecDepth 100000 in
theorem charabanclaw29_HistoryCuts_4_ok (K : Nat) (M0 : Nat → Prop) (w0 : World) (pA0 : Option Addr) (pc0 : Nat) (p0 : List (Int × Int × Int × Int × Int × Int)) (p1 : Int) (ho : ∀ b, M0 b → b < w0.heap.size) (hs0 : Sl (Rp.pair (Rp.int .i64) (Rp.pair (Rp.int .i64) (Rp.pair (Rp.int .i64) (Rp.pair (Rp.int .u16) (Rp.pair (Rp.int .i64) (Rp.int .u8)))))) w0 M0 (.slice pA0 p0.length pc0) p0) (hG0 : (gl 0 (tab_0.flatMap en_0)).ok w0 M0) (hG1 : (gl 1 (tab_1.flatMap en_1)).ok w0 M0) (hG2 : (gl 2 (tab_2.flatMap en_2)).ok w0 M0) (hG3 : (gl 3 (tab_3.flatMap en_3)).ok w0 M0) (hG7 : (gl 7 (tab_7.flatMap en_7)).ok w0 M0) (hG8 : (gl 8 (tab_8.flatMap en_8)).ok w0 M0) {r : Bool} (h : charabanclaw29_HistoryCuts_4.f K p0 p1 = some r) :
    Calls Tryd.prog 4 #[.slice pA0 p0.length pc0, .int .i64 p1] w0 (charabanclaw29_HistoryCuts_4.post M0 w0 r) := by
  unfold charabanclaw29_HistoryCuts_4.f at h
  have h0 : Holds M0 w0 w0 [] := Holds.start ho
  have h00 := h0.addSl (Rp.pair (Rp.int .i64) (Rp.pair (Rp.int .i64) (Rp.pair (Rp.int .i64) (Rp.pair (Rp.int .u16) (Rp.pair (Rp.int .i64) (Rp.int .u8)))))) (.slice pA0 p0.length pc0) p0 (hs0.mono (fun _ _ hm => hm.elim id (fun hm => absurd hm (by simp [mines, sl]))))
  have h0g0 := h00.add (gl 0 (tab_0.flatMap en_0)) rfl ⟨hG0.1, fun hm => hG0.2.1 (hm.elim id (fun hm => absurd hm (by simp [mines, sl, gl]))), hG0.2.2⟩
  have h0g1 := h0g0.add (gl 1 (tab_1.flatMap en_1)) rfl ⟨hG1.1, fun hm => hG1.2.1 (hm.elim id (fun hm => absurd hm (by simp [mines, sl, gl]))), hG1.2.2⟩
  have h0g2 := h0g1.add (gl 2 (tab_2.flatMap en_2)) rfl ⟨hG2.1, fun hm => hG2.2.1 (hm.elim id (fun hm => absurd hm (by simp [mines, sl, gl]))), hG2.2.2⟩
  have h0g3 := h0g2.add (gl 3 (tab_3.flatMap en_3)) rfl ⟨hG3.1, fun hm => hG3.2.1 (hm.elim id (fun hm => absurd hm (by simp [mines, sl, gl]))), hG3.2.2⟩
  have h0g7 := h0g3.add (gl 7 (tab_7.flatMap en_7)) rfl ⟨hG7.1, fun hm => hG7.2.1 (hm.elim id (fun hm => absurd hm (by simp [mines, sl, gl]))), hG7.2.2⟩
  have h0g8 := h0g7.add (gl 8 (tab_8.flatMap en_8)) rfl ⟨hG8.1, fun hm => hG8.2.1 (hm.elim id (fun hm => absurd hm (by simp [mines, sl, gl]))), hG8.2.2⟩
  have h0 : Holds M0 w0 w0 [sl (Rp.pair (Rp.int .i64) (Rp.pair (Rp.int .i64) (Rp.pair (Rp.int .i64) (Rp.pair (Rp.int .u16) (Rp.pair (Rp.int .i64) (Rp.int .u8)))))) (.slice pA0 p0.length pc0) p0, gl 0 (tab_0.flatMap en_0), gl 1 (tab_1.flatMap en_1), gl 2 (tab_2.flatMap en_2), gl 3 (tab_3.flatMap en_3), gl 7 (tab_7.flatMap en_7), gl 8 (tab_8.flatMap en_8)] := h0g8
  refine calls_of F4 rfl [.slice pA0 p0.length pc0, .int .i64 p1] (by kernel_rfl) ?_
  refine RunsI.go 1 [.c 1, .c 2] (by kernel_rfl) ?_
  refine RunsI.region (by kernel_rfl) ?_
  refine RegI.pure 1 [0, 1] [(0, .slice pA0 p0.length pc0), (1, .int .i64 p1)] (by kernel_rfl) ?_
  refine RegI.done (by kernel_rfl) ?_
  refine RunsI.go 1 [.c 3, .c 4] (by kernel_rfl) ?_
  refine RunsI.region (by kernel_rfl) ?_
  obtain ⟨t5, hg4, h⟩ := of_bind h
  refine RegI.op (by kernel_rfl) (OpE.call 10 (by kernel_rfl) 9 #[] (by kernel_rfl) ((charabanclaw29_awake_9_ok K _ w0  h0.old' (h0.get 1 rfl) (h0.get 2 rfl) (h0.get 3 rfl) (h0.get 4 rfl) (h0.get 5 rfl) (h0.get 6 rfl) hg4).mono ?_))
  rintro _ w1 ⟨rfl, hb2⟩
  refine ⟨_, rfl, ?_⟩
  have h3 := h0.call hb2
  refine RegI.pure 1 [0, 1, 5] [(0, .slice pA0 p0.length pc0), (1, .int .i64 p1), (5, .bool t5)] (by kernel_rfl) ?_
  refine RegI.done (by kernel_rfl) ?_
  refine RunsI.go 2 [.c 6, .c 7, .c 12] (by kernel_rfl) ?_
  refine RunsI.region (by kernel_rfl) ?_
  refine RegI.pure 2 [0, 1, 12] [(0, .slice pA0 p0.length pc0), (1, .int .i64 p1), (12, .bool (!t5))] (by kernel_rfl) ?_
  refine RegI.done (by kernel_rfl) ?_
  rcases of_cond h with ⟨hc6, h⟩ | ⟨hc6, h⟩
  · skip
    refine RunsI.fix 12 true hc6 (by kernel_rfl) (by kernel_rfl) ?_
    refine RunsI.cond true 8 (by kernel_rfl) ?_
    refine RunsI.go 1 [.c 9, .c 10, .c 12] (by kernel_rfl) ?_
    refine RunsI.region (by kernel_rfl) ?_
    refine RegI.pure 1 [4] [(4, .bool false)] (by kernel_rfl) ?_
    refine RegI.done (by kernel_rfl) ?_
    refine RunsI.ret (.bool false) (by kernel_rfl) (by kernel_rfl) ?_
    obtain rfl := Option.some.inj h
    exact ⟨rfl, h3.below⟩
  · skip
    refine RunsI.fix 12 false hc6 (by kernel_rfl) (by kernel_rfl) ?_
    refine RunsI.cond false 11 (by kernel_rfl) ?_
    refine RunsI.go 1 [.c 12] (by kernel_rfl) ?_
    refine RunsI.go 2 [.c 14, .c 15, .c 20] (by kernel_rfl) ?_
    refine RunsI.region (by kernel_rfl) ?_
    refine RegI.pure 3 [0, 1, 15] [(0, .slice pA0 p0.length pc0), (1, .int .i64 p1), (15, .bool (decide ((p0.length : Int) > 100)))] (by kernel_rfl) ?_
    refine RegI.done (by kernel_rfl) ?_
    rcases of_cond h with ⟨hc7, h⟩ | ⟨hc7, h⟩
    · skip
      refine RunsI.fix 15 true hc7 (by kernel_rfl) (by kernel_rfl) ?_
      refine RunsI.cond true 16 (by kernel_rfl) ?_
      refine RunsI.go 1 [.c 17, .c 18, .c 20] (by kernel_rfl) ?_
      refine RunsI.region (by kernel_rfl) ?_
      refine RegI.pure 1 [4] [(4, .bool true)] (by kernel_rfl) ?_
      refine RegI.done (by kernel_rfl) ?_
      refine RunsI.ret (.bool true) (by kernel_rfl) (by kernel_rfl) ?_
      obtain rfl := Option.some.inj h
      exact ⟨rfl, h3.below⟩
    · skip
      refine RunsI.fix 15 false hc7 (by kernel_rfl) (by kernel_rfl) ?_
      refine RunsI.cond false 19 (by kernel_rfl) ?_
      refine RunsI.go 1 [.c 20] (by kernel_rfl) ?_
      refine RunsI.go 1 [.c 21, .c 22] (by kernel_rfl) ?_
      refine RunsI.region (by kernel_rfl) ?_
      refine RegI.pure 1 [0, 1, 16] [(0, .slice pA0 p0.length pc0), (1, .int .i64 p1), (16, .slice pA0 p0.length pc0)] (by kernel_rfl) ?_
      obtain ⟨t12, hg11, h⟩ := of_bind h
      refine RegI.op (by kernel_rfl) (OpE.call 17 (by kernel_rfl) 17 #[.slice pA0 p0.length pc0] (by kernel_rfl) ((history_Tenures_17_ok K _ w1  pA0 pc0 p0 h3.old' (h3.get 0 rfl) hg11).mono ?_))
      rintro _ w8 ⟨A13, c14, rfl, hr16⟩
      refine ⟨_, rfl, ?_⟩
      have hb9 := hr16.below
      have h10 := h3.join hr16
      refine RegI.pure 1 [0, 1, 6] [(0, .slice pA0 p0.length pc0), (1, .int .i64 p1), (6, .slice A13 t12.length c14)] (by kernel_rfl) ?_
      refine RegI.done (by kernel_rfl) ?_
      refine RunsI.go 1 [.c 23, .c 24] (by kernel_rfl) ?_
      refine RunsI.region (by kernel_rfl) ?_
      refine RegI.pure 1 [0, 1, 6, 18] [(0, .slice pA0 p0.length pc0), (1, .int .i64 p1), (6, .slice A13 t12.length c14), (18, .slice pA0 p0.length pc0)] (by kernel_rfl) ?_
      obtain ⟨t21, hg20, h⟩ := of_bind h
      refine RegI.op (by kernel_rfl) (OpE.call 19 (by kernel_rfl) 18 #[.slice pA0 p0.length pc0] (by kernel_rfl) ((charabancref29_Tenures_18_ok K _ w8  pA0 pc0 p0 h10.old' (h10.get 0 rfl) hg20).mono ?_))
      rintro _ w17 ⟨A22, c23, rfl, hr25⟩
      refine ⟨_, rfl, ?_⟩
      have hb18 := hr25.below
      have h19 := h10.join hr25
      refine RegI.pure 1 [0, 1, 6, 7] [(0, .slice pA0 p0.length pc0), (1, .int .i64 p1), (6, .slice A13 t12.length c14), (7, .slice A22 t21.length c23)] (by kernel_rfl) ?_
      refine RegI.done (by kernel_rfl) ?_
      refine RunsI.go 2 [.c 26, .c 27, .c 32] (by kernel_rfl) ?_
      refine RunsI.region (by kernel_rfl) ?_
      refine RegI.pure 6 [0, 1, 6, 7, 25] [(0, .slice pA0 p0.length pc0), (1, .int .i64 p1), (6, .slice A13 t12.length c14), (7, .slice A22 t21.length c23), (25, .bool ((t12.length : Int) != (t21.length : Int)))] (by kernel_rfl) ?_
      obtain ⟨j76, hJ77, h⟩ := of_let h
      have hj78 : ∀ (t73 : Bool) (w75 : World), j76 t73 = some r → Holds M0 w0 w75 [sl (Rp.pair (Rp.int .i64) (Rp.pair (Rp.int .i64) (Rp.pair (Rp.int .i64) (Rp.pair (Rp.int .u16) (Rp.pair (Rp.int .i64) (Rp.int .u8)))))) (.slice pA0 p0.length pc0) p0, own (Rp.pair (Rp.int .i64) (Rp.pair (Rp.int .i64) (Rp.pair (Rp.int .i64) (Rp.int .i64)))) 49 (.slice A13 t12.length c14) t12, own (Rp.pair (Rp.int .i64) (Rp.pair (Rp.int .i64) (Rp.pair (Rp.int .i64) (Rp.int .i64)))) 50 (.slice A22 t21.length c23) t21, gl 0 (tab_0.flatMap en_0), gl 1 (tab_1.flatMap en_1), gl 2 (tab_2.flatMap en_2), gl 3 (tab_3.flatMap en_3), gl 7 (tab_7.flatMap en_7), gl 8 (tab_8.flatMap en_8)] → RegI F4 26 [.c 27, .c 32] 29 [(0, .slice pA0 p0.length pc0), (6, .slice A13 t12.length c14), (7, .slice A22 t21.length c23), (48, .bool t73)] w75 (charabanclaw29_HistoryCuts_4.post M0 w0 r) := by
        intro t73 w75 h h74
        rw [hJ77] at h
        clear hJ77
        dsimp only at h
        refine RegI.done (by kernel_rfl) ?_
        rcases of_cond h with ⟨hc79, h⟩ | ⟨hc79, h⟩
        · skip
          refine RunsI.fix 48 true hc79 (by kernel_rfl) (by kernel_rfl) ?_
          refine RunsI.cond true 28 (by kernel_rfl) ?_
          refine RunsI.go 1 [.c 29, .c 30, .c 32] (by kernel_rfl) ?_
          refine RunsI.region (by kernel_rfl) ?_
          refine RegI.pure 1 [4] [(4, .bool false)] (by kernel_rfl) ?_
          refine RegI.done (by kernel_rfl) ?_
          refine RunsI.ret (.bool false) (by kernel_rfl) (by kernel_rfl) ?_
          obtain rfl := Option.some.inj h
          exact ⟨rfl, h74.below⟩
        · skip
          refine RunsI.fix 48 false hc79 (by kernel_rfl) (by kernel_rfl) ?_
          refine RunsI.cond false 31 (by kernel_rfl) ?_
          refine RunsI.go 1 [.c 32] (by kernel_rfl) ?_
          refine RunsI.go 2 [.c 34, .c 35, .c 53] (by kernel_rfl) ?_
          refine RunsI.region (by kernel_rfl) ?_
          refine RegI.pure 1 [0, 6, 7, 8] [(0, .slice pA0 p0.length pc0), (6, .slice A13 t12.length c14), (7, .slice A22 t21.length c23), (8, .int .i64 0)] (by kernel_rfl) ?_
          refine RegI.done (by kernel_rfl) ?_
          refine RunsI.go 2 [.c 37, .lp 37, .blk 0, .c 53] (by kernel_rfl) ?_
          obtain ⟨x116, hx117, h⟩ := of_bind h
          refine RunsI.only [0, 6, 7, 8] [(0, .slice pA0 p0.length pc0), (6, .slice A13 t12.length c14), (7, .slice A22 t21.length c23), (8, .int .i64 0)] (by kernel_rfl) (by kernel_rfl) ?_
          refine charabanclaw29_HistoryCuts_4.l0_ok K M0 w0 pA0 pc0 p0 p1 t12 t21 A13 c14 A22 c23 _ x116 ?_ ?_ K 0 w75 hx117 (h74.pick [0, 1, 2, 3, 4, 5, 6, 7, 8] (by decide))
          · intro w119 hq153 h118
            (try rw [hq153] at h)
            dsimp only [Lp.elim] at h
            refine RunsI.go 2 [.c 55, .c 56, .c 74] (by kernel_rfl) ?_
            refine RunsI.region (by kernel_rfl) ?_
            refine RegI.pure 1 [0, 9] [(0, .slice pA0 p0.length pc0), (9, .int .i64 0)] (by kernel_rfl) ?_
            refine RegI.done (by kernel_rfl) ?_
            refine RunsI.go 2 [.c 58, .lp 58, .blk 2, .c 74] (by kernel_rfl) ?_
            obtain ⟨x147, hx148, h⟩ := of_bind h
            refine RunsI.only [0, 9] [(0, .slice pA0 p0.length pc0), (9, .int .i64 0)] (by kernel_rfl) (by kernel_rfl) ?_
            refine charabanclaw29_HistoryCuts_4.l1_ok K M0 w0 pA0 pc0 p0 p1 _ x147 ?_ ?_ K 0 w119 hx148 (h118.pick [0, 1, 2, 3, 4, 5, 6] (by decide))
            · intro w150 hq154 h149
              (try rw [hq154] at h)
              dsimp only [Lp.elim] at h
              refine RunsI.go 1 [.c 75, .c 76] (by kernel_rfl) ?_
              refine RunsI.region (by kernel_rfl) ?_
              refine RegI.pure 1 [4] [(4, .bool true)] (by kernel_rfl) ?_
              refine RegI.done (by kernel_rfl) ?_
              refine RunsI.ret (.bool true) (by kernel_rfl) (by kernel_rfl) ?_
              obtain rfl := Option.some.inj h
              exact ⟨rfl, h149.below⟩
            · intro w152 hq155 h151
              (try rw [hq155] at h)
              dsimp only [Lp.elim] at h
              obtain rfl := Option.some.inj h
              exact ⟨rfl, h151.below⟩
          · intro w121 hq156 h120
            (try rw [hq156] at h)
            dsimp only [Lp.elim] at h
            obtain rfl := Option.some.inj h
            exact ⟨rfl, h120.below⟩
      clear hJ77
      rcases of_cond h with ⟨hc26, h⟩ | ⟨hc26, h⟩
      · skip
        refine RegI.fix 25 true hc26 (by kernel_rfl) (by kernel_rfl) ?_
        refine RegI.pure 23 [0, 6, 7, 48] [(0, .slice pA0 p0.length pc0), (6, .slice A13 t12.length c14), (7, .slice A22 t21.length c23), (48, .bool true)] (by kernel_rfl) ?_
        refine RegI.only [0, 6, 7, 48] [(0, .slice pA0 p0.length pc0), (6, .slice A13 t12.length c14), (7, .slice A22 t21.length c23), (48, .bool true)] (by kernel_rfl) (by kernel_rfl) ?_
        exact hj78 true w17 h (h19.pick [0, 7, 8, 1, 2, 3, 4, 5, 6] (by decide))
      · skip
        refine RegI.fix 25 false hc26 (by kernel_rfl) (by kernel_rfl) ?_
        refine RegI.pure 1 [0, 1, 6, 7, 25, 26] [(0, .slice pA0 p0.length pc0), (1, .int .i64 p1), (6, .slice A13 t12.length c14), (7, .slice A22 t21.length c23), (25, .bool false), (26, .slice pA0 p0.length pc0)] (by kernel_rfl) ?_
        obtain ⟨t31, hg30, h⟩ := of_bind h
        refine RegI.op (by kernel_rfl) (OpE.call 27 (by kernel_rfl) 19 #[.slice pA0 p0.length pc0] (by kernel_rfl) ((history_Counts_19_ok K _ w17  pA0 pc0 p0 h19.old' (h19.get 0 rfl) hg30).mono ?_))
        rintro _ w27 ⟨rfl, hb28⟩
        refine ⟨_, rfl, ?_⟩
        have h29 := h19.call hb28
        refine RegI.pure 1 [0, 1, 6, 7, 25, 27, 28] [(0, .slice pA0 p0.length pc0), (1, .int .i64 p1), (6, .slice A13 t12.length c14), (7, .slice A22 t21.length c23), (25, .bool false), (27, .agg (List.flatMap (fun (x : Int) => ([.int .i64 x] : List Value)) t31).toArray), (28, .slice pA0 p0.length pc0)] (by kernel_rfl) ?_
        obtain ⟨t36, hg35, h⟩ := of_bind h
        refine RegI.op (by kernel_rfl) (OpE.call 29 (by kernel_rfl) 20 #[.slice pA0 p0.length pc0] (by kernel_rfl) ((charabancref29_Counts_20_ok K _ w27  pA0 pc0 p0 h29.old' (h29.get 0 rfl) hg35).mono ?_))
        rintro _ w32 ⟨rfl, hb33⟩
        refine ⟨_, rfl, ?_⟩
        have h34 := h29.call hb33
        obtain ⟨hc37, h⟩ := of_cond0 h
        refine RegI.op (by kernel_rfl) (OpE.run 30 (by kernel_rfl) (run_eqArr (T := 43) (E := 3) (len := 4) (kk := .i64) (q := .i64) (neg := true) (xs := t31) (ys := t36) (by kernel_rfl) (by kernel_rfl) (by kernel_rfl) (by kernel_rfl) (by kernel_rfl) (by kernel_rfl) (and_l hc37) (and_r hc37)) ?_)
        refine RegI.pure 2 [0, 1, 6, 7, 32] [(0, .slice pA0 p0.length pc0), (1, .int .i64 p1), (6, .slice A13 t12.length c14), (7, .slice A22 t21.length c23), (32, .bool (!(t31 == t36)))] (by kernel_rfl) ?_
        rcases of_cond h with ⟨hc38, h⟩ | ⟨hc38, h⟩
        · skip
          refine RegI.fix 32 true hc38 (by kernel_rfl) (by kernel_rfl) ?_
          refine RegI.pure 16 [0, 6, 7, 48] [(0, .slice pA0 p0.length pc0), (6, .slice A13 t12.length c14), (7, .slice A22 t21.length c23), (48, .bool true)] (by kernel_rfl) ?_
          refine RegI.only [0, 6, 7, 48] [(0, .slice pA0 p0.length pc0), (6, .slice A13 t12.length c14), (7, .slice A22 t21.length c23), (48, .bool true)] (by kernel_rfl) (by kernel_rfl) ?_
          exact hj78 true w32 h (h34.pick [0, 7, 8, 1, 2, 3, 4, 5, 6] (by decide))
        · skip
          refine RegI.fix 32 false hc38 (by kernel_rfl) (by kernel_rfl) ?_
          refine RegI.pure 1 [0, 1, 6, 7, 32, 33] [(0, .slice pA0 p0.length pc0), (1, .int .i64 p1), (6, .slice A13 t12.length c14), (7, .slice A22 t21.length c23), (32, .bool false), (33, .slice pA0 p0.length pc0)] (by kernel_rfl) ?_
          obtain ⟨t43, hg42, h⟩ := of_bind h
          refine RegI.op (by kernel_rfl) (OpE.call 34 (by kernel_rfl) 21 #[.slice pA0 p0.length pc0] (by kernel_rfl) ((history_Meets_21_ok K _ w32  pA0 pc0 p0 h34.old' (h34.get 0 rfl) hg42).mono ?_))
          rintro _ w39 ⟨rfl, hb40⟩
          refine ⟨_, rfl, ?_⟩
          have h41 := h34.call hb40
          refine RegI.pure 1 [0, 1, 6, 7, 32, 34, 35] [(0, .slice pA0 p0.length pc0), (1, .int .i64 p1), (6, .slice A13 t12.length c14), (7, .slice A22 t21.length c23), (32, .bool false), (34, .bool t43), (35, .slice pA0 p0.length pc0)] (by kernel_rfl) ?_
          obtain ⟨t48, hg47, h⟩ := of_bind h
          refine RegI.op (by kernel_rfl) (OpE.call 36 (by kernel_rfl) 22 #[.slice pA0 p0.length pc0] (by kernel_rfl) ((charabancref29_Meets_22_ok K _ w39  pA0 pc0 p0 h41.old' (h41.get 0 rfl) hg47).mono ?_))
          rintro _ w44 ⟨rfl, hb45⟩
          refine ⟨_, rfl, ?_⟩
          have h46 := h41.call hb45
          refine RegI.pure 3 [0, 1, 6, 7, 39] [(0, .slice pA0 p0.length pc0), (1, .int .i64 p1), (6, .slice A13 t12.length c14), (7, .slice A22 t21.length c23), (39, .bool (t43 != t48))] (by kernel_rfl) ?_
          rcases of_cond h with ⟨hc49, h⟩ | ⟨hc49, h⟩
          · skip
            refine RegI.fix 39 true hc49 (by kernel_rfl) (by kernel_rfl) ?_
            refine RegI.pure 9 [0, 6, 7, 48] [(0, .slice pA0 p0.length pc0), (6, .slice A13 t12.length c14), (7, .slice A22 t21.length c23), (48, .bool true)] (by kernel_rfl) ?_
            refine RegI.only [0, 6, 7, 48] [(0, .slice pA0 p0.length pc0), (6, .slice A13 t12.length c14), (7, .slice A22 t21.length c23), (48, .bool true)] (by kernel_rfl) (by kernel_rfl) ?_
            exact hj78 true w44 h (h46.pick [0, 7, 8, 1, 2, 3, 4, 5, 6] (by decide))
          · skip
            refine RegI.fix 39 false hc49 (by kernel_rfl) (by kernel_rfl) ?_
            refine RegI.pure 2 [0, 1, 6, 7, 39, 40, 41] [(0, .slice pA0 p0.length pc0), (1, .int .i64 p1), (6, .slice A13 t12.length c14), (7, .slice A22 t21.length c23), (39, .bool false), (40, .slice pA0 p0.length pc0), (41, .int .i64 p1)] (by kernel_rfl) ?_
            obtain ⟨t54, hg53, h⟩ := of_bind h
            refine RegI.op (by kernel_rfl) (OpE.call 42 (by kernel_rfl) 24 #[.slice pA0 p0.length pc0, .int .i64 p1] (by kernel_rfl) ((history_Of_24_ok K _ w44  pA0 pc0 p0 p1 h46.old' (h46.get 0 rfl) hg53).mono ?_))
            rintro _ w50 ⟨A55, c56, rfl, hr58⟩
            refine ⟨_, rfl, ?_⟩
            have hb51 := hr58.below
            have h52 := h46.join hr58
            refine RegI.pure 2 [0, 6, 7, 39, 42, 43, 44] [(0, .slice pA0 p0.length pc0), (6, .slice A13 t12.length c14), (7, .slice A22 t21.length c23), (39, .bool false), (42, .slice A55 t54.length c56), (43, .slice pA0 p0.length pc0), (44, .int .i64 p1)] (by kernel_rfl) ?_
            obtain ⟨t63, hg62, h⟩ := of_bind h
            refine RegI.op (by kernel_rfl) (OpE.call 45 (by kernel_rfl) 25 #[.slice pA0 p0.length pc0, .int .i64 p1] (by kernel_rfl) ((charabancref29_Of_25_ok K _ w50  pA0 pc0 p0 p1 h52.old' (h52.get 0 rfl) hg62).mono ?_))
            rintro _ w59 ⟨A64, c65, rfl, hr67⟩
            refine ⟨_, rfl, ?_⟩
            have hb60 := hr67.below
            have h61 := h52.join hr67
            obtain ⟨t72, hg71, h⟩ := of_bind h
            refine RegI.op (by kernel_rfl) (OpE.call 46 (by kernel_rfl) 23 #[.slice A55 t54.length c56, .slice A64 t63.length c65] (by kernel_rfl) ((charabancref28_Events_23_ok K (fun _ => False) w59  A55 c56 A64 c65 t54 t63 (fun _ hf => hf.elim) (h61.ownSl 9 rfl) (h61.ownSl 10 rfl) hg71).mono ?_))
            rintro _ w68 ⟨rfl, hb69⟩
            refine ⟨_, rfl, ?_⟩
            have h70 := h61.call hb69
            refine RegI.pure 2 [0, 6, 7, 48] [(0, .slice pA0 p0.length pc0), (6, .slice A13 t12.length c14), (7, .slice A22 t21.length c23), (48, .bool (!t72))] (by kernel_rfl) ?_
            refine RegI.only [0, 6, 7, 48] [(0, .slice pA0 p0.length pc0), (6, .slice A13 t12.length c14), (7, .slice A22 t21.length c23), (48, .bool (!t72))] (by kernel_rfl) (by kernel_rfl) ?_
            exact hj78 (!t72) w68 h (h70.pick [0, 7, 8, 1, 2, 3, 4, 5, 6] (by decide))
end
end Go.Proofs.YtmebkghfjamffaaDoor.His
