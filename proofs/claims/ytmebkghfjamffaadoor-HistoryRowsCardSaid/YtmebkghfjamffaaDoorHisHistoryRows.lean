/- The statement's function HistoryRows as a plain Lean function; written by wip/eng.py. -/
import Derived.Test.YtmebkghfjamffaaDoorHis4
set_option linter.unusedVariables false
set_option linter.unusedSimpArgs false
set_option maxHeartbeats 4000000
namespace Go.Proofs.YtmebkghfjamffaaDoor.His
open Go.RowKit Go.Eng
noncomputable def B5 : Code := (Tryd.f5.body).getD .skip
noncomputable def F5 : Fun Tryd.prog := ⟨5, Tryd.f5, B5, 152, Tryd.func5, by kernel_rfl, by kernel_rfl, [], none⟩

/-! ### charabanc/charabanclaw29.HistoryRows (function 5) -/
section
def charabanclaw29_HistoryRows_5.post (M0 : Nat → Prop) (w0 : World) (r : Bool) : Ending → World → Prop := fun e w => e = .returned (.bool r) ∧ Below w0.heap.size w0 w
def charabanclaw29_HistoryRows_5.l0 (K : Nat) (p0 : List (Int × Int × Int × Int × Int × Int)) (t89 : List (Int × Int × Int × Int)) (t90 : Int) (t91 : Int) : Nat → Int → Option (Lp Unit Unit)
  | 0, _ => none
  | k + 1, t92 => cond (inR t91 t89.length) (cond (decide (t92 < ((rdD t89 t91).2.2.2))) (cond (inR (IntKind.wrap .i64 (t90 + t92)) p0.length) (cond (((rdD p0 (IntKind.wrap .i64 (t90 + t92))).2.1) != ((rdD t89 t91).1)) (some (Lp.ret ())) (charabanclaw29_HistoryRows_5.l0 K p0 t89 t90 t91 k (IntKind.wrap .i64 (t92 + 1)))) none) (some (Lp.go ()))) none
set_option maxRecDepth 100000 in
theorem charabanclaw29_HistoryRows_5.l0_ok (K : Nat) (M0 : Nat → Prop) (w0 : World) (pA0 : Option Addr) (pc0 : Nat) (p0 : List (Int × Int × Int × Int × Int × Int)) (t89 : List (Int × Int × Int × Int)) (t90 : Int) (t91 : Int) (A87 : Option Addr) (c88 : Nat) (R : Ending → World → Prop) (x : Lp Unit Unit) (hk0 : ∀ (w1 : World), x = Lp.go () → Holds M0 w0 w1 [sl (Rp.pair (Rp.int .i64) (Rp.pair (Rp.int .i64) (Rp.pair (Rp.int .i64) (Rp.pair (Rp.int .u16) (Rp.pair (Rp.int .i64) (Rp.int .u8)))))) (.slice pA0 p0.length pc0) p0, own (Rp.pair (Rp.int .i64) (Rp.pair (Rp.int .i64) (Rp.pair (Rp.int .i64) (Rp.int .i64)))) 49 (.slice A87 t89.length c88) t89, gl 0 (tab_0.flatMap en_0), gl 1 (tab_1.flatMap en_1), gl 2 (tab_2.flatMap en_2), gl 3 (tab_3.flatMap en_3), gl 7 (tab_7.flatMap en_7), gl 8 (tab_8.flatMap en_8)] → RunsI F5 [.c 66, .blk 1, .c 67, .lp 29, .blk 0, .c 68] [(0, .slice pA0 p0.length pc0), (4, .slice A87 t89.length c88), (5, .int .i64 t90), (6, .int .i64 t91)] w1 R) (hk1 : ∀ (w1 : World), x = Lp.ret () → Holds M0 w0 w1 [gl 0 (tab_0.flatMap en_0), gl 1 (tab_1.flatMap en_1), gl 2 (tab_2.flatMap en_2), gl 3 (tab_3.flatMap en_3), gl 7 (tab_7.flatMap en_7), gl 8 (tab_8.flatMap en_8)] → R (.returned (.bool false)) w1) :
    ∀ (k : Nat) (t92 : Int) (w : World), charabanclaw29_HistoryRows_5.l0 K p0 t89 t90 t91 k t92 = some x → Holds M0 w0 w [sl (Rp.pair (Rp.int .i64) (Rp.pair (Rp.int .i64) (Rp.pair (Rp.int .i64) (Rp.pair (Rp.int .u16) (Rp.pair (Rp.int .i64) (Rp.int .u8)))))) (.slice pA0 p0.length pc0) p0, own (Rp.pair (Rp.int .i64) (Rp.pair (Rp.int .i64) (Rp.pair (Rp.int .i64) (Rp.int .i64)))) 49 (.slice A87 t89.length c88) t89, gl 0 (tab_0.flatMap en_0), gl 1 (tab_1.flatMap en_1), gl 2 (tab_2.flatMap en_2), gl 3 (tab_3.flatMap en_3), gl 7 (tab_7.flatMap en_7), gl 8 (tab_8.flatMap en_8)] → RunsI F5 [.c 50, .lp 50, .blk 2, .c 66, .blk 1, .c 67, .lp 29, .blk 0, .c 68] [(0, .slice pA0 p0.length pc0), (4, .slice A87 t89.length c88), (5, .int .i64 t90), (6, .int .i64 t91), (7, .int .i64 t92)] w R := by
  intro k
  induction k with
  | zero => intro t92 w h hH; exact absurd h (by simp [charabanclaw29_HistoryRows_5.l0])
  | succ k ih =>
    intro t92 w h hH
    rw [charabanclaw29_HistoryRows_5.l0.eq_2] at h
    refine RunsI.go 1 [.c 51, .c 56, .lp 50, .blk 2, .c 66, .blk 1, .c 67, .lp 29, .blk 0, .c 68] (by kernel_rfl) ?_
    refine RunsI.go 1 [.c 52, .c 53, .c 56, .lp 50, .blk 2, .c 66, .blk 1, .c 67, .lp 29, .blk 0, .c 68] (by kernel_rfl) ?_
    refine RunsI.region (by kernel_rfl) ?_
    refine RegI.pure 3 [0, 4, 5, 6, 7, 94, 95, 96] [(0, .slice pA0 p0.length pc0), (4, .slice A87 t89.length c88), (5, .int .i64 t90), (6, .int .i64 t91), (7, .int .i64 t92), (94, .int .i64 t92), (95, .slice A87 t89.length c88), (96, .int .i64 t91)] (by kernel_rfl) ?_
    obtain ⟨hc93, h⟩ := of_cond0 h
    refine RegI.op (by kernel_rfl) (OpE.idxOwnA 97 1 39 49 t91 hH (by kernel_rfl) rfl (by kernel_rfl) (by kernel_rfl) hc93 ?_)
    refine RegI.pure 1 [0, 4, 5, 6, 7, 94, 98] [(0, .slice pA0 p0.length pc0), (4, .slice A87 t89.length c88), (5, .int .i64 t90), (6, .int .i64 t91), (7, .int .i64 t92), (94, .int .i64 t92), (98, .pointer (some ⟨(blkD A87), (Int.toNat t91) * 4 + 3, none⟩))] (by kernel_rfl) ?_
    refine RegI.op (by kernel_rfl) (OpE.loadOwnA 99 1 3 49 t91 3 (o := (Int.toNat t91) * 4 + 3) hH (by kernel_rfl) rfl (by kernel_rfl) (by kernel_rfl) hc93 (fun cs94 hk95 => ?_))
    obtain ⟨_, _, rfl, rfl, ⟨_, _, rfl, rfl, ⟨_, _, rfl, rfl, rfl⟩⟩⟩ := hk95
    refine ⟨.int .i64 ((rdD t89 t91).2.2.2), by kernel_rfl, ?_⟩
    refine RegI.pure 1 [0, 4, 5, 6, 7, 100] [(0, .slice pA0 p0.length pc0), (4, .slice A87 t89.length c88), (5, .int .i64 t90), (6, .int .i64 t91), (7, .int .i64 t92), (100, .bool (decide (t92 < ((rdD t89 t91).2.2.2))))] (by kernel_rfl) ?_
    refine RegI.done (by kernel_rfl) ?_
    rcases of_cond h with ⟨hc96, h⟩ | ⟨hc96, h⟩
    · skip
      refine RunsI.fix 100 true hc96 (by kernel_rfl) (by kernel_rfl) ?_
      refine RunsI.cond true 54 (by kernel_rfl) ?_
      refine RunsI.go 1 [.c 56, .lp 50, .blk 2, .c 66, .blk 1, .c 67, .lp 29, .blk 0, .c 68] (by kernel_rfl) ?_
      refine RunsI.go 3 [.c 59, .c 60, .blk 3, .c 65, .lp 50, .blk 2, .c 66, .blk 1, .c 67, .lp 29, .blk 0, .c 68] (by kernel_rfl) ?_
      refine RunsI.any 13 (by kernel_rfl) (by kernel_rfl) (by kernel_rfl) (Kp ([] : List Nat) (World.drew w)) ?_
      have h98 := hH.drew
      generalize World.drew w = w97 at h98 ⊢
      have hS99 := Kp.refl ([] : List Nat) w97
      refine AnyE.pure 0 103 (.slice pA0 p0.length pc0) (by kernel_rfl) hS99 (fun _ => by kernel_rfl) ?_
      refine AnyE.pure 1 104 (.int .i64 t90) (by kernel_rfl) hS99 (fun _ => by kernel_rfl) ?_
      refine AnyE.pure 2 105 (.int .i64 t92) (by kernel_rfl) hS99 (fun _ => by kernel_rfl) ?_
      refine AnyE.pure 3 106 (.int .i64 (IntKind.wrap .i64 (t90 + t92))) (by kernel_rfl) hS99 (fun _ => by kernel_rfl) ?_
      obtain ⟨hc101, h⟩ := of_cond0 h
      refine AnyE.idxSl 4 107 0 26 (IntKind.wrap .i64 (t90 + t92)) h98 (by kernel_rfl) hS99 rfl (by kernel_rfl) (by kernel_rfl) hc101 ?_
      intro b102 o103 cs104 hk105 h106
      obtain ⟨_, _, rfl, rfl, ⟨_, _, rfl, rfl, ⟨_, _, rfl, rfl, ⟨_, _, rfl, rfl, ⟨_, _, rfl, rfl, rfl⟩⟩⟩⟩⟩ := hk105
      refine AnyE.pure 5 108 (.pointer (some ⟨b102, o103 + 1, none⟩)) (by kernel_rfl) hS99 (fun _ => by kernel_rfl) ?_
      refine AnyE.loadCel 6 109 8 3 b102 o103 1 (.int .i64 ((rdD p0 (IntKind.wrap .i64 (t90 + t92))).2.1)) [] h106 rfl (by kernel_rfl) hS99 rfl rfl (by kernel_rfl) (by kernel_rfl) ?_
      refine AnyE.pure 7 110 (.slice A87 t89.length c88) (by kernel_rfl) hS99 (fun _ => by kernel_rfl) ?_
      refine AnyE.pure 8 111 (.int .i64 t91) (by kernel_rfl) hS99 (fun _ => by kernel_rfl) ?_
      refine AnyE.idxOwnA 9 112 1 39 49 t91 h106 (by kernel_rfl) hS99 rfl (by kernel_rfl) (by kernel_rfl) hc93 ?_
      refine AnyE.pure 10 113 (.pointer (some ⟨(blkD A87), (Int.toNat t91) * 4, none⟩)) (by kernel_rfl) hS99 (fun _ => by kernel_rfl) ?_
      refine AnyE.loadOwnA 11 114 1 3 49 t91 0 (.int .i64 ((rdD t89 t91).1)) [] (o := (Int.toNat t91) * 4 + 0) h106 rfl (by kernel_rfl) hS99 rfl rfl (by kernel_rfl) rfl hc93 (fun _ _ hk => by obtain ⟨_, _, rfl, rfl, ⟨_, _, rfl, rfl, ⟨_, _, rfl, rfl, rfl⟩⟩⟩ := hk; kernel_rfl) ?_
      refine AnyE.pure 12 115 (.bool (((rdD p0 (IntKind.wrap .i64 (t90 + t92))).2.1) != ((rdD t89 t91).1))) (by kernel_rfl) hS99 (fun _ => by kernel_rfl) ?_
      refine AnyE.done (by kernel_rfl) (fun w107 hu108 => ?_)
      have h109 := h106.call hu108
      refine RunsI.only [0, 4, 5, 6, 7, 115] [(0, .slice pA0 p0.length pc0), (4, .slice A87 t89.length c88), (5, .int .i64 t90), (6, .int .i64 t91), (7, .int .i64 t92), (115, .bool (((rdD p0 (IntKind.wrap .i64 (t90 + t92))).2.1) != ((rdD t89 t91).1)))] (by kernel_rfl) (by kernel_rfl) ?_
      rcases of_cond h with ⟨hc110, h⟩ | ⟨hc110, h⟩
      · skip
        refine RunsI.fix 115 true hc110 (by kernel_rfl) (by kernel_rfl) ?_
        refine RunsI.cond true 61 (by kernel_rfl) ?_
        refine RunsI.go 1 [.c 62, .c 63, .blk 3, .c 65, .lp 50, .blk 2, .c 66, .blk 1, .c 67, .lp 29, .blk 0, .c 68] (by kernel_rfl) ?_
        refine RunsI.region (by kernel_rfl) ?_
        refine RegI.pure 1 [2] [(2, .bool false)] (by kernel_rfl) ?_
        refine RegI.done (by kernel_rfl) ?_
        refine RunsI.ret (.bool false) (by kernel_rfl) (by kernel_rfl) ?_
        exact hk1 w107 (Option.some.inj h).symm (h109.pick [2, 3, 4, 5, 6, 7] (by decide))
      · skip
        refine RunsI.fix 115 false hc110 (by kernel_rfl) (by kernel_rfl) ?_
        refine RunsI.cond false 64 (by kernel_rfl) ?_
        refine RunsI.go 1 [.blk 3, .c 65, .lp 50, .blk 2, .c 66, .blk 1, .c 67, .lp 29, .blk 0, .c 68] (by kernel_rfl) ?_
        refine RunsI.go 1 [.c 65, .lp 50, .blk 2, .c 66, .blk 1, .c 67, .lp 29, .blk 0, .c 68] (by kernel_rfl) ?_
        refine RunsI.region (by kernel_rfl) ?_
        refine RegI.pure 3 [0, 4, 5, 6, 7] [(0, .slice pA0 p0.length pc0), (4, .slice A87 t89.length c88), (5, .int .i64 t90), (6, .int .i64 t91), (7, .int .i64 (IntKind.wrap .i64 (t92 + 1)))] (by kernel_rfl) ?_
        refine RegI.done (by kernel_rfl) ?_
        refine RunsI.go 1 [.c 50, .lp 50, .blk 2, .c 66, .blk 1, .c 67, .lp 29, .blk 0, .c 68] (by kernel_rfl) ?_
        refine RunsI.only [0, 4, 5, 6, 7] [(0, .slice pA0 p0.length pc0), (4, .slice A87 t89.length c88), (5, .int .i64 t90), (6, .int .i64 t91), (7, .int .i64 (IntKind.wrap .i64 (t92 + 1)))] (by kernel_rfl) (by kernel_rfl) ?_
        exact ih (IntKind.wrap .i64 (t92 + 1)) w107 h (h109.pick [0, 1, 2, 3, 4, 5, 6, 7] (by decide))
    · skip
      refine RunsI.fix 100 false hc96 (by kernel_rfl) (by kernel_rfl) ?_
      refine RunsI.cond false 55 (by kernel_rfl) ?_
      refine RunsI.go 1 [.c 66, .blk 1, .c 67, .lp 29, .blk 0, .c 68] (by kernel_rfl) ?_
      refine RunsI.only [0, 4, 5, 6] [(0, .slice pA0 p0.length pc0), (4, .slice A87 t89.length c88), (5, .int .i64 t90), (6, .int .i64 t91)] (by kernel_rfl) (by kernel_rfl) ?_
      exact hk0 w (Option.some.inj h).symm (hH.pick [0, 1, 2, 3, 4, 5, 6, 7] (by decide))
def charabanclaw29_HistoryRows_5.l1 (K : Nat) (p0 : List (Int × Int × Int × Int × Int × Int)) (t19 : List (Int × Int × Int × Int)) : Nat → Int → Int → Option (Lp Unit Int)
  | 0, _, _ => none
  | k + 1, t20, t21 => cond (decide (t21 < (t19.length : Int))) (cond (inR t21 t19.length) (Let (fun (t80 : Bool) => cond t80 (some (Lp.ret ())) ((charabanclaw29_HistoryRows_5.l0 K p0 t19 t20 t21 K 0).bind (fun x111 => Lp.elim x111 (fun _ => some (Lp.ret ())) (fun _ => charabanclaw29_HistoryRows_5.l1 K p0 t19 k (IntKind.wrap .i64 (t20 + ((rdD t19 t21).2.2.2))) (IntKind.wrap .i64 (t21 + 1)))))) (fun j83 => cond (decide (((rdD t19 t21).2.2.2) < 1)) (j83 true) (cond (decide ((IntKind.wrap .i64 (t20 + ((rdD t19 t21).2.2.2))) > (p0.length : Int))) (j83 true) (cond (decide (t21 > 0)) (cond (inR (IntKind.wrap .i64 (t21 - 1)) t19.length) (cond (((rdD t19 t21).1) == ((rdD t19 (IntKind.wrap .i64 (t21 - 1))).1)) (j83 true) (cond (inR t20 p0.length) (cond (((rdD t19 t21).2.1) != ((rdD p0 t20).1)) (j83 true) (cond (inR (IntKind.wrap .i64 ((IntKind.wrap .i64 (t20 + ((rdD t19 t21).2.2.2))) - 1)) p0.length) (j83 (((rdD t19 t21).2.2.1) != ((rdD p0 (IntKind.wrap .i64 ((IntKind.wrap .i64 (t20 + ((rdD t19 t21).2.2.2))) - 1))).1))) none)) none)) none) (cond (inR t20 p0.length) (cond (((rdD t19 t21).2.1) != ((rdD p0 t20).1)) (j83 true) (cond (inR (IntKind.wrap .i64 ((IntKind.wrap .i64 (t20 + ((rdD t19 t21).2.2.2))) - 1)) p0.length) (j83 (((rdD t19 t21).2.2.1) != ((rdD p0 (IntKind.wrap .i64 ((IntKind.wrap .i64 (t20 + ((rdD t19 t21).2.2.2))) - 1))).1))) none)) none))))) none) (some (Lp.go t20))
set_option maxRecDepth 100000 in
theorem charabanclaw29_HistoryRows_5.l1_ok (K : Nat) (M0 : Nat → Prop) (w0 : World) (pA0 : Option Addr) (pc0 : Nat) (p0 : List (Int × Int × Int × Int × Int × Int)) (t19 : List (Int × Int × Int × Int)) (A17 : Option Addr) (c18 : Nat) (R : Ending → World → Prop) (x : Lp Unit Int) (hk0 : ∀ (t119 : Int) (w1 : World), x = Lp.go t119 → Holds M0 w0 w1 [sl (Rp.pair (Rp.int .i64) (Rp.pair (Rp.int .i64) (Rp.pair (Rp.int .i64) (Rp.pair (Rp.int .u16) (Rp.pair (Rp.int .i64) (Rp.int .u8)))))) (.slice pA0 p0.length pc0) p0, gl 0 (tab_0.flatMap en_0), gl 1 (tab_1.flatMap en_1), gl 2 (tab_2.flatMap en_2), gl 3 (tab_3.flatMap en_3), gl 7 (tab_7.flatMap en_7), gl 8 (tab_8.flatMap en_8)] → RunsI F5 [.c 68] [(0, .slice pA0 p0.length pc0), (5, .int .i64 t119)] w1 R) (hk1 : ∀ (w1 : World), x = Lp.ret () → Holds M0 w0 w1 [gl 0 (tab_0.flatMap en_0), gl 1 (tab_1.flatMap en_1), gl 2 (tab_2.flatMap en_2), gl 3 (tab_3.flatMap en_3), gl 7 (tab_7.flatMap en_7), gl 8 (tab_8.flatMap en_8)] → R (.returned (.bool false)) w1) :
    ∀ (k : Nat) (t20 : Int) (t21 : Int) (w : World), charabanclaw29_HistoryRows_5.l1 K p0 t19 k t20 t21 = some x → Holds M0 w0 w [sl (Rp.pair (Rp.int .i64) (Rp.pair (Rp.int .i64) (Rp.pair (Rp.int .i64) (Rp.pair (Rp.int .u16) (Rp.pair (Rp.int .i64) (Rp.int .u8)))))) (.slice pA0 p0.length pc0) p0, own (Rp.pair (Rp.int .i64) (Rp.pair (Rp.int .i64) (Rp.pair (Rp.int .i64) (Rp.int .i64)))) 49 (.slice A17 t19.length c18) t19, gl 0 (tab_0.flatMap en_0), gl 1 (tab_1.flatMap en_1), gl 2 (tab_2.flatMap en_2), gl 3 (tab_3.flatMap en_3), gl 7 (tab_7.flatMap en_7), gl 8 (tab_8.flatMap en_8)] → RunsI F5 [.c 29, .lp 29, .blk 0, .c 68] [(0, .slice pA0 p0.length pc0), (4, .slice A17 t19.length c18), (5, .int .i64 t20), (6, .int .i64 t21)] w R := by
  intro k
  induction k with
  | zero => intro t20 t21 w h hH; exact absurd h (by simp [charabanclaw29_HistoryRows_5.l1])
  | succ k ih =>
    intro t20 t21 w h hH
    rw [charabanclaw29_HistoryRows_5.l1.eq_2] at h
    refine RunsI.go 1 [.c 30, .c 35, .lp 29, .blk 0, .c 68] (by kernel_rfl) ?_
    refine RunsI.go 1 [.c 31, .c 32, .c 35, .lp 29, .blk 0, .c 68] (by kernel_rfl) ?_
    refine RunsI.region (by kernel_rfl) ?_
    refine RegI.pure 4 [0, 4, 5, 6, 22] [(0, .slice pA0 p0.length pc0), (4, .slice A17 t19.length c18), (5, .int .i64 t20), (6, .int .i64 t21), (22, .bool (decide (t21 < (t19.length : Int))))] (by kernel_rfl) ?_
    refine RegI.done (by kernel_rfl) ?_
    rcases of_cond h with ⟨hc22, h⟩ | ⟨hc22, h⟩
    · skip
      refine RunsI.fix 22 true hc22 (by kernel_rfl) (by kernel_rfl) ?_
      refine RunsI.cond true 33 (by kernel_rfl) ?_
      refine RunsI.go 1 [.c 35, .lp 29, .blk 0, .c 68] (by kernel_rfl) ?_
      refine RunsI.go 4 [.c 39, .c 40, .c 45, .blk 1, .c 67, .lp 29, .blk 0, .c 68] (by kernel_rfl) ?_
      refine RunsI.any 69 (by kernel_rfl) (by kernel_rfl) (by kernel_rfl) (Kp ([] : List Nat) (World.drew w)) ?_
      have h24 := hH.drew
      generalize World.drew w = w23 at h24 ⊢
      have hS25 := Kp.refl ([] : List Nat) w23
      refine AnyE.pure 0 25 (.slice A17 t19.length c18) (by kernel_rfl) hS25 (fun _ => by kernel_rfl) ?_
      refine AnyE.pure 1 26 (.int .i64 t21) (by kernel_rfl) hS25 (fun _ => by kernel_rfl) ?_
      obtain ⟨hc27, h⟩ := of_cond0 h
      refine AnyE.idxOwnA 2 27 1 39 49 t21 h24 (by kernel_rfl) hS25 rfl (by kernel_rfl) (by kernel_rfl) hc27 ?_
      refine AnyE.pure 3 28 (.pointer (some ⟨(blkD A17), (Int.toNat t21) * 4 + 3, none⟩)) (by kernel_rfl) hS25 (fun _ => by kernel_rfl) ?_
      refine AnyE.loadOwnA 4 29 1 3 49 t21 3 (.int .i64 ((rdD t19 t21).2.2.2)) [] (o := (Int.toNat t21) * 4 + 3) h24 rfl (by kernel_rfl) hS25 rfl rfl (by kernel_rfl) rfl hc27 (fun _ _ hk => by obtain ⟨_, _, rfl, rfl, ⟨_, _, rfl, rfl, ⟨_, _, rfl, rfl, rfl⟩⟩⟩ := hk; kernel_rfl) ?_
      refine AnyE.pure 5 30 (.bool (decide (((rdD t19 t21).2.2.2) < 1))) (by kernel_rfl) hS25 (fun _ => by kernel_rfl) ?_
      refine AnyE.pure 6 31 (.bool (decide (((rdD t19 t21).2.2.2) < 1))) (by kernel_rfl) hS25 (fun _ => by kernel_rfl) ?_
      obtain ⟨j83, hJ84, h⟩ := of_let h
      have hj85 : ∀ (t80 : Bool) (w82 : World), j83 t80 = some x → Holds M0 w0 w82 [sl (Rp.pair (Rp.int .i64) (Rp.pair (Rp.int .i64) (Rp.pair (Rp.int .i64) (Rp.pair (Rp.int .u16) (Rp.pair (Rp.int .i64) (Rp.int .u8)))))) (.slice pA0 p0.length pc0) p0, own (Rp.pair (Rp.int .i64) (Rp.pair (Rp.int .i64) (Rp.pair (Rp.int .i64) (Rp.int .i64)))) 49 (.slice A17 t19.length c18) t19, gl 0 (tab_0.flatMap en_0), gl 1 (tab_1.flatMap en_1), gl 2 (tab_2.flatMap en_2), gl 3 (tab_3.flatMap en_3), gl 7 (tab_7.flatMap en_7), gl 8 (tab_8.flatMap en_8)] → RunsI F5 [.c 40, .c 45, .blk 1, .c 67, .lp 29, .blk 0, .c 68] [(0, .slice pA0 p0.length pc0), (4, .slice A17 t19.length c18), (5, .int .i64 t20), (6, .int .i64 t21), (93, .bool t80)] w82 R := by
        intro t80 w82 h h81
        rw [hJ84] at h
        clear hJ84
        dsimp only at h
        rcases of_cond h with ⟨hc86, h⟩ | ⟨hc86, h⟩
        · skip
          refine RunsI.fix 93 true hc86 (by kernel_rfl) (by kernel_rfl) ?_
          refine RunsI.cond true 41 (by kernel_rfl) ?_
          refine RunsI.go 1 [.c 42, .c 43, .c 45, .blk 1, .c 67, .lp 29, .blk 0, .c 68] (by kernel_rfl) ?_
          refine RunsI.region (by kernel_rfl) ?_
          refine RegI.pure 1 [2] [(2, .bool false)] (by kernel_rfl) ?_
          refine RegI.done (by kernel_rfl) ?_
          refine RunsI.ret (.bool false) (by kernel_rfl) (by kernel_rfl) ?_
          exact hk1 w82 (Option.some.inj h).symm (h81.pick [2, 3, 4, 5, 6, 7] (by decide))
        · skip
          refine RunsI.fix 93 false hc86 (by kernel_rfl) (by kernel_rfl) ?_
          refine RunsI.cond false 44 (by kernel_rfl) ?_
          refine RunsI.go 1 [.c 45, .blk 1, .c 67, .lp 29, .blk 0, .c 68] (by kernel_rfl) ?_
          refine RunsI.go 2 [.c 47, .c 48, .c 66, .blk 1, .c 67, .lp 29, .blk 0, .c 68] (by kernel_rfl) ?_
          refine RunsI.region (by kernel_rfl) ?_
          refine RegI.pure 1 [0, 4, 5, 6, 7] [(0, .slice pA0 p0.length pc0), (4, .slice A17 t19.length c18), (5, .int .i64 t20), (6, .int .i64 t21), (7, .int .i64 0)] (by kernel_rfl) ?_
          refine RegI.done (by kernel_rfl) ?_
          refine RunsI.go 2 [.c 50, .lp 50, .blk 2, .c 66, .blk 1, .c 67, .lp 29, .blk 0, .c 68] (by kernel_rfl) ?_
          obtain ⟨x111, hx112, h⟩ := of_bind h
          refine RunsI.only [0, 4, 5, 6, 7] [(0, .slice pA0 p0.length pc0), (4, .slice A17 t19.length c18), (5, .int .i64 t20), (6, .int .i64 t21), (7, .int .i64 0)] (by kernel_rfl) (by kernel_rfl) ?_
          refine charabanclaw29_HistoryRows_5.l0_ok K M0 w0 pA0 pc0 p0 t19 t20 t21 A17 c18 _ x111 ?_ ?_ K 0 w82 hx112 (h81.pick [0, 1, 2, 3, 4, 5, 6, 7] (by decide))
          · intro w114 hq180 h113
            (try rw [hq180] at h)
            dsimp only [Lp.elim] at h
            refine RunsI.region (by kernel_rfl) ?_
            refine RegI.pure 3 [0, 4, 6, 116, 117, 118] [(0, .slice pA0 p0.length pc0), (4, .slice A17 t19.length c18), (6, .int .i64 t21), (116, .int .i64 t20), (117, .slice A17 t19.length c18), (118, .int .i64 t21)] (by kernel_rfl) ?_
            refine RegI.op (by kernel_rfl) (OpE.idxOwnA 119 1 39 49 t21 h113 (by kernel_rfl) rfl (by kernel_rfl) (by kernel_rfl) hc27 ?_)
            refine RegI.pure 1 [0, 4, 6, 116, 120] [(0, .slice pA0 p0.length pc0), (4, .slice A17 t19.length c18), (6, .int .i64 t21), (116, .int .i64 t20), (120, .pointer (some ⟨(blkD A17), (Int.toNat t21) * 4 + 3, none⟩))] (by kernel_rfl) ?_
            refine RegI.op (by kernel_rfl) (OpE.loadOwnA 121 1 3 49 t21 3 (o := (Int.toNat t21) * 4 + 3) h113 (by kernel_rfl) rfl (by kernel_rfl) (by kernel_rfl) hc27 (fun cs117 hk118 => ?_))
            obtain ⟨_, _, rfl, rfl, ⟨_, _, rfl, rfl, ⟨_, _, rfl, rfl, rfl⟩⟩⟩ := hk118
            refine ⟨.int .i64 ((rdD t19 t21).2.2.2), by kernel_rfl, ?_⟩
            refine RegI.pure 2 [0, 4, 5, 6] [(0, .slice pA0 p0.length pc0), (4, .slice A17 t19.length c18), (5, .int .i64 (IntKind.wrap .i64 (t20 + ((rdD t19 t21).2.2.2)))), (6, .int .i64 t21)] (by kernel_rfl) ?_
            refine RegI.done (by kernel_rfl) ?_
            refine RunsI.go 1 [.c 67, .lp 29, .blk 0, .c 68] (by kernel_rfl) ?_
            refine RunsI.region (by kernel_rfl) ?_
            refine RegI.pure 3 [0, 4, 5, 6] [(0, .slice pA0 p0.length pc0), (4, .slice A17 t19.length c18), (5, .int .i64 (IntKind.wrap .i64 (t20 + ((rdD t19 t21).2.2.2)))), (6, .int .i64 (IntKind.wrap .i64 (t21 + 1)))] (by kernel_rfl) ?_
            refine RegI.done (by kernel_rfl) ?_
            refine RunsI.go 1 [.c 29, .lp 29, .blk 0, .c 68] (by kernel_rfl) ?_
            refine RunsI.only [0, 4, 5, 6] [(0, .slice pA0 p0.length pc0), (4, .slice A17 t19.length c18), (5, .int .i64 (IntKind.wrap .i64 (t20 + ((rdD t19 t21).2.2.2)))), (6, .int .i64 (IntKind.wrap .i64 (t21 + 1)))] (by kernel_rfl) (by kernel_rfl) ?_
            exact ih (IntKind.wrap .i64 (t20 + ((rdD t19 t21).2.2.2))) (IntKind.wrap .i64 (t21 + 1)) w114 h (h113.pick [0, 1, 2, 3, 4, 5, 6, 7] (by decide))
          · intro w116 hq181 h115
            (try rw [hq181] at h)
            dsimp only [Lp.elim] at h
            exact hk1 w116 (Option.some.inj h).symm (h115.pick [0, 1, 2, 3, 4, 5] (by decide))
      clear hJ84
      rcases of_cond h with ⟨hc28, h⟩ | ⟨hc28, h⟩
      · skip
        refine AnyE.fix 31 true hc28 (by kernel_rfl) (by kernel_rfl) ?_
        refine AnyE.no 7 32 (by kernel_rfl) hS25 ?_
        refine AnyE.no 8 33 (by kernel_rfl) hS25 ?_
        refine AnyE.no 9 34 (by kernel_rfl) hS25 ?_
        refine AnyE.no 10 35 (by kernel_rfl) hS25 ?_
        refine AnyE.no 11 36 (by kernel_rfl) hS25 ?_
        refine AnyE.no 12 37 (by kernel_rfl) hS25 ?_
        refine AnyE.no 13 38 (by kernel_rfl) hS25 ?_
        refine AnyE.no 14 39 (by kernel_rfl) hS25 ?_
        refine AnyE.no 15 40 (by kernel_rfl) hS25 ?_
        refine AnyE.no 16 41 (by kernel_rfl) hS25 ?_
        refine AnyE.pure 17 42 (.bool true) (by kernel_rfl) hS25 (fun _ => by kernel_rfl) ?_
        refine AnyE.pure 18 43 (.bool true) (by kernel_rfl) hS25 (fun _ => by kernel_rfl) ?_
        refine AnyE.no 19 44 (by kernel_rfl) hS25 ?_
        refine AnyE.no 20 45 (by kernel_rfl) hS25 ?_
        refine AnyE.no 21 46 (by kernel_rfl) hS25 ?_
        refine AnyE.no 22 47 (by kernel_rfl) hS25 ?_
        refine AnyE.no 23 48 (by kernel_rfl) hS25 ?_
        refine AnyE.no 24 49 (by kernel_rfl) hS25 ?_
        refine AnyE.no 25 50 (by kernel_rfl) hS25 ?_
        refine AnyE.no 26 51 (by kernel_rfl) hS25 ?_
        refine AnyE.no 27 52 (by kernel_rfl) hS25 ?_
        refine AnyE.no 28 53 (by kernel_rfl) hS25 ?_
        refine AnyE.no 29 54 (by kernel_rfl) hS25 ?_
        refine AnyE.no 30 55 (by kernel_rfl) hS25 ?_
        refine AnyE.no 31 56 (by kernel_rfl) hS25 ?_
        refine AnyE.no 32 57 (by kernel_rfl) hS25 ?_
        refine AnyE.no 33 58 (by kernel_rfl) hS25 ?_
        refine AnyE.no 34 59 (by kernel_rfl) hS25 ?_
        refine AnyE.pure 35 60 (.bool true) (by kernel_rfl) hS25 (fun _ => by kernel_rfl) ?_
        refine AnyE.pure 36 61 (.bool true) (by kernel_rfl) hS25 (fun _ => by kernel_rfl) ?_
        refine AnyE.no 37 62 (by kernel_rfl) hS25 ?_
        refine AnyE.no 38 63 (by kernel_rfl) hS25 ?_
        refine AnyE.no 39 64 (by kernel_rfl) hS25 ?_
        refine AnyE.no 40 65 (by kernel_rfl) hS25 ?_
        refine AnyE.no 41 66 (by kernel_rfl) hS25 ?_
        refine AnyE.no 42 67 (by kernel_rfl) hS25 ?_
        refine AnyE.no 43 68 (by kernel_rfl) hS25 ?_
        refine AnyE.no 44 69 (by kernel_rfl) hS25 ?_
        refine AnyE.no 45 70 (by kernel_rfl) hS25 ?_
        refine AnyE.no 46 71 (by kernel_rfl) hS25 ?_
        refine AnyE.no 47 72 (by kernel_rfl) hS25 ?_
        refine AnyE.pure 48 73 (.bool true) (by kernel_rfl) hS25 (fun _ => by kernel_rfl) ?_
        refine AnyE.pure 49 74 (.bool true) (by kernel_rfl) hS25 (fun _ => by kernel_rfl) ?_
        refine AnyE.no 50 75 (by kernel_rfl) hS25 ?_
        refine AnyE.no 51 76 (by kernel_rfl) hS25 ?_
        refine AnyE.no 52 77 (by kernel_rfl) hS25 ?_
        refine AnyE.no 53 78 (by kernel_rfl) hS25 ?_
        refine AnyE.no 54 79 (by kernel_rfl) hS25 ?_
        refine AnyE.no 55 80 (by kernel_rfl) hS25 ?_
        refine AnyE.no 56 81 (by kernel_rfl) hS25 ?_
        refine AnyE.no 57 82 (by kernel_rfl) hS25 ?_
        refine AnyE.no 58 83 (by kernel_rfl) hS25 ?_
        refine AnyE.no 59 84 (by kernel_rfl) hS25 ?_
        refine AnyE.no 60 85 (by kernel_rfl) hS25 ?_
        refine AnyE.no 61 86 (by kernel_rfl) hS25 ?_
        refine AnyE.no 62 87 (by kernel_rfl) hS25 ?_
        refine AnyE.no 63 88 (by kernel_rfl) hS25 ?_
        refine AnyE.no 64 89 (by kernel_rfl) hS25 ?_
        refine AnyE.no 65 90 (by kernel_rfl) hS25 ?_
        refine AnyE.no 66 91 (by kernel_rfl) hS25 ?_
        refine AnyE.no 67 92 (by kernel_rfl) hS25 ?_
        refine AnyE.pure 68 93 (.bool true) (by kernel_rfl) hS25 (fun _ => by kernel_rfl) ?_
        refine AnyE.done (by kernel_rfl) (fun w29 hu30 => ?_)
        have h31 := h24.call hu30
        refine RunsI.only [0, 4, 5, 6, 93] [(0, .slice pA0 p0.length pc0), (4, .slice A17 t19.length c18), (5, .int .i64 t20), (6, .int .i64 t21), (93, .bool true)] (by kernel_rfl) (by kernel_rfl) ?_
        refine RunsI.only [0, 4, 5, 6, 93] [(0, .slice pA0 p0.length pc0), (4, .slice A17 t19.length c18), (5, .int .i64 t20), (6, .int .i64 t21), (93, .bool true)] (by kernel_rfl) (by kernel_rfl) ?_
        exact hj85 true w29 h (h31.pick [0, 1, 2, 3, 4, 5, 6, 7] (by decide))
      · skip
        refine AnyE.fix 31 false hc28 (by kernel_rfl) (by kernel_rfl) ?_
        refine AnyE.pure 7 32 (.int .i64 t20) (by kernel_rfl) hS25 (fun _ => by kernel_rfl) ?_
        refine AnyE.pure 8 33 (.slice A17 t19.length c18) (by kernel_rfl) hS25 (fun _ => by kernel_rfl) ?_
        refine AnyE.pure 9 34 (.int .i64 t21) (by kernel_rfl) hS25 (fun _ => by kernel_rfl) ?_
        refine AnyE.idxOwnA 10 35 1 39 49 t21 h24 (by kernel_rfl) hS25 rfl (by kernel_rfl) (by kernel_rfl) hc27 ?_
        refine AnyE.pure 11 36 (.pointer (some ⟨(blkD A17), (Int.toNat t21) * 4 + 3, none⟩)) (by kernel_rfl) hS25 (fun _ => by kernel_rfl) ?_
        refine AnyE.loadOwnA 12 37 1 3 49 t21 3 (.int .i64 ((rdD t19 t21).2.2.2)) [] (o := (Int.toNat t21) * 4 + 3) h24 rfl (by kernel_rfl) hS25 rfl rfl (by kernel_rfl) rfl hc27 (fun _ _ hk => by obtain ⟨_, _, rfl, rfl, ⟨_, _, rfl, rfl, ⟨_, _, rfl, rfl, rfl⟩⟩⟩ := hk; kernel_rfl) ?_
        refine AnyE.pure 13 38 (.int .i64 (IntKind.wrap .i64 (t20 + ((rdD t19 t21).2.2.2)))) (by kernel_rfl) hS25 (fun _ => by kernel_rfl) ?_
        refine AnyE.pure 14 39 (.slice pA0 p0.length pc0) (by kernel_rfl) hS25 (fun _ => by kernel_rfl) ?_
        refine AnyE.pure 15 40 (.int .i64 (p0.length : Int)) (by kernel_rfl) hS25 (fun _ => by kernel_rfl) ?_
        refine AnyE.pure 16 41 (.bool (decide ((IntKind.wrap .i64 (t20 + ((rdD t19 t21).2.2.2))) > (p0.length : Int)))) (by kernel_rfl) hS25 (fun _ => by kernel_rfl) ?_
        refine AnyE.pure 17 42 (.bool (decide ((IntKind.wrap .i64 (t20 + ((rdD t19 t21).2.2.2))) > (p0.length : Int)))) (by kernel_rfl) hS25 (fun _ => by kernel_rfl) ?_
        refine AnyE.pure 18 43 (.bool (decide ((IntKind.wrap .i64 (t20 + ((rdD t19 t21).2.2.2))) > (p0.length : Int)))) (by kernel_rfl) hS25 (fun _ => by kernel_rfl) ?_
        rcases of_cond h with ⟨hc32, h⟩ | ⟨hc32, h⟩
        · skip
          refine AnyE.fix 43 true hc32 (by kernel_rfl) (by kernel_rfl) ?_
          refine AnyE.no 19 44 (by kernel_rfl) hS25 ?_
          refine AnyE.no 20 45 (by kernel_rfl) hS25 ?_
          refine AnyE.no 21 46 (by kernel_rfl) hS25 ?_
          refine AnyE.no 22 47 (by kernel_rfl) hS25 ?_
          refine AnyE.no 23 48 (by kernel_rfl) hS25 ?_
          refine AnyE.no 24 49 (by kernel_rfl) hS25 ?_
          refine AnyE.no 25 50 (by kernel_rfl) hS25 ?_
          refine AnyE.no 26 51 (by kernel_rfl) hS25 ?_
          refine AnyE.no 27 52 (by kernel_rfl) hS25 ?_
          refine AnyE.no 28 53 (by kernel_rfl) hS25 ?_
          refine AnyE.no 29 54 (by kernel_rfl) hS25 ?_
          refine AnyE.no 30 55 (by kernel_rfl) hS25 ?_
          refine AnyE.no 31 56 (by kernel_rfl) hS25 ?_
          refine AnyE.no 32 57 (by kernel_rfl) hS25 ?_
          refine AnyE.no 33 58 (by kernel_rfl) hS25 ?_
          refine AnyE.no 34 59 (by kernel_rfl) hS25 ?_
          refine AnyE.pure 35 60 (.bool true) (by kernel_rfl) hS25 (fun _ => by kernel_rfl) ?_
          refine AnyE.pure 36 61 (.bool true) (by kernel_rfl) hS25 (fun _ => by kernel_rfl) ?_
          refine AnyE.no 37 62 (by kernel_rfl) hS25 ?_
          refine AnyE.no 38 63 (by kernel_rfl) hS25 ?_
          refine AnyE.no 39 64 (by kernel_rfl) hS25 ?_
          refine AnyE.no 40 65 (by kernel_rfl) hS25 ?_
          refine AnyE.no 41 66 (by kernel_rfl) hS25 ?_
          refine AnyE.no 42 67 (by kernel_rfl) hS25 ?_
          refine AnyE.no 43 68 (by kernel_rfl) hS25 ?_
          refine AnyE.no 44 69 (by kernel_rfl) hS25 ?_
          refine AnyE.no 45 70 (by kernel_rfl) hS25 ?_
          refine AnyE.no 46 71 (by kernel_rfl) hS25 ?_
          refine AnyE.no 47 72 (by kernel_rfl) hS25 ?_
          refine AnyE.pure 48 73 (.bool true) (by kernel_rfl) hS25 (fun _ => by kernel_rfl) ?_
          refine AnyE.pure 49 74 (.bool true) (by kernel_rfl) hS25 (fun _ => by kernel_rfl) ?_
          refine AnyE.no 50 75 (by kernel_rfl) hS25 ?_
          refine AnyE.no 51 76 (by kernel_rfl) hS25 ?_
          refine AnyE.no 52 77 (by kernel_rfl) hS25 ?_
          refine AnyE.no 53 78 (by kernel_rfl) hS25 ?_
          refine AnyE.no 54 79 (by kernel_rfl) hS25 ?_
          refine AnyE.no 55 80 (by kernel_rfl) hS25 ?_
          refine AnyE.no 56 81 (by kernel_rfl) hS25 ?_
          refine AnyE.no 57 82 (by kernel_rfl) hS25 ?_
          refine AnyE.no 58 83 (by kernel_rfl) hS25 ?_
          refine AnyE.no 59 84 (by kernel_rfl) hS25 ?_
          refine AnyE.no 60 85 (by kernel_rfl) hS25 ?_
          refine AnyE.no 61 86 (by kernel_rfl) hS25 ?_
          refine AnyE.no 62 87 (by kernel_rfl) hS25 ?_
          refine AnyE.no 63 88 (by kernel_rfl) hS25 ?_
          refine AnyE.no 64 89 (by kernel_rfl) hS25 ?_
          refine AnyE.no 65 90 (by kernel_rfl) hS25 ?_
          refine AnyE.no 66 91 (by kernel_rfl) hS25 ?_
          refine AnyE.no 67 92 (by kernel_rfl) hS25 ?_
          refine AnyE.pure 68 93 (.bool true) (by kernel_rfl) hS25 (fun _ => by kernel_rfl) ?_
          refine AnyE.done (by kernel_rfl) (fun w33 hu34 => ?_)
          have h35 := h24.call hu34
          refine RunsI.only [0, 4, 5, 6, 93] [(0, .slice pA0 p0.length pc0), (4, .slice A17 t19.length c18), (5, .int .i64 t20), (6, .int .i64 t21), (93, .bool true)] (by kernel_rfl) (by kernel_rfl) ?_
          refine RunsI.only [0, 4, 5, 6, 93] [(0, .slice pA0 p0.length pc0), (4, .slice A17 t19.length c18), (5, .int .i64 t20), (6, .int .i64 t21), (93, .bool true)] (by kernel_rfl) (by kernel_rfl) ?_
          exact hj85 true w33 h (h35.pick [0, 1, 2, 3, 4, 5, 6, 7] (by decide))
        · skip
          refine AnyE.fix 43 false hc32 (by kernel_rfl) (by kernel_rfl) ?_
          refine AnyE.pure 19 44 (.int .i64 t21) (by kernel_rfl) hS25 (fun _ => by kernel_rfl) ?_
          refine AnyE.pure 20 45 (.bool (decide (t21 > 0))) (by kernel_rfl) hS25 (fun _ => by kernel_rfl) ?_
          refine AnyE.pure 21 46 (.bool (decide (t21 > 0))) (by kernel_rfl) hS25 (fun _ => by kernel_rfl) ?_
          rcases of_cond h with ⟨hc36, h⟩ | ⟨hc36, h⟩
          · skip
            refine AnyE.fix 46 true hc36 (by kernel_rfl) (by kernel_rfl) ?_
            refine AnyE.pure 22 47 (.slice A17 t19.length c18) (by kernel_rfl) hS25 (fun _ => by kernel_rfl) ?_
            refine AnyE.pure 23 48 (.int .i64 t21) (by kernel_rfl) hS25 (fun _ => by kernel_rfl) ?_
            refine AnyE.idxOwnA 24 49 1 39 49 t21 h24 (by kernel_rfl) hS25 rfl (by kernel_rfl) (by kernel_rfl) hc27 ?_
            refine AnyE.pure 25 50 (.pointer (some ⟨(blkD A17), (Int.toNat t21) * 4, none⟩)) (by kernel_rfl) hS25 (fun _ => by kernel_rfl) ?_
            refine AnyE.loadOwnA 26 51 1 3 49 t21 0 (.int .i64 ((rdD t19 t21).1)) [] (o := (Int.toNat t21) * 4 + 0) h24 rfl (by kernel_rfl) hS25 rfl rfl (by kernel_rfl) rfl hc27 (fun _ _ hk => by obtain ⟨_, _, rfl, rfl, ⟨_, _, rfl, rfl, ⟨_, _, rfl, rfl, rfl⟩⟩⟩ := hk; kernel_rfl) ?_
            refine AnyE.pure 27 52 (.slice A17 t19.length c18) (by kernel_rfl) hS25 (fun _ => by kernel_rfl) ?_
            refine AnyE.pure 28 53 (.int .i64 t21) (by kernel_rfl) hS25 (fun _ => by kernel_rfl) ?_
            refine AnyE.pure 29 54 (.int .i64 (IntKind.wrap .i64 (t21 - 1))) (by kernel_rfl) hS25 (fun _ => by kernel_rfl) ?_
            obtain ⟨hc37, h⟩ := of_cond0 h
            refine AnyE.idxOwnA 30 55 1 39 49 (IntKind.wrap .i64 (t21 - 1)) h24 (by kernel_rfl) hS25 rfl (by kernel_rfl) (by kernel_rfl) hc37 ?_
            refine AnyE.pure 31 56 (.pointer (some ⟨(blkD A17), (Int.toNat (IntKind.wrap .i64 (t21 - 1))) * 4, none⟩)) (by kernel_rfl) hS25 (fun _ => by kernel_rfl) ?_
            refine AnyE.loadOwnA 32 57 1 3 49 (IntKind.wrap .i64 (t21 - 1)) 0 (.int .i64 ((rdD t19 (IntKind.wrap .i64 (t21 - 1))).1)) [] (o := (Int.toNat (IntKind.wrap .i64 (t21 - 1))) * 4 + 0) h24 rfl (by kernel_rfl) hS25 rfl rfl (by kernel_rfl) rfl hc37 (fun _ _ hk => by obtain ⟨_, _, rfl, rfl, ⟨_, _, rfl, rfl, ⟨_, _, rfl, rfl, rfl⟩⟩⟩ := hk; kernel_rfl) ?_
            refine AnyE.pure 33 58 (.bool (((rdD t19 t21).1) == ((rdD t19 (IntKind.wrap .i64 (t21 - 1))).1))) (by kernel_rfl) hS25 (fun _ => by kernel_rfl) ?_
            refine AnyE.pure 34 59 (.bool (((rdD t19 t21).1) == ((rdD t19 (IntKind.wrap .i64 (t21 - 1))).1))) (by kernel_rfl) hS25 (fun _ => by kernel_rfl) ?_
            refine AnyE.pure 35 60 (.bool (((rdD t19 t21).1) == ((rdD t19 (IntKind.wrap .i64 (t21 - 1))).1))) (by kernel_rfl) hS25 (fun _ => by kernel_rfl) ?_
            refine AnyE.pure 36 61 (.bool (((rdD t19 t21).1) == ((rdD t19 (IntKind.wrap .i64 (t21 - 1))).1))) (by kernel_rfl) hS25 (fun _ => by kernel_rfl) ?_
            rcases of_cond h with ⟨hc38, h⟩ | ⟨hc38, h⟩
            · skip
              refine AnyE.fix 61 true hc38 (by kernel_rfl) (by kernel_rfl) ?_
              refine AnyE.no 37 62 (by kernel_rfl) hS25 ?_
              refine AnyE.no 38 63 (by kernel_rfl) hS25 ?_
              refine AnyE.no 39 64 (by kernel_rfl) hS25 ?_
              refine AnyE.no 40 65 (by kernel_rfl) hS25 ?_
              refine AnyE.no 41 66 (by kernel_rfl) hS25 ?_
              refine AnyE.no 42 67 (by kernel_rfl) hS25 ?_
              refine AnyE.no 43 68 (by kernel_rfl) hS25 ?_
              refine AnyE.no 44 69 (by kernel_rfl) hS25 ?_
              refine AnyE.no 45 70 (by kernel_rfl) hS25 ?_
              refine AnyE.no 46 71 (by kernel_rfl) hS25 ?_
              refine AnyE.no 47 72 (by kernel_rfl) hS25 ?_
              refine AnyE.pure 48 73 (.bool true) (by kernel_rfl) hS25 (fun _ => by kernel_rfl) ?_
              refine AnyE.pure 49 74 (.bool true) (by kernel_rfl) hS25 (fun _ => by kernel_rfl) ?_
              refine AnyE.no 50 75 (by kernel_rfl) hS25 ?_
              refine AnyE.no 51 76 (by kernel_rfl) hS25 ?_
              refine AnyE.no 52 77 (by kernel_rfl) hS25 ?_
              refine AnyE.no 53 78 (by kernel_rfl) hS25 ?_
              refine AnyE.no 54 79 (by kernel_rfl) hS25 ?_
              refine AnyE.no 55 80 (by kernel_rfl) hS25 ?_
              refine AnyE.no 56 81 (by kernel_rfl) hS25 ?_
              refine AnyE.no 57 82 (by kernel_rfl) hS25 ?_
              refine AnyE.no 58 83 (by kernel_rfl) hS25 ?_
              refine AnyE.no 59 84 (by kernel_rfl) hS25 ?_
              refine AnyE.no 60 85 (by kernel_rfl) hS25 ?_
              refine AnyE.no 61 86 (by kernel_rfl) hS25 ?_
              refine AnyE.no 62 87 (by kernel_rfl) hS25 ?_
              refine AnyE.no 63 88 (by kernel_rfl) hS25 ?_
              refine AnyE.no 64 89 (by kernel_rfl) hS25 ?_
              refine AnyE.no 65 90 (by kernel_rfl) hS25 ?_
              refine AnyE.no 66 91 (by kernel_rfl) hS25 ?_
              refine AnyE.no 67 92 (by kernel_rfl) hS25 ?_
              refine AnyE.pure 68 93 (.bool true) (by kernel_rfl) hS25 (fun _ => by kernel_rfl) ?_
              refine AnyE.done (by kernel_rfl) (fun w39 hu40 => ?_)
              have h41 := h24.call hu40
              refine RunsI.only [0, 4, 5, 6, 93] [(0, .slice pA0 p0.length pc0), (4, .slice A17 t19.length c18), (5, .int .i64 t20), (6, .int .i64 t21), (93, .bool true)] (by kernel_rfl) (by kernel_rfl) ?_
              refine RunsI.only [0, 4, 5, 6, 93] [(0, .slice pA0 p0.length pc0), (4, .slice A17 t19.length c18), (5, .int .i64 t20), (6, .int .i64 t21), (93, .bool true)] (by kernel_rfl) (by kernel_rfl) ?_
              exact hj85 true w39 h (h41.pick [0, 1, 2, 3, 4, 5, 6, 7] (by decide))
            · skip
              refine AnyE.fix 61 false hc38 (by kernel_rfl) (by kernel_rfl) ?_
              refine AnyE.pure 37 62 (.slice A17 t19.length c18) (by kernel_rfl) hS25 (fun _ => by kernel_rfl) ?_
              refine AnyE.pure 38 63 (.int .i64 t21) (by kernel_rfl) hS25 (fun _ => by kernel_rfl) ?_
              refine AnyE.idxOwnA 39 64 1 39 49 t21 h24 (by kernel_rfl) hS25 rfl (by kernel_rfl) (by kernel_rfl) hc27 ?_
              refine AnyE.pure 40 65 (.pointer (some ⟨(blkD A17), (Int.toNat t21) * 4 + 1, none⟩)) (by kernel_rfl) hS25 (fun _ => by kernel_rfl) ?_
              refine AnyE.loadOwnA 41 66 1 3 49 t21 1 (.int .i64 ((rdD t19 t21).2.1)) [] (o := (Int.toNat t21) * 4 + 1) h24 rfl (by kernel_rfl) hS25 rfl rfl (by kernel_rfl) rfl hc27 (fun _ _ hk => by obtain ⟨_, _, rfl, rfl, ⟨_, _, rfl, rfl, ⟨_, _, rfl, rfl, rfl⟩⟩⟩ := hk; kernel_rfl) ?_
              refine AnyE.pure 42 67 (.slice pA0 p0.length pc0) (by kernel_rfl) hS25 (fun _ => by kernel_rfl) ?_
              refine AnyE.pure 43 68 (.int .i64 t20) (by kernel_rfl) hS25 (fun _ => by kernel_rfl) ?_
              obtain ⟨hc42, h⟩ := of_cond0 h
              refine AnyE.idxSl 44 69 0 26 t20 h24 (by kernel_rfl) hS25 rfl (by kernel_rfl) (by kernel_rfl) hc42 ?_
              intro b43 o44 cs45 hk46 h47
              obtain ⟨_, _, rfl, rfl, ⟨_, _, rfl, rfl, ⟨_, _, rfl, rfl, ⟨_, _, rfl, rfl, ⟨_, _, rfl, rfl, rfl⟩⟩⟩⟩⟩ := hk46
              refine AnyE.pure 45 70 (.pointer (some ⟨b43, o44, none⟩)) (by kernel_rfl) hS25 (fun _ => by kernel_rfl) ?_
              refine AnyE.loadCel 46 71 8 3 b43 o44 0 (.int .i64 ((rdD p0 t20).1)) [] h47 rfl (by kernel_rfl) hS25 rfl rfl (by kernel_rfl) (by kernel_rfl) ?_
              refine AnyE.pure 47 72 (.bool (((rdD t19 t21).2.1) != ((rdD p0 t20).1))) (by kernel_rfl) hS25 (fun _ => by kernel_rfl) ?_
              refine AnyE.pure 48 73 (.bool (((rdD t19 t21).2.1) != ((rdD p0 t20).1))) (by kernel_rfl) hS25 (fun _ => by kernel_rfl) ?_
              refine AnyE.pure 49 74 (.bool (((rdD t19 t21).2.1) != ((rdD p0 t20).1))) (by kernel_rfl) hS25 (fun _ => by kernel_rfl) ?_
              rcases of_cond h with ⟨hc48, h⟩ | ⟨hc48, h⟩
              · skip
                refine AnyE.fix 74 true hc48 (by kernel_rfl) (by kernel_rfl) ?_
                refine AnyE.no 50 75 (by kernel_rfl) hS25 ?_
                refine AnyE.no 51 76 (by kernel_rfl) hS25 ?_
                refine AnyE.no 52 77 (by kernel_rfl) hS25 ?_
                refine AnyE.no 53 78 (by kernel_rfl) hS25 ?_
                refine AnyE.no 54 79 (by kernel_rfl) hS25 ?_
                refine AnyE.no 55 80 (by kernel_rfl) hS25 ?_
                refine AnyE.no 56 81 (by kernel_rfl) hS25 ?_
                refine AnyE.no 57 82 (by kernel_rfl) hS25 ?_
                refine AnyE.no 58 83 (by kernel_rfl) hS25 ?_
                refine AnyE.no 59 84 (by kernel_rfl) hS25 ?_
                refine AnyE.no 60 85 (by kernel_rfl) hS25 ?_
                refine AnyE.no 61 86 (by kernel_rfl) hS25 ?_
                refine AnyE.no 62 87 (by kernel_rfl) hS25 ?_
                refine AnyE.no 63 88 (by kernel_rfl) hS25 ?_
                refine AnyE.no 64 89 (by kernel_rfl) hS25 ?_
                refine AnyE.no 65 90 (by kernel_rfl) hS25 ?_
                refine AnyE.no 66 91 (by kernel_rfl) hS25 ?_
                refine AnyE.no 67 92 (by kernel_rfl) hS25 ?_
                refine AnyE.pure 68 93 (.bool true) (by kernel_rfl) hS25 (fun _ => by kernel_rfl) ?_
                refine AnyE.done (by kernel_rfl) (fun w49 hu50 => ?_)
                have h51 := h47.call hu50
                refine RunsI.only [0, 4, 5, 6, 93] [(0, .slice pA0 p0.length pc0), (4, .slice A17 t19.length c18), (5, .int .i64 t20), (6, .int .i64 t21), (93, .bool true)] (by kernel_rfl) (by kernel_rfl) ?_
                refine RunsI.only [0, 4, 5, 6, 93] [(0, .slice pA0 p0.length pc0), (4, .slice A17 t19.length c18), (5, .int .i64 t20), (6, .int .i64 t21), (93, .bool true)] (by kernel_rfl) (by kernel_rfl) ?_
                exact hj85 true w49 h (h51.pick [0, 1, 2, 3, 4, 5, 6, 7] (by decide))
              · skip
                refine AnyE.fix 74 false hc48 (by kernel_rfl) (by kernel_rfl) ?_
                refine AnyE.pure 50 75 (.slice A17 t19.length c18) (by kernel_rfl) hS25 (fun _ => by kernel_rfl) ?_
                refine AnyE.pure 51 76 (.int .i64 t21) (by kernel_rfl) hS25 (fun _ => by kernel_rfl) ?_
                refine AnyE.idxOwnA 52 77 1 39 49 t21 h47 (by kernel_rfl) hS25 rfl (by kernel_rfl) (by kernel_rfl) hc27 ?_
                refine AnyE.pure 53 78 (.pointer (some ⟨(blkD A17), (Int.toNat t21) * 4 + 2, none⟩)) (by kernel_rfl) hS25 (fun _ => by kernel_rfl) ?_
                refine AnyE.loadOwnA 54 79 1 3 49 t21 2 (.int .i64 ((rdD t19 t21).2.2.1)) [] (o := (Int.toNat t21) * 4 + 2) h47 rfl (by kernel_rfl) hS25 rfl rfl (by kernel_rfl) rfl hc27 (fun _ _ hk => by obtain ⟨_, _, rfl, rfl, ⟨_, _, rfl, rfl, ⟨_, _, rfl, rfl, rfl⟩⟩⟩ := hk; kernel_rfl) ?_
                refine AnyE.pure 55 80 (.slice pA0 p0.length pc0) (by kernel_rfl) hS25 (fun _ => by kernel_rfl) ?_
                refine AnyE.pure 56 81 (.int .i64 t20) (by kernel_rfl) hS25 (fun _ => by kernel_rfl) ?_
                refine AnyE.pure 57 82 (.slice A17 t19.length c18) (by kernel_rfl) hS25 (fun _ => by kernel_rfl) ?_
                refine AnyE.pure 58 83 (.int .i64 t21) (by kernel_rfl) hS25 (fun _ => by kernel_rfl) ?_
                refine AnyE.idxOwnA 59 84 1 39 49 t21 h47 (by kernel_rfl) hS25 rfl (by kernel_rfl) (by kernel_rfl) hc27 ?_
                refine AnyE.pure 60 85 (.pointer (some ⟨(blkD A17), (Int.toNat t21) * 4 + 3, none⟩)) (by kernel_rfl) hS25 (fun _ => by kernel_rfl) ?_
                refine AnyE.loadOwnA 61 86 1 3 49 t21 3 (.int .i64 ((rdD t19 t21).2.2.2)) [] (o := (Int.toNat t21) * 4 + 3) h47 rfl (by kernel_rfl) hS25 rfl rfl (by kernel_rfl) rfl hc27 (fun _ _ hk => by obtain ⟨_, _, rfl, rfl, ⟨_, _, rfl, rfl, ⟨_, _, rfl, rfl, rfl⟩⟩⟩ := hk; kernel_rfl) ?_
                refine AnyE.pure 62 87 (.int .i64 (IntKind.wrap .i64 (t20 + ((rdD t19 t21).2.2.2)))) (by kernel_rfl) hS25 (fun _ => by kernel_rfl) ?_
                refine AnyE.pure 63 88 (.int .i64 (IntKind.wrap .i64 ((IntKind.wrap .i64 (t20 + ((rdD t19 t21).2.2.2))) - 1))) (by kernel_rfl) hS25 (fun _ => by kernel_rfl) ?_
                obtain ⟨hc52, h⟩ := of_cond0 h
                refine AnyE.idxSl 64 89 0 26 (IntKind.wrap .i64 ((IntKind.wrap .i64 (t20 + ((rdD t19 t21).2.2.2))) - 1)) h47 (by kernel_rfl) hS25 rfl (by kernel_rfl) (by kernel_rfl) hc52 ?_
                intro b53 o54 cs55 hk56 h57
                obtain ⟨_, _, rfl, rfl, ⟨_, _, rfl, rfl, ⟨_, _, rfl, rfl, ⟨_, _, rfl, rfl, ⟨_, _, rfl, rfl, rfl⟩⟩⟩⟩⟩ := hk56
                refine AnyE.pure 65 90 (.pointer (some ⟨b53, o54, none⟩)) (by kernel_rfl) hS25 (fun _ => by kernel_rfl) ?_
                refine AnyE.loadCel 66 91 9 3 b53 o54 0 (.int .i64 ((rdD p0 (IntKind.wrap .i64 ((IntKind.wrap .i64 (t20 + ((rdD t19 t21).2.2.2))) - 1))).1)) [] h57 rfl (by kernel_rfl) hS25 rfl rfl (by kernel_rfl) (by kernel_rfl) ?_
                refine AnyE.pure 67 92 (.bool (((rdD t19 t21).2.2.1) != ((rdD p0 (IntKind.wrap .i64 ((IntKind.wrap .i64 (t20 + ((rdD t19 t21).2.2.2))) - 1))).1))) (by kernel_rfl) hS25 (fun _ => by kernel_rfl) ?_
                refine AnyE.pure 68 93 (.bool (((rdD t19 t21).2.2.1) != ((rdD p0 (IntKind.wrap .i64 ((IntKind.wrap .i64 (t20 + ((rdD t19 t21).2.2.2))) - 1))).1))) (by kernel_rfl) hS25 (fun _ => by kernel_rfl) ?_
                refine AnyE.done (by kernel_rfl) (fun w58 hu59 => ?_)
                have h60 := h57.call hu59
                refine RunsI.only [0, 4, 5, 6, 93] [(0, .slice pA0 p0.length pc0), (4, .slice A17 t19.length c18), (5, .int .i64 t20), (6, .int .i64 t21), (93, .bool (((rdD t19 t21).2.2.1) != ((rdD p0 (IntKind.wrap .i64 ((IntKind.wrap .i64 (t20 + ((rdD t19 t21).2.2.2))) - 1))).1)))] (by kernel_rfl) (by kernel_rfl) ?_
                refine RunsI.only [0, 4, 5, 6, 93] [(0, .slice pA0 p0.length pc0), (4, .slice A17 t19.length c18), (5, .int .i64 t20), (6, .int .i64 t21), (93, .bool (((rdD t19 t21).2.2.1) != ((rdD p0 (IntKind.wrap .i64 ((IntKind.wrap .i64 (t20 + ((rdD t19 t21).2.2.2))) - 1))).1)))] (by kernel_rfl) (by kernel_rfl) ?_
                exact hj85 (((rdD t19 t21).2.2.1) != ((rdD p0 (IntKind.wrap .i64 ((IntKind.wrap .i64 (t20 + ((rdD t19 t21).2.2.2))) - 1))).1)) w58 h (h60.pick [0, 1, 2, 3, 4, 5, 6, 7] (by decide))
          · skip
            refine AnyE.fix 46 false hc36 (by kernel_rfl) (by kernel_rfl) ?_
            refine AnyE.no 22 47 (by kernel_rfl) hS25 ?_
            refine AnyE.no 23 48 (by kernel_rfl) hS25 ?_
            refine AnyE.no 24 49 (by kernel_rfl) hS25 ?_
            refine AnyE.no 25 50 (by kernel_rfl) hS25 ?_
            refine AnyE.no 26 51 (by kernel_rfl) hS25 ?_
            refine AnyE.no 27 52 (by kernel_rfl) hS25 ?_
            refine AnyE.no 28 53 (by kernel_rfl) hS25 ?_
            refine AnyE.no 29 54 (by kernel_rfl) hS25 ?_
            refine AnyE.no 30 55 (by kernel_rfl) hS25 ?_
            refine AnyE.no 31 56 (by kernel_rfl) hS25 ?_
            refine AnyE.no 32 57 (by kernel_rfl) hS25 ?_
            refine AnyE.no 33 58 (by kernel_rfl) hS25 ?_
            refine AnyE.pure 34 59 (.bool false) (by kernel_rfl) hS25 (fun _ => by kernel_rfl) ?_
            refine AnyE.pure 35 60 (.bool false) (by kernel_rfl) hS25 (fun _ => by kernel_rfl) ?_
            refine AnyE.pure 36 61 (.bool false) (by kernel_rfl) hS25 (fun _ => by kernel_rfl) ?_
            refine AnyE.pure 37 62 (.slice A17 t19.length c18) (by kernel_rfl) hS25 (fun _ => by kernel_rfl) ?_
            refine AnyE.pure 38 63 (.int .i64 t21) (by kernel_rfl) hS25 (fun _ => by kernel_rfl) ?_
            refine AnyE.idxOwnA 39 64 1 39 49 t21 h24 (by kernel_rfl) hS25 rfl (by kernel_rfl) (by kernel_rfl) hc27 ?_
            refine AnyE.pure 40 65 (.pointer (some ⟨(blkD A17), (Int.toNat t21) * 4 + 1, none⟩)) (by kernel_rfl) hS25 (fun _ => by kernel_rfl) ?_
            refine AnyE.loadOwnA 41 66 1 3 49 t21 1 (.int .i64 ((rdD t19 t21).2.1)) [] (o := (Int.toNat t21) * 4 + 1) h24 rfl (by kernel_rfl) hS25 rfl rfl (by kernel_rfl) rfl hc27 (fun _ _ hk => by obtain ⟨_, _, rfl, rfl, ⟨_, _, rfl, rfl, ⟨_, _, rfl, rfl, rfl⟩⟩⟩ := hk; kernel_rfl) ?_
            refine AnyE.pure 42 67 (.slice pA0 p0.length pc0) (by kernel_rfl) hS25 (fun _ => by kernel_rfl) ?_
            refine AnyE.pure 43 68 (.int .i64 t20) (by kernel_rfl) hS25 (fun _ => by kernel_rfl) ?_
            obtain ⟨hc61, h⟩ := of_cond0 h
            refine AnyE.idxSl 44 69 0 26 t20 h24 (by kernel_rfl) hS25 rfl (by kernel_rfl) (by kernel_rfl) hc61 ?_
            intro b62 o63 cs64 hk65 h66
            obtain ⟨_, _, rfl, rfl, ⟨_, _, rfl, rfl, ⟨_, _, rfl, rfl, ⟨_, _, rfl, rfl, ⟨_, _, rfl, rfl, rfl⟩⟩⟩⟩⟩ := hk65
            refine AnyE.pure 45 70 (.pointer (some ⟨b62, o63, none⟩)) (by kernel_rfl) hS25 (fun _ => by kernel_rfl) ?_
            refine AnyE.loadCel 46 71 8 3 b62 o63 0 (.int .i64 ((rdD p0 t20).1)) [] h66 rfl (by kernel_rfl) hS25 rfl rfl (by kernel_rfl) (by kernel_rfl) ?_
            refine AnyE.pure 47 72 (.bool (((rdD t19 t21).2.1) != ((rdD p0 t20).1))) (by kernel_rfl) hS25 (fun _ => by kernel_rfl) ?_
            refine AnyE.pure 48 73 (.bool (((rdD t19 t21).2.1) != ((rdD p0 t20).1))) (by kernel_rfl) hS25 (fun _ => by kernel_rfl) ?_
            refine AnyE.pure 49 74 (.bool (((rdD t19 t21).2.1) != ((rdD p0 t20).1))) (by kernel_rfl) hS25 (fun _ => by kernel_rfl) ?_
            rcases of_cond h with ⟨hc67, h⟩ | ⟨hc67, h⟩
            · skip
              refine AnyE.fix 74 true hc67 (by kernel_rfl) (by kernel_rfl) ?_
              refine AnyE.no 50 75 (by kernel_rfl) hS25 ?_
              refine AnyE.no 51 76 (by kernel_rfl) hS25 ?_
              refine AnyE.no 52 77 (by kernel_rfl) hS25 ?_
              refine AnyE.no 53 78 (by kernel_rfl) hS25 ?_
              refine AnyE.no 54 79 (by kernel_rfl) hS25 ?_
              refine AnyE.no 55 80 (by kernel_rfl) hS25 ?_
              refine AnyE.no 56 81 (by kernel_rfl) hS25 ?_
              refine AnyE.no 57 82 (by kernel_rfl) hS25 ?_
              refine AnyE.no 58 83 (by kernel_rfl) hS25 ?_
              refine AnyE.no 59 84 (by kernel_rfl) hS25 ?_
              refine AnyE.no 60 85 (by kernel_rfl) hS25 ?_
              refine AnyE.no 61 86 (by kernel_rfl) hS25 ?_
              refine AnyE.no 62 87 (by kernel_rfl) hS25 ?_
              refine AnyE.no 63 88 (by kernel_rfl) hS25 ?_
              refine AnyE.no 64 89 (by kernel_rfl) hS25 ?_
              refine AnyE.no 65 90 (by kernel_rfl) hS25 ?_
              refine AnyE.no 66 91 (by kernel_rfl) hS25 ?_
              refine AnyE.no 67 92 (by kernel_rfl) hS25 ?_
              refine AnyE.pure 68 93 (.bool true) (by kernel_rfl) hS25 (fun _ => by kernel_rfl) ?_
              refine AnyE.done (by kernel_rfl) (fun w68 hu69 => ?_)
              have h70 := h66.call hu69
              refine RunsI.only [0, 4, 5, 6, 93] [(0, .slice pA0 p0.length pc0), (4, .slice A17 t19.length c18), (5, .int .i64 t20), (6, .int .i64 t21), (93, .bool true)] (by kernel_rfl) (by kernel_rfl) ?_
              refine RunsI.only [0, 4, 5, 6, 93] [(0, .slice pA0 p0.length pc0), (4, .slice A17 t19.length c18), (5, .int .i64 t20), (6, .int .i64 t21), (93, .bool true)] (by kernel_rfl) (by kernel_rfl) ?_
              exact hj85 true w68 h (h70.pick [0, 1, 2, 3, 4, 5, 6, 7] (by decide))
            · skip
              refine AnyE.fix 74 false hc67 (by kernel_rfl) (by kernel_rfl) ?_
              refine AnyE.pure 50 75 (.slice A17 t19.length c18) (by kernel_rfl) hS25 (fun _ => by kernel_rfl) ?_
              refine AnyE.pure 51 76 (.int .i64 t21) (by kernel_rfl) hS25 (fun _ => by kernel_rfl) ?_
              refine AnyE.idxOwnA 52 77 1 39 49 t21 h66 (by kernel_rfl) hS25 rfl (by kernel_rfl) (by kernel_rfl) hc27 ?_
              refine AnyE.pure 53 78 (.pointer (some ⟨(blkD A17), (Int.toNat t21) * 4 + 2, none⟩)) (by kernel_rfl) hS25 (fun _ => by kernel_rfl) ?_
              refine AnyE.loadOwnA 54 79 1 3 49 t21 2 (.int .i64 ((rdD t19 t21).2.2.1)) [] (o := (Int.toNat t21) * 4 + 2) h66 rfl (by kernel_rfl) hS25 rfl rfl (by kernel_rfl) rfl hc27 (fun _ _ hk => by obtain ⟨_, _, rfl, rfl, ⟨_, _, rfl, rfl, ⟨_, _, rfl, rfl, rfl⟩⟩⟩ := hk; kernel_rfl) ?_
              refine AnyE.pure 55 80 (.slice pA0 p0.length pc0) (by kernel_rfl) hS25 (fun _ => by kernel_rfl) ?_
              refine AnyE.pure 56 81 (.int .i64 t20) (by kernel_rfl) hS25 (fun _ => by kernel_rfl) ?_
              refine AnyE.pure 57 82 (.slice A17 t19.length c18) (by kernel_rfl) hS25 (fun _ => by kernel_rfl) ?_
              refine AnyE.pure 58 83 (.int .i64 t21) (by kernel_rfl) hS25 (fun _ => by kernel_rfl) ?_
              refine AnyE.idxOwnA 59 84 1 39 49 t21 h66 (by kernel_rfl) hS25 rfl (by kernel_rfl) (by kernel_rfl) hc27 ?_
              refine AnyE.pure 60 85 (.pointer (some ⟨(blkD A17), (Int.toNat t21) * 4 + 3, none⟩)) (by kernel_rfl) hS25 (fun _ => by kernel_rfl) ?_
              refine AnyE.loadOwnA 61 86 1 3 49 t21 3 (.int .i64 ((rdD t19 t21).2.2.2)) [] (o := (Int.toNat t21) * 4 + 3) h66 rfl (by kernel_rfl) hS25 rfl rfl (by kernel_rfl) rfl hc27 (fun _ _ hk => by obtain ⟨_, _, rfl, rfl, ⟨_, _, rfl, rfl, ⟨_, _, rfl, rfl, rfl⟩⟩⟩ := hk; kernel_rfl) ?_
              refine AnyE.pure 62 87 (.int .i64 (IntKind.wrap .i64 (t20 + ((rdD t19 t21).2.2.2)))) (by kernel_rfl) hS25 (fun _ => by kernel_rfl) ?_
              refine AnyE.pure 63 88 (.int .i64 (IntKind.wrap .i64 ((IntKind.wrap .i64 (t20 + ((rdD t19 t21).2.2.2))) - 1))) (by kernel_rfl) hS25 (fun _ => by kernel_rfl) ?_
              obtain ⟨hc71, h⟩ := of_cond0 h
              refine AnyE.idxSl 64 89 0 26 (IntKind.wrap .i64 ((IntKind.wrap .i64 (t20 + ((rdD t19 t21).2.2.2))) - 1)) h66 (by kernel_rfl) hS25 rfl (by kernel_rfl) (by kernel_rfl) hc71 ?_
              intro b72 o73 cs74 hk75 h76
              obtain ⟨_, _, rfl, rfl, ⟨_, _, rfl, rfl, ⟨_, _, rfl, rfl, ⟨_, _, rfl, rfl, ⟨_, _, rfl, rfl, rfl⟩⟩⟩⟩⟩ := hk75
              refine AnyE.pure 65 90 (.pointer (some ⟨b72, o73, none⟩)) (by kernel_rfl) hS25 (fun _ => by kernel_rfl) ?_
              refine AnyE.loadCel 66 91 9 3 b72 o73 0 (.int .i64 ((rdD p0 (IntKind.wrap .i64 ((IntKind.wrap .i64 (t20 + ((rdD t19 t21).2.2.2))) - 1))).1)) [] h76 rfl (by kernel_rfl) hS25 rfl rfl (by kernel_rfl) (by kernel_rfl) ?_
              refine AnyE.pure 67 92 (.bool (((rdD t19 t21).2.2.1) != ((rdD p0 (IntKind.wrap .i64 ((IntKind.wrap .i64 (t20 + ((rdD t19 t21).2.2.2))) - 1))).1))) (by kernel_rfl) hS25 (fun _ => by kernel_rfl) ?_
              refine AnyE.pure 68 93 (.bool (((rdD t19 t21).2.2.1) != ((rdD p0 (IntKind.wrap .i64 ((IntKind.wrap .i64 (t20 + ((rdD t19 t21).2.2.2))) - 1))).1))) (by kernel_rfl) hS25 (fun _ => by kernel_rfl) ?_
              refine AnyE.done (by kernel_rfl) (fun w77 hu78 => ?_)
              have h79 := h76.call hu78
              refine RunsI.only [0, 4, 5, 6, 93] [(0, .slice pA0 p0.length pc0), (4, .slice A17 t19.length c18), (5, .int .i64 t20), (6, .int .i64 t21), (93, .bool (((rdD t19 t21).2.2.1) != ((rdD p0 (IntKind.wrap .i64 ((IntKind.wrap .i64 (t20 + ((rdD t19 t21).2.2.2))) - 1))).1)))] (by kernel_rfl) (by kernel_rfl) ?_
              refine RunsI.only [0, 4, 5, 6, 93] [(0, .slice pA0 p0.length pc0), (4, .slice A17 t19.length c18), (5, .int .i64 t20), (6, .int .i64 t21), (93, .bool (((rdD t19 t21).2.2.1) != ((rdD p0 (IntKind.wrap .i64 ((IntKind.wrap .i64 (t20 + ((rdD t19 t21).2.2.2))) - 1))).1)))] (by kernel_rfl) (by kernel_rfl) ?_
              exact hj85 (((rdD t19 t21).2.2.1) != ((rdD p0 (IntKind.wrap .i64 ((IntKind.wrap .i64 (t20 + ((rdD t19 t21).2.2.2))) - 1))).1)) w77 h (h79.pick [0, 1, 2, 3, 4, 5, 6, 7] (by decide))
    · skip
      refine RunsI.fix 22 false hc22 (by kernel_rfl) (by kernel_rfl) ?_
      refine RunsI.cond false 34 (by kernel_rfl) ?_
      refine RunsI.go 1 [.c 68] (by kernel_rfl) ?_
      refine RunsI.only [0, 5] [(0, .slice pA0 p0.length pc0), (5, .int .i64 t20)] (by kernel_rfl) (by kernel_rfl) ?_
      exact hk0 t20 w (Option.some.inj h).symm (hH.pick [0, 2, 3, 4, 5, 6, 7] (by decide))
def charabanclaw29_HistoryRows_5.l2 (K : Nat) (p0 : List (Int × Int × Int × Int × Int × Int)) (t141 : Int) (t143 : List Int) : Nat → Int → Int → Option (Lp Unit Int)
  | 0, _, _ => none
  | k + 1, t144, t145 => cond (decide (t145 < 4)) (cond (inR t145 4) (cond (inR t145 t143.length) ((history_Of_24.f K p0 t145).bind fun t161 => cond ((t161.length : Int) != (rdD t143 t145)) (some (Lp.ret ())) (charabanclaw29_HistoryRows_5.l2 K p0 t141 t143 k (IntKind.wrap .i64 (t144 + (rdD t143 t145))) (IntKind.wrap .i64 (t145 + 1)))) none) none) (some (Lp.go t144))
set_option maxRecDepth 100000 in
theorem charabanclaw29_HistoryRows_5.l2_ok (K : Nat) (M0 : Nat → Prop) (w0 : World) (pA0 : Option Addr) (pc0 : Nat) (p0 : List (Int × Int × Int × Int × Int × Int)) (t141 : Int) (t143 : List Int) (b142 : Nat) (R : Ending → World → Prop) (x : Lp Unit Int) (hk0 : ∀ (t171 : Int) (w1 : World), x = Lp.go t171 → Holds M0 w0 w1 [sl (Rp.pair (Rp.int .i64) (Rp.pair (Rp.int .i64) (Rp.pair (Rp.int .i64) (Rp.pair (Rp.int .u16) (Rp.pair (Rp.int .i64) (Rp.int .u8)))))) (.slice pA0 p0.length pc0) p0, gl 0 (tab_0.flatMap en_0), gl 1 (tab_1.flatMap en_1), gl 2 (tab_2.flatMap en_2), gl 3 (tab_3.flatMap en_3), gl 7 (tab_7.flatMap en_7), gl 8 (tab_8.flatMap en_8)] → RunsI F5 [.c 95] [(0, .slice pA0 p0.length pc0), (5, .int .i64 t141), (9, .int .i64 t171)] w1 R) (hk1 : ∀ (w1 : World), x = Lp.ret () → Holds M0 w0 w1 [gl 0 (tab_0.flatMap en_0), gl 1 (tab_1.flatMap en_1), gl 2 (tab_2.flatMap en_2), gl 3 (tab_3.flatMap en_3), gl 7 (tab_7.flatMap en_7), gl 8 (tab_8.flatMap en_8)] → R (.returned (.bool false)) w1) :
    ∀ (k : Nat) (t144 : Int) (t145 : Int) (w : World), charabanclaw29_HistoryRows_5.l2 K p0 t141 t143 k t144 t145 = some x → Holds M0 w0 w [sl (Rp.pair (Rp.int .i64) (Rp.pair (Rp.int .i64) (Rp.pair (Rp.int .i64) (Rp.pair (Rp.int .u16) (Rp.pair (Rp.int .i64) (Rp.int .u8)))))) (.slice pA0 p0.length pc0) p0, box b142 43 (List.flatMap (fun (x : Int) => ([.int .i64 x] : List Value)) t143), gl 0 (tab_0.flatMap en_0), gl 1 (tab_1.flatMap en_1), gl 2 (tab_2.flatMap en_2), gl 3 (tab_3.flatMap en_3), gl 7 (tab_7.flatMap en_7), gl 8 (tab_8.flatMap en_8)] → RunsI F5 [.c 77, .lp 77, .blk 4, .c 95] [(0, .slice pA0 p0.length pc0), (5, .int .i64 t141), (8, .pointer (some ⟨b142, 0, none⟩)), (9, .int .i64 t144), (10, .int .i64 t145)] w R := by
  intro k
  induction k with
  | zero => intro t144 t145 w h hH; exact absurd h (by simp [charabanclaw29_HistoryRows_5.l2])
  | succ k ih =>
    intro t144 t145 w h hH
    rw [charabanclaw29_HistoryRows_5.l2.eq_2] at h
    refine RunsI.go 1 [.c 78, .c 83, .lp 77, .blk 4, .c 95] (by kernel_rfl) ?_
    refine RunsI.go 1 [.c 79, .c 80, .c 83, .lp 77, .blk 4, .c 95] (by kernel_rfl) ?_
    refine RunsI.region (by kernel_rfl) ?_
    refine RegI.pure 2 [0, 5, 8, 9, 10, 126] [(0, .slice pA0 p0.length pc0), (5, .int .i64 t141), (8, .pointer (some ⟨b142, 0, none⟩)), (9, .int .i64 t144), (10, .int .i64 t145), (126, .bool (decide (t145 < 4)))] (by kernel_rfl) ?_
    refine RegI.done (by kernel_rfl) ?_
    rcases of_cond h with ⟨hc146, h⟩ | ⟨hc146, h⟩
    · skip
      refine RunsI.fix 126 true hc146 (by kernel_rfl) (by kernel_rfl) ?_
      refine RunsI.cond true 81 (by kernel_rfl) ?_
      refine RunsI.go 1 [.c 83, .lp 77, .blk 4, .c 95] (by kernel_rfl) ?_
      refine RunsI.go 4 [.c 87, .c 88, .c 93, .blk 5, .c 94, .lp 77, .blk 4, .c 95] (by kernel_rfl) ?_
      refine RunsI.any 8 (by kernel_rfl) (by kernel_rfl) (by kernel_rfl) (Kp ([] : List Nat) (World.drew w)) ?_
      have h148 := hH.drew
      generalize World.drew w = w147 at h148 ⊢
      have hS149 := Kp.refl ([] : List Nat) w147
      refine AnyE.pure 0 129 (.slice pA0 p0.length pc0) (by kernel_rfl) hS149 (fun _ => by kernel_rfl) ?_
      refine AnyE.pure 1 130 (.int .i64 t145) (by kernel_rfl) hS149 (fun _ => by kernel_rfl) ?_
      refine AnyE.pure 4 133 (.int .i64 t145) (by kernel_rfl) hS149 (fun _ => by kernel_rfl) ?_
      obtain ⟨hc151, h⟩ := of_cond0 h
      refine AnyE.run 5 134 (.pointer (some ⟨b142, 0 + (Int.toNat t145) * 1, none⟩)) (by kernel_rfl) hS149 (fun _ hk => run_idxArr (T := 43) (b := b142) (o := 0) (ix := t145) (len := 4) (s := 1) (by kernel_rfl) (by kernel_rfl) hc151) ?_
      obtain ⟨hc152, h⟩ := of_cond0 h
      refine AnyE.loadArr 6 135 1 3 (fun (x : Int) => ([.int .i64 x] : List Value)) t143 0 1 t145 (.int .i64 (rdD t143 t145)) [] (o := 0 + (Int.toNat t145) * 1) h148 rfl (by kernel_rfl) hS149 rfl rfl (fun _ => rfl) (by kernel_rfl) (by omega) hc152 (fun _ => by kernel_rfl) ?_
      refine AnyE.one 2 (by kernel_rfl) (fun w153 hu154 => ?_)
      have h155 := h148.call hu154
      have hS156 := hS149.up hu154
      obtain ⟨t161, hg160, h⟩ := of_bind h
      refine OpE.call 131 (by kernel_rfl) 24 #[.slice pA0 p0.length pc0, .int .i64 t145] (by kernel_rfl) ((history_Of_24_ok K _ w153  pA0 pc0 p0 t145 h155.old' (h155.get 0 rfl) hg160).mono ?_)
      rintro _ w157 ⟨A162, c163, rfl, hr165⟩
      refine ⟨_, rfl, ?_⟩
      have hb158 := hr165.below
      have h159 := h155.join hr165
      have hS166 := hS156.up hb158
      refine ⟨hS166, ?_⟩
      refine AnyE.pure 3 132 (.int .i64 (t161.length : Int)) (by kernel_rfl) hS166 (fun _ => by kernel_rfl) ?_
      refine AnyE.pure 7 136 (.bool ((t161.length : Int) != (rdD t143 t145))) (by kernel_rfl) hS166 (fun _ => by kernel_rfl) ?_
      refine AnyE.done (by kernel_rfl) (fun w167 hu168 => ?_)
      have h169 := h159.call hu168
      refine RunsI.only [0, 5, 8, 9, 10, 136] [(0, .slice pA0 p0.length pc0), (5, .int .i64 t141), (8, .pointer (some ⟨b142, 0, none⟩)), (9, .int .i64 t144), (10, .int .i64 t145), (136, .bool ((t161.length : Int) != (rdD t143 t145)))] (by kernel_rfl) (by kernel_rfl) ?_
      rcases of_cond h with ⟨hc170, h⟩ | ⟨hc170, h⟩
      · skip
        refine RunsI.fix 136 true hc170 (by kernel_rfl) (by kernel_rfl) ?_
        refine RunsI.cond true 89 (by kernel_rfl) ?_
        refine RunsI.go 1 [.c 90, .c 91, .c 93, .blk 5, .c 94, .lp 77, .blk 4, .c 95] (by kernel_rfl) ?_
        refine RunsI.region (by kernel_rfl) ?_
        refine RegI.pure 1 [2] [(2, .bool false)] (by kernel_rfl) ?_
        refine RegI.done (by kernel_rfl) ?_
        refine RunsI.ret (.bool false) (by kernel_rfl) (by kernel_rfl) ?_
        exact hk1 w167 (Option.some.inj h).symm (h169.pick [2, 3, 4, 5, 6, 7] (by decide))
      · skip
        refine RunsI.fix 136 false hc170 (by kernel_rfl) (by kernel_rfl) ?_
        refine RunsI.cond false 92 (by kernel_rfl) ?_
        refine RunsI.go 1 [.c 93, .blk 5, .c 94, .lp 77, .blk 4, .c 95] (by kernel_rfl) ?_
        refine RunsI.region (by kernel_rfl) ?_
        refine RegI.pure 2 [0, 5, 8, 10, 137, 138] [(0, .slice pA0 p0.length pc0), (5, .int .i64 t141), (8, .pointer (some ⟨b142, 0, none⟩)), (10, .int .i64 t145), (137, .int .i64 t144), (138, .int .i64 t145)] (by kernel_rfl) ?_
        refine RegI.op (by kernel_rfl) (OpE.run 139 (by kernel_rfl) (run_idxArr (T := 43) (b := b142) (o := 0) (ix := t145) (len := 4) (s := 1) (by kernel_rfl) (by kernel_rfl) hc151) ?_)
        refine RegI.op (by kernel_rfl) (OpE.loadArr 140 1 3 (fun (x : Int) => ([.int .i64 x] : List Value)) t143 0 1 t145 (.int .i64 (rdD t143 t145)) (o := 0 + (Int.toNat t145) * 1) h169 (by kernel_rfl) rfl (fun _ => rfl) (by kernel_rfl) (by omega) hc152 (fun _ => by kernel_rfl) ?_)
        refine RegI.pure 2 [0, 5, 8, 9, 10] [(0, .slice pA0 p0.length pc0), (5, .int .i64 t141), (8, .pointer (some ⟨b142, 0, none⟩)), (9, .int .i64 (IntKind.wrap .i64 (t144 + (rdD t143 t145)))), (10, .int .i64 t145)] (by kernel_rfl) ?_
        refine RegI.done (by kernel_rfl) ?_
        refine RunsI.go 1 [.c 94, .lp 77, .blk 4, .c 95] (by kernel_rfl) ?_
        refine RunsI.region (by kernel_rfl) ?_
        refine RegI.pure 3 [0, 5, 8, 9, 10] [(0, .slice pA0 p0.length pc0), (5, .int .i64 t141), (8, .pointer (some ⟨b142, 0, none⟩)), (9, .int .i64 (IntKind.wrap .i64 (t144 + (rdD t143 t145)))), (10, .int .i64 (IntKind.wrap .i64 (t145 + 1)))] (by kernel_rfl) ?_
        refine RegI.done (by kernel_rfl) ?_
        refine RunsI.go 1 [.c 77, .lp 77, .blk 4, .c 95] (by kernel_rfl) ?_
        refine RunsI.only [0, 5, 8, 9, 10] [(0, .slice pA0 p0.length pc0), (5, .int .i64 t141), (8, .pointer (some ⟨b142, 0, none⟩)), (9, .int .i64 (IntKind.wrap .i64 (t144 + (rdD t143 t145)))), (10, .int .i64 (IntKind.wrap .i64 (t145 + 1)))] (by kernel_rfl) (by kernel_rfl) ?_
        exact ih (IntKind.wrap .i64 (t144 + (rdD t143 t145))) (IntKind.wrap .i64 (t145 + 1)) w167 h (h169.pick [0, 1, 2, 3, 4, 5, 6, 7] (by decide))
    · skip
      refine RunsI.fix 126 false hc146 (by kernel_rfl) (by kernel_rfl) ?_
      refine RunsI.cond false 82 (by kernel_rfl) ?_
      refine RunsI.go 1 [.c 95] (by kernel_rfl) ?_
      refine RunsI.only [0, 5, 9] [(0, .slice pA0 p0.length pc0), (5, .int .i64 t141), (9, .int .i64 t144)] (by kernel_rfl) (by kernel_rfl) ?_
      exact hk0 t144 w (Option.some.inj h).symm (hH.pick [0, 2, 3, 4, 5, 6, 7] (by decide))
def charabanclaw29_HistoryRows_5.f (K : Nat) (p0 : List (Int × Int × Int × Int × Int × Int)) : Option Bool := (charabanclaw29_awake_9.f K).bind fun t5 => cond (!t5) (some false) (cond (decide ((p0.length : Int) > 100)) (some true) ((history_Tenures_17.f K p0).bind fun t12 => (charabanclaw29_HistoryRows_5.l1 K p0 t12 K 0 0).bind (fun x120 => Lp.elim x120 (fun _ => some false) (fun t122 => (history_Counts_19.f K p0).bind fun t131 => cond (Nat.beq t131.length 4) ((charabanclaw29_HistoryRows_5.l2 K p0 t122 t131 K 0 0).bind (fun x172 => Lp.elim x172 (fun _ => some false) (fun t174 => cond (t122 == (p0.length : Int)) (some (decide (t174 ≤ (p0.length : Int)))) (some false)))) none))))
set_option maxRecDepth 100000 in
theorem charabanclaw29_HistoryRows_5_ok (K : Nat) (M0 : Nat → Prop) (w0 : World) (pA0 : Option Addr) (pc0 : Nat) (p0 : List (Int × Int × Int × Int × Int × Int)) (ho : ∀ b, M0 b → b < w0.heap.size) (hs0 : Sl (Rp.pair (Rp.int .i64) (Rp.pair (Rp.int .i64) (Rp.pair (Rp.int .i64) (Rp.pair (Rp.int .u16) (Rp.pair (Rp.int .i64) (Rp.int .u8)))))) w0 M0 (.slice pA0 p0.length pc0) p0) (hG0 : (gl 0 (tab_0.flatMap en_0)).ok w0 M0) (hG1 : (gl 1 (tab_1.flatMap en_1)).ok w0 M0) (hG2 : (gl 2 (tab_2.flatMap en_2)).ok w0 M0) (hG3 : (gl 3 (tab_3.flatMap en_3)).ok w0 M0) (hG7 : (gl 7 (tab_7.flatMap en_7)).ok w0 M0) (hG8 : (gl 8 (tab_8.flatMap en_8)).ok w0 M0) {r : Bool} (h : charabanclaw29_HistoryRows_5.f K p0 = some r) :
    Calls Tryd.prog 5 #[.slice pA0 p0.length pc0] w0 (charabanclaw29_HistoryRows_5.post M0 w0 r) := by
  unfold charabanclaw29_HistoryRows_5.f at h
  have h0 : Holds M0 w0 w0 [] := Holds.start ho
  have h00 := h0.addSl (Rp.pair (Rp.int .i64) (Rp.pair (Rp.int .i64) (Rp.pair (Rp.int .i64) (Rp.pair (Rp.int .u16) (Rp.pair (Rp.int .i64) (Rp.int .u8)))))) (.slice pA0 p0.length pc0) p0 (hs0.mono (fun _ _ hm => hm.elim id (fun hm => absurd hm (by simp [mines, sl]))))
  have h0g0 := h00.add (gl 0 (tab_0.flatMap en_0)) rfl ⟨hG0.1, fun hm => hG0.2.1 (hm.elim id (fun hm => absurd hm (by simp [mines, sl, gl]))), hG0.2.2⟩
  have h0g1 := h0g0.add (gl 1 (tab_1.flatMap en_1)) rfl ⟨hG1.1, fun hm => hG1.2.1 (hm.elim id (fun hm => absurd hm (by simp [mines, sl, gl]))), hG1.2.2⟩
  have h0g2 := h0g1.add (gl 2 (tab_2.flatMap en_2)) rfl ⟨hG2.1, fun hm => hG2.2.1 (hm.elim id (fun hm => absurd hm (by simp [mines, sl, gl]))), hG2.2.2⟩
  have h0g3 := h0g2.add (gl 3 (tab_3.flatMap en_3)) rfl ⟨hG3.1, fun hm => hG3.2.1 (hm.elim id (fun hm => absurd hm (by simp [mines, sl, gl]))), hG3.2.2⟩
  have h0g7 := h0g3.add (gl 7 (tab_7.flatMap en_7)) rfl ⟨hG7.1, fun hm => hG7.2.1 (hm.elim id (fun hm => absurd hm (by simp [mines, sl, gl]))), hG7.2.2⟩
  have h0g8 := h0g7.add (gl 8 (tab_8.flatMap en_8)) rfl ⟨hG8.1, fun hm => hG8.2.1 (hm.elim id (fun hm => absurd hm (by simp [mines, sl, gl]))), hG8.2.2⟩
  have h0 : Holds M0 w0 w0 [sl (Rp.pair (Rp.int .i64) (Rp.pair (Rp.int .i64) (Rp.pair (Rp.int .i64) (Rp.pair (Rp.int .u16) (Rp.pair (Rp.int .i64) (Rp.int .u8)))))) (.slice pA0 p0.length pc0) p0, gl 0 (tab_0.flatMap en_0), gl 1 (tab_1.flatMap en_1), gl 2 (tab_2.flatMap en_2), gl 3 (tab_3.flatMap en_3), gl 7 (tab_7.flatMap en_7), gl 8 (tab_8.flatMap en_8)] := h0g8
  refine calls_of F5 rfl [.slice pA0 p0.length pc0] (by kernel_rfl) ?_
  refine RunsI.go 1 [.c 1, .c 2] (by kernel_rfl) ?_
  refine RunsI.region (by kernel_rfl) ?_
  refine RegI.pure 1 [0] [(0, .slice pA0 p0.length pc0)] (by kernel_rfl) ?_
  refine RegI.done (by kernel_rfl) ?_
  refine RunsI.go 1 [.c 3, .c 4] (by kernel_rfl) ?_
  refine RunsI.region (by kernel_rfl) ?_
  obtain ⟨t5, hg4, h⟩ := of_bind h
  refine RegI.op (by kernel_rfl) (OpE.call 11 (by kernel_rfl) 9 #[] (by kernel_rfl) ((charabanclaw29_awake_9_ok K _ w0  h0.old' (h0.get 1 rfl) (h0.get 2 rfl) (h0.get 3 rfl) (h0.get 4 rfl) (h0.get 5 rfl) (h0.get 6 rfl) hg4).mono ?_))
  rintro _ w1 ⟨rfl, hb2⟩
  refine ⟨_, rfl, ?_⟩
  have h3 := h0.call hb2
  refine RegI.pure 1 [0, 3] [(0, .slice pA0 p0.length pc0), (3, .bool t5)] (by kernel_rfl) ?_
  refine RegI.done (by kernel_rfl) ?_
  refine RunsI.go 2 [.c 6, .c 7, .c 12] (by kernel_rfl) ?_
  refine RunsI.region (by kernel_rfl) ?_
  refine RegI.pure 2 [0, 13] [(0, .slice pA0 p0.length pc0), (13, .bool (!t5))] (by kernel_rfl) ?_
  refine RegI.done (by kernel_rfl) ?_
  rcases of_cond h with ⟨hc6, h⟩ | ⟨hc6, h⟩
  · skip
    refine RunsI.fix 13 true hc6 (by kernel_rfl) (by kernel_rfl) ?_
    refine RunsI.cond true 8 (by kernel_rfl) ?_
    refine RunsI.go 1 [.c 9, .c 10, .c 12] (by kernel_rfl) ?_
    refine RunsI.region (by kernel_rfl) ?_
    refine RegI.pure 1 [2] [(2, .bool false)] (by kernel_rfl) ?_
    refine RegI.done (by kernel_rfl) ?_
    refine RunsI.ret (.bool false) (by kernel_rfl) (by kernel_rfl) ?_
    obtain rfl := Option.some.inj h
    exact ⟨rfl, h3.below⟩
  · skip
    refine RunsI.fix 13 false hc6 (by kernel_rfl) (by kernel_rfl) ?_
    refine RunsI.cond false 11 (by kernel_rfl) ?_
    refine RunsI.go 1 [.c 12] (by kernel_rfl) ?_
    refine RunsI.go 2 [.c 14, .c 15, .c 20] (by kernel_rfl) ?_
    refine RunsI.region (by kernel_rfl) ?_
    refine RegI.pure 3 [0, 16] [(0, .slice pA0 p0.length pc0), (16, .bool (decide ((p0.length : Int) > 100)))] (by kernel_rfl) ?_
    refine RegI.done (by kernel_rfl) ?_
    rcases of_cond h with ⟨hc7, h⟩ | ⟨hc7, h⟩
    · skip
      refine RunsI.fix 16 true hc7 (by kernel_rfl) (by kernel_rfl) ?_
      refine RunsI.cond true 16 (by kernel_rfl) ?_
      refine RunsI.go 1 [.c 17, .c 18, .c 20] (by kernel_rfl) ?_
      refine RunsI.region (by kernel_rfl) ?_
      refine RegI.pure 1 [2] [(2, .bool true)] (by kernel_rfl) ?_
      refine RegI.done (by kernel_rfl) ?_
      refine RunsI.ret (.bool true) (by kernel_rfl) (by kernel_rfl) ?_
      obtain rfl := Option.some.inj h
      exact ⟨rfl, h3.below⟩
    · skip
      refine RunsI.fix 16 false hc7 (by kernel_rfl) (by kernel_rfl) ?_
      refine RunsI.cond false 19 (by kernel_rfl) ?_
      refine RunsI.go 1 [.c 20] (by kernel_rfl) ?_
      refine RunsI.go 1 [.c 21, .c 22] (by kernel_rfl) ?_
      refine RunsI.region (by kernel_rfl) ?_
      refine RegI.pure 1 [0, 17] [(0, .slice pA0 p0.length pc0), (17, .slice pA0 p0.length pc0)] (by kernel_rfl) ?_
      obtain ⟨t12, hg11, h⟩ := of_bind h
      refine RegI.op (by kernel_rfl) (OpE.call 18 (by kernel_rfl) 17 #[.slice pA0 p0.length pc0] (by kernel_rfl) ((history_Tenures_17_ok K _ w1  pA0 pc0 p0 h3.old' (h3.get 0 rfl) hg11).mono ?_))
      rintro _ w8 ⟨A13, c14, rfl, hr16⟩
      refine ⟨_, rfl, ?_⟩
      have hb9 := hr16.below
      have h10 := h3.join hr16
      refine RegI.pure 1 [0, 4] [(0, .slice pA0 p0.length pc0), (4, .slice A13 t12.length c14)] (by kernel_rfl) ?_
      refine RegI.done (by kernel_rfl) ?_
      refine RunsI.go 1 [.c 23, .c 24] (by kernel_rfl) ?_
      refine RunsI.region (by kernel_rfl) ?_
      refine RegI.pure 1 [0, 4, 5] [(0, .slice pA0 p0.length pc0), (4, .slice A13 t12.length c14), (5, .int .i64 0)] (by kernel_rfl) ?_
      refine RegI.done (by kernel_rfl) ?_
      refine RunsI.go 2 [.c 26, .c 27, .c 68] (by kernel_rfl) ?_
      refine RunsI.region (by kernel_rfl) ?_
      refine RegI.pure 1 [0, 4, 5, 6] [(0, .slice pA0 p0.length pc0), (4, .slice A13 t12.length c14), (5, .int .i64 0), (6, .int .i64 0)] (by kernel_rfl) ?_
      refine RegI.done (by kernel_rfl) ?_
      refine RunsI.go 2 [.c 29, .lp 29, .blk 0, .c 68] (by kernel_rfl) ?_
      obtain ⟨x120, hx121, h⟩ := of_bind h
      refine RunsI.only [0, 4, 5, 6] [(0, .slice pA0 p0.length pc0), (4, .slice A13 t12.length c14), (5, .int .i64 0), (6, .int .i64 0)] (by kernel_rfl) (by kernel_rfl) ?_
      refine charabanclaw29_HistoryRows_5.l1_ok K M0 w0 pA0 pc0 p0 t12 A13 c14 _ x120 ?_ ?_ K 0 0 w8 hx121 (h10.pick [0, 7, 1, 2, 3, 4, 5, 6] (by decide))
      · intro t122 w124 hq182 h123
        (try rw [hq182] at h)
        dsimp only [Lp.elim] at h
        refine RunsI.go 1 [.c 69, .c 70] (by kernel_rfl) ?_
        refine RunsI.region (by kernel_rfl) ?_
        refine RegI.pure 1 [0, 5, 123] [(0, .slice pA0 p0.length pc0), (5, .int .i64 t122), (123, .slice pA0 p0.length pc0)] (by kernel_rfl) ?_
        obtain ⟨t131, hg130, h⟩ := of_bind h
        refine RegI.op (by kernel_rfl) (OpE.call 124 (by kernel_rfl) 19 #[.slice pA0 p0.length pc0] (by kernel_rfl) ((history_Counts_19_ok K _ w124  pA0 pc0 p0 h123.old' (h123.get 0 rfl) hg130).mono ?_))
        rintro _ w127 ⟨rfl, hb128⟩
        refine ⟨_, rfl, ?_⟩
        have h129 := h123.call hb128
        refine RegI.op (by kernel_rfl) (OpE.box 8 43 (List.flatMap (fun (x : Int) => ([.int .i64 x] : List Value)) (List.replicate 4 0)) h129 (by kernel_rfl) (by kernel_rfl) ?_)
        intro w132 b133 h134 hb135 hn136
        obtain ⟨hc137, h⟩ := of_cond0 h
        refine RegI.op (by kernel_rfl) (OpE.storeArrAll (en := (fun (x : Int) => ([.int .i64 x] : List Value))) 7 43 b133 4 1 4 t131 h134 (by kernel_rfl) (by kernel_rfl) rfl (fun _ => rfl) (fun _ => rfl) (by kernel_rfl) rfl (flat_m (sz := 1) (len := 4) (fun _ => rfl) (by kernel_rfl) rfl) hc137 ?_)
        intro w138 h139 hk140
        refine RegI.done (by kernel_rfl) ?_
        refine RunsI.go 1 [.c 71, .c 72] (by kernel_rfl) ?_
        refine RunsI.region (by kernel_rfl) ?_
        refine RegI.pure 1 [0, 5, 8, 9] [(0, .slice pA0 p0.length pc0), (5, .int .i64 t122), (8, .pointer (some ⟨b133, 0, none⟩)), (9, .int .i64 0)] (by kernel_rfl) ?_
        refine RegI.done (by kernel_rfl) ?_
        refine RunsI.go 2 [.c 74, .c 75, .c 95] (by kernel_rfl) ?_
        refine RunsI.region (by kernel_rfl) ?_
        refine RegI.pure 1 [0, 5, 8, 9, 10] [(0, .slice pA0 p0.length pc0), (5, .int .i64 t122), (8, .pointer (some ⟨b133, 0, none⟩)), (9, .int .i64 0), (10, .int .i64 0)] (by kernel_rfl) ?_
        refine RegI.done (by kernel_rfl) ?_
        refine RunsI.go 2 [.c 77, .lp 77, .blk 4, .c 95] (by kernel_rfl) ?_
        obtain ⟨x172, hx173, h⟩ := of_bind h
        refine RunsI.only [0, 5, 8, 9, 10] [(0, .slice pA0 p0.length pc0), (5, .int .i64 t122), (8, .pointer (some ⟨b133, 0, none⟩)), (9, .int .i64 0), (10, .int .i64 0)] (by kernel_rfl) (by kernel_rfl) ?_
        refine charabanclaw29_HistoryRows_5.l2_ok K M0 w0 pA0 pc0 p0 t122 t131 b133 _ x172 ?_ ?_ K 0 0 w138 hx173 (h139.pick [0, 7, 1, 2, 3, 4, 5, 6] (by decide))
        · intro t174 w176 hq183 h175
          (try rw [hq183] at h)
          dsimp only [Lp.elim] at h
          refine RunsI.go 1 [.c 96, .c 97] (by kernel_rfl) ?_
          refine RunsI.region (by kernel_rfl) ?_
          refine RegI.pure 5 [0, 9, 146] [(0, .slice pA0 p0.length pc0), (9, .int .i64 t174), (146, .bool (t122 == (p0.length : Int)))] (by kernel_rfl) ?_
          rcases of_cond h with ⟨hc179, h⟩ | ⟨hc179, h⟩
          · skip
            refine RegI.fix 146 true hc179 (by kernel_rfl) (by kernel_rfl) ?_
            refine RegI.pure 6 [2] [(2, .bool (decide (t174 ≤ (p0.length : Int))))] (by kernel_rfl) ?_
            refine RegI.done (by kernel_rfl) ?_
            refine RunsI.ret (.bool (decide (t174 ≤ (p0.length : Int)))) (by kernel_rfl) (by kernel_rfl) ?_
            obtain rfl := Option.some.inj h
            exact ⟨rfl, h175.below⟩
          · skip
            refine RegI.fix 146 false hc179 (by kernel_rfl) (by kernel_rfl) ?_
            refine RegI.pure 6 [2] [(2, .bool false)] (by kernel_rfl) ?_
            refine RegI.done (by kernel_rfl) ?_
            refine RunsI.ret (.bool false) (by kernel_rfl) (by kernel_rfl) ?_
            obtain rfl := Option.some.inj h
            exact ⟨rfl, h175.below⟩
        · intro w178 hq184 h177
          (try rw [hq184] at h)
          dsimp only [Lp.elim] at h
          obtain rfl := Option.some.inj h
          exact ⟨rfl, h177.below⟩
      · intro w126 hq185 h125
        (try rw [hq185] at h)
        dsimp only [Lp.elim] at h
        obtain rfl := Option.some.inj h
        exact ⟨rfl, h125.below⟩
end
end Go.Proofs.YtmebkghfjamffaaDoor.His
