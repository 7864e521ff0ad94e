/- The statement's function RegsBack as a plain Lean function; written by wip/eng.py. -/
import Derived.Test.YtajnhlkkbhobiaaDoorReg3
set_option linter.unusedVariables false
set_option linter.unusedSimpArgs false
set_option maxHeartbeats 4000000
namespace Go.Proofs.YtajnhlkkbhobiaaDoor.Reg
open Go.RowKit Go.Eng
noncomputable def B8 : Code := (Tryd.f8.body).getD .skip
noncomputable def F8 : Fun Tryd.prog := ⟨8, Tryd.f8, B8, 98, Tryd.func8, by kernel_rfl, by kernel_rfl, [], none⟩

/-! ### charabanc/charabanclaw11.RegsBack (function 8) -/
section
def charabanclaw11_RegsBack_8.post (M0 : Nat → Prop) (w0 : World) (r : Bool) : Ending → World → Prop := fun e w => e = .returned (.bool r) ∧ Below w0.heap.size w0 w
def charabanclaw11_RegsBack_8.l0 (K : Nat) (p0_0 : Int) (p0_1 : Int) (p0_2 : Int) (p0_3 : Int) (p0_4 : Int) (p0_5 : Int) (p0_6 : Int) (p0_7 : Int) (p0_8 : Int) (p0_9 : Int) (p0_10 : Int) (p0_11 : Int) (p0_12 : Int) (p0_13 : Int) (p0_14 : Int) (p0_15 : Bool) (p0_16 : Bool) (p0_17 : Bool) (p0_18 : Bool) (p0_19 : Int) (p1 : Int) (p2 : Int) (t118 : Int) (t120 : Int) (t121 : Int) (t122 : Int) (t123 : Int) (t124 : Int) (t125 : Int) (t126 : Int) (t127 : Int) (t128 : Int) (t129 : Int) (t130 : Int) (t131 : Int) (t132 : Int) (t133 : Int) (t134 : Int) (t135 : Bool) (t136 : Bool) (t137 : Bool) (t138 : Bool) (t139 : Int) : Nat → Int → Option (Lp Unit Unit)
  | 0, _ => none
  | k + 1, t140 => cond (decide (t140 < 8)) (Let (fun (t157 : Bool) => cond t157 (some (Lp.ret ())) (charabanclaw11_RegsBack_8.l0 K p0_0 p0_1 p0_2 p0_3 p0_4 p0_5 p0_6 p0_7 p0_8 p0_9 p0_10 p0_11 p0_12 p0_13 p0_14 p0_15 p0_16 p0_17 p0_18 p0_19 p1 p2 t118 t120 t121 t122 t123 t124 t125 t126 t127 t128 t129 t130 t131 t132 t133 t134 t135 t136 t137 t138 t139 k (IntKind.wrap .i64 (t140 + 1)))) (fun j160 => cond (t140 != t118) ((regs_Get_24.f K t120 t121 t122 t123 t124 t125 t126 t127 t128 t129 t130 t131 t132 t133 t134 t135 t136 t137 t138 t139 p1 t140).bind fun t148 => (regs_Get_24.f K p0_0 p0_1 p0_2 p0_3 p0_4 p0_5 p0_6 p0_7 p0_8 p0_9 p0_10 p0_11 p0_12 p0_13 p0_14 p0_15 p0_16 p0_17 p0_18 p0_19 p1 t140).bind fun t150 => j160 (t148 != t150)) (j160 false))) (some (Lp.go ()))
set_option maxRecDepth 100000 in
theorem charabanclaw11_RegsBack_8.l0_ok (K : Nat) (M0 : Nat → Prop) (w0 : World) (p0_0 : Int) (p0_1 : Int) (p0_2 : Int) (p0_3 : Int) (p0_4 : Int) (p0_5 : Int) (p0_6 : Int) (p0_7 : Int) (p0_8 : Int) (p0_9 : Int) (p0_10 : Int) (p0_11 : Int) (p0_12 : Int) (p0_13 : Int) (p0_14 : Int) (p0_15 : Bool) (p0_16 : Bool) (p0_17 : Bool) (p0_18 : Bool) (p0_19 : Int) (p1 : Int) (p2 : Int) (t118 : Int) (t120 : Int) (t121 : Int) (t122 : Int) (t123 : Int) (t124 : Int) (t125 : Int) (t126 : Int) (t127 : Int) (t128 : Int) (t129 : Int) (t130 : Int) (t131 : Int) (t132 : Int) (t133 : Int) (t134 : Int) (t135 : Bool) (t136 : Bool) (t137 : Bool) (t138 : Bool) (t139 : Int) (b117 : Nat) (b119 : Nat) (R : Ending → World → Prop) (x : Lp Unit Unit) (hk0 : ∀ (w1 : World), x = Lp.go () → Holds M0 w0 w1 [box b117 46 [.int .u16 p0_0, .int .u16 p0_1, .int .u16 p0_2, .int .u16 p0_3, .int .u16 p0_4, .int .u16 p0_5, .int .u16 p0_6, .int .u16 p0_7, .int .u16 p0_8, .int .u16 p0_9, .int .u16 p0_10, .int .u16 p0_11, .int .u16 p0_12, .int .u8 p0_13, .int .u8 p0_14, .bool p0_15, .bool p0_16, .bool p0_17, .bool p0_18, .int .i64 p0_19], gl 2 (tab_2.flatMap en_2), gl 4 (tab_4.flatMap en_4), gl 5 (tab_5.flatMap en_5)] → RunsI F8 [.c 57, .lp 17, .blk 0, .c 58] [(1, .int .i64 p1), (2, .int .u16 p2), (3, .pointer (some ⟨b117, 0, none⟩)), (8, .int .i64 t118)] w1 R) (hk1 : ∀ (w1 : World), x = Lp.ret () → Holds M0 w0 w1 [gl 2 (tab_2.flatMap en_2), gl 4 (tab_4.flatMap en_4), gl 5 (tab_5.flatMap en_5)] → R (.returned (.bool false)) w1) :
    ∀ (k : Nat) (t140 : Int) (w : World), charabanclaw11_RegsBack_8.l0 K p0_0 p0_1 p0_2 p0_3 p0_4 p0_5 p0_6 p0_7 p0_8 p0_9 p0_10 p0_11 p0_12 p0_13 p0_14 p0_15 p0_16 p0_17 p0_18 p0_19 p1 p2 t118 t120 t121 t122 t123 t124 t125 t126 t127 t128 t129 t130 t131 t132 t133 t134 t135 t136 t137 t138 t139 k t140 = some x → Holds M0 w0 w [box b117 46 [.int .u16 p0_0, .int .u16 p0_1, .int .u16 p0_2, .int .u16 p0_3, .int .u16 p0_4, .int .u16 p0_5, .int .u16 p0_6, .int .u16 p0_7, .int .u16 p0_8, .int .u16 p0_9, .int .u16 p0_10, .int .u16 p0_11, .int .u16 p0_12, .int .u8 p0_13, .int .u8 p0_14, .bool p0_15, .bool p0_16, .bool p0_17, .bool p0_18, .int .i64 p0_19], box b119 46 [.int .u16 t120, .int .u16 t121, .int .u16 t122, .int .u16 t123, .int .u16 t124, .int .u16 t125, .int .u16 t126, .int .u16 t127, .int .u16 t128, .int .u16 t129, .int .u16 t130, .int .u16 t131, .int .u16 t132, .int .u8 t133, .int .u8 t134, .bool t135, .bool t136, .bool t137, .bool t138, .int .i64 t139], gl 2 (tab_2.flatMap en_2), gl 4 (tab_4.flatMap en_4), gl 5 (tab_5.flatMap en_5)] → RunsI F8 [.c 41, .lp 41, .blk 2, .blk 1, .c 57, .lp 17, .blk 0, .c 58] [(1, .int .i64 p1), (2, .int .u16 p2), (3, .pointer (some ⟨b117, 0, none⟩)), (8, .int .i64 t118), (10, .pointer (some ⟨b119, 0, none⟩)), (11, .int .i64 t140)] w R := by
  intro k
  induction k with
  | zero => intro t140 w h hH; exact absurd h (by simp [charabanclaw11_RegsBack_8.l0])
  | succ k ih =>
    intro t140 w h hH
    rw [charabanclaw11_RegsBack_8.l0.eq_2] at h
    refine RunsI.go 1 [.c 42, .c 47, .lp 41, .blk 2, .blk 1, .c 57, .lp 17, .blk 0, .c 58] (by kernel_rfl) ?_
    refine RunsI.go 1 [.c 43, .c 44, .c 47, .lp 41, .blk 2, .blk 1, .c 57, .lp 17, .blk 0, .c 58] (by kernel_rfl) ?_
    refine RunsI.region (by kernel_rfl) ?_
    refine RegI.pure 2 [1, 2, 3, 8, 10, 11, 54] [(1, .int .i64 p1), (2, .int .u16 p2), (3, .pointer (some ⟨b117, 0, none⟩)), (8, .int .i64 t118), (10, .pointer (some ⟨b119, 0, none⟩)), (11, .int .i64 t140), (54, .bool (decide (t140 < 8)))] (by kernel_rfl) ?_
    refine RegI.done (by kernel_rfl) ?_
    rcases of_cond h with ⟨hc141, h⟩ | ⟨hc141, h⟩
    · skip
      refine RunsI.fix 54 true hc141 (by kernel_rfl) (by kernel_rfl) ?_
      refine RunsI.cond true 45 (by kernel_rfl) ?_
      refine RunsI.go 1 [.c 47, .lp 41, .blk 2, .blk 1, .c 57, .lp 17, .blk 0, .c 58] (by kernel_rfl) ?_
      refine RunsI.go 3 [.c 50, .c 51, .blk 3, .c 56, .lp 41, .blk 2, .blk 1, .c 57, .lp 17, .blk 0, .c 58] (by kernel_rfl) ?_
      refine RunsI.any 14 (by kernel_rfl) (by kernel_rfl) (by kernel_rfl) (Kp ([] : List Nat) (World.drew w)) ?_
      have h143 := hH.drew
      generalize World.drew w = w142 at h143 ⊢
      have hS144 := Kp.refl ([] : List Nat) w142
      refine AnyE.pure 0 57 (.int .i64 t140) (by kernel_rfl) hS144 (fun _ => by kernel_rfl) ?_
      refine AnyE.pure 1 58 (.int .i64 t118) (by kernel_rfl) hS144 (fun _ => by kernel_rfl) ?_
      refine AnyE.pure 2 59 (.bool (t140 != t118)) (by kernel_rfl) hS144 (fun _ => by kernel_rfl) ?_
      refine AnyE.pure 3 60 (.bool (t140 != t118)) (by kernel_rfl) hS144 (fun _ => by kernel_rfl) ?_
      obtain ⟨j160, hJ161, h⟩ := of_let h
      have hj162 : ∀ (t157 : Bool) (w159 : World), j160 t157 = some x → Holds M0 w0 w159 [box b117 46 [.int .u16 p0_0, .int .u16 p0_1, .int .u16 p0_2, .int .u16 p0_3, .int .u16 p0_4, .int .u16 p0_5, .int .u16 p0_6, .int .u16 p0_7, .int .u16 p0_8, .int .u16 p0_9, .int .u16 p0_10, .int .u16 p0_11, .int .u16 p0_12, .int .u8 p0_13, .int .u8 p0_14, .bool p0_15, .bool p0_16, .bool p0_17, .bool p0_18, .int .i64 p0_19], box b119 46 [.int .u16 t120, .int .u16 t121, .int .u16 t122, .int .u16 t123, .int .u16 t124, .int .u16 t125, .int .u16 t126, .int .u16 t127, .int .u16 t128, .int .u16 t129, .int .u16 t130, .int .u16 t131, .int .u16 t132, .int .u8 t133, .int .u8 t134, .bool t135, .bool t136, .bool t137, .bool t138, .int .i64 t139], gl 2 (tab_2.flatMap en_2), gl 4 (tab_4.flatMap en_4), gl 5 (tab_5.flatMap en_5)] → RunsI F8 [.c 51, .blk 3, .c 56, .lp 41, .blk 2, .blk 1, .c 57, .lp 17, .blk 0, .c 58] [(1, .int .i64 p1), (2, .int .u16 p2), (3, .pointer (some ⟨b117, 0, none⟩)), (8, .int .i64 t118), (10, .pointer (some ⟨b119, 0, none⟩)), (11, .int .i64 t140), (70, .bool t157)] w159 R := by
        intro t157 w159 h h158
        rw [hJ161] at h
        clear hJ161
        dsimp only at h
        rcases of_cond h with ⟨hc163, h⟩ | ⟨hc163, h⟩
        · skip
          refine RunsI.fix 70 true hc163 (by kernel_rfl) (by kernel_rfl) ?_
          refine RunsI.cond true 52 (by kernel_rfl) ?_
          refine RunsI.go 1 [.c 53, .c 54, .blk 3, .c 56, .lp 41, .blk 2, .blk 1, .c 57, .lp 17, .blk 0, .c 58] (by kernel_rfl) ?_
          refine RunsI.region (by kernel_rfl) ?_
          refine RegI.pure 1 [6] [(6, .bool false)] (by kernel_rfl) ?_
          refine RegI.done (by kernel_rfl) ?_
          refine RunsI.ret (.bool false) (by kernel_rfl) (by kernel_rfl) ?_
          exact hk1 w159 (Option.some.inj h).symm (h158.pick [2, 3, 4] (by decide))
        · skip
          refine RunsI.fix 70 false hc163 (by kernel_rfl) (by kernel_rfl) ?_
          refine RunsI.cond false 55 (by kernel_rfl) ?_
          refine RunsI.go 1 [.blk 3, .c 56, .lp 41, .blk 2, .blk 1, .c 57, .lp 17, .blk 0, .c 58] (by kernel_rfl) ?_
          refine RunsI.go 1 [.c 56, .lp 41, .blk 2, .blk 1, .c 57, .lp 17, .blk 0, .c 58] (by kernel_rfl) ?_
          refine RunsI.region (by kernel_rfl) ?_
          refine RegI.pure 3 [1, 2, 3, 8, 10, 11] [(1, .int .i64 p1), (2, .int .u16 p2), (3, .pointer (some ⟨b117, 0, none⟩)), (8, .int .i64 t118), (10, .pointer (some ⟨b119, 0, none⟩)), (11, .int .i64 (IntKind.wrap .i64 (t140 + 1)))] (by kernel_rfl) ?_
          refine RegI.done (by kernel_rfl) ?_
          refine RunsI.go 1 [.c 41, .lp 41, .blk 2, .blk 1, .c 57, .lp 17, .blk 0, .c 58] (by kernel_rfl) ?_
          refine RunsI.only [1, 2, 3, 8, 10, 11] [(1, .int .i64 p1), (2, .int .u16 p2), (3, .pointer (some ⟨b117, 0, none⟩)), (8, .int .i64 t118), (10, .pointer (some ⟨b119, 0, none⟩)), (11, .int .i64 (IntKind.wrap .i64 (t140 + 1)))] (by kernel_rfl) (by kernel_rfl) ?_
          exact ih (IntKind.wrap .i64 (t140 + 1)) w159 h (h158.pick [0, 1, 2, 3, 4] (by decide))
      clear hJ161
      rcases of_cond h with ⟨hc146, h⟩ | ⟨hc146, h⟩
      · skip
        refine AnyE.fix 60 true hc146 (by kernel_rfl) (by kernel_rfl) ?_
        refine AnyE.loadBox 4 61 1 46 b119 0 (.agg #[.int .u16 t120, .int .u16 t121, .int .u16 t122, .int .u16 t123, .int .u16 t124, .int .u16 t125, .int .u16 t126, .int .u16 t127, .int .u16 t128, .int .u16 t129, .int .u16 t130, .int .u16 t131, .int .u16 t132, .int .u8 t133, .int .u8 t134, .bool t135, .bool t136, .bool t137, .bool t138, .int .i64 t139]) [] h143 rfl (by kernel_rfl) hS144 rfl rfl (by kernel_rfl) (by kernel_rfl) ?_
        refine AnyE.pure 5 62 (.int .i64 p1) (by kernel_rfl) hS144 (fun _ => by kernel_rfl) ?_
        refine AnyE.pure 6 63 (.int .i64 t140) (by kernel_rfl) hS144 (fun _ => by kernel_rfl) ?_
        obtain ⟨t148, hg147, h⟩ := of_bind h
        refine AnyE.call 7 64 (.int .u8 t148) 24 #[.agg #[.int .u16 t120, .int .u16 t121, .int .u16 t122, .int .u16 t123, .int .u16 t124, .int .u16 t125, .int .u16 t126, .int .u16 t127, .int .u16 t128, .int .u16 t129, .int .u16 t130, .int .u16 t131, .int .u16 t132, .int .u8 t133, .int .u8 t134, .bool t135, .bool t136, .bool t137, .bool t138, .int .i64 t139], .int .i64 p1, .int .i64 t140] (by kernel_rfl) hS144 (fun _ => by kernel_rfl) (fun w hk => regs_Get_24_ok K (fun _ => False) w t120 t121 t122 t123 t124 t125 t126 t127 t128 t129 t130 t131 t132 t133 t134 t135 t136 t137 t138 t139 p1 t140 (fun _ hf => hf.elim) hg147) ?_
        refine AnyE.loadBox 8 65 0 46 b117 0 (.agg #[.int .u16 p0_0, .int .u16 p0_1, .int .u16 p0_2, .int .u16 p0_3, .int .u16 p0_4, .int .u16 p0_5, .int .u16 p0_6, .int .u16 p0_7, .int .u16 p0_8, .int .u16 p0_9, .int .u16 p0_10, .int .u16 p0_11, .int .u16 p0_12, .int .u8 p0_13, .int .u8 p0_14, .bool p0_15, .bool p0_16, .bool p0_17, .bool p0_18, .int .i64 p0_19]) [] h143 rfl (by kernel_rfl) hS144 rfl rfl (by kernel_rfl) (by kernel_rfl) ?_
        refine AnyE.pure 9 66 (.int .i64 p1) (by kernel_rfl) hS144 (fun _ => by kernel_rfl) ?_
        refine AnyE.pure 10 67 (.int .i64 t140) (by kernel_rfl) hS144 (fun _ => by kernel_rfl) ?_
        obtain ⟨t150, hg149, h⟩ := of_bind h
        refine AnyE.call 11 68 (.int .u8 t150) 24 #[.agg #[.int .u16 p0_0, .int .u16 p0_1, .int .u16 p0_2, .int .u16 p0_3, .int .u16 p0_4, .int .u16 p0_5, .int .u16 p0_6, .int .u16 p0_7, .int .u16 p0_8, .int .u16 p0_9, .int .u16 p0_10, .int .u16 p0_11, .int .u16 p0_12, .int .u8 p0_13, .int .u8 p0_14, .bool p0_15, .bool p0_16, .bool p0_17, .bool p0_18, .int .i64 p0_19], .int .i64 p1, .int .i64 t140] (by kernel_rfl) hS144 (fun _ => by kernel_rfl) (fun w hk => regs_Get_24_ok K (fun _ => False) w p0_0 p0_1 p0_2 p0_3 p0_4 p0_5 p0_6 p0_7 p0_8 p0_9 p0_10 p0_11 p0_12 p0_13 p0_14 p0_15 p0_16 p0_17 p0_18 p0_19 p1 t140 (fun _ hf => hf.elim) hg149) ?_
        refine AnyE.pure 12 69 (.bool (t148 != t150)) (by kernel_rfl) hS144 (fun _ => by kernel_rfl) ?_
        refine AnyE.pure 13 70 (.bool (t148 != t150)) (by kernel_rfl) hS144 (fun _ => by kernel_rfl) ?_
        refine AnyE.done (by kernel_rfl) (fun w151 hu152 => ?_)
        have h153 := h143.call hu152
        refine RunsI.only [1, 2, 3, 8, 10, 11, 70] [(1, .int .i64 p1), (2, .int .u16 p2), (3, .pointer (some ⟨b117, 0, none⟩)), (8, .int .i64 t118), (10, .pointer (some ⟨b119, 0, none⟩)), (11, .int .i64 t140), (70, .bool (t148 != t150))] (by kernel_rfl) (by kernel_rfl) ?_
        refine RunsI.only [1, 2, 3, 8, 10, 11, 70] [(1, .int .i64 p1), (2, .int .u16 p2), (3, .pointer (some ⟨b117, 0, none⟩)), (8, .int .i64 t118), (10, .pointer (some ⟨b119, 0, none⟩)), (11, .int .i64 t140), (70, .bool (t148 != t150))] (by kernel_rfl) (by kernel_rfl) ?_
        exact hj162 (t148 != t150) w151 h (h153.pick [0, 1, 2, 3, 4] (by decide))
      · skip
        refine AnyE.fix 60 false hc146 (by kernel_rfl) (by kernel_rfl) ?_
        refine AnyE.no 4 61 (by kernel_rfl) hS144 ?_
        refine AnyE.no 5 62 (by kernel_rfl) hS144 ?_
        refine AnyE.no 6 63 (by kernel_rfl) hS144 ?_
        refine AnyE.no 7 64 (by kernel_rfl) hS144 ?_
        refine AnyE.no 8 65 (by kernel_rfl) hS144 ?_
        refine AnyE.no 9 66 (by kernel_rfl) hS144 ?_
        refine AnyE.no 10 67 (by kernel_rfl) hS144 ?_
        refine AnyE.no 11 68 (by kernel_rfl) hS144 ?_
        refine AnyE.no 12 69 (by kernel_rfl) hS144 ?_
        refine AnyE.pure 13 70 (.bool false) (by kernel_rfl) hS144 (fun _ => by kernel_rfl) ?_
        refine AnyE.done (by kernel_rfl) (fun w154 hu155 => ?_)
        have h156 := h143.call hu155
        refine RunsI.only [1, 2, 3, 8, 10, 11, 70] [(1, .int .i64 p1), (2, .int .u16 p2), (3, .pointer (some ⟨b117, 0, none⟩)), (8, .int .i64 t118), (10, .pointer (some ⟨b119, 0, none⟩)), (11, .int .i64 t140), (70, .bool false)] (by kernel_rfl) (by kernel_rfl) ?_
        refine RunsI.only [1, 2, 3, 8, 10, 11, 70] [(1, .int .i64 p1), (2, .int .u16 p2), (3, .pointer (some ⟨b117, 0, none⟩)), (8, .int .i64 t118), (10, .pointer (some ⟨b119, 0, none⟩)), (11, .int .i64 t140), (70, .bool false)] (by kernel_rfl) (by kernel_rfl) ?_
        exact hj162 false w154 h (h156.pick [0, 1, 2, 3, 4] (by decide))
    · skip
      refine RunsI.fix 54 false hc141 (by kernel_rfl) (by kernel_rfl) ?_
      refine RunsI.cond false 46 (by kernel_rfl) ?_
      refine RunsI.go 2 [.c 57, .lp 17, .blk 0, .c 58] (by kernel_rfl) ?_
      refine RunsI.only [1, 2, 3, 8] [(1, .int .i64 p1), (2, .int .u16 p2), (3, .pointer (some ⟨b117, 0, none⟩)), (8, .int .i64 t118)] (by kernel_rfl) (by kernel_rfl) ?_
      exact hk0 w (Option.some.inj h).symm (hH.pick [0, 2, 3, 4] (by decide))
def charabanclaw11_RegsBack_8.l1 (K : Nat) (p0_0 : Int) (p0_1 : Int) (p0_2 : Int) (p0_3 : Int) (p0_4 : Int) (p0_5 : Int) (p0_6 : Int) (p0_7 : Int) (p0_8 : Int) (p0_9 : Int) (p0_10 : Int) (p0_11 : Int) (p0_12 : Int) (p0_13 : Int) (p0_14 : Int) (p0_15 : Bool) (p0_16 : Bool) (p0_17 : Bool) (p0_18 : Bool) (p0_19 : Int) (p1 : Int) (p2 : Int) : Nat → Int → Option (Lp Unit Unit)
  | 0, _ => none
  | k + 1, t13 => cond (decide (t13 < 8)) ((regs_Set_38.f K p0_0 p0_1 p0_2 p0_3 p0_4 p0_5 p0_6 p0_7 p0_8 p0_9 p0_10 p0_11 p0_12 p0_13 p0_14 p0_15 p0_16 p0_17 p0_18 p0_19 p1 t13 (IntKind.wrap .u8 ((IntKind.wrap .u8 p2) + (IntKind.wrap .u8 t13)))).bind fun yt19 => Let (fun (t110 : Bool) => cond t110 (some (Lp.ret ())) ((charabanclaw11_RegsBack_8.l0 K p0_0 p0_1 p0_2 p0_3 p0_4 p0_5 p0_6 p0_7 p0_8 p0_9 p0_10 p0_11 p0_12 p0_13 p0_14 p0_15 p0_16 p0_17 p0_18 p0_19 p1 p2 t13 yt19.1 yt19.2.1 yt19.2.2.1 yt19.2.2.2.1 yt19.2.2.2.2.1 yt19.2.2.2.2.2.1 yt19.2.2.2.2.2.2.1 yt19.2.2.2.2.2.2.2.1 yt19.2.2.2.2.2.2.2.2.1 yt19.2.2.2.2.2.2.2.2.2.1 yt19.2.2.2.2.2.2.2.2.2.2.1 yt19.2.2.2.2.2.2.2.2.2.2.2.1 yt19.2.2.2.2.2.2.2.2.2.2.2.2.1 yt19.2.2.2.2.2.2.2.2.2.2.2.2.2.1 yt19.2.2.2.2.2.2.2.2.2.2.2.2.2.2.1 yt19.2.2.2.2.2.2.2.2.2.2.2.2.2.2.2.1 yt19.2.2.2.2.2.2.2.2.2.2.2.2.2.2.2.2.1 yt19.2.2.2.2.2.2.2.2.2.2.2.2.2.2.2.2.2.1 yt19.2.2.2.2.2.2.2.2.2.2.2.2.2.2.2.2.2.2.1 yt19.2.2.2.2.2.2.2.2.2.2.2.2.2.2.2.2.2.2.2 K 0).bind (fun x164 => Lp.elim x164 (fun _ => some (Lp.ret ())) (fun _ => charabanclaw11_RegsBack_8.l1 K p0_0 p0_1 p0_2 p0_3 p0_4 p0_5 p0_6 p0_7 p0_8 p0_9 p0_10 p0_11 p0_12 p0_13 p0_14 p0_15 p0_16 p0_17 p0_18 p0_19 p1 p2 k (IntKind.wrap .i64 (t13 + 1)))))) (fun j113 => cond (t13 != 6) ((regs_Get_24.f K yt19.1 yt19.2.1 yt19.2.2.1 yt19.2.2.2.1 yt19.2.2.2.2.1 yt19.2.2.2.2.2.1 yt19.2.2.2.2.2.2.1 yt19.2.2.2.2.2.2.2.1 yt19.2.2.2.2.2.2.2.2.1 yt19.2.2.2.2.2.2.2.2.2.1 yt19.2.2.2.2.2.2.2.2.2.2.1 yt19.2.2.2.2.2.2.2.2.2.2.2.1 yt19.2.2.2.2.2.2.2.2.2.2.2.2.1 yt19.2.2.2.2.2.2.2.2.2.2.2.2.2.1 yt19.2.2.2.2.2.2.2.2.2.2.2.2.2.2.1 yt19.2.2.2.2.2.2.2.2.2.2.2.2.2.2.2.1 yt19.2.2.2.2.2.2.2.2.2.2.2.2.2.2.2.2.1 yt19.2.2.2.2.2.2.2.2.2.2.2.2.2.2.2.2.2.1 yt19.2.2.2.2.2.2.2.2.2.2.2.2.2.2.2.2.2.2.1 yt19.2.2.2.2.2.2.2.2.2.2.2.2.2.2.2.2.2.2.2 p1 t13).bind fun t53 => cond (t53 != (IntKind.wrap .u8 ((IntKind.wrap .u8 p2) + (IntKind.wrap .u8 t13)))) (j113 true) ((regs_Get_24.f K p0_0 p0_1 p0_2 p0_3 p0_4 p0_5 p0_6 p0_7 p0_8 p0_9 p0_10 p0_11 p0_12 p0_13 p0_14 p0_15 p0_16 p0_17 p0_18 p0_19 p1 t13).bind fun t59 => (regs_Set_38.f K yt19.1 yt19.2.1 yt19.2.2.1 yt19.2.2.2.1 yt19.2.2.2.2.1 yt19.2.2.2.2.2.1 yt19.2.2.2.2.2.2.1 yt19.2.2.2.2.2.2.2.1 yt19.2.2.2.2.2.2.2.2.1 yt19.2.2.2.2.2.2.2.2.2.1 yt19.2.2.2.2.2.2.2.2.2.2.1 yt19.2.2.2.2.2.2.2.2.2.2.2.1 yt19.2.2.2.2.2.2.2.2.2.2.2.2.1 yt19.2.2.2.2.2.2.2.2.2.2.2.2.2.1 yt19.2.2.2.2.2.2.2.2.2.2.2.2.2.2.1 yt19.2.2.2.2.2.2.2.2.2.2.2.2.2.2.2.1 yt19.2.2.2.2.2.2.2.2.2.2.2.2.2.2.2.2.1 yt19.2.2.2.2.2.2.2.2.2.2.2.2.2.2.2.2.2.1 yt19.2.2.2.2.2.2.2.2.2.2.2.2.2.2.2.2.2.2.1 yt19.2.2.2.2.2.2.2.2.2.2.2.2.2.2.2.2.2.2.2 p1 t13 t59).bind fun yt61 => j113 (!((yt61.1 == p0_0) && ((yt61.2.1 == p0_1) && ((yt61.2.2.1 == p0_2) && ((yt61.2.2.2.1 == p0_3) && ((yt61.2.2.2.2.1 == p0_4) && ((yt61.2.2.2.2.2.1 == p0_5) && ((yt61.2.2.2.2.2.2.1 == p0_6) && ((yt61.2.2.2.2.2.2.2.1 == p0_7) && ((yt61.2.2.2.2.2.2.2.2.1 == p0_8) && ((yt61.2.2.2.2.2.2.2.2.2.1 == p0_9) && ((yt61.2.2.2.2.2.2.2.2.2.2.1 == p0_10) && ((yt61.2.2.2.2.2.2.2.2.2.2.2.1 == p0_11) && ((yt61.2.2.2.2.2.2.2.2.2.2.2.2.1 == p0_12) && ((yt61.2.2.2.2.2.2.2.2.2.2.2.2.2.1 == p0_13) && ((yt61.2.2.2.2.2.2.2.2.2.2.2.2.2.2.1 == p0_14) && ((yt61.2.2.2.2.2.2.2.2.2.2.2.2.2.2.2.1 == p0_15) && ((yt61.2.2.2.2.2.2.2.2.2.2.2.2.2.2.2.2.1 == p0_16) && ((yt61.2.2.2.2.2.2.2.2.2.2.2.2.2.2.2.2.2.1 == p0_17) && ((yt61.2.2.2.2.2.2.2.2.2.2.2.2.2.2.2.2.2.2.1 == p0_18) && ((yt61.2.2.2.2.2.2.2.2.2.2.2.2.2.2.2.2.2.2.2 == p0_19) && true))))))))))))))))))))))) ((regs_Get_24.f K p0_0 p0_1 p0_2 p0_3 p0_4 p0_5 p0_6 p0_7 p0_8 p0_9 p0_10 p0_11 p0_12 p0_13 p0_14 p0_15 p0_16 p0_17 p0_18 p0_19 p1 t13).bind fun t85 => (regs_Set_38.f K yt19.1 yt19.2.1 yt19.2.2.1 yt19.2.2.2.1 yt19.2.2.2.2.1 yt19.2.2.2.2.2.1 yt19.2.2.2.2.2.2.1 yt19.2.2.2.2.2.2.2.1 yt19.2.2.2.2.2.2.2.2.1 yt19.2.2.2.2.2.2.2.2.2.1 yt19.2.2.2.2.2.2.2.2.2.2.1 yt19.2.2.2.2.2.2.2.2.2.2.2.1 yt19.2.2.2.2.2.2.2.2.2.2.2.2.1 yt19.2.2.2.2.2.2.2.2.2.2.2.2.2.1 yt19.2.2.2.2.2.2.2.2.2.2.2.2.2.2.1 yt19.2.2.2.2.2.2.2.2.2.2.2.2.2.2.2.1 yt19.2.2.2.2.2.2.2.2.2.2.2.2.2.2.2.2.1 yt19.2.2.2.2.2.2.2.2.2.2.2.2.2.2.2.2.2.1 yt19.2.2.2.2.2.2.2.2.2.2.2.2.2.2.2.2.2.2.1 yt19.2.2.2.2.2.2.2.2.2.2.2.2.2.2.2.2.2.2.2 p1 t13 t85).bind fun yt87 => j113 (!((yt87.1 == p0_0) && ((yt87.2.1 == p0_1) && ((yt87.2.2.1 == p0_2) && ((yt87.2.2.2.1 == p0_3) && ((yt87.2.2.2.2.1 == p0_4) && ((yt87.2.2.2.2.2.1 == p0_5) && ((yt87.2.2.2.2.2.2.1 == p0_6) && ((yt87.2.2.2.2.2.2.2.1 == p0_7) && ((yt87.2.2.2.2.2.2.2.2.1 == p0_8) && ((yt87.2.2.2.2.2.2.2.2.2.1 == p0_9) && ((yt87.2.2.2.2.2.2.2.2.2.2.1 == p0_10) && ((yt87.2.2.2.2.2.2.2.2.2.2.2.1 == p0_11) && ((yt87.2.2.2.2.2.2.2.2.2.2.2.2.1 == p0_12) && ((yt87.2.2.2.2.2.2.2.2.2.2.2.2.2.1 == p0_13) && ((yt87.2.2.2.2.2.2.2.2.2.2.2.2.2.2.1 == p0_14) && ((yt87.2.2.2.2.2.2.2.2.2.2.2.2.2.2.2.1 == p0_15) && ((yt87.2.2.2.2.2.2.2.2.2.2.2.2.2.2.2.2.1 == p0_16) && ((yt87.2.2.2.2.2.2.2.2.2.2.2.2.2.2.2.2.2.1 == p0_17) && ((yt87.2.2.2.2.2.2.2.2.2.2.2.2.2.2.2.2.2.2.1 == p0_18) && ((yt87.2.2.2.2.2.2.2.2.2.2.2.2.2.2.2.2.2.2.2 == p0_19) && true)))))))))))))))))))))))) (some (Lp.go ()))
set_option maxRecDepth 100000 in
theorem charabanclaw11_RegsBack_8.l1_ok (K : Nat) (M0 : Nat → Prop) (w0 : World) (p0_0 : Int) (p0_1 : Int) (p0_2 : Int) (p0_3 : Int) (p0_4 : Int) (p0_5 : Int) (p0_6 : Int) (p0_7 : Int) (p0_8 : Int) (p0_9 : Int) (p0_10 : Int) (p0_11 : Int) (p0_12 : Int) (p0_13 : Int) (p0_14 : Int) (p0_15 : Bool) (p0_16 : Bool) (p0_17 : Bool) (p0_18 : Bool) (p0_19 : Int) (p1 : Int) (p2 : Int) (b12 : Nat) (R : Ending → World → Prop) (x : Lp Unit Unit) (hk0 : ∀ (w1 : World), x = Lp.go () → Holds M0 w0 w1 [box b12 46 [.int .u16 p0_0, .int .u16 p0_1, .int .u16 p0_2, .int .u16 p0_3, .int .u16 p0_4, .int .u16 p0_5, .int .u16 p0_6, .int .u16 p0_7, .int .u16 p0_8, .int .u16 p0_9, .int .u16 p0_10, .int .u16 p0_11, .int .u16 p0_12, .int .u8 p0_13, .int .u8 p0_14, .bool p0_15, .bool p0_16, .bool p0_17, .bool p0_18, .int .i64 p0_19], gl 2 (tab_2.flatMap en_2), gl 4 (tab_4.flatMap en_4), gl 5 (tab_5.flatMap en_5)] → RunsI F8 [.c 58] [(1, .int .i64 p1), (2, .int .u16 p2), (3, .pointer (some ⟨b12, 0, none⟩))] w1 R) (hk1 : ∀ (w1 : World), x = Lp.ret () → Holds M0 w0 w1 [gl 2 (tab_2.flatMap en_2), gl 4 (tab_4.flatMap en_4), gl 5 (tab_5.flatMap en_5)] → R (.returned (.bool false)) w1) :
    ∀ (k : Nat) (t13 : Int) (w : World), charabanclaw11_RegsBack_8.l1 K p0_0 p0_1 p0_2 p0_3 p0_4 p0_5 p0_6 p0_7 p0_8 p0_9 p0_10 p0_11 p0_12 p0_13 p0_14 p0_15 p0_16 p0_17 p0_18 p0_19 p1 p2 k t13 = some x → Holds M0 w0 w [box b12 46 [.int .u16 p0_0, .int .u16 p0_1, .int .u16 p0_2, .int .u16 p0_3, .int .u16 p0_4, .int .u16 p0_5, .int .u16 p0_6, .int .u16 p0_7, .int .u16 p0_8, .int .u16 p0_9, .int .u16 p0_10, .int .u16 p0_11, .int .u16 p0_12, .int .u8 p0_13, .int .u8 p0_14, .bool p0_15, .bool p0_16, .bool p0_17, .bool p0_18, .int .i64 p0_19], gl 2 (tab_2.flatMap en_2), gl 4 (tab_4.flatMap en_4), gl 5 (tab_5.flatMap en_5)] → RunsI F8 [.c 17, .lp 17, .blk 0, .c 58] [(1, .int .i64 p1), (2, .int .u16 p2), (3, .pointer (some ⟨b12, 0, none⟩)), (8, .int .i64 t13)] w R := by
  intro k
  induction k with
  | zero => intro t13 w h hH; exact absurd h (by simp [charabanclaw11_RegsBack_8.l1])
  | succ k ih =>
    intro t13 w h hH
    rw [charabanclaw11_RegsBack_8.l1.eq_2] at h
    refine RunsI.go 1 [.c 18, .c 23, .lp 17, .blk 0, .c 58] (by kernel_rfl) ?_
    refine RunsI.go 1 [.c 19, .c 20, .c 23, .lp 17, .blk 0, .c 58] (by kernel_rfl) ?_
    refine RunsI.region (by kernel_rfl) ?_
    refine RegI.pure 2 [1, 2, 3, 8, 18] [(1, .int .i64 p1), (2, .int .u16 p2), (3, .pointer (some ⟨b12, 0, none⟩)), (8, .int .i64 t13), (18, .bool (decide (t13 < 8)))] (by kernel_rfl) ?_
    refine RegI.done (by kernel_rfl) ?_
    rcases of_cond h with ⟨hc14, h⟩ | ⟨hc14, h⟩
    · skip
      refine RunsI.fix 18 true hc14 (by kernel_rfl) (by kernel_rfl) ?_
      refine RunsI.cond true 21 (by kernel_rfl) ?_
      refine RunsI.go 1 [.c 23, .lp 17, .blk 0, .c 58] (by kernel_rfl) ?_
      refine RunsI.go 3 [.c 26, .c 27, .blk 1, .c 57, .lp 17, .blk 0, .c 58] (by kernel_rfl) ?_
      refine RunsI.region (by kernel_rfl) ?_
      refine RegI.pure 6 [1, 2, 3, 8, 9] [(1, .int .i64 p1), (2, .int .u16 p2), (3, .pointer (some ⟨b12, 0, none⟩)), (8, .int .i64 t13), (9, .int .u8 (IntKind.wrap .u8 ((IntKind.wrap .u8 p2) + (IntKind.wrap .u8 t13))))] (by kernel_rfl) ?_
      refine RegI.done (by kernel_rfl) ?_
      refine RunsI.go 1 [.c 28, .c 29, .blk 1, .c 57, .lp 17, .blk 0, .c 58] (by kernel_rfl) ?_
      refine RunsI.region (by kernel_rfl) ?_
      refine RegI.op (by kernel_rfl) (OpE.loadBox 26 0 46 b12 0 (.agg #[.int .u16 p0_0, .int .u16 p0_1, .int .u16 p0_2, .int .u16 p0_3, .int .u16 p0_4, .int .u16 p0_5, .int .u16 p0_6, .int .u16 p0_7, .int .u16 p0_8, .int .u16 p0_9, .int .u16 p0_10, .int .u16 p0_11, .int .u16 p0_12, .int .u8 p0_13, .int .u8 p0_14, .bool p0_15, .bool p0_16, .bool p0_17, .bool p0_18, .int .i64 p0_19]) hH (by kernel_rfl) (by kernel_rfl) rfl (by kernel_rfl) ?_)
      refine RegI.pure 3 [1, 2, 3, 8, 9, 26, 27, 28, 29] [(1, .int .i64 p1), (2, .int .u16 p2), (3, .pointer (some ⟨b12, 0, none⟩)), (8, .int .i64 t13), (9, .int .u8 (IntKind.wrap .u8 ((IntKind.wrap .u8 p2) + (IntKind.wrap .u8 t13)))), (26, .agg #[.int .u16 p0_0, .int .u16 p0_1, .int .u16 p0_2, .int .u16 p0_3, .int .u16 p0_4, .int .u16 p0_5, .int .u16 p0_6, .int .u16 p0_7, .int .u16 p0_8, .int .u16 p0_9, .int .u16 p0_10, .int .u16 p0_11, .int .u16 p0_12, .int .u8 p0_13, .int .u8 p0_14, .bool p0_15, .bool p0_16, .bool p0_17, .bool p0_18, .int .i64 p0_19]), (27, .int .i64 p1), (28, .int .i64 t13), (29, .int .u8 (IntKind.wrap .u8 ((IntKind.wrap .u8 p2) + (IntKind.wrap .u8 t13))))] (by kernel_rfl) ?_
      obtain ⟨⟨t19, t20, t21, t22, t23, t24, t25, t26, t27, t28, t29, t30, t31, t32, t33, t34, t35, t36, t37, t38⟩, hg18, h⟩ := of_bind h
      dsimp only at h
      refine RegI.op (by kernel_rfl) (OpE.call 30 (by kernel_rfl) 38 #[.agg #[.int .u16 p0_0, .int .u16 p0_1, .int .u16 p0_2, .int .u16 p0_3, .int .u16 p0_4, .int .u16 p0_5, .int .u16 p0_6, .int .u16 p0_7, .int .u16 p0_8, .int .u16 p0_9, .int .u16 p0_10, .int .u16 p0_11, .int .u16 p0_12, .int .u8 p0_13, .int .u8 p0_14, .bool p0_15, .bool p0_16, .bool p0_17, .bool p0_18, .int .i64 p0_19], .int .i64 p1, .int .i64 t13, .int .u8 (IntKind.wrap .u8 ((IntKind.wrap .u8 p2) + (IntKind.wrap .u8 t13)))] (by kernel_rfl) ((regs_Set_38_ok K _ w  p0_0 p0_1 p0_2 p0_3 p0_4 p0_5 p0_6 p0_7 p0_8 p0_9 p0_10 p0_11 p0_12 p0_13 p0_14 p0_15 p0_16 p0_17 p0_18 p0_19 p1 t13 (IntKind.wrap .u8 ((IntKind.wrap .u8 p2) + (IntKind.wrap .u8 t13))) hH.old' hg18).mono ?_))
      rintro _ w15 ⟨rfl, hb16⟩
      refine ⟨_, rfl, ?_⟩
      have h17 := hH.call hb16
      refine RegI.op (by kernel_rfl) (OpE.box 10 46 [.int .u16 0, .int .u16 0, .int .u16 0, .int .u16 0, .int .u16 0, .int .u16 0, .int .u16 0, .int .u16 0, .int .u16 0, .int .u16 0, .int .u16 0, .int .u16 0, .int .u16 0, .int .u8 0, .int .u8 0, .bool false, .bool false, .bool false, .bool false, .int .i64 0] h17 (by kernel_rfl) (by kernel_rfl) ?_)
      intro w39 b40 h41 hb42 hn43
      refine RegI.op (by kernel_rfl) (OpE.storeBox 4 46 b40 0 (.agg #[.int .u16 t19, .int .u16 t20, .int .u16 t21, .int .u16 t22, .int .u16 t23, .int .u16 t24, .int .u16 t25, .int .u16 t26, .int .u16 t27, .int .u16 t28, .int .u16 t29, .int .u16 t30, .int .u16 t31, .int .u8 t32, .int .u8 t33, .bool t34, .bool t35, .bool t36, .bool t37, .int .i64 t38]) [.int .u16 t19, .int .u16 t20, .int .u16 t21, .int .u16 t22, .int .u16 t23, .int .u16 t24, .int .u16 t25, .int .u16 t26, .int .u16 t27, .int .u16 t28, .int .u16 t29, .int .u16 t30, .int .u16 t31, .int .u8 t32, .int .u8 t33, .bool t34, .bool t35, .bool t36, .bool t37, .int .i64 t38] h41 (by kernel_rfl) (by kernel_rfl) rfl (by kernel_rfl) (by kernel_rfl) (by kernel_rfl) ?_)
      intro w44 h45 hk46
      refine RegI.done (by kernel_rfl) ?_
      refine RunsI.go 2 [.c 31, .c 32, .c 37, .blk 1, .c 57, .lp 17, .blk 0, .c 58] (by kernel_rfl) ?_
      refine RunsI.any 22 (by kernel_rfl) (by kernel_rfl) (by kernel_rfl) (Kp ([] : List Nat) (World.drew w44)) ?_
      have h48 := h45.drew
      generalize World.drew w44 = w47 at h48 ⊢
      have hS49 := Kp.refl ([] : List Nat) w47
      refine AnyE.pure 0 31 (.int .i64 t13) (by kernel_rfl) hS49 (fun _ => by kernel_rfl) ?_
      refine AnyE.pure 1 32 (.bool (t13 != 6)) (by kernel_rfl) hS49 (fun _ => by kernel_rfl) ?_
      refine AnyE.pure 2 33 (.bool (t13 != 6)) (by kernel_rfl) hS49 (fun _ => by kernel_rfl) ?_
      obtain ⟨j113, hJ114, h⟩ := of_let h
      have hj115 : ∀ (t110 : Bool) (w112 : World), j113 t110 = some x → Holds M0 w0 w112 [box b12 46 [.int .u16 p0_0, .int .u16 p0_1, .int .u16 p0_2, .int .u16 p0_3, .int .u16 p0_4, .int .u16 p0_5, .int .u16 p0_6, .int .u16 p0_7, .int .u16 p0_8, .int .u16 p0_9, .int .u16 p0_10, .int .u16 p0_11, .int .u16 p0_12, .int .u8 p0_13, .int .u8 p0_14, .bool p0_15, .bool p0_16, .bool p0_17, .bool p0_18, .int .i64 p0_19], box b40 46 [.int .u16 t19, .int .u16 t20, .int .u16 t21, .int .u16 t22, .int .u16 t23, .int .u16 t24, .int .u16 t25, .int .u16 t26, .int .u16 t27, .int .u16 t28, .int .u16 t29, .int .u16 t30, .int .u16 t31, .int .u8 t32, .int .u8 t33, .bool t34, .bool t35, .bool t36, .bool t37, .int .i64 t38], gl 2 (tab_2.flatMap en_2), gl 4 (tab_4.flatMap en_4), gl 5 (tab_5.flatMap en_5)] → RunsI F8 [.c 32, .c 37, .blk 1, .c 57, .lp 17, .blk 0, .c 58] [(1, .int .i64 p1), (2, .int .u16 p2), (3, .pointer (some ⟨b12, 0, none⟩)), (8, .int .i64 t13), (10, .pointer (some ⟨b40, 0, none⟩)), (52, .bool t110)] w112 R := by
        intro t110 w112 h h111
        rw [hJ114] at h
        clear hJ114
        dsimp only at h
        rcases of_cond h with ⟨hc116, h⟩ | ⟨hc116, h⟩
        · skip
          refine RunsI.fix 52 true hc116 (by kernel_rfl) (by kernel_rfl) ?_
          refine RunsI.cond true 33 (by kernel_rfl) ?_
          refine RunsI.go 1 [.c 34, .c 35, .c 37, .blk 1, .c 57, .lp 17, .blk 0, .c 58] (by kernel_rfl) ?_
          refine RunsI.region (by kernel_rfl) ?_
          refine RegI.pure 1 [6] [(6, .bool false)] (by kernel_rfl) ?_
          refine RegI.done (by kernel_rfl) ?_
          refine RunsI.ret (.bool false) (by kernel_rfl) (by kernel_rfl) ?_
          exact hk1 w112 (Option.some.inj h).symm (h111.pick [2, 3, 4] (by decide))
        · skip
          refine RunsI.fix 52 false hc116 (by kernel_rfl) (by kernel_rfl) ?_
          refine RunsI.cond false 36 (by kernel_rfl) ?_
          refine RunsI.go 1 [.c 37, .blk 1, .c 57, .lp 17, .blk 0, .c 58] (by kernel_rfl) ?_
          refine RunsI.go 1 [.c 38, .c 39, .blk 1, .c 57, .lp 17, .blk 0, .c 58] (by kernel_rfl) ?_
          refine RunsI.region (by kernel_rfl) ?_
          refine RegI.pure 1 [1, 2, 3, 8, 10, 11] [(1, .int .i64 p1), (2, .int .u16 p2), (3, .pointer (some ⟨b12, 0, none⟩)), (8, .int .i64 t13), (10, .pointer (some ⟨b40, 0, none⟩)), (11, .int .i64 0)] (by kernel_rfl) ?_
          refine RegI.done (by kernel_rfl) ?_
          refine RunsI.go 2 [.c 41, .lp 41, .blk 2, .blk 1, .c 57, .lp 17, .blk 0, .c 58] (by kernel_rfl) ?_
          obtain ⟨x164, hx165, h⟩ := of_bind h
          refine RunsI.only [1, 2, 3, 8, 10, 11] [(1, .int .i64 p1), (2, .int .u16 p2), (3, .pointer (some ⟨b12, 0, none⟩)), (8, .int .i64 t13), (10, .pointer (some ⟨b40, 0, none⟩)), (11, .int .i64 0)] (by kernel_rfl) (by kernel_rfl) ?_
          refine charabanclaw11_RegsBack_8.l0_ok K M0 w0 p0_0 p0_1 p0_2 p0_3 p0_4 p0_5 p0_6 p0_7 p0_8 p0_9 p0_10 p0_11 p0_12 p0_13 p0_14 p0_15 p0_16 p0_17 p0_18 p0_19 p1 p2 t13 t19 t20 t21 t22 t23 t24 t25 t26 t27 t28 t29 t30 t31 t32 t33 t34 t35 t36 t37 t38 b12 b40 _ x164 ?_ ?_ K 0 w112 hx165 (h111.pick [0, 1, 2, 3, 4] (by decide))
          · intro w167 hq260 h166
            (try rw [hq260] at h)
            dsimp only [Lp.elim] at h
            refine RunsI.region (by kernel_rfl) ?_
            refine RegI.pure 3 [1, 2, 3, 8] [(1, .int .i64 p1), (2, .int .u16 p2), (3, .pointer (some ⟨b12, 0, none⟩)), (8, .int .i64 (IntKind.wrap .i64 (t13 + 1)))] (by kernel_rfl) ?_
            refine RegI.done (by kernel_rfl) ?_
            refine RunsI.go 1 [.c 17, .lp 17, .blk 0, .c 58] (by kernel_rfl) ?_
            refine RunsI.only [1, 2, 3, 8] [(1, .int .i64 p1), (2, .int .u16 p2), (3, .pointer (some ⟨b12, 0, none⟩)), (8, .int .i64 (IntKind.wrap .i64 (t13 + 1)))] (by kernel_rfl) (by kernel_rfl) ?_
            exact ih (IntKind.wrap .i64 (t13 + 1)) w167 h (h166.pick [0, 1, 2, 3] (by decide))
          · intro w169 hq261 h168
            (try rw [hq261] at h)
            dsimp only [Lp.elim] at h
            exact hk1 w169 (Option.some.inj h).symm (h168.pick [0, 1, 2] (by decide))
      clear hJ114
      rcases of_cond h with ⟨hc51, h⟩ | ⟨hc51, h⟩
      · skip
        refine AnyE.fix 33 true hc51 (by kernel_rfl) (by kernel_rfl) ?_
        refine AnyE.loadBox 3 34 4 46 b40 0 (.agg #[.int .u16 t19, .int .u16 t20, .int .u16 t21, .int .u16 t22, .int .u16 t23, .int .u16 t24, .int .u16 t25, .int .u16 t26, .int .u16 t27, .int .u16 t28, .int .u16 t29, .int .u16 t30, .int .u16 t31, .int .u8 t32, .int .u8 t33, .bool t34, .bool t35, .bool t36, .bool t37, .int .i64 t38]) [] h48 rfl (by kernel_rfl) hS49 rfl rfl (by kernel_rfl) (by kernel_rfl) ?_
        refine AnyE.pure 4 35 (.int .i64 p1) (by kernel_rfl) hS49 (fun _ => by kernel_rfl) ?_
        refine AnyE.pure 5 36 (.int .i64 t13) (by kernel_rfl) hS49 (fun _ => by kernel_rfl) ?_
        obtain ⟨t53, hg52, h⟩ := of_bind h
        refine AnyE.call 6 37 (.int .u8 t53) 24 #[.agg #[.int .u16 t19, .int .u16 t20, .int .u16 t21, .int .u16 t22, .int .u16 t23, .int .u16 t24, .int .u16 t25, .int .u16 t26, .int .u16 t27, .int .u16 t28, .int .u16 t29, .int .u16 t30, .int .u16 t31, .int .u8 t32, .int .u8 t33, .bool t34, .bool t35, .bool t36, .bool t37, .int .i64 t38], .int .i64 p1, .int .i64 t13] (by kernel_rfl) hS49 (fun _ => by kernel_rfl) (fun w hk => regs_Get_24_ok K (fun _ => False) w t19 t20 t21 t22 t23 t24 t25 t26 t27 t28 t29 t30 t31 t32 t33 t34 t35 t36 t37 t38 p1 t13 (fun _ hf => hf.elim) hg52) ?_
        refine AnyE.pure 7 38 (.int .u8 (IntKind.wrap .u8 ((IntKind.wrap .u8 p2) + (IntKind.wrap .u8 t13)))) (by kernel_rfl) hS49 (fun _ => by kernel_rfl) ?_
        refine AnyE.pure 8 39 (.bool (t53 != (IntKind.wrap .u8 ((IntKind.wrap .u8 p2) + (IntKind.wrap .u8 t13))))) (by kernel_rfl) hS49 (fun _ => by kernel_rfl) ?_
        refine AnyE.pure 9 40 (.bool (t53 != (IntKind.wrap .u8 ((IntKind.wrap .u8 p2) + (IntKind.wrap .u8 t13))))) (by kernel_rfl) hS49 (fun _ => by kernel_rfl) ?_
        refine AnyE.pure 10 41 (.bool (t53 != (IntKind.wrap .u8 ((IntKind.wrap .u8 p2) + (IntKind.wrap .u8 t13))))) (by kernel_rfl) hS49 (fun _ => by kernel_rfl) ?_
        rcases of_cond h with ⟨hc54, h⟩ | ⟨hc54, h⟩
        · skip
          refine AnyE.fix 41 true hc54 (by kernel_rfl) (by kernel_rfl) ?_
          refine AnyE.no 11 42 (by kernel_rfl) hS49 ?_
          refine AnyE.no 12 43 (by kernel_rfl) hS49 ?_
          refine AnyE.no 13 44 (by kernel_rfl) hS49 ?_
          refine AnyE.no 14 45 (by kernel_rfl) hS49 ?_
          refine AnyE.no 15 46 (by kernel_rfl) hS49 ?_
          refine AnyE.no 16 47 (by kernel_rfl) hS49 ?_
          refine AnyE.no 17 48 (by kernel_rfl) hS49 ?_
          refine AnyE.no 18 49 (by kernel_rfl) hS49 ?_
          refine AnyE.no 19 50 (by kernel_rfl) hS49 ?_
          refine AnyE.no 20 51 (by kernel_rfl) hS49 ?_
          refine AnyE.pure 21 52 (.bool true) (by kernel_rfl) hS49 (fun _ => by kernel_rfl) ?_
          refine AnyE.done (by kernel_rfl) (fun w55 hu56 => ?_)
          have h57 := h48.call hu56
          refine RunsI.only [1, 2, 3, 8, 10, 52] [(1, .int .i64 p1), (2, .int .u16 p2), (3, .pointer (some ⟨b12, 0, none⟩)), (8, .int .i64 t13), (10, .pointer (some ⟨b40, 0, none⟩)), (52, .bool true)] (by kernel_rfl) (by kernel_rfl) ?_
          refine RunsI.only [1, 2, 3, 8, 10, 52] [(1, .int .i64 p1), (2, .int .u16 p2), (3, .pointer (some ⟨b12, 0, none⟩)), (8, .int .i64 t13), (10, .pointer (some ⟨b40, 0, none⟩)), (52, .bool true)] (by kernel_rfl) (by kernel_rfl) ?_
          exact hj115 true w55 h (h57.pick [0, 4, 1, 2, 3] (by decide))
        · skip
          refine AnyE.fix 41 false hc54 (by kernel_rfl) (by kernel_rfl) ?_
          refine AnyE.loadBox 11 42 4 46 b40 0 (.agg #[.int .u16 t19, .int .u16 t20, .int .u16 t21, .int .u16 t22, .int .u16 t23, .int .u16 t24, .int .u16 t25, .int .u16 t26, .int .u16 t27, .int .u16 t28, .int .u16 t29, .int .u16 t30, .int .u16 t31, .int .u8 t32, .int .u8 t33, .bool t34, .bool t35, .bool t36, .bool t37, .int .i64 t38]) [] h48 rfl (by kernel_rfl) hS49 rfl rfl (by kernel_rfl) (by kernel_rfl) ?_
          refine AnyE.pure 12 43 (.int .i64 p1) (by kernel_rfl) hS49 (fun _ => by kernel_rfl) ?_
          refine AnyE.pure 13 44 (.int .i64 t13) (by kernel_rfl) hS49 (fun _ => by kernel_rfl) ?_
          refine AnyE.loadBox 14 45 0 46 b12 0 (.agg #[.int .u16 p0_0, .int .u16 p0_1, .int .u16 p0_2, .int .u16 p0_3, .int .u16 p0_4, .int .u16 p0_5, .int .u16 p0_6, .int .u16 p0_7, .int .u16 p0_8, .int .u16 p0_9, .int .u16 p0_10, .int .u16 p0_11, .int .u16 p0_12, .int .u8 p0_13, .int .u8 p0_14, .bool p0_15, .bool p0_16, .bool p0_17, .bool p0_18, .int .i64 p0_19]) [] h48 rfl (by kernel_rfl) hS49 rfl rfl (by kernel_rfl) (by kernel_rfl) ?_
          refine AnyE.pure 15 46 (.int .i64 p1) (by kernel_rfl) hS49 (fun _ => by kernel_rfl) ?_
          refine AnyE.pure 16 47 (.int .i64 t13) (by kernel_rfl) hS49 (fun _ => by kernel_rfl) ?_
          obtain ⟨t59, hg58, h⟩ := of_bind h
          refine AnyE.call 17 48 (.int .u8 t59) 24 #[.agg #[.int .u16 p0_0, .int .u16 p0_1, .int .u16 p0_2, .int .u16 p0_3, .int .u16 p0_4, .int .u16 p0_5, .int .u16 p0_6, .int .u16 p0_7, .int .u16 p0_8, .int .u16 p0_9, .int .u16 p0_10, .int .u16 p0_11, .int .u16 p0_12, .int .u8 p0_13, .int .u8 p0_14, .bool p0_15, .bool p0_16, .bool p0_17, .bool p0_18, .int .i64 p0_19], .int .i64 p1, .int .i64 t13] (by kernel_rfl) hS49 (fun _ => by kernel_rfl) (fun w hk => regs_Get_24_ok K (fun _ => False) w p0_0 p0_1 p0_2 p0_3 p0_4 p0_5 p0_6 p0_7 p0_8 p0_9 p0_10 p0_11 p0_12 p0_13 p0_14 p0_15 p0_16 p0_17 p0_18 p0_19 p1 t13 (fun _ hf => hf.elim) hg58) ?_
          obtain ⟨⟨t61, t62, t63, t64, t65, t66, t67, t68, t69, t70, t71, t72, t73, t74, t75, t76, t77, t78, t79, t80⟩, hg60, h⟩ := of_bind h
          dsimp only at h
          refine AnyE.call 18 49 (.agg #[.int .u16 t61, .int .u16 t62, .int .u16 t63, .int .u16 t64, .int .u16 t65, .int .u16 t66, .int .u16 t67, .int .u16 t68, .int .u16 t69, .int .u16 t70, .int .u16 t71, .int .u16 t72, .int .u16 t73, .int .u8 t74, .int .u8 t75, .bool t76, .bool t77, .bool t78, .bool t79, .int .i64 t80]) 38 #[.agg #[.int .u16 t19, .int .u16 t20, .int .u16 t21, .int .u16 t22, .int .u16 t23, .int .u16 t24, .int .u16 t25, .int .u16 t26, .int .u16 t27, .int .u16 t28, .int .u16 t29, .int .u16 t30, .int .u16 t31, .int .u8 t32, .int .u8 t33, .bool t34, .bool t35, .bool t36, .bool t37, .int .i64 t38], .int .i64 p1, .int .i64 t13, .int .u8 t59] (by kernel_rfl) hS49 (fun _ => by kernel_rfl) (fun w hk => regs_Set_38_ok K (fun _ => False) w t19 t20 t21 t22 t23 t24 t25 t26 t27 t28 t29 t30 t31 t32 t33 t34 t35 t36 t37 t38 p1 t13 t59 (fun _ hf => hf.elim) hg60) ?_
          refine AnyE.loadBox 19 50 0 46 b12 0 (.agg #[.int .u16 p0_0, .int .u16 p0_1, .int .u16 p0_2, .int .u16 p0_3, .int .u16 p0_4, .int .u16 p0_5, .int .u16 p0_6, .int .u16 p0_7, .int .u16 p0_8, .int .u16 p0_9, .int .u16 p0_10, .int .u16 p0_11, .int .u16 p0_12, .int .u8 p0_13, .int .u8 p0_14, .bool p0_15, .bool p0_16, .bool p0_17, .bool p0_18, .int .i64 p0_19]) [] h48 rfl (by kernel_rfl) hS49 rfl rfl (by kernel_rfl) (by kernel_rfl) ?_
          refine AnyE.run 20 51 (.bool (!((t61 == p0_0) && ((t62 == p0_1) && ((t63 == p0_2) && ((t64 == p0_3) && ((t65 == p0_4) && ((t66 == p0_5) && ((t67 == p0_6) && ((t68 == p0_7) && ((t69 == p0_8) && ((t70 == p0_9) && ((t71 == p0_10) && ((t72 == p0_11) && ((t73 == p0_12) && ((t74 == p0_13) && ((t75 == p0_14) && ((t76 == p0_15) && ((t77 == p0_16) && ((t78 == p0_17) && ((t79 == p0_18) && ((t80 == p0_19) && true)))))))))))))))))))))) (by kernel_rfl) hS49 (fun _ hk => run_eqS (neg := true) (t := 46) (x := .agg #[.int .u16 t61, .int .u16 t62, .int .u16 t63, .int .u16 t64, .int .u16 t65, .int .u16 t66, .int .u16 t67, .int .u16 t68, .int .u16 t69, .int .u16 t70, .int .u16 t71, .int .u16 t72, .int .u16 t73, .int .u8 t74, .int .u8 t75, .bool t76, .bool t77, .bool t78, .bool t79, .int .i64 t80]) (y := .agg #[.int .u16 p0_0, .int .u16 p0_1, .int .u16 p0_2, .int .u16 p0_3, .int .u16 p0_4, .int .u16 p0_5, .int .u16 p0_6, .int .u16 p0_7, .int .u16 p0_8, .int .u16 p0_9, .int .u16 p0_10, .int .u16 p0_11, .int .u16 p0_12, .int .u8 p0_13, .int .u8 p0_14, .bool p0_15, .bool p0_16, .bool p0_17, .bool p0_18, .int .i64 p0_19]) (b := ((t61 == p0_0) && ((t62 == p0_1) && ((t63 == p0_2) && ((t64 == p0_3) && ((t65 == p0_4) && ((t66 == p0_5) && ((t67 == p0_6) && ((t68 == p0_7) && ((t69 == p0_8) && ((t70 == p0_9) && ((t71 == p0_10) && ((t72 == p0_11) && ((t73 == p0_12) && ((t74 == p0_13) && ((t75 == p0_14) && ((t76 == p0_15) && ((t77 == p0_16) && ((t78 == p0_17) && ((t79 == p0_18) && ((t80 == p0_19) && true))))))))))))))))))))) (by kernel_rfl) (by kernel_rfl) (by kernel_rfl) (by kernel_rfl)) ?_
          refine AnyE.pure 21 52 (.bool (!((t61 == p0_0) && ((t62 == p0_1) && ((t63 == p0_2) && ((t64 == p0_3) && ((t65 == p0_4) && ((t66 == p0_5) && ((t67 == p0_6) && ((t68 == p0_7) && ((t69 == p0_8) && ((t70 == p0_9) && ((t71 == p0_10) && ((t72 == p0_11) && ((t73 == p0_12) && ((t74 == p0_13) && ((t75 == p0_14) && ((t76 == p0_15) && ((t77 == p0_16) && ((t78 == p0_17) && ((t79 == p0_18) && ((t80 == p0_19) && true)))))))))))))))))))))) (by kernel_rfl) hS49 (fun _ => by kernel_rfl) ?_
          refine AnyE.done (by kernel_rfl) (fun w81 hu82 => ?_)
          have h83 := h48.call hu82
          refine RunsI.only [1, 2, 3, 8, 10, 52] [(1, .int .i64 p1), (2, .int .u16 p2), (3, .pointer (some ⟨b12, 0, none⟩)), (8, .int .i64 t13), (10, .pointer (some ⟨b40, 0, none⟩)), (52, .bool (!((t61 == p0_0) && ((t62 == p0_1) && ((t63 == p0_2) && ((t64 == p0_3) && ((t65 == p0_4) && ((t66 == p0_5) && ((t67 == p0_6) && ((t68 == p0_7) && ((t69 == p0_8) && ((t70 == p0_9) && ((t71 == p0_10) && ((t72 == p0_11) && ((t73 == p0_12) && ((t74 == p0_13) && ((t75 == p0_14) && ((t76 == p0_15) && ((t77 == p0_16) && ((t78 == p0_17) && ((t79 == p0_18) && ((t80 == p0_19) && true))))))))))))))))))))))] (by kernel_rfl) (by kernel_rfl) ?_
          refine RunsI.only [1, 2, 3, 8, 10, 52] [(1, .int .i64 p1), (2, .int .u16 p2), (3, .pointer (some ⟨b12, 0, none⟩)), (8, .int .i64 t13), (10, .pointer (some ⟨b40, 0, none⟩)), (52, .bool (!((t61 == p0_0) && ((t62 == p0_1) && ((t63 == p0_2) && ((t64 == p0_3) && ((t65 == p0_4) && ((t66 == p0_5) && ((t67 == p0_6) && ((t68 == p0_7) && ((t69 == p0_8) && ((t70 == p0_9) && ((t71 == p0_10) && ((t72 == p0_11) && ((t73 == p0_12) && ((t74 == p0_13) && ((t75 == p0_14) && ((t76 == p0_15) && ((t77 == p0_16) && ((t78 == p0_17) && ((t79 == p0_18) && ((t80 == p0_19) && true))))))))))))))))))))))] (by kernel_rfl) (by kernel_rfl) ?_
          exact hj115 (!((t61 == p0_0) && ((t62 == p0_1) && ((t63 == p0_2) && ((t64 == p0_3) && ((t65 == p0_4) && ((t66 == p0_5) && ((t67 == p0_6) && ((t68 == p0_7) && ((t69 == p0_8) && ((t70 == p0_9) && ((t71 == p0_10) && ((t72 == p0_11) && ((t73 == p0_12) && ((t74 == p0_13) && ((t75 == p0_14) && ((t76 == p0_15) && ((t77 == p0_16) && ((t78 == p0_17) && ((t79 == p0_18) && ((t80 == p0_19) && true))))))))))))))))))))) w81 h (h83.pick [0, 4, 1, 2, 3] (by decide))
      · skip
        refine AnyE.fix 33 false hc51 (by kernel_rfl) (by kernel_rfl) ?_
        refine AnyE.no 3 34 (by kernel_rfl) hS49 ?_
        refine AnyE.no 4 35 (by kernel_rfl) hS49 ?_
        refine AnyE.no 5 36 (by kernel_rfl) hS49 ?_
        refine AnyE.no 6 37 (by kernel_rfl) hS49 ?_
        refine AnyE.no 7 38 (by kernel_rfl) hS49 ?_
        refine AnyE.no 8 39 (by kernel_rfl) hS49 ?_
        refine AnyE.pure 9 40 (.bool false) (by kernel_rfl) hS49 (fun _ => by kernel_rfl) ?_
        refine AnyE.pure 10 41 (.bool false) (by kernel_rfl) hS49 (fun _ => by kernel_rfl) ?_
        refine AnyE.loadBox 11 42 4 46 b40 0 (.agg #[.int .u16 t19, .int .u16 t20, .int .u16 t21, .int .u16 t22, .int .u16 t23, .int .u16 t24, .int .u16 t25, .int .u16 t26, .int .u16 t27, .int .u16 t28, .int .u16 t29, .int .u16 t30, .int .u16 t31, .int .u8 t32, .int .u8 t33, .bool t34, .bool t35, .bool t36, .bool t37, .int .i64 t38]) [] h48 rfl (by kernel_rfl) hS49 rfl rfl (by kernel_rfl) (by kernel_rfl) ?_
        refine AnyE.pure 12 43 (.int .i64 p1) (by kernel_rfl) hS49 (fun _ => by kernel_rfl) ?_
        refine AnyE.pure 13 44 (.int .i64 t13) (by kernel_rfl) hS49 (fun _ => by kernel_rfl) ?_
        refine AnyE.loadBox 14 45 0 46 b12 0 (.agg #[.int .u16 p0_0, .int .u16 p0_1, .int .u16 p0_2, .int .u16 p0_3, .int .u16 p0_4, .int .u16 p0_5, .int .u16 p0_6, .int .u16 p0_7, .int .u16 p0_8, .int .u16 p0_9, .int .u16 p0_10, .int .u16 p0_11, .int .u16 p0_12, .int .u8 p0_13, .int .u8 p0_14, .bool p0_15, .bool p0_16, .bool p0_17, .bool p0_18, .int .i64 p0_19]) [] h48 rfl (by kernel_rfl) hS49 rfl rfl (by kernel_rfl) (by kernel_rfl) ?_
        refine AnyE.pure 15 46 (.int .i64 p1) (by kernel_rfl) hS49 (fun _ => by kernel_rfl) ?_
        refine AnyE.pure 16 47 (.int .i64 t13) (by kernel_rfl) hS49 (fun _ => by kernel_rfl) ?_
        obtain ⟨t85, hg84, h⟩ := of_bind h
        refine AnyE.call 17 48 (.int .u8 t85) 24 #[.agg #[.int .u16 p0_0, .int .u16 p0_1, .int .u16 p0_2, .int .u16 p0_3, .int .u16 p0_4, .int .u16 p0_5, .int .u16 p0_6, .int .u16 p0_7, .int .u16 p0_8, .int .u16 p0_9, .int .u16 p0_10, .int .u16 p0_11, .int .u16 p0_12, .int .u8 p0_13, .int .u8 p0_14, .bool p0_15, .bool p0_16, .bool p0_17, .bool p0_18, .int .i64 p0_19], .int .i64 p1, .int .i64 t13] (by kernel_rfl) hS49 (fun _ => by kernel_rfl) (fun w hk => regs_Get_24_ok K (fun _ => False) w p0_0 p0_1 p0_2 p0_3 p0_4 p0_5 p0_6 p0_7 p0_8 p0_9 p0_10 p0_11 p0_12 p0_13 p0_14 p0_15 p0_16 p0_17 p0_18 p0_19 p1 t13 (fun _ hf => hf.elim) hg84) ?_
        obtain ⟨⟨t87, t88, t89, t90, t91, t92, t93, t94, t95, t96, t97, t98, t99, t100, t101, t102, t103, t104, t105, t106⟩, hg86, h⟩ := of_bind h
        dsimp only at h
        refine AnyE.call 18 49 (.agg #[.int .u16 t87, .int .u16 t88, .int .u16 t89, .int .u16 t90, .int .u16 t91, .int .u16 t92, .int .u16 t93, .int .u16 t94, .int .u16 t95, .int .u16 t96, .int .u16 t97, .int .u16 t98, .int .u16 t99, .int .u8 t100, .int .u8 t101, .bool t102, .bool t103, .bool t104, .bool t105, .int .i64 t106]) 38 #[.agg #[.int .u16 t19, .int .u16 t20, .int .u16 t21, .int .u16 t22, .int .u16 t23, .int .u16 t24, .int .u16 t25, .int .u16 t26, .int .u16 t27, .int .u16 t28, .int .u16 t29, .int .u16 t30, .int .u16 t31, .int .u8 t32, .int .u8 t33, .bool t34, .bool t35, .bool t36, .bool t37, .int .i64 t38], .int .i64 p1, .int .i64 t13, .int .u8 t85] (by kernel_rfl) hS49 (fun _ => by kernel_rfl) (fun w hk => regs_Set_38_ok K (fun _ => False) w t19 t20 t21 t22 t23 t24 t25 t26 t27 t28 t29 t30 t31 t32 t33 t34 t35 t36 t37 t38 p1 t13 t85 (fun _ hf => hf.elim) hg86) ?_
        refine AnyE.loadBox 19 50 0 46 b12 0 (.agg #[.int .u16 p0_0, .int .u16 p0_1, .int .u16 p0_2, .int .u16 p0_3, .int .u16 p0_4, .int .u16 p0_5, .int .u16 p0_6, .int .u16 p0_7, .int .u16 p0_8, .int .u16 p0_9, .int .u16 p0_10, .int .u16 p0_11, .int .u16 p0_12, .int .u8 p0_13, .int .u8 p0_14, .bool p0_15, .bool p0_16, .bool p0_17, .bool p0_18, .int .i64 p0_19]) [] h48 rfl (by kernel_rfl) hS49 rfl rfl (by kernel_rfl) (by kernel_rfl) ?_
        refine AnyE.run 20 51 (.bool (!((t87 == p0_0) && ((t88 == p0_1) && ((t89 == p0_2) && ((t90 == p0_3) && ((t91 == p0_4) && ((t92 == p0_5) && ((t93 == p0_6) && ((t94 == p0_7) && ((t95 == p0_8) && ((t96 == p0_9) && ((t97 == p0_10) && ((t98 == p0_11) && ((t99 == p0_12) && ((t100 == p0_13) && ((t101 == p0_14) && ((t102 == p0_15) && ((t103 == p0_16) && ((t104 == p0_17) && ((t105 == p0_18) && ((t106 == p0_19) && true)))))))))))))))))))))) (by kernel_rfl) hS49 (fun _ hk => run_eqS (neg := true) (t := 46) (x := .agg #[.int .u16 t87, .int .u16 t88, .int .u16 t89, .int .u16 t90, .int .u16 t91, .int .u16 t92, .int .u16 t93, .int .u16 t94, .int .u16 t95, .int .u16 t96, .int .u16 t97, .int .u16 t98, .int .u16 t99, .int .u8 t100, .int .u8 t101, .bool t102, .bool t103, .bool t104, .bool t105, .int .i64 t106]) (y := .agg #[.int .u16 p0_0, .int .u16 p0_1, .int .u16 p0_2, .int .u16 p0_3, .int .u16 p0_4, .int .u16 p0_5, .int .u16 p0_6, .int .u16 p0_7, .int .u16 p0_8, .int .u16 p0_9, .int .u16 p0_10, .int .u16 p0_11, .int .u16 p0_12, .int .u8 p0_13, .int .u8 p0_14, .bool p0_15, .bool p0_16, .bool p0_17, .bool p0_18, .int .i64 p0_19]) (b := ((t87 == p0_0) && ((t88 == p0_1) && ((t89 == p0_2) && ((t90 == p0_3) && ((t91 == p0_4) && ((t92 == p0_5) && ((t93 == p0_6) && ((t94 == p0_7) && ((t95 == p0_8) && ((t96 == p0_9) && ((t97 == p0_10) && ((t98 == p0_11) && ((t99 == p0_12) && ((t100 == p0_13) && ((t101 == p0_14) && ((t102 == p0_15) && ((t103 == p0_16) && ((t104 == p0_17) && ((t105 == p0_18) && ((t106 == p0_19) && true))))))))))))))))))))) (by kernel_rfl) (by kernel_rfl) (by kernel_rfl) (by kernel_rfl)) ?_
        refine AnyE.pure 21 52 (.bool (!((t87 == p0_0) && ((t88 == p0_1) && ((t89 == p0_2) && ((t90 == p0_3) && ((t91 == p0_4) && ((t92 == p0_5) && ((t93 == p0_6) && ((t94 == p0_7) && ((t95 == p0_8) && ((t96 == p0_9) && ((t97 == p0_10) && ((t98 == p0_11) && ((t99 == p0_12) && ((t100 == p0_13) && ((t101 == p0_14) && ((t102 == p0_15) && ((t103 == p0_16) && ((t104 == p0_17) && ((t105 == p0_18) && ((t106 == p0_19) && true)))))))))))))))))))))) (by kernel_rfl) hS49 (fun _ => by kernel_rfl) ?_
        refine AnyE.done (by kernel_rfl) (fun w107 hu108 => ?_)
        have h109 := h48.call hu108
        refine RunsI.only [1, 2, 3, 8, 10, 52] [(1, .int .i64 p1), (2, .int .u16 p2), (3, .pointer (some ⟨b12, 0, none⟩)), (8, .int .i64 t13), (10, .pointer (some ⟨b40, 0, none⟩)), (52, .bool (!((t87 == p0_0) && ((t88 == p0_1) && ((t89 == p0_2) && ((t90 == p0_3) && ((t91 == p0_4) && ((t92 == p0_5) && ((t93 == p0_6) && ((t94 == p0_7) && ((t95 == p0_8) && ((t96 == p0_9) && ((t97 == p0_10) && ((t98 == p0_11) && ((t99 == p0_12) && ((t100 == p0_13) && ((t101 == p0_14) && ((t102 == p0_15) && ((t103 == p0_16) && ((t104 == p0_17) && ((t105 == p0_18) && ((t106 == p0_19) && true))))))))))))))))))))))] (by kernel_rfl) (by kernel_rfl) ?_
        refine RunsI.only [1, 2, 3, 8, 10, 52] [(1, .int .i64 p1), (2, .int .u16 p2), (3, .pointer (some ⟨b12, 0, none⟩)), (8, .int .i64 t13), (10, .pointer (some ⟨b40, 0, none⟩)), (52, .bool (!((t87 == p0_0) && ((t88 == p0_1) && ((t89 == p0_2) && ((t90 == p0_3) && ((t91 == p0_4) && ((t92 == p0_5) && ((t93 == p0_6) && ((t94 == p0_7) && ((t95 == p0_8) && ((t96 == p0_9) && ((t97 == p0_10) && ((t98 == p0_11) && ((t99 == p0_12) && ((t100 == p0_13) && ((t101 == p0_14) && ((t102 == p0_15) && ((t103 == p0_16) && ((t104 == p0_17) && ((t105 == p0_18) && ((t106 == p0_19) && true))))))))))))))))))))))] (by kernel_rfl) (by kernel_rfl) ?_
        exact hj115 (!((t87 == p0_0) && ((t88 == p0_1) && ((t89 == p0_2) && ((t90 == p0_3) && ((t91 == p0_4) && ((t92 == p0_5) && ((t93 == p0_6) && ((t94 == p0_7) && ((t95 == p0_8) && ((t96 == p0_9) && ((t97 == p0_10) && ((t98 == p0_11) && ((t99 == p0_12) && ((t100 == p0_13) && ((t101 == p0_14) && ((t102 == p0_15) && ((t103 == p0_16) && ((t104 == p0_17) && ((t105 == p0_18) && ((t106 == p0_19) && true))))))))))))))))))))) w107 h (h109.pick [0, 4, 1, 2, 3] (by decide))
    · skip
      refine RunsI.fix 18 false hc14 (by kernel_rfl) (by kernel_rfl) ?_
      refine RunsI.cond false 22 (by kernel_rfl) ?_
      refine RunsI.go 1 [.c 58] (by kernel_rfl) ?_
      refine RunsI.only [1, 2, 3] [(1, .int .i64 p1), (2, .int .u16 p2), (3, .pointer (some ⟨b12, 0, none⟩))] (by kernel_rfl) (by kernel_rfl) ?_
      exact hk0 w (Option.some.inj h).symm (hH.pick [0, 1, 2, 3] (by decide))
def charabanclaw11_RegsBack_8.l2 (K : Nat) (p0_0 : Int) (p0_1 : Int) (p0_2 : Int) (p0_3 : Int) (p0_4 : Int) (p0_5 : Int) (p0_6 : Int) (p0_7 : Int) (p0_8 : Int) (p0_9 : Int) (p0_10 : Int) (p0_11 : Int) (p0_12 : Int) (p0_13 : Int) (p0_14 : Int) (p0_15 : Bool) (p0_16 : Bool) (p0_17 : Bool) (p0_18 : Bool) (p0_19 : Int) (p1 : Int) (p2 : Int) : Nat → Int → Option (Lp Unit Unit)
  | 0, _ => none
  | k + 1, t177 => cond (decide (t177 < 4)) ((regs_SetPair_40.f K p0_0 p0_1 p0_2 p0_3 p0_4 p0_5 p0_6 p0_7 p0_8 p0_9 p0_10 p0_11 p0_12 p0_13 p0_14 p0_15 p0_16 p0_17 p0_18 p0_19 p1 t177 p2).bind fun yt183 => (regs_Pair_26.f K yt183.1 yt183.2.1 yt183.2.2.1 yt183.2.2.2.1 yt183.2.2.2.2.1 yt183.2.2.2.2.2.1 yt183.2.2.2.2.2.2.1 yt183.2.2.2.2.2.2.2.1 yt183.2.2.2.2.2.2.2.2.1 yt183.2.2.2.2.2.2.2.2.2.1 yt183.2.2.2.2.2.2.2.2.2.2.1 yt183.2.2.2.2.2.2.2.2.2.2.2.1 yt183.2.2.2.2.2.2.2.2.2.2.2.2.1 yt183.2.2.2.2.2.2.2.2.2.2.2.2.2.1 yt183.2.2.2.2.2.2.2.2.2.2.2.2.2.2.1 yt183.2.2.2.2.2.2.2.2.2.2.2.2.2.2.2.1 yt183.2.2.2.2.2.2.2.2.2.2.2.2.2.2.2.2.1 yt183.2.2.2.2.2.2.2.2.2.2.2.2.2.2.2.2.2.1 yt183.2.2.2.2.2.2.2.2.2.2.2.2.2.2.2.2.2.2.1 yt183.2.2.2.2.2.2.2.2.2.2.2.2.2.2.2.2.2.2.2 p1 t177).bind fun t216 => Let (fun (t247 : Bool) => cond t247 (some (Lp.ret ())) (charabanclaw11_RegsBack_8.l2 K p0_0 p0_1 p0_2 p0_3 p0_4 p0_5 p0_6 p0_7 p0_8 p0_9 p0_10 p0_11 p0_12 p0_13 p0_14 p0_15 p0_16 p0_17 p0_18 p0_19 p1 p2 k (IntKind.wrap .i64 (t177 + 1)))) (fun j250 => cond (t216 != p2) (j250 true) ((regs_Pair_26.f K p0_0 p0_1 p0_2 p0_3 p0_4 p0_5 p0_6 p0_7 p0_8 p0_9 p0_10 p0_11 p0_12 p0_13 p0_14 p0_15 p0_16 p0_17 p0_18 p0_19 p1 t177).bind fun t222 => (regs_SetPair_40.f K yt183.1 yt183.2.1 yt183.2.2.1 yt183.2.2.2.1 yt183.2.2.2.2.1 yt183.2.2.2.2.2.1 yt183.2.2.2.2.2.2.1 yt183.2.2.2.2.2.2.2.1 yt183.2.2.2.2.2.2.2.2.1 yt183.2.2.2.2.2.2.2.2.2.1 yt183.2.2.2.2.2.2.2.2.2.2.1 yt183.2.2.2.2.2.2.2.2.2.2.2.1 yt183.2.2.2.2.2.2.2.2.2.2.2.2.1 yt183.2.2.2.2.2.2.2.2.2.2.2.2.2.1 yt183.2.2.2.2.2.2.2.2.2.2.2.2.2.2.1 yt183.2.2.2.2.2.2.2.2.2.2.2.2.2.2.2.1 yt183.2.2.2.2.2.2.2.2.2.2.2.2.2.2.2.2.1 yt183.2.2.2.2.2.2.2.2.2.2.2.2.2.2.2.2.2.1 yt183.2.2.2.2.2.2.2.2.2.2.2.2.2.2.2.2.2.2.1 yt183.2.2.2.2.2.2.2.2.2.2.2.2.2.2.2.2.2.2.2 p1 t177 t222).bind fun yt224 => j250 (!((yt224.1 == p0_0) && ((yt224.2.1 == p0_1) && ((yt224.2.2.1 == p0_2) && ((yt224.2.2.2.1 == p0_3) && ((yt224.2.2.2.2.1 == p0_4) && ((yt224.2.2.2.2.2.1 == p0_5) && ((yt224.2.2.2.2.2.2.1 == p0_6) && ((yt224.2.2.2.2.2.2.2.1 == p0_7) && ((yt224.2.2.2.2.2.2.2.2.1 == p0_8) && ((yt224.2.2.2.2.2.2.2.2.2.1 == p0_9) && ((yt224.2.2.2.2.2.2.2.2.2.2.1 == p0_10) && ((yt224.2.2.2.2.2.2.2.2.2.2.2.1 == p0_11) && ((yt224.2.2.2.2.2.2.2.2.2.2.2.2.1 == p0_12) && ((yt224.2.2.2.2.2.2.2.2.2.2.2.2.2.1 == p0_13) && ((yt224.2.2.2.2.2.2.2.2.2.2.2.2.2.2.1 == p0_14) && ((yt224.2.2.2.2.2.2.2.2.2.2.2.2.2.2.2.1 == p0_15) && ((yt224.2.2.2.2.2.2.2.2.2.2.2.2.2.2.2.2.1 == p0_16) && ((yt224.2.2.2.2.2.2.2.2.2.2.2.2.2.2.2.2.2.1 == p0_17) && ((yt224.2.2.2.2.2.2.2.2.2.2.2.2.2.2.2.2.2.2.1 == p0_18) && ((yt224.2.2.2.2.2.2.2.2.2.2.2.2.2.2.2.2.2.2.2 == p0_19) && true)))))))))))))))))))))))) (some (Lp.go ()))
set_option maxRecDepth 100000 in
theorem charabanclaw11_RegsBack_8.l2_ok (K : Nat) (M0 : Nat → Prop) (w0 : World) (p0_0 : Int) (p0_1 : Int) (p0_2 : Int) (p0_3 : Int) (p0_4 : Int) (p0_5 : Int) (p0_6 : Int) (p0_7 : Int) (p0_8 : Int) (p0_9 : Int) (p0_10 : Int) (p0_11 : Int) (p0_12 : Int) (p0_13 : Int) (p0_14 : Int) (p0_15 : Bool) (p0_16 : Bool) (p0_17 : Bool) (p0_18 : Bool) (p0_19 : Int) (p1 : Int) (p2 : Int) (b176 : Nat) (R : Ending → World → Prop) (x : Lp Unit Unit) (hk0 : ∀ (w1 : World), x = Lp.go () → Holds M0 w0 w1 [gl 2 (tab_2.flatMap en_2), gl 4 (tab_4.flatMap en_4), gl 5 (tab_5.flatMap en_5)] → RunsI F8 [.c 81] [] w1 R) (hk1 : ∀ (w1 : World), x = Lp.ret () → Holds M0 w0 w1 [gl 2 (tab_2.flatMap en_2), gl 4 (tab_4.flatMap en_4), gl 5 (tab_5.flatMap en_5)] → R (.returned (.bool false)) w1) :
    ∀ (k : Nat) (t177 : Int) (w : World), charabanclaw11_RegsBack_8.l2 K p0_0 p0_1 p0_2 p0_3 p0_4 p0_5 p0_6 p0_7 p0_8 p0_9 p0_10 p0_11 p0_12 p0_13 p0_14 p0_15 p0_16 p0_17 p0_18 p0_19 p1 p2 k t177 = some x → Holds M0 w0 w [box b176 46 [.int .u16 p0_0, .int .u16 p0_1, .int .u16 p0_2, .int .u16 p0_3, .int .u16 p0_4, .int .u16 p0_5, .int .u16 p0_6, .int .u16 p0_7, .int .u16 p0_8, .int .u16 p0_9, .int .u16 p0_10, .int .u16 p0_11, .int .u16 p0_12, .int .u8 p0_13, .int .u8 p0_14, .bool p0_15, .bool p0_16, .bool p0_17, .bool p0_18, .int .i64 p0_19], gl 2 (tab_2.flatMap en_2), gl 4 (tab_4.flatMap en_4), gl 5 (tab_5.flatMap en_5)] → RunsI F8 [.c 63, .lp 63, .blk 4, .c 81] [(1, .int .i64 p1), (2, .int .u16 p2), (3, .pointer (some ⟨b176, 0, none⟩)), (12, .int .i64 t177)] w R := by
  intro k
  induction k with
  | zero => intro t177 w h hH; exact absurd h (by simp [charabanclaw11_RegsBack_8.l2])
  | succ k ih =>
    intro t177 w h hH
    rw [charabanclaw11_RegsBack_8.l2.eq_2] at h
    refine RunsI.go 1 [.c 64, .c 69, .lp 63, .blk 4, .c 81] (by kernel_rfl) ?_
    refine RunsI.go 1 [.c 65, .c 66, .c 69, .lp 63, .blk 4, .c 81] (by kernel_rfl) ?_
    refine RunsI.region (by kernel_rfl) ?_
    refine RegI.pure 2 [1, 2, 3, 12, 72] [(1, .int .i64 p1), (2, .int .u16 p2), (3, .pointer (some ⟨b176, 0, none⟩)), (12, .int .i64 t177), (72, .bool (decide (t177 < 4)))] (by kernel_rfl) ?_
    refine RegI.done (by kernel_rfl) ?_
    rcases of_cond h with ⟨hc178, h⟩ | ⟨hc178, h⟩
    · skip
      refine RunsI.fix 72 true hc178 (by kernel_rfl) (by kernel_rfl) ?_
      refine RunsI.cond true 67 (by kernel_rfl) ?_
      refine RunsI.go 1 [.c 69, .lp 63, .blk 4, .c 81] (by kernel_rfl) ?_
      refine RunsI.go 3 [.c 72, .c 73, .blk 5, .c 80, .lp 63, .blk 4, .c 81] (by kernel_rfl) ?_
      refine RunsI.region (by kernel_rfl) ?_
      refine RegI.op (by kernel_rfl) (OpE.loadBox 75 0 46 b176 0 (.agg #[.int .u16 p0_0, .int .u16 p0_1, .int .u16 p0_2, .int .u16 p0_3, .int .u16 p0_4, .int .u16 p0_5, .int .u16 p0_6, .int .u16 p0_7, .int .u16 p0_8, .int .u16 p0_9, .int .u16 p0_10, .int .u16 p0_11, .int .u16 p0_12, .int .u8 p0_13, .int .u8 p0_14, .bool p0_15, .bool p0_16, .bool p0_17, .bool p0_18, .int .i64 p0_19]) hH (by kernel_rfl) (by kernel_rfl) rfl (by kernel_rfl) ?_)
      refine RegI.pure 3 [1, 2, 3, 12, 75, 76, 77, 78] [(1, .int .i64 p1), (2, .int .u16 p2), (3, .pointer (some ⟨b176, 0, none⟩)), (12, .int .i64 t177), (75, .agg #[.int .u16 p0_0, .int .u16 p0_1, .int .u16 p0_2, .int .u16 p0_3, .int .u16 p0_4, .int .u16 p0_5, .int .u16 p0_6, .int .u16 p0_7, .int .u16 p0_8, .int .u16 p0_9, .int .u16 p0_10, .int .u16 p0_11, .int .u16 p0_12, .int .u8 p0_13, .int .u8 p0_14, .bool p0_15, .bool p0_16, .bool p0_17, .bool p0_18, .int .i64 p0_19]), (76, .int .i64 p1), (77, .int .i64 t177), (78, .int .u16 p2)] (by kernel_rfl) ?_
      obtain ⟨⟨t183, t184, t185, t186, t187, t188, t189, t190, t191, t192, t193, t194, t195, t196, t197, t198, t199, t200, t201, t202⟩, hg182, h⟩ := of_bind h
      dsimp only at h
      refine RegI.op (by kernel_rfl) (OpE.call 79 (by kernel_rfl) 40 #[.agg #[.int .u16 p0_0, .int .u16 p0_1, .int .u16 p0_2, .int .u16 p0_3, .int .u16 p0_4, .int .u16 p0_5, .int .u16 p0_6, .int .u16 p0_7, .int .u16 p0_8, .int .u16 p0_9, .int .u16 p0_10, .int .u16 p0_11, .int .u16 p0_12, .int .u8 p0_13, .int .u8 p0_14, .bool p0_15, .bool p0_16, .bool p0_17, .bool p0_18, .int .i64 p0_19], .int .i64 p1, .int .i64 t177, .int .u16 p2] (by kernel_rfl) ((regs_SetPair_40_ok K _ w  p0_0 p0_1 p0_2 p0_3 p0_4 p0_5 p0_6 p0_7 p0_8 p0_9 p0_10 p0_11 p0_12 p0_13 p0_14 p0_15 p0_16 p0_17 p0_18 p0_19 p1 t177 p2 hH.old' hg182).mono ?_))
      rintro _ w179 ⟨rfl, hb180⟩
      refine ⟨_, rfl, ?_⟩
      have h181 := hH.call hb180
      refine RegI.op (by kernel_rfl) (OpE.box 13 46 [.int .u16 0, .int .u16 0, .int .u16 0, .int .u16 0, .int .u16 0, .int .u16 0, .int .u16 0, .int .u16 0, .int .u16 0, .int .u16 0, .int .u16 0, .int .u16 0, .int .u16 0, .int .u8 0, .int .u8 0, .bool false, .bool false, .bool false, .bool false, .int .i64 0] h181 (by kernel_rfl) (by kernel_rfl) ?_)
      intro w203 b204 h205 hb206 hn207
      refine RegI.op (by kernel_rfl) (OpE.storeBox 4 46 b204 0 (.agg #[.int .u16 t183, .int .u16 t184, .int .u16 t185, .int .u16 t186, .int .u16 t187, .int .u16 t188, .int .u16 t189, .int .u16 t190, .int .u16 t191, .int .u16 t192, .int .u16 t193, .int .u16 t194, .int .u16 t195, .int .u8 t196, .int .u8 t197, .bool t198, .bool t199, .bool t200, .bool t201, .int .i64 t202]) [.int .u16 t183, .int .u16 t184, .int .u16 t185, .int .u16 t186, .int .u16 t187, .int .u16 t188, .int .u16 t189, .int .u16 t190, .int .u16 t191, .int .u16 t192, .int .u16 t193, .int .u16 t194, .int .u16 t195, .int .u8 t196, .int .u8 t197, .bool t198, .bool t199, .bool t200, .bool t201, .int .i64 t202] h205 (by kernel_rfl) (by kernel_rfl) rfl (by kernel_rfl) (by kernel_rfl) (by kernel_rfl) ?_)
      intro w208 h209 hk210
      refine RegI.done (by kernel_rfl) ?_
      refine RunsI.go 1 [.c 74, .c 75, .blk 5, .c 80, .lp 63, .blk 4, .c 81] (by kernel_rfl) ?_
      refine RunsI.any 18 (by kernel_rfl) (by kernel_rfl) (by kernel_rfl) (Kp ([] : List Nat) (World.drew w208)) ?_
      have h212 := h209.drew
      generalize World.drew w208 = w211 at h212 ⊢
      have hS213 := Kp.refl ([] : List Nat) w211
      refine AnyE.loadBox 0 80 4 46 b204 0 (.agg #[.int .u16 t183, .int .u16 t184, .int .u16 t185, .int .u16 t186, .int .u16 t187, .int .u16 t188, .int .u16 t189, .int .u16 t190, .int .u16 t191, .int .u16 t192, .int .u16 t193, .int .u16 t194, .int .u16 t195, .int .u8 t196, .int .u8 t197, .bool t198, .bool t199, .bool t200, .bool t201, .int .i64 t202]) [] h212 rfl (by kernel_rfl) hS213 rfl rfl (by kernel_rfl) (by kernel_rfl) ?_
      refine AnyE.pure 1 81 (.int .i64 p1) (by kernel_rfl) hS213 (fun _ => by kernel_rfl) ?_
      refine AnyE.pure 2 82 (.int .i64 t177) (by kernel_rfl) hS213 (fun _ => by kernel_rfl) ?_
      obtain ⟨t216, hg215, h⟩ := of_bind h
      refine AnyE.call 3 83 (.int .u16 t216) 26 #[.agg #[.int .u16 t183, .int .u16 t184, .int .u16 t185, .int .u16 t186, .int .u16 t187, .int .u16 t188, .int .u16 t189, .int .u16 t190, .int .u16 t191, .int .u16 t192, .int .u16 t193, .int .u16 t194, .int .u16 t195, .int .u8 t196, .int .u8 t197, .bool t198, .bool t199, .bool t200, .bool t201, .int .i64 t202], .int .i64 p1, .int .i64 t177] (by kernel_rfl) hS213 (fun _ => by kernel_rfl) (fun w hk => regs_Pair_26_ok K (fun _ => False) w t183 t184 t185 t186 t187 t188 t189 t190 t191 t192 t193 t194 t195 t196 t197 t198 t199 t200 t201 t202 p1 t177 (fun _ hf => hf.elim) hg215) ?_
      refine AnyE.pure 4 84 (.int .u16 p2) (by kernel_rfl) hS213 (fun _ => by kernel_rfl) ?_
      refine AnyE.pure 5 85 (.bool (t216 != p2)) (by kernel_rfl) hS213 (fun _ => by kernel_rfl) ?_
      refine AnyE.pure 6 86 (.bool (t216 != p2)) (by kernel_rfl) hS213 (fun _ => by kernel_rfl) ?_
      obtain ⟨j250, hJ251, h⟩ := of_let h
      have hj252 : ∀ (t247 : Bool) (w249 : World), j250 t247 = some x → Holds M0 w0 w249 [box b176 46 [.int .u16 p0_0, .int .u16 p0_1, .int .u16 p0_2, .int .u16 p0_3, .int .u16 p0_4, .int .u16 p0_5, .int .u16 p0_6, .int .u16 p0_7, .int .u16 p0_8, .int .u16 p0_9, .int .u16 p0_10, .int .u16 p0_11, .int .u16 p0_12, .int .u8 p0_13, .int .u8 p0_14, .bool p0_15, .bool p0_16, .bool p0_17, .bool p0_18, .int .i64 p0_19], gl 2 (tab_2.flatMap en_2), gl 4 (tab_4.flatMap en_4), gl 5 (tab_5.flatMap en_5)] → RunsI F8 [.c 75, .blk 5, .c 80, .lp 63, .blk 4, .c 81] [(1, .int .i64 p1), (2, .int .u16 p2), (3, .pointer (some ⟨b176, 0, none⟩)), (12, .int .i64 t177), (97, .bool t247)] w249 R := by
        intro t247 w249 h h248
        rw [hJ251] at h
        clear hJ251
        dsimp only at h
        rcases of_cond h with ⟨hc253, h⟩ | ⟨hc253, h⟩
        · skip
          refine RunsI.fix 97 true hc253 (by kernel_rfl) (by kernel_rfl) ?_
          refine RunsI.cond true 76 (by kernel_rfl) ?_
          refine RunsI.go 1 [.c 77, .c 78, .blk 5, .c 80, .lp 63, .blk 4, .c 81] (by kernel_rfl) ?_
          refine RunsI.region (by kernel_rfl) ?_
          refine RegI.pure 1 [6] [(6, .bool false)] (by kernel_rfl) ?_
          refine RegI.done (by kernel_rfl) ?_
          refine RunsI.ret (.bool false) (by kernel_rfl) (by kernel_rfl) ?_
          exact hk1 w249 (Option.some.inj h).symm (h248.pick [1, 2, 3] (by decide))
        · skip
          refine RunsI.fix 97 false hc253 (by kernel_rfl) (by kernel_rfl) ?_
          refine RunsI.cond false 79 (by kernel_rfl) ?_
          refine RunsI.go 1 [.blk 5, .c 80, .lp 63, .blk 4, .c 81] (by kernel_rfl) ?_
          refine RunsI.go 1 [.c 80, .lp 63, .blk 4, .c 81] (by kernel_rfl) ?_
          refine RunsI.region (by kernel_rfl) ?_
          refine RegI.pure 3 [1, 2, 3, 12] [(1, .int .i64 p1), (2, .int .u16 p2), (3, .pointer (some ⟨b176, 0, none⟩)), (12, .int .i64 (IntKind.wrap .i64 (t177 + 1)))] (by kernel_rfl) ?_
          refine RegI.done (by kernel_rfl) ?_
          refine RunsI.go 1 [.c 63, .lp 63, .blk 4, .c 81] (by kernel_rfl) ?_
          refine RunsI.only [1, 2, 3, 12] [(1, .int .i64 p1), (2, .int .u16 p2), (3, .pointer (some ⟨b176, 0, none⟩)), (12, .int .i64 (IntKind.wrap .i64 (t177 + 1)))] (by kernel_rfl) (by kernel_rfl) ?_
          exact ih (IntKind.wrap .i64 (t177 + 1)) w249 h (h248.pick [0, 1, 2, 3] (by decide))
      clear hJ251
      rcases of_cond h with ⟨hc217, h⟩ | ⟨hc217, h⟩
      · skip
        refine AnyE.fix 86 true hc217 (by kernel_rfl) (by kernel_rfl) ?_
        refine AnyE.no 7 87 (by kernel_rfl) hS213 ?_
        refine AnyE.no 8 88 (by kernel_rfl) hS213 ?_
        refine AnyE.no 9 89 (by kernel_rfl) hS213 ?_
        refine AnyE.no 10 90 (by kernel_rfl) hS213 ?_
        refine AnyE.no 11 91 (by kernel_rfl) hS213 ?_
        refine AnyE.no 12 92 (by kernel_rfl) hS213 ?_
        refine AnyE.no 13 93 (by kernel_rfl) hS213 ?_
        refine AnyE.no 14 94 (by kernel_rfl) hS213 ?_
        refine AnyE.no 15 95 (by kernel_rfl) hS213 ?_
        refine AnyE.no 16 96 (by kernel_rfl) hS213 ?_
        refine AnyE.pure 17 97 (.bool true) (by kernel_rfl) hS213 (fun _ => by kernel_rfl) ?_
        refine AnyE.done (by kernel_rfl) (fun w218 hu219 => ?_)
        have h220 := h212.call hu219
        refine RunsI.only [1, 2, 3, 12, 97] [(1, .int .i64 p1), (2, .int .u16 p2), (3, .pointer (some ⟨b176, 0, none⟩)), (12, .int .i64 t177), (97, .bool true)] (by kernel_rfl) (by kernel_rfl) ?_
        refine RunsI.only [1, 2, 3, 12, 97] [(1, .int .i64 p1), (2, .int .u16 p2), (3, .pointer (some ⟨b176, 0, none⟩)), (12, .int .i64 t177), (97, .bool true)] (by kernel_rfl) (by kernel_rfl) ?_
        exact hj252 true w218 h (h220.pick [0, 1, 2, 3] (by decide))
      · skip
        refine AnyE.fix 86 false hc217 (by kernel_rfl) (by kernel_rfl) ?_
        refine AnyE.loadBox 7 87 4 46 b204 0 (.agg #[.int .u16 t183, .int .u16 t184, .int .u16 t185, .int .u16 t186, .int .u16 t187, .int .u16 t188, .int .u16 t189, .int .u16 t190, .int .u16 t191, .int .u16 t192, .int .u16 t193, .int .u16 t194, .int .u16 t195, .int .u8 t196, .int .u8 t197, .bool t198, .bool t199, .bool t200, .bool t201, .int .i64 t202]) [] h212 rfl (by kernel_rfl) hS213 rfl rfl (by kernel_rfl) (by kernel_rfl) ?_
        refine AnyE.pure 8 88 (.int .i64 p1) (by kernel_rfl) hS213 (fun _ => by kernel_rfl) ?_
        refine AnyE.pure 9 89 (.int .i64 t177) (by kernel_rfl) hS213 (fun _ => by kernel_rfl) ?_
        refine AnyE.loadBox 10 90 0 46 b176 0 (.agg #[.int .u16 p0_0, .int .u16 p0_1, .int .u16 p0_2, .int .u16 p0_3, .int .u16 p0_4, .int .u16 p0_5, .int .u16 p0_6, .int .u16 p0_7, .int .u16 p0_8, .int .u16 p0_9, .int .u16 p0_10, .int .u16 p0_11, .int .u16 p0_12, .int .u8 p0_13, .int .u8 p0_14, .bool p0_15, .bool p0_16, .bool p0_17, .bool p0_18, .int .i64 p0_19]) [] h212 rfl (by kernel_rfl) hS213 rfl rfl (by kernel_rfl) (by kernel_rfl) ?_
        refine AnyE.pure 11 91 (.int .i64 p1) (by kernel_rfl) hS213 (fun _ => by kernel_rfl) ?_
        refine AnyE.pure 12 92 (.int .i64 t177) (by kernel_rfl) hS213 (fun _ => by kernel_rfl) ?_
        obtain ⟨t222, hg221, h⟩ := of_bind h
        refine AnyE.call 13 93 (.int .u16 t222) 26 #[.agg #[.int .u16 p0_0, .int .u16 p0_1, .int .u16 p0_2, .int .u16 p0_3, .int .u16 p0_4, .int .u16 p0_5, .int .u16 p0_6, .int .u16 p0_7, .int .u16 p0_8, .int .u16 p0_9, .int .u16 p0_10, .int .u16 p0_11, .int .u16 p0_12, .int .u8 p0_13, .int .u8 p0_14, .bool p0_15, .bool p0_16, .bool p0_17, .bool p0_18, .int .i64 p0_19], .int .i64 p1, .int .i64 t177] (by kernel_rfl) hS213 (fun _ => by kernel_rfl) (fun w hk => regs_Pair_26_ok K (fun _ => False) w p0_0 p0_1 p0_2 p0_3 p0_4 p0_5 p0_6 p0_7 p0_8 p0_9 p0_10 p0_11 p0_12 p0_13 p0_14 p0_15 p0_16 p0_17 p0_18 p0_19 p1 t177 (fun _ hf => hf.elim) hg221) ?_
        obtain ⟨⟨t224, t225, t226, t227, t228, t229, t230, t231, t232, t233, t234, t235, t236, t237, t238, t239, t240, t241, t242, t243⟩, hg223, h⟩ := of_bind h
        dsimp only at h
        refine AnyE.call 14 94 (.agg #[.int .u16 t224, .int .u16 t225, .int .u16 t226, .int .u16 t227, .int .u16 t228, .int .u16 t229, .int .u16 t230, .int .u16 t231, .int .u16 t232, .int .u16 t233, .int .u16 t234, .int .u16 t235, .int .u16 t236, .int .u8 t237, .int .u8 t238, .bool t239, .bool t240, .bool t241, .bool t242, .int .i64 t243]) 40 #[.agg #[.int .u16 t183, .int .u16 t184, .int .u16 t185, .int .u16 t186, .int .u16 t187, .int .u16 t188, .int .u16 t189, .int .u16 t190, .int .u16 t191, .int .u16 t192, .int .u16 t193, .int .u16 t194, .int .u16 t195, .int .u8 t196, .int .u8 t197, .bool t198, .bool t199, .bool t200, .bool t201, .int .i64 t202], .int .i64 p1, .int .i64 t177, .int .u16 t222] (by kernel_rfl) hS213 (fun _ => by kernel_rfl) (fun w hk => regs_SetPair_40_ok K (fun _ => False) w t183 t184 t185 t186 t187 t188 t189 t190 t191 t192 t193 t194 t195 t196 t197 t198 t199 t200 t201 t202 p1 t177 t222 (fun _ hf => hf.elim) hg223) ?_
        refine AnyE.loadBox 15 95 0 46 b176 0 (.agg #[.int .u16 p0_0, .int .u16 p0_1, .int .u16 p0_2, .int .u16 p0_3, .int .u16 p0_4, .int .u16 p0_5, .int .u16 p0_6, .int .u16 p0_7, .int .u16 p0_8, .int .u16 p0_9, .int .u16 p0_10, .int .u16 p0_11, .int .u16 p0_12, .int .u8 p0_13, .int .u8 p0_14, .bool p0_15, .bool p0_16, .bool p0_17, .bool p0_18, .int .i64 p0_19]) [] h212 rfl (by kernel_rfl) hS213 rfl rfl (by kernel_rfl) (by kernel_rfl) ?_
        refine AnyE.run 16 96 (.bool (!((t224 == p0_0) && ((t225 == p0_1) && ((t226 == p0_2) && ((t227 == p0_3) && ((t228 == p0_4) && ((t229 == p0_5) && ((t230 == p0_6) && ((t231 == p0_7) && ((t232 == p0_8) && ((t233 == p0_9) && ((t234 == p0_10) && ((t235 == p0_11) && ((t236 == p0_12) && ((t237 == p0_13) && ((t238 == p0_14) && ((t239 == p0_15) && ((t240 == p0_16) && ((t241 == p0_17) && ((t242 == p0_18) && ((t243 == p0_19) && true)))))))))))))))))))))) (by kernel_rfl) hS213 (fun _ hk => run_eqS (neg := true) (t := 46) (x := .agg #[.int .u16 t224, .int .u16 t225, .int .u16 t226, .int .u16 t227, .int .u16 t228, .int .u16 t229, .int .u16 t230, .int .u16 t231, .int .u16 t232, .int .u16 t233, .int .u16 t234, .int .u16 t235, .int .u16 t236, .int .u8 t237, .int .u8 t238, .bool t239, .bool t240, .bool t241, .bool t242, .int .i64 t243]) (y := .agg #[.int .u16 p0_0, .int .u16 p0_1, .int .u16 p0_2, .int .u16 p0_3, .int .u16 p0_4, .int .u16 p0_5, .int .u16 p0_6, .int .u16 p0_7, .int .u16 p0_8, .int .u16 p0_9, .int .u16 p0_10, .int .u16 p0_11, .int .u16 p0_12, .int .u8 p0_13, .int .u8 p0_14, .bool p0_15, .bool p0_16, .bool p0_17, .bool p0_18, .int .i64 p0_19]) (b := ((t224 == p0_0) && ((t225 == p0_1) && ((t226 == p0_2) && ((t227 == p0_3) && ((t228 == p0_4) && ((t229 == p0_5) && ((t230 == p0_6) && ((t231 == p0_7) && ((t232 == p0_8) && ((t233 == p0_9) && ((t234 == p0_10) && ((t235 == p0_11) && ((t236 == p0_12) && ((t237 == p0_13) && ((t238 == p0_14) && ((t239 == p0_15) && ((t240 == p0_16) && ((t241 == p0_17) && ((t242 == p0_18) && ((t243 == p0_19) && true))))))))))))))))))))) (by kernel_rfl) (by kernel_rfl) (by kernel_rfl) (by kernel_rfl)) ?_
        refine AnyE.pure 17 97 (.bool (!((t224 == p0_0) && ((t225 == p0_1) && ((t226 == p0_2) && ((t227 == p0_3) && ((t228 == p0_4) && ((t229 == p0_5) && ((t230 == p0_6) && ((t231 == p0_7) && ((t232 == p0_8) && ((t233 == p0_9) && ((t234 == p0_10) && ((t235 == p0_11) && ((t236 == p0_12) && ((t237 == p0_13) && ((t238 == p0_14) && ((t239 == p0_15) && ((t240 == p0_16) && ((t241 == p0_17) && ((t242 == p0_18) && ((t243 == p0_19) && true)))))))))))))))))))))) (by kernel_rfl) hS213 (fun _ => by kernel_rfl) ?_
        refine AnyE.done (by kernel_rfl) (fun w244 hu245 => ?_)
        have h246 := h212.call hu245
        refine RunsI.only [1, 2, 3, 12, 97] [(1, .int .i64 p1), (2, .int .u16 p2), (3, .pointer (some ⟨b176, 0, none⟩)), (12, .int .i64 t177), (97, .bool (!((t224 == p0_0) && ((t225 == p0_1) && ((t226 == p0_2) && ((t227 == p0_3) && ((t228 == p0_4) && ((t229 == p0_5) && ((t230 == p0_6) && ((t231 == p0_7) && ((t232 == p0_8) && ((t233 == p0_9) && ((t234 == p0_10) && ((t235 == p0_11) && ((t236 == p0_12) && ((t237 == p0_13) && ((t238 == p0_14) && ((t239 == p0_15) && ((t240 == p0_16) && ((t241 == p0_17) && ((t242 == p0_18) && ((t243 == p0_19) && true))))))))))))))))))))))] (by kernel_rfl) (by kernel_rfl) ?_
        refine RunsI.only [1, 2, 3, 12, 97] [(1, .int .i64 p1), (2, .int .u16 p2), (3, .pointer (some ⟨b176, 0, none⟩)), (12, .int .i64 t177), (97, .bool (!((t224 == p0_0) && ((t225 == p0_1) && ((t226 == p0_2) && ((t227 == p0_3) && ((t228 == p0_4) && ((t229 == p0_5) && ((t230 == p0_6) && ((t231 == p0_7) && ((t232 == p0_8) && ((t233 == p0_9) && ((t234 == p0_10) && ((t235 == p0_11) && ((t236 == p0_12) && ((t237 == p0_13) && ((t238 == p0_14) && ((t239 == p0_15) && ((t240 == p0_16) && ((t241 == p0_17) && ((t242 == p0_18) && ((t243 == p0_19) && true))))))))))))))))))))))] (by kernel_rfl) (by kernel_rfl) ?_
        exact hj252 (!((t224 == p0_0) && ((t225 == p0_1) && ((t226 == p0_2) && ((t227 == p0_3) && ((t228 == p0_4) && ((t229 == p0_5) && ((t230 == p0_6) && ((t231 == p0_7) && ((t232 == p0_8) && ((t233 == p0_9) && ((t234 == p0_10) && ((t235 == p0_11) && ((t236 == p0_12) && ((t237 == p0_13) && ((t238 == p0_14) && ((t239 == p0_15) && ((t240 == p0_16) && ((t241 == p0_17) && ((t242 == p0_18) && ((t243 == p0_19) && true))))))))))))))))))))) w244 h (h246.pick [0, 1, 2, 3] (by decide))
    · skip
      refine RunsI.fix 72 false hc178 (by kernel_rfl) (by kernel_rfl) ?_
      refine RunsI.cond false 68 (by kernel_rfl) ?_
      refine RunsI.go 1 [.c 81] (by kernel_rfl) ?_
      refine RunsI.only [] [] (by kernel_rfl) (by kernel_rfl) ?_
      exact hk0 w (Option.some.inj h).symm (hH.pick [1, 2, 3] (by decide))
def charabanclaw11_RegsBack_8.f (K : Nat) (p0_0 : Int) (p0_1 : Int) (p0_2 : Int) (p0_3 : Int) (p0_4 : Int) (p0_5 : Int) (p0_6 : Int) (p0_7 : Int) (p0_8 : Int) (p0_9 : Int) (p0_10 : Int) (p0_11 : Int) (p0_12 : Int) (p0_13 : Int) (p0_14 : Int) (p0_15 : Bool) (p0_16 : Bool) (p0_17 : Bool) (p0_18 : Bool) (p0_19 : Int) (p1 : Int) (p2 : Int) : Option Bool := (charabanclaw11_awake_23.f K).bind fun t10 => cond (!t10) (some false) ((charabanclaw11_RegsBack_8.l1 K p0_0 p0_1 p0_2 p0_3 p0_4 p0_5 p0_6 p0_7 p0_8 p0_9 p0_10 p0_11 p0_12 p0_13 p0_14 p0_15 p0_16 p0_17 p0_18 p0_19 p1 p2 K 0).bind (fun x170 => Lp.elim x170 (fun _ => some false) (fun _ => (charabanclaw11_RegsBack_8.l2 K p0_0 p0_1 p0_2 p0_3 p0_4 p0_5 p0_6 p0_7 p0_8 p0_9 p0_10 p0_11 p0_12 p0_13 p0_14 p0_15 p0_16 p0_17 p0_18 p0_19 p1 p2 K 0).bind (fun x254 => Lp.elim x254 (fun _ => some false) (fun _ => some true)))))
set_option maxRecDepth 100000 in
theorem charabanclaw11_RegsBack_8_ok (K : Nat) (M0 : Nat → Prop) (w0 : World) (p0_0 : Int) (p0_1 : Int) (p0_2 : Int) (p0_3 : Int) (p0_4 : Int) (p0_5 : Int) (p0_6 : Int) (p0_7 : Int) (p0_8 : Int) (p0_9 : Int) (p0_10 : Int) (p0_11 : Int) (p0_12 : Int) (p0_13 : Int) (p0_14 : Int) (p0_15 : Bool) (p0_16 : Bool) (p0_17 : Bool) (p0_18 : Bool) (p0_19 : Int) (p1 : Int) (p2 : Int) (ho : ∀ b, M0 b → b < w0.heap.size) (hG2 : (gl 2 (tab_2.flatMap en_2)).ok w0 M0) (hG4 : (gl 4 (tab_4.flatMap en_4)).ok w0 M0) (hG5 : (gl 5 (tab_5.flatMap en_5)).ok w0 M0) {r : Bool} (h : charabanclaw11_RegsBack_8.f K p0_0 p0_1 p0_2 p0_3 p0_4 p0_5 p0_6 p0_7 p0_8 p0_9 p0_10 p0_11 p0_12 p0_13 p0_14 p0_15 p0_16 p0_17 p0_18 p0_19 p1 p2 = some r) :
    Calls Tryd.prog 8 #[.agg #[.int .u16 p0_0, .int .u16 p0_1, .int .u16 p0_2, .int .u16 p0_3, .int .u16 p0_4, .int .u16 p0_5, .int .u16 p0_6, .int .u16 p0_7, .int .u16 p0_8, .int .u16 p0_9, .int .u16 p0_10, .int .u16 p0_11, .int .u16 p0_12, .int .u8 p0_13, .int .u8 p0_14, .bool p0_15, .bool p0_16, .bool p0_17, .bool p0_18, .int .i64 p0_19], .int .i64 p1, .int .u16 p2] w0 (charabanclaw11_RegsBack_8.post M0 w0 r) := by
  unfold charabanclaw11_RegsBack_8.f at h
  have h0 : Holds M0 w0 w0 [] := Holds.start ho
  have h0g2 := h0.add (gl 2 (tab_2.flatMap en_2)) rfl ⟨hG2.1, fun hm => hG2.2.1 (hm.elim id (fun hm => absurd hm (by simp [mines, sl, gl]))), hG2.2.2⟩
  have h0g4 := h0g2.add (gl 4 (tab_4.flatMap en_4)) rfl ⟨hG4.1, fun hm => hG4.2.1 (hm.elim id (fun hm => absurd hm (by simp [mines, sl, gl]))), hG4.2.2⟩
  have h0g5 := h0g4.add (gl 5 (tab_5.flatMap en_5)) rfl ⟨hG5.1, fun hm => hG5.2.1 (hm.elim id (fun hm => absurd hm (by simp [mines, sl, gl]))), hG5.2.2⟩
  have h0 : Holds M0 w0 w0 [gl 2 (tab_2.flatMap en_2), gl 4 (tab_4.flatMap en_4), gl 5 (tab_5.flatMap en_5)] := h0g5
  refine calls_of F8 rfl [.agg #[.int .u16 p0_0, .int .u16 p0_1, .int .u16 p0_2, .int .u16 p0_3, .int .u16 p0_4, .int .u16 p0_5, .int .u16 p0_6, .int .u16 p0_7, .int .u16 p0_8, .int .u16 p0_9, .int .u16 p0_10, .int .u16 p0_11, .int .u16 p0_12, .int .u8 p0_13, .int .u8 p0_14, .bool p0_15, .bool p0_16, .bool p0_17, .bool p0_18, .int .i64 p0_19], .int .i64 p1, .int .u16 p2] (by kernel_rfl) ?_
  refine RunsI.go 1 [.c 1, .c 2] (by kernel_rfl) ?_
  refine RunsI.region (by kernel_rfl) ?_
  refine RegI.op (by kernel_rfl) (OpE.box 3 46 [.int .u16 p0_0, .int .u16 p0_1, .int .u16 p0_2, .int .u16 p0_3, .int .u16 p0_4, .int .u16 p0_5, .int .u16 p0_6, .int .u16 p0_7, .int .u16 p0_8, .int .u16 p0_9, .int .u16 p0_10, .int .u16 p0_11, .int .u16 p0_12, .int .u8 p0_13, .int .u8 p0_14, .bool p0_15, .bool p0_16, .bool p0_17, .bool p0_18, .int .i64 p0_19] h0 (by kernel_rfl) (by kernel_rfl) ?_)
  intro w1 b2 h3 hb4 hn5
  refine RegI.pure 1 [1, 2, 3] [(1, .int .i64 p1), (2, .int .u16 p2), (3, .pointer (some ⟨b2, 0, none⟩))] (by kernel_rfl) ?_
  refine RegI.done (by kernel_rfl) ?_
  refine RunsI.go 1 [.c 3, .c 4] (by kernel_rfl) ?_
  refine RunsI.region (by kernel_rfl) ?_
  obtain ⟨t10, hg9, h⟩ := of_bind h
  refine RegI.op (by kernel_rfl) (OpE.call 14 (by kernel_rfl) 23 #[] (by kernel_rfl) ((charabanclaw11_awake_23_ok K _ w1  h3.old' (h3.get 0 rfl) (h3.get 1 rfl) (h3.get 2 rfl) hg9).mono ?_))
  rintro _ w6 ⟨rfl, hb7⟩
  refine ⟨_, rfl, ?_⟩
  have h8 := h3.call hb7
  refine RegI.pure 1 [1, 2, 3, 7] [(1, .int .i64 p1), (2, .int .u16 p2), (3, .pointer (some ⟨b2, 0, none⟩)), (7, .bool t10)] (by kernel_rfl) ?_
  refine RegI.done (by kernel_rfl) ?_
  refine RunsI.go 2 [.c 6, .c 7, .c 12] (by kernel_rfl) ?_
  refine RunsI.region (by kernel_rfl) ?_
  refine RegI.pure 2 [1, 2, 3, 16] [(1, .int .i64 p1), (2, .int .u16 p2), (3, .pointer (some ⟨b2, 0, none⟩)), (16, .bool (!t10))] (by kernel_rfl) ?_
  refine RegI.done (by kernel_rfl) ?_
  rcases of_cond h with ⟨hc11, h⟩ | ⟨hc11, h⟩
  · skip
    refine RunsI.fix 16 true hc11 (by kernel_rfl) (by kernel_rfl) ?_
    refine RunsI.cond true 8 (by kernel_rfl) ?_
    refine RunsI.go 1 [.c 9, .c 10, .c 12] (by kernel_rfl) ?_
    refine RunsI.region (by kernel_rfl) ?_
    refine RegI.pure 1 [6] [(6, .bool false)] (by kernel_rfl) ?_
    refine RegI.done (by kernel_rfl) ?_
    refine RunsI.ret (.bool false) (by kernel_rfl) (by kernel_rfl) ?_
    obtain rfl := Option.some.inj h
    exact ⟨rfl, h8.below⟩
  · skip
    refine RunsI.fix 16 false hc11 (by kernel_rfl) (by kernel_rfl) ?_
    refine RunsI.cond false 11 (by kernel_rfl) ?_
    refine RunsI.go 1 [.c 12] (by kernel_rfl) ?_
    refine RunsI.go 2 [.c 14, .c 15, .c 58] (by kernel_rfl) ?_
    refine RunsI.region (by kernel_rfl) ?_
    refine RegI.pure 1 [1, 2, 3, 8] [(1, .int .i64 p1), (2, .int .u16 p2), (3, .pointer (some ⟨b2, 0, none⟩)), (8, .int .i64 0)] (by kernel_rfl) ?_
    refine RegI.done (by kernel_rfl) ?_
    refine RunsI.go 2 [.c 17, .lp 17, .blk 0, .c 58] (by kernel_rfl) ?_
    obtain ⟨x170, hx171, h⟩ := of_bind h
    refine RunsI.only [1, 2, 3, 8] [(1, .int .i64 p1), (2, .int .u16 p2), (3, .pointer (some ⟨b2, 0, none⟩)), (8, .int .i64 0)] (by kernel_rfl) (by kernel_rfl) ?_
    refine charabanclaw11_RegsBack_8.l1_ok K M0 w0 p0_0 p0_1 p0_2 p0_3 p0_4 p0_5 p0_6 p0_7 p0_8 p0_9 p0_10 p0_11 p0_12 p0_13 p0_14 p0_15 p0_16 p0_17 p0_18 p0_19 p1 p2 b2 _ x170 ?_ ?_ K 0 w6 hx171 (h8.pick [3, 0, 1, 2] (by decide))
    · intro w173 hq262 h172
      (try rw [hq262] at h)
      dsimp only [Lp.elim] at h
      refine RunsI.go 2 [.c 60, .c 61, .c 81] (by kernel_rfl) ?_
      refine RunsI.region (by kernel_rfl) ?_
      refine RegI.pure 1 [1, 2, 3, 12] [(1, .int .i64 p1), (2, .int .u16 p2), (3, .pointer (some ⟨b2, 0, none⟩)), (12, .int .i64 0)] (by kernel_rfl) ?_
      refine RegI.done (by kernel_rfl) ?_
      refine RunsI.go 2 [.c 63, .lp 63, .blk 4, .c 81] (by kernel_rfl) ?_
      obtain ⟨x254, hx255, h⟩ := of_bind h
      refine RunsI.only [1, 2, 3, 12] [(1, .int .i64 p1), (2, .int .u16 p2), (3, .pointer (some ⟨b2, 0, none⟩)), (12, .int .i64 0)] (by kernel_rfl) (by kernel_rfl) ?_
      refine charabanclaw11_RegsBack_8.l2_ok K M0 w0 p0_0 p0_1 p0_2 p0_3 p0_4 p0_5 p0_6 p0_7 p0_8 p0_9 p0_10 p0_11 p0_12 p0_13 p0_14 p0_15 p0_16 p0_17 p0_18 p0_19 p1 p2 b2 _ x254 ?_ ?_ K 0 w173 hx255 (h172.pick [0, 1, 2, 3] (by decide))
      · intro w257 hq263 h256
        (try rw [hq263] at h)
        dsimp only [Lp.elim] at h
        refine RunsI.go 1 [.c 82, .c 83] (by kernel_rfl) ?_
        refine RunsI.region (by kernel_rfl) ?_
        refine RegI.pure 1 [6] [(6, .bool true)] (by kernel_rfl) ?_
        refine RegI.done (by kernel_rfl) ?_
        refine RunsI.ret (.bool true) (by kernel_rfl) (by kernel_rfl) ?_
        obtain rfl := Option.some.inj h
        exact ⟨rfl, h256.below⟩
      · intro w259 hq264 h258
        (try rw [hq264] at h)
        dsimp only [Lp.elim] at h
        obtain rfl := Option.some.inj h
        exact ⟨rfl, h258.below⟩
    · intro w175 hq265 h174
      (try rw [hq265] at h)
      dsimp only [Lp.elim] at h
      obtain rfl := Option.some.inj h
      exact ⟨rfl, h174.below⟩
end
end Go.Proofs.YtajnhlkkbhobiaaDoor.Reg
