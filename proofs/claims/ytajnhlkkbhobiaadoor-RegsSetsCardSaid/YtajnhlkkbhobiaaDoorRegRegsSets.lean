/- The statement's function RegsSets as a plain Lean function; written by wip/eng.py. -/
import Derived.Test.YtajnhlkkbhobiaaDoorReg3
set_option linter.unusedVariables false
set_option linter.unusedSimpArgs false
set_option maxHeartbeats 4000000
namespace Go.Proofs.YtajnhlkkbhobiaaDoor.Reg
open Go.RowKit Go.Eng
noncomputable def B7 : Code := (Tryd.f7.body).getD .skip
noncomputable def F7 : Fun Tryd.prog := ⟨7, Tryd.f7, B7, 42, Tryd.func7, by kernel_rfl, by kernel_rfl, [], none⟩

/-! ### charabanc/charabanclaw11.RegsSets (function 7) -/
section
def charabanclaw11_RegsSets_7.post (M0 : Nat → Prop) (w0 : World) (r : Bool) : Ending → World → Prop := fun e w => e = .returned (.bool r) ∧ Below w0.heap.size w0 w
def charabanclaw11_RegsSets_7.l0 (K : Nat) (p0_0 : Int) (p0_1 : Int) (p0_2 : Int) (p0_3 : Int) (p0_4 : Int) (p0_5 : Int) (p0_6 : Int) (p0_7 : Int) (p0_8 : Int) (p0_9 : Int) (p0_10 : Int) (p0_11 : Int) (p0_12 : Int) (p0_13 : Int) (p0_14 : Int) (p0_15 : Bool) (p0_16 : Bool) (p0_17 : Bool) (p0_18 : Bool) (p0_19 : Int) (p1 : Int) (p2 : Int) : Nat → Int → Option (Lp Unit Unit)
  | 0, _ => none
  | k + 1, t13 => cond (decide (t13 < 8)) ((regs_Set_38.f K p0_0 p0_1 p0_2 p0_3 p0_4 p0_5 p0_6 p0_7 p0_8 p0_9 p0_10 p0_11 p0_12 p0_13 p0_14 p0_15 p0_16 p0_17 p0_18 p0_19 t13 p1 (IntKind.wrap .u8 p2)).bind fun yt20 => (charabancref11_Set_39.f K p0_0 p0_1 p0_2 p0_3 p0_4 p0_5 p0_6 p0_7 p0_8 p0_9 p0_10 p0_11 p0_12 p0_13 p0_14 p0_15 p0_16 p0_17 p0_18 p0_19 t13 p1 (IntKind.wrap .u8 p2)).bind fun yt41 => Let (fun (t110 : Bool) => cond t110 (some (Lp.ret ())) (charabanclaw11_RegsSets_7.l0 K p0_0 p0_1 p0_2 p0_3 p0_4 p0_5 p0_6 p0_7 p0_8 p0_9 p0_10 p0_11 p0_12 p0_13 p0_14 p0_15 p0_16 p0_17 p0_18 p0_19 p1 p2 k (IntKind.wrap .i64 (t13 + 1)))) (fun j113 => cond (!((yt20.1 == yt41.1) && ((yt20.2.1 == yt41.2.1) && ((yt20.2.2.1 == yt41.2.2.1) && ((yt20.2.2.2.1 == yt41.2.2.2.1) && ((yt20.2.2.2.2.1 == yt41.2.2.2.2.1) && ((yt20.2.2.2.2.2.1 == yt41.2.2.2.2.2.1) && ((yt20.2.2.2.2.2.2.1 == yt41.2.2.2.2.2.2.1) && ((yt20.2.2.2.2.2.2.2.1 == yt41.2.2.2.2.2.2.2.1) && ((yt20.2.2.2.2.2.2.2.2.1 == yt41.2.2.2.2.2.2.2.2.1) && ((yt20.2.2.2.2.2.2.2.2.2.1 == yt41.2.2.2.2.2.2.2.2.2.1) && ((yt20.2.2.2.2.2.2.2.2.2.2.1 == yt41.2.2.2.2.2.2.2.2.2.2.1) && ((yt20.2.2.2.2.2.2.2.2.2.2.2.1 == yt41.2.2.2.2.2.2.2.2.2.2.2.1) && ((yt20.2.2.2.2.2.2.2.2.2.2.2.2.1 == yt41.2.2.2.2.2.2.2.2.2.2.2.2.1) && ((yt20.2.2.2.2.2.2.2.2.2.2.2.2.2.1 == yt41.2.2.2.2.2.2.2.2.2.2.2.2.2.1) && ((yt20.2.2.2.2.2.2.2.2.2.2.2.2.2.2.1 == yt41.2.2.2.2.2.2.2.2.2.2.2.2.2.2.1) && ((yt20.2.2.2.2.2.2.2.2.2.2.2.2.2.2.2.1 == yt41.2.2.2.2.2.2.2.2.2.2.2.2.2.2.2.1) && ((yt20.2.2.2.2.2.2.2.2.2.2.2.2.2.2.2.2.1 == yt41.2.2.2.2.2.2.2.2.2.2.2.2.2.2.2.2.1) && ((yt20.2.2.2.2.2.2.2.2.2.2.2.2.2.2.2.2.2.1 == yt41.2.2.2.2.2.2.2.2.2.2.2.2.2.2.2.2.2.1) && ((yt20.2.2.2.2.2.2.2.2.2.2.2.2.2.2.2.2.2.2.1 == yt41.2.2.2.2.2.2.2.2.2.2.2.2.2.2.2.2.2.2.1) && ((yt20.2.2.2.2.2.2.2.2.2.2.2.2.2.2.2.2.2.2.2 == yt41.2.2.2.2.2.2.2.2.2.2.2.2.2.2.2.2.2.2.2) && true))))))))))))))))))))) (j113 true) ((regs_SetPair_40.f K p0_0 p0_1 p0_2 p0_3 p0_4 p0_5 p0_6 p0_7 p0_8 p0_9 p0_10 p0_11 p0_12 p0_13 p0_14 p0_15 p0_16 p0_17 p0_18 p0_19 t13 p1 p2).bind fun yt66 => (charabancref11_SetPair_41.f K p0_0 p0_1 p0_2 p0_3 p0_4 p0_5 p0_6 p0_7 p0_8 p0_9 p0_10 p0_11 p0_12 p0_13 p0_14 p0_15 p0_16 p0_17 p0_18 p0_19 t13 p1 p2).bind fun yt87 => j113 (!((yt66.1 == yt87.1) && ((yt66.2.1 == yt87.2.1) && ((yt66.2.2.1 == yt87.2.2.1) && ((yt66.2.2.2.1 == yt87.2.2.2.1) && ((yt66.2.2.2.2.1 == yt87.2.2.2.2.1) && ((yt66.2.2.2.2.2.1 == yt87.2.2.2.2.2.1) && ((yt66.2.2.2.2.2.2.1 == yt87.2.2.2.2.2.2.1) && ((yt66.2.2.2.2.2.2.2.1 == yt87.2.2.2.2.2.2.2.1) && ((yt66.2.2.2.2.2.2.2.2.1 == yt87.2.2.2.2.2.2.2.2.1) && ((yt66.2.2.2.2.2.2.2.2.2.1 == yt87.2.2.2.2.2.2.2.2.2.1) && ((yt66.2.2.2.2.2.2.2.2.2.2.1 == yt87.2.2.2.2.2.2.2.2.2.2.1) && ((yt66.2.2.2.2.2.2.2.2.2.2.2.1 == yt87.2.2.2.2.2.2.2.2.2.2.2.1) && ((yt66.2.2.2.2.2.2.2.2.2.2.2.2.1 == yt87.2.2.2.2.2.2.2.2.2.2.2.2.1) && ((yt66.2.2.2.2.2.2.2.2.2.2.2.2.2.1 == yt87.2.2.2.2.2.2.2.2.2.2.2.2.2.1) && ((yt66.2.2.2.2.2.2.2.2.2.2.2.2.2.2.1 == yt87.2.2.2.2.2.2.2.2.2.2.2.2.2.2.1) && ((yt66.2.2.2.2.2.2.2.2.2.2.2.2.2.2.2.1 == yt87.2.2.2.2.2.2.2.2.2.2.2.2.2.2.2.1) && ((yt66.2.2.2.2.2.2.2.2.2.2.2.2.2.2.2.2.1 == yt87.2.2.2.2.2.2.2.2.2.2.2.2.2.2.2.2.1) && ((yt66.2.2.2.2.2.2.2.2.2.2.2.2.2.2.2.2.2.1 == yt87.2.2.2.2.2.2.2.2.2.2.2.2.2.2.2.2.2.1) && ((yt66.2.2.2.2.2.2.2.2.2.2.2.2.2.2.2.2.2.2.1 == yt87.2.2.2.2.2.2.2.2.2.2.2.2.2.2.2.2.2.2.1) && ((yt66.2.2.2.2.2.2.2.2.2.2.2.2.2.2.2.2.2.2.2 == yt87.2.2.2.2.2.2.2.2.2.2.2.2.2.2.2.2.2.2.2) && true)))))))))))))))))))))))) (some (Lp.go ()))
set_option maxRecDepth 100000 in
theorem charabanclaw11_RegsSets_7.l0_ok (K : Nat) (M0 : Nat → Prop) (w0 : World) (p0_0 : Int) (p0_1 : Int) (p0_2 : Int) (p0_3 : Int) (p0_4 : Int) (p0_5 : Int) (p0_6 : Int) (p0_7 : Int) (p0_8 : Int) (p0_9 : Int) (p0_10 : Int) (p0_11 : Int) (p0_12 : Int) (p0_13 : Int) (p0_14 : Int) (p0_15 : Bool) (p0_16 : Bool) (p0_17 : Bool) (p0_18 : Bool) (p0_19 : Int) (p1 : Int) (p2 : Int) (b12 : Nat) (R : Ending → World → Prop) (x : Lp Unit Unit) (hk0 : ∀ (w1 : World), x = Lp.go () → Holds M0 w0 w1 [gl 2 (tab_2.flatMap en_2), gl 4 (tab_4.flatMap en_4), gl 5 (tab_5.flatMap en_5)] → RunsI F7 [.c 33] [] w1 R) (hk1 : ∀ (w1 : World), x = Lp.ret () → Holds M0 w0 w1 [gl 2 (tab_2.flatMap en_2), gl 4 (tab_4.flatMap en_4), gl 5 (tab_5.flatMap en_5)] → R (.returned (.bool false)) w1) :
    ∀ (k : Nat) (t13 : Int) (w : World), charabanclaw11_RegsSets_7.l0 K p0_0 p0_1 p0_2 p0_3 p0_4 p0_5 p0_6 p0_7 p0_8 p0_9 p0_10 p0_11 p0_12 p0_13 p0_14 p0_15 p0_16 p0_17 p0_18 p0_19 p1 p2 k t13 = some x → Holds M0 w0 w [box b12 46 [.int .u16 p0_0, .int .u16 p0_1, .int .u16 p0_2, .int .u16 p0_3, .int .u16 p0_4, .int .u16 p0_5, .int .u16 p0_6, .int .u16 p0_7, .int .u16 p0_8, .int .u16 p0_9, .int .u16 p0_10, .int .u16 p0_11, .int .u16 p0_12, .int .u8 p0_13, .int .u8 p0_14, .bool p0_15, .bool p0_16, .bool p0_17, .bool p0_18, .int .i64 p0_19], gl 2 (tab_2.flatMap en_2), gl 4 (tab_4.flatMap en_4), gl 5 (tab_5.flatMap en_5)] → RunsI F7 [.c 17, .lp 17, .blk 0, .c 33] [(1, .int .i64 p1), (2, .int .u16 p2), (3, .pointer (some ⟨b12, 0, none⟩)), (8, .int .i64 t13)] w R := by
  intro k
  induction k with
  | zero => intro t13 w h hH; exact absurd h (by simp [charabanclaw11_RegsSets_7.l0])
  | succ k ih =>
    intro t13 w h hH
    rw [charabanclaw11_RegsSets_7.l0.eq_2] at h
    refine RunsI.go 1 [.c 18, .c 23, .lp 17, .blk 0, .c 33] (by kernel_rfl) ?_
    refine RunsI.go 1 [.c 19, .c 20, .c 23, .lp 17, .blk 0, .c 33] (by kernel_rfl) ?_
    refine RunsI.region (by kernel_rfl) ?_
    refine RegI.pure 2 [1, 2, 3, 8, 13] [(1, .int .i64 p1), (2, .int .u16 p2), (3, .pointer (some ⟨b12, 0, none⟩)), (8, .int .i64 t13), (13, .bool (decide (t13 < 8)))] (by kernel_rfl) ?_
    refine RegI.done (by kernel_rfl) ?_
    rcases of_cond h with ⟨hc14, h⟩ | ⟨hc14, h⟩
    · skip
      refine RunsI.fix 13 true hc14 (by kernel_rfl) (by kernel_rfl) ?_
      refine RunsI.cond true 21 (by kernel_rfl) ?_
      refine RunsI.go 1 [.c 23, .lp 17, .blk 0, .c 33] (by kernel_rfl) ?_
      refine RunsI.go 3 [.c 26, .c 27, .blk 1, .c 32, .lp 17, .blk 0, .c 33] (by kernel_rfl) ?_
      refine RunsI.any 26 (by kernel_rfl) (by kernel_rfl) (by kernel_rfl) (Kp ([] : List Nat) (World.drew w)) ?_
      have h16 := hH.drew
      generalize World.drew w = w15 at h16 ⊢
      have hS17 := Kp.refl ([] : List Nat) w15
      refine AnyE.loadBox 0 16 0 46 b12 0 (.agg #[.int .u16 p0_0, .int .u16 p0_1, .int .u16 p0_2, .int .u16 p0_3, .int .u16 p0_4, .int .u16 p0_5, .int .u16 p0_6, .int .u16 p0_7, .int .u16 p0_8, .int .u16 p0_9, .int .u16 p0_10, .int .u16 p0_11, .int .u16 p0_12, .int .u8 p0_13, .int .u8 p0_14, .bool p0_15, .bool p0_16, .bool p0_17, .bool p0_18, .int .i64 p0_19]) [] h16 rfl (by kernel_rfl) hS17 rfl rfl (by kernel_rfl) (by kernel_rfl) ?_
      refine AnyE.pure 1 17 (.int .i64 t13) (by kernel_rfl) hS17 (fun _ => by kernel_rfl) ?_
      refine AnyE.pure 2 18 (.int .i64 p1) (by kernel_rfl) hS17 (fun _ => by kernel_rfl) ?_
      refine AnyE.pure 3 19 (.int .u16 p2) (by kernel_rfl) hS17 (fun _ => by kernel_rfl) ?_
      refine AnyE.pure 4 20 (.int .u8 (IntKind.wrap .u8 p2)) (by kernel_rfl) hS17 (fun _ => by kernel_rfl) ?_
      obtain ⟨⟨t20, t21, t22, t23, t24, t25, t26, t27, t28, t29, t30, t31, t32, t33, t34, t35, t36, t37, t38, t39⟩, hg19, h⟩ := of_bind h
      dsimp only at h
      refine AnyE.call 5 21 (.agg #[.int .u16 t20, .int .u16 t21, .int .u16 t22, .int .u16 t23, .int .u16 t24, .int .u16 t25, .int .u16 t26, .int .u16 t27, .int .u16 t28, .int .u16 t29, .int .u16 t30, .int .u16 t31, .int .u16 t32, .int .u8 t33, .int .u8 t34, .bool t35, .bool t36, .bool t37, .bool t38, .int .i64 t39]) 38 #[.agg #[.int .u16 p0_0, .int .u16 p0_1, .int .u16 p0_2, .int .u16 p0_3, .int .u16 p0_4, .int .u16 p0_5, .int .u16 p0_6, .int .u16 p0_7, .int .u16 p0_8, .int .u16 p0_9, .int .u16 p0_10, .int .u16 p0_11, .int .u16 p0_12, .int .u8 p0_13, .int .u8 p0_14, .bool p0_15, .bool p0_16, .bool p0_17, .bool p0_18, .int .i64 p0_19], .int .i64 t13, .int .i64 p1, .int .u8 (IntKind.wrap .u8 p2)] (by kernel_rfl) hS17 (fun _ => by kernel_rfl) (fun w hk => regs_Set_38_ok K (fun _ => False) w p0_0 p0_1 p0_2 p0_3 p0_4 p0_5 p0_6 p0_7 p0_8 p0_9 p0_10 p0_11 p0_12 p0_13 p0_14 p0_15 p0_16 p0_17 p0_18 p0_19 t13 p1 (IntKind.wrap .u8 p2) (fun _ hf => hf.elim) hg19) ?_
      refine AnyE.loadBox 6 22 0 46 b12 0 (.agg #[.int .u16 p0_0, .int .u16 p0_1, .int .u16 p0_2, .int .u16 p0_3, .int .u16 p0_4, .int .u16 p0_5, .int .u16 p0_6, .int .u16 p0_7, .int .u16 p0_8, .int .u16 p0_9, .int .u16 p0_10, .int .u16 p0_11, .int .u16 p0_12, .int .u8 p0_13, .int .u8 p0_14, .bool p0_15, .bool p0_16, .bool p0_17, .bool p0_18, .int .i64 p0_19]) [] h16 rfl (by kernel_rfl) hS17 rfl rfl (by kernel_rfl) (by kernel_rfl) ?_
      refine AnyE.pure 7 23 (.int .i64 t13) (by kernel_rfl) hS17 (fun _ => by kernel_rfl) ?_
      refine AnyE.pure 8 24 (.int .i64 p1) (by kernel_rfl) hS17 (fun _ => by kernel_rfl) ?_
      refine AnyE.pure 9 25 (.int .u16 p2) (by kernel_rfl) hS17 (fun _ => by kernel_rfl) ?_
      refine AnyE.pure 10 26 (.int .u8 (IntKind.wrap .u8 p2)) (by kernel_rfl) hS17 (fun _ => by kernel_rfl) ?_
      obtain ⟨⟨t41, t42, t43, t44, t45, t46, t47, t48, t49, t50, t51, t52, t53, t54, t55, t56, t57, t58, t59, t60⟩, hg40, h⟩ := of_bind h
      dsimp only at h
      refine AnyE.call 11 27 (.agg #[.int .u16 t41, .int .u16 t42, .int .u16 t43, .int .u16 t44, .int .u16 t45, .int .u16 t46, .int .u16 t47, .int .u16 t48, .int .u16 t49, .int .u16 t50, .int .u16 t51, .int .u16 t52, .int .u16 t53, .int .u8 t54, .int .u8 t55, .bool t56, .bool t57, .bool t58, .bool t59, .int .i64 t60]) 39 #[.agg #[.int .u16 p0_0, .int .u16 p0_1, .int .u16 p0_2, .int .u16 p0_3, .int .u16 p0_4, .int .u16 p0_5, .int .u16 p0_6, .int .u16 p0_7, .int .u16 p0_8, .int .u16 p0_9, .int .u16 p0_10, .int .u16 p0_11, .int .u16 p0_12, .int .u8 p0_13, .int .u8 p0_14, .bool p0_15, .bool p0_16, .bool p0_17, .bool p0_18, .int .i64 p0_19], .int .i64 t13, .int .i64 p1, .int .u8 (IntKind.wrap .u8 p2)] (by kernel_rfl) hS17 (fun _ => by kernel_rfl) (fun w hk => charabancref11_Set_39_ok K (fun _ => False) w p0_0 p0_1 p0_2 p0_3 p0_4 p0_5 p0_6 p0_7 p0_8 p0_9 p0_10 p0_11 p0_12 p0_13 p0_14 p0_15 p0_16 p0_17 p0_18 p0_19 t13 p1 (IntKind.wrap .u8 p2) (fun _ hf => hf.elim) hg40) ?_
      refine AnyE.run 12 28 (.bool (!((t20 == t41) && ((t21 == t42) && ((t22 == t43) && ((t23 == t44) && ((t24 == t45) && ((t25 == t46) && ((t26 == t47) && ((t27 == t48) && ((t28 == t49) && ((t29 == t50) && ((t30 == t51) && ((t31 == t52) && ((t32 == t53) && ((t33 == t54) && ((t34 == t55) && ((t35 == t56) && ((t36 == t57) && ((t37 == t58) && ((t38 == t59) && ((t39 == t60) && true)))))))))))))))))))))) (by kernel_rfl) hS17 (fun _ hk => run_eqS (neg := true) (t := 46) (x := .agg #[.int .u16 t20, .int .u16 t21, .int .u16 t22, .int .u16 t23, .int .u16 t24, .int .u16 t25, .int .u16 t26, .int .u16 t27, .int .u16 t28, .int .u16 t29, .int .u16 t30, .int .u16 t31, .int .u16 t32, .int .u8 t33, .int .u8 t34, .bool t35, .bool t36, .bool t37, .bool t38, .int .i64 t39]) (y := .agg #[.int .u16 t41, .int .u16 t42, .int .u16 t43, .int .u16 t44, .int .u16 t45, .int .u16 t46, .int .u16 t47, .int .u16 t48, .int .u16 t49, .int .u16 t50, .int .u16 t51, .int .u16 t52, .int .u16 t53, .int .u8 t54, .int .u8 t55, .bool t56, .bool t57, .bool t58, .bool t59, .int .i64 t60]) (b := ((t20 == t41) && ((t21 == t42) && ((t22 == t43) && ((t23 == t44) && ((t24 == t45) && ((t25 == t46) && ((t26 == t47) && ((t27 == t48) && ((t28 == t49) && ((t29 == t50) && ((t30 == t51) && ((t31 == t52) && ((t32 == t53) && ((t33 == t54) && ((t34 == t55) && ((t35 == t56) && ((t36 == t57) && ((t37 == t58) && ((t38 == t59) && ((t39 == t60) && true))))))))))))))))))))) (by kernel_rfl) (by kernel_rfl) (by kernel_rfl) (by kernel_rfl)) ?_
      refine AnyE.pure 13 29 (.bool (!((t20 == t41) && ((t21 == t42) && ((t22 == t43) && ((t23 == t44) && ((t24 == t45) && ((t25 == t46) && ((t26 == t47) && ((t27 == t48) && ((t28 == t49) && ((t29 == t50) && ((t30 == t51) && ((t31 == t52) && ((t32 == t53) && ((t33 == t54) && ((t34 == t55) && ((t35 == t56) && ((t36 == t57) && ((t37 == t58) && ((t38 == t59) && ((t39 == t60) && true)))))))))))))))))))))) (by kernel_rfl) hS17 (fun _ => by kernel_rfl) ?_
      obtain ⟨j113, hJ114, h⟩ := of_let h
      have hj115 : ∀ (t110 : Bool) (w112 : World), j113 t110 = some x → Holds M0 w0 w112 [box b12 46 [.int .u16 p0_0, .int .u16 p0_1, .int .u16 p0_2, .int .u16 p0_3, .int .u16 p0_4, .int .u16 p0_5, .int .u16 p0_6, .int .u16 p0_7, .int .u16 p0_8, .int .u16 p0_9, .int .u16 p0_10, .int .u16 p0_11, .int .u16 p0_12, .int .u8 p0_13, .int .u8 p0_14, .bool p0_15, .bool p0_16, .bool p0_17, .bool p0_18, .int .i64 p0_19], gl 2 (tab_2.flatMap en_2), gl 4 (tab_4.flatMap en_4), gl 5 (tab_5.flatMap en_5)] → RunsI F7 [.c 27, .blk 1, .c 32, .lp 17, .blk 0, .c 33] [(1, .int .i64 p1), (2, .int .u16 p2), (3, .pointer (some ⟨b12, 0, none⟩)), (8, .int .i64 t13), (41, .bool t110)] w112 R := by
        intro t110 w112 h h111
        rw [hJ114] at h
        clear hJ114
        dsimp only at h
        rcases of_cond h with ⟨hc116, h⟩ | ⟨hc116, h⟩
        · skip
          refine RunsI.fix 41 true hc116 (by kernel_rfl) (by kernel_rfl) ?_
          refine RunsI.cond true 28 (by kernel_rfl) ?_
          refine RunsI.go 1 [.c 29, .c 30, .blk 1, .c 32, .lp 17, .blk 0, .c 33] (by kernel_rfl) ?_
          refine RunsI.region (by kernel_rfl) ?_
          refine RegI.pure 1 [6] [(6, .bool false)] (by kernel_rfl) ?_
          refine RegI.done (by kernel_rfl) ?_
          refine RunsI.ret (.bool false) (by kernel_rfl) (by kernel_rfl) ?_
          exact hk1 w112 (Option.some.inj h).symm (h111.pick [1, 2, 3] (by decide))
        · skip
          refine RunsI.fix 41 false hc116 (by kernel_rfl) (by kernel_rfl) ?_
          refine RunsI.cond false 31 (by kernel_rfl) ?_
          refine RunsI.go 1 [.blk 1, .c 32, .lp 17, .blk 0, .c 33] (by kernel_rfl) ?_
          refine RunsI.go 1 [.c 32, .lp 17, .blk 0, .c 33] (by kernel_rfl) ?_
          refine RunsI.region (by kernel_rfl) ?_
          refine RegI.pure 3 [1, 2, 3, 8] [(1, .int .i64 p1), (2, .int .u16 p2), (3, .pointer (some ⟨b12, 0, none⟩)), (8, .int .i64 (IntKind.wrap .i64 (t13 + 1)))] (by kernel_rfl) ?_
          refine RegI.done (by kernel_rfl) ?_
          refine RunsI.go 1 [.c 17, .lp 17, .blk 0, .c 33] (by kernel_rfl) ?_
          refine RunsI.only [1, 2, 3, 8] [(1, .int .i64 p1), (2, .int .u16 p2), (3, .pointer (some ⟨b12, 0, none⟩)), (8, .int .i64 (IntKind.wrap .i64 (t13 + 1)))] (by kernel_rfl) (by kernel_rfl) ?_
          exact ih (IntKind.wrap .i64 (t13 + 1)) w112 h (h111.pick [0, 1, 2, 3] (by decide))
      clear hJ114
      rcases of_cond h with ⟨hc61, h⟩ | ⟨hc61, h⟩
      · skip
        refine AnyE.fix 29 true hc61 (by kernel_rfl) (by kernel_rfl) ?_
        refine AnyE.no 14 30 (by kernel_rfl) hS17 ?_
        refine AnyE.no 15 31 (by kernel_rfl) hS17 ?_
        refine AnyE.no 16 32 (by kernel_rfl) hS17 ?_
        refine AnyE.no 17 33 (by kernel_rfl) hS17 ?_
        refine AnyE.no 18 34 (by kernel_rfl) hS17 ?_
        refine AnyE.no 19 35 (by kernel_rfl) hS17 ?_
        refine AnyE.no 20 36 (by kernel_rfl) hS17 ?_
        refine AnyE.no 21 37 (by kernel_rfl) hS17 ?_
        refine AnyE.no 22 38 (by kernel_rfl) hS17 ?_
        refine AnyE.no 23 39 (by kernel_rfl) hS17 ?_
        refine AnyE.no 24 40 (by kernel_rfl) hS17 ?_
        refine AnyE.pure 25 41 (.bool true) (by kernel_rfl) hS17 (fun _ => by kernel_rfl) ?_
        refine AnyE.done (by kernel_rfl) (fun w62 hu63 => ?_)
        have h64 := h16.call hu63
        refine RunsI.only [1, 2, 3, 8, 41] [(1, .int .i64 p1), (2, .int .u16 p2), (3, .pointer (some ⟨b12, 0, none⟩)), (8, .int .i64 t13), (41, .bool true)] (by kernel_rfl) (by kernel_rfl) ?_
        refine RunsI.only [1, 2, 3, 8, 41] [(1, .int .i64 p1), (2, .int .u16 p2), (3, .pointer (some ⟨b12, 0, none⟩)), (8, .int .i64 t13), (41, .bool true)] (by kernel_rfl) (by kernel_rfl) ?_
        exact hj115 true w62 h (h64.pick [0, 1, 2, 3] (by decide))
      · skip
        refine AnyE.fix 29 false hc61 (by kernel_rfl) (by kernel_rfl) ?_
        refine AnyE.loadBox 14 30 0 46 b12 0 (.agg #[.int .u16 p0_0, .int .u16 p0_1, .int .u16 p0_2, .int .u16 p0_3, .int .u16 p0_4, .int .u16 p0_5, .int .u16 p0_6, .int .u16 p0_7, .int .u16 p0_8, .int .u16 p0_9, .int .u16 p0_10, .int .u16 p0_11, .int .u16 p0_12, .int .u8 p0_13, .int .u8 p0_14, .bool p0_15, .bool p0_16, .bool p0_17, .bool p0_18, .int .i64 p0_19]) [] h16 rfl (by kernel_rfl) hS17 rfl rfl (by kernel_rfl) (by kernel_rfl) ?_
        refine AnyE.pure 15 31 (.int .i64 t13) (by kernel_rfl) hS17 (fun _ => by kernel_rfl) ?_
        refine AnyE.pure 16 32 (.int .i64 p1) (by kernel_rfl) hS17 (fun _ => by kernel_rfl) ?_
        refine AnyE.pure 17 33 (.int .u16 p2) (by kernel_rfl) hS17 (fun _ => by kernel_rfl) ?_
        obtain ⟨⟨t66, t67, t68, t69, t70, t71, t72, t73, t74, t75, t76, t77, t78, t79, t80, t81, t82, t83, t84, t85⟩, hg65, h⟩ := of_bind h
        dsimp only at h
        refine AnyE.call 18 34 (.agg #[.int .u16 t66, .int .u16 t67, .int .u16 t68, .int .u16 t69, .int .u16 t70, .int .u16 t71, .int .u16 t72, .int .u16 t73, .int .u16 t74, .int .u16 t75, .int .u16 t76, .int .u16 t77, .int .u16 t78, .int .u8 t79, .int .u8 t80, .bool t81, .bool t82, .bool t83, .bool t84, .int .i64 t85]) 40 #[.agg #[.int .u16 p0_0, .int .u16 p0_1, .int .u16 p0_2, .int .u16 p0_3, .int .u16 p0_4, .int .u16 p0_5, .int .u16 p0_6, .int .u16 p0_7, .int .u16 p0_8, .int .u16 p0_9, .int .u16 p0_10, .int .u16 p0_11, .int .u16 p0_12, .int .u8 p0_13, .int .u8 p0_14, .bool p0_15, .bool p0_16, .bool p0_17, .bool p0_18, .int .i64 p0_19], .int .i64 t13, .int .i64 p1, .int .u16 p2] (by kernel_rfl) hS17 (fun _ => by kernel_rfl) (fun w hk => regs_SetPair_40_ok K (fun _ => False) w p0_0 p0_1 p0_2 p0_3 p0_4 p0_5 p0_6 p0_7 p0_8 p0_9 p0_10 p0_11 p0_12 p0_13 p0_14 p0_15 p0_16 p0_17 p0_18 p0_19 t13 p1 p2 (fun _ hf => hf.elim) hg65) ?_
        refine AnyE.loadBox 19 35 0 46 b12 0 (.agg #[.int .u16 p0_0, .int .u16 p0_1, .int .u16 p0_2, .int .u16 p0_3, .int .u16 p0_4, .int .u16 p0_5, .int .u16 p0_6, .int .u16 p0_7, .int .u16 p0_8, .int .u16 p0_9, .int .u16 p0_10, .int .u16 p0_11, .int .u16 p0_12, .int .u8 p0_13, .int .u8 p0_14, .bool p0_15, .bool p0_16, .bool p0_17, .bool p0_18, .int .i64 p0_19]) [] h16 rfl (by kernel_rfl) hS17 rfl rfl (by kernel_rfl) (by kernel_rfl) ?_
        refine AnyE.pure 20 36 (.int .i64 t13) (by kernel_rfl) hS17 (fun _ => by kernel_rfl) ?_
        refine AnyE.pure 21 37 (.int .i64 p1) (by kernel_rfl) hS17 (fun _ => by kernel_rfl) ?_
        refine AnyE.pure 22 38 (.int .u16 p2) (by kernel_rfl) hS17 (fun _ => by kernel_rfl) ?_
        obtain ⟨⟨t87, t88, t89, t90, t91, t92, t93, t94, t95, t96, t97, t98, t99, t100, t101, t102, t103, t104, t105, t106⟩, hg86, h⟩ := of_bind h
        dsimp only at h
        refine AnyE.call 23 39 (.agg #[.int .u16 t87, .int .u16 t88, .int .u16 t89, .int .u16 t90, .int .u16 t91, .int .u16 t92, .int .u16 t93, .int .u16 t94, .int .u16 t95, .int .u16 t96, .int .u16 t97, .int .u16 t98, .int .u16 t99, .int .u8 t100, .int .u8 t101, .bool t102, .bool t103, .bool t104, .bool t105, .int .i64 t106]) 41 #[.agg #[.int .u16 p0_0, .int .u16 p0_1, .int .u16 p0_2, .int .u16 p0_3, .int .u16 p0_4, .int .u16 p0_5, .int .u16 p0_6, .int .u16 p0_7, .int .u16 p0_8, .int .u16 p0_9, .int .u16 p0_10, .int .u16 p0_11, .int .u16 p0_12, .int .u8 p0_13, .int .u8 p0_14, .bool p0_15, .bool p0_16, .bool p0_17, .bool p0_18, .int .i64 p0_19], .int .i64 t13, .int .i64 p1, .int .u16 p2] (by kernel_rfl) hS17 (fun _ => by kernel_rfl) (fun w hk => charabancref11_SetPair_41_ok K (fun _ => False) w p0_0 p0_1 p0_2 p0_3 p0_4 p0_5 p0_6 p0_7 p0_8 p0_9 p0_10 p0_11 p0_12 p0_13 p0_14 p0_15 p0_16 p0_17 p0_18 p0_19 t13 p1 p2 (fun _ hf => hf.elim) hg86) ?_
        refine AnyE.run 24 40 (.bool (!((t66 == t87) && ((t67 == t88) && ((t68 == t89) && ((t69 == t90) && ((t70 == t91) && ((t71 == t92) && ((t72 == t93) && ((t73 == t94) && ((t74 == t95) && ((t75 == t96) && ((t76 == t97) && ((t77 == t98) && ((t78 == t99) && ((t79 == t100) && ((t80 == t101) && ((t81 == t102) && ((t82 == t103) && ((t83 == t104) && ((t84 == t105) && ((t85 == t106) && true)))))))))))))))))))))) (by kernel_rfl) hS17 (fun _ hk => run_eqS (neg := true) (t := 46) (x := .agg #[.int .u16 t66, .int .u16 t67, .int .u16 t68, .int .u16 t69, .int .u16 t70, .int .u16 t71, .int .u16 t72, .int .u16 t73, .int .u16 t74, .int .u16 t75, .int .u16 t76, .int .u16 t77, .int .u16 t78, .int .u8 t79, .int .u8 t80, .bool t81, .bool t82, .bool t83, .bool t84, .int .i64 t85]) (y := .agg #[.int .u16 t87, .int .u16 t88, .int .u16 t89, .int .u16 t90, .int .u16 t91, .int .u16 t92, .int .u16 t93, .int .u16 t94, .int .u16 t95, .int .u16 t96, .int .u16 t97, .int .u16 t98, .int .u16 t99, .int .u8 t100, .int .u8 t101, .bool t102, .bool t103, .bool t104, .bool t105, .int .i64 t106]) (b := ((t66 == t87) && ((t67 == t88) && ((t68 == t89) && ((t69 == t90) && ((t70 == t91) && ((t71 == t92) && ((t72 == t93) && ((t73 == t94) && ((t74 == t95) && ((t75 == t96) && ((t76 == t97) && ((t77 == t98) && ((t78 == t99) && ((t79 == t100) && ((t80 == t101) && ((t81 == t102) && ((t82 == t103) && ((t83 == t104) && ((t84 == t105) && ((t85 == t106) && true))))))))))))))))))))) (by kernel_rfl) (by kernel_rfl) (by kernel_rfl) (by kernel_rfl)) ?_
        refine AnyE.pure 25 41 (.bool (!((t66 == t87) && ((t67 == t88) && ((t68 == t89) && ((t69 == t90) && ((t70 == t91) && ((t71 == t92) && ((t72 == t93) && ((t73 == t94) && ((t74 == t95) && ((t75 == t96) && ((t76 == t97) && ((t77 == t98) && ((t78 == t99) && ((t79 == t100) && ((t80 == t101) && ((t81 == t102) && ((t82 == t103) && ((t83 == t104) && ((t84 == t105) && ((t85 == t106) && true)))))))))))))))))))))) (by kernel_rfl) hS17 (fun _ => by kernel_rfl) ?_
        refine AnyE.done (by kernel_rfl) (fun w107 hu108 => ?_)
        have h109 := h16.call hu108
        refine RunsI.only [1, 2, 3, 8, 41] [(1, .int .i64 p1), (2, .int .u16 p2), (3, .pointer (some ⟨b12, 0, none⟩)), (8, .int .i64 t13), (41, .bool (!((t66 == t87) && ((t67 == t88) && ((t68 == t89) && ((t69 == t90) && ((t70 == t91) && ((t71 == t92) && ((t72 == t93) && ((t73 == t94) && ((t74 == t95) && ((t75 == t96) && ((t76 == t97) && ((t77 == t98) && ((t78 == t99) && ((t79 == t100) && ((t80 == t101) && ((t81 == t102) && ((t82 == t103) && ((t83 == t104) && ((t84 == t105) && ((t85 == t106) && true))))))))))))))))))))))] (by kernel_rfl) (by kernel_rfl) ?_
        refine RunsI.only [1, 2, 3, 8, 41] [(1, .int .i64 p1), (2, .int .u16 p2), (3, .pointer (some ⟨b12, 0, none⟩)), (8, .int .i64 t13), (41, .bool (!((t66 == t87) && ((t67 == t88) && ((t68 == t89) && ((t69 == t90) && ((t70 == t91) && ((t71 == t92) && ((t72 == t93) && ((t73 == t94) && ((t74 == t95) && ((t75 == t96) && ((t76 == t97) && ((t77 == t98) && ((t78 == t99) && ((t79 == t100) && ((t80 == t101) && ((t81 == t102) && ((t82 == t103) && ((t83 == t104) && ((t84 == t105) && ((t85 == t106) && true))))))))))))))))))))))] (by kernel_rfl) (by kernel_rfl) ?_
        exact hj115 (!((t66 == t87) && ((t67 == t88) && ((t68 == t89) && ((t69 == t90) && ((t70 == t91) && ((t71 == t92) && ((t72 == t93) && ((t73 == t94) && ((t74 == t95) && ((t75 == t96) && ((t76 == t97) && ((t77 == t98) && ((t78 == t99) && ((t79 == t100) && ((t80 == t101) && ((t81 == t102) && ((t82 == t103) && ((t83 == t104) && ((t84 == t105) && ((t85 == t106) && true))))))))))))))))))))) w107 h (h109.pick [0, 1, 2, 3] (by decide))
    · skip
      refine RunsI.fix 13 false hc14 (by kernel_rfl) (by kernel_rfl) ?_
      refine RunsI.cond false 22 (by kernel_rfl) ?_
      refine RunsI.go 1 [.c 33] (by kernel_rfl) ?_
      refine RunsI.only [] [] (by kernel_rfl) (by kernel_rfl) ?_
      exact hk0 w (Option.some.inj h).symm (hH.pick [1, 2, 3] (by decide))
def charabanclaw11_RegsSets_7.f (K : Nat) (p0_0 : Int) (p0_1 : Int) (p0_2 : Int) (p0_3 : Int) (p0_4 : Int) (p0_5 : Int) (p0_6 : Int) (p0_7 : Int) (p0_8 : Int) (p0_9 : Int) (p0_10 : Int) (p0_11 : Int) (p0_12 : Int) (p0_13 : Int) (p0_14 : Int) (p0_15 : Bool) (p0_16 : Bool) (p0_17 : Bool) (p0_18 : Bool) (p0_19 : Int) (p1 : Int) (p2 : Int) : Option Bool := (charabanclaw11_awake_23.f K).bind fun t10 => cond (!t10) (some false) ((charabanclaw11_RegsSets_7.l0 K p0_0 p0_1 p0_2 p0_3 p0_4 p0_5 p0_6 p0_7 p0_8 p0_9 p0_10 p0_11 p0_12 p0_13 p0_14 p0_15 p0_16 p0_17 p0_18 p0_19 p1 p2 K (-1)).bind (fun x117 => Lp.elim x117 (fun _ => some false) (fun _ => some true)))
set_option maxRecDepth 100000 in
theorem charabanclaw11_RegsSets_7_ok (K : Nat) (M0 : Nat → Prop) (w0 : World) (p0_0 : Int) (p0_1 : Int) (p0_2 : Int) (p0_3 : Int) (p0_4 : Int) (p0_5 : Int) (p0_6 : Int) (p0_7 : Int) (p0_8 : Int) (p0_9 : Int) (p0_10 : Int) (p0_11 : Int) (p0_12 : Int) (p0_13 : Int) (p0_14 : Int) (p0_15 : Bool) (p0_16 : Bool) (p0_17 : Bool) (p0_18 : Bool) (p0_19 : Int) (p1 : Int) (p2 : Int) (ho : ∀ b, M0 b → b < w0.heap.size) (hG2 : (gl 2 (tab_2.flatMap en_2)).ok w0 M0) (hG4 : (gl 4 (tab_4.flatMap en_4)).ok w0 M0) (hG5 : (gl 5 (tab_5.flatMap en_5)).ok w0 M0) {r : Bool} (h : charabanclaw11_RegsSets_7.f K p0_0 p0_1 p0_2 p0_3 p0_4 p0_5 p0_6 p0_7 p0_8 p0_9 p0_10 p0_11 p0_12 p0_13 p0_14 p0_15 p0_16 p0_17 p0_18 p0_19 p1 p2 = some r) :
    Calls Tryd.prog 7 #[.agg #[.int .u16 p0_0, .int .u16 p0_1, .int .u16 p0_2, .int .u16 p0_3, .int .u16 p0_4, .int .u16 p0_5, .int .u16 p0_6, .int .u16 p0_7, .int .u16 p0_8, .int .u16 p0_9, .int .u16 p0_10, .int .u16 p0_11, .int .u16 p0_12, .int .u8 p0_13, .int .u8 p0_14, .bool p0_15, .bool p0_16, .bool p0_17, .bool p0_18, .int .i64 p0_19], .int .i64 p1, .int .u16 p2] w0 (charabanclaw11_RegsSets_7.post M0 w0 r) := by
  unfold charabanclaw11_RegsSets_7.f at h
  have h0 : Holds M0 w0 w0 [] := Holds.start ho
  have h0g2 := h0.add (gl 2 (tab_2.flatMap en_2)) rfl ⟨hG2.1, fun hm => hG2.2.1 (hm.elim id (fun hm => absurd hm (by simp [mines, sl, gl]))), hG2.2.2⟩
  have h0g4 := h0g2.add (gl 4 (tab_4.flatMap en_4)) rfl ⟨hG4.1, fun hm => hG4.2.1 (hm.elim id (fun hm => absurd hm (by simp [mines, sl, gl]))), hG4.2.2⟩
  have h0g5 := h0g4.add (gl 5 (tab_5.flatMap en_5)) rfl ⟨hG5.1, fun hm => hG5.2.1 (hm.elim id (fun hm => absurd hm (by simp [mines, sl, gl]))), hG5.2.2⟩
  have h0 : Holds M0 w0 w0 [gl 2 (tab_2.flatMap en_2), gl 4 (tab_4.flatMap en_4), gl 5 (tab_5.flatMap en_5)] := h0g5
  refine calls_of F7 rfl [.agg #[.int .u16 p0_0, .int .u16 p0_1, .int .u16 p0_2, .int .u16 p0_3, .int .u16 p0_4, .int .u16 p0_5, .int .u16 p0_6, .int .u16 p0_7, .int .u16 p0_8, .int .u16 p0_9, .int .u16 p0_10, .int .u16 p0_11, .int .u16 p0_12, .int .u8 p0_13, .int .u8 p0_14, .bool p0_15, .bool p0_16, .bool p0_17, .bool p0_18, .int .i64 p0_19], .int .i64 p1, .int .u16 p2] (by kernel_rfl) ?_
  refine RunsI.go 1 [.c 1, .c 2] (by kernel_rfl) ?_
  refine RunsI.region (by kernel_rfl) ?_
  refine RegI.op (by kernel_rfl) (OpE.box 3 46 [.int .u16 p0_0, .int .u16 p0_1, .int .u16 p0_2, .int .u16 p0_3, .int .u16 p0_4, .int .u16 p0_5, .int .u16 p0_6, .int .u16 p0_7, .int .u16 p0_8, .int .u16 p0_9, .int .u16 p0_10, .int .u16 p0_11, .int .u16 p0_12, .int .u8 p0_13, .int .u8 p0_14, .bool p0_15, .bool p0_16, .bool p0_17, .bool p0_18, .int .i64 p0_19] h0 (by kernel_rfl) (by kernel_rfl) ?_)
  intro w1 b2 h3 hb4 hn5
  refine RegI.pure 1 [1, 2, 3] [(1, .int .i64 p1), (2, .int .u16 p2), (3, .pointer (some ⟨b2, 0, none⟩))] (by kernel_rfl) ?_
  refine RegI.done (by kernel_rfl) ?_
  refine RunsI.go 1 [.c 3, .c 4] (by kernel_rfl) ?_
  refine RunsI.region (by kernel_rfl) ?_
  obtain ⟨t10, hg9, h⟩ := of_bind h
  refine RegI.op (by kernel_rfl) (OpE.call 9 (by kernel_rfl) 23 #[] (by kernel_rfl) ((charabanclaw11_awake_23_ok K _ w1  h3.old' (h3.get 0 rfl) (h3.get 1 rfl) (h3.get 2 rfl) hg9).mono ?_))
  rintro _ w6 ⟨rfl, hb7⟩
  refine ⟨_, rfl, ?_⟩
  have h8 := h3.call hb7
  refine RegI.pure 1 [1, 2, 3, 7] [(1, .int .i64 p1), (2, .int .u16 p2), (3, .pointer (some ⟨b2, 0, none⟩)), (7, .bool t10)] (by kernel_rfl) ?_
  refine RegI.done (by kernel_rfl) ?_
  refine RunsI.go 2 [.c 6, .c 7, .c 12] (by kernel_rfl) ?_
  refine RunsI.region (by kernel_rfl) ?_
  refine RegI.pure 2 [1, 2, 3, 11] [(1, .int .i64 p1), (2, .int .u16 p2), (3, .pointer (some ⟨b2, 0, none⟩)), (11, .bool (!t10))] (by kernel_rfl) ?_
  refine RegI.done (by kernel_rfl) ?_
  rcases of_cond h with ⟨hc11, h⟩ | ⟨hc11, h⟩
  · skip
    refine RunsI.fix 11 true hc11 (by kernel_rfl) (by kernel_rfl) ?_
    refine RunsI.cond true 8 (by kernel_rfl) ?_
    refine RunsI.go 1 [.c 9, .c 10, .c 12] (by kernel_rfl) ?_
    refine RunsI.region (by kernel_rfl) ?_
    refine RegI.pure 1 [6] [(6, .bool false)] (by kernel_rfl) ?_
    refine RegI.done (by kernel_rfl) ?_
    refine RunsI.ret (.bool false) (by kernel_rfl) (by kernel_rfl) ?_
    obtain rfl := Option.some.inj h
    exact ⟨rfl, h8.below⟩
  · skip
    refine RunsI.fix 11 false hc11 (by kernel_rfl) (by kernel_rfl) ?_
    refine RunsI.cond false 11 (by kernel_rfl) ?_
    refine RunsI.go 1 [.c 12] (by kernel_rfl) ?_
    refine RunsI.go 2 [.c 14, .c 15, .c 33] (by kernel_rfl) ?_
    refine RunsI.region (by kernel_rfl) ?_
    refine RegI.pure 1 [1, 2, 3, 8] [(1, .int .i64 p1), (2, .int .u16 p2), (3, .pointer (some ⟨b2, 0, none⟩)), (8, .int .i64 (-1))] (by kernel_rfl) ?_
    refine RegI.done (by kernel_rfl) ?_
    refine RunsI.go 2 [.c 17, .lp 17, .blk 0, .c 33] (by kernel_rfl) ?_
    obtain ⟨x117, hx118, h⟩ := of_bind h
    refine RunsI.only [1, 2, 3, 8] [(1, .int .i64 p1), (2, .int .u16 p2), (3, .pointer (some ⟨b2, 0, none⟩)), (8, .int .i64 (-1))] (by kernel_rfl) (by kernel_rfl) ?_
    refine charabanclaw11_RegsSets_7.l0_ok K M0 w0 p0_0 p0_1 p0_2 p0_3 p0_4 p0_5 p0_6 p0_7 p0_8 p0_9 p0_10 p0_11 p0_12 p0_13 p0_14 p0_15 p0_16 p0_17 p0_18 p0_19 p1 p2 b2 _ x117 ?_ ?_ K (-1) w6 hx118 (h8.pick [3, 0, 1, 2] (by decide))
    · intro w120 hq123 h119
      (try rw [hq123] at h)
      dsimp only [Lp.elim] at h
      refine RunsI.go 1 [.c 34, .c 35] (by kernel_rfl) ?_
      refine RunsI.region (by kernel_rfl) ?_
      refine RegI.pure 1 [6] [(6, .bool true)] (by kernel_rfl) ?_
      refine RegI.done (by kernel_rfl) ?_
      refine RunsI.ret (.bool true) (by kernel_rfl) (by kernel_rfl) ?_
      obtain rfl := Option.some.inj h
      exact ⟨rfl, h119.below⟩
    · intro w122 hq124 h121
      (try rw [hq124] at h)
      dsimp only [Lp.elim] at h
      obtain rfl := Option.some.inj h
      exact ⟨rfl, h121.below⟩
end
end Go.Proofs.YtajnhlkkbhobiaaDoor.Reg
