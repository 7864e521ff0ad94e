/- The statement's function ChainStacks as a plain Lean function; written by wip/eng.py. -/
import Derived.Test.YtngcadmhnbpgjaaChain
set_option linter.unusedVariables false
set_option linter.unusedSimpArgs false
set_option maxHeartbeats 4000000
namespace Go.Proofs.Ytngcadmhnbpgjaa.Chain
open Go.RowKit Go.Eng
noncomputable def B5 : Code := (Try.f5.body).getD .skip
noncomputable def F5 : Fun Try.prog := ⟨5, Try.f5, B5, 132, Try.func5, by kernel_rfl, by kernel_rfl⟩

/-! ### charabanc/charabanclaw26.ChainStacks (function 5) -/
section
def charabanclaw26_ChainStacks_5.post (M0 : Nat → Prop) (w0 : World) (r : Bool) : Ending → World → Prop := fun e w => e = .returned (.bool r) ∧ Below w0.heap.size w0 w
def charabanclaw26_ChainStacks_5.l0 (K : Nat) (p0 : Int) (p1 : List Int) : Nat → (List (Bool × Bool)) → (List Int) → Int → Option (Lp Unit ((List (Bool × Bool)) × (List Int)))
  | 0, _, _, _ => none
  | k + 1, t17, t20, t21 => cond (decide (t21 < (p1.length : Int))) (cond (cutR t21 (IntKind.wrap .i64 (t21 + 1)) p1.length) ((chain_Play_22.f K t17 (cutL p1 t21 (IntKind.wrap .i64 (t21 + 1)))).bind fun yt31 => cond ((yt31.2.length : Int) != 1) (some (Lp.ret ())) (cond (inR t21 p1.length) (cond (decide ((rdD p1 t21) ≥ 0)) (charabanclaw26_ChainStacks_5.l0 K p0 p1 k yt31.1 t20 (IntKind.wrap .i64 (t21 + 1))) (Let (fun (t59 : Bool) => cond t59 (Let (fun (t83 : Bool) => cond t83 (some (Lp.ret ())) (cond (inR 0 yt31.2.length) (cond (mayBe (t20.length + [(rdD yt31.2 0)].length) 8) (charabanclaw26_ChainStacks_5.l0 K p0 p1 k yt31.1 (t20 ++ [(rdD yt31.2 0)]) (IntKind.wrap .i64 (t21 + 1))) none) none)) (fun j86 => cond (decide ((t20.length : Int) > 0)) (cond (inR (IntKind.wrap .i64 ((t20.length : Int) - 1)) t20.length) (cond (inR 0 yt31.2.length) (j86 (decide ((rdD t20 (IntKind.wrap .i64 ((t20.length : Int) - 1))) ≤ (rdD yt31.2 0)))) none) none) (j86 false))) (cond ((rdD p1 t21) == (-1)) (charabanclaw26_ChainStacks_5.l0 K p0 p1 k yt31.1 t20 (IntKind.wrap .i64 (t21 + 1))) (cond (inR 0 yt31.2.length) (cond (decide ((rdD yt31.2 0) ≥ 0)) (Let (fun (t129 : Bool) => cond t129 (some (Lp.ret ())) (cond (cutR 0 (IntKind.wrap .i64 ((t20.length : Int) - 1)) t20.length) (charabanclaw26_ChainStacks_5.l0 K p0 p1 k yt31.1 (cutL t20 0 (IntKind.wrap .i64 ((t20.length : Int) - 1))) (IntKind.wrap .i64 (t21 + 1))) none)) (fun j132 => cond ((t20.length : Int) == 0) (j132 true) (cond (inR (IntKind.wrap .i64 ((t20.length : Int) - 1)) t20.length) (j132 ((rdD t20 (IntKind.wrap .i64 ((t20.length : Int) - 1))) != (rdD yt31.2 0))) none))) (cond ((t20.length : Int) != 0) (some (Lp.ret ())) (charabanclaw26_ChainStacks_5.l0 K p0 p1 k yt31.1 t20 (IntKind.wrap .i64 (t21 + 1))))) none))) (fun j62 => cond ((rdD p1 t21) == (-1)) (cond (inR 0 yt31.2.length) (j62 (decide ((rdD yt31.2 0) ≥ 0))) none) (j62 false)))) none)) none) (some (Lp.go (t17, t20)))
set_option maxRecDepth 100000 in
theorem charabanclaw26_ChainStacks_5.l0_ok (K : Nat) (M0 : Nat → Prop) (w0 : World) (pA1 : Option Addr) (pc1 : Nat) (p0 : Int) (p1 : List Int) (R : Ending → World → Prop) (x : Lp Unit ((List (Bool × Bool)) × (List Int))) (hk0 : ∀ (t143 : List (Bool × Bool)) (t146 : List Int) (A141 : Option Addr) (c142 : Nat) (A144 : Option Addr) (c145 : Nat) (w1 : World), x = Lp.go (t143, t146) → Holds M0 w0 w1 [own (Rp.pair Rp.bool Rp.bool) 49 (.slice A141 t143.length c142) t143, own (Rp.int .i64) 3 (.slice A144 t146.length c145) t146] → RunsI F5 [.c 90] [(6, .slice A141 t143.length c142), (7, .slice A144 t146.length c145)] w1 R) (hk1 : ∀ (w1 : World), x = Lp.ret () → Holds M0 w0 w1 [] → R (.returned (.bool false)) w1) :
    ∀ (k : Nat) (t17 : List (Bool × Bool)) (t20 : List Int) (t21 : Int) (A15 : Option Addr) (c16 : Nat) (A18 : Option Addr) (c19 : Nat) (w : World), charabanclaw26_ChainStacks_5.l0 K p0 p1 k t17 t20 t21 = some x → Holds M0 w0 w [sl (Rp.int .i64) (.slice pA1 p1.length pc1) p1, own (Rp.pair Rp.bool Rp.bool) 49 (.slice A15 t17.length c16) t17, own (Rp.int .i64) 3 (.slice A18 t20.length c19) t20] → RunsI F5 [.c 29, .lp 29, .blk 0, .c 90] [(1, .slice pA1 p1.length pc1), (6, .slice A15 t17.length c16), (7, .slice A18 t20.length c19), (8, .int .i64 t21)] w R := by
  intro k
  induction k with
  | zero => intro t17 t20 t21 A15 c16 A18 c19 w h hH; exact absurd h (by simp [charabanclaw26_ChainStacks_5.l0])
  | succ k ih =>
    intro t17 t20 t21 A15 c16 A18 c19 w h hH
    rw [charabanclaw26_ChainStacks_5.l0.eq_2] at h
    refine RunsI.go 1 [.c 30, .c 35, .lp 29, .blk 0, .c 90] (by kernel_rfl) ?_
    refine RunsI.go 1 [.c 31, .c 32, .c 35, .lp 29, .blk 0, .c 90] (by kernel_rfl) ?_
    refine RunsI.region (by kernel_rfl) ?_
    refine RegI.pure 4 [1, 6, 7, 8, 25] [(1, .slice pA1 p1.length pc1), (6, .slice A15 t17.length c16), (7, .slice A18 t20.length c19), (8, .int .i64 t21), (25, .bool (decide (t21 < (p1.length : Int))))] (by kernel_rfl) ?_
    refine RegI.done (by kernel_rfl) ?_
    rcases of_cond h with ⟨hc22, h⟩ | ⟨hc22, h⟩
    · skip
      refine RunsI.fix 25 true hc22 (by kernel_rfl) (by kernel_rfl) ?_
      refine RunsI.cond true 33 (by kernel_rfl) ?_
      refine RunsI.go 1 [.c 35, .lp 29, .blk 0, .c 90] (by kernel_rfl) ?_
      refine RunsI.go 3 [.c 38, .c 39, .blk 1, .c 89, .lp 29, .blk 0, .c 90] (by kernel_rfl) ?_
      refine RunsI.region (by kernel_rfl) ?_
      refine RegI.pure 5 [1, 7, 8, 29, 30, 31, 33] [(1, .slice pA1 p1.length pc1), (7, .slice A18 t20.length c19), (8, .int .i64 t21), (29, .slice A15 t17.length c16), (30, .slice pA1 p1.length pc1), (31, .int .i64 t21), (33, .int .i64 (IntKind.wrap .i64 (t21 + 1)))] (by kernel_rfl) ?_
      obtain ⟨hc23, h⟩ := of_cond0 h
      refine RegI.op (by kernel_rfl) (OpE.cutSl 34 0 37 (some t21) (some (IntKind.wrap .i64 (t21 + 1))) hH (by kernel_rfl) rfl (by kernel_rfl) (by kernel_rfl) hc23 ?_)
      intro A24 c25 h26
      obtain ⟨⟨t31, t35⟩, hg30, h⟩ := of_bind h
      dsimp only at h
      refine RegI.op (by kernel_rfl) (OpE.call 35 (by kernel_rfl) 22 #[.slice A15 t17.length c16, .slice A24 ((cutL p1 t21 (IntKind.wrap .i64 (t21 + 1))).length) c25] (by kernel_rfl) ((chain_Play_22_ok K (fun _ => False) w  A15 c16 A24 c25 t17 (cutL p1 t21 (IntKind.wrap .i64 (t21 + 1))) (fun _ hf => hf.elim) (h26.ownSl 1 rfl) (h26.slAny 3 rfl) hg30).mono ?_))
      rintro _ w27 ⟨A32, c33, A36, c37, rfl, hr39⟩
      refine ⟨_, rfl, ?_⟩
      have hb28 := hr39.below
      have h29 := h26.join (hr39.anyM ⟨own_flat (fun _ _ _ _ _ h => h), own_flat (fun _ _ _ _ _ h => h), trivial⟩ _ h26.old')
      refine RegI.pure 5 [1, 7, 8, 9, 10] [(1, .slice pA1 p1.length pc1), (7, .slice A18 t20.length c19), (8, .int .i64 t21), (9, .slice A32 t31.length c33), (10, .slice A36 t35.length c37)] (by kernel_rfl) ?_
      refine RegI.done (by kernel_rfl) ?_
      refine RunsI.go 1 [.c 40, .c 41, .blk 1, .c 89, .lp 29, .blk 0, .c 90] (by kernel_rfl) ?_
      refine RunsI.region (by kernel_rfl) ?_
      refine RegI.pure 2 [1, 6, 7, 8, 10] [(1, .slice pA1 p1.length pc1), (6, .slice A32 t31.length c33), (7, .slice A18 t20.length c19), (8, .int .i64 t21), (10, .slice A36 t35.length c37)] (by kernel_rfl) ?_
      refine RegI.done (by kernel_rfl) ?_
      refine RunsI.go 2 [.c 43, .c 44, .c 49, .blk 1, .c 89, .lp 29, .blk 0, .c 90] (by kernel_rfl) ?_
      refine RunsI.region (by kernel_rfl) ?_
      refine RegI.pure 3 [1, 6, 7, 8, 10, 41] [(1, .slice pA1 p1.length pc1), (6, .slice A32 t31.length c33), (7, .slice A18 t20.length c19), (8, .int .i64 t21), (10, .slice A36 t35.length c37), (41, .bool ((t35.length : Int) != 1))] (by kernel_rfl) ?_
      refine RegI.done (by kernel_rfl) ?_
      rcases of_cond h with ⟨hc40, h⟩ | ⟨hc40, h⟩
      · skip
        refine RunsI.fix 41 true hc40 (by kernel_rfl) (by kernel_rfl) ?_
        refine RunsI.cond true 45 (by kernel_rfl) ?_
        refine RunsI.go 1 [.c 46, .c 47, .c 49, .blk 1, .c 89, .lp 29, .blk 0, .c 90] (by kernel_rfl) ?_
        refine RunsI.region (by kernel_rfl) ?_
        refine RegI.pure 1 [4] [(4, .bool false)] (by kernel_rfl) ?_
        refine RegI.done (by kernel_rfl) ?_
        refine RunsI.ret (.bool false) (by kernel_rfl) (by kernel_rfl) ?_
        exact hk1 w27 (Option.some.inj h).symm (h29.pick [] (by decide))
      · skip
        refine RunsI.fix 41 false hc40 (by kernel_rfl) (by kernel_rfl) ?_
        refine RunsI.cond false 48 (by kernel_rfl) ?_
        refine RunsI.go 1 [.c 49, .blk 1, .c 89, .lp 29, .blk 0, .c 90] (by kernel_rfl) ?_
        refine RunsI.go 2 [.c 51, .c 52, .blk 2, .blk 1, .c 89, .lp 29, .blk 0, .c 90] (by kernel_rfl) ?_
        refine RunsI.region (by kernel_rfl) ?_
        refine RegI.pure 2 [1, 6, 7, 8, 10, 46, 47] [(1, .slice pA1 p1.length pc1), (6, .slice A32 t31.length c33), (7, .slice A18 t20.length c19), (8, .int .i64 t21), (10, .slice A36 t35.length c37), (46, .slice pA1 p1.length pc1), (47, .int .i64 t21)] (by kernel_rfl) ?_
        obtain ⟨hc41, h⟩ := of_cond0 h
        refine RegI.op (by kernel_rfl) (OpE.idxSl 48 0 37 t21 h29 (by kernel_rfl) rfl (by kernel_rfl) (by kernel_rfl) hc41 ?_)
        intro b42 o43 cs44 hk45 h46
        obtain rfl := hk45
        refine RegI.op (by kernel_rfl) (OpE.loadCel 49 6 3 b42 o43 0 (.int .i64 (rdD p1 t21)) h46 (by kernel_rfl) (by kernel_rfl) rfl (by kernel_rfl) ?_)
        refine RegI.pure 2 [1, 6, 7, 8, 10, 45] [(1, .slice pA1 p1.length pc1), (6, .slice A32 t31.length c33), (7, .slice A18 t20.length c19), (8, .int .i64 t21), (10, .slice A36 t35.length c37), (45, .bool (decide ((rdD p1 t21) ≥ 0)))] (by kernel_rfl) ?_
        refine RegI.done (by kernel_rfl) ?_
        rcases of_cond h with ⟨hc47, h⟩ | ⟨hc47, h⟩
        · skip
          refine RunsI.fix 45 true hc47 (by kernel_rfl) (by kernel_rfl) ?_
          refine RunsI.cond true 53 (by kernel_rfl) ?_
          refine RunsI.go 1 [.blk 2, .blk 1, .c 89, .lp 29, .blk 0, .c 90] (by kernel_rfl) ?_
          refine RunsI.go 2 [.c 89, .lp 29, .blk 0, .c 90] (by kernel_rfl) ?_
          refine RunsI.region (by kernel_rfl) ?_
          refine RegI.pure 3 [1, 6, 7, 8] [(1, .slice pA1 p1.length pc1), (6, .slice A32 t31.length c33), (7, .slice A18 t20.length c19), (8, .int .i64 (IntKind.wrap .i64 (t21 + 1)))] (by kernel_rfl) ?_
          refine RegI.done (by kernel_rfl) ?_
          refine RunsI.go 1 [.c 29, .lp 29, .blk 0, .c 90] (by kernel_rfl) ?_
          refine RunsI.only [1, 6, 7, 8] [(1, .slice pA1 p1.length pc1), (6, .slice A32 t31.length c33), (7, .slice A18 t20.length c19), (8, .int .i64 (IntKind.wrap .i64 (t21 + 1)))] (by kernel_rfl) (by kernel_rfl) ?_
          exact ih t31 t20 (IntKind.wrap .i64 (t21 + 1)) A32 c33 A18 c19 w27 h (h46.pick [0, 4, 2] (by decide))
        · skip
          refine RunsI.fix 45 false hc47 (by kernel_rfl) (by kernel_rfl) ?_
          refine RunsI.cond false 54 (by kernel_rfl) ?_
          refine RunsI.go 1 [.c 55, .c 56, .blk 2, .blk 1, .c 89, .lp 29, .blk 0, .c 90] (by kernel_rfl) ?_
          refine RunsI.region (by kernel_rfl) ?_
          refine RegI.pure 2 [1, 6, 7, 8, 10, 52, 53] [(1, .slice pA1 p1.length pc1), (6, .slice A32 t31.length c33), (7, .slice A18 t20.length c19), (8, .int .i64 t21), (10, .slice A36 t35.length c37), (52, .slice pA1 p1.length pc1), (53, .int .i64 t21)] (by kernel_rfl) ?_
          refine RegI.op (by kernel_rfl) (OpE.idxSl 54 0 37 t21 h46 (by kernel_rfl) rfl (by kernel_rfl) (by kernel_rfl) hc41 ?_)
          intro b48 o49 cs50 hk51 h52
          obtain rfl := hk51
          refine RegI.op (by kernel_rfl) (OpE.loadCel 55 7 3 b48 o49 0 (.int .i64 (rdD p1 t21)) h52 (by kernel_rfl) (by kernel_rfl) rfl (by kernel_rfl) ?_)
          refine RegI.pure 2 [1, 6, 7, 8, 10, 57] [(1, .slice pA1 p1.length pc1), (6, .slice A32 t31.length c33), (7, .slice A18 t20.length c19), (8, .int .i64 t21), (10, .slice A36 t35.length c37), (57, .bool ((rdD p1 t21) == (-1)))] (by kernel_rfl) ?_
          obtain ⟨j62, hJ63, h⟩ := of_let h
          have hj64 : ∀ (t59 : Bool) (A58 : Option Addr) (w61 : World), j62 t59 = some x → Holds M0 w0 w61 [sl (Rp.int .i64) (.slice pA1 p1.length pc1) p1, own (Rp.pair Rp.bool Rp.bool) 49 (.slice A32 t31.length c33) t31, own (Rp.int .i64) 3 (.slice A18 t20.length c19) t20, own (Rp.int .i64) 3 (.slice A58 t35.length c37) t35] → RegI F5 55 [.c 56, .blk 2, .blk 1, .c 89, .lp 29, .blk 0, .c 90] 12 [(1, .slice pA1 p1.length pc1), (6, .slice A32 t31.length c33), (7, .slice A18 t20.length c19), (8, .int .i64 t21), (10, .slice A58 t35.length c37), (51, .bool t59)] w61 R := by
            intro t59 A58 w61 h h60
            rw [hJ63] at h
            clear hJ63
            dsimp only at h
            refine RegI.done (by kernel_rfl) ?_
            rcases of_cond h with ⟨hc65, h⟩ | ⟨hc65, h⟩
            · skip
              refine RunsI.fix 51 true hc65 (by kernel_rfl) (by kernel_rfl) ?_
              refine RunsI.cond true 57 (by kernel_rfl) ?_
              refine RunsI.go 2 [.c 59, .c 60, .c 65, .blk 2, .blk 1, .c 89, .lp 29, .blk 0, .c 90] (by kernel_rfl) ?_
              refine RunsI.any 15 (by kernel_rfl) (by kernel_rfl) (by kernel_rfl) (Kp ([] : List Nat) (World.drew w61)) ?_
              have h67 := h60.drew
              generalize World.drew w61 = w66 at h67 ⊢
              have hS68 := Kp.refl ([] : List Nat) w66
              refine AnyE.pure 0 63 (.slice A18 t20.length c19) (by kernel_rfl) hS68 (fun _ => by kernel_rfl) ?_
              refine AnyE.pure 1 64 (.int .i64 (t20.length : Int)) (by kernel_rfl) hS68 (fun _ => by kernel_rfl) ?_
              refine AnyE.pure 2 65 (.bool (decide ((t20.length : Int) > 0))) (by kernel_rfl) hS68 (fun _ => by kernel_rfl) ?_
              refine AnyE.pure 3 66 (.bool (decide ((t20.length : Int) > 0))) (by kernel_rfl) hS68 (fun _ => by kernel_rfl) ?_
              obtain ⟨j86, hJ87, h⟩ := of_let h
              have hj88 : ∀ (t83 : Bool) (A81 : Option Addr) (A82 : Option Addr) (w85 : World), j86 t83 = some x → Holds M0 w0 w85 [sl (Rp.int .i64) (.slice pA1 p1.length pc1) p1, own (Rp.pair Rp.bool Rp.bool) 49 (.slice A32 t31.length c33) t31, own (Rp.int .i64) 3 (.slice A81 t20.length c19) t20, own (Rp.int .i64) 3 (.slice A82 t35.length c37) t35] → RunsI F5 [.c 60, .c 65, .blk 2, .blk 1, .c 89, .lp 29, .blk 0, .c 90] [(1, .slice pA1 p1.length pc1), (6, .slice A32 t31.length c33), (7, .slice A81 t20.length c19), (8, .int .i64 t21), (10, .slice A82 t35.length c37), (77, .bool t83)] w85 R := by
                intro t83 A81 A82 w85 h h84
                rw [hJ87] at h
                clear hJ87
                dsimp only at h
                rcases of_cond h with ⟨hc89, h⟩ | ⟨hc89, h⟩
                · skip
                  refine RunsI.fix 77 true hc89 (by kernel_rfl) (by kernel_rfl) ?_
                  refine RunsI.cond true 61 (by kernel_rfl) ?_
                  refine RunsI.go 1 [.c 62, .c 63, .c 65, .blk 2, .blk 1, .c 89, .lp 29, .blk 0, .c 90] (by kernel_rfl) ?_
                  refine RunsI.region (by kernel_rfl) ?_
                  refine RegI.pure 1 [4] [(4, .bool false)] (by kernel_rfl) ?_
                  refine RegI.done (by kernel_rfl) ?_
                  refine RunsI.ret (.bool false) (by kernel_rfl) (by kernel_rfl) ?_
                  exact hk1 w85 (Option.some.inj h).symm (h84.pick [] (by decide))
                · skip
                  refine RunsI.fix 77 false hc89 (by kernel_rfl) (by kernel_rfl) ?_
                  refine RunsI.cond false 64 (by kernel_rfl) ?_
                  refine RunsI.go 1 [.c 65, .blk 2, .blk 1, .c 89, .lp 29, .blk 0, .c 90] (by kernel_rfl) ?_
                  refine RunsI.region (by kernel_rfl) ?_
                  refine RegI.pure 2 [1, 6, 8, 78, 79] [(1, .slice pA1 p1.length pc1), (6, .slice A32 t31.length c33), (8, .int .i64 t21), (78, .slice A81 t20.length c19), (79, .slice A82 t35.length c37)] (by kernel_rfl) ?_
                  obtain ⟨hc90, h⟩ := of_cond0 h
                  obtain ⟨b91, rfl⟩ := h84.ownSome 3 rfl hc90
                  refine RegI.op (by kernel_rfl) (OpE.idxOwn 80 3 37 3 0 h84 (by kernel_rfl) rfl (by kernel_rfl) (by kernel_rfl) hc90 ?_)
                  refine RegI.op (by kernel_rfl) (OpE.loadOwn 81 3 3 3 0 0 (o := (Int.toNat 0) * 1 + 0) h84 (by kernel_rfl) rfl (by kernel_rfl) (by kernel_rfl) hc90 (fun cs92 hk93 => ?_))
                  obtain rfl := hk93
                  refine ⟨.int .i64 (rdD t35 0), by kernel_rfl, ?_⟩
                  refine RegI.op (by kernel_rfl) (OpE.lit 82 3 [.int .i64 (rdD t35 0)] 1 h84 (by kernel_rfl) (by kernel_rfl) ?_)
                  intro w94 b95 h96 hb97
                  obtain ⟨hc98, h⟩ := of_cond0 h
                  refine RegI.op (by kernel_rfl) (OpE.appendBox 83 2 4 37 3 8 [(rdD t35 0)] 0 h96 (by kernel_rfl) (by kernel_rfl) (by kernel_rfl) rfl rfl rfl (cells_int _ _ _ _) hc98 ?_)
                  intro w99 A100 c101 h102 hk103
                  refine RegI.pure 1 [1, 6, 7, 8] [(1, .slice pA1 p1.length pc1), (6, .slice A32 t31.length c33), (7, .slice A100 ((t20 ++ [(rdD t35 0)]).length) c101), (8, .int .i64 t21)] (by kernel_rfl) ?_
                  refine RegI.done (by kernel_rfl) ?_
                  refine RunsI.go 2 [.c 89, .lp 29, .blk 0, .c 90] (by kernel_rfl) ?_
                  refine RunsI.region (by kernel_rfl) ?_
                  refine RegI.pure 3 [1, 6, 7, 8] [(1, .slice pA1 p1.length pc1), (6, .slice A32 t31.length c33), (7, .slice A100 ((t20 ++ [(rdD t35 0)]).length) c101), (8, .int .i64 (IntKind.wrap .i64 (t21 + 1)))] (by kernel_rfl) ?_
                  refine RegI.done (by kernel_rfl) ?_
                  refine RunsI.go 1 [.c 29, .lp 29, .blk 0, .c 90] (by kernel_rfl) ?_
                  refine RunsI.only [1, 6, 7, 8] [(1, .slice pA1 p1.length pc1), (6, .slice A32 t31.length c33), (7, .slice A100 ((t20 ++ [(rdD t35 0)]).length) c101), (8, .int .i64 (IntKind.wrap .i64 (t21 + 1)))] (by kernel_rfl) (by kernel_rfl) ?_
                  exact ih t31 (t20 ++ [(rdD t35 0)]) (IntKind.wrap .i64 (t21 + 1)) A32 c33 A100 c101 w99 h (h102.pick [0, 1, 2] (by decide))
              clear hJ87
              rcases of_cond h with ⟨hc70, h⟩ | ⟨hc70, h⟩
              · skip
                refine AnyE.fix 66 true hc70 (by kernel_rfl) (by kernel_rfl) ?_
                refine AnyE.pure 4 67 (.slice A18 t20.length c19) (by kernel_rfl) hS68 (fun _ => by kernel_rfl) ?_
                refine AnyE.pure 5 68 (.slice A18 t20.length c19) (by kernel_rfl) hS68 (fun _ => by kernel_rfl) ?_
                refine AnyE.pure 6 69 (.int .i64 (t20.length : Int)) (by kernel_rfl) hS68 (fun _ => by kernel_rfl) ?_
                refine AnyE.pure 7 70 (.int .i64 (IntKind.wrap .i64 ((t20.length : Int) - 1))) (by kernel_rfl) hS68 (fun _ => by kernel_rfl) ?_
                obtain ⟨hc71, h⟩ := of_cond0 h
                obtain ⟨b72, rfl⟩ := h67.ownSome 2 rfl hc71
                refine AnyE.idxOwn 8 71 2 37 3 (IntKind.wrap .i64 ((t20.length : Int) - 1)) h67 (by kernel_rfl) hS68 rfl (by kernel_rfl) (by kernel_rfl) hc71 ?_
                refine AnyE.loadOwn 9 72 2 3 3 (IntKind.wrap .i64 ((t20.length : Int) - 1)) 0 (.int .i64 (rdD t20 (IntKind.wrap .i64 ((t20.length : Int) - 1)))) [] (o := (Int.toNat (IntKind.wrap .i64 ((t20.length : Int) - 1))) * 1 + 0) h67 rfl (by kernel_rfl) hS68 rfl rfl (by kernel_rfl) rfl hc71 (fun _ _ hk => by obtain rfl := hk; kernel_rfl) ?_
                refine AnyE.pure 10 73 (.slice A58 t35.length c37) (by kernel_rfl) hS68 (fun _ => by kernel_rfl) ?_
                obtain ⟨hc73, h⟩ := of_cond0 h
                obtain ⟨b74, rfl⟩ := h67.ownSome 3 rfl hc73
                refine AnyE.idxOwn 11 74 3 37 3 0 h67 (by kernel_rfl) hS68 rfl (by kernel_rfl) (by kernel_rfl) hc73 ?_
                refine AnyE.loadOwn 12 75 3 3 3 0 0 (.int .i64 (rdD t35 0)) [] (o := (Int.toNat 0) * 1 + 0) h67 rfl (by kernel_rfl) hS68 rfl rfl (by kernel_rfl) rfl hc73 (fun _ _ hk => by obtain rfl := hk; kernel_rfl) ?_
                refine AnyE.pure 13 76 (.bool (decide ((rdD t20 (IntKind.wrap .i64 ((t20.length : Int) - 1))) ≤ (rdD t35 0)))) (by kernel_rfl) hS68 (fun _ => by kernel_rfl) ?_
                refine AnyE.pure 14 77 (.bool (decide ((rdD t20 (IntKind.wrap .i64 ((t20.length : Int) - 1))) ≤ (rdD t35 0)))) (by kernel_rfl) hS68 (fun _ => by kernel_rfl) ?_
                refine AnyE.done (by kernel_rfl) (fun w75 hu76 => ?_)
                have h77 := h67.call hu76
                refine RunsI.only [1, 6, 7, 8, 10, 67, 68, 69, 70, 71, 72, 73, 74, 75, 76, 77] [(1, .slice pA1 p1.length pc1), (6, .slice A32 t31.length c33), (7, .slice (some ⟨b72, 0, none⟩) t20.length c19), (8, .int .i64 t21), (10, .slice (some ⟨b74, 0, none⟩) t35.length c37), (67, .slice (some ⟨b72, 0, none⟩) t20.length c19), (68, .slice (some ⟨b72, 0, none⟩) t20.length c19), (69, .int .i64 (t20.length : Int)), (70, .int .i64 (IntKind.wrap .i64 ((t20.length : Int) - 1))), (71, .pointer (some ⟨b72, (Int.toNat (IntKind.wrap .i64 ((t20.length : Int) - 1))) * 1, none⟩)), (72, .int .i64 (rdD t20 (IntKind.wrap .i64 ((t20.length : Int) - 1)))), (73, .slice (some ⟨b74, 0, none⟩) t35.length c37), (74, .pointer (some ⟨b74, (Int.toNat 0) * 1, none⟩)), (75, .int .i64 (rdD t35 0)), (76, .bool (decide ((rdD t20 (IntKind.wrap .i64 ((t20.length : Int) - 1))) ≤ (rdD t35 0)))), (77, .bool (decide ((rdD t20 (IntKind.wrap .i64 ((t20.length : Int) - 1))) ≤ (rdD t35 0))))] (by kernel_rfl) (by kernel_rfl) ?_
                refine RunsI.only [1, 6, 7, 8, 10, 77] [(1, .slice pA1 p1.length pc1), (6, .slice A32 t31.length c33), (7, .slice (some ⟨b72, 0, none⟩) t20.length c19), (8, .int .i64 t21), (10, .slice (some ⟨b74, 0, none⟩) t35.length c37), (77, .bool (decide ((rdD t20 (IntKind.wrap .i64 ((t20.length : Int) - 1))) ≤ (rdD t35 0))))] (by kernel_rfl) (by kernel_rfl) ?_
                exact hj88 (decide ((rdD t20 (IntKind.wrap .i64 ((t20.length : Int) - 1))) ≤ (rdD t35 0))) (some ⟨b72, 0, none⟩) (some ⟨b74, 0, none⟩) w75 h (h77.pick [0, 1, 2, 3] (by decide))
              · skip
                refine AnyE.fix 66 false hc70 (by kernel_rfl) (by kernel_rfl) ?_
                refine AnyE.no 4 67 (by kernel_rfl) hS68 ?_
                refine AnyE.no 5 68 (by kernel_rfl) hS68 ?_
                refine AnyE.no 6 69 (by kernel_rfl) hS68 ?_
                refine AnyE.no 7 70 (by kernel_rfl) hS68 ?_
                refine AnyE.no 8 71 (by kernel_rfl) hS68 ?_
                refine AnyE.no 9 72 (by kernel_rfl) hS68 ?_
                refine AnyE.no 10 73 (by kernel_rfl) hS68 ?_
                refine AnyE.no 11 74 (by kernel_rfl) hS68 ?_
                refine AnyE.no 12 75 (by kernel_rfl) hS68 ?_
                refine AnyE.no 13 76 (by kernel_rfl) hS68 ?_
                refine AnyE.pure 14 77 (.bool false) (by kernel_rfl) hS68 (fun _ => by kernel_rfl) ?_
                refine AnyE.done (by kernel_rfl) (fun w78 hu79 => ?_)
                have h80 := h67.call hu79
                refine RunsI.only [1, 6, 7, 8, 10, 67, 68, 69, 70, 71, 72, 73, 74, 75, 76, 77] [(1, .slice pA1 p1.length pc1), (6, .slice A32 t31.length c33), (7, .slice A18 t20.length c19), (8, .int .i64 t21), (10, .slice A58 t35.length c37), (67, undef), (68, undef), (69, undef), (70, undef), (71, undef), (72, undef), (73, undef), (74, undef), (75, undef), (76, undef), (77, .bool false)] (by kernel_rfl) (by kernel_rfl) ?_
                refine RunsI.only [1, 6, 7, 8, 10, 77] [(1, .slice pA1 p1.length pc1), (6, .slice A32 t31.length c33), (7, .slice A18 t20.length c19), (8, .int .i64 t21), (10, .slice A58 t35.length c37), (77, .bool false)] (by kernel_rfl) (by kernel_rfl) ?_
                exact hj88 false A18 A58 w78 h (h80.pick [0, 1, 2, 3] (by decide))
            · skip
              refine RunsI.fix 51 false hc65 (by kernel_rfl) (by kernel_rfl) ?_
              refine RunsI.cond false 66 (by kernel_rfl) ?_
              refine RunsI.go 1 [.c 67, .c 68, .blk 2, .blk 1, .c 89, .lp 29, .blk 0, .c 90] (by kernel_rfl) ?_
              refine RunsI.region (by kernel_rfl) ?_
              refine RegI.pure 2 [1, 6, 7, 8, 10, 85, 86] [(1, .slice pA1 p1.length pc1), (6, .slice A32 t31.length c33), (7, .slice A18 t20.length c19), (8, .int .i64 t21), (10, .slice A58 t35.length c37), (85, .slice pA1 p1.length pc1), (86, .int .i64 t21)] (by kernel_rfl) ?_
              refine RegI.op (by kernel_rfl) (OpE.idxSl 87 0 37 t21 h60 (by kernel_rfl) rfl (by kernel_rfl) (by kernel_rfl) hc41 ?_)
              intro b104 o105 cs106 hk107 h108
              obtain rfl := hk107
              refine RegI.op (by kernel_rfl) (OpE.loadCel 88 4 3 b104 o105 0 (.int .i64 (rdD p1 t21)) h108 (by kernel_rfl) (by kernel_rfl) rfl (by kernel_rfl) ?_)
              refine RegI.pure 2 [1, 6, 7, 8, 10, 84] [(1, .slice pA1 p1.length pc1), (6, .slice A32 t31.length c33), (7, .slice A18 t20.length c19), (8, .int .i64 t21), (10, .slice A58 t35.length c37), (84, .bool ((rdD p1 t21) == (-1)))] (by kernel_rfl) ?_
              refine RegI.done (by kernel_rfl) ?_
              rcases of_cond h with ⟨hc109, h⟩ | ⟨hc109, h⟩
              · skip
                refine RunsI.fix 84 true hc109 (by kernel_rfl) (by kernel_rfl) ?_
                refine RunsI.cond true 69 (by kernel_rfl) ?_
                refine RunsI.go 1 [.blk 2, .blk 1, .c 89, .lp 29, .blk 0, .c 90] (by kernel_rfl) ?_
                refine RunsI.go 2 [.c 89, .lp 29, .blk 0, .c 90] (by kernel_rfl) ?_
                refine RunsI.region (by kernel_rfl) ?_
                refine RegI.pure 3 [1, 6, 7, 8] [(1, .slice pA1 p1.length pc1), (6, .slice A32 t31.length c33), (7, .slice A18 t20.length c19), (8, .int .i64 (IntKind.wrap .i64 (t21 + 1)))] (by kernel_rfl) ?_
                refine RegI.done (by kernel_rfl) ?_
                refine RunsI.go 1 [.c 29, .lp 29, .blk 0, .c 90] (by kernel_rfl) ?_
                refine RunsI.only [1, 6, 7, 8] [(1, .slice pA1 p1.length pc1), (6, .slice A32 t31.length c33), (7, .slice A18 t20.length c19), (8, .int .i64 (IntKind.wrap .i64 (t21 + 1)))] (by kernel_rfl) (by kernel_rfl) ?_
                exact ih t31 t20 (IntKind.wrap .i64 (t21 + 1)) A32 c33 A18 c19 w61 h (h108.pick [0, 1, 2] (by decide))
              · skip
                refine RunsI.fix 84 false hc109 (by kernel_rfl) (by kernel_rfl) ?_
                refine RunsI.cond false 70 (by kernel_rfl) ?_
                refine RunsI.go 1 [.c 71, .c 72, .blk 2, .blk 1, .c 89, .lp 29, .blk 0, .c 90] (by kernel_rfl) ?_
                refine RunsI.region (by kernel_rfl) ?_
                refine RegI.pure 1 [1, 6, 7, 8, 10, 91] [(1, .slice pA1 p1.length pc1), (6, .slice A32 t31.length c33), (7, .slice A18 t20.length c19), (8, .int .i64 t21), (10, .slice A58 t35.length c37), (91, .slice A58 t35.length c37)] (by kernel_rfl) ?_
                obtain ⟨hc110, h⟩ := of_cond0 h
                obtain ⟨b111, rfl⟩ := h108.ownSome 3 rfl hc110
                refine RegI.op (by kernel_rfl) (OpE.idxOwn 92 3 37 3 0 h108 (by kernel_rfl) rfl (by kernel_rfl) (by kernel_rfl) hc110 ?_)
                refine RegI.op (by kernel_rfl) (OpE.loadOwn 93 3 3 3 0 0 (o := (Int.toNat 0) * 1 + 0) h108 (by kernel_rfl) rfl (by kernel_rfl) (by kernel_rfl) hc110 (fun cs112 hk113 => ?_))
                obtain rfl := hk113
                refine ⟨.int .i64 (rdD t35 0), by kernel_rfl, ?_⟩
                refine RegI.pure 2 [1, 6, 7, 8, 10, 90] [(1, .slice pA1 p1.length pc1), (6, .slice A32 t31.length c33), (7, .slice A18 t20.length c19), (8, .int .i64 t21), (10, .slice (some ⟨b111, 0, none⟩) t35.length c37), (90, .bool (decide ((rdD t35 0) ≥ 0)))] (by kernel_rfl) ?_
                refine RegI.done (by kernel_rfl) ?_
                rcases of_cond h with ⟨hc114, h⟩ | ⟨hc114, h⟩
                · skip
                  refine RunsI.fix 90 true hc114 (by kernel_rfl) (by kernel_rfl) ?_
                  refine RunsI.cond true 73 (by kernel_rfl) ?_
                  refine RunsI.go 2 [.c 75, .c 76, .c 81, .blk 2, .blk 1, .c 89, .lp 29, .blk 0, .c 90] (by kernel_rfl) ?_
                  refine RunsI.any 15 (by kernel_rfl) (by kernel_rfl) (by kernel_rfl) (Kp ([] : List Nat) (World.drew w61)) ?_
                  have h116 := h108.drew
                  generalize World.drew w61 = w115 at h116 ⊢
                  have hS117 := Kp.refl ([] : List Nat) w115
                  refine AnyE.pure 0 95 (.slice A18 t20.length c19) (by kernel_rfl) hS117 (fun _ => by kernel_rfl) ?_
                  refine AnyE.pure 1 96 (.int .i64 (t20.length : Int)) (by kernel_rfl) hS117 (fun _ => by kernel_rfl) ?_
                  refine AnyE.pure 2 97 (.bool ((t20.length : Int) == 0)) (by kernel_rfl) hS117 (fun _ => by kernel_rfl) ?_
                  refine AnyE.pure 3 98 (.bool ((t20.length : Int) == 0)) (by kernel_rfl) hS117 (fun _ => by kernel_rfl) ?_
                  obtain ⟨j132, hJ133, h⟩ := of_let h
                  have hj134 : ∀ (t129 : Bool) (A128 : Option Addr) (w131 : World), j132 t129 = some x → Holds M0 w0 w131 [sl (Rp.int .i64) (.slice pA1 p1.length pc1) p1, own (Rp.pair Rp.bool Rp.bool) 49 (.slice A32 t31.length c33) t31, own (Rp.int .i64) 3 (.slice A128 t20.length c19) t20] → RunsI F5 [.c 76, .c 81, .blk 2, .blk 1, .c 89, .lp 29, .blk 0, .c 90] [(1, .slice pA1 p1.length pc1), (6, .slice A32 t31.length c33), (7, .slice A128 t20.length c19), (8, .int .i64 t21), (109, .bool t129)] w131 R := by
                    intro t129 A128 w131 h h130
                    rw [hJ133] at h
                    clear hJ133
                    dsimp only at h
                    rcases of_cond h with ⟨hc135, h⟩ | ⟨hc135, h⟩
                    · skip
                      refine RunsI.fix 109 true hc135 (by kernel_rfl) (by kernel_rfl) ?_
                      refine RunsI.cond true 77 (by kernel_rfl) ?_
                      refine RunsI.go 1 [.c 78, .c 79, .c 81, .blk 2, .blk 1, .c 89, .lp 29, .blk 0, .c 90] (by kernel_rfl) ?_
                      refine RunsI.region (by kernel_rfl) ?_
                      refine RegI.pure 1 [4] [(4, .bool false)] (by kernel_rfl) ?_
                      refine RegI.done (by kernel_rfl) ?_
                      refine RunsI.ret (.bool false) (by kernel_rfl) (by kernel_rfl) ?_
                      exact hk1 w131 (Option.some.inj h).symm (h130.pick [] (by decide))
                    · skip
                      refine RunsI.fix 109 false hc135 (by kernel_rfl) (by kernel_rfl) ?_
                      refine RunsI.cond false 80 (by kernel_rfl) ?_
                      refine RunsI.go 1 [.c 81, .blk 2, .blk 1, .c 89, .lp 29, .blk 0, .c 90] (by kernel_rfl) ?_
                      refine RunsI.region (by kernel_rfl) ?_
                      refine RegI.pure 4 [1, 6, 8, 110, 113] [(1, .slice pA1 p1.length pc1), (6, .slice A32 t31.length c33), (8, .int .i64 t21), (110, .slice A128 t20.length c19), (113, .int .i64 (IntKind.wrap .i64 ((t20.length : Int) - 1)))] (by kernel_rfl) ?_
                      obtain ⟨hc136, h⟩ := of_cond0 h
                      refine RegI.op (by kernel_rfl) (OpE.cutOwn 114 2 37 3 (some (IntKind.wrap .i64 ((t20.length : Int) - 1))) h130 (by kernel_rfl) rfl (by kernel_rfl) (by kernel_rfl) hc136 ?_)
                      intro A137 c138 h139
                      refine RegI.pure 1 [1, 6, 7, 8] [(1, .slice pA1 p1.length pc1), (6, .slice A32 t31.length c33), (7, .slice A137 ((cutL t20 0 (IntKind.wrap .i64 ((t20.length : Int) - 1))).length) c138), (8, .int .i64 t21)] (by kernel_rfl) ?_
                      refine RegI.done (by kernel_rfl) ?_
                      refine RunsI.go 2 [.c 89, .lp 29, .blk 0, .c 90] (by kernel_rfl) ?_
                      refine RunsI.region (by kernel_rfl) ?_
                      refine RegI.pure 3 [1, 6, 7, 8] [(1, .slice pA1 p1.length pc1), (6, .slice A32 t31.length c33), (7, .slice A137 ((cutL t20 0 (IntKind.wrap .i64 ((t20.length : Int) - 1))).length) c138), (8, .int .i64 (IntKind.wrap .i64 (t21 + 1)))] (by kernel_rfl) ?_
                      refine RegI.done (by kernel_rfl) ?_
                      refine RunsI.go 1 [.c 29, .lp 29, .blk 0, .c 90] (by kernel_rfl) ?_
                      refine RunsI.only [1, 6, 7, 8] [(1, .slice pA1 p1.length pc1), (6, .slice A32 t31.length c33), (7, .slice A137 ((cutL t20 0 (IntKind.wrap .i64 ((t20.length : Int) - 1))).length) c138), (8, .int .i64 (IntKind.wrap .i64 (t21 + 1)))] (by kernel_rfl) (by kernel_rfl) ?_
                      exact ih t31 (cutL t20 0 (IntKind.wrap .i64 ((t20.length : Int) - 1))) (IntKind.wrap .i64 (t21 + 1)) A32 c33 A137 c138 w131 h (h139.pick [0, 1, 2] (by decide))
                  clear hJ133
                  rcases of_cond h with ⟨hc119, h⟩ | ⟨hc119, h⟩
                  · skip
                    refine AnyE.fix 98 true hc119 (by kernel_rfl) (by kernel_rfl) ?_
                    refine AnyE.no 4 99 (by kernel_rfl) hS117 ?_
                    refine AnyE.no 5 100 (by kernel_rfl) hS117 ?_
                    refine AnyE.no 6 101 (by kernel_rfl) hS117 ?_
                    refine AnyE.no 7 102 (by kernel_rfl) hS117 ?_
                    refine AnyE.no 8 103 (by kernel_rfl) hS117 ?_
                    refine AnyE.no 9 104 (by kernel_rfl) hS117 ?_
                    refine AnyE.no 10 105 (by kernel_rfl) hS117 ?_
                    refine AnyE.no 11 106 (by kernel_rfl) hS117 ?_
                    refine AnyE.no 12 107 (by kernel_rfl) hS117 ?_
                    refine AnyE.no 13 108 (by kernel_rfl) hS117 ?_
                    refine AnyE.pure 14 109 (.bool true) (by kernel_rfl) hS117 (fun _ => by kernel_rfl) ?_
                    refine AnyE.done (by kernel_rfl) (fun w120 hu121 => ?_)
                    have h122 := h116.call hu121
                    refine RunsI.only [1, 6, 7, 8, 99, 100, 101, 102, 103, 104, 105, 106, 107, 108, 109] [(1, .slice pA1 p1.length pc1), (6, .slice A32 t31.length c33), (7, .slice A18 t20.length c19), (8, .int .i64 t21), (99, undef), (100, undef), (101, undef), (102, undef), (103, undef), (104, undef), (105, undef), (106, undef), (107, undef), (108, undef), (109, .bool true)] (by kernel_rfl) (by kernel_rfl) ?_
                    refine RunsI.only [1, 6, 7, 8, 109] [(1, .slice pA1 p1.length pc1), (6, .slice A32 t31.length c33), (7, .slice A18 t20.length c19), (8, .int .i64 t21), (109, .bool true)] (by kernel_rfl) (by kernel_rfl) ?_
                    exact hj134 true A18 w120 h (h122.pick [0, 1, 2] (by decide))
                  · skip
                    refine AnyE.fix 98 false hc119 (by kernel_rfl) (by kernel_rfl) ?_
                    refine AnyE.pure 4 99 (.slice A18 t20.length c19) (by kernel_rfl) hS117 (fun _ => by kernel_rfl) ?_
                    refine AnyE.pure 5 100 (.slice A18 t20.length c19) (by kernel_rfl) hS117 (fun _ => by kernel_rfl) ?_
                    refine AnyE.pure 6 101 (.int .i64 (t20.length : Int)) (by kernel_rfl) hS117 (fun _ => by kernel_rfl) ?_
                    refine AnyE.pure 7 102 (.int .i64 (IntKind.wrap .i64 ((t20.length : Int) - 1))) (by kernel_rfl) hS117 (fun _ => by kernel_rfl) ?_
                    obtain ⟨hc123, h⟩ := of_cond0 h
                    obtain ⟨b124, rfl⟩ := h116.ownSome 2 rfl hc123
                    refine AnyE.idxOwn 8 103 2 37 3 (IntKind.wrap .i64 ((t20.length : Int) - 1)) h116 (by kernel_rfl) hS117 rfl (by kernel_rfl) (by kernel_rfl) hc123 ?_
                    refine AnyE.loadOwn 9 104 2 3 3 (IntKind.wrap .i64 ((t20.length : Int) - 1)) 0 (.int .i64 (rdD t20 (IntKind.wrap .i64 ((t20.length : Int) - 1)))) [] (o := (Int.toNat (IntKind.wrap .i64 ((t20.length : Int) - 1))) * 1 + 0) h116 rfl (by kernel_rfl) hS117 rfl rfl (by kernel_rfl) rfl hc123 (fun _ _ hk => by obtain rfl := hk; kernel_rfl) ?_
                    refine AnyE.pure 10 105 (.slice (some ⟨b111, 0, none⟩) t35.length c37) (by kernel_rfl) hS117 (fun _ => by kernel_rfl) ?_
                    refine AnyE.idxOwn 11 106 3 37 3 0 h116 (by kernel_rfl) hS117 rfl (by kernel_rfl) (by kernel_rfl) hc110 ?_
                    refine AnyE.loadOwn 12 107 3 3 3 0 0 (.int .i64 (rdD t35 0)) [] (o := (Int.toNat 0) * 1 + 0) h116 rfl (by kernel_rfl) hS117 rfl rfl (by kernel_rfl) rfl hc110 (fun _ _ hk => by obtain rfl := hk; kernel_rfl) ?_
                    refine AnyE.pure 13 108 (.bool ((rdD t20 (IntKind.wrap .i64 ((t20.length : Int) - 1))) != (rdD t35 0))) (by kernel_rfl) hS117 (fun _ => by kernel_rfl) ?_
                    refine AnyE.pure 14 109 (.bool ((rdD t20 (IntKind.wrap .i64 ((t20.length : Int) - 1))) != (rdD t35 0))) (by kernel_rfl) hS117 (fun _ => by kernel_rfl) ?_
                    refine AnyE.done (by kernel_rfl) (fun w125 hu126 => ?_)
                    have h127 := h116.call hu126
                    refine RunsI.only [1, 6, 7, 8, 99, 100, 101, 102, 103, 104, 105, 106, 107, 108, 109] [(1, .slice pA1 p1.length pc1), (6, .slice A32 t31.length c33), (7, .slice (some ⟨b124, 0, none⟩) t20.length c19), (8, .int .i64 t21), (99, .slice (some ⟨b124, 0, none⟩) t20.length c19), (100, .slice (some ⟨b124, 0, none⟩) t20.length c19), (101, .int .i64 (t20.length : Int)), (102, .int .i64 (IntKind.wrap .i64 ((t20.length : Int) - 1))), (103, .pointer (some ⟨b124, (Int.toNat (IntKind.wrap .i64 ((t20.length : Int) - 1))) * 1, none⟩)), (104, .int .i64 (rdD t20 (IntKind.wrap .i64 ((t20.length : Int) - 1)))), (105, .slice (some ⟨b111, 0, none⟩) t35.length c37), (106, .pointer (some ⟨b111, (Int.toNat 0) * 1, none⟩)), (107, .int .i64 (rdD t35 0)), (108, .bool ((rdD t20 (IntKind.wrap .i64 ((t20.length : Int) - 1))) != (rdD t35 0))), (109, .bool ((rdD t20 (IntKind.wrap .i64 ((t20.length : Int) - 1))) != (rdD t35 0)))] (by kernel_rfl) (by kernel_rfl) ?_
                    refine RunsI.only [1, 6, 7, 8, 109] [(1, .slice pA1 p1.length pc1), (6, .slice A32 t31.length c33), (7, .slice (some ⟨b124, 0, none⟩) t20.length c19), (8, .int .i64 t21), (109, .bool ((rdD t20 (IntKind.wrap .i64 ((t20.length : Int) - 1))) != (rdD t35 0)))] (by kernel_rfl) (by kernel_rfl) ?_
                    exact hj134 ((rdD t20 (IntKind.wrap .i64 ((t20.length : Int) - 1))) != (rdD t35 0)) (some ⟨b124, 0, none⟩) w125 h (h127.pick [0, 1, 2] (by decide))
                · skip
                  refine RunsI.fix 90 false hc114 (by kernel_rfl) (by kernel_rfl) ?_
                  refine RunsI.cond false 82 (by kernel_rfl) ?_
                  refine RunsI.go 1 [.c 83, .c 84, .blk 2, .blk 1, .c 89, .lp 29, .blk 0, .c 90] (by kernel_rfl) ?_
                  refine RunsI.region (by kernel_rfl) ?_
                  refine RegI.pure 3 [1, 6, 7, 8, 44] [(1, .slice pA1 p1.length pc1), (6, .slice A32 t31.length c33), (7, .slice A18 t20.length c19), (8, .int .i64 t21), (44, .bool ((t20.length : Int) != 0))] (by kernel_rfl) ?_
                  refine RegI.done (by kernel_rfl) ?_
                  rcases of_cond h with ⟨hc140, h⟩ | ⟨hc140, h⟩
                  · skip
                    refine RunsI.fix 44 true hc140 (by kernel_rfl) (by kernel_rfl) ?_
                    refine RunsI.cond true 85 (by kernel_rfl) ?_
                    refine RunsI.go 1 [.c 86, .c 87, .blk 2, .blk 1, .c 89, .lp 29, .blk 0, .c 90] (by kernel_rfl) ?_
                    refine RunsI.region (by kernel_rfl) ?_
                    refine RegI.pure 1 [4] [(4, .bool false)] (by kernel_rfl) ?_
                    refine RegI.done (by kernel_rfl) ?_
                    refine RunsI.ret (.bool false) (by kernel_rfl) (by kernel_rfl) ?_
                    exact hk1 w61 (Option.some.inj h).symm (h108.pick [] (by decide))
                  · skip
                    refine RunsI.fix 44 false hc140 (by kernel_rfl) (by kernel_rfl) ?_
                    refine RunsI.cond false 88 (by kernel_rfl) ?_
                    refine RunsI.go 1 [.blk 2, .blk 1, .c 89, .lp 29, .blk 0, .c 90] (by kernel_rfl) ?_
                    refine RunsI.go 2 [.c 89, .lp 29, .blk 0, .c 90] (by kernel_rfl) ?_
                    refine RunsI.region (by kernel_rfl) ?_
                    refine RegI.pure 3 [1, 6, 7, 8] [(1, .slice pA1 p1.length pc1), (6, .slice A32 t31.length c33), (7, .slice A18 t20.length c19), (8, .int .i64 (IntKind.wrap .i64 (t21 + 1)))] (by kernel_rfl) ?_
                    refine RegI.done (by kernel_rfl) ?_
                    refine RunsI.go 1 [.c 29, .lp 29, .blk 0, .c 90] (by kernel_rfl) ?_
                    refine RunsI.only [1, 6, 7, 8] [(1, .slice pA1 p1.length pc1), (6, .slice A32 t31.length c33), (7, .slice A18 t20.length c19), (8, .int .i64 (IntKind.wrap .i64 (t21 + 1)))] (by kernel_rfl) (by kernel_rfl) ?_
                    exact ih t31 t20 (IntKind.wrap .i64 (t21 + 1)) A32 c33 A18 c19 w61 h (h108.pick [0, 1, 2] (by decide))
          clear hJ63
          rcases of_cond h with ⟨hc53, h⟩ | ⟨hc53, h⟩
          · skip
            refine RegI.fix 57 true hc53 (by kernel_rfl) (by kernel_rfl) ?_
            refine RegI.pure 1 [1, 6, 7, 8, 10, 57, 58] [(1, .slice pA1 p1.length pc1), (6, .slice A32 t31.length c33), (7, .slice A18 t20.length c19), (8, .int .i64 t21), (10, .slice A36 t35.length c37), (57, .bool true), (58, .slice A36 t35.length c37)] (by kernel_rfl) ?_
            obtain ⟨hc54, h⟩ := of_cond0 h
            obtain ⟨b55, rfl⟩ := h52.ownSome 5 rfl hc54
            refine RegI.op (by kernel_rfl) (OpE.idxOwn 59 5 37 3 0 h52 (by kernel_rfl) rfl (by kernel_rfl) (by kernel_rfl) hc54 ?_)
            refine RegI.op (by kernel_rfl) (OpE.loadOwn 60 5 3 3 0 0 (o := (Int.toNat 0) * 1 + 0) h52 (by kernel_rfl) rfl (by kernel_rfl) (by kernel_rfl) hc54 (fun cs56 hk57 => ?_))
            obtain rfl := hk57
            refine ⟨.int .i64 (rdD t35 0), by kernel_rfl, ?_⟩
            refine RegI.pure 3 [1, 6, 7, 8, 10, 51, 58, 59, 60, 61] [(1, .slice pA1 p1.length pc1), (6, .slice A32 t31.length c33), (7, .slice A18 t20.length c19), (8, .int .i64 t21), (10, .slice (some ⟨b55, 0, none⟩) t35.length c37), (51, .bool (decide ((rdD t35 0) ≥ 0))), (58, .slice (some ⟨b55, 0, none⟩) t35.length c37), (59, .pointer (some ⟨b55, (Int.toNat 0) * 1, none⟩)), (60, .int .i64 (rdD t35 0)), (61, .bool (decide ((rdD t35 0) ≥ 0)))] (by kernel_rfl) ?_
            refine RegI.only [1, 6, 7, 8, 10, 51] [(1, .slice pA1 p1.length pc1), (6, .slice A32 t31.length c33), (7, .slice A18 t20.length c19), (8, .int .i64 t21), (10, .slice (some ⟨b55, 0, none⟩) t35.length c37), (51, .bool (decide ((rdD t35 0) ≥ 0)))] (by kernel_rfl) (by kernel_rfl) ?_
            exact hj64 (decide ((rdD t35 0) ≥ 0)) (some ⟨b55, 0, none⟩) w27 h (h52.pick [0, 4, 2, 5] (by decide))
          · skip
            refine RegI.fix 57 false hc53 (by kernel_rfl) (by kernel_rfl) ?_
            refine RegI.pure 6 [1, 6, 7, 8, 10, 51, 58, 59, 60, 61] [(1, .slice pA1 p1.length pc1), (6, .slice A32 t31.length c33), (7, .slice A18 t20.length c19), (8, .int .i64 t21), (10, .slice A36 t35.length c37), (51, .bool false), (58, undef), (59, undef), (60, undef), (61, undef)] (by kernel_rfl) ?_
            refine RegI.only [1, 6, 7, 8, 10, 51] [(1, .slice pA1 p1.length pc1), (6, .slice A32 t31.length c33), (7, .slice A18 t20.length c19), (8, .int .i64 t21), (10, .slice A36 t35.length c37), (51, .bool false)] (by kernel_rfl) (by kernel_rfl) ?_
            exact hj64 false A36 w27 h (h52.pick [0, 4, 2, 5] (by decide))
    · skip
      refine RunsI.fix 25 false hc22 (by kernel_rfl) (by kernel_rfl) ?_
      refine RunsI.cond false 34 (by kernel_rfl) ?_
      refine RunsI.go 1 [.c 90] (by kernel_rfl) ?_
      refine RunsI.only [6, 7] [(6, .slice A15 t17.length c16), (7, .slice A18 t20.length c19)] (by kernel_rfl) (by kernel_rfl) ?_
      exact hk0 t17 t20 A15 c16 A18 c19 w (Option.some.inj h).symm (hH.pick [1, 2] (by decide))
def charabanclaw26_ChainStacks_5.l1 (K : Nat) (p0 : Int) (p1 : List Int) (t161 : List (Bool × Bool)) (t164 : List Int) : Nat → Int → Int → Option Int
  | 0, _, _ => none
  | k + 1, t165, t166 => cond (decide (t166 < (t161.length : Int))) (cond (inR t166 t161.length) (cond ((rdD t161 t166).2) (charabanclaw26_ChainStacks_5.l1 K p0 p1 t161 t164 k (IntKind.wrap .i64 (t165 + 1)) (IntKind.wrap .i64 (t166 + 1))) (charabanclaw26_ChainStacks_5.l1 K p0 p1 t161 t164 k t165 (IntKind.wrap .i64 (t166 + 1)))) none) (some t165)
set_option maxRecDepth 100000 in
theorem charabanclaw26_ChainStacks_5.l1_ok (K : Nat) (M0 : Nat → Prop) (w0 : World) (pA1 : Option Addr) (pc1 : Nat) (p0 : Int) (p1 : List Int) (t161 : List (Bool × Bool)) (t164 : List Int) (c160 : Nat) (A162 : Option Addr) (c163 : Nat) (R : Ending → World → Prop) (x : Int) (hk0 : ∀ (t173 : Int) (w1 : World), x = t173 → Holds M0 w0 w1 [own (Rp.int .i64) 3 (.slice A162 t164.length c163) t164] → RunsI F5 [.c 111] [(7, .slice A162 t164.length c163), (11, .int .i64 t173)] w1 R) :
    ∀ (k : Nat) (t165 : Int) (t166 : Int) (A159 : Option Addr) (w : World), charabanclaw26_ChainStacks_5.l1 K p0 p1 t161 t164 k t165 t166 = some x → Holds M0 w0 w [own (Rp.pair Rp.bool Rp.bool) 49 (.slice A159 t161.length c160) t161, own (Rp.int .i64) 3 (.slice A162 t164.length c163) t164] → RunsI F5 [.c 97, .lp 97, .blk 3, .c 111] [(6, .slice A159 t161.length c160), (7, .slice A162 t164.length c163), (11, .int .i64 t165), (12, .int .i64 t166)] w R := by
  intro k
  induction k with
  | zero => intro t165 t166 A159 w h hH; exact absurd h (by simp [charabanclaw26_ChainStacks_5.l1])
  | succ k ih =>
    intro t165 t166 A159 w h hH
    rw [charabanclaw26_ChainStacks_5.l1.eq_2] at h
    refine RunsI.go 1 [.c 98, .c 103, .lp 97, .blk 3, .c 111] (by kernel_rfl) ?_
    refine RunsI.go 1 [.c 99, .c 100, .c 103, .lp 97, .blk 3, .c 111] (by kernel_rfl) ?_
    refine RunsI.region (by kernel_rfl) ?_
    refine RegI.pure 4 [6, 7, 11, 12, 118] [(6, .slice A159 t161.length c160), (7, .slice A162 t164.length c163), (11, .int .i64 t165), (12, .int .i64 t166), (118, .bool (decide (t166 < (t161.length : Int))))] (by kernel_rfl) ?_
    refine RegI.done (by kernel_rfl) ?_
    rcases of_cond h with ⟨hc167, h⟩ | ⟨hc167, h⟩
    · skip
      refine RunsI.fix 118 true hc167 (by kernel_rfl) (by kernel_rfl) ?_
      refine RunsI.cond true 101 (by kernel_rfl) ?_
      refine RunsI.go 1 [.c 103, .lp 97, .blk 3, .c 111] (by kernel_rfl) ?_
      refine RunsI.go 3 [.c 106, .c 107, .blk 4, .c 110, .lp 97, .blk 3, .c 111] (by kernel_rfl) ?_
      refine RunsI.region (by kernel_rfl) ?_
      refine RegI.pure 2 [6, 7, 11, 12, 121, 122] [(6, .slice A159 t161.length c160), (7, .slice A162 t164.length c163), (11, .int .i64 t165), (12, .int .i64 t166), (121, .slice A159 t161.length c160), (122, .int .i64 t166)] (by kernel_rfl) ?_
      obtain ⟨hc168, h⟩ := of_cond0 h
      obtain ⟨b169, rfl⟩ := hH.ownSome 0 rfl hc168
      refine RegI.op (by kernel_rfl) (OpE.idxOwn 123 0 22 49 t166 hH (by kernel_rfl) rfl (by kernel_rfl) (by kernel_rfl) hc168 ?_)
      refine RegI.pure 1 [6, 7, 11, 12, 124] [(6, .slice (some ⟨b169, 0, none⟩) t161.length c160), (7, .slice A162 t164.length c163), (11, .int .i64 t165), (12, .int .i64 t166), (124, .pointer (some ⟨b169, (Int.toNat t166) * 2 + 1, none⟩))] (by kernel_rfl) ?_
      refine RegI.op (by kernel_rfl) (OpE.loadOwn 125 0 4 49 t166 1 (o := (Int.toNat t166) * 2 + 1) hH (by kernel_rfl) rfl (by kernel_rfl) (by kernel_rfl) hc168 (fun cs170 hk171 => ?_))
      obtain ⟨_, _, rfl, rfl, rfl⟩ := hk171
      refine ⟨.bool ((rdD t161 t166).2), by kernel_rfl, ?_⟩
      refine RegI.done (by kernel_rfl) ?_
      rcases of_cond h with ⟨hc172, h⟩ | ⟨hc172, h⟩
      · skip
        refine RunsI.fix 125 true hc172 (by kernel_rfl) (by kernel_rfl) ?_
        refine RunsI.cond true 108 (by kernel_rfl) ?_
        refine RunsI.region (by kernel_rfl) ?_
        refine RegI.pure 3 [6, 7, 11, 12] [(6, .slice (some ⟨b169, 0, none⟩) t161.length c160), (7, .slice A162 t164.length c163), (11, .int .i64 (IntKind.wrap .i64 (t165 + 1))), (12, .int .i64 t166)] (by kernel_rfl) ?_
        refine RegI.done (by kernel_rfl) ?_
        refine RunsI.go 1 [.c 110, .lp 97, .blk 3, .c 111] (by kernel_rfl) ?_
        refine RunsI.region (by kernel_rfl) ?_
        refine RegI.pure 3 [6, 7, 11, 12] [(6, .slice (some ⟨b169, 0, none⟩) t161.length c160), (7, .slice A162 t164.length c163), (11, .int .i64 (IntKind.wrap .i64 (t165 + 1))), (12, .int .i64 (IntKind.wrap .i64 (t166 + 1)))] (by kernel_rfl) ?_
        refine RegI.done (by kernel_rfl) ?_
        refine RunsI.go 1 [.c 97, .lp 97, .blk 3, .c 111] (by kernel_rfl) ?_
        refine RunsI.only [6, 7, 11, 12] [(6, .slice (some ⟨b169, 0, none⟩) t161.length c160), (7, .slice A162 t164.length c163), (11, .int .i64 (IntKind.wrap .i64 (t165 + 1))), (12, .int .i64 (IntKind.wrap .i64 (t166 + 1)))] (by kernel_rfl) (by kernel_rfl) ?_
        exact ih (IntKind.wrap .i64 (t165 + 1)) (IntKind.wrap .i64 (t166 + 1)) (some ⟨b169, 0, none⟩) w h (hH.pick [0, 1] (by decide))
      · skip
        refine RunsI.fix 125 false hc172 (by kernel_rfl) (by kernel_rfl) ?_
        refine RunsI.cond false 109 (by kernel_rfl) ?_
        refine RunsI.go 1 [.blk 4, .c 110, .lp 97, .blk 3, .c 111] (by kernel_rfl) ?_
        refine RunsI.go 1 [.c 110, .lp 97, .blk 3, .c 111] (by kernel_rfl) ?_
        refine RunsI.region (by kernel_rfl) ?_
        refine RegI.pure 3 [6, 7, 11, 12] [(6, .slice (some ⟨b169, 0, none⟩) t161.length c160), (7, .slice A162 t164.length c163), (11, .int .i64 t165), (12, .int .i64 (IntKind.wrap .i64 (t166 + 1)))] (by kernel_rfl) ?_
        refine RegI.done (by kernel_rfl) ?_
        refine RunsI.go 1 [.c 97, .lp 97, .blk 3, .c 111] (by kernel_rfl) ?_
        refine RunsI.only [6, 7, 11, 12] [(6, .slice (some ⟨b169, 0, none⟩) t161.length c160), (7, .slice A162 t164.length c163), (11, .int .i64 t165), (12, .int .i64 (IntKind.wrap .i64 (t166 + 1)))] (by kernel_rfl) (by kernel_rfl) ?_
        exact ih t165 (IntKind.wrap .i64 (t166 + 1)) (some ⟨b169, 0, none⟩) w h (hH.pick [0, 1] (by decide))
    · skip
      refine RunsI.fix 118 false hc167 (by kernel_rfl) (by kernel_rfl) ?_
      refine RunsI.cond false 102 (by kernel_rfl) ?_
      refine RunsI.go 1 [.c 111] (by kernel_rfl) ?_
      refine RunsI.only [7, 11] [(7, .slice A162 t164.length c163), (11, .int .i64 t165)] (by kernel_rfl) (by kernel_rfl) ?_
      exact hk0 t165 w (Option.some.inj h).symm (hH.pick [1] (by decide))
def charabanclaw26_ChainStacks_5.f (K : Nat) (p0 : Int) (p1 : List Int) : Option Bool := (charabanclaw26_awake_11.f K).bind fun t5 => cond (!t5) (some false) (cond (decide ((p1.length : Int) > 200)) (some true) (cond (makeR (band .i64 p0 15) 2) ((charabanclaw26_ChainStacks_5.l0 K p0 p1 K (List.replicate (Int.toNat (band .i64 p0 15)) (false, false)) ([] : List Int) 0).bind (fun x147 => Lp.elim x147 (fun _ => some false) (fun yx147 => (charabanclaw26_ChainStacks_5.l1 K p0 p1 yx147.1 yx147.2 K 0 0).bind (fun t176 => some (t176 == (yx147.2.length : Int)))))) none))
set_option maxRecDepth 100000 in
theorem charabanclaw26_ChainStacks_5_ok (K : Nat) (M0 : Nat → Prop) (w0 : World) (pA1 : Option Addr) (pc1 : Nat) (p0 : Int) (p1 : List Int) (ho : ∀ b, M0 b → b < w0.heap.size) (hs1 : Sl (Rp.int .i64) w0 M0 (.slice pA1 p1.length pc1) p1) {r : Bool} (h : charabanclaw26_ChainStacks_5.f K p0 p1 = some r) :
    Calls Try.prog 5 #[.int .i64 p0, .slice pA1 p1.length pc1] w0 (charabanclaw26_ChainStacks_5.post M0 w0 r) := by
  unfold charabanclaw26_ChainStacks_5.f at h
  have h0 : Holds M0 w0 w0 [] := Holds.start ho
  have h01 := h0.addSl (Rp.int .i64) (.slice pA1 p1.length pc1) p1 (hs1.mono (fun _ _ hm => hm.elim id (fun hm => absurd hm (by simp [mines, sl]))))
  have h0 : Holds M0 w0 w0 [sl (Rp.int .i64) (.slice pA1 p1.length pc1) p1] := h01
  refine calls_of F5 rfl [.int .i64 p0, .slice pA1 p1.length pc1] (by kernel_rfl) ?_
  refine RunsI.go 1 [.c 1, .c 2] (by kernel_rfl) ?_
  refine RunsI.region (by kernel_rfl) ?_
  refine RegI.pure 1 [0, 1] [(0, .int .i64 p0), (1, .slice pA1 p1.length pc1)] (by kernel_rfl) ?_
  refine RegI.done (by kernel_rfl) ?_
  refine RunsI.go 1 [.c 3, .c 4] (by kernel_rfl) ?_
  refine RunsI.region (by kernel_rfl) ?_
  obtain ⟨t5, hg4, h⟩ := of_bind h
  refine RegI.op (by kernel_rfl) (OpE.call 13 (by kernel_rfl) 11 #[] (by kernel_rfl) ((charabanclaw26_awake_11_ok K _ w0  h0.old' hg4).mono ?_))
  rintro _ w1 ⟨rfl, hb2⟩
  refine ⟨_, rfl, ?_⟩
  have h3 := h0.call hb2
  refine RegI.pure 1 [0, 1, 5] [(0, .int .i64 p0), (1, .slice pA1 p1.length pc1), (5, .bool t5)] (by kernel_rfl) ?_
  refine RegI.done (by kernel_rfl) ?_
  refine RunsI.go 2 [.c 6, .c 7, .c 12] (by kernel_rfl) ?_
  refine RunsI.region (by kernel_rfl) ?_
  refine RegI.pure 2 [0, 1, 15] [(0, .int .i64 p0), (1, .slice pA1 p1.length pc1), (15, .bool (!t5))] (by kernel_rfl) ?_
  refine RegI.done (by kernel_rfl) ?_
  rcases of_cond h with ⟨hc6, h⟩ | ⟨hc6, h⟩
  · skip
    refine RunsI.fix 15 true hc6 (by kernel_rfl) (by kernel_rfl) ?_
    refine RunsI.cond true 8 (by kernel_rfl) ?_
    refine RunsI.go 1 [.c 9, .c 10, .c 12] (by kernel_rfl) ?_
    refine RunsI.region (by kernel_rfl) ?_
    refine RegI.pure 1 [4] [(4, .bool false)] (by kernel_rfl) ?_
    refine RegI.done (by kernel_rfl) ?_
    refine RunsI.ret (.bool false) (by kernel_rfl) (by kernel_rfl) ?_
    obtain rfl := Option.some.inj h
    exact ⟨rfl, h3.below⟩
  · skip
    refine RunsI.fix 15 false hc6 (by kernel_rfl) (by kernel_rfl) ?_
    refine RunsI.cond false 11 (by kernel_rfl) ?_
    refine RunsI.go 1 [.c 12] (by kernel_rfl) ?_
    refine RunsI.go 2 [.c 14, .c 15, .c 20] (by kernel_rfl) ?_
    refine RunsI.region (by kernel_rfl) ?_
    refine RegI.pure 3 [0, 1, 18] [(0, .int .i64 p0), (1, .slice pA1 p1.length pc1), (18, .bool (decide ((p1.length : Int) > 200)))] (by kernel_rfl) ?_
    refine RegI.done (by kernel_rfl) ?_
    rcases of_cond h with ⟨hc7, h⟩ | ⟨hc7, h⟩
    · skip
      refine RunsI.fix 18 true hc7 (by kernel_rfl) (by kernel_rfl) ?_
      refine RunsI.cond true 16 (by kernel_rfl) ?_
      refine RunsI.go 1 [.c 17, .c 18, .c 20] (by kernel_rfl) ?_
      refine RunsI.region (by kernel_rfl) ?_
      refine RegI.pure 1 [4] [(4, .bool true)] (by kernel_rfl) ?_
      refine RegI.done (by kernel_rfl) ?_
      refine RunsI.ret (.bool true) (by kernel_rfl) (by kernel_rfl) ?_
      obtain rfl := Option.some.inj h
      exact ⟨rfl, h3.below⟩
    · skip
      refine RunsI.fix 18 false hc7 (by kernel_rfl) (by kernel_rfl) ?_
      refine RunsI.cond false 19 (by kernel_rfl) ?_
      refine RunsI.go 1 [.c 20] (by kernel_rfl) ?_
      refine RunsI.go 1 [.c 21, .c 22] (by kernel_rfl) ?_
      refine RunsI.region (by kernel_rfl) ?_
      refine RegI.pure 2 [1, 20] [(1, .slice pA1 p1.length pc1), (20, .int .i64 (band .i64 p0 15))] (by kernel_rfl) ?_
      obtain ⟨hc8, h⟩ := of_cond0 h
      refine RegI.op (by kernel_rfl) (OpE.makeAll 21 22 49 2 [.bool false, .bool false] (k := .i64) (k' := .i64) (x := (band .i64 p0 15)) (Rp.pair Rp.bool Rp.bool) (false, false) h3 (by kernel_rfl) (by kernel_rfl) (by kernel_rfl) (by kernel_rfl) hc8 (fun _ _ => ⟨[_], [_], rfl, rfl, rfl⟩) ?_)
      intro w9 A10 c11 h12 hb13
      refine RegI.pure 1 [1, 6] [(1, .slice pA1 p1.length pc1), (6, .slice A10 ((List.replicate (Int.toNat (band .i64 p0 15)) (false, false)).length) c11)] (by kernel_rfl) ?_
      refine RegI.done (by kernel_rfl) ?_
      refine RunsI.go 1 [.c 23, .c 24] (by kernel_rfl) ?_
      refine RunsI.region (by kernel_rfl) ?_
      refine RegI.pure 1 [1, 6, 7] [(1, .slice pA1 p1.length pc1), (6, .slice A10 ((List.replicate (Int.toNat (band .i64 p0 15)) (false, false)).length) c11), (7, .slice none 0 0)] (by kernel_rfl) ?_
      refine RegI.done (by kernel_rfl) ?_
      refine RunsI.go 2 [.c 26, .c 27, .c 90] (by kernel_rfl) ?_
      refine RunsI.region (by kernel_rfl) ?_
      refine RegI.pure 1 [1, 6, 7, 8] [(1, .slice pA1 p1.length pc1), (6, .slice A10 ((List.replicate (Int.toNat (band .i64 p0 15)) (false, false)).length) c11), (7, .slice none 0 0), (8, .int .i64 0)] (by kernel_rfl) ?_
      refine RegI.done (by kernel_rfl) ?_
      refine RunsI.go 2 [.c 29, .lp 29, .blk 0, .c 90] (by kernel_rfl) ?_
      obtain ⟨x147, hx148, h⟩ := of_bind h
      have h14 := h12.addOwnNil (Rp.int .i64) 3
      refine RunsI.only [1, 6, 7, 8] [(1, .slice pA1 p1.length pc1), (6, .slice A10 ((List.replicate (Int.toNat (band .i64 p0 15)) (false, false)).length) c11), (7, .slice none (([] : List Int).length) 0), (8, .int .i64 0)] (by kernel_rfl) (by kernel_rfl) ?_
      refine charabanclaw26_ChainStacks_5.l0_ok K M0 w0 pA1 pc1 p0 p1 _ x147 ?_ ?_ K (List.replicate (Int.toNat (band .i64 p0 15)) (false, false)) ([] : List Int) 0 A10 c11 none 0 w9 hx148 (h14.pick [0, 1, 2] (by decide))
      · intro t151 t154 A149 c150 A152 c153 w156 hq179 h155
        (try rw [hq179] at h)
        dsimp only [Lp.elim] at h
        refine RunsI.go 1 [.c 91, .c 92] (by kernel_rfl) ?_
        refine RunsI.region (by kernel_rfl) ?_
        refine RegI.pure 1 [6, 7, 11] [(6, .slice A149 t151.length c150), (7, .slice A152 t154.length c153), (11, .int .i64 0)] (by kernel_rfl) ?_
        refine RegI.done (by kernel_rfl) ?_
        refine RunsI.go 2 [.c 94, .c 95, .c 111] (by kernel_rfl) ?_
        refine RunsI.region (by kernel_rfl) ?_
        refine RegI.pure 1 [6, 7, 11, 12] [(6, .slice A149 t151.length c150), (7, .slice A152 t154.length c153), (11, .int .i64 0), (12, .int .i64 0)] (by kernel_rfl) ?_
        refine RegI.done (by kernel_rfl) ?_
        refine RunsI.go 2 [.c 97, .lp 97, .blk 3, .c 111] (by kernel_rfl) ?_
        obtain ⟨x174, hx175, h⟩ := of_bind h
        refine RunsI.only [6, 7, 11, 12] [(6, .slice A149 t151.length c150), (7, .slice A152 t154.length c153), (11, .int .i64 0), (12, .int .i64 0)] (by kernel_rfl) (by kernel_rfl) ?_
        refine charabanclaw26_ChainStacks_5.l1_ok K M0 w0 pA1 pc1 p0 p1 t151 t154 c150 A152 c153 _ x174 ?_ K 0 0 A149 w156 hx175 (h155.pick [0, 1] (by decide))
        · intro t176 w178 hq180 h177
          (try rw [hq180] at h)
          refine RunsI.go 1 [.c 112, .c 113] (by kernel_rfl) ?_
          refine RunsI.region (by kernel_rfl) ?_
          refine RegI.pure 5 [4] [(4, .bool (t176 == (t154.length : Int)))] (by kernel_rfl) ?_
          refine RegI.done (by kernel_rfl) ?_
          refine RunsI.ret (.bool (t176 == (t154.length : Int))) (by kernel_rfl) (by kernel_rfl) ?_
          obtain rfl := Option.some.inj h
          exact ⟨rfl, h177.below⟩
      · intro w158 hq181 h157
        (try rw [hq181] at h)
        dsimp only [Lp.elim] at h
        obtain rfl := Option.some.inj h
        exact ⟨rfl, h157.below⟩
end
end Go.Proofs.Ytngcadmhnbpgjaa.Chain
