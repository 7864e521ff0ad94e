/- Functions of the program as plain Lean functions, each with the proof that the call comes to it; written by wip/eng.py. -/
import Derived.Test.YtngcadmhnbpgjaaProg
import Derived.Test.YtngcadmhnbpgjaaEngRow
set_option linter.unusedVariables false
set_option linter.unusedSimpArgs false
set_option maxHeartbeats 4000000
namespace Go.Proofs.Ytngcadmhnbpgjaa.Chain
open Go.RowKit Go.Eng
noncomputable def B11 : Code := (Try.f11.body).getD .skip
noncomputable def F11 : Fun Try.prog := ⟨11, Try.f11, B11, 70, Try.func11, by kernel_rfl, by kernel_rfl⟩
noncomputable def B12 : Code := (Try.f12.body).getD .skip
noncomputable def F12 : Fun Try.prog := ⟨12, Try.f12, B12, 23, Try.func12, by kernel_rfl, by kernel_rfl⟩
noncomputable def B13 : Code := (Try.f13.body).getD .skip
noncomputable def F13 : Fun Try.prog := ⟨13, Try.f13, B13, 26, Try.func13, by kernel_rfl, by kernel_rfl⟩
noncomputable def B14 : Code := (Try.f14.body).getD .skip
noncomputable def F14 : Fun Try.prog := ⟨14, Try.f14, B14, 26, Try.func14, by kernel_rfl, by kernel_rfl⟩
noncomputable def B15 : Code := (Try.f15.body).getD .skip
noncomputable def F15 : Fun Try.prog := ⟨15, Try.f15, B15, 16, Try.func15, by kernel_rfl, by kernel_rfl⟩
noncomputable def B16 : Code := (Try.f16.body).getD .skip
noncomputable def F16 : Fun Try.prog := ⟨16, Try.f16, B16, 15, Try.func16, by kernel_rfl, by kernel_rfl⟩
noncomputable def B17 : Code := (Try.f17.body).getD .skip
noncomputable def F17 : Fun Try.prog := ⟨17, Try.f17, B17, 21, Try.func17, by kernel_rfl, by kernel_rfl⟩
noncomputable def B18 : Code := (Try.f18.body).getD .skip
noncomputable def F18 : Fun Try.prog := ⟨18, Try.f18, B18, 27, Try.func18, by kernel_rfl, by kernel_rfl⟩
noncomputable def B19 : Code := (Try.f19.body).getD .skip
noncomputable def F19 : Fun Try.prog := ⟨19, Try.f19, B19, 21, Try.func19, by kernel_rfl, by kernel_rfl⟩
noncomputable def B20 : Code := (Try.f20.body).getD .skip
noncomputable def F20 : Fun Try.prog := ⟨20, Try.f20, B20, 33, Try.func20, by kernel_rfl, by kernel_rfl⟩
noncomputable def B21 : Code := (Try.f21.body).getD .skip
noncomputable def F21 : Fun Try.prog := ⟨21, Try.f21, B21, 26, Try.func21, by kernel_rfl, by kernel_rfl⟩
noncomputable def B22 : Code := (Try.f22.body).getD .skip
noncomputable def F22 : Fun Try.prog := ⟨22, Try.f22, B22, 55, Try.func22, by kernel_rfl, by kernel_rfl⟩
noncomputable def B23 : Code := (Try.f23.body).getD .skip
noncomputable def F23 : Fun Try.prog := ⟨23, Try.f23, B23, 76, Try.func23, by kernel_rfl, by kernel_rfl⟩
noncomputable def B24 : Code := (Try.f24.body).getD .skip
noncomputable def F24 : Fun Try.prog := ⟨24, Try.f24, B24, 20, Try.func24, by kernel_rfl, by kernel_rfl⟩
noncomputable def B25 : Code := (Try.f25.body).getD .skip
noncomputable def F25 : Fun Try.prog := ⟨25, Try.f25, B25, 16, Try.func25, by kernel_rfl, by kernel_rfl⟩
noncomputable def B26 : Code := (Try.f26.body).getD .skip
noncomputable def F26 : Fun Try.prog := ⟨26, Try.f26, B26, 26, Try.func26, by kernel_rfl, by kernel_rfl⟩
noncomputable def B27 : Code := (Try.f27.body).getD .skip
noncomputable def F27 : Fun Try.prog := ⟨27, Try.f27, B27, 25, Try.func27, by kernel_rfl, by kernel_rfl⟩
noncomputable def B28 : Code := (Try.f28.body).getD .skip
noncomputable def F28 : Fun Try.prog := ⟨28, Try.f28, B28, 28, Try.func28, by kernel_rfl, by kernel_rfl⟩
noncomputable def B46 : Code := (Try.f46.body).getD .skip
noncomputable def F46 : Fun Try.prog := ⟨46, Try.f46, B46, 9, Try.func46, by kernel_rfl, by kernel_rfl⟩
noncomputable def B47 : Code := (Try.f47.body).getD .skip
noncomputable def F47 : Fun Try.prog := ⟨47, Try.f47, B47, 5, Try.func47, by kernel_rfl, by kernel_rfl⟩
noncomputable def B48 : Code := (Try.f48.body).getD .skip
noncomputable def F48 : Fun Try.prog := ⟨48, Try.f48, B48, 8, Try.func48, by kernel_rfl, by kernel_rfl⟩
noncomputable def B49 : Code := (Try.f49.body).getD .skip
noncomputable def F49 : Fun Try.prog := ⟨49, Try.f49, B49, 15, Try.func49, by kernel_rfl, by kernel_rfl⟩
noncomputable def B50 : Code := (Try.f50.body).getD .skip
noncomputable def F50 : Fun Try.prog := ⟨50, Try.f50, B50, 16, Try.func50, by kernel_rfl, by kernel_rfl⟩
noncomputable def B51 : Code := (Try.f51.body).getD .skip
noncomputable def F51 : Fun Try.prog := ⟨51, Try.f51, B51, 19, Try.func51, by kernel_rfl, by kernel_rfl⟩
noncomputable def B52 : Code := (Try.f52.body).getD .skip
noncomputable def F52 : Fun Try.prog := ⟨52, Try.f52, B52, 5, Try.func52, by kernel_rfl, by kernel_rfl⟩

/-! ### charabanc/chain.Enabled$1 (function 47) -/
section
def chain_Enabled_1_47.post (M0 : Nat → Prop) (w0 : World) (r : Bool) : Ending → World → Prop := fun e w => e = .returned (.bool r) ∧ Below w0.heap.size w0 w
def chain_Enabled_1_47.f (K : Nat) (p0_0 : Bool) (p0_1 : Bool) : Option Bool := some p0_1
set_option maxRecDepth 100000 in
theorem chain_Enabled_1_47_ok (K : Nat) (M0 : Nat → Prop) (w0 : World) (p0_0 : Bool) (p0_1 : Bool) (ho : ∀ b, M0 b → b < w0.heap.size) {r : Bool} (h : chain_Enabled_1_47.f K p0_0 p0_1 = some r) :
    Calls Try.prog 47 #[.agg #[.bool p0_0, .bool p0_1]] w0 (chain_Enabled_1_47.post M0 w0 r) := by
  unfold chain_Enabled_1_47.f at h
  have h0 : Holds M0 w0 w0 [] := Holds.start ho
  have h0 : Holds M0 w0 w0 [] := h0
  refine calls_of F47 rfl [.agg #[.bool p0_0, .bool p0_1]] (by kernel_rfl) ?_
  refine RunsI.go 1 [.c 1, .c 2] (by kernel_rfl) ?_
  refine RunsI.region (by kernel_rfl) ?_
  refine RegI.op (by kernel_rfl) (OpE.box 1 49 [.bool p0_0, .bool p0_1] h0 (by kernel_rfl) (by kernel_rfl) ?_)
  intro w1 b2 h3 hb4
  refine RegI.pure 1 [1] [(1, .pointer (some ⟨b2, 0, none⟩))] (by kernel_rfl) ?_
  refine RegI.done (by kernel_rfl) ?_
  refine RunsI.go 1 [.c 3, .c 4] (by kernel_rfl) ?_
  refine RunsI.region (by kernel_rfl) ?_
  refine RegI.pure 1 [3] [(3, .pointer (some ⟨b2, 1, none⟩))] (by kernel_rfl) ?_
  refine RegI.op (by kernel_rfl) (OpE.loadBox 4 0 4 b2 1 (.bool p0_1) h3 (by kernel_rfl) (by kernel_rfl) rfl (by kernel_rfl) ?_)
  refine RegI.pure 1 [2] [(2, .bool p0_1)] (by kernel_rfl) ?_
  refine RegI.done (by kernel_rfl) ?_
  refine RunsI.ret (.bool p0_1) (by kernel_rfl) (by kernel_rfl) ?_
  obtain rfl := Option.some.inj h
  exact ⟨rfl, h3.below⟩
end

/-! ### charabanc/chain.Enabled (function 12) -/
section
def chain_Enabled_12.post (M0 : Nat → Prop) (w0 : World) (r : (List Bool)) : Ending → World → Prop := fun e w => ∃ (A1 : Option Addr) (c1 : Nat), e = .returned (.slice A1 r.length c1) ∧ Holds M0 w0 w [own Rp.bool 4 (.slice A1 r.length c1) r]
def chain_Enabled_12.l0 (K : Nat) (p0 : List (Bool × Bool)) (t18 : List (Bool × Bool)) (t19 : Int) (t23 : List Bool) : Nat → Int → Option (Lp Int Unit)
  | 0, _ => none
  | k + 1, t20 => cond (decide (t20 < t19)) (cond (inR t20 t18.length) ((chain_Enabled_1_47.f K ((rdD t18 t20).1) ((rdD t18 t20).2)).bind fun t35 => cond t35 (some (Lp.ret t20)) (chain_Enabled_12.l0 K p0 t18 t19 t23 k (IntKind.wrap .i64 (t20 + 1)))) none) (some (Lp.go ()))
set_option maxRecDepth 100000 in
theorem chain_Enabled_12.l0_ok (K : Nat) (M0 : Nat → Prop) (w0 : World) (pA0 : Option Addr) (pc0 : Nat) (p0 : List (Bool × Bool)) (t18 : List (Bool × Bool)) (t19 : Int) (t23 : List Bool) (A16 : Option Addr) (c17 : Nat) (A21 : Option Addr) (c22 : Nat) (R : Ending → World → Prop) (x : Lp Int Unit) (hk0 : ∀ (w1 : World), x = Lp.go () → Holds M0 w0 w1 [sl (Rp.pair Rp.bool Rp.bool) (.slice pA0 p0.length pc0) p0, own Rp.bool 4 (.slice A21 t23.length c22) t23] → RunsI F51 [.c 25] [] w1 R) (hk1 : ∀ (t37 : Int) (w1 : World), x = Lp.ret t37 → Holds M0 w0 w1 [sl (Rp.pair Rp.bool Rp.bool) (.slice pA0 p0.length pc0) p0, own Rp.bool 4 (.slice A21 t23.length c22) t23] → R (.returned (.int .i64 t37)) w1) :
    ∀ (k : Nat) (t20 : Int) (w : World), chain_Enabled_12.l0 K p0 t18 t19 t23 k t20 = some x → Holds M0 w0 w [sl (Rp.pair Rp.bool Rp.bool) (.slice A16 t18.length c17) t18, sl (Rp.pair Rp.bool Rp.bool) (.slice pA0 p0.length pc0) p0, own Rp.bool 4 (.slice A21 t23.length c22) t23] → RunsI F51 [.c 7, .lp 7, .blk 0, .c 25] [(0, .slice A16 t18.length c17), (1, .func (.func 47) #[] #[]), (7, .int .i64 t19), (8, .int .i64 t20)] w R := by
  intro k
  induction k with
  | zero => intro t20 w h hH; exact absurd h (by simp [chain_Enabled_12.l0])
  | succ k ih =>
    intro t20 w h hH
    rw [chain_Enabled_12.l0.eq_2] at h
    refine RunsI.go 1 [.c 8, .c 9, .lp 7, .blk 0, .c 25] (by kernel_rfl) ?_
    refine RunsI.region (by kernel_rfl) ?_
    refine RegI.pure 1 [0, 1, 7, 8, 9] [(0, .slice A16 t18.length c17), (1, .func (.func 47) #[] #[]), (7, .int .i64 t19), (8, .int .i64 t20), (9, .bool (decide (t20 < t19)))] (by kernel_rfl) ?_
    refine RegI.done (by kernel_rfl) ?_
    refine RunsI.go 1 [.c 10, .c 13, .lp 7, .blk 0, .c 25] (by kernel_rfl) ?_
    rcases of_cond h with ⟨hc24, h⟩ | ⟨hc24, h⟩
    · skip
      refine RunsI.fix 9 true hc24 (by kernel_rfl) (by kernel_rfl) ?_
      refine RunsI.cond true 11 (by kernel_rfl) ?_
      refine RunsI.go 1 [.c 13, .lp 7, .blk 0, .c 25] (by kernel_rfl) ?_
      refine RunsI.go 3 [.c 16, .c 17, .blk 1, .c 24, .lp 7, .blk 0, .c 25] (by kernel_rfl) ?_
      refine RunsI.region (by kernel_rfl) ?_
      refine RegI.pure 2 [0, 1, 5, 7, 8] [(0, .slice A16 t18.length c17), (1, .func (.func 47) #[] #[]), (5, .int .i64 t20), (7, .int .i64 t19), (8, .int .i64 t20)] (by kernel_rfl) ?_
      refine RegI.done (by kernel_rfl) ?_
      refine RunsI.go 1 [.c 18, .c 19, .blk 1, .c 24, .lp 7, .blk 0, .c 25] (by kernel_rfl) ?_
      refine RunsI.region (by kernel_rfl) ?_
      refine RegI.pure 3 [0, 1, 5, 7, 8, 11, 12, 13] [(0, .slice A16 t18.length c17), (1, .func (.func 47) #[] #[]), (5, .int .i64 t20), (7, .int .i64 t19), (8, .int .i64 t20), (11, .func (.func 47) #[] #[]), (12, .slice A16 t18.length c17), (13, .int .i64 t20)] (by kernel_rfl) ?_
      obtain ⟨hc25, h⟩ := of_cond0 h
      refine RegI.op (by kernel_rfl) (OpE.idxSl 14 0 22 t20 hH (by kernel_rfl) rfl (by kernel_rfl) (by kernel_rfl) hc25 ?_)
      intro b26 o27 cs28 hk29 h30
      obtain ⟨_, _, rfl, rfl, rfl⟩ := hk29
      refine RegI.op (by kernel_rfl) (OpE.loadCel 15 3 49 b26 o27 0 (.agg #[.bool ((rdD t18 t20).1), .bool ((rdD t18 t20).2)]) h30 (by kernel_rfl) (by kernel_rfl) rfl (by kernel_rfl) ?_)
      obtain ⟨t35, hg34, h⟩ := of_bind h
      refine RegI.op (by kernel_rfl) (OpE.call 16 (by kernel_rfl) 47 #[.agg #[.bool ((rdD t18 t20).1), .bool ((rdD t18 t20).2)]] (by kernel_rfl) ((chain_Enabled_1_47_ok K _ w  ((rdD t18 t20).1) ((rdD t18 t20).2) h30.old' hg34).mono ?_))
      rintro _ w31 ⟨rfl, hb32⟩
      refine ⟨_, rfl, ?_⟩
      have h33 := h30.call hb32
      refine RegI.done (by kernel_rfl) ?_
      rcases of_cond h with ⟨hc36, h⟩ | ⟨hc36, h⟩
      · skip
        refine RunsI.fix 16 true hc36 (by kernel_rfl) (by kernel_rfl) ?_
        refine RunsI.cond true 20 (by kernel_rfl) ?_
        refine RunsI.go 1 [.c 21, .c 22, .blk 1, .c 24, .lp 7, .blk 0, .c 25] (by kernel_rfl) ?_
        refine RunsI.region (by kernel_rfl) ?_
        refine RegI.pure 2 [4] [(4, .int .i64 t20)] (by kernel_rfl) ?_
        refine RegI.done (by kernel_rfl) ?_
        refine RunsI.ret (.int .i64 t20) (by kernel_rfl) (by kernel_rfl) ?_
        exact hk1 t20 w31 (Option.some.inj h).symm (h33.pick [1, 2] (by decide))
      · skip
        refine RunsI.fix 16 false hc36 (by kernel_rfl) (by kernel_rfl) ?_
        refine RunsI.cond false 23 (by kernel_rfl) ?_
        refine RunsI.go 1 [.blk 1, .c 24, .lp 7, .blk 0, .c 25] (by kernel_rfl) ?_
        refine RunsI.go 1 [.c 24, .lp 7, .blk 0, .c 25] (by kernel_rfl) ?_
        refine RunsI.region (by kernel_rfl) ?_
        refine RegI.pure 2 [0, 1, 7, 8] [(0, .slice A16 t18.length c17), (1, .func (.func 47) #[] #[]), (7, .int .i64 t19), (8, .int .i64 (IntKind.wrap .i64 (t20 + 1)))] (by kernel_rfl) ?_
        refine RegI.done (by kernel_rfl) ?_
        refine RunsI.go 1 [.c 7, .lp 7, .blk 0, .c 25] (by kernel_rfl) ?_
        refine RunsI.only [0, 1, 7, 8] [(0, .slice A16 t18.length c17), (1, .func (.func 47) #[] #[]), (7, .int .i64 t19), (8, .int .i64 (IntKind.wrap .i64 (t20 + 1)))] (by kernel_rfl) (by kernel_rfl) ?_
        exact ih (IntKind.wrap .i64 (t20 + 1)) w31 h (h33.pick [0, 1, 2] (by decide))
    · skip
      refine RunsI.fix 9 false hc24 (by kernel_rfl) (by kernel_rfl) ?_
      refine RunsI.cond false 12 (by kernel_rfl) ?_
      refine RunsI.go 1 [.c 25] (by kernel_rfl) ?_
      refine RunsI.only [] [] (by kernel_rfl) (by kernel_rfl) ?_
      exact hk0 w (Option.some.inj h).symm (hH.pick [1, 2] (by decide))
def chain_Enabled_12.l1 (K : Nat) (p0 : List (Bool × Bool)) : Nat → (List Bool) → Int → Option (List Bool)
  | 0, _, _ => none
  | k + 1, t9, t10 => cond (decide (t10 < ((List.replicate (Int.toNat (p0.length : Int)) false).length : Int))) (cond (cutR 0 t10 p0.length) (Let (fun (t45 : Int) => cond (inR t10 t9.length) (chain_Enabled_12.l1 K p0 k (stD t9 t10 (!(decide (t45 ≥ 0)))) (IntKind.wrap .i64 (t10 + 1))) none) (fun j48 => (chain_Enabled_12.l0 K p0 (cutL p0 0 t10) ((cutL p0 0 t10).length : Int) t9 K 0).bind (fun x38 => Lp.elim x38 (fun t42 => j48 t42) (fun _ => j48 (-1))))) none) (some t9)
set_option maxRecDepth 100000 in
theorem chain_Enabled_12.l1_ok (K : Nat) (M0 : Nat → Prop) (w0 : World) (pA0 : Option Addr) (pc0 : Nat) (p0 : List (Bool × Bool)) (c8 : Nat) (R : Ending → World → Prop) (x : (List Bool)) (hk0 : ∀ (t58 : List Bool) (A57 : Option Addr) (w1 : World), x = t58 → Holds M0 w0 w1 [own Rp.bool 4 (.slice A57 t58.length c8) t58] → RunsI F12 [.c 21] [(3, .slice A57 t58.length c8)] w1 R) :
    ∀ (k : Nat) (t9 : List Bool) (t10 : Int) (A7 : Option Addr) (w : World), chain_Enabled_12.l1 K p0 k t9 t10 = some x → Holds M0 w0 w [sl (Rp.pair Rp.bool Rp.bool) (.slice pA0 p0.length pc0) p0, own Rp.bool 4 (.slice A7 t9.length c8) t9] → RunsI F12 [.c 9, .lp 9, .blk 0, .c 21] [(0, .slice pA0 p0.length pc0), (3, .slice A7 t9.length c8), (9, .int .i64 ((List.replicate (Int.toNat (p0.length : Int)) false).length : Int)), (10, .int .i64 t10)] w R := by
  intro k
  induction k with
  | zero => intro t9 t10 A7 w h hH; exact absurd h (by simp [chain_Enabled_12.l1])
  | succ k ih =>
    intro t9 t10 A7 w h hH
    rw [chain_Enabled_12.l1.eq_2] at h
    refine RunsI.go 1 [.c 10, .c 11, .lp 9, .blk 0, .c 21] (by kernel_rfl) ?_
    refine RunsI.region (by kernel_rfl) ?_
    refine RegI.pure 1 [0, 3, 9, 10, 11] [(0, .slice pA0 p0.length pc0), (3, .slice A7 t9.length c8), (9, .int .i64 ((List.replicate (Int.toNat (p0.length : Int)) false).length : Int)), (10, .int .i64 t10), (11, .bool (decide (t10 < ((List.replicate (Int.toNat (p0.length : Int)) false).length : Int))))] (by kernel_rfl) ?_
    refine RegI.done (by kernel_rfl) ?_
    refine RunsI.go 1 [.c 12, .c 15, .lp 9, .blk 0, .c 21] (by kernel_rfl) ?_
    rcases of_cond h with ⟨hc11, h⟩ | ⟨hc11, h⟩
    · skip
      refine RunsI.fix 11 true hc11 (by kernel_rfl) (by kernel_rfl) ?_
      refine RunsI.cond true 13 (by kernel_rfl) ?_
      refine RunsI.go 1 [.c 15, .lp 9, .blk 0, .c 21] (by kernel_rfl) ?_
      refine RunsI.go 3 [.c 18, .c 19, .blk 1, .c 20, .lp 9, .blk 0, .c 21] (by kernel_rfl) ?_
      refine RunsI.region (by kernel_rfl) ?_
      refine RegI.pure 2 [0, 3, 4, 9, 10] [(0, .slice pA0 p0.length pc0), (3, .slice A7 t9.length c8), (4, .int .i64 t10), (9, .int .i64 ((List.replicate (Int.toNat (p0.length : Int)) false).length : Int)), (10, .int .i64 t10)] (by kernel_rfl) ?_
      refine RegI.done (by kernel_rfl) ?_
      refine RunsI.region (by kernel_rfl) ?_
      refine RegI.pure 4 [0, 3, 9, 10, 13, 14, 15, 16] [(0, .slice pA0 p0.length pc0), (3, .slice A7 t9.length c8), (9, .int .i64 ((List.replicate (Int.toNat (p0.length : Int)) false).length : Int)), (10, .int .i64 t10), (13, .slice A7 t9.length c8), (14, .int .i64 t10), (15, .slice pA0 p0.length pc0), (16, .int .i64 t10)] (by kernel_rfl) ?_
      obtain ⟨hc12, h⟩ := of_cond0 h
      refine RegI.op (by kernel_rfl) (OpE.cutSl 17 0 22 none (some t10) hH (by kernel_rfl) rfl (by kernel_rfl) (by kernel_rfl) hc12 ?_)
      intro A13 c14 h15
      refine RegI.enter 18 [0, 3, 9, 10, 13, 14] [(0, .slice pA0 p0.length pc0), (3, .slice A7 t9.length c8), (9, .int .i64 ((List.replicate (Int.toNat (p0.length : Int)) false).length : Int)), (10, .int .i64 t10), (13, .slice A7 t9.length c8), (14, .int .i64 t10)] (by kernel_rfl) (by kernel_rfl) (by kernel_rfl) (by kernel_rfl) F46 46 rfl [.slice A13 ((cutL p0 0 t10).length) c14, .func (.func 47) #[] #[]] (by kernel_rfl) (by kernel_rfl) ?_
      refine RunsI.go 1 [.c 1, .c 2] (by kernel_rfl) ?_
      refine RunsI.region (by kernel_rfl) ?_
      refine RegI.pure 1 [0, 1] [(0, .slice A13 ((cutL p0 0 t10).length) c14), (1, .func (.func 47) #[] #[])] (by kernel_rfl) ?_
      refine RegI.done (by kernel_rfl) ?_
      refine RunsI.go 1 [.c 3, .c 4] (by kernel_rfl) ?_
      refine RunsI.region (by kernel_rfl) ?_
      refine RegI.pure 2 [5, 6] [(5, .slice A13 ((cutL p0 0 t10).length) c14), (6, .func (.func 47) #[] #[])] (by kernel_rfl) ?_
      refine RegI.enter 7 [] [] (by kernel_rfl) (by kernel_rfl) (by kernel_rfl) (by kernel_rfl) F51 51 rfl [.slice A13 ((cutL p0 0 t10).length) c14, .func (.func 47) #[] #[]] (by kernel_rfl) (by kernel_rfl) ?_
      obtain ⟨j48, hJ49, h⟩ := of_let h
      have hj50 : ∀ (t45 : Int) (w47 : World), j48 t45 = some x → Holds M0 w0 w47 [sl (Rp.pair Rp.bool Rp.bool) (.slice pA0 p0.length pc0) p0, own Rp.bool 4 (.slice A7 t9.length c8) t9] → RegI F46 3 [.c 4] 3 [(7, .int .i64 t45)] w47 (cont (fun e' w' => RegI F12 19 [.blk 1, .c 20, .lp 9, .blk 0, .c 21] 6 e' w' R) 18 [(0, .slice pA0 p0.length pc0), (3, .slice A7 t9.length c8), (9, .int .i64 ((List.replicate (Int.toNat (p0.length : Int)) false).length : Int)), (10, .int .i64 t10), (13, .slice A7 t9.length c8), (14, .int .i64 t10)]) := by
        intro t45 w47 h h46
        rw [hJ49] at h
        clear hJ49
        dsimp only at h
        refine RegI.pure 2 [4] [(4, .bool (decide (t45 ≥ 0)))] (by kernel_rfl) ?_
        refine RegI.done (by kernel_rfl) ?_
        refine RunsI.ret (.bool (decide (t45 ≥ 0))) (by kernel_rfl) (by kernel_rfl) ?_
        refine cont_mk ?_
        refine RegI.pure 1 [0, 3, 9, 10, 13, 14, 19] [(0, .slice pA0 p0.length pc0), (3, .slice A7 t9.length c8), (9, .int .i64 ((List.replicate (Int.toNat (p0.length : Int)) false).length : Int)), (10, .int .i64 t10), (13, .slice A7 t9.length c8), (14, .int .i64 t10), (19, .bool (!(decide (t45 ≥ 0))))] (by kernel_rfl) ?_
        obtain ⟨hc51, h⟩ := of_cond0 h
        obtain ⟨b52, rfl⟩ := h46.ownSome 1 rfl hc51
        refine RegI.op (by kernel_rfl) (OpE.idxOwn 20 1 24 4 t10 h46 (by kernel_rfl) rfl (by kernel_rfl) (by kernel_rfl) hc51 ?_)
        refine RegI.op (by kernel_rfl) (OpE.storeOwn 1 4 4 t10 0 (.bool (!(decide (t45 ≥ 0)))) (o := (Int.toNat t10) * 1 + 0) (!(decide (t45 ≥ 0))) h46 (by kernel_rfl) (by kernel_rfl) rfl (by kernel_rfl) (by kernel_rfl) (by kernel_rfl) hc51 (fun _ hk => by obtain rfl := hk; exact rfl) ?_)
        intro w53 h54 hk55
        refine RegI.done (by kernel_rfl) ?_
        refine RunsI.go 1 [.c 20, .lp 9, .blk 0, .c 21] (by kernel_rfl) ?_
        refine RunsI.region (by kernel_rfl) ?_
        refine RegI.pure 2 [0, 3, 9, 10] [(0, .slice pA0 p0.length pc0), (3, .slice (some ⟨b52, 0, none⟩) t9.length c8), (9, .int .i64 ((List.replicate (Int.toNat (p0.length : Int)) false).length : Int)), (10, .int .i64 (IntKind.wrap .i64 (t10 + 1)))] (by kernel_rfl) ?_
        refine RegI.done (by kernel_rfl) ?_
        refine RunsI.go 1 [.c 9, .lp 9, .blk 0, .c 21] (by kernel_rfl) ?_
        refine RunsI.only [0, 3, 9, 10] [(0, .slice pA0 p0.length pc0), (3, .slice (some ⟨b52, 0, none⟩) t9.length c8), (9, .int .i64 ((List.replicate (Int.toNat (p0.length : Int)) false).length : Int)), (10, .int .i64 (IntKind.wrap .i64 (t10 + 1)))] (by kernel_rfl) (by kernel_rfl) ?_
        have h56 : Holds M0 w0 w53 [sl (Rp.pair Rp.bool Rp.bool) (.slice pA0 p0.length pc0) p0, own Rp.bool 4 (.slice (some ⟨b52, 0, none⟩) ((stD t9 t10 (!(decide (t45 ≥ 0)))).length) c8) (stD t9 t10 (!(decide (t45 ≥ 0))))] := by have hY : Holds M0 w0 w53 [sl (Rp.pair Rp.bool Rp.bool) (.slice pA0 p0.length pc0) p0, own Rp.bool 4 (.slice (some ⟨b52, 0, none⟩) t9.length c8) (stD t9 t10 (!(decide (t45 ≥ 0))))] := h54; simpa only [stD_length] using hY
        refine RunsI.is [(0, .slice pA0 p0.length pc0), (3, .slice (some ⟨b52, 0, none⟩) ((stD t9 t10 (!(decide (t45 ≥ 0)))).length) c8), (9, .int .i64 ((List.replicate (Int.toNat (p0.length : Int)) false).length : Int)), (10, .int .i64 (IntKind.wrap .i64 (t10 + 1)))] (by simp only [stD_length]) ?_
        refine RunsI.only [0, 3, 9, 10] [(0, .slice pA0 p0.length pc0), (3, .slice (some ⟨b52, 0, none⟩) ((stD t9 t10 (!(decide (t45 ≥ 0)))).length) c8), (9, .int .i64 ((List.replicate (Int.toNat (p0.length : Int)) false).length : Int)), (10, .int .i64 (IntKind.wrap .i64 (t10 + 1)))] (by kernel_rfl) (by kernel_rfl) ?_
        exact ih (stD t9 t10 (!(decide (t45 ≥ 0)))) (IntKind.wrap .i64 (t10 + 1)) (some ⟨b52, 0, none⟩) w53 h (h56.pick [0, 1] (by decide))
      clear hJ49
      refine RunsI.go 1 [.c 1, .c 2] (by kernel_rfl) ?_
      refine RunsI.region (by kernel_rfl) ?_
      refine RegI.pure 1 [0, 1] [(0, .slice A13 ((cutL p0 0 t10).length) c14), (1, .func (.func 47) #[] #[])] (by kernel_rfl) ?_
      refine RegI.done (by kernel_rfl) ?_
      refine RunsI.go 2 [.c 4, .c 5, .c 25] (by kernel_rfl) ?_
      refine RunsI.region (by kernel_rfl) ?_
      refine RegI.pure 3 [0, 1, 7, 8] [(0, .slice A13 ((cutL p0 0 t10).length) c14), (1, .func (.func 47) #[] #[]), (7, .int .i64 ((cutL p0 0 t10).length : Int)), (8, .int .i64 0)] (by kernel_rfl) ?_
      refine RegI.done (by kernel_rfl) ?_
      refine RunsI.go 2 [.c 7, .lp 7, .blk 0, .c 25] (by kernel_rfl) ?_
      obtain ⟨x38, hx39, h⟩ := of_bind h
      refine RunsI.only [0, 1, 7, 8] [(0, .slice A13 ((cutL p0 0 t10).length) c14), (1, .func (.func 47) #[] #[]), (7, .int .i64 ((cutL p0 0 t10).length : Int)), (8, .int .i64 0)] (by kernel_rfl) (by kernel_rfl) ?_
      refine chain_Enabled_12.l0_ok K M0 w0 pA0 pc0 p0 (cutL p0 0 t10) ((cutL p0 0 t10).length : Int) t9 A13 c14 A7 c8 _ x38 ?_ ?_ K 0 w hx39 (h15.pick [2, 0, 1] (by decide))
      · intro w41 hq65 h40
        (try rw [hq65] at h)
        dsimp only [Lp.elim] at h
        refine RunsI.go 1 [.c 26, .c 27] (by kernel_rfl) ?_
        refine RunsI.region (by kernel_rfl) ?_
        refine RegI.pure 1 [4] [(4, .int .i64 (-1))] (by kernel_rfl) ?_
        refine RegI.done (by kernel_rfl) ?_
        refine RunsI.ret (.int .i64 (-1)) (by kernel_rfl) (by kernel_rfl) ?_
        refine cont_mk ?_
        refine RegI.only [7] [(7, .int .i64 (-1))] (by kernel_rfl) (by kernel_rfl) ?_
        exact hj50 (-1) w41 h (h40.pick [0, 1] (by decide))
      · intro t42 w44 hq66 h43
        (try rw [hq66] at h)
        dsimp only [Lp.elim] at h
        refine cont_mk ?_
        refine RegI.only [7] [(7, .int .i64 t42)] (by kernel_rfl) (by kernel_rfl) ?_
        exact hj50 t42 w44 h (h43.pick [0, 1] (by decide))
    · skip
      refine RunsI.fix 11 false hc11 (by kernel_rfl) (by kernel_rfl) ?_
      refine RunsI.cond false 14 (by kernel_rfl) ?_
      refine RunsI.go 1 [.c 21] (by kernel_rfl) ?_
      refine RunsI.only [3] [(3, .slice A7 t9.length c8)] (by kernel_rfl) (by kernel_rfl) ?_
      exact hk0 t9 A7 w (Option.some.inj h).symm (hH.pick [1] (by decide))
def chain_Enabled_12.f (K : Nat) (p0 : List (Bool × Bool)) : Option (List Bool) := cond (makeR (p0.length : Int) 1) ((chain_Enabled_12.l1 K p0 K (List.replicate (Int.toNat (p0.length : Int)) false) 0).bind (fun t62 => some t62)) none
set_option maxRecDepth 100000 in
theorem chain_Enabled_12_ok (K : Nat) (M0 : Nat → Prop) (w0 : World) (pA0 : Option Addr) (pc0 : Nat) (p0 : List (Bool × Bool)) (ho : ∀ b, M0 b → b < w0.heap.size) (hs0 : Sl (Rp.pair Rp.bool Rp.bool) w0 M0 (.slice pA0 p0.length pc0) p0) {r : (List Bool)} (h : chain_Enabled_12.f K p0 = some r) :
    Calls Try.prog 12 #[.slice pA0 p0.length pc0] w0 (chain_Enabled_12.post M0 w0 r) := by
  unfold chain_Enabled_12.f at h
  have h0 : Holds M0 w0 w0 [] := Holds.start ho
  have h00 := h0.addSl (Rp.pair Rp.bool Rp.bool) (.slice pA0 p0.length pc0) p0 (hs0.mono (fun _ _ hm => hm.elim id (fun hm => absurd hm (by simp [mines, sl]))))
  have h0 : Holds M0 w0 w0 [sl (Rp.pair Rp.bool Rp.bool) (.slice pA0 p0.length pc0) p0] := h00
  refine calls_of F12 rfl [.slice pA0 p0.length pc0] (by kernel_rfl) ?_
  refine RunsI.go 1 [.c 1, .c 2] (by kernel_rfl) ?_
  refine RunsI.region (by kernel_rfl) ?_
  refine RegI.pure 1 [0] [(0, .slice pA0 p0.length pc0)] (by kernel_rfl) ?_
  refine RegI.done (by kernel_rfl) ?_
  refine RunsI.go 1 [.c 3, .c 4] (by kernel_rfl) ?_
  refine RunsI.region (by kernel_rfl) ?_
  refine RegI.pure 2 [0, 6] [(0, .slice pA0 p0.length pc0), (6, .int .i64 (p0.length : Int))] (by kernel_rfl) ?_
  obtain ⟨hc1, h⟩ := of_cond0 h
  refine RegI.op (by kernel_rfl) (OpE.makeAll 7 24 4 1 [.bool false] (k := .i64) (k' := .i64) (x := (p0.length : Int)) Rp.bool false h0 (by kernel_rfl) (by kernel_rfl) (by kernel_rfl) (by kernel_rfl) hc1 (fun _ _ => rfl) ?_)
  intro w2 A3 c4 h5 hb6
  refine RegI.pure 1 [0, 3] [(0, .slice pA0 p0.length pc0), (3, .slice A3 ((List.replicate (Int.toNat (p0.length : Int)) false).length) c4)] (by kernel_rfl) ?_
  refine RegI.done (by kernel_rfl) ?_
  refine RunsI.go 2 [.c 6, .c 7, .c 21] (by kernel_rfl) ?_
  refine RunsI.region (by kernel_rfl) ?_
  refine RegI.pure 3 [0, 3, 9, 10] [(0, .slice pA0 p0.length pc0), (3, .slice A3 ((List.replicate (Int.toNat (p0.length : Int)) false).length) c4), (9, .int .i64 ((List.replicate (Int.toNat (p0.length : Int)) false).length : Int)), (10, .int .i64 0)] (by kernel_rfl) ?_
  refine RegI.done (by kernel_rfl) ?_
  refine RunsI.go 2 [.c 9, .lp 9, .blk 0, .c 21] (by kernel_rfl) ?_
  obtain ⟨x59, hx60, h⟩ := of_bind h
  refine RunsI.only [0, 3, 9, 10] [(0, .slice pA0 p0.length pc0), (3, .slice A3 ((List.replicate (Int.toNat (p0.length : Int)) false).length) c4), (9, .int .i64 ((List.replicate (Int.toNat (p0.length : Int)) false).length : Int)), (10, .int .i64 0)] (by kernel_rfl) (by kernel_rfl) ?_
  refine chain_Enabled_12.l1_ok K M0 w0 pA0 pc0 p0 c4 _ x59 ?_ K (List.replicate (Int.toNat (p0.length : Int)) false) 0 A3 w2 hx60 (h5.pick [0, 1] (by decide))
  · intro t62 A61 w64 hq67 h63
    (try rw [hq67] at h)
    refine RunsI.go 1 [.c 22, .c 23] (by kernel_rfl) ?_
    refine RunsI.region (by kernel_rfl) ?_
    refine RegI.pure 2 [2] [(2, .slice A61 t62.length c4)] (by kernel_rfl) ?_
    refine RegI.done (by kernel_rfl) ?_
    refine RunsI.ret (.slice A61 t62.length c4) (by kernel_rfl) (by kernel_rfl) ?_
    obtain rfl := Option.some.inj h
    exact ⟨A61, c4, rfl, h63.pick [0] (by decide)⟩
end

/-! ### charabanc/chain.Grants (function 19) -/
section
def chain_Grants_19.post (M0 : Nat → Prop) (w0 : World) (r : Int) : Ending → World → Prop := fun e w => e = .returned (.int .i64 r) ∧ Below w0.heap.size w0 w
def chain_Grants_19.l0 (K : Nat) (p0 : List (Bool × Bool)) : Nat → Int → Option (Lp Int Unit)
  | 0, _ => none
  | k + 1, t1 => cond (decide (t1 < (p0.length : Int))) (cond (inR t1 p0.length) (cond ((rdD p0 t1).2) (some (Lp.ret (-1))) (cond ((((rdD p0 t1).1) == true) && ((((rdD p0 t1).2) == false) && true)) (some (Lp.ret t1)) (chain_Grants_19.l0 K p0 k (IntKind.wrap .i64 (t1 + 1))))) none) (some (Lp.go ()))
set_option maxRecDepth 100000 in
theorem chain_Grants_19.l0_ok (K : Nat) (M0 : Nat → Prop) (w0 : World) (pA0 : Option Addr) (pc0 : Nat) (p0 : List (Bool × Bool)) (R : Ending → World → Prop) (x : Lp Int Unit) (hk0 : ∀ (w1 : World), x = Lp.go () → Holds M0 w0 w1 [] → RunsI F19 [.c 32] [] w1 R) (hk1 : ∀ (t18 : Int) (w1 : World), x = Lp.ret t18 → Holds M0 w0 w1 [] → R (.returned (.int .i64 t18)) w1) :
    ∀ (k : Nat) (t1 : Int) (w : World), chain_Grants_19.l0 K p0 k t1 = some x → Holds M0 w0 w [sl (Rp.pair Rp.bool Rp.bool) (.slice pA0 p0.length pc0) p0] → RunsI F19 [.c 7, .lp 7, .blk 0, .c 32] [(5, .slice pA0 p0.length pc0), (6, .int .i64 (p0.length : Int)), (7, .int .i64 t1)] w R := by
  intro k
  induction k with
  | zero => intro t1 w h hH; exact absurd h (by simp [chain_Grants_19.l0])
  | succ k ih =>
    intro t1 w h hH
    rw [chain_Grants_19.l0.eq_2] at h
    refine RunsI.go 1 [.c 8, .c 9, .lp 7, .blk 0, .c 32] (by kernel_rfl) ?_
    refine RunsI.region (by kernel_rfl) ?_
    refine RegI.pure 1 [5, 6, 7, 8] [(5, .slice pA0 p0.length pc0), (6, .int .i64 (p0.length : Int)), (7, .int .i64 t1), (8, .bool (decide (t1 < (p0.length : Int))))] (by kernel_rfl) ?_
    refine RegI.done (by kernel_rfl) ?_
    refine RunsI.go 1 [.c 10, .c 13, .lp 7, .blk 0, .c 32] (by kernel_rfl) ?_
    rcases of_cond h with ⟨hc2, h⟩ | ⟨hc2, h⟩
    · skip
      refine RunsI.fix 8 true hc2 (by kernel_rfl) (by kernel_rfl) ?_
      refine RunsI.cond true 11 (by kernel_rfl) ?_
      refine RunsI.go 1 [.c 13, .lp 7, .blk 0, .c 32] (by kernel_rfl) ?_
      refine RunsI.go 3 [.c 16, .c 17, .blk 1, .c 31, .lp 7, .blk 0, .c 32] (by kernel_rfl) ?_
      refine RunsI.region (by kernel_rfl) ?_
      refine RegI.pure 1 [5, 6, 7, 9] [(5, .slice pA0 p0.length pc0), (6, .int .i64 (p0.length : Int)), (7, .int .i64 t1), (9, .int .i64 t1)] (by kernel_rfl) ?_
      obtain ⟨hc3, h⟩ := of_cond0 h
      refine RegI.op (by kernel_rfl) (OpE.idxSl 10 0 22 t1 hH (by kernel_rfl) rfl (by kernel_rfl) (by kernel_rfl) hc3 ?_)
      intro b4 o5 cs6 hk7 h8
      obtain ⟨_, _, rfl, rfl, rfl⟩ := hk7
      refine RegI.op (by kernel_rfl) (OpE.loadCel 11 1 49 b4 o5 0 (.agg #[.bool ((rdD p0 t1).1), .bool ((rdD p0 t1).2)]) h8 (by kernel_rfl) (by kernel_rfl) rfl (by kernel_rfl) ?_)
      refine RegI.op (by kernel_rfl) (OpE.box 4 49 [.bool false, .bool false] h8 (by kernel_rfl) (by kernel_rfl) ?_)
      intro w9 b10 h11 hb12
      refine RegI.pure 1 [3, 4, 5, 6, 7, 11] [(3, .int .i64 t1), (4, .pointer (some ⟨b10, 0, none⟩)), (5, .slice pA0 p0.length pc0), (6, .int .i64 (p0.length : Int)), (7, .int .i64 t1), (11, .agg #[.bool ((rdD p0 t1).1), .bool ((rdD p0 t1).2)])] (by kernel_rfl) ?_
      refine RegI.op (by kernel_rfl) (OpE.storeBox 2 49 b10 0 (.agg #[.bool ((rdD p0 t1).1), .bool ((rdD p0 t1).2)]) [.bool ((rdD p0 t1).1), .bool ((rdD p0 t1).2)] h11 (by kernel_rfl) (by kernel_rfl) rfl (by kernel_rfl) (by kernel_rfl) (by kernel_rfl) ?_)
      intro w13 h14 hk15
      refine RegI.done (by kernel_rfl) ?_
      refine RunsI.go 2 [.c 19, .c 20, .blk 2, .blk 1, .c 31, .lp 7, .blk 0, .c 32] (by kernel_rfl) ?_
      refine RunsI.region (by kernel_rfl) ?_
      refine RegI.pure 1 [3, 4, 5, 6, 7, 13] [(3, .int .i64 t1), (4, .pointer (some ⟨b10, 0, none⟩)), (5, .slice pA0 p0.length pc0), (6, .int .i64 (p0.length : Int)), (7, .int .i64 t1), (13, .pointer (some ⟨b10, 1, none⟩))] (by kernel_rfl) ?_
      refine RegI.op (by kernel_rfl) (OpE.loadBox 14 2 4 b10 1 (.bool ((rdD p0 t1).2)) h14 (by kernel_rfl) (by kernel_rfl) rfl (by kernel_rfl) ?_)
      refine RegI.pure 1 [3, 4, 5, 6, 7, 12] [(3, .int .i64 t1), (4, .pointer (some ⟨b10, 0, none⟩)), (5, .slice pA0 p0.length pc0), (6, .int .i64 (p0.length : Int)), (7, .int .i64 t1), (12, .bool ((rdD p0 t1).2))] (by kernel_rfl) ?_
      refine RegI.done (by kernel_rfl) ?_
      rcases of_cond h with ⟨hc16, h⟩ | ⟨hc16, h⟩
      · skip
        refine RunsI.fix 12 true hc16 (by kernel_rfl) (by kernel_rfl) ?_
        refine RunsI.cond true 21 (by kernel_rfl) ?_
        refine RunsI.go 1 [.c 22, .c 23, .blk 2, .blk 1, .c 31, .lp 7, .blk 0, .c 32] (by kernel_rfl) ?_
        refine RunsI.region (by kernel_rfl) ?_
        refine RegI.pure 1 [2] [(2, .int .i64 (-1))] (by kernel_rfl) ?_
        refine RegI.done (by kernel_rfl) ?_
        refine RunsI.ret (.int .i64 (-1)) (by kernel_rfl) (by kernel_rfl) ?_
        exact hk1 (-1) w13 (Option.some.inj h).symm (h14.pick [] (by decide))
      · skip
        refine RunsI.fix 12 false hc16 (by kernel_rfl) (by kernel_rfl) ?_
        refine RunsI.cond false 24 (by kernel_rfl) ?_
        refine RunsI.go 1 [.c 25, .c 26, .blk 2, .blk 1, .c 31, .lp 7, .blk 0, .c 32] (by kernel_rfl) ?_
        refine RunsI.region (by kernel_rfl) ?_
        refine RegI.op (by kernel_rfl) (OpE.loadBox 16 2 49 b10 0 (.agg #[.bool ((rdD p0 t1).1), .bool ((rdD p0 t1).2)]) h14 (by kernel_rfl) (by kernel_rfl) rfl (by kernel_rfl) ?_)
        refine RegI.pure 1 [3, 5, 6, 7, 16, 17] [(3, .int .i64 t1), (5, .slice pA0 p0.length pc0), (6, .int .i64 (p0.length : Int)), (7, .int .i64 t1), (16, .agg #[.bool ((rdD p0 t1).1), .bool ((rdD p0 t1).2)]), (17, .agg #[.bool true, .bool false])] (by kernel_rfl) ?_
        refine RegI.op (by kernel_rfl) (OpE.run 18 (by kernel_rfl) (run_eqS (neg := false) (t := 49) (x := .agg #[.bool ((rdD p0 t1).1), .bool ((rdD p0 t1).2)]) (y := .agg #[.bool true, .bool false]) (b := ((((rdD p0 t1).1) == true) && ((((rdD p0 t1).2) == false) && true))) (by kernel_rfl) (by kernel_rfl) (by kernel_rfl) (by kernel_rfl)) ?_)
        refine RegI.pure 1 [3, 5, 6, 7, 15] [(3, .int .i64 t1), (5, .slice pA0 p0.length pc0), (6, .int .i64 (p0.length : Int)), (7, .int .i64 t1), (15, .bool ((((rdD p0 t1).1) == true) && ((((rdD p0 t1).2) == false) && true)))] (by kernel_rfl) ?_
        refine RegI.done (by kernel_rfl) ?_
        rcases of_cond h with ⟨hc17, h⟩ | ⟨hc17, h⟩
        · skip
          refine RunsI.fix 15 true hc17 (by kernel_rfl) (by kernel_rfl) ?_
          refine RunsI.cond true 27 (by kernel_rfl) ?_
          refine RunsI.go 1 [.c 28, .c 29, .blk 2, .blk 1, .c 31, .lp 7, .blk 0, .c 32] (by kernel_rfl) ?_
          refine RunsI.region (by kernel_rfl) ?_
          refine RegI.pure 2 [2] [(2, .int .i64 t1)] (by kernel_rfl) ?_
          refine RegI.done (by kernel_rfl) ?_
          refine RunsI.ret (.int .i64 t1) (by kernel_rfl) (by kernel_rfl) ?_
          exact hk1 t1 w13 (Option.some.inj h).symm (h14.pick [] (by decide))
        · skip
          refine RunsI.fix 15 false hc17 (by kernel_rfl) (by kernel_rfl) ?_
          refine RunsI.cond false 30 (by kernel_rfl) ?_
          refine RunsI.go 1 [.blk 2, .blk 1, .c 31, .lp 7, .blk 0, .c 32] (by kernel_rfl) ?_
          refine RunsI.go 2 [.c 31, .lp 7, .blk 0, .c 32] (by kernel_rfl) ?_
          refine RunsI.region (by kernel_rfl) ?_
          refine RegI.pure 2 [5, 6, 7] [(5, .slice pA0 p0.length pc0), (6, .int .i64 (p0.length : Int)), (7, .int .i64 (IntKind.wrap .i64 (t1 + 1)))] (by kernel_rfl) ?_
          refine RegI.done (by kernel_rfl) ?_
          refine RunsI.go 1 [.c 7, .lp 7, .blk 0, .c 32] (by kernel_rfl) ?_
          refine RunsI.only [5, 6, 7] [(5, .slice pA0 p0.length pc0), (6, .int .i64 (p0.length : Int)), (7, .int .i64 (IntKind.wrap .i64 (t1 + 1)))] (by kernel_rfl) (by kernel_rfl) ?_
          exact ih (IntKind.wrap .i64 (t1 + 1)) w13 h (h14.pick [0] (by decide))
    · skip
      refine RunsI.fix 8 false hc2 (by kernel_rfl) (by kernel_rfl) ?_
      refine RunsI.cond false 12 (by kernel_rfl) ?_
      refine RunsI.go 1 [.c 32] (by kernel_rfl) ?_
      refine RunsI.only [] [] (by kernel_rfl) (by kernel_rfl) ?_
      exact hk0 w (Option.some.inj h).symm (hH.pick [] (by decide))
def chain_Grants_19.f (K : Nat) (p0 : List (Bool × Bool)) : Option Int := (chain_Grants_19.l0 K p0 K 0).bind (fun x19 => Lp.elim x19 (fun t23 => some t23) (fun _ => some (-1)))
set_option maxRecDepth 100000 in
theorem chain_Grants_19_ok (K : Nat) (M0 : Nat → Prop) (w0 : World) (pA0 : Option Addr) (pc0 : Nat) (p0 : List (Bool × Bool)) (ho : ∀ b, M0 b → b < w0.heap.size) (hs0 : Sl (Rp.pair Rp.bool Rp.bool) w0 M0 (.slice pA0 p0.length pc0) p0) {r : Int} (h : chain_Grants_19.f K p0 = some r) :
    Calls Try.prog 19 #[.slice pA0 p0.length pc0] w0 (chain_Grants_19.post M0 w0 r) := by
  unfold chain_Grants_19.f at h
  have h0 : Holds M0 w0 w0 [] := Holds.start ho
  have h00 := h0.addSl (Rp.pair Rp.bool Rp.bool) (.slice pA0 p0.length pc0) p0 (hs0.mono (fun _ _ hm => hm.elim id (fun hm => absurd hm (by simp [mines, sl]))))
  have h0 : Holds M0 w0 w0 [sl (Rp.pair Rp.bool Rp.bool) (.slice pA0 p0.length pc0) p0] := h00
  refine calls_of F19 rfl [.slice pA0 p0.length pc0] (by kernel_rfl) ?_
  refine RunsI.go 1 [.c 1, .c 2] (by kernel_rfl) ?_
  refine RunsI.region (by kernel_rfl) ?_
  refine RegI.pure 1 [0] [(0, .slice pA0 p0.length pc0)] (by kernel_rfl) ?_
  refine RegI.done (by kernel_rfl) ?_
  refine RunsI.go 2 [.c 4, .c 5, .c 32] (by kernel_rfl) ?_
  refine RunsI.region (by kernel_rfl) ?_
  refine RegI.pure 3 [5, 6, 7] [(5, .slice pA0 p0.length pc0), (6, .int .i64 (p0.length : Int)), (7, .int .i64 0)] (by kernel_rfl) ?_
  refine RegI.done (by kernel_rfl) ?_
  refine RunsI.go 2 [.c 7, .lp 7, .blk 0, .c 32] (by kernel_rfl) ?_
  obtain ⟨x19, hx20, h⟩ := of_bind h
  refine RunsI.only [5, 6, 7] [(5, .slice pA0 p0.length pc0), (6, .int .i64 (p0.length : Int)), (7, .int .i64 0)] (by kernel_rfl) (by kernel_rfl) ?_
  refine chain_Grants_19.l0_ok K M0 w0 pA0 pc0 p0 _ x19 ?_ ?_ K 0 w0 hx20 (h0.pick [0] (by decide))
  · intro w22 hq26 h21
    (try rw [hq26] at h)
    dsimp only [Lp.elim] at h
    refine RunsI.go 1 [.c 33, .c 34] (by kernel_rfl) ?_
    refine RunsI.region (by kernel_rfl) ?_
    refine RegI.pure 1 [2] [(2, .int .i64 (-1))] (by kernel_rfl) ?_
    refine RegI.done (by kernel_rfl) ?_
    refine RunsI.ret (.int .i64 (-1)) (by kernel_rfl) (by kernel_rfl) ?_
    obtain rfl := Option.some.inj h
    exact ⟨rfl, h21.below⟩
  · intro t23 w25 hq27 h24
    (try rw [hq27] at h)
    dsimp only [Lp.elim] at h
    obtain rfl := Option.some.inj h
    exact ⟨rfl, h24.below⟩
end

/-! ### slices.Clone[[]charabanc/chain.Link,charabanc/chain.Link] (function 48) -/
section
def chain_Link_48.post (M0 : Nat → Prop) (w0 : World) (r : (List (Bool × Bool))) : Ending → World → Prop := fun e w => ∃ (A1 : Option Addr) (c1 : Nat), e = .returned (.slice A1 r.length c1) ∧ Holds M0 w0 w [own (Rp.pair Rp.bool Rp.bool) 49 (.slice A1 r.length c1) r]
def chain_Link_48.f (K : Nat) (p0 : List (Bool × Bool)) : Option (List (Bool × Bool)) := cond (mayBe (([] : List (Bool × Bool)).length + p0.length) 2) (some (([] : List (Bool × Bool)) ++ p0)) none
set_option maxRecDepth 100000 in
theorem chain_Link_48_ok (K : Nat) (M0 : Nat → Prop) (w0 : World) (pA0 : Option Addr) (pc0 : Nat) (p0 : List (Bool × Bool)) (ho : ∀ b, M0 b → b < w0.heap.size) (hs0 : Sl (Rp.pair Rp.bool Rp.bool) w0 M0 (.slice pA0 p0.length pc0) p0) {r : (List (Bool × Bool))} (h : chain_Link_48.f K p0 = some r) :
    Calls Try.prog 48 #[.slice pA0 p0.length pc0] w0 (chain_Link_48.post M0 w0 r) := by
  unfold chain_Link_48.f at h
  have h0 : Holds M0 w0 w0 [] := Holds.start ho
  have h00 := h0.addSl (Rp.pair Rp.bool Rp.bool) (.slice pA0 p0.length pc0) p0 (hs0.mono (fun _ _ hm => hm.elim id (fun hm => absurd hm (by simp [mines, sl]))))
  have h0 : Holds M0 w0 w0 [sl (Rp.pair Rp.bool Rp.bool) (.slice pA0 p0.length pc0) p0] := h00
  refine calls_of F48 rfl [.slice pA0 p0.length pc0] (by kernel_rfl) ?_
  refine RunsI.go 1 [.c 1, .c 2] (by kernel_rfl) ?_
  refine RunsI.region (by kernel_rfl) ?_
  refine RegI.pure 1 [0] [(0, .slice pA0 p0.length pc0)] (by kernel_rfl) ?_
  refine RegI.done (by kernel_rfl) ?_
  refine RunsI.go 2 [.c 4, .c 5, .c 10] (by kernel_rfl) ?_
  refine RunsI.region (by kernel_rfl) ?_
  refine RegI.pure 1 [0, 3] [(0, .slice pA0 p0.length pc0), (3, .slice pA0 p0.length pc0)] (by kernel_rfl) ?_
  rcases pA0 with _ | a1
  · obtain ⟨rfl, rfl⟩ := Sl.nilOf (h0.get 0 rfl)
    have h : (some ([] : List (Bool × Bool))) = some r := by first | exact h | simpa using h
    refine RegI.pure 1 [0, 4] [(0, .slice none (([] : List (Bool × Bool)).length) 0), (4, .bool true)] (by kernel_rfl) ?_
    refine RegI.done (by kernel_rfl) ?_
    refine RunsI.cond true 6 (by kernel_rfl) ?_
    refine RunsI.go 1 [.c 7, .c 8, .c 10] (by kernel_rfl) ?_
    refine RunsI.region (by kernel_rfl) ?_
    refine RegI.pure 1 [2] [(2, .slice none 0 0)] (by kernel_rfl) ?_
    refine RegI.done (by kernel_rfl) ?_
    refine RunsI.ret (.slice none 0 0) (by kernel_rfl) (by kernel_rfl) ?_
    have h13 := h0.addOwnNil (Rp.pair Rp.bool Rp.bool) 49
    obtain rfl := Option.some.inj h
    exact ⟨none, 0, rfl, h13.pick [1] (by decide)⟩
  · skip
    refine RegI.pure 1 [0, 4] [(0, .slice (some a1) p0.length pc0), (4, .bool false)] (by kernel_rfl) ?_
    refine RegI.done (by kernel_rfl) ?_
    refine RunsI.cond false 9 (by kernel_rfl) ?_
    refine RunsI.go 2 [.c 11, .c 12] (by kernel_rfl) ?_
    refine RunsI.region (by kernel_rfl) ?_
    refine RegI.op (by kernel_rfl) (OpE.lit 5 49 [] 0 h0 (by kernel_rfl) (by kernel_rfl) ?_)
    intro w2 b3 h4 hb5
    refine RegI.pure 1 [5, 6] [(5, .slice (some ⟨b3, 0, none⟩) (([] : List (Bool × Bool)).length) 0), (6, .slice (some a1) p0.length pc0)] (by kernel_rfl) ?_
    have h6 := h4.boxOwn 1 rfl (Rp.pair Rp.bool Rp.bool) ([] : List (Bool × Bool)) (rfl) (by decide)
    obtain ⟨hc7, h⟩ := of_cond0 h
    refine RegI.op (by kernel_rfl) (OpE.appendRow 7 1 22 49 2 (ys := p0) h6 (by kernel_rfl) (by kernel_rfl) (by kernel_rfl) rfl (h6.rdSl 0 rfl) hc7 ?_)
    intro w8 A9 c10 h11 hk12
    refine RegI.pure 1 [2] [(2, .slice A9 ((([] : List (Bool × Bool)) ++ p0).length) c10)] (by kernel_rfl) ?_
    refine RegI.done (by kernel_rfl) ?_
    refine RunsI.ret (.slice A9 ((([] : List (Bool × Bool)) ++ p0).length) c10) (by kernel_rfl) (by kernel_rfl) ?_
    obtain rfl := Option.some.inj h
    exact ⟨A9, c10, rfl, h11.pick [1] (by decide)⟩
end

/-! ### charabanc/chain.with (function 49) -/
section
def chain_with_49.post (M0 : Nat → Prop) (w0 : World) (r : (List (Bool × Bool))) : Ending → World → Prop := fun e w => ∃ (A1 : Option Addr) (c1 : Nat), e = .returned (.slice A1 r.length c1) ∧ Holds M0 w0 w [own (Rp.pair Rp.bool Rp.bool) 49 (.slice A1 r.length c1) r]
def chain_with_49.f (K : Nat) (p0 : List (Bool × Bool)) (p1 : Int) (p2_0 : Bool) (p2_1 : Bool) : Option (List (Bool × Bool)) := (chain_Link_48.f K p0).bind fun t9 => cond (inR p1 t9.length) (some (stD t9 p1 (p2_0, p2_1))) none
set_option maxRecDepth 100000 in
theorem chain_with_49_ok (K : Nat) (M0 : Nat → Prop) (w0 : World) (pA0 : Option Addr) (pc0 : Nat) (p0 : List (Bool × Bool)) (p1 : Int) (p2_0 : Bool) (p2_1 : Bool) (ho : ∀ b, M0 b → b < w0.heap.size) (hs0 : Sl (Rp.pair Rp.bool Rp.bool) w0 M0 (.slice pA0 p0.length pc0) p0) {r : (List (Bool × Bool))} (h : chain_with_49.f K p0 p1 p2_0 p2_1 = some r) :
    Calls Try.prog 49 #[.slice pA0 p0.length pc0, .int .i64 p1, .agg #[.bool p2_0, .bool p2_1]] w0 (chain_with_49.post M0 w0 r) := by
  unfold chain_with_49.f at h
  have h0 : Holds M0 w0 w0 [] := Holds.start ho
  have h00 := h0.addSl (Rp.pair Rp.bool Rp.bool) (.slice pA0 p0.length pc0) p0 (hs0.mono (fun _ _ hm => hm.elim id (fun hm => absurd hm (by simp [mines, sl]))))
  have h0 : Holds M0 w0 w0 [sl (Rp.pair Rp.bool Rp.bool) (.slice pA0 p0.length pc0) p0] := h00
  refine calls_of F49 rfl [.slice pA0 p0.length pc0, .int .i64 p1, .agg #[.bool p2_0, .bool p2_1]] (by kernel_rfl) ?_
  refine RunsI.go 1 [.c 1, .c 2] (by kernel_rfl) ?_
  refine RunsI.region (by kernel_rfl) ?_
  refine RegI.op (by kernel_rfl) (OpE.box 5 49 [.bool p2_0, .bool p2_1] h0 (by kernel_rfl) (by kernel_rfl) ?_)
  intro w1 b2 h3 hb4
  refine RegI.pure 1 [0, 1, 5] [(0, .slice pA0 p0.length pc0), (1, .int .i64 p1), (5, .pointer (some ⟨b2, 0, none⟩))] (by kernel_rfl) ?_
  refine RegI.done (by kernel_rfl) ?_
  refine RunsI.go 1 [.c 3, .c 4] (by kernel_rfl) ?_
  refine RunsI.region (by kernel_rfl) ?_
  refine RegI.pure 1 [1, 5, 8] [(1, .int .i64 p1), (5, .pointer (some ⟨b2, 0, none⟩)), (8, .slice pA0 p0.length pc0)] (by kernel_rfl) ?_
  obtain ⟨t9, hg8, h⟩ := of_bind h
  refine RegI.op (by kernel_rfl) (OpE.call 9 (by kernel_rfl) 48 #[.slice pA0 p0.length pc0] (by kernel_rfl) ((chain_Link_48_ok K _ w1  pA0 pc0 p0 h3.old' (h3.get 0 rfl) hg8).mono ?_))
  rintro _ w5 ⟨A10, c11, rfl, hr13⟩
  refine ⟨_, rfl, ?_⟩
  have hb6 := hr13.below
  have h7 := h3.join hr13
  refine RegI.pure 1 [1, 5, 7] [(1, .int .i64 p1), (5, .pointer (some ⟨b2, 0, none⟩)), (7, .slice A10 t9.length c11)] (by kernel_rfl) ?_
  refine RegI.done (by kernel_rfl) ?_
  refine RunsI.go 1 [.c 5, .c 6] (by kernel_rfl) ?_
  refine RunsI.region (by kernel_rfl) ?_
  refine RegI.pure 2 [5, 7, 10, 11] [(5, .pointer (some ⟨b2, 0, none⟩)), (7, .slice A10 t9.length c11), (10, .slice A10 t9.length c11), (11, .int .i64 p1)] (by kernel_rfl) ?_
  refine RegI.op (by kernel_rfl) (OpE.loadBox 12 1 49 b2 0 (.agg #[.bool p2_0, .bool p2_1]) h7 (by kernel_rfl) (by kernel_rfl) rfl (by kernel_rfl) ?_)
  obtain ⟨hc14, h⟩ := of_cond0 h
  obtain ⟨b15, rfl⟩ := h7.ownSome 2 rfl hc14
  refine RegI.op (by kernel_rfl) (OpE.idxOwn 13 2 22 49 p1 h7 (by kernel_rfl) rfl (by kernel_rfl) (by kernel_rfl) hc14 ?_)
  refine RegI.op (by kernel_rfl) (OpE.storeOwn 2 49 49 p1 0 (.agg #[.bool p2_0, .bool p2_1]) (o := (Int.toNat p1) * 2 + 0) (p2_0, p2_1) h7 (by kernel_rfl) (by kernel_rfl) rfl (by kernel_rfl) (by kernel_rfl) (by kernel_rfl) hc14 (fun _ hk => by obtain ⟨_, _, rfl, rfl, rfl⟩ := hk; exact ⟨[_], [_], rfl, rfl, rfl⟩) ?_)
  intro w16 h17 hk18
  refine RegI.done (by kernel_rfl) ?_
  refine RunsI.go 1 [.c 7, .c 8] (by kernel_rfl) ?_
  refine RunsI.region (by kernel_rfl) ?_
  refine RegI.pure 2 [6] [(6, .slice (some ⟨b15, 0, none⟩) t9.length c11)] (by kernel_rfl) ?_
  refine RegI.done (by kernel_rfl) ?_
  refine RunsI.ret (.slice (some ⟨b15, 0, none⟩) t9.length c11) (by kernel_rfl) (by kernel_rfl) ?_
  have h19 : Holds M0 w0 w16 [sl (Rp.pair Rp.bool Rp.bool) (.slice pA0 p0.length pc0) p0, box b2 49 [.bool p2_0, .bool p2_1], own (Rp.pair Rp.bool Rp.bool) 49 (.slice (some ⟨b15, 0, none⟩) ((stD t9 p1 (p2_0, p2_1)).length) c11) (stD t9 p1 (p2_0, p2_1))] := by have hY : Holds M0 w0 w16 [sl (Rp.pair Rp.bool Rp.bool) (.slice pA0 p0.length pc0) p0, box b2 49 [.bool p2_0, .bool p2_1], own (Rp.pair Rp.bool Rp.bool) 49 (.slice (some ⟨b15, 0, none⟩) t9.length c11) (stD t9 p1 (p2_0, p2_1))] := h17; simpa only [stD_length] using hY
  refine R_is (v' := .slice (some ⟨b15, 0, none⟩) ((stD t9 p1 (p2_0, p2_1)).length) c11) (by simp only [stD_length]) ?_
  obtain rfl := Option.some.inj h
  exact ⟨(some ⟨b15, 0, none⟩), c11, rfl, h19.pick [2] (by decide)⟩
end

/-! ### charabanc/chain.Ack (function 15) -/
section
def chain_Ack_15.post (M0 : Nat → Prop) (w0 : World) (r : (List (Bool × Bool)) × Int) : Ending → World → Prop := fun e w => ∃ (A1 : Option Addr) (c1 : Nat), e = .returned (.tuple #[.slice A1 r.1.length c1, .int .i64 r.2]) ∧ Holds M0 w0 w [own (Rp.pair Rp.bool Rp.bool) 49 (.slice A1 r.1.length c1) r.1]
def chain_Ack_15.f (K : Nat) (p0 : List (Bool × Bool)) : Option ((List (Bool × Bool)) × Int) := (chain_Grants_19.f K p0).bind fun t5 => cond (decide (t5 < 0)) ((chain_Link_48.f K p0).bind fun t11 => some (t11, (-1))) ((chain_with_49.f K p0 t5 false true).bind fun t20 => some (t20, t5))
set_option maxRecDepth 100000 in
theorem chain_Ack_15_ok (K : Nat) (M0 : Nat → Prop) (w0 : World) (pA0 : Option Addr) (pc0 : Nat) (p0 : List (Bool × Bool)) (ho : ∀ b, M0 b → b < w0.heap.size) (hs0 : Sl (Rp.pair Rp.bool Rp.bool) w0 M0 (.slice pA0 p0.length pc0) p0) {r : (List (Bool × Bool)) × Int} (h : chain_Ack_15.f K p0 = some r) :
    Calls Try.prog 15 #[.slice pA0 p0.length pc0] w0 (chain_Ack_15.post M0 w0 r) := by
  unfold chain_Ack_15.f at h
  have h0 : Holds M0 w0 w0 [] := Holds.start ho
  have h00 := h0.addSl (Rp.pair Rp.bool Rp.bool) (.slice pA0 p0.length pc0) p0 (hs0.mono (fun _ _ hm => hm.elim id (fun hm => absurd hm (by simp [mines, sl]))))
  have h0 : Holds M0 w0 w0 [sl (Rp.pair Rp.bool Rp.bool) (.slice pA0 p0.length pc0) p0] := h00
  refine calls_of F15 rfl [.slice pA0 p0.length pc0] (by kernel_rfl) ?_
  refine RunsI.go 1 [.c 1, .c 2] (by kernel_rfl) ?_
  refine RunsI.region (by kernel_rfl) ?_
  refine RegI.pure 2 [0] [(0, .slice pA0 p0.length pc0)] (by kernel_rfl) ?_
  refine RegI.done (by kernel_rfl) ?_
  refine RunsI.go 1 [.c 3, .c 4] (by kernel_rfl) ?_
  refine RunsI.region (by kernel_rfl) ?_
  refine RegI.pure 1 [0, 5] [(0, .slice pA0 p0.length pc0), (5, .slice pA0 p0.length pc0)] (by kernel_rfl) ?_
  obtain ⟨t5, hg4, h⟩ := of_bind h
  refine RegI.op (by kernel_rfl) (OpE.call 6 (by kernel_rfl) 19 #[.slice pA0 p0.length pc0] (by kernel_rfl) ((chain_Grants_19_ok K _ w0  pA0 pc0 p0 h0.old' (h0.get 0 rfl) hg4).mono ?_))
  rintro _ w1 ⟨rfl, hb2⟩
  refine ⟨_, rfl, ?_⟩
  have h3 := h0.call hb2
  refine RegI.pure 1 [0, 4] [(0, .slice pA0 p0.length pc0), (4, .int .i64 t5)] (by kernel_rfl) ?_
  refine RegI.done (by kernel_rfl) ?_
  refine RunsI.go 2 [.c 6, .c 7, .c 12] (by kernel_rfl) ?_
  refine RunsI.region (by kernel_rfl) ?_
  refine RegI.pure 2 [0, 4, 8] [(0, .slice pA0 p0.length pc0), (4, .int .i64 t5), (8, .bool (decide (t5 < 0)))] (by kernel_rfl) ?_
  refine RegI.done (by kernel_rfl) ?_
  rcases of_cond h with ⟨hc6, h⟩ | ⟨hc6, h⟩
  · skip
    refine RunsI.fix 8 true hc6 (by kernel_rfl) (by kernel_rfl) ?_
    refine RunsI.cond true 8 (by kernel_rfl) ?_
    refine RunsI.go 1 [.c 9, .c 10, .c 12] (by kernel_rfl) ?_
    refine RunsI.region (by kernel_rfl) ?_
    refine RegI.pure 1 [9] [(9, .slice pA0 p0.length pc0)] (by kernel_rfl) ?_
    obtain ⟨t11, hg10, h⟩ := of_bind h
    refine RegI.op (by kernel_rfl) (OpE.call 10 (by kernel_rfl) 48 #[.slice pA0 p0.length pc0] (by kernel_rfl) ((chain_Link_48_ok K _ w1  pA0 pc0 p0 h3.old' (h3.get 0 rfl) hg10).mono ?_))
    rintro _ w7 ⟨A12, c13, rfl, hr15⟩
    refine ⟨_, rfl, ?_⟩
    have hb8 := hr15.below
    have h9 := h3.join hr15
    refine RegI.pure 2 [2, 3] [(2, .slice A12 t11.length c13), (3, .int .i64 (-1))] (by kernel_rfl) ?_
    refine RegI.done (by kernel_rfl) ?_
    refine RunsI.ret (.tuple #[.slice A12 t11.length c13, .int .i64 (-1)]) (by kernel_rfl) (by kernel_rfl) ?_
    obtain rfl := Option.some.inj h
    exact ⟨A12, c13, rfl, h9.pick [1] (by decide)⟩
  · skip
    refine RunsI.fix 8 false hc6 (by kernel_rfl) (by kernel_rfl) ?_
    refine RunsI.cond false 11 (by kernel_rfl) ?_
    refine RunsI.go 1 [.c 12] (by kernel_rfl) ?_
    refine RunsI.go 1 [.c 13, .c 14] (by kernel_rfl) ?_
    refine RunsI.region (by kernel_rfl) ?_
    refine RegI.pure 3 [4, 11, 12, 13] [(4, .int .i64 t5), (11, .slice pA0 p0.length pc0), (12, .int .i64 t5), (13, .agg #[.bool false, .bool true])] (by kernel_rfl) ?_
    obtain ⟨t20, hg19, h⟩ := of_bind h
    refine RegI.op (by kernel_rfl) (OpE.call 14 (by kernel_rfl) 49 #[.slice pA0 p0.length pc0, .int .i64 t5, .agg #[.bool false, .bool true]] (by kernel_rfl) ((chain_with_49_ok K _ w1  pA0 pc0 p0 t5 false true h3.old' (h3.get 0 rfl) hg19).mono ?_))
    rintro _ w16 ⟨A21, c22, rfl, hr24⟩
    refine ⟨_, rfl, ?_⟩
    have hb17 := hr24.below
    have h18 := h3.join hr24
    refine RegI.pure 3 [2, 3] [(2, .slice A21 t20.length c22), (3, .int .i64 t5)] (by kernel_rfl) ?_
    refine RegI.done (by kernel_rfl) ?_
    refine RunsI.ret (.tuple #[.slice A21 t20.length c22, .int .i64 t5]) (by kernel_rfl) (by kernel_rfl) ?_
    obtain rfl := Option.some.inj h
    exact ⟨A21, c22, rfl, h18.pick [1] (by decide)⟩
end

/-! ### charabanc/chain.Reti$1 (function 52) -/
section
def chain_Reti_1_52.post (M0 : Nat → Prop) (w0 : World) (r : Bool) : Ending → World → Prop := fun e w => e = .returned (.bool r) ∧ Below w0.heap.size w0 w
def chain_Reti_1_52.f (K : Nat) (p0_0 : Bool) (p0_1 : Bool) : Option Bool := some p0_1
set_option maxRecDepth 100000 in
theorem chain_Reti_1_52_ok (K : Nat) (M0 : Nat → Prop) (w0 : World) (p0_0 : Bool) (p0_1 : Bool) (ho : ∀ b, M0 b → b < w0.heap.size) {r : Bool} (h : chain_Reti_1_52.f K p0_0 p0_1 = some r) :
    Calls Try.prog 52 #[.agg #[.bool p0_0, .bool p0_1]] w0 (chain_Reti_1_52.post M0 w0 r) := by
  unfold chain_Reti_1_52.f at h
  have h0 : Holds M0 w0 w0 [] := Holds.start ho
  have h0 : Holds M0 w0 w0 [] := h0
  refine calls_of F52 rfl [.agg #[.bool p0_0, .bool p0_1]] (by kernel_rfl) ?_
  refine RunsI.go 1 [.c 1, .c 2] (by kernel_rfl) ?_
  refine RunsI.region (by kernel_rfl) ?_
  refine RegI.op (by kernel_rfl) (OpE.box 1 49 [.bool p0_0, .bool p0_1] h0 (by kernel_rfl) (by kernel_rfl) ?_)
  intro w1 b2 h3 hb4
  refine RegI.pure 1 [1] [(1, .pointer (some ⟨b2, 0, none⟩))] (by kernel_rfl) ?_
  refine RegI.done (by kernel_rfl) ?_
  refine RunsI.go 1 [.c 3, .c 4] (by kernel_rfl) ?_
  refine RunsI.region (by kernel_rfl) ?_
  refine RegI.pure 1 [3] [(3, .pointer (some ⟨b2, 1, none⟩))] (by kernel_rfl) ?_
  refine RegI.op (by kernel_rfl) (OpE.loadBox 4 0 4 b2 1 (.bool p0_1) h3 (by kernel_rfl) (by kernel_rfl) rfl (by kernel_rfl) ?_)
  refine RegI.pure 1 [2] [(2, .bool p0_1)] (by kernel_rfl) ?_
  refine RegI.done (by kernel_rfl) ?_
  refine RunsI.ret (.bool p0_1) (by kernel_rfl) (by kernel_rfl) ?_
  obtain rfl := Option.some.inj h
  exact ⟨rfl, h3.below⟩
end

/-! ### charabanc/chain.Reti (function 17) -/
section
def chain_Reti_17.post (M0 : Nat → Prop) (w0 : World) (r : (List (Bool × Bool)) × Int) : Ending → World → Prop := fun e w => ∃ (A1 : Option Addr) (c1 : Nat), e = .returned (.tuple #[.slice A1 r.1.length c1, .int .i64 r.2]) ∧ Holds M0 w0 w [own (Rp.pair Rp.bool Rp.bool) 49 (.slice A1 r.1.length c1) r.1]
def chain_Reti_17.l0 (K : Nat) (p0 : List (Bool × Bool)) : Nat → Int → Option (Lp Int Unit)
  | 0, _ => none
  | k + 1, t1 => cond (decide (t1 < (p0.length : Int))) (cond (inR t1 p0.length) ((chain_Reti_1_52.f K ((rdD p0 t1).1) ((rdD p0 t1).2)).bind fun t13 => cond t13 (some (Lp.ret t1)) (chain_Reti_17.l0 K p0 k (IntKind.wrap .i64 (t1 + 1)))) none) (some (Lp.go ()))
set_option maxRecDepth 100000 in
theorem chain_Reti_17.l0_ok (K : Nat) (M0 : Nat → Prop) (w0 : World) (pA0 : Option Addr) (pc0 : Nat) (p0 : List (Bool × Bool)) (R : Ending → World → Prop) (x : Lp Int Unit) (hk0 : ∀ (w1 : World), x = Lp.go () → Holds M0 w0 w1 [sl (Rp.pair Rp.bool Rp.bool) (.slice pA0 p0.length pc0) p0] → RunsI F51 [.c 25] [] w1 R) (hk1 : ∀ (t15 : Int) (w1 : World), x = Lp.ret t15 → Holds M0 w0 w1 [sl (Rp.pair Rp.bool Rp.bool) (.slice pA0 p0.length pc0) p0] → R (.returned (.int .i64 t15)) w1) :
    ∀ (k : Nat) (t1 : Int) (w : World), chain_Reti_17.l0 K p0 k t1 = some x → Holds M0 w0 w [sl (Rp.pair Rp.bool Rp.bool) (.slice pA0 p0.length pc0) p0] → RunsI F51 [.c 7, .lp 7, .blk 0, .c 25] [(0, .slice pA0 p0.length pc0), (1, .func (.func 52) #[] #[]), (7, .int .i64 (p0.length : Int)), (8, .int .i64 t1)] w R := by
  intro k
  induction k with
  | zero => intro t1 w h hH; exact absurd h (by simp [chain_Reti_17.l0])
  | succ k ih =>
    intro t1 w h hH
    rw [chain_Reti_17.l0.eq_2] at h
    refine RunsI.go 1 [.c 8, .c 9, .lp 7, .blk 0, .c 25] (by kernel_rfl) ?_
    refine RunsI.region (by kernel_rfl) ?_
    refine RegI.pure 1 [0, 1, 7, 8, 9] [(0, .slice pA0 p0.length pc0), (1, .func (.func 52) #[] #[]), (7, .int .i64 (p0.length : Int)), (8, .int .i64 t1), (9, .bool (decide (t1 < (p0.length : Int))))] (by kernel_rfl) ?_
    refine RegI.done (by kernel_rfl) ?_
    refine RunsI.go 1 [.c 10, .c 13, .lp 7, .blk 0, .c 25] (by kernel_rfl) ?_
    rcases of_cond h with ⟨hc2, h⟩ | ⟨hc2, h⟩
    · skip
      refine RunsI.fix 9 true hc2 (by kernel_rfl) (by kernel_rfl) ?_
      refine RunsI.cond true 11 (by kernel_rfl) ?_
      refine RunsI.go 1 [.c 13, .lp 7, .blk 0, .c 25] (by kernel_rfl) ?_
      refine RunsI.go 3 [.c 16, .c 17, .blk 1, .c 24, .lp 7, .blk 0, .c 25] (by kernel_rfl) ?_
      refine RunsI.region (by kernel_rfl) ?_
      refine RegI.pure 2 [0, 1, 5, 7, 8] [(0, .slice pA0 p0.length pc0), (1, .func (.func 52) #[] #[]), (5, .int .i64 t1), (7, .int .i64 (p0.length : Int)), (8, .int .i64 t1)] (by kernel_rfl) ?_
      refine RegI.done (by kernel_rfl) ?_
      refine RunsI.go 1 [.c 18, .c 19, .blk 1, .c 24, .lp 7, .blk 0, .c 25] (by kernel_rfl) ?_
      refine RunsI.region (by kernel_rfl) ?_
      refine RegI.pure 3 [0, 1, 5, 7, 8, 11, 12, 13] [(0, .slice pA0 p0.length pc0), (1, .func (.func 52) #[] #[]), (5, .int .i64 t1), (7, .int .i64 (p0.length : Int)), (8, .int .i64 t1), (11, .func (.func 52) #[] #[]), (12, .slice pA0 p0.length pc0), (13, .int .i64 t1)] (by kernel_rfl) ?_
      obtain ⟨hc3, h⟩ := of_cond0 h
      refine RegI.op (by kernel_rfl) (OpE.idxSl 14 0 22 t1 hH (by kernel_rfl) rfl (by kernel_rfl) (by kernel_rfl) hc3 ?_)
      intro b4 o5 cs6 hk7 h8
      obtain ⟨_, _, rfl, rfl, rfl⟩ := hk7
      refine RegI.op (by kernel_rfl) (OpE.loadCel 15 1 49 b4 o5 0 (.agg #[.bool ((rdD p0 t1).1), .bool ((rdD p0 t1).2)]) h8 (by kernel_rfl) (by kernel_rfl) rfl (by kernel_rfl) ?_)
      obtain ⟨t13, hg12, h⟩ := of_bind h
      refine RegI.op (by kernel_rfl) (OpE.call 16 (by kernel_rfl) 52 #[.agg #[.bool ((rdD p0 t1).1), .bool ((rdD p0 t1).2)]] (by kernel_rfl) ((chain_Reti_1_52_ok K _ w  ((rdD p0 t1).1) ((rdD p0 t1).2) h8.old' hg12).mono ?_))
      rintro _ w9 ⟨rfl, hb10⟩
      refine ⟨_, rfl, ?_⟩
      have h11 := h8.call hb10
      refine RegI.done (by kernel_rfl) ?_
      rcases of_cond h with ⟨hc14, h⟩ | ⟨hc14, h⟩
      · skip
        refine RunsI.fix 16 true hc14 (by kernel_rfl) (by kernel_rfl) ?_
        refine RunsI.cond true 20 (by kernel_rfl) ?_
        refine RunsI.go 1 [.c 21, .c 22, .blk 1, .c 24, .lp 7, .blk 0, .c 25] (by kernel_rfl) ?_
        refine RunsI.region (by kernel_rfl) ?_
        refine RegI.pure 2 [4] [(4, .int .i64 t1)] (by kernel_rfl) ?_
        refine RegI.done (by kernel_rfl) ?_
        refine RunsI.ret (.int .i64 t1) (by kernel_rfl) (by kernel_rfl) ?_
        exact hk1 t1 w9 (Option.some.inj h).symm (h11.pick [0] (by decide))
      · skip
        refine RunsI.fix 16 false hc14 (by kernel_rfl) (by kernel_rfl) ?_
        refine RunsI.cond false 23 (by kernel_rfl) ?_
        refine RunsI.go 1 [.blk 1, .c 24, .lp 7, .blk 0, .c 25] (by kernel_rfl) ?_
        refine RunsI.go 1 [.c 24, .lp 7, .blk 0, .c 25] (by kernel_rfl) ?_
        refine RunsI.region (by kernel_rfl) ?_
        refine RegI.pure 2 [0, 1, 7, 8] [(0, .slice pA0 p0.length pc0), (1, .func (.func 52) #[] #[]), (7, .int .i64 (p0.length : Int)), (8, .int .i64 (IntKind.wrap .i64 (t1 + 1)))] (by kernel_rfl) ?_
        refine RegI.done (by kernel_rfl) ?_
        refine RunsI.go 1 [.c 7, .lp 7, .blk 0, .c 25] (by kernel_rfl) ?_
        refine RunsI.only [0, 1, 7, 8] [(0, .slice pA0 p0.length pc0), (1, .func (.func 52) #[] #[]), (7, .int .i64 (p0.length : Int)), (8, .int .i64 (IntKind.wrap .i64 (t1 + 1)))] (by kernel_rfl) (by kernel_rfl) ?_
        exact ih (IntKind.wrap .i64 (t1 + 1)) w9 h (h11.pick [0] (by decide))
    · skip
      refine RunsI.fix 9 false hc2 (by kernel_rfl) (by kernel_rfl) ?_
      refine RunsI.cond false 12 (by kernel_rfl) ?_
      refine RunsI.go 1 [.c 25] (by kernel_rfl) ?_
      refine RunsI.only [] [] (by kernel_rfl) (by kernel_rfl) ?_
      exact hk0 w (Option.some.inj h).symm (hH.pick [0] (by decide))
def chain_Reti_17.f (K : Nat) (p0 : List (Bool × Bool)) : Option ((List (Bool × Bool)) × Int) := Let (fun (t23 : Int) => cond (decide (t23 < 0)) ((chain_Link_48.f K p0).bind fun t34 => some (t34, (-1))) (cond (inR t23 p0.length) ((chain_with_49.f K p0 t23 ((rdD p0 t23).1) false).bind fun t49 => some (t49, t23)) none)) (fun j26 => (chain_Reti_17.l0 K p0 K 0).bind (fun x16 => Lp.elim x16 (fun t20 => j26 t20) (fun _ => j26 (-1))))
set_option maxRecDepth 100000 in
theorem chain_Reti_17_ok (K : Nat) (M0 : Nat → Prop) (w0 : World) (pA0 : Option Addr) (pc0 : Nat) (p0 : List (Bool × Bool)) (ho : ∀ b, M0 b → b < w0.heap.size) (hs0 : Sl (Rp.pair Rp.bool Rp.bool) w0 M0 (.slice pA0 p0.length pc0) p0) {r : (List (Bool × Bool)) × Int} (h : chain_Reti_17.f K p0 = some r) :
    Calls Try.prog 17 #[.slice pA0 p0.length pc0] w0 (chain_Reti_17.post M0 w0 r) := by
  unfold chain_Reti_17.f at h
  have h0 : Holds M0 w0 w0 [] := Holds.start ho
  have h00 := h0.addSl (Rp.pair Rp.bool Rp.bool) (.slice pA0 p0.length pc0) p0 (hs0.mono (fun _ _ hm => hm.elim id (fun hm => absurd hm (by simp [mines, sl]))))
  have h0 : Holds M0 w0 w0 [sl (Rp.pair Rp.bool Rp.bool) (.slice pA0 p0.length pc0) p0] := h00
  refine calls_of F17 rfl [.slice pA0 p0.length pc0] (by kernel_rfl) ?_
  refine RunsI.go 1 [.c 1, .c 2] (by kernel_rfl) ?_
  refine RunsI.region (by kernel_rfl) ?_
  refine RegI.pure 2 [0] [(0, .slice pA0 p0.length pc0)] (by kernel_rfl) ?_
  refine RegI.done (by kernel_rfl) ?_
  refine RunsI.go 1 [.c 3, .c 4] (by kernel_rfl) ?_
  refine RunsI.region (by kernel_rfl) ?_
  refine RegI.pure 1 [0, 5] [(0, .slice pA0 p0.length pc0), (5, .slice pA0 p0.length pc0)] (by kernel_rfl) ?_
  refine RegI.enter 6 [0] [(0, .slice pA0 p0.length pc0)] (by kernel_rfl) (by kernel_rfl) (by kernel_rfl) (by kernel_rfl) F51 51 rfl [.slice pA0 p0.length pc0, .func (.func 52) #[] #[]] (by kernel_rfl) (by kernel_rfl) ?_
  obtain ⟨j26, hJ27, h⟩ := of_let h
  have hj28 : ∀ (t23 : Int) (w25 : World), j26 t23 = some r → Holds M0 w0 w25 [sl (Rp.pair Rp.bool Rp.bool) (.slice pA0 p0.length pc0) p0] → RegI F17 3 [.c 4] 2 [(0, .slice pA0 p0.length pc0), (6, .int .i64 t23)] w25 (chain_Reti_17.post M0 w0 r) := by
    intro t23 w25 h h24
    rw [hJ27] at h
    clear hJ27
    dsimp only at h
    refine RegI.pure 1 [0, 4] [(0, .slice pA0 p0.length pc0), (4, .int .i64 t23)] (by kernel_rfl) ?_
    refine RegI.done (by kernel_rfl) ?_
    refine RunsI.go 2 [.c 6, .c 7, .c 12] (by kernel_rfl) ?_
    refine RunsI.region (by kernel_rfl) ?_
    refine RegI.pure 2 [0, 4, 8] [(0, .slice pA0 p0.length pc0), (4, .int .i64 t23), (8, .bool (decide (t23 < 0)))] (by kernel_rfl) ?_
    refine RegI.done (by kernel_rfl) ?_
    rcases of_cond h with ⟨hc29, h⟩ | ⟨hc29, h⟩
    · skip
      refine RunsI.fix 8 true hc29 (by kernel_rfl) (by kernel_rfl) ?_
      refine RunsI.cond true 8 (by kernel_rfl) ?_
      refine RunsI.go 1 [.c 9, .c 10, .c 12] (by kernel_rfl) ?_
      refine RunsI.region (by kernel_rfl) ?_
      refine RegI.pure 1 [9] [(9, .slice pA0 p0.length pc0)] (by kernel_rfl) ?_
      obtain ⟨t34, hg33, h⟩ := of_bind h
      refine RegI.op (by kernel_rfl) (OpE.call 10 (by kernel_rfl) 48 #[.slice pA0 p0.length pc0] (by kernel_rfl) ((chain_Link_48_ok K _ w25  pA0 pc0 p0 h24.old' (h24.get 0 rfl) hg33).mono ?_))
      rintro _ w30 ⟨A35, c36, rfl, hr38⟩
      refine ⟨_, rfl, ?_⟩
      have hb31 := hr38.below
      have h32 := h24.join hr38
      refine RegI.pure 2 [2, 3] [(2, .slice A35 t34.length c36), (3, .int .i64 (-1))] (by kernel_rfl) ?_
      refine RegI.done (by kernel_rfl) ?_
      refine RunsI.ret (.tuple #[.slice A35 t34.length c36, .int .i64 (-1)]) (by kernel_rfl) (by kernel_rfl) ?_
      obtain rfl := Option.some.inj h
      exact ⟨A35, c36, rfl, h32.pick [1] (by decide)⟩
    · skip
      refine RunsI.fix 8 false hc29 (by kernel_rfl) (by kernel_rfl) ?_
      refine RunsI.cond false 11 (by kernel_rfl) ?_
      refine RunsI.go 1 [.c 12] (by kernel_rfl) ?_
      refine RunsI.go 1 [.c 13, .c 14] (by kernel_rfl) ?_
      refine RunsI.region (by kernel_rfl) ?_
      refine RegI.pure 4 [4, 11, 12, 13, 14] [(4, .int .i64 t23), (11, .slice pA0 p0.length pc0), (12, .int .i64 t23), (13, .slice pA0 p0.length pc0), (14, .int .i64 t23)] (by kernel_rfl) ?_
      obtain ⟨hc39, h⟩ := of_cond0 h
      refine RegI.op (by kernel_rfl) (OpE.idxSl 15 0 22 t23 h24 (by kernel_rfl) rfl (by kernel_rfl) (by kernel_rfl) hc39 ?_)
      intro b40 o41 cs42 hk43 h44
      obtain ⟨_, _, rfl, rfl, rfl⟩ := hk43
      refine RegI.pure 1 [4, 11, 12, 16] [(4, .int .i64 t23), (11, .slice pA0 p0.length pc0), (12, .int .i64 t23), (16, .pointer (some ⟨b40, o41, none⟩))] (by kernel_rfl) ?_
      refine RegI.op (by kernel_rfl) (OpE.loadCel 17 1 4 b40 o41 0 (.bool ((rdD p0 t23).1)) h44 (by kernel_rfl) (by kernel_rfl) rfl (by kernel_rfl) ?_)
      refine RegI.pure 1 [4, 11, 12, 18] [(4, .int .i64 t23), (11, .slice pA0 p0.length pc0), (12, .int .i64 t23), (18, .agg #[.bool ((rdD p0 t23).1), .bool false])] (by kernel_rfl) ?_
      obtain ⟨t49, hg48, h⟩ := of_bind h
      refine RegI.op (by kernel_rfl) (OpE.call 19 (by kernel_rfl) 49 #[.slice pA0 p0.length pc0, .int .i64 t23, .agg #[.bool ((rdD p0 t23).1), .bool false]] (by kernel_rfl) ((chain_with_49_ok K _ w25  pA0 pc0 p0 t23 ((rdD p0 t23).1) false h44.old' (h44.get 0 rfl) hg48).mono ?_))
      rintro _ w45 ⟨A50, c51, rfl, hr53⟩
      refine ⟨_, rfl, ?_⟩
      have hb46 := hr53.below
      have h47 := h44.join hr53
      refine RegI.pure 3 [2, 3] [(2, .slice A50 t49.length c51), (3, .int .i64 t23)] (by kernel_rfl) ?_
      refine RegI.done (by kernel_rfl) ?_
      refine RunsI.ret (.tuple #[.slice A50 t49.length c51, .int .i64 t23]) (by kernel_rfl) (by kernel_rfl) ?_
      obtain rfl := Option.some.inj h
      exact ⟨A50, c51, rfl, h47.pick [2] (by decide)⟩
  clear hJ27
  refine RunsI.go 1 [.c 1, .c 2] (by kernel_rfl) ?_
  refine RunsI.region (by kernel_rfl) ?_
  refine RegI.pure 1 [0, 1] [(0, .slice pA0 p0.length pc0), (1, .func (.func 52) #[] #[])] (by kernel_rfl) ?_
  refine RegI.done (by kernel_rfl) ?_
  refine RunsI.go 2 [.c 4, .c 5, .c 25] (by kernel_rfl) ?_
  refine RunsI.region (by kernel_rfl) ?_
  refine RegI.pure 3 [0, 1, 7, 8] [(0, .slice pA0 p0.length pc0), (1, .func (.func 52) #[] #[]), (7, .int .i64 (p0.length : Int)), (8, .int .i64 0)] (by kernel_rfl) ?_
  refine RegI.done (by kernel_rfl) ?_
  refine RunsI.go 2 [.c 7, .lp 7, .blk 0, .c 25] (by kernel_rfl) ?_
  obtain ⟨x16, hx17, h⟩ := of_bind h
  refine RunsI.only [0, 1, 7, 8] [(0, .slice pA0 p0.length pc0), (1, .func (.func 52) #[] #[]), (7, .int .i64 (p0.length : Int)), (8, .int .i64 0)] (by kernel_rfl) (by kernel_rfl) ?_
  refine chain_Reti_17.l0_ok K M0 w0 pA0 pc0 p0 _ x16 ?_ ?_ K 0 w0 hx17 (h0.pick [0] (by decide))
  · intro w19 hq54 h18
    (try rw [hq54] at h)
    dsimp only [Lp.elim] at h
    refine RunsI.go 1 [.c 26, .c 27] (by kernel_rfl) ?_
    refine RunsI.region (by kernel_rfl) ?_
    refine RegI.pure 1 [4] [(4, .int .i64 (-1))] (by kernel_rfl) ?_
    refine RegI.done (by kernel_rfl) ?_
    refine RunsI.ret (.int .i64 (-1)) (by kernel_rfl) (by kernel_rfl) ?_
    refine cont_mk ?_
    refine RegI.only [0, 6] [(0, .slice pA0 p0.length pc0), (6, .int .i64 (-1))] (by kernel_rfl) (by kernel_rfl) ?_
    exact hj28 (-1) w19 h (h18.pick [0] (by decide))
  · intro t20 w22 hq55 h21
    (try rw [hq55] at h)
    dsimp only [Lp.elim] at h
    refine cont_mk ?_
    refine RegI.only [0, 6] [(0, .slice pA0 p0.length pc0), (6, .int .i64 t20)] (by kernel_rfl) (by kernel_rfl) ?_
    exact hj28 t20 w22 h (h21.pick [0] (by decide))
end

/-! ### charabanc/chain.Play (function 22) -/
section
def chain_Play_22.post (M0 : Nat → Prop) (w0 : World) (r : (List (Bool × Bool)) × (List Int)) : Ending → World → Prop := fun e w => ∃ (A1 : Option Addr) (c1 : Nat) (A2 : Option Addr) (c2 : Nat), e = .returned (.tuple #[.slice A1 r.1.length c1, .slice A2 r.2.length c2]) ∧ Holds M0 w0 w [own (Rp.pair Rp.bool Rp.bool) 49 (.slice A1 r.1.length c1) r.1, own (Rp.int .i64) 3 (.slice A2 r.2.length c2) r.2]
def chain_Play_22.l0 (K : Nat) (p0 : List (Bool × Bool)) (p1 : List Int) : Nat → (List (Bool × Bool)) → (List Int) → Int → Option ((List (Bool × Bool)) × (List Int))
  | 0, _, _, _ => none
  | k + 1, t13, t16, t17 => cond (decide (t17 < (p1.length : Int))) (cond (inR t17 p1.length) (Let (fun (t26 : Bool) => cond t26 (cond (inR (rdD p1 t17) t13.length) (cond (mayBe (t16.length + [(rdD p1 t17)].length) 8) (chain_Play_22.l0 K p0 p1 k (stD t13 (rdD p1 t17) (true, (rdD t13 (rdD p1 t17)).2)) (t16 ++ [(rdD p1 t17)]) (IntKind.wrap .i64 (t17 + 1))) none) none) (cond (decide ((rdD p1 t17) ≥ 0)) (cond (mayBe (t16.length + [(-1)].length) 8) (chain_Play_22.l0 K p0 p1 k t13 (t16 ++ [(-1)]) (IntKind.wrap .i64 (t17 + 1))) none) (cond ((rdD p1 t17) == (-1)) ((chain_Ack_15.f K t13).bind fun yt44 => cond (mayBe (t16.length + [yt44.2].length) 8) (chain_Play_22.l0 K p0 p1 k yt44.1 (t16 ++ [yt44.2]) (IntKind.wrap .i64 (t17 + 1))) none) ((chain_Reti_17.f K t13).bind fun yt54 => cond (mayBe (t16.length + [yt54.2].length) 8) (chain_Play_22.l0 K p0 p1 k yt54.1 (t16 ++ [yt54.2]) (IntKind.wrap .i64 (t17 + 1))) none)))) (fun j29 => cond (decide ((rdD p1 t17) ≥ 0)) (j29 (decide ((rdD p1 t17) < (t13.length : Int)))) (j29 false))) none) (some (t13, t16))
set_option maxRecDepth 100000 in
theorem chain_Play_22.l0_ok (K : Nat) (M0 : Nat → Prop) (w0 : World) (pA0 : Option Addr) (pc0 : Nat) (pA1 : Option Addr) (pc1 : Nat) (p0 : List (Bool × Bool)) (p1 : List Int) (R : Ending → World → Prop) (x : (List (Bool × Bool)) × (List Int)) (hk0 : ∀ (t103 : List (Bool × Bool)) (t106 : List Int) (A101 : Option Addr) (c102 : Nat) (A104 : Option Addr) (c105 : Nat) (w1 : World), x = (t103, t106) → Holds M0 w0 w1 [own (Rp.pair Rp.bool Rp.bool) 49 (.slice A101 t103.length c102) t103, own (Rp.int .i64) 3 (.slice A104 t106.length c105) t106] → RunsI F22 [.c 40] [(0, .slice A101 t103.length c102), (6, .slice A104 t106.length c105)] w1 R) :
    ∀ (k : Nat) (t13 : List (Bool × Bool)) (t16 : List Int) (t17 : Int) (A11 : Option Addr) (c12 : Nat) (A14 : Option Addr) (c15 : Nat) (w : World), chain_Play_22.l0 K p0 p1 k t13 t16 t17 = some x → Holds M0 w0 w [own (Rp.pair Rp.bool Rp.bool) 49 (.slice A11 t13.length c12) t13, own (Rp.int .i64) 3 (.slice A14 t16.length c15) t16, sl (Rp.int .i64) (.slice pA1 p1.length pc1) p1] → RunsI F22 [.c 11, .lp 11, .blk 0, .c 40] [(0, .slice A11 t13.length c12), (6, .slice A14 t16.length c15), (12, .slice pA1 p1.length pc1), (13, .int .i64 (p1.length : Int)), (14, .int .i64 t17)] w R := by
  intro k
  induction k with
  | zero => intro t13 t16 t17 A11 c12 A14 c15 w h hH; exact absurd h (by simp [chain_Play_22.l0])
  | succ k ih =>
    intro t13 t16 t17 A11 c12 A14 c15 w h hH
    rw [chain_Play_22.l0.eq_2] at h
    refine RunsI.go 1 [.c 12, .c 13, .lp 11, .blk 0, .c 40] (by kernel_rfl) ?_
    refine RunsI.region (by kernel_rfl) ?_
    refine RegI.pure 1 [0, 6, 12, 13, 14, 15] [(0, .slice A11 t13.length c12), (6, .slice A14 t16.length c15), (12, .slice pA1 p1.length pc1), (13, .int .i64 (p1.length : Int)), (14, .int .i64 t17), (15, .bool (decide (t17 < (p1.length : Int))))] (by kernel_rfl) ?_
    refine RegI.done (by kernel_rfl) ?_
    refine RunsI.go 1 [.c 14, .c 17, .lp 11, .blk 0, .c 40] (by kernel_rfl) ?_
    rcases of_cond h with ⟨hc18, h⟩ | ⟨hc18, h⟩
    · skip
      refine RunsI.fix 15 true hc18 (by kernel_rfl) (by kernel_rfl) ?_
      refine RunsI.cond true 15 (by kernel_rfl) ?_
      refine RunsI.go 1 [.c 17, .lp 11, .blk 0, .c 40] (by kernel_rfl) ?_
      refine RunsI.go 3 [.c 20, .c 21, .blk 1, .c 39, .lp 11, .blk 0, .c 40] (by kernel_rfl) ?_
      refine RunsI.region (by kernel_rfl) ?_
      obtain ⟨hc19, h⟩ := of_cond0 h
      refine RegI.op (by kernel_rfl) (OpE.idxSl 16 2 37 t17 hH (by kernel_rfl) rfl (by kernel_rfl) (by kernel_rfl) hc19 ?_)
      intro b20 o21 cs22 hk23 h24
      obtain rfl := hk23
      refine RegI.op (by kernel_rfl) (OpE.loadCel 17 3 3 b20 o21 0 (.int .i64 (rdD p1 t17)) h24 (by kernel_rfl) (by kernel_rfl) rfl (by kernel_rfl) ?_)
      refine RegI.pure 1 [0, 6, 8, 12, 13, 14] [(0, .slice A11 t13.length c12), (6, .slice A14 t16.length c15), (8, .int .i64 (rdD p1 t17)), (12, .slice pA1 p1.length pc1), (13, .int .i64 (p1.length : Int)), (14, .int .i64 t17)] (by kernel_rfl) ?_
      refine RegI.done (by kernel_rfl) ?_
      refine RunsI.go 1 [.c 22, .c 23, .blk 1, .c 39, .lp 11, .blk 0, .c 40] (by kernel_rfl) ?_
      refine RunsI.region (by kernel_rfl) ?_
      refine RegI.pure 1 [0, 6, 8, 9, 12, 13, 14] [(0, .slice A11 t13.length c12), (6, .slice A14 t16.length c15), (8, .int .i64 (rdD p1 t17)), (9, .int .i64 (-1)), (12, .slice pA1 p1.length pc1), (13, .int .i64 (p1.length : Int)), (14, .int .i64 t17)] (by kernel_rfl) ?_
      refine RegI.done (by kernel_rfl) ?_
      refine RunsI.go 3 [.c 26, .c 27, .blk 2, .c 38, .blk 1, .c 39, .lp 11, .blk 0, .c 40] (by kernel_rfl) ?_
      refine RunsI.region (by kernel_rfl) ?_
      refine RegI.pure 3 [0, 6, 8, 9, 12, 13, 14, 26] [(0, .slice A11 t13.length c12), (6, .slice A14 t16.length c15), (8, .int .i64 (rdD p1 t17)), (9, .int .i64 (-1)), (12, .slice pA1 p1.length pc1), (13, .int .i64 (p1.length : Int)), (14, .int .i64 t17), (26, .bool (decide ((rdD p1 t17) ≥ 0)))] (by kernel_rfl) ?_
      obtain ⟨j29, hJ30, h⟩ := of_let h
      have hj31 : ∀ (t26 : Bool) (w28 : World), j29 t26 = some x → Holds M0 w0 w28 [own (Rp.pair Rp.bool Rp.bool) 49 (.slice A11 t13.length c12) t13, own (Rp.int .i64) 3 (.slice A14 t16.length c15) t16, sl (Rp.int .i64) (.slice pA1 p1.length pc1) p1] → RegI F22 26 [.c 27, .blk 2, .c 38, .blk 1, .c 39, .lp 11, .blk 0, .c 40] 9 [(0, .slice A11 t13.length c12), (6, .slice A14 t16.length c15), (8, .int .i64 (rdD p1 t17)), (9, .int .i64 (-1)), (12, .slice pA1 p1.length pc1), (13, .int .i64 (p1.length : Int)), (14, .int .i64 t17), (23, .bool t26)] w28 R := by
        intro t26 w28 h h27
        rw [hJ30] at h
        clear hJ30
        dsimp only at h
        refine RegI.done (by kernel_rfl) ?_
        rcases of_cond h with ⟨hc32, h⟩ | ⟨hc32, h⟩
        · skip
          refine RunsI.fix 23 true hc32 (by kernel_rfl) (by kernel_rfl) ?_
          refine RunsI.cond true 28 (by kernel_rfl) ?_
          refine RunsI.region (by kernel_rfl) ?_
          refine RegI.pure 3 [0, 6, 12, 13, 14, 32, 33, 34] [(0, .slice A11 t13.length c12), (6, .slice A14 t16.length c15), (12, .slice pA1 p1.length pc1), (13, .int .i64 (p1.length : Int)), (14, .int .i64 t17), (32, .slice A11 t13.length c12), (33, .int .i64 (rdD p1 t17)), (34, .int .i64 (rdD p1 t17))] (by kernel_rfl) ?_
          obtain ⟨hc33, h⟩ := of_cond0 h
          obtain ⟨b34, rfl⟩ := h27.ownSome 0 rfl hc33
          refine RegI.op (by kernel_rfl) (OpE.idxOwn 35 0 22 49 (rdD p1 t17) h27 (by kernel_rfl) rfl (by kernel_rfl) (by kernel_rfl) hc33 ?_)
          refine RegI.pure 1 [0, 6, 12, 13, 14, 34, 36] [(0, .slice (some ⟨b34, 0, none⟩) t13.length c12), (6, .slice A14 t16.length c15), (12, .slice pA1 p1.length pc1), (13, .int .i64 (p1.length : Int)), (14, .int .i64 t17), (34, .int .i64 (rdD p1 t17)), (36, .pointer (some ⟨b34, (Int.toNat (rdD p1 t17)) * 2, none⟩))] (by kernel_rfl) ?_
          refine RegI.op (by kernel_rfl) (OpE.storeOwn 0 4 49 (rdD p1 t17) 0 (.bool true) (o := (Int.toNat (rdD p1 t17)) * 2 + 0) (true, (rdD t13 (rdD p1 t17)).2) h27 (by kernel_rfl) (by kernel_rfl) rfl (by kernel_rfl) (by kernel_rfl) (by kernel_rfl) hc33 (fun _ hk => by obtain ⟨_, _, rfl, rfl, rfl⟩ := hk; exact ⟨[_], [_], rfl, rfl, rfl⟩) ?_)
          intro w35 h36 hk37
          refine RegI.pure 1 [0, 6, 9, 12, 13, 14] [(0, .slice (some ⟨b34, 0, none⟩) t13.length c12), (6, .slice A14 t16.length c15), (9, .int .i64 (rdD p1 t17)), (12, .slice pA1 p1.length pc1), (13, .int .i64 (p1.length : Int)), (14, .int .i64 t17)] (by kernel_rfl) ?_
          refine RegI.done (by kernel_rfl) ?_
          refine RunsI.go 1 [.c 38, .blk 1, .c 39, .lp 11, .blk 0, .c 40] (by kernel_rfl) ?_
          refine RunsI.region (by kernel_rfl) ?_
          refine RegI.pure 2 [0, 12, 13, 14, 48, 49] [(0, .slice (some ⟨b34, 0, none⟩) t13.length c12), (12, .slice pA1 p1.length pc1), (13, .int .i64 (p1.length : Int)), (14, .int .i64 t17), (48, .slice A14 t16.length c15), (49, .int .i64 (rdD p1 t17))] (by kernel_rfl) ?_
          refine RegI.op (by kernel_rfl) (OpE.lit 50 3 [.int .i64 (rdD p1 t17)] 1 h36 (by kernel_rfl) (by kernel_rfl) ?_)
          intro w60 b61 h62 hb63
          obtain ⟨hc64, h⟩ := of_cond0 h
          refine RegI.op (by kernel_rfl) (OpE.appendBox 51 1 3 37 3 8 [(rdD p1 t17)] 0 h62 (by kernel_rfl) (by kernel_rfl) (by kernel_rfl) rfl rfl rfl (cells_int _ _ _ _) hc64 ?_)
          intro w65 A66 c67 h68 hk69
          refine RegI.pure 1 [0, 6, 12, 13, 14] [(0, .slice (some ⟨b34, 0, none⟩) t13.length c12), (6, .slice A66 ((t16 ++ [(rdD p1 t17)]).length) c67), (12, .slice pA1 p1.length pc1), (13, .int .i64 (p1.length : Int)), (14, .int .i64 t17)] (by kernel_rfl) ?_
          refine RegI.done (by kernel_rfl) ?_
          refine RunsI.go 1 [.c 39, .lp 11, .blk 0, .c 40] (by kernel_rfl) ?_
          refine RunsI.region (by kernel_rfl) ?_
          refine RegI.pure 2 [0, 6, 12, 13, 14] [(0, .slice (some ⟨b34, 0, none⟩) t13.length c12), (6, .slice A66 ((t16 ++ [(rdD p1 t17)]).length) c67), (12, .slice pA1 p1.length pc1), (13, .int .i64 (p1.length : Int)), (14, .int .i64 (IntKind.wrap .i64 (t17 + 1)))] (by kernel_rfl) ?_
          refine RegI.done (by kernel_rfl) ?_
          refine RunsI.go 1 [.c 11, .lp 11, .blk 0, .c 40] (by kernel_rfl) ?_
          refine RunsI.only [0, 6, 12, 13, 14] [(0, .slice (some ⟨b34, 0, none⟩) t13.length c12), (6, .slice A66 ((t16 ++ [(rdD p1 t17)]).length) c67), (12, .slice pA1 p1.length pc1), (13, .int .i64 (p1.length : Int)), (14, .int .i64 (IntKind.wrap .i64 (t17 + 1)))] (by kernel_rfl) (by kernel_rfl) ?_
          have h100 : Holds M0 w0 w65 [own (Rp.pair Rp.bool Rp.bool) 49 (.slice (some ⟨b34, 0, none⟩) ((stD t13 (rdD p1 t17) (true, (rdD t13 (rdD p1 t17)).2)).length) c12) (stD t13 (rdD p1 t17) (true, (rdD t13 (rdD p1 t17)).2)), own (Rp.int .i64) 3 (.slice A66 ((t16 ++ [(rdD p1 t17)]).length) c67) (t16 ++ [(rdD p1 t17)]), sl (Rp.int .i64) (.slice pA1 p1.length pc1) p1, box b61 3 [.int .i64 (rdD p1 t17)]] := by have hY : Holds M0 w0 w65 [own (Rp.pair Rp.bool Rp.bool) 49 (.slice (some ⟨b34, 0, none⟩) t13.length c12) (stD t13 (rdD p1 t17) (true, (rdD t13 (rdD p1 t17)).2)), own (Rp.int .i64) 3 (.slice A66 ((t16 ++ [(rdD p1 t17)]).length) c67) (t16 ++ [(rdD p1 t17)]), sl (Rp.int .i64) (.slice pA1 p1.length pc1) p1, box b61 3 [.int .i64 (rdD p1 t17)]] := h68; simpa only [stD_length] using hY
          refine RunsI.is [(0, .slice (some ⟨b34, 0, none⟩) ((stD t13 (rdD p1 t17) (true, (rdD t13 (rdD p1 t17)).2)).length) c12), (6, .slice A66 ((t16 ++ [(rdD p1 t17)]).length) c67), (12, .slice pA1 p1.length pc1), (13, .int .i64 (p1.length : Int)), (14, .int .i64 (IntKind.wrap .i64 (t17 + 1)))] (by simp only [stD_length]) ?_
          refine RunsI.only [0, 6, 12, 13, 14] [(0, .slice (some ⟨b34, 0, none⟩) ((stD t13 (rdD p1 t17) (true, (rdD t13 (rdD p1 t17)).2)).length) c12), (6, .slice A66 ((t16 ++ [(rdD p1 t17)]).length) c67), (12, .slice pA1 p1.length pc1), (13, .int .i64 (p1.length : Int)), (14, .int .i64 (IntKind.wrap .i64 (t17 + 1)))] (by kernel_rfl) (by kernel_rfl) ?_
          exact ih (stD t13 (rdD p1 t17) (true, (rdD t13 (rdD p1 t17)).2)) (t16 ++ [(rdD p1 t17)]) (IntKind.wrap .i64 (t17 + 1)) (some ⟨b34, 0, none⟩) c12 A66 c67 w65 h (h100.pick [0, 1, 2] (by decide))
        · skip
          refine RunsI.fix 23 false hc32 (by kernel_rfl) (by kernel_rfl) ?_
          refine RunsI.cond false 29 (by kernel_rfl) ?_
          refine RunsI.go 1 [.c 30, .c 31, .blk 2, .c 38, .blk 1, .c 39, .lp 11, .blk 0, .c 40] (by kernel_rfl) ?_
          refine RunsI.region (by kernel_rfl) ?_
          refine RegI.pure 3 [0, 6, 8, 9, 12, 13, 14, 37] [(0, .slice A11 t13.length c12), (6, .slice A14 t16.length c15), (8, .int .i64 (rdD p1 t17)), (9, .int .i64 (-1)), (12, .slice pA1 p1.length pc1), (13, .int .i64 (p1.length : Int)), (14, .int .i64 t17), (37, .bool (decide ((rdD p1 t17) ≥ 0)))] (by kernel_rfl) ?_
          refine RegI.done (by kernel_rfl) ?_
          rcases of_cond h with ⟨hc38, h⟩ | ⟨hc38, h⟩
          · skip
            refine RunsI.fix 37 true hc38 (by kernel_rfl) (by kernel_rfl) ?_
            refine RunsI.cond true 32 (by kernel_rfl) ?_
            refine RunsI.go 1 [.blk 2, .c 38, .blk 1, .c 39, .lp 11, .blk 0, .c 40] (by kernel_rfl) ?_
            refine RunsI.go 1 [.c 38, .blk 1, .c 39, .lp 11, .blk 0, .c 40] (by kernel_rfl) ?_
            refine RunsI.region (by kernel_rfl) ?_
            refine RegI.pure 2 [0, 12, 13, 14, 48, 49] [(0, .slice A11 t13.length c12), (12, .slice pA1 p1.length pc1), (13, .int .i64 (p1.length : Int)), (14, .int .i64 t17), (48, .slice A14 t16.length c15), (49, .int .i64 (-1))] (by kernel_rfl) ?_
            refine RegI.op (by kernel_rfl) (OpE.lit 50 3 [.int .i64 (-1)] 1 h27 (by kernel_rfl) (by kernel_rfl) ?_)
            intro w70 b71 h72 hb73
            obtain ⟨hc74, h⟩ := of_cond0 h
            refine RegI.op (by kernel_rfl) (OpE.appendBox 51 1 3 37 3 8 [(-1)] 0 h72 (by kernel_rfl) (by kernel_rfl) (by kernel_rfl) rfl rfl rfl (cells_int _ _ _ _) hc74 ?_)
            intro w75 A76 c77 h78 hk79
            refine RegI.pure 1 [0, 6, 12, 13, 14] [(0, .slice A11 t13.length c12), (6, .slice A76 ((t16 ++ [(-1)]).length) c77), (12, .slice pA1 p1.length pc1), (13, .int .i64 (p1.length : Int)), (14, .int .i64 t17)] (by kernel_rfl) ?_
            refine RegI.done (by kernel_rfl) ?_
            refine RunsI.go 1 [.c 39, .lp 11, .blk 0, .c 40] (by kernel_rfl) ?_
            refine RunsI.region (by kernel_rfl) ?_
            refine RegI.pure 2 [0, 6, 12, 13, 14] [(0, .slice A11 t13.length c12), (6, .slice A76 ((t16 ++ [(-1)]).length) c77), (12, .slice pA1 p1.length pc1), (13, .int .i64 (p1.length : Int)), (14, .int .i64 (IntKind.wrap .i64 (t17 + 1)))] (by kernel_rfl) ?_
            refine RegI.done (by kernel_rfl) ?_
            refine RunsI.go 1 [.c 11, .lp 11, .blk 0, .c 40] (by kernel_rfl) ?_
            refine RunsI.only [0, 6, 12, 13, 14] [(0, .slice A11 t13.length c12), (6, .slice A76 ((t16 ++ [(-1)]).length) c77), (12, .slice pA1 p1.length pc1), (13, .int .i64 (p1.length : Int)), (14, .int .i64 (IntKind.wrap .i64 (t17 + 1)))] (by kernel_rfl) (by kernel_rfl) ?_
            exact ih t13 (t16 ++ [(-1)]) (IntKind.wrap .i64 (t17 + 1)) A11 c12 A76 c77 w75 h (h78.pick [0, 1, 2] (by decide))
          · skip
            refine RunsI.fix 37 false hc38 (by kernel_rfl) (by kernel_rfl) ?_
            refine RunsI.cond false 33 (by kernel_rfl) ?_
            refine RunsI.go 1 [.c 34, .c 35, .blk 2, .c 38, .blk 1, .c 39, .lp 11, .blk 0, .c 40] (by kernel_rfl) ?_
            refine RunsI.region (by kernel_rfl) ?_
            refine RegI.pure 3 [0, 6, 12, 13, 14, 40] [(0, .slice A11 t13.length c12), (6, .slice A14 t16.length c15), (12, .slice pA1 p1.length pc1), (13, .int .i64 (p1.length : Int)), (14, .int .i64 t17), (40, .bool ((rdD p1 t17) == (-1)))] (by kernel_rfl) ?_
            refine RegI.done (by kernel_rfl) ?_
            rcases of_cond h with ⟨hc39, h⟩ | ⟨hc39, h⟩
            · skip
              refine RunsI.fix 40 true hc39 (by kernel_rfl) (by kernel_rfl) ?_
              refine RunsI.cond true 36 (by kernel_rfl) ?_
              refine RunsI.region (by kernel_rfl) ?_
              refine RegI.pure 1 [6, 12, 13, 14, 44] [(6, .slice A14 t16.length c15), (12, .slice pA1 p1.length pc1), (13, .int .i64 (p1.length : Int)), (14, .int .i64 t17), (44, .slice A11 t13.length c12)] (by kernel_rfl) ?_
              obtain ⟨⟨t44, t48⟩, hg43, h⟩ := of_bind h
              dsimp only at h
              refine RegI.op (by kernel_rfl) (OpE.call 45 (by kernel_rfl) 15 #[.slice A11 t13.length c12] (by kernel_rfl) ((chain_Ack_15_ok K (fun _ => False) w28  A11 c12 t13 (fun _ hf => hf.elim) (h27.ownSl 0 rfl) hg43).mono ?_))
              rintro _ w40 ⟨A45, c46, rfl, hr49⟩
              refine ⟨_, rfl, ?_⟩
              have hb41 := hr49.below
              have h42 := h27.join (hr49.anyM ⟨own_flat (fun _ _ _ _ _ h => h), trivial⟩ _ h27.old')
              refine RegI.pure 5 [0, 6, 9, 12, 13, 14] [(0, .slice A45 t44.length c46), (6, .slice A14 t16.length c15), (9, .int .i64 t48), (12, .slice pA1 p1.length pc1), (13, .int .i64 (p1.length : Int)), (14, .int .i64 t17)] (by kernel_rfl) ?_
              refine RegI.done (by kernel_rfl) ?_
              refine RunsI.go 1 [.c 38, .blk 1, .c 39, .lp 11, .blk 0, .c 40] (by kernel_rfl) ?_
              refine RunsI.region (by kernel_rfl) ?_
              refine RegI.pure 2 [0, 12, 13, 14, 48, 49] [(0, .slice A45 t44.length c46), (12, .slice pA1 p1.length pc1), (13, .int .i64 (p1.length : Int)), (14, .int .i64 t17), (48, .slice A14 t16.length c15), (49, .int .i64 t48)] (by kernel_rfl) ?_
              refine RegI.op (by kernel_rfl) (OpE.lit 50 3 [.int .i64 t48] 1 h42 (by kernel_rfl) (by kernel_rfl) ?_)
              intro w80 b81 h82 hb83
              obtain ⟨hc84, h⟩ := of_cond0 h
              refine RegI.op (by kernel_rfl) (OpE.appendBox 51 1 4 37 3 8 [t48] 0 h82 (by kernel_rfl) (by kernel_rfl) (by kernel_rfl) rfl rfl rfl (cells_int _ _ _ _) hc84 ?_)
              intro w85 A86 c87 h88 hk89
              refine RegI.pure 1 [0, 6, 12, 13, 14] [(0, .slice A45 t44.length c46), (6, .slice A86 ((t16 ++ [t48]).length) c87), (12, .slice pA1 p1.length pc1), (13, .int .i64 (p1.length : Int)), (14, .int .i64 t17)] (by kernel_rfl) ?_
              refine RegI.done (by kernel_rfl) ?_
              refine RunsI.go 1 [.c 39, .lp 11, .blk 0, .c 40] (by kernel_rfl) ?_
              refine RunsI.region (by kernel_rfl) ?_
              refine RegI.pure 2 [0, 6, 12, 13, 14] [(0, .slice A45 t44.length c46), (6, .slice A86 ((t16 ++ [t48]).length) c87), (12, .slice pA1 p1.length pc1), (13, .int .i64 (p1.length : Int)), (14, .int .i64 (IntKind.wrap .i64 (t17 + 1)))] (by kernel_rfl) ?_
              refine RegI.done (by kernel_rfl) ?_
              refine RunsI.go 1 [.c 11, .lp 11, .blk 0, .c 40] (by kernel_rfl) ?_
              refine RunsI.only [0, 6, 12, 13, 14] [(0, .slice A45 t44.length c46), (6, .slice A86 ((t16 ++ [t48]).length) c87), (12, .slice pA1 p1.length pc1), (13, .int .i64 (p1.length : Int)), (14, .int .i64 (IntKind.wrap .i64 (t17 + 1)))] (by kernel_rfl) (by kernel_rfl) ?_
              exact ih t44 (t16 ++ [t48]) (IntKind.wrap .i64 (t17 + 1)) A45 c46 A86 c87 w85 h (h88.pick [3, 1, 2] (by decide))
            · skip
              refine RunsI.fix 40 false hc39 (by kernel_rfl) (by kernel_rfl) ?_
              refine RunsI.cond false 37 (by kernel_rfl) ?_
              refine RunsI.region (by kernel_rfl) ?_
              refine RegI.pure 1 [6, 12, 13, 14, 19] [(6, .slice A14 t16.length c15), (12, .slice pA1 p1.length pc1), (13, .int .i64 (p1.length : Int)), (14, .int .i64 t17), (19, .slice A11 t13.length c12)] (by kernel_rfl) ?_
              obtain ⟨⟨t54, t58⟩, hg53, h⟩ := of_bind h
              dsimp only at h
              refine RegI.op (by kernel_rfl) (OpE.call 20 (by kernel_rfl) 17 #[.slice A11 t13.length c12] (by kernel_rfl) ((chain_Reti_17_ok K (fun _ => False) w28  A11 c12 t13 (fun _ hf => hf.elim) (h27.ownSl 0 rfl) hg53).mono ?_))
              rintro _ w50 ⟨A55, c56, rfl, hr59⟩
              refine ⟨_, rfl, ?_⟩
              have hb51 := hr59.below
              have h52 := h27.join (hr59.anyM ⟨own_flat (fun _ _ _ _ _ h => h), trivial⟩ _ h27.old')
              refine RegI.pure 5 [0, 6, 9, 12, 13, 14] [(0, .slice A55 t54.length c56), (6, .slice A14 t16.length c15), (9, .int .i64 t58), (12, .slice pA1 p1.length pc1), (13, .int .i64 (p1.length : Int)), (14, .int .i64 t17)] (by kernel_rfl) ?_
              refine RegI.done (by kernel_rfl) ?_
              refine RunsI.go 1 [.c 38, .blk 1, .c 39, .lp 11, .blk 0, .c 40] (by kernel_rfl) ?_
              refine RunsI.region (by kernel_rfl) ?_
              refine RegI.pure 2 [0, 12, 13, 14, 48, 49] [(0, .slice A55 t54.length c56), (12, .slice pA1 p1.length pc1), (13, .int .i64 (p1.length : Int)), (14, .int .i64 t17), (48, .slice A14 t16.length c15), (49, .int .i64 t58)] (by kernel_rfl) ?_
              refine RegI.op (by kernel_rfl) (OpE.lit 50 3 [.int .i64 t58] 1 h52 (by kernel_rfl) (by kernel_rfl) ?_)
              intro w90 b91 h92 hb93
              obtain ⟨hc94, h⟩ := of_cond0 h
              refine RegI.op (by kernel_rfl) (OpE.appendBox 51 1 4 37 3 8 [t58] 0 h92 (by kernel_rfl) (by kernel_rfl) (by kernel_rfl) rfl rfl rfl (cells_int _ _ _ _) hc94 ?_)
              intro w95 A96 c97 h98 hk99
              refine RegI.pure 1 [0, 6, 12, 13, 14] [(0, .slice A55 t54.length c56), (6, .slice A96 ((t16 ++ [t58]).length) c97), (12, .slice pA1 p1.length pc1), (13, .int .i64 (p1.length : Int)), (14, .int .i64 t17)] (by kernel_rfl) ?_
              refine RegI.done (by kernel_rfl) ?_
              refine RunsI.go 1 [.c 39, .lp 11, .blk 0, .c 40] (by kernel_rfl) ?_
              refine RunsI.region (by kernel_rfl) ?_
              refine RegI.pure 2 [0, 6, 12, 13, 14] [(0, .slice A55 t54.length c56), (6, .slice A96 ((t16 ++ [t58]).length) c97), (12, .slice pA1 p1.length pc1), (13, .int .i64 (p1.length : Int)), (14, .int .i64 (IntKind.wrap .i64 (t17 + 1)))] (by kernel_rfl) ?_
              refine RegI.done (by kernel_rfl) ?_
              refine RunsI.go 1 [.c 11, .lp 11, .blk 0, .c 40] (by kernel_rfl) ?_
              refine RunsI.only [0, 6, 12, 13, 14] [(0, .slice A55 t54.length c56), (6, .slice A96 ((t16 ++ [t58]).length) c97), (12, .slice pA1 p1.length pc1), (13, .int .i64 (p1.length : Int)), (14, .int .i64 (IntKind.wrap .i64 (t17 + 1)))] (by kernel_rfl) (by kernel_rfl) ?_
              exact ih t54 (t16 ++ [t58]) (IntKind.wrap .i64 (t17 + 1)) A55 c56 A96 c97 w95 h (h98.pick [3, 1, 2] (by decide))
      clear hJ30
      rcases of_cond h with ⟨hc25, h⟩ | ⟨hc25, h⟩
      · skip
        refine RegI.fix 26 true hc25 (by kernel_rfl) (by kernel_rfl) ?_
        refine RegI.pure 6 [0, 6, 8, 9, 12, 13, 14, 23, 27, 28, 29, 30] [(0, .slice A11 t13.length c12), (6, .slice A14 t16.length c15), (8, .int .i64 (rdD p1 t17)), (9, .int .i64 (-1)), (12, .slice pA1 p1.length pc1), (13, .int .i64 (p1.length : Int)), (14, .int .i64 t17), (23, .bool (decide ((rdD p1 t17) < (t13.length : Int)))), (27, .int .i64 (rdD p1 t17)), (28, .slice A11 t13.length c12), (29, .int .i64 (t13.length : Int)), (30, .bool (decide ((rdD p1 t17) < (t13.length : Int))))] (by kernel_rfl) ?_
        refine RegI.only [0, 6, 8, 9, 12, 13, 14, 23] [(0, .slice A11 t13.length c12), (6, .slice A14 t16.length c15), (8, .int .i64 (rdD p1 t17)), (9, .int .i64 (-1)), (12, .slice pA1 p1.length pc1), (13, .int .i64 (p1.length : Int)), (14, .int .i64 t17), (23, .bool (decide ((rdD p1 t17) < (t13.length : Int))))] (by kernel_rfl) (by kernel_rfl) ?_
        exact hj31 (decide ((rdD p1 t17) < (t13.length : Int))) w h (h24.pick [0, 1, 2] (by decide))
      · skip
        refine RegI.fix 26 false hc25 (by kernel_rfl) (by kernel_rfl) ?_
        refine RegI.pure 6 [0, 6, 8, 9, 12, 13, 14, 23, 27, 28, 29, 30] [(0, .slice A11 t13.length c12), (6, .slice A14 t16.length c15), (8, .int .i64 (rdD p1 t17)), (9, .int .i64 (-1)), (12, .slice pA1 p1.length pc1), (13, .int .i64 (p1.length : Int)), (14, .int .i64 t17), (23, .bool false), (27, undef), (28, undef), (29, undef), (30, undef)] (by kernel_rfl) ?_
        refine RegI.only [0, 6, 8, 9, 12, 13, 14, 23] [(0, .slice A11 t13.length c12), (6, .slice A14 t16.length c15), (8, .int .i64 (rdD p1 t17)), (9, .int .i64 (-1)), (12, .slice pA1 p1.length pc1), (13, .int .i64 (p1.length : Int)), (14, .int .i64 t17), (23, .bool false)] (by kernel_rfl) (by kernel_rfl) ?_
        exact hj31 false w h (h24.pick [0, 1, 2] (by decide))
    · skip
      refine RunsI.fix 15 false hc18 (by kernel_rfl) (by kernel_rfl) ?_
      refine RunsI.cond false 16 (by kernel_rfl) ?_
      refine RunsI.go 1 [.c 40] (by kernel_rfl) ?_
      refine RunsI.only [0, 6] [(0, .slice A11 t13.length c12), (6, .slice A14 t16.length c15)] (by kernel_rfl) (by kernel_rfl) ?_
      exact hk0 t13 t16 A11 c12 A14 c15 w (Option.some.inj h).symm (hH.pick [0, 1] (by decide))
def chain_Play_22.f (K : Nat) (p0 : List (Bool × Bool)) (p1 : List Int) : Option ((List (Bool × Bool)) × (List Int)) := (chain_Link_48.f K p0).bind fun t5 => (chain_Play_22.l0 K p0 p1 K t5 ([] : List Int) 0).bind (fun yx107 => some (yx107.1, yx107.2))
set_option maxRecDepth 100000 in
theorem chain_Play_22_ok (K : Nat) (M0 : Nat → Prop) (w0 : World) (pA0 : Option Addr) (pc0 : Nat) (pA1 : Option Addr) (pc1 : Nat) (p0 : List (Bool × Bool)) (p1 : List Int) (ho : ∀ b, M0 b → b < w0.heap.size) (hs0 : Sl (Rp.pair Rp.bool Rp.bool) w0 M0 (.slice pA0 p0.length pc0) p0) (hs1 : Sl (Rp.int .i64) w0 M0 (.slice pA1 p1.length pc1) p1) {r : (List (Bool × Bool)) × (List Int)} (h : chain_Play_22.f K p0 p1 = some r) :
    Calls Try.prog 22 #[.slice pA0 p0.length pc0, .slice pA1 p1.length pc1] w0 (chain_Play_22.post M0 w0 r) := by
  unfold chain_Play_22.f at h
  have h0 : Holds M0 w0 w0 [] := Holds.start ho
  have h00 := h0.addSl (Rp.pair Rp.bool Rp.bool) (.slice pA0 p0.length pc0) p0 (hs0.mono (fun _ _ hm => hm.elim id (fun hm => absurd hm (by simp [mines, sl]))))
  have h01 := h00.addSl (Rp.int .i64) (.slice pA1 p1.length pc1) p1 (hs1.mono (fun _ _ hm => hm.elim id (fun hm => absurd hm (by simp [mines, sl]))))
  have h0 : Holds M0 w0 w0 [sl (Rp.pair Rp.bool Rp.bool) (.slice pA0 p0.length pc0) p0, sl (Rp.int .i64) (.slice pA1 p1.length pc1) p1] := h01
  refine calls_of F22 rfl [.slice pA0 p0.length pc0, .slice pA1 p1.length pc1] (by kernel_rfl) ?_
  refine RunsI.go 1 [.c 1, .c 2] (by kernel_rfl) ?_
  refine RunsI.region (by kernel_rfl) ?_
  refine RegI.pure 2 [0, 1] [(0, .slice pA0 p0.length pc0), (1, .slice pA1 p1.length pc1)] (by kernel_rfl) ?_
  refine RegI.done (by kernel_rfl) ?_
  refine RunsI.go 1 [.c 3, .c 4] (by kernel_rfl) ?_
  refine RunsI.region (by kernel_rfl) ?_
  refine RegI.pure 1 [1, 10] [(1, .slice pA1 p1.length pc1), (10, .slice pA0 p0.length pc0)] (by kernel_rfl) ?_
  obtain ⟨t5, hg4, h⟩ := of_bind h
  refine RegI.op (by kernel_rfl) (OpE.call 11 (by kernel_rfl) 48 #[.slice pA0 p0.length pc0] (by kernel_rfl) ((chain_Link_48_ok K _ w0  pA0 pc0 p0 h0.old' (h0.get 0 rfl) hg4).mono ?_))
  rintro _ w1 ⟨A6, c7, rfl, hr9⟩
  refine ⟨_, rfl, ?_⟩
  have hb2 := hr9.below
  have h3 := h0.join hr9
  refine RegI.pure 1 [0, 1] [(0, .slice A6 t5.length c7), (1, .slice pA1 p1.length pc1)] (by kernel_rfl) ?_
  refine RegI.done (by kernel_rfl) ?_
  refine RunsI.go 1 [.c 5, .c 6] (by kernel_rfl) ?_
  refine RunsI.region (by kernel_rfl) ?_
  refine RegI.pure 1 [0, 1, 6] [(0, .slice A6 t5.length c7), (1, .slice pA1 p1.length pc1), (6, .slice none 0 0)] (by kernel_rfl) ?_
  refine RegI.done (by kernel_rfl) ?_
  refine RunsI.go 2 [.c 8, .c 9, .c 40] (by kernel_rfl) ?_
  refine RunsI.region (by kernel_rfl) ?_
  refine RegI.pure 3 [0, 6, 12, 13, 14] [(0, .slice A6 t5.length c7), (6, .slice none 0 0), (12, .slice pA1 p1.length pc1), (13, .int .i64 (p1.length : Int)), (14, .int .i64 0)] (by kernel_rfl) ?_
  refine RegI.done (by kernel_rfl) ?_
  refine RunsI.go 2 [.c 11, .lp 11, .blk 0, .c 40] (by kernel_rfl) ?_
  obtain ⟨x107, hx108, h⟩ := of_bind h
  have h10 := h3.addOwnNil (Rp.int .i64) 3
  refine RunsI.only [0, 6, 12, 13, 14] [(0, .slice A6 t5.length c7), (6, .slice none (([] : List Int).length) 0), (12, .slice pA1 p1.length pc1), (13, .int .i64 (p1.length : Int)), (14, .int .i64 0)] (by kernel_rfl) (by kernel_rfl) ?_
  refine chain_Play_22.l0_ok K M0 w0 pA0 pc0 pA1 pc1 p0 p1 _ x107 ?_ K t5 ([] : List Int) 0 A6 c7 none 0 w1 hx108 (h10.pick [2, 3, 1] (by decide))
  · intro t111 t114 A109 c110 A112 c113 w116 hq117 h115
    (try rw [hq117] at h)
    dsimp only at h
    refine RunsI.go 1 [.c 41, .c 42] (by kernel_rfl) ?_
    refine RunsI.region (by kernel_rfl) ?_
    refine RegI.pure 4 [4, 5] [(4, .slice A109 t111.length c110), (5, .slice A112 t114.length c113)] (by kernel_rfl) ?_
    refine RegI.done (by kernel_rfl) ?_
    refine RunsI.ret (.tuple #[.slice A109 t111.length c110, .slice A112 t114.length c113]) (by kernel_rfl) (by kernel_rfl) ?_
    obtain rfl := Option.some.inj h
    exact ⟨A109, c110, A112, c113, rfl, h115.pick [0, 1] (by decide)⟩
end

/-! ### charabanc/chain.Snoop (function 24) -/
section
def chain_Snoop_24.post (M0 : Nat → Prop) (w0 : World) (r : Int × Bool) : Ending → World → Prop := fun e w => e = .returned (.tuple #[.int .i64 r.1, .bool r.2]) ∧ Below w0.heap.size w0 w
def chain_Snoop_24.f (K : Nat) (p0 : Int) (p1 : Int) : Option (Int × Bool) := cond (p0 == 1) (some (0, (p1 == 77))) (cond (p0 == 2) (some (0, false)) (cond (p1 == 237) (some (1, false)) (cond (p1 == 203) (some (2, false)) (some (0, false)))))
set_option maxRecDepth 100000 in
theorem chain_Snoop_24_ok (K : Nat) (M0 : Nat → Prop) (w0 : World) (p0 : Int) (p1 : Int) (ho : ∀ b, M0 b → b < w0.heap.size) {r : Int × Bool} (h : chain_Snoop_24.f K p0 p1 = some r) :
    Calls Try.prog 24 #[.int .i64 p0, .int .u8 p1] w0 (chain_Snoop_24.post M0 w0 r) := by
  unfold chain_Snoop_24.f at h
  have h0 : Holds M0 w0 w0 [] := Holds.start ho
  have h0 : Holds M0 w0 w0 [] := h0
  refine calls_of F24 rfl [.int .i64 p0, .int .u8 p1] (by kernel_rfl) ?_
  refine RunsI.go 1 [.c 1, .c 2] (by kernel_rfl) ?_
  refine RunsI.region (by kernel_rfl) ?_
  refine RegI.pure 2 [0, 1] [(0, .int .i64 p0), (1, .int .u8 p1)] (by kernel_rfl) ?_
  refine RegI.done (by kernel_rfl) ?_
  refine RunsI.go 3 [.c 5, .c 6, .blk 0, .c 27] (by kernel_rfl) ?_
  refine RunsI.region (by kernel_rfl) ?_
  refine RegI.pure 3 [0, 1, 6] [(0, .int .i64 p0), (1, .int .u8 p1), (6, .bool (p0 == 1))] (by kernel_rfl) ?_
  refine RegI.done (by kernel_rfl) ?_
  rcases of_cond h with ⟨hc1, h⟩ | ⟨hc1, h⟩
  · skip
    refine RunsI.fix 6 true hc1 (by kernel_rfl) (by kernel_rfl) ?_
    refine RunsI.cond true 7 (by kernel_rfl) ?_
    refine RunsI.go 1 [.c 8, .c 9, .blk 0, .c 27] (by kernel_rfl) ?_
    refine RunsI.region (by kernel_rfl) ?_
    refine RegI.pure 4 [4, 5] [(4, .int .i64 0), (5, .bool (p1 == 77))] (by kernel_rfl) ?_
    refine RegI.done (by kernel_rfl) ?_
    refine RunsI.ret (.tuple #[.int .i64 0, .bool (p1 == 77)]) (by kernel_rfl) (by kernel_rfl) ?_
    obtain rfl := Option.some.inj h
    exact ⟨rfl, h0.below⟩
  · skip
    refine RunsI.fix 6 false hc1 (by kernel_rfl) (by kernel_rfl) ?_
    refine RunsI.cond false 10 (by kernel_rfl) ?_
    refine RunsI.go 1 [.c 11, .c 12, .blk 0, .c 27] (by kernel_rfl) ?_
    refine RunsI.region (by kernel_rfl) ?_
    refine RegI.pure 3 [1, 11] [(1, .int .u8 p1), (11, .bool (p0 == 2))] (by kernel_rfl) ?_
    refine RegI.done (by kernel_rfl) ?_
    rcases of_cond h with ⟨hc2, h⟩ | ⟨hc2, h⟩
    · skip
      refine RunsI.fix 11 true hc2 (by kernel_rfl) (by kernel_rfl) ?_
      refine RunsI.cond true 13 (by kernel_rfl) ?_
      refine RunsI.go 1 [.blk 0, .c 27] (by kernel_rfl) ?_
      refine RunsI.go 2 [.c 28, .c 29] (by kernel_rfl) ?_
      refine RunsI.region (by kernel_rfl) ?_
      refine RegI.pure 2 [4, 5] [(4, .int .i64 0), (5, .bool false)] (by kernel_rfl) ?_
      refine RegI.done (by kernel_rfl) ?_
      refine RunsI.ret (.tuple #[.int .i64 0, .bool false]) (by kernel_rfl) (by kernel_rfl) ?_
      obtain rfl := Option.some.inj h
      exact ⟨rfl, h0.below⟩
    · skip
      refine RunsI.fix 11 false hc2 (by kernel_rfl) (by kernel_rfl) ?_
      refine RunsI.cond false 14 (by kernel_rfl) ?_
      refine RunsI.go 1 [.c 15, .c 16, .blk 0, .c 27] (by kernel_rfl) ?_
      refine RunsI.region (by kernel_rfl) ?_
      refine RegI.pure 3 [1, 14] [(1, .int .u8 p1), (14, .bool (p1 == 237))] (by kernel_rfl) ?_
      refine RegI.done (by kernel_rfl) ?_
      rcases of_cond h with ⟨hc3, h⟩ | ⟨hc3, h⟩
      · skip
        refine RunsI.fix 14 true hc3 (by kernel_rfl) (by kernel_rfl) ?_
        refine RunsI.cond true 17 (by kernel_rfl) ?_
        refine RunsI.go 1 [.c 18, .c 19, .blk 0, .c 27] (by kernel_rfl) ?_
        refine RunsI.region (by kernel_rfl) ?_
        refine RegI.pure 2 [4, 5] [(4, .int .i64 1), (5, .bool false)] (by kernel_rfl) ?_
        refine RegI.done (by kernel_rfl) ?_
        refine RunsI.ret (.tuple #[.int .i64 1, .bool false]) (by kernel_rfl) (by kernel_rfl) ?_
        obtain rfl := Option.some.inj h
        exact ⟨rfl, h0.below⟩
      · skip
        refine RunsI.fix 14 false hc3 (by kernel_rfl) (by kernel_rfl) ?_
        refine RunsI.cond false 20 (by kernel_rfl) ?_
        refine RunsI.go 1 [.c 21, .c 22, .blk 0, .c 27] (by kernel_rfl) ?_
        refine RunsI.region (by kernel_rfl) ?_
        refine RegI.pure 3 [17] [(17, .bool (p1 == 203))] (by kernel_rfl) ?_
        refine RegI.done (by kernel_rfl) ?_
        rcases of_cond h with ⟨hc4, h⟩ | ⟨hc4, h⟩
        · skip
          refine RunsI.fix 17 true hc4 (by kernel_rfl) (by kernel_rfl) ?_
          refine RunsI.cond true 23 (by kernel_rfl) ?_
          refine RunsI.go 1 [.c 24, .c 25, .blk 0, .c 27] (by kernel_rfl) ?_
          refine RunsI.region (by kernel_rfl) ?_
          refine RegI.pure 2 [4, 5] [(4, .int .i64 2), (5, .bool false)] (by kernel_rfl) ?_
          refine RegI.done (by kernel_rfl) ?_
          refine RunsI.ret (.tuple #[.int .i64 2, .bool false]) (by kernel_rfl) (by kernel_rfl) ?_
          obtain rfl := Option.some.inj h
          exact ⟨rfl, h0.below⟩
        · skip
          refine RunsI.fix 17 false hc4 (by kernel_rfl) (by kernel_rfl) ?_
          refine RunsI.cond false 26 (by kernel_rfl) ?_
          refine RunsI.go 1 [.blk 0, .c 27] (by kernel_rfl) ?_
          refine RunsI.go 2 [.c 28, .c 29] (by kernel_rfl) ?_
          refine RunsI.region (by kernel_rfl) ?_
          refine RegI.pure 2 [4, 5] [(4, .int .i64 0), (5, .bool false)] (by kernel_rfl) ?_
          refine RegI.done (by kernel_rfl) ?_
          refine RunsI.ret (.tuple #[.int .i64 0, .bool false]) (by kernel_rfl) (by kernel_rfl) ?_
          obtain rfl := Option.some.inj h
          exact ⟨rfl, h0.below⟩
end

/-! ### charabanc/charabancref26.Ints (function 26) -/
section
def charabancref26_Ints_26.post (M0 : Nat → Prop) (w0 : World) (r : Bool) : Ending → World → Prop := fun e w => e = .returned (.bool r) ∧ Below w0.heap.size w0 w
def charabancref26_Ints_26.l0 (K : Nat) (p0 : List Int) (p1 : List Int) : Nat → Int → Option (Lp Unit Unit)
  | 0, _ => none
  | k + 1, t2 => cond (decide (t2 < (p0.length : Int))) (cond (inR t2 p0.length) (cond (inR t2 p1.length) (cond ((rdD p0 t2) != (rdD p1 t2)) (some (Lp.ret ())) (charabancref26_Ints_26.l0 K p0 p1 k (IntKind.wrap .i64 (t2 + 1)))) none) none) (some (Lp.go ()))
set_option maxRecDepth 100000 in
theorem charabancref26_Ints_26.l0_ok (K : Nat) (M0 : Nat → Prop) (w0 : World) (pA0 : Option Addr) (pc0 : Nat) (pA1 : Option Addr) (pc1 : Nat) (p0 : List Int) (p1 : List Int) (R : Ending → World → Prop) (x : Lp Unit Unit) (hk0 : ∀ (w1 : World), x = Lp.go () → Holds M0 w0 w1 [] → RunsI F26 [.c 31] [] w1 R) (hk1 : ∀ (w1 : World), x = Lp.ret () → Holds M0 w0 w1 [] → R (.returned (.bool false)) w1) :
    ∀ (k : Nat) (t2 : Int) (w : World), charabancref26_Ints_26.l0 K p0 p1 k t2 = some x → Holds M0 w0 w [sl (Rp.int .i64) (.slice pA0 p0.length pc0) p0, sl (Rp.int .i64) (.slice pA1 p1.length pc1) p1] → RunsI F26 [.c 15, .lp 15, .blk 0, .c 31] [(0, .slice pA0 p0.length pc0), (1, .slice pA1 p1.length pc1), (5, .int .i64 t2)] w R := by
  intro k
  induction k with
  | zero => intro t2 w h hH; exact absurd h (by simp [charabancref26_Ints_26.l0])
  | succ k ih =>
    intro t2 w h hH
    rw [charabancref26_Ints_26.l0.eq_2] at h
    refine RunsI.go 1 [.c 16, .c 21, .lp 15, .blk 0, .c 31] (by kernel_rfl) ?_
    refine RunsI.go 1 [.c 17, .c 18, .c 21, .lp 15, .blk 0, .c 31] (by kernel_rfl) ?_
    refine RunsI.region (by kernel_rfl) ?_
    refine RegI.pure 4 [0, 1, 5, 14] [(0, .slice pA0 p0.length pc0), (1, .slice pA1 p1.length pc1), (5, .int .i64 t2), (14, .bool (decide (t2 < (p0.length : Int))))] (by kernel_rfl) ?_
    refine RegI.done (by kernel_rfl) ?_
    rcases of_cond h with ⟨hc3, h⟩ | ⟨hc3, h⟩
    · skip
      refine RunsI.fix 14 true hc3 (by kernel_rfl) (by kernel_rfl) ?_
      refine RunsI.cond true 19 (by kernel_rfl) ?_
      refine RunsI.go 1 [.c 21, .lp 15, .blk 0, .c 31] (by kernel_rfl) ?_
      refine RunsI.go 3 [.c 24, .c 25, .blk 1, .c 30, .lp 15, .blk 0, .c 31] (by kernel_rfl) ?_
      refine RunsI.any 9 (by kernel_rfl) (by kernel_rfl) (by kernel_rfl) (Kp ([] : List Nat) (World.drew w)) ?_
      have h5 := hH.drew
      generalize World.drew w = w4 at h5 ⊢
      have hS6 := Kp.refl ([] : List Nat) w4
      refine AnyE.pure 0 17 (.slice pA0 p0.length pc0) (by kernel_rfl) hS6 (fun _ => by kernel_rfl) ?_
      refine AnyE.pure 1 18 (.int .i64 t2) (by kernel_rfl) hS6 (fun _ => by kernel_rfl) ?_
      obtain ⟨hc8, h⟩ := of_cond0 h
      refine AnyE.idxSl 2 19 0 37 t2 h5 (by kernel_rfl) hS6 rfl (by kernel_rfl) (by kernel_rfl) hc8 ?_
      intro b9 o10 cs11 hk12 h13
      obtain rfl := hk12
      refine AnyE.loadCel 3 20 2 3 b9 o10 0 (.int .i64 (rdD p0 t2)) [] h13 rfl (by kernel_rfl) hS6 rfl rfl (by kernel_rfl) (by kernel_rfl) ?_
      refine AnyE.pure 4 21 (.slice pA1 p1.length pc1) (by kernel_rfl) hS6 (fun _ => by kernel_rfl) ?_
      refine AnyE.pure 5 22 (.int .i64 t2) (by kernel_rfl) hS6 (fun _ => by kernel_rfl) ?_
      obtain ⟨hc14, h⟩ := of_cond0 h
      refine AnyE.idxSl 6 23 1 37 t2 h13 (by kernel_rfl) hS6 rfl (by kernel_rfl) (by kernel_rfl) hc14 ?_
      intro b15 o16 cs17 hk18 h19
      obtain rfl := hk18
      refine AnyE.loadCel 7 24 3 3 b15 o16 0 (.int .i64 (rdD p1 t2)) [] h19 rfl (by kernel_rfl) hS6 rfl rfl (by kernel_rfl) (by kernel_rfl) ?_
      refine AnyE.pure 8 25 (.bool ((rdD p0 t2) != (rdD p1 t2))) (by kernel_rfl) hS6 (fun _ => by kernel_rfl) ?_
      refine AnyE.done (by kernel_rfl) (fun w20 hu21 => ?_)
      have h22 := h19.call hu21
      refine RunsI.only [0, 1, 5, 25] [(0, .slice pA0 p0.length pc0), (1, .slice pA1 p1.length pc1), (5, .int .i64 t2), (25, .bool ((rdD p0 t2) != (rdD p1 t2)))] (by kernel_rfl) (by kernel_rfl) ?_
      rcases of_cond h with ⟨hc23, h⟩ | ⟨hc23, h⟩
      · skip
        refine RunsI.fix 25 true hc23 (by kernel_rfl) (by kernel_rfl) ?_
        refine RunsI.cond true 26 (by kernel_rfl) ?_
        refine RunsI.go 1 [.c 27, .c 28, .blk 1, .c 30, .lp 15, .blk 0, .c 31] (by kernel_rfl) ?_
        refine RunsI.region (by kernel_rfl) ?_
        refine RegI.pure 1 [4] [(4, .bool false)] (by kernel_rfl) ?_
        refine RegI.done (by kernel_rfl) ?_
        refine RunsI.ret (.bool false) (by kernel_rfl) (by kernel_rfl) ?_
        exact hk1 w20 (Option.some.inj h).symm (h22.pick [] (by decide))
      · skip
        refine RunsI.fix 25 false hc23 (by kernel_rfl) (by kernel_rfl) ?_
        refine RunsI.cond false 29 (by kernel_rfl) ?_
        refine RunsI.go 1 [.blk 1, .c 30, .lp 15, .blk 0, .c 31] (by kernel_rfl) ?_
        refine RunsI.go 1 [.c 30, .lp 15, .blk 0, .c 31] (by kernel_rfl) ?_
        refine RunsI.region (by kernel_rfl) ?_
        refine RegI.pure 3 [0, 1, 5] [(0, .slice pA0 p0.length pc0), (1, .slice pA1 p1.length pc1), (5, .int .i64 (IntKind.wrap .i64 (t2 + 1)))] (by kernel_rfl) ?_
        refine RegI.done (by kernel_rfl) ?_
        refine RunsI.go 1 [.c 15, .lp 15, .blk 0, .c 31] (by kernel_rfl) ?_
        refine RunsI.only [0, 1, 5] [(0, .slice pA0 p0.length pc0), (1, .slice pA1 p1.length pc1), (5, .int .i64 (IntKind.wrap .i64 (t2 + 1)))] (by kernel_rfl) (by kernel_rfl) ?_
        exact ih (IntKind.wrap .i64 (t2 + 1)) w20 h (h22.pick [0, 1] (by decide))
    · skip
      refine RunsI.fix 14 false hc3 (by kernel_rfl) (by kernel_rfl) ?_
      refine RunsI.cond false 20 (by kernel_rfl) ?_
      refine RunsI.go 1 [.c 31] (by kernel_rfl) ?_
      refine RunsI.only [] [] (by kernel_rfl) (by kernel_rfl) ?_
      exact hk0 w (Option.some.inj h).symm (hH.pick [] (by decide))
def charabancref26_Ints_26.f (K : Nat) (p0 : List Int) (p1 : List Int) : Option Bool := cond ((p0.length : Int) != (p1.length : Int)) (some false) ((charabancref26_Ints_26.l0 K p0 p1 K 0).bind (fun x24 => Lp.elim x24 (fun _ => some false) (fun _ => some true)))
set_option maxRecDepth 100000 in
theorem charabancref26_Ints_26_ok (K : Nat) (M0 : Nat → Prop) (w0 : World) (pA0 : Option Addr) (pc0 : Nat) (pA1 : Option Addr) (pc1 : Nat) (p0 : List Int) (p1 : List Int) (ho : ∀ b, M0 b → b < w0.heap.size) (hs0 : Sl (Rp.int .i64) w0 M0 (.slice pA0 p0.length pc0) p0) (hs1 : Sl (Rp.int .i64) w0 M0 (.slice pA1 p1.length pc1) p1) {r : Bool} (h : charabancref26_Ints_26.f K p0 p1 = some r) :
    Calls Try.prog 26 #[.slice pA0 p0.length pc0, .slice pA1 p1.length pc1] w0 (charabancref26_Ints_26.post M0 w0 r) := by
  unfold charabancref26_Ints_26.f at h
  have h0 : Holds M0 w0 w0 [] := Holds.start ho
  have h00 := h0.addSl (Rp.int .i64) (.slice pA0 p0.length pc0) p0 (hs0.mono (fun _ _ hm => hm.elim id (fun hm => absurd hm (by simp [mines, sl]))))
  have h01 := h00.addSl (Rp.int .i64) (.slice pA1 p1.length pc1) p1 (hs1.mono (fun _ _ hm => hm.elim id (fun hm => absurd hm (by simp [mines, sl]))))
  have h0 : Holds M0 w0 w0 [sl (Rp.int .i64) (.slice pA0 p0.length pc0) p0, sl (Rp.int .i64) (.slice pA1 p1.length pc1) p1] := h01
  refine calls_of F26 rfl [.slice pA0 p0.length pc0, .slice pA1 p1.length pc1] (by kernel_rfl) ?_
  refine RunsI.go 1 [.c 1, .c 2] (by kernel_rfl) ?_
  refine RunsI.region (by kernel_rfl) ?_
  refine RegI.pure 1 [0, 1] [(0, .slice pA0 p0.length pc0), (1, .slice pA1 p1.length pc1)] (by kernel_rfl) ?_
  refine RegI.done (by kernel_rfl) ?_
  refine RunsI.go 2 [.c 4, .c 5, .c 10] (by kernel_rfl) ?_
  refine RunsI.region (by kernel_rfl) ?_
  refine RegI.pure 5 [0, 1, 10] [(0, .slice pA0 p0.length pc0), (1, .slice pA1 p1.length pc1), (10, .bool ((p0.length : Int) != (p1.length : Int)))] (by kernel_rfl) ?_
  refine RegI.done (by kernel_rfl) ?_
  rcases of_cond h with ⟨hc1, h⟩ | ⟨hc1, h⟩
  · skip
    refine RunsI.fix 10 true hc1 (by kernel_rfl) (by kernel_rfl) ?_
    refine RunsI.cond true 6 (by kernel_rfl) ?_
    refine RunsI.go 1 [.c 7, .c 8, .c 10] (by kernel_rfl) ?_
    refine RunsI.region (by kernel_rfl) ?_
    refine RegI.pure 1 [4] [(4, .bool false)] (by kernel_rfl) ?_
    refine RegI.done (by kernel_rfl) ?_
    refine RunsI.ret (.bool false) (by kernel_rfl) (by kernel_rfl) ?_
    obtain rfl := Option.some.inj h
    exact ⟨rfl, h0.below⟩
  · skip
    refine RunsI.fix 10 false hc1 (by kernel_rfl) (by kernel_rfl) ?_
    refine RunsI.cond false 9 (by kernel_rfl) ?_
    refine RunsI.go 1 [.c 10] (by kernel_rfl) ?_
    refine RunsI.go 2 [.c 12, .c 13, .c 31] (by kernel_rfl) ?_
    refine RunsI.region (by kernel_rfl) ?_
    refine RegI.pure 1 [0, 1, 5] [(0, .slice pA0 p0.length pc0), (1, .slice pA1 p1.length pc1), (5, .int .i64 0)] (by kernel_rfl) ?_
    refine RegI.done (by kernel_rfl) ?_
    refine RunsI.go 2 [.c 15, .lp 15, .blk 0, .c 31] (by kernel_rfl) ?_
    obtain ⟨x24, hx25, h⟩ := of_bind h
    refine RunsI.only [0, 1, 5] [(0, .slice pA0 p0.length pc0), (1, .slice pA1 p1.length pc1), (5, .int .i64 0)] (by kernel_rfl) (by kernel_rfl) ?_
    refine charabancref26_Ints_26.l0_ok K M0 w0 pA0 pc0 pA1 pc1 p0 p1 _ x24 ?_ ?_ K 0 w0 hx25 (h0.pick [0, 1] (by decide))
    · intro w27 hq30 h26
      (try rw [hq30] at h)
      dsimp only [Lp.elim] at h
      refine RunsI.go 1 [.c 32, .c 33] (by kernel_rfl) ?_
      refine RunsI.region (by kernel_rfl) ?_
      refine RegI.pure 1 [4] [(4, .bool true)] (by kernel_rfl) ?_
      refine RegI.done (by kernel_rfl) ?_
      refine RunsI.ret (.bool true) (by kernel_rfl) (by kernel_rfl) ?_
      obtain rfl := Option.some.inj h
      exact ⟨rfl, h26.below⟩
    · intro w29 hq31 h28
      (try rw [hq31] at h)
      dsimp only [Lp.elim] at h
      obtain rfl := Option.some.inj h
      exact ⟨rfl, h28.below⟩
end

/-! ### charabanc/chain.Count (function 27) -/
section
def chain_Count_27.post (M0 : Nat → Prop) (w0 : World) (r : Int) : Ending → World → Prop := fun e w => e = .returned (.int .i64 r) ∧ Below w0.heap.size w0 w
def chain_Count_27.l0 (K : Nat) (p0 : List Int) : Nat → Int → Int → Int → Option Int
  | 0, _, _, _ => none
  | k + 1, t1, t2, t3 => cond (decide (t3 < (p0.length : Int))) (cond (inR t3 p0.length) ((chain_Snoop_24.f K t2 (rdD p0 t3)).bind fun yt15 => cond yt15.2 (chain_Count_27.l0 K p0 k (IntKind.wrap .i64 (t1 + 1)) yt15.1 (IntKind.wrap .i64 (t3 + 1))) (chain_Count_27.l0 K p0 k t1 yt15.1 (IntKind.wrap .i64 (t3 + 1)))) none) (some t1)
set_option maxRecDepth 100000 in
theorem chain_Count_27.l0_ok (K : Nat) (M0 : Nat → Prop) (w0 : World) (pA0 : Option Addr) (pc0 : Nat) (p0 : List Int) (R : Ending → World → Prop) (x : Int) (hk0 : ∀ (t18 : Int) (w1 : World), x = t18 → Holds M0 w0 w1 [] → RunsI F27 [.c 27] [(3, .int .i64 t18)] w1 R) :
    ∀ (k : Nat) (t1 : Int) (t2 : Int) (t3 : Int) (w : World), chain_Count_27.l0 K p0 k t1 t2 t3 = some x → Holds M0 w0 w [sl (Rp.int .u8) (.slice pA0 p0.length pc0) p0] → RunsI F27 [.c 9, .lp 9, .blk 0, .c 27] [(3, .int .i64 t1), (4, .int .i64 t2), (8, .slice pA0 p0.length pc0), (9, .int .i64 (p0.length : Int)), (10, .int .i64 t3)] w R := by
  intro k
  induction k with
  | zero => intro t1 t2 t3 w h hH; exact absurd h (by simp [chain_Count_27.l0])
  | succ k ih =>
    intro t1 t2 t3 w h hH
    rw [chain_Count_27.l0.eq_2] at h
    refine RunsI.go 1 [.c 10, .c 11, .lp 9, .blk 0, .c 27] (by kernel_rfl) ?_
    refine RunsI.region (by kernel_rfl) ?_
    refine RegI.pure 1 [3, 4, 8, 9, 10, 11] [(3, .int .i64 t1), (4, .int .i64 t2), (8, .slice pA0 p0.length pc0), (9, .int .i64 (p0.length : Int)), (10, .int .i64 t3), (11, .bool (decide (t3 < (p0.length : Int))))] (by kernel_rfl) ?_
    refine RegI.done (by kernel_rfl) ?_
    refine RunsI.go 1 [.c 12, .c 15, .lp 9, .blk 0, .c 27] (by kernel_rfl) ?_
    rcases of_cond h with ⟨hc4, h⟩ | ⟨hc4, h⟩
    · skip
      refine RunsI.fix 11 true hc4 (by kernel_rfl) (by kernel_rfl) ?_
      refine RunsI.cond true 13 (by kernel_rfl) ?_
      refine RunsI.go 1 [.c 15, .lp 9, .blk 0, .c 27] (by kernel_rfl) ?_
      refine RunsI.go 3 [.c 18, .c 19, .blk 1, .c 26, .lp 9, .blk 0, .c 27] (by kernel_rfl) ?_
      refine RunsI.region (by kernel_rfl) ?_
      obtain ⟨hc5, h⟩ := of_cond0 h
      refine RegI.op (by kernel_rfl) (OpE.idxSl 12 0 38 t3 hH (by kernel_rfl) rfl (by kernel_rfl) (by kernel_rfl) hc5 ?_)
      intro b6 o7 cs8 hk9 h10
      obtain rfl := hk9
      refine RegI.op (by kernel_rfl) (OpE.loadCel 13 1 5 b6 o7 0 (.int .u8 (rdD p0 t3)) h10 (by kernel_rfl) (by kernel_rfl) rfl (by kernel_rfl) ?_)
      refine RegI.pure 1 [3, 4, 7, 8, 9, 10] [(3, .int .i64 t1), (4, .int .i64 t2), (7, .int .u8 (rdD p0 t3)), (8, .slice pA0 p0.length pc0), (9, .int .i64 (p0.length : Int)), (10, .int .i64 t3)] (by kernel_rfl) ?_
      refine RegI.done (by kernel_rfl) ?_
      refine RunsI.go 1 [.c 20, .c 21, .blk 1, .c 26, .lp 9, .blk 0, .c 27] (by kernel_rfl) ?_
      refine RunsI.region (by kernel_rfl) ?_
      refine RegI.pure 2 [3, 8, 9, 10, 15, 16] [(3, .int .i64 t1), (8, .slice pA0 p0.length pc0), (9, .int .i64 (p0.length : Int)), (10, .int .i64 t3), (15, .int .i64 t2), (16, .int .u8 (rdD p0 t3))] (by kernel_rfl) ?_
      obtain ⟨⟨t15, t16⟩, hg14, h⟩ := of_bind h
      dsimp only at h
      refine RegI.op (by kernel_rfl) (OpE.call 17 (by kernel_rfl) 24 #[.int .i64 t2, .int .u8 (rdD p0 t3)] (by kernel_rfl) ((chain_Snoop_24_ok K _ w  t2 (rdD p0 t3) h10.old' hg14).mono ?_))
      rintro _ w11 ⟨rfl, hb12⟩
      refine ⟨_, rfl, ?_⟩
      have h13 := h10.call hb12
      refine RegI.pure 5 [3, 4, 5, 8, 9, 10] [(3, .int .i64 t1), (4, .int .i64 t15), (5, .bool t16), (8, .slice pA0 p0.length pc0), (9, .int .i64 (p0.length : Int)), (10, .int .i64 t3)] (by kernel_rfl) ?_
      refine RegI.done (by kernel_rfl) ?_
      refine RunsI.go 1 [.c 22, .c 23, .blk 1, .c 26, .lp 9, .blk 0, .c 27] (by kernel_rfl) ?_
      refine RunsI.region (by kernel_rfl) ?_
      refine RegI.pure 1 [3, 4, 8, 9, 10, 20] [(3, .int .i64 t1), (4, .int .i64 t15), (8, .slice pA0 p0.length pc0), (9, .int .i64 (p0.length : Int)), (10, .int .i64 t3), (20, .bool t16)] (by kernel_rfl) ?_
      refine RegI.done (by kernel_rfl) ?_
      rcases of_cond h with ⟨hc17, h⟩ | ⟨hc17, h⟩
      · skip
        refine RunsI.fix 20 true hc17 (by kernel_rfl) (by kernel_rfl) ?_
        refine RunsI.cond true 24 (by kernel_rfl) ?_
        refine RunsI.region (by kernel_rfl) ?_
        refine RegI.pure 3 [3, 4, 8, 9, 10] [(3, .int .i64 (IntKind.wrap .i64 (t1 + 1))), (4, .int .i64 t15), (8, .slice pA0 p0.length pc0), (9, .int .i64 (p0.length : Int)), (10, .int .i64 t3)] (by kernel_rfl) ?_
        refine RegI.done (by kernel_rfl) ?_
        refine RunsI.go 1 [.c 26, .lp 9, .blk 0, .c 27] (by kernel_rfl) ?_
        refine RunsI.region (by kernel_rfl) ?_
        refine RegI.pure 2 [3, 4, 8, 9, 10] [(3, .int .i64 (IntKind.wrap .i64 (t1 + 1))), (4, .int .i64 t15), (8, .slice pA0 p0.length pc0), (9, .int .i64 (p0.length : Int)), (10, .int .i64 (IntKind.wrap .i64 (t3 + 1)))] (by kernel_rfl) ?_
        refine RegI.done (by kernel_rfl) ?_
        refine RunsI.go 1 [.c 9, .lp 9, .blk 0, .c 27] (by kernel_rfl) ?_
        refine RunsI.only [3, 4, 8, 9, 10] [(3, .int .i64 (IntKind.wrap .i64 (t1 + 1))), (4, .int .i64 t15), (8, .slice pA0 p0.length pc0), (9, .int .i64 (p0.length : Int)), (10, .int .i64 (IntKind.wrap .i64 (t3 + 1)))] (by kernel_rfl) (by kernel_rfl) ?_
        exact ih (IntKind.wrap .i64 (t1 + 1)) t15 (IntKind.wrap .i64 (t3 + 1)) w11 h (h13.pick [0] (by decide))
      · skip
        refine RunsI.fix 20 false hc17 (by kernel_rfl) (by kernel_rfl) ?_
        refine RunsI.cond false 25 (by kernel_rfl) ?_
        refine RunsI.go 1 [.blk 1, .c 26, .lp 9, .blk 0, .c 27] (by kernel_rfl) ?_
        refine RunsI.go 1 [.c 26, .lp 9, .blk 0, .c 27] (by kernel_rfl) ?_
        refine RunsI.region (by kernel_rfl) ?_
        refine RegI.pure 2 [3, 4, 8, 9, 10] [(3, .int .i64 t1), (4, .int .i64 t15), (8, .slice pA0 p0.length pc0), (9, .int .i64 (p0.length : Int)), (10, .int .i64 (IntKind.wrap .i64 (t3 + 1)))] (by kernel_rfl) ?_
        refine RegI.done (by kernel_rfl) ?_
        refine RunsI.go 1 [.c 9, .lp 9, .blk 0, .c 27] (by kernel_rfl) ?_
        refine RunsI.only [3, 4, 8, 9, 10] [(3, .int .i64 t1), (4, .int .i64 t15), (8, .slice pA0 p0.length pc0), (9, .int .i64 (p0.length : Int)), (10, .int .i64 (IntKind.wrap .i64 (t3 + 1)))] (by kernel_rfl) (by kernel_rfl) ?_
        exact ih t1 t15 (IntKind.wrap .i64 (t3 + 1)) w11 h (h13.pick [0] (by decide))
    · skip
      refine RunsI.fix 11 false hc4 (by kernel_rfl) (by kernel_rfl) ?_
      refine RunsI.cond false 14 (by kernel_rfl) ?_
      refine RunsI.go 1 [.c 27] (by kernel_rfl) ?_
      refine RunsI.only [3] [(3, .int .i64 t1)] (by kernel_rfl) (by kernel_rfl) ?_
      exact hk0 t1 w (Option.some.inj h).symm (hH.pick [] (by decide))
def chain_Count_27.f (K : Nat) (p0 : List Int) : Option Int := (chain_Count_27.l0 K p0 K 0 0 0).bind (fun t21 => some t21)
set_option maxRecDepth 100000 in
theorem chain_Count_27_ok (K : Nat) (M0 : Nat → Prop) (w0 : World) (pA0 : Option Addr) (pc0 : Nat) (p0 : List Int) (ho : ∀ b, M0 b → b < w0.heap.size) (hs0 : Sl (Rp.int .u8) w0 M0 (.slice pA0 p0.length pc0) p0) {r : Int} (h : chain_Count_27.f K p0 = some r) :
    Calls Try.prog 27 #[.slice pA0 p0.length pc0] w0 (chain_Count_27.post M0 w0 r) := by
  unfold chain_Count_27.f at h
  have h0 : Holds M0 w0 w0 [] := Holds.start ho
  have h00 := h0.addSl (Rp.int .u8) (.slice pA0 p0.length pc0) p0 (hs0.mono (fun _ _ hm => hm.elim id (fun hm => absurd hm (by simp [mines, sl]))))
  have h0 : Holds M0 w0 w0 [sl (Rp.int .u8) (.slice pA0 p0.length pc0) p0] := h00
  refine calls_of F27 rfl [.slice pA0 p0.length pc0] (by kernel_rfl) ?_
  refine RunsI.go 1 [.c 1, .c 2] (by kernel_rfl) ?_
  refine RunsI.region (by kernel_rfl) ?_
  refine RegI.pure 1 [0] [(0, .slice pA0 p0.length pc0)] (by kernel_rfl) ?_
  refine RegI.done (by kernel_rfl) ?_
  refine RunsI.go 1 [.c 3, .c 4] (by kernel_rfl) ?_
  refine RunsI.region (by kernel_rfl) ?_
  refine RegI.pure 3 [0, 3, 4] [(0, .slice pA0 p0.length pc0), (3, .int .i64 0), (4, .int .i64 0)] (by kernel_rfl) ?_
  refine RegI.done (by kernel_rfl) ?_
  refine RunsI.go 2 [.c 6, .c 7, .c 27] (by kernel_rfl) ?_
  refine RunsI.region (by kernel_rfl) ?_
  refine RegI.pure 3 [3, 4, 8, 9, 10] [(3, .int .i64 0), (4, .int .i64 0), (8, .slice pA0 p0.length pc0), (9, .int .i64 (p0.length : Int)), (10, .int .i64 0)] (by kernel_rfl) ?_
  refine RegI.done (by kernel_rfl) ?_
  refine RunsI.go 2 [.c 9, .lp 9, .blk 0, .c 27] (by kernel_rfl) ?_
  obtain ⟨x19, hx20, h⟩ := of_bind h
  refine RunsI.only [3, 4, 8, 9, 10] [(3, .int .i64 0), (4, .int .i64 0), (8, .slice pA0 p0.length pc0), (9, .int .i64 (p0.length : Int)), (10, .int .i64 0)] (by kernel_rfl) (by kernel_rfl) ?_
  refine chain_Count_27.l0_ok K M0 w0 pA0 pc0 p0 _ x19 ?_ K 0 0 0 w0 hx20 (h0.pick [0] (by decide))
  · intro t21 w23 hq24 h22
    (try rw [hq24] at h)
    refine RunsI.go 1 [.c 28, .c 29] (by kernel_rfl) ?_
    refine RunsI.region (by kernel_rfl) ?_
    refine RegI.pure 2 [2] [(2, .int .i64 t21)] (by kernel_rfl) ?_
    refine RegI.done (by kernel_rfl) ?_
    refine RunsI.ret (.int .i64 t21) (by kernel_rfl) (by kernel_rfl) ?_
    obtain rfl := Option.some.inj h
    exact ⟨rfl, h22.below⟩
end

/-! ### charabanc/charabanclaw26.awake (function 11) -/
section
def charabanclaw26_awake_11.post (M0 : Nat → Prop) (w0 : World) (r : Bool) : Ending → World → Prop := fun e w => e = .returned (.bool r) ∧ Below w0.heap.size w0 w
def charabanclaw26_awake_11.f (K : Nat) : Option Bool := cond (makeR 3 2) ((chain_Play_22.f K (List.replicate (Int.toNat 3) (false, false)) [1, (-1), 0, 2, (-1), (-2), (-2), (-1)]).bind fun yt17 => (chain_Snoop_24.f K 0 237).bind fun yt30 => (chain_Snoop_24.f K yt30.1 77).bind fun yt36 => (chain_Enabled_12.f K yt17.1).bind fun t42 => (charabancref26_Ints_26.f K yt17.2 [1, 1, 0, 2, 0, 0, 1, 2]).bind fun t57 => cond t57 (cond ((yt17.1.length : Int) == 3) (cond (inR 2 yt17.1.length) (cond ((rdD yt17.1 2).2) (cond (yt30.1 == 1) (cond (!yt30.2) (cond yt36.2 ((chain_Count_27.f K [203, 237, 237, 77]).bind fun t78 => cond (t78 == 1) (cond ((t42.length : Int) == 3) (cond (inR 2 t42.length) (cond (rdD t42 2) ((chain_Grants_19.f K yt17.1).bind fun t90 => some (t90 == (-1))) (some false)) none) (some false)) (some false)) (some false)) (some false)) (some false)) (some false)) none) (some false)) (some false)) none
set_option maxRecDepth 100000 in
theorem charabanclaw26_awake_11_ok (K : Nat) (M0 : Nat → Prop) (w0 : World) (ho : ∀ b, M0 b → b < w0.heap.size) {r : Bool} (h : charabanclaw26_awake_11.f K = some r) :
    Calls Try.prog 11 #[] w0 (charabanclaw26_awake_11.post M0 w0 r) := by
  unfold charabanclaw26_awake_11.f at h
  have h0 : Holds M0 w0 w0 [] := Holds.start ho
  have h0 : Holds M0 w0 w0 [] := h0
  refine calls_of F11 rfl [] (by kernel_rfl) ?_
  refine RunsI.go 1 [.c 1, .c 2] (by kernel_rfl) ?_
  refine RunsI.region (by kernel_rfl) ?_
  refine RegI.pure 1 [] [] (by kernel_rfl) ?_
  refine RegI.done (by kernel_rfl) ?_
  refine RunsI.go 1 [.c 3, .c 4] (by kernel_rfl) ?_
  refine RunsI.region (by kernel_rfl) ?_
  obtain ⟨hc1, h⟩ := of_cond0 h
  refine RegI.op (by kernel_rfl) (OpE.makeAll 9 22 49 2 [.bool false, .bool false] (k := .i64) (k' := .i64) (x := 3) (Rp.pair Rp.bool Rp.bool) (false, false) h0 (by kernel_rfl) (by kernel_rfl) (by kernel_rfl) (by kernel_rfl) hc1 (fun _ _ => ⟨[_], [_], rfl, rfl, rfl⟩) ?_)
  intro w2 A3 c4 h5 hb6
  refine RegI.op (by kernel_rfl) (OpE.lit 10 3 [.int .i64 1, .int .i64 (-1), .int .i64 0, .int .i64 2, .int .i64 (-1), .int .i64 (-2), .int .i64 (-2), .int .i64 (-1)] 8 h5 (by kernel_rfl) (by kernel_rfl) ?_)
  intro w7 b8 h9 hb10
  obtain ⟨⟨t17, t21⟩, hg16, h⟩ := of_bind h
  dsimp only at h
  have h11 := h9.boxOwn 1 rfl (Rp.int .i64) [1, (-1), 0, 2, (-1), (-2), (-2), (-1)] (cells_int _ _ _ _) (by decide)
  have h12 := h11.release 1 rfl
  refine RegI.op (by kernel_rfl) (OpE.call 11 (by kernel_rfl) 22 #[.slice A3 ((List.replicate (Int.toNat 3) (false, false)).length) c4, .slice (some ⟨b8, 0, none⟩) ([1, (-1), 0, 2, (-1), (-2), (-2), (-1)].length) 8] (by kernel_rfl) ((chain_Play_22_ok K (fun _ => False) w7  A3 c4 (some ⟨b8, 0, none⟩) 8 (List.replicate (Int.toNat 3) (false, false)) [1, (-1), 0, 2, (-1), (-2), (-2), (-1)] (fun _ hf => hf.elim) (h12.ownSl 0 rfl) (h12.slAny 1 rfl) hg16).mono ?_))
  rintro _ w13 ⟨A18, c19, A22, c23, rfl, hr25⟩
  refine ⟨_, rfl, ?_⟩
  have hb14 := hr25.below
  have h15 := h12.join (hr25.anyM ⟨own_flat (fun _ _ _ _ _ h => h), own_flat (fun _ _ _ _ _ h => h), trivial⟩ _ h12.old')
  refine RegI.pure 5 [1, 2] [(1, .slice A18 t17.length c19), (2, .slice A22 t21.length c23)] (by kernel_rfl) ?_
  refine RegI.done (by kernel_rfl) ?_
  refine RunsI.go 1 [.c 5, .c 6] (by kernel_rfl) ?_
  refine RunsI.region (by kernel_rfl) ?_
  obtain ⟨⟨t30, t31⟩, hg29, h⟩ := of_bind h
  dsimp only at h
  refine RegI.op (by kernel_rfl) (OpE.call 15 (by kernel_rfl) 24 #[.int .i64 0, .int .u8 237] (by kernel_rfl) ((chain_Snoop_24_ok K _ w13  0 237 h15.old' hg29).mono ?_))
  rintro _ w26 ⟨rfl, hb27⟩
  refine ⟨_, rfl, ?_⟩
  have h28 := h15.call hb27
  refine RegI.pure 5 [1, 2, 3, 4] [(1, .slice A18 t17.length c19), (2, .slice A22 t21.length c23), (3, .int .i64 t30), (4, .bool t31)] (by kernel_rfl) ?_
  refine RegI.done (by kernel_rfl) ?_
  refine RunsI.go 1 [.c 7, .c 8] (by kernel_rfl) ?_
  refine RunsI.region (by kernel_rfl) ?_
  refine RegI.pure 1 [1, 2, 3, 4, 19] [(1, .slice A18 t17.length c19), (2, .slice A22 t21.length c23), (3, .int .i64 t30), (4, .bool t31), (19, .int .i64 t30)] (by kernel_rfl) ?_
  obtain ⟨⟨t36, t37⟩, hg35, h⟩ := of_bind h
  dsimp only at h
  refine RegI.op (by kernel_rfl) (OpE.call 20 (by kernel_rfl) 24 #[.int .i64 t30, .int .u8 77] (by kernel_rfl) ((chain_Snoop_24_ok K _ w26  t30 77 h28.old' hg35).mono ?_))
  rintro _ w32 ⟨rfl, hb33⟩
  refine ⟨_, rfl, ?_⟩
  have h34 := h28.call hb33
  refine RegI.pure 5 [1, 2, 3, 4, 6] [(1, .slice A18 t17.length c19), (2, .slice A22 t21.length c23), (3, .int .i64 t30), (4, .bool t31), (6, .bool t37)] (by kernel_rfl) ?_
  refine RegI.done (by kernel_rfl) ?_
  refine RunsI.go 1 [.c 9, .c 10] (by kernel_rfl) ?_
  refine RunsI.region (by kernel_rfl) ?_
  refine RegI.pure 1 [1, 2, 3, 4, 6, 23] [(1, .slice A18 t17.length c19), (2, .slice A22 t21.length c23), (3, .int .i64 t30), (4, .bool t31), (6, .bool t37), (23, .slice A18 t17.length c19)] (by kernel_rfl) ?_
  obtain ⟨t42, hg41, h⟩ := of_bind h
  refine RegI.op (by kernel_rfl) (OpE.call 24 (by kernel_rfl) 12 #[.slice A18 t17.length c19] (by kernel_rfl) ((chain_Enabled_12_ok K (fun _ => False) w32  A18 c19 t17 (fun _ hf => hf.elim) (h34.ownSl 2 rfl) hg41).mono ?_))
  rintro _ w38 ⟨A43, c44, rfl, hr46⟩
  refine ⟨_, rfl, ?_⟩
  have hb39 := hr46.below
  have h40 := h34.join (hr46.anyM ⟨own_flat (fun _ _ _ _ _ h => h), trivial⟩ _ h34.old')
  refine RegI.pure 1 [1, 2, 3, 4, 6, 7] [(1, .slice A18 t17.length c19), (2, .slice A22 t21.length c23), (3, .int .i64 t30), (4, .bool t31), (6, .bool t37), (7, .slice A43 t42.length c44)] (by kernel_rfl) ?_
  refine RegI.done (by kernel_rfl) ?_
  refine RunsI.go 1 [.c 11, .c 12] (by kernel_rfl) ?_
  refine RunsI.region (by kernel_rfl) ?_
  refine RegI.pure 1 [1, 3, 4, 6, 7, 25] [(1, .slice A18 t17.length c19), (3, .int .i64 t30), (4, .bool t31), (6, .bool t37), (7, .slice A43 t42.length c44), (25, .slice A22 t21.length c23)] (by kernel_rfl) ?_
  refine RegI.op (by kernel_rfl) (OpE.lit 26 3 [.int .i64 1, .int .i64 1, .int .i64 0, .int .i64 2, .int .i64 0, .int .i64 0, .int .i64 1, .int .i64 2] 8 h40 (by kernel_rfl) (by kernel_rfl) ?_)
  intro w47 b48 h49 hb50
  obtain ⟨t57, hg56, h⟩ := of_bind h
  have h51 := h49.boxOwn 5 rfl (Rp.int .i64) [1, 1, 0, 2, 0, 0, 1, 2] (cells_int _ _ _ _) (by decide)
  have h52 := h51.release 5 rfl
  refine RegI.op (by kernel_rfl) (OpE.call 27 (by kernel_rfl) 26 #[.slice A22 t21.length c23, .slice (some ⟨b48, 0, none⟩) ([1, 1, 0, 2, 0, 0, 1, 2].length) 8] (by kernel_rfl) ((charabancref26_Ints_26_ok K (fun _ => False) w47  A22 c23 (some ⟨b48, 0, none⟩) 8 t21 [1, 1, 0, 2, 0, 0, 1, 2] (fun _ hf => hf.elim) (h52.ownSl 3 rfl) (h52.slAny 5 rfl) hg56).mono ?_))
  rintro _ w53 ⟨rfl, hb54⟩
  refine ⟨_, rfl, ?_⟩
  have h55 := h52.call hb54
  refine RegI.pure 1 [1, 3, 4, 6, 7, 28] [(1, .slice A18 t17.length c19), (3, .int .i64 t30), (4, .bool t31), (6, .bool t37), (7, .slice A43 t42.length c44), (28, .bool t57)] (by kernel_rfl) ?_
  rcases of_cond h with ⟨hc58, h⟩ | ⟨hc58, h⟩
  · skip
    refine RegI.fix 28 true hc58 (by kernel_rfl) (by kernel_rfl) ?_
    refine RegI.pure 5 [1, 3, 4, 6, 7, 33] [(1, .slice A18 t17.length c19), (3, .int .i64 t30), (4, .bool t31), (6, .bool t37), (7, .slice A43 t42.length c44), (33, .bool ((t17.length : Int) == 3))] (by kernel_rfl) ?_
    rcases of_cond h with ⟨hc59, h⟩ | ⟨hc59, h⟩
    · skip
      refine RegI.fix 33 true hc59 (by kernel_rfl) (by kernel_rfl) ?_
      refine RegI.pure 1 [1, 3, 4, 6, 7, 33, 34] [(1, .slice A18 t17.length c19), (3, .int .i64 t30), (4, .bool t31), (6, .bool t37), (7, .slice A43 t42.length c44), (33, .bool true), (34, .slice A18 t17.length c19)] (by kernel_rfl) ?_
      obtain ⟨hc60, h⟩ := of_cond0 h
      obtain ⟨b61, rfl⟩ := h55.ownSome 2 rfl hc60
      refine RegI.op (by kernel_rfl) (OpE.idxOwn 35 2 22 49 2 h55 (by kernel_rfl) rfl (by kernel_rfl) (by kernel_rfl) hc60 ?_)
      refine RegI.pure 1 [1, 3, 4, 6, 7, 33, 36] [(1, .slice (some ⟨b61, 0, none⟩) t17.length c19), (3, .int .i64 t30), (4, .bool t31), (6, .bool t37), (7, .slice A43 t42.length c44), (33, .bool true), (36, .pointer (some ⟨b61, (Int.toNat 2) * 2 + 1, none⟩))] (by kernel_rfl) ?_
      refine RegI.op (by kernel_rfl) (OpE.loadOwn 37 2 4 49 2 1 (o := (Int.toNat 2) * 2 + 1) h55 (by kernel_rfl) rfl (by kernel_rfl) (by kernel_rfl) hc60 (fun cs62 hk63 => ?_))
      obtain ⟨_, _, rfl, rfl, rfl⟩ := hk63
      refine ⟨.bool ((rdD t17 2).2), by kernel_rfl, ?_⟩
      refine RegI.pure 2 [1, 3, 4, 6, 7, 39] [(1, .slice (some ⟨b61, 0, none⟩) t17.length c19), (3, .int .i64 t30), (4, .bool t31), (6, .bool t37), (7, .slice A43 t42.length c44), (39, .bool ((rdD t17 2).2))] (by kernel_rfl) ?_
      rcases of_cond h with ⟨hc64, h⟩ | ⟨hc64, h⟩
      · skip
        refine RegI.fix 39 true hc64 (by kernel_rfl) (by kernel_rfl) ?_
        refine RegI.pure 4 [1, 4, 6, 7, 43] [(1, .slice (some ⟨b61, 0, none⟩) t17.length c19), (4, .bool t31), (6, .bool t37), (7, .slice A43 t42.length c44), (43, .bool (t30 == 1))] (by kernel_rfl) ?_
        rcases of_cond h with ⟨hc65, h⟩ | ⟨hc65, h⟩
        · skip
          refine RegI.fix 43 true hc65 (by kernel_rfl) (by kernel_rfl) ?_
          refine RegI.pure 4 [1, 6, 7, 47] [(1, .slice (some ⟨b61, 0, none⟩) t17.length c19), (6, .bool t37), (7, .slice A43 t42.length c44), (47, .bool (!t31))] (by kernel_rfl) ?_
          rcases of_cond h with ⟨hc66, h⟩ | ⟨hc66, h⟩
          · skip
            refine RegI.fix 47 true hc66 (by kernel_rfl) (by kernel_rfl) ?_
            refine RegI.pure 3 [1, 7, 50] [(1, .slice (some ⟨b61, 0, none⟩) t17.length c19), (7, .slice A43 t42.length c44), (50, .bool t37)] (by kernel_rfl) ?_
            rcases of_cond h with ⟨hc67, h⟩ | ⟨hc67, h⟩
            · skip
              refine RegI.fix 50 true hc67 (by kernel_rfl) (by kernel_rfl) ?_
              refine RegI.op (by kernel_rfl) (OpE.lit 51 5 [.int .u8 203, .int .u8 237, .int .u8 237, .int .u8 77] 4 h55 (by kernel_rfl) (by kernel_rfl) ?_)
              intro w68 b69 h70 hb71
              obtain ⟨t78, hg77, h⟩ := of_bind h
              have h72 := h70.boxOwn 6 rfl (Rp.int .u8) [203, 237, 237, 77] (cells_int _ _ _ _) (by decide)
              have h73 := h72.release 6 rfl
              refine RegI.op (by kernel_rfl) (OpE.call 52 (by kernel_rfl) 27 #[.slice (some ⟨b69, 0, none⟩) ([203, 237, 237, 77].length) 4] (by kernel_rfl) ((chain_Count_27_ok K _ w68  (some ⟨b69, 0, none⟩) 4 [203, 237, 237, 77] h73.old' (h73.get 6 rfl) hg77).mono ?_))
              rintro _ w74 ⟨rfl, hb75⟩
              refine ⟨_, rfl, ?_⟩
              have h76 := h73.call hb75
              refine RegI.pure 3 [1, 7, 55] [(1, .slice (some ⟨b61, 0, none⟩) t17.length c19), (7, .slice A43 t42.length c44), (55, .bool (t78 == 1))] (by kernel_rfl) ?_
              rcases of_cond h with ⟨hc79, h⟩ | ⟨hc79, h⟩
              · skip
                refine RegI.fix 55 true hc79 (by kernel_rfl) (by kernel_rfl) ?_
                refine RegI.pure 5 [1, 7, 60] [(1, .slice (some ⟨b61, 0, none⟩) t17.length c19), (7, .slice A43 t42.length c44), (60, .bool ((t42.length : Int) == 3))] (by kernel_rfl) ?_
                rcases of_cond h with ⟨hc80, h⟩ | ⟨hc80, h⟩
                · skip
                  refine RegI.fix 60 true hc80 (by kernel_rfl) (by kernel_rfl) ?_
                  refine RegI.pure 1 [1, 60, 61] [(1, .slice (some ⟨b61, 0, none⟩) t17.length c19), (60, .bool true), (61, .slice A43 t42.length c44)] (by kernel_rfl) ?_
                  obtain ⟨hc81, h⟩ := of_cond0 h
                  obtain ⟨b82, rfl⟩ := h76.ownSome 4 rfl hc81
                  refine RegI.op (by kernel_rfl) (OpE.idxOwn 62 4 24 4 2 h76 (by kernel_rfl) rfl (by kernel_rfl) (by kernel_rfl) hc81 ?_)
                  refine RegI.op (by kernel_rfl) (OpE.loadOwn 63 4 4 4 2 0 (o := (Int.toNat 2) * 1 + 0) h76 (by kernel_rfl) rfl (by kernel_rfl) (by kernel_rfl) hc81 (fun cs83 hk84 => ?_))
                  obtain rfl := hk84
                  refine ⟨.bool (rdD t42 2), by kernel_rfl, ?_⟩
                  refine RegI.pure 2 [1, 65] [(1, .slice (some ⟨b61, 0, none⟩) t17.length c19), (65, .bool (rdD t42 2))] (by kernel_rfl) ?_
                  rcases of_cond h with ⟨hc85, h⟩ | ⟨hc85, h⟩
                  · skip
                    refine RegI.fix 65 true hc85 (by kernel_rfl) (by kernel_rfl) ?_
                    refine RegI.pure 1 [65, 66] [(65, .bool true), (66, .slice (some ⟨b61, 0, none⟩) t17.length c19)] (by kernel_rfl) ?_
                    obtain ⟨t90, hg89, h⟩ := of_bind h
                    refine RegI.op (by kernel_rfl) (OpE.call 67 (by kernel_rfl) 19 #[.slice (some ⟨b61, 0, none⟩) t17.length c19] (by kernel_rfl) ((chain_Grants_19_ok K (fun _ => False) w74  (some ⟨b61, 0, none⟩) c19 t17 (fun _ hf => hf.elim) (h76.ownSl 2 rfl) hg89).mono ?_))
                    rintro _ w86 ⟨rfl, hb87⟩
                    refine ⟨_, rfl, ?_⟩
                    have h88 := h76.call hb87
                    refine RegI.pure 3 [0] [(0, .bool (t90 == (-1)))] (by kernel_rfl) ?_
                    refine RegI.done (by kernel_rfl) ?_
                    refine RunsI.ret (.bool (t90 == (-1))) (by kernel_rfl) (by kernel_rfl) ?_
                    obtain rfl := Option.some.inj h
                    exact ⟨rfl, h88.below⟩
                  · skip
                    refine RegI.fix 65 false hc85 (by kernel_rfl) (by kernel_rfl) ?_
                    refine RegI.pure 5 [0] [(0, .bool false)] (by kernel_rfl) ?_
                    refine RegI.done (by kernel_rfl) ?_
                    refine RunsI.ret (.bool false) (by kernel_rfl) (by kernel_rfl) ?_
                    obtain rfl := Option.some.inj h
                    exact ⟨rfl, h76.below⟩
                · skip
                  refine RegI.fix 60 false hc80 (by kernel_rfl) (by kernel_rfl) ?_
                  refine RegI.pure 10 [0] [(0, .bool false)] (by kernel_rfl) ?_
                  refine RegI.done (by kernel_rfl) ?_
                  refine RunsI.ret (.bool false) (by kernel_rfl) (by kernel_rfl) ?_
                  obtain rfl := Option.some.inj h
                  exact ⟨rfl, h76.below⟩
              · skip
                refine RegI.fix 55 false hc79 (by kernel_rfl) (by kernel_rfl) ?_
                refine RegI.pure 15 [0] [(0, .bool false)] (by kernel_rfl) ?_
                refine RegI.done (by kernel_rfl) ?_
                refine RunsI.ret (.bool false) (by kernel_rfl) (by kernel_rfl) ?_
                obtain rfl := Option.some.inj h
                exact ⟨rfl, h76.below⟩
            · skip
              refine RegI.fix 50 false hc67 (by kernel_rfl) (by kernel_rfl) ?_
              refine RegI.pure 20 [0] [(0, .bool false)] (by kernel_rfl) ?_
              refine RegI.done (by kernel_rfl) ?_
              refine RunsI.ret (.bool false) (by kernel_rfl) (by kernel_rfl) ?_
              obtain rfl := Option.some.inj h
              exact ⟨rfl, h55.below⟩
          · skip
            refine RegI.fix 47 false hc66 (by kernel_rfl) (by kernel_rfl) ?_
            refine RegI.pure 23 [0] [(0, .bool false)] (by kernel_rfl) ?_
            refine RegI.done (by kernel_rfl) ?_
            refine RunsI.ret (.bool false) (by kernel_rfl) (by kernel_rfl) ?_
            obtain rfl := Option.some.inj h
            exact ⟨rfl, h55.below⟩
        · skip
          refine RegI.fix 43 false hc65 (by kernel_rfl) (by kernel_rfl) ?_
          refine RegI.pure 27 [0] [(0, .bool false)] (by kernel_rfl) ?_
          refine RegI.done (by kernel_rfl) ?_
          refine RunsI.ret (.bool false) (by kernel_rfl) (by kernel_rfl) ?_
          obtain rfl := Option.some.inj h
          exact ⟨rfl, h55.below⟩
      · skip
        refine RegI.fix 39 false hc64 (by kernel_rfl) (by kernel_rfl) ?_
        refine RegI.pure 31 [0] [(0, .bool false)] (by kernel_rfl) ?_
        refine RegI.done (by kernel_rfl) ?_
        refine RunsI.ret (.bool false) (by kernel_rfl) (by kernel_rfl) ?_
        obtain rfl := Option.some.inj h
        exact ⟨rfl, h55.below⟩
    · skip
      refine RegI.fix 33 false hc59 (by kernel_rfl) (by kernel_rfl) ?_
      refine RegI.pure 37 [0] [(0, .bool false)] (by kernel_rfl) ?_
      refine RegI.done (by kernel_rfl) ?_
      refine RunsI.ret (.bool false) (by kernel_rfl) (by kernel_rfl) ?_
      obtain rfl := Option.some.inj h
      exact ⟨rfl, h55.below⟩
  · skip
    refine RegI.fix 28 false hc58 (by kernel_rfl) (by kernel_rfl) ?_
    refine RegI.pure 42 [0] [(0, .bool false)] (by kernel_rfl) ?_
    refine RegI.done (by kernel_rfl) ?_
    refine RunsI.ret (.bool false) (by kernel_rfl) (by kernel_rfl) ?_
    obtain rfl := Option.some.inj h
    exact ⟨rfl, h55.below⟩
end

/-! ### charabanc/charabancref26.Enabled (function 13) -/
section
def charabancref26_Enabled_13.post (M0 : Nat → Prop) (w0 : World) (r : (List Bool)) : Ending → World → Prop := fun e w => ∃ (A1 : Option Addr) (c1 : Nat), e = .returned (.slice A1 r.length c1) ∧ Holds M0 w0 w [own Rp.bool 4 (.slice A1 r.length c1) r]
def charabancref26_Enabled_13.l0 (K : Nat) (p0 : List (Bool × Bool)) : Nat → (List Bool) → Bool → Int → Option (List Bool)
  | 0, _, _, _ => none
  | k + 1, t4, t5, t6 => cond (decide (t6 < (p0.length : Int))) (cond (mayBe (t4.length + [t5].length) 1) (cond t5 (cond (inR t6 p0.length) (charabancref26_Enabled_13.l0 K p0 k (t4 ++ [t5]) (!((rdD p0 t6).2)) (IntKind.wrap .i64 (t6 + 1))) none) (charabancref26_Enabled_13.l0 K p0 k (t4 ++ [t5]) false (IntKind.wrap .i64 (t6 + 1)))) none) (some t4)
set_option maxRecDepth 100000 in
theorem charabancref26_Enabled_13.l0_ok (K : Nat) (M0 : Nat → Prop) (w0 : World) (pA0 : Option Addr) (pc0 : Nat) (p0 : List (Bool × Bool)) (R : Ending → World → Prop) (x : (List Bool)) (hk0 : ∀ (t27 : List Bool) (A25 : Option Addr) (c26 : Nat) (w1 : World), x = t27 → Holds M0 w0 w1 [own Rp.bool 4 (.slice A25 t27.length c26) t27] → RunsI F13 [.c 23] [(3, .slice A25 t27.length c26)] w1 R) :
    ∀ (k : Nat) (t4 : List Bool) (t5 : Bool) (t6 : Int) (A2 : Option Addr) (c3 : Nat) (w : World), charabancref26_Enabled_13.l0 K p0 k t4 t5 t6 = some x → Holds M0 w0 w [sl (Rp.pair Rp.bool Rp.bool) (.slice pA0 p0.length pc0) p0, own Rp.bool 4 (.slice A2 t4.length c3) t4] → RunsI F13 [.c 11, .lp 11, .blk 0, .c 23] [(0, .slice pA0 p0.length pc0), (3, .slice A2 t4.length c3), (4, .bool t5), (5, .int .i64 t6)] w R := by
  intro k
  induction k with
  | zero => intro t4 t5 t6 A2 c3 w h hH; exact absurd h (by simp [charabancref26_Enabled_13.l0])
  | succ k ih =>
    intro t4 t5 t6 A2 c3 w h hH
    rw [charabancref26_Enabled_13.l0.eq_2] at h
    refine RunsI.go 1 [.c 12, .c 17, .lp 11, .blk 0, .c 23] (by kernel_rfl) ?_
    refine RunsI.go 1 [.c 13, .c 14, .c 17, .lp 11, .blk 0, .c 23] (by kernel_rfl) ?_
    refine RunsI.region (by kernel_rfl) ?_
    refine RegI.pure 4 [0, 3, 4, 5, 9] [(0, .slice pA0 p0.length pc0), (3, .slice A2 t4.length c3), (4, .bool t5), (5, .int .i64 t6), (9, .bool (decide (t6 < (p0.length : Int))))] (by kernel_rfl) ?_
    refine RegI.done (by kernel_rfl) ?_
    rcases of_cond h with ⟨hc7, h⟩ | ⟨hc7, h⟩
    · skip
      refine RunsI.fix 9 true hc7 (by kernel_rfl) (by kernel_rfl) ?_
      refine RunsI.cond true 15 (by kernel_rfl) ?_
      refine RunsI.go 1 [.c 17, .lp 11, .blk 0, .c 23] (by kernel_rfl) ?_
      refine RunsI.go 3 [.c 20, .c 21, .blk 1, .c 22, .lp 11, .blk 0, .c 23] (by kernel_rfl) ?_
      refine RunsI.region (by kernel_rfl) ?_
      refine RegI.pure 2 [0, 4, 5, 12, 13] [(0, .slice pA0 p0.length pc0), (4, .bool t5), (5, .int .i64 t6), (12, .slice A2 t4.length c3), (13, .bool t5)] (by kernel_rfl) ?_
      refine RegI.op (by kernel_rfl) (OpE.lit 14 4 [.bool t5] 1 hH (by kernel_rfl) (by kernel_rfl) ?_)
      intro w8 b9 h10 hb11
      obtain ⟨hc12, h⟩ := of_cond0 h
      refine RegI.op (by kernel_rfl) (OpE.appendBox 15 1 2 24 4 1 [t5] 0 h10 (by kernel_rfl) (by kernel_rfl) (by kernel_rfl) rfl rfl rfl (cells_bool _ _ _) hc12 ?_)
      intro w13 A14 c15 h16 hk17
      refine RegI.pure 1 [0, 3, 4, 5] [(0, .slice pA0 p0.length pc0), (3, .slice A14 ((t4 ++ [t5]).length) c15), (4, .bool t5), (5, .int .i64 t6)] (by kernel_rfl) ?_
      refine RegI.done (by kernel_rfl) ?_
      refine RunsI.region (by kernel_rfl) ?_
      refine RegI.pure 2 [0, 3, 5, 17] [(0, .slice pA0 p0.length pc0), (3, .slice A14 ((t4 ++ [t5]).length) c15), (5, .int .i64 t6), (17, .bool t5)] (by kernel_rfl) ?_
      rcases of_cond h with ⟨hc18, h⟩ | ⟨hc18, h⟩
      · skip
        refine RegI.fix 17 true hc18 (by kernel_rfl) (by kernel_rfl) ?_
        refine RegI.pure 2 [0, 3, 5, 17, 18, 19] [(0, .slice pA0 p0.length pc0), (3, .slice A14 ((t4 ++ [t5]).length) c15), (5, .int .i64 t6), (17, .bool true), (18, .slice pA0 p0.length pc0), (19, .int .i64 t6)] (by kernel_rfl) ?_
        obtain ⟨hc19, h⟩ := of_cond0 h
        refine RegI.op (by kernel_rfl) (OpE.idxSl 20 0 27 t6 h16 (by kernel_rfl) rfl (by kernel_rfl) (by kernel_rfl) hc19 ?_)
        intro b20 o21 cs22 hk23 h24
        obtain ⟨_, _, rfl, rfl, rfl⟩ := hk23
        refine RegI.pure 1 [0, 3, 5, 17, 18, 19, 20, 21] [(0, .slice pA0 p0.length pc0), (3, .slice A14 ((t4 ++ [t5]).length) c15), (5, .int .i64 t6), (17, .bool true), (18, .slice pA0 p0.length pc0), (19, .int .i64 t6), (20, .pointer (some ⟨b20, o21, none⟩)), (21, .pointer (some ⟨b20, o21 + 1, none⟩))] (by kernel_rfl) ?_
        refine RegI.op (by kernel_rfl) (OpE.loadCel 22 3 4 b20 o21 1 (.bool ((rdD p0 t6).2)) h24 (by kernel_rfl) (by kernel_rfl) rfl (by kernel_rfl) ?_)
        refine RegI.pure 3 [0, 3, 4, 5, 18, 19, 20, 21, 22, 23] [(0, .slice pA0 p0.length pc0), (3, .slice A14 ((t4 ++ [t5]).length) c15), (4, .bool (!((rdD p0 t6).2))), (5, .int .i64 t6), (18, .slice pA0 p0.length pc0), (19, .int .i64 t6), (20, .pointer (some ⟨b20, o21, none⟩)), (21, .pointer (some ⟨b20, o21 + 1, none⟩)), (22, .bool ((rdD p0 t6).2)), (23, .bool (!((rdD p0 t6).2)))] (by kernel_rfl) ?_
        refine RegI.done (by kernel_rfl) ?_
        refine RunsI.go 1 [.c 22, .lp 11, .blk 0, .c 23] (by kernel_rfl) ?_
        refine RunsI.region (by kernel_rfl) ?_
        refine RegI.pure 3 [0, 3, 4, 5, 18, 19, 20, 21, 22, 23] [(0, .slice pA0 p0.length pc0), (3, .slice A14 ((t4 ++ [t5]).length) c15), (4, .bool (!((rdD p0 t6).2))), (5, .int .i64 (IntKind.wrap .i64 (t6 + 1))), (18, .slice pA0 p0.length pc0), (19, .int .i64 t6), (20, .pointer (some ⟨b20, o21, none⟩)), (21, .pointer (some ⟨b20, o21 + 1, none⟩)), (22, .bool ((rdD p0 t6).2)), (23, .bool (!((rdD p0 t6).2)))] (by kernel_rfl) ?_
        refine RegI.done (by kernel_rfl) ?_
        refine RunsI.go 1 [.c 11, .lp 11, .blk 0, .c 23] (by kernel_rfl) ?_
        refine RunsI.only [0, 3, 4, 5] [(0, .slice pA0 p0.length pc0), (3, .slice A14 ((t4 ++ [t5]).length) c15), (4, .bool (!((rdD p0 t6).2))), (5, .int .i64 (IntKind.wrap .i64 (t6 + 1)))] (by kernel_rfl) (by kernel_rfl) ?_
        exact ih (t4 ++ [t5]) (!((rdD p0 t6).2)) (IntKind.wrap .i64 (t6 + 1)) A14 c15 w13 h (h24.pick [0, 1] (by decide))
      · skip
        refine RegI.fix 17 false hc18 (by kernel_rfl) (by kernel_rfl) ?_
        refine RegI.pure 8 [0, 3, 4, 5, 18, 19, 20, 21, 22, 23] [(0, .slice pA0 p0.length pc0), (3, .slice A14 ((t4 ++ [t5]).length) c15), (4, .bool false), (5, .int .i64 t6), (18, undef), (19, undef), (20, undef), (21, undef), (22, undef), (23, undef)] (by kernel_rfl) ?_
        refine RegI.done (by kernel_rfl) ?_
        refine RunsI.go 1 [.c 22, .lp 11, .blk 0, .c 23] (by kernel_rfl) ?_
        refine RunsI.region (by kernel_rfl) ?_
        refine RegI.pure 3 [0, 3, 4, 5, 18, 19, 20, 21, 22, 23] [(0, .slice pA0 p0.length pc0), (3, .slice A14 ((t4 ++ [t5]).length) c15), (4, .bool false), (5, .int .i64 (IntKind.wrap .i64 (t6 + 1))), (18, undef), (19, undef), (20, undef), (21, undef), (22, undef), (23, undef)] (by kernel_rfl) ?_
        refine RegI.done (by kernel_rfl) ?_
        refine RunsI.go 1 [.c 11, .lp 11, .blk 0, .c 23] (by kernel_rfl) ?_
        refine RunsI.only [0, 3, 4, 5] [(0, .slice pA0 p0.length pc0), (3, .slice A14 ((t4 ++ [t5]).length) c15), (4, .bool false), (5, .int .i64 (IntKind.wrap .i64 (t6 + 1)))] (by kernel_rfl) (by kernel_rfl) ?_
        exact ih (t4 ++ [t5]) false (IntKind.wrap .i64 (t6 + 1)) A14 c15 w13 h (h16.pick [0, 1] (by decide))
    · skip
      refine RunsI.fix 9 false hc7 (by kernel_rfl) (by kernel_rfl) ?_
      refine RunsI.cond false 16 (by kernel_rfl) ?_
      refine RunsI.go 1 [.c 23] (by kernel_rfl) ?_
      refine RunsI.only [3] [(3, .slice A2 t4.length c3)] (by kernel_rfl) (by kernel_rfl) ?_
      exact hk0 t4 A2 c3 w (Option.some.inj h).symm (hH.pick [1] (by decide))
def charabancref26_Enabled_13.f (K : Nat) (p0 : List (Bool × Bool)) : Option (List Bool) := (charabancref26_Enabled_13.l0 K p0 K ([] : List Bool) true 0).bind (fun t32 => some t32)
set_option maxRecDepth 100000 in
theorem charabancref26_Enabled_13_ok (K : Nat) (M0 : Nat → Prop) (w0 : World) (pA0 : Option Addr) (pc0 : Nat) (p0 : List (Bool × Bool)) (ho : ∀ b, M0 b → b < w0.heap.size) (hs0 : Sl (Rp.pair Rp.bool Rp.bool) w0 M0 (.slice pA0 p0.length pc0) p0) {r : (List Bool)} (h : charabancref26_Enabled_13.f K p0 = some r) :
    Calls Try.prog 13 #[.slice pA0 p0.length pc0] w0 (charabancref26_Enabled_13.post M0 w0 r) := by
  unfold charabancref26_Enabled_13.f at h
  have h0 : Holds M0 w0 w0 [] := Holds.start ho
  have h00 := h0.addSl (Rp.pair Rp.bool Rp.bool) (.slice pA0 p0.length pc0) p0 (hs0.mono (fun _ _ hm => hm.elim id (fun hm => absurd hm (by simp [mines, sl]))))
  have h0 : Holds M0 w0 w0 [sl (Rp.pair Rp.bool Rp.bool) (.slice pA0 p0.length pc0) p0] := h00
  refine calls_of F13 rfl [.slice pA0 p0.length pc0] (by kernel_rfl) ?_
  refine RunsI.go 1 [.c 1, .c 2] (by kernel_rfl) ?_
  refine RunsI.region (by kernel_rfl) ?_
  refine RegI.pure 1 [0] [(0, .slice pA0 p0.length pc0)] (by kernel_rfl) ?_
  refine RegI.done (by kernel_rfl) ?_
  refine RunsI.go 1 [.c 3, .c 4] (by kernel_rfl) ?_
  refine RunsI.region (by kernel_rfl) ?_
  refine RegI.pure 1 [0, 3] [(0, .slice pA0 p0.length pc0), (3, .slice none 0 0)] (by kernel_rfl) ?_
  refine RegI.done (by kernel_rfl) ?_
  refine RunsI.go 1 [.c 5, .c 6] (by kernel_rfl) ?_
  refine RunsI.region (by kernel_rfl) ?_
  refine RegI.pure 1 [0, 3, 4] [(0, .slice pA0 p0.length pc0), (3, .slice none 0 0), (4, .bool true)] (by kernel_rfl) ?_
  refine RegI.done (by kernel_rfl) ?_
  refine RunsI.go 2 [.c 8, .c 9, .c 23] (by kernel_rfl) ?_
  refine RunsI.region (by kernel_rfl) ?_
  refine RegI.pure 1 [0, 3, 4, 5] [(0, .slice pA0 p0.length pc0), (3, .slice none 0 0), (4, .bool true), (5, .int .i64 0)] (by kernel_rfl) ?_
  refine RegI.done (by kernel_rfl) ?_
  refine RunsI.go 2 [.c 11, .lp 11, .blk 0, .c 23] (by kernel_rfl) ?_
  obtain ⟨x28, hx29, h⟩ := of_bind h
  have h1 := h0.addOwnNil Rp.bool 4
  refine RunsI.only [0, 3, 4, 5] [(0, .slice pA0 p0.length pc0), (3, .slice none (([] : List Bool).length) 0), (4, .bool true), (5, .int .i64 0)] (by kernel_rfl) (by kernel_rfl) ?_
  refine charabancref26_Enabled_13.l0_ok K M0 w0 pA0 pc0 p0 _ x28 ?_ K ([] : List Bool) true 0 none 0 w0 hx29 (h1.pick [0, 1] (by decide))
  · intro t32 A30 c31 w34 hq35 h33
    (try rw [hq35] at h)
    refine RunsI.go 1 [.c 24, .c 25] (by kernel_rfl) ?_
    refine RunsI.region (by kernel_rfl) ?_
    refine RegI.pure 2 [2] [(2, .slice A30 t32.length c31)] (by kernel_rfl) ?_
    refine RegI.done (by kernel_rfl) ?_
    refine RunsI.ret (.slice A30 t32.length c31) (by kernel_rfl) (by kernel_rfl) ?_
    obtain rfl := Option.some.inj h
    exact ⟨A30, c31, rfl, h33.pick [0] (by decide)⟩
end

/-! ### charabanc/charabanclaw26.plain (function 14) -/
section
def charabanclaw26_plain_14.post (M0 : Nat → Prop) (w0 : World) (r : (List (Bool × Bool))) : Ending → World → Prop := fun e w => ∃ (A1 : Option Addr) (c1 : Nat), e = .returned (.slice A1 r.length c1) ∧ Holds M0 w0 w [own (Rp.pair Rp.bool Rp.bool) 81 (.slice A1 r.length c1) r]
def charabanclaw26_plain_14.l0 (K : Nat) (p0 : List (Bool × Bool)) : Nat → (List (Bool × Bool)) → Int → Option (List (Bool × Bool))
  | 0, _, _ => none
  | k + 1, t4, t5 => cond (decide (t5 < (p0.length : Int))) (cond (inR t5 p0.length) (cond (mayBe (t4.length + [((rdD p0 t5).1, (rdD p0 t5).2)].length) 2) (charabanclaw26_plain_14.l0 K p0 k (t4 ++ [((rdD p0 t5).1, (rdD p0 t5).2)]) (IntKind.wrap .i64 (t5 + 1))) none) none) (some t4)
set_option maxRecDepth 100000 in
theorem charabanclaw26_plain_14.l0_ok (K : Nat) (M0 : Nat → Prop) (w0 : World) (pA0 : Option Addr) (pc0 : Nat) (p0 : List (Bool × Bool)) (R : Ending → World → Prop) (x : (List (Bool × Bool))) (hk0 : ∀ (t47 : List (Bool × Bool)) (A45 : Option Addr) (c46 : Nat) (w1 : World), x = t47 → Holds M0 w0 w1 [own (Rp.pair Rp.bool Rp.bool) 81 (.slice A45 t47.length c46) t47] → RunsI F14 [.c 19] [(3, .slice A45 t47.length c46)] w1 R) :
    ∀ (k : Nat) (t4 : List (Bool × Bool)) (t5 : Int) (A2 : Option Addr) (c3 : Nat) (w : World), charabanclaw26_plain_14.l0 K p0 k t4 t5 = some x → Holds M0 w0 w [sl (Rp.pair Rp.bool Rp.bool) (.slice pA0 p0.length pc0) p0, own (Rp.pair Rp.bool Rp.bool) 81 (.slice A2 t4.length c3) t4] → RunsI F14 [.c 9, .lp 9, .blk 0, .c 19] [(0, .slice pA0 p0.length pc0), (3, .slice A2 t4.length c3), (4, .int .i64 t5)] w R := by
  intro k
  induction k with
  | zero => intro t4 t5 A2 c3 w h hH; exact absurd h (by simp [charabanclaw26_plain_14.l0])
  | succ k ih =>
    intro t4 t5 A2 c3 w h hH
    rw [charabanclaw26_plain_14.l0.eq_2] at h
    refine RunsI.go 1 [.c 10, .c 15, .lp 9, .blk 0, .c 19] (by kernel_rfl) ?_
    refine RunsI.go 1 [.c 11, .c 12, .c 15, .lp 9, .blk 0, .c 19] (by kernel_rfl) ?_
    refine RunsI.region (by kernel_rfl) ?_
    refine RegI.pure 4 [0, 3, 4, 8] [(0, .slice pA0 p0.length pc0), (3, .slice A2 t4.length c3), (4, .int .i64 t5), (8, .bool (decide (t5 < (p0.length : Int))))] (by kernel_rfl) ?_
    refine RegI.done (by kernel_rfl) ?_
    rcases of_cond h with ⟨hc6, h⟩ | ⟨hc6, h⟩
    · skip
      refine RunsI.fix 8 true hc6 (by kernel_rfl) (by kernel_rfl) ?_
      refine RunsI.cond true 13 (by kernel_rfl) ?_
      refine RunsI.go 1 [.c 15, .lp 9, .blk 0, .c 19] (by kernel_rfl) ?_
      refine RunsI.go 2 [.c 17, .blk 1, .c 18, .lp 9, .blk 0, .c 19] (by kernel_rfl) ?_
      refine RunsI.any 15 (by kernel_rfl) (by kernel_rfl) (by kernel_rfl) (Kp (mines (pick [sl (Rp.pair Rp.bool Rp.bool) (.slice pA0 p0.length pc0) p0, own (Rp.pair Rp.bool Rp.bool) 81 (.slice A2 t4.length c3) t4] [1])) (World.drew w)) ?_
      have h8 := hH.drew
      generalize World.drew w = w7 at h8 ⊢
      have hS9 := Kp.refl (mines (pick [sl (Rp.pair Rp.bool Rp.bool) (.slice pA0 p0.length pc0) p0, own (Rp.pair Rp.bool Rp.bool) 81 (.slice A2 t4.length c3) t4] [1])) w7
      refine AnyE.pure 0 11 (.slice A2 t4.length c3) (by kernel_rfl) hS9 (fun _ => by kernel_rfl) ?_
      refine AnyE.pure 1 12 (.slice pA0 p0.length pc0) (by kernel_rfl) hS9 (fun _ => by kernel_rfl) ?_
      refine AnyE.pure 2 13 (.int .i64 t5) (by kernel_rfl) hS9 (fun _ => by kernel_rfl) ?_
      obtain ⟨hc11, h⟩ := of_cond0 h
      refine AnyE.idxSl 3 14 0 22 t5 h8 (by kernel_rfl) hS9 rfl (by kernel_rfl) (by kernel_rfl) hc11 ?_
      intro b12 o13 cs14 hk15 h16
      obtain ⟨_, _, rfl, rfl, rfl⟩ := hk15
      refine AnyE.pure 4 15 (.pointer (some ⟨b12, o13, none⟩)) (by kernel_rfl) hS9 (fun _ => by kernel_rfl) ?_
      refine AnyE.loadCel 5 16 2 4 b12 o13 0 (.bool ((rdD p0 t5).1)) [1] h16 rfl (by kernel_rfl) hS9 rfl rfl (by kernel_rfl) (by kernel_rfl) ?_
      refine AnyE.pure 6 17 (.slice pA0 p0.length pc0) (by kernel_rfl) hS9 (fun _ => by kernel_rfl) ?_
      refine AnyE.pure 7 18 (.int .i64 t5) (by kernel_rfl) hS9 (fun _ => by kernel_rfl) ?_
      refine AnyE.idxSl 8 19 0 22 t5 h16 (by kernel_rfl) hS9 rfl (by kernel_rfl) (by kernel_rfl) hc11 ?_
      intro b17 o18 cs19 hk20 h21
      obtain ⟨_, _, rfl, rfl, rfl⟩ := hk20
      refine AnyE.pure 9 20 (.pointer (some ⟨b17, o18 + 1, none⟩)) (by kernel_rfl) hS9 (fun _ => by kernel_rfl) ?_
      refine AnyE.loadCel 10 21 3 4 b17 o18 1 (.bool ((rdD p0 t5).2)) [1] h21 rfl (by kernel_rfl) hS9 rfl rfl (by kernel_rfl) (by kernel_rfl) ?_
      refine AnyE.pure 11 22 (.agg #[.bool ((rdD p0 t5).1), .bool ((rdD p0 t5).2)]) (by kernel_rfl) hS9 (fun _ => by kernel_rfl) ?_
      refine AnyE.one 12 (by kernel_rfl) (fun w22 hu23 => ?_)
      have h24 := h21.call hu23
      have hS25 := hS9.up hu23
      refine OpE.lit 23 81 [.bool ((rdD p0 t5).1), .bool ((rdD p0 t5).2)] 1 h24 (by kernel_rfl) (by kernel_rfl) ?_
      intro w26 b27 h28 hb29
      have hS30 := hS25.up hb29
      refine ⟨hS30, ?_⟩
      refine AnyE.one 13 (by kernel_rfl) (fun w31 hu32 => ?_)
      have h33 := h28.call hu32
      have hS34 := hS30.up hu32
      obtain ⟨hc35, h⟩ := of_cond0 h
      refine OpE.appendBox 24 1 4 27 81 2 [((rdD p0 t5).1, (rdD p0 t5).2)] 0 h33 (by kernel_rfl) (by kernel_rfl) (by kernel_rfl) rfl rfl rfl (⟨[_, _], _, rfl, ⟨[_], [_], rfl, rfl, rfl⟩, rfl⟩) hc35 ?_
      intro w36 A37 c38 h39 hk40
      have hS41 := hS34.trans hk40 (Kp.turned h21 [1] rfl 1 rfl rfl)
      refine ⟨hS41, ?_⟩
      refine AnyE.pure 14 3 (.slice A37 ((t4 ++ [((rdD p0 t5).1, (rdD p0 t5).2)]).length) c38) (by kernel_rfl) hS41 (fun _ => by kernel_rfl) ?_
      refine AnyE.done (by kernel_rfl) (fun w42 hu43 => ?_)
      have h44 := h39.call hu43
      refine RunsI.only [0, 3, 4] [(0, .slice pA0 p0.length pc0), (3, .slice A37 ((t4 ++ [((rdD p0 t5).1, (rdD p0 t5).2)]).length) c38), (4, .int .i64 t5)] (by kernel_rfl) (by kernel_rfl) ?_
      refine RunsI.go 1 [.c 18, .lp 9, .blk 0, .c 19] (by kernel_rfl) ?_
      refine RunsI.region (by kernel_rfl) ?_
      refine RegI.pure 3 [0, 3, 4] [(0, .slice pA0 p0.length pc0), (3, .slice A37 ((t4 ++ [((rdD p0 t5).1, (rdD p0 t5).2)]).length) c38), (4, .int .i64 (IntKind.wrap .i64 (t5 + 1)))] (by kernel_rfl) ?_
      refine RegI.done (by kernel_rfl) ?_
      refine RunsI.go 1 [.c 9, .lp 9, .blk 0, .c 19] (by kernel_rfl) ?_
      refine RunsI.only [0, 3, 4] [(0, .slice pA0 p0.length pc0), (3, .slice A37 ((t4 ++ [((rdD p0 t5).1, (rdD p0 t5).2)]).length) c38), (4, .int .i64 (IntKind.wrap .i64 (t5 + 1)))] (by kernel_rfl) (by kernel_rfl) ?_
      exact ih (t4 ++ [((rdD p0 t5).1, (rdD p0 t5).2)]) (IntKind.wrap .i64 (t5 + 1)) A37 c38 w42 h (h44.pick [0, 1] (by decide))
    · skip
      refine RunsI.fix 8 false hc6 (by kernel_rfl) (by kernel_rfl) ?_
      refine RunsI.cond false 14 (by kernel_rfl) ?_
      refine RunsI.go 1 [.c 19] (by kernel_rfl) ?_
      refine RunsI.only [3] [(3, .slice A2 t4.length c3)] (by kernel_rfl) (by kernel_rfl) ?_
      exact hk0 t4 A2 c3 w (Option.some.inj h).symm (hH.pick [1] (by decide))
def charabanclaw26_plain_14.f (K : Nat) (p0 : List (Bool × Bool)) : Option (List (Bool × Bool)) := (charabanclaw26_plain_14.l0 K p0 K ([] : List (Bool × Bool)) 0).bind (fun t52 => some t52)
set_option maxRecDepth 100000 in
theorem charabanclaw26_plain_14_ok (K : Nat) (M0 : Nat → Prop) (w0 : World) (pA0 : Option Addr) (pc0 : Nat) (p0 : List (Bool × Bool)) (ho : ∀ b, M0 b → b < w0.heap.size) (hs0 : Sl (Rp.pair Rp.bool Rp.bool) w0 M0 (.slice pA0 p0.length pc0) p0) {r : (List (Bool × Bool))} (h : charabanclaw26_plain_14.f K p0 = some r) :
    Calls Try.prog 14 #[.slice pA0 p0.length pc0] w0 (charabanclaw26_plain_14.post M0 w0 r) := by
  unfold charabanclaw26_plain_14.f at h
  have h0 : Holds M0 w0 w0 [] := Holds.start ho
  have h00 := h0.addSl (Rp.pair Rp.bool Rp.bool) (.slice pA0 p0.length pc0) p0 (hs0.mono (fun _ _ hm => hm.elim id (fun hm => absurd hm (by simp [mines, sl]))))
  have h0 : Holds M0 w0 w0 [sl (Rp.pair Rp.bool Rp.bool) (.slice pA0 p0.length pc0) p0] := h00
  refine calls_of F14 rfl [.slice pA0 p0.length pc0] (by kernel_rfl) ?_
  refine RunsI.go 1 [.c 1, .c 2] (by kernel_rfl) ?_
  refine RunsI.region (by kernel_rfl) ?_
  refine RegI.pure 1 [0] [(0, .slice pA0 p0.length pc0)] (by kernel_rfl) ?_
  refine RegI.done (by kernel_rfl) ?_
  refine RunsI.go 1 [.c 3, .c 4] (by kernel_rfl) ?_
  refine RunsI.region (by kernel_rfl) ?_
  refine RegI.pure 1 [0, 3] [(0, .slice pA0 p0.length pc0), (3, .slice none 0 0)] (by kernel_rfl) ?_
  refine RegI.done (by kernel_rfl) ?_
  refine RunsI.go 2 [.c 6, .c 7, .c 19] (by kernel_rfl) ?_
  refine RunsI.region (by kernel_rfl) ?_
  refine RegI.pure 1 [0, 3, 4] [(0, .slice pA0 p0.length pc0), (3, .slice none 0 0), (4, .int .i64 0)] (by kernel_rfl) ?_
  refine RegI.done (by kernel_rfl) ?_
  refine RunsI.go 2 [.c 9, .lp 9, .blk 0, .c 19] (by kernel_rfl) ?_
  obtain ⟨x48, hx49, h⟩ := of_bind h
  have h1 := h0.addOwnNil (Rp.pair Rp.bool Rp.bool) 81
  refine RunsI.only [0, 3, 4] [(0, .slice pA0 p0.length pc0), (3, .slice none (([] : List (Bool × Bool)).length) 0), (4, .int .i64 0)] (by kernel_rfl) (by kernel_rfl) ?_
  refine charabanclaw26_plain_14.l0_ok K M0 w0 pA0 pc0 p0 _ x48 ?_ K ([] : List (Bool × Bool)) 0 none 0 w0 hx49 (h1.pick [0, 1] (by decide))
  · intro t52 A50 c51 w54 hq55 h53
    (try rw [hq55] at h)
    refine RunsI.go 1 [.c 20, .c 21] (by kernel_rfl) ?_
    refine RunsI.region (by kernel_rfl) ?_
    refine RegI.pure 2 [2] [(2, .slice A50 t52.length c51)] (by kernel_rfl) ?_
    refine RegI.done (by kernel_rfl) ?_
    refine RunsI.ret (.slice A50 t52.length c51) (by kernel_rfl) (by kernel_rfl) ?_
    obtain rfl := Option.some.inj h
    exact ⟨A50, c51, rfl, h53.pick [0] (by decide)⟩
end

/-! ### charabanc/charabancref26.Grants (function 20) -/
section
def charabancref26_Grants_20.post (M0 : Nat → Prop) (w0 : World) (r : Int) : Ending → World → Prop := fun e w => e = .returned (.int .i64 r) ∧ Below w0.heap.size w0 w
def charabancref26_Grants_20.l0 (K : Nat) (p0 : List (Bool × Bool)) (t12 : List Bool) : Nat → Int → Option (Lp Int Unit)
  | 0, _ => none
  | k + 1, t13 => cond (decide (t13 < (p0.length : Int))) (cond (inR t13 p0.length) (Let (fun (t33 : Bool) => cond t33 (some (Lp.ret t13)) (charabancref26_Grants_20.l0 K p0 t12 k (IntKind.wrap .i64 (t13 + 1)))) (fun j36 => cond ((rdD p0 t13).1) (cond (inR t13 t12.length) (cond (rdD t12 t13) (j36 (!((rdD p0 t13).2))) (j36 false)) none) (j36 false))) none) (some (Lp.go ()))
set_option maxRecDepth 100000 in
theorem charabancref26_Grants_20.l0_ok (K : Nat) (M0 : Nat → Prop) (w0 : World) (pA0 : Option Addr) (pc0 : Nat) (p0 : List (Bool × Bool)) (t12 : List Bool) (c11 : Nat) (R : Ending → World → Prop) (x : Lp Int Unit) (hk0 : ∀ (w1 : World), x = Lp.go () → Holds M0 w0 w1 [] → RunsI F20 [.c 25] [] w1 R) (hk1 : ∀ (t40 : Int) (w1 : World), x = Lp.ret t40 → Holds M0 w0 w1 [] → R (.returned (.int .i64 t40)) w1) :
    ∀ (k : Nat) (t13 : Int) (A10 : Option Addr) (w : World), charabancref26_Grants_20.l0 K p0 t12 k t13 = some x → Holds M0 w0 w [sl (Rp.pair Rp.bool Rp.bool) (.slice pA0 p0.length pc0) p0, own Rp.bool 4 (.slice A10 t12.length c11) t12] → RunsI F20 [.c 9, .lp 9, .blk 0, .c 25] [(0, .slice pA0 p0.length pc0), (3, .slice A10 t12.length c11), (4, .int .i64 t13)] w R := by
  intro k
  induction k with
  | zero => intro t13 A10 w h hH; exact absurd h (by simp [charabancref26_Grants_20.l0])
  | succ k ih =>
    intro t13 A10 w h hH
    rw [charabancref26_Grants_20.l0.eq_2] at h
    refine RunsI.go 1 [.c 10, .c 15, .lp 9, .blk 0, .c 25] (by kernel_rfl) ?_
    refine RunsI.go 1 [.c 11, .c 12, .c 15, .lp 9, .blk 0, .c 25] (by kernel_rfl) ?_
    refine RunsI.region (by kernel_rfl) ?_
    refine RegI.pure 4 [0, 3, 4, 10] [(0, .slice pA0 p0.length pc0), (3, .slice A10 t12.length c11), (4, .int .i64 t13), (10, .bool (decide (t13 < (p0.length : Int))))] (by kernel_rfl) ?_
    refine RegI.done (by kernel_rfl) ?_
    rcases of_cond h with ⟨hc14, h⟩ | ⟨hc14, h⟩
    · skip
      refine RunsI.fix 10 true hc14 (by kernel_rfl) (by kernel_rfl) ?_
      refine RunsI.cond true 13 (by kernel_rfl) ?_
      refine RunsI.go 1 [.c 15, .lp 9, .blk 0, .c 25] (by kernel_rfl) ?_
      refine RunsI.go 3 [.c 18, .c 19, .blk 1, .c 24, .lp 9, .blk 0, .c 25] (by kernel_rfl) ?_
      refine RunsI.region (by kernel_rfl) ?_
      refine RegI.pure 2 [0, 3, 4, 13, 14] [(0, .slice pA0 p0.length pc0), (3, .slice A10 t12.length c11), (4, .int .i64 t13), (13, .slice pA0 p0.length pc0), (14, .int .i64 t13)] (by kernel_rfl) ?_
      obtain ⟨hc15, h⟩ := of_cond0 h
      refine RegI.op (by kernel_rfl) (OpE.idxSl 15 0 27 t13 hH (by kernel_rfl) rfl (by kernel_rfl) (by kernel_rfl) hc15 ?_)
      intro b16 o17 cs18 hk19 h20
      obtain ⟨_, _, rfl, rfl, rfl⟩ := hk19
      refine RegI.pure 1 [0, 3, 4, 16] [(0, .slice pA0 p0.length pc0), (3, .slice A10 t12.length c11), (4, .int .i64 t13), (16, .pointer (some ⟨b16, o17, none⟩))] (by kernel_rfl) ?_
      refine RegI.op (by kernel_rfl) (OpE.loadCel 17 2 4 b16 o17 0 (.bool ((rdD p0 t13).1)) h20 (by kernel_rfl) (by kernel_rfl) rfl (by kernel_rfl) ?_)
      refine RegI.pure 1 [0, 3, 4, 18] [(0, .slice pA0 p0.length pc0), (3, .slice A10 t12.length c11), (4, .int .i64 t13), (18, .bool ((rdD p0 t13).1))] (by kernel_rfl) ?_
      obtain ⟨j36, hJ37, h⟩ := of_let h
      have hj38 : ∀ (t33 : Bool) (A32 : Option Addr) (w35 : World), j36 t33 = some x → Holds M0 w0 w35 [sl (Rp.pair Rp.bool Rp.bool) (.slice pA0 p0.length pc0) p0, own Rp.bool 4 (.slice A32 t12.length c11) t12] → RegI F20 18 [.c 19, .blk 1, .c 24, .lp 9, .blk 0, .c 25] 19 [(0, .slice pA0 p0.length pc0), (3, .slice A32 t12.length c11), (4, .int .i64 t13), (31, .bool t33)] w35 R := by
        intro t33 A32 w35 h h34
        rw [hJ37] at h
        clear hJ37
        dsimp only at h
        refine RegI.done (by kernel_rfl) ?_
        rcases of_cond h with ⟨hc39, h⟩ | ⟨hc39, h⟩
        · skip
          refine RunsI.fix 31 true hc39 (by kernel_rfl) (by kernel_rfl) ?_
          refine RunsI.cond true 20 (by kernel_rfl) ?_
          refine RunsI.go 1 [.c 21, .c 22, .blk 1, .c 24, .lp 9, .blk 0, .c 25] (by kernel_rfl) ?_
          refine RunsI.region (by kernel_rfl) ?_
          refine RegI.pure 2 [2] [(2, .int .i64 t13)] (by kernel_rfl) ?_
          refine RegI.done (by kernel_rfl) ?_
          refine RunsI.ret (.int .i64 t13) (by kernel_rfl) (by kernel_rfl) ?_
          exact hk1 t13 w35 (Option.some.inj h).symm (h34.pick [] (by decide))
        · skip
          refine RunsI.fix 31 false hc39 (by kernel_rfl) (by kernel_rfl) ?_
          refine RunsI.cond false 23 (by kernel_rfl) ?_
          refine RunsI.go 1 [.blk 1, .c 24, .lp 9, .blk 0, .c 25] (by kernel_rfl) ?_
          refine RunsI.go 1 [.c 24, .lp 9, .blk 0, .c 25] (by kernel_rfl) ?_
          refine RunsI.region (by kernel_rfl) ?_
          refine RegI.pure 3 [0, 3, 4] [(0, .slice pA0 p0.length pc0), (3, .slice A32 t12.length c11), (4, .int .i64 (IntKind.wrap .i64 (t13 + 1)))] (by kernel_rfl) ?_
          refine RegI.done (by kernel_rfl) ?_
          refine RunsI.go 1 [.c 9, .lp 9, .blk 0, .c 25] (by kernel_rfl) ?_
          refine RunsI.only [0, 3, 4] [(0, .slice pA0 p0.length pc0), (3, .slice A32 t12.length c11), (4, .int .i64 (IntKind.wrap .i64 (t13 + 1)))] (by kernel_rfl) (by kernel_rfl) ?_
          exact ih (IntKind.wrap .i64 (t13 + 1)) A32 w35 h (h34.pick [0, 1] (by decide))
      clear hJ37
      rcases of_cond h with ⟨hc21, h⟩ | ⟨hc21, h⟩
      · skip
        refine RegI.fix 18 true hc21 (by kernel_rfl) (by kernel_rfl) ?_
        refine RegI.pure 2 [0, 3, 4, 18, 19, 20] [(0, .slice pA0 p0.length pc0), (3, .slice A10 t12.length c11), (4, .int .i64 t13), (18, .bool true), (19, .slice A10 t12.length c11), (20, .int .i64 t13)] (by kernel_rfl) ?_
        obtain ⟨hc22, h⟩ := of_cond0 h
        obtain ⟨b23, rfl⟩ := h20.ownSome 1 rfl hc22
        refine RegI.op (by kernel_rfl) (OpE.idxOwn 21 1 24 4 t13 h20 (by kernel_rfl) rfl (by kernel_rfl) (by kernel_rfl) hc22 ?_)
        refine RegI.op (by kernel_rfl) (OpE.loadOwn 22 1 4 4 t13 0 (o := (Int.toNat t13) * 1 + 0) h20 (by kernel_rfl) rfl (by kernel_rfl) (by kernel_rfl) hc22 (fun cs24 hk25 => ?_))
        obtain rfl := hk25
        refine ⟨.bool (rdD t12 t13), by kernel_rfl, ?_⟩
        refine RegI.pure 2 [0, 3, 4, 19, 20, 21, 22, 24] [(0, .slice pA0 p0.length pc0), (3, .slice (some ⟨b23, 0, none⟩) t12.length c11), (4, .int .i64 t13), (19, .slice (some ⟨b23, 0, none⟩) t12.length c11), (20, .int .i64 t13), (21, .pointer (some ⟨b23, (Int.toNat t13) * 1, none⟩)), (22, .bool (rdD t12 t13)), (24, .bool (rdD t12 t13))] (by kernel_rfl) ?_
        rcases of_cond h with ⟨hc26, h⟩ | ⟨hc26, h⟩
        · skip
          refine RegI.fix 24 true hc26 (by kernel_rfl) (by kernel_rfl) ?_
          refine RegI.pure 2 [0, 3, 4, 19, 20, 21, 22, 24, 25, 26] [(0, .slice pA0 p0.length pc0), (3, .slice (some ⟨b23, 0, none⟩) t12.length c11), (4, .int .i64 t13), (19, .slice (some ⟨b23, 0, none⟩) t12.length c11), (20, .int .i64 t13), (21, .pointer (some ⟨b23, (Int.toNat t13) * 1, none⟩)), (22, .bool (rdD t12 t13)), (24, .bool true), (25, .slice pA0 p0.length pc0), (26, .int .i64 t13)] (by kernel_rfl) ?_
          refine RegI.op (by kernel_rfl) (OpE.idxSl 27 0 27 t13 h20 (by kernel_rfl) rfl (by kernel_rfl) (by kernel_rfl) hc15 ?_)
          intro b27 o28 cs29 hk30 h31
          obtain ⟨_, _, rfl, rfl, rfl⟩ := hk30
          refine RegI.pure 1 [0, 3, 4, 19, 20, 21, 22, 24, 25, 26, 27, 28] [(0, .slice pA0 p0.length pc0), (3, .slice (some ⟨b23, 0, none⟩) t12.length c11), (4, .int .i64 t13), (19, .slice (some ⟨b23, 0, none⟩) t12.length c11), (20, .int .i64 t13), (21, .pointer (some ⟨b23, (Int.toNat t13) * 1, none⟩)), (22, .bool (rdD t12 t13)), (24, .bool true), (25, .slice pA0 p0.length pc0), (26, .int .i64 t13), (27, .pointer (some ⟨b27, o28, none⟩)), (28, .pointer (some ⟨b27, o28 + 1, none⟩))] (by kernel_rfl) ?_
          refine RegI.op (by kernel_rfl) (OpE.loadCel 29 3 4 b27 o28 1 (.bool ((rdD p0 t13).2)) h31 (by kernel_rfl) (by kernel_rfl) rfl (by kernel_rfl) ?_)
          refine RegI.pure 2 [0, 3, 4, 19, 20, 21, 22, 25, 26, 27, 28, 29, 30, 31] [(0, .slice pA0 p0.length pc0), (3, .slice (some ⟨b23, 0, none⟩) t12.length c11), (4, .int .i64 t13), (19, .slice (some ⟨b23, 0, none⟩) t12.length c11), (20, .int .i64 t13), (21, .pointer (some ⟨b23, (Int.toNat t13) * 1, none⟩)), (22, .bool (rdD t12 t13)), (25, .slice pA0 p0.length pc0), (26, .int .i64 t13), (27, .pointer (some ⟨b27, o28, none⟩)), (28, .pointer (some ⟨b27, o28 + 1, none⟩)), (29, .bool ((rdD p0 t13).2)), (30, .bool (!((rdD p0 t13).2))), (31, .bool (!((rdD p0 t13).2)))] (by kernel_rfl) ?_
          refine RegI.only [0, 3, 4, 31] [(0, .slice pA0 p0.length pc0), (3, .slice (some ⟨b23, 0, none⟩) t12.length c11), (4, .int .i64 t13), (31, .bool (!((rdD p0 t13).2)))] (by kernel_rfl) (by kernel_rfl) ?_
          exact hj38 (!((rdD p0 t13).2)) (some ⟨b23, 0, none⟩) w h (h31.pick [0, 1] (by decide))
        · skip
          refine RegI.fix 24 false hc26 (by kernel_rfl) (by kernel_rfl) ?_
          refine RegI.pure 7 [0, 3, 4, 19, 20, 21, 22, 25, 26, 27, 28, 29, 30, 31] [(0, .slice pA0 p0.length pc0), (3, .slice (some ⟨b23, 0, none⟩) t12.length c11), (4, .int .i64 t13), (19, .slice (some ⟨b23, 0, none⟩) t12.length c11), (20, .int .i64 t13), (21, .pointer (some ⟨b23, (Int.toNat t13) * 1, none⟩)), (22, .bool (rdD t12 t13)), (25, undef), (26, undef), (27, undef), (28, undef), (29, undef), (30, undef), (31, .bool false)] (by kernel_rfl) ?_
          refine RegI.only [0, 3, 4, 31] [(0, .slice pA0 p0.length pc0), (3, .slice (some ⟨b23, 0, none⟩) t12.length c11), (4, .int .i64 t13), (31, .bool false)] (by kernel_rfl) (by kernel_rfl) ?_
          exact hj38 false (some ⟨b23, 0, none⟩) w h (h20.pick [0, 1] (by decide))
      · skip
        refine RegI.fix 18 false hc21 (by kernel_rfl) (by kernel_rfl) ?_
        refine RegI.pure 13 [0, 3, 4, 19, 20, 21, 22, 25, 26, 27, 28, 29, 30, 31] [(0, .slice pA0 p0.length pc0), (3, .slice A10 t12.length c11), (4, .int .i64 t13), (19, undef), (20, undef), (21, undef), (22, undef), (25, undef), (26, undef), (27, undef), (28, undef), (29, undef), (30, undef), (31, .bool false)] (by kernel_rfl) ?_
        refine RegI.only [0, 3, 4, 31] [(0, .slice pA0 p0.length pc0), (3, .slice A10 t12.length c11), (4, .int .i64 t13), (31, .bool false)] (by kernel_rfl) (by kernel_rfl) ?_
        exact hj38 false A10 w h (h20.pick [0, 1] (by decide))
    · skip
      refine RunsI.fix 10 false hc14 (by kernel_rfl) (by kernel_rfl) ?_
      refine RunsI.cond false 14 (by kernel_rfl) ?_
      refine RunsI.go 1 [.c 25] (by kernel_rfl) ?_
      refine RunsI.only [] [] (by kernel_rfl) (by kernel_rfl) ?_
      exact hk0 w (Option.some.inj h).symm (hH.pick [] (by decide))
def charabancref26_Grants_20.f (K : Nat) (p0 : List (Bool × Bool)) : Option Int := (charabancref26_Enabled_13.f K p0).bind fun t5 => (charabancref26_Grants_20.l0 K p0 t5 K 0).bind (fun x41 => Lp.elim x41 (fun t45 => some t45) (fun _ => some (-1)))
set_option maxRecDepth 100000 in
theorem charabancref26_Grants_20_ok (K : Nat) (M0 : Nat → Prop) (w0 : World) (pA0 : Option Addr) (pc0 : Nat) (p0 : List (Bool × Bool)) (ho : ∀ b, M0 b → b < w0.heap.size) (hs0 : Sl (Rp.pair Rp.bool Rp.bool) w0 M0 (.slice pA0 p0.length pc0) p0) {r : Int} (h : charabancref26_Grants_20.f K p0 = some r) :
    Calls Try.prog 20 #[.slice pA0 p0.length pc0] w0 (charabancref26_Grants_20.post M0 w0 r) := by
  unfold charabancref26_Grants_20.f at h
  have h0 : Holds M0 w0 w0 [] := Holds.start ho
  have h00 := h0.addSl (Rp.pair Rp.bool Rp.bool) (.slice pA0 p0.length pc0) p0 (hs0.mono (fun _ _ hm => hm.elim id (fun hm => absurd hm (by simp [mines, sl]))))
  have h0 : Holds M0 w0 w0 [sl (Rp.pair Rp.bool Rp.bool) (.slice pA0 p0.length pc0) p0] := h00
  refine calls_of F20 rfl [.slice pA0 p0.length pc0] (by kernel_rfl) ?_
  refine RunsI.go 1 [.c 1, .c 2] (by kernel_rfl) ?_
  refine RunsI.region (by kernel_rfl) ?_
  refine RegI.pure 1 [0] [(0, .slice pA0 p0.length pc0)] (by kernel_rfl) ?_
  refine RegI.done (by kernel_rfl) ?_
  refine RunsI.go 1 [.c 3, .c 4] (by kernel_rfl) ?_
  refine RunsI.region (by kernel_rfl) ?_
  refine RegI.pure 1 [0, 5] [(0, .slice pA0 p0.length pc0), (5, .slice pA0 p0.length pc0)] (by kernel_rfl) ?_
  obtain ⟨t5, hg4, h⟩ := of_bind h
  refine RegI.op (by kernel_rfl) (OpE.call 6 (by kernel_rfl) 13 #[.slice pA0 p0.length pc0] (by kernel_rfl) ((charabancref26_Enabled_13_ok K _ w0  pA0 pc0 p0 h0.old' (h0.get 0 rfl) hg4).mono ?_))
  rintro _ w1 ⟨A6, c7, rfl, hr9⟩
  refine ⟨_, rfl, ?_⟩
  have hb2 := hr9.below
  have h3 := h0.join hr9
  refine RegI.pure 1 [0, 3] [(0, .slice pA0 p0.length pc0), (3, .slice A6 t5.length c7)] (by kernel_rfl) ?_
  refine RegI.done (by kernel_rfl) ?_
  refine RunsI.go 2 [.c 6, .c 7, .c 25] (by kernel_rfl) ?_
  refine RunsI.region (by kernel_rfl) ?_
  refine RegI.pure 1 [0, 3, 4] [(0, .slice pA0 p0.length pc0), (3, .slice A6 t5.length c7), (4, .int .i64 0)] (by kernel_rfl) ?_
  refine RegI.done (by kernel_rfl) ?_
  refine RunsI.go 2 [.c 9, .lp 9, .blk 0, .c 25] (by kernel_rfl) ?_
  obtain ⟨x41, hx42, h⟩ := of_bind h
  refine RunsI.only [0, 3, 4] [(0, .slice pA0 p0.length pc0), (3, .slice A6 t5.length c7), (4, .int .i64 0)] (by kernel_rfl) (by kernel_rfl) ?_
  refine charabancref26_Grants_20.l0_ok K M0 w0 pA0 pc0 p0 t5 c7 _ x41 ?_ ?_ K 0 A6 w1 hx42 (h3.pick [0, 1] (by decide))
  · intro w44 hq48 h43
    (try rw [hq48] at h)
    dsimp only [Lp.elim] at h
    refine RunsI.go 1 [.c 26, .c 27] (by kernel_rfl) ?_
    refine RunsI.region (by kernel_rfl) ?_
    refine RegI.pure 1 [2] [(2, .int .i64 (-1))] (by kernel_rfl) ?_
    refine RegI.done (by kernel_rfl) ?_
    refine RunsI.ret (.int .i64 (-1)) (by kernel_rfl) (by kernel_rfl) ?_
    obtain rfl := Option.some.inj h
    exact ⟨rfl, h43.below⟩
  · intro t45 w47 hq49 h46
    (try rw [hq49] at h)
    dsimp only [Lp.elim] at h
    obtain rfl := Option.some.inj h
    exact ⟨rfl, h46.below⟩
end

/-! ### charabanc/charabancref26.with (function 50) -/
section
def charabancref26_with_50.post (M0 : Nat → Prop) (w0 : World) (r : (List (Bool × Bool))) : Ending → World → Prop := fun e w => ∃ (A1 : Option Addr) (c1 : Nat), e = .returned (.slice A1 r.length c1) ∧ Holds M0 w0 w [own (Rp.pair Rp.bool Rp.bool) 81 (.slice A1 r.length c1) r]
def charabancref26_with_50.f (K : Nat) (p0 : List (Bool × Bool)) (p1 : Int) (p2_0 : Bool) (p2_1 : Bool) : Option (List (Bool × Bool)) := cond (mayBe (([] : List (Bool × Bool)).length + p0.length) 2) (cond (inR p1 (([] : List (Bool × Bool)) ++ p0).length) (some (stD (([] : List (Bool × Bool)) ++ p0) p1 (p2_0, p2_1))) none) none
set_option maxRecDepth 100000 in
theorem charabancref26_with_50_ok (K : Nat) (M0 : Nat → Prop) (w0 : World) (pA0 : Option Addr) (pc0 : Nat) (p0 : List (Bool × Bool)) (p1 : Int) (p2_0 : Bool) (p2_1 : Bool) (ho : ∀ b, M0 b → b < w0.heap.size) (hs0 : Sl (Rp.pair Rp.bool Rp.bool) w0 M0 (.slice pA0 p0.length pc0) p0) {r : (List (Bool × Bool))} (h : charabancref26_with_50.f K p0 p1 p2_0 p2_1 = some r) :
    Calls Try.prog 50 #[.slice pA0 p0.length pc0, .int .i64 p1, .agg #[.bool p2_0, .bool p2_1]] w0 (charabancref26_with_50.post M0 w0 r) := by
  unfold charabancref26_with_50.f at h
  have h0 : Holds M0 w0 w0 [] := Holds.start ho
  have h00 := h0.addSl (Rp.pair Rp.bool Rp.bool) (.slice pA0 p0.length pc0) p0 (hs0.mono (fun _ _ hm => hm.elim id (fun hm => absurd hm (by simp [mines, sl]))))
  have h0 : Holds M0 w0 w0 [sl (Rp.pair Rp.bool Rp.bool) (.slice pA0 p0.length pc0) p0] := h00
  refine calls_of F50 rfl [.slice pA0 p0.length pc0, .int .i64 p1, .agg #[.bool p2_0, .bool p2_1]] (by kernel_rfl) ?_
  refine RunsI.go 1 [.c 1, .c 2] (by kernel_rfl) ?_
  refine RunsI.region (by kernel_rfl) ?_
  refine RegI.op (by kernel_rfl) (OpE.box 5 81 [.bool p2_0, .bool p2_1] h0 (by kernel_rfl) (by kernel_rfl) ?_)
  intro w1 b2 h3 hb4
  refine RegI.pure 1 [0, 1, 5] [(0, .slice pA0 p0.length pc0), (1, .int .i64 p1), (5, .pointer (some ⟨b2, 0, none⟩))] (by kernel_rfl) ?_
  refine RegI.done (by kernel_rfl) ?_
  refine RunsI.go 1 [.c 3, .c 4] (by kernel_rfl) ?_
  refine RunsI.region (by kernel_rfl) ?_
  refine RegI.pure 1 [0, 1, 5, 7] [(0, .slice pA0 p0.length pc0), (1, .int .i64 p1), (5, .pointer (some ⟨b2, 0, none⟩)), (7, .slice none 0 0)] (by kernel_rfl) ?_
  refine RegI.done (by kernel_rfl) ?_
  refine RunsI.go 1 [.c 5, .c 6] (by kernel_rfl) ?_
  refine RunsI.region (by kernel_rfl) ?_
  refine RegI.pure 2 [1, 5, 8, 9] [(1, .int .i64 p1), (5, .pointer (some ⟨b2, 0, none⟩)), (8, .slice none 0 0), (9, .slice pA0 p0.length pc0)] (by kernel_rfl) ?_
  have h5 := h3.addOwnNil (Rp.pair Rp.bool Rp.bool) 81
  obtain ⟨hc6, h⟩ := of_cond0 h
  refine RegI.op (by kernel_rfl) (OpE.appendRow 10 2 27 81 2 (ys := p0) h5 (by kernel_rfl) (by kernel_rfl) (by kernel_rfl) rfl (h5.rdSl 0 rfl) hc6 ?_)
  intro w7 A8 c9 h10 hk11
  refine RegI.pure 1 [1, 5, 7] [(1, .int .i64 p1), (5, .pointer (some ⟨b2, 0, none⟩)), (7, .slice A8 ((([] : List (Bool × Bool)) ++ p0).length) c9)] (by kernel_rfl) ?_
  refine RegI.done (by kernel_rfl) ?_
  refine RunsI.go 1 [.c 7, .c 8] (by kernel_rfl) ?_
  refine RunsI.region (by kernel_rfl) ?_
  refine RegI.pure 2 [5, 7, 11, 12] [(5, .pointer (some ⟨b2, 0, none⟩)), (7, .slice A8 ((([] : List (Bool × Bool)) ++ p0).length) c9), (11, .slice A8 ((([] : List (Bool × Bool)) ++ p0).length) c9), (12, .int .i64 p1)] (by kernel_rfl) ?_
  refine RegI.op (by kernel_rfl) (OpE.loadBox 13 1 81 b2 0 (.agg #[.bool p2_0, .bool p2_1]) h10 (by kernel_rfl) (by kernel_rfl) rfl (by kernel_rfl) ?_)
  obtain ⟨hc12, h⟩ := of_cond0 h
  obtain ⟨b13, rfl⟩ := h10.ownSome 2 rfl hc12
  refine RegI.op (by kernel_rfl) (OpE.idxOwn 14 2 27 81 p1 h10 (by kernel_rfl) rfl (by kernel_rfl) (by kernel_rfl) hc12 ?_)
  refine RegI.op (by kernel_rfl) (OpE.storeOwn 2 81 81 p1 0 (.agg #[.bool p2_0, .bool p2_1]) (o := (Int.toNat p1) * 2 + 0) (p2_0, p2_1) h10 (by kernel_rfl) (by kernel_rfl) rfl (by kernel_rfl) (by kernel_rfl) (by kernel_rfl) hc12 (fun _ hk => by obtain ⟨_, _, rfl, rfl, rfl⟩ := hk; exact ⟨[_], [_], rfl, rfl, rfl⟩) ?_)
  intro w14 h15 hk16
  refine RegI.done (by kernel_rfl) ?_
  refine RunsI.go 1 [.c 9, .c 10] (by kernel_rfl) ?_
  refine RunsI.region (by kernel_rfl) ?_
  refine RegI.pure 2 [6] [(6, .slice (some ⟨b13, 0, none⟩) ((([] : List (Bool × Bool)) ++ p0).length) c9)] (by kernel_rfl) ?_
  refine RegI.done (by kernel_rfl) ?_
  refine RunsI.ret (.slice (some ⟨b13, 0, none⟩) ((([] : List (Bool × Bool)) ++ p0).length) c9) (by kernel_rfl) (by kernel_rfl) ?_
  have h17 : Holds M0 w0 w14 [sl (Rp.pair Rp.bool Rp.bool) (.slice pA0 p0.length pc0) p0, box b2 81 [.bool p2_0, .bool p2_1], own (Rp.pair Rp.bool Rp.bool) 81 (.slice (some ⟨b13, 0, none⟩) ((stD (([] : List (Bool × Bool)) ++ p0) p1 (p2_0, p2_1)).length) c9) (stD (([] : List (Bool × Bool)) ++ p0) p1 (p2_0, p2_1))] := by have hY : Holds M0 w0 w14 [sl (Rp.pair Rp.bool Rp.bool) (.slice pA0 p0.length pc0) p0, box b2 81 [.bool p2_0, .bool p2_1], own (Rp.pair Rp.bool Rp.bool) 81 (.slice (some ⟨b13, 0, none⟩) ((([] : List (Bool × Bool)) ++ p0).length) c9) (stD (([] : List (Bool × Bool)) ++ p0) p1 (p2_0, p2_1))] := h15; simpa only [stD_length] using hY
  refine R_is (v' := .slice (some ⟨b13, 0, none⟩) ((stD (([] : List (Bool × Bool)) ++ p0) p1 (p2_0, p2_1)).length) c9) (by simp only [stD_length]) ?_
  obtain rfl := Option.some.inj h
  exact ⟨(some ⟨b13, 0, none⟩), c9, rfl, h17.pick [2] (by decide)⟩
end

/-! ### charabanc/charabancref26.Ack (function 16) -/
section
def charabancref26_Ack_16.post (M0 : Nat → Prop) (w0 : World) (r : (List (Bool × Bool)) × Int) : Ending → World → Prop := fun e w => ∃ (A1 : Option Addr) (c1 : Nat), e = .returned (.tuple #[.slice A1 r.1.length c1, .int .i64 r.2]) ∧ Holds M0 w0 w [sl (Rp.pair Rp.bool Rp.bool) (.slice A1 r.1.length c1) r.1]
def charabancref26_Ack_16.f (K : Nat) (p0 : List (Bool × Bool)) : Option ((List (Bool × Bool)) × Int) := (charabancref26_Grants_20.f K p0).bind fun t5 => cond (decide (t5 < 0)) (some (p0, (-1))) ((charabancref26_with_50.f K p0 t5 false true).bind fun t11 => some (t11, t5))
set_option maxRecDepth 100000 in
theorem charabancref26_Ack_16_ok (K : Nat) (M0 : Nat → Prop) (w0 : World) (pA0 : Option Addr) (pc0 : Nat) (p0 : List (Bool × Bool)) (ho : ∀ b, M0 b → b < w0.heap.size) (hs0 : Sl (Rp.pair Rp.bool Rp.bool) w0 M0 (.slice pA0 p0.length pc0) p0) {r : (List (Bool × Bool)) × Int} (h : charabancref26_Ack_16.f K p0 = some r) :
    Calls Try.prog 16 #[.slice pA0 p0.length pc0] w0 (charabancref26_Ack_16.post M0 w0 r) := by
  unfold charabancref26_Ack_16.f at h
  have h0 : Holds M0 w0 w0 [] := Holds.start ho
  have h00 := h0.addSl (Rp.pair Rp.bool Rp.bool) (.slice pA0 p0.length pc0) p0 (hs0.mono (fun _ _ hm => hm.elim id (fun hm => absurd hm (by simp [mines, sl]))))
  have h0 : Holds M0 w0 w0 [sl (Rp.pair Rp.bool Rp.bool) (.slice pA0 p0.length pc0) p0] := h00
  refine calls_of F16 rfl [.slice pA0 p0.length pc0] (by kernel_rfl) ?_
  refine RunsI.go 1 [.c 1, .c 2] (by kernel_rfl) ?_
  refine RunsI.region (by kernel_rfl) ?_
  refine RegI.pure 2 [0] [(0, .slice pA0 p0.length pc0)] (by kernel_rfl) ?_
  refine RegI.done (by kernel_rfl) ?_
  refine RunsI.go 1 [.c 3, .c 4] (by kernel_rfl) ?_
  refine RunsI.region (by kernel_rfl) ?_
  refine RegI.pure 1 [0, 5] [(0, .slice pA0 p0.length pc0), (5, .slice pA0 p0.length pc0)] (by kernel_rfl) ?_
  obtain ⟨t5, hg4, h⟩ := of_bind h
  refine RegI.op (by kernel_rfl) (OpE.call 6 (by kernel_rfl) 20 #[.slice pA0 p0.length pc0] (by kernel_rfl) ((charabancref26_Grants_20_ok K _ w0  pA0 pc0 p0 h0.old' (h0.get 0 rfl) hg4).mono ?_))
  rintro _ w1 ⟨rfl, hb2⟩
  refine ⟨_, rfl, ?_⟩
  have h3 := h0.call hb2
  refine RegI.pure 1 [0, 4] [(0, .slice pA0 p0.length pc0), (4, .int .i64 t5)] (by kernel_rfl) ?_
  refine RegI.done (by kernel_rfl) ?_
  refine RunsI.go 2 [.c 6, .c 7, .c 12] (by kernel_rfl) ?_
  refine RunsI.region (by kernel_rfl) ?_
  refine RegI.pure 2 [0, 4, 8] [(0, .slice pA0 p0.length pc0), (4, .int .i64 t5), (8, .bool (decide (t5 < 0)))] (by kernel_rfl) ?_
  refine RegI.done (by kernel_rfl) ?_
  rcases of_cond h with ⟨hc6, h⟩ | ⟨hc6, h⟩
  · skip
    refine RunsI.fix 8 true hc6 (by kernel_rfl) (by kernel_rfl) ?_
    refine RunsI.cond true 8 (by kernel_rfl) ?_
    refine RunsI.go 1 [.c 9, .c 10, .c 12] (by kernel_rfl) ?_
    refine RunsI.region (by kernel_rfl) ?_
    refine RegI.pure 3 [2, 3] [(2, .slice pA0 p0.length pc0), (3, .int .i64 (-1))] (by kernel_rfl) ?_
    refine RegI.done (by kernel_rfl) ?_
    refine RunsI.ret (.tuple #[.slice pA0 p0.length pc0, .int .i64 (-1)]) (by kernel_rfl) (by kernel_rfl) ?_
    obtain rfl := Option.some.inj h
    exact ⟨pA0, pc0, rfl, h3.pick [0] (by decide)⟩
  · skip
    refine RunsI.fix 8 false hc6 (by kernel_rfl) (by kernel_rfl) ?_
    refine RunsI.cond false 11 (by kernel_rfl) ?_
    refine RunsI.go 1 [.c 12] (by kernel_rfl) ?_
    refine RunsI.go 1 [.c 13, .c 14] (by kernel_rfl) ?_
    refine RunsI.region (by kernel_rfl) ?_
    refine RegI.pure 3 [4, 10, 11, 12] [(4, .int .i64 t5), (10, .slice pA0 p0.length pc0), (11, .int .i64 t5), (12, .agg #[.bool false, .bool true])] (by kernel_rfl) ?_
    obtain ⟨t11, hg10, h⟩ := of_bind h
    refine RegI.op (by kernel_rfl) (OpE.call 13 (by kernel_rfl) 50 #[.slice pA0 p0.length pc0, .int .i64 t5, .agg #[.bool false, .bool true]] (by kernel_rfl) ((charabancref26_with_50_ok K _ w1  pA0 pc0 p0 t5 false true h3.old' (h3.get 0 rfl) hg10).mono ?_))
    rintro _ w7 ⟨A12, c13, rfl, hr15⟩
    refine ⟨_, rfl, ?_⟩
    have hb8 := hr15.below
    have h9 := h3.join hr15
    refine RegI.pure 3 [2, 3] [(2, .slice A12 t11.length c13), (3, .int .i64 t5)] (by kernel_rfl) ?_
    refine RegI.done (by kernel_rfl) ?_
    refine RunsI.ret (.tuple #[.slice A12 t11.length c13, .int .i64 t5]) (by kernel_rfl) (by kernel_rfl) ?_
    have h16 := h9.release 1 rfl
    obtain rfl := Option.some.inj h
    exact ⟨A12, c13, rfl, h16.pick [1] (by decide)⟩
end

/-! ### charabanc/charabancref26.Reti (function 18) -/
section
def charabancref26_Reti_18.post (M0 : Nat → Prop) (w0 : World) (r : (List (Bool × Bool)) × Int) : Ending → World → Prop := fun e w => ∃ (A1 : Option Addr) (c1 : Nat), e = .returned (.tuple #[.slice A1 r.1.length c1, .int .i64 r.2]) ∧ Holds M0 w0 w [sl (Rp.pair Rp.bool Rp.bool) (.slice A1 r.1.length c1) r.1]
def charabancref26_Reti_18.l0 (K : Nat) (p0 : List (Bool × Bool)) : Nat → Int → Option (Lp ((List (Bool × Bool)) × Int) Unit)
  | 0, _ => none
  | k + 1, t1 => cond (decide (t1 < (p0.length : Int))) (cond (inR t1 p0.length) (cond ((rdD p0 t1).2) ((charabancref26_with_50.f K p0 t1 ((rdD p0 t1).1) false).bind fun t19 => some (Lp.ret (t19, t1))) (charabancref26_Reti_18.l0 K p0 k (IntKind.wrap .i64 (t1 + 1)))) none) (some (Lp.go ()))
set_option maxRecDepth 100000 in
theorem charabancref26_Reti_18.l0_ok (K : Nat) (M0 : Nat → Prop) (w0 : World) (pA0 : Option Addr) (pc0 : Nat) (p0 : List (Bool × Bool)) (R : Ending → World → Prop) (x : Lp ((List (Bool × Bool)) × Int) Unit) (hk0 : ∀ (w1 : World), x = Lp.go () → Holds M0 w0 w1 [sl (Rp.pair Rp.bool Rp.bool) (.slice pA0 p0.length pc0) p0] → RunsI F18 [.c 23] [(0, .slice pA0 p0.length pc0)] w1 R) (hk1 : ∀ (t26 : List (Bool × Bool)) (t27 : Int) (A24 : Option Addr) (c25 : Nat) (w1 : World), x = Lp.ret (t26, t27) → Holds M0 w0 w1 [own (Rp.pair Rp.bool Rp.bool) 81 (.slice A24 t26.length c25) t26] → R (.returned (.tuple #[.slice A24 t26.length c25, .int .i64 t27])) w1) :
    ∀ (k : Nat) (t1 : Int) (w : World), charabancref26_Reti_18.l0 K p0 k t1 = some x → Holds M0 w0 w [sl (Rp.pair Rp.bool Rp.bool) (.slice pA0 p0.length pc0) p0] → RunsI F18 [.c 7, .lp 7, .blk 0, .c 23] [(0, .slice pA0 p0.length pc0), (4, .int .i64 t1)] w R := by
  intro k
  induction k with
  | zero => intro t1 w h hH; exact absurd h (by simp [charabancref26_Reti_18.l0])
  | succ k ih =>
    intro t1 w h hH
    rw [charabancref26_Reti_18.l0.eq_2] at h
    refine RunsI.go 1 [.c 8, .c 13, .lp 7, .blk 0, .c 23] (by kernel_rfl) ?_
    refine RunsI.go 1 [.c 9, .c 10, .c 13, .lp 7, .blk 0, .c 23] (by kernel_rfl) ?_
    refine RunsI.region (by kernel_rfl) ?_
    refine RegI.pure 4 [0, 4, 8] [(0, .slice pA0 p0.length pc0), (4, .int .i64 t1), (8, .bool (decide (t1 < (p0.length : Int))))] (by kernel_rfl) ?_
    refine RegI.done (by kernel_rfl) ?_
    rcases of_cond h with ⟨hc2, h⟩ | ⟨hc2, h⟩
    · skip
      refine RunsI.fix 8 true hc2 (by kernel_rfl) (by kernel_rfl) ?_
      refine RunsI.cond true 11 (by kernel_rfl) ?_
      refine RunsI.go 1 [.c 13, .lp 7, .blk 0, .c 23] (by kernel_rfl) ?_
      refine RunsI.go 3 [.c 16, .c 17, .blk 1, .c 22, .lp 7, .blk 0, .c 23] (by kernel_rfl) ?_
      refine RunsI.region (by kernel_rfl) ?_
      refine RegI.pure 2 [0, 4, 11, 12] [(0, .slice pA0 p0.length pc0), (4, .int .i64 t1), (11, .slice pA0 p0.length pc0), (12, .int .i64 t1)] (by kernel_rfl) ?_
      obtain ⟨hc3, h⟩ := of_cond0 h
      refine RegI.op (by kernel_rfl) (OpE.idxSl 13 0 27 t1 hH (by kernel_rfl) rfl (by kernel_rfl) (by kernel_rfl) hc3 ?_)
      intro b4 o5 cs6 hk7 h8
      obtain ⟨_, _, rfl, rfl, rfl⟩ := hk7
      refine RegI.pure 1 [0, 4, 14] [(0, .slice pA0 p0.length pc0), (4, .int .i64 t1), (14, .pointer (some ⟨b4, o5 + 1, none⟩))] (by kernel_rfl) ?_
      refine RegI.op (by kernel_rfl) (OpE.loadCel 15 1 4 b4 o5 1 (.bool ((rdD p0 t1).2)) h8 (by kernel_rfl) (by kernel_rfl) rfl (by kernel_rfl) ?_)
      refine RegI.done (by kernel_rfl) ?_
      rcases of_cond h with ⟨hc9, h⟩ | ⟨hc9, h⟩
      · skip
        refine RunsI.fix 15 true hc9 (by kernel_rfl) (by kernel_rfl) ?_
        refine RunsI.cond true 18 (by kernel_rfl) ?_
        refine RunsI.go 1 [.c 19, .c 20, .blk 1, .c 22, .lp 7, .blk 0, .c 23] (by kernel_rfl) ?_
        refine RunsI.region (by kernel_rfl) ?_
        refine RegI.pure 4 [4, 16, 17, 18, 19] [(4, .int .i64 t1), (16, .slice pA0 p0.length pc0), (17, .int .i64 t1), (18, .slice pA0 p0.length pc0), (19, .int .i64 t1)] (by kernel_rfl) ?_
        refine RegI.op (by kernel_rfl) (OpE.idxSl 20 0 27 t1 h8 (by kernel_rfl) rfl (by kernel_rfl) (by kernel_rfl) hc3 ?_)
        intro b10 o11 cs12 hk13 h14
        obtain ⟨_, _, rfl, rfl, rfl⟩ := hk13
        refine RegI.pure 1 [4, 16, 17, 21] [(4, .int .i64 t1), (16, .slice pA0 p0.length pc0), (17, .int .i64 t1), (21, .pointer (some ⟨b10, o11, none⟩))] (by kernel_rfl) ?_
        refine RegI.op (by kernel_rfl) (OpE.loadCel 22 2 4 b10 o11 0 (.bool ((rdD p0 t1).1)) h14 (by kernel_rfl) (by kernel_rfl) rfl (by kernel_rfl) ?_)
        refine RegI.pure 1 [4, 16, 17, 23] [(4, .int .i64 t1), (16, .slice pA0 p0.length pc0), (17, .int .i64 t1), (23, .agg #[.bool ((rdD p0 t1).1), .bool false])] (by kernel_rfl) ?_
        obtain ⟨t19, hg18, h⟩ := of_bind h
        refine RegI.op (by kernel_rfl) (OpE.call 24 (by kernel_rfl) 50 #[.slice pA0 p0.length pc0, .int .i64 t1, .agg #[.bool ((rdD p0 t1).1), .bool false]] (by kernel_rfl) ((charabancref26_with_50_ok K _ w  pA0 pc0 p0 t1 ((rdD p0 t1).1) false h14.old' (h14.get 0 rfl) hg18).mono ?_))
        rintro _ w15 ⟨A20, c21, rfl, hr23⟩
        refine ⟨_, rfl, ?_⟩
        have hb16 := hr23.below
        have h17 := h14.join hr23
        refine RegI.pure 3 [2, 3] [(2, .slice A20 t19.length c21), (3, .int .i64 t1)] (by kernel_rfl) ?_
        refine RegI.done (by kernel_rfl) ?_
        refine RunsI.ret (.tuple #[.slice A20 t19.length c21, .int .i64 t1]) (by kernel_rfl) (by kernel_rfl) ?_
        exact hk1 t19 t1 A20 c21 w15 (Option.some.inj h).symm (h17.pick [3] (by decide))
      · skip
        refine RunsI.fix 15 false hc9 (by kernel_rfl) (by kernel_rfl) ?_
        refine RunsI.cond false 21 (by kernel_rfl) ?_
        refine RunsI.go 1 [.blk 1, .c 22, .lp 7, .blk 0, .c 23] (by kernel_rfl) ?_
        refine RunsI.go 1 [.c 22, .lp 7, .blk 0, .c 23] (by kernel_rfl) ?_
        refine RunsI.region (by kernel_rfl) ?_
        refine RegI.pure 3 [0, 4] [(0, .slice pA0 p0.length pc0), (4, .int .i64 (IntKind.wrap .i64 (t1 + 1)))] (by kernel_rfl) ?_
        refine RegI.done (by kernel_rfl) ?_
        refine RunsI.go 1 [.c 7, .lp 7, .blk 0, .c 23] (by kernel_rfl) ?_
        refine RunsI.only [0, 4] [(0, .slice pA0 p0.length pc0), (4, .int .i64 (IntKind.wrap .i64 (t1 + 1)))] (by kernel_rfl) (by kernel_rfl) ?_
        exact ih (IntKind.wrap .i64 (t1 + 1)) w h (h8.pick [0] (by decide))
    · skip
      refine RunsI.fix 8 false hc2 (by kernel_rfl) (by kernel_rfl) ?_
      refine RunsI.cond false 12 (by kernel_rfl) ?_
      refine RunsI.go 1 [.c 23] (by kernel_rfl) ?_
      refine RunsI.only [0] [(0, .slice pA0 p0.length pc0)] (by kernel_rfl) (by kernel_rfl) ?_
      exact hk0 w (Option.some.inj h).symm (hH.pick [0] (by decide))
def charabancref26_Reti_18.f (K : Nat) (p0 : List (Bool × Bool)) : Option ((List (Bool × Bool)) × Int) := (charabancref26_Reti_18.l0 K p0 K 0).bind (fun x28 => Lp.elim x28 (fun yx28 => some (yx28.1, yx28.2)) (fun _ => some (p0, (-1))))
set_option maxRecDepth 100000 in
theorem charabancref26_Reti_18_ok (K : Nat) (M0 : Nat → Prop) (w0 : World) (pA0 : Option Addr) (pc0 : Nat) (p0 : List (Bool × Bool)) (ho : ∀ b, M0 b → b < w0.heap.size) (hs0 : Sl (Rp.pair Rp.bool Rp.bool) w0 M0 (.slice pA0 p0.length pc0) p0) {r : (List (Bool × Bool)) × Int} (h : charabancref26_Reti_18.f K p0 = some r) :
    Calls Try.prog 18 #[.slice pA0 p0.length pc0] w0 (charabancref26_Reti_18.post M0 w0 r) := by
  unfold charabancref26_Reti_18.f at h
  have h0 : Holds M0 w0 w0 [] := Holds.start ho
  have h00 := h0.addSl (Rp.pair Rp.bool Rp.bool) (.slice pA0 p0.length pc0) p0 (hs0.mono (fun _ _ hm => hm.elim id (fun hm => absurd hm (by simp [mines, sl]))))
  have h0 : Holds M0 w0 w0 [sl (Rp.pair Rp.bool Rp.bool) (.slice pA0 p0.length pc0) p0] := h00
  refine calls_of F18 rfl [.slice pA0 p0.length pc0] (by kernel_rfl) ?_
  refine RunsI.go 1 [.c 1, .c 2] (by kernel_rfl) ?_
  refine RunsI.region (by kernel_rfl) ?_
  refine RegI.pure 2 [0] [(0, .slice pA0 p0.length pc0)] (by kernel_rfl) ?_
  refine RegI.done (by kernel_rfl) ?_
  refine RunsI.go 2 [.c 4, .c 5, .c 23] (by kernel_rfl) ?_
  refine RunsI.region (by kernel_rfl) ?_
  refine RegI.pure 1 [0, 4] [(0, .slice pA0 p0.length pc0), (4, .int .i64 0)] (by kernel_rfl) ?_
  refine RegI.done (by kernel_rfl) ?_
  refine RunsI.go 2 [.c 7, .lp 7, .blk 0, .c 23] (by kernel_rfl) ?_
  obtain ⟨x28, hx29, h⟩ := of_bind h
  refine RunsI.only [0, 4] [(0, .slice pA0 p0.length pc0), (4, .int .i64 0)] (by kernel_rfl) (by kernel_rfl) ?_
  refine charabancref26_Reti_18.l0_ok K M0 w0 pA0 pc0 p0 _ x28 ?_ ?_ K 0 w0 hx29 (h0.pick [0] (by decide))
  · intro w31 hq38 h30
    (try rw [hq38] at h)
    dsimp only [Lp.elim] at h
    refine RunsI.go 1 [.c 24, .c 25] (by kernel_rfl) ?_
    refine RunsI.region (by kernel_rfl) ?_
    refine RegI.pure 3 [2, 3] [(2, .slice pA0 p0.length pc0), (3, .int .i64 (-1))] (by kernel_rfl) ?_
    refine RegI.done (by kernel_rfl) ?_
    refine RunsI.ret (.tuple #[.slice pA0 p0.length pc0, .int .i64 (-1)]) (by kernel_rfl) (by kernel_rfl) ?_
    obtain rfl := Option.some.inj h
    exact ⟨pA0, pc0, rfl, h30.pick [0] (by decide)⟩
  · intro t34 t35 A32 c33 w37 hq39 h36
    (try rw [hq39] at h)
    dsimp only [Lp.elim] at h
    have h40 := h36.release 0 rfl
    obtain rfl := Option.some.inj h
    exact ⟨A32, c33, rfl, h40.pick [0] (by decide)⟩
end

/-! ### charabanc/charabancref26.Same (function 21) -/
section
def charabancref26_Same_21.post (M0 : Nat → Prop) (w0 : World) (r : Bool) : Ending → World → Prop := fun e w => e = .returned (.bool r) ∧ Below w0.heap.size w0 w
def charabancref26_Same_21.l0 (K : Nat) (p0 : List (Bool × Bool)) (p1 : List (Bool × Bool)) : Nat → Int → Option (Lp Unit Unit)
  | 0, _ => none
  | k + 1, t2 => cond (decide (t2 < (p0.length : Int))) (cond (inR t2 p0.length) (cond (inR t2 p1.length) (cond (!((((rdD p0 t2).1) == ((rdD p1 t2).1)) && ((((rdD p0 t2).2) == ((rdD p1 t2).2)) && true))) (some (Lp.ret ())) (charabancref26_Same_21.l0 K p0 p1 k (IntKind.wrap .i64 (t2 + 1)))) none) none) (some (Lp.go ()))
set_option maxRecDepth 100000 in
theorem charabancref26_Same_21.l0_ok (K : Nat) (M0 : Nat → Prop) (w0 : World) (pA0 : Option Addr) (pc0 : Nat) (pA1 : Option Addr) (pc1 : Nat) (p0 : List (Bool × Bool)) (p1 : List (Bool × Bool)) (R : Ending → World → Prop) (x : Lp Unit Unit) (hk0 : ∀ (w1 : World), x = Lp.go () → Holds M0 w0 w1 [] → RunsI F21 [.c 31] [] w1 R) (hk1 : ∀ (w1 : World), x = Lp.ret () → Holds M0 w0 w1 [] → R (.returned (.bool false)) w1) :
    ∀ (k : Nat) (t2 : Int) (w : World), charabancref26_Same_21.l0 K p0 p1 k t2 = some x → Holds M0 w0 w [sl (Rp.pair Rp.bool Rp.bool) (.slice pA0 p0.length pc0) p0, sl (Rp.pair Rp.bool Rp.bool) (.slice pA1 p1.length pc1) p1] → RunsI F21 [.c 15, .lp 15, .blk 0, .c 31] [(0, .slice pA0 p0.length pc0), (1, .slice pA1 p1.length pc1), (5, .int .i64 t2)] w R := by
  intro k
  induction k with
  | zero => intro t2 w h hH; exact absurd h (by simp [charabancref26_Same_21.l0])
  | succ k ih =>
    intro t2 w h hH
    rw [charabancref26_Same_21.l0.eq_2] at h
    refine RunsI.go 1 [.c 16, .c 21, .lp 15, .blk 0, .c 31] (by kernel_rfl) ?_
    refine RunsI.go 1 [.c 17, .c 18, .c 21, .lp 15, .blk 0, .c 31] (by kernel_rfl) ?_
    refine RunsI.region (by kernel_rfl) ?_
    refine RegI.pure 4 [0, 1, 5, 14] [(0, .slice pA0 p0.length pc0), (1, .slice pA1 p1.length pc1), (5, .int .i64 t2), (14, .bool (decide (t2 < (p0.length : Int))))] (by kernel_rfl) ?_
    refine RegI.done (by kernel_rfl) ?_
    rcases of_cond h with ⟨hc3, h⟩ | ⟨hc3, h⟩
    · skip
      refine RunsI.fix 14 true hc3 (by kernel_rfl) (by kernel_rfl) ?_
      refine RunsI.cond true 19 (by kernel_rfl) ?_
      refine RunsI.go 1 [.c 21, .lp 15, .blk 0, .c 31] (by kernel_rfl) ?_
      refine RunsI.go 3 [.c 24, .c 25, .blk 1, .c 30, .lp 15, .blk 0, .c 31] (by kernel_rfl) ?_
      refine RunsI.any 9 (by kernel_rfl) (by kernel_rfl) (by kernel_rfl) (Kp ([] : List Nat) (World.drew w)) ?_
      have h5 := hH.drew
      generalize World.drew w = w4 at h5 ⊢
      have hS6 := Kp.refl ([] : List Nat) w4
      refine AnyE.pure 0 17 (.slice pA0 p0.length pc0) (by kernel_rfl) hS6 (fun _ => by kernel_rfl) ?_
      refine AnyE.pure 1 18 (.int .i64 t2) (by kernel_rfl) hS6 (fun _ => by kernel_rfl) ?_
      obtain ⟨hc8, h⟩ := of_cond0 h
      refine AnyE.idxSl 2 19 0 27 t2 h5 (by kernel_rfl) hS6 rfl (by kernel_rfl) (by kernel_rfl) hc8 ?_
      intro b9 o10 cs11 hk12 h13
      obtain ⟨_, _, rfl, rfl, rfl⟩ := hk12
      refine AnyE.loadCel 3 20 2 81 b9 o10 0 (.agg #[.bool ((rdD p0 t2).1), .bool ((rdD p0 t2).2)]) [] h13 rfl (by kernel_rfl) hS6 rfl rfl (by kernel_rfl) (by kernel_rfl) ?_
      refine AnyE.pure 4 21 (.slice pA1 p1.length pc1) (by kernel_rfl) hS6 (fun _ => by kernel_rfl) ?_
      refine AnyE.pure 5 22 (.int .i64 t2) (by kernel_rfl) hS6 (fun _ => by kernel_rfl) ?_
      obtain ⟨hc14, h⟩ := of_cond0 h
      refine AnyE.idxSl 6 23 1 27 t2 h13 (by kernel_rfl) hS6 rfl (by kernel_rfl) (by kernel_rfl) hc14 ?_
      intro b15 o16 cs17 hk18 h19
      obtain ⟨_, _, rfl, rfl, rfl⟩ := hk18
      refine AnyE.loadCel 7 24 3 81 b15 o16 0 (.agg #[.bool ((rdD p1 t2).1), .bool ((rdD p1 t2).2)]) [] h19 rfl (by kernel_rfl) hS6 rfl rfl (by kernel_rfl) (by kernel_rfl) ?_
      refine AnyE.run 8 25 (.bool (!((((rdD p0 t2).1) == ((rdD p1 t2).1)) && ((((rdD p0 t2).2) == ((rdD p1 t2).2)) && true)))) (by kernel_rfl) hS6 (fun _ hk => run_eqS (neg := true) (t := 81) (x := .agg #[.bool ((rdD p0 t2).1), .bool ((rdD p0 t2).2)]) (y := .agg #[.bool ((rdD p1 t2).1), .bool ((rdD p1 t2).2)]) (b := ((((rdD p0 t2).1) == ((rdD p1 t2).1)) && ((((rdD p0 t2).2) == ((rdD p1 t2).2)) && true))) (by kernel_rfl) (by kernel_rfl) (by kernel_rfl) (by kernel_rfl)) ?_
      refine AnyE.done (by kernel_rfl) (fun w20 hu21 => ?_)
      have h22 := h19.call hu21
      refine RunsI.only [0, 1, 5, 25] [(0, .slice pA0 p0.length pc0), (1, .slice pA1 p1.length pc1), (5, .int .i64 t2), (25, .bool (!((((rdD p0 t2).1) == ((rdD p1 t2).1)) && ((((rdD p0 t2).2) == ((rdD p1 t2).2)) && true))))] (by kernel_rfl) (by kernel_rfl) ?_
      rcases of_cond h with ⟨hc23, h⟩ | ⟨hc23, h⟩
      · skip
        refine RunsI.fix 25 true hc23 (by kernel_rfl) (by kernel_rfl) ?_
        refine RunsI.cond true 26 (by kernel_rfl) ?_
        refine RunsI.go 1 [.c 27, .c 28, .blk 1, .c 30, .lp 15, .blk 0, .c 31] (by kernel_rfl) ?_
        refine RunsI.region (by kernel_rfl) ?_
        refine RegI.pure 1 [4] [(4, .bool false)] (by kernel_rfl) ?_
        refine RegI.done (by kernel_rfl) ?_
        refine RunsI.ret (.bool false) (by kernel_rfl) (by kernel_rfl) ?_
        exact hk1 w20 (Option.some.inj h).symm (h22.pick [] (by decide))
      · skip
        refine RunsI.fix 25 false hc23 (by kernel_rfl) (by kernel_rfl) ?_
        refine RunsI.cond false 29 (by kernel_rfl) ?_
        refine RunsI.go 1 [.blk 1, .c 30, .lp 15, .blk 0, .c 31] (by kernel_rfl) ?_
        refine RunsI.go 1 [.c 30, .lp 15, .blk 0, .c 31] (by kernel_rfl) ?_
        refine RunsI.region (by kernel_rfl) ?_
        refine RegI.pure 3 [0, 1, 5] [(0, .slice pA0 p0.length pc0), (1, .slice pA1 p1.length pc1), (5, .int .i64 (IntKind.wrap .i64 (t2 + 1)))] (by kernel_rfl) ?_
        refine RegI.done (by kernel_rfl) ?_
        refine RunsI.go 1 [.c 15, .lp 15, .blk 0, .c 31] (by kernel_rfl) ?_
        refine RunsI.only [0, 1, 5] [(0, .slice pA0 p0.length pc0), (1, .slice pA1 p1.length pc1), (5, .int .i64 (IntKind.wrap .i64 (t2 + 1)))] (by kernel_rfl) (by kernel_rfl) ?_
        exact ih (IntKind.wrap .i64 (t2 + 1)) w20 h (h22.pick [0, 1] (by decide))
    · skip
      refine RunsI.fix 14 false hc3 (by kernel_rfl) (by kernel_rfl) ?_
      refine RunsI.cond false 20 (by kernel_rfl) ?_
      refine RunsI.go 1 [.c 31] (by kernel_rfl) ?_
      refine RunsI.only [] [] (by kernel_rfl) (by kernel_rfl) ?_
      exact hk0 w (Option.some.inj h).symm (hH.pick [] (by decide))
def charabancref26_Same_21.f (K : Nat) (p0 : List (Bool × Bool)) (p1 : List (Bool × Bool)) : Option Bool := cond ((p0.length : Int) != (p1.length : Int)) (some false) ((charabancref26_Same_21.l0 K p0 p1 K 0).bind (fun x24 => Lp.elim x24 (fun _ => some false) (fun _ => some true)))
set_option maxRecDepth 100000 in
theorem charabancref26_Same_21_ok (K : Nat) (M0 : Nat → Prop) (w0 : World) (pA0 : Option Addr) (pc0 : Nat) (pA1 : Option Addr) (pc1 : Nat) (p0 : List (Bool × Bool)) (p1 : List (Bool × Bool)) (ho : ∀ b, M0 b → b < w0.heap.size) (hs0 : Sl (Rp.pair Rp.bool Rp.bool) w0 M0 (.slice pA0 p0.length pc0) p0) (hs1 : Sl (Rp.pair Rp.bool Rp.bool) w0 M0 (.slice pA1 p1.length pc1) p1) {r : Bool} (h : charabancref26_Same_21.f K p0 p1 = some r) :
    Calls Try.prog 21 #[.slice pA0 p0.length pc0, .slice pA1 p1.length pc1] w0 (charabancref26_Same_21.post M0 w0 r) := by
  unfold charabancref26_Same_21.f at h
  have h0 : Holds M0 w0 w0 [] := Holds.start ho
  have h00 := h0.addSl (Rp.pair Rp.bool Rp.bool) (.slice pA0 p0.length pc0) p0 (hs0.mono (fun _ _ hm => hm.elim id (fun hm => absurd hm (by simp [mines, sl]))))
  have h01 := h00.addSl (Rp.pair Rp.bool Rp.bool) (.slice pA1 p1.length pc1) p1 (hs1.mono (fun _ _ hm => hm.elim id (fun hm => absurd hm (by simp [mines, sl]))))
  have h0 : Holds M0 w0 w0 [sl (Rp.pair Rp.bool Rp.bool) (.slice pA0 p0.length pc0) p0, sl (Rp.pair Rp.bool Rp.bool) (.slice pA1 p1.length pc1) p1] := h01
  refine calls_of F21 rfl [.slice pA0 p0.length pc0, .slice pA1 p1.length pc1] (by kernel_rfl) ?_
  refine RunsI.go 1 [.c 1, .c 2] (by kernel_rfl) ?_
  refine RunsI.region (by kernel_rfl) ?_
  refine RegI.pure 1 [0, 1] [(0, .slice pA0 p0.length pc0), (1, .slice pA1 p1.length pc1)] (by kernel_rfl) ?_
  refine RegI.done (by kernel_rfl) ?_
  refine RunsI.go 2 [.c 4, .c 5, .c 10] (by kernel_rfl) ?_
  refine RunsI.region (by kernel_rfl) ?_
  refine RegI.pure 5 [0, 1, 10] [(0, .slice pA0 p0.length pc0), (1, .slice pA1 p1.length pc1), (10, .bool ((p0.length : Int) != (p1.length : Int)))] (by kernel_rfl) ?_
  refine RegI.done (by kernel_rfl) ?_
  rcases of_cond h with ⟨hc1, h⟩ | ⟨hc1, h⟩
  · skip
    refine RunsI.fix 10 true hc1 (by kernel_rfl) (by kernel_rfl) ?_
    refine RunsI.cond true 6 (by kernel_rfl) ?_
    refine RunsI.go 1 [.c 7, .c 8, .c 10] (by kernel_rfl) ?_
    refine RunsI.region (by kernel_rfl) ?_
    refine RegI.pure 1 [4] [(4, .bool false)] (by kernel_rfl) ?_
    refine RegI.done (by kernel_rfl) ?_
    refine RunsI.ret (.bool false) (by kernel_rfl) (by kernel_rfl) ?_
    obtain rfl := Option.some.inj h
    exact ⟨rfl, h0.below⟩
  · skip
    refine RunsI.fix 10 false hc1 (by kernel_rfl) (by kernel_rfl) ?_
    refine RunsI.cond false 9 (by kernel_rfl) ?_
    refine RunsI.go 1 [.c 10] (by kernel_rfl) ?_
    refine RunsI.go 2 [.c 12, .c 13, .c 31] (by kernel_rfl) ?_
    refine RunsI.region (by kernel_rfl) ?_
    refine RegI.pure 1 [0, 1, 5] [(0, .slice pA0 p0.length pc0), (1, .slice pA1 p1.length pc1), (5, .int .i64 0)] (by kernel_rfl) ?_
    refine RegI.done (by kernel_rfl) ?_
    refine RunsI.go 2 [.c 15, .lp 15, .blk 0, .c 31] (by kernel_rfl) ?_
    obtain ⟨x24, hx25, h⟩ := of_bind h
    refine RunsI.only [0, 1, 5] [(0, .slice pA0 p0.length pc0), (1, .slice pA1 p1.length pc1), (5, .int .i64 0)] (by kernel_rfl) (by kernel_rfl) ?_
    refine charabancref26_Same_21.l0_ok K M0 w0 pA0 pc0 pA1 pc1 p0 p1 _ x24 ?_ ?_ K 0 w0 hx25 (h0.pick [0, 1] (by decide))
    · intro w27 hq30 h26
      (try rw [hq30] at h)
      dsimp only [Lp.elim] at h
      refine RunsI.go 1 [.c 32, .c 33] (by kernel_rfl) ?_
      refine RunsI.region (by kernel_rfl) ?_
      refine RegI.pure 1 [4] [(4, .bool true)] (by kernel_rfl) ?_
      refine RegI.done (by kernel_rfl) ?_
      refine RunsI.ret (.bool true) (by kernel_rfl) (by kernel_rfl) ?_
      obtain rfl := Option.some.inj h
      exact ⟨rfl, h26.below⟩
    · intro w29 hq31 h28
      (try rw [hq31] at h)
      dsimp only [Lp.elim] at h
      obtain rfl := Option.some.inj h
      exact ⟨rfl, h28.below⟩
end

/-! ### charabanc/charabancref26.Play (function 23) -/
section
def charabancref26_Play_23.post (M0 : Nat → Prop) (w0 : World) (r : (List (Bool × Bool)) × (List Int)) : Ending → World → Prop := fun e w => ∃ (A1 : Option Addr) (c1 : Nat) (A2 : Option Addr) (c2 : Nat), e = .returned (.tuple #[.slice A1 r.1.length c1, .slice A2 r.2.length c2]) ∧ Holds M0 w0 w [sl (Rp.pair Rp.bool Rp.bool) (.slice A1 r.1.length c1) r.1, own (Rp.int .i64) 3 (.slice A2 r.2.length c2) r.2]
def charabancref26_Play_23.l0 (K : Nat) (p0 : List (Bool × Bool)) (p1 : List Int) : Nat → (List (Bool × Bool)) → (List Int) → Int → Option ((List (Bool × Bool)) × (List Int))
  | 0, _, _, _ => none
  | k + 1, t4, t7, t8 => cond (decide (t8 < (p1.length : Int))) (cond (inR t8 p1.length) (Let (fun (t17 : Bool) => cond t17 (cond (inR (rdD p1 t8) t4.length) ((charabancref26_with_50.f K t4 (rdD p1 t8) true ((rdD t4 (rdD p1 t8)).2)).bind fun t34 => cond (mayBe (t7.length + [(rdD p1 t8)].length) 8) (charabancref26_Play_23.l0 K p0 p1 k t34 (t7 ++ [(rdD p1 t8)]) (IntKind.wrap .i64 (t8 + 1))) none) none) (cond (decide ((rdD p1 t8) ≥ 0)) (cond (mayBe (t7.length + [(-1)].length) 8) (charabancref26_Play_23.l0 K p0 p1 k t4 (t7 ++ [(-1)]) (IntKind.wrap .i64 (t8 + 1))) none) (cond ((rdD p1 t8) == (-1)) ((charabancref26_Ack_16.f K t4).bind fun yt65 => cond (mayBe (t7.length + [yt65.2].length) 8) (charabancref26_Play_23.l0 K p0 p1 k yt65.1 (t7 ++ [yt65.2]) (IntKind.wrap .i64 (t8 + 1))) none) ((charabancref26_Reti_18.f K t4).bind fun yt85 => cond (mayBe (t7.length + [yt85.2].length) 8) (charabancref26_Play_23.l0 K p0 p1 k yt85.1 (t7 ++ [yt85.2]) (IntKind.wrap .i64 (t8 + 1))) none)))) (fun j20 => cond (decide ((rdD p1 t8) ≥ 0)) (j20 (decide ((rdD p1 t8) < (t4.length : Int)))) (j20 false))) none) (some (t4, t7))
set_option maxRecDepth 100000 in
theorem charabancref26_Play_23.l0_ok (K : Nat) (M0 : Nat → Prop) (w0 : World) (pA0 : Option Addr) (pc0 : Nat) (pA1 : Option Addr) (pc1 : Nat) (p0 : List (Bool × Bool)) (p1 : List Int) (R : Ending → World → Prop) (x : (List (Bool × Bool)) × (List Int)) (hk0 : ∀ (t104 : List (Bool × Bool)) (t107 : List Int) (A102 : Option Addr) (c103 : Nat) (A105 : Option Addr) (c106 : Nat) (w1 : World), x = (t104, t107) → Holds M0 w0 w1 [sl (Rp.pair Rp.bool Rp.bool) (.slice A102 t104.length c103) t104, own (Rp.int .i64) 3 (.slice A105 t107.length c106) t107] → RunsI F23 [.c 44] [(0, .slice A102 t104.length c103), (6, .slice A105 t107.length c106)] w1 R) :
    ∀ (k : Nat) (t4 : List (Bool × Bool)) (t7 : List Int) (t8 : Int) (A2 : Option Addr) (c3 : Nat) (A5 : Option Addr) (c6 : Nat) (w : World), charabancref26_Play_23.l0 K p0 p1 k t4 t7 t8 = some x → Holds M0 w0 w [sl (Rp.pair Rp.bool Rp.bool) (.slice A2 t4.length c3) t4, sl (Rp.int .i64) (.slice pA1 p1.length pc1) p1, own (Rp.int .i64) 3 (.slice A5 t7.length c6) t7] → RunsI F23 [.c 9, .lp 9, .blk 0, .c 44] [(0, .slice A2 t4.length c3), (1, .slice pA1 p1.length pc1), (6, .slice A5 t7.length c6), (7, .int .i64 t8)] w R := by
  intro k
  induction k with
  | zero => intro t4 t7 t8 A2 c3 A5 c6 w h hH; exact absurd h (by simp [charabancref26_Play_23.l0])
  | succ k ih =>
    intro t4 t7 t8 A2 c3 A5 c6 w h hH
    rw [charabancref26_Play_23.l0.eq_2] at h
    refine RunsI.go 1 [.c 10, .c 15, .lp 9, .blk 0, .c 44] (by kernel_rfl) ?_
    refine RunsI.go 1 [.c 11, .c 12, .c 15, .lp 9, .blk 0, .c 44] (by kernel_rfl) ?_
    refine RunsI.region (by kernel_rfl) ?_
    refine RegI.pure 4 [0, 1, 6, 7, 16] [(0, .slice A2 t4.length c3), (1, .slice pA1 p1.length pc1), (6, .slice A5 t7.length c6), (7, .int .i64 t8), (16, .bool (decide (t8 < (p1.length : Int))))] (by kernel_rfl) ?_
    refine RegI.done (by kernel_rfl) ?_
    rcases of_cond h with ⟨hc9, h⟩ | ⟨hc9, h⟩
    · skip
      refine RunsI.fix 16 true hc9 (by kernel_rfl) (by kernel_rfl) ?_
      refine RunsI.cond true 13 (by kernel_rfl) ?_
      refine RunsI.go 1 [.c 15, .lp 9, .blk 0, .c 44] (by kernel_rfl) ?_
      refine RunsI.go 3 [.c 18, .c 19, .blk 1, .c 43, .lp 9, .blk 0, .c 44] (by kernel_rfl) ?_
      refine RunsI.region (by kernel_rfl) ?_
      refine RegI.pure 2 [0, 1, 6, 7, 19, 20] [(0, .slice A2 t4.length c3), (1, .slice pA1 p1.length pc1), (6, .slice A5 t7.length c6), (7, .int .i64 t8), (19, .slice pA1 p1.length pc1), (20, .int .i64 t8)] (by kernel_rfl) ?_
      obtain ⟨hc10, h⟩ := of_cond0 h
      refine RegI.op (by kernel_rfl) (OpE.idxSl 21 1 37 t8 hH (by kernel_rfl) rfl (by kernel_rfl) (by kernel_rfl) hc10 ?_)
      intro b11 o12 cs13 hk14 h15
      obtain rfl := hk14
      refine RegI.op (by kernel_rfl) (OpE.loadCel 22 3 3 b11 o12 0 (.int .i64 (rdD p1 t8)) h15 (by kernel_rfl) (by kernel_rfl) rfl (by kernel_rfl) ?_)
      refine RegI.pure 1 [0, 1, 6, 7, 8] [(0, .slice A2 t4.length c3), (1, .slice pA1 p1.length pc1), (6, .slice A5 t7.length c6), (7, .int .i64 t8), (8, .int .i64 (rdD p1 t8))] (by kernel_rfl) ?_
      refine RegI.done (by kernel_rfl) ?_
      refine RunsI.go 2 [.c 21, .c 22, .blk 2, .blk 1, .c 43, .lp 9, .blk 0, .c 44] (by kernel_rfl) ?_
      refine RunsI.region (by kernel_rfl) ?_
      refine RegI.pure 3 [0, 1, 6, 7, 8, 36] [(0, .slice A2 t4.length c3), (1, .slice pA1 p1.length pc1), (6, .slice A5 t7.length c6), (7, .int .i64 t8), (8, .int .i64 (rdD p1 t8)), (36, .bool (decide ((rdD p1 t8) ≥ 0)))] (by kernel_rfl) ?_
      obtain ⟨j20, hJ21, h⟩ := of_let h
      have hj22 : ∀ (t17 : Bool) (w19 : World), j20 t17 = some x → Holds M0 w0 w19 [sl (Rp.pair Rp.bool Rp.bool) (.slice A2 t4.length c3) t4, sl (Rp.int .i64) (.slice pA1 p1.length pc1) p1, own (Rp.int .i64) 3 (.slice A5 t7.length c6) t7] → RegI F23 21 [.c 22, .blk 2, .blk 1, .c 43, .lp 9, .blk 0, .c 44] 9 [(0, .slice A2 t4.length c3), (1, .slice pA1 p1.length pc1), (6, .slice A5 t7.length c6), (7, .int .i64 t8), (8, .int .i64 (rdD p1 t8)), (33, .bool t17)] w19 R := by
        intro t17 w19 h h18
        rw [hJ21] at h
        clear hJ21
        dsimp only at h
        refine RegI.done (by kernel_rfl) ?_
        rcases of_cond h with ⟨hc23, h⟩ | ⟨hc23, h⟩
        · skip
          refine RunsI.fix 33 true hc23 (by kernel_rfl) (by kernel_rfl) ?_
          refine RunsI.cond true 23 (by kernel_rfl) ?_
          refine RunsI.go 1 [.c 24, .c 25, .blk 2, .blk 1, .c 43, .lp 9, .blk 0, .c 44] (by kernel_rfl) ?_
          refine RunsI.region (by kernel_rfl) ?_
          refine RegI.pure 4 [1, 6, 7, 8, 42, 43, 44, 45] [(1, .slice pA1 p1.length pc1), (6, .slice A5 t7.length c6), (7, .int .i64 t8), (8, .int .i64 (rdD p1 t8)), (42, .slice A2 t4.length c3), (43, .int .i64 (rdD p1 t8)), (44, .slice A2 t4.length c3), (45, .int .i64 (rdD p1 t8))] (by kernel_rfl) ?_
          obtain ⟨hc24, h⟩ := of_cond0 h
          refine RegI.op (by kernel_rfl) (OpE.idxSl 46 0 27 (rdD p1 t8) h18 (by kernel_rfl) rfl (by kernel_rfl) (by kernel_rfl) hc24 ?_)
          intro b25 o26 cs27 hk28 h29
          obtain ⟨_, _, rfl, rfl, rfl⟩ := hk28
          refine RegI.pure 1 [1, 6, 7, 8, 42, 43, 47] [(1, .slice pA1 p1.length pc1), (6, .slice A5 t7.length c6), (7, .int .i64 t8), (8, .int .i64 (rdD p1 t8)), (42, .slice A2 t4.length c3), (43, .int .i64 (rdD p1 t8)), (47, .pointer (some ⟨b25, o26 + 1, none⟩))] (by kernel_rfl) ?_
          refine RegI.op (by kernel_rfl) (OpE.loadCel 48 3 4 b25 o26 1 (.bool ((rdD t4 (rdD p1 t8)).2)) h29 (by kernel_rfl) (by kernel_rfl) rfl (by kernel_rfl) ?_)
          refine RegI.pure 1 [1, 6, 7, 8, 42, 43, 49] [(1, .slice pA1 p1.length pc1), (6, .slice A5 t7.length c6), (7, .int .i64 t8), (8, .int .i64 (rdD p1 t8)), (42, .slice A2 t4.length c3), (43, .int .i64 (rdD p1 t8)), (49, .agg #[.bool true, .bool ((rdD t4 (rdD p1 t8)).2)])] (by kernel_rfl) ?_
          obtain ⟨t34, hg33, h⟩ := of_bind h
          refine RegI.op (by kernel_rfl) (OpE.call 50 (by kernel_rfl) 50 #[.slice A2 t4.length c3, .int .i64 (rdD p1 t8), .agg #[.bool true, .bool ((rdD t4 (rdD p1 t8)).2)]] (by kernel_rfl) ((charabancref26_with_50_ok K _ w19  A2 c3 t4 (rdD p1 t8) true ((rdD t4 (rdD p1 t8)).2) h29.old' (h29.get 0 rfl) hg33).mono ?_))
          rintro _ w30 ⟨A35, c36, rfl, hr38⟩
          refine ⟨_, rfl, ?_⟩
          have hb31 := hr38.below
          have h32 := h29.join hr38
          refine RegI.pure 1 [0, 1, 6, 7, 8] [(0, .slice A35 t34.length c36), (1, .slice pA1 p1.length pc1), (6, .slice A5 t7.length c6), (7, .int .i64 t8), (8, .int .i64 (rdD p1 t8))] (by kernel_rfl) ?_
          refine RegI.done (by kernel_rfl) ?_
          refine RunsI.region (by kernel_rfl) ?_
          refine RegI.pure 2 [0, 1, 7, 51, 52] [(0, .slice A35 t34.length c36), (1, .slice pA1 p1.length pc1), (7, .int .i64 t8), (51, .slice A5 t7.length c6), (52, .int .i64 (rdD p1 t8))] (by kernel_rfl) ?_
          refine RegI.op (by kernel_rfl) (OpE.lit 53 3 [.int .i64 (rdD p1 t8)] 1 h32 (by kernel_rfl) (by kernel_rfl) ?_)
          intro w39 b40 h41 hb42
          obtain ⟨hc43, h⟩ := of_cond0 h
          refine RegI.op (by kernel_rfl) (OpE.appendBox 54 2 5 37 3 8 [(rdD p1 t8)] 0 h41 (by kernel_rfl) (by kernel_rfl) (by kernel_rfl) rfl rfl rfl (cells_int _ _ _ _) hc43 ?_)
          intro w44 A45 c46 h47 hk48
          refine RegI.pure 1 [0, 1, 6, 7] [(0, .slice A35 t34.length c36), (1, .slice pA1 p1.length pc1), (6, .slice A45 ((t7 ++ [(rdD p1 t8)]).length) c46), (7, .int .i64 t8)] (by kernel_rfl) ?_
          refine RegI.done (by kernel_rfl) ?_
          refine RunsI.go 2 [.c 43, .lp 9, .blk 0, .c 44] (by kernel_rfl) ?_
          refine RunsI.region (by kernel_rfl) ?_
          refine RegI.pure 3 [0, 1, 6, 7] [(0, .slice A35 t34.length c36), (1, .slice pA1 p1.length pc1), (6, .slice A45 ((t7 ++ [(rdD p1 t8)]).length) c46), (7, .int .i64 (IntKind.wrap .i64 (t8 + 1)))] (by kernel_rfl) ?_
          refine RegI.done (by kernel_rfl) ?_
          refine RunsI.go 1 [.c 9, .lp 9, .blk 0, .c 44] (by kernel_rfl) ?_
          have h101 := h47.release 4 rfl
          refine RunsI.only [0, 1, 6, 7] [(0, .slice A35 t34.length c36), (1, .slice pA1 p1.length pc1), (6, .slice A45 ((t7 ++ [(rdD p1 t8)]).length) c46), (7, .int .i64 (IntKind.wrap .i64 (t8 + 1)))] (by kernel_rfl) (by kernel_rfl) ?_
          exact ih t34 (t7 ++ [(rdD p1 t8)]) (IntKind.wrap .i64 (t8 + 1)) A35 c36 A45 c46 w44 h (h101.pick [4, 1, 2] (by decide))
        · skip
          refine RunsI.fix 33 false hc23 (by kernel_rfl) (by kernel_rfl) ?_
          refine RunsI.cond false 26 (by kernel_rfl) ?_
          refine RunsI.go 1 [.c 27, .c 28, .blk 2, .blk 1, .c 43, .lp 9, .blk 0, .c 44] (by kernel_rfl) ?_
          refine RunsI.region (by kernel_rfl) ?_
          refine RegI.pure 3 [0, 1, 6, 7, 8, 55] [(0, .slice A2 t4.length c3), (1, .slice pA1 p1.length pc1), (6, .slice A5 t7.length c6), (7, .int .i64 t8), (8, .int .i64 (rdD p1 t8)), (55, .bool (decide ((rdD p1 t8) ≥ 0)))] (by kernel_rfl) ?_
          refine RegI.done (by kernel_rfl) ?_
          rcases of_cond h with ⟨hc49, h⟩ | ⟨hc49, h⟩
          · skip
            refine RunsI.fix 55 true hc49 (by kernel_rfl) (by kernel_rfl) ?_
            refine RunsI.cond true 29 (by kernel_rfl) ?_
            refine RunsI.region (by kernel_rfl) ?_
            refine RegI.pure 1 [0, 1, 7, 58] [(0, .slice A2 t4.length c3), (1, .slice pA1 p1.length pc1), (7, .int .i64 t8), (58, .slice A5 t7.length c6)] (by kernel_rfl) ?_
            refine RegI.op (by kernel_rfl) (OpE.lit 59 3 [.int .i64 (-1)] 1 h18 (by kernel_rfl) (by kernel_rfl) ?_)
            intro w50 b51 h52 hb53
            obtain ⟨hc54, h⟩ := of_cond0 h
            refine RegI.op (by kernel_rfl) (OpE.appendBox 60 2 3 37 3 8 [(-1)] 0 h52 (by kernel_rfl) (by kernel_rfl) (by kernel_rfl) rfl rfl rfl (cells_int _ _ _ _) hc54 ?_)
            intro w55 A56 c57 h58 hk59
            refine RegI.pure 1 [0, 1, 6, 7] [(0, .slice A2 t4.length c3), (1, .slice pA1 p1.length pc1), (6, .slice A56 ((t7 ++ [(-1)]).length) c57), (7, .int .i64 t8)] (by kernel_rfl) ?_
            refine RegI.done (by kernel_rfl) ?_
            refine RunsI.go 2 [.c 43, .lp 9, .blk 0, .c 44] (by kernel_rfl) ?_
            refine RunsI.region (by kernel_rfl) ?_
            refine RegI.pure 3 [0, 1, 6, 7] [(0, .slice A2 t4.length c3), (1, .slice pA1 p1.length pc1), (6, .slice A56 ((t7 ++ [(-1)]).length) c57), (7, .int .i64 (IntKind.wrap .i64 (t8 + 1)))] (by kernel_rfl) ?_
            refine RegI.done (by kernel_rfl) ?_
            refine RunsI.go 1 [.c 9, .lp 9, .blk 0, .c 44] (by kernel_rfl) ?_
            refine RunsI.only [0, 1, 6, 7] [(0, .slice A2 t4.length c3), (1, .slice pA1 p1.length pc1), (6, .slice A56 ((t7 ++ [(-1)]).length) c57), (7, .int .i64 (IntKind.wrap .i64 (t8 + 1)))] (by kernel_rfl) (by kernel_rfl) ?_
            exact ih t4 (t7 ++ [(-1)]) (IntKind.wrap .i64 (t8 + 1)) A2 c3 A56 c57 w55 h (h58.pick [0, 1, 2] (by decide))
          · skip
            refine RunsI.fix 55 false hc49 (by kernel_rfl) (by kernel_rfl) ?_
            refine RunsI.cond false 30 (by kernel_rfl) ?_
            refine RunsI.go 1 [.c 31, .c 32, .blk 2, .blk 1, .c 43, .lp 9, .blk 0, .c 44] (by kernel_rfl) ?_
            refine RunsI.region (by kernel_rfl) ?_
            refine RegI.pure 3 [0, 1, 6, 7, 61] [(0, .slice A2 t4.length c3), (1, .slice pA1 p1.length pc1), (6, .slice A5 t7.length c6), (7, .int .i64 t8), (61, .bool ((rdD p1 t8) == (-1)))] (by kernel_rfl) ?_
            refine RegI.done (by kernel_rfl) ?_
            rcases of_cond h with ⟨hc60, h⟩ | ⟨hc60, h⟩
            · skip
              refine RunsI.fix 61 true hc60 (by kernel_rfl) (by kernel_rfl) ?_
              refine RunsI.cond true 33 (by kernel_rfl) ?_
              refine RunsI.go 1 [.c 34, .c 35, .blk 2, .blk 1, .c 43, .lp 9, .blk 0, .c 44] (by kernel_rfl) ?_
              refine RunsI.region (by kernel_rfl) ?_
              refine RegI.pure 1 [1, 6, 7, 65] [(1, .slice pA1 p1.length pc1), (6, .slice A5 t7.length c6), (7, .int .i64 t8), (65, .slice A2 t4.length c3)] (by kernel_rfl) ?_
              obtain ⟨⟨t65, t69⟩, hg64, h⟩ := of_bind h
              dsimp only at h
              refine RegI.op (by kernel_rfl) (OpE.call 66 (by kernel_rfl) 16 #[.slice A2 t4.length c3] (by kernel_rfl) ((charabancref26_Ack_16_ok K _ w19  A2 c3 t4 h18.old' (h18.get 0 rfl) hg64).mono ?_))
              rintro _ w61 ⟨A66, c67, rfl, hr70⟩
              refine ⟨_, rfl, ?_⟩
              have hb62 := hr70.below
              have h63 := h18.join hr70
              refine RegI.pure 5 [1, 6, 7, 9, 10] [(1, .slice pA1 p1.length pc1), (6, .slice A5 t7.length c6), (7, .int .i64 t8), (9, .slice A66 t65.length c67), (10, .int .i64 t69)] (by kernel_rfl) ?_
              refine RegI.done (by kernel_rfl) ?_
              refine RunsI.go 1 [.c 36, .c 37, .blk 2, .blk 1, .c 43, .lp 9, .blk 0, .c 44] (by kernel_rfl) ?_
              refine RunsI.region (by kernel_rfl) ?_
              refine RegI.pure 2 [0, 1, 6, 7, 10] [(0, .slice A66 t65.length c67), (1, .slice pA1 p1.length pc1), (6, .slice A5 t7.length c6), (7, .int .i64 t8), (10, .int .i64 t69)] (by kernel_rfl) ?_
              refine RegI.done (by kernel_rfl) ?_
              refine RunsI.region (by kernel_rfl) ?_
              refine RegI.pure 2 [0, 1, 7, 70, 71] [(0, .slice A66 t65.length c67), (1, .slice pA1 p1.length pc1), (7, .int .i64 t8), (70, .slice A5 t7.length c6), (71, .int .i64 t69)] (by kernel_rfl) ?_
              refine RegI.op (by kernel_rfl) (OpE.lit 72 3 [.int .i64 t69] 1 h63 (by kernel_rfl) (by kernel_rfl) ?_)
              intro w71 b72 h73 hb74
              obtain ⟨hc75, h⟩ := of_cond0 h
              refine RegI.op (by kernel_rfl) (OpE.appendBox 73 2 4 37 3 8 [t69] 0 h73 (by kernel_rfl) (by kernel_rfl) (by kernel_rfl) rfl rfl rfl (cells_int _ _ _ _) hc75 ?_)
              intro w76 A77 c78 h79 hk80
              refine RegI.pure 1 [0, 1, 6, 7] [(0, .slice A66 t65.length c67), (1, .slice pA1 p1.length pc1), (6, .slice A77 ((t7 ++ [t69]).length) c78), (7, .int .i64 t8)] (by kernel_rfl) ?_
              refine RegI.done (by kernel_rfl) ?_
              refine RunsI.go 2 [.c 43, .lp 9, .blk 0, .c 44] (by kernel_rfl) ?_
              refine RunsI.region (by kernel_rfl) ?_
              refine RegI.pure 3 [0, 1, 6, 7] [(0, .slice A66 t65.length c67), (1, .slice pA1 p1.length pc1), (6, .slice A77 ((t7 ++ [t69]).length) c78), (7, .int .i64 (IntKind.wrap .i64 (t8 + 1)))] (by kernel_rfl) ?_
              refine RegI.done (by kernel_rfl) ?_
              refine RunsI.go 1 [.c 9, .lp 9, .blk 0, .c 44] (by kernel_rfl) ?_
              refine RunsI.only [0, 1, 6, 7] [(0, .slice A66 t65.length c67), (1, .slice pA1 p1.length pc1), (6, .slice A77 ((t7 ++ [t69]).length) c78), (7, .int .i64 (IntKind.wrap .i64 (t8 + 1)))] (by kernel_rfl) (by kernel_rfl) ?_
              exact ih t65 (t7 ++ [t69]) (IntKind.wrap .i64 (t8 + 1)) A66 c67 A77 c78 w76 h (h79.pick [3, 1, 2] (by decide))
            · skip
              refine RunsI.fix 61 false hc60 (by kernel_rfl) (by kernel_rfl) ?_
              refine RunsI.cond false 38 (by kernel_rfl) ?_
              refine RunsI.go 1 [.c 39, .c 40, .blk 2, .blk 1, .c 43, .lp 9, .blk 0, .c 44] (by kernel_rfl) ?_
              refine RunsI.region (by kernel_rfl) ?_
              refine RegI.pure 1 [1, 6, 7, 24] [(1, .slice pA1 p1.length pc1), (6, .slice A5 t7.length c6), (7, .int .i64 t8), (24, .slice A2 t4.length c3)] (by kernel_rfl) ?_
              obtain ⟨⟨t85, t89⟩, hg84, h⟩ := of_bind h
              dsimp only at h
              refine RegI.op (by kernel_rfl) (OpE.call 25 (by kernel_rfl) 18 #[.slice A2 t4.length c3] (by kernel_rfl) ((charabancref26_Reti_18_ok K _ w19  A2 c3 t4 h18.old' (h18.get 0 rfl) hg84).mono ?_))
              rintro _ w81 ⟨A86, c87, rfl, hr90⟩
              refine ⟨_, rfl, ?_⟩
              have hb82 := hr90.below
              have h83 := h18.join hr90
              refine RegI.pure 5 [1, 6, 7, 11, 12] [(1, .slice pA1 p1.length pc1), (6, .slice A5 t7.length c6), (7, .int .i64 t8), (11, .slice A86 t85.length c87), (12, .int .i64 t89)] (by kernel_rfl) ?_
              refine RegI.done (by kernel_rfl) ?_
              refine RunsI.go 1 [.c 41, .c 42, .blk 2, .blk 1, .c 43, .lp 9, .blk 0, .c 44] (by kernel_rfl) ?_
              refine RunsI.region (by kernel_rfl) ?_
              refine RegI.pure 2 [0, 1, 6, 7, 12] [(0, .slice A86 t85.length c87), (1, .slice pA1 p1.length pc1), (6, .slice A5 t7.length c6), (7, .int .i64 t8), (12, .int .i64 t89)] (by kernel_rfl) ?_
              refine RegI.done (by kernel_rfl) ?_
              refine RunsI.region (by kernel_rfl) ?_
              refine RegI.pure 2 [0, 1, 7, 29, 30] [(0, .slice A86 t85.length c87), (1, .slice pA1 p1.length pc1), (7, .int .i64 t8), (29, .slice A5 t7.length c6), (30, .int .i64 t89)] (by kernel_rfl) ?_
              refine RegI.op (by kernel_rfl) (OpE.lit 31 3 [.int .i64 t89] 1 h83 (by kernel_rfl) (by kernel_rfl) ?_)
              intro w91 b92 h93 hb94
              obtain ⟨hc95, h⟩ := of_cond0 h
              refine RegI.op (by kernel_rfl) (OpE.appendBox 32 2 4 37 3 8 [t89] 0 h93 (by kernel_rfl) (by kernel_rfl) (by kernel_rfl) rfl rfl rfl (cells_int _ _ _ _) hc95 ?_)
              intro w96 A97 c98 h99 hk100
              refine RegI.pure 1 [0, 1, 6, 7] [(0, .slice A86 t85.length c87), (1, .slice pA1 p1.length pc1), (6, .slice A97 ((t7 ++ [t89]).length) c98), (7, .int .i64 t8)] (by kernel_rfl) ?_
              refine RegI.done (by kernel_rfl) ?_
              refine RunsI.go 2 [.c 43, .lp 9, .blk 0, .c 44] (by kernel_rfl) ?_
              refine RunsI.region (by kernel_rfl) ?_
              refine RegI.pure 3 [0, 1, 6, 7] [(0, .slice A86 t85.length c87), (1, .slice pA1 p1.length pc1), (6, .slice A97 ((t7 ++ [t89]).length) c98), (7, .int .i64 (IntKind.wrap .i64 (t8 + 1)))] (by kernel_rfl) ?_
              refine RegI.done (by kernel_rfl) ?_
              refine RunsI.go 1 [.c 9, .lp 9, .blk 0, .c 44] (by kernel_rfl) ?_
              refine RunsI.only [0, 1, 6, 7] [(0, .slice A86 t85.length c87), (1, .slice pA1 p1.length pc1), (6, .slice A97 ((t7 ++ [t89]).length) c98), (7, .int .i64 (IntKind.wrap .i64 (t8 + 1)))] (by kernel_rfl) (by kernel_rfl) ?_
              exact ih t85 (t7 ++ [t89]) (IntKind.wrap .i64 (t8 + 1)) A86 c87 A97 c98 w96 h (h99.pick [3, 1, 2] (by decide))
      clear hJ21
      rcases of_cond h with ⟨hc16, h⟩ | ⟨hc16, h⟩
      · skip
        refine RegI.fix 36 true hc16 (by kernel_rfl) (by kernel_rfl) ?_
        refine RegI.pure 6 [0, 1, 6, 7, 8, 33, 37, 38, 39, 40] [(0, .slice A2 t4.length c3), (1, .slice pA1 p1.length pc1), (6, .slice A5 t7.length c6), (7, .int .i64 t8), (8, .int .i64 (rdD p1 t8)), (33, .bool (decide ((rdD p1 t8) < (t4.length : Int)))), (37, .int .i64 (rdD p1 t8)), (38, .slice A2 t4.length c3), (39, .int .i64 (t4.length : Int)), (40, .bool (decide ((rdD p1 t8) < (t4.length : Int))))] (by kernel_rfl) ?_
        refine RegI.only [0, 1, 6, 7, 8, 33] [(0, .slice A2 t4.length c3), (1, .slice pA1 p1.length pc1), (6, .slice A5 t7.length c6), (7, .int .i64 t8), (8, .int .i64 (rdD p1 t8)), (33, .bool (decide ((rdD p1 t8) < (t4.length : Int))))] (by kernel_rfl) (by kernel_rfl) ?_
        exact hj22 (decide ((rdD p1 t8) < (t4.length : Int))) w h (h15.pick [0, 1, 2] (by decide))
      · skip
        refine RegI.fix 36 false hc16 (by kernel_rfl) (by kernel_rfl) ?_
        refine RegI.pure 6 [0, 1, 6, 7, 8, 33, 37, 38, 39, 40] [(0, .slice A2 t4.length c3), (1, .slice pA1 p1.length pc1), (6, .slice A5 t7.length c6), (7, .int .i64 t8), (8, .int .i64 (rdD p1 t8)), (33, .bool false), (37, undef), (38, undef), (39, undef), (40, undef)] (by kernel_rfl) ?_
        refine RegI.only [0, 1, 6, 7, 8, 33] [(0, .slice A2 t4.length c3), (1, .slice pA1 p1.length pc1), (6, .slice A5 t7.length c6), (7, .int .i64 t8), (8, .int .i64 (rdD p1 t8)), (33, .bool false)] (by kernel_rfl) (by kernel_rfl) ?_
        exact hj22 false w h (h15.pick [0, 1, 2] (by decide))
    · skip
      refine RunsI.fix 16 false hc9 (by kernel_rfl) (by kernel_rfl) ?_
      refine RunsI.cond false 14 (by kernel_rfl) ?_
      refine RunsI.go 1 [.c 44] (by kernel_rfl) ?_
      refine RunsI.only [0, 6] [(0, .slice A2 t4.length c3), (6, .slice A5 t7.length c6)] (by kernel_rfl) (by kernel_rfl) ?_
      exact hk0 t4 t7 A2 c3 A5 c6 w (Option.some.inj h).symm (hH.pick [0, 2] (by decide))
def charabancref26_Play_23.f (K : Nat) (p0 : List (Bool × Bool)) (p1 : List Int) : Option ((List (Bool × Bool)) × (List Int)) := (charabancref26_Play_23.l0 K p0 p1 K p0 ([] : List Int) 0).bind (fun yx108 => some (yx108.1, yx108.2))
set_option maxRecDepth 100000 in
theorem charabancref26_Play_23_ok (K : Nat) (M0 : Nat → Prop) (w0 : World) (pA0 : Option Addr) (pc0 : Nat) (pA1 : Option Addr) (pc1 : Nat) (p0 : List (Bool × Bool)) (p1 : List Int) (ho : ∀ b, M0 b → b < w0.heap.size) (hs0 : Sl (Rp.pair Rp.bool Rp.bool) w0 M0 (.slice pA0 p0.length pc0) p0) (hs1 : Sl (Rp.int .i64) w0 M0 (.slice pA1 p1.length pc1) p1) {r : (List (Bool × Bool)) × (List Int)} (h : charabancref26_Play_23.f K p0 p1 = some r) :
    Calls Try.prog 23 #[.slice pA0 p0.length pc0, .slice pA1 p1.length pc1] w0 (charabancref26_Play_23.post M0 w0 r) := by
  unfold charabancref26_Play_23.f at h
  have h0 : Holds M0 w0 w0 [] := Holds.start ho
  have h00 := h0.addSl (Rp.pair Rp.bool Rp.bool) (.slice pA0 p0.length pc0) p0 (hs0.mono (fun _ _ hm => hm.elim id (fun hm => absurd hm (by simp [mines, sl]))))
  have h01 := h00.addSl (Rp.int .i64) (.slice pA1 p1.length pc1) p1 (hs1.mono (fun _ _ hm => hm.elim id (fun hm => absurd hm (by simp [mines, sl]))))
  have h0 : Holds M0 w0 w0 [sl (Rp.pair Rp.bool Rp.bool) (.slice pA0 p0.length pc0) p0, sl (Rp.int .i64) (.slice pA1 p1.length pc1) p1] := h01
  refine calls_of F23 rfl [.slice pA0 p0.length pc0, .slice pA1 p1.length pc1] (by kernel_rfl) ?_
  refine RunsI.go 1 [.c 1, .c 2] (by kernel_rfl) ?_
  refine RunsI.region (by kernel_rfl) ?_
  refine RegI.pure 2 [0, 1] [(0, .slice pA0 p0.length pc0), (1, .slice pA1 p1.length pc1)] (by kernel_rfl) ?_
  refine RegI.done (by kernel_rfl) ?_
  refine RunsI.go 1 [.c 3, .c 4] (by kernel_rfl) ?_
  refine RunsI.region (by kernel_rfl) ?_
  refine RegI.pure 1 [0, 1, 6] [(0, .slice pA0 p0.length pc0), (1, .slice pA1 p1.length pc1), (6, .slice none 0 0)] (by kernel_rfl) ?_
  refine RegI.done (by kernel_rfl) ?_
  refine RunsI.go 2 [.c 6, .c 7, .c 44] (by kernel_rfl) ?_
  refine RunsI.region (by kernel_rfl) ?_
  refine RegI.pure 1 [0, 1, 6, 7] [(0, .slice pA0 p0.length pc0), (1, .slice pA1 p1.length pc1), (6, .slice none 0 0), (7, .int .i64 0)] (by kernel_rfl) ?_
  refine RegI.done (by kernel_rfl) ?_
  refine RunsI.go 2 [.c 9, .lp 9, .blk 0, .c 44] (by kernel_rfl) ?_
  obtain ⟨x108, hx109, h⟩ := of_bind h
  have h1 := h0.addOwnNil (Rp.int .i64) 3
  refine RunsI.only [0, 1, 6, 7] [(0, .slice pA0 p0.length pc0), (1, .slice pA1 p1.length pc1), (6, .slice none (([] : List Int).length) 0), (7, .int .i64 0)] (by kernel_rfl) (by kernel_rfl) ?_
  refine charabancref26_Play_23.l0_ok K M0 w0 pA0 pc0 pA1 pc1 p0 p1 _ x108 ?_ K p0 ([] : List Int) 0 pA0 pc0 none 0 w0 hx109 (h1.pick [0, 1, 2] (by decide))
  · intro t112 t115 A110 c111 A113 c114 w117 hq118 h116
    (try rw [hq118] at h)
    dsimp only at h
    refine RunsI.go 1 [.c 45, .c 46] (by kernel_rfl) ?_
    refine RunsI.region (by kernel_rfl) ?_
    refine RegI.pure 4 [4, 5] [(4, .slice A110 t112.length c111), (5, .slice A113 t115.length c114)] (by kernel_rfl) ?_
    refine RegI.done (by kernel_rfl) ?_
    refine RunsI.ret (.tuple #[.slice A110 t112.length c111, .slice A113 t115.length c114]) (by kernel_rfl) (by kernel_rfl) ?_
    obtain rfl := Option.some.inj h
    exact ⟨A110, c111, A113, c114, rfl, h116.pick [0, 1] (by decide)⟩
end

/-! ### charabanc/charabancref26.Snoop (function 25) -/
section
def charabancref26_Snoop_25.post (M0 : Nat → Prop) (w0 : World) (r : Int × Bool) : Ending → World → Prop := fun e w => e = .returned (.tuple #[.int .i64 r.1, .bool r.2]) ∧ Below w0.heap.size w0 w
def charabancref26_Snoop_25.f (K : Nat) (p0 : Int) (p1 : Int) : Option (Int × Bool) := cond (p0 == 1) (some (0, (p1 == 77))) (cond (p0 == 2) (some (0, false)) (cond (p1 == 237) (some (1, false)) (cond (p1 == 203) (some (2, false)) (some (0, false)))))
set_option maxRecDepth 100000 in
theorem charabancref26_Snoop_25_ok (K : Nat) (M0 : Nat → Prop) (w0 : World) (p0 : Int) (p1 : Int) (ho : ∀ b, M0 b → b < w0.heap.size) {r : Int × Bool} (h : charabancref26_Snoop_25.f K p0 p1 = some r) :
    Calls Try.prog 25 #[.int .i64 p0, .int .u8 p1] w0 (charabancref26_Snoop_25.post M0 w0 r) := by
  unfold charabancref26_Snoop_25.f at h
  have h0 : Holds M0 w0 w0 [] := Holds.start ho
  have h0 : Holds M0 w0 w0 [] := h0
  refine calls_of F25 rfl [.int .i64 p0, .int .u8 p1] (by kernel_rfl) ?_
  refine RunsI.go 1 [.c 1, .c 2] (by kernel_rfl) ?_
  refine RunsI.region (by kernel_rfl) ?_
  refine RegI.pure 2 [0, 1] [(0, .int .i64 p0), (1, .int .u8 p1)] (by kernel_rfl) ?_
  refine RegI.done (by kernel_rfl) ?_
  refine RunsI.go 2 [.c 4, .c 5, .c 10] (by kernel_rfl) ?_
  refine RunsI.region (by kernel_rfl) ?_
  refine RegI.pure 2 [0, 1, 7] [(0, .int .i64 p0), (1, .int .u8 p1), (7, .bool (p0 == 1))] (by kernel_rfl) ?_
  refine RegI.done (by kernel_rfl) ?_
  rcases of_cond h with ⟨hc1, h⟩ | ⟨hc1, h⟩
  · skip
    refine RunsI.fix 7 true hc1 (by kernel_rfl) (by kernel_rfl) ?_
    refine RunsI.cond true 6 (by kernel_rfl) ?_
    refine RunsI.go 1 [.c 7, .c 8, .c 10] (by kernel_rfl) ?_
    refine RunsI.region (by kernel_rfl) ?_
    refine RegI.pure 4 [4, 5] [(4, .int .i64 0), (5, .bool (p1 == 77))] (by kernel_rfl) ?_
    refine RegI.done (by kernel_rfl) ?_
    refine RunsI.ret (.tuple #[.int .i64 0, .bool (p1 == 77)]) (by kernel_rfl) (by kernel_rfl) ?_
    obtain rfl := Option.some.inj h
    exact ⟨rfl, h0.below⟩
  · skip
    refine RunsI.fix 7 false hc1 (by kernel_rfl) (by kernel_rfl) ?_
    refine RunsI.cond false 9 (by kernel_rfl) ?_
    refine RunsI.go 1 [.c 10] (by kernel_rfl) ?_
    refine RunsI.go 2 [.c 12, .c 13, .c 18] (by kernel_rfl) ?_
    refine RunsI.region (by kernel_rfl) ?_
    refine RegI.pure 2 [1, 11] [(1, .int .u8 p1), (11, .bool (p0 == 2))] (by kernel_rfl) ?_
    refine RegI.done (by kernel_rfl) ?_
    rcases of_cond h with ⟨hc2, h⟩ | ⟨hc2, h⟩
    · skip
      refine RunsI.fix 11 true hc2 (by kernel_rfl) (by kernel_rfl) ?_
      refine RunsI.cond true 14 (by kernel_rfl) ?_
      refine RunsI.go 1 [.c 15, .c 16, .c 18] (by kernel_rfl) ?_
      refine RunsI.region (by kernel_rfl) ?_
      refine RegI.pure 2 [4, 5] [(4, .int .i64 0), (5, .bool false)] (by kernel_rfl) ?_
      refine RegI.done (by kernel_rfl) ?_
      refine RunsI.ret (.tuple #[.int .i64 0, .bool false]) (by kernel_rfl) (by kernel_rfl) ?_
      obtain rfl := Option.some.inj h
      exact ⟨rfl, h0.below⟩
    · skip
      refine RunsI.fix 11 false hc2 (by kernel_rfl) (by kernel_rfl) ?_
      refine RunsI.cond false 17 (by kernel_rfl) ?_
      refine RunsI.go 1 [.c 18] (by kernel_rfl) ?_
      refine RunsI.go 2 [.c 20, .c 21, .c 26] (by kernel_rfl) ?_
      refine RunsI.region (by kernel_rfl) ?_
      refine RegI.pure 2 [1, 13] [(1, .int .u8 p1), (13, .bool (p1 == 237))] (by kernel_rfl) ?_
      refine RegI.done (by kernel_rfl) ?_
      rcases of_cond h with ⟨hc3, h⟩ | ⟨hc3, h⟩
      · skip
        refine RunsI.fix 13 true hc3 (by kernel_rfl) (by kernel_rfl) ?_
        refine RunsI.cond true 22 (by kernel_rfl) ?_
        refine RunsI.go 1 [.c 23, .c 24, .c 26] (by kernel_rfl) ?_
        refine RunsI.region (by kernel_rfl) ?_
        refine RegI.pure 2 [4, 5] [(4, .int .i64 1), (5, .bool false)] (by kernel_rfl) ?_
        refine RegI.done (by kernel_rfl) ?_
        refine RunsI.ret (.tuple #[.int .i64 1, .bool false]) (by kernel_rfl) (by kernel_rfl) ?_
        obtain rfl := Option.some.inj h
        exact ⟨rfl, h0.below⟩
      · skip
        refine RunsI.fix 13 false hc3 (by kernel_rfl) (by kernel_rfl) ?_
        refine RunsI.cond false 25 (by kernel_rfl) ?_
        refine RunsI.go 1 [.c 26] (by kernel_rfl) ?_
        refine RunsI.go 2 [.c 28, .c 29, .c 34] (by kernel_rfl) ?_
        refine RunsI.region (by kernel_rfl) ?_
        refine RegI.pure 2 [15] [(15, .bool (p1 == 203))] (by kernel_rfl) ?_
        refine RegI.done (by kernel_rfl) ?_
        rcases of_cond h with ⟨hc4, h⟩ | ⟨hc4, h⟩
        · skip
          refine RunsI.fix 15 true hc4 (by kernel_rfl) (by kernel_rfl) ?_
          refine RunsI.cond true 30 (by kernel_rfl) ?_
          refine RunsI.go 1 [.c 31, .c 32, .c 34] (by kernel_rfl) ?_
          refine RunsI.region (by kernel_rfl) ?_
          refine RegI.pure 2 [4, 5] [(4, .int .i64 2), (5, .bool false)] (by kernel_rfl) ?_
          refine RegI.done (by kernel_rfl) ?_
          refine RunsI.ret (.tuple #[.int .i64 2, .bool false]) (by kernel_rfl) (by kernel_rfl) ?_
          obtain rfl := Option.some.inj h
          exact ⟨rfl, h0.below⟩
        · skip
          refine RunsI.fix 15 false hc4 (by kernel_rfl) (by kernel_rfl) ?_
          refine RunsI.cond false 33 (by kernel_rfl) ?_
          refine RunsI.go 1 [.c 34] (by kernel_rfl) ?_
          refine RunsI.go 1 [.c 35, .c 36] (by kernel_rfl) ?_
          refine RunsI.region (by kernel_rfl) ?_
          refine RegI.pure 2 [4, 5] [(4, .int .i64 0), (5, .bool false)] (by kernel_rfl) ?_
          refine RegI.done (by kernel_rfl) ?_
          refine RunsI.ret (.tuple #[.int .i64 0, .bool false]) (by kernel_rfl) (by kernel_rfl) ?_
          obtain rfl := Option.some.inj h
          exact ⟨rfl, h0.below⟩
end

/-! ### charabanc/charabancref26.Count (function 28) -/
section
def charabancref26_Count_28.post (M0 : Nat → Prop) (w0 : World) (r : Int) : Ending → World → Prop := fun e w => e = .returned (.int .i64 r) ∧ Below w0.heap.size w0 w
def charabancref26_Count_28.l0 (K : Nat) (p0 : List Int) : Nat → Int → Int → Int → Option Int
  | 0, _, _, _ => none
  | k + 1, t1, t2, t3 => cond (decide (t3 < (p0.length : Int))) (cond (inR t3 p0.length) ((charabancref26_Snoop_25.f K t2 (rdD p0 t3)).bind fun yt15 => cond yt15.2 (charabancref26_Count_28.l0 K p0 k (IntKind.wrap .i64 (t1 + 1)) yt15.1 (IntKind.wrap .i64 (t3 + 1))) (charabancref26_Count_28.l0 K p0 k t1 yt15.1 (IntKind.wrap .i64 (t3 + 1)))) none) (some t1)
set_option maxRecDepth 100000 in
theorem charabancref26_Count_28.l0_ok (K : Nat) (M0 : Nat → Prop) (w0 : World) (pA0 : Option Addr) (pc0 : Nat) (p0 : List Int) (R : Ending → World → Prop) (x : Int) (hk0 : ∀ (t18 : Int) (w1 : World), x = t18 → Holds M0 w0 w1 [] → RunsI F28 [.c 29] [(3, .int .i64 t18)] w1 R) :
    ∀ (k : Nat) (t1 : Int) (t2 : Int) (t3 : Int) (w : World), charabancref26_Count_28.l0 K p0 k t1 t2 t3 = some x → Holds M0 w0 w [sl (Rp.int .u8) (.slice pA0 p0.length pc0) p0] → RunsI F28 [.c 11, .lp 11, .blk 0, .c 29] [(0, .slice pA0 p0.length pc0), (3, .int .i64 t1), (4, .int .i64 t2), (5, .int .i64 t3)] w R := by
  intro k
  induction k with
  | zero => intro t1 t2 t3 w h hH; exact absurd h (by simp [charabancref26_Count_28.l0])
  | succ k ih =>
    intro t1 t2 t3 w h hH
    rw [charabancref26_Count_28.l0.eq_2] at h
    refine RunsI.go 1 [.c 12, .c 17, .lp 11, .blk 0, .c 29] (by kernel_rfl) ?_
    refine RunsI.go 1 [.c 13, .c 14, .c 17, .lp 11, .blk 0, .c 29] (by kernel_rfl) ?_
    refine RunsI.region (by kernel_rfl) ?_
    refine RegI.pure 4 [0, 3, 4, 5, 11] [(0, .slice pA0 p0.length pc0), (3, .int .i64 t1), (4, .int .i64 t2), (5, .int .i64 t3), (11, .bool (decide (t3 < (p0.length : Int))))] (by kernel_rfl) ?_
    refine RegI.done (by kernel_rfl) ?_
    rcases of_cond h with ⟨hc4, h⟩ | ⟨hc4, h⟩
    · skip
      refine RunsI.fix 11 true hc4 (by kernel_rfl) (by kernel_rfl) ?_
      refine RunsI.cond true 15 (by kernel_rfl) ?_
      refine RunsI.go 1 [.c 17, .lp 11, .blk 0, .c 29] (by kernel_rfl) ?_
      refine RunsI.go 3 [.c 20, .c 21, .blk 1, .c 28, .lp 11, .blk 0, .c 29] (by kernel_rfl) ?_
      refine RunsI.region (by kernel_rfl) ?_
      refine RegI.pure 3 [0, 3, 5, 15, 16, 17] [(0, .slice pA0 p0.length pc0), (3, .int .i64 t1), (5, .int .i64 t3), (15, .int .i64 t2), (16, .slice pA0 p0.length pc0), (17, .int .i64 t3)] (by kernel_rfl) ?_
      obtain ⟨hc5, h⟩ := of_cond0 h
      refine RegI.op (by kernel_rfl) (OpE.idxSl 18 0 38 t3 hH (by kernel_rfl) rfl (by kernel_rfl) (by kernel_rfl) hc5 ?_)
      intro b6 o7 cs8 hk9 h10
      obtain rfl := hk9
      refine RegI.op (by kernel_rfl) (OpE.loadCel 19 1 5 b6 o7 0 (.int .u8 (rdD p0 t3)) h10 (by kernel_rfl) (by kernel_rfl) rfl (by kernel_rfl) ?_)
      obtain ⟨⟨t15, t16⟩, hg14, h⟩ := of_bind h
      dsimp only at h
      refine RegI.op (by kernel_rfl) (OpE.call 20 (by kernel_rfl) 25 #[.int .i64 t2, .int .u8 (rdD p0 t3)] (by kernel_rfl) ((charabancref26_Snoop_25_ok K _ w  t2 (rdD p0 t3) h10.old' hg14).mono ?_))
      rintro _ w11 ⟨rfl, hb12⟩
      refine ⟨_, rfl, ?_⟩
      have h13 := h10.call hb12
      refine RegI.pure 5 [0, 3, 5, 6, 7] [(0, .slice pA0 p0.length pc0), (3, .int .i64 t1), (5, .int .i64 t3), (6, .int .i64 t15), (7, .bool t16)] (by kernel_rfl) ?_
      refine RegI.done (by kernel_rfl) ?_
      refine RunsI.go 1 [.c 22, .c 23, .blk 1, .c 28, .lp 11, .blk 0, .c 29] (by kernel_rfl) ?_
      refine RunsI.region (by kernel_rfl) ?_
      refine RegI.pure 2 [0, 3, 4, 5, 7] [(0, .slice pA0 p0.length pc0), (3, .int .i64 t1), (4, .int .i64 t15), (5, .int .i64 t3), (7, .bool t16)] (by kernel_rfl) ?_
      refine RegI.done (by kernel_rfl) ?_
      refine RunsI.go 1 [.c 24, .c 25, .blk 1, .c 28, .lp 11, .blk 0, .c 29] (by kernel_rfl) ?_
      refine RunsI.region (by kernel_rfl) ?_
      refine RegI.pure 1 [0, 3, 4, 5, 24] [(0, .slice pA0 p0.length pc0), (3, .int .i64 t1), (4, .int .i64 t15), (5, .int .i64 t3), (24, .bool t16)] (by kernel_rfl) ?_
      refine RegI.done (by kernel_rfl) ?_
      rcases of_cond h with ⟨hc17, h⟩ | ⟨hc17, h⟩
      · skip
        refine RunsI.fix 24 true hc17 (by kernel_rfl) (by kernel_rfl) ?_
        refine RunsI.cond true 26 (by kernel_rfl) ?_
        refine RunsI.region (by kernel_rfl) ?_
        refine RegI.pure 3 [0, 3, 4, 5] [(0, .slice pA0 p0.length pc0), (3, .int .i64 (IntKind.wrap .i64 (t1 + 1))), (4, .int .i64 t15), (5, .int .i64 t3)] (by kernel_rfl) ?_
        refine RegI.done (by kernel_rfl) ?_
        refine RunsI.go 1 [.c 28, .lp 11, .blk 0, .c 29] (by kernel_rfl) ?_
        refine RunsI.region (by kernel_rfl) ?_
        refine RegI.pure 3 [0, 3, 4, 5] [(0, .slice pA0 p0.length pc0), (3, .int .i64 (IntKind.wrap .i64 (t1 + 1))), (4, .int .i64 t15), (5, .int .i64 (IntKind.wrap .i64 (t3 + 1)))] (by kernel_rfl) ?_
        refine RegI.done (by kernel_rfl) ?_
        refine RunsI.go 1 [.c 11, .lp 11, .blk 0, .c 29] (by kernel_rfl) ?_
        refine RunsI.only [0, 3, 4, 5] [(0, .slice pA0 p0.length pc0), (3, .int .i64 (IntKind.wrap .i64 (t1 + 1))), (4, .int .i64 t15), (5, .int .i64 (IntKind.wrap .i64 (t3 + 1)))] (by kernel_rfl) (by kernel_rfl) ?_
        exact ih (IntKind.wrap .i64 (t1 + 1)) t15 (IntKind.wrap .i64 (t3 + 1)) w11 h (h13.pick [0] (by decide))
      · skip
        refine RunsI.fix 24 false hc17 (by kernel_rfl) (by kernel_rfl) ?_
        refine RunsI.cond false 27 (by kernel_rfl) ?_
        refine RunsI.go 1 [.blk 1, .c 28, .lp 11, .blk 0, .c 29] (by kernel_rfl) ?_
        refine RunsI.go 1 [.c 28, .lp 11, .blk 0, .c 29] (by kernel_rfl) ?_
        refine RunsI.region (by kernel_rfl) ?_
        refine RegI.pure 3 [0, 3, 4, 5] [(0, .slice pA0 p0.length pc0), (3, .int .i64 t1), (4, .int .i64 t15), (5, .int .i64 (IntKind.wrap .i64 (t3 + 1)))] (by kernel_rfl) ?_
        refine RegI.done (by kernel_rfl) ?_
        refine RunsI.go 1 [.c 11, .lp 11, .blk 0, .c 29] (by kernel_rfl) ?_
        refine RunsI.only [0, 3, 4, 5] [(0, .slice pA0 p0.length pc0), (3, .int .i64 t1), (4, .int .i64 t15), (5, .int .i64 (IntKind.wrap .i64 (t3 + 1)))] (by kernel_rfl) (by kernel_rfl) ?_
        exact ih t1 t15 (IntKind.wrap .i64 (t3 + 1)) w11 h (h13.pick [0] (by decide))
    · skip
      refine RunsI.fix 11 false hc4 (by kernel_rfl) (by kernel_rfl) ?_
      refine RunsI.cond false 16 (by kernel_rfl) ?_
      refine RunsI.go 1 [.c 29] (by kernel_rfl) ?_
      refine RunsI.only [3] [(3, .int .i64 t1)] (by kernel_rfl) (by kernel_rfl) ?_
      exact hk0 t1 w (Option.some.inj h).symm (hH.pick [] (by decide))
def charabancref26_Count_28.f (K : Nat) (p0 : List Int) : Option Int := (charabancref26_Count_28.l0 K p0 K 0 0 0).bind (fun t21 => some t21)
set_option maxRecDepth 100000 in
theorem charabancref26_Count_28_ok (K : Nat) (M0 : Nat → Prop) (w0 : World) (pA0 : Option Addr) (pc0 : Nat) (p0 : List Int) (ho : ∀ b, M0 b → b < w0.heap.size) (hs0 : Sl (Rp.int .u8) w0 M0 (.slice pA0 p0.length pc0) p0) {r : Int} (h : charabancref26_Count_28.f K p0 = some r) :
    Calls Try.prog 28 #[.slice pA0 p0.length pc0] w0 (charabancref26_Count_28.post M0 w0 r) := by
  unfold charabancref26_Count_28.f at h
  have h0 : Holds M0 w0 w0 [] := Holds.start ho
  have h00 := h0.addSl (Rp.int .u8) (.slice pA0 p0.length pc0) p0 (hs0.mono (fun _ _ hm => hm.elim id (fun hm => absurd hm (by simp [mines, sl]))))
  have h0 : Holds M0 w0 w0 [sl (Rp.int .u8) (.slice pA0 p0.length pc0) p0] := h00
  refine calls_of F28 rfl [.slice pA0 p0.length pc0] (by kernel_rfl) ?_
  refine RunsI.go 1 [.c 1, .c 2] (by kernel_rfl) ?_
  refine RunsI.region (by kernel_rfl) ?_
  refine RegI.pure 1 [0] [(0, .slice pA0 p0.length pc0)] (by kernel_rfl) ?_
  refine RegI.done (by kernel_rfl) ?_
  refine RunsI.go 1 [.c 3, .c 4] (by kernel_rfl) ?_
  refine RunsI.region (by kernel_rfl) ?_
  refine RegI.pure 1 [0, 3] [(0, .slice pA0 p0.length pc0), (3, .int .i64 0)] (by kernel_rfl) ?_
  refine RegI.done (by kernel_rfl) ?_
  refine RunsI.go 1 [.c 5, .c 6] (by kernel_rfl) ?_
  refine RunsI.region (by kernel_rfl) ?_
  refine RegI.pure 1 [0, 3, 4] [(0, .slice pA0 p0.length pc0), (3, .int .i64 0), (4, .int .i64 0)] (by kernel_rfl) ?_
  refine RegI.done (by kernel_rfl) ?_
  refine RunsI.go 2 [.c 8, .c 9, .c 29] (by kernel_rfl) ?_
  refine RunsI.region (by kernel_rfl) ?_
  refine RegI.pure 1 [0, 3, 4, 5] [(0, .slice pA0 p0.length pc0), (3, .int .i64 0), (4, .int .i64 0), (5, .int .i64 0)] (by kernel_rfl) ?_
  refine RegI.done (by kernel_rfl) ?_
  refine RunsI.go 2 [.c 11, .lp 11, .blk 0, .c 29] (by kernel_rfl) ?_
  obtain ⟨x19, hx20, h⟩ := of_bind h
  refine RunsI.only [0, 3, 4, 5] [(0, .slice pA0 p0.length pc0), (3, .int .i64 0), (4, .int .i64 0), (5, .int .i64 0)] (by kernel_rfl) (by kernel_rfl) ?_
  refine charabancref26_Count_28.l0_ok K M0 w0 pA0 pc0 p0 _ x19 ?_ K 0 0 0 w0 hx20 (h0.pick [0] (by decide))
  · intro t21 w23 hq24 h22
    (try rw [hq24] at h)
    refine RunsI.go 1 [.c 30, .c 31] (by kernel_rfl) ?_
    refine RunsI.region (by kernel_rfl) ?_
    refine RegI.pure 2 [2] [(2, .int .i64 t21)] (by kernel_rfl) ?_
    refine RegI.done (by kernel_rfl) ?_
    refine RunsI.ret (.int .i64 t21) (by kernel_rfl) (by kernel_rfl) ?_
    obtain rfl := Option.some.inj h
    exact ⟨rfl, h22.below⟩
end
end Go.Proofs.Ytngcadmhnbpgjaa.Chain
