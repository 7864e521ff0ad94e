/- Functions of the program as plain Lean functions, each with the proof that the call comes to it; written by wip/eng.py. -/
import Derived.Test.YtngcadmhnbpgjaaProg
import Derived.Test.YtngcadmhnbpgjaaEngRow
set_option linter.unusedVariables false
set_option linter.unusedSimpArgs false
set_option maxHeartbeats 4000000
namespace Go.Proofs.Ytngcadmhnbpgjaa.Banks
open Go.RowKit Go.Eng
noncomputable def B29 : Code := (Try.f29.body).getD .skip
noncomputable def F29 : Fun Try.prog := ⟨29, Try.f29, B29, 53, Try.func29, by kernel_rfl, by kernel_rfl⟩
noncomputable def B30 : Code := (Try.f30.body).getD .skip
noncomputable def F30 : Fun Try.prog := ⟨30, Try.f30, B30, 13, Try.func30, by kernel_rfl, by kernel_rfl⟩
noncomputable def B31 : Code := (Try.f31.body).getD .skip
noncomputable def F31 : Fun Try.prog := ⟨31, Try.f31, B31, 30, Try.func31, by kernel_rfl, by kernel_rfl⟩
noncomputable def B32 : Code := (Try.f32.body).getD .skip
noncomputable def F32 : Fun Try.prog := ⟨32, Try.f32, B32, 28, Try.func32, by kernel_rfl, by kernel_rfl⟩
noncomputable def B33 : Code := (Try.f33.body).getD .skip
noncomputable def F33 : Fun Try.prog := ⟨33, Try.f33, B33, 38, Try.func33, by kernel_rfl, by kernel_rfl⟩
noncomputable def B34 : Code := (Try.f34.body).getD .skip
noncomputable def F34 : Fun Try.prog := ⟨34, Try.f34, B34, 36, Try.func34, by kernel_rfl, by kernel_rfl⟩
noncomputable def B35 : Code := (Try.f35.body).getD .skip
noncomputable def F35 : Fun Try.prog := ⟨35, Try.f35, B35, 42, Try.func35, by kernel_rfl, by kernel_rfl⟩
noncomputable def B36 : Code := (Try.f36.body).getD .skip
noncomputable def F36 : Fun Try.prog := ⟨36, Try.f36, B36, 46, Try.func36, by kernel_rfl, by kernel_rfl⟩
noncomputable def B37 : Code := (Try.f37.body).getD .skip
noncomputable def F37 : Fun Try.prog := ⟨37, Try.f37, B37, 76, Try.func37, by kernel_rfl, by kernel_rfl⟩
noncomputable def B38 : Code := (Try.f38.body).getD .skip
noncomputable def F38 : Fun Try.prog := ⟨38, Try.f38, B38, 54, Try.func38, by kernel_rfl, by kernel_rfl⟩
noncomputable def B39 : Code := (Try.f39.body).getD .skip
noncomputable def F39 : Fun Try.prog := ⟨39, Try.f39, B39, 22, Try.func39, by kernel_rfl, by kernel_rfl⟩
noncomputable def B40 : Code := (Try.f40.body).getD .skip
noncomputable def F40 : Fun Try.prog := ⟨40, Try.f40, B40, 22, Try.func40, by kernel_rfl, by kernel_rfl⟩
noncomputable def B41 : Code := (Try.f41.body).getD .skip
noncomputable def F41 : Fun Try.prog := ⟨41, Try.f41, B41, 15, Try.func41, by kernel_rfl, by kernel_rfl⟩
noncomputable def B42 : Code := (Try.f42.body).getD .skip
noncomputable def F42 : Fun Try.prog := ⟨42, Try.f42, B42, 15, Try.func42, by kernel_rfl, by kernel_rfl⟩
noncomputable def B43 : Code := (Try.f43.body).getD .skip
noncomputable def F43 : Fun Try.prog := ⟨43, Try.f43, B43, 24, Try.func43, by kernel_rfl, by kernel_rfl⟩
noncomputable def B44 : Code := (Try.f44.body).getD .skip
noncomputable def F44 : Fun Try.prog := ⟨44, Try.f44, B44, 24, Try.func44, by kernel_rfl, by kernel_rfl⟩
noncomputable def B45 : Code := (Try.f45.body).getD .skip
noncomputable def F45 : Fun Try.prog := ⟨45, Try.f45, B45, 10, Try.func45, by kernel_rfl, by kernel_rfl⟩
noncomputable def B53 : Code := (Try.f53.body).getD .skip
noncomputable def F53 : Fun Try.prog := ⟨53, Try.f53, B53, 14, Try.func53, by kernel_rfl, by kernel_rfl⟩
noncomputable def B54 : Code := (Try.f54.body).getD .skip
noncomputable def F54 : Fun Try.prog := ⟨54, Try.f54, B54, 8, Try.func54, by kernel_rfl, by kernel_rfl⟩
noncomputable def B55 : Code := (Try.f55.body).getD .skip
noncomputable def F55 : Fun Try.prog := ⟨55, Try.f55, B55, 18, Try.func55, by kernel_rfl, by kernel_rfl⟩
noncomputable def B56 : Code := (Try.f56.body).getD .skip
noncomputable def F56 : Fun Try.prog := ⟨56, Try.f56, B56, 9, Try.func56, by kernel_rfl, by kernel_rfl⟩
noncomputable def B57 : Code := (Try.f57.body).getD .skip
noncomputable def F57 : Fun Try.prog := ⟨57, Try.f57, B57, 26, Try.func57, by kernel_rfl, by kernel_rfl⟩
noncomputable def B58 : Code := (Try.f58.body).getD .skip
noncomputable def F58 : Fun Try.prog := ⟨58, Try.f58, B58, 5, Try.func58, by kernel_rfl, by kernel_rfl⟩
noncomputable def B59 : Code := (Try.f59.body).getD .skip
noncomputable def F59 : Fun Try.prog := ⟨59, Try.f59, B59, 43, Try.func59, by kernel_rfl, by kernel_rfl⟩
noncomputable def B60 : Code := (Try.f60.body).getD .skip
noncomputable def F60 : Fun Try.prog := ⟨60, Try.f60, B60, 58, Try.func60, by kernel_rfl, by kernel_rfl⟩
noncomputable def B61 : Code := (Try.f61.body).getD .skip
noncomputable def F61 : Fun Try.prog := ⟨61, Try.f61, B61, 19, Try.func61, by kernel_rfl, by kernel_rfl⟩
noncomputable def B62 : Code := (Try.f62.body).getD .skip
noncomputable def F62 : Fun Try.prog := ⟨62, Try.f62, B62, 9, Try.func62, by kernel_rfl, by kernel_rfl⟩
noncomputable def B63 : Code := (Try.f63.body).getD .skip
noncomputable def F63 : Fun Try.prog := ⟨63, Try.f63, B63, 20, Try.func63, by kernel_rfl, by kernel_rfl⟩
noncomputable def B64 : Code := (Try.f64.body).getD .skip
noncomputable def F64 : Fun Try.prog := ⟨64, Try.f64, B64, 8, Try.func64, by kernel_rfl, by kernel_rfl⟩
noncomputable def B65 : Code := (Try.f65.body).getD .skip
noncomputable def F65 : Fun Try.prog := ⟨65, Try.f65, B65, 42, Try.func65, by kernel_rfl, by kernel_rfl⟩
noncomputable def B66 : Code := (Try.f66.body).getD .skip
noncomputable def F66 : Fun Try.prog := ⟨66, Try.f66, B66, 8, Try.func66, by kernel_rfl, by kernel_rfl⟩
noncomputable def B67 : Code := (Try.f67.body).getD .skip
noncomputable def F67 : Fun Try.prog := ⟨67, Try.f67, B67, 6, Try.func67, by kernel_rfl, by kernel_rfl⟩

/-! ### charabanc/banks.Where (function 31) -/
section
def banks_Where_31.post (M0 : Nat → Prop) (w0 : World) (r : Int × Bool) : Ending → World → Prop := fun e w => e = .returned (.tuple #[.int .i64 r.1, .bool r.2]) ∧ Below w0.heap.size w0 w
def banks_Where_31.f (K : Nat) (p0_0 : List Int) (p0_1 : Int) (p0_2 : Int) (p0_3 : List (Int × Int)) (p1 : Int) : Option (Int × Bool) := cond (decide ((IntKind.wrap .i64 p1) < (p0_0.length : Int))) (some (0, false)) (Let (fun (t7 : Bool) => cond t7 (some ((IntKind.wrap .i64 ((IntKind.wrap .i64 ((IntKind.wrap .i64 (65536 + (IntKind.wrap .i64 (16384 * p0_2)))) + (IntKind.wrap .i64 p1))) - 32768)), true)) (some ((IntKind.wrap .i64 p1), true))) (fun j10 => cond (decide ((IntKind.wrap .i64 p1) ≥ 32768)) (j10 (decide ((IntKind.wrap .i64 p1) < 49152))) (j10 false)))
set_option maxRecDepth 100000 in
theorem banks_Where_31_ok (K : Nat) (M0 : Nat → Prop) (w0 : World) (pA0_0 : Option Addr) (pc0_0 : Nat) (pA0_3 : Option Addr) (pc0_3 : Nat) (p0_0 : List Int) (p0_1 : Int) (p0_2 : Int) (p0_3 : List (Int × Int)) (p1 : Int) (ho : ∀ b, M0 b → b < w0.heap.size) (hs0_0 : Sl (Rp.int .u8) w0 M0 (.slice pA0_0 p0_0.length pc0_0) p0_0) (hs0_3 : Sl (Rp.pair (Rp.int .i64) (Rp.int .u8)) w0 M0 (.slice pA0_3 p0_3.length pc0_3) p0_3) {r : Int × Bool} (h : banks_Where_31.f K p0_0 p0_1 p0_2 p0_3 p1 = some r) :
    Calls Try.prog 31 #[.agg #[.slice pA0_0 p0_0.length pc0_0, .int .i64 p0_1, .int .i64 p0_2, .slice pA0_3 p0_3.length pc0_3], .int .u16 p1] w0 (banks_Where_31.post M0 w0 r) := by
  unfold banks_Where_31.f at h
  have h0 : Holds M0 w0 w0 [] := Holds.start ho
  have h00_0 := h0.addSl (Rp.int .u8) (.slice pA0_0 p0_0.length pc0_0) p0_0 (hs0_0.mono (fun _ _ hm => hm.elim id (fun hm => absurd hm (by simp [mines, sl]))))
  have h00_3 := h00_0.addSl (Rp.pair (Rp.int .i64) (Rp.int .u8)) (.slice pA0_3 p0_3.length pc0_3) p0_3 (hs0_3.mono (fun _ _ hm => hm.elim id (fun hm => absurd hm (by simp [mines, sl]))))
  have h0 : Holds M0 w0 w0 [sl (Rp.int .u8) (.slice pA0_0 p0_0.length pc0_0) p0_0, sl (Rp.pair (Rp.int .i64) (Rp.int .u8)) (.slice pA0_3 p0_3.length pc0_3) p0_3] := h00_3
  refine calls_of F31 rfl [.agg #[.slice pA0_0 p0_0.length pc0_0, .int .i64 p0_1, .int .i64 p0_2, .slice pA0_3 p0_3.length pc0_3], .int .u16 p1] (by kernel_rfl) ?_
  refine RunsI.go 1 [.c 1, .c 2] (by kernel_rfl) ?_
  refine RunsI.region (by kernel_rfl) ?_
  refine RegI.op (by kernel_rfl) (OpE.box 2 53 [.slice pA0_0 p0_0.length pc0_0, .int .i64 p0_1, .int .i64 p0_2, .slice pA0_3 p0_3.length pc0_3] h0 (by kernel_rfl) (by kernel_rfl) ?_)
  intro w1 b2 h3 hb4
  refine RegI.pure 2 [1, 2] [(1, .int .u16 p1), (2, .pointer (some ⟨b2, 0, none⟩))] (by kernel_rfl) ?_
  refine RegI.done (by kernel_rfl) ?_
  refine RunsI.go 1 [.c 3, .c 4] (by kernel_rfl) ?_
  refine RunsI.region (by kernel_rfl) ?_
  refine RegI.pure 3 [2, 6] [(2, .pointer (some ⟨b2, 0, none⟩)), (6, .int .i64 (IntKind.wrap .i64 p1))] (by kernel_rfl) ?_
  refine RegI.done (by kernel_rfl) ?_
  refine RunsI.go 3 [.c 7, .c 8, .blk 0, .c 19] (by kernel_rfl) ?_
  refine RunsI.region (by kernel_rfl) ?_
  refine RegI.pure 2 [2, 6, 10, 11] [(2, .pointer (some ⟨b2, 0, none⟩)), (6, .int .i64 (IntKind.wrap .i64 p1)), (10, .int .i64 (IntKind.wrap .i64 p1)), (11, .pointer (some ⟨b2, 0, none⟩))] (by kernel_rfl) ?_
  refine RegI.op (by kernel_rfl) (OpE.loadBox 12 2 38 b2 0 (.slice pA0_0 p0_0.length pc0_0) h3 (by kernel_rfl) (by kernel_rfl) rfl (by kernel_rfl) ?_)
  refine RegI.pure 3 [2, 6, 9] [(2, .pointer (some ⟨b2, 0, none⟩)), (6, .int .i64 (IntKind.wrap .i64 p1)), (9, .bool (decide ((IntKind.wrap .i64 p1) < (p0_0.length : Int))))] (by kernel_rfl) ?_
  refine RegI.done (by kernel_rfl) ?_
  rcases of_cond h with ⟨hc5, h⟩ | ⟨hc5, h⟩
  · skip
    refine RunsI.fix 9 true hc5 (by kernel_rfl) (by kernel_rfl) ?_
    refine RunsI.cond true 9 (by kernel_rfl) ?_
    refine RunsI.go 1 [.c 10, .c 11, .blk 0, .c 19] (by kernel_rfl) ?_
    refine RunsI.region (by kernel_rfl) ?_
    refine RegI.pure 2 [4, 5] [(4, .int .i64 0), (5, .bool false)] (by kernel_rfl) ?_
    refine RegI.done (by kernel_rfl) ?_
    refine RunsI.ret (.tuple #[.int .i64 0, .bool false]) (by kernel_rfl) (by kernel_rfl) ?_
    obtain rfl := Option.some.inj h
    exact ⟨rfl, h3.below⟩
  · skip
    refine RunsI.fix 9 false hc5 (by kernel_rfl) (by kernel_rfl) ?_
    refine RunsI.cond false 12 (by kernel_rfl) ?_
    refine RunsI.go 1 [.c 13, .c 14, .blk 0, .c 19] (by kernel_rfl) ?_
    refine RunsI.region (by kernel_rfl) ?_
    refine RegI.pure 3 [2, 6, 18] [(2, .pointer (some ⟨b2, 0, none⟩)), (6, .int .i64 (IntKind.wrap .i64 p1)), (18, .bool (decide ((IntKind.wrap .i64 p1) ≥ 32768)))] (by kernel_rfl) ?_
    obtain ⟨j10, hJ11, h⟩ := of_let h
    have hj12 : ∀ (t7 : Bool) (w9 : World), j10 t7 = some r → Holds M0 w0 w9 [box b2 53 [.slice pA0_0 p0_0.length pc0_0, .int .i64 p0_1, .int .i64 p0_2, .slice pA0_3 p0_3.length pc0_3], sl (Rp.int .u8) (.slice pA0_0 p0_0.length pc0_0) p0_0, sl (Rp.pair (Rp.int .i64) (Rp.int .u8)) (.slice pA0_3 p0_3.length pc0_3) p0_3] → RegI F31 13 [.c 14, .blk 0, .c 19] 7 [(2, .pointer (some ⟨b2, 0, none⟩)), (6, .int .i64 (IntKind.wrap .i64 p1)), (15, .bool t7)] w9 (banks_Where_31.post M0 w0 r) := by
      intro t7 w9 h h8
      rw [hJ11] at h
      clear hJ11
      dsimp only at h
      refine RegI.done (by kernel_rfl) ?_
      rcases of_cond h with ⟨hc13, h⟩ | ⟨hc13, h⟩
      · skip
        refine RunsI.fix 15 true hc13 (by kernel_rfl) (by kernel_rfl) ?_
        refine RunsI.cond true 15 (by kernel_rfl) ?_
        refine RunsI.go 1 [.c 16, .c 17, .blk 0, .c 19] (by kernel_rfl) ?_
        refine RunsI.region (by kernel_rfl) ?_
        refine RegI.pure 1 [6, 22] [(6, .int .i64 (IntKind.wrap .i64 p1)), (22, .pointer (some ⟨b2, 2, none⟩))] (by kernel_rfl) ?_
        refine RegI.op (by kernel_rfl) (OpE.loadBox 23 0 3 b2 2 (.int .i64 p0_2) h8 (by kernel_rfl) (by kernel_rfl) rfl (by kernel_rfl) ?_)
        refine RegI.pure 7 [4, 5] [(4, .int .i64 (IntKind.wrap .i64 ((IntKind.wrap .i64 ((IntKind.wrap .i64 (65536 + (IntKind.wrap .i64 (16384 * p0_2)))) + (IntKind.wrap .i64 p1))) - 32768))), (5, .bool true)] (by kernel_rfl) ?_
        refine RegI.done (by kernel_rfl) ?_
        refine RunsI.ret (.tuple #[.int .i64 (IntKind.wrap .i64 ((IntKind.wrap .i64 ((IntKind.wrap .i64 (65536 + (IntKind.wrap .i64 (16384 * p0_2)))) + (IntKind.wrap .i64 p1))) - 32768)), .bool true]) (by kernel_rfl) (by kernel_rfl) ?_
        obtain rfl := Option.some.inj h
        exact ⟨rfl, h8.below⟩
      · skip
        refine RunsI.fix 15 false hc13 (by kernel_rfl) (by kernel_rfl) ?_
        refine RunsI.cond false 18 (by kernel_rfl) ?_
        refine RunsI.go 1 [.blk 0, .c 19] (by kernel_rfl) ?_
        refine RunsI.go 2 [.c 20, .c 21] (by kernel_rfl) ?_
        refine RunsI.region (by kernel_rfl) ?_
        refine RegI.pure 3 [4, 5] [(4, .int .i64 (IntKind.wrap .i64 p1)), (5, .bool true)] (by kernel_rfl) ?_
        refine RegI.done (by kernel_rfl) ?_
        refine RunsI.ret (.tuple #[.int .i64 (IntKind.wrap .i64 p1), .bool true]) (by kernel_rfl) (by kernel_rfl) ?_
        obtain rfl := Option.some.inj h
        exact ⟨rfl, h8.below⟩
    clear hJ11
    rcases of_cond h with ⟨hc6, h⟩ | ⟨hc6, h⟩
    · skip
      refine RegI.fix 18 true hc6 (by kernel_rfl) (by kernel_rfl) ?_
      refine RegI.pure 4 [2, 6, 15] [(2, .pointer (some ⟨b2, 0, none⟩)), (6, .int .i64 (IntKind.wrap .i64 p1)), (15, .bool (decide ((IntKind.wrap .i64 p1) < 49152)))] (by kernel_rfl) ?_
      refine RegI.only [2, 6, 15] [(2, .pointer (some ⟨b2, 0, none⟩)), (6, .int .i64 (IntKind.wrap .i64 p1)), (15, .bool (decide ((IntKind.wrap .i64 p1) < 49152)))] (by kernel_rfl) (by kernel_rfl) ?_
      exact hj12 (decide ((IntKind.wrap .i64 p1) < 49152)) w1 h (h3.pick [2, 0, 1] (by decide))
    · skip
      refine RegI.fix 18 false hc6 (by kernel_rfl) (by kernel_rfl) ?_
      refine RegI.pure 4 [2, 6, 15] [(2, .pointer (some ⟨b2, 0, none⟩)), (6, .int .i64 (IntKind.wrap .i64 p1)), (15, .bool false)] (by kernel_rfl) ?_
      refine RegI.only [2, 6, 15] [(2, .pointer (some ⟨b2, 0, none⟩)), (6, .int .i64 (IntKind.wrap .i64 p1)), (15, .bool false)] (by kernel_rfl) (by kernel_rfl) ?_
      exact hj12 false w1 h (h3.pick [2, 0, 1] (by decide))
end

/-! ### charabanc/banks.Read (function 34) -/
section
def banks_Read_34.post (M0 : Nat → Prop) (w0 : World) (r : Int) : Ending → World → Prop := fun e w => e = .returned (.int .u8 r) ∧ Below w0.heap.size w0 w
def banks_Read_34.l0 (K : Nat) (p0_0 : List Int) (p0_1 : Int) (p0_2 : Int) (p0_3 : List (Int × Int)) (p1 : Int) (t26 : Int) : Nat → Int → Option (Lp Int Unit)
  | 0, _ => none
  | k + 1, t27 => cond (decide (t27 < (p0_3.length : Int))) (cond (inR t27 p0_3.length) (cond (((rdD p0_3 t27).1) == t26) (some (Lp.ret t27)) (banks_Read_34.l0 K p0_0 p0_1 p0_2 p0_3 p1 t26 k (IntKind.wrap .i64 (t27 + 1)))) none) (some (Lp.go ()))
set_option maxRecDepth 100000 in
theorem banks_Read_34.l0_ok (K : Nat) (M0 : Nat → Prop) (w0 : World) (pA0_0 : Option Addr) (pc0_0 : Nat) (pA0_3 : Option Addr) (pc0_3 : Nat) (p0_0 : List Int) (p0_1 : Int) (p0_2 : Int) (p0_3 : List (Int × Int)) (p1 : Int) (t26 : Int) (b25 : Nat) (b28 : Nat) (R : Ending → World → Prop) (x : Lp Int Unit) (hk0 : ∀ (w1 : World), x = Lp.go () → Holds M0 w0 w1 [box b28 53 [.slice pA0_0 p0_0.length pc0_0, .int .i64 p0_1, .int .i64 p0_2, .slice pA0_3 p0_3.length pc0_3], sl (Rp.int .u8) (.slice pA0_0 p0_0.length pc0_0) p0_0, sl (Rp.pair (Rp.int .i64) (Rp.int .u8)) (.slice pA0_3 p0_3.length pc0_3) p0_3] → RunsI F61 [.c 25] [] w1 R) (hk1 : ∀ (t41 : Int) (w1 : World), x = Lp.ret t41 → Holds M0 w0 w1 [box b28 53 [.slice pA0_0 p0_0.length pc0_0, .int .i64 p0_1, .int .i64 p0_2, .slice pA0_3 p0_3.length pc0_3], sl (Rp.int .u8) (.slice pA0_0 p0_0.length pc0_0) p0_0, sl (Rp.pair (Rp.int .i64) (Rp.int .u8)) (.slice pA0_3 p0_3.length pc0_3) p0_3] → R (.returned (.int .i64 t41)) w1) :
    ∀ (k : Nat) (t27 : Int) (w : World), banks_Read_34.l0 K p0_0 p0_1 p0_2 p0_3 p1 t26 k t27 = some x → Holds M0 w0 w [sl (Rp.pair (Rp.int .i64) (Rp.int .u8)) (.slice pA0_3 p0_3.length pc0_3) p0_3, box b25 3 [.int .i64 t26], box b28 53 [.slice pA0_0 p0_0.length pc0_0, .int .i64 p0_1, .int .i64 p0_2, .slice pA0_3 p0_3.length pc0_3], sl (Rp.int .u8) (.slice pA0_0 p0_0.length pc0_0) p0_0] → RunsI F61 [.c 7, .lp 7, .blk 0, .c 25] [(0, .slice pA0_3 p0_3.length pc0_3), (1, .func (.func 54) #[] #[.pointer (some ⟨b25, 0, none⟩)]), (7, .int .i64 (p0_3.length : Int)), (8, .int .i64 t27)] w R := by
  intro k
  induction k with
  | zero => intro t27 w h hH; exact absurd h (by simp [banks_Read_34.l0])
  | succ k ih =>
    intro t27 w h hH
    rw [banks_Read_34.l0.eq_2] at h
    refine RunsI.go 1 [.c 8, .c 9, .lp 7, .blk 0, .c 25] (by kernel_rfl) ?_
    refine RunsI.region (by kernel_rfl) ?_
    refine RegI.pure 1 [0, 1, 7, 8, 9] [(0, .slice pA0_3 p0_3.length pc0_3), (1, .func (.func 54) #[] #[.pointer (some ⟨b25, 0, none⟩)]), (7, .int .i64 (p0_3.length : Int)), (8, .int .i64 t27), (9, .bool (decide (t27 < (p0_3.length : Int))))] (by kernel_rfl) ?_
    refine RegI.done (by kernel_rfl) ?_
    refine RunsI.go 1 [.c 10, .c 13, .lp 7, .blk 0, .c 25] (by kernel_rfl) ?_
    rcases of_cond h with ⟨hc29, h⟩ | ⟨hc29, h⟩
    · skip
      refine RunsI.fix 9 true hc29 (by kernel_rfl) (by kernel_rfl) ?_
      refine RunsI.cond true 11 (by kernel_rfl) ?_
      refine RunsI.go 1 [.c 13, .lp 7, .blk 0, .c 25] (by kernel_rfl) ?_
      refine RunsI.go 3 [.c 16, .c 17, .blk 1, .c 24, .lp 7, .blk 0, .c 25] (by kernel_rfl) ?_
      refine RunsI.region (by kernel_rfl) ?_
      refine RegI.pure 2 [0, 1, 5, 7, 8] [(0, .slice pA0_3 p0_3.length pc0_3), (1, .func (.func 54) #[] #[.pointer (some ⟨b25, 0, none⟩)]), (5, .int .i64 t27), (7, .int .i64 (p0_3.length : Int)), (8, .int .i64 t27)] (by kernel_rfl) ?_
      refine RegI.done (by kernel_rfl) ?_
      refine RunsI.go 1 [.c 18, .c 19, .blk 1, .c 24, .lp 7, .blk 0, .c 25] (by kernel_rfl) ?_
      refine RunsI.region (by kernel_rfl) ?_
      refine RegI.pure 3 [0, 1, 5, 7, 8, 11, 12, 13] [(0, .slice pA0_3 p0_3.length pc0_3), (1, .func (.func 54) #[] #[.pointer (some ⟨b25, 0, none⟩)]), (5, .int .i64 t27), (7, .int .i64 (p0_3.length : Int)), (8, .int .i64 t27), (11, .func (.func 54) #[] #[.pointer (some ⟨b25, 0, none⟩)]), (12, .slice pA0_3 p0_3.length pc0_3), (13, .int .i64 t27)] (by kernel_rfl) ?_
      obtain ⟨hc30, h⟩ := of_cond0 h
      refine RegI.op (by kernel_rfl) (OpE.idxSl 14 0 51 t27 hH (by kernel_rfl) rfl (by kernel_rfl) (by kernel_rfl) hc30 ?_)
      intro b31 o32 cs33 hk34 h35
      obtain ⟨_, _, rfl, rfl, rfl⟩ := hk34
      refine RegI.op (by kernel_rfl) (OpE.loadCel 15 4 87 b31 o32 0 (.agg #[.int .i64 ((rdD p0_3 t27).1), .int .u8 ((rdD p0_3 t27).2)]) h35 (by kernel_rfl) (by kernel_rfl) rfl (by kernel_rfl) ?_)
      refine RegI.enter 16 [0, 1, 5, 7, 8] [(0, .slice pA0_3 p0_3.length pc0_3), (1, .func (.func 54) #[] #[.pointer (some ⟨b25, 0, none⟩)]), (5, .int .i64 t27), (7, .int .i64 (p0_3.length : Int)), (8, .int .i64 t27)] (by kernel_rfl) (by kernel_rfl) (by kernel_rfl) (by kernel_rfl) F54 54 rfl [.agg #[.int .i64 ((rdD p0_3 t27).1), .int .u8 ((rdD p0_3 t27).2)], .pointer (some ⟨b25, 0, none⟩)] (by kernel_rfl) (by kernel_rfl) ?_
      refine RunsI.go 1 [.c 1, .c 2] (by kernel_rfl) ?_
      refine RunsI.region (by kernel_rfl) ?_
      refine RegI.op (by kernel_rfl) (OpE.box 2 87 [.int .i64 ((rdD p0_3 t27).1), .int .u8 ((rdD p0_3 t27).2)] h35 (by kernel_rfl) (by kernel_rfl) ?_)
      intro w36 b37 h38 hb39
      refine RegI.pure 1 [1, 2] [(1, .pointer (some ⟨b25, 0, none⟩)), (2, .pointer (some ⟨b37, 0, none⟩))] (by kernel_rfl) ?_
      refine RegI.done (by kernel_rfl) ?_
      refine RunsI.go 1 [.c 3, .c 4] (by kernel_rfl) ?_
      refine RunsI.region (by kernel_rfl) ?_
      refine RegI.pure 1 [1, 4] [(1, .pointer (some ⟨b25, 0, none⟩)), (4, .pointer (some ⟨b37, 0, none⟩))] (by kernel_rfl) ?_
      refine RegI.op (by kernel_rfl) (OpE.loadBox 5 5 3 b37 0 (.int .i64 ((rdD p0_3 t27).1)) h38 (by kernel_rfl) (by kernel_rfl) rfl (by kernel_rfl) ?_)
      refine RegI.op (by kernel_rfl) (OpE.loadBox 6 1 3 b25 0 (.int .i64 t26) h38 (by kernel_rfl) (by kernel_rfl) rfl (by kernel_rfl) ?_)
      refine RegI.pure 2 [3] [(3, .bool (((rdD p0_3 t27).1) == t26))] (by kernel_rfl) ?_
      refine RegI.done (by kernel_rfl) ?_
      refine RunsI.ret (.bool (((rdD p0_3 t27).1) == t26)) (by kernel_rfl) (by kernel_rfl) ?_
      refine cont_mk ?_
      refine RegI.done (by kernel_rfl) ?_
      rcases of_cond h with ⟨hc40, h⟩ | ⟨hc40, h⟩
      · skip
        refine RunsI.fix 16 true hc40 (by kernel_rfl) (by kernel_rfl) ?_
        refine RunsI.cond true 20 (by kernel_rfl) ?_
        refine RunsI.go 1 [.c 21, .c 22, .blk 1, .c 24, .lp 7, .blk 0, .c 25] (by kernel_rfl) ?_
        refine RunsI.region (by kernel_rfl) ?_
        refine RegI.pure 2 [4] [(4, .int .i64 t27)] (by kernel_rfl) ?_
        refine RegI.done (by kernel_rfl) ?_
        refine RunsI.ret (.int .i64 t27) (by kernel_rfl) (by kernel_rfl) ?_
        exact hk1 t27 w36 (Option.some.inj h).symm (h38.pick [2, 3, 0] (by decide))
      · skip
        refine RunsI.fix 16 false hc40 (by kernel_rfl) (by kernel_rfl) ?_
        refine RunsI.cond false 23 (by kernel_rfl) ?_
        refine RunsI.go 1 [.blk 1, .c 24, .lp 7, .blk 0, .c 25] (by kernel_rfl) ?_
        refine RunsI.go 1 [.c 24, .lp 7, .blk 0, .c 25] (by kernel_rfl) ?_
        refine RunsI.region (by kernel_rfl) ?_
        refine RegI.pure 2 [0, 1, 7, 8] [(0, .slice pA0_3 p0_3.length pc0_3), (1, .func (.func 54) #[] #[.pointer (some ⟨b25, 0, none⟩)]), (7, .int .i64 (p0_3.length : Int)), (8, .int .i64 (IntKind.wrap .i64 (t27 + 1)))] (by kernel_rfl) ?_
        refine RegI.done (by kernel_rfl) ?_
        refine RunsI.go 1 [.c 7, .lp 7, .blk 0, .c 25] (by kernel_rfl) ?_
        refine RunsI.only [0, 1, 7, 8] [(0, .slice pA0_3 p0_3.length pc0_3), (1, .func (.func 54) #[] #[.pointer (some ⟨b25, 0, none⟩)]), (7, .int .i64 (p0_3.length : Int)), (8, .int .i64 (IntKind.wrap .i64 (t27 + 1)))] (by kernel_rfl) (by kernel_rfl) ?_
        exact ih (IntKind.wrap .i64 (t27 + 1)) w36 h (h38.pick [0, 1, 2, 3] (by decide))
    · skip
      refine RunsI.fix 9 false hc29 (by kernel_rfl) (by kernel_rfl) ?_
      refine RunsI.cond false 12 (by kernel_rfl) ?_
      refine RunsI.go 1 [.c 25] (by kernel_rfl) ?_
      refine RunsI.only [] [] (by kernel_rfl) (by kernel_rfl) ?_
      exact hk0 w (Option.some.inj h).symm (hH.pick [2, 3, 0] (by decide))
def banks_Read_34.f (K : Nat) (p0_0 : List Int) (p0_1 : Int) (p0_2 : Int) (p0_3 : List (Int × Int)) (p1 : Int) : Option Int := (banks_Where_31.f K p0_0 p0_1 p0_2 p0_3 p1).bind fun yt9 => cond (!yt9.2) (cond (inR p1 p0_0.length) (some (rdD p0_0 p1)) none) (Let (fun (t56 : Int) => cond (decide (t56 < (p0_3.length : Int))) (cond (inR t56 p0_3.length) (some ((rdD p0_3 t56).2)) none) (some 0)) (fun j59 => Let (fun (t49 : Int) => cond (decide (t49 ≥ 0)) (j59 t49) (j59 (p0_3.length : Int))) (fun j52 => (banks_Read_34.l0 K p0_0 p0_1 p0_2 p0_3 p1 yt9.1 K 0).bind (fun x42 => Lp.elim x42 (fun t46 => j52 t46) (fun _ => j52 (-1))))))
set_option maxRecDepth 100000 in
theorem banks_Read_34_ok (K : Nat) (M0 : Nat → Prop) (w0 : World) (pA0_0 : Option Addr) (pc0_0 : Nat) (pA0_3 : Option Addr) (pc0_3 : Nat) (p0_0 : List Int) (p0_1 : Int) (p0_2 : Int) (p0_3 : List (Int × Int)) (p1 : Int) (ho : ∀ b, M0 b → b < w0.heap.size) (hs0_0 : Sl (Rp.int .u8) w0 M0 (.slice pA0_0 p0_0.length pc0_0) p0_0) (hs0_3 : Sl (Rp.pair (Rp.int .i64) (Rp.int .u8)) w0 M0 (.slice pA0_3 p0_3.length pc0_3) p0_3) {r : Int} (h : banks_Read_34.f K p0_0 p0_1 p0_2 p0_3 p1 = some r) :
    Calls Try.prog 34 #[.agg #[.slice pA0_0 p0_0.length pc0_0, .int .i64 p0_1, .int .i64 p0_2, .slice pA0_3 p0_3.length pc0_3], .int .u16 p1] w0 (banks_Read_34.post M0 w0 r) := by
  unfold banks_Read_34.f at h
  have h0 : Holds M0 w0 w0 [] := Holds.start ho
  have h00_0 := h0.addSl (Rp.int .u8) (.slice pA0_0 p0_0.length pc0_0) p0_0 (hs0_0.mono (fun _ _ hm => hm.elim id (fun hm => absurd hm (by simp [mines, sl]))))
  have h00_3 := h00_0.addSl (Rp.pair (Rp.int .i64) (Rp.int .u8)) (.slice pA0_3 p0_3.length pc0_3) p0_3 (hs0_3.mono (fun _ _ hm => hm.elim id (fun hm => absurd hm (by simp [mines, sl]))))
  have h0 : Holds M0 w0 w0 [sl (Rp.int .u8) (.slice pA0_0 p0_0.length pc0_0) p0_0, sl (Rp.pair (Rp.int .i64) (Rp.int .u8)) (.slice pA0_3 p0_3.length pc0_3) p0_3] := h00_3
  refine calls_of F34 rfl [.agg #[.slice pA0_0 p0_0.length pc0_0, .int .i64 p0_1, .int .i64 p0_2, .slice pA0_3 p0_3.length pc0_3], .int .u16 p1] (by kernel_rfl) ?_
  refine RunsI.go 1 [.c 1, .c 2] (by kernel_rfl) ?_
  refine RunsI.region (by kernel_rfl) ?_
  refine RegI.op (by kernel_rfl) (OpE.box 2 53 [.slice pA0_0 p0_0.length pc0_0, .int .i64 p0_1, .int .i64 p0_2, .slice pA0_3 p0_3.length pc0_3] h0 (by kernel_rfl) (by kernel_rfl) ?_)
  intro w1 b2 h3 hb4
  refine RegI.pure 1 [1, 2] [(1, .int .u16 p1), (2, .pointer (some ⟨b2, 0, none⟩))] (by kernel_rfl) ?_
  refine RegI.done (by kernel_rfl) ?_
  refine RunsI.go 1 [.c 3, .c 4] (by kernel_rfl) ?_
  refine RunsI.region (by kernel_rfl) ?_
  refine RegI.op (by kernel_rfl) (OpE.loadBox 9 2 53 b2 0 (.agg #[.slice pA0_0 p0_0.length pc0_0, .int .i64 p0_1, .int .i64 p0_2, .slice pA0_3 p0_3.length pc0_3]) h3 (by kernel_rfl) (by kernel_rfl) rfl (by kernel_rfl) ?_)
  refine RegI.pure 1 [1, 2, 9, 10] [(1, .int .u16 p1), (2, .pointer (some ⟨b2, 0, none⟩)), (9, .agg #[.slice pA0_0 p0_0.length pc0_0, .int .i64 p0_1, .int .i64 p0_2, .slice pA0_3 p0_3.length pc0_3]), (10, .int .u16 p1)] (by kernel_rfl) ?_
  obtain ⟨⟨t9, t10⟩, hg8, h⟩ := of_bind h
  dsimp only at h
  refine RegI.op (by kernel_rfl) (OpE.call 11 (by kernel_rfl) 31 #[.agg #[.slice pA0_0 p0_0.length pc0_0, .int .i64 p0_1, .int .i64 p0_2, .slice pA0_3 p0_3.length pc0_3], .int .u16 p1] (by kernel_rfl) ((banks_Where_31_ok K _ w1  pA0_0 pc0_0 pA0_3 pc0_3 p0_0 p0_1 p0_2 p0_3 p1 h3.old' (h3.get 0 rfl) (h3.get 1 rfl) hg8).mono ?_))
  rintro _ w5 ⟨rfl, hb6⟩
  refine ⟨_, rfl, ?_⟩
  have h7 := h3.call hb6
  refine RegI.pure 3 [1, 2, 12, 13] [(1, .int .u16 p1), (2, .pointer (some ⟨b2, 0, none⟩)), (12, .int .i64 t9), (13, .bool t10)] (by kernel_rfl) ?_
  refine RegI.op (by kernel_rfl) (OpE.box 5 3 [.int .i64 0] h7 (by kernel_rfl) (by kernel_rfl) ?_)
  intro w11 b12 h13 hb14
  refine RegI.op (by kernel_rfl) (OpE.storeBox 3 3 b12 0 (.int .i64 t9) [.int .i64 t9] h13 (by kernel_rfl) (by kernel_rfl) rfl (by kernel_rfl) (by kernel_rfl) (by kernel_rfl) ?_)
  intro w15 h16 hk17
  refine RegI.pure 1 [1, 2, 5, 6] [(1, .int .u16 p1), (2, .pointer (some ⟨b2, 0, none⟩)), (5, .pointer (some ⟨b12, 0, none⟩)), (6, .bool t10)] (by kernel_rfl) ?_
  refine RegI.done (by kernel_rfl) ?_
  refine RunsI.go 2 [.c 6, .c 7, .c 12] (by kernel_rfl) ?_
  refine RunsI.region (by kernel_rfl) ?_
  refine RegI.pure 2 [1, 2, 5, 15] [(1, .int .u16 p1), (2, .pointer (some ⟨b2, 0, none⟩)), (5, .pointer (some ⟨b12, 0, none⟩)), (15, .bool (!t10))] (by kernel_rfl) ?_
  refine RegI.done (by kernel_rfl) ?_
  rcases of_cond h with ⟨hc18, h⟩ | ⟨hc18, h⟩
  · skip
    refine RunsI.fix 15 true hc18 (by kernel_rfl) (by kernel_rfl) ?_
    refine RunsI.cond true 8 (by kernel_rfl) ?_
    refine RunsI.go 1 [.c 9, .c 10, .c 12] (by kernel_rfl) ?_
    refine RunsI.region (by kernel_rfl) ?_
    refine RegI.pure 1 [1, 16] [(1, .int .u16 p1), (16, .pointer (some ⟨b2, 0, none⟩))] (by kernel_rfl) ?_
    refine RegI.op (by kernel_rfl) (OpE.loadBox 17 2 38 b2 0 (.slice pA0_0 p0_0.length pc0_0) h16 (by kernel_rfl) (by kernel_rfl) rfl (by kernel_rfl) ?_)
    refine RegI.pure 1 [17, 18] [(17, .slice pA0_0 p0_0.length pc0_0), (18, .int .u16 p1)] (by kernel_rfl) ?_
    obtain ⟨hc19, h⟩ := of_cond0 h
    refine RegI.op (by kernel_rfl) (OpE.idxSl 19 0 38 p1 h16 (by kernel_rfl) rfl (by kernel_rfl) (by kernel_rfl) hc19 ?_)
    intro b20 o21 cs22 hk23 h24
    obtain rfl := hk23
    refine RegI.op (by kernel_rfl) (OpE.loadCel 20 4 5 b20 o21 0 (.int .u8 (rdD p0_0 p1)) h24 (by kernel_rfl) (by kernel_rfl) rfl (by kernel_rfl) ?_)
    refine RegI.pure 1 [4] [(4, .int .u8 (rdD p0_0 p1))] (by kernel_rfl) ?_
    refine RegI.done (by kernel_rfl) ?_
    refine RunsI.ret (.int .u8 (rdD p0_0 p1)) (by kernel_rfl) (by kernel_rfl) ?_
    obtain rfl := Option.some.inj h
    exact ⟨rfl, h24.below⟩
  · skip
    refine RunsI.fix 15 false hc18 (by kernel_rfl) (by kernel_rfl) ?_
    refine RunsI.cond false 11 (by kernel_rfl) ?_
    refine RunsI.go 1 [.c 12] (by kernel_rfl) ?_
    refine RunsI.go 2 [.c 14, .c 15, .c 22] (by kernel_rfl) ?_
    refine RunsI.region (by kernel_rfl) ?_
    refine RegI.pure 1 [2, 5, 21] [(2, .pointer (some ⟨b2, 0, none⟩)), (5, .pointer (some ⟨b12, 0, none⟩)), (21, .pointer (some ⟨b2, 3, none⟩))] (by kernel_rfl) ?_
    refine RegI.op (by kernel_rfl) (OpE.loadBox 22 2 51 b2 3 (.slice pA0_3 p0_3.length pc0_3) h16 (by kernel_rfl) (by kernel_rfl) rfl (by kernel_rfl) ?_)
    refine RegI.pure 1 [2, 22, 23] [(2, .pointer (some ⟨b2, 0, none⟩)), (22, .slice pA0_3 p0_3.length pc0_3), (23, .func (.func 54) #[] #[.pointer (some ⟨b12, 0, none⟩)])] (by kernel_rfl) ?_
    refine RegI.enter 24 [2] [(2, .pointer (some ⟨b2, 0, none⟩))] (by kernel_rfl) (by kernel_rfl) (by kernel_rfl) (by kernel_rfl) F53 53 rfl [.slice pA0_3 p0_3.length pc0_3, .func (.func 54) #[] #[.pointer (some ⟨b12, 0, none⟩)]] (by kernel_rfl) (by kernel_rfl) ?_
    obtain ⟨j59, hJ60, h⟩ := of_let h
    have hj61 : ∀ (t56 : Int) (w58 : World), j59 t56 = some r → Holds M0 w0 w58 [box b2 53 [.slice pA0_0 p0_0.length pc0_0, .int .i64 p0_1, .int .i64 p0_2, .slice pA0_3 p0_3.length pc0_3], sl (Rp.int .u8) (.slice pA0_0 p0_0.length pc0_0) p0_0, sl (Rp.pair (Rp.int .i64) (Rp.int .u8)) (.slice pA0_3 p0_3.length pc0_3) p0_3] → RegI F34 14 [.c 15, .c 22] 4 [(2, .pointer (some ⟨b2, 0, none⟩)), (24, .int .i64 t56)] w58 (banks_Read_34.post M0 w0 r) := by
      intro t56 w58 h h57
      rw [hJ60] at h
      clear hJ60
      dsimp only at h
      refine RegI.pure 1 [2, 7] [(2, .pointer (some ⟨b2, 0, none⟩)), (7, .int .i64 t56)] (by kernel_rfl) ?_
      refine RegI.done (by kernel_rfl) ?_
      refine RunsI.go 1 [.c 16, .c 17, .c 22] (by kernel_rfl) ?_
      refine RunsI.region (by kernel_rfl) ?_
      refine RegI.pure 2 [2, 7, 25, 26] [(2, .pointer (some ⟨b2, 0, none⟩)), (7, .int .i64 t56), (25, .int .i64 t56), (26, .pointer (some ⟨b2, 3, none⟩))] (by kernel_rfl) ?_
      refine RegI.op (by kernel_rfl) (OpE.loadBox 27 0 51 b2 3 (.slice pA0_3 p0_3.length pc0_3) h57 (by kernel_rfl) (by kernel_rfl) rfl (by kernel_rfl) ?_)
      refine RegI.pure 2 [2, 7, 29] [(2, .pointer (some ⟨b2, 0, none⟩)), (7, .int .i64 t56), (29, .bool (decide (t56 < (p0_3.length : Int))))] (by kernel_rfl) ?_
      refine RegI.done (by kernel_rfl) ?_
      rcases of_cond h with ⟨hc62, h⟩ | ⟨hc62, h⟩
      · skip
        refine RunsI.fix 29 true hc62 (by kernel_rfl) (by kernel_rfl) ?_
        refine RunsI.cond true 18 (by kernel_rfl) ?_
        refine RunsI.go 1 [.c 19, .c 20, .c 22] (by kernel_rfl) ?_
        refine RunsI.region (by kernel_rfl) ?_
        refine RegI.pure 1 [7, 30] [(7, .int .i64 t56), (30, .pointer (some ⟨b2, 3, none⟩))] (by kernel_rfl) ?_
        refine RegI.op (by kernel_rfl) (OpE.loadBox 31 0 51 b2 3 (.slice pA0_3 p0_3.length pc0_3) h57 (by kernel_rfl) (by kernel_rfl) rfl (by kernel_rfl) ?_)
        refine RegI.pure 1 [31, 32] [(31, .slice pA0_3 p0_3.length pc0_3), (32, .int .i64 t56)] (by kernel_rfl) ?_
        obtain ⟨hc63, h⟩ := of_cond0 h
        refine RegI.op (by kernel_rfl) (OpE.idxSl 33 2 51 t56 h57 (by kernel_rfl) rfl (by kernel_rfl) (by kernel_rfl) hc63 ?_)
        intro b64 o65 cs66 hk67 h68
        obtain ⟨_, _, rfl, rfl, rfl⟩ := hk67
        refine RegI.pure 1 [34] [(34, .pointer (some ⟨b64, o65 + 1, none⟩))] (by kernel_rfl) ?_
        refine RegI.op (by kernel_rfl) (OpE.loadCel 35 3 5 b64 o65 1 (.int .u8 ((rdD p0_3 t56).2)) h68 (by kernel_rfl) (by kernel_rfl) rfl (by kernel_rfl) ?_)
        refine RegI.pure 1 [4] [(4, .int .u8 ((rdD p0_3 t56).2))] (by kernel_rfl) ?_
        refine RegI.done (by kernel_rfl) ?_
        refine RunsI.ret (.int .u8 ((rdD p0_3 t56).2)) (by kernel_rfl) (by kernel_rfl) ?_
        obtain rfl := Option.some.inj h
        exact ⟨rfl, h68.below⟩
      · skip
        refine RunsI.fix 29 false hc62 (by kernel_rfl) (by kernel_rfl) ?_
        refine RunsI.cond false 21 (by kernel_rfl) ?_
        refine RunsI.go 1 [.c 22] (by kernel_rfl) ?_
        refine RunsI.go 1 [.c 23, .c 24] (by kernel_rfl) ?_
        refine RunsI.region (by kernel_rfl) ?_
        refine RegI.pure 1 [4] [(4, .int .u8 0)] (by kernel_rfl) ?_
        refine RegI.done (by kernel_rfl) ?_
        refine RunsI.ret (.int .u8 0) (by kernel_rfl) (by kernel_rfl) ?_
        obtain rfl := Option.some.inj h
        exact ⟨rfl, h57.below⟩
    clear hJ60
    refine RunsI.go 1 [.c 1, .c 2] (by kernel_rfl) ?_
    refine RunsI.region (by kernel_rfl) ?_
    refine RegI.pure 1 [0, 1] [(0, .slice pA0_3 p0_3.length pc0_3), (1, .func (.func 54) #[] #[.pointer (some ⟨b12, 0, none⟩)])] (by kernel_rfl) ?_
    refine RegI.done (by kernel_rfl) ?_
    refine RunsI.go 2 [.c 4, .c 5, .c 12] (by kernel_rfl) ?_
    refine RunsI.region (by kernel_rfl) ?_
    refine RegI.pure 2 [0, 6, 7] [(0, .slice pA0_3 p0_3.length pc0_3), (6, .slice pA0_3 p0_3.length pc0_3), (7, .func (.func 54) #[] #[.pointer (some ⟨b12, 0, none⟩)])] (by kernel_rfl) ?_
    refine RegI.enter 8 [0] [(0, .slice pA0_3 p0_3.length pc0_3)] (by kernel_rfl) (by kernel_rfl) (by kernel_rfl) (by kernel_rfl) F61 61 rfl [.slice pA0_3 p0_3.length pc0_3, .func (.func 54) #[] #[.pointer (some ⟨b12, 0, none⟩)]] (by kernel_rfl) (by kernel_rfl) ?_
    obtain ⟨j52, hJ53, h⟩ := of_let h
    have hj54 : ∀ (t49 : Int) (w51 : World), j52 t49 = some r → Holds M0 w0 w51 [sl (Rp.pair (Rp.int .i64) (Rp.int .u8)) (.slice pA0_3 p0_3.length pc0_3) p0_3, box b2 53 [.slice pA0_0 p0_0.length pc0_0, .int .i64 p0_1, .int .i64 p0_2, .slice pA0_3 p0_3.length pc0_3], sl (Rp.int .u8) (.slice pA0_0 p0_0.length pc0_0) p0_0] → RegI F53 4 [.c 5, .c 12] 3 [(0, .slice pA0_3 p0_3.length pc0_3), (8, .int .i64 t49)] w51 (cont (fun e' w' => RegI F34 14 [.c 15, .c 22] 4 e' w' (banks_Read_34.post M0 w0 r)) 24 [(2, .pointer (some ⟨b2, 0, none⟩))]) := by
      intro t49 w51 h h50
      rw [hJ53] at h
      clear hJ53
      dsimp only at h
      refine RegI.pure 1 [0, 5] [(0, .slice pA0_3 p0_3.length pc0_3), (5, .int .i64 t49)] (by kernel_rfl) ?_
      refine RegI.done (by kernel_rfl) ?_
      refine RunsI.go 1 [.c 6, .c 7, .c 12] (by kernel_rfl) ?_
      refine RunsI.region (by kernel_rfl) ?_
      refine RegI.pure 2 [0, 5, 10] [(0, .slice pA0_3 p0_3.length pc0_3), (5, .int .i64 t49), (10, .bool (decide (t49 ≥ 0)))] (by kernel_rfl) ?_
      refine RegI.done (by kernel_rfl) ?_
      rcases of_cond h with ⟨hc55, h⟩ | ⟨hc55, h⟩
      · skip
        refine RunsI.fix 10 true hc55 (by kernel_rfl) (by kernel_rfl) ?_
        refine RunsI.cond true 8 (by kernel_rfl) ?_
        refine RunsI.go 1 [.c 9, .c 10, .c 12] (by kernel_rfl) ?_
        refine RunsI.region (by kernel_rfl) ?_
        refine RegI.pure 2 [4] [(4, .int .i64 t49)] (by kernel_rfl) ?_
        refine RegI.done (by kernel_rfl) ?_
        refine RunsI.ret (.int .i64 t49) (by kernel_rfl) (by kernel_rfl) ?_
        refine cont_mk ?_
        refine RegI.only [2, 24] [(2, .pointer (some ⟨b2, 0, none⟩)), (24, .int .i64 t49)] (by kernel_rfl) (by kernel_rfl) ?_
        exact hj61 t49 w51 h (h50.pick [1, 2, 0] (by decide))
      · skip
        refine RunsI.fix 10 false hc55 (by kernel_rfl) (by kernel_rfl) ?_
        refine RunsI.cond false 11 (by kernel_rfl) ?_
        refine RunsI.go 1 [.c 12] (by kernel_rfl) ?_
        refine RunsI.go 1 [.c 13, .c 14] (by kernel_rfl) ?_
        refine RunsI.region (by kernel_rfl) ?_
        refine RegI.pure 3 [4] [(4, .int .i64 (p0_3.length : Int))] (by kernel_rfl) ?_
        refine RegI.done (by kernel_rfl) ?_
        refine RunsI.ret (.int .i64 (p0_3.length : Int)) (by kernel_rfl) (by kernel_rfl) ?_
        refine cont_mk ?_
        refine RegI.only [2, 24] [(2, .pointer (some ⟨b2, 0, none⟩)), (24, .int .i64 (p0_3.length : Int))] (by kernel_rfl) (by kernel_rfl) ?_
        exact hj61 (p0_3.length : Int) w51 h (h50.pick [1, 2, 0] (by decide))
    clear hJ53
    refine RunsI.go 1 [.c 1, .c 2] (by kernel_rfl) ?_
    refine RunsI.region (by kernel_rfl) ?_
    refine RegI.pure 1 [0, 1] [(0, .slice pA0_3 p0_3.length pc0_3), (1, .func (.func 54) #[] #[.pointer (some ⟨b12, 0, none⟩)])] (by kernel_rfl) ?_
    refine RegI.done (by kernel_rfl) ?_
    refine RunsI.go 2 [.c 4, .c 5, .c 25] (by kernel_rfl) ?_
    refine RunsI.region (by kernel_rfl) ?_
    refine RegI.pure 3 [0, 1, 7, 8] [(0, .slice pA0_3 p0_3.length pc0_3), (1, .func (.func 54) #[] #[.pointer (some ⟨b12, 0, none⟩)]), (7, .int .i64 (p0_3.length : Int)), (8, .int .i64 0)] (by kernel_rfl) ?_
    refine RegI.done (by kernel_rfl) ?_
    refine RunsI.go 2 [.c 7, .lp 7, .blk 0, .c 25] (by kernel_rfl) ?_
    obtain ⟨x42, hx43, h⟩ := of_bind h
    refine RunsI.only [0, 1, 7, 8] [(0, .slice pA0_3 p0_3.length pc0_3), (1, .func (.func 54) #[] #[.pointer (some ⟨b12, 0, none⟩)]), (7, .int .i64 (p0_3.length : Int)), (8, .int .i64 0)] (by kernel_rfl) (by kernel_rfl) ?_
    refine banks_Read_34.l0_ok K M0 w0 pA0_0 pc0_0 pA0_3 pc0_3 p0_0 p0_1 p0_2 p0_3 p1 t9 b12 b2 _ x42 ?_ ?_ K 0 w15 hx43 (h16.pick [1, 3, 2, 0] (by decide))
    · intro w45 hq69 h44
      (try rw [hq69] at h)
      dsimp only [Lp.elim] at h
      refine RunsI.go 1 [.c 26, .c 27] (by kernel_rfl) ?_
      refine RunsI.region (by kernel_rfl) ?_
      refine RegI.pure 1 [4] [(4, .int .i64 (-1))] (by kernel_rfl) ?_
      refine RegI.done (by kernel_rfl) ?_
      refine RunsI.ret (.int .i64 (-1)) (by kernel_rfl) (by kernel_rfl) ?_
      refine cont_mk ?_
      refine RegI.only [0, 8] [(0, .slice pA0_3 p0_3.length pc0_3), (8, .int .i64 (-1))] (by kernel_rfl) (by kernel_rfl) ?_
      exact hj54 (-1) w45 h (h44.pick [2, 0, 1] (by decide))
    · intro t46 w48 hq70 h47
      (try rw [hq70] at h)
      dsimp only [Lp.elim] at h
      refine cont_mk ?_
      refine RegI.only [0, 8] [(0, .slice pA0_3 p0_3.length pc0_3), (8, .int .i64 t46)] (by kernel_rfl) (by kernel_rfl) ?_
      exact hj54 t46 w48 h (h47.pick [2, 0, 1] (by decide))
end

/-! ### charabanc/banks.Check$2 (function 58) -/
section
def banks_Check_2_58.post (M0 : Nat → Prop) (w0 : World) (r : Int) : Ending → World → Prop := fun e w => e = .returned (.int .i64 r) ∧ Below w0.heap.size w0 w
def banks_Check_2_58.f (K : Nat) (p0_0 : Int) (p0_1 : Int) : Option Int := some p0_0
set_option maxRecDepth 100000 in
theorem banks_Check_2_58_ok (K : Nat) (M0 : Nat → Prop) (w0 : World) (p0_0 : Int) (p0_1 : Int) (ho : ∀ b, M0 b → b < w0.heap.size) {r : Int} (h : banks_Check_2_58.f K p0_0 p0_1 = some r) :
    Calls Try.prog 58 #[.agg #[.int .i64 p0_0, .int .u8 p0_1]] w0 (banks_Check_2_58.post M0 w0 r) := by
  unfold banks_Check_2_58.f at h
  have h0 : Holds M0 w0 w0 [] := Holds.start ho
  have h0 : Holds M0 w0 w0 [] := h0
  refine calls_of F58 rfl [.agg #[.int .i64 p0_0, .int .u8 p0_1]] (by kernel_rfl) ?_
  refine RunsI.go 1 [.c 1, .c 2] (by kernel_rfl) ?_
  refine RunsI.region (by kernel_rfl) ?_
  refine RegI.op (by kernel_rfl) (OpE.box 1 87 [.int .i64 p0_0, .int .u8 p0_1] h0 (by kernel_rfl) (by kernel_rfl) ?_)
  intro w1 b2 h3 hb4
  refine RegI.pure 1 [1] [(1, .pointer (some ⟨b2, 0, none⟩))] (by kernel_rfl) ?_
  refine RegI.done (by kernel_rfl) ?_
  refine RunsI.go 1 [.c 3, .c 4] (by kernel_rfl) ?_
  refine RunsI.region (by kernel_rfl) ?_
  refine RegI.pure 1 [3] [(3, .pointer (some ⟨b2, 0, none⟩))] (by kernel_rfl) ?_
  refine RegI.op (by kernel_rfl) (OpE.loadBox 4 0 3 b2 0 (.int .i64 p0_0) h3 (by kernel_rfl) (by kernel_rfl) rfl (by kernel_rfl) ?_)
  refine RegI.pure 1 [2] [(2, .int .i64 p0_0)] (by kernel_rfl) ?_
  refine RegI.done (by kernel_rfl) ?_
  refine RunsI.ret (.int .i64 p0_0) (by kernel_rfl) (by kernel_rfl) ?_
  obtain rfl := Option.some.inj h
  exact ⟨rfl, h3.below⟩
end

/-! ### charabanc/banks.Check (function 36) -/
section
def banks_Check_36.post (M0 : Nat → Prop) (w0 : World) (r : Int) : Ending → World → Prop := fun e w => e = .returned (.int .i64 r) ∧ Below w0.heap.size w0 w
def banks_Check_36.l0 (K : Nat) (p0_0 : List Int) (p0_1 : Int) (p0_2 : Int) (p0_3 : List (Int × Int)) : Nat → Int → Option (Lp Int Unit)
  | 0, _ => none
  | k + 1, t24 => cond (decide (t24 < (p0_3.length : Int))) (cond (inR t24 p0_3.length) (Let (fun (t39 : Bool) => cond t39 (some (Lp.ret t24)) (banks_Check_36.l0 K p0_0 p0_1 p0_2 p0_3 k (IntKind.wrap .i64 (t24 + 1)))) (fun j42 => cond (((rdD p0_3 t24).2) == 0) (j42 true) (cond (decide (((rdD p0_3 t24).1) < 0)) (j42 true) (j42 (decide (((rdD p0_3 t24).1) ≥ (IntKind.wrap .i64 (65536 + (IntKind.wrap .i64 (16384 * p0_1)))))))))) none) (some (Lp.go ()))
set_option maxRecDepth 100000 in
theorem banks_Check_36.l0_ok (K : Nat) (M0 : Nat → Prop) (w0 : World) (pA0_0 : Option Addr) (pc0_0 : Nat) (pA0_3 : Option Addr) (pc0_3 : Nat) (p0_0 : List Int) (p0_1 : Int) (p0_2 : Int) (p0_3 : List (Int × Int)) (b23 : Nat) (b25 : Nat) (R : Ending → World → Prop) (x : Lp Int Unit) (hk0 : ∀ (w1 : World), x = Lp.go () → Holds M0 w0 w1 [box b25 53 [.slice pA0_0 p0_0.length pc0_0, .int .i64 p0_1, .int .i64 p0_2, .slice pA0_3 p0_3.length pc0_3], sl (Rp.int .u8) (.slice pA0_0 p0_0.length pc0_0) p0_0, sl (Rp.pair (Rp.int .i64) (Rp.int .u8)) (.slice pA0_3 p0_3.length pc0_3) p0_3] → RunsI F61 [.c 25] [] w1 R) (hk1 : ∀ (t46 : Int) (w1 : World), x = Lp.ret t46 → Holds M0 w0 w1 [box b25 53 [.slice pA0_0 p0_0.length pc0_0, .int .i64 p0_1, .int .i64 p0_2, .slice pA0_3 p0_3.length pc0_3], sl (Rp.int .u8) (.slice pA0_0 p0_0.length pc0_0) p0_0, sl (Rp.pair (Rp.int .i64) (Rp.int .u8)) (.slice pA0_3 p0_3.length pc0_3) p0_3] → R (.returned (.int .i64 t46)) w1) :
    ∀ (k : Nat) (t24 : Int) (w : World), banks_Check_36.l0 K p0_0 p0_1 p0_2 p0_3 k t24 = some x → Holds M0 w0 w [sl (Rp.pair (Rp.int .i64) (Rp.int .u8)) (.slice pA0_3 p0_3.length pc0_3) p0_3, box b23 3 [.int .i64 (IntKind.wrap .i64 (65536 + (IntKind.wrap .i64 (16384 * p0_1))))], box b25 53 [.slice pA0_0 p0_0.length pc0_0, .int .i64 p0_1, .int .i64 p0_2, .slice pA0_3 p0_3.length pc0_3], sl (Rp.int .u8) (.slice pA0_0 p0_0.length pc0_0) p0_0] → RunsI F61 [.c 7, .lp 7, .blk 0, .c 25] [(0, .slice pA0_3 p0_3.length pc0_3), (1, .func (.func 55) #[] #[.pointer (some ⟨b23, 0, none⟩)]), (7, .int .i64 (p0_3.length : Int)), (8, .int .i64 t24)] w R := by
  intro k
  induction k with
  | zero => intro t24 w h hH; exact absurd h (by simp [banks_Check_36.l0])
  | succ k ih =>
    intro t24 w h hH
    rw [banks_Check_36.l0.eq_2] at h
    refine RunsI.go 1 [.c 8, .c 9, .lp 7, .blk 0, .c 25] (by kernel_rfl) ?_
    refine RunsI.region (by kernel_rfl) ?_
    refine RegI.pure 1 [0, 1, 7, 8, 9] [(0, .slice pA0_3 p0_3.length pc0_3), (1, .func (.func 55) #[] #[.pointer (some ⟨b23, 0, none⟩)]), (7, .int .i64 (p0_3.length : Int)), (8, .int .i64 t24), (9, .bool (decide (t24 < (p0_3.length : Int))))] (by kernel_rfl) ?_
    refine RegI.done (by kernel_rfl) ?_
    refine RunsI.go 1 [.c 10, .c 13, .lp 7, .blk 0, .c 25] (by kernel_rfl) ?_
    rcases of_cond h with ⟨hc26, h⟩ | ⟨hc26, h⟩
    · skip
      refine RunsI.fix 9 true hc26 (by kernel_rfl) (by kernel_rfl) ?_
      refine RunsI.cond true 11 (by kernel_rfl) ?_
      refine RunsI.go 1 [.c 13, .lp 7, .blk 0, .c 25] (by kernel_rfl) ?_
      refine RunsI.go 3 [.c 16, .c 17, .blk 1, .c 24, .lp 7, .blk 0, .c 25] (by kernel_rfl) ?_
      refine RunsI.region (by kernel_rfl) ?_
      refine RegI.pure 2 [0, 1, 5, 7, 8] [(0, .slice pA0_3 p0_3.length pc0_3), (1, .func (.func 55) #[] #[.pointer (some ⟨b23, 0, none⟩)]), (5, .int .i64 t24), (7, .int .i64 (p0_3.length : Int)), (8, .int .i64 t24)] (by kernel_rfl) ?_
      refine RegI.done (by kernel_rfl) ?_
      refine RunsI.go 1 [.c 18, .c 19, .blk 1, .c 24, .lp 7, .blk 0, .c 25] (by kernel_rfl) ?_
      refine RunsI.region (by kernel_rfl) ?_
      refine RegI.pure 3 [0, 1, 5, 7, 8, 11, 12, 13] [(0, .slice pA0_3 p0_3.length pc0_3), (1, .func (.func 55) #[] #[.pointer (some ⟨b23, 0, none⟩)]), (5, .int .i64 t24), (7, .int .i64 (p0_3.length : Int)), (8, .int .i64 t24), (11, .func (.func 55) #[] #[.pointer (some ⟨b23, 0, none⟩)]), (12, .slice pA0_3 p0_3.length pc0_3), (13, .int .i64 t24)] (by kernel_rfl) ?_
      obtain ⟨hc27, h⟩ := of_cond0 h
      refine RegI.op (by kernel_rfl) (OpE.idxSl 14 0 51 t24 hH (by kernel_rfl) rfl (by kernel_rfl) (by kernel_rfl) hc27 ?_)
      intro b28 o29 cs30 hk31 h32
      obtain ⟨_, _, rfl, rfl, rfl⟩ := hk31
      refine RegI.op (by kernel_rfl) (OpE.loadCel 15 4 87 b28 o29 0 (.agg #[.int .i64 ((rdD p0_3 t24).1), .int .u8 ((rdD p0_3 t24).2)]) h32 (by kernel_rfl) (by kernel_rfl) rfl (by kernel_rfl) ?_)
      refine RegI.enter 16 [0, 1, 5, 7, 8] [(0, .slice pA0_3 p0_3.length pc0_3), (1, .func (.func 55) #[] #[.pointer (some ⟨b23, 0, none⟩)]), (5, .int .i64 t24), (7, .int .i64 (p0_3.length : Int)), (8, .int .i64 t24)] (by kernel_rfl) (by kernel_rfl) (by kernel_rfl) (by kernel_rfl) F55 55 rfl [.agg #[.int .i64 ((rdD p0_3 t24).1), .int .u8 ((rdD p0_3 t24).2)], .pointer (some ⟨b23, 0, none⟩)] (by kernel_rfl) (by kernel_rfl) ?_
      obtain ⟨j42, hJ43, h⟩ := of_let h
      have hj44 : ∀ (t39 : Bool) (w41 : World), j42 t39 = some x → Holds M0 w0 w41 [sl (Rp.pair (Rp.int .i64) (Rp.int .u8)) (.slice pA0_3 p0_3.length pc0_3) p0_3, box b23 3 [.int .i64 (IntKind.wrap .i64 (65536 + (IntKind.wrap .i64 (16384 * p0_1))))], box b25 53 [.slice pA0_0 p0_0.length pc0_0, .int .i64 p0_1, .int .i64 p0_2, .slice pA0_3 p0_3.length pc0_3], sl (Rp.int .u8) (.slice pA0_0 p0_0.length pc0_0) p0_0] → RegI F61 18 [.c 19, .blk 1, .c 24, .lp 7, .blk 0, .c 25] 6 [(0, .slice pA0_3 p0_3.length pc0_3), (1, .func (.func 55) #[] #[.pointer (some ⟨b23, 0, none⟩)]), (5, .int .i64 t24), (7, .int .i64 (p0_3.length : Int)), (8, .int .i64 t24), (16, .bool t39)] w41 R := by
        intro t39 w41 h h40
        rw [hJ43] at h
        clear hJ43
        dsimp only at h
        refine RegI.done (by kernel_rfl) ?_
        rcases of_cond h with ⟨hc45, h⟩ | ⟨hc45, h⟩
        · skip
          refine RunsI.fix 16 true hc45 (by kernel_rfl) (by kernel_rfl) ?_
          refine RunsI.cond true 20 (by kernel_rfl) ?_
          refine RunsI.go 1 [.c 21, .c 22, .blk 1, .c 24, .lp 7, .blk 0, .c 25] (by kernel_rfl) ?_
          refine RunsI.region (by kernel_rfl) ?_
          refine RegI.pure 2 [4] [(4, .int .i64 t24)] (by kernel_rfl) ?_
          refine RegI.done (by kernel_rfl) ?_
          refine RunsI.ret (.int .i64 t24) (by kernel_rfl) (by kernel_rfl) ?_
          exact hk1 t24 w41 (Option.some.inj h).symm (h40.pick [2, 3, 0] (by decide))
        · skip
          refine RunsI.fix 16 false hc45 (by kernel_rfl) (by kernel_rfl) ?_
          refine RunsI.cond false 23 (by kernel_rfl) ?_
          refine RunsI.go 1 [.blk 1, .c 24, .lp 7, .blk 0, .c 25] (by kernel_rfl) ?_
          refine RunsI.go 1 [.c 24, .lp 7, .blk 0, .c 25] (by kernel_rfl) ?_
          refine RunsI.region (by kernel_rfl) ?_
          refine RegI.pure 2 [0, 1, 7, 8] [(0, .slice pA0_3 p0_3.length pc0_3), (1, .func (.func 55) #[] #[.pointer (some ⟨b23, 0, none⟩)]), (7, .int .i64 (p0_3.length : Int)), (8, .int .i64 (IntKind.wrap .i64 (t24 + 1)))] (by kernel_rfl) ?_
          refine RegI.done (by kernel_rfl) ?_
          refine RunsI.go 1 [.c 7, .lp 7, .blk 0, .c 25] (by kernel_rfl) ?_
          refine RunsI.only [0, 1, 7, 8] [(0, .slice pA0_3 p0_3.length pc0_3), (1, .func (.func 55) #[] #[.pointer (some ⟨b23, 0, none⟩)]), (7, .int .i64 (p0_3.length : Int)), (8, .int .i64 (IntKind.wrap .i64 (t24 + 1)))] (by kernel_rfl) (by kernel_rfl) ?_
          exact ih (IntKind.wrap .i64 (t24 + 1)) w41 h (h40.pick [0, 1, 2, 3] (by decide))
      clear hJ43
      refine RunsI.go 1 [.c 1, .c 2] (by kernel_rfl) ?_
      refine RunsI.region (by kernel_rfl) ?_
      refine RegI.op (by kernel_rfl) (OpE.box 2 87 [.int .i64 ((rdD p0_3 t24).1), .int .u8 ((rdD p0_3 t24).2)] h32 (by kernel_rfl) (by kernel_rfl) ?_)
      intro w33 b34 h35 hb36
      refine RegI.pure 1 [1, 2] [(1, .pointer (some ⟨b23, 0, none⟩)), (2, .pointer (some ⟨b34, 0, none⟩))] (by kernel_rfl) ?_
      refine RegI.done (by kernel_rfl) ?_
      refine RunsI.go 1 [.c 3, .c 4] (by kernel_rfl) ?_
      refine RunsI.region (by kernel_rfl) ?_
      refine RegI.pure 1 [1, 2, 4] [(1, .pointer (some ⟨b23, 0, none⟩)), (2, .pointer (some ⟨b34, 0, none⟩)), (4, .pointer (some ⟨b34, 1, none⟩))] (by kernel_rfl) ?_
      refine RegI.op (by kernel_rfl) (OpE.loadBox 5 5 5 b34 1 (.int .u8 ((rdD p0_3 t24).2)) h35 (by kernel_rfl) (by kernel_rfl) rfl (by kernel_rfl) ?_)
      refine RegI.pure 2 [1, 2, 7] [(1, .pointer (some ⟨b23, 0, none⟩)), (2, .pointer (some ⟨b34, 0, none⟩)), (7, .bool (((rdD p0_3 t24).2) == 0))] (by kernel_rfl) ?_
      rcases of_cond h with ⟨hc37, h⟩ | ⟨hc37, h⟩
      · skip
        refine RegI.fix 7 true hc37 (by kernel_rfl) (by kernel_rfl) ?_
        refine RegI.pure 11 [3] [(3, .bool true)] (by kernel_rfl) ?_
        refine RegI.done (by kernel_rfl) ?_
        refine RunsI.ret (.bool true) (by kernel_rfl) (by kernel_rfl) ?_
        refine cont_mk ?_
        refine RegI.only [0, 1, 5, 7, 8, 16] [(0, .slice pA0_3 p0_3.length pc0_3), (1, .func (.func 55) #[] #[.pointer (some ⟨b23, 0, none⟩)]), (5, .int .i64 t24), (7, .int .i64 (p0_3.length : Int)), (8, .int .i64 t24), (16, .bool true)] (by kernel_rfl) (by kernel_rfl) ?_
        exact hj44 true w33 h (h35.pick [0, 1, 2, 3] (by decide))
      · skip
        refine RegI.fix 7 false hc37 (by kernel_rfl) (by kernel_rfl) ?_
        refine RegI.pure 1 [1, 2, 7, 8] [(1, .pointer (some ⟨b23, 0, none⟩)), (2, .pointer (some ⟨b34, 0, none⟩)), (7, .bool false), (8, .pointer (some ⟨b34, 0, none⟩))] (by kernel_rfl) ?_
        refine RegI.op (by kernel_rfl) (OpE.loadBox 9 5 3 b34 0 (.int .i64 ((rdD p0_3 t24).1)) h35 (by kernel_rfl) (by kernel_rfl) rfl (by kernel_rfl) ?_)
        refine RegI.pure 3 [1, 2, 12] [(1, .pointer (some ⟨b23, 0, none⟩)), (2, .pointer (some ⟨b34, 0, none⟩)), (12, .bool (decide (((rdD p0_3 t24).1) < 0)))] (by kernel_rfl) ?_
        rcases of_cond h with ⟨hc38, h⟩ | ⟨hc38, h⟩
        · skip
          refine RegI.fix 12 true hc38 (by kernel_rfl) (by kernel_rfl) ?_
          refine RegI.pure 6 [3] [(3, .bool true)] (by kernel_rfl) ?_
          refine RegI.done (by kernel_rfl) ?_
          refine RunsI.ret (.bool true) (by kernel_rfl) (by kernel_rfl) ?_
          refine cont_mk ?_
          refine RegI.only [0, 1, 5, 7, 8, 16] [(0, .slice pA0_3 p0_3.length pc0_3), (1, .func (.func 55) #[] #[.pointer (some ⟨b23, 0, none⟩)]), (5, .int .i64 t24), (7, .int .i64 (p0_3.length : Int)), (8, .int .i64 t24), (16, .bool true)] (by kernel_rfl) (by kernel_rfl) ?_
          exact hj44 true w33 h (h35.pick [0, 1, 2, 3] (by decide))
        · skip
          refine RegI.fix 12 false hc38 (by kernel_rfl) (by kernel_rfl) ?_
          refine RegI.pure 1 [1, 12, 13] [(1, .pointer (some ⟨b23, 0, none⟩)), (12, .bool false), (13, .pointer (some ⟨b34, 0, none⟩))] (by kernel_rfl) ?_
          refine RegI.op (by kernel_rfl) (OpE.loadBox 14 5 3 b34 0 (.int .i64 ((rdD p0_3 t24).1)) h35 (by kernel_rfl) (by kernel_rfl) rfl (by kernel_rfl) ?_)
          refine RegI.op (by kernel_rfl) (OpE.loadBox 15 1 3 b23 0 (.int .i64 (IntKind.wrap .i64 (65536 + (IntKind.wrap .i64 (16384 * p0_1))))) h35 (by kernel_rfl) (by kernel_rfl) rfl (by kernel_rfl) ?_)
          refine RegI.pure 3 [3] [(3, .bool (decide (((rdD p0_3 t24).1) ≥ (IntKind.wrap .i64 (65536 + (IntKind.wrap .i64 (16384 * p0_1)))))))] (by kernel_rfl) ?_
          refine RegI.done (by kernel_rfl) ?_
          refine RunsI.ret (.bool (decide (((rdD p0_3 t24).1) ≥ (IntKind.wrap .i64 (65536 + (IntKind.wrap .i64 (16384 * p0_1))))))) (by kernel_rfl) (by kernel_rfl) ?_
          refine cont_mk ?_
          refine RegI.only [0, 1, 5, 7, 8, 16] [(0, .slice pA0_3 p0_3.length pc0_3), (1, .func (.func 55) #[] #[.pointer (some ⟨b23, 0, none⟩)]), (5, .int .i64 t24), (7, .int .i64 (p0_3.length : Int)), (8, .int .i64 t24), (16, .bool (decide (((rdD p0_3 t24).1) ≥ (IntKind.wrap .i64 (65536 + (IntKind.wrap .i64 (16384 * p0_1)))))))] (by kernel_rfl) (by kernel_rfl) ?_
          exact hj44 (decide (((rdD p0_3 t24).1) ≥ (IntKind.wrap .i64 (65536 + (IntKind.wrap .i64 (16384 * p0_1)))))) w33 h (h35.pick [0, 1, 2, 3] (by decide))
    · skip
      refine RunsI.fix 9 false hc26 (by kernel_rfl) (by kernel_rfl) ?_
      refine RunsI.cond false 12 (by kernel_rfl) ?_
      refine RunsI.go 1 [.c 25] (by kernel_rfl) ?_
      refine RunsI.only [] [] (by kernel_rfl) (by kernel_rfl) ?_
      exact hk0 w (Option.some.inj h).symm (hH.pick [2, 3, 0] (by decide))
def banks_Check_36.l1 (K : Nat) (p0_0 : List Int) (p0_1 : Int) (p0_2 : Int) (p0_3 : List (Int × Int)) : Nat → Int → Option (Lp Unit Unit)
  | 0, _ => none
  | k + 1, t61 => cond (decide (t61 < (p0_3.length : Int))) (cond (inR t61 p0_3.length) ((banks_Check_2_58.f K ((rdD p0_3 t61).1) ((rdD p0_3 t61).2)).bind fun t74 => cond (inR (IntKind.wrap .i64 (t61 - 1)) p0_3.length) ((banks_Check_2_58.f K ((rdD p0_3 (IntKind.wrap .i64 (t61 - 1))).1) ((rdD p0_3 (IntKind.wrap .i64 (t61 - 1))).2)).bind fun t82 => cond (decide (t74 ≤ t82)) (some (Lp.ret ())) (banks_Check_36.l1 K p0_0 p0_1 p0_2 p0_3 k (IntKind.wrap .i64 (t61 + 1)))) none) none) (some (Lp.go ()))
set_option maxRecDepth 100000 in
theorem banks_Check_36.l1_ok (K : Nat) (M0 : Nat → Prop) (w0 : World) (pA0_0 : Option Addr) (pc0_0 : Nat) (pA0_3 : Option Addr) (pc0_3 : Nat) (p0_0 : List Int) (p0_1 : Int) (p0_2 : Int) (p0_3 : List (Int × Int)) (R : Ending → World → Prop) (x : Lp Unit Unit) (hk0 : ∀ (w1 : World), x = Lp.go () → Holds M0 w0 w1 [] → RunsI F57 [.c 23] [] w1 R) (hk1 : ∀ (w1 : World), x = Lp.ret () → Holds M0 w0 w1 [] → R (.returned (.bool false)) w1) :
    ∀ (k : Nat) (t61 : Int) (w : World), banks_Check_36.l1 K p0_0 p0_1 p0_2 p0_3 k t61 = some x → Holds M0 w0 w [sl (Rp.pair (Rp.int .i64) (Rp.int .u8)) (.slice pA0_3 p0_3.length pc0_3) p0_3] → RunsI F57 [.c 7, .lp 7, .blk 0, .c 23] [(0, .slice pA0_3 p0_3.length pc0_3), (1, .func (.func 58) #[] #[]), (5, .int .i64 t61)] w R := by
  intro k
  induction k with
  | zero => intro t61 w h hH; exact absurd h (by simp [banks_Check_36.l1])
  | succ k ih =>
    intro t61 w h hH
    rw [banks_Check_36.l1.eq_2] at h
    refine RunsI.go 1 [.c 8, .c 13, .lp 7, .blk 0, .c 23] (by kernel_rfl) ?_
    refine RunsI.go 1 [.c 9, .c 10, .c 13, .lp 7, .blk 0, .c 23] (by kernel_rfl) ?_
    refine RunsI.region (by kernel_rfl) ?_
    refine RegI.pure 4 [0, 1, 5, 9] [(0, .slice pA0_3 p0_3.length pc0_3), (1, .func (.func 58) #[] #[]), (5, .int .i64 t61), (9, .bool (decide (t61 < (p0_3.length : Int))))] (by kernel_rfl) ?_
    refine RegI.done (by kernel_rfl) ?_
    rcases of_cond h with ⟨hc62, h⟩ | ⟨hc62, h⟩
    · skip
      refine RunsI.fix 9 true hc62 (by kernel_rfl) (by kernel_rfl) ?_
      refine RunsI.cond true 11 (by kernel_rfl) ?_
      refine RunsI.go 1 [.c 13, .lp 7, .blk 0, .c 23] (by kernel_rfl) ?_
      refine RunsI.go 3 [.c 16, .c 17, .blk 1, .c 22, .lp 7, .blk 0, .c 23] (by kernel_rfl) ?_
      refine RunsI.any 14 (by kernel_rfl) (by kernel_rfl) (by kernel_rfl) (Kp ([] : List Nat) (World.drew w)) ?_
      have h64 := hH.drew
      generalize World.drew w = w63 at h64 ⊢
      have hS65 := Kp.refl ([] : List Nat) w63
      refine AnyE.pure 0 12 (.func (.func 58) #[] #[]) (by kernel_rfl) hS65 (fun _ => by kernel_rfl) ?_
      refine AnyE.pure 1 13 (.slice pA0_3 p0_3.length pc0_3) (by kernel_rfl) hS65 (fun _ => by kernel_rfl) ?_
      refine AnyE.pure 2 14 (.int .i64 t61) (by kernel_rfl) hS65 (fun _ => by kernel_rfl) ?_
      obtain ⟨hc67, h⟩ := of_cond0 h
      refine AnyE.idxSl 3 15 0 51 t61 h64 (by kernel_rfl) hS65 rfl (by kernel_rfl) (by kernel_rfl) hc67 ?_
      intro b68 o69 cs70 hk71 h72
      obtain ⟨_, _, rfl, rfl, rfl⟩ := hk71
      refine AnyE.loadCel 4 16 1 87 b68 o69 0 (.agg #[.int .i64 ((rdD p0_3 t61).1), .int .u8 ((rdD p0_3 t61).2)]) [] h72 rfl (by kernel_rfl) hS65 rfl rfl (by kernel_rfl) (by kernel_rfl) ?_
      obtain ⟨t74, hg73, h⟩ := of_bind h
      refine AnyE.call 5 17 (.int .i64 t74) 58 #[.agg #[.int .i64 ((rdD p0_3 t61).1), .int .u8 ((rdD p0_3 t61).2)]] (by kernel_rfl) hS65 (fun _ => by kernel_rfl) (fun w hk => banks_Check_2_58_ok K (fun _ => False) w ((rdD p0_3 t61).1) ((rdD p0_3 t61).2) (fun _ hf => hf.elim) hg73) ?_
      refine AnyE.pure 6 18 (.func (.func 58) #[] #[]) (by kernel_rfl) hS65 (fun _ => by kernel_rfl) ?_
      refine AnyE.pure 7 19 (.slice pA0_3 p0_3.length pc0_3) (by kernel_rfl) hS65 (fun _ => by kernel_rfl) ?_
      refine AnyE.pure 8 20 (.int .i64 t61) (by kernel_rfl) hS65 (fun _ => by kernel_rfl) ?_
      refine AnyE.pure 9 21 (.int .i64 (IntKind.wrap .i64 (t61 - 1))) (by kernel_rfl) hS65 (fun _ => by kernel_rfl) ?_
      obtain ⟨hc75, h⟩ := of_cond0 h
      refine AnyE.idxSl 10 22 0 51 (IntKind.wrap .i64 (t61 - 1)) h72 (by kernel_rfl) hS65 rfl (by kernel_rfl) (by kernel_rfl) hc75 ?_
      intro b76 o77 cs78 hk79 h80
      obtain ⟨_, _, rfl, rfl, rfl⟩ := hk79
      refine AnyE.loadCel 11 23 2 87 b76 o77 0 (.agg #[.int .i64 ((rdD p0_3 (IntKind.wrap .i64 (t61 - 1))).1), .int .u8 ((rdD p0_3 (IntKind.wrap .i64 (t61 - 1))).2)]) [] h80 rfl (by kernel_rfl) hS65 rfl rfl (by kernel_rfl) (by kernel_rfl) ?_
      obtain ⟨t82, hg81, h⟩ := of_bind h
      refine AnyE.call 12 24 (.int .i64 t82) 58 #[.agg #[.int .i64 ((rdD p0_3 (IntKind.wrap .i64 (t61 - 1))).1), .int .u8 ((rdD p0_3 (IntKind.wrap .i64 (t61 - 1))).2)]] (by kernel_rfl) hS65 (fun _ => by kernel_rfl) (fun w hk => banks_Check_2_58_ok K (fun _ => False) w ((rdD p0_3 (IntKind.wrap .i64 (t61 - 1))).1) ((rdD p0_3 (IntKind.wrap .i64 (t61 - 1))).2) (fun _ hf => hf.elim) hg81) ?_
      refine AnyE.pure 13 25 (.bool (decide (t74 ≤ t82))) (by kernel_rfl) hS65 (fun _ => by kernel_rfl) ?_
      refine AnyE.done (by kernel_rfl) (fun w83 hu84 => ?_)
      have h85 := h80.call hu84
      refine RunsI.only [0, 1, 5, 25] [(0, .slice pA0_3 p0_3.length pc0_3), (1, .func (.func 58) #[] #[]), (5, .int .i64 t61), (25, .bool (decide (t74 ≤ t82)))] (by kernel_rfl) (by kernel_rfl) ?_
      rcases of_cond h with ⟨hc86, h⟩ | ⟨hc86, h⟩
      · skip
        refine RunsI.fix 25 true hc86 (by kernel_rfl) (by kernel_rfl) ?_
        refine RunsI.cond true 18 (by kernel_rfl) ?_
        refine RunsI.go 1 [.c 19, .c 20, .blk 1, .c 22, .lp 7, .blk 0, .c 23] (by kernel_rfl) ?_
        refine RunsI.region (by kernel_rfl) ?_
        refine RegI.pure 1 [4] [(4, .bool false)] (by kernel_rfl) ?_
        refine RegI.done (by kernel_rfl) ?_
        refine RunsI.ret (.bool false) (by kernel_rfl) (by kernel_rfl) ?_
        exact hk1 w83 (Option.some.inj h).symm (h85.pick [] (by decide))
      · skip
        refine RunsI.fix 25 false hc86 (by kernel_rfl) (by kernel_rfl) ?_
        refine RunsI.cond false 21 (by kernel_rfl) ?_
        refine RunsI.go 1 [.blk 1, .c 22, .lp 7, .blk 0, .c 23] (by kernel_rfl) ?_
        refine RunsI.go 1 [.c 22, .lp 7, .blk 0, .c 23] (by kernel_rfl) ?_
        refine RunsI.region (by kernel_rfl) ?_
        refine RegI.pure 3 [0, 1, 5] [(0, .slice pA0_3 p0_3.length pc0_3), (1, .func (.func 58) #[] #[]), (5, .int .i64 (IntKind.wrap .i64 (t61 + 1)))] (by kernel_rfl) ?_
        refine RegI.done (by kernel_rfl) ?_
        refine RunsI.go 1 [.c 7, .lp 7, .blk 0, .c 23] (by kernel_rfl) ?_
        refine RunsI.only [0, 1, 5] [(0, .slice pA0_3 p0_3.length pc0_3), (1, .func (.func 58) #[] #[]), (5, .int .i64 (IntKind.wrap .i64 (t61 + 1)))] (by kernel_rfl) (by kernel_rfl) ?_
        exact ih (IntKind.wrap .i64 (t61 + 1)) w83 h (h85.pick [0] (by decide))
    · skip
      refine RunsI.fix 9 false hc62 (by kernel_rfl) (by kernel_rfl) ?_
      refine RunsI.cond false 12 (by kernel_rfl) ?_
      refine RunsI.go 1 [.c 23] (by kernel_rfl) ?_
      refine RunsI.only [] [] (by kernel_rfl) (by kernel_rfl) ?_
      exact hk0 w (Option.some.inj h).symm (hH.pick [] (by decide))
def banks_Check_36.f (K : Nat) (p0_0 : List Int) (p0_1 : Int) (p0_2 : Int) (p0_3 : List (Int × Int)) : Option Int := Let (fun (t9 : Bool) => cond t9 (some 140) (Let (fun (t54 : Int) => Let (fun (t99 : Bool) => cond t99 (some 140) (some 0)) (fun j102 => cond (decide (t54 ≥ 0)) (j102 true) (Let (fun (t93 : Bool) => j102 (!t93)) (fun j96 => (banks_Check_36.l1 K p0_0 p0_1 p0_2 p0_3 K 1).bind (fun x87 => Lp.elim x87 (fun _ => j96 false) (fun _ => j96 true)))))) (fun j57 => (banks_Check_36.l0 K p0_0 p0_1 p0_2 p0_3 K 0).bind (fun x47 => Lp.elim x47 (fun t51 => j57 t51) (fun _ => j57 (-1)))))) (fun j12 => cond (decide ((p0_0.length : Int) > 32768)) (j12 true) (cond (decide (p0_1 < 1)) (j12 true) (cond (decide (p0_1 > 8)) (j12 true) (cond (decide (p0_2 < 0)) (j12 true) (j12 (decide (p0_2 ≥ p0_1)))))))
set_option maxRecDepth 100000 in
theorem banks_Check_36_ok (K : Nat) (M0 : Nat → Prop) (w0 : World) (pA0_0 : Option Addr) (pc0_0 : Nat) (pA0_3 : Option Addr) (pc0_3 : Nat) (p0_0 : List Int) (p0_1 : Int) (p0_2 : Int) (p0_3 : List (Int × Int)) (ho : ∀ b, M0 b → b < w0.heap.size) (hs0_0 : Sl (Rp.int .u8) w0 M0 (.slice pA0_0 p0_0.length pc0_0) p0_0) (hs0_3 : Sl (Rp.pair (Rp.int .i64) (Rp.int .u8)) w0 M0 (.slice pA0_3 p0_3.length pc0_3) p0_3) {r : Int} (h : banks_Check_36.f K p0_0 p0_1 p0_2 p0_3 = some r) :
    Calls Try.prog 36 #[.agg #[.slice pA0_0 p0_0.length pc0_0, .int .i64 p0_1, .int .i64 p0_2, .slice pA0_3 p0_3.length pc0_3]] w0 (banks_Check_36.post M0 w0 r) := by
  unfold banks_Check_36.f at h
  have h0 : Holds M0 w0 w0 [] := Holds.start ho
  have h00_0 := h0.addSl (Rp.int .u8) (.slice pA0_0 p0_0.length pc0_0) p0_0 (hs0_0.mono (fun _ _ hm => hm.elim id (fun hm => absurd hm (by simp [mines, sl]))))
  have h00_3 := h00_0.addSl (Rp.pair (Rp.int .i64) (Rp.int .u8)) (.slice pA0_3 p0_3.length pc0_3) p0_3 (hs0_3.mono (fun _ _ hm => hm.elim id (fun hm => absurd hm (by simp [mines, sl]))))
  have h0 : Holds M0 w0 w0 [sl (Rp.int .u8) (.slice pA0_0 p0_0.length pc0_0) p0_0, sl (Rp.pair (Rp.int .i64) (Rp.int .u8)) (.slice pA0_3 p0_3.length pc0_3) p0_3] := h00_3
  refine calls_of F36 rfl [.agg #[.slice pA0_0 p0_0.length pc0_0, .int .i64 p0_1, .int .i64 p0_2, .slice pA0_3 p0_3.length pc0_3]] (by kernel_rfl) ?_
  refine RunsI.go 1 [.c 1, .c 2] (by kernel_rfl) ?_
  refine RunsI.region (by kernel_rfl) ?_
  refine RegI.op (by kernel_rfl) (OpE.box 1 53 [.slice pA0_0 p0_0.length pc0_0, .int .i64 p0_1, .int .i64 p0_2, .slice pA0_3 p0_3.length pc0_3] h0 (by kernel_rfl) (by kernel_rfl) ?_)
  intro w1 b2 h3 hb4
  refine RegI.pure 1 [1] [(1, .pointer (some ⟨b2, 0, none⟩))] (by kernel_rfl) ?_
  refine RegI.done (by kernel_rfl) ?_
  refine RunsI.go 2 [.c 4, .c 5, .c 10] (by kernel_rfl) ?_
  refine RunsI.region (by kernel_rfl) ?_
  refine RegI.pure 1 [1, 5] [(1, .pointer (some ⟨b2, 0, none⟩)), (5, .pointer (some ⟨b2, 0, none⟩))] (by kernel_rfl) ?_
  refine RegI.op (by kernel_rfl) (OpE.loadBox 6 2 38 b2 0 (.slice pA0_0 p0_0.length pc0_0) h3 (by kernel_rfl) (by kernel_rfl) rfl (by kernel_rfl) ?_)
  refine RegI.pure 3 [1, 9] [(1, .pointer (some ⟨b2, 0, none⟩)), (9, .bool (decide ((p0_0.length : Int) > 32768)))] (by kernel_rfl) ?_
  obtain ⟨j12, hJ13, h⟩ := of_let h
  have hj14 : ∀ (t9 : Bool) (w11 : World), j12 t9 = some r → Holds M0 w0 w11 [box b2 53 [.slice pA0_0 p0_0.length pc0_0, .int .i64 p0_1, .int .i64 p0_2, .slice pA0_3 p0_3.length pc0_3], sl (Rp.int .u8) (.slice pA0_0 p0_0.length pc0_0) p0_0, sl (Rp.pair (Rp.int .i64) (Rp.int .u8)) (.slice pA0_3 p0_3.length pc0_3) p0_3] → RegI F36 4 [.c 5, .c 10] 26 [(1, .pointer (some ⟨b2, 0, none⟩)), (30, .bool t9)] w11 (banks_Check_36.post M0 w0 r) := by
    intro t9 w11 h h10
    rw [hJ13] at h
    clear hJ13
    dsimp only at h
    refine RegI.done (by kernel_rfl) ?_
    rcases of_cond h with ⟨hc15, h⟩ | ⟨hc15, h⟩
    · skip
      refine RunsI.fix 30 true hc15 (by kernel_rfl) (by kernel_rfl) ?_
      refine RunsI.cond true 6 (by kernel_rfl) ?_
      refine RunsI.go 1 [.c 7, .c 8, .c 10] (by kernel_rfl) ?_
      refine RunsI.region (by kernel_rfl) ?_
      refine RegI.pure 1 [2] [(2, .int .i64 140)] (by kernel_rfl) ?_
      refine RegI.done (by kernel_rfl) ?_
      refine RunsI.ret (.int .i64 140) (by kernel_rfl) (by kernel_rfl) ?_
      obtain rfl := Option.some.inj h
      exact ⟨rfl, h10.below⟩
    · skip
      refine RunsI.fix 30 false hc15 (by kernel_rfl) (by kernel_rfl) ?_
      refine RunsI.cond false 9 (by kernel_rfl) ?_
      refine RunsI.go 1 [.c 10] (by kernel_rfl) ?_
      refine RunsI.go 1 [.c 11, .c 12] (by kernel_rfl) ?_
      refine RunsI.region (by kernel_rfl) ?_
      refine RegI.pure 1 [1, 31] [(1, .pointer (some ⟨b2, 0, none⟩)), (31, .pointer (some ⟨b2, 1, none⟩))] (by kernel_rfl) ?_
      refine RegI.op (by kernel_rfl) (OpE.loadBox 32 0 3 b2 1 (.int .i64 p0_1) h10 (by kernel_rfl) (by kernel_rfl) rfl (by kernel_rfl) ?_)
      refine RegI.pure 2 [1, 34] [(1, .pointer (some ⟨b2, 0, none⟩)), (34, .int .i64 (IntKind.wrap .i64 (65536 + (IntKind.wrap .i64 (16384 * p0_1)))))] (by kernel_rfl) ?_
      refine RegI.op (by kernel_rfl) (OpE.box 3 3 [.int .i64 0] h10 (by kernel_rfl) (by kernel_rfl) ?_)
      intro w16 b17 h18 hb19
      refine RegI.op (by kernel_rfl) (OpE.storeBox 3 3 b17 0 (.int .i64 (IntKind.wrap .i64 (65536 + (IntKind.wrap .i64 (16384 * p0_1))))) [.int .i64 (IntKind.wrap .i64 (65536 + (IntKind.wrap .i64 (16384 * p0_1))))] h18 (by kernel_rfl) (by kernel_rfl) rfl (by kernel_rfl) (by kernel_rfl) (by kernel_rfl) ?_)
      intro w20 h21 hk22
      refine RegI.done (by kernel_rfl) ?_
      refine RunsI.go 1 [.c 13, .c 14] (by kernel_rfl) ?_
      refine RunsI.region (by kernel_rfl) ?_
      refine RegI.pure 2 [1, 4] [(1, .pointer (some ⟨b2, 0, none⟩)), (4, .func (.func 55) #[] #[.pointer (some ⟨b17, 0, none⟩)])] (by kernel_rfl) ?_
      refine RegI.done (by kernel_rfl) ?_
      refine RunsI.go 2 [.c 16, .c 17, .c 22] (by kernel_rfl) ?_
      refine RunsI.region (by kernel_rfl) ?_
      refine RegI.pure 1 [1, 4, 36] [(1, .pointer (some ⟨b2, 0, none⟩)), (4, .func (.func 55) #[] #[.pointer (some ⟨b17, 0, none⟩)]), (36, .pointer (some ⟨b2, 3, none⟩))] (by kernel_rfl) ?_
      refine RegI.op (by kernel_rfl) (OpE.loadBox 37 0 51 b2 3 (.slice pA0_3 p0_3.length pc0_3) h21 (by kernel_rfl) (by kernel_rfl) rfl (by kernel_rfl) ?_)
      refine RegI.pure 1 [1, 37, 38] [(1, .pointer (some ⟨b2, 0, none⟩)), (37, .slice pA0_3 p0_3.length pc0_3), (38, .func (.func 55) #[] #[.pointer (some ⟨b17, 0, none⟩)])] (by kernel_rfl) ?_
      refine RegI.enter 39 [1] [(1, .pointer (some ⟨b2, 0, none⟩))] (by kernel_rfl) (by kernel_rfl) (by kernel_rfl) (by kernel_rfl) F56 56 rfl [.slice pA0_3 p0_3.length pc0_3, .func (.func 55) #[] #[.pointer (some ⟨b17, 0, none⟩)]] (by kernel_rfl) (by kernel_rfl) ?_
      refine RunsI.go 1 [.c 1, .c 2] (by kernel_rfl) ?_
      refine RunsI.region (by kernel_rfl) ?_
      refine RegI.pure 1 [0, 1] [(0, .slice pA0_3 p0_3.length pc0_3), (1, .func (.func 55) #[] #[.pointer (some ⟨b17, 0, none⟩)])] (by kernel_rfl) ?_
      refine RegI.done (by kernel_rfl) ?_
      refine RunsI.go 1 [.c 3, .c 4] (by kernel_rfl) ?_
      refine RunsI.region (by kernel_rfl) ?_
      refine RegI.pure 2 [5, 6] [(5, .slice pA0_3 p0_3.length pc0_3), (6, .func (.func 55) #[] #[.pointer (some ⟨b17, 0, none⟩)])] (by kernel_rfl) ?_
      refine RegI.enter 7 [] [] (by kernel_rfl) (by kernel_rfl) (by kernel_rfl) (by kernel_rfl) F61 61 rfl [.slice pA0_3 p0_3.length pc0_3, .func (.func 55) #[] #[.pointer (some ⟨b17, 0, none⟩)]] (by kernel_rfl) (by kernel_rfl) ?_
      obtain ⟨j57, hJ58, h⟩ := of_let h
      have hj59 : ∀ (t54 : Int) (w56 : World), j57 t54 = some r → Holds M0 w0 w56 [box b2 53 [.slice pA0_0 p0_0.length pc0_0, .int .i64 p0_1, .int .i64 p0_2, .slice pA0_3 p0_3.length pc0_3], sl (Rp.int .u8) (.slice pA0_0 p0_0.length pc0_0) p0_0, sl (Rp.pair (Rp.int .i64) (Rp.int .u8)) (.slice pA0_3 p0_3.length pc0_3) p0_3] → RegI F56 3 [.c 4] 3 [(7, .int .i64 t54)] w56 (cont (fun e' w' => RegI F36 16 [.c 17, .c 22] 4 e' w' (banks_Check_36.post M0 w0 r)) 39 [(1, .pointer (some ⟨b2, 0, none⟩))]) := by
        intro t54 w56 h h55
        rw [hJ58] at h
        clear hJ58
        dsimp only at h
        refine RegI.pure 2 [4] [(4, .bool (decide (t54 ≥ 0)))] (by kernel_rfl) ?_
        refine RegI.done (by kernel_rfl) ?_
        refine RunsI.ret (.bool (decide (t54 ≥ 0))) (by kernel_rfl) (by kernel_rfl) ?_
        refine cont_mk ?_
        refine RegI.pure 1 [1, 40] [(1, .pointer (some ⟨b2, 0, none⟩)), (40, .bool (decide (t54 ≥ 0)))] (by kernel_rfl) ?_
        obtain ⟨j102, hJ103, h⟩ := of_let h
        have hj104 : ∀ (t99 : Bool) (w101 : World), j102 t99 = some r → Holds M0 w0 w101 [] → RegI F36 16 [.c 17, .c 22] 10 [(45, .bool t99)] w101 (banks_Check_36.post M0 w0 r) := by
          intro t99 w101 h h100
          rw [hJ103] at h
          clear hJ103
          dsimp only at h
          refine RegI.done (by kernel_rfl) ?_
          rcases of_cond h with ⟨hc105, h⟩ | ⟨hc105, h⟩
          · skip
            refine RunsI.fix 45 true hc105 (by kernel_rfl) (by kernel_rfl) ?_
            refine RunsI.cond true 18 (by kernel_rfl) ?_
            refine RunsI.go 1 [.c 19, .c 20, .c 22] (by kernel_rfl) ?_
            refine RunsI.region (by kernel_rfl) ?_
            refine RegI.pure 1 [2] [(2, .int .i64 140)] (by kernel_rfl) ?_
            refine RegI.done (by kernel_rfl) ?_
            refine RunsI.ret (.int .i64 140) (by kernel_rfl) (by kernel_rfl) ?_
            obtain rfl := Option.some.inj h
            exact ⟨rfl, h100.below⟩
          · skip
            refine RunsI.fix 45 false hc105 (by kernel_rfl) (by kernel_rfl) ?_
            refine RunsI.cond false 21 (by kernel_rfl) ?_
            refine RunsI.go 1 [.c 22] (by kernel_rfl) ?_
            refine RunsI.go 1 [.c 23, .c 24] (by kernel_rfl) ?_
            refine RunsI.region (by kernel_rfl) ?_
            refine RegI.pure 1 [2] [(2, .int .i64 0)] (by kernel_rfl) ?_
            refine RegI.done (by kernel_rfl) ?_
            refine RunsI.ret (.int .i64 0) (by kernel_rfl) (by kernel_rfl) ?_
            obtain rfl := Option.some.inj h
            exact ⟨rfl, h100.below⟩
        clear hJ103
        rcases of_cond h with ⟨hc60, h⟩ | ⟨hc60, h⟩
        · skip
          refine RegI.fix 40 true hc60 (by kernel_rfl) (by kernel_rfl) ?_
          refine RegI.pure 5 [45] [(45, .bool true)] (by kernel_rfl) ?_
          refine RegI.only [45] [(45, .bool true)] (by kernel_rfl) (by kernel_rfl) ?_
          exact hj104 true w56 h (h55.pick [] (by decide))
        · skip
          refine RegI.fix 40 false hc60 (by kernel_rfl) (by kernel_rfl) ?_
          refine RegI.pure 1 [40, 41] [(40, .bool false), (41, .pointer (some ⟨b2, 3, none⟩))] (by kernel_rfl) ?_
          refine RegI.op (by kernel_rfl) (OpE.loadBox 42 0 51 b2 3 (.slice pA0_3 p0_3.length pc0_3) h55 (by kernel_rfl) (by kernel_rfl) rfl (by kernel_rfl) ?_)
          refine RegI.enter 43 [40] [(40, .bool false)] (by kernel_rfl) (by kernel_rfl) (by kernel_rfl) (by kernel_rfl) F57 57 rfl [.slice pA0_3 p0_3.length pc0_3, .func (.func 58) #[] #[]] (by kernel_rfl) (by kernel_rfl) ?_
          obtain ⟨j96, hJ97, h⟩ := of_let h
          have hj98 : ∀ (t93 : Bool) (w95 : World), j96 t93 = some r → Holds M0 w0 w95 [] → RegI F36 16 [.c 17, .c 22] 8 [(40, .bool false), (43, .bool t93)] w95 (banks_Check_36.post M0 w0 r) := by
            intro t93 w95 h h94
            rw [hJ97] at h
            clear hJ97
            dsimp only at h
            refine RegI.pure 2 [45] [(45, .bool (!t93))] (by kernel_rfl) ?_
            refine RegI.only [45] [(45, .bool (!t93))] (by kernel_rfl) (by kernel_rfl) ?_
            exact hj104 (!t93) w95 h (h94.pick [] (by decide))
          clear hJ97
          refine RunsI.go 1 [.c 1, .c 2] (by kernel_rfl) ?_
          refine RunsI.region (by kernel_rfl) ?_
          refine RegI.pure 1 [0, 1] [(0, .slice pA0_3 p0_3.length pc0_3), (1, .func (.func 58) #[] #[])] (by kernel_rfl) ?_
          refine RegI.done (by kernel_rfl) ?_
          refine RunsI.go 2 [.c 4, .c 5, .c 23] (by kernel_rfl) ?_
          refine RunsI.region (by kernel_rfl) ?_
          refine RegI.pure 1 [0, 1, 5] [(0, .slice pA0_3 p0_3.length pc0_3), (1, .func (.func 58) #[] #[]), (5, .int .i64 1)] (by kernel_rfl) ?_
          refine RegI.done (by kernel_rfl) ?_
          refine RunsI.go 2 [.c 7, .lp 7, .blk 0, .c 23] (by kernel_rfl) ?_
          obtain ⟨x87, hx88, h⟩ := of_bind h
          refine RunsI.only [0, 1, 5] [(0, .slice pA0_3 p0_3.length pc0_3), (1, .func (.func 58) #[] #[]), (5, .int .i64 1)] (by kernel_rfl) (by kernel_rfl) ?_
          refine banks_Check_36.l1_ok K M0 w0 pA0_0 pc0_0 pA0_3 pc0_3 p0_0 p0_1 p0_2 p0_3 _ x87 ?_ ?_ K 1 w56 hx88 (h55.pick [2] (by decide))
          · intro w90 hq106 h89
            (try rw [hq106] at h)
            dsimp only [Lp.elim] at h
            refine RunsI.go 1 [.c 24, .c 25] (by kernel_rfl) ?_
            refine RunsI.region (by kernel_rfl) ?_
            refine RegI.pure 1 [4] [(4, .bool true)] (by kernel_rfl) ?_
            refine RegI.done (by kernel_rfl) ?_
            refine RunsI.ret (.bool true) (by kernel_rfl) (by kernel_rfl) ?_
            refine cont_mk ?_
            refine RegI.only [40, 43] [(40, .bool false), (43, .bool true)] (by kernel_rfl) (by kernel_rfl) ?_
            exact hj98 true w90 h (h89.pick [] (by decide))
          · intro w92 hq107 h91
            (try rw [hq107] at h)
            dsimp only [Lp.elim] at h
            refine cont_mk ?_
            refine RegI.only [40, 43] [(40, .bool false), (43, .bool false)] (by kernel_rfl) (by kernel_rfl) ?_
            exact hj98 false w92 h (h91.pick [] (by decide))
      clear hJ58
      refine RunsI.go 1 [.c 1, .c 2] (by kernel_rfl) ?_
      refine RunsI.region (by kernel_rfl) ?_
      refine RegI.pure 1 [0, 1] [(0, .slice pA0_3 p0_3.length pc0_3), (1, .func (.func 55) #[] #[.pointer (some ⟨b17, 0, none⟩)])] (by kernel_rfl) ?_
      refine RegI.done (by kernel_rfl) ?_
      refine RunsI.go 2 [.c 4, .c 5, .c 25] (by kernel_rfl) ?_
      refine RunsI.region (by kernel_rfl) ?_
      refine RegI.pure 3 [0, 1, 7, 8] [(0, .slice pA0_3 p0_3.length pc0_3), (1, .func (.func 55) #[] #[.pointer (some ⟨b17, 0, none⟩)]), (7, .int .i64 (p0_3.length : Int)), (8, .int .i64 0)] (by kernel_rfl) ?_
      refine RegI.done (by kernel_rfl) ?_
      refine RunsI.go 2 [.c 7, .lp 7, .blk 0, .c 25] (by kernel_rfl) ?_
      obtain ⟨x47, hx48, h⟩ := of_bind h
      refine RunsI.only [0, 1, 7, 8] [(0, .slice pA0_3 p0_3.length pc0_3), (1, .func (.func 55) #[] #[.pointer (some ⟨b17, 0, none⟩)]), (7, .int .i64 (p0_3.length : Int)), (8, .int .i64 0)] (by kernel_rfl) (by kernel_rfl) ?_
      refine banks_Check_36.l0_ok K M0 w0 pA0_0 pc0_0 pA0_3 pc0_3 p0_0 p0_1 p0_2 p0_3 b17 b2 _ x47 ?_ ?_ K 0 w20 hx48 (h21.pick [2, 3, 0, 1] (by decide))
      · intro w50 hq108 h49
        (try rw [hq108] at h)
        dsimp only [Lp.elim] at h
        refine RunsI.go 1 [.c 26, .c 27] (by kernel_rfl) ?_
        refine RunsI.region (by kernel_rfl) ?_
        refine RegI.pure 1 [4] [(4, .int .i64 (-1))] (by kernel_rfl) ?_
        refine RegI.done (by kernel_rfl) ?_
        refine RunsI.ret (.int .i64 (-1)) (by kernel_rfl) (by kernel_rfl) ?_
        refine cont_mk ?_
        refine RegI.only [7] [(7, .int .i64 (-1))] (by kernel_rfl) (by kernel_rfl) ?_
        exact hj59 (-1) w50 h (h49.pick [0, 1, 2] (by decide))
      · intro t51 w53 hq109 h52
        (try rw [hq109] at h)
        dsimp only [Lp.elim] at h
        refine cont_mk ?_
        refine RegI.only [7] [(7, .int .i64 t51)] (by kernel_rfl) (by kernel_rfl) ?_
        exact hj59 t51 w53 h (h52.pick [0, 1, 2] (by decide))
  clear hJ13
  rcases of_cond h with ⟨hc5, h⟩ | ⟨hc5, h⟩
  · skip
    refine RegI.fix 9 true hc5 (by kernel_rfl) (by kernel_rfl) ?_
    refine RegI.pure 21 [1, 30] [(1, .pointer (some ⟨b2, 0, none⟩)), (30, .bool true)] (by kernel_rfl) ?_
    refine RegI.only [1, 30] [(1, .pointer (some ⟨b2, 0, none⟩)), (30, .bool true)] (by kernel_rfl) (by kernel_rfl) ?_
    exact hj14 true w1 h (h3.pick [2, 0, 1] (by decide))
  · skip
    refine RegI.fix 9 false hc5 (by kernel_rfl) (by kernel_rfl) ?_
    refine RegI.pure 1 [1, 9, 10] [(1, .pointer (some ⟨b2, 0, none⟩)), (9, .bool false), (10, .pointer (some ⟨b2, 1, none⟩))] (by kernel_rfl) ?_
    refine RegI.op (by kernel_rfl) (OpE.loadBox 11 2 3 b2 1 (.int .i64 p0_1) h3 (by kernel_rfl) (by kernel_rfl) rfl (by kernel_rfl) ?_)
    refine RegI.pure 3 [1, 14] [(1, .pointer (some ⟨b2, 0, none⟩)), (14, .bool (decide (p0_1 < 1)))] (by kernel_rfl) ?_
    rcases of_cond h with ⟨hc6, h⟩ | ⟨hc6, h⟩
    · skip
      refine RegI.fix 14 true hc6 (by kernel_rfl) (by kernel_rfl) ?_
      refine RegI.pure 16 [1, 30] [(1, .pointer (some ⟨b2, 0, none⟩)), (30, .bool true)] (by kernel_rfl) ?_
      refine RegI.only [1, 30] [(1, .pointer (some ⟨b2, 0, none⟩)), (30, .bool true)] (by kernel_rfl) (by kernel_rfl) ?_
      exact hj14 true w1 h (h3.pick [2, 0, 1] (by decide))
    · skip
      refine RegI.fix 14 false hc6 (by kernel_rfl) (by kernel_rfl) ?_
      refine RegI.pure 1 [1, 14, 15] [(1, .pointer (some ⟨b2, 0, none⟩)), (14, .bool false), (15, .pointer (some ⟨b2, 1, none⟩))] (by kernel_rfl) ?_
      refine RegI.op (by kernel_rfl) (OpE.loadBox 16 2 3 b2 1 (.int .i64 p0_1) h3 (by kernel_rfl) (by kernel_rfl) rfl (by kernel_rfl) ?_)
      refine RegI.pure 3 [1, 19] [(1, .pointer (some ⟨b2, 0, none⟩)), (19, .bool (decide (p0_1 > 8)))] (by kernel_rfl) ?_
      rcases of_cond h with ⟨hc7, h⟩ | ⟨hc7, h⟩
      · skip
        refine RegI.fix 19 true hc7 (by kernel_rfl) (by kernel_rfl) ?_
        refine RegI.pure 11 [1, 30] [(1, .pointer (some ⟨b2, 0, none⟩)), (30, .bool true)] (by kernel_rfl) ?_
        refine RegI.only [1, 30] [(1, .pointer (some ⟨b2, 0, none⟩)), (30, .bool true)] (by kernel_rfl) (by kernel_rfl) ?_
        exact hj14 true w1 h (h3.pick [2, 0, 1] (by decide))
      · skip
        refine RegI.fix 19 false hc7 (by kernel_rfl) (by kernel_rfl) ?_
        refine RegI.pure 1 [1, 19, 20] [(1, .pointer (some ⟨b2, 0, none⟩)), (19, .bool false), (20, .pointer (some ⟨b2, 2, none⟩))] (by kernel_rfl) ?_
        refine RegI.op (by kernel_rfl) (OpE.loadBox 21 2 3 b2 2 (.int .i64 p0_2) h3 (by kernel_rfl) (by kernel_rfl) rfl (by kernel_rfl) ?_)
        refine RegI.pure 3 [1, 24] [(1, .pointer (some ⟨b2, 0, none⟩)), (24, .bool (decide (p0_2 < 0)))] (by kernel_rfl) ?_
        rcases of_cond h with ⟨hc8, h⟩ | ⟨hc8, h⟩
        · skip
          refine RegI.fix 24 true hc8 (by kernel_rfl) (by kernel_rfl) ?_
          refine RegI.pure 6 [1, 30] [(1, .pointer (some ⟨b2, 0, none⟩)), (30, .bool true)] (by kernel_rfl) ?_
          refine RegI.only [1, 30] [(1, .pointer (some ⟨b2, 0, none⟩)), (30, .bool true)] (by kernel_rfl) (by kernel_rfl) ?_
          exact hj14 true w1 h (h3.pick [2, 0, 1] (by decide))
        · skip
          refine RegI.fix 24 false hc8 (by kernel_rfl) (by kernel_rfl) ?_
          refine RegI.pure 1 [1, 24, 25] [(1, .pointer (some ⟨b2, 0, none⟩)), (24, .bool false), (25, .pointer (some ⟨b2, 2, none⟩))] (by kernel_rfl) ?_
          refine RegI.op (by kernel_rfl) (OpE.loadBox 26 2 3 b2 2 (.int .i64 p0_2) h3 (by kernel_rfl) (by kernel_rfl) rfl (by kernel_rfl) ?_)
          refine RegI.pure 1 [1, 24, 26, 27] [(1, .pointer (some ⟨b2, 0, none⟩)), (24, .bool false), (26, .int .i64 p0_2), (27, .pointer (some ⟨b2, 1, none⟩))] (by kernel_rfl) ?_
          refine RegI.op (by kernel_rfl) (OpE.loadBox 28 2 3 b2 1 (.int .i64 p0_1) h3 (by kernel_rfl) (by kernel_rfl) rfl (by kernel_rfl) ?_)
          refine RegI.pure 2 [1, 30] [(1, .pointer (some ⟨b2, 0, none⟩)), (30, .bool (decide (p0_2 ≥ p0_1)))] (by kernel_rfl) ?_
          refine RegI.only [1, 30] [(1, .pointer (some ⟨b2, 0, none⟩)), (30, .bool (decide (p0_2 ≥ p0_1)))] (by kernel_rfl) (by kernel_rfl) ?_
          exact hj14 (decide (p0_2 ≥ p0_1)) w1 h (h3.pick [2, 0, 1] (by decide))
end

/-! ### cmp.isNaN[int] (function 67) -/
section
def cmp_isNaN_int_67.post (M0 : Nat → Prop) (w0 : World) (r : Bool) : Ending → World → Prop := fun e w => e = .returned (.bool r) ∧ Below w0.heap.size w0 w
def cmp_isNaN_int_67.f (K : Nat) (p0 : Int) : Option Bool := some (p0 != p0)
set_option maxRecDepth 100000 in
theorem cmp_isNaN_int_67_ok (K : Nat) (M0 : Nat → Prop) (w0 : World) (p0 : Int) (ho : ∀ b, M0 b → b < w0.heap.size) {r : Bool} (h : cmp_isNaN_int_67.f K p0 = some r) :
    Calls Try.prog 67 #[.int .i64 p0] w0 (cmp_isNaN_int_67.post M0 w0 r) := by
  unfold cmp_isNaN_int_67.f at h
  have h0 : Holds M0 w0 w0 [] := Holds.start ho
  have h0 : Holds M0 w0 w0 [] := h0
  refine calls_of F67 rfl [.int .i64 p0] (by kernel_rfl) ?_
  refine RunsI.go 1 [.c 1, .c 2] (by kernel_rfl) ?_
  refine RunsI.region (by kernel_rfl) ?_
  refine RegI.pure 1 [0] [(0, .int .i64 p0)] (by kernel_rfl) ?_
  refine RegI.done (by kernel_rfl) ?_
  refine RunsI.go 1 [.c 3, .c 4] (by kernel_rfl) ?_
  refine RunsI.region (by kernel_rfl) ?_
  refine RegI.pure 4 [2] [(2, .bool (p0 != p0))] (by kernel_rfl) ?_
  refine RegI.done (by kernel_rfl) ?_
  refine RunsI.ret (.bool (p0 != p0)) (by kernel_rfl) (by kernel_rfl) ?_
  obtain rfl := Option.some.inj h
  exact ⟨rfl, h0.below⟩
end

/-! ### cmp.Compare[int] (function 63) -/
section
def cmp_Compare_int_63.post (M0 : Nat → Prop) (w0 : World) (r : Int) : Ending → World → Prop := fun e w => e = .returned (.int .i64 r) ∧ Below w0.heap.size w0 w
def cmp_Compare_int_63.f (K : Nat) (p0 : Int) (p1 : Int) : Option Int := (cmp_isNaN_int_67.f K p0).bind fun t5 => (cmp_isNaN_int_67.f K p1).bind fun t10 => cond t5 (cond t10 (some 0) (some (-1))) (cond t10 (some 1) (cond (decide (p0 < p1)) (some (-1)) (cond (decide (p0 > p1)) (some 1) (some 0))))
set_option maxRecDepth 100000 in
theorem cmp_Compare_int_63_ok (K : Nat) (M0 : Nat → Prop) (w0 : World) (p0 : Int) (p1 : Int) (ho : ∀ b, M0 b → b < w0.heap.size) {r : Int} (h : cmp_Compare_int_63.f K p0 p1 = some r) :
    Calls Try.prog 63 #[.int .i64 p0, .int .i64 p1] w0 (cmp_Compare_int_63.post M0 w0 r) := by
  unfold cmp_Compare_int_63.f at h
  have h0 : Holds M0 w0 w0 [] := Holds.start ho
  have h0 : Holds M0 w0 w0 [] := h0
  refine calls_of F63 rfl [.int .i64 p0, .int .i64 p1] (by kernel_rfl) ?_
  refine RunsI.go 1 [.c 1, .c 2] (by kernel_rfl) ?_
  refine RunsI.region (by kernel_rfl) ?_
  refine RegI.pure 1 [0, 1] [(0, .int .i64 p0), (1, .int .i64 p1)] (by kernel_rfl) ?_
  refine RegI.done (by kernel_rfl) ?_
  refine RunsI.go 1 [.c 3, .c 4] (by kernel_rfl) ?_
  refine RunsI.region (by kernel_rfl) ?_
  refine RegI.pure 1 [0, 1, 7] [(0, .int .i64 p0), (1, .int .i64 p1), (7, .int .i64 p0)] (by kernel_rfl) ?_
  obtain ⟨t5, hg4, h⟩ := of_bind h
  refine RegI.op (by kernel_rfl) (OpE.call 8 (by kernel_rfl) 67 #[.int .i64 p0] (by kernel_rfl) ((cmp_isNaN_int_67_ok K _ w0  p0 h0.old' hg4).mono ?_))
  rintro _ w1 ⟨rfl, hb2⟩
  refine ⟨_, rfl, ?_⟩
  have h3 := h0.call hb2
  refine RegI.pure 1 [0, 1, 5] [(0, .int .i64 p0), (1, .int .i64 p1), (5, .bool t5)] (by kernel_rfl) ?_
  refine RegI.done (by kernel_rfl) ?_
  refine RunsI.go 1 [.c 5, .c 6] (by kernel_rfl) ?_
  refine RunsI.region (by kernel_rfl) ?_
  refine RegI.pure 1 [0, 1, 5, 9] [(0, .int .i64 p0), (1, .int .i64 p1), (5, .bool t5), (9, .int .i64 p1)] (by kernel_rfl) ?_
  obtain ⟨t10, hg9, h⟩ := of_bind h
  refine RegI.op (by kernel_rfl) (OpE.call 10 (by kernel_rfl) 67 #[.int .i64 p1] (by kernel_rfl) ((cmp_isNaN_int_67_ok K _ w1  p1 h3.old' hg9).mono ?_))
  rintro _ w6 ⟨rfl, hb7⟩
  refine ⟨_, rfl, ?_⟩
  have h8 := h3.call hb7
  refine RegI.pure 1 [0, 1, 5, 6] [(0, .int .i64 p0), (1, .int .i64 p1), (5, .bool t5), (6, .bool t10)] (by kernel_rfl) ?_
  refine RegI.done (by kernel_rfl) ?_
  refine RunsI.go 2 [.c 8, .c 9, .c 22] (by kernel_rfl) ?_
  refine RunsI.region (by kernel_rfl) ?_
  refine RegI.pure 1 [0, 1, 6, 11] [(0, .int .i64 p0), (1, .int .i64 p1), (6, .bool t10), (11, .bool t5)] (by kernel_rfl) ?_
  refine RegI.done (by kernel_rfl) ?_
  rcases of_cond h with ⟨hc11, h⟩ | ⟨hc11, h⟩
  · skip
    refine RunsI.fix 11 true hc11 (by kernel_rfl) (by kernel_rfl) ?_
    refine RunsI.cond true 10 (by kernel_rfl) ?_
    refine RunsI.go 2 [.c 12, .c 13, .c 18, .c 22] (by kernel_rfl) ?_
    refine RunsI.region (by kernel_rfl) ?_
    refine RegI.pure 1 [12] [(12, .bool t10)] (by kernel_rfl) ?_
    refine RegI.done (by kernel_rfl) ?_
    rcases of_cond h with ⟨hc12, h⟩ | ⟨hc12, h⟩
    · skip
      refine RunsI.fix 12 true hc12 (by kernel_rfl) (by kernel_rfl) ?_
      refine RunsI.cond true 14 (by kernel_rfl) ?_
      refine RunsI.go 1 [.c 15, .c 16, .c 18, .c 22] (by kernel_rfl) ?_
      refine RunsI.region (by kernel_rfl) ?_
      refine RegI.pure 1 [4] [(4, .int .i64 0)] (by kernel_rfl) ?_
      refine RegI.done (by kernel_rfl) ?_
      refine RunsI.ret (.int .i64 0) (by kernel_rfl) (by kernel_rfl) ?_
      obtain rfl := Option.some.inj h
      exact ⟨rfl, h8.below⟩
    · skip
      refine RunsI.fix 12 false hc12 (by kernel_rfl) (by kernel_rfl) ?_
      refine RunsI.cond false 17 (by kernel_rfl) ?_
      refine RunsI.go 1 [.c 18, .c 22] (by kernel_rfl) ?_
      refine RunsI.go 1 [.c 19, .c 20, .c 22] (by kernel_rfl) ?_
      refine RunsI.region (by kernel_rfl) ?_
      refine RegI.pure 1 [4] [(4, .int .i64 (-1))] (by kernel_rfl) ?_
      refine RegI.done (by kernel_rfl) ?_
      refine RunsI.ret (.int .i64 (-1)) (by kernel_rfl) (by kernel_rfl) ?_
      obtain rfl := Option.some.inj h
      exact ⟨rfl, h8.below⟩
  · skip
    refine RunsI.fix 11 false hc11 (by kernel_rfl) (by kernel_rfl) ?_
    refine RunsI.cond false 21 (by kernel_rfl) ?_
    refine RunsI.go 1 [.c 22] (by kernel_rfl) ?_
    refine RunsI.go 2 [.c 24, .c 25, .c 30] (by kernel_rfl) ?_
    refine RunsI.region (by kernel_rfl) ?_
    refine RegI.pure 1 [0, 1, 13] [(0, .int .i64 p0), (1, .int .i64 p1), (13, .bool t10)] (by kernel_rfl) ?_
    refine RegI.done (by kernel_rfl) ?_
    rcases of_cond h with ⟨hc13, h⟩ | ⟨hc13, h⟩
    · skip
      refine RunsI.fix 13 true hc13 (by kernel_rfl) (by kernel_rfl) ?_
      refine RunsI.cond true 26 (by kernel_rfl) ?_
      refine RunsI.go 1 [.c 27, .c 28, .c 30] (by kernel_rfl) ?_
      refine RunsI.region (by kernel_rfl) ?_
      refine RegI.pure 1 [4] [(4, .int .i64 1)] (by kernel_rfl) ?_
      refine RegI.done (by kernel_rfl) ?_
      refine RunsI.ret (.int .i64 1) (by kernel_rfl) (by kernel_rfl) ?_
      obtain rfl := Option.some.inj h
      exact ⟨rfl, h8.below⟩
    · skip
      refine RunsI.fix 13 false hc13 (by kernel_rfl) (by kernel_rfl) ?_
      refine RunsI.cond false 29 (by kernel_rfl) ?_
      refine RunsI.go 1 [.c 30] (by kernel_rfl) ?_
      refine RunsI.go 2 [.c 32, .c 33, .c 38] (by kernel_rfl) ?_
      refine RunsI.region (by kernel_rfl) ?_
      refine RegI.pure 3 [0, 1, 16] [(0, .int .i64 p0), (1, .int .i64 p1), (16, .bool (decide (p0 < p1)))] (by kernel_rfl) ?_
      refine RegI.done (by kernel_rfl) ?_
      rcases of_cond h with ⟨hc14, h⟩ | ⟨hc14, h⟩
      · skip
        refine RunsI.fix 16 true hc14 (by kernel_rfl) (by kernel_rfl) ?_
        refine RunsI.cond true 34 (by kernel_rfl) ?_
        refine RunsI.go 1 [.c 35, .c 36, .c 38] (by kernel_rfl) ?_
        refine RunsI.region (by kernel_rfl) ?_
        refine RegI.pure 1 [4] [(4, .int .i64 (-1))] (by kernel_rfl) ?_
        refine RegI.done (by kernel_rfl) ?_
        refine RunsI.ret (.int .i64 (-1)) (by kernel_rfl) (by kernel_rfl) ?_
        obtain rfl := Option.some.inj h
        exact ⟨rfl, h8.below⟩
      · skip
        refine RunsI.fix 16 false hc14 (by kernel_rfl) (by kernel_rfl) ?_
        refine RunsI.cond false 37 (by kernel_rfl) ?_
        refine RunsI.go 1 [.c 38] (by kernel_rfl) ?_
        refine RunsI.go 2 [.c 40, .c 41, .c 46] (by kernel_rfl) ?_
        refine RunsI.region (by kernel_rfl) ?_
        refine RegI.pure 3 [19] [(19, .bool (decide (p0 > p1)))] (by kernel_rfl) ?_
        refine RegI.done (by kernel_rfl) ?_
        rcases of_cond h with ⟨hc15, h⟩ | ⟨hc15, h⟩
        · skip
          refine RunsI.fix 19 true hc15 (by kernel_rfl) (by kernel_rfl) ?_
          refine RunsI.cond true 42 (by kernel_rfl) ?_
          refine RunsI.go 1 [.c 43, .c 44, .c 46] (by kernel_rfl) ?_
          refine RunsI.region (by kernel_rfl) ?_
          refine RegI.pure 1 [4] [(4, .int .i64 1)] (by kernel_rfl) ?_
          refine RegI.done (by kernel_rfl) ?_
          refine RunsI.ret (.int .i64 1) (by kernel_rfl) (by kernel_rfl) ?_
          obtain rfl := Option.some.inj h
          exact ⟨rfl, h8.below⟩
        · skip
          refine RunsI.fix 19 false hc15 (by kernel_rfl) (by kernel_rfl) ?_
          refine RunsI.cond false 45 (by kernel_rfl) ?_
          refine RunsI.go 1 [.c 46] (by kernel_rfl) ?_
          refine RunsI.go 1 [.c 47, .c 48] (by kernel_rfl) ?_
          refine RunsI.region (by kernel_rfl) ?_
          refine RegI.pure 1 [4] [(4, .int .i64 0)] (by kernel_rfl) ?_
          refine RegI.done (by kernel_rfl) ?_
          refine RunsI.ret (.int .i64 0) (by kernel_rfl) (by kernel_rfl) ?_
          obtain rfl := Option.some.inj h
          exact ⟨rfl, h8.below⟩
end

/-! ### slices.Clone[[]charabanc/banks.Spot,charabanc/banks.Spot] (function 66) -/
section
def banks_Spot_66.post (M0 : Nat → Prop) (w0 : World) (r : (List (Int × Int))) : Ending → World → Prop := fun e w => ∃ (A1 : Option Addr) (c1 : Nat), e = .returned (.slice A1 r.length c1) ∧ Holds M0 w0 w [own (Rp.pair (Rp.int .i64) (Rp.int .u8)) 87 (.slice A1 r.length c1) r]
def banks_Spot_66.f (K : Nat) (p0 : List (Int × Int)) : Option (List (Int × Int)) := cond (mayBe (([] : List (Int × Int)).length + p0.length) 16) (some (([] : List (Int × Int)) ++ p0)) none
set_option maxRecDepth 100000 in
theorem banks_Spot_66_ok (K : Nat) (M0 : Nat → Prop) (w0 : World) (pA0 : Option Addr) (pc0 : Nat) (p0 : List (Int × Int)) (ho : ∀ b, M0 b → b < w0.heap.size) (hs0 : Sl (Rp.pair (Rp.int .i64) (Rp.int .u8)) w0 M0 (.slice pA0 p0.length pc0) p0) {r : (List (Int × Int))} (h : banks_Spot_66.f K p0 = some r) :
    Calls Try.prog 66 #[.slice pA0 p0.length pc0] w0 (banks_Spot_66.post M0 w0 r) := by
  unfold banks_Spot_66.f at h
  have h0 : Holds M0 w0 w0 [] := Holds.start ho
  have h00 := h0.addSl (Rp.pair (Rp.int .i64) (Rp.int .u8)) (.slice pA0 p0.length pc0) p0 (hs0.mono (fun _ _ hm => hm.elim id (fun hm => absurd hm (by simp [mines, sl]))))
  have h0 : Holds M0 w0 w0 [sl (Rp.pair (Rp.int .i64) (Rp.int .u8)) (.slice pA0 p0.length pc0) p0] := h00
  refine calls_of F66 rfl [.slice pA0 p0.length pc0] (by kernel_rfl) ?_
  refine RunsI.go 1 [.c 1, .c 2] (by kernel_rfl) ?_
  refine RunsI.region (by kernel_rfl) ?_
  refine RegI.pure 1 [0] [(0, .slice pA0 p0.length pc0)] (by kernel_rfl) ?_
  refine RegI.done (by kernel_rfl) ?_
  refine RunsI.go 2 [.c 4, .c 5, .c 10] (by kernel_rfl) ?_
  refine RunsI.region (by kernel_rfl) ?_
  refine RegI.pure 1 [0, 3] [(0, .slice pA0 p0.length pc0), (3, .slice pA0 p0.length pc0)] (by kernel_rfl) ?_
  rcases pA0 with _ | a1
  · obtain ⟨rfl, rfl⟩ := Sl.nilOf (h0.get 0 rfl)
    have h : (some ([] : List (Int × Int))) = some r := by first | exact h | simpa using h
    refine RegI.pure 1 [0, 4] [(0, .slice none (([] : List (Int × Int)).length) 0), (4, .bool true)] (by kernel_rfl) ?_
    refine RegI.done (by kernel_rfl) ?_
    refine RunsI.cond true 6 (by kernel_rfl) ?_
    refine RunsI.go 1 [.c 7, .c 8, .c 10] (by kernel_rfl) ?_
    refine RunsI.region (by kernel_rfl) ?_
    refine RegI.pure 1 [2] [(2, .slice none 0 0)] (by kernel_rfl) ?_
    refine RegI.done (by kernel_rfl) ?_
    refine RunsI.ret (.slice none 0 0) (by kernel_rfl) (by kernel_rfl) ?_
    have h13 := h0.addOwnNil (Rp.pair (Rp.int .i64) (Rp.int .u8)) 87
    obtain rfl := Option.some.inj h
    exact ⟨none, 0, rfl, h13.pick [1] (by decide)⟩
  · skip
    refine RegI.pure 1 [0, 4] [(0, .slice (some a1) p0.length pc0), (4, .bool false)] (by kernel_rfl) ?_
    refine RegI.done (by kernel_rfl) ?_
    refine RunsI.cond false 9 (by kernel_rfl) ?_
    refine RunsI.go 2 [.c 11, .c 12] (by kernel_rfl) ?_
    refine RunsI.region (by kernel_rfl) ?_
    refine RegI.op (by kernel_rfl) (OpE.lit 5 87 [] 0 h0 (by kernel_rfl) (by kernel_rfl) ?_)
    intro w2 b3 h4 hb5
    refine RegI.pure 1 [5, 6] [(5, .slice (some ⟨b3, 0, none⟩) (([] : List (Int × Int)).length) 0), (6, .slice (some a1) p0.length pc0)] (by kernel_rfl) ?_
    have h6 := h4.boxOwn 1 rfl (Rp.pair (Rp.int .i64) (Rp.int .u8)) ([] : List (Int × Int)) (rfl) (by decide)
    obtain ⟨hc7, h⟩ := of_cond0 h
    refine RegI.op (by kernel_rfl) (OpE.appendRow 7 1 51 87 16 (ys := p0) h6 (by kernel_rfl) (by kernel_rfl) (by kernel_rfl) rfl (h6.rdSl 0 rfl) hc7 ?_)
    intro w8 A9 c10 h11 hk12
    refine RegI.pure 1 [2] [(2, .slice A9 ((([] : List (Int × Int)) ++ p0).length) c10)] (by kernel_rfl) ?_
    refine RegI.done (by kernel_rfl) ?_
    refine RunsI.ret (.slice A9 ((([] : List (Int × Int)) ++ p0).length) c10) (by kernel_rfl) (by kernel_rfl) ?_
    obtain rfl := Option.some.inj h
    exact ⟨A9, c10, rfl, h11.pick [1] (by decide)⟩
end

/-! ### (charabanc/banks.Store).put (function 59) -/
section
def banks_Store_put_59.post (M0 : Nat → Prop) (w0 : World) (r : (List Int) × Int × Int × (List (Int × Int))) : Ending → World → Prop := fun e w => ∃ (A1 : Option Addr) (c1 : Nat) (A4 : Option Addr) (c4 : Nat), e = .returned (.agg #[.slice A1 r.1.length c1, .int .i64 r.2.1, .int .i64 r.2.2.1, .slice A4 r.2.2.2.length c4]) ∧ Holds M0 w0 w [sl (Rp.int .u8) (.slice A1 r.1.length c1) r.1, own (Rp.pair (Rp.int .i64) (Rp.int .u8)) 87 (.slice A4 r.2.2.2.length c4) r.2.2.2]
def banks_Store_put_59.l0 (K : Nat) (p0_0 : List Int) (p0_1 : Int) (p0_2 : Int) (p0_3 : List (Int × Int)) (p1 : Int) (p2 : Int) : Nat → Int → Option (Lp Int Unit)
  | 0, _ => none
  | k + 1, t14 => cond (decide (t14 < (p0_3.length : Int))) (cond (inR t14 p0_3.length) ((cmp_Compare_int_63.f K ((rdD p0_3 t14).1) p1).bind fun t32 => cond (decide (t32 > 0)) (some (Lp.ret t14)) (banks_Store_put_59.l0 K p0_0 p0_1 p0_2 p0_3 p1 p2 k (IntKind.wrap .i64 (t14 + 1)))) none) (some (Lp.go ()))
set_option maxRecDepth 100000 in
theorem banks_Store_put_59.l0_ok (K : Nat) (M0 : Nat → Prop) (w0 : World) (pA0_0 : Option Addr) (pc0_0 : Nat) (pA0_3 : Option Addr) (pc0_3 : Nat) (p0_0 : List Int) (p0_1 : Int) (p0_2 : Int) (p0_3 : List (Int × Int)) (p1 : Int) (p2 : Int) (b13 : Nat) (b15 : Nat) (b16 : Nat) (R : Ending → World → Prop) (x : Lp Int Unit) (hk0 : ∀ (w1 : World), x = Lp.go () → Holds M0 w0 w1 [box b15 53 [.slice pA0_0 p0_0.length pc0_0, .int .i64 p0_1, .int .i64 p0_2, .slice pA0_3 p0_3.length pc0_3], sl (Rp.int .u8) (.slice pA0_0 p0_0.length pc0_0) p0_0, sl (Rp.pair (Rp.int .i64) (Rp.int .u8)) (.slice pA0_3 p0_3.length pc0_3) p0_3, box b13 3 [.int .i64 p1], box b16 53 [.slice none 0 0, .int .i64 0, .int .i64 0, .slice none 0 0]] → RunsI F61 [.c 25] [] w1 R) (hk1 : ∀ (t34 : Int) (w1 : World), x = Lp.ret t34 → Holds M0 w0 w1 [box b15 53 [.slice pA0_0 p0_0.length pc0_0, .int .i64 p0_1, .int .i64 p0_2, .slice pA0_3 p0_3.length pc0_3], sl (Rp.int .u8) (.slice pA0_0 p0_0.length pc0_0) p0_0, sl (Rp.pair (Rp.int .i64) (Rp.int .u8)) (.slice pA0_3 p0_3.length pc0_3) p0_3, box b13 3 [.int .i64 p1], box b16 53 [.slice none 0 0, .int .i64 0, .int .i64 0, .slice none 0 0]] → R (.returned (.int .i64 t34)) w1) :
    ∀ (k : Nat) (t14 : Int) (w : World), banks_Store_put_59.l0 K p0_0 p0_1 p0_2 p0_3 p1 p2 k t14 = some x → Holds M0 w0 w [sl (Rp.pair (Rp.int .i64) (Rp.int .u8)) (.slice pA0_3 p0_3.length pc0_3) p0_3, box b13 3 [.int .i64 p1], box b15 53 [.slice pA0_0 p0_0.length pc0_0, .int .i64 p0_1, .int .i64 p0_2, .slice pA0_3 p0_3.length pc0_3], sl (Rp.int .u8) (.slice pA0_0 p0_0.length pc0_0) p0_0, box b16 53 [.slice none 0 0, .int .i64 0, .int .i64 0, .slice none 0 0]] → RunsI F61 [.c 7, .lp 7, .blk 0, .c 25] [(0, .slice pA0_3 p0_3.length pc0_3), (1, .func (.func 62) #[] #[.pointer (some ⟨b13, 0, none⟩)]), (7, .int .i64 (p0_3.length : Int)), (8, .int .i64 t14)] w R := by
  intro k
  induction k with
  | zero => intro t14 w h hH; exact absurd h (by simp [banks_Store_put_59.l0])
  | succ k ih =>
    intro t14 w h hH
    rw [banks_Store_put_59.l0.eq_2] at h
    refine RunsI.go 1 [.c 8, .c 9, .lp 7, .blk 0, .c 25] (by kernel_rfl) ?_
    refine RunsI.region (by kernel_rfl) ?_
    refine RegI.pure 1 [0, 1, 7, 8, 9] [(0, .slice pA0_3 p0_3.length pc0_3), (1, .func (.func 62) #[] #[.pointer (some ⟨b13, 0, none⟩)]), (7, .int .i64 (p0_3.length : Int)), (8, .int .i64 t14), (9, .bool (decide (t14 < (p0_3.length : Int))))] (by kernel_rfl) ?_
    refine RegI.done (by kernel_rfl) ?_
    refine RunsI.go 1 [.c 10, .c 13, .lp 7, .blk 0, .c 25] (by kernel_rfl) ?_
    rcases of_cond h with ⟨hc17, h⟩ | ⟨hc17, h⟩
    · skip
      refine RunsI.fix 9 true hc17 (by kernel_rfl) (by kernel_rfl) ?_
      refine RunsI.cond true 11 (by kernel_rfl) ?_
      refine RunsI.go 1 [.c 13, .lp 7, .blk 0, .c 25] (by kernel_rfl) ?_
      refine RunsI.go 3 [.c 16, .c 17, .blk 1, .c 24, .lp 7, .blk 0, .c 25] (by kernel_rfl) ?_
      refine RunsI.region (by kernel_rfl) ?_
      refine RegI.pure 2 [0, 1, 5, 7, 8] [(0, .slice pA0_3 p0_3.length pc0_3), (1, .func (.func 62) #[] #[.pointer (some ⟨b13, 0, none⟩)]), (5, .int .i64 t14), (7, .int .i64 (p0_3.length : Int)), (8, .int .i64 t14)] (by kernel_rfl) ?_
      refine RegI.done (by kernel_rfl) ?_
      refine RunsI.go 1 [.c 18, .c 19, .blk 1, .c 24, .lp 7, .blk 0, .c 25] (by kernel_rfl) ?_
      refine RunsI.region (by kernel_rfl) ?_
      refine RegI.pure 3 [0, 1, 5, 7, 8, 11, 12, 13] [(0, .slice pA0_3 p0_3.length pc0_3), (1, .func (.func 62) #[] #[.pointer (some ⟨b13, 0, none⟩)]), (5, .int .i64 t14), (7, .int .i64 (p0_3.length : Int)), (8, .int .i64 t14), (11, .func (.func 62) #[] #[.pointer (some ⟨b13, 0, none⟩)]), (12, .slice pA0_3 p0_3.length pc0_3), (13, .int .i64 t14)] (by kernel_rfl) ?_
      obtain ⟨hc18, h⟩ := of_cond0 h
      refine RegI.op (by kernel_rfl) (OpE.idxSl 14 0 51 t14 hH (by kernel_rfl) rfl (by kernel_rfl) (by kernel_rfl) hc18 ?_)
      intro b19 o20 cs21 hk22 h23
      obtain ⟨_, _, rfl, rfl, rfl⟩ := hk22
      refine RegI.op (by kernel_rfl) (OpE.loadCel 15 5 87 b19 o20 0 (.agg #[.int .i64 ((rdD p0_3 t14).1), .int .u8 ((rdD p0_3 t14).2)]) h23 (by kernel_rfl) (by kernel_rfl) rfl (by kernel_rfl) ?_)
      refine RegI.enter 16 [0, 1, 5, 7, 8] [(0, .slice pA0_3 p0_3.length pc0_3), (1, .func (.func 62) #[] #[.pointer (some ⟨b13, 0, none⟩)]), (5, .int .i64 t14), (7, .int .i64 (p0_3.length : Int)), (8, .int .i64 t14)] (by kernel_rfl) (by kernel_rfl) (by kernel_rfl) (by kernel_rfl) F62 62 rfl [.agg #[.int .i64 ((rdD p0_3 t14).1), .int .u8 ((rdD p0_3 t14).2)], .pointer (some ⟨b13, 0, none⟩)] (by kernel_rfl) (by kernel_rfl) ?_
      refine RunsI.go 1 [.c 1, .c 2] (by kernel_rfl) ?_
      refine RunsI.region (by kernel_rfl) ?_
      refine RegI.op (by kernel_rfl) (OpE.box 2 87 [.int .i64 ((rdD p0_3 t14).1), .int .u8 ((rdD p0_3 t14).2)] h23 (by kernel_rfl) (by kernel_rfl) ?_)
      intro w24 b25 h26 hb27
      refine RegI.pure 1 [1, 2] [(1, .pointer (some ⟨b13, 0, none⟩)), (2, .pointer (some ⟨b25, 0, none⟩))] (by kernel_rfl) ?_
      refine RegI.done (by kernel_rfl) ?_
      refine RunsI.go 1 [.c 3, .c 4] (by kernel_rfl) ?_
      refine RunsI.region (by kernel_rfl) ?_
      refine RegI.pure 1 [1, 4] [(1, .pointer (some ⟨b13, 0, none⟩)), (4, .pointer (some ⟨b25, 0, none⟩))] (by kernel_rfl) ?_
      refine RegI.op (by kernel_rfl) (OpE.loadBox 5 6 3 b25 0 (.int .i64 ((rdD p0_3 t14).1)) h26 (by kernel_rfl) (by kernel_rfl) rfl (by kernel_rfl) ?_)
      refine RegI.op (by kernel_rfl) (OpE.loadBox 6 1 3 b13 0 (.int .i64 p1) h26 (by kernel_rfl) (by kernel_rfl) rfl (by kernel_rfl) ?_)
      obtain ⟨t32, hg31, h⟩ := of_bind h
      refine RegI.op (by kernel_rfl) (OpE.call 7 (by kernel_rfl) 63 #[.int .i64 ((rdD p0_3 t14).1), .int .i64 p1] (by kernel_rfl) ((cmp_Compare_int_63_ok K _ w24  ((rdD p0_3 t14).1) p1 h26.old' hg31).mono ?_))
      rintro _ w28 ⟨rfl, hb29⟩
      refine ⟨_, rfl, ?_⟩
      have h30 := h26.call hb29
      refine RegI.pure 2 [3] [(3, .bool (decide (t32 > 0)))] (by kernel_rfl) ?_
      refine RegI.done (by kernel_rfl) ?_
      refine RunsI.ret (.bool (decide (t32 > 0))) (by kernel_rfl) (by kernel_rfl) ?_
      refine cont_mk ?_
      refine RegI.done (by kernel_rfl) ?_
      rcases of_cond h with ⟨hc33, h⟩ | ⟨hc33, h⟩
      · skip
        refine RunsI.fix 16 true hc33 (by kernel_rfl) (by kernel_rfl) ?_
        refine RunsI.cond true 20 (by kernel_rfl) ?_
        refine RunsI.go 1 [.c 21, .c 22, .blk 1, .c 24, .lp 7, .blk 0, .c 25] (by kernel_rfl) ?_
        refine RunsI.region (by kernel_rfl) ?_
        refine RegI.pure 2 [4] [(4, .int .i64 t14)] (by kernel_rfl) ?_
        refine RegI.done (by kernel_rfl) ?_
        refine RunsI.ret (.int .i64 t14) (by kernel_rfl) (by kernel_rfl) ?_
        exact hk1 t14 w28 (Option.some.inj h).symm (h30.pick [2, 3, 0, 1, 4] (by decide))
      · skip
        refine RunsI.fix 16 false hc33 (by kernel_rfl) (by kernel_rfl) ?_
        refine RunsI.cond false 23 (by kernel_rfl) ?_
        refine RunsI.go 1 [.blk 1, .c 24, .lp 7, .blk 0, .c 25] (by kernel_rfl) ?_
        refine RunsI.go 1 [.c 24, .lp 7, .blk 0, .c 25] (by kernel_rfl) ?_
        refine RunsI.region (by kernel_rfl) ?_
        refine RegI.pure 2 [0, 1, 7, 8] [(0, .slice pA0_3 p0_3.length pc0_3), (1, .func (.func 62) #[] #[.pointer (some ⟨b13, 0, none⟩)]), (7, .int .i64 (p0_3.length : Int)), (8, .int .i64 (IntKind.wrap .i64 (t14 + 1)))] (by kernel_rfl) ?_
        refine RegI.done (by kernel_rfl) ?_
        refine RunsI.go 1 [.c 7, .lp 7, .blk 0, .c 25] (by kernel_rfl) ?_
        refine RunsI.only [0, 1, 7, 8] [(0, .slice pA0_3 p0_3.length pc0_3), (1, .func (.func 62) #[] #[.pointer (some ⟨b13, 0, none⟩)]), (7, .int .i64 (p0_3.length : Int)), (8, .int .i64 (IntKind.wrap .i64 (t14 + 1)))] (by kernel_rfl) (by kernel_rfl) ?_
        exact ih (IntKind.wrap .i64 (t14 + 1)) w28 h (h30.pick [0, 1, 2, 3, 4] (by decide))
    · skip
      refine RunsI.fix 9 false hc17 (by kernel_rfl) (by kernel_rfl) ?_
      refine RunsI.cond false 12 (by kernel_rfl) ?_
      refine RunsI.go 1 [.c 25] (by kernel_rfl) ?_
      refine RunsI.only [] [] (by kernel_rfl) (by kernel_rfl) ?_
      exact hk0 w (Option.some.inj h).symm (hH.pick [2, 3, 0, 1, 4] (by decide))
def banks_Store_put_59.l1 (K : Nat) (p0_0 : List Int) (p0_1 : Int) (p0_2 : Int) (p0_3 : List (Int × Int)) (p1 : Int) (p2 : Int) (t70 : List (Int × Int)) (t72 : Int) : Nat → Int → Option (Lp Int Unit)
  | 0, _ => none
  | k + 1, t73 => cond (decide (t73 < t72)) (cond (inR t73 t70.length) (cond (((rdD t70 t73).1) == p1) (some (Lp.ret t73)) (banks_Store_put_59.l1 K p0_0 p0_1 p0_2 p0_3 p1 p2 t70 t72 k (IntKind.wrap .i64 (t73 + 1)))) none) (some (Lp.go ()))
set_option maxRecDepth 100000 in
theorem banks_Store_put_59.l1_ok (K : Nat) (M0 : Nat → Prop) (w0 : World) (pA0_0 : Option Addr) (pc0_0 : Nat) (pA0_3 : Option Addr) (pc0_3 : Nat) (p0_0 : List Int) (p0_1 : Int) (p0_2 : Int) (p0_3 : List (Int × Int)) (p1 : Int) (p2 : Int) (t70 : List (Int × Int)) (t72 : Int) (A68 : Option Addr) (c69 : Nat) (b71 : Nat) (b74 : Nat) (b75 : Nat) (R : Ending → World → Prop) (x : Lp Int Unit) (hk0 : ∀ (w1 : World), x = Lp.go () → Holds M0 w0 w1 [box b74 53 [.slice pA0_0 p0_0.length pc0_0, .int .i64 p0_1, .int .i64 p0_2, .slice pA0_3 p0_3.length pc0_3], sl (Rp.int .u8) (.slice pA0_0 p0_0.length pc0_0) p0_0, sl (Rp.pair (Rp.int .i64) (Rp.int .u8)) (.slice pA0_3 p0_3.length pc0_3) p0_3, box b71 3 [.int .i64 p1], box b75 53 [.slice none 0 0, .int .i64 0, .int .i64 0, .slice none 0 0], own (Rp.pair (Rp.int .i64) (Rp.int .u8)) 87 (.slice A68 t70.length c69) t70] → RunsI F61 [.c 25] [] w1 R) (hk1 : ∀ (t85 : Int) (w1 : World), x = Lp.ret t85 → Holds M0 w0 w1 [box b74 53 [.slice pA0_0 p0_0.length pc0_0, .int .i64 p0_1, .int .i64 p0_2, .slice pA0_3 p0_3.length pc0_3], sl (Rp.int .u8) (.slice pA0_0 p0_0.length pc0_0) p0_0, sl (Rp.pair (Rp.int .i64) (Rp.int .u8)) (.slice pA0_3 p0_3.length pc0_3) p0_3, box b71 3 [.int .i64 p1], box b75 53 [.slice none 0 0, .int .i64 0, .int .i64 0, .slice none 0 0], own (Rp.pair (Rp.int .i64) (Rp.int .u8)) 87 (.slice A68 t70.length c69) t70] → R (.returned (.int .i64 t85)) w1) :
    ∀ (k : Nat) (t73 : Int) (w : World), banks_Store_put_59.l1 K p0_0 p0_1 p0_2 p0_3 p1 p2 t70 t72 k t73 = some x → Holds M0 w0 w [own (Rp.pair (Rp.int .i64) (Rp.int .u8)) 87 (.slice A68 t70.length c69) t70, box b71 3 [.int .i64 p1], box b74 53 [.slice pA0_0 p0_0.length pc0_0, .int .i64 p0_1, .int .i64 p0_2, .slice pA0_3 p0_3.length pc0_3], sl (Rp.int .u8) (.slice pA0_0 p0_0.length pc0_0) p0_0, sl (Rp.pair (Rp.int .i64) (Rp.int .u8)) (.slice pA0_3 p0_3.length pc0_3) p0_3, box b75 53 [.slice none 0 0, .int .i64 0, .int .i64 0, .slice none 0 0]] → RunsI F61 [.c 7, .lp 7, .blk 0, .c 25] [(0, .slice A68 t70.length c69), (1, .func (.func 64) #[] #[.pointer (some ⟨b71, 0, none⟩)]), (7, .int .i64 t72), (8, .int .i64 t73)] w R := by
  intro k
  induction k with
  | zero => intro t73 w h hH; exact absurd h (by simp [banks_Store_put_59.l1])
  | succ k ih =>
    intro t73 w h hH
    rw [banks_Store_put_59.l1.eq_2] at h
    refine RunsI.go 1 [.c 8, .c 9, .lp 7, .blk 0, .c 25] (by kernel_rfl) ?_
    refine RunsI.region (by kernel_rfl) ?_
    refine RegI.pure 1 [0, 1, 7, 8, 9] [(0, .slice A68 t70.length c69), (1, .func (.func 64) #[] #[.pointer (some ⟨b71, 0, none⟩)]), (7, .int .i64 t72), (8, .int .i64 t73), (9, .bool (decide (t73 < t72)))] (by kernel_rfl) ?_
    refine RegI.done (by kernel_rfl) ?_
    refine RunsI.go 1 [.c 10, .c 13, .lp 7, .blk 0, .c 25] (by kernel_rfl) ?_
    rcases of_cond h with ⟨hc76, h⟩ | ⟨hc76, h⟩
    · skip
      refine RunsI.fix 9 true hc76 (by kernel_rfl) (by kernel_rfl) ?_
      refine RunsI.cond true 11 (by kernel_rfl) ?_
      refine RunsI.go 1 [.c 13, .lp 7, .blk 0, .c 25] (by kernel_rfl) ?_
      refine RunsI.go 3 [.c 16, .c 17, .blk 1, .c 24, .lp 7, .blk 0, .c 25] (by kernel_rfl) ?_
      refine RunsI.region (by kernel_rfl) ?_
      refine RegI.pure 2 [0, 1, 5, 7, 8] [(0, .slice A68 t70.length c69), (1, .func (.func 64) #[] #[.pointer (some ⟨b71, 0, none⟩)]), (5, .int .i64 t73), (7, .int .i64 t72), (8, .int .i64 t73)] (by kernel_rfl) ?_
      refine RegI.done (by kernel_rfl) ?_
      refine RunsI.go 1 [.c 18, .c 19, .blk 1, .c 24, .lp 7, .blk 0, .c 25] (by kernel_rfl) ?_
      refine RunsI.region (by kernel_rfl) ?_
      refine RegI.pure 3 [0, 1, 5, 7, 8, 11, 12, 13] [(0, .slice A68 t70.length c69), (1, .func (.func 64) #[] #[.pointer (some ⟨b71, 0, none⟩)]), (5, .int .i64 t73), (7, .int .i64 t72), (8, .int .i64 t73), (11, .func (.func 64) #[] #[.pointer (some ⟨b71, 0, none⟩)]), (12, .slice A68 t70.length c69), (13, .int .i64 t73)] (by kernel_rfl) ?_
      obtain ⟨hc77, h⟩ := of_cond0 h
      refine RegI.op (by kernel_rfl) (OpE.idxOwnA 14 0 51 87 t73 hH (by kernel_rfl) rfl (by kernel_rfl) (by kernel_rfl) hc77 ?_)
      refine RegI.op (by kernel_rfl) (OpE.loadOwnA 15 0 87 87 t73 0 (o := (Int.toNat t73) * 2 + 0) hH (by kernel_rfl) rfl (by kernel_rfl) (by kernel_rfl) hc77 (fun cs78 hk79 => ?_))
      obtain ⟨_, _, rfl, rfl, rfl⟩ := hk79
      refine ⟨.agg #[.int .i64 ((rdD t70 t73).1), .int .u8 ((rdD t70 t73).2)], by kernel_rfl, ?_⟩
      refine RegI.enter 16 [0, 1, 5, 7, 8] [(0, .slice A68 t70.length c69), (1, .func (.func 64) #[] #[.pointer (some ⟨b71, 0, none⟩)]), (5, .int .i64 t73), (7, .int .i64 t72), (8, .int .i64 t73)] (by kernel_rfl) (by kernel_rfl) (by kernel_rfl) (by kernel_rfl) F64 64 rfl [.agg #[.int .i64 ((rdD t70 t73).1), .int .u8 ((rdD t70 t73).2)], .pointer (some ⟨b71, 0, none⟩)] (by kernel_rfl) (by kernel_rfl) ?_
      refine RunsI.go 1 [.c 1, .c 2] (by kernel_rfl) ?_
      refine RunsI.region (by kernel_rfl) ?_
      refine RegI.op (by kernel_rfl) (OpE.box 2 87 [.int .i64 ((rdD t70 t73).1), .int .u8 ((rdD t70 t73).2)] hH (by kernel_rfl) (by kernel_rfl) ?_)
      intro w80 b81 h82 hb83
      refine RegI.pure 1 [1, 2] [(1, .pointer (some ⟨b71, 0, none⟩)), (2, .pointer (some ⟨b81, 0, none⟩))] (by kernel_rfl) ?_
      refine RegI.done (by kernel_rfl) ?_
      refine RunsI.go 1 [.c 3, .c 4] (by kernel_rfl) ?_
      refine RunsI.region (by kernel_rfl) ?_
      refine RegI.pure 1 [1, 4] [(1, .pointer (some ⟨b71, 0, none⟩)), (4, .pointer (some ⟨b81, 0, none⟩))] (by kernel_rfl) ?_
      refine RegI.op (by kernel_rfl) (OpE.loadBox 5 6 3 b81 0 (.int .i64 ((rdD t70 t73).1)) h82 (by kernel_rfl) (by kernel_rfl) rfl (by kernel_rfl) ?_)
      refine RegI.op (by kernel_rfl) (OpE.loadBox 6 1 3 b71 0 (.int .i64 p1) h82 (by kernel_rfl) (by kernel_rfl) rfl (by kernel_rfl) ?_)
      refine RegI.pure 2 [3] [(3, .bool (((rdD t70 t73).1) == p1))] (by kernel_rfl) ?_
      refine RegI.done (by kernel_rfl) ?_
      refine RunsI.ret (.bool (((rdD t70 t73).1) == p1)) (by kernel_rfl) (by kernel_rfl) ?_
      refine cont_mk ?_
      refine RegI.done (by kernel_rfl) ?_
      rcases of_cond h with ⟨hc84, h⟩ | ⟨hc84, h⟩
      · skip
        refine RunsI.fix 16 true hc84 (by kernel_rfl) (by kernel_rfl) ?_
        refine RunsI.cond true 20 (by kernel_rfl) ?_
        refine RunsI.go 1 [.c 21, .c 22, .blk 1, .c 24, .lp 7, .blk 0, .c 25] (by kernel_rfl) ?_
        refine RunsI.region (by kernel_rfl) ?_
        refine RegI.pure 2 [4] [(4, .int .i64 t73)] (by kernel_rfl) ?_
        refine RegI.done (by kernel_rfl) ?_
        refine RunsI.ret (.int .i64 t73) (by kernel_rfl) (by kernel_rfl) ?_
        exact hk1 t73 w80 (Option.some.inj h).symm (h82.pick [2, 3, 4, 1, 5, 0] (by decide))
      · skip
        refine RunsI.fix 16 false hc84 (by kernel_rfl) (by kernel_rfl) ?_
        refine RunsI.cond false 23 (by kernel_rfl) ?_
        refine RunsI.go 1 [.blk 1, .c 24, .lp 7, .blk 0, .c 25] (by kernel_rfl) ?_
        refine RunsI.go 1 [.c 24, .lp 7, .blk 0, .c 25] (by kernel_rfl) ?_
        refine RunsI.region (by kernel_rfl) ?_
        refine RegI.pure 2 [0, 1, 7, 8] [(0, .slice A68 t70.length c69), (1, .func (.func 64) #[] #[.pointer (some ⟨b71, 0, none⟩)]), (7, .int .i64 t72), (8, .int .i64 (IntKind.wrap .i64 (t73 + 1)))] (by kernel_rfl) ?_
        refine RegI.done (by kernel_rfl) ?_
        refine RunsI.go 1 [.c 7, .lp 7, .blk 0, .c 25] (by kernel_rfl) ?_
        refine RunsI.only [0, 1, 7, 8] [(0, .slice A68 t70.length c69), (1, .func (.func 64) #[] #[.pointer (some ⟨b71, 0, none⟩)]), (7, .int .i64 t72), (8, .int .i64 (IntKind.wrap .i64 (t73 + 1)))] (by kernel_rfl) (by kernel_rfl) ?_
        exact ih (IntKind.wrap .i64 (t73 + 1)) w80 h (h82.pick [0, 1, 2, 3, 4, 5] (by decide))
    · skip
      refine RunsI.fix 9 false hc76 (by kernel_rfl) (by kernel_rfl) ?_
      refine RunsI.cond false 12 (by kernel_rfl) ?_
      refine RunsI.go 1 [.c 25] (by kernel_rfl) ?_
      refine RunsI.only [] [] (by kernel_rfl) (by kernel_rfl) ?_
      exact hk0 w (Option.some.inj h).symm (hH.pick [2, 3, 4, 1, 5, 0] (by decide))
def banks_Store_put_59.l2 (K : Nat) (p0_0 : List Int) (p0_1 : Int) (p0_2 : Int) (p0_3 : List (Int × Int)) (p1 : Int) (p2 : Int) : Nat → (List (Int × Int)) → Int → Int → Option ((List (Int × Int)) × Int)
  | 0, _, _, _ => none
  | k + 1, t102, t104, t105 => cond (decide (t105 < (t102.length : Int))) (cond (inR t105 t102.length) (cond (!(((rdD t102 t105).1) == p1)) (cond (inR t104 t102.length) (banks_Store_put_59.l2 K p0_0 p0_1 p0_2 p0_3 p1 p2 k (stD t102 t104 ((rdD t102 t105).1, (rdD t102 t105).2)) (IntKind.wrap .i64 (t104 + 1)) (IntKind.wrap .i64 (t105 + 1))) none) (banks_Store_put_59.l2 K p0_0 p0_1 p0_2 p0_3 p1 p2 k t102 t104 (IntKind.wrap .i64 (t105 + 1)))) none) (some (t102, t104))
set_option maxRecDepth 100000 in
theorem banks_Store_put_59.l2_ok (K : Nat) (M0 : Nat → Prop) (w0 : World) (pA0_0 : Option Addr) (pc0_0 : Nat) (pA0_3 : Option Addr) (pc0_3 : Nat) (p0_0 : List Int) (p0_1 : Int) (p0_2 : Int) (p0_3 : List (Int × Int)) (p1 : Int) (p2 : Int) (A100 : Option Addr) (c101 : Nat) (b103 : Nat) (b106 : Nat) (b107 : Nat) (R : Ending → World → Prop) (x : (List (Int × Int)) × Int) (hk0 : ∀ (t129 : List (Int × Int)) (t130 : Int) (w1 : World), x = (t129, t130) → Holds M0 w0 w1 [own (Rp.pair (Rp.int .i64) (Rp.int .u8)) 87 (.slice A100 t129.length c101) t129, box b106 53 [.slice pA0_0 p0_0.length pc0_0, .int .i64 p0_1, .int .i64 p0_2, .slice pA0_3 p0_3.length pc0_3], sl (Rp.int .u8) (.slice pA0_0 p0_0.length pc0_0) p0_0, sl (Rp.pair (Rp.int .i64) (Rp.int .u8)) (.slice pA0_3 p0_3.length pc0_3) p0_3, box b103 3 [.int .i64 p1], box b107 53 [.slice none 0 0, .int .i64 0, .int .i64 0, .slice none 0 0]] → RunsI F65 [.c 35] [(0, .slice A100 t129.length c101), (5, .int .i64 t130)] w1 R) :
    ∀ (k : Nat) (t102 : List (Int × Int)) (t104 : Int) (t105 : Int) (w : World), banks_Store_put_59.l2 K p0_0 p0_1 p0_2 p0_3 p1 p2 k t102 t104 t105 = some x → Holds M0 w0 w [own (Rp.pair (Rp.int .i64) (Rp.int .u8)) 87 (.slice A100 t102.length c101) t102, box b103 3 [.int .i64 p1], box b106 53 [.slice pA0_0 p0_0.length pc0_0, .int .i64 p0_1, .int .i64 p0_2, .slice pA0_3 p0_3.length pc0_3], sl (Rp.int .u8) (.slice pA0_0 p0_0.length pc0_0) p0_0, sl (Rp.pair (Rp.int .i64) (Rp.int .u8)) (.slice pA0_3 p0_3.length pc0_3) p0_3, box b107 53 [.slice none 0 0, .int .i64 0, .int .i64 0, .slice none 0 0]] → RunsI F65 [.c 17, .lp 17, .blk 0, .c 35] [(0, .slice A100 t102.length c101), (1, .func (.func 64) #[] #[.pointer (some ⟨b103, 0, none⟩)]), (5, .int .i64 t104), (6, .int .i64 t105)] w R := by
  intro k
  induction k with
  | zero => intro t102 t104 t105 w h hH; exact absurd h (by simp [banks_Store_put_59.l2])
  | succ k ih =>
    intro t102 t104 t105 w h hH
    rw [banks_Store_put_59.l2.eq_2] at h
    refine RunsI.go 1 [.c 18, .c 23, .lp 17, .blk 0, .c 35] (by kernel_rfl) ?_
    refine RunsI.go 1 [.c 19, .c 20, .c 23, .lp 17, .blk 0, .c 35] (by kernel_rfl) ?_
    refine RunsI.region (by kernel_rfl) ?_
    refine RegI.pure 4 [0, 1, 5, 6, 19] [(0, .slice A100 t102.length c101), (1, .func (.func 64) #[] #[.pointer (some ⟨b103, 0, none⟩)]), (5, .int .i64 t104), (6, .int .i64 t105), (19, .bool (decide (t105 < (t102.length : Int))))] (by kernel_rfl) ?_
    refine RegI.done (by kernel_rfl) ?_
    rcases of_cond h with ⟨hc108, h⟩ | ⟨hc108, h⟩
    · skip
      refine RunsI.fix 19 true hc108 (by kernel_rfl) (by kernel_rfl) ?_
      refine RunsI.cond true 21 (by kernel_rfl) ?_
      refine RunsI.go 1 [.c 23, .lp 17, .blk 0, .c 35] (by kernel_rfl) ?_
      refine RunsI.go 3 [.c 26, .c 27, .blk 1, .c 34, .lp 17, .blk 0, .c 35] (by kernel_rfl) ?_
      refine RunsI.region (by kernel_rfl) ?_
      refine RegI.pure 2 [0, 1, 5, 6, 22, 23] [(0, .slice A100 t102.length c101), (1, .func (.func 64) #[] #[.pointer (some ⟨b103, 0, none⟩)]), (5, .int .i64 t104), (6, .int .i64 t105), (22, .slice A100 t102.length c101), (23, .int .i64 t105)] (by kernel_rfl) ?_
      obtain ⟨hc109, h⟩ := of_cond0 h
      refine RegI.op (by kernel_rfl) (OpE.idxOwnA 24 0 51 87 t105 hH (by kernel_rfl) rfl (by kernel_rfl) (by kernel_rfl) hc109 ?_)
      refine RegI.op (by kernel_rfl) (OpE.loadOwnA 25 0 87 87 t105 0 (o := (Int.toNat t105) * 2 + 0) hH (by kernel_rfl) rfl (by kernel_rfl) (by kernel_rfl) hc109 (fun cs110 hk111 => ?_))
      obtain ⟨_, _, rfl, rfl, rfl⟩ := hk111
      refine ⟨.agg #[.int .i64 ((rdD t102 t105).1), .int .u8 ((rdD t102 t105).2)], by kernel_rfl, ?_⟩
      refine RegI.op (by kernel_rfl) (OpE.box 7 87 [.int .i64 0, .int .u8 0] hH (by kernel_rfl) (by kernel_rfl) ?_)
      intro w112 b113 h114 hb115
      refine RegI.op (by kernel_rfl) (OpE.storeBox 6 87 b113 0 (.agg #[.int .i64 ((rdD t102 t105).1), .int .u8 ((rdD t102 t105).2)]) [.int .i64 ((rdD t102 t105).1), .int .u8 ((rdD t102 t105).2)] h114 (by kernel_rfl) (by kernel_rfl) rfl (by kernel_rfl) (by kernel_rfl) (by kernel_rfl) ?_)
      intro w116 h117 hk118
      refine RegI.done (by kernel_rfl) ?_
      refine RunsI.go 1 [.c 28, .c 29, .blk 1, .c 34, .lp 17, .blk 0, .c 35] (by kernel_rfl) ?_
      refine RunsI.region (by kernel_rfl) ?_
      refine RegI.pure 1 [0, 1, 5, 6, 7, 26] [(0, .slice A100 t102.length c101), (1, .func (.func 64) #[] #[.pointer (some ⟨b103, 0, none⟩)]), (5, .int .i64 t104), (6, .int .i64 t105), (7, .pointer (some ⟨b113, 0, none⟩)), (26, .func (.func 64) #[] #[.pointer (some ⟨b103, 0, none⟩)])] (by kernel_rfl) ?_
      refine RegI.op (by kernel_rfl) (OpE.loadBox 27 6 87 b113 0 (.agg #[.int .i64 ((rdD t102 t105).1), .int .u8 ((rdD t102 t105).2)]) h117 (by kernel_rfl) (by kernel_rfl) rfl (by kernel_rfl) ?_)
      refine RegI.enter 28 [0, 1, 5, 6, 7] [(0, .slice A100 t102.length c101), (1, .func (.func 64) #[] #[.pointer (some ⟨b103, 0, none⟩)]), (5, .int .i64 t104), (6, .int .i64 t105), (7, .pointer (some ⟨b113, 0, none⟩))] (by kernel_rfl) (by kernel_rfl) (by kernel_rfl) (by kernel_rfl) F64 64 rfl [.agg #[.int .i64 ((rdD t102 t105).1), .int .u8 ((rdD t102 t105).2)], .pointer (some ⟨b103, 0, none⟩)] (by kernel_rfl) (by kernel_rfl) ?_
      refine RunsI.go 1 [.c 1, .c 2] (by kernel_rfl) ?_
      refine RunsI.region (by kernel_rfl) ?_
      refine RegI.op (by kernel_rfl) (OpE.box 2 87 [.int .i64 ((rdD t102 t105).1), .int .u8 ((rdD t102 t105).2)] h117 (by kernel_rfl) (by kernel_rfl) ?_)
      intro w119 b120 h121 hb122
      refine RegI.pure 1 [1, 2] [(1, .pointer (some ⟨b103, 0, none⟩)), (2, .pointer (some ⟨b120, 0, none⟩))] (by kernel_rfl) ?_
      refine RegI.done (by kernel_rfl) ?_
      refine RunsI.go 1 [.c 3, .c 4] (by kernel_rfl) ?_
      refine RunsI.region (by kernel_rfl) ?_
      refine RegI.pure 1 [1, 4] [(1, .pointer (some ⟨b103, 0, none⟩)), (4, .pointer (some ⟨b120, 0, none⟩))] (by kernel_rfl) ?_
      refine RegI.op (by kernel_rfl) (OpE.loadBox 5 7 3 b120 0 (.int .i64 ((rdD t102 t105).1)) h121 (by kernel_rfl) (by kernel_rfl) rfl (by kernel_rfl) ?_)
      refine RegI.op (by kernel_rfl) (OpE.loadBox 6 1 3 b103 0 (.int .i64 p1) h121 (by kernel_rfl) (by kernel_rfl) rfl (by kernel_rfl) ?_)
      refine RegI.pure 2 [3] [(3, .bool (((rdD t102 t105).1) == p1))] (by kernel_rfl) ?_
      refine RegI.done (by kernel_rfl) ?_
      refine RunsI.ret (.bool (((rdD t102 t105).1) == p1)) (by kernel_rfl) (by kernel_rfl) ?_
      refine cont_mk ?_
      refine RegI.pure 1 [0, 1, 5, 6, 7, 29] [(0, .slice A100 t102.length c101), (1, .func (.func 64) #[] #[.pointer (some ⟨b103, 0, none⟩)]), (5, .int .i64 t104), (6, .int .i64 t105), (7, .pointer (some ⟨b113, 0, none⟩)), (29, .bool (!(((rdD t102 t105).1) == p1)))] (by kernel_rfl) ?_
      refine RegI.done (by kernel_rfl) ?_
      rcases of_cond h with ⟨hc123, h⟩ | ⟨hc123, h⟩
      · skip
        refine RunsI.fix 29 true hc123 (by kernel_rfl) (by kernel_rfl) ?_
        refine RunsI.cond true 30 (by kernel_rfl) ?_
        refine RunsI.go 1 [.c 31, .c 32, .blk 1, .c 34, .lp 17, .blk 0, .c 35] (by kernel_rfl) ?_
        refine RunsI.region (by kernel_rfl) ?_
        refine RegI.pure 2 [0, 1, 5, 6, 7, 30, 31] [(0, .slice A100 t102.length c101), (1, .func (.func 64) #[] #[.pointer (some ⟨b103, 0, none⟩)]), (5, .int .i64 t104), (6, .int .i64 t105), (7, .pointer (some ⟨b113, 0, none⟩)), (30, .slice A100 t102.length c101), (31, .int .i64 t104)] (by kernel_rfl) ?_
        refine RegI.op (by kernel_rfl) (OpE.loadBox 32 6 87 b113 0 (.agg #[.int .i64 ((rdD t102 t105).1), .int .u8 ((rdD t102 t105).2)]) h121 (by kernel_rfl) (by kernel_rfl) rfl (by kernel_rfl) ?_)
        obtain ⟨hc124, h⟩ := of_cond0 h
        refine RegI.op (by kernel_rfl) (OpE.idxOwnA 33 0 51 87 t104 h121 (by kernel_rfl) rfl (by kernel_rfl) (by kernel_rfl) hc124 ?_)
        refine RegI.op (by kernel_rfl) (OpE.storeOwnA 0 87 87 t104 0 (.agg #[.int .i64 ((rdD t102 t105).1), .int .u8 ((rdD t102 t105).2)]) (o := (Int.toNat t104) * 2 + 0) ((rdD t102 t105).1, (rdD t102 t105).2) h121 (by kernel_rfl) (by kernel_rfl) rfl (by kernel_rfl) (by kernel_rfl) (by kernel_rfl) hc124 (fun _ hk => by obtain ⟨_, _, rfl, rfl, rfl⟩ := hk; exact ⟨[_], [_], rfl, rfl, rfl⟩) ?_)
        intro w125 h126 hk127
        refine RegI.done (by kernel_rfl) ?_
        refine RunsI.region (by kernel_rfl) ?_
        refine RegI.pure 3 [0, 1, 5, 6] [(0, .slice A100 t102.length c101), (1, .func (.func 64) #[] #[.pointer (some ⟨b103, 0, none⟩)]), (5, .int .i64 (IntKind.wrap .i64 (t104 + 1))), (6, .int .i64 t105)] (by kernel_rfl) ?_
        refine RegI.done (by kernel_rfl) ?_
        refine RunsI.go 1 [.c 34, .lp 17, .blk 0, .c 35] (by kernel_rfl) ?_
        refine RunsI.region (by kernel_rfl) ?_
        refine RegI.pure 3 [0, 1, 5, 6] [(0, .slice A100 t102.length c101), (1, .func (.func 64) #[] #[.pointer (some ⟨b103, 0, none⟩)]), (5, .int .i64 (IntKind.wrap .i64 (t104 + 1))), (6, .int .i64 (IntKind.wrap .i64 (t105 + 1)))] (by kernel_rfl) ?_
        refine RegI.done (by kernel_rfl) ?_
        refine RunsI.go 1 [.c 17, .lp 17, .blk 0, .c 35] (by kernel_rfl) ?_
        refine RunsI.only [0, 1, 5, 6] [(0, .slice A100 t102.length c101), (1, .func (.func 64) #[] #[.pointer (some ⟨b103, 0, none⟩)]), (5, .int .i64 (IntKind.wrap .i64 (t104 + 1))), (6, .int .i64 (IntKind.wrap .i64 (t105 + 1)))] (by kernel_rfl) (by kernel_rfl) ?_
        have h128 : Holds M0 w0 w125 [own (Rp.pair (Rp.int .i64) (Rp.int .u8)) 87 (.slice A100 ((stD t102 t104 ((rdD t102 t105).1, (rdD t102 t105).2)).length) c101) (stD t102 t104 ((rdD t102 t105).1, (rdD t102 t105).2)), box b103 3 [.int .i64 p1], box b106 53 [.slice pA0_0 p0_0.length pc0_0, .int .i64 p0_1, .int .i64 p0_2, .slice pA0_3 p0_3.length pc0_3], sl (Rp.int .u8) (.slice pA0_0 p0_0.length pc0_0) p0_0, sl (Rp.pair (Rp.int .i64) (Rp.int .u8)) (.slice pA0_3 p0_3.length pc0_3) p0_3, box b107 53 [.slice none 0 0, .int .i64 0, .int .i64 0, .slice none 0 0], box b113 87 [.int .i64 ((rdD t102 t105).1), .int .u8 ((rdD t102 t105).2)], box b120 87 [.int .i64 ((rdD t102 t105).1), .int .u8 ((rdD t102 t105).2)]] := by have hY : Holds M0 w0 w125 [own (Rp.pair (Rp.int .i64) (Rp.int .u8)) 87 (.slice A100 t102.length c101) (stD t102 t104 ((rdD t102 t105).1, (rdD t102 t105).2)), box b103 3 [.int .i64 p1], box b106 53 [.slice pA0_0 p0_0.length pc0_0, .int .i64 p0_1, .int .i64 p0_2, .slice pA0_3 p0_3.length pc0_3], sl (Rp.int .u8) (.slice pA0_0 p0_0.length pc0_0) p0_0, sl (Rp.pair (Rp.int .i64) (Rp.int .u8)) (.slice pA0_3 p0_3.length pc0_3) p0_3, box b107 53 [.slice none 0 0, .int .i64 0, .int .i64 0, .slice none 0 0], box b113 87 [.int .i64 ((rdD t102 t105).1), .int .u8 ((rdD t102 t105).2)], box b120 87 [.int .i64 ((rdD t102 t105).1), .int .u8 ((rdD t102 t105).2)]] := h126; simpa only [stD_length] using hY
        refine RunsI.is [(0, .slice A100 ((stD t102 t104 ((rdD t102 t105).1, (rdD t102 t105).2)).length) c101), (1, .func (.func 64) #[] #[.pointer (some ⟨b103, 0, none⟩)]), (5, .int .i64 (IntKind.wrap .i64 (t104 + 1))), (6, .int .i64 (IntKind.wrap .i64 (t105 + 1)))] (by simp only [stD_length]) ?_
        refine RunsI.only [0, 1, 5, 6] [(0, .slice A100 ((stD t102 t104 ((rdD t102 t105).1, (rdD t102 t105).2)).length) c101), (1, .func (.func 64) #[] #[.pointer (some ⟨b103, 0, none⟩)]), (5, .int .i64 (IntKind.wrap .i64 (t104 + 1))), (6, .int .i64 (IntKind.wrap .i64 (t105 + 1)))] (by kernel_rfl) (by kernel_rfl) ?_
        exact ih (stD t102 t104 ((rdD t102 t105).1, (rdD t102 t105).2)) (IntKind.wrap .i64 (t104 + 1)) (IntKind.wrap .i64 (t105 + 1)) w125 h (h128.pick [0, 1, 2, 3, 4, 5] (by decide))
      · skip
        refine RunsI.fix 29 false hc123 (by kernel_rfl) (by kernel_rfl) ?_
        refine RunsI.cond false 33 (by kernel_rfl) ?_
        refine RunsI.go 1 [.blk 1, .c 34, .lp 17, .blk 0, .c 35] (by kernel_rfl) ?_
        refine RunsI.go 1 [.c 34, .lp 17, .blk 0, .c 35] (by kernel_rfl) ?_
        refine RunsI.region (by kernel_rfl) ?_
        refine RegI.pure 3 [0, 1, 5, 6] [(0, .slice A100 t102.length c101), (1, .func (.func 64) #[] #[.pointer (some ⟨b103, 0, none⟩)]), (5, .int .i64 t104), (6, .int .i64 (IntKind.wrap .i64 (t105 + 1)))] (by kernel_rfl) ?_
        refine RegI.done (by kernel_rfl) ?_
        refine RunsI.go 1 [.c 17, .lp 17, .blk 0, .c 35] (by kernel_rfl) ?_
        refine RunsI.only [0, 1, 5, 6] [(0, .slice A100 t102.length c101), (1, .func (.func 64) #[] #[.pointer (some ⟨b103, 0, none⟩)]), (5, .int .i64 t104), (6, .int .i64 (IntKind.wrap .i64 (t105 + 1)))] (by kernel_rfl) (by kernel_rfl) ?_
        exact ih t102 t104 (IntKind.wrap .i64 (t105 + 1)) w119 h (h121.pick [0, 1, 2, 3, 4, 5] (by decide))
    · skip
      refine RunsI.fix 19 false hc108 (by kernel_rfl) (by kernel_rfl) ?_
      refine RunsI.cond false 22 (by kernel_rfl) ?_
      refine RunsI.go 1 [.c 35] (by kernel_rfl) ?_
      refine RunsI.only [0, 5] [(0, .slice A100 t102.length c101), (5, .int .i64 t104)] (by kernel_rfl) (by kernel_rfl) ?_
      exact hk0 t102 t104 w (Option.some.inj h).symm (hH.pick [0, 2, 3, 4, 1, 5] (by decide))
def banks_Store_put_59.l3 (K : Nat) (p0_0 : List Int) (p0_1 : Int) (p0_2 : Int) (p0_3 : List (Int × Int)) (p1 : Int) (p2 : Int) (t168 : List (Int × Int)) (t170 : Int) (t176 : List (Int × Int)) : Nat → Int → Option (Lp Int Unit)
  | 0, _ => none
  | k + 1, t171 => cond (decide (t171 < t170)) (cond (inR t171 t168.length) (cond (((rdD t168 t171).1) == p1) (some (Lp.ret t171)) (banks_Store_put_59.l3 K p0_0 p0_1 p0_2 p0_3 p1 p2 t168 t170 t176 k (IntKind.wrap .i64 (t171 + 1)))) none) (some (Lp.go ()))
set_option maxRecDepth 100000 in
theorem banks_Store_put_59.l3_ok (K : Nat) (M0 : Nat → Prop) (w0 : World) (pA0_0 : Option Addr) (pc0_0 : Nat) (pA0_3 : Option Addr) (pc0_3 : Nat) (p0_0 : List Int) (p0_1 : Int) (p0_2 : Int) (p0_3 : List (Int × Int)) (p1 : Int) (p2 : Int) (t168 : List (Int × Int)) (t170 : Int) (t176 : List (Int × Int)) (A166 : Option Addr) (c167 : Nat) (b169 : Nat) (b172 : Nat) (b173 : Nat) (A174 : Option Addr) (c175 : Nat) (R : Ending → World → Prop) (x : Lp Int Unit) (hk0 : ∀ (w1 : World), x = Lp.go () → Holds M0 w0 w1 [box b172 53 [.slice pA0_0 p0_0.length pc0_0, .int .i64 p0_1, .int .i64 p0_2, .slice pA0_3 p0_3.length pc0_3], sl (Rp.int .u8) (.slice pA0_0 p0_0.length pc0_0) p0_0, sl (Rp.pair (Rp.int .i64) (Rp.int .u8)) (.slice pA0_3 p0_3.length pc0_3) p0_3, box b169 3 [.int .i64 p1], box b173 53 [.slice none 0 0, .int .i64 0, .int .i64 0, .slice none 0 0], own (Rp.pair (Rp.int .i64) (Rp.int .u8)) 87 (.slice A174 t176.length c175) t176, own (Rp.pair (Rp.int .i64) (Rp.int .u8)) 87 (.slice A166 t168.length c167) t168] → RunsI F61 [.c 25] [] w1 R) (hk1 : ∀ (t186 : Int) (w1 : World), x = Lp.ret t186 → Holds M0 w0 w1 [box b172 53 [.slice pA0_0 p0_0.length pc0_0, .int .i64 p0_1, .int .i64 p0_2, .slice pA0_3 p0_3.length pc0_3], sl (Rp.int .u8) (.slice pA0_0 p0_0.length pc0_0) p0_0, sl (Rp.pair (Rp.int .i64) (Rp.int .u8)) (.slice pA0_3 p0_3.length pc0_3) p0_3, box b169 3 [.int .i64 p1], box b173 53 [.slice none 0 0, .int .i64 0, .int .i64 0, .slice none 0 0], own (Rp.pair (Rp.int .i64) (Rp.int .u8)) 87 (.slice A174 t176.length c175) t176, own (Rp.pair (Rp.int .i64) (Rp.int .u8)) 87 (.slice A166 t168.length c167) t168] → R (.returned (.int .i64 t186)) w1) :
    ∀ (k : Nat) (t171 : Int) (w : World), banks_Store_put_59.l3 K p0_0 p0_1 p0_2 p0_3 p1 p2 t168 t170 t176 k t171 = some x → Holds M0 w0 w [own (Rp.pair (Rp.int .i64) (Rp.int .u8)) 87 (.slice A166 t168.length c167) t168, box b169 3 [.int .i64 p1], box b172 53 [.slice pA0_0 p0_0.length pc0_0, .int .i64 p0_1, .int .i64 p0_2, .slice pA0_3 p0_3.length pc0_3], sl (Rp.int .u8) (.slice pA0_0 p0_0.length pc0_0) p0_0, sl (Rp.pair (Rp.int .i64) (Rp.int .u8)) (.slice pA0_3 p0_3.length pc0_3) p0_3, box b173 53 [.slice none 0 0, .int .i64 0, .int .i64 0, .slice none 0 0], own (Rp.pair (Rp.int .i64) (Rp.int .u8)) 87 (.slice A174 t176.length c175) t176] → RunsI F61 [.c 7, .lp 7, .blk 0, .c 25] [(0, .slice A166 t168.length c167), (1, .func (.func 64) #[] #[.pointer (some ⟨b169, 0, none⟩)]), (7, .int .i64 t170), (8, .int .i64 t171)] w R := by
  intro k
  induction k with
  | zero => intro t171 w h hH; exact absurd h (by simp [banks_Store_put_59.l3])
  | succ k ih =>
    intro t171 w h hH
    rw [banks_Store_put_59.l3.eq_2] at h
    refine RunsI.go 1 [.c 8, .c 9, .lp 7, .blk 0, .c 25] (by kernel_rfl) ?_
    refine RunsI.region (by kernel_rfl) ?_
    refine RegI.pure 1 [0, 1, 7, 8, 9] [(0, .slice A166 t168.length c167), (1, .func (.func 64) #[] #[.pointer (some ⟨b169, 0, none⟩)]), (7, .int .i64 t170), (8, .int .i64 t171), (9, .bool (decide (t171 < t170)))] (by kernel_rfl) ?_
    refine RegI.done (by kernel_rfl) ?_
    refine RunsI.go 1 [.c 10, .c 13, .lp 7, .blk 0, .c 25] (by kernel_rfl) ?_
    rcases of_cond h with ⟨hc177, h⟩ | ⟨hc177, h⟩
    · skip
      refine RunsI.fix 9 true hc177 (by kernel_rfl) (by kernel_rfl) ?_
      refine RunsI.cond true 11 (by kernel_rfl) ?_
      refine RunsI.go 1 [.c 13, .lp 7, .blk 0, .c 25] (by kernel_rfl) ?_
      refine RunsI.go 3 [.c 16, .c 17, .blk 1, .c 24, .lp 7, .blk 0, .c 25] (by kernel_rfl) ?_
      refine RunsI.region (by kernel_rfl) ?_
      refine RegI.pure 2 [0, 1, 5, 7, 8] [(0, .slice A166 t168.length c167), (1, .func (.func 64) #[] #[.pointer (some ⟨b169, 0, none⟩)]), (5, .int .i64 t171), (7, .int .i64 t170), (8, .int .i64 t171)] (by kernel_rfl) ?_
      refine RegI.done (by kernel_rfl) ?_
      refine RunsI.go 1 [.c 18, .c 19, .blk 1, .c 24, .lp 7, .blk 0, .c 25] (by kernel_rfl) ?_
      refine RunsI.region (by kernel_rfl) ?_
      refine RegI.pure 3 [0, 1, 5, 7, 8, 11, 12, 13] [(0, .slice A166 t168.length c167), (1, .func (.func 64) #[] #[.pointer (some ⟨b169, 0, none⟩)]), (5, .int .i64 t171), (7, .int .i64 t170), (8, .int .i64 t171), (11, .func (.func 64) #[] #[.pointer (some ⟨b169, 0, none⟩)]), (12, .slice A166 t168.length c167), (13, .int .i64 t171)] (by kernel_rfl) ?_
      obtain ⟨hc178, h⟩ := of_cond0 h
      refine RegI.op (by kernel_rfl) (OpE.idxOwnA 14 0 51 87 t171 hH (by kernel_rfl) rfl (by kernel_rfl) (by kernel_rfl) hc178 ?_)
      refine RegI.op (by kernel_rfl) (OpE.loadOwnA 15 0 87 87 t171 0 (o := (Int.toNat t171) * 2 + 0) hH (by kernel_rfl) rfl (by kernel_rfl) (by kernel_rfl) hc178 (fun cs179 hk180 => ?_))
      obtain ⟨_, _, rfl, rfl, rfl⟩ := hk180
      refine ⟨.agg #[.int .i64 ((rdD t168 t171).1), .int .u8 ((rdD t168 t171).2)], by kernel_rfl, ?_⟩
      refine RegI.enter 16 [0, 1, 5, 7, 8] [(0, .slice A166 t168.length c167), (1, .func (.func 64) #[] #[.pointer (some ⟨b169, 0, none⟩)]), (5, .int .i64 t171), (7, .int .i64 t170), (8, .int .i64 t171)] (by kernel_rfl) (by kernel_rfl) (by kernel_rfl) (by kernel_rfl) F64 64 rfl [.agg #[.int .i64 ((rdD t168 t171).1), .int .u8 ((rdD t168 t171).2)], .pointer (some ⟨b169, 0, none⟩)] (by kernel_rfl) (by kernel_rfl) ?_
      refine RunsI.go 1 [.c 1, .c 2] (by kernel_rfl) ?_
      refine RunsI.region (by kernel_rfl) ?_
      refine RegI.op (by kernel_rfl) (OpE.box 2 87 [.int .i64 ((rdD t168 t171).1), .int .u8 ((rdD t168 t171).2)] hH (by kernel_rfl) (by kernel_rfl) ?_)
      intro w181 b182 h183 hb184
      refine RegI.pure 1 [1, 2] [(1, .pointer (some ⟨b169, 0, none⟩)), (2, .pointer (some ⟨b182, 0, none⟩))] (by kernel_rfl) ?_
      refine RegI.done (by kernel_rfl) ?_
      refine RunsI.go 1 [.c 3, .c 4] (by kernel_rfl) ?_
      refine RunsI.region (by kernel_rfl) ?_
      refine RegI.pure 1 [1, 4] [(1, .pointer (some ⟨b169, 0, none⟩)), (4, .pointer (some ⟨b182, 0, none⟩))] (by kernel_rfl) ?_
      refine RegI.op (by kernel_rfl) (OpE.loadBox 5 7 3 b182 0 (.int .i64 ((rdD t168 t171).1)) h183 (by kernel_rfl) (by kernel_rfl) rfl (by kernel_rfl) ?_)
      refine RegI.op (by kernel_rfl) (OpE.loadBox 6 1 3 b169 0 (.int .i64 p1) h183 (by kernel_rfl) (by kernel_rfl) rfl (by kernel_rfl) ?_)
      refine RegI.pure 2 [3] [(3, .bool (((rdD t168 t171).1) == p1))] (by kernel_rfl) ?_
      refine RegI.done (by kernel_rfl) ?_
      refine RunsI.ret (.bool (((rdD t168 t171).1) == p1)) (by kernel_rfl) (by kernel_rfl) ?_
      refine cont_mk ?_
      refine RegI.done (by kernel_rfl) ?_
      rcases of_cond h with ⟨hc185, h⟩ | ⟨hc185, h⟩
      · skip
        refine RunsI.fix 16 true hc185 (by kernel_rfl) (by kernel_rfl) ?_
        refine RunsI.cond true 20 (by kernel_rfl) ?_
        refine RunsI.go 1 [.c 21, .c 22, .blk 1, .c 24, .lp 7, .blk 0, .c 25] (by kernel_rfl) ?_
        refine RunsI.region (by kernel_rfl) ?_
        refine RegI.pure 2 [4] [(4, .int .i64 t171)] (by kernel_rfl) ?_
        refine RegI.done (by kernel_rfl) ?_
        refine RunsI.ret (.int .i64 t171) (by kernel_rfl) (by kernel_rfl) ?_
        exact hk1 t171 w181 (Option.some.inj h).symm (h183.pick [2, 3, 4, 1, 5, 6, 0] (by decide))
      · skip
        refine RunsI.fix 16 false hc185 (by kernel_rfl) (by kernel_rfl) ?_
        refine RunsI.cond false 23 (by kernel_rfl) ?_
        refine RunsI.go 1 [.blk 1, .c 24, .lp 7, .blk 0, .c 25] (by kernel_rfl) ?_
        refine RunsI.go 1 [.c 24, .lp 7, .blk 0, .c 25] (by kernel_rfl) ?_
        refine RunsI.region (by kernel_rfl) ?_
        refine RegI.pure 2 [0, 1, 7, 8] [(0, .slice A166 t168.length c167), (1, .func (.func 64) #[] #[.pointer (some ⟨b169, 0, none⟩)]), (7, .int .i64 t170), (8, .int .i64 (IntKind.wrap .i64 (t171 + 1)))] (by kernel_rfl) ?_
        refine RegI.done (by kernel_rfl) ?_
        refine RunsI.go 1 [.c 7, .lp 7, .blk 0, .c 25] (by kernel_rfl) ?_
        refine RunsI.only [0, 1, 7, 8] [(0, .slice A166 t168.length c167), (1, .func (.func 64) #[] #[.pointer (some ⟨b169, 0, none⟩)]), (7, .int .i64 t170), (8, .int .i64 (IntKind.wrap .i64 (t171 + 1)))] (by kernel_rfl) (by kernel_rfl) ?_
        exact ih (IntKind.wrap .i64 (t171 + 1)) w181 h (h183.pick [0, 1, 2, 3, 4, 5, 6] (by decide))
    · skip
      refine RunsI.fix 9 false hc177 (by kernel_rfl) (by kernel_rfl) ?_
      refine RunsI.cond false 12 (by kernel_rfl) ?_
      refine RunsI.go 1 [.c 25] (by kernel_rfl) ?_
      refine RunsI.only [] [] (by kernel_rfl) (by kernel_rfl) ?_
      exact hk0 w (Option.some.inj h).symm (hH.pick [2, 3, 4, 1, 5, 6, 0] (by decide))
def banks_Store_put_59.l4 (K : Nat) (p0_0 : List Int) (p0_1 : Int) (p0_2 : Int) (p0_3 : List (Int × Int)) (p1 : Int) (p2 : Int) (t211 : List (Int × Int)) : Nat → (List (Int × Int)) → Int → Int → Option ((List (Int × Int)) × Int)
  | 0, _, _, _ => none
  | k + 1, t203, t205, t206 => cond (decide (t206 < (t203.length : Int))) (cond (inR t206 t203.length) (cond (!(((rdD t203 t206).1) == p1)) (cond (inR t205 t203.length) (banks_Store_put_59.l4 K p0_0 p0_1 p0_2 p0_3 p1 p2 t211 k (stD t203 t205 ((rdD t203 t206).1, (rdD t203 t206).2)) (IntKind.wrap .i64 (t205 + 1)) (IntKind.wrap .i64 (t206 + 1))) none) (banks_Store_put_59.l4 K p0_0 p0_1 p0_2 p0_3 p1 p2 t211 k t203 t205 (IntKind.wrap .i64 (t206 + 1)))) none) (some (t203, t205))
set_option maxRecDepth 100000 in
theorem banks_Store_put_59.l4_ok (K : Nat) (M0 : Nat → Prop) (w0 : World) (pA0_0 : Option Addr) (pc0_0 : Nat) (pA0_3 : Option Addr) (pc0_3 : Nat) (p0_0 : List Int) (p0_1 : Int) (p0_2 : Int) (p0_3 : List (Int × Int)) (p1 : Int) (p2 : Int) (t211 : List (Int × Int)) (A201 : Option Addr) (c202 : Nat) (b204 : Nat) (b207 : Nat) (b208 : Nat) (A209 : Option Addr) (c210 : Nat) (R : Ending → World → Prop) (x : (List (Int × Int)) × Int) (hk0 : ∀ (t233 : List (Int × Int)) (t234 : Int) (w1 : World), x = (t233, t234) → Holds M0 w0 w1 [own (Rp.pair (Rp.int .i64) (Rp.int .u8)) 87 (.slice A201 t233.length c202) t233, box b207 53 [.slice pA0_0 p0_0.length pc0_0, .int .i64 p0_1, .int .i64 p0_2, .slice pA0_3 p0_3.length pc0_3], sl (Rp.int .u8) (.slice pA0_0 p0_0.length pc0_0) p0_0, sl (Rp.pair (Rp.int .i64) (Rp.int .u8)) (.slice pA0_3 p0_3.length pc0_3) p0_3, box b204 3 [.int .i64 p1], box b208 53 [.slice none 0 0, .int .i64 0, .int .i64 0, .slice none 0 0], own (Rp.pair (Rp.int .i64) (Rp.int .u8)) 87 (.slice A209 t211.length c210) t211] → RunsI F65 [.c 35] [(0, .slice A201 t233.length c202), (5, .int .i64 t234)] w1 R) :
    ∀ (k : Nat) (t203 : List (Int × Int)) (t205 : Int) (t206 : Int) (w : World), banks_Store_put_59.l4 K p0_0 p0_1 p0_2 p0_3 p1 p2 t211 k t203 t205 t206 = some x → Holds M0 w0 w [own (Rp.pair (Rp.int .i64) (Rp.int .u8)) 87 (.slice A201 t203.length c202) t203, box b204 3 [.int .i64 p1], box b207 53 [.slice pA0_0 p0_0.length pc0_0, .int .i64 p0_1, .int .i64 p0_2, .slice pA0_3 p0_3.length pc0_3], sl (Rp.int .u8) (.slice pA0_0 p0_0.length pc0_0) p0_0, sl (Rp.pair (Rp.int .i64) (Rp.int .u8)) (.slice pA0_3 p0_3.length pc0_3) p0_3, box b208 53 [.slice none 0 0, .int .i64 0, .int .i64 0, .slice none 0 0], own (Rp.pair (Rp.int .i64) (Rp.int .u8)) 87 (.slice A209 t211.length c210) t211] → RunsI F65 [.c 17, .lp 17, .blk 0, .c 35] [(0, .slice A201 t203.length c202), (1, .func (.func 64) #[] #[.pointer (some ⟨b204, 0, none⟩)]), (5, .int .i64 t205), (6, .int .i64 t206)] w R := by
  intro k
  induction k with
  | zero => intro t203 t205 t206 w h hH; exact absurd h (by simp [banks_Store_put_59.l4])
  | succ k ih =>
    intro t203 t205 t206 w h hH
    rw [banks_Store_put_59.l4.eq_2] at h
    refine RunsI.go 1 [.c 18, .c 23, .lp 17, .blk 0, .c 35] (by kernel_rfl) ?_
    refine RunsI.go 1 [.c 19, .c 20, .c 23, .lp 17, .blk 0, .c 35] (by kernel_rfl) ?_
    refine RunsI.region (by kernel_rfl) ?_
    refine RegI.pure 4 [0, 1, 5, 6, 19] [(0, .slice A201 t203.length c202), (1, .func (.func 64) #[] #[.pointer (some ⟨b204, 0, none⟩)]), (5, .int .i64 t205), (6, .int .i64 t206), (19, .bool (decide (t206 < (t203.length : Int))))] (by kernel_rfl) ?_
    refine RegI.done (by kernel_rfl) ?_
    rcases of_cond h with ⟨hc212, h⟩ | ⟨hc212, h⟩
    · skip
      refine RunsI.fix 19 true hc212 (by kernel_rfl) (by kernel_rfl) ?_
      refine RunsI.cond true 21 (by kernel_rfl) ?_
      refine RunsI.go 1 [.c 23, .lp 17, .blk 0, .c 35] (by kernel_rfl) ?_
      refine RunsI.go 3 [.c 26, .c 27, .blk 1, .c 34, .lp 17, .blk 0, .c 35] (by kernel_rfl) ?_
      refine RunsI.region (by kernel_rfl) ?_
      refine RegI.pure 2 [0, 1, 5, 6, 22, 23] [(0, .slice A201 t203.length c202), (1, .func (.func 64) #[] #[.pointer (some ⟨b204, 0, none⟩)]), (5, .int .i64 t205), (6, .int .i64 t206), (22, .slice A201 t203.length c202), (23, .int .i64 t206)] (by kernel_rfl) ?_
      obtain ⟨hc213, h⟩ := of_cond0 h
      refine RegI.op (by kernel_rfl) (OpE.idxOwnA 24 0 51 87 t206 hH (by kernel_rfl) rfl (by kernel_rfl) (by kernel_rfl) hc213 ?_)
      refine RegI.op (by kernel_rfl) (OpE.loadOwnA 25 0 87 87 t206 0 (o := (Int.toNat t206) * 2 + 0) hH (by kernel_rfl) rfl (by kernel_rfl) (by kernel_rfl) hc213 (fun cs214 hk215 => ?_))
      obtain ⟨_, _, rfl, rfl, rfl⟩ := hk215
      refine ⟨.agg #[.int .i64 ((rdD t203 t206).1), .int .u8 ((rdD t203 t206).2)], by kernel_rfl, ?_⟩
      refine RegI.op (by kernel_rfl) (OpE.box 7 87 [.int .i64 0, .int .u8 0] hH (by kernel_rfl) (by kernel_rfl) ?_)
      intro w216 b217 h218 hb219
      refine RegI.op (by kernel_rfl) (OpE.storeBox 7 87 b217 0 (.agg #[.int .i64 ((rdD t203 t206).1), .int .u8 ((rdD t203 t206).2)]) [.int .i64 ((rdD t203 t206).1), .int .u8 ((rdD t203 t206).2)] h218 (by kernel_rfl) (by kernel_rfl) rfl (by kernel_rfl) (by kernel_rfl) (by kernel_rfl) ?_)
      intro w220 h221 hk222
      refine RegI.done (by kernel_rfl) ?_
      refine RunsI.go 1 [.c 28, .c 29, .blk 1, .c 34, .lp 17, .blk 0, .c 35] (by kernel_rfl) ?_
      refine RunsI.region (by kernel_rfl) ?_
      refine RegI.pure 1 [0, 1, 5, 6, 7, 26] [(0, .slice A201 t203.length c202), (1, .func (.func 64) #[] #[.pointer (some ⟨b204, 0, none⟩)]), (5, .int .i64 t205), (6, .int .i64 t206), (7, .pointer (some ⟨b217, 0, none⟩)), (26, .func (.func 64) #[] #[.pointer (some ⟨b204, 0, none⟩)])] (by kernel_rfl) ?_
      refine RegI.op (by kernel_rfl) (OpE.loadBox 27 7 87 b217 0 (.agg #[.int .i64 ((rdD t203 t206).1), .int .u8 ((rdD t203 t206).2)]) h221 (by kernel_rfl) (by kernel_rfl) rfl (by kernel_rfl) ?_)
      refine RegI.enter 28 [0, 1, 5, 6, 7] [(0, .slice A201 t203.length c202), (1, .func (.func 64) #[] #[.pointer (some ⟨b204, 0, none⟩)]), (5, .int .i64 t205), (6, .int .i64 t206), (7, .pointer (some ⟨b217, 0, none⟩))] (by kernel_rfl) (by kernel_rfl) (by kernel_rfl) (by kernel_rfl) F64 64 rfl [.agg #[.int .i64 ((rdD t203 t206).1), .int .u8 ((rdD t203 t206).2)], .pointer (some ⟨b204, 0, none⟩)] (by kernel_rfl) (by kernel_rfl) ?_
      refine RunsI.go 1 [.c 1, .c 2] (by kernel_rfl) ?_
      refine RunsI.region (by kernel_rfl) ?_
      refine RegI.op (by kernel_rfl) (OpE.box 2 87 [.int .i64 ((rdD t203 t206).1), .int .u8 ((rdD t203 t206).2)] h221 (by kernel_rfl) (by kernel_rfl) ?_)
      intro w223 b224 h225 hb226
      refine RegI.pure 1 [1, 2] [(1, .pointer (some ⟨b204, 0, none⟩)), (2, .pointer (some ⟨b224, 0, none⟩))] (by kernel_rfl) ?_
      refine RegI.done (by kernel_rfl) ?_
      refine RunsI.go 1 [.c 3, .c 4] (by kernel_rfl) ?_
      refine RunsI.region (by kernel_rfl) ?_
      refine RegI.pure 1 [1, 4] [(1, .pointer (some ⟨b204, 0, none⟩)), (4, .pointer (some ⟨b224, 0, none⟩))] (by kernel_rfl) ?_
      refine RegI.op (by kernel_rfl) (OpE.loadBox 5 8 3 b224 0 (.int .i64 ((rdD t203 t206).1)) h225 (by kernel_rfl) (by kernel_rfl) rfl (by kernel_rfl) ?_)
      refine RegI.op (by kernel_rfl) (OpE.loadBox 6 1 3 b204 0 (.int .i64 p1) h225 (by kernel_rfl) (by kernel_rfl) rfl (by kernel_rfl) ?_)
      refine RegI.pure 2 [3] [(3, .bool (((rdD t203 t206).1) == p1))] (by kernel_rfl) ?_
      refine RegI.done (by kernel_rfl) ?_
      refine RunsI.ret (.bool (((rdD t203 t206).1) == p1)) (by kernel_rfl) (by kernel_rfl) ?_
      refine cont_mk ?_
      refine RegI.pure 1 [0, 1, 5, 6, 7, 29] [(0, .slice A201 t203.length c202), (1, .func (.func 64) #[] #[.pointer (some ⟨b204, 0, none⟩)]), (5, .int .i64 t205), (6, .int .i64 t206), (7, .pointer (some ⟨b217, 0, none⟩)), (29, .bool (!(((rdD t203 t206).1) == p1)))] (by kernel_rfl) ?_
      refine RegI.done (by kernel_rfl) ?_
      rcases of_cond h with ⟨hc227, h⟩ | ⟨hc227, h⟩
      · skip
        refine RunsI.fix 29 true hc227 (by kernel_rfl) (by kernel_rfl) ?_
        refine RunsI.cond true 30 (by kernel_rfl) ?_
        refine RunsI.go 1 [.c 31, .c 32, .blk 1, .c 34, .lp 17, .blk 0, .c 35] (by kernel_rfl) ?_
        refine RunsI.region (by kernel_rfl) ?_
        refine RegI.pure 2 [0, 1, 5, 6, 7, 30, 31] [(0, .slice A201 t203.length c202), (1, .func (.func 64) #[] #[.pointer (some ⟨b204, 0, none⟩)]), (5, .int .i64 t205), (6, .int .i64 t206), (7, .pointer (some ⟨b217, 0, none⟩)), (30, .slice A201 t203.length c202), (31, .int .i64 t205)] (by kernel_rfl) ?_
        refine RegI.op (by kernel_rfl) (OpE.loadBox 32 7 87 b217 0 (.agg #[.int .i64 ((rdD t203 t206).1), .int .u8 ((rdD t203 t206).2)]) h225 (by kernel_rfl) (by kernel_rfl) rfl (by kernel_rfl) ?_)
        obtain ⟨hc228, h⟩ := of_cond0 h
        refine RegI.op (by kernel_rfl) (OpE.idxOwnA 33 0 51 87 t205 h225 (by kernel_rfl) rfl (by kernel_rfl) (by kernel_rfl) hc228 ?_)
        refine RegI.op (by kernel_rfl) (OpE.storeOwnA 0 87 87 t205 0 (.agg #[.int .i64 ((rdD t203 t206).1), .int .u8 ((rdD t203 t206).2)]) (o := (Int.toNat t205) * 2 + 0) ((rdD t203 t206).1, (rdD t203 t206).2) h225 (by kernel_rfl) (by kernel_rfl) rfl (by kernel_rfl) (by kernel_rfl) (by kernel_rfl) hc228 (fun _ hk => by obtain ⟨_, _, rfl, rfl, rfl⟩ := hk; exact ⟨[_], [_], rfl, rfl, rfl⟩) ?_)
        intro w229 h230 hk231
        refine RegI.done (by kernel_rfl) ?_
        refine RunsI.region (by kernel_rfl) ?_
        refine RegI.pure 3 [0, 1, 5, 6] [(0, .slice A201 t203.length c202), (1, .func (.func 64) #[] #[.pointer (some ⟨b204, 0, none⟩)]), (5, .int .i64 (IntKind.wrap .i64 (t205 + 1))), (6, .int .i64 t206)] (by kernel_rfl) ?_
        refine RegI.done (by kernel_rfl) ?_
        refine RunsI.go 1 [.c 34, .lp 17, .blk 0, .c 35] (by kernel_rfl) ?_
        refine RunsI.region (by kernel_rfl) ?_
        refine RegI.pure 3 [0, 1, 5, 6] [(0, .slice A201 t203.length c202), (1, .func (.func 64) #[] #[.pointer (some ⟨b204, 0, none⟩)]), (5, .int .i64 (IntKind.wrap .i64 (t205 + 1))), (6, .int .i64 (IntKind.wrap .i64 (t206 + 1)))] (by kernel_rfl) ?_
        refine RegI.done (by kernel_rfl) ?_
        refine RunsI.go 1 [.c 17, .lp 17, .blk 0, .c 35] (by kernel_rfl) ?_
        refine RunsI.only [0, 1, 5, 6] [(0, .slice A201 t203.length c202), (1, .func (.func 64) #[] #[.pointer (some ⟨b204, 0, none⟩)]), (5, .int .i64 (IntKind.wrap .i64 (t205 + 1))), (6, .int .i64 (IntKind.wrap .i64 (t206 + 1)))] (by kernel_rfl) (by kernel_rfl) ?_
        have h232 : Holds M0 w0 w229 [own (Rp.pair (Rp.int .i64) (Rp.int .u8)) 87 (.slice A201 ((stD t203 t205 ((rdD t203 t206).1, (rdD t203 t206).2)).length) c202) (stD t203 t205 ((rdD t203 t206).1, (rdD t203 t206).2)), box b204 3 [.int .i64 p1], box b207 53 [.slice pA0_0 p0_0.length pc0_0, .int .i64 p0_1, .int .i64 p0_2, .slice pA0_3 p0_3.length pc0_3], sl (Rp.int .u8) (.slice pA0_0 p0_0.length pc0_0) p0_0, sl (Rp.pair (Rp.int .i64) (Rp.int .u8)) (.slice pA0_3 p0_3.length pc0_3) p0_3, box b208 53 [.slice none 0 0, .int .i64 0, .int .i64 0, .slice none 0 0], own (Rp.pair (Rp.int .i64) (Rp.int .u8)) 87 (.slice A209 t211.length c210) t211, box b217 87 [.int .i64 ((rdD t203 t206).1), .int .u8 ((rdD t203 t206).2)], box b224 87 [.int .i64 ((rdD t203 t206).1), .int .u8 ((rdD t203 t206).2)]] := by have hY : Holds M0 w0 w229 [own (Rp.pair (Rp.int .i64) (Rp.int .u8)) 87 (.slice A201 t203.length c202) (stD t203 t205 ((rdD t203 t206).1, (rdD t203 t206).2)), box b204 3 [.int .i64 p1], box b207 53 [.slice pA0_0 p0_0.length pc0_0, .int .i64 p0_1, .int .i64 p0_2, .slice pA0_3 p0_3.length pc0_3], sl (Rp.int .u8) (.slice pA0_0 p0_0.length pc0_0) p0_0, sl (Rp.pair (Rp.int .i64) (Rp.int .u8)) (.slice pA0_3 p0_3.length pc0_3) p0_3, box b208 53 [.slice none 0 0, .int .i64 0, .int .i64 0, .slice none 0 0], own (Rp.pair (Rp.int .i64) (Rp.int .u8)) 87 (.slice A209 t211.length c210) t211, box b217 87 [.int .i64 ((rdD t203 t206).1), .int .u8 ((rdD t203 t206).2)], box b224 87 [.int .i64 ((rdD t203 t206).1), .int .u8 ((rdD t203 t206).2)]] := h230; simpa only [stD_length] using hY
        refine RunsI.is [(0, .slice A201 ((stD t203 t205 ((rdD t203 t206).1, (rdD t203 t206).2)).length) c202), (1, .func (.func 64) #[] #[.pointer (some ⟨b204, 0, none⟩)]), (5, .int .i64 (IntKind.wrap .i64 (t205 + 1))), (6, .int .i64 (IntKind.wrap .i64 (t206 + 1)))] (by simp only [stD_length]) ?_
        refine RunsI.only [0, 1, 5, 6] [(0, .slice A201 ((stD t203 t205 ((rdD t203 t206).1, (rdD t203 t206).2)).length) c202), (1, .func (.func 64) #[] #[.pointer (some ⟨b204, 0, none⟩)]), (5, .int .i64 (IntKind.wrap .i64 (t205 + 1))), (6, .int .i64 (IntKind.wrap .i64 (t206 + 1)))] (by kernel_rfl) (by kernel_rfl) ?_
        exact ih (stD t203 t205 ((rdD t203 t206).1, (rdD t203 t206).2)) (IntKind.wrap .i64 (t205 + 1)) (IntKind.wrap .i64 (t206 + 1)) w229 h (h232.pick [0, 1, 2, 3, 4, 5, 6] (by decide))
      · skip
        refine RunsI.fix 29 false hc227 (by kernel_rfl) (by kernel_rfl) ?_
        refine RunsI.cond false 33 (by kernel_rfl) ?_
        refine RunsI.go 1 [.blk 1, .c 34, .lp 17, .blk 0, .c 35] (by kernel_rfl) ?_
        refine RunsI.go 1 [.c 34, .lp 17, .blk 0, .c 35] (by kernel_rfl) ?_
        refine RunsI.region (by kernel_rfl) ?_
        refine RegI.pure 3 [0, 1, 5, 6] [(0, .slice A201 t203.length c202), (1, .func (.func 64) #[] #[.pointer (some ⟨b204, 0, none⟩)]), (5, .int .i64 t205), (6, .int .i64 (IntKind.wrap .i64 (t206 + 1)))] (by kernel_rfl) ?_
        refine RegI.done (by kernel_rfl) ?_
        refine RunsI.go 1 [.c 17, .lp 17, .blk 0, .c 35] (by kernel_rfl) ?_
        refine RunsI.only [0, 1, 5, 6] [(0, .slice A201 t203.length c202), (1, .func (.func 64) #[] #[.pointer (some ⟨b204, 0, none⟩)]), (5, .int .i64 t205), (6, .int .i64 (IntKind.wrap .i64 (t206 + 1)))] (by kernel_rfl) (by kernel_rfl) ?_
        exact ih t203 t205 (IntKind.wrap .i64 (t206 + 1)) w223 h (h225.pick [0, 1, 2, 3, 4, 5, 6] (by decide))
    · skip
      refine RunsI.fix 19 false hc212 (by kernel_rfl) (by kernel_rfl) ?_
      refine RunsI.cond false 22 (by kernel_rfl) ?_
      refine RunsI.go 1 [.c 35] (by kernel_rfl) ?_
      refine RunsI.only [0, 5] [(0, .slice A201 t203.length c202), (5, .int .i64 t205)] (by kernel_rfl) (by kernel_rfl) ?_
      exact hk0 t203 t205 w (Option.some.inj h).symm (hH.pick [0, 2, 3, 4, 1, 5, 6] (by decide))
def banks_Store_put_59.f (K : Nat) (p0_0 : List Int) (p0_1 : Int) (p0_2 : Int) (p0_3 : List (Int × Int)) (p1 : Int) (p2 : Int) : Option ((List Int) × Int × Int × (List (Int × Int))) := Let (fun (t49 : Int) => cond (cutR 0 t49 p0_3.length) ((banks_Spot_66.f K (cutL p0_3 0 t49)).bind fun t63 => Let (fun (t147 : (List (Int × Int))) => cond (cutR t49 (p0_3.length : Int) p0_3.length) ((banks_Spot_66.f K (cutL p0_3 t49 (p0_3.length : Int))).bind fun t161 => Let (fun (t251 : (List (Int × Int))) => cond (p2 != 0) (cond (mayBe (t147.length + [(p1, p2)].length) 16) (cond (mayBe ((t147 ++ [(p1, p2)]).length + t251.length) 16) (some (p0_0, p0_1, p0_2, ((t147 ++ [(p1, p2)]) ++ t251))) none) none) (cond (mayBe (t147.length + t251.length) 16) (some (p0_0, p0_1, p0_2, (t147 ++ t251))) none)) (fun j254 => Let (fun (t194 : Int) => cond (t194 == (-1)) (j254 t161) ((banks_Store_put_59.l4 K p0_0 p0_1 p0_2 p0_3 p1 p2 t147 K t161 t194 (IntKind.wrap .i64 (t194 + 1))).bind (fun yx235 => cond (cutR yx235.2 (yx235.1.length : Int) yx235.1.length) (cond (cutR 0 yx235.2 (clrD yx235.1 yx235.2 (0, 0)).length) (j254 (cutL (clrD yx235.1 yx235.2 (0, 0)) 0 yx235.2)) none) none))) (fun j197 => (banks_Store_put_59.l3 K p0_0 p0_1 p0_2 p0_3 p1 p2 t161 (t161.length : Int) t147 K 0).bind (fun x187 => Lp.elim x187 (fun t191 => j197 t191) (fun _ => j197 (-1)))))) none) (fun j150 => Let (fun (t93 : Int) => cond (t93 == (-1)) (j150 t63) ((banks_Store_put_59.l2 K p0_0 p0_1 p0_2 p0_3 p1 p2 K t63 t93 (IntKind.wrap .i64 (t93 + 1))).bind (fun yx131 => cond (cutR yx131.2 (yx131.1.length : Int) yx131.1.length) (cond (cutR 0 yx131.2 (clrD yx131.1 yx131.2 (0, 0)).length) (j150 (cutL (clrD yx131.1 yx131.2 (0, 0)) 0 yx131.2)) none) none))) (fun j96 => (banks_Store_put_59.l1 K p0_0 p0_1 p0_2 p0_3 p1 p2 t63 (t63.length : Int) K 0).bind (fun x86 => Lp.elim x86 (fun t90 => j96 t90) (fun _ => j96 (-1)))))) none) (fun j52 => Let (fun (t42 : Int) => cond (decide (t42 ≥ 0)) (j52 t42) (j52 (p0_3.length : Int))) (fun j45 => (banks_Store_put_59.l0 K p0_0 p0_1 p0_2 p0_3 p1 p2 K 0).bind (fun x35 => Lp.elim x35 (fun t39 => j45 t39) (fun _ => j45 (-1)))))
set_option maxRecDepth 100000 in
theorem banks_Store_put_59_ok (K : Nat) (M0 : Nat → Prop) (w0 : World) (pA0_0 : Option Addr) (pc0_0 : Nat) (pA0_3 : Option Addr) (pc0_3 : Nat) (p0_0 : List Int) (p0_1 : Int) (p0_2 : Int) (p0_3 : List (Int × Int)) (p1 : Int) (p2 : Int) (ho : ∀ b, M0 b → b < w0.heap.size) (hs0_0 : Sl (Rp.int .u8) w0 M0 (.slice pA0_0 p0_0.length pc0_0) p0_0) (hs0_3 : Sl (Rp.pair (Rp.int .i64) (Rp.int .u8)) w0 M0 (.slice pA0_3 p0_3.length pc0_3) p0_3) {r : (List Int) × Int × Int × (List (Int × Int))} (h : banks_Store_put_59.f K p0_0 p0_1 p0_2 p0_3 p1 p2 = some r) :
    Calls Try.prog 59 #[.agg #[.slice pA0_0 p0_0.length pc0_0, .int .i64 p0_1, .int .i64 p0_2, .slice pA0_3 p0_3.length pc0_3], .int .i64 p1, .int .u8 p2] w0 (banks_Store_put_59.post M0 w0 r) := by
  unfold banks_Store_put_59.f at h
  have h0 : Holds M0 w0 w0 [] := Holds.start ho
  have h00_0 := h0.addSl (Rp.int .u8) (.slice pA0_0 p0_0.length pc0_0) p0_0 (hs0_0.mono (fun _ _ hm => hm.elim id (fun hm => absurd hm (by simp [mines, sl]))))
  have h00_3 := h00_0.addSl (Rp.pair (Rp.int .i64) (Rp.int .u8)) (.slice pA0_3 p0_3.length pc0_3) p0_3 (hs0_3.mono (fun _ _ hm => hm.elim id (fun hm => absurd hm (by simp [mines, sl]))))
  have h0 : Holds M0 w0 w0 [sl (Rp.int .u8) (.slice pA0_0 p0_0.length pc0_0) p0_0, sl (Rp.pair (Rp.int .i64) (Rp.int .u8)) (.slice pA0_3 p0_3.length pc0_3) p0_3] := h00_3
  refine calls_of F59 rfl [.agg #[.slice pA0_0 p0_0.length pc0_0, .int .i64 p0_1, .int .i64 p0_2, .slice pA0_3 p0_3.length pc0_3], .int .i64 p1, .int .u8 p2] (by kernel_rfl) ?_
  refine RunsI.go 1 [.c 1, .c 2] (by kernel_rfl) ?_
  refine RunsI.region (by kernel_rfl) ?_
  refine RegI.op (by kernel_rfl) (OpE.box 3 53 [.slice pA0_0 p0_0.length pc0_0, .int .i64 p0_1, .int .i64 p0_2, .slice pA0_3 p0_3.length pc0_3] h0 (by kernel_rfl) (by kernel_rfl) ?_)
  intro w1 b2 h3 hb4
  refine RegI.op (by kernel_rfl) (OpE.box 4 3 [.int .i64 p1] h3 (by kernel_rfl) (by kernel_rfl) ?_)
  intro w5 b6 h7 hb8
  refine RegI.op (by kernel_rfl) (OpE.box 6 53 [.slice none 0 0, .int .i64 0, .int .i64 0, .slice none 0 0] h7 (by kernel_rfl) (by kernel_rfl) ?_)
  intro w9 b10 h11 hb12
  refine RegI.done (by kernel_rfl) ?_
  refine RunsI.go 1 [.c 3, .c 4] (by kernel_rfl) ?_
  refine RunsI.region (by kernel_rfl) ?_
  refine RegI.pure 1 [2, 3, 4, 6, 11] [(2, .int .u8 p2), (3, .pointer (some ⟨b2, 0, none⟩)), (4, .pointer (some ⟨b6, 0, none⟩)), (6, .pointer (some ⟨b10, 0, none⟩)), (11, .pointer (some ⟨b2, 3, none⟩))] (by kernel_rfl) ?_
  refine RegI.op (by kernel_rfl) (OpE.loadBox 12 2 51 b2 3 (.slice pA0_3 p0_3.length pc0_3) h11 (by kernel_rfl) (by kernel_rfl) rfl (by kernel_rfl) ?_)
  refine RegI.pure 1 [2, 3, 4, 6, 12, 13] [(2, .int .u8 p2), (3, .pointer (some ⟨b2, 0, none⟩)), (4, .pointer (some ⟨b6, 0, none⟩)), (6, .pointer (some ⟨b10, 0, none⟩)), (12, .slice pA0_3 p0_3.length pc0_3), (13, .func (.func 62) #[] #[.pointer (some ⟨b6, 0, none⟩)])] (by kernel_rfl) ?_
  refine RegI.enter 14 [2, 3, 4, 6] [(2, .int .u8 p2), (3, .pointer (some ⟨b2, 0, none⟩)), (4, .pointer (some ⟨b6, 0, none⟩)), (6, .pointer (some ⟨b10, 0, none⟩))] (by kernel_rfl) (by kernel_rfl) (by kernel_rfl) (by kernel_rfl) F53 53 rfl [.slice pA0_3 p0_3.length pc0_3, .func (.func 62) #[] #[.pointer (some ⟨b6, 0, none⟩)]] (by kernel_rfl) (by kernel_rfl) ?_
  obtain ⟨j52, hJ53, h⟩ := of_let h
  have hj54 : ∀ (t49 : Int) (w51 : World), j52 t49 = some r → Holds M0 w0 w51 [box b2 53 [.slice pA0_0 p0_0.length pc0_0, .int .i64 p0_1, .int .i64 p0_2, .slice pA0_3 p0_3.length pc0_3], sl (Rp.int .u8) (.slice pA0_0 p0_0.length pc0_0) p0_0, sl (Rp.pair (Rp.int .i64) (Rp.int .u8)) (.slice pA0_3 p0_3.length pc0_3) p0_3, box b6 3 [.int .i64 p1], box b10 53 [.slice none 0 0, .int .i64 0, .int .i64 0, .slice none 0 0]] → RegI F59 3 [.c 4] 4 [(2, .int .u8 p2), (3, .pointer (some ⟨b2, 0, none⟩)), (4, .pointer (some ⟨b6, 0, none⟩)), (6, .pointer (some ⟨b10, 0, none⟩)), (14, .int .i64 t49)] w51 (banks_Store_put_59.post M0 w0 r) := by
    intro t49 w51 h h50
    rw [hJ53] at h
    clear hJ53
    dsimp only at h
    refine RegI.pure 1 [2, 3, 4, 6, 7] [(2, .int .u8 p2), (3, .pointer (some ⟨b2, 0, none⟩)), (4, .pointer (some ⟨b6, 0, none⟩)), (6, .pointer (some ⟨b10, 0, none⟩)), (7, .int .i64 t49)] (by kernel_rfl) ?_
    refine RegI.done (by kernel_rfl) ?_
    refine RunsI.go 1 [.c 5, .c 6] (by kernel_rfl) ?_
    refine RunsI.region (by kernel_rfl) ?_
    refine RegI.pure 2 [2, 3, 4, 6, 7, 8] [(2, .int .u8 p2), (3, .pointer (some ⟨b2, 0, none⟩)), (4, .pointer (some ⟨b6, 0, none⟩)), (6, .pointer (some ⟨b10, 0, none⟩)), (7, .int .i64 t49), (8, .func (.func 64) #[] #[.pointer (some ⟨b6, 0, none⟩)])] (by kernel_rfl) ?_
    refine RegI.done (by kernel_rfl) ?_
    refine RunsI.go 1 [.c 7, .c 8] (by kernel_rfl) ?_
    refine RunsI.region (by kernel_rfl) ?_
    refine RegI.pure 1 [2, 3, 4, 6, 7, 8, 16] [(2, .int .u8 p2), (3, .pointer (some ⟨b2, 0, none⟩)), (4, .pointer (some ⟨b6, 0, none⟩)), (6, .pointer (some ⟨b10, 0, none⟩)), (7, .int .i64 t49), (8, .func (.func 64) #[] #[.pointer (some ⟨b6, 0, none⟩)]), (16, .pointer (some ⟨b2, 3, none⟩))] (by kernel_rfl) ?_
    refine RegI.op (by kernel_rfl) (OpE.loadBox 17 0 51 b2 3 (.slice pA0_3 p0_3.length pc0_3) h50 (by kernel_rfl) (by kernel_rfl) rfl (by kernel_rfl) ?_)
    refine RegI.pure 1 [2, 3, 4, 6, 7, 8, 17, 18] [(2, .int .u8 p2), (3, .pointer (some ⟨b2, 0, none⟩)), (4, .pointer (some ⟨b6, 0, none⟩)), (6, .pointer (some ⟨b10, 0, none⟩)), (7, .int .i64 t49), (8, .func (.func 64) #[] #[.pointer (some ⟨b6, 0, none⟩)]), (17, .slice pA0_3 p0_3.length pc0_3), (18, .int .i64 t49)] (by kernel_rfl) ?_
    obtain ⟨hc55, h⟩ := of_cond0 h
    refine RegI.op (by kernel_rfl) (OpE.cutSl 19 2 51 none (some t49) h50 (by kernel_rfl) rfl (by kernel_rfl) (by kernel_rfl) hc55 ?_)
    intro A56 c57 h58
    obtain ⟨t63, hg62, h⟩ := of_bind h
    refine RegI.op (by kernel_rfl) (OpE.call 20 (by kernel_rfl) 66 #[.slice A56 ((cutL p0_3 0 t49).length) c57] (by kernel_rfl) ((banks_Spot_66_ok K _ w51  A56 c57 (cutL p0_3 0 t49) h58.old' (h58.get 5 rfl) hg62).mono ?_))
    rintro _ w59 ⟨A64, c65, rfl, hr67⟩
    refine ⟨_, rfl, ?_⟩
    have hb60 := hr67.below
    have h61 := h58.join hr67
    refine RegI.pure 1 [2, 3, 4, 6, 7, 8, 20, 21] [(2, .int .u8 p2), (3, .pointer (some ⟨b2, 0, none⟩)), (4, .pointer (some ⟨b6, 0, none⟩)), (6, .pointer (some ⟨b10, 0, none⟩)), (7, .int .i64 t49), (8, .func (.func 64) #[] #[.pointer (some ⟨b6, 0, none⟩)]), (20, .slice A64 t63.length c65), (21, .func (.func 64) #[] #[.pointer (some ⟨b6, 0, none⟩)])] (by kernel_rfl) ?_
    refine RegI.enter 22 [2, 3, 4, 6, 7, 8] [(2, .int .u8 p2), (3, .pointer (some ⟨b2, 0, none⟩)), (4, .pointer (some ⟨b6, 0, none⟩)), (6, .pointer (some ⟨b10, 0, none⟩)), (7, .int .i64 t49), (8, .func (.func 64) #[] #[.pointer (some ⟨b6, 0, none⟩)])] (by kernel_rfl) (by kernel_rfl) (by kernel_rfl) (by kernel_rfl) F65 65 rfl [.slice A64 t63.length c65, .func (.func 64) #[] #[.pointer (some ⟨b6, 0, none⟩)]] (by kernel_rfl) (by kernel_rfl) ?_
    obtain ⟨j150, hJ151, h⟩ := of_let h
    have hj152 : ∀ (t147 : List (Int × Int)) (A145 : Option Addr) (c146 : Nat) (w149 : World), j150 t147 = some r → Holds M0 w0 w149 [box b2 53 [.slice pA0_0 p0_0.length pc0_0, .int .i64 p0_1, .int .i64 p0_2, .slice pA0_3 p0_3.length pc0_3], sl (Rp.int .u8) (.slice pA0_0 p0_0.length pc0_0) p0_0, sl (Rp.pair (Rp.int .i64) (Rp.int .u8)) (.slice pA0_3 p0_3.length pc0_3) p0_3, box b6 3 [.int .i64 p1], box b10 53 [.slice none 0 0, .int .i64 0, .int .i64 0, .slice none 0 0], own (Rp.pair (Rp.int .i64) (Rp.int .u8)) 87 (.slice A145 t147.length c146) t147] → RegI F59 7 [.c 8] 7 [(2, .int .u8 p2), (3, .pointer (some ⟨b2, 0, none⟩)), (4, .pointer (some ⟨b6, 0, none⟩)), (6, .pointer (some ⟨b10, 0, none⟩)), (7, .int .i64 t49), (8, .func (.func 64) #[] #[.pointer (some ⟨b6, 0, none⟩)]), (22, .slice A145 t147.length c146)] w149 (banks_Store_put_59.post M0 w0 r) := by
      intro t147 A145 c146 w149 h h148
      rw [hJ151] at h
      clear hJ151
      dsimp only at h
      refine RegI.pure 1 [2, 3, 4, 6, 7, 8, 9] [(2, .int .u8 p2), (3, .pointer (some ⟨b2, 0, none⟩)), (4, .pointer (some ⟨b6, 0, none⟩)), (6, .pointer (some ⟨b10, 0, none⟩)), (7, .int .i64 t49), (8, .func (.func 64) #[] #[.pointer (some ⟨b6, 0, none⟩)]), (9, .slice A145 t147.length c146)] (by kernel_rfl) ?_
      refine RegI.done (by kernel_rfl) ?_
      refine RunsI.go 1 [.c 9, .c 10] (by kernel_rfl) ?_
      refine RunsI.region (by kernel_rfl) ?_
      refine RegI.pure 1 [2, 3, 4, 6, 7, 8, 9, 23] [(2, .int .u8 p2), (3, .pointer (some ⟨b2, 0, none⟩)), (4, .pointer (some ⟨b6, 0, none⟩)), (6, .pointer (some ⟨b10, 0, none⟩)), (7, .int .i64 t49), (8, .func (.func 64) #[] #[.pointer (some ⟨b6, 0, none⟩)]), (9, .slice A145 t147.length c146), (23, .pointer (some ⟨b2, 3, none⟩))] (by kernel_rfl) ?_
      refine RegI.op (by kernel_rfl) (OpE.loadBox 24 0 51 b2 3 (.slice pA0_3 p0_3.length pc0_3) h148 (by kernel_rfl) (by kernel_rfl) rfl (by kernel_rfl) ?_)
      refine RegI.pure 1 [2, 3, 4, 6, 8, 9, 24, 25] [(2, .int .u8 p2), (3, .pointer (some ⟨b2, 0, none⟩)), (4, .pointer (some ⟨b6, 0, none⟩)), (6, .pointer (some ⟨b10, 0, none⟩)), (8, .func (.func 64) #[] #[.pointer (some ⟨b6, 0, none⟩)]), (9, .slice A145 t147.length c146), (24, .slice pA0_3 p0_3.length pc0_3), (25, .int .i64 t49)] (by kernel_rfl) ?_
      obtain ⟨hc153, h⟩ := of_cond0 h
      refine RegI.op (by kernel_rfl) (OpE.cutSl 26 2 51 (some t49) none h148 (by kernel_rfl) rfl (by kernel_rfl) (by kernel_rfl) hc153 ?_)
      intro A154 c155 h156
      obtain ⟨t161, hg160, h⟩ := of_bind h
      refine RegI.op (by kernel_rfl) (OpE.call 27 (by kernel_rfl) 66 #[.slice A154 ((cutL p0_3 t49 (p0_3.length : Int)).length) c155] (by kernel_rfl) ((banks_Spot_66_ok K _ w149  A154 c155 (cutL p0_3 t49 (p0_3.length : Int)) h156.old' (h156.get 6 rfl) hg160).mono ?_))
      rintro _ w157 ⟨A162, c163, rfl, hr165⟩
      refine ⟨_, rfl, ?_⟩
      have hb158 := hr165.below
      have h159 := h156.join hr165
      refine RegI.pure 1 [2, 3, 4, 6, 9, 27, 28] [(2, .int .u8 p2), (3, .pointer (some ⟨b2, 0, none⟩)), (4, .pointer (some ⟨b6, 0, none⟩)), (6, .pointer (some ⟨b10, 0, none⟩)), (9, .slice A145 t147.length c146), (27, .slice A162 t161.length c163), (28, .func (.func 64) #[] #[.pointer (some ⟨b6, 0, none⟩)])] (by kernel_rfl) ?_
      refine RegI.enter 29 [2, 3, 4, 6, 9] [(2, .int .u8 p2), (3, .pointer (some ⟨b2, 0, none⟩)), (4, .pointer (some ⟨b6, 0, none⟩)), (6, .pointer (some ⟨b10, 0, none⟩)), (9, .slice A145 t147.length c146)] (by kernel_rfl) (by kernel_rfl) (by kernel_rfl) (by kernel_rfl) F65 65 rfl [.slice A162 t161.length c163, .func (.func 64) #[] #[.pointer (some ⟨b6, 0, none⟩)]] (by kernel_rfl) (by kernel_rfl) ?_
      obtain ⟨j254, hJ255, h⟩ := of_let h
      have hj256 : ∀ (t251 : List (Int × Int)) (A249 : Option Addr) (c250 : Nat) (w253 : World), j254 t251 = some r → Holds M0 w0 w253 [box b2 53 [.slice pA0_0 p0_0.length pc0_0, .int .i64 p0_1, .int .i64 p0_2, .slice pA0_3 p0_3.length pc0_3], sl (Rp.int .u8) (.slice pA0_0 p0_0.length pc0_0) p0_0, sl (Rp.pair (Rp.int .i64) (Rp.int .u8)) (.slice pA0_3 p0_3.length pc0_3) p0_3, box b6 3 [.int .i64 p1], box b10 53 [.slice none 0 0, .int .i64 0, .int .i64 0, .slice none 0 0], own (Rp.pair (Rp.int .i64) (Rp.int .u8)) 87 (.slice A145 t147.length c146) t147, own (Rp.pair (Rp.int .i64) (Rp.int .u8)) 87 (.slice A249 t251.length c250) t251] → RegI F59 9 [.c 10] 7 [(2, .int .u8 p2), (3, .pointer (some ⟨b2, 0, none⟩)), (4, .pointer (some ⟨b6, 0, none⟩)), (6, .pointer (some ⟨b10, 0, none⟩)), (9, .slice A145 t147.length c146), (29, .slice A249 t251.length c250)] w253 (banks_Store_put_59.post M0 w0 r) := by
        intro t251 A249 c250 w253 h h252
        rw [hJ255] at h
        clear hJ255
        dsimp only at h
        refine RegI.pure 1 [2, 3, 4, 6, 9, 10] [(2, .int .u8 p2), (3, .pointer (some ⟨b2, 0, none⟩)), (4, .pointer (some ⟨b6, 0, none⟩)), (6, .pointer (some ⟨b10, 0, none⟩)), (9, .slice A145 t147.length c146), (10, .slice A249 t251.length c250)] (by kernel_rfl) ?_
        refine RegI.done (by kernel_rfl) ?_
        refine RunsI.go 2 [.c 12, .c 13, .c 16] (by kernel_rfl) ?_
        refine RunsI.region (by kernel_rfl) ?_
        refine RegI.pure 2 [2, 3, 4, 6, 9, 10, 31] [(2, .int .u8 p2), (3, .pointer (some ⟨b2, 0, none⟩)), (4, .pointer (some ⟨b6, 0, none⟩)), (6, .pointer (some ⟨b10, 0, none⟩)), (9, .slice A145 t147.length c146), (10, .slice A249 t251.length c250), (31, .bool (p2 != 0))] (by kernel_rfl) ?_
        refine RegI.done (by kernel_rfl) ?_
        rcases of_cond h with ⟨hc257, h⟩ | ⟨hc257, h⟩
        · skip
          refine RunsI.fix 31 true hc257 (by kernel_rfl) (by kernel_rfl) ?_
          refine RunsI.cond true 14 (by kernel_rfl) ?_
          refine RunsI.region (by kernel_rfl) ?_
          refine RegI.pure 1 [2, 3, 4, 6, 10, 32] [(2, .int .u8 p2), (3, .pointer (some ⟨b2, 0, none⟩)), (4, .pointer (some ⟨b6, 0, none⟩)), (6, .pointer (some ⟨b10, 0, none⟩)), (10, .slice A249 t251.length c250), (32, .slice A145 t147.length c146)] (by kernel_rfl) ?_
          refine RegI.op (by kernel_rfl) (OpE.loadBox 33 3 3 b6 0 (.int .i64 p1) h252 (by kernel_rfl) (by kernel_rfl) rfl (by kernel_rfl) ?_)
          refine RegI.pure 2 [3, 6, 10, 32, 35] [(3, .pointer (some ⟨b2, 0, none⟩)), (6, .pointer (some ⟨b10, 0, none⟩)), (10, .slice A249 t251.length c250), (32, .slice A145 t147.length c146), (35, .agg #[.int .i64 p1, .int .u8 p2])] (by kernel_rfl) ?_
          refine RegI.op (by kernel_rfl) (OpE.lit 36 87 [.int .i64 p1, .int .u8 p2] 1 h252 (by kernel_rfl) (by kernel_rfl) ?_)
          intro w258 b259 h260 hb261
          obtain ⟨hc262, h⟩ := of_cond0 h
          refine RegI.op (by kernel_rfl) (OpE.appendBox 37 5 7 51 87 16 [(p1, p2)] 0 h260 (by kernel_rfl) (by kernel_rfl) (by kernel_rfl) rfl rfl rfl (⟨[_, _], _, rfl, ⟨[_], [_], rfl, rfl, rfl⟩, rfl⟩) hc262 ?_)
          intro w263 A264 c265 h266 hk267
          refine RegI.pure 1 [3, 6, 9, 10] [(3, .pointer (some ⟨b2, 0, none⟩)), (6, .pointer (some ⟨b10, 0, none⟩)), (9, .slice A264 ((t147 ++ [(p1, p2)]).length) c265), (10, .slice A249 t251.length c250)] (by kernel_rfl) ?_
          refine RegI.done (by kernel_rfl) ?_
          refine RunsI.go 1 [.c 17, .c 18] (by kernel_rfl) ?_
          refine RunsI.region (by kernel_rfl) ?_
          refine RegI.pure 2 [3, 6, 38, 39] [(3, .pointer (some ⟨b2, 0, none⟩)), (6, .pointer (some ⟨b10, 0, none⟩)), (38, .slice A264 ((t147 ++ [(p1, p2)]).length) c265), (39, .slice A249 t251.length c250)] (by kernel_rfl) ?_
          obtain ⟨hc268, h⟩ := of_cond0 h
          refine RegI.op (by kernel_rfl) (OpE.appendRow 40 5 51 87 16 (ys := t251) h266 (by kernel_rfl) (by kernel_rfl) (by kernel_rfl) rfl (h266.rdOwn 6 rfl) hc268 ?_)
          intro w269 A270 c271 h272 hk273
          refine RegI.pure 1 [3, 6, 40, 41] [(3, .pointer (some ⟨b2, 0, none⟩)), (6, .pointer (some ⟨b10, 0, none⟩)), (40, .slice A270 (((t147 ++ [(p1, p2)]) ++ t251).length) c271), (41, .pointer (some ⟨b2, 3, none⟩))] (by kernel_rfl) ?_
          refine RegI.op (by kernel_rfl) (OpE.storeBox 0 51 b2 3 (.slice A270 (((t147 ++ [(p1, p2)]) ++ t251).length) c271) [.slice pA0_0 p0_0.length pc0_0, .int .i64 p0_1, .int .i64 p0_2, .slice A270 (((t147 ++ [(p1, p2)]) ++ t251).length) c271] h272 (by kernel_rfl) (by kernel_rfl) rfl (by kernel_rfl) (by kernel_rfl) (by kernel_rfl) ?_)
          intro w274 h275 hk276
          refine RegI.done (by kernel_rfl) ?_
          refine RunsI.go 1 [.c 19, .c 20] (by kernel_rfl) ?_
          refine RunsI.region (by kernel_rfl) ?_
          refine RegI.op (by kernel_rfl) (OpE.loadBox 42 0 53 b2 0 (.agg #[.slice pA0_0 p0_0.length pc0_0, .int .i64 p0_1, .int .i64 p0_2, .slice A270 (((t147 ++ [(p1, p2)]) ++ t251).length) c271]) h275 (by kernel_rfl) (by kernel_rfl) rfl (by kernel_rfl) ?_)
          refine RegI.op (by kernel_rfl) (OpE.storeBox 4 53 b10 0 (.agg #[.slice pA0_0 p0_0.length pc0_0, .int .i64 p0_1, .int .i64 p0_2, .slice A270 (((t147 ++ [(p1, p2)]) ++ t251).length) c271]) [.slice pA0_0 p0_0.length pc0_0, .int .i64 p0_1, .int .i64 p0_2, .slice A270 (((t147 ++ [(p1, p2)]) ++ t251).length) c271] h275 (by kernel_rfl) (by kernel_rfl) rfl (by kernel_rfl) (by kernel_rfl) (by kernel_rfl) ?_)
          intro w277 h278 hk279
          refine RegI.done (by kernel_rfl) ?_
          refine RunsI.retW [.cell 6 53] [.agg #[.slice pA0_0 p0_0.length pc0_0, .int .i64 p0_1, .int .i64 p0_2, .slice A270 (((t147 ++ [(p1, p2)]) ++ t251).length) c271]] (.agg #[.slice pA0_0 p0_0.length pc0_0, .int .i64 p0_1, .int .i64 p0_2, .slice A270 (((t147 ++ [(p1, p2)]) ++ t251).length) c271]) (by kernel_rfl) (by kernel_rfl) (ResAt.box 4 53 b10 0 h278 (by kernel_rfl) (by kernel_rfl) rfl (by kernel_rfl) rfl) (by kernel_rfl) ?_
          obtain rfl := Option.some.inj h
          exact ⟨pA0_0, pc0_0, A270, c271, rfl, h278.pick [1, 5] (by decide)⟩
        · skip
          refine RunsI.fix 31 false hc257 (by kernel_rfl) (by kernel_rfl) ?_
          refine RunsI.cond false 15 (by kernel_rfl) ?_
          refine RunsI.go 1 [.c 16] (by kernel_rfl) ?_
          refine RunsI.go 1 [.c 17, .c 18] (by kernel_rfl) ?_
          refine RunsI.region (by kernel_rfl) ?_
          refine RegI.pure 2 [3, 6, 38, 39] [(3, .pointer (some ⟨b2, 0, none⟩)), (6, .pointer (some ⟨b10, 0, none⟩)), (38, .slice A145 t147.length c146), (39, .slice A249 t251.length c250)] (by kernel_rfl) ?_
          obtain ⟨hc280, h⟩ := of_cond0 h
          refine RegI.op (by kernel_rfl) (OpE.appendRow 40 5 51 87 16 (ys := t251) h252 (by kernel_rfl) (by kernel_rfl) (by kernel_rfl) rfl (h252.rdOwn 6 rfl) hc280 ?_)
          intro w281 A282 c283 h284 hk285
          refine RegI.pure 1 [3, 6, 40, 41] [(3, .pointer (some ⟨b2, 0, none⟩)), (6, .pointer (some ⟨b10, 0, none⟩)), (40, .slice A282 ((t147 ++ t251).length) c283), (41, .pointer (some ⟨b2, 3, none⟩))] (by kernel_rfl) ?_
          refine RegI.op (by kernel_rfl) (OpE.storeBox 0 51 b2 3 (.slice A282 ((t147 ++ t251).length) c283) [.slice pA0_0 p0_0.length pc0_0, .int .i64 p0_1, .int .i64 p0_2, .slice A282 ((t147 ++ t251).length) c283] h284 (by kernel_rfl) (by kernel_rfl) rfl (by kernel_rfl) (by kernel_rfl) (by kernel_rfl) ?_)
          intro w286 h287 hk288
          refine RegI.done (by kernel_rfl) ?_
          refine RunsI.go 1 [.c 19, .c 20] (by kernel_rfl) ?_
          refine RunsI.region (by kernel_rfl) ?_
          refine RegI.op (by kernel_rfl) (OpE.loadBox 42 0 53 b2 0 (.agg #[.slice pA0_0 p0_0.length pc0_0, .int .i64 p0_1, .int .i64 p0_2, .slice A282 ((t147 ++ t251).length) c283]) h287 (by kernel_rfl) (by kernel_rfl) rfl (by kernel_rfl) ?_)
          refine RegI.op (by kernel_rfl) (OpE.storeBox 4 53 b10 0 (.agg #[.slice pA0_0 p0_0.length pc0_0, .int .i64 p0_1, .int .i64 p0_2, .slice A282 ((t147 ++ t251).length) c283]) [.slice pA0_0 p0_0.length pc0_0, .int .i64 p0_1, .int .i64 p0_2, .slice A282 ((t147 ++ t251).length) c283] h287 (by kernel_rfl) (by kernel_rfl) rfl (by kernel_rfl) (by kernel_rfl) (by kernel_rfl) ?_)
          intro w289 h290 hk291
          refine RegI.done (by kernel_rfl) ?_
          refine RunsI.retW [.cell 6 53] [.agg #[.slice pA0_0 p0_0.length pc0_0, .int .i64 p0_1, .int .i64 p0_2, .slice A282 ((t147 ++ t251).length) c283]] (.agg #[.slice pA0_0 p0_0.length pc0_0, .int .i64 p0_1, .int .i64 p0_2, .slice A282 ((t147 ++ t251).length) c283]) (by kernel_rfl) (by kernel_rfl) (ResAt.box 4 53 b10 0 h290 (by kernel_rfl) (by kernel_rfl) rfl (by kernel_rfl) rfl) (by kernel_rfl) ?_
          obtain rfl := Option.some.inj h
          exact ⟨pA0_0, pc0_0, A282, c283, rfl, h290.pick [1, 5] (by decide)⟩
      clear hJ255
      refine RunsI.go 1 [.c 1, .c 2] (by kernel_rfl) ?_
      refine RunsI.region (by kernel_rfl) ?_
      refine RegI.pure 1 [0, 1] [(0, .slice A162 t161.length c163), (1, .func (.func 64) #[] #[.pointer (some ⟨b6, 0, none⟩)])] (by kernel_rfl) ?_
      refine RegI.done (by kernel_rfl) ?_
      refine RunsI.go 1 [.c 3, .c 4] (by kernel_rfl) ?_
      refine RunsI.region (by kernel_rfl) ?_
      refine RegI.pure 2 [0, 1, 8, 9] [(0, .slice A162 t161.length c163), (1, .func (.func 64) #[] #[.pointer (some ⟨b6, 0, none⟩)]), (8, .slice A162 t161.length c163), (9, .func (.func 64) #[] #[.pointer (some ⟨b6, 0, none⟩)])] (by kernel_rfl) ?_
      refine RegI.enter 10 [0, 1] [(0, .slice A162 t161.length c163), (1, .func (.func 64) #[] #[.pointer (some ⟨b6, 0, none⟩)])] (by kernel_rfl) (by kernel_rfl) (by kernel_rfl) (by kernel_rfl) F61 61 rfl [.slice A162 t161.length c163, .func (.func 64) #[] #[.pointer (some ⟨b6, 0, none⟩)]] (by kernel_rfl) (by kernel_rfl) ?_
      obtain ⟨j197, hJ198, h⟩ := of_let h
      have hj199 : ∀ (t194 : Int) (w196 : World), j197 t194 = some r → Holds M0 w0 w196 [own (Rp.pair (Rp.int .i64) (Rp.int .u8)) 87 (.slice A162 t161.length c163) t161, box b6 3 [.int .i64 p1], box b2 53 [.slice pA0_0 p0_0.length pc0_0, .int .i64 p0_1, .int .i64 p0_2, .slice pA0_3 p0_3.length pc0_3], sl (Rp.int .u8) (.slice pA0_0 p0_0.length pc0_0) p0_0, sl (Rp.pair (Rp.int .i64) (Rp.int .u8)) (.slice pA0_3 p0_3.length pc0_3) p0_3, box b10 53 [.slice none 0 0, .int .i64 0, .int .i64 0, .slice none 0 0], own (Rp.pair (Rp.int .i64) (Rp.int .u8)) 87 (.slice A145 t147.length c146) t147] → RegI F65 3 [.c 4] 3 [(0, .slice A162 t161.length c163), (1, .func (.func 64) #[] #[.pointer (some ⟨b6, 0, none⟩)]), (10, .int .i64 t194)] w196 (cont (fun e' w' => RegI F59 9 [.c 10] 7 e' w' (banks_Store_put_59.post M0 w0 r)) 29 [(2, .int .u8 p2), (3, .pointer (some ⟨b2, 0, none⟩)), (4, .pointer (some ⟨b6, 0, none⟩)), (6, .pointer (some ⟨b10, 0, none⟩)), (9, .slice A145 t147.length c146)]) := by
        intro t194 w196 h h195
        rw [hJ198] at h
        clear hJ198
        dsimp only at h
        refine RegI.pure 1 [0, 1, 5] [(0, .slice A162 t161.length c163), (1, .func (.func 64) #[] #[.pointer (some ⟨b6, 0, none⟩)]), (5, .int .i64 t194)] (by kernel_rfl) ?_
        refine RegI.done (by kernel_rfl) ?_
        refine RunsI.go 2 [.c 6, .c 7, .c 12] (by kernel_rfl) ?_
        refine RunsI.region (by kernel_rfl) ?_
        refine RegI.pure 2 [0, 1, 5, 12] [(0, .slice A162 t161.length c163), (1, .func (.func 64) #[] #[.pointer (some ⟨b6, 0, none⟩)]), (5, .int .i64 t194), (12, .bool (t194 == (-1)))] (by kernel_rfl) ?_
        refine RegI.done (by kernel_rfl) ?_
        rcases of_cond h with ⟨hc200, h⟩ | ⟨hc200, h⟩
        · skip
          refine RunsI.fix 12 true hc200 (by kernel_rfl) (by kernel_rfl) ?_
          refine RunsI.cond true 8 (by kernel_rfl) ?_
          refine RunsI.go 1 [.c 9, .c 10, .c 12] (by kernel_rfl) ?_
          refine RunsI.region (by kernel_rfl) ?_
          refine RegI.pure 2 [4] [(4, .slice A162 t161.length c163)] (by kernel_rfl) ?_
          refine RegI.done (by kernel_rfl) ?_
          refine RunsI.ret (.slice A162 t161.length c163) (by kernel_rfl) (by kernel_rfl) ?_
          refine cont_mk ?_
          refine RegI.only [2, 3, 4, 6, 9, 29] [(2, .int .u8 p2), (3, .pointer (some ⟨b2, 0, none⟩)), (4, .pointer (some ⟨b6, 0, none⟩)), (6, .pointer (some ⟨b10, 0, none⟩)), (9, .slice A145 t147.length c146), (29, .slice A162 t161.length c163)] (by kernel_rfl) (by kernel_rfl) ?_
          exact hj256 t161 A162 c163 w196 h (h195.pick [2, 3, 4, 1, 5, 6, 0] (by decide))
        · skip
          refine RunsI.fix 12 false hc200 (by kernel_rfl) (by kernel_rfl) ?_
          refine RunsI.cond false 11 (by kernel_rfl) ?_
          refine RunsI.go 1 [.c 12] (by kernel_rfl) ?_
          refine RunsI.go 2 [.c 14, .c 15, .c 35] (by kernel_rfl) ?_
          refine RunsI.region (by kernel_rfl) ?_
          refine RegI.pure 3 [0, 1, 5, 6] [(0, .slice A162 t161.length c163), (1, .func (.func 64) #[] #[.pointer (some ⟨b6, 0, none⟩)]), (5, .int .i64 t194), (6, .int .i64 (IntKind.wrap .i64 (t194 + 1)))] (by kernel_rfl) ?_
          refine RegI.done (by kernel_rfl) ?_
          refine RunsI.go 2 [.c 17, .lp 17, .blk 0, .c 35] (by kernel_rfl) ?_
          obtain ⟨x235, hx236, h⟩ := of_bind h
          refine RunsI.only [0, 1, 5, 6] [(0, .slice A162 t161.length c163), (1, .func (.func 64) #[] #[.pointer (some ⟨b6, 0, none⟩)]), (5, .int .i64 t194), (6, .int .i64 (IntKind.wrap .i64 (t194 + 1)))] (by kernel_rfl) (by kernel_rfl) ?_
          refine banks_Store_put_59.l4_ok K M0 w0 pA0_0 pc0_0 pA0_3 pc0_3 p0_0 p0_1 p0_2 p0_3 p1 p2 t147 A162 c163 b6 b2 b10 A145 c146 _ x235 ?_ K t161 t194 (IntKind.wrap .i64 (t194 + 1)) w196 hx236 (h195.pick [0, 1, 2, 3, 4, 5, 6] (by decide))
          · intro t237 t238 w240 hq292 h239
            (try rw [hq292] at h)
            dsimp only at h
            refine RunsI.go 1 [.c 36, .c 37] (by kernel_rfl) ?_
            refine RunsI.region (by kernel_rfl) ?_
            refine RegI.pure 2 [0, 5, 36, 37] [(0, .slice A162 t237.length c163), (5, .int .i64 t238), (36, .slice A162 t237.length c163), (37, .int .i64 t238)] (by kernel_rfl) ?_
            obtain ⟨hc241, h⟩ := of_cond0 h
            refine RegI.op (by kernel_rfl) (OpE.cutView 38 0 51 87 t238 h239 (by kernel_rfl) rfl (by kernel_rfl) (by kernel_rfl) hc241 ?_)
            refine RegI.op (by kernel_rfl) (OpE.clearEnd 0 51 87 t238 16 [.int .i64 0, .int .u8 0] (Rp.pair (Rp.int .i64) (Rp.int .u8)) (0, 0) h239 (by kernel_rfl) rfl (by kernel_rfl) (by kernel_rfl) (by kernel_rfl) (fun _ _ => ⟨[_], [_], rfl, rfl, rfl⟩) hc241 ?_)
            intro w242 h243 hk244
            refine RegI.done (by kernel_rfl) ?_
            refine RunsI.go 1 [.c 38, .c 39] (by kernel_rfl) ?_
            refine RunsI.region (by kernel_rfl) ?_
            refine RegI.pure 2 [39, 40] [(39, .slice A162 t237.length c163), (40, .int .i64 t238)] (by kernel_rfl) ?_
            obtain ⟨hc245, h⟩ := of_cond0 h
            refine RegI.op (by kernel_rfl) (OpE.cutOwn 41 0 51 87 (some t238) h243 (by kernel_rfl) rfl (by kernel_rfl) (by kernel_rfl) hc245 ?_)
            intro A246 c247 h248
            refine RegI.pure 1 [4] [(4, .slice A246 ((cutL (clrD t237 t238 (0, 0)) 0 t238).length) c247)] (by kernel_rfl) ?_
            refine RegI.done (by kernel_rfl) ?_
            refine RunsI.ret (.slice A246 ((cutL (clrD t237 t238 (0, 0)) 0 t238).length) c247) (by kernel_rfl) (by kernel_rfl) ?_
            refine cont_mk ?_
            refine RegI.only [2, 3, 4, 6, 9, 29] [(2, .int .u8 p2), (3, .pointer (some ⟨b2, 0, none⟩)), (4, .pointer (some ⟨b6, 0, none⟩)), (6, .pointer (some ⟨b10, 0, none⟩)), (9, .slice A145 t147.length c146), (29, .slice A246 ((cutL (clrD t237 t238 (0, 0)) 0 t238).length) c247)] (by kernel_rfl) (by kernel_rfl) ?_
            exact hj256 (cutL (clrD t237 t238 (0, 0)) 0 t238) A246 c247 w242 h (h248.pick [1, 2, 3, 4, 5, 6, 0] (by decide))
      clear hJ198
      refine RunsI.go 1 [.c 1, .c 2] (by kernel_rfl) ?_
      refine RunsI.region (by kernel_rfl) ?_
      refine RegI.pure 1 [0, 1] [(0, .slice A162 t161.length c163), (1, .func (.func 64) #[] #[.pointer (some ⟨b6, 0, none⟩)])] (by kernel_rfl) ?_
      refine RegI.done (by kernel_rfl) ?_
      refine RunsI.go 2 [.c 4, .c 5, .c 25] (by kernel_rfl) ?_
      refine RunsI.region (by kernel_rfl) ?_
      refine RegI.pure 3 [0, 1, 7, 8] [(0, .slice A162 t161.length c163), (1, .func (.func 64) #[] #[.pointer (some ⟨b6, 0, none⟩)]), (7, .int .i64 (t161.length : Int)), (8, .int .i64 0)] (by kernel_rfl) ?_
      refine RegI.done (by kernel_rfl) ?_
      refine RunsI.go 2 [.c 7, .lp 7, .blk 0, .c 25] (by kernel_rfl) ?_
      obtain ⟨x187, hx188, h⟩ := of_bind h
      refine RunsI.only [0, 1, 7, 8] [(0, .slice A162 t161.length c163), (1, .func (.func 64) #[] #[.pointer (some ⟨b6, 0, none⟩)]), (7, .int .i64 (t161.length : Int)), (8, .int .i64 0)] (by kernel_rfl) (by kernel_rfl) ?_
      refine banks_Store_put_59.l3_ok K M0 w0 pA0_0 pc0_0 pA0_3 pc0_3 p0_0 p0_1 p0_2 p0_3 p1 p2 t161 (t161.length : Int) t147 A162 c163 b6 b2 b10 A145 c146 _ x187 ?_ ?_ K 0 w157 hx188 (h159.pick [7, 3, 0, 1, 2, 4, 5] (by decide))
      · intro w190 hq293 h189
        (try rw [hq293] at h)
        dsimp only [Lp.elim] at h
        refine RunsI.go 1 [.c 26, .c 27] (by kernel_rfl) ?_
        refine RunsI.region (by kernel_rfl) ?_
        refine RegI.pure 1 [4] [(4, .int .i64 (-1))] (by kernel_rfl) ?_
        refine RegI.done (by kernel_rfl) ?_
        refine RunsI.ret (.int .i64 (-1)) (by kernel_rfl) (by kernel_rfl) ?_
        refine cont_mk ?_
        refine RegI.only [0, 1, 10] [(0, .slice A162 t161.length c163), (1, .func (.func 64) #[] #[.pointer (some ⟨b6, 0, none⟩)]), (10, .int .i64 (-1))] (by kernel_rfl) (by kernel_rfl) ?_
        exact hj199 (-1) w190 h (h189.pick [6, 3, 0, 1, 2, 4, 5] (by decide))
      · intro t191 w193 hq294 h192
        (try rw [hq294] at h)
        dsimp only [Lp.elim] at h
        refine cont_mk ?_
        refine RegI.only [0, 1, 10] [(0, .slice A162 t161.length c163), (1, .func (.func 64) #[] #[.pointer (some ⟨b6, 0, none⟩)]), (10, .int .i64 t191)] (by kernel_rfl) (by kernel_rfl) ?_
        exact hj199 t191 w193 h (h192.pick [6, 3, 0, 1, 2, 4, 5] (by decide))
    clear hJ151
    refine RunsI.go 1 [.c 1, .c 2] (by kernel_rfl) ?_
    refine RunsI.region (by kernel_rfl) ?_
    refine RegI.pure 1 [0, 1] [(0, .slice A64 t63.length c65), (1, .func (.func 64) #[] #[.pointer (some ⟨b6, 0, none⟩)])] (by kernel_rfl) ?_
    refine RegI.done (by kernel_rfl) ?_
    refine RunsI.go 1 [.c 3, .c 4] (by kernel_rfl) ?_
    refine RunsI.region (by kernel_rfl) ?_
    refine RegI.pure 2 [0, 1, 8, 9] [(0, .slice A64 t63.length c65), (1, .func (.func 64) #[] #[.pointer (some ⟨b6, 0, none⟩)]), (8, .slice A64 t63.length c65), (9, .func (.func 64) #[] #[.pointer (some ⟨b6, 0, none⟩)])] (by kernel_rfl) ?_
    refine RegI.enter 10 [0, 1] [(0, .slice A64 t63.length c65), (1, .func (.func 64) #[] #[.pointer (some ⟨b6, 0, none⟩)])] (by kernel_rfl) (by kernel_rfl) (by kernel_rfl) (by kernel_rfl) F61 61 rfl [.slice A64 t63.length c65, .func (.func 64) #[] #[.pointer (some ⟨b6, 0, none⟩)]] (by kernel_rfl) (by kernel_rfl) ?_
    obtain ⟨j96, hJ97, h⟩ := of_let h
    have hj98 : ∀ (t93 : Int) (w95 : World), j96 t93 = some r → Holds M0 w0 w95 [own (Rp.pair (Rp.int .i64) (Rp.int .u8)) 87 (.slice A64 t63.length c65) t63, box b6 3 [.int .i64 p1], box b2 53 [.slice pA0_0 p0_0.length pc0_0, .int .i64 p0_1, .int .i64 p0_2, .slice pA0_3 p0_3.length pc0_3], sl (Rp.int .u8) (.slice pA0_0 p0_0.length pc0_0) p0_0, sl (Rp.pair (Rp.int .i64) (Rp.int .u8)) (.slice pA0_3 p0_3.length pc0_3) p0_3, box b10 53 [.slice none 0 0, .int .i64 0, .int .i64 0, .slice none 0 0]] → RegI F65 3 [.c 4] 3 [(0, .slice A64 t63.length c65), (1, .func (.func 64) #[] #[.pointer (some ⟨b6, 0, none⟩)]), (10, .int .i64 t93)] w95 (cont (fun e' w' => RegI F59 7 [.c 8] 7 e' w' (banks_Store_put_59.post M0 w0 r)) 22 [(2, .int .u8 p2), (3, .pointer (some ⟨b2, 0, none⟩)), (4, .pointer (some ⟨b6, 0, none⟩)), (6, .pointer (some ⟨b10, 0, none⟩)), (7, .int .i64 t49), (8, .func (.func 64) #[] #[.pointer (some ⟨b6, 0, none⟩)])]) := by
      intro t93 w95 h h94
      rw [hJ97] at h
      clear hJ97
      dsimp only at h
      refine RegI.pure 1 [0, 1, 5] [(0, .slice A64 t63.length c65), (1, .func (.func 64) #[] #[.pointer (some ⟨b6, 0, none⟩)]), (5, .int .i64 t93)] (by kernel_rfl) ?_
      refine RegI.done (by kernel_rfl) ?_
      refine RunsI.go 2 [.c 6, .c 7, .c 12] (by kernel_rfl) ?_
      refine RunsI.region (by kernel_rfl) ?_
      refine RegI.pure 2 [0, 1, 5, 12] [(0, .slice A64 t63.length c65), (1, .func (.func 64) #[] #[.pointer (some ⟨b6, 0, none⟩)]), (5, .int .i64 t93), (12, .bool (t93 == (-1)))] (by kernel_rfl) ?_
      refine RegI.done (by kernel_rfl) ?_
      rcases of_cond h with ⟨hc99, h⟩ | ⟨hc99, h⟩
      · skip
        refine RunsI.fix 12 true hc99 (by kernel_rfl) (by kernel_rfl) ?_
        refine RunsI.cond true 8 (by kernel_rfl) ?_
        refine RunsI.go 1 [.c 9, .c 10, .c 12] (by kernel_rfl) ?_
        refine RunsI.region (by kernel_rfl) ?_
        refine RegI.pure 2 [4] [(4, .slice A64 t63.length c65)] (by kernel_rfl) ?_
        refine RegI.done (by kernel_rfl) ?_
        refine RunsI.ret (.slice A64 t63.length c65) (by kernel_rfl) (by kernel_rfl) ?_
        refine cont_mk ?_
        refine RegI.only [2, 3, 4, 6, 7, 8, 22] [(2, .int .u8 p2), (3, .pointer (some ⟨b2, 0, none⟩)), (4, .pointer (some ⟨b6, 0, none⟩)), (6, .pointer (some ⟨b10, 0, none⟩)), (7, .int .i64 t49), (8, .func (.func 64) #[] #[.pointer (some ⟨b6, 0, none⟩)]), (22, .slice A64 t63.length c65)] (by kernel_rfl) (by kernel_rfl) ?_
        exact hj152 t63 A64 c65 w95 h (h94.pick [2, 3, 4, 1, 5, 0] (by decide))
      · skip
        refine RunsI.fix 12 false hc99 (by kernel_rfl) (by kernel_rfl) ?_
        refine RunsI.cond false 11 (by kernel_rfl) ?_
        refine RunsI.go 1 [.c 12] (by kernel_rfl) ?_
        refine RunsI.go 2 [.c 14, .c 15, .c 35] (by kernel_rfl) ?_
        refine RunsI.region (by kernel_rfl) ?_
        refine RegI.pure 3 [0, 1, 5, 6] [(0, .slice A64 t63.length c65), (1, .func (.func 64) #[] #[.pointer (some ⟨b6, 0, none⟩)]), (5, .int .i64 t93), (6, .int .i64 (IntKind.wrap .i64 (t93 + 1)))] (by kernel_rfl) ?_
        refine RegI.done (by kernel_rfl) ?_
        refine RunsI.go 2 [.c 17, .lp 17, .blk 0, .c 35] (by kernel_rfl) ?_
        obtain ⟨x131, hx132, h⟩ := of_bind h
        refine RunsI.only [0, 1, 5, 6] [(0, .slice A64 t63.length c65), (1, .func (.func 64) #[] #[.pointer (some ⟨b6, 0, none⟩)]), (5, .int .i64 t93), (6, .int .i64 (IntKind.wrap .i64 (t93 + 1)))] (by kernel_rfl) (by kernel_rfl) ?_
        refine banks_Store_put_59.l2_ok K M0 w0 pA0_0 pc0_0 pA0_3 pc0_3 p0_0 p0_1 p0_2 p0_3 p1 p2 A64 c65 b6 b2 b10 _ x131 ?_ K t63 t93 (IntKind.wrap .i64 (t93 + 1)) w95 hx132 (h94.pick [0, 1, 2, 3, 4, 5] (by decide))
        · intro t133 t134 w136 hq295 h135
          (try rw [hq295] at h)
          dsimp only at h
          refine RunsI.go 1 [.c 36, .c 37] (by kernel_rfl) ?_
          refine RunsI.region (by kernel_rfl) ?_
          refine RegI.pure 2 [0, 5, 36, 37] [(0, .slice A64 t133.length c65), (5, .int .i64 t134), (36, .slice A64 t133.length c65), (37, .int .i64 t134)] (by kernel_rfl) ?_
          obtain ⟨hc137, h⟩ := of_cond0 h
          refine RegI.op (by kernel_rfl) (OpE.cutView 38 0 51 87 t134 h135 (by kernel_rfl) rfl (by kernel_rfl) (by kernel_rfl) hc137 ?_)
          refine RegI.op (by kernel_rfl) (OpE.clearEnd 0 51 87 t134 16 [.int .i64 0, .int .u8 0] (Rp.pair (Rp.int .i64) (Rp.int .u8)) (0, 0) h135 (by kernel_rfl) rfl (by kernel_rfl) (by kernel_rfl) (by kernel_rfl) (fun _ _ => ⟨[_], [_], rfl, rfl, rfl⟩) hc137 ?_)
          intro w138 h139 hk140
          refine RegI.done (by kernel_rfl) ?_
          refine RunsI.go 1 [.c 38, .c 39] (by kernel_rfl) ?_
          refine RunsI.region (by kernel_rfl) ?_
          refine RegI.pure 2 [39, 40] [(39, .slice A64 t133.length c65), (40, .int .i64 t134)] (by kernel_rfl) ?_
          obtain ⟨hc141, h⟩ := of_cond0 h
          refine RegI.op (by kernel_rfl) (OpE.cutOwn 41 0 51 87 (some t134) h139 (by kernel_rfl) rfl (by kernel_rfl) (by kernel_rfl) hc141 ?_)
          intro A142 c143 h144
          refine RegI.pure 1 [4] [(4, .slice A142 ((cutL (clrD t133 t134 (0, 0)) 0 t134).length) c143)] (by kernel_rfl) ?_
          refine RegI.done (by kernel_rfl) ?_
          refine RunsI.ret (.slice A142 ((cutL (clrD t133 t134 (0, 0)) 0 t134).length) c143) (by kernel_rfl) (by kernel_rfl) ?_
          refine cont_mk ?_
          refine RegI.only [2, 3, 4, 6, 7, 8, 22] [(2, .int .u8 p2), (3, .pointer (some ⟨b2, 0, none⟩)), (4, .pointer (some ⟨b6, 0, none⟩)), (6, .pointer (some ⟨b10, 0, none⟩)), (7, .int .i64 t49), (8, .func (.func 64) #[] #[.pointer (some ⟨b6, 0, none⟩)]), (22, .slice A142 ((cutL (clrD t133 t134 (0, 0)) 0 t134).length) c143)] (by kernel_rfl) (by kernel_rfl) ?_
          exact hj152 (cutL (clrD t133 t134 (0, 0)) 0 t134) A142 c143 w138 h (h144.pick [1, 2, 3, 4, 5, 0] (by decide))
    clear hJ97
    refine RunsI.go 1 [.c 1, .c 2] (by kernel_rfl) ?_
    refine RunsI.region (by kernel_rfl) ?_
    refine RegI.pure 1 [0, 1] [(0, .slice A64 t63.length c65), (1, .func (.func 64) #[] #[.pointer (some ⟨b6, 0, none⟩)])] (by kernel_rfl) ?_
    refine RegI.done (by kernel_rfl) ?_
    refine RunsI.go 2 [.c 4, .c 5, .c 25] (by kernel_rfl) ?_
    refine RunsI.region (by kernel_rfl) ?_
    refine RegI.pure 3 [0, 1, 7, 8] [(0, .slice A64 t63.length c65), (1, .func (.func 64) #[] #[.pointer (some ⟨b6, 0, none⟩)]), (7, .int .i64 (t63.length : Int)), (8, .int .i64 0)] (by kernel_rfl) ?_
    refine RegI.done (by kernel_rfl) ?_
    refine RunsI.go 2 [.c 7, .lp 7, .blk 0, .c 25] (by kernel_rfl) ?_
    obtain ⟨x86, hx87, h⟩ := of_bind h
    refine RunsI.only [0, 1, 7, 8] [(0, .slice A64 t63.length c65), (1, .func (.func 64) #[] #[.pointer (some ⟨b6, 0, none⟩)]), (7, .int .i64 (t63.length : Int)), (8, .int .i64 0)] (by kernel_rfl) (by kernel_rfl) ?_
    refine banks_Store_put_59.l1_ok K M0 w0 pA0_0 pc0_0 pA0_3 pc0_3 p0_0 p0_1 p0_2 p0_3 p1 p2 t63 (t63.length : Int) A64 c65 b6 b2 b10 _ x86 ?_ ?_ K 0 w59 hx87 (h61.pick [6, 3, 0, 1, 2, 4] (by decide))
    · intro w89 hq296 h88
      (try rw [hq296] at h)
      dsimp only [Lp.elim] at h
      refine RunsI.go 1 [.c 26, .c 27] (by kernel_rfl) ?_
      refine RunsI.region (by kernel_rfl) ?_
      refine RegI.pure 1 [4] [(4, .int .i64 (-1))] (by kernel_rfl) ?_
      refine RegI.done (by kernel_rfl) ?_
      refine RunsI.ret (.int .i64 (-1)) (by kernel_rfl) (by kernel_rfl) ?_
      refine cont_mk ?_
      refine RegI.only [0, 1, 10] [(0, .slice A64 t63.length c65), (1, .func (.func 64) #[] #[.pointer (some ⟨b6, 0, none⟩)]), (10, .int .i64 (-1))] (by kernel_rfl) (by kernel_rfl) ?_
      exact hj98 (-1) w89 h (h88.pick [5, 3, 0, 1, 2, 4] (by decide))
    · intro t90 w92 hq297 h91
      (try rw [hq297] at h)
      dsimp only [Lp.elim] at h
      refine cont_mk ?_
      refine RegI.only [0, 1, 10] [(0, .slice A64 t63.length c65), (1, .func (.func 64) #[] #[.pointer (some ⟨b6, 0, none⟩)]), (10, .int .i64 t90)] (by kernel_rfl) (by kernel_rfl) ?_
      exact hj98 t90 w92 h (h91.pick [5, 3, 0, 1, 2, 4] (by decide))
  clear hJ53
  refine RunsI.go 1 [.c 1, .c 2] (by kernel_rfl) ?_
  refine RunsI.region (by kernel_rfl) ?_
  refine RegI.pure 1 [0, 1] [(0, .slice pA0_3 p0_3.length pc0_3), (1, .func (.func 62) #[] #[.pointer (some ⟨b6, 0, none⟩)])] (by kernel_rfl) ?_
  refine RegI.done (by kernel_rfl) ?_
  refine RunsI.go 2 [.c 4, .c 5, .c 12] (by kernel_rfl) ?_
  refine RunsI.region (by kernel_rfl) ?_
  refine RegI.pure 2 [0, 6, 7] [(0, .slice pA0_3 p0_3.length pc0_3), (6, .slice pA0_3 p0_3.length pc0_3), (7, .func (.func 62) #[] #[.pointer (some ⟨b6, 0, none⟩)])] (by kernel_rfl) ?_
  refine RegI.enter 8 [0] [(0, .slice pA0_3 p0_3.length pc0_3)] (by kernel_rfl) (by kernel_rfl) (by kernel_rfl) (by kernel_rfl) F61 61 rfl [.slice pA0_3 p0_3.length pc0_3, .func (.func 62) #[] #[.pointer (some ⟨b6, 0, none⟩)]] (by kernel_rfl) (by kernel_rfl) ?_
  obtain ⟨j45, hJ46, h⟩ := of_let h
  have hj47 : ∀ (t42 : Int) (w44 : World), j45 t42 = some r → Holds M0 w0 w44 [sl (Rp.pair (Rp.int .i64) (Rp.int .u8)) (.slice pA0_3 p0_3.length pc0_3) p0_3, box b2 53 [.slice pA0_0 p0_0.length pc0_0, .int .i64 p0_1, .int .i64 p0_2, .slice pA0_3 p0_3.length pc0_3], sl (Rp.int .u8) (.slice pA0_0 p0_0.length pc0_0) p0_0, box b6 3 [.int .i64 p1], box b10 53 [.slice none 0 0, .int .i64 0, .int .i64 0, .slice none 0 0]] → RegI F53 4 [.c 5, .c 12] 3 [(0, .slice pA0_3 p0_3.length pc0_3), (8, .int .i64 t42)] w44 (cont (fun e' w' => RegI F59 3 [.c 4] 4 e' w' (banks_Store_put_59.post M0 w0 r)) 14 [(2, .int .u8 p2), (3, .pointer (some ⟨b2, 0, none⟩)), (4, .pointer (some ⟨b6, 0, none⟩)), (6, .pointer (some ⟨b10, 0, none⟩))]) := by
    intro t42 w44 h h43
    rw [hJ46] at h
    clear hJ46
    dsimp only at h
    refine RegI.pure 1 [0, 5] [(0, .slice pA0_3 p0_3.length pc0_3), (5, .int .i64 t42)] (by kernel_rfl) ?_
    refine RegI.done (by kernel_rfl) ?_
    refine RunsI.go 1 [.c 6, .c 7, .c 12] (by kernel_rfl) ?_
    refine RunsI.region (by kernel_rfl) ?_
    refine RegI.pure 2 [0, 5, 10] [(0, .slice pA0_3 p0_3.length pc0_3), (5, .int .i64 t42), (10, .bool (decide (t42 ≥ 0)))] (by kernel_rfl) ?_
    refine RegI.done (by kernel_rfl) ?_
    rcases of_cond h with ⟨hc48, h⟩ | ⟨hc48, h⟩
    · skip
      refine RunsI.fix 10 true hc48 (by kernel_rfl) (by kernel_rfl) ?_
      refine RunsI.cond true 8 (by kernel_rfl) ?_
      refine RunsI.go 1 [.c 9, .c 10, .c 12] (by kernel_rfl) ?_
      refine RunsI.region (by kernel_rfl) ?_
      refine RegI.pure 2 [4] [(4, .int .i64 t42)] (by kernel_rfl) ?_
      refine RegI.done (by kernel_rfl) ?_
      refine RunsI.ret (.int .i64 t42) (by kernel_rfl) (by kernel_rfl) ?_
      refine cont_mk ?_
      refine RegI.only [2, 3, 4, 6, 14] [(2, .int .u8 p2), (3, .pointer (some ⟨b2, 0, none⟩)), (4, .pointer (some ⟨b6, 0, none⟩)), (6, .pointer (some ⟨b10, 0, none⟩)), (14, .int .i64 t42)] (by kernel_rfl) (by kernel_rfl) ?_
      exact hj54 t42 w44 h (h43.pick [1, 2, 0, 3, 4] (by decide))
    · skip
      refine RunsI.fix 10 false hc48 (by kernel_rfl) (by kernel_rfl) ?_
      refine RunsI.cond false 11 (by kernel_rfl) ?_
      refine RunsI.go 1 [.c 12] (by kernel_rfl) ?_
      refine RunsI.go 1 [.c 13, .c 14] (by kernel_rfl) ?_
      refine RunsI.region (by kernel_rfl) ?_
      refine RegI.pure 3 [4] [(4, .int .i64 (p0_3.length : Int))] (by kernel_rfl) ?_
      refine RegI.done (by kernel_rfl) ?_
      refine RunsI.ret (.int .i64 (p0_3.length : Int)) (by kernel_rfl) (by kernel_rfl) ?_
      refine cont_mk ?_
      refine RegI.only [2, 3, 4, 6, 14] [(2, .int .u8 p2), (3, .pointer (some ⟨b2, 0, none⟩)), (4, .pointer (some ⟨b6, 0, none⟩)), (6, .pointer (some ⟨b10, 0, none⟩)), (14, .int .i64 (p0_3.length : Int))] (by kernel_rfl) (by kernel_rfl) ?_
      exact hj54 (p0_3.length : Int) w44 h (h43.pick [1, 2, 0, 3, 4] (by decide))
  clear hJ46
  refine RunsI.go 1 [.c 1, .c 2] (by kernel_rfl) ?_
  refine RunsI.region (by kernel_rfl) ?_
  refine RegI.pure 1 [0, 1] [(0, .slice pA0_3 p0_3.length pc0_3), (1, .func (.func 62) #[] #[.pointer (some ⟨b6, 0, none⟩)])] (by kernel_rfl) ?_
  refine RegI.done (by kernel_rfl) ?_
  refine RunsI.go 2 [.c 4, .c 5, .c 25] (by kernel_rfl) ?_
  refine RunsI.region (by kernel_rfl) ?_
  refine RegI.pure 3 [0, 1, 7, 8] [(0, .slice pA0_3 p0_3.length pc0_3), (1, .func (.func 62) #[] #[.pointer (some ⟨b6, 0, none⟩)]), (7, .int .i64 (p0_3.length : Int)), (8, .int .i64 0)] (by kernel_rfl) ?_
  refine RegI.done (by kernel_rfl) ?_
  refine RunsI.go 2 [.c 7, .lp 7, .blk 0, .c 25] (by kernel_rfl) ?_
  obtain ⟨x35, hx36, h⟩ := of_bind h
  refine RunsI.only [0, 1, 7, 8] [(0, .slice pA0_3 p0_3.length pc0_3), (1, .func (.func 62) #[] #[.pointer (some ⟨b6, 0, none⟩)]), (7, .int .i64 (p0_3.length : Int)), (8, .int .i64 0)] (by kernel_rfl) (by kernel_rfl) ?_
  refine banks_Store_put_59.l0_ok K M0 w0 pA0_0 pc0_0 pA0_3 pc0_3 p0_0 p0_1 p0_2 p0_3 p1 p2 b6 b2 b10 _ x35 ?_ ?_ K 0 w9 hx36 (h11.pick [1, 3, 2, 0, 4] (by decide))
  · intro w38 hq298 h37
    (try rw [hq298] at h)
    dsimp only [Lp.elim] at h
    refine RunsI.go 1 [.c 26, .c 27] (by kernel_rfl) ?_
    refine RunsI.region (by kernel_rfl) ?_
    refine RegI.pure 1 [4] [(4, .int .i64 (-1))] (by kernel_rfl) ?_
    refine RegI.done (by kernel_rfl) ?_
    refine RunsI.ret (.int .i64 (-1)) (by kernel_rfl) (by kernel_rfl) ?_
    refine cont_mk ?_
    refine RegI.only [0, 8] [(0, .slice pA0_3 p0_3.length pc0_3), (8, .int .i64 (-1))] (by kernel_rfl) (by kernel_rfl) ?_
    exact hj47 (-1) w38 h (h37.pick [2, 0, 1, 3, 4] (by decide))
  · intro t39 w41 hq299 h40
    (try rw [hq299] at h)
    dsimp only [Lp.elim] at h
    refine cont_mk ?_
    refine RegI.only [0, 8] [(0, .slice pA0_3 p0_3.length pc0_3), (8, .int .i64 t39)] (by kernel_rfl) (by kernel_rfl) ?_
    exact hj47 t39 w41 h (h40.pick [2, 0, 1, 3, 4] (by decide))
end

/-! ### charabanc/banks.Write (function 39) -/
section
def banks_Write_39.post (M0 : Nat → Prop) (w0 : World) (r : (List Int) × Int × Int × (List (Int × Int))) : Ending → World → Prop := fun e w => ∃ (A1 : Option Addr) (c1 : Nat) (A4 : Option Addr) (c4 : Nat), e = .returned (.agg #[.slice A1 r.1.length c1, .int .i64 r.2.1, .int .i64 r.2.2.1, .slice A4 r.2.2.2.length c4]) ∧ Holds M0 w0 w [sl (Rp.int .u8) (.slice A1 r.1.length c1) r.1, sl (Rp.pair (Rp.int .i64) (Rp.int .u8)) (.slice A4 r.2.2.2.length c4) r.2.2.2]
def banks_Write_39.f (K : Nat) (p0_0 : List Int) (p0_1 : Int) (p0_2 : Int) (p0_3 : List (Int × Int)) (p1 : Int) (p2 : Int) : Option ((List Int) × Int × Int × (List (Int × Int))) := (banks_Where_31.f K p0_0 p0_1 p0_2 p0_3 p1).bind fun yt13 => cond (!yt13.2) (some (p0_0, p0_1, p0_2, p0_3)) ((banks_Store_put_59.f K p0_0 p0_1 p0_2 p0_3 yt13.1 p2).bind fun yt23 => some (yt23.1, yt23.2.1, yt23.2.2.1, yt23.2.2.2))
set_option maxRecDepth 100000 in
theorem banks_Write_39_ok (K : Nat) (M0 : Nat → Prop) (w0 : World) (pA0_0 : Option Addr) (pc0_0 : Nat) (pA0_3 : Option Addr) (pc0_3 : Nat) (p0_0 : List Int) (p0_1 : Int) (p0_2 : Int) (p0_3 : List (Int × Int)) (p1 : Int) (p2 : Int) (ho : ∀ b, M0 b → b < w0.heap.size) (hs0_0 : Sl (Rp.int .u8) w0 M0 (.slice pA0_0 p0_0.length pc0_0) p0_0) (hs0_3 : Sl (Rp.pair (Rp.int .i64) (Rp.int .u8)) w0 M0 (.slice pA0_3 p0_3.length pc0_3) p0_3) {r : (List Int) × Int × Int × (List (Int × Int))} (h : banks_Write_39.f K p0_0 p0_1 p0_2 p0_3 p1 p2 = some r) :
    Calls Try.prog 39 #[.agg #[.slice pA0_0 p0_0.length pc0_0, .int .i64 p0_1, .int .i64 p0_2, .slice pA0_3 p0_3.length pc0_3], .int .u16 p1, .int .u8 p2] w0 (banks_Write_39.post M0 w0 r) := by
  unfold banks_Write_39.f at h
  have h0 : Holds M0 w0 w0 [] := Holds.start ho
  have h00_0 := h0.addSl (Rp.int .u8) (.slice pA0_0 p0_0.length pc0_0) p0_0 (hs0_0.mono (fun _ _ hm => hm.elim id (fun hm => absurd hm (by simp [mines, sl]))))
  have h00_3 := h00_0.addSl (Rp.pair (Rp.int .i64) (Rp.int .u8)) (.slice pA0_3 p0_3.length pc0_3) p0_3 (hs0_3.mono (fun _ _ hm => hm.elim id (fun hm => absurd hm (by simp [mines, sl]))))
  have h0 : Holds M0 w0 w0 [sl (Rp.int .u8) (.slice pA0_0 p0_0.length pc0_0) p0_0, sl (Rp.pair (Rp.int .i64) (Rp.int .u8)) (.slice pA0_3 p0_3.length pc0_3) p0_3] := h00_3
  refine calls_of F39 rfl [.agg #[.slice pA0_0 p0_0.length pc0_0, .int .i64 p0_1, .int .i64 p0_2, .slice pA0_3 p0_3.length pc0_3], .int .u16 p1, .int .u8 p2] (by kernel_rfl) ?_
  refine RunsI.go 1 [.c 1, .c 2] (by kernel_rfl) ?_
  refine RunsI.region (by kernel_rfl) ?_
  refine RegI.op (by kernel_rfl) (OpE.box 3 53 [.slice pA0_0 p0_0.length pc0_0, .int .i64 p0_1, .int .i64 p0_2, .slice pA0_3 p0_3.length pc0_3] h0 (by kernel_rfl) (by kernel_rfl) ?_)
  intro w1 b2 h3 hb4
  refine RegI.op (by kernel_rfl) (OpE.box 6 53 [.slice none 0 0, .int .i64 0, .int .i64 0, .slice none 0 0] h3 (by kernel_rfl) (by kernel_rfl) ?_)
  intro w5 b6 h7 hb8
  refine RegI.done (by kernel_rfl) ?_
  refine RunsI.go 1 [.c 3, .c 4] (by kernel_rfl) ?_
  refine RunsI.region (by kernel_rfl) ?_
  refine RegI.op (by kernel_rfl) (OpE.loadBox 10 2 53 b2 0 (.agg #[.slice pA0_0 p0_0.length pc0_0, .int .i64 p0_1, .int .i64 p0_2, .slice pA0_3 p0_3.length pc0_3]) h7 (by kernel_rfl) (by kernel_rfl) rfl (by kernel_rfl) ?_)
  refine RegI.pure 1 [2, 3, 6, 10, 11] [(2, .int .u8 p2), (3, .pointer (some ⟨b2, 0, none⟩)), (6, .pointer (some ⟨b6, 0, none⟩)), (10, .agg #[.slice pA0_0 p0_0.length pc0_0, .int .i64 p0_1, .int .i64 p0_2, .slice pA0_3 p0_3.length pc0_3]), (11, .int .u16 p1)] (by kernel_rfl) ?_
  obtain ⟨⟨t13, t14⟩, hg12, h⟩ := of_bind h
  dsimp only at h
  refine RegI.op (by kernel_rfl) (OpE.call 12 (by kernel_rfl) 31 #[.agg #[.slice pA0_0 p0_0.length pc0_0, .int .i64 p0_1, .int .i64 p0_2, .slice pA0_3 p0_3.length pc0_3], .int .u16 p1] (by kernel_rfl) ((banks_Where_31_ok K _ w5  pA0_0 pc0_0 pA0_3 pc0_3 p0_0 p0_1 p0_2 p0_3 p1 h7.old' (h7.get 0 rfl) (h7.get 1 rfl) hg12).mono ?_))
  rintro _ w9 ⟨rfl, hb10⟩
  refine ⟨_, rfl, ?_⟩
  have h11 := h7.call hb10
  refine RegI.pure 5 [2, 3, 6, 7, 8] [(2, .int .u8 p2), (3, .pointer (some ⟨b2, 0, none⟩)), (6, .pointer (some ⟨b6, 0, none⟩)), (7, .int .i64 t13), (8, .bool t14)] (by kernel_rfl) ?_
  refine RegI.done (by kernel_rfl) ?_
  refine RunsI.go 2 [.c 6, .c 7, .c 12] (by kernel_rfl) ?_
  refine RunsI.region (by kernel_rfl) ?_
  refine RegI.pure 2 [2, 3, 6, 7, 16] [(2, .int .u8 p2), (3, .pointer (some ⟨b2, 0, none⟩)), (6, .pointer (some ⟨b6, 0, none⟩)), (7, .int .i64 t13), (16, .bool (!t14))] (by kernel_rfl) ?_
  refine RegI.done (by kernel_rfl) ?_
  rcases of_cond h with ⟨hc15, h⟩ | ⟨hc15, h⟩
  · skip
    refine RunsI.fix 16 true hc15 (by kernel_rfl) (by kernel_rfl) ?_
    refine RunsI.cond true 8 (by kernel_rfl) ?_
    refine RunsI.go 1 [.c 9, .c 10, .c 12] (by kernel_rfl) ?_
    refine RunsI.region (by kernel_rfl) ?_
    refine RegI.op (by kernel_rfl) (OpE.loadBox 17 2 53 b2 0 (.agg #[.slice pA0_0 p0_0.length pc0_0, .int .i64 p0_1, .int .i64 p0_2, .slice pA0_3 p0_3.length pc0_3]) h11 (by kernel_rfl) (by kernel_rfl) rfl (by kernel_rfl) ?_)
    refine RegI.op (by kernel_rfl) (OpE.storeBox 3 53 b6 0 (.agg #[.slice pA0_0 p0_0.length pc0_0, .int .i64 p0_1, .int .i64 p0_2, .slice pA0_3 p0_3.length pc0_3]) [.slice pA0_0 p0_0.length pc0_0, .int .i64 p0_1, .int .i64 p0_2, .slice pA0_3 p0_3.length pc0_3] h11 (by kernel_rfl) (by kernel_rfl) rfl (by kernel_rfl) (by kernel_rfl) (by kernel_rfl) ?_)
    intro w16 h17 hk18
    refine RegI.done (by kernel_rfl) ?_
    refine RunsI.retW [.cell 6 53] [.agg #[.slice pA0_0 p0_0.length pc0_0, .int .i64 p0_1, .int .i64 p0_2, .slice pA0_3 p0_3.length pc0_3]] (.agg #[.slice pA0_0 p0_0.length pc0_0, .int .i64 p0_1, .int .i64 p0_2, .slice pA0_3 p0_3.length pc0_3]) (by kernel_rfl) (by kernel_rfl) (ResAt.box 3 53 b6 0 h17 (by kernel_rfl) (by kernel_rfl) rfl (by kernel_rfl) rfl) (by kernel_rfl) ?_
    obtain rfl := Option.some.inj h
    exact ⟨pA0_0, pc0_0, pA0_3, pc0_3, rfl, h17.pick [0, 1] (by decide)⟩
  · skip
    refine RunsI.fix 16 false hc15 (by kernel_rfl) (by kernel_rfl) ?_
    refine RunsI.cond false 11 (by kernel_rfl) ?_
    refine RunsI.go 1 [.c 12] (by kernel_rfl) ?_
    refine RunsI.go 1 [.c 13, .c 14] (by kernel_rfl) ?_
    refine RunsI.region (by kernel_rfl) ?_
    refine RegI.op (by kernel_rfl) (OpE.loadBox 18 2 53 b2 0 (.agg #[.slice pA0_0 p0_0.length pc0_0, .int .i64 p0_1, .int .i64 p0_2, .slice pA0_3 p0_3.length pc0_3]) h11 (by kernel_rfl) (by kernel_rfl) rfl (by kernel_rfl) ?_)
    refine RegI.pure 2 [6, 18, 19, 20] [(6, .pointer (some ⟨b6, 0, none⟩)), (18, .agg #[.slice pA0_0 p0_0.length pc0_0, .int .i64 p0_1, .int .i64 p0_2, .slice pA0_3 p0_3.length pc0_3]), (19, .int .i64 t13), (20, .int .u8 p2)] (by kernel_rfl) ?_
    obtain ⟨⟨t23, t27, t28, t29⟩, hg22, h⟩ := of_bind h
    dsimp only at h
    refine RegI.op (by kernel_rfl) (OpE.call 21 (by kernel_rfl) 59 #[.agg #[.slice pA0_0 p0_0.length pc0_0, .int .i64 p0_1, .int .i64 p0_2, .slice pA0_3 p0_3.length pc0_3], .int .i64 t13, .int .u8 p2] (by kernel_rfl) ((banks_Store_put_59_ok K _ w9  pA0_0 pc0_0 pA0_3 pc0_3 p0_0 p0_1 p0_2 p0_3 t13 p2 h11.old' (h11.get 0 rfl) (h11.get 1 rfl) hg22).mono ?_))
    rintro _ w19 ⟨A24, c25, A30, c31, rfl, hr33⟩
    refine ⟨_, rfl, ?_⟩
    have hb20 := hr33.below
    have h21 := h11.join hr33
    refine RegI.op (by kernel_rfl) (OpE.storeBox 3 53 b6 0 (.agg #[.slice A24 t23.length c25, .int .i64 t27, .int .i64 t28, .slice A30 t29.length c31]) [.slice A24 t23.length c25, .int .i64 t27, .int .i64 t28, .slice A30 t29.length c31] h21 (by kernel_rfl) (by kernel_rfl) rfl (by kernel_rfl) (by kernel_rfl) (by kernel_rfl) ?_)
    intro w34 h35 hk36
    refine RegI.done (by kernel_rfl) ?_
    refine RunsI.retW [.cell 6 53] [.agg #[.slice A24 t23.length c25, .int .i64 t27, .int .i64 t28, .slice A30 t29.length c31]] (.agg #[.slice A24 t23.length c25, .int .i64 t27, .int .i64 t28, .slice A30 t29.length c31]) (by kernel_rfl) (by kernel_rfl) (ResAt.box 3 53 b6 0 h35 (by kernel_rfl) (by kernel_rfl) rfl (by kernel_rfl) rfl) (by kernel_rfl) ?_
    have h37 := h35.release 5 rfl
    obtain rfl := Option.some.inj h
    exact ⟨A24, c25, A30, c31, rfl, h37.pick [4, 5] (by decide)⟩
end

/-! ### charabanc/banks.Select (function 41) -/
section
def banks_Select_41.post (M0 : Nat → Prop) (w0 : World) (r : (List Int) × Int × Int × (List (Int × Int))) : Ending → World → Prop := fun e w => ∃ (A1 : Option Addr) (c1 : Nat) (A4 : Option Addr) (c4 : Nat), e = .returned (.agg #[.slice A1 r.1.length c1, .int .i64 r.2.1, .int .i64 r.2.2.1, .slice A4 r.2.2.2.length c4]) ∧ Holds M0 w0 w [sl (Rp.int .u8) (.slice A1 r.1.length c1) r.1, sl (Rp.pair (Rp.int .i64) (Rp.int .u8)) (.slice A4 r.2.2.2.length c4) r.2.2.2]
def banks_Select_41.f (K : Nat) (p0_0 : List Int) (p0_1 : Int) (p0_2 : Int) (p0_3 : List (Int × Int)) (p1 : Int) : Option ((List Int) × Int × Int × (List (Int × Int))) := cond (decide (p0_1 > 0)) (cond (p0_1 != 0) (some (p0_0, p0_1, (Int.tmod (IntKind.wrap .i64 p1) p0_1), p0_3)) none) (some (p0_0, p0_1, p0_2, p0_3))
set_option maxRecDepth 100000 in
theorem banks_Select_41_ok (K : Nat) (M0 : Nat → Prop) (w0 : World) (pA0_0 : Option Addr) (pc0_0 : Nat) (pA0_3 : Option Addr) (pc0_3 : Nat) (p0_0 : List Int) (p0_1 : Int) (p0_2 : Int) (p0_3 : List (Int × Int)) (p1 : Int) (ho : ∀ b, M0 b → b < w0.heap.size) (hs0_0 : Sl (Rp.int .u8) w0 M0 (.slice pA0_0 p0_0.length pc0_0) p0_0) (hs0_3 : Sl (Rp.pair (Rp.int .i64) (Rp.int .u8)) w0 M0 (.slice pA0_3 p0_3.length pc0_3) p0_3) {r : (List Int) × Int × Int × (List (Int × Int))} (h : banks_Select_41.f K p0_0 p0_1 p0_2 p0_3 p1 = some r) :
    Calls Try.prog 41 #[.agg #[.slice pA0_0 p0_0.length pc0_0, .int .i64 p0_1, .int .i64 p0_2, .slice pA0_3 p0_3.length pc0_3], .int .u8 p1] w0 (banks_Select_41.post M0 w0 r) := by
  unfold banks_Select_41.f at h
  have h0 : Holds M0 w0 w0 [] := Holds.start ho
  have h00_0 := h0.addSl (Rp.int .u8) (.slice pA0_0 p0_0.length pc0_0) p0_0 (hs0_0.mono (fun _ _ hm => hm.elim id (fun hm => absurd hm (by simp [mines, sl]))))
  have h00_3 := h00_0.addSl (Rp.pair (Rp.int .i64) (Rp.int .u8)) (.slice pA0_3 p0_3.length pc0_3) p0_3 (hs0_3.mono (fun _ _ hm => hm.elim id (fun hm => absurd hm (by simp [mines, sl]))))
  have h0 : Holds M0 w0 w0 [sl (Rp.int .u8) (.slice pA0_0 p0_0.length pc0_0) p0_0, sl (Rp.pair (Rp.int .i64) (Rp.int .u8)) (.slice pA0_3 p0_3.length pc0_3) p0_3] := h00_3
  refine calls_of F41 rfl [.agg #[.slice pA0_0 p0_0.length pc0_0, .int .i64 p0_1, .int .i64 p0_2, .slice pA0_3 p0_3.length pc0_3], .int .u8 p1] (by kernel_rfl) ?_
  refine RunsI.go 1 [.c 1, .c 2] (by kernel_rfl) ?_
  refine RunsI.region (by kernel_rfl) ?_
  refine RegI.op (by kernel_rfl) (OpE.box 2 53 [.slice pA0_0 p0_0.length pc0_0, .int .i64 p0_1, .int .i64 p0_2, .slice pA0_3 p0_3.length pc0_3] h0 (by kernel_rfl) (by kernel_rfl) ?_)
  intro w1 b2 h3 hb4
  refine RegI.op (by kernel_rfl) (OpE.box 4 53 [.slice none 0 0, .int .i64 0, .int .i64 0, .slice none 0 0] h3 (by kernel_rfl) (by kernel_rfl) ?_)
  intro w5 b6 h7 hb8
  refine RegI.done (by kernel_rfl) ?_
  refine RunsI.go 2 [.c 4, .c 5, .c 8] (by kernel_rfl) ?_
  refine RunsI.region (by kernel_rfl) ?_
  refine RegI.pure 1 [1, 2, 4, 5] [(1, .int .u8 p1), (2, .pointer (some ⟨b2, 0, none⟩)), (4, .pointer (some ⟨b6, 0, none⟩)), (5, .pointer (some ⟨b2, 1, none⟩))] (by kernel_rfl) ?_
  refine RegI.op (by kernel_rfl) (OpE.loadBox 6 2 3 b2 1 (.int .i64 p0_1) h7 (by kernel_rfl) (by kernel_rfl) rfl (by kernel_rfl) ?_)
  refine RegI.pure 1 [1, 2, 4, 7] [(1, .int .u8 p1), (2, .pointer (some ⟨b2, 0, none⟩)), (4, .pointer (some ⟨b6, 0, none⟩)), (7, .bool (decide (p0_1 > 0)))] (by kernel_rfl) ?_
  refine RegI.done (by kernel_rfl) ?_
  rcases of_cond h with ⟨hc9, h⟩ | ⟨hc9, h⟩
  · skip
    refine RunsI.fix 7 true hc9 (by kernel_rfl) (by kernel_rfl) ?_
    refine RunsI.cond true 6 (by kernel_rfl) ?_
    refine RunsI.region (by kernel_rfl) ?_
    refine RegI.pure 3 [2, 4, 9, 10] [(2, .pointer (some ⟨b2, 0, none⟩)), (4, .pointer (some ⟨b6, 0, none⟩)), (9, .int .i64 (IntKind.wrap .i64 p1)), (10, .pointer (some ⟨b2, 1, none⟩))] (by kernel_rfl) ?_
    refine RegI.op (by kernel_rfl) (OpE.loadBox 11 2 3 b2 1 (.int .i64 p0_1) h7 (by kernel_rfl) (by kernel_rfl) rfl (by kernel_rfl) ?_)
    obtain ⟨hc10, h⟩ := of_cond0 h
    refine RegI.op (by kernel_rfl) (OpE.run 12 (by kernel_rfl) (run_rem (k := .i64) (a := (IntKind.wrap .i64 p1)) (b := p0_1) (by kernel_rfl) hc10) ?_)
    refine RegI.pure 1 [2, 4, 12, 13] [(2, .pointer (some ⟨b2, 0, none⟩)), (4, .pointer (some ⟨b6, 0, none⟩)), (12, .int .i64 (Int.tmod (IntKind.wrap .i64 p1) p0_1)), (13, .pointer (some ⟨b2, 2, none⟩))] (by kernel_rfl) ?_
    refine RegI.op (by kernel_rfl) (OpE.storeBox 2 3 b2 2 (.int .i64 (Int.tmod (IntKind.wrap .i64 p1) p0_1)) [.slice pA0_0 p0_0.length pc0_0, .int .i64 p0_1, .int .i64 (Int.tmod (IntKind.wrap .i64 p1) p0_1), .slice pA0_3 p0_3.length pc0_3] h7 (by kernel_rfl) (by kernel_rfl) rfl (by kernel_rfl) (by kernel_rfl) (by kernel_rfl) ?_)
    intro w11 h12 hk13
    refine RegI.done (by kernel_rfl) ?_
    refine RunsI.go 1 [.c 9, .c 10] (by kernel_rfl) ?_
    refine RunsI.region (by kernel_rfl) ?_
    refine RegI.op (by kernel_rfl) (OpE.loadBox 14 2 53 b2 0 (.agg #[.slice pA0_0 p0_0.length pc0_0, .int .i64 p0_1, .int .i64 (Int.tmod (IntKind.wrap .i64 p1) p0_1), .slice pA0_3 p0_3.length pc0_3]) h12 (by kernel_rfl) (by kernel_rfl) rfl (by kernel_rfl) ?_)
    refine RegI.op (by kernel_rfl) (OpE.storeBox 3 53 b6 0 (.agg #[.slice pA0_0 p0_0.length pc0_0, .int .i64 p0_1, .int .i64 (Int.tmod (IntKind.wrap .i64 p1) p0_1), .slice pA0_3 p0_3.length pc0_3]) [.slice pA0_0 p0_0.length pc0_0, .int .i64 p0_1, .int .i64 (Int.tmod (IntKind.wrap .i64 p1) p0_1), .slice pA0_3 p0_3.length pc0_3] h12 (by kernel_rfl) (by kernel_rfl) rfl (by kernel_rfl) (by kernel_rfl) (by kernel_rfl) ?_)
    intro w14 h15 hk16
    refine RegI.done (by kernel_rfl) ?_
    refine RunsI.retW [.cell 4 53] [.agg #[.slice pA0_0 p0_0.length pc0_0, .int .i64 p0_1, .int .i64 (Int.tmod (IntKind.wrap .i64 p1) p0_1), .slice pA0_3 p0_3.length pc0_3]] (.agg #[.slice pA0_0 p0_0.length pc0_0, .int .i64 p0_1, .int .i64 (Int.tmod (IntKind.wrap .i64 p1) p0_1), .slice pA0_3 p0_3.length pc0_3]) (by kernel_rfl) (by kernel_rfl) (ResAt.box 3 53 b6 0 h15 (by kernel_rfl) (by kernel_rfl) rfl (by kernel_rfl) rfl) (by kernel_rfl) ?_
    obtain rfl := Option.some.inj h
    exact ⟨pA0_0, pc0_0, pA0_3, pc0_3, rfl, h15.pick [0, 1] (by decide)⟩
  · skip
    refine RunsI.fix 7 false hc9 (by kernel_rfl) (by kernel_rfl) ?_
    refine RunsI.cond false 7 (by kernel_rfl) ?_
    refine RunsI.go 1 [.c 8] (by kernel_rfl) ?_
    refine RunsI.go 1 [.c 9, .c 10] (by kernel_rfl) ?_
    refine RunsI.region (by kernel_rfl) ?_
    refine RegI.op (by kernel_rfl) (OpE.loadBox 14 2 53 b2 0 (.agg #[.slice pA0_0 p0_0.length pc0_0, .int .i64 p0_1, .int .i64 p0_2, .slice pA0_3 p0_3.length pc0_3]) h7 (by kernel_rfl) (by kernel_rfl) rfl (by kernel_rfl) ?_)
    refine RegI.op (by kernel_rfl) (OpE.storeBox 3 53 b6 0 (.agg #[.slice pA0_0 p0_0.length pc0_0, .int .i64 p0_1, .int .i64 p0_2, .slice pA0_3 p0_3.length pc0_3]) [.slice pA0_0 p0_0.length pc0_0, .int .i64 p0_1, .int .i64 p0_2, .slice pA0_3 p0_3.length pc0_3] h7 (by kernel_rfl) (by kernel_rfl) rfl (by kernel_rfl) (by kernel_rfl) (by kernel_rfl) ?_)
    intro w17 h18 hk19
    refine RegI.done (by kernel_rfl) ?_
    refine RunsI.retW [.cell 4 53] [.agg #[.slice pA0_0 p0_0.length pc0_0, .int .i64 p0_1, .int .i64 p0_2, .slice pA0_3 p0_3.length pc0_3]] (.agg #[.slice pA0_0 p0_0.length pc0_0, .int .i64 p0_1, .int .i64 p0_2, .slice pA0_3 p0_3.length pc0_3]) (by kernel_rfl) (by kernel_rfl) (ResAt.box 3 53 b6 0 h18 (by kernel_rfl) (by kernel_rfl) rfl (by kernel_rfl) rfl) (by kernel_rfl) ?_
    obtain rfl := Option.some.inj h
    exact ⟨pA0_0, pc0_0, pA0_3, pc0_3, rfl, h18.pick [0, 1] (by decide)⟩
end

/-! ### charabanc/banks.Load (function 43) -/
section
def banks_Load_43.post (M0 : Nat → Prop) (w0 : World) (r : (List Int) × Int × Int × (List (Int × Int))) : Ending → World → Prop := fun e w => ∃ (A1 : Option Addr) (c1 : Nat) (A4 : Option Addr) (c4 : Nat), e = .returned (.agg #[.slice A1 r.1.length c1, .int .i64 r.2.1, .int .i64 r.2.2.1, .slice A4 r.2.2.2.length c4]) ∧ Holds M0 w0 w [sl (Rp.int .u8) (.slice A1 r.1.length c1) r.1, sl (Rp.pair (Rp.int .i64) (Rp.int .u8)) (.slice A4 r.2.2.2.length c4) r.2.2.2]
def banks_Load_43.l0 (K : Nat) (p0_0 : List Int) (p0_1 : Int) (p0_2 : Int) (p0_3 : List (Int × Int)) (p1 : Int) (p2 : List Int) : Nat → (List Int) → Int → Int → (List (Int × Int)) → Int → Option ((List Int) × Int × Int × (List (Int × Int)))
  | 0, _, _, _, _, _ => none
  | k + 1, t12, t13, t14, t17, t19 => cond (decide (t19 < (p2.length : Int))) (cond (inR t19 p2.length) ((banks_Store_put_59.f K t12 t13 t14 t17 (IntKind.wrap .i64 (p1 + t19)) (rdD p2 t19)).bind fun yt31 => banks_Load_43.l0 K p0_0 p0_1 p0_2 p0_3 p1 p2 k yt31.1 yt31.2.1 yt31.2.2.1 yt31.2.2.2 (IntKind.wrap .i64 (t19 + 1))) none) (some (t12, t13, t14, t17))
set_option maxRecDepth 100000 in
theorem banks_Load_43.l0_ok (K : Nat) (M0 : Nat → Prop) (w0 : World) (pA0_0 : Option Addr) (pc0_0 : Nat) (pA0_3 : Option Addr) (pc0_3 : Nat) (pA2 : Option Addr) (pc2 : Nat) (p0_0 : List Int) (p0_1 : Int) (p0_2 : Int) (p0_3 : List (Int × Int)) (p1 : Int) (p2 : List Int) (b9 : Nat) (b18 : Nat) (R : Ending → World → Prop) (x : (List Int) × Int × Int × (List (Int × Int))) (hk0 : ∀ (t48 : List Int) (t49 : Int) (t50 : Int) (t53 : List (Int × Int)) (A46 : Option Addr) (c47 : Nat) (A51 : Option Addr) (c52 : Nat) (w1 : World), x = (t48, t49, t50, t53) → Holds M0 w0 w1 [box b9 53 [.slice A46 t48.length c47, .int .i64 t49, .int .i64 t50, .slice A51 t53.length c52], sl (Rp.int .u8) (.slice A46 t48.length c47) t48, sl (Rp.pair (Rp.int .i64) (Rp.int .u8)) (.slice A51 t53.length c52) t53, box b18 53 [.slice none 0 0, .int .i64 0, .int .i64 0, .slice none 0 0]] → RunsI F43 [.c 19] [(3, .pointer (some ⟨b9, 0, none⟩)), (6, .pointer (some ⟨b18, 0, none⟩))] w1 R) :
    ∀ (k : Nat) (t12 : List Int) (t13 : Int) (t14 : Int) (t17 : List (Int × Int)) (t19 : Int) (A10 : Option Addr) (c11 : Nat) (A15 : Option Addr) (c16 : Nat) (w : World), banks_Load_43.l0 K p0_0 p0_1 p0_2 p0_3 p1 p2 k t12 t13 t14 t17 t19 = some x → Holds M0 w0 w [box b9 53 [.slice A10 t12.length c11, .int .i64 t13, .int .i64 t14, .slice A15 t17.length c16], sl (Rp.int .u8) (.slice A10 t12.length c11) t12, sl (Rp.pair (Rp.int .i64) (Rp.int .u8)) (.slice A15 t17.length c16) t17, box b18 53 [.slice none 0 0, .int .i64 0, .int .i64 0, .slice none 0 0], sl (Rp.int .u8) (.slice pA2 p2.length pc2) p2] → RunsI F43 [.c 7, .lp 7, .blk 0, .c 19] [(1, .int .i64 p1), (3, .pointer (some ⟨b9, 0, none⟩)), (6, .pointer (some ⟨b18, 0, none⟩)), (9, .slice pA2 p2.length pc2), (10, .int .i64 (p2.length : Int)), (11, .int .i64 t19)] w R := by
  intro k
  induction k with
  | zero => intro t12 t13 t14 t17 t19 A10 c11 A15 c16 w h hH; exact absurd h (by simp [banks_Load_43.l0])
  | succ k ih =>
    intro t12 t13 t14 t17 t19 A10 c11 A15 c16 w h hH
    rw [banks_Load_43.l0.eq_2] at h
    refine RunsI.go 1 [.c 8, .c 9, .lp 7, .blk 0, .c 19] (by kernel_rfl) ?_
    refine RunsI.region (by kernel_rfl) ?_
    refine RegI.pure 1 [1, 3, 6, 9, 10, 11, 12] [(1, .int .i64 p1), (3, .pointer (some ⟨b9, 0, none⟩)), (6, .pointer (some ⟨b18, 0, none⟩)), (9, .slice pA2 p2.length pc2), (10, .int .i64 (p2.length : Int)), (11, .int .i64 t19), (12, .bool (decide (t19 < (p2.length : Int))))] (by kernel_rfl) ?_
    refine RegI.done (by kernel_rfl) ?_
    refine RunsI.go 1 [.c 10, .c 13, .lp 7, .blk 0, .c 19] (by kernel_rfl) ?_
    rcases of_cond h with ⟨hc20, h⟩ | ⟨hc20, h⟩
    · skip
      refine RunsI.fix 12 true hc20 (by kernel_rfl) (by kernel_rfl) ?_
      refine RunsI.cond true 11 (by kernel_rfl) ?_
      refine RunsI.go 1 [.c 13, .lp 7, .blk 0, .c 19] (by kernel_rfl) ?_
      refine RunsI.go 3 [.c 16, .c 17, .blk 1, .c 18, .lp 7, .blk 0, .c 19] (by kernel_rfl) ?_
      refine RunsI.region (by kernel_rfl) ?_
      refine RegI.pure 1 [1, 3, 6, 9, 10, 11, 13] [(1, .int .i64 p1), (3, .pointer (some ⟨b9, 0, none⟩)), (6, .pointer (some ⟨b18, 0, none⟩)), (9, .slice pA2 p2.length pc2), (10, .int .i64 (p2.length : Int)), (11, .int .i64 t19), (13, .int .i64 t19)] (by kernel_rfl) ?_
      obtain ⟨hc21, h⟩ := of_cond0 h
      refine RegI.op (by kernel_rfl) (OpE.idxSl 14 4 38 t19 hH (by kernel_rfl) rfl (by kernel_rfl) (by kernel_rfl) hc21 ?_)
      intro b22 o23 cs24 hk25 h26
      obtain rfl := hk25
      refine RegI.op (by kernel_rfl) (OpE.loadCel 15 5 5 b22 o23 0 (.int .u8 (rdD p2 t19)) h26 (by kernel_rfl) (by kernel_rfl) rfl (by kernel_rfl) ?_)
      refine RegI.pure 2 [1, 3, 6, 7, 8, 9, 10, 11] [(1, .int .i64 p1), (3, .pointer (some ⟨b9, 0, none⟩)), (6, .pointer (some ⟨b18, 0, none⟩)), (7, .int .i64 t19), (8, .int .u8 (rdD p2 t19)), (9, .slice pA2 p2.length pc2), (10, .int .i64 (p2.length : Int)), (11, .int .i64 t19)] (by kernel_rfl) ?_
      refine RegI.done (by kernel_rfl) ?_
      refine RunsI.region (by kernel_rfl) ?_
      refine RegI.op (by kernel_rfl) (OpE.loadBox 16 0 53 b9 0 (.agg #[.slice A10 t12.length c11, .int .i64 t13, .int .i64 t14, .slice A15 t17.length c16]) h26 (by kernel_rfl) (by kernel_rfl) rfl (by kernel_rfl) ?_)
      refine RegI.pure 4 [1, 3, 6, 9, 10, 11, 16, 19, 20] [(1, .int .i64 p1), (3, .pointer (some ⟨b9, 0, none⟩)), (6, .pointer (some ⟨b18, 0, none⟩)), (9, .slice pA2 p2.length pc2), (10, .int .i64 (p2.length : Int)), (11, .int .i64 t19), (16, .agg #[.slice A10 t12.length c11, .int .i64 t13, .int .i64 t14, .slice A15 t17.length c16]), (19, .int .i64 (IntKind.wrap .i64 (p1 + t19))), (20, .int .u8 (rdD p2 t19))] (by kernel_rfl) ?_
      obtain ⟨⟨t31, t35, t36, t37⟩, hg30, h⟩ := of_bind h
      dsimp only at h
      refine RegI.op (by kernel_rfl) (OpE.call 21 (by kernel_rfl) 59 #[.agg #[.slice A10 t12.length c11, .int .i64 t13, .int .i64 t14, .slice A15 t17.length c16], .int .i64 (IntKind.wrap .i64 (p1 + t19)), .int .u8 (rdD p2 t19)] (by kernel_rfl) ((banks_Store_put_59_ok K _ w  A10 c11 A15 c16 t12 t13 t14 t17 (IntKind.wrap .i64 (p1 + t19)) (rdD p2 t19) h26.old' (h26.get 1 rfl) (h26.get 2 rfl) hg30).mono ?_))
      rintro _ w27 ⟨A32, c33, A38, c39, rfl, hr41⟩
      refine ⟨_, rfl, ?_⟩
      have hb28 := hr41.below
      have h29 := h26.join hr41
      refine RegI.op (by kernel_rfl) (OpE.storeBox 0 53 b9 0 (.agg #[.slice A32 t31.length c33, .int .i64 t35, .int .i64 t36, .slice A38 t37.length c39]) [.slice A32 t31.length c33, .int .i64 t35, .int .i64 t36, .slice A38 t37.length c39] h29 (by kernel_rfl) (by kernel_rfl) rfl (by kernel_rfl) (by kernel_rfl) (by kernel_rfl) ?_)
      intro w42 h43 hk44
      refine RegI.done (by kernel_rfl) ?_
      refine RunsI.go 1 [.c 18, .lp 7, .blk 0, .c 19] (by kernel_rfl) ?_
      refine RunsI.region (by kernel_rfl) ?_
      refine RegI.pure 2 [1, 3, 6, 9, 10, 11] [(1, .int .i64 p1), (3, .pointer (some ⟨b9, 0, none⟩)), (6, .pointer (some ⟨b18, 0, none⟩)), (9, .slice pA2 p2.length pc2), (10, .int .i64 (p2.length : Int)), (11, .int .i64 (IntKind.wrap .i64 (t19 + 1)))] (by kernel_rfl) ?_
      refine RegI.done (by kernel_rfl) ?_
      refine RunsI.go 1 [.c 7, .lp 7, .blk 0, .c 19] (by kernel_rfl) ?_
      have h45 := h43.release 7 rfl
      refine RunsI.only [1, 3, 6, 9, 10, 11] [(1, .int .i64 p1), (3, .pointer (some ⟨b9, 0, none⟩)), (6, .pointer (some ⟨b18, 0, none⟩)), (9, .slice pA2 p2.length pc2), (10, .int .i64 (p2.length : Int)), (11, .int .i64 (IntKind.wrap .i64 (t19 + 1)))] (by kernel_rfl) (by kernel_rfl) ?_
      exact ih t31 t35 t36 t37 (IntKind.wrap .i64 (t19 + 1)) A32 c33 A38 c39 w42 h (h45.pick [0, 6, 7, 3, 4] (by decide))
    · skip
      refine RunsI.fix 12 false hc20 (by kernel_rfl) (by kernel_rfl) ?_
      refine RunsI.cond false 12 (by kernel_rfl) ?_
      refine RunsI.go 1 [.c 19] (by kernel_rfl) ?_
      refine RunsI.only [3, 6] [(3, .pointer (some ⟨b9, 0, none⟩)), (6, .pointer (some ⟨b18, 0, none⟩))] (by kernel_rfl) (by kernel_rfl) ?_
      exact hk0 t12 t13 t14 t17 A10 c11 A15 c16 w (Option.some.inj h).symm (hH.pick [0, 1, 2, 3] (by decide))
def banks_Load_43.f (K : Nat) (p0_0 : List Int) (p0_1 : Int) (p0_2 : Int) (p0_3 : List (Int × Int)) (p1 : Int) (p2 : List Int) : Option ((List Int) × Int × Int × (List (Int × Int))) := (banks_Load_43.l0 K p0_0 p0_1 p0_2 p0_3 p1 p2 K p0_0 p0_1 p0_2 p0_3 0).bind (fun yx54 => some (yx54.1, yx54.2.1, yx54.2.2.1, yx54.2.2.2))
set_option maxRecDepth 100000 in
theorem banks_Load_43_ok (K : Nat) (M0 : Nat → Prop) (w0 : World) (pA0_0 : Option Addr) (pc0_0 : Nat) (pA0_3 : Option Addr) (pc0_3 : Nat) (pA2 : Option Addr) (pc2 : Nat) (p0_0 : List Int) (p0_1 : Int) (p0_2 : Int) (p0_3 : List (Int × Int)) (p1 : Int) (p2 : List Int) (ho : ∀ b, M0 b → b < w0.heap.size) (hs0_0 : Sl (Rp.int .u8) w0 M0 (.slice pA0_0 p0_0.length pc0_0) p0_0) (hs0_3 : Sl (Rp.pair (Rp.int .i64) (Rp.int .u8)) w0 M0 (.slice pA0_3 p0_3.length pc0_3) p0_3) (hs2 : Sl (Rp.int .u8) w0 M0 (.slice pA2 p2.length pc2) p2) {r : (List Int) × Int × Int × (List (Int × Int))} (h : banks_Load_43.f K p0_0 p0_1 p0_2 p0_3 p1 p2 = some r) :
    Calls Try.prog 43 #[.agg #[.slice pA0_0 p0_0.length pc0_0, .int .i64 p0_1, .int .i64 p0_2, .slice pA0_3 p0_3.length pc0_3], .int .i64 p1, .slice pA2 p2.length pc2] w0 (banks_Load_43.post M0 w0 r) := by
  unfold banks_Load_43.f at h
  have h0 : Holds M0 w0 w0 [] := Holds.start ho
  have h00_0 := h0.addSl (Rp.int .u8) (.slice pA0_0 p0_0.length pc0_0) p0_0 (hs0_0.mono (fun _ _ hm => hm.elim id (fun hm => absurd hm (by simp [mines, sl]))))
  have h00_3 := h00_0.addSl (Rp.pair (Rp.int .i64) (Rp.int .u8)) (.slice pA0_3 p0_3.length pc0_3) p0_3 (hs0_3.mono (fun _ _ hm => hm.elim id (fun hm => absurd hm (by simp [mines, sl]))))
  have h02 := h00_3.addSl (Rp.int .u8) (.slice pA2 p2.length pc2) p2 (hs2.mono (fun _ _ hm => hm.elim id (fun hm => absurd hm (by simp [mines, sl]))))
  have h0 : Holds M0 w0 w0 [sl (Rp.int .u8) (.slice pA0_0 p0_0.length pc0_0) p0_0, sl (Rp.pair (Rp.int .i64) (Rp.int .u8)) (.slice pA0_3 p0_3.length pc0_3) p0_3, sl (Rp.int .u8) (.slice pA2 p2.length pc2) p2] := h02
  refine calls_of F43 rfl [.agg #[.slice pA0_0 p0_0.length pc0_0, .int .i64 p0_1, .int .i64 p0_2, .slice pA0_3 p0_3.length pc0_3], .int .i64 p1, .slice pA2 p2.length pc2] (by kernel_rfl) ?_
  refine RunsI.go 1 [.c 1, .c 2] (by kernel_rfl) ?_
  refine RunsI.region (by kernel_rfl) ?_
  refine RegI.op (by kernel_rfl) (OpE.box 3 53 [.slice pA0_0 p0_0.length pc0_0, .int .i64 p0_1, .int .i64 p0_2, .slice pA0_3 p0_3.length pc0_3] h0 (by kernel_rfl) (by kernel_rfl) ?_)
  intro w1 b2 h3 hb4
  refine RegI.op (by kernel_rfl) (OpE.box 6 53 [.slice none 0 0, .int .i64 0, .int .i64 0, .slice none 0 0] h3 (by kernel_rfl) (by kernel_rfl) ?_)
  intro w5 b6 h7 hb8
  refine RegI.done (by kernel_rfl) ?_
  refine RunsI.go 2 [.c 4, .c 5, .c 19] (by kernel_rfl) ?_
  refine RunsI.region (by kernel_rfl) ?_
  refine RegI.pure 3 [1, 3, 6, 9, 10, 11] [(1, .int .i64 p1), (3, .pointer (some ⟨b2, 0, none⟩)), (6, .pointer (some ⟨b6, 0, none⟩)), (9, .slice pA2 p2.length pc2), (10, .int .i64 (p2.length : Int)), (11, .int .i64 0)] (by kernel_rfl) ?_
  refine RegI.done (by kernel_rfl) ?_
  refine RunsI.go 2 [.c 7, .lp 7, .blk 0, .c 19] (by kernel_rfl) ?_
  obtain ⟨x54, hx55, h⟩ := of_bind h
  refine RunsI.only [1, 3, 6, 9, 10, 11] [(1, .int .i64 p1), (3, .pointer (some ⟨b2, 0, none⟩)), (6, .pointer (some ⟨b6, 0, none⟩)), (9, .slice pA2 p2.length pc2), (10, .int .i64 (p2.length : Int)), (11, .int .i64 0)] (by kernel_rfl) (by kernel_rfl) ?_
  refine banks_Load_43.l0_ok K M0 w0 pA0_0 pc0_0 pA0_3 pc0_3 pA2 pc2 p0_0 p0_1 p0_2 p0_3 p1 p2 b2 b6 _ x54 ?_ K p0_0 p0_1 p0_2 p0_3 0 pA0_0 pc0_0 pA0_3 pc0_3 w5 hx55 (h7.pick [3, 0, 1, 4, 2] (by decide))
  · intro t58 t59 t60 t63 A56 c57 A61 c62 w65 hq69 h64
    (try rw [hq69] at h)
    dsimp only at h
    refine RunsI.go 1 [.c 20, .c 21] (by kernel_rfl) ?_
    refine RunsI.region (by kernel_rfl) ?_
    refine RegI.op (by kernel_rfl) (OpE.loadBox 23 0 53 b2 0 (.agg #[.slice A56 t58.length c57, .int .i64 t59, .int .i64 t60, .slice A61 t63.length c62]) h64 (by kernel_rfl) (by kernel_rfl) rfl (by kernel_rfl) ?_)
    refine RegI.op (by kernel_rfl) (OpE.storeBox 3 53 b6 0 (.agg #[.slice A56 t58.length c57, .int .i64 t59, .int .i64 t60, .slice A61 t63.length c62]) [.slice A56 t58.length c57, .int .i64 t59, .int .i64 t60, .slice A61 t63.length c62] h64 (by kernel_rfl) (by kernel_rfl) rfl (by kernel_rfl) (by kernel_rfl) (by kernel_rfl) ?_)
    intro w66 h67 hk68
    refine RegI.done (by kernel_rfl) ?_
    refine RunsI.retW [.cell 6 53] [.agg #[.slice A56 t58.length c57, .int .i64 t59, .int .i64 t60, .slice A61 t63.length c62]] (.agg #[.slice A56 t58.length c57, .int .i64 t59, .int .i64 t60, .slice A61 t63.length c62]) (by kernel_rfl) (by kernel_rfl) (ResAt.box 3 53 b6 0 h67 (by kernel_rfl) (by kernel_rfl) rfl (by kernel_rfl) rfl) (by kernel_rfl) ?_
    obtain rfl := Option.some.inj h
    exact ⟨A56, c57, A61, c62, rfl, h67.pick [1, 2] (by decide)⟩
end

/-! ### charabanc/charabanclaw19.plain (function 33) -/
section
def charabanclaw19_plain_33.post (M0 : Nat → Prop) (w0 : World) (r : (List Int) × Int × Int × (List (Int × Int))) : Ending → World → Prop := fun e w => ∃ (A1 : Option Addr) (c1 : Nat) (A4 : Option Addr) (c4 : Nat), e = .returned (.agg #[.slice A1 r.1.length c1, .int .i64 r.2.1, .int .i64 r.2.2.1, .slice A4 r.2.2.2.length c4]) ∧ Holds M0 w0 w [sl (Rp.int .u8) (.slice A1 r.1.length c1) r.1, own (Rp.pair (Rp.int .i64) (Rp.int .u8)) 88 (.slice A4 r.2.2.2.length c4) r.2.2.2]
def charabanclaw19_plain_33.l0 (K : Nat) (p0_0 : List Int) (p0_1 : Int) (p0_2 : Int) (p0_3 : List (Int × Int)) : Nat → (List (Int × Int)) → Int → Option (List (Int × Int))
  | 0, _, _ => none
  | k + 1, t22, t23 => cond (decide (t23 < (p0_3.length : Int))) (cond (inR t23 p0_3.length) (cond (mayBe (t22.length + [((rdD p0_3 t23).1, (rdD p0_3 t23).2)].length) 16) (charabanclaw19_plain_33.l0 K p0_0 p0_1 p0_2 p0_3 k (t22 ++ [((rdD p0_3 t23).1, (rdD p0_3 t23).2)]) (IntKind.wrap .i64 (t23 + 1))) none) none) (some t22)
set_option maxRecDepth 100000 in
theorem charabanclaw19_plain_33.l0_ok (K : Nat) (M0 : Nat → Prop) (w0 : World) (pA0_0 : Option Addr) (pc0_0 : Nat) (pA0_3 : Option Addr) (pc0_3 : Nat) (p0_0 : List Int) (p0_1 : Int) (p0_2 : Int) (p0_3 : List (Int × Int)) (b17 : Nat) (b18 : Nat) (b19 : Nat) (R : Ending → World → Prop) (x : (List (Int × Int))) (hk0 : ∀ (t73 : List (Int × Int)) (A71 : Option Addr) (c72 : Nat) (w1 : World), x = t73 → Holds M0 w0 w1 [box b18 60 [.slice none 0 0, .int .i64 0, .int .i64 0, .slice none 0 0], box b19 60 [.slice pA0_0 p0_0.length pc0_0, .int .i64 p0_1, .int .i64 p0_2, .slice A71 t73.length c72], sl (Rp.int .u8) (.slice pA0_0 p0_0.length pc0_0) p0_0, own (Rp.pair (Rp.int .i64) (Rp.int .u8)) 88 (.slice A71 t73.length c72) t73] → RunsI F33 [.c 19] [(2, .pointer (some ⟨b18, 0, none⟩)), (3, .pointer (some ⟨b19, 0, none⟩))] w1 R) :
    ∀ (k : Nat) (t22 : List (Int × Int)) (t23 : Int) (A20 : Option Addr) (c21 : Nat) (w : World), charabanclaw19_plain_33.l0 K p0_0 p0_1 p0_2 p0_3 k t22 t23 = some x → Holds M0 w0 w [box b17 53 [.slice pA0_0 p0_0.length pc0_0, .int .i64 p0_1, .int .i64 p0_2, .slice pA0_3 p0_3.length pc0_3], sl (Rp.int .u8) (.slice pA0_0 p0_0.length pc0_0) p0_0, sl (Rp.pair (Rp.int .i64) (Rp.int .u8)) (.slice pA0_3 p0_3.length pc0_3) p0_3, box b18 60 [.slice none 0 0, .int .i64 0, .int .i64 0, .slice none 0 0], box b19 60 [.slice pA0_0 p0_0.length pc0_0, .int .i64 p0_1, .int .i64 p0_2, .slice A20 t22.length c21], own (Rp.pair (Rp.int .i64) (Rp.int .u8)) 88 (.slice A20 t22.length c21) t22] → RunsI F33 [.c 9, .lp 9, .blk 0, .c 19] [(1, .pointer (some ⟨b17, 0, none⟩)), (2, .pointer (some ⟨b18, 0, none⟩)), (3, .pointer (some ⟨b19, 0, none⟩)), (4, .int .i64 t23)] w R := by
  intro k
  induction k with
  | zero => intro t22 t23 A20 c21 w h hH; exact absurd h (by simp [charabanclaw19_plain_33.l0])
  | succ k ih =>
    intro t22 t23 A20 c21 w h hH
    rw [charabanclaw19_plain_33.l0.eq_2] at h
    refine RunsI.go 1 [.c 10, .c 15, .lp 9, .blk 0, .c 19] (by kernel_rfl) ?_
    refine RunsI.go 1 [.c 11, .c 12, .c 15, .lp 9, .blk 0, .c 19] (by kernel_rfl) ?_
    refine RunsI.region (by kernel_rfl) ?_
    refine RegI.pure 2 [1, 2, 3, 4, 12, 13] [(1, .pointer (some ⟨b17, 0, none⟩)), (2, .pointer (some ⟨b18, 0, none⟩)), (3, .pointer (some ⟨b19, 0, none⟩)), (4, .int .i64 t23), (12, .int .i64 t23), (13, .pointer (some ⟨b17, 3, none⟩))] (by kernel_rfl) ?_
    refine RegI.op (by kernel_rfl) (OpE.loadBox 14 0 51 b17 3 (.slice pA0_3 p0_3.length pc0_3) hH (by kernel_rfl) (by kernel_rfl) rfl (by kernel_rfl) ?_)
    refine RegI.pure 2 [1, 2, 3, 4, 16] [(1, .pointer (some ⟨b17, 0, none⟩)), (2, .pointer (some ⟨b18, 0, none⟩)), (3, .pointer (some ⟨b19, 0, none⟩)), (4, .int .i64 t23), (16, .bool (decide (t23 < (p0_3.length : Int))))] (by kernel_rfl) ?_
    refine RegI.done (by kernel_rfl) ?_
    rcases of_cond h with ⟨hc24, h⟩ | ⟨hc24, h⟩
    · skip
      refine RunsI.fix 16 true hc24 (by kernel_rfl) (by kernel_rfl) ?_
      refine RunsI.cond true 13 (by kernel_rfl) ?_
      refine RunsI.go 1 [.c 15, .lp 9, .blk 0, .c 19] (by kernel_rfl) ?_
      refine RunsI.go 2 [.c 17, .blk 1, .c 18, .lp 9, .blk 0, .c 19] (by kernel_rfl) ?_
      refine RunsI.any 19 (by kernel_rfl) (by kernel_rfl) (by kernel_rfl) (Kp (mines (pick [box b17 53 [.slice pA0_0 p0_0.length pc0_0, .int .i64 p0_1, .int .i64 p0_2, .slice pA0_3 p0_3.length pc0_3], sl (Rp.int .u8) (.slice pA0_0 p0_0.length pc0_0) p0_0, sl (Rp.pair (Rp.int .i64) (Rp.int .u8)) (.slice pA0_3 p0_3.length pc0_3) p0_3, box b18 60 [.slice none 0 0, .int .i64 0, .int .i64 0, .slice none 0 0], box b19 60 [.slice pA0_0 p0_0.length pc0_0, .int .i64 p0_1, .int .i64 p0_2, .slice A20 t22.length c21], own (Rp.pair (Rp.int .i64) (Rp.int .u8)) 88 (.slice A20 t22.length c21) t22] [5])) (World.drew w)) ?_
      have h26 := hH.drew
      generalize World.drew w = w25 at h26 ⊢
      have hS27 := Kp.refl (mines (pick [box b17 53 [.slice pA0_0 p0_0.length pc0_0, .int .i64 p0_1, .int .i64 p0_2, .slice pA0_3 p0_3.length pc0_3], sl (Rp.int .u8) (.slice pA0_0 p0_0.length pc0_0) p0_0, sl (Rp.pair (Rp.int .i64) (Rp.int .u8)) (.slice pA0_3 p0_3.length pc0_3) p0_3, box b18 60 [.slice none 0 0, .int .i64 0, .int .i64 0, .slice none 0 0], box b19 60 [.slice pA0_0 p0_0.length pc0_0, .int .i64 p0_1, .int .i64 p0_2, .slice A20 t22.length c21], own (Rp.pair (Rp.int .i64) (Rp.int .u8)) 88 (.slice A20 t22.length c21) t22] [5])) w25
      refine AnyE.pure 0 19 (.pointer (some ⟨b19, 3, none⟩)) (by kernel_rfl) hS27 (fun _ => by kernel_rfl) ?_
      refine AnyE.loadBox 1 20 4 58 b19 3 (.slice A20 t22.length c21) [5] h26 rfl (by kernel_rfl) hS27 rfl rfl (by kernel_rfl) (by kernel_rfl) ?_
      refine AnyE.pure 2 21 (.pointer (some ⟨b17, 3, none⟩)) (by kernel_rfl) hS27 (fun _ => by kernel_rfl) ?_
      refine AnyE.loadBox 3 22 0 51 b17 3 (.slice pA0_3 p0_3.length pc0_3) [5] h26 rfl (by kernel_rfl) hS27 rfl rfl (by kernel_rfl) (by kernel_rfl) ?_
      refine AnyE.pure 4 23 (.int .i64 t23) (by kernel_rfl) hS27 (fun _ => by kernel_rfl) ?_
      obtain ⟨hc29, h⟩ := of_cond0 h
      refine AnyE.idxSl 5 24 2 51 t23 h26 (by kernel_rfl) hS27 rfl (by kernel_rfl) (by kernel_rfl) hc29 ?_
      intro b30 o31 cs32 hk33 h34
      obtain ⟨_, _, rfl, rfl, rfl⟩ := hk33
      refine AnyE.pure 6 25 (.pointer (some ⟨b30, o31, none⟩)) (by kernel_rfl) hS27 (fun _ => by kernel_rfl) ?_
      refine AnyE.loadCel 7 26 6 3 b30 o31 0 (.int .i64 ((rdD p0_3 t23).1)) [5] h34 rfl (by kernel_rfl) hS27 rfl rfl (by kernel_rfl) (by kernel_rfl) ?_
      refine AnyE.pure 8 27 (.pointer (some ⟨b17, 3, none⟩)) (by kernel_rfl) hS27 (fun _ => by kernel_rfl) ?_
      refine AnyE.loadBox 9 28 0 51 b17 3 (.slice pA0_3 p0_3.length pc0_3) [5] h34 rfl (by kernel_rfl) hS27 rfl rfl (by kernel_rfl) (by kernel_rfl) ?_
      refine AnyE.pure 10 29 (.int .i64 t23) (by kernel_rfl) hS27 (fun _ => by kernel_rfl) ?_
      refine AnyE.idxSl 11 30 2 51 t23 h34 (by kernel_rfl) hS27 rfl (by kernel_rfl) (by kernel_rfl) hc29 ?_
      intro b35 o36 cs37 hk38 h39
      obtain ⟨_, _, rfl, rfl, rfl⟩ := hk38
      refine AnyE.pure 12 31 (.pointer (some ⟨b35, o36 + 1, none⟩)) (by kernel_rfl) hS27 (fun _ => by kernel_rfl) ?_
      refine AnyE.loadCel 13 32 7 5 b35 o36 1 (.int .u8 ((rdD p0_3 t23).2)) [5] h39 rfl (by kernel_rfl) hS27 rfl rfl (by kernel_rfl) (by kernel_rfl) ?_
      refine AnyE.pure 14 33 (.agg #[.int .i64 ((rdD p0_3 t23).1), .int .u8 ((rdD p0_3 t23).2)]) (by kernel_rfl) hS27 (fun _ => by kernel_rfl) ?_
      refine AnyE.one 15 (by kernel_rfl) (fun w40 hu41 => ?_)
      have h42 := h39.call hu41
      have hS43 := hS27.up hu41
      refine OpE.lit 34 88 [.int .i64 ((rdD p0_3 t23).1), .int .u8 ((rdD p0_3 t23).2)] 1 h42 (by kernel_rfl) (by kernel_rfl) ?_
      intro w44 b45 h46 hb47
      have hS48 := hS43.up hb47
      refine ⟨hS48, ?_⟩
      refine AnyE.one 16 (by kernel_rfl) (fun w49 hu50 => ?_)
      have h51 := h46.call hu50
      have hS52 := hS48.up hu50
      obtain ⟨hc53, h⟩ := of_cond0 h
      refine OpE.appendBox 35 5 8 58 88 16 [((rdD p0_3 t23).1, (rdD p0_3 t23).2)] 0 h51 (by kernel_rfl) (by kernel_rfl) (by kernel_rfl) rfl rfl rfl (⟨[_, _], _, rfl, ⟨[_], [_], rfl, rfl, rfl⟩, rfl⟩) hc53 ?_
      intro w54 A55 c56 h57 hk58
      have hS59 := hS52.trans hk58 (Kp.turned h39 [5] rfl 5 rfl rfl)
      refine ⟨hS59, ?_⟩
      refine AnyE.pure 17 36 (.pointer (some ⟨b19, 3, none⟩)) (by kernel_rfl) hS59 (fun _ => by kernel_rfl) ?_
      refine AnyE.last 18 (by kernel_rfl) (by kernel_rfl) (fun w60 hu61 => ?_)
      have h62 := h57.call hu61
      have hS63 := hS59.up hu61
      refine OpE.storeBox 4 58 b19 3 (.slice A55 ((t22 ++ [((rdD p0_3 t23).1, (rdD p0_3 t23).2)]).length) c56) [.slice pA0_0 p0_0.length pc0_0, .int .i64 p0_1, .int .i64 p0_2, .slice A55 ((t22 ++ [((rdD p0_3 t23).1, (rdD p0_3 t23).2)]).length) c56] h62 (by kernel_rfl) (by kernel_rfl) rfl (by kernel_rfl) (by kernel_rfl) (by kernel_rfl) ?_
      intro w64 h65 hk66
      refine AnyE.done (by kernel_rfl) (fun w68 hu69 => ?_)
      have h70 := h65.call hu69
      refine RunsI.only [1, 2, 3, 4] [(1, .pointer (some ⟨b17, 0, none⟩)), (2, .pointer (some ⟨b18, 0, none⟩)), (3, .pointer (some ⟨b19, 0, none⟩)), (4, .int .i64 t23)] (by kernel_rfl) (by kernel_rfl) ?_
      refine RunsI.go 1 [.c 18, .lp 9, .blk 0, .c 19] (by kernel_rfl) ?_
      refine RunsI.region (by kernel_rfl) ?_
      refine RegI.pure 3 [1, 2, 3, 4] [(1, .pointer (some ⟨b17, 0, none⟩)), (2, .pointer (some ⟨b18, 0, none⟩)), (3, .pointer (some ⟨b19, 0, none⟩)), (4, .int .i64 (IntKind.wrap .i64 (t23 + 1)))] (by kernel_rfl) ?_
      refine RegI.done (by kernel_rfl) ?_
      refine RunsI.go 1 [.c 9, .lp 9, .blk 0, .c 19] (by kernel_rfl) ?_
      refine RunsI.only [1, 2, 3, 4] [(1, .pointer (some ⟨b17, 0, none⟩)), (2, .pointer (some ⟨b18, 0, none⟩)), (3, .pointer (some ⟨b19, 0, none⟩)), (4, .int .i64 (IntKind.wrap .i64 (t23 + 1)))] (by kernel_rfl) (by kernel_rfl) ?_
      exact ih (t22 ++ [((rdD p0_3 t23).1, (rdD p0_3 t23).2)]) (IntKind.wrap .i64 (t23 + 1)) A55 c56 w68 h (h70.pick [0, 1, 2, 3, 4, 5] (by decide))
    · skip
      refine RunsI.fix 16 false hc24 (by kernel_rfl) (by kernel_rfl) ?_
      refine RunsI.cond false 14 (by kernel_rfl) ?_
      refine RunsI.go 1 [.c 19] (by kernel_rfl) ?_
      refine RunsI.only [2, 3] [(2, .pointer (some ⟨b18, 0, none⟩)), (3, .pointer (some ⟨b19, 0, none⟩))] (by kernel_rfl) (by kernel_rfl) ?_
      exact hk0 t22 A20 c21 w (Option.some.inj h).symm (hH.pick [3, 4, 1, 5] (by decide))
def charabanclaw19_plain_33.f (K : Nat) (p0_0 : List Int) (p0_1 : Int) (p0_2 : Int) (p0_3 : List (Int × Int)) : Option ((List Int) × Int × Int × (List (Int × Int))) := (charabanclaw19_plain_33.l0 K p0_0 p0_1 p0_2 p0_3 K ([] : List (Int × Int)) 0).bind (fun t78 => some (p0_0, p0_1, p0_2, t78))
set_option maxRecDepth 100000 in
theorem charabanclaw19_plain_33_ok (K : Nat) (M0 : Nat → Prop) (w0 : World) (pA0_0 : Option Addr) (pc0_0 : Nat) (pA0_3 : Option Addr) (pc0_3 : Nat) (p0_0 : List Int) (p0_1 : Int) (p0_2 : Int) (p0_3 : List (Int × Int)) (ho : ∀ b, M0 b → b < w0.heap.size) (hs0_0 : Sl (Rp.int .u8) w0 M0 (.slice pA0_0 p0_0.length pc0_0) p0_0) (hs0_3 : Sl (Rp.pair (Rp.int .i64) (Rp.int .u8)) w0 M0 (.slice pA0_3 p0_3.length pc0_3) p0_3) {r : (List Int) × Int × Int × (List (Int × Int))} (h : charabanclaw19_plain_33.f K p0_0 p0_1 p0_2 p0_3 = some r) :
    Calls Try.prog 33 #[.agg #[.slice pA0_0 p0_0.length pc0_0, .int .i64 p0_1, .int .i64 p0_2, .slice pA0_3 p0_3.length pc0_3]] w0 (charabanclaw19_plain_33.post M0 w0 r) := by
  unfold charabanclaw19_plain_33.f at h
  have h0 : Holds M0 w0 w0 [] := Holds.start ho
  have h00_0 := h0.addSl (Rp.int .u8) (.slice pA0_0 p0_0.length pc0_0) p0_0 (hs0_0.mono (fun _ _ hm => hm.elim id (fun hm => absurd hm (by simp [mines, sl]))))
  have h00_3 := h00_0.addSl (Rp.pair (Rp.int .i64) (Rp.int .u8)) (.slice pA0_3 p0_3.length pc0_3) p0_3 (hs0_3.mono (fun _ _ hm => hm.elim id (fun hm => absurd hm (by simp [mines, sl]))))
  have h0 : Holds M0 w0 w0 [sl (Rp.int .u8) (.slice pA0_0 p0_0.length pc0_0) p0_0, sl (Rp.pair (Rp.int .i64) (Rp.int .u8)) (.slice pA0_3 p0_3.length pc0_3) p0_3] := h00_3
  refine calls_of F33 rfl [.agg #[.slice pA0_0 p0_0.length pc0_0, .int .i64 p0_1, .int .i64 p0_2, .slice pA0_3 p0_3.length pc0_3]] (by kernel_rfl) ?_
  refine RunsI.go 1 [.c 1, .c 2] (by kernel_rfl) ?_
  refine RunsI.region (by kernel_rfl) ?_
  refine RegI.op (by kernel_rfl) (OpE.box 1 53 [.slice pA0_0 p0_0.length pc0_0, .int .i64 p0_1, .int .i64 p0_2, .slice pA0_3 p0_3.length pc0_3] h0 (by kernel_rfl) (by kernel_rfl) ?_)
  intro w1 b2 h3 hb4
  refine RegI.op (by kernel_rfl) (OpE.box 2 60 [.slice none 0 0, .int .i64 0, .int .i64 0, .slice none 0 0] h3 (by kernel_rfl) (by kernel_rfl) ?_)
  intro w5 b6 h7 hb8
  refine RegI.done (by kernel_rfl) ?_
  refine RunsI.go 1 [.c 3, .c 4] (by kernel_rfl) ?_
  refine RunsI.region (by kernel_rfl) ?_
  refine RegI.pure 1 [1, 2, 5] [(1, .pointer (some ⟨b2, 0, none⟩)), (2, .pointer (some ⟨b6, 0, none⟩)), (5, .pointer (some ⟨b2, 0, none⟩))] (by kernel_rfl) ?_
  refine RegI.op (by kernel_rfl) (OpE.loadBox 6 2 38 b2 0 (.slice pA0_0 p0_0.length pc0_0) h7 (by kernel_rfl) (by kernel_rfl) rfl (by kernel_rfl) ?_)
  refine RegI.pure 1 [1, 2, 6, 7] [(1, .pointer (some ⟨b2, 0, none⟩)), (2, .pointer (some ⟨b6, 0, none⟩)), (6, .slice pA0_0 p0_0.length pc0_0), (7, .pointer (some ⟨b2, 1, none⟩))] (by kernel_rfl) ?_
  refine RegI.op (by kernel_rfl) (OpE.loadBox 8 2 3 b2 1 (.int .i64 p0_1) h7 (by kernel_rfl) (by kernel_rfl) rfl (by kernel_rfl) ?_)
  refine RegI.pure 1 [1, 2, 6, 8, 9] [(1, .pointer (some ⟨b2, 0, none⟩)), (2, .pointer (some ⟨b6, 0, none⟩)), (6, .slice pA0_0 p0_0.length pc0_0), (8, .int .i64 p0_1), (9, .pointer (some ⟨b2, 2, none⟩))] (by kernel_rfl) ?_
  refine RegI.op (by kernel_rfl) (OpE.loadBox 10 2 3 b2 2 (.int .i64 p0_2) h7 (by kernel_rfl) (by kernel_rfl) rfl (by kernel_rfl) ?_)
  refine RegI.pure 1 [1, 2, 11] [(1, .pointer (some ⟨b2, 0, none⟩)), (2, .pointer (some ⟨b6, 0, none⟩)), (11, .agg #[.slice pA0_0 p0_0.length pc0_0, .int .i64 p0_1, .int .i64 p0_2, .slice none 0 0])] (by kernel_rfl) ?_
  refine RegI.op (by kernel_rfl) (OpE.box 3 60 [.slice none 0 0, .int .i64 0, .int .i64 0, .slice none 0 0] h7 (by kernel_rfl) (by kernel_rfl) ?_)
  intro w9 b10 h11 hb12
  refine RegI.op (by kernel_rfl) (OpE.storeBox 4 60 b10 0 (.agg #[.slice pA0_0 p0_0.length pc0_0, .int .i64 p0_1, .int .i64 p0_2, .slice none 0 0]) [.slice pA0_0 p0_0.length pc0_0, .int .i64 p0_1, .int .i64 p0_2, .slice none 0 0] h11 (by kernel_rfl) (by kernel_rfl) rfl (by kernel_rfl) (by kernel_rfl) (by kernel_rfl) ?_)
  intro w13 h14 hk15
  refine RegI.done (by kernel_rfl) ?_
  refine RunsI.go 2 [.c 6, .c 7, .c 19] (by kernel_rfl) ?_
  refine RunsI.region (by kernel_rfl) ?_
  refine RegI.pure 1 [1, 2, 3, 4] [(1, .pointer (some ⟨b2, 0, none⟩)), (2, .pointer (some ⟨b6, 0, none⟩)), (3, .pointer (some ⟨b10, 0, none⟩)), (4, .int .i64 0)] (by kernel_rfl) ?_
  refine RegI.done (by kernel_rfl) ?_
  refine RunsI.go 2 [.c 9, .lp 9, .blk 0, .c 19] (by kernel_rfl) ?_
  obtain ⟨x74, hx75, h⟩ := of_bind h
  have h16 := h14.addOwnNil (Rp.pair (Rp.int .i64) (Rp.int .u8)) 88
  refine RunsI.only [1, 2, 3, 4] [(1, .pointer (some ⟨b2, 0, none⟩)), (2, .pointer (some ⟨b6, 0, none⟩)), (3, .pointer (some ⟨b10, 0, none⟩)), (4, .int .i64 0)] (by kernel_rfl) (by kernel_rfl) ?_
  refine charabanclaw19_plain_33.l0_ok K M0 w0 pA0_0 pc0_0 pA0_3 pc0_3 p0_0 p0_1 p0_2 p0_3 b2 b6 b10 _ x74 ?_ K ([] : List (Int × Int)) 0 none 0 w13 hx75 (h16.pick [2, 0, 1, 3, 4, 5] (by decide))
  · intro t78 A76 c77 w80 hq84 h79
    (try rw [hq84] at h)
    refine RunsI.go 1 [.c 20, .c 21] (by kernel_rfl) ?_
    refine RunsI.region (by kernel_rfl) ?_
    refine RegI.op (by kernel_rfl) (OpE.loadBox 37 1 60 b10 0 (.agg #[.slice pA0_0 p0_0.length pc0_0, .int .i64 p0_1, .int .i64 p0_2, .slice A76 t78.length c77]) h79 (by kernel_rfl) (by kernel_rfl) rfl (by kernel_rfl) ?_)
    refine RegI.op (by kernel_rfl) (OpE.storeBox 0 60 b6 0 (.agg #[.slice pA0_0 p0_0.length pc0_0, .int .i64 p0_1, .int .i64 p0_2, .slice A76 t78.length c77]) [.slice pA0_0 p0_0.length pc0_0, .int .i64 p0_1, .int .i64 p0_2, .slice A76 t78.length c77] h79 (by kernel_rfl) (by kernel_rfl) rfl (by kernel_rfl) (by kernel_rfl) (by kernel_rfl) ?_)
    intro w81 h82 hk83
    refine RegI.done (by kernel_rfl) ?_
    refine RunsI.retW [.cell 2 60] [.agg #[.slice pA0_0 p0_0.length pc0_0, .int .i64 p0_1, .int .i64 p0_2, .slice A76 t78.length c77]] (.agg #[.slice pA0_0 p0_0.length pc0_0, .int .i64 p0_1, .int .i64 p0_2, .slice A76 t78.length c77]) (by kernel_rfl) (by kernel_rfl) (ResAt.box 0 60 b6 0 h82 (by kernel_rfl) (by kernel_rfl) rfl (by kernel_rfl) rfl) (by kernel_rfl) ?_
    obtain rfl := Option.some.inj h
    exact ⟨pA0_0, pc0_0, A76, c77, rfl, h82.pick [2, 3] (by decide)⟩
end
end Go.Proofs.Ytngcadmhnbpgjaa.Banks
