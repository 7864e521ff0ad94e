/- Functions of the program as plain Lean functions, each with the proof that the call comes to it; written by wip/eng.py. -/
import Derived.Test.YtngcadmhnbpgjaaBanks
set_option linter.unusedVariables false
set_option linter.unusedSimpArgs false
set_option maxHeartbeats 4000000
namespace Go.Proofs.Ytngcadmhnbpgjaa.Banks
open Go.RowKit Go.Eng
/-! ### charabanc/charabancref19.Same (function 38) -/
section
def charabancref19_Same_38.post (M0 : Nat → Prop) (w0 : World) (r : Bool) : Ending → World → Prop := fun e w => e = .returned (.bool r) ∧ Below w0.heap.size w0 w
def charabancref19_Same_38.l0 (K : Nat) (p0_0 : List Int) (p0_1 : Int) (p0_2 : Int) (p0_3 : List (Int × Int)) (p1_0 : List Int) (p1_1 : Int) (p1_2 : Int) (p1_3 : List (Int × Int)) : Nat → Int → Option (Lp Unit Unit)
  | 0, _ => none
  | k + 1, t21 => cond (decide (t21 < (p0_3.length : Int))) (cond (inR t21 p0_3.length) (cond (inR t21 p1_3.length) (cond (!((((rdD p0_3 t21).1) == ((rdD p1_3 t21).1)) && ((((rdD p0_3 t21).2) == ((rdD p1_3 t21).2)) && true))) (some (Lp.ret ())) (charabancref19_Same_38.l0 K p0_0 p0_1 p0_2 p0_3 p1_0 p1_1 p1_2 p1_3 k (IntKind.wrap .i64 (t21 + 1)))) none) none) (some (Lp.go ()))
set_option maxRecDepth 100000 in
theorem charabancref19_Same_38.l0_ok (K : Nat) (M0 : Nat → Prop) (w0 : World) (pA0_0 : Option Addr) (pc0_0 : Nat) (pA0_3 : Option Addr) (pc0_3 : Nat) (pA1_0 : Option Addr) (pc1_0 : Nat) (pA1_3 : Option Addr) (pc1_3 : Nat) (p0_0 : List Int) (p0_1 : Int) (p0_2 : Int) (p0_3 : List (Int × Int)) (p1_0 : List Int) (p1_1 : Int) (p1_2 : Int) (p1_3 : List (Int × Int)) (b19 : Nat) (b20 : Nat) (R : Ending → World → Prop) (x : Lp Unit Unit) (hk0 : ∀ (w1 : World), x = Lp.go () → Holds M0 w0 w1 [] → RunsI F38 [.c 31] [] w1 R) (hk1 : ∀ (w1 : World), x = Lp.ret () → Holds M0 w0 w1 [] → R (.returned (.bool false)) w1) :
    ∀ (k : Nat) (t21 : Int) (w : World), charabancref19_Same_38.l0 K p0_0 p0_1 p0_2 p0_3 p1_0 p1_1 p1_2 p1_3 k t21 = some x → Holds M0 w0 w [box b19 60 [.slice pA0_0 p0_0.length pc0_0, .int .i64 p0_1, .int .i64 p0_2, .slice pA0_3 p0_3.length pc0_3], sl (Rp.int .u8) (.slice pA0_0 p0_0.length pc0_0) p0_0, sl (Rp.pair (Rp.int .i64) (Rp.int .u8)) (.slice pA0_3 p0_3.length pc0_3) p0_3, box b20 60 [.slice pA1_0 p1_0.length pc1_0, .int .i64 p1_1, .int .i64 p1_2, .slice pA1_3 p1_3.length pc1_3], sl (Rp.int .u8) (.slice pA1_0 p1_0.length pc1_0) p1_0, sl (Rp.pair (Rp.int .i64) (Rp.int .u8)) (.slice pA1_3 p1_3.length pc1_3) p1_3] → RunsI F38 [.c 15, .lp 15, .blk 0, .c 31] [(2, .pointer (some ⟨b19, 0, none⟩)), (3, .pointer (some ⟨b20, 0, none⟩)), (5, .int .i64 t21)] w R := by
  intro k
  induction k with
  | zero => intro t21 w h hH; exact absurd h (by simp [charabancref19_Same_38.l0])
  | succ k ih =>
    intro t21 w h hH
    rw [charabancref19_Same_38.l0.eq_2] at h
    refine RunsI.go 1 [.c 16, .c 21, .lp 15, .blk 0, .c 31] (by kernel_rfl) ?_
    refine RunsI.go 1 [.c 17, .c 18, .c 21, .lp 15, .blk 0, .c 31] (by kernel_rfl) ?_
    refine RunsI.region (by kernel_rfl) ?_
    refine RegI.pure 2 [2, 3, 5, 36, 37] [(2, .pointer (some ⟨b19, 0, none⟩)), (3, .pointer (some ⟨b20, 0, none⟩)), (5, .int .i64 t21), (36, .int .i64 t21), (37, .pointer (some ⟨b19, 3, none⟩))] (by kernel_rfl) ?_
    refine RegI.op (by kernel_rfl) (OpE.loadBox 38 0 58 b19 3 (.slice pA0_3 p0_3.length pc0_3) hH (by kernel_rfl) (by kernel_rfl) rfl (by kernel_rfl) ?_)
    refine RegI.pure 2 [2, 3, 5, 40] [(2, .pointer (some ⟨b19, 0, none⟩)), (3, .pointer (some ⟨b20, 0, none⟩)), (5, .int .i64 t21), (40, .bool (decide (t21 < (p0_3.length : Int))))] (by kernel_rfl) ?_
    refine RegI.done (by kernel_rfl) ?_
    rcases of_cond h with ⟨hc22, h⟩ | ⟨hc22, h⟩
    · skip
      refine RunsI.fix 40 true hc22 (by kernel_rfl) (by kernel_rfl) ?_
      refine RunsI.cond true 19 (by kernel_rfl) ?_
      refine RunsI.go 1 [.c 21, .lp 15, .blk 0, .c 31] (by kernel_rfl) ?_
      refine RunsI.go 3 [.c 24, .c 25, .blk 1, .c 30, .lp 15, .blk 0, .c 31] (by kernel_rfl) ?_
      refine RunsI.any 11 (by kernel_rfl) (by kernel_rfl) (by kernel_rfl) (Kp ([] : List Nat) (World.drew w)) ?_
      have h24 := hH.drew
      generalize World.drew w = w23 at h24 ⊢
      have hS25 := Kp.refl ([] : List Nat) w23
      refine AnyE.pure 0 43 (.pointer (some ⟨b19, 3, none⟩)) (by kernel_rfl) hS25 (fun _ => by kernel_rfl) ?_
      refine AnyE.loadBox 1 44 0 58 b19 3 (.slice pA0_3 p0_3.length pc0_3) [] h24 rfl (by kernel_rfl) hS25 rfl rfl (by kernel_rfl) (by kernel_rfl) ?_
      refine AnyE.pure 2 45 (.int .i64 t21) (by kernel_rfl) hS25 (fun _ => by kernel_rfl) ?_
      obtain ⟨hc27, h⟩ := of_cond0 h
      refine AnyE.idxSl 3 46 2 58 t21 h24 (by kernel_rfl) hS25 rfl (by kernel_rfl) (by kernel_rfl) hc27 ?_
      intro b28 o29 cs30 hk31 h32
      obtain ⟨_, _, rfl, rfl, rfl⟩ := hk31
      refine AnyE.loadCel 4 47 6 88 b28 o29 0 (.agg #[.int .i64 ((rdD p0_3 t21).1), .int .u8 ((rdD p0_3 t21).2)]) [] h32 rfl (by kernel_rfl) hS25 rfl rfl (by kernel_rfl) (by kernel_rfl) ?_
      refine AnyE.pure 5 48 (.pointer (some ⟨b20, 3, none⟩)) (by kernel_rfl) hS25 (fun _ => by kernel_rfl) ?_
      refine AnyE.loadBox 6 49 3 58 b20 3 (.slice pA1_3 p1_3.length pc1_3) [] h32 rfl (by kernel_rfl) hS25 rfl rfl (by kernel_rfl) (by kernel_rfl) ?_
      refine AnyE.pure 7 50 (.int .i64 t21) (by kernel_rfl) hS25 (fun _ => by kernel_rfl) ?_
      obtain ⟨hc33, h⟩ := of_cond0 h
      refine AnyE.idxSl 8 51 5 58 t21 h32 (by kernel_rfl) hS25 rfl (by kernel_rfl) (by kernel_rfl) hc33 ?_
      intro b34 o35 cs36 hk37 h38
      obtain ⟨_, _, rfl, rfl, rfl⟩ := hk37
      refine AnyE.loadCel 9 52 7 88 b34 o35 0 (.agg #[.int .i64 ((rdD p1_3 t21).1), .int .u8 ((rdD p1_3 t21).2)]) [] h38 rfl (by kernel_rfl) hS25 rfl rfl (by kernel_rfl) (by kernel_rfl) ?_
      refine AnyE.run 10 53 (.bool (!((((rdD p0_3 t21).1) == ((rdD p1_3 t21).1)) && ((((rdD p0_3 t21).2) == ((rdD p1_3 t21).2)) && true)))) (by kernel_rfl) hS25 (fun _ hk => run_eqS (neg := true) (t := 88) (x := .agg #[.int .i64 ((rdD p0_3 t21).1), .int .u8 ((rdD p0_3 t21).2)]) (y := .agg #[.int .i64 ((rdD p1_3 t21).1), .int .u8 ((rdD p1_3 t21).2)]) (b := ((((rdD p0_3 t21).1) == ((rdD p1_3 t21).1)) && ((((rdD p0_3 t21).2) == ((rdD p1_3 t21).2)) && true))) (by kernel_rfl) (by kernel_rfl) (by kernel_rfl) (by kernel_rfl)) ?_
      refine AnyE.done (by kernel_rfl) (fun w39 hu40 => ?_)
      have h41 := h38.call hu40
      refine RunsI.only [2, 3, 5, 53] [(2, .pointer (some ⟨b19, 0, none⟩)), (3, .pointer (some ⟨b20, 0, none⟩)), (5, .int .i64 t21), (53, .bool (!((((rdD p0_3 t21).1) == ((rdD p1_3 t21).1)) && ((((rdD p0_3 t21).2) == ((rdD p1_3 t21).2)) && true))))] (by kernel_rfl) (by kernel_rfl) ?_
      rcases of_cond h with ⟨hc42, h⟩ | ⟨hc42, h⟩
      · skip
        refine RunsI.fix 53 true hc42 (by kernel_rfl) (by kernel_rfl) ?_
        refine RunsI.cond true 26 (by kernel_rfl) ?_
        refine RunsI.go 1 [.c 27, .c 28, .blk 1, .c 30, .lp 15, .blk 0, .c 31] (by kernel_rfl) ?_
        refine RunsI.region (by kernel_rfl) ?_
        refine RegI.pure 1 [4] [(4, .bool false)] (by kernel_rfl) ?_
        refine RegI.done (by kernel_rfl) ?_
        refine RunsI.ret (.bool false) (by kernel_rfl) (by kernel_rfl) ?_
        exact hk1 w39 (Option.some.inj h).symm (h41.pick [] (by decide))
      · skip
        refine RunsI.fix 53 false hc42 (by kernel_rfl) (by kernel_rfl) ?_
        refine RunsI.cond false 29 (by kernel_rfl) ?_
        refine RunsI.go 1 [.blk 1, .c 30, .lp 15, .blk 0, .c 31] (by kernel_rfl) ?_
        refine RunsI.go 1 [.c 30, .lp 15, .blk 0, .c 31] (by kernel_rfl) ?_
        refine RunsI.region (by kernel_rfl) ?_
        refine RegI.pure 3 [2, 3, 5] [(2, .pointer (some ⟨b19, 0, none⟩)), (3, .pointer (some ⟨b20, 0, none⟩)), (5, .int .i64 (IntKind.wrap .i64 (t21 + 1)))] (by kernel_rfl) ?_
        refine RegI.done (by kernel_rfl) ?_
        refine RunsI.go 1 [.c 15, .lp 15, .blk 0, .c 31] (by kernel_rfl) ?_
        refine RunsI.only [2, 3, 5] [(2, .pointer (some ⟨b19, 0, none⟩)), (3, .pointer (some ⟨b20, 0, none⟩)), (5, .int .i64 (IntKind.wrap .i64 (t21 + 1)))] (by kernel_rfl) (by kernel_rfl) ?_
        exact ih (IntKind.wrap .i64 (t21 + 1)) w39 h (h41.pick [0, 1, 2, 3, 4, 5] (by decide))
    · skip
      refine RunsI.fix 40 false hc22 (by kernel_rfl) (by kernel_rfl) ?_
      refine RunsI.cond false 20 (by kernel_rfl) ?_
      refine RunsI.go 1 [.c 31] (by kernel_rfl) ?_
      refine RunsI.only [] [] (by kernel_rfl) (by kernel_rfl) ?_
      exact hk0 w (Option.some.inj h).symm (hH.pick [] (by decide))
def charabancref19_Same_38.f (K : Nat) (p0_0 : List Int) (p0_1 : Int) (p0_2 : Int) (p0_3 : List (Int × Int)) (p1_0 : List Int) (p1_1 : Int) (p1_2 : Int) (p1_3 : List (Int × Int)) : Option Bool := Let (fun (t12 : Bool) => cond t12 (some false) ((charabancref19_Same_38.l0 K p0_0 p0_1 p0_2 p0_3 p1_0 p1_1 p1_2 p1_3 K 0).bind (fun x43 => Lp.elim x43 (fun _ => some false) (fun _ => some true)))) (fun j15 => cond (!((ByteArray.toList (strOf p0_0)) == (ByteArray.toList (strOf p1_0)))) (j15 true) (cond (p0_1 != p1_1) (j15 true) (cond (p0_2 != p1_2) (j15 true) (j15 ((p0_3.length : Int) != (p1_3.length : Int))))))
set_option maxRecDepth 100000 in
theorem charabancref19_Same_38_ok (K : Nat) (M0 : Nat → Prop) (w0 : World) (pA0_0 : Option Addr) (pc0_0 : Nat) (pA0_3 : Option Addr) (pc0_3 : Nat) (pA1_0 : Option Addr) (pc1_0 : Nat) (pA1_3 : Option Addr) (pc1_3 : Nat) (p0_0 : List Int) (p0_1 : Int) (p0_2 : Int) (p0_3 : List (Int × Int)) (p1_0 : List Int) (p1_1 : Int) (p1_2 : Int) (p1_3 : List (Int × Int)) (ho : ∀ b, M0 b → b < w0.heap.size) (hs0_0 : Sl (Rp.int .u8) w0 M0 (.slice pA0_0 p0_0.length pc0_0) p0_0) (hs0_3 : Sl (Rp.pair (Rp.int .i64) (Rp.int .u8)) w0 M0 (.slice pA0_3 p0_3.length pc0_3) p0_3) (hs1_0 : Sl (Rp.int .u8) w0 M0 (.slice pA1_0 p1_0.length pc1_0) p1_0) (hs1_3 : Sl (Rp.pair (Rp.int .i64) (Rp.int .u8)) w0 M0 (.slice pA1_3 p1_3.length pc1_3) p1_3) {r : Bool} (h : charabancref19_Same_38.f K p0_0 p0_1 p0_2 p0_3 p1_0 p1_1 p1_2 p1_3 = some r) :
    Calls Try.prog 38 #[.agg #[.slice pA0_0 p0_0.length pc0_0, .int .i64 p0_1, .int .i64 p0_2, .slice pA0_3 p0_3.length pc0_3], .agg #[.slice pA1_0 p1_0.length pc1_0, .int .i64 p1_1, .int .i64 p1_2, .slice pA1_3 p1_3.length pc1_3]] w0 (charabancref19_Same_38.post M0 w0 r) := by
  unfold charabancref19_Same_38.f at h
  have h0 : Holds M0 w0 w0 [] := Holds.start ho
  have h00_0 := h0.addSl (Rp.int .u8) (.slice pA0_0 p0_0.length pc0_0) p0_0 (hs0_0.mono (fun _ _ hm => hm.elim id (fun hm => absurd hm (by simp [mines, sl]))))
  have h00_3 := h00_0.addSl (Rp.pair (Rp.int .i64) (Rp.int .u8)) (.slice pA0_3 p0_3.length pc0_3) p0_3 (hs0_3.mono (fun _ _ hm => hm.elim id (fun hm => absurd hm (by simp [mines, sl]))))
  have h01_0 := h00_3.addSl (Rp.int .u8) (.slice pA1_0 p1_0.length pc1_0) p1_0 (hs1_0.mono (fun _ _ hm => hm.elim id (fun hm => absurd hm (by simp [mines, sl]))))
  have h01_3 := h01_0.addSl (Rp.pair (Rp.int .i64) (Rp.int .u8)) (.slice pA1_3 p1_3.length pc1_3) p1_3 (hs1_3.mono (fun _ _ hm => hm.elim id (fun hm => absurd hm (by simp [mines, sl]))))
  have h0 : Holds M0 w0 w0 [sl (Rp.int .u8) (.slice pA0_0 p0_0.length pc0_0) p0_0, sl (Rp.pair (Rp.int .i64) (Rp.int .u8)) (.slice pA0_3 p0_3.length pc0_3) p0_3, sl (Rp.int .u8) (.slice pA1_0 p1_0.length pc1_0) p1_0, sl (Rp.pair (Rp.int .i64) (Rp.int .u8)) (.slice pA1_3 p1_3.length pc1_3) p1_3] := h01_3
  refine calls_of F38 rfl [.agg #[.slice pA0_0 p0_0.length pc0_0, .int .i64 p0_1, .int .i64 p0_2, .slice pA0_3 p0_3.length pc0_3], .agg #[.slice pA1_0 p1_0.length pc1_0, .int .i64 p1_1, .int .i64 p1_2, .slice pA1_3 p1_3.length pc1_3]] (by kernel_rfl) ?_
  refine RunsI.go 1 [.c 1, .c 2] (by kernel_rfl) ?_
  refine RunsI.region (by kernel_rfl) ?_
  refine RegI.op (by kernel_rfl) (OpE.box 2 60 [.slice pA0_0 p0_0.length pc0_0, .int .i64 p0_1, .int .i64 p0_2, .slice pA0_3 p0_3.length pc0_3] h0 (by kernel_rfl) (by kernel_rfl) ?_)
  intro w1 b2 h3 hb4
  refine RegI.op (by kernel_rfl) (OpE.box 3 60 [.slice pA1_0 p1_0.length pc1_0, .int .i64 p1_1, .int .i64 p1_2, .slice pA1_3 p1_3.length pc1_3] h3 (by kernel_rfl) (by kernel_rfl) ?_)
  intro w5 b6 h7 hb8
  refine RegI.pure 1 [2, 3] [(2, .pointer (some ⟨b2, 0, none⟩)), (3, .pointer (some ⟨b6, 0, none⟩))] (by kernel_rfl) ?_
  refine RegI.done (by kernel_rfl) ?_
  refine RunsI.go 2 [.c 4, .c 5, .c 10] (by kernel_rfl) ?_
  refine RunsI.region (by kernel_rfl) ?_
  refine RegI.pure 1 [2, 3, 6] [(2, .pointer (some ⟨b2, 0, none⟩)), (3, .pointer (some ⟨b6, 0, none⟩)), (6, .pointer (some ⟨b2, 0, none⟩))] (by kernel_rfl) ?_
  refine RegI.op (by kernel_rfl) (OpE.loadBox 7 4 38 b2 0 (.slice pA0_0 p0_0.length pc0_0) h7 (by kernel_rfl) (by kernel_rfl) rfl (by kernel_rfl) ?_)
  refine RegI.op (by kernel_rfl) (OpE.run 8 (by kernel_rfl) (run_toStr (s := 38) (d := 9) (v := .slice pA0_0 p0_0.length pc0_0) (by kernel_rfl) (by kernel_rfl) (h7.rdSl 0 rfl)) ?_)
  refine RegI.pure 1 [2, 3, 8, 9] [(2, .pointer (some ⟨b2, 0, none⟩)), (3, .pointer (some ⟨b6, 0, none⟩)), (8, .string (strOf p0_0)), (9, .pointer (some ⟨b6, 0, none⟩))] (by kernel_rfl) ?_
  refine RegI.op (by kernel_rfl) (OpE.loadBox 10 5 38 b6 0 (.slice pA1_0 p1_0.length pc1_0) h7 (by kernel_rfl) (by kernel_rfl) rfl (by kernel_rfl) ?_)
  refine RegI.op (by kernel_rfl) (OpE.run 11 (by kernel_rfl) (run_toStr (s := 38) (d := 9) (v := .slice pA1_0 p1_0.length pc1_0) (by kernel_rfl) (by kernel_rfl) (h7.rdSl 2 rfl)) ?_)
  refine RegI.pure 2 [2, 3, 13] [(2, .pointer (some ⟨b2, 0, none⟩)), (3, .pointer (some ⟨b6, 0, none⟩)), (13, .bool (!((ByteArray.toList (strOf p0_0)) == (ByteArray.toList (strOf p1_0)))))] (by kernel_rfl) ?_
  obtain ⟨j15, hJ16, h⟩ := of_let h
  have hj17 : ∀ (t12 : Bool) (w14 : World), j15 t12 = some r → Holds M0 w0 w14 [box b2 60 [.slice pA0_0 p0_0.length pc0_0, .int .i64 p0_1, .int .i64 p0_2, .slice pA0_3 p0_3.length pc0_3], sl (Rp.int .u8) (.slice pA0_0 p0_0.length pc0_0) p0_0, sl (Rp.pair (Rp.int .i64) (Rp.int .u8)) (.slice pA0_3 p0_3.length pc0_3) p0_3, box b6 60 [.slice pA1_0 p1_0.length pc1_0, .int .i64 p1_1, .int .i64 p1_2, .slice pA1_3 p1_3.length pc1_3], sl (Rp.int .u8) (.slice pA1_0 p1_0.length pc1_0) p1_0, sl (Rp.pair (Rp.int .i64) (Rp.int .u8)) (.slice pA1_3 p1_3.length pc1_3) p1_3] → RegI F38 4 [.c 5, .c 10] 30 [(2, .pointer (some ⟨b2, 0, none⟩)), (3, .pointer (some ⟨b6, 0, none⟩)), (35, .bool t12)] w14 (charabancref19_Same_38.post M0 w0 r) := by
    intro t12 w14 h h13
    rw [hJ16] at h
    clear hJ16
    dsimp only at h
    refine RegI.done (by kernel_rfl) ?_
    rcases of_cond h with ⟨hc18, h⟩ | ⟨hc18, h⟩
    · skip
      refine RunsI.fix 35 true hc18 (by kernel_rfl) (by kernel_rfl) ?_
      refine RunsI.cond true 6 (by kernel_rfl) ?_
      refine RunsI.go 1 [.c 7, .c 8, .c 10] (by kernel_rfl) ?_
      refine RunsI.region (by kernel_rfl) ?_
      refine RegI.pure 1 [4] [(4, .bool false)] (by kernel_rfl) ?_
      refine RegI.done (by kernel_rfl) ?_
      refine RunsI.ret (.bool false) (by kernel_rfl) (by kernel_rfl) ?_
      obtain rfl := Option.some.inj h
      exact ⟨rfl, h13.below⟩
    · skip
      refine RunsI.fix 35 false hc18 (by kernel_rfl) (by kernel_rfl) ?_
      refine RunsI.cond false 9 (by kernel_rfl) ?_
      refine RunsI.go 1 [.c 10] (by kernel_rfl) ?_
      refine RunsI.go 2 [.c 12, .c 13, .c 31] (by kernel_rfl) ?_
      refine RunsI.region (by kernel_rfl) ?_
      refine RegI.pure 1 [2, 3, 5] [(2, .pointer (some ⟨b2, 0, none⟩)), (3, .pointer (some ⟨b6, 0, none⟩)), (5, .int .i64 0)] (by kernel_rfl) ?_
      refine RegI.done (by kernel_rfl) ?_
      refine RunsI.go 2 [.c 15, .lp 15, .blk 0, .c 31] (by kernel_rfl) ?_
      obtain ⟨x43, hx44, h⟩ := of_bind h
      refine RunsI.only [2, 3, 5] [(2, .pointer (some ⟨b2, 0, none⟩)), (3, .pointer (some ⟨b6, 0, none⟩)), (5, .int .i64 0)] (by kernel_rfl) (by kernel_rfl) ?_
      refine charabancref19_Same_38.l0_ok K M0 w0 pA0_0 pc0_0 pA0_3 pc0_3 pA1_0 pc1_0 pA1_3 pc1_3 p0_0 p0_1 p0_2 p0_3 p1_0 p1_1 p1_2 p1_3 b2 b6 _ x43 ?_ ?_ K 0 w14 hx44 (h13.pick [0, 1, 2, 3, 4, 5] (by decide))
      · intro w46 hq49 h45
        (try rw [hq49] at h)
        dsimp only [Lp.elim] at h
        refine RunsI.go 1 [.c 32, .c 33] (by kernel_rfl) ?_
        refine RunsI.region (by kernel_rfl) ?_
        refine RegI.pure 1 [4] [(4, .bool true)] (by kernel_rfl) ?_
        refine RegI.done (by kernel_rfl) ?_
        refine RunsI.ret (.bool true) (by kernel_rfl) (by kernel_rfl) ?_
        obtain rfl := Option.some.inj h
        exact ⟨rfl, h45.below⟩
      · intro w48 hq50 h47
        (try rw [hq50] at h)
        dsimp only [Lp.elim] at h
        obtain rfl := Option.some.inj h
        exact ⟨rfl, h47.below⟩
  clear hJ16
  rcases of_cond h with ⟨hc9, h⟩ | ⟨hc9, h⟩
  · skip
    refine RegI.fix 13 true hc9 (by kernel_rfl) (by kernel_rfl) ?_
    refine RegI.pure 22 [2, 3, 35] [(2, .pointer (some ⟨b2, 0, none⟩)), (3, .pointer (some ⟨b6, 0, none⟩)), (35, .bool true)] (by kernel_rfl) ?_
    refine RegI.only [2, 3, 35] [(2, .pointer (some ⟨b2, 0, none⟩)), (3, .pointer (some ⟨b6, 0, none⟩)), (35, .bool true)] (by kernel_rfl) (by kernel_rfl) ?_
    exact hj17 true w5 h (h7.pick [4, 0, 1, 5, 2, 3] (by decide))
  · skip
    refine RegI.fix 13 false hc9 (by kernel_rfl) (by kernel_rfl) ?_
    refine RegI.pure 1 [2, 3, 13, 14] [(2, .pointer (some ⟨b2, 0, none⟩)), (3, .pointer (some ⟨b6, 0, none⟩)), (13, .bool false), (14, .pointer (some ⟨b2, 1, none⟩))] (by kernel_rfl) ?_
    refine RegI.op (by kernel_rfl) (OpE.loadBox 15 4 3 b2 1 (.int .i64 p0_1) h7 (by kernel_rfl) (by kernel_rfl) rfl (by kernel_rfl) ?_)
    refine RegI.pure 1 [2, 3, 13, 15, 16] [(2, .pointer (some ⟨b2, 0, none⟩)), (3, .pointer (some ⟨b6, 0, none⟩)), (13, .bool false), (15, .int .i64 p0_1), (16, .pointer (some ⟨b6, 1, none⟩))] (by kernel_rfl) ?_
    refine RegI.op (by kernel_rfl) (OpE.loadBox 17 5 3 b6 1 (.int .i64 p1_1) h7 (by kernel_rfl) (by kernel_rfl) rfl (by kernel_rfl) ?_)
    refine RegI.pure 3 [2, 3, 20] [(2, .pointer (some ⟨b2, 0, none⟩)), (3, .pointer (some ⟨b6, 0, none⟩)), (20, .bool (p0_1 != p1_1))] (by kernel_rfl) ?_
    rcases of_cond h with ⟨hc10, h⟩ | ⟨hc10, h⟩
    · skip
      refine RegI.fix 20 true hc10 (by kernel_rfl) (by kernel_rfl) ?_
      refine RegI.pure 15 [2, 3, 35] [(2, .pointer (some ⟨b2, 0, none⟩)), (3, .pointer (some ⟨b6, 0, none⟩)), (35, .bool true)] (by kernel_rfl) ?_
      refine RegI.only [2, 3, 35] [(2, .pointer (some ⟨b2, 0, none⟩)), (3, .pointer (some ⟨b6, 0, none⟩)), (35, .bool true)] (by kernel_rfl) (by kernel_rfl) ?_
      exact hj17 true w5 h (h7.pick [4, 0, 1, 5, 2, 3] (by decide))
    · skip
      refine RegI.fix 20 false hc10 (by kernel_rfl) (by kernel_rfl) ?_
      refine RegI.pure 1 [2, 3, 20, 21] [(2, .pointer (some ⟨b2, 0, none⟩)), (3, .pointer (some ⟨b6, 0, none⟩)), (20, .bool false), (21, .pointer (some ⟨b2, 2, none⟩))] (by kernel_rfl) ?_
      refine RegI.op (by kernel_rfl) (OpE.loadBox 22 4 3 b2 2 (.int .i64 p0_2) h7 (by kernel_rfl) (by kernel_rfl) rfl (by kernel_rfl) ?_)
      refine RegI.pure 1 [2, 3, 20, 22, 23] [(2, .pointer (some ⟨b2, 0, none⟩)), (3, .pointer (some ⟨b6, 0, none⟩)), (20, .bool false), (22, .int .i64 p0_2), (23, .pointer (some ⟨b6, 2, none⟩))] (by kernel_rfl) ?_
      refine RegI.op (by kernel_rfl) (OpE.loadBox 24 5 3 b6 2 (.int .i64 p1_2) h7 (by kernel_rfl) (by kernel_rfl) rfl (by kernel_rfl) ?_)
      refine RegI.pure 3 [2, 3, 27] [(2, .pointer (some ⟨b2, 0, none⟩)), (3, .pointer (some ⟨b6, 0, none⟩)), (27, .bool (p0_2 != p1_2))] (by kernel_rfl) ?_
      rcases of_cond h with ⟨hc11, h⟩ | ⟨hc11, h⟩
      · skip
        refine RegI.fix 27 true hc11 (by kernel_rfl) (by kernel_rfl) ?_
        refine RegI.pure 8 [2, 3, 35] [(2, .pointer (some ⟨b2, 0, none⟩)), (3, .pointer (some ⟨b6, 0, none⟩)), (35, .bool true)] (by kernel_rfl) ?_
        refine RegI.only [2, 3, 35] [(2, .pointer (some ⟨b2, 0, none⟩)), (3, .pointer (some ⟨b6, 0, none⟩)), (35, .bool true)] (by kernel_rfl) (by kernel_rfl) ?_
        exact hj17 true w5 h (h7.pick [4, 0, 1, 5, 2, 3] (by decide))
      · skip
        refine RegI.fix 27 false hc11 (by kernel_rfl) (by kernel_rfl) ?_
        refine RegI.pure 1 [2, 3, 27, 28] [(2, .pointer (some ⟨b2, 0, none⟩)), (3, .pointer (some ⟨b6, 0, none⟩)), (27, .bool false), (28, .pointer (some ⟨b2, 3, none⟩))] (by kernel_rfl) ?_
        refine RegI.op (by kernel_rfl) (OpE.loadBox 29 4 58 b2 3 (.slice pA0_3 p0_3.length pc0_3) h7 (by kernel_rfl) (by kernel_rfl) rfl (by kernel_rfl) ?_)
        refine RegI.pure 2 [2, 3, 27, 30, 31] [(2, .pointer (some ⟨b2, 0, none⟩)), (3, .pointer (some ⟨b6, 0, none⟩)), (27, .bool false), (30, .int .i64 (p0_3.length : Int)), (31, .pointer (some ⟨b6, 3, none⟩))] (by kernel_rfl) ?_
        refine RegI.op (by kernel_rfl) (OpE.loadBox 32 5 58 b6 3 (.slice pA1_3 p1_3.length pc1_3) h7 (by kernel_rfl) (by kernel_rfl) rfl (by kernel_rfl) ?_)
        refine RegI.pure 3 [2, 3, 35] [(2, .pointer (some ⟨b2, 0, none⟩)), (3, .pointer (some ⟨b6, 0, none⟩)), (35, .bool ((p0_3.length : Int) != (p1_3.length : Int)))] (by kernel_rfl) ?_
        refine RegI.only [2, 3, 35] [(2, .pointer (some ⟨b2, 0, none⟩)), (3, .pointer (some ⟨b6, 0, none⟩)), (35, .bool ((p0_3.length : Int) != (p1_3.length : Int)))] (by kernel_rfl) (by kernel_rfl) ?_
        exact hj17 ((p0_3.length : Int) != (p1_3.length : Int)) w5 h (h7.pick [4, 0, 1, 5, 2, 3] (by decide))
end

/-! ### charabanc/charabanclaw19.same (function 45) -/
section
def charabanclaw19_same_45.post (M0 : Nat → Prop) (w0 : World) (r : Bool) : Ending → World → Prop := fun e w => e = .returned (.bool r) ∧ Below w0.heap.size w0 w
def charabanclaw19_same_45.f (K : Nat) (p0_0 : List Int) (p0_1 : Int) (p0_2 : Int) (p0_3 : List (Int × Int)) (p1_0 : List Int) (p1_1 : Int) (p1_2 : Int) (p1_3 : List (Int × Int)) : Option Bool := (charabanclaw19_plain_33.f K p0_0 p0_1 p0_2 p0_3).bind fun yt21 => (charabanclaw19_plain_33.f K p1_0 p1_1 p1_2 p1_3).bind fun yt41 => (charabancref19_Same_38.f K yt21.1 yt21.2.1 yt21.2.2.1 yt21.2.2.2 yt41.1 yt41.2.1 yt41.2.2.1 yt41.2.2.2).bind fun t61 => some t61
set_option maxRecDepth 100000 in
theorem charabanclaw19_same_45_ok (K : Nat) (M0 : Nat → Prop) (w0 : World) (pA0_0 : Option Addr) (pc0_0 : Nat) (pA0_3 : Option Addr) (pc0_3 : Nat) (pA1_0 : Option Addr) (pc1_0 : Nat) (pA1_3 : Option Addr) (pc1_3 : Nat) (p0_0 : List Int) (p0_1 : Int) (p0_2 : Int) (p0_3 : List (Int × Int)) (p1_0 : List Int) (p1_1 : Int) (p1_2 : Int) (p1_3 : List (Int × Int)) (ho : ∀ b, M0 b → b < w0.heap.size) (hs0_0 : Sl (Rp.int .u8) w0 M0 (.slice pA0_0 p0_0.length pc0_0) p0_0) (hs0_3 : Sl (Rp.pair (Rp.int .i64) (Rp.int .u8)) w0 M0 (.slice pA0_3 p0_3.length pc0_3) p0_3) (hs1_0 : Sl (Rp.int .u8) w0 M0 (.slice pA1_0 p1_0.length pc1_0) p1_0) (hs1_3 : Sl (Rp.pair (Rp.int .i64) (Rp.int .u8)) w0 M0 (.slice pA1_3 p1_3.length pc1_3) p1_3) {r : Bool} (h : charabanclaw19_same_45.f K p0_0 p0_1 p0_2 p0_3 p1_0 p1_1 p1_2 p1_3 = some r) :
    Calls Try.prog 45 #[.agg #[.slice pA0_0 p0_0.length pc0_0, .int .i64 p0_1, .int .i64 p0_2, .slice pA0_3 p0_3.length pc0_3], .agg #[.slice pA1_0 p1_0.length pc1_0, .int .i64 p1_1, .int .i64 p1_2, .slice pA1_3 p1_3.length pc1_3]] w0 (charabanclaw19_same_45.post M0 w0 r) := by
  unfold charabanclaw19_same_45.f at h
  have h0 : Holds M0 w0 w0 [] := Holds.start ho
  have h00_0 := h0.addSl (Rp.int .u8) (.slice pA0_0 p0_0.length pc0_0) p0_0 (hs0_0.mono (fun _ _ hm => hm.elim id (fun hm => absurd hm (by simp [mines, sl]))))
  have h00_3 := h00_0.addSl (Rp.pair (Rp.int .i64) (Rp.int .u8)) (.slice pA0_3 p0_3.length pc0_3) p0_3 (hs0_3.mono (fun _ _ hm => hm.elim id (fun hm => absurd hm (by simp [mines, sl]))))
  have h01_0 := h00_3.addSl (Rp.int .u8) (.slice pA1_0 p1_0.length pc1_0) p1_0 (hs1_0.mono (fun _ _ hm => hm.elim id (fun hm => absurd hm (by simp [mines, sl]))))
  have h01_3 := h01_0.addSl (Rp.pair (Rp.int .i64) (Rp.int .u8)) (.slice pA1_3 p1_3.length pc1_3) p1_3 (hs1_3.mono (fun _ _ hm => hm.elim id (fun hm => absurd hm (by simp [mines, sl]))))
  have h0 : Holds M0 w0 w0 [sl (Rp.int .u8) (.slice pA0_0 p0_0.length pc0_0) p0_0, sl (Rp.pair (Rp.int .i64) (Rp.int .u8)) (.slice pA0_3 p0_3.length pc0_3) p0_3, sl (Rp.int .u8) (.slice pA1_0 p1_0.length pc1_0) p1_0, sl (Rp.pair (Rp.int .i64) (Rp.int .u8)) (.slice pA1_3 p1_3.length pc1_3) p1_3] := h01_3
  refine calls_of F45 rfl [.agg #[.slice pA0_0 p0_0.length pc0_0, .int .i64 p0_1, .int .i64 p0_2, .slice pA0_3 p0_3.length pc0_3], .agg #[.slice pA1_0 p1_0.length pc1_0, .int .i64 p1_1, .int .i64 p1_2, .slice pA1_3 p1_3.length pc1_3]] (by kernel_rfl) ?_
  refine RunsI.go 1 [.c 1, .c 2] (by kernel_rfl) ?_
  refine RunsI.region (by kernel_rfl) ?_
  refine RegI.op (by kernel_rfl) (OpE.box 2 53 [.slice pA0_0 p0_0.length pc0_0, .int .i64 p0_1, .int .i64 p0_2, .slice pA0_3 p0_3.length pc0_3] h0 (by kernel_rfl) (by kernel_rfl) ?_)
  intro w1 b2 h3 hb4
  refine RegI.op (by kernel_rfl) (OpE.box 3 53 [.slice pA1_0 p1_0.length pc1_0, .int .i64 p1_1, .int .i64 p1_2, .slice pA1_3 p1_3.length pc1_3] h3 (by kernel_rfl) (by kernel_rfl) ?_)
  intro w5 b6 h7 hb8
  refine RegI.pure 1 [2, 3] [(2, .pointer (some ⟨b2, 0, none⟩)), (3, .pointer (some ⟨b6, 0, none⟩))] (by kernel_rfl) ?_
  refine RegI.done (by kernel_rfl) ?_
  refine RunsI.go 1 [.c 3, .c 4] (by kernel_rfl) ?_
  refine RunsI.any 6 (by kernel_rfl) (by kernel_rfl) (by kernel_rfl) (Kp ([] : List Nat) (World.drew w5)) ?_
  have h10 := h7.drew
  generalize World.drew w5 = w9 at h10 ⊢
  have hS11 := Kp.refl ([] : List Nat) w9
  refine AnyE.loadBox 0 5 4 53 b2 0 (.agg #[.slice pA0_0 p0_0.length pc0_0, .int .i64 p0_1, .int .i64 p0_2, .slice pA0_3 p0_3.length pc0_3]) [] h10 rfl (by kernel_rfl) hS11 rfl rfl (by kernel_rfl) (by kernel_rfl) ?_
  refine AnyE.loadBox 2 7 5 53 b6 0 (.agg #[.slice pA1_0 p1_0.length pc1_0, .int .i64 p1_1, .int .i64 p1_2, .slice pA1_3 p1_3.length pc1_3]) [] h10 rfl (by kernel_rfl) hS11 rfl rfl (by kernel_rfl) (by kernel_rfl) ?_
  refine AnyE.one 1 (by kernel_rfl) (fun w13 hu14 => ?_)
  have h15 := h10.call hu14
  have hS16 := hS11.up hu14
  obtain ⟨⟨t21, t25, t26, t27⟩, hg20, h⟩ := of_bind h
  dsimp only at h
  refine OpE.call 6 (by kernel_rfl) 33 #[.agg #[.slice pA0_0 p0_0.length pc0_0, .int .i64 p0_1, .int .i64 p0_2, .slice pA0_3 p0_3.length pc0_3]] (by kernel_rfl) ((charabanclaw19_plain_33_ok K _ w13  pA0_0 pc0_0 pA0_3 pc0_3 p0_0 p0_1 p0_2 p0_3 h15.old' (h15.get 0 rfl) (h15.get 1 rfl) hg20).mono ?_)
  rintro _ w17 ⟨A22, c23, A28, c29, rfl, hr31⟩
  refine ⟨_, rfl, ?_⟩
  have hb18 := hr31.below
  have h19 := h15.join hr31
  have hS32 := hS16.up hb18
  refine ⟨hS32, ?_⟩
  refine AnyE.one 3 (by kernel_rfl) (fun w33 hu34 => ?_)
  have h35 := h19.call hu34
  have hS36 := hS32.up hu34
  obtain ⟨⟨t41, t45, t46, t47⟩, hg40, h⟩ := of_bind h
  dsimp only at h
  refine OpE.call 8 (by kernel_rfl) 33 #[.agg #[.slice pA1_0 p1_0.length pc1_0, .int .i64 p1_1, .int .i64 p1_2, .slice pA1_3 p1_3.length pc1_3]] (by kernel_rfl) ((charabanclaw19_plain_33_ok K _ w33  pA1_0 pc1_0 pA1_3 pc1_3 p1_0 p1_1 p1_2 p1_3 h35.old' (h35.get 2 rfl) (h35.get 3 rfl) hg40).mono ?_)
  rintro _ w37 ⟨A42, c43, A48, c49, rfl, hr51⟩
  refine ⟨_, rfl, ?_⟩
  have hb38 := hr51.below
  have h39 := h35.join hr51
  have hS52 := hS36.up hb38
  refine ⟨hS52, ?_⟩
  refine AnyE.one 4 (by kernel_rfl) (fun w53 hu54 => ?_)
  have h55 := h39.call hu54
  have hS56 := hS52.up hu54
  obtain ⟨t61, hg60, h⟩ := of_bind h
  refine OpE.call 9 (by kernel_rfl) 38 #[.agg #[.slice A22 t21.length c23, .int .i64 t25, .int .i64 t26, .slice A28 t27.length c29], .agg #[.slice A42 t41.length c43, .int .i64 t45, .int .i64 t46, .slice A48 t47.length c49]] (by kernel_rfl) ((charabancref19_Same_38_ok K (fun _ => False) w53  A22 c23 A28 c29 A42 c43 A48 c49 t21 t25 t26 t27 t41 t45 t46 t47 (fun _ hf => hf.elim) (h55.slAny 6 rfl) (h55.ownSl 7 rfl) (h55.slAny 8 rfl) (h55.ownSl 9 rfl) hg60).mono ?_)
  rintro _ w57 ⟨rfl, hb58⟩
  refine ⟨_, rfl, ?_⟩
  have h59 := h55.call hb58
  have hS62 := hS56.up hb58
  refine ⟨hS62, ?_⟩
  refine AnyE.pure 5 4 (.bool t61) (by kernel_rfl) hS62 (fun _ => by kernel_rfl) ?_
  refine AnyE.done (by kernel_rfl) (fun w63 hu64 => ?_)
  have h65 := h59.call hu64
  refine RunsI.only [4] [(4, .bool t61)] (by kernel_rfl) (by kernel_rfl) ?_
  refine RunsI.ret (.bool t61) (by kernel_rfl) (by kernel_rfl) ?_
  obtain rfl := Option.some.inj h
  exact ⟨rfl, h65.below⟩
end

/-! ### charabanc/charabanclaw19.awake (function 29) -/
section
def charabanclaw19_awake_29.post (M0 : Nat → Prop) (w0 : World) (r : Bool) : Ending → World → Prop := fun e w => e = .returned (.bool r) ∧ Below w0.heap.size w0 w
def charabanclaw19_awake_29.f (K : Nat) : Option Bool := (banks_Where_31.f K [5] 2 1 ([] : List (Int × Int)) 32768).bind fun yt18 => (banks_Write_39.f K [5] 2 1 ([] : List (Int × Int)) 32768 7).bind fun yt24 => cond (yt18.1 == 81920) (cond yt18.2 ((banks_Check_36.f K [5] 2 1 ([] : List (Int × Int))).bind fun t49 => cond (t49 == 0) ((banks_Read_34.f K [5] 2 1 ([] : List (Int × Int)) 0).bind fun t52 => cond (t52 == 5) ((banks_Write_39.f K [5] 2 1 ([] : List (Int × Int)) 0 9).bind fun yt62 => (charabanclaw19_same_45.f K yt62.1 yt62.2.1 yt62.2.2.1 yt62.2.2.2 [5] 2 1 ([] : List (Int × Int))).bind fun t82 => cond t82 ((banks_Read_34.f K yt24.1 yt24.2.1 yt24.2.2.1 yt24.2.2.2 32768).bind fun t86 => cond (t86 == 7) ((banks_Select_41.f K yt24.1 yt24.2.1 yt24.2.2.1 yt24.2.2.2 2).bind fun yt96 => (banks_Read_34.f K yt96.1 yt96.2.1 yt96.2.2.1 yt96.2.2.2 32768).bind fun t116 => cond (t116 == 0) ((banks_Load_43.f K [5] 2 1 ([] : List (Int × Int)) 81920 [7]).bind fun yt138 => (charabanclaw19_same_45.f K yt138.1 yt138.2.1 yt138.2.2.1 yt138.2.2.2 yt24.1 yt24.2.1 yt24.2.2.1 yt24.2.2.2).bind fun t158 => some t158) (some false)) (some false)) (some false)) (some false)) (some false)) (some false)) (some false)
set_option maxRecDepth 100000 in
theorem charabanclaw19_awake_29_ok (K : Nat) (M0 : Nat → Prop) (w0 : World) (ho : ∀ b, M0 b → b < w0.heap.size) {r : Bool} (h : charabanclaw19_awake_29.f K = some r) :
    Calls Try.prog 29 #[] w0 (charabanclaw19_awake_29.post M0 w0 r) := by
  unfold charabanclaw19_awake_29.f at h
  have h0 : Holds M0 w0 w0 [] := Holds.start ho
  have h0 : Holds M0 w0 w0 [] := h0
  refine calls_of F29 rfl [] (by kernel_rfl) ?_
  refine RunsI.go 1 [.c 1, .c 2] (by kernel_rfl) ?_
  refine RunsI.region (by kernel_rfl) ?_
  refine RegI.pure 1 [] [] (by kernel_rfl) ?_
  refine RegI.done (by kernel_rfl) ?_
  refine RunsI.go 1 [.c 3, .c 4] (by kernel_rfl) ?_
  refine RunsI.region (by kernel_rfl) ?_
  refine RegI.op (by kernel_rfl) (OpE.lit 5 5 [.int .u8 5] 1 h0 (by kernel_rfl) (by kernel_rfl) ?_)
  intro w1 b2 h3 hb4
  refine RegI.pure 1 [6] [(6, .agg #[.slice (some ⟨b2, 0, none⟩) ([5].length) 1, .int .i64 2, .int .i64 1, .slice none 0 0])] (by kernel_rfl) ?_
  refine RegI.op (by kernel_rfl) (OpE.box 1 53 [.slice none 0 0, .int .i64 0, .int .i64 0, .slice none 0 0] h3 (by kernel_rfl) (by kernel_rfl) ?_)
  intro w5 b6 h7 hb8
  refine RegI.op (by kernel_rfl) (OpE.storeBox 1 53 b6 0 (.agg #[.slice (some ⟨b2, 0, none⟩) ([5].length) 1, .int .i64 2, .int .i64 1, .slice none 0 0]) [.slice (some ⟨b2, 0, none⟩) ([5].length) 1, .int .i64 2, .int .i64 1, .slice none 0 0] h7 (by kernel_rfl) (by kernel_rfl) rfl (by kernel_rfl) (by kernel_rfl) (by kernel_rfl) ?_)
  intro w9 h10 hk11
  refine RegI.done (by kernel_rfl) ?_
  refine RunsI.go 1 [.c 5, .c 6] (by kernel_rfl) ?_
  refine RunsI.region (by kernel_rfl) ?_
  refine RegI.op (by kernel_rfl) (OpE.loadBox 8 1 53 b6 0 (.agg #[.slice (some ⟨b2, 0, none⟩) ([5].length) 1, .int .i64 2, .int .i64 1, .slice none 0 0]) h10 (by kernel_rfl) (by kernel_rfl) rfl (by kernel_rfl) ?_)
  obtain ⟨⟨t18, t19⟩, hg17, h⟩ := of_bind h
  dsimp only at h
  have h12 := h10.boxOwn 0 rfl (Rp.int .u8) [5] (cells_int _ _ _ _) (by decide)
  have h13 := h12.release 0 rfl
  refine RegI.op (by kernel_rfl) (OpE.call 9 (by kernel_rfl) 31 #[.agg #[.slice (some ⟨b2, 0, none⟩) ([5].length) 1, .int .i64 2, .int .i64 1, .slice none 0 0], .int .u16 32768] (by kernel_rfl) ((banks_Where_31_ok K _ w9  (some ⟨b2, 0, none⟩) 1 none 0 [5] 2 1 ([] : List (Int × Int)) 32768 h13.old' (h13.get 0 rfl) (Sl.nil _ _ _) hg17).mono ?_))
  rintro _ w14 ⟨rfl, hb15⟩
  refine ⟨_, rfl, ?_⟩
  have h16 := h13.call hb15
  refine RegI.pure 5 [1, 2, 3] [(1, .pointer (some ⟨b6, 0, none⟩)), (2, .int .i64 t18), (3, .bool t19)] (by kernel_rfl) ?_
  refine RegI.done (by kernel_rfl) ?_
  refine RunsI.go 1 [.c 7, .c 8] (by kernel_rfl) ?_
  refine RunsI.region (by kernel_rfl) ?_
  refine RegI.op (by kernel_rfl) (OpE.loadBox 12 1 53 b6 0 (.agg #[.slice (some ⟨b2, 0, none⟩) ([5].length) 1, .int .i64 2, .int .i64 1, .slice none 0 0]) h16 (by kernel_rfl) (by kernel_rfl) rfl (by kernel_rfl) ?_)
  obtain ⟨⟨t24, t28, t29, t30⟩, hg23, h⟩ := of_bind h
  dsimp only at h
  refine RegI.op (by kernel_rfl) (OpE.call 13 (by kernel_rfl) 39 #[.agg #[.slice (some ⟨b2, 0, none⟩) ([5].length) 1, .int .i64 2, .int .i64 1, .slice none 0 0], .int .u16 32768, .int .u8 7] (by kernel_rfl) ((banks_Write_39_ok K _ w14  (some ⟨b2, 0, none⟩) 1 none 0 [5] 2 1 ([] : List (Int × Int)) 32768 7 h16.old' (h16.get 0 rfl) (Sl.nil _ _ _) hg23).mono ?_))
  rintro _ w20 ⟨A25, c26, A31, c32, rfl, hr34⟩
  refine ⟨_, rfl, ?_⟩
  have hb21 := hr34.below
  have h22 := h16.join hr34
  refine RegI.op (by kernel_rfl) (OpE.box 4 53 [.slice none 0 0, .int .i64 0, .int .i64 0, .slice none 0 0] h22 (by kernel_rfl) (by kernel_rfl) ?_)
  intro w35 b36 h37 hb38
  refine RegI.op (by kernel_rfl) (OpE.storeBox 4 53 b36 0 (.agg #[.slice A25 t24.length c26, .int .i64 t28, .int .i64 t29, .slice A31 t30.length c32]) [.slice A25 t24.length c26, .int .i64 t28, .int .i64 t29, .slice A31 t30.length c32] h37 (by kernel_rfl) (by kernel_rfl) rfl (by kernel_rfl) (by kernel_rfl) (by kernel_rfl) ?_)
  intro w39 h40 hk41
  refine RegI.done (by kernel_rfl) ?_
  refine RunsI.go 1 [.c 9, .c 10] (by kernel_rfl) ?_
  refine RunsI.any 40 (by kernel_rfl) (by kernel_rfl) (by kernel_rfl) (Kp ([] : List Nat) (World.drew w39)) ?_
  have h43 := h40.drew
  generalize World.drew w39 = w42 at h43 ⊢
  have hS44 := Kp.refl ([] : List Nat) w42
  refine AnyE.pure 0 14 (.int .i64 t18) (by kernel_rfl) hS44 (fun _ => by kernel_rfl) ?_
  refine AnyE.pure 1 15 (.bool (t18 == 81920)) (by kernel_rfl) hS44 (fun _ => by kernel_rfl) ?_
  refine AnyE.pure 2 16 (.bool (t18 == 81920)) (by kernel_rfl) hS44 (fun _ => by kernel_rfl) ?_
  rcases of_cond h with ⟨hc46, h⟩ | ⟨hc46, h⟩
  · skip
    refine AnyE.fix 16 true hc46 (by kernel_rfl) (by kernel_rfl) ?_
    refine AnyE.pure 3 17 (.bool t19) (by kernel_rfl) hS44 (fun _ => by kernel_rfl) ?_
    refine AnyE.pure 4 18 (.bool t19) (by kernel_rfl) hS44 (fun _ => by kernel_rfl) ?_
    refine AnyE.pure 5 19 (.bool t19) (by kernel_rfl) hS44 (fun _ => by kernel_rfl) ?_
    rcases of_cond h with ⟨hc47, h⟩ | ⟨hc47, h⟩
    · skip
      refine AnyE.fix 19 true hc47 (by kernel_rfl) (by kernel_rfl) ?_
      refine AnyE.loadBox 6 20 1 53 b6 0 (.agg #[.slice (some ⟨b2, 0, none⟩) ([5].length) 1, .int .i64 2, .int .i64 1, .slice none 0 0]) [] h43 rfl (by kernel_rfl) hS44 rfl rfl (by kernel_rfl) (by kernel_rfl) ?_
      obtain ⟨t49, hg48, h⟩ := of_bind h
      refine AnyE.call 7 21 (.int .i64 t49) 36 #[.agg #[.slice (some ⟨b2, 0, none⟩) ([5].length) 1, .int .i64 2, .int .i64 1, .slice none 0 0]] (by kernel_rfl) hS44 (fun _ => by kernel_rfl) (fun w hk => banks_Check_36_ok K (fun _ => False) w (some ⟨b2, 0, none⟩) 1 none 0 [5] 2 1 ([] : List (Int × Int)) (fun _ hf => hf.elim) (Sl.mono (h43.atI [] rfl hk 0 rfl rfl) (fun _ _ hf => hf.elim)) (Sl.nil _ _ _) hg48) ?_
      refine AnyE.pure 8 22 (.bool (t49 == 0)) (by kernel_rfl) hS44 (fun _ => by kernel_rfl) ?_
      refine AnyE.pure 9 23 (.bool (t49 == 0)) (by kernel_rfl) hS44 (fun _ => by kernel_rfl) ?_
      refine AnyE.pure 10 24 (.bool (t49 == 0)) (by kernel_rfl) hS44 (fun _ => by kernel_rfl) ?_
      rcases of_cond h with ⟨hc50, h⟩ | ⟨hc50, h⟩
      · skip
        refine AnyE.fix 24 true hc50 (by kernel_rfl) (by kernel_rfl) ?_
        refine AnyE.loadBox 11 25 1 53 b6 0 (.agg #[.slice (some ⟨b2, 0, none⟩) ([5].length) 1, .int .i64 2, .int .i64 1, .slice none 0 0]) [] h43 rfl (by kernel_rfl) hS44 rfl rfl (by kernel_rfl) (by kernel_rfl) ?_
        obtain ⟨t52, hg51, h⟩ := of_bind h
        refine AnyE.call 12 26 (.int .u8 t52) 34 #[.agg #[.slice (some ⟨b2, 0, none⟩) ([5].length) 1, .int .i64 2, .int .i64 1, .slice none 0 0], .int .u16 0] (by kernel_rfl) hS44 (fun _ => by kernel_rfl) (fun w hk => banks_Read_34_ok K (fun _ => False) w (some ⟨b2, 0, none⟩) 1 none 0 [5] 2 1 ([] : List (Int × Int)) 0 (fun _ hf => hf.elim) (Sl.mono (h43.atI [] rfl hk 0 rfl rfl) (fun _ _ hf => hf.elim)) (Sl.nil _ _ _) hg51) ?_
        refine AnyE.pure 13 27 (.bool (t52 == 5)) (by kernel_rfl) hS44 (fun _ => by kernel_rfl) ?_
        refine AnyE.pure 14 28 (.bool (t52 == 5)) (by kernel_rfl) hS44 (fun _ => by kernel_rfl) ?_
        refine AnyE.pure 15 29 (.bool (t52 == 5)) (by kernel_rfl) hS44 (fun _ => by kernel_rfl) ?_
        rcases of_cond h with ⟨hc53, h⟩ | ⟨hc53, h⟩
        · skip
          refine AnyE.fix 29 true hc53 (by kernel_rfl) (by kernel_rfl) ?_
          refine AnyE.loadBox 16 30 1 53 b6 0 (.agg #[.slice (some ⟨b2, 0, none⟩) ([5].length) 1, .int .i64 2, .int .i64 1, .slice none 0 0]) [] h43 rfl (by kernel_rfl) hS44 rfl rfl (by kernel_rfl) (by kernel_rfl) ?_
          refine AnyE.loadBox 18 32 1 53 b6 0 (.agg #[.slice (some ⟨b2, 0, none⟩) ([5].length) 1, .int .i64 2, .int .i64 1, .slice none 0 0]) [] h43 rfl (by kernel_rfl) hS44 rfl rfl (by kernel_rfl) (by kernel_rfl) ?_
          refine AnyE.one 17 (by kernel_rfl) (fun w54 hu55 => ?_)
          have h56 := h43.call hu55
          have hS57 := hS44.up hu55
          obtain ⟨⟨t62, t66, t67, t68⟩, hg61, h⟩ := of_bind h
          dsimp only at h
          refine OpE.call 31 (by kernel_rfl) 39 #[.agg #[.slice (some ⟨b2, 0, none⟩) ([5].length) 1, .int .i64 2, .int .i64 1, .slice none 0 0], .int .u16 0, .int .u8 9] (by kernel_rfl) ((banks_Write_39_ok K _ w54  (some ⟨b2, 0, none⟩) 1 none 0 [5] 2 1 ([] : List (Int × Int)) 0 9 h56.old' (h56.get 0 rfl) (Sl.nil _ _ _) hg61).mono ?_)
          rintro _ w58 ⟨A63, c64, A69, c70, rfl, hr72⟩
          refine ⟨_, rfl, ?_⟩
          have hb59 := hr72.below
          have h60 := h56.join hr72
          have hS73 := hS57.up hb59
          refine ⟨hS73, ?_⟩
          refine AnyE.one 19 (by kernel_rfl) (fun w74 hu75 => ?_)
          have h76 := h60.call hu75
          have hS77 := hS73.up hu75
          obtain ⟨t82, hg81, h⟩ := of_bind h
          refine OpE.call 33 (by kernel_rfl) 45 #[.agg #[.slice A63 t62.length c64, .int .i64 t66, .int .i64 t67, .slice A69 t68.length c70], .agg #[.slice (some ⟨b2, 0, none⟩) ([5].length) 1, .int .i64 2, .int .i64 1, .slice none 0 0]] (by kernel_rfl) ((charabanclaw19_same_45_ok K _ w74  A63 c64 A69 c70 (some ⟨b2, 0, none⟩) 1 none 0 t62 t66 t67 t68 [5] 2 1 ([] : List (Int × Int)) h76.old' (h76.get 5 rfl) (h76.get 6 rfl) (h76.get 0 rfl) (Sl.nil _ _ _) hg81).mono ?_)
          rintro _ w78 ⟨rfl, hb79⟩
          refine ⟨_, rfl, ?_⟩
          have h80 := h76.call hb79
          have hS83 := hS77.up hb79
          refine ⟨hS83, ?_⟩
          refine AnyE.pure 20 34 (.bool t82) (by kernel_rfl) hS83 (fun _ => by kernel_rfl) ?_
          refine AnyE.pure 21 35 (.bool t82) (by kernel_rfl) hS83 (fun _ => by kernel_rfl) ?_
          rcases of_cond h with ⟨hc84, h⟩ | ⟨hc84, h⟩
          · skip
            refine AnyE.fix 35 true hc84 (by kernel_rfl) (by kernel_rfl) ?_
            refine AnyE.loadBox 22 36 4 53 b36 0 (.agg #[.slice A25 t24.length c26, .int .i64 t28, .int .i64 t29, .slice A31 t30.length c32]) [] h43 rfl (by kernel_rfl) hS83 rfl rfl (by kernel_rfl) (by kernel_rfl) ?_
            obtain ⟨t86, hg85, h⟩ := of_bind h
            refine AnyE.call 23 37 (.int .u8 t86) 34 #[.agg #[.slice A25 t24.length c26, .int .i64 t28, .int .i64 t29, .slice A31 t30.length c32], .int .u16 32768] (by kernel_rfl) hS83 (fun _ => by kernel_rfl) (fun w hk => banks_Read_34_ok K (fun _ => False) w A25 c26 A31 c32 t24 t28 t29 t30 32768 (fun _ hf => hf.elim) (Sl.mono (h43.atI [] rfl hk 2 rfl rfl) (fun _ _ hf => hf.elim)) (Sl.mono (h43.atI [] rfl hk 3 rfl rfl) (fun _ _ hf => hf.elim)) hg85) ?_
            refine AnyE.pure 24 38 (.bool (t86 == 7)) (by kernel_rfl) hS83 (fun _ => by kernel_rfl) ?_
            refine AnyE.pure 25 39 (.bool (t86 == 7)) (by kernel_rfl) hS83 (fun _ => by kernel_rfl) ?_
            refine AnyE.pure 26 40 (.bool (t86 == 7)) (by kernel_rfl) hS83 (fun _ => by kernel_rfl) ?_
            rcases of_cond h with ⟨hc87, h⟩ | ⟨hc87, h⟩
            · skip
              refine AnyE.fix 40 true hc87 (by kernel_rfl) (by kernel_rfl) ?_
              refine AnyE.loadBox 27 41 4 53 b36 0 (.agg #[.slice A25 t24.length c26, .int .i64 t28, .int .i64 t29, .slice A31 t30.length c32]) [] h43 rfl (by kernel_rfl) hS83 rfl rfl (by kernel_rfl) (by kernel_rfl) ?_
              refine AnyE.one 28 (by kernel_rfl) (fun w88 hu89 => ?_)
              have h90 := h80.call hu89
              have hS91 := hS83.up hu89
              obtain ⟨⟨t96, t100, t101, t102⟩, hg95, h⟩ := of_bind h
              dsimp only at h
              refine OpE.call 42 (by kernel_rfl) 41 #[.agg #[.slice A25 t24.length c26, .int .i64 t28, .int .i64 t29, .slice A31 t30.length c32], .int .u8 2] (by kernel_rfl) ((banks_Select_41_ok K _ w88  A25 c26 A31 c32 t24 t28 t29 t30 2 h90.old' (h90.get 2 rfl) (h90.get 3 rfl) hg95).mono ?_)
              rintro _ w92 ⟨A97, c98, A103, c104, rfl, hr106⟩
              refine ⟨_, rfl, ?_⟩
              have hb93 := hr106.below
              have h94 := h90.join hr106
              have hS107 := hS91.up hb93
              refine ⟨hS107, ?_⟩
              refine AnyE.one 29 (by kernel_rfl) (fun w108 hu109 => ?_)
              have h110 := h94.call hu109
              have hS111 := hS107.up hu109
              obtain ⟨t116, hg115, h⟩ := of_bind h
              refine OpE.call 43 (by kernel_rfl) 34 #[.agg #[.slice A97 t96.length c98, .int .i64 t100, .int .i64 t101, .slice A103 t102.length c104], .int .u16 32768] (by kernel_rfl) ((banks_Read_34_ok K _ w108  A97 c98 A103 c104 t96 t100 t101 t102 32768 h110.old' (h110.get 7 rfl) (h110.get 8 rfl) hg115).mono ?_)
              rintro _ w112 ⟨rfl, hb113⟩
              refine ⟨_, rfl, ?_⟩
              have h114 := h110.call hb113
              have hS117 := hS111.up hb113
              refine ⟨hS117, ?_⟩
              refine AnyE.pure 30 44 (.bool (t116 == 0)) (by kernel_rfl) hS117 (fun _ => by kernel_rfl) ?_
              refine AnyE.pure 31 45 (.bool (t116 == 0)) (by kernel_rfl) hS117 (fun _ => by kernel_rfl) ?_
              refine AnyE.pure 32 46 (.bool (t116 == 0)) (by kernel_rfl) hS117 (fun _ => by kernel_rfl) ?_
              rcases of_cond h with ⟨hc118, h⟩ | ⟨hc118, h⟩
              · skip
                refine AnyE.fix 46 true hc118 (by kernel_rfl) (by kernel_rfl) ?_
                refine AnyE.loadBox 33 47 1 53 b6 0 (.agg #[.slice (some ⟨b2, 0, none⟩) ([5].length) 1, .int .i64 2, .int .i64 1, .slice none 0 0]) [] h43 rfl (by kernel_rfl) hS117 rfl rfl (by kernel_rfl) (by kernel_rfl) ?_
                refine AnyE.loadBox 36 50 4 53 b36 0 (.agg #[.slice A25 t24.length c26, .int .i64 t28, .int .i64 t29, .slice A31 t30.length c32]) [] h43 rfl (by kernel_rfl) hS117 rfl rfl (by kernel_rfl) (by kernel_rfl) ?_
                refine AnyE.one 34 (by kernel_rfl) (fun w119 hu120 => ?_)
                have h121 := h114.call hu120
                have hS122 := hS117.up hu120
                refine OpE.lit 48 5 [.int .u8 7] 1 h121 (by kernel_rfl) (by kernel_rfl) ?_
                intro w123 b124 h125 hb126
                have hS127 := hS122.up hb126
                refine ⟨hS127, ?_⟩
                refine AnyE.one 35 (by kernel_rfl) (fun w128 hu129 => ?_)
                have h130 := h125.call hu129
                have hS131 := hS127.up hu129
                obtain ⟨⟨t138, t142, t143, t144⟩, hg137, h⟩ := of_bind h
                dsimp only at h
                have h132 := h130.boxOwn 9 rfl (Rp.int .u8) [7] (cells_int _ _ _ _) (by decide)
                have h133 := h132.release 9 rfl
                refine OpE.call 49 (by kernel_rfl) 43 #[.agg #[.slice (some ⟨b2, 0, none⟩) ([5].length) 1, .int .i64 2, .int .i64 1, .slice none 0 0], .int .i64 81920, .slice (some ⟨b124, 0, none⟩) ([7].length) 1] (by kernel_rfl) ((banks_Load_43_ok K _ w128  (some ⟨b2, 0, none⟩) 1 none 0 (some ⟨b124, 0, none⟩) 1 [5] 2 1 ([] : List (Int × Int)) 81920 [7] h133.old' (h133.get 0 rfl) (Sl.nil _ _ _) (h133.get 9 rfl) hg137).mono ?_)
                rintro _ w134 ⟨A139, c140, A145, c146, rfl, hr148⟩
                refine ⟨_, rfl, ?_⟩
                have hb135 := hr148.below
                have h136 := h133.join hr148
                have hS149 := hS131.up hb135
                refine ⟨hS149, ?_⟩
                refine AnyE.one 37 (by kernel_rfl) (fun w150 hu151 => ?_)
                have h152 := h136.call hu151
                have hS153 := hS149.up hu151
                obtain ⟨t158, hg157, h⟩ := of_bind h
                refine OpE.call 51 (by kernel_rfl) 45 #[.agg #[.slice A139 t138.length c140, .int .i64 t142, .int .i64 t143, .slice A145 t144.length c146], .agg #[.slice A25 t24.length c26, .int .i64 t28, .int .i64 t29, .slice A31 t30.length c32]] (by kernel_rfl) ((charabanclaw19_same_45_ok K _ w150  A139 c140 A145 c146 A25 c26 A31 c32 t138 t142 t143 t144 t24 t28 t29 t30 h152.old' (h152.get 10 rfl) (h152.get 11 rfl) (h152.get 2 rfl) (h152.get 3 rfl) hg157).mono ?_)
                rintro _ w154 ⟨rfl, hb155⟩
                refine ⟨_, rfl, ?_⟩
                have h156 := h152.call hb155
                have hS159 := hS153.up hb155
                refine ⟨hS159, ?_⟩
                refine AnyE.pure 38 52 (.bool t158) (by kernel_rfl) hS159 (fun _ => by kernel_rfl) ?_
                refine AnyE.pure 39 0 (.bool t158) (by kernel_rfl) hS159 (fun _ => by kernel_rfl) ?_
                refine AnyE.done (by kernel_rfl) (fun w160 hu161 => ?_)
                have h162 := h156.call hu161
                refine RunsI.only [0] [(0, .bool t158)] (by kernel_rfl) (by kernel_rfl) ?_
                refine RunsI.ret (.bool t158) (by kernel_rfl) (by kernel_rfl) ?_
                obtain rfl := Option.some.inj h
                exact ⟨rfl, h162.below⟩
              · skip
                refine AnyE.fix 46 false hc118 (by kernel_rfl) (by kernel_rfl) ?_
                refine AnyE.no 33 47 (by kernel_rfl) hS117 ?_
                refine AnyE.no 34 48 (by kernel_rfl) hS117 ?_
                refine AnyE.no 35 49 (by kernel_rfl) hS117 ?_
                refine AnyE.no 36 50 (by kernel_rfl) hS117 ?_
                refine AnyE.no 37 51 (by kernel_rfl) hS117 ?_
                refine AnyE.pure 38 52 (.bool false) (by kernel_rfl) hS117 (fun _ => by kernel_rfl) ?_
                refine AnyE.pure 39 0 (.bool false) (by kernel_rfl) hS117 (fun _ => by kernel_rfl) ?_
                refine AnyE.done (by kernel_rfl) (fun w163 hu164 => ?_)
                have h165 := h114.call hu164
                refine RunsI.only [0] [(0, .bool false)] (by kernel_rfl) (by kernel_rfl) ?_
                refine RunsI.ret (.bool false) (by kernel_rfl) (by kernel_rfl) ?_
                obtain rfl := Option.some.inj h
                exact ⟨rfl, h165.below⟩
            · skip
              refine AnyE.fix 40 false hc87 (by kernel_rfl) (by kernel_rfl) ?_
              refine AnyE.no 27 41 (by kernel_rfl) hS83 ?_
              refine AnyE.no 28 42 (by kernel_rfl) hS83 ?_
              refine AnyE.no 29 43 (by kernel_rfl) hS83 ?_
              refine AnyE.no 30 44 (by kernel_rfl) hS83 ?_
              refine AnyE.pure 31 45 (.bool false) (by kernel_rfl) hS83 (fun _ => by kernel_rfl) ?_
              refine AnyE.pure 32 46 (.bool false) (by kernel_rfl) hS83 (fun _ => by kernel_rfl) ?_
              refine AnyE.no 33 47 (by kernel_rfl) hS83 ?_
              refine AnyE.no 34 48 (by kernel_rfl) hS83 ?_
              refine AnyE.no 35 49 (by kernel_rfl) hS83 ?_
              refine AnyE.no 36 50 (by kernel_rfl) hS83 ?_
              refine AnyE.no 37 51 (by kernel_rfl) hS83 ?_
              refine AnyE.pure 38 52 (.bool false) (by kernel_rfl) hS83 (fun _ => by kernel_rfl) ?_
              refine AnyE.pure 39 0 (.bool false) (by kernel_rfl) hS83 (fun _ => by kernel_rfl) ?_
              refine AnyE.done (by kernel_rfl) (fun w166 hu167 => ?_)
              have h168 := h80.call hu167
              refine RunsI.only [0] [(0, .bool false)] (by kernel_rfl) (by kernel_rfl) ?_
              refine RunsI.ret (.bool false) (by kernel_rfl) (by kernel_rfl) ?_
              obtain rfl := Option.some.inj h
              exact ⟨rfl, h168.below⟩
          · skip
            refine AnyE.fix 35 false hc84 (by kernel_rfl) (by kernel_rfl) ?_
            refine AnyE.no 22 36 (by kernel_rfl) hS83 ?_
            refine AnyE.no 23 37 (by kernel_rfl) hS83 ?_
            refine AnyE.no 24 38 (by kernel_rfl) hS83 ?_
            refine AnyE.pure 25 39 (.bool false) (by kernel_rfl) hS83 (fun _ => by kernel_rfl) ?_
            refine AnyE.pure 26 40 (.bool false) (by kernel_rfl) hS83 (fun _ => by kernel_rfl) ?_
            refine AnyE.no 27 41 (by kernel_rfl) hS83 ?_
            refine AnyE.no 28 42 (by kernel_rfl) hS83 ?_
            refine AnyE.no 29 43 (by kernel_rfl) hS83 ?_
            refine AnyE.no 30 44 (by kernel_rfl) hS83 ?_
            refine AnyE.pure 31 45 (.bool false) (by kernel_rfl) hS83 (fun _ => by kernel_rfl) ?_
            refine AnyE.pure 32 46 (.bool false) (by kernel_rfl) hS83 (fun _ => by kernel_rfl) ?_
            refine AnyE.no 33 47 (by kernel_rfl) hS83 ?_
            refine AnyE.no 34 48 (by kernel_rfl) hS83 ?_
            refine AnyE.no 35 49 (by kernel_rfl) hS83 ?_
            refine AnyE.no 36 50 (by kernel_rfl) hS83 ?_
            refine AnyE.no 37 51 (by kernel_rfl) hS83 ?_
            refine AnyE.pure 38 52 (.bool false) (by kernel_rfl) hS83 (fun _ => by kernel_rfl) ?_
            refine AnyE.pure 39 0 (.bool false) (by kernel_rfl) hS83 (fun _ => by kernel_rfl) ?_
            refine AnyE.done (by kernel_rfl) (fun w169 hu170 => ?_)
            have h171 := h80.call hu170
            refine RunsI.only [0] [(0, .bool false)] (by kernel_rfl) (by kernel_rfl) ?_
            refine RunsI.ret (.bool false) (by kernel_rfl) (by kernel_rfl) ?_
            obtain rfl := Option.some.inj h
            exact ⟨rfl, h171.below⟩
        · skip
          refine AnyE.fix 29 false hc53 (by kernel_rfl) (by kernel_rfl) ?_
          refine AnyE.no 16 30 (by kernel_rfl) hS44 ?_
          refine AnyE.no 17 31 (by kernel_rfl) hS44 ?_
          refine AnyE.no 18 32 (by kernel_rfl) hS44 ?_
          refine AnyE.no 19 33 (by kernel_rfl) hS44 ?_
          refine AnyE.pure 20 34 (.bool false) (by kernel_rfl) hS44 (fun _ => by kernel_rfl) ?_
          refine AnyE.pure 21 35 (.bool false) (by kernel_rfl) hS44 (fun _ => by kernel_rfl) ?_
          refine AnyE.no 22 36 (by kernel_rfl) hS44 ?_
          refine AnyE.no 23 37 (by kernel_rfl) hS44 ?_
          refine AnyE.no 24 38 (by kernel_rfl) hS44 ?_
          refine AnyE.pure 25 39 (.bool false) (by kernel_rfl) hS44 (fun _ => by kernel_rfl) ?_
          refine AnyE.pure 26 40 (.bool false) (by kernel_rfl) hS44 (fun _ => by kernel_rfl) ?_
          refine AnyE.no 27 41 (by kernel_rfl) hS44 ?_
          refine AnyE.no 28 42 (by kernel_rfl) hS44 ?_
          refine AnyE.no 29 43 (by kernel_rfl) hS44 ?_
          refine AnyE.no 30 44 (by kernel_rfl) hS44 ?_
          refine AnyE.pure 31 45 (.bool false) (by kernel_rfl) hS44 (fun _ => by kernel_rfl) ?_
          refine AnyE.pure 32 46 (.bool false) (by kernel_rfl) hS44 (fun _ => by kernel_rfl) ?_
          refine AnyE.no 33 47 (by kernel_rfl) hS44 ?_
          refine AnyE.no 34 48 (by kernel_rfl) hS44 ?_
          refine AnyE.no 35 49 (by kernel_rfl) hS44 ?_
          refine AnyE.no 36 50 (by kernel_rfl) hS44 ?_
          refine AnyE.no 37 51 (by kernel_rfl) hS44 ?_
          refine AnyE.pure 38 52 (.bool false) (by kernel_rfl) hS44 (fun _ => by kernel_rfl) ?_
          refine AnyE.pure 39 0 (.bool false) (by kernel_rfl) hS44 (fun _ => by kernel_rfl) ?_
          refine AnyE.done (by kernel_rfl) (fun w172 hu173 => ?_)
          have h174 := h43.call hu173
          refine RunsI.only [0] [(0, .bool false)] (by kernel_rfl) (by kernel_rfl) ?_
          refine RunsI.ret (.bool false) (by kernel_rfl) (by kernel_rfl) ?_
          obtain rfl := Option.some.inj h
          exact ⟨rfl, h174.below⟩
      · skip
        refine AnyE.fix 24 false hc50 (by kernel_rfl) (by kernel_rfl) ?_
        refine AnyE.no 11 25 (by kernel_rfl) hS44 ?_
        refine AnyE.no 12 26 (by kernel_rfl) hS44 ?_
        refine AnyE.no 13 27 (by kernel_rfl) hS44 ?_
        refine AnyE.pure 14 28 (.bool false) (by kernel_rfl) hS44 (fun _ => by kernel_rfl) ?_
        refine AnyE.pure 15 29 (.bool false) (by kernel_rfl) hS44 (fun _ => by kernel_rfl) ?_
        refine AnyE.no 16 30 (by kernel_rfl) hS44 ?_
        refine AnyE.no 17 31 (by kernel_rfl) hS44 ?_
        refine AnyE.no 18 32 (by kernel_rfl) hS44 ?_
        refine AnyE.no 19 33 (by kernel_rfl) hS44 ?_
        refine AnyE.pure 20 34 (.bool false) (by kernel_rfl) hS44 (fun _ => by kernel_rfl) ?_
        refine AnyE.pure 21 35 (.bool false) (by kernel_rfl) hS44 (fun _ => by kernel_rfl) ?_
        refine AnyE.no 22 36 (by kernel_rfl) hS44 ?_
        refine AnyE.no 23 37 (by kernel_rfl) hS44 ?_
        refine AnyE.no 24 38 (by kernel_rfl) hS44 ?_
        refine AnyE.pure 25 39 (.bool false) (by kernel_rfl) hS44 (fun _ => by kernel_rfl) ?_
        refine AnyE.pure 26 40 (.bool false) (by kernel_rfl) hS44 (fun _ => by kernel_rfl) ?_
        refine AnyE.no 27 41 (by kernel_rfl) hS44 ?_
        refine AnyE.no 28 42 (by kernel_rfl) hS44 ?_
        refine AnyE.no 29 43 (by kernel_rfl) hS44 ?_
        refine AnyE.no 30 44 (by kernel_rfl) hS44 ?_
        refine AnyE.pure 31 45 (.bool false) (by kernel_rfl) hS44 (fun _ => by kernel_rfl) ?_
        refine AnyE.pure 32 46 (.bool false) (by kernel_rfl) hS44 (fun _ => by kernel_rfl) ?_
        refine AnyE.no 33 47 (by kernel_rfl) hS44 ?_
        refine AnyE.no 34 48 (by kernel_rfl) hS44 ?_
        refine AnyE.no 35 49 (by kernel_rfl) hS44 ?_
        refine AnyE.no 36 50 (by kernel_rfl) hS44 ?_
        refine AnyE.no 37 51 (by kernel_rfl) hS44 ?_
        refine AnyE.pure 38 52 (.bool false) (by kernel_rfl) hS44 (fun _ => by kernel_rfl) ?_
        refine AnyE.pure 39 0 (.bool false) (by kernel_rfl) hS44 (fun _ => by kernel_rfl) ?_
        refine AnyE.done (by kernel_rfl) (fun w175 hu176 => ?_)
        have h177 := h43.call hu176
        refine RunsI.only [0] [(0, .bool false)] (by kernel_rfl) (by kernel_rfl) ?_
        refine RunsI.ret (.bool false) (by kernel_rfl) (by kernel_rfl) ?_
        obtain rfl := Option.some.inj h
        exact ⟨rfl, h177.below⟩
    · skip
      refine AnyE.fix 19 false hc47 (by kernel_rfl) (by kernel_rfl) ?_
      refine AnyE.no 6 20 (by kernel_rfl) hS44 ?_
      refine AnyE.no 7 21 (by kernel_rfl) hS44 ?_
      refine AnyE.no 8 22 (by kernel_rfl) hS44 ?_
      refine AnyE.pure 9 23 (.bool false) (by kernel_rfl) hS44 (fun _ => by kernel_rfl) ?_
      refine AnyE.pure 10 24 (.bool false) (by kernel_rfl) hS44 (fun _ => by kernel_rfl) ?_
      refine AnyE.no 11 25 (by kernel_rfl) hS44 ?_
      refine AnyE.no 12 26 (by kernel_rfl) hS44 ?_
      refine AnyE.no 13 27 (by kernel_rfl) hS44 ?_
      refine AnyE.pure 14 28 (.bool false) (by kernel_rfl) hS44 (fun _ => by kernel_rfl) ?_
      refine AnyE.pure 15 29 (.bool false) (by kernel_rfl) hS44 (fun _ => by kernel_rfl) ?_
      refine AnyE.no 16 30 (by kernel_rfl) hS44 ?_
      refine AnyE.no 17 31 (by kernel_rfl) hS44 ?_
      refine AnyE.no 18 32 (by kernel_rfl) hS44 ?_
      refine AnyE.no 19 33 (by kernel_rfl) hS44 ?_
      refine AnyE.pure 20 34 (.bool false) (by kernel_rfl) hS44 (fun _ => by kernel_rfl) ?_
      refine AnyE.pure 21 35 (.bool false) (by kernel_rfl) hS44 (fun _ => by kernel_rfl) ?_
      refine AnyE.no 22 36 (by kernel_rfl) hS44 ?_
      refine AnyE.no 23 37 (by kernel_rfl) hS44 ?_
      refine AnyE.no 24 38 (by kernel_rfl) hS44 ?_
      refine AnyE.pure 25 39 (.bool false) (by kernel_rfl) hS44 (fun _ => by kernel_rfl) ?_
      refine AnyE.pure 26 40 (.bool false) (by kernel_rfl) hS44 (fun _ => by kernel_rfl) ?_
      refine AnyE.no 27 41 (by kernel_rfl) hS44 ?_
      refine AnyE.no 28 42 (by kernel_rfl) hS44 ?_
      refine AnyE.no 29 43 (by kernel_rfl) hS44 ?_
      refine AnyE.no 30 44 (by kernel_rfl) hS44 ?_
      refine AnyE.pure 31 45 (.bool false) (by kernel_rfl) hS44 (fun _ => by kernel_rfl) ?_
      refine AnyE.pure 32 46 (.bool false) (by kernel_rfl) hS44 (fun _ => by kernel_rfl) ?_
      refine AnyE.no 33 47 (by kernel_rfl) hS44 ?_
      refine AnyE.no 34 48 (by kernel_rfl) hS44 ?_
      refine AnyE.no 35 49 (by kernel_rfl) hS44 ?_
      refine AnyE.no 36 50 (by kernel_rfl) hS44 ?_
      refine AnyE.no 37 51 (by kernel_rfl) hS44 ?_
      refine AnyE.pure 38 52 (.bool false) (by kernel_rfl) hS44 (fun _ => by kernel_rfl) ?_
      refine AnyE.pure 39 0 (.bool false) (by kernel_rfl) hS44 (fun _ => by kernel_rfl) ?_
      refine AnyE.done (by kernel_rfl) (fun w178 hu179 => ?_)
      have h180 := h43.call hu179
      refine RunsI.only [0] [(0, .bool false)] (by kernel_rfl) (by kernel_rfl) ?_
      refine RunsI.ret (.bool false) (by kernel_rfl) (by kernel_rfl) ?_
      obtain rfl := Option.some.inj h
      exact ⟨rfl, h180.below⟩
  · skip
    refine AnyE.fix 16 false hc46 (by kernel_rfl) (by kernel_rfl) ?_
    refine AnyE.no 3 17 (by kernel_rfl) hS44 ?_
    refine AnyE.pure 4 18 (.bool false) (by kernel_rfl) hS44 (fun _ => by kernel_rfl) ?_
    refine AnyE.pure 5 19 (.bool false) (by kernel_rfl) hS44 (fun _ => by kernel_rfl) ?_
    refine AnyE.no 6 20 (by kernel_rfl) hS44 ?_
    refine AnyE.no 7 21 (by kernel_rfl) hS44 ?_
    refine AnyE.no 8 22 (by kernel_rfl) hS44 ?_
    refine AnyE.pure 9 23 (.bool false) (by kernel_rfl) hS44 (fun _ => by kernel_rfl) ?_
    refine AnyE.pure 10 24 (.bool false) (by kernel_rfl) hS44 (fun _ => by kernel_rfl) ?_
    refine AnyE.no 11 25 (by kernel_rfl) hS44 ?_
    refine AnyE.no 12 26 (by kernel_rfl) hS44 ?_
    refine AnyE.no 13 27 (by kernel_rfl) hS44 ?_
    refine AnyE.pure 14 28 (.bool false) (by kernel_rfl) hS44 (fun _ => by kernel_rfl) ?_
    refine AnyE.pure 15 29 (.bool false) (by kernel_rfl) hS44 (fun _ => by kernel_rfl) ?_
    refine AnyE.no 16 30 (by kernel_rfl) hS44 ?_
    refine AnyE.no 17 31 (by kernel_rfl) hS44 ?_
    refine AnyE.no 18 32 (by kernel_rfl) hS44 ?_
    refine AnyE.no 19 33 (by kernel_rfl) hS44 ?_
    refine AnyE.pure 20 34 (.bool false) (by kernel_rfl) hS44 (fun _ => by kernel_rfl) ?_
    refine AnyE.pure 21 35 (.bool false) (by kernel_rfl) hS44 (fun _ => by kernel_rfl) ?_
    refine AnyE.no 22 36 (by kernel_rfl) hS44 ?_
    refine AnyE.no 23 37 (by kernel_rfl) hS44 ?_
    refine AnyE.no 24 38 (by kernel_rfl) hS44 ?_
    refine AnyE.pure 25 39 (.bool false) (by kernel_rfl) hS44 (fun _ => by kernel_rfl) ?_
    refine AnyE.pure 26 40 (.bool false) (by kernel_rfl) hS44 (fun _ => by kernel_rfl) ?_
    refine AnyE.no 27 41 (by kernel_rfl) hS44 ?_
    refine AnyE.no 28 42 (by kernel_rfl) hS44 ?_
    refine AnyE.no 29 43 (by kernel_rfl) hS44 ?_
    refine AnyE.no 30 44 (by kernel_rfl) hS44 ?_
    refine AnyE.pure 31 45 (.bool false) (by kernel_rfl) hS44 (fun _ => by kernel_rfl) ?_
    refine AnyE.pure 32 46 (.bool false) (by kernel_rfl) hS44 (fun _ => by kernel_rfl) ?_
    refine AnyE.no 33 47 (by kernel_rfl) hS44 ?_
    refine AnyE.no 34 48 (by kernel_rfl) hS44 ?_
    refine AnyE.no 35 49 (by kernel_rfl) hS44 ?_
    refine AnyE.no 36 50 (by kernel_rfl) hS44 ?_
    refine AnyE.no 37 51 (by kernel_rfl) hS44 ?_
    refine AnyE.pure 38 52 (.bool false) (by kernel_rfl) hS44 (fun _ => by kernel_rfl) ?_
    refine AnyE.pure 39 0 (.bool false) (by kernel_rfl) hS44 (fun _ => by kernel_rfl) ?_
    refine AnyE.done (by kernel_rfl) (fun w181 hu182 => ?_)
    have h183 := h43.call hu182
    refine RunsI.only [0] [(0, .bool false)] (by kernel_rfl) (by kernel_rfl) ?_
    refine RunsI.ret (.bool false) (by kernel_rfl) (by kernel_rfl) ?_
    obtain rfl := Option.some.inj h
    exact ⟨rfl, h183.below⟩
end

/-! ### charabanc/charabanclaw19.few (function 30) -/
section
def charabanclaw19_few_30.post (M0 : Nat → Prop) (w0 : World) (r : Bool) : Ending → World → Prop := fun e w => e = .returned (.bool r) ∧ Below w0.heap.size w0 w
def charabanclaw19_few_30.f (K : Nat) (p0_0 : List Int) (p0_1 : Int) (p0_2 : Int) (p0_3 : List (Int × Int)) : Option Bool := cond (decide ((p0_0.length : Int) ≤ 600)) (some (decide ((p0_3.length : Int) ≤ 60))) (some false)
set_option maxRecDepth 100000 in
theorem charabanclaw19_few_30_ok (K : Nat) (M0 : Nat → Prop) (w0 : World) (pA0_0 : Option Addr) (pc0_0 : Nat) (pA0_3 : Option Addr) (pc0_3 : Nat) (p0_0 : List Int) (p0_1 : Int) (p0_2 : Int) (p0_3 : List (Int × Int)) (ho : ∀ b, M0 b → b < w0.heap.size) (hs0_0 : Sl (Rp.int .u8) w0 M0 (.slice pA0_0 p0_0.length pc0_0) p0_0) (hs0_3 : Sl (Rp.pair (Rp.int .i64) (Rp.int .u8)) w0 M0 (.slice pA0_3 p0_3.length pc0_3) p0_3) {r : Bool} (h : charabanclaw19_few_30.f K p0_0 p0_1 p0_2 p0_3 = some r) :
    Calls Try.prog 30 #[.agg #[.slice pA0_0 p0_0.length pc0_0, .int .i64 p0_1, .int .i64 p0_2, .slice pA0_3 p0_3.length pc0_3]] w0 (charabanclaw19_few_30.post M0 w0 r) := by
  unfold charabanclaw19_few_30.f at h
  have h0 : Holds M0 w0 w0 [] := Holds.start ho
  have h00_0 := h0.addSl (Rp.int .u8) (.slice pA0_0 p0_0.length pc0_0) p0_0 (hs0_0.mono (fun _ _ hm => hm.elim id (fun hm => absurd hm (by simp [mines, sl]))))
  have h00_3 := h00_0.addSl (Rp.pair (Rp.int .i64) (Rp.int .u8)) (.slice pA0_3 p0_3.length pc0_3) p0_3 (hs0_3.mono (fun _ _ hm => hm.elim id (fun hm => absurd hm (by simp [mines, sl]))))
  have h0 : Holds M0 w0 w0 [sl (Rp.int .u8) (.slice pA0_0 p0_0.length pc0_0) p0_0, sl (Rp.pair (Rp.int .i64) (Rp.int .u8)) (.slice pA0_3 p0_3.length pc0_3) p0_3] := h00_3
  refine calls_of F30 rfl [.agg #[.slice pA0_0 p0_0.length pc0_0, .int .i64 p0_1, .int .i64 p0_2, .slice pA0_3 p0_3.length pc0_3]] (by kernel_rfl) ?_
  refine RunsI.go 1 [.c 1, .c 2] (by kernel_rfl) ?_
  refine RunsI.region (by kernel_rfl) ?_
  refine RegI.op (by kernel_rfl) (OpE.box 1 53 [.slice pA0_0 p0_0.length pc0_0, .int .i64 p0_1, .int .i64 p0_2, .slice pA0_3 p0_3.length pc0_3] h0 (by kernel_rfl) (by kernel_rfl) ?_)
  intro w1 b2 h3 hb4
  refine RegI.pure 1 [1] [(1, .pointer (some ⟨b2, 0, none⟩))] (by kernel_rfl) ?_
  refine RegI.done (by kernel_rfl) ?_
  refine RunsI.go 1 [.c 3, .c 4] (by kernel_rfl) ?_
  refine RunsI.region (by kernel_rfl) ?_
  refine RegI.pure 1 [1, 3] [(1, .pointer (some ⟨b2, 0, none⟩)), (3, .pointer (some ⟨b2, 0, none⟩))] (by kernel_rfl) ?_
  refine RegI.op (by kernel_rfl) (OpE.loadBox 4 2 38 b2 0 (.slice pA0_0 p0_0.length pc0_0) h3 (by kernel_rfl) (by kernel_rfl) rfl (by kernel_rfl) ?_)
  refine RegI.pure 3 [1, 7] [(1, .pointer (some ⟨b2, 0, none⟩)), (7, .bool (decide ((p0_0.length : Int) ≤ 600)))] (by kernel_rfl) ?_
  rcases of_cond h with ⟨hc5, h⟩ | ⟨hc5, h⟩
  · skip
    refine RegI.fix 7 true hc5 (by kernel_rfl) (by kernel_rfl) ?_
    refine RegI.pure 1 [7, 8] [(7, .bool true), (8, .pointer (some ⟨b2, 3, none⟩))] (by kernel_rfl) ?_
    refine RegI.op (by kernel_rfl) (OpE.loadBox 9 2 51 b2 3 (.slice pA0_3 p0_3.length pc0_3) h3 (by kernel_rfl) (by kernel_rfl) rfl (by kernel_rfl) ?_)
    refine RegI.pure 4 [2] [(2, .bool (decide ((p0_3.length : Int) ≤ 60)))] (by kernel_rfl) ?_
    refine RegI.done (by kernel_rfl) ?_
    refine RunsI.ret (.bool (decide ((p0_3.length : Int) ≤ 60))) (by kernel_rfl) (by kernel_rfl) ?_
    obtain rfl := Option.some.inj h
    exact ⟨rfl, h3.below⟩
  · skip
    refine RegI.fix 7 false hc5 (by kernel_rfl) (by kernel_rfl) ?_
    refine RegI.pure 6 [2] [(2, .bool false)] (by kernel_rfl) ?_
    refine RegI.done (by kernel_rfl) ?_
    refine RunsI.ret (.bool false) (by kernel_rfl) (by kernel_rfl) ?_
    obtain rfl := Option.some.inj h
    exact ⟨rfl, h3.below⟩
end

/-! ### charabanc/charabancref19.Where (function 32) -/
section
def charabancref19_Where_32.post (M0 : Nat → Prop) (w0 : World) (r : Int × Bool) : Ending → World → Prop := fun e w => e = .returned (.tuple #[.int .i64 r.1, .bool r.2]) ∧ Below w0.heap.size w0 w
def charabancref19_Where_32.f (K : Nat) (p0_0 : List Int) (p0_1 : Int) (p0_2 : Int) (p0_3 : List (Int × Int)) (p1 : Int) : Option (Int × Bool) := cond (decide ((IntKind.wrap .i64 p1) < (p0_0.length : Int))) (some (0, false)) (Let (fun (t7 : Bool) => cond t7 (some ((IntKind.wrap .i64 ((IntKind.wrap .i64 ((IntKind.wrap .i64 (65536 + (IntKind.wrap .i64 (16384 * p0_2)))) + (IntKind.wrap .i64 p1))) - 32768)), true)) (some ((IntKind.wrap .i64 p1), true))) (fun j10 => cond (decide ((IntKind.wrap .i64 p1) ≥ 32768)) (j10 (decide ((IntKind.wrap .i64 p1) < 49152))) (j10 false)))
set_option maxRecDepth 100000 in
theorem charabancref19_Where_32_ok (K : Nat) (M0 : Nat → Prop) (w0 : World) (pA0_0 : Option Addr) (pc0_0 : Nat) (pA0_3 : Option Addr) (pc0_3 : Nat) (p0_0 : List Int) (p0_1 : Int) (p0_2 : Int) (p0_3 : List (Int × Int)) (p1 : Int) (ho : ∀ b, M0 b → b < w0.heap.size) (hs0_0 : Sl (Rp.int .u8) w0 M0 (.slice pA0_0 p0_0.length pc0_0) p0_0) (hs0_3 : Sl (Rp.pair (Rp.int .i64) (Rp.int .u8)) w0 M0 (.slice pA0_3 p0_3.length pc0_3) p0_3) {r : Int × Bool} (h : charabancref19_Where_32.f K p0_0 p0_1 p0_2 p0_3 p1 = some r) :
    Calls Try.prog 32 #[.agg #[.slice pA0_0 p0_0.length pc0_0, .int .i64 p0_1, .int .i64 p0_2, .slice pA0_3 p0_3.length pc0_3], .int .u16 p1] w0 (charabancref19_Where_32.post M0 w0 r) := by
  unfold charabancref19_Where_32.f at h
  have h0 : Holds M0 w0 w0 [] := Holds.start ho
  have h00_0 := h0.addSl (Rp.int .u8) (.slice pA0_0 p0_0.length pc0_0) p0_0 (hs0_0.mono (fun _ _ hm => hm.elim id (fun hm => absurd hm (by simp [mines, sl]))))
  have h00_3 := h00_0.addSl (Rp.pair (Rp.int .i64) (Rp.int .u8)) (.slice pA0_3 p0_3.length pc0_3) p0_3 (hs0_3.mono (fun _ _ hm => hm.elim id (fun hm => absurd hm (by simp [mines, sl]))))
  have h0 : Holds M0 w0 w0 [sl (Rp.int .u8) (.slice pA0_0 p0_0.length pc0_0) p0_0, sl (Rp.pair (Rp.int .i64) (Rp.int .u8)) (.slice pA0_3 p0_3.length pc0_3) p0_3] := h00_3
  refine calls_of F32 rfl [.agg #[.slice pA0_0 p0_0.length pc0_0, .int .i64 p0_1, .int .i64 p0_2, .slice pA0_3 p0_3.length pc0_3], .int .u16 p1] (by kernel_rfl) ?_
  refine RunsI.go 1 [.c 1, .c 2] (by kernel_rfl) ?_
  refine RunsI.region (by kernel_rfl) ?_
  refine RegI.op (by kernel_rfl) (OpE.box 2 60 [.slice pA0_0 p0_0.length pc0_0, .int .i64 p0_1, .int .i64 p0_2, .slice pA0_3 p0_3.length pc0_3] h0 (by kernel_rfl) (by kernel_rfl) ?_)
  intro w1 b2 h3 hb4
  refine RegI.pure 2 [1, 2] [(1, .int .u16 p1), (2, .pointer (some ⟨b2, 0, none⟩))] (by kernel_rfl) ?_
  refine RegI.done (by kernel_rfl) ?_
  refine RunsI.go 1 [.c 3, .c 4] (by kernel_rfl) ?_
  refine RunsI.region (by kernel_rfl) ?_
  refine RegI.pure 3 [2, 6] [(2, .pointer (some ⟨b2, 0, none⟩)), (6, .int .i64 (IntKind.wrap .i64 p1))] (by kernel_rfl) ?_
  refine RegI.done (by kernel_rfl) ?_
  refine RunsI.go 2 [.c 6, .c 7, .c 12] (by kernel_rfl) ?_
  refine RunsI.region (by kernel_rfl) ?_
  refine RegI.pure 2 [2, 6, 9, 10] [(2, .pointer (some ⟨b2, 0, none⟩)), (6, .int .i64 (IntKind.wrap .i64 p1)), (9, .int .i64 (IntKind.wrap .i64 p1)), (10, .pointer (some ⟨b2, 0, none⟩))] (by kernel_rfl) ?_
  refine RegI.op (by kernel_rfl) (OpE.loadBox 11 2 38 b2 0 (.slice pA0_0 p0_0.length pc0_0) h3 (by kernel_rfl) (by kernel_rfl) rfl (by kernel_rfl) ?_)
  refine RegI.pure 2 [2, 6, 13] [(2, .pointer (some ⟨b2, 0, none⟩)), (6, .int .i64 (IntKind.wrap .i64 p1)), (13, .bool (decide ((IntKind.wrap .i64 p1) < (p0_0.length : Int))))] (by kernel_rfl) ?_
  refine RegI.done (by kernel_rfl) ?_
  rcases of_cond h with ⟨hc5, h⟩ | ⟨hc5, h⟩
  · skip
    refine RunsI.fix 13 true hc5 (by kernel_rfl) (by kernel_rfl) ?_
    refine RunsI.cond true 8 (by kernel_rfl) ?_
    refine RunsI.go 1 [.c 9, .c 10, .c 12] (by kernel_rfl) ?_
    refine RunsI.region (by kernel_rfl) ?_
    refine RegI.pure 2 [4, 5] [(4, .int .i64 0), (5, .bool false)] (by kernel_rfl) ?_
    refine RegI.done (by kernel_rfl) ?_
    refine RunsI.ret (.tuple #[.int .i64 0, .bool false]) (by kernel_rfl) (by kernel_rfl) ?_
    obtain rfl := Option.some.inj h
    exact ⟨rfl, h3.below⟩
  · skip
    refine RunsI.fix 13 false hc5 (by kernel_rfl) (by kernel_rfl) ?_
    refine RunsI.cond false 11 (by kernel_rfl) ?_
    refine RunsI.go 1 [.c 12] (by kernel_rfl) ?_
    refine RunsI.go 2 [.c 14, .c 15, .c 20] (by kernel_rfl) ?_
    refine RunsI.region (by kernel_rfl) ?_
    refine RegI.pure 3 [2, 6, 16] [(2, .pointer (some ⟨b2, 0, none⟩)), (6, .int .i64 (IntKind.wrap .i64 p1)), (16, .bool (decide ((IntKind.wrap .i64 p1) ≥ 32768)))] (by kernel_rfl) ?_
    obtain ⟨j10, hJ11, h⟩ := of_let h
    have hj12 : ∀ (t7 : Bool) (w9 : World), j10 t7 = some r → Holds M0 w0 w9 [box b2 60 [.slice pA0_0 p0_0.length pc0_0, .int .i64 p0_1, .int .i64 p0_2, .slice pA0_3 p0_3.length pc0_3], sl (Rp.int .u8) (.slice pA0_0 p0_0.length pc0_0) p0_0, sl (Rp.pair (Rp.int .i64) (Rp.int .u8)) (.slice pA0_3 p0_3.length pc0_3) p0_3] → RegI F32 14 [.c 15, .c 20] 6 [(2, .pointer (some ⟨b2, 0, none⟩)), (6, .int .i64 (IntKind.wrap .i64 p1)), (19, .bool t7)] w9 (charabancref19_Where_32.post M0 w0 r) := by
      intro t7 w9 h h8
      rw [hJ11] at h
      clear hJ11
      dsimp only at h
      refine RegI.done (by kernel_rfl) ?_
      rcases of_cond h with ⟨hc13, h⟩ | ⟨hc13, h⟩
      · skip
        refine RunsI.fix 19 true hc13 (by kernel_rfl) (by kernel_rfl) ?_
        refine RunsI.cond true 16 (by kernel_rfl) ?_
        refine RunsI.go 1 [.c 17, .c 18, .c 20] (by kernel_rfl) ?_
        refine RunsI.region (by kernel_rfl) ?_
        refine RegI.pure 1 [6, 20] [(6, .int .i64 (IntKind.wrap .i64 p1)), (20, .pointer (some ⟨b2, 2, none⟩))] (by kernel_rfl) ?_
        refine RegI.op (by kernel_rfl) (OpE.loadBox 21 0 3 b2 2 (.int .i64 p0_2) h8 (by kernel_rfl) (by kernel_rfl) rfl (by kernel_rfl) ?_)
        refine RegI.pure 7 [4, 5] [(4, .int .i64 (IntKind.wrap .i64 ((IntKind.wrap .i64 ((IntKind.wrap .i64 (65536 + (IntKind.wrap .i64 (16384 * p0_2)))) + (IntKind.wrap .i64 p1))) - 32768))), (5, .bool true)] (by kernel_rfl) ?_
        refine RegI.done (by kernel_rfl) ?_
        refine RunsI.ret (.tuple #[.int .i64 (IntKind.wrap .i64 ((IntKind.wrap .i64 ((IntKind.wrap .i64 (65536 + (IntKind.wrap .i64 (16384 * p0_2)))) + (IntKind.wrap .i64 p1))) - 32768)), .bool true]) (by kernel_rfl) (by kernel_rfl) ?_
        obtain rfl := Option.some.inj h
        exact ⟨rfl, h8.below⟩
      · skip
        refine RunsI.fix 19 false hc13 (by kernel_rfl) (by kernel_rfl) ?_
        refine RunsI.cond false 19 (by kernel_rfl) ?_
        refine RunsI.go 1 [.c 20] (by kernel_rfl) ?_
        refine RunsI.go 1 [.c 21, .c 22] (by kernel_rfl) ?_
        refine RunsI.region (by kernel_rfl) ?_
        refine RegI.pure 3 [4, 5] [(4, .int .i64 (IntKind.wrap .i64 p1)), (5, .bool true)] (by kernel_rfl) ?_
        refine RegI.done (by kernel_rfl) ?_
        refine RunsI.ret (.tuple #[.int .i64 (IntKind.wrap .i64 p1), .bool true]) (by kernel_rfl) (by kernel_rfl) ?_
        obtain rfl := Option.some.inj h
        exact ⟨rfl, h8.below⟩
    clear hJ11
    rcases of_cond h with ⟨hc6, h⟩ | ⟨hc6, h⟩
    · skip
      refine RegI.fix 16 true hc6 (by kernel_rfl) (by kernel_rfl) ?_
      refine RegI.pure 3 [2, 6, 19] [(2, .pointer (some ⟨b2, 0, none⟩)), (6, .int .i64 (IntKind.wrap .i64 p1)), (19, .bool (decide ((IntKind.wrap .i64 p1) < 49152)))] (by kernel_rfl) ?_
      refine RegI.only [2, 6, 19] [(2, .pointer (some ⟨b2, 0, none⟩)), (6, .int .i64 (IntKind.wrap .i64 p1)), (19, .bool (decide ((IntKind.wrap .i64 p1) < 49152)))] (by kernel_rfl) (by kernel_rfl) ?_
      exact hj12 (decide ((IntKind.wrap .i64 p1) < 49152)) w1 h (h3.pick [2, 0, 1] (by decide))
    · skip
      refine RegI.fix 16 false hc6 (by kernel_rfl) (by kernel_rfl) ?_
      refine RegI.pure 3 [2, 6, 19] [(2, .pointer (some ⟨b2, 0, none⟩)), (6, .int .i64 (IntKind.wrap .i64 p1)), (19, .bool false)] (by kernel_rfl) ?_
      refine RegI.only [2, 6, 19] [(2, .pointer (some ⟨b2, 0, none⟩)), (6, .int .i64 (IntKind.wrap .i64 p1)), (19, .bool false)] (by kernel_rfl) (by kernel_rfl) ?_
      exact hj12 false w1 h (h3.pick [2, 0, 1] (by decide))
end

/-! ### charabanc/charabancref19.Read (function 35) -/
section
def charabancref19_Read_35.post (M0 : Nat → Prop) (w0 : World) (r : Int) : Ending → World → Prop := fun e w => e = .returned (.int .u8 r) ∧ Below w0.heap.size w0 w
def charabancref19_Read_35.l0 (K : Nat) (p0_0 : List Int) (p0_1 : Int) (p0_2 : Int) (p0_3 : List (Int × Int)) (p1 : Int) (t19 : Int) : Nat → Int → Option (Lp Int Unit)
  | 0, _ => none
  | k + 1, t20 => cond (decide (t20 < (p0_3.length : Int))) (cond (inR t20 p0_3.length) (cond (((rdD p0_3 t20).1) == t19) (some (Lp.ret ((rdD p0_3 t20).2))) (charabancref19_Read_35.l0 K p0_0 p0_1 p0_2 p0_3 p1 t19 k (IntKind.wrap .i64 (t20 + 1)))) none) (some (Lp.go ()))
set_option maxRecDepth 100000 in
theorem charabancref19_Read_35.l0_ok (K : Nat) (M0 : Nat → Prop) (w0 : World) (pA0_0 : Option Addr) (pc0_0 : Nat) (pA0_3 : Option Addr) (pc0_3 : Nat) (p0_0 : List Int) (p0_1 : Int) (p0_2 : Int) (p0_3 : List (Int × Int)) (p1 : Int) (t19 : Int) (b18 : Nat) (R : Ending → World → Prop) (x : Lp Int Unit) (hk0 : ∀ (w1 : World), x = Lp.go () → Holds M0 w0 w1 [] → RunsI F35 [.c 33] [] w1 R) (hk1 : ∀ (t34 : Int) (w1 : World), x = Lp.ret t34 → Holds M0 w0 w1 [] → R (.returned (.int .u8 t34)) w1) :
    ∀ (k : Nat) (t20 : Int) (w : World), charabancref19_Read_35.l0 K p0_0 p0_1 p0_2 p0_3 p1 t19 k t20 = some x → Holds M0 w0 w [box b18 60 [.slice pA0_0 p0_0.length pc0_0, .int .i64 p0_1, .int .i64 p0_2, .slice pA0_3 p0_3.length pc0_3], sl (Rp.int .u8) (.slice pA0_0 p0_0.length pc0_0) p0_0, sl (Rp.pair (Rp.int .i64) (Rp.int .u8)) (.slice pA0_3 p0_3.length pc0_3) p0_3] → RunsI F35 [.c 17, .lp 17, .blk 0, .c 33] [(2, .pointer (some ⟨b18, 0, none⟩)), (5, .int .i64 t19), (7, .int .i64 t20)] w R := by
  intro k
  induction k with
  | zero => intro t20 w h hH; exact absurd h (by simp [charabancref19_Read_35.l0])
  | succ k ih =>
    intro t20 w h hH
    rw [charabancref19_Read_35.l0.eq_2] at h
    refine RunsI.go 1 [.c 18, .c 23, .lp 17, .blk 0, .c 33] (by kernel_rfl) ?_
    refine RunsI.go 1 [.c 19, .c 20, .c 23, .lp 17, .blk 0, .c 33] (by kernel_rfl) ?_
    refine RunsI.region (by kernel_rfl) ?_
    refine RegI.pure 2 [2, 5, 7, 21, 22] [(2, .pointer (some ⟨b18, 0, none⟩)), (5, .int .i64 t19), (7, .int .i64 t20), (21, .int .i64 t20), (22, .pointer (some ⟨b18, 3, none⟩))] (by kernel_rfl) ?_
    refine RegI.op (by kernel_rfl) (OpE.loadBox 23 0 58 b18 3 (.slice pA0_3 p0_3.length pc0_3) hH (by kernel_rfl) (by kernel_rfl) rfl (by kernel_rfl) ?_)
    refine RegI.pure 2 [2, 5, 7, 25] [(2, .pointer (some ⟨b18, 0, none⟩)), (5, .int .i64 t19), (7, .int .i64 t20), (25, .bool (decide (t20 < (p0_3.length : Int))))] (by kernel_rfl) ?_
    refine RegI.done (by kernel_rfl) ?_
    rcases of_cond h with ⟨hc21, h⟩ | ⟨hc21, h⟩
    · skip
      refine RunsI.fix 25 true hc21 (by kernel_rfl) (by kernel_rfl) ?_
      refine RunsI.cond true 21 (by kernel_rfl) ?_
      refine RunsI.go 1 [.c 23, .lp 17, .blk 0, .c 33] (by kernel_rfl) ?_
      refine RunsI.go 3 [.c 26, .c 27, .blk 1, .c 32, .lp 17, .blk 0, .c 33] (by kernel_rfl) ?_
      refine RunsI.region (by kernel_rfl) ?_
      refine RegI.pure 1 [2, 5, 7, 28] [(2, .pointer (some ⟨b18, 0, none⟩)), (5, .int .i64 t19), (7, .int .i64 t20), (28, .pointer (some ⟨b18, 3, none⟩))] (by kernel_rfl) ?_
      refine RegI.op (by kernel_rfl) (OpE.loadBox 29 0 58 b18 3 (.slice pA0_3 p0_3.length pc0_3) hH (by kernel_rfl) (by kernel_rfl) rfl (by kernel_rfl) ?_)
      refine RegI.pure 1 [2, 5, 7, 29, 30] [(2, .pointer (some ⟨b18, 0, none⟩)), (5, .int .i64 t19), (7, .int .i64 t20), (29, .slice pA0_3 p0_3.length pc0_3), (30, .int .i64 t20)] (by kernel_rfl) ?_
      obtain ⟨hc22, h⟩ := of_cond0 h
      refine RegI.op (by kernel_rfl) (OpE.idxSl 31 2 58 t20 hH (by kernel_rfl) rfl (by kernel_rfl) (by kernel_rfl) hc22 ?_)
      intro b23 o24 cs25 hk26 h27
      obtain ⟨_, _, rfl, rfl, rfl⟩ := hk26
      refine RegI.pure 1 [2, 5, 7, 32] [(2, .pointer (some ⟨b18, 0, none⟩)), (5, .int .i64 t19), (7, .int .i64 t20), (32, .pointer (some ⟨b23, o24, none⟩))] (by kernel_rfl) ?_
      refine RegI.op (by kernel_rfl) (OpE.loadCel 33 3 3 b23 o24 0 (.int .i64 ((rdD p0_3 t20).1)) h27 (by kernel_rfl) (by kernel_rfl) rfl (by kernel_rfl) ?_)
      refine RegI.pure 2 [2, 5, 7, 35] [(2, .pointer (some ⟨b18, 0, none⟩)), (5, .int .i64 t19), (7, .int .i64 t20), (35, .bool (((rdD p0_3 t20).1) == t19))] (by kernel_rfl) ?_
      refine RegI.done (by kernel_rfl) ?_
      rcases of_cond h with ⟨hc28, h⟩ | ⟨hc28, h⟩
      · skip
        refine RunsI.fix 35 true hc28 (by kernel_rfl) (by kernel_rfl) ?_
        refine RunsI.cond true 28 (by kernel_rfl) ?_
        refine RunsI.go 1 [.c 29, .c 30, .blk 1, .c 32, .lp 17, .blk 0, .c 33] (by kernel_rfl) ?_
        refine RunsI.region (by kernel_rfl) ?_
        refine RegI.pure 1 [7, 36] [(7, .int .i64 t20), (36, .pointer (some ⟨b18, 3, none⟩))] (by kernel_rfl) ?_
        refine RegI.op (by kernel_rfl) (OpE.loadBox 37 0 58 b18 3 (.slice pA0_3 p0_3.length pc0_3) h27 (by kernel_rfl) (by kernel_rfl) rfl (by kernel_rfl) ?_)
        refine RegI.pure 1 [37, 38] [(37, .slice pA0_3 p0_3.length pc0_3), (38, .int .i64 t20)] (by kernel_rfl) ?_
        refine RegI.op (by kernel_rfl) (OpE.idxSl 39 2 58 t20 h27 (by kernel_rfl) rfl (by kernel_rfl) (by kernel_rfl) hc22 ?_)
        intro b29 o30 cs31 hk32 h33
        obtain ⟨_, _, rfl, rfl, rfl⟩ := hk32
        refine RegI.pure 1 [40] [(40, .pointer (some ⟨b29, o30 + 1, none⟩))] (by kernel_rfl) ?_
        refine RegI.op (by kernel_rfl) (OpE.loadCel 41 4 5 b29 o30 1 (.int .u8 ((rdD p0_3 t20).2)) h33 (by kernel_rfl) (by kernel_rfl) rfl (by kernel_rfl) ?_)
        refine RegI.pure 1 [4] [(4, .int .u8 ((rdD p0_3 t20).2))] (by kernel_rfl) ?_
        refine RegI.done (by kernel_rfl) ?_
        refine RunsI.ret (.int .u8 ((rdD p0_3 t20).2)) (by kernel_rfl) (by kernel_rfl) ?_
        exact hk1 ((rdD p0_3 t20).2) w (Option.some.inj h).symm (h33.pick [] (by decide))
      · skip
        refine RunsI.fix 35 false hc28 (by kernel_rfl) (by kernel_rfl) ?_
        refine RunsI.cond false 31 (by kernel_rfl) ?_
        refine RunsI.go 1 [.blk 1, .c 32, .lp 17, .blk 0, .c 33] (by kernel_rfl) ?_
        refine RunsI.go 1 [.c 32, .lp 17, .blk 0, .c 33] (by kernel_rfl) ?_
        refine RunsI.region (by kernel_rfl) ?_
        refine RegI.pure 3 [2, 5, 7] [(2, .pointer (some ⟨b18, 0, none⟩)), (5, .int .i64 t19), (7, .int .i64 (IntKind.wrap .i64 (t20 + 1)))] (by kernel_rfl) ?_
        refine RegI.done (by kernel_rfl) ?_
        refine RunsI.go 1 [.c 17, .lp 17, .blk 0, .c 33] (by kernel_rfl) ?_
        refine RunsI.only [2, 5, 7] [(2, .pointer (some ⟨b18, 0, none⟩)), (5, .int .i64 t19), (7, .int .i64 (IntKind.wrap .i64 (t20 + 1)))] (by kernel_rfl) (by kernel_rfl) ?_
        exact ih (IntKind.wrap .i64 (t20 + 1)) w h (h27.pick [0, 1, 2] (by decide))
    · skip
      refine RunsI.fix 25 false hc21 (by kernel_rfl) (by kernel_rfl) ?_
      refine RunsI.cond false 22 (by kernel_rfl) ?_
      refine RunsI.go 1 [.c 33] (by kernel_rfl) ?_
      refine RunsI.only [] [] (by kernel_rfl) (by kernel_rfl) ?_
      exact hk0 w (Option.some.inj h).symm (hH.pick [] (by decide))
def charabancref19_Read_35.f (K : Nat) (p0_0 : List Int) (p0_1 : Int) (p0_2 : Int) (p0_3 : List (Int × Int)) (p1 : Int) : Option Int := (charabancref19_Where_32.f K p0_0 p0_1 p0_2 p0_3 p1).bind fun yt9 => cond (!yt9.2) (cond (inR p1 p0_0.length) (some (rdD p0_0 p1)) none) ((charabancref19_Read_35.l0 K p0_0 p0_1 p0_2 p0_3 p1 yt9.1 K 0).bind (fun x35 => Lp.elim x35 (fun t39 => some t39) (fun _ => some 0)))
set_option maxRecDepth 100000 in
theorem charabancref19_Read_35_ok (K : Nat) (M0 : Nat → Prop) (w0 : World) (pA0_0 : Option Addr) (pc0_0 : Nat) (pA0_3 : Option Addr) (pc0_3 : Nat) (p0_0 : List Int) (p0_1 : Int) (p0_2 : Int) (p0_3 : List (Int × Int)) (p1 : Int) (ho : ∀ b, M0 b → b < w0.heap.size) (hs0_0 : Sl (Rp.int .u8) w0 M0 (.slice pA0_0 p0_0.length pc0_0) p0_0) (hs0_3 : Sl (Rp.pair (Rp.int .i64) (Rp.int .u8)) w0 M0 (.slice pA0_3 p0_3.length pc0_3) p0_3) {r : Int} (h : charabancref19_Read_35.f K p0_0 p0_1 p0_2 p0_3 p1 = some r) :
    Calls Try.prog 35 #[.agg #[.slice pA0_0 p0_0.length pc0_0, .int .i64 p0_1, .int .i64 p0_2, .slice pA0_3 p0_3.length pc0_3], .int .u16 p1] w0 (charabancref19_Read_35.post M0 w0 r) := by
  unfold charabancref19_Read_35.f at h
  have h0 : Holds M0 w0 w0 [] := Holds.start ho
  have h00_0 := h0.addSl (Rp.int .u8) (.slice pA0_0 p0_0.length pc0_0) p0_0 (hs0_0.mono (fun _ _ hm => hm.elim id (fun hm => absurd hm (by simp [mines, sl]))))
  have h00_3 := h00_0.addSl (Rp.pair (Rp.int .i64) (Rp.int .u8)) (.slice pA0_3 p0_3.length pc0_3) p0_3 (hs0_3.mono (fun _ _ hm => hm.elim id (fun hm => absurd hm (by simp [mines, sl]))))
  have h0 : Holds M0 w0 w0 [sl (Rp.int .u8) (.slice pA0_0 p0_0.length pc0_0) p0_0, sl (Rp.pair (Rp.int .i64) (Rp.int .u8)) (.slice pA0_3 p0_3.length pc0_3) p0_3] := h00_3
  refine calls_of F35 rfl [.agg #[.slice pA0_0 p0_0.length pc0_0, .int .i64 p0_1, .int .i64 p0_2, .slice pA0_3 p0_3.length pc0_3], .int .u16 p1] (by kernel_rfl) ?_
  refine RunsI.go 1 [.c 1, .c 2] (by kernel_rfl) ?_
  refine RunsI.region (by kernel_rfl) ?_
  refine RegI.op (by kernel_rfl) (OpE.box 2 60 [.slice pA0_0 p0_0.length pc0_0, .int .i64 p0_1, .int .i64 p0_2, .slice pA0_3 p0_3.length pc0_3] h0 (by kernel_rfl) (by kernel_rfl) ?_)
  intro w1 b2 h3 hb4
  refine RegI.pure 1 [1, 2] [(1, .int .u16 p1), (2, .pointer (some ⟨b2, 0, none⟩))] (by kernel_rfl) ?_
  refine RegI.done (by kernel_rfl) ?_
  refine RunsI.go 1 [.c 3, .c 4] (by kernel_rfl) ?_
  refine RunsI.region (by kernel_rfl) ?_
  refine RegI.op (by kernel_rfl) (OpE.loadBox 9 2 60 b2 0 (.agg #[.slice pA0_0 p0_0.length pc0_0, .int .i64 p0_1, .int .i64 p0_2, .slice pA0_3 p0_3.length pc0_3]) h3 (by kernel_rfl) (by kernel_rfl) rfl (by kernel_rfl) ?_)
  refine RegI.pure 1 [1, 2, 9, 10] [(1, .int .u16 p1), (2, .pointer (some ⟨b2, 0, none⟩)), (9, .agg #[.slice pA0_0 p0_0.length pc0_0, .int .i64 p0_1, .int .i64 p0_2, .slice pA0_3 p0_3.length pc0_3]), (10, .int .u16 p1)] (by kernel_rfl) ?_
  obtain ⟨⟨t9, t10⟩, hg8, h⟩ := of_bind h
  dsimp only at h
  refine RegI.op (by kernel_rfl) (OpE.call 11 (by kernel_rfl) 32 #[.agg #[.slice pA0_0 p0_0.length pc0_0, .int .i64 p0_1, .int .i64 p0_2, .slice pA0_3 p0_3.length pc0_3], .int .u16 p1] (by kernel_rfl) ((charabancref19_Where_32_ok K _ w1  pA0_0 pc0_0 pA0_3 pc0_3 p0_0 p0_1 p0_2 p0_3 p1 h3.old' (h3.get 0 rfl) (h3.get 1 rfl) hg8).mono ?_))
  rintro _ w5 ⟨rfl, hb6⟩
  refine ⟨_, rfl, ?_⟩
  have h7 := h3.call hb6
  refine RegI.pure 5 [1, 2, 5, 6] [(1, .int .u16 p1), (2, .pointer (some ⟨b2, 0, none⟩)), (5, .int .i64 t9), (6, .bool t10)] (by kernel_rfl) ?_
  refine RegI.done (by kernel_rfl) ?_
  refine RunsI.go 2 [.c 6, .c 7, .c 12] (by kernel_rfl) ?_
  refine RunsI.region (by kernel_rfl) ?_
  refine RegI.pure 2 [1, 2, 5, 15] [(1, .int .u16 p1), (2, .pointer (some ⟨b2, 0, none⟩)), (5, .int .i64 t9), (15, .bool (!t10))] (by kernel_rfl) ?_
  refine RegI.done (by kernel_rfl) ?_
  rcases of_cond h with ⟨hc11, h⟩ | ⟨hc11, h⟩
  · skip
    refine RunsI.fix 15 true hc11 (by kernel_rfl) (by kernel_rfl) ?_
    refine RunsI.cond true 8 (by kernel_rfl) ?_
    refine RunsI.go 1 [.c 9, .c 10, .c 12] (by kernel_rfl) ?_
    refine RunsI.region (by kernel_rfl) ?_
    refine RegI.pure 1 [1, 16] [(1, .int .u16 p1), (16, .pointer (some ⟨b2, 0, none⟩))] (by kernel_rfl) ?_
    refine RegI.op (by kernel_rfl) (OpE.loadBox 17 2 38 b2 0 (.slice pA0_0 p0_0.length pc0_0) h7 (by kernel_rfl) (by kernel_rfl) rfl (by kernel_rfl) ?_)
    refine RegI.pure 1 [17, 18] [(17, .slice pA0_0 p0_0.length pc0_0), (18, .int .u16 p1)] (by kernel_rfl) ?_
    obtain ⟨hc12, h⟩ := of_cond0 h
    refine RegI.op (by kernel_rfl) (OpE.idxSl 19 0 38 p1 h7 (by kernel_rfl) rfl (by kernel_rfl) (by kernel_rfl) hc12 ?_)
    intro b13 o14 cs15 hk16 h17
    obtain rfl := hk16
    refine RegI.op (by kernel_rfl) (OpE.loadCel 20 3 5 b13 o14 0 (.int .u8 (rdD p0_0 p1)) h17 (by kernel_rfl) (by kernel_rfl) rfl (by kernel_rfl) ?_)
    refine RegI.pure 1 [4] [(4, .int .u8 (rdD p0_0 p1))] (by kernel_rfl) ?_
    refine RegI.done (by kernel_rfl) ?_
    refine RunsI.ret (.int .u8 (rdD p0_0 p1)) (by kernel_rfl) (by kernel_rfl) ?_
    obtain rfl := Option.some.inj h
    exact ⟨rfl, h17.below⟩
  · skip
    refine RunsI.fix 15 false hc11 (by kernel_rfl) (by kernel_rfl) ?_
    refine RunsI.cond false 11 (by kernel_rfl) ?_
    refine RunsI.go 1 [.c 12] (by kernel_rfl) ?_
    refine RunsI.go 2 [.c 14, .c 15, .c 33] (by kernel_rfl) ?_
    refine RunsI.region (by kernel_rfl) ?_
    refine RegI.pure 1 [2, 5, 7] [(2, .pointer (some ⟨b2, 0, none⟩)), (5, .int .i64 t9), (7, .int .i64 0)] (by kernel_rfl) ?_
    refine RegI.done (by kernel_rfl) ?_
    refine RunsI.go 2 [.c 17, .lp 17, .blk 0, .c 33] (by kernel_rfl) ?_
    obtain ⟨x35, hx36, h⟩ := of_bind h
    refine RunsI.only [2, 5, 7] [(2, .pointer (some ⟨b2, 0, none⟩)), (5, .int .i64 t9), (7, .int .i64 0)] (by kernel_rfl) (by kernel_rfl) ?_
    refine charabancref19_Read_35.l0_ok K M0 w0 pA0_0 pc0_0 pA0_3 pc0_3 p0_0 p0_1 p0_2 p0_3 p1 t9 b2 _ x35 ?_ ?_ K 0 w5 hx36 (h7.pick [2, 0, 1] (by decide))
    · intro w38 hq42 h37
      (try rw [hq42] at h)
      dsimp only [Lp.elim] at h
      refine RunsI.go 1 [.c 34, .c 35] (by kernel_rfl) ?_
      refine RunsI.region (by kernel_rfl) ?_
      refine RegI.pure 1 [4] [(4, .int .u8 0)] (by kernel_rfl) ?_
      refine RegI.done (by kernel_rfl) ?_
      refine RunsI.ret (.int .u8 0) (by kernel_rfl) (by kernel_rfl) ?_
      obtain rfl := Option.some.inj h
      exact ⟨rfl, h37.below⟩
    · intro t39 w41 hq43 h40
      (try rw [hq43] at h)
      dsimp only [Lp.elim] at h
      obtain rfl := Option.some.inj h
      exact ⟨rfl, h40.below⟩
end

/-! ### charabanc/charabancref19.Check (function 37) -/
section
def charabancref19_Check_37.post (M0 : Nat → Prop) (w0 : World) (r : Int) : Ending → World → Prop := fun e w => e = .returned (.int .i64 r) ∧ Below w0.heap.size w0 w
def charabancref19_Check_37.l0 (K : Nat) (p0_0 : List Int) (p0_1 : Int) (p0_2 : Int) (p0_3 : List (Int × Int)) : Nat → Int → Option (Lp Unit Unit)
  | 0, _ => none
  | k + 1, t17 => cond (decide (t17 < (p0_3.length : Int))) (cond (inR t17 p0_3.length) (Let (fun (t61 : Bool) => cond t61 (some (Lp.ret ())) (charabancref19_Check_37.l0 K p0_0 p0_1 p0_2 p0_3 k (IntKind.wrap .i64 (t17 + 1)))) (fun j64 => cond (((rdD p0_3 t17).2) == 0) (j64 true) (cond (decide (((rdD p0_3 t17).1) < 0)) (j64 true) (cond (decide (((rdD p0_3 t17).1) > (IntKind.wrap .i64 (65535 + (IntKind.wrap .i64 (16384 * p0_1)))))) (j64 true) (cond (decide (t17 > 0)) (cond (inR (IntKind.wrap .i64 (t17 - 1)) p0_3.length) (j64 (decide (((rdD p0_3 t17).1) ≤ ((rdD p0_3 (IntKind.wrap .i64 (t17 - 1))).1)))) none) (j64 false)))))) none) (some (Lp.go ()))
set_option maxRecDepth 100000 in
theorem charabancref19_Check_37.l0_ok (K : Nat) (M0 : Nat → Prop) (w0 : World) (pA0_0 : Option Addr) (pc0_0 : Nat) (pA0_3 : Option Addr) (pc0_3 : Nat) (p0_0 : List Int) (p0_1 : Int) (p0_2 : Int) (p0_3 : List (Int × Int)) (b16 : Nat) (R : Ending → World → Prop) (x : Lp Unit Unit) (hk0 : ∀ (w1 : World), x = Lp.go () → Holds M0 w0 w1 [] → RunsI F37 [.c 33] [] w1 R) (hk1 : ∀ (w1 : World), x = Lp.ret () → Holds M0 w0 w1 [] → R (.returned (.int .i64 140)) w1) :
    ∀ (k : Nat) (t17 : Int) (w : World), charabancref19_Check_37.l0 K p0_0 p0_1 p0_2 p0_3 k t17 = some x → Holds M0 w0 w [box b16 60 [.slice pA0_0 p0_0.length pc0_0, .int .i64 p0_1, .int .i64 p0_2, .slice pA0_3 p0_3.length pc0_3], sl (Rp.int .u8) (.slice pA0_0 p0_0.length pc0_0) p0_0, sl (Rp.pair (Rp.int .i64) (Rp.int .u8)) (.slice pA0_3 p0_3.length pc0_3) p0_3] → RunsI F37 [.c 15, .lp 15, .blk 0, .c 33] [(1, .pointer (some ⟨b16, 0, none⟩)), (3, .int .i64 t17)] w R := by
  intro k
  induction k with
  | zero => intro t17 w h hH; exact absurd h (by simp [charabancref19_Check_37.l0])
  | succ k ih =>
    intro t17 w h hH
    rw [charabancref19_Check_37.l0.eq_2] at h
    refine RunsI.go 1 [.c 16, .c 21, .lp 15, .blk 0, .c 33] (by kernel_rfl) ?_
    refine RunsI.go 1 [.c 17, .c 18, .c 21, .lp 15, .blk 0, .c 33] (by kernel_rfl) ?_
    refine RunsI.region (by kernel_rfl) ?_
    refine RegI.pure 2 [1, 3, 31, 32] [(1, .pointer (some ⟨b16, 0, none⟩)), (3, .int .i64 t17), (31, .int .i64 t17), (32, .pointer (some ⟨b16, 3, none⟩))] (by kernel_rfl) ?_
    refine RegI.op (by kernel_rfl) (OpE.loadBox 33 0 58 b16 3 (.slice pA0_3 p0_3.length pc0_3) hH (by kernel_rfl) (by kernel_rfl) rfl (by kernel_rfl) ?_)
    refine RegI.pure 2 [1, 3, 35] [(1, .pointer (some ⟨b16, 0, none⟩)), (3, .int .i64 t17), (35, .bool (decide (t17 < (p0_3.length : Int))))] (by kernel_rfl) ?_
    refine RegI.done (by kernel_rfl) ?_
    rcases of_cond h with ⟨hc18, h⟩ | ⟨hc18, h⟩
    · skip
      refine RunsI.fix 35 true hc18 (by kernel_rfl) (by kernel_rfl) ?_
      refine RunsI.cond true 19 (by kernel_rfl) ?_
      refine RunsI.go 1 [.c 21, .lp 15, .blk 0, .c 33] (by kernel_rfl) ?_
      refine RunsI.go 3 [.c 24, .c 25, .blk 1, .c 32, .lp 15, .blk 0, .c 33] (by kernel_rfl) ?_
      refine RunsI.region (by kernel_rfl) ?_
      refine RegI.pure 1 [1, 3, 38] [(1, .pointer (some ⟨b16, 0, none⟩)), (3, .int .i64 t17), (38, .pointer (some ⟨b16, 3, none⟩))] (by kernel_rfl) ?_
      refine RegI.op (by kernel_rfl) (OpE.loadBox 39 0 58 b16 3 (.slice pA0_3 p0_3.length pc0_3) hH (by kernel_rfl) (by kernel_rfl) rfl (by kernel_rfl) ?_)
      refine RegI.pure 1 [1, 3, 39, 40] [(1, .pointer (some ⟨b16, 0, none⟩)), (3, .int .i64 t17), (39, .slice pA0_3 p0_3.length pc0_3), (40, .int .i64 t17)] (by kernel_rfl) ?_
      obtain ⟨hc19, h⟩ := of_cond0 h
      refine RegI.op (by kernel_rfl) (OpE.idxSl 41 2 58 t17 hH (by kernel_rfl) rfl (by kernel_rfl) (by kernel_rfl) hc19 ?_)
      intro b20 o21 cs22 hk23 h24
      obtain ⟨_, _, rfl, rfl, rfl⟩ := hk23
      refine RegI.op (by kernel_rfl) (OpE.loadCel 42 3 88 b20 o21 0 (.agg #[.int .i64 ((rdD p0_3 t17).1), .int .u8 ((rdD p0_3 t17).2)]) h24 (by kernel_rfl) (by kernel_rfl) rfl (by kernel_rfl) ?_)
      refine RegI.op (by kernel_rfl) (OpE.box 4 88 [.int .i64 0, .int .u8 0] h24 (by kernel_rfl) (by kernel_rfl) ?_)
      intro w25 b26 h27 hb28
      refine RegI.op (by kernel_rfl) (OpE.storeBox 4 88 b26 0 (.agg #[.int .i64 ((rdD p0_3 t17).1), .int .u8 ((rdD p0_3 t17).2)]) [.int .i64 ((rdD p0_3 t17).1), .int .u8 ((rdD p0_3 t17).2)] h27 (by kernel_rfl) (by kernel_rfl) rfl (by kernel_rfl) (by kernel_rfl) (by kernel_rfl) ?_)
      intro w29 h30 hk31
      refine RegI.done (by kernel_rfl) ?_
      refine RunsI.go 1 [.c 26, .c 27, .blk 1, .c 32, .lp 15, .blk 0, .c 33] (by kernel_rfl) ?_
      refine RunsI.any 33 (by kernel_rfl) (by kernel_rfl) (by kernel_rfl) (Kp ([] : List Nat) (World.drew w29)) ?_
      have h33 := h30.drew
      generalize World.drew w29 = w32 at h33 ⊢
      have hS34 := Kp.refl ([] : List Nat) w32
      refine AnyE.pure 0 43 (.pointer (some ⟨b26, 1, none⟩)) (by kernel_rfl) hS34 (fun _ => by kernel_rfl) ?_
      refine AnyE.loadBox 1 44 4 5 b26 1 (.int .u8 ((rdD p0_3 t17).2)) [] h33 rfl (by kernel_rfl) hS34 rfl rfl (by kernel_rfl) (by kernel_rfl) ?_
      refine AnyE.pure 2 45 (.bool (((rdD p0_3 t17).2) == 0)) (by kernel_rfl) hS34 (fun _ => by kernel_rfl) ?_
      refine AnyE.pure 3 46 (.bool (((rdD p0_3 t17).2) == 0)) (by kernel_rfl) hS34 (fun _ => by kernel_rfl) ?_
      obtain ⟨j64, hJ65, h⟩ := of_let h
      have hj66 : ∀ (t61 : Bool) (w63 : World), j64 t61 = some x → Holds M0 w0 w63 [box b16 60 [.slice pA0_0 p0_0.length pc0_0, .int .i64 p0_1, .int .i64 p0_2, .slice pA0_3 p0_3.length pc0_3], sl (Rp.int .u8) (.slice pA0_0 p0_0.length pc0_0) p0_0, sl (Rp.pair (Rp.int .i64) (Rp.int .u8)) (.slice pA0_3 p0_3.length pc0_3) p0_3] → RunsI F37 [.c 27, .blk 1, .c 32, .lp 15, .blk 0, .c 33] [(1, .pointer (some ⟨b16, 0, none⟩)), (3, .int .i64 t17), (75, .bool t61)] w63 R := by
        intro t61 w63 h h62
        rw [hJ65] at h
        clear hJ65
        dsimp only at h
        rcases of_cond h with ⟨hc67, h⟩ | ⟨hc67, h⟩
        · skip
          refine RunsI.fix 75 true hc67 (by kernel_rfl) (by kernel_rfl) ?_
          refine RunsI.cond true 28 (by kernel_rfl) ?_
          refine RunsI.go 1 [.c 29, .c 30, .blk 1, .c 32, .lp 15, .blk 0, .c 33] (by kernel_rfl) ?_
          refine RunsI.region (by kernel_rfl) ?_
          refine RegI.pure 1 [2] [(2, .int .i64 140)] (by kernel_rfl) ?_
          refine RegI.done (by kernel_rfl) ?_
          refine RunsI.ret (.int .i64 140) (by kernel_rfl) (by kernel_rfl) ?_
          exact hk1 w63 (Option.some.inj h).symm (h62.pick [] (by decide))
        · skip
          refine RunsI.fix 75 false hc67 (by kernel_rfl) (by kernel_rfl) ?_
          refine RunsI.cond false 31 (by kernel_rfl) ?_
          refine RunsI.go 1 [.blk 1, .c 32, .lp 15, .blk 0, .c 33] (by kernel_rfl) ?_
          refine RunsI.go 1 [.c 32, .lp 15, .blk 0, .c 33] (by kernel_rfl) ?_
          refine RunsI.region (by kernel_rfl) ?_
          refine RegI.pure 3 [1, 3] [(1, .pointer (some ⟨b16, 0, none⟩)), (3, .int .i64 (IntKind.wrap .i64 (t17 + 1)))] (by kernel_rfl) ?_
          refine RegI.done (by kernel_rfl) ?_
          refine RunsI.go 1 [.c 15, .lp 15, .blk 0, .c 33] (by kernel_rfl) ?_
          refine RunsI.only [1, 3] [(1, .pointer (some ⟨b16, 0, none⟩)), (3, .int .i64 (IntKind.wrap .i64 (t17 + 1)))] (by kernel_rfl) (by kernel_rfl) ?_
          exact ih (IntKind.wrap .i64 (t17 + 1)) w63 h (h62.pick [0, 1, 2] (by decide))
      clear hJ65
      rcases of_cond h with ⟨hc36, h⟩ | ⟨hc36, h⟩
      · skip
        refine AnyE.fix 46 true hc36 (by kernel_rfl) (by kernel_rfl) ?_
        refine AnyE.no 4 47 (by kernel_rfl) hS34 ?_
        refine AnyE.no 5 48 (by kernel_rfl) hS34 ?_
        refine AnyE.no 6 49 (by kernel_rfl) hS34 ?_
        refine AnyE.pure 7 50 (.bool true) (by kernel_rfl) hS34 (fun _ => by kernel_rfl) ?_
        refine AnyE.pure 8 51 (.bool true) (by kernel_rfl) hS34 (fun _ => by kernel_rfl) ?_
        refine AnyE.no 9 52 (by kernel_rfl) hS34 ?_
        refine AnyE.no 10 53 (by kernel_rfl) hS34 ?_
        refine AnyE.no 11 54 (by kernel_rfl) hS34 ?_
        refine AnyE.no 12 55 (by kernel_rfl) hS34 ?_
        refine AnyE.no 13 56 (by kernel_rfl) hS34 ?_
        refine AnyE.no 14 57 (by kernel_rfl) hS34 ?_
        refine AnyE.no 15 58 (by kernel_rfl) hS34 ?_
        refine AnyE.pure 16 59 (.bool true) (by kernel_rfl) hS34 (fun _ => by kernel_rfl) ?_
        refine AnyE.pure 17 60 (.bool true) (by kernel_rfl) hS34 (fun _ => by kernel_rfl) ?_
        refine AnyE.no 18 61 (by kernel_rfl) hS34 ?_
        refine AnyE.no 19 62 (by kernel_rfl) hS34 ?_
        refine AnyE.no 20 63 (by kernel_rfl) hS34 ?_
        refine AnyE.no 21 64 (by kernel_rfl) hS34 ?_
        refine AnyE.no 22 65 (by kernel_rfl) hS34 ?_
        refine AnyE.no 23 66 (by kernel_rfl) hS34 ?_
        refine AnyE.no 24 67 (by kernel_rfl) hS34 ?_
        refine AnyE.no 25 68 (by kernel_rfl) hS34 ?_
        refine AnyE.no 26 69 (by kernel_rfl) hS34 ?_
        refine AnyE.no 27 70 (by kernel_rfl) hS34 ?_
        refine AnyE.no 28 71 (by kernel_rfl) hS34 ?_
        refine AnyE.no 29 72 (by kernel_rfl) hS34 ?_
        refine AnyE.no 30 73 (by kernel_rfl) hS34 ?_
        refine AnyE.no 31 74 (by kernel_rfl) hS34 ?_
        refine AnyE.pure 32 75 (.bool true) (by kernel_rfl) hS34 (fun _ => by kernel_rfl) ?_
        refine AnyE.done (by kernel_rfl) (fun w37 hu38 => ?_)
        have h39 := h33.call hu38
        refine RunsI.only [1, 3, 47, 48, 49, 52, 53, 54, 55, 56, 57, 58, 61, 62, 63, 64, 65, 66, 67, 68, 69, 70, 71, 72, 73, 74, 75] [(1, .pointer (some ⟨b16, 0, none⟩)), (3, .int .i64 t17), (47, undef), (48, undef), (49, undef), (52, undef), (53, undef), (54, undef), (55, undef), (56, undef), (57, undef), (58, undef), (61, undef), (62, undef), (63, undef), (64, undef), (65, undef), (66, undef), (67, undef), (68, undef), (69, undef), (70, undef), (71, undef), (72, undef), (73, undef), (74, undef), (75, .bool true)] (by kernel_rfl) (by kernel_rfl) ?_
        refine RunsI.only [1, 3, 75] [(1, .pointer (some ⟨b16, 0, none⟩)), (3, .int .i64 t17), (75, .bool true)] (by kernel_rfl) (by kernel_rfl) ?_
        exact hj66 true w37 h (h39.pick [0, 1, 2] (by decide))
      · skip
        refine AnyE.fix 46 false hc36 (by kernel_rfl) (by kernel_rfl) ?_
        refine AnyE.pure 4 47 (.pointer (some ⟨b26, 0, none⟩)) (by kernel_rfl) hS34 (fun _ => by kernel_rfl) ?_
        refine AnyE.loadBox 5 48 4 3 b26 0 (.int .i64 ((rdD p0_3 t17).1)) [] h33 rfl (by kernel_rfl) hS34 rfl rfl (by kernel_rfl) (by kernel_rfl) ?_
        refine AnyE.pure 6 49 (.bool (decide (((rdD p0_3 t17).1) < 0))) (by kernel_rfl) hS34 (fun _ => by kernel_rfl) ?_
        refine AnyE.pure 7 50 (.bool (decide (((rdD p0_3 t17).1) < 0))) (by kernel_rfl) hS34 (fun _ => by kernel_rfl) ?_
        refine AnyE.pure 8 51 (.bool (decide (((rdD p0_3 t17).1) < 0))) (by kernel_rfl) hS34 (fun _ => by kernel_rfl) ?_
        rcases of_cond h with ⟨hc40, h⟩ | ⟨hc40, h⟩
        · skip
          refine AnyE.fix 51 true hc40 (by kernel_rfl) (by kernel_rfl) ?_
          refine AnyE.no 9 52 (by kernel_rfl) hS34 ?_
          refine AnyE.no 10 53 (by kernel_rfl) hS34 ?_
          refine AnyE.no 11 54 (by kernel_rfl) hS34 ?_
          refine AnyE.no 12 55 (by kernel_rfl) hS34 ?_
          refine AnyE.no 13 56 (by kernel_rfl) hS34 ?_
          refine AnyE.no 14 57 (by kernel_rfl) hS34 ?_
          refine AnyE.no 15 58 (by kernel_rfl) hS34 ?_
          refine AnyE.pure 16 59 (.bool true) (by kernel_rfl) hS34 (fun _ => by kernel_rfl) ?_
          refine AnyE.pure 17 60 (.bool true) (by kernel_rfl) hS34 (fun _ => by kernel_rfl) ?_
          refine AnyE.no 18 61 (by kernel_rfl) hS34 ?_
          refine AnyE.no 19 62 (by kernel_rfl) hS34 ?_
          refine AnyE.no 20 63 (by kernel_rfl) hS34 ?_
          refine AnyE.no 21 64 (by kernel_rfl) hS34 ?_
          refine AnyE.no 22 65 (by kernel_rfl) hS34 ?_
          refine AnyE.no 23 66 (by kernel_rfl) hS34 ?_
          refine AnyE.no 24 67 (by kernel_rfl) hS34 ?_
          refine AnyE.no 25 68 (by kernel_rfl) hS34 ?_
          refine AnyE.no 26 69 (by kernel_rfl) hS34 ?_
          refine AnyE.no 27 70 (by kernel_rfl) hS34 ?_
          refine AnyE.no 28 71 (by kernel_rfl) hS34 ?_
          refine AnyE.no 29 72 (by kernel_rfl) hS34 ?_
          refine AnyE.no 30 73 (by kernel_rfl) hS34 ?_
          refine AnyE.no 31 74 (by kernel_rfl) hS34 ?_
          refine AnyE.pure 32 75 (.bool true) (by kernel_rfl) hS34 (fun _ => by kernel_rfl) ?_
          refine AnyE.done (by kernel_rfl) (fun w41 hu42 => ?_)
          have h43 := h33.call hu42
          refine RunsI.only [1, 3, 47, 48, 49, 52, 53, 54, 55, 56, 57, 58, 61, 62, 63, 64, 65, 66, 67, 68, 69, 70, 71, 72, 73, 74, 75] [(1, .pointer (some ⟨b16, 0, none⟩)), (3, .int .i64 t17), (47, .pointer (some ⟨b26, 0, none⟩)), (48, .int .i64 ((rdD p0_3 t17).1)), (49, .bool (decide (((rdD p0_3 t17).1) < 0))), (52, undef), (53, undef), (54, undef), (55, undef), (56, undef), (57, undef), (58, undef), (61, undef), (62, undef), (63, undef), (64, undef), (65, undef), (66, undef), (67, undef), (68, undef), (69, undef), (70, undef), (71, undef), (72, undef), (73, undef), (74, undef), (75, .bool true)] (by kernel_rfl) (by kernel_rfl) ?_
          refine RunsI.only [1, 3, 75] [(1, .pointer (some ⟨b16, 0, none⟩)), (3, .int .i64 t17), (75, .bool true)] (by kernel_rfl) (by kernel_rfl) ?_
          exact hj66 true w41 h (h43.pick [0, 1, 2] (by decide))
        · skip
          refine AnyE.fix 51 false hc40 (by kernel_rfl) (by kernel_rfl) ?_
          refine AnyE.pure 9 52 (.pointer (some ⟨b26, 0, none⟩)) (by kernel_rfl) hS34 (fun _ => by kernel_rfl) ?_
          refine AnyE.loadBox 10 53 4 3 b26 0 (.int .i64 ((rdD p0_3 t17).1)) [] h33 rfl (by kernel_rfl) hS34 rfl rfl (by kernel_rfl) (by kernel_rfl) ?_
          refine AnyE.pure 11 54 (.pointer (some ⟨b16, 1, none⟩)) (by kernel_rfl) hS34 (fun _ => by kernel_rfl) ?_
          refine AnyE.loadBox 12 55 0 3 b16 1 (.int .i64 p0_1) [] h33 rfl (by kernel_rfl) hS34 rfl rfl (by kernel_rfl) (by kernel_rfl) ?_
          refine AnyE.pure 13 56 (.int .i64 (IntKind.wrap .i64 (16384 * p0_1))) (by kernel_rfl) hS34 (fun _ => by kernel_rfl) ?_
          refine AnyE.pure 14 57 (.int .i64 (IntKind.wrap .i64 (65535 + (IntKind.wrap .i64 (16384 * p0_1))))) (by kernel_rfl) hS34 (fun _ => by kernel_rfl) ?_
          refine AnyE.pure 15 58 (.bool (decide (((rdD p0_3 t17).1) > (IntKind.wrap .i64 (65535 + (IntKind.wrap .i64 (16384 * p0_1))))))) (by kernel_rfl) hS34 (fun _ => by kernel_rfl) ?_
          refine AnyE.pure 16 59 (.bool (decide (((rdD p0_3 t17).1) > (IntKind.wrap .i64 (65535 + (IntKind.wrap .i64 (16384 * p0_1))))))) (by kernel_rfl) hS34 (fun _ => by kernel_rfl) ?_
          refine AnyE.pure 17 60 (.bool (decide (((rdD p0_3 t17).1) > (IntKind.wrap .i64 (65535 + (IntKind.wrap .i64 (16384 * p0_1))))))) (by kernel_rfl) hS34 (fun _ => by kernel_rfl) ?_
          rcases of_cond h with ⟨hc44, h⟩ | ⟨hc44, h⟩
          · skip
            refine AnyE.fix 60 true hc44 (by kernel_rfl) (by kernel_rfl) ?_
            refine AnyE.no 18 61 (by kernel_rfl) hS34 ?_
            refine AnyE.no 19 62 (by kernel_rfl) hS34 ?_
            refine AnyE.no 20 63 (by kernel_rfl) hS34 ?_
            refine AnyE.no 21 64 (by kernel_rfl) hS34 ?_
            refine AnyE.no 22 65 (by kernel_rfl) hS34 ?_
            refine AnyE.no 23 66 (by kernel_rfl) hS34 ?_
            refine AnyE.no 24 67 (by kernel_rfl) hS34 ?_
            refine AnyE.no 25 68 (by kernel_rfl) hS34 ?_
            refine AnyE.no 26 69 (by kernel_rfl) hS34 ?_
            refine AnyE.no 27 70 (by kernel_rfl) hS34 ?_
            refine AnyE.no 28 71 (by kernel_rfl) hS34 ?_
            refine AnyE.no 29 72 (by kernel_rfl) hS34 ?_
            refine AnyE.no 30 73 (by kernel_rfl) hS34 ?_
            refine AnyE.no 31 74 (by kernel_rfl) hS34 ?_
            refine AnyE.pure 32 75 (.bool true) (by kernel_rfl) hS34 (fun _ => by kernel_rfl) ?_
            refine AnyE.done (by kernel_rfl) (fun w45 hu46 => ?_)
            have h47 := h33.call hu46
            refine RunsI.only [1, 3, 47, 48, 49, 52, 53, 54, 55, 56, 57, 58, 61, 62, 63, 64, 65, 66, 67, 68, 69, 70, 71, 72, 73, 74, 75] [(1, .pointer (some ⟨b16, 0, none⟩)), (3, .int .i64 t17), (47, .pointer (some ⟨b26, 0, none⟩)), (48, .int .i64 ((rdD p0_3 t17).1)), (49, .bool (decide (((rdD p0_3 t17).1) < 0))), (52, .pointer (some ⟨b26, 0, none⟩)), (53, .int .i64 ((rdD p0_3 t17).1)), (54, .pointer (some ⟨b16, 1, none⟩)), (55, .int .i64 p0_1), (56, .int .i64 (IntKind.wrap .i64 (16384 * p0_1))), (57, .int .i64 (IntKind.wrap .i64 (65535 + (IntKind.wrap .i64 (16384 * p0_1))))), (58, .bool (decide (((rdD p0_3 t17).1) > (IntKind.wrap .i64 (65535 + (IntKind.wrap .i64 (16384 * p0_1))))))), (61, undef), (62, undef), (63, undef), (64, undef), (65, undef), (66, undef), (67, undef), (68, undef), (69, undef), (70, undef), (71, undef), (72, undef), (73, undef), (74, undef), (75, .bool true)] (by kernel_rfl) (by kernel_rfl) ?_
            refine RunsI.only [1, 3, 75] [(1, .pointer (some ⟨b16, 0, none⟩)), (3, .int .i64 t17), (75, .bool true)] (by kernel_rfl) (by kernel_rfl) ?_
            exact hj66 true w45 h (h47.pick [0, 1, 2] (by decide))
          · skip
            refine AnyE.fix 60 false hc44 (by kernel_rfl) (by kernel_rfl) ?_
            refine AnyE.pure 18 61 (.int .i64 t17) (by kernel_rfl) hS34 (fun _ => by kernel_rfl) ?_
            refine AnyE.pure 19 62 (.bool (decide (t17 > 0))) (by kernel_rfl) hS34 (fun _ => by kernel_rfl) ?_
            refine AnyE.pure 20 63 (.bool (decide (t17 > 0))) (by kernel_rfl) hS34 (fun _ => by kernel_rfl) ?_
            rcases of_cond h with ⟨hc48, h⟩ | ⟨hc48, h⟩
            · skip
              refine AnyE.fix 63 true hc48 (by kernel_rfl) (by kernel_rfl) ?_
              refine AnyE.pure 21 64 (.pointer (some ⟨b26, 0, none⟩)) (by kernel_rfl) hS34 (fun _ => by kernel_rfl) ?_
              refine AnyE.loadBox 22 65 4 3 b26 0 (.int .i64 ((rdD p0_3 t17).1)) [] h33 rfl (by kernel_rfl) hS34 rfl rfl (by kernel_rfl) (by kernel_rfl) ?_
              refine AnyE.pure 23 66 (.pointer (some ⟨b16, 3, none⟩)) (by kernel_rfl) hS34 (fun _ => by kernel_rfl) ?_
              refine AnyE.loadBox 24 67 0 58 b16 3 (.slice pA0_3 p0_3.length pc0_3) [] h33 rfl (by kernel_rfl) hS34 rfl rfl (by kernel_rfl) (by kernel_rfl) ?_
              refine AnyE.pure 25 68 (.int .i64 t17) (by kernel_rfl) hS34 (fun _ => by kernel_rfl) ?_
              refine AnyE.pure 26 69 (.int .i64 (IntKind.wrap .i64 (t17 - 1))) (by kernel_rfl) hS34 (fun _ => by kernel_rfl) ?_
              obtain ⟨hc49, h⟩ := of_cond0 h
              refine AnyE.idxSl 27 70 2 58 (IntKind.wrap .i64 (t17 - 1)) h33 (by kernel_rfl) hS34 rfl (by kernel_rfl) (by kernel_rfl) hc49 ?_
              intro b50 o51 cs52 hk53 h54
              obtain ⟨_, _, rfl, rfl, rfl⟩ := hk53
              refine AnyE.pure 28 71 (.pointer (some ⟨b50, o51, none⟩)) (by kernel_rfl) hS34 (fun _ => by kernel_rfl) ?_
              refine AnyE.loadCel 29 72 5 3 b50 o51 0 (.int .i64 ((rdD p0_3 (IntKind.wrap .i64 (t17 - 1))).1)) [] h54 rfl (by kernel_rfl) hS34 rfl rfl (by kernel_rfl) (by kernel_rfl) ?_
              refine AnyE.pure 30 73 (.bool (decide (((rdD p0_3 t17).1) ≤ ((rdD p0_3 (IntKind.wrap .i64 (t17 - 1))).1)))) (by kernel_rfl) hS34 (fun _ => by kernel_rfl) ?_
              refine AnyE.pure 31 74 (.bool (decide (((rdD p0_3 t17).1) ≤ ((rdD p0_3 (IntKind.wrap .i64 (t17 - 1))).1)))) (by kernel_rfl) hS34 (fun _ => by kernel_rfl) ?_
              refine AnyE.pure 32 75 (.bool (decide (((rdD p0_3 t17).1) ≤ ((rdD p0_3 (IntKind.wrap .i64 (t17 - 1))).1)))) (by kernel_rfl) hS34 (fun _ => by kernel_rfl) ?_
              refine AnyE.done (by kernel_rfl) (fun w55 hu56 => ?_)
              have h57 := h54.call hu56
              refine RunsI.only [1, 3, 47, 48, 49, 52, 53, 54, 55, 56, 57, 58, 61, 62, 63, 64, 65, 66, 67, 68, 69, 70, 71, 72, 73, 74, 75] [(1, .pointer (some ⟨b16, 0, none⟩)), (3, .int .i64 t17), (47, .pointer (some ⟨b26, 0, none⟩)), (48, .int .i64 ((rdD p0_3 t17).1)), (49, .bool (decide (((rdD p0_3 t17).1) < 0))), (52, .pointer (some ⟨b26, 0, none⟩)), (53, .int .i64 ((rdD p0_3 t17).1)), (54, .pointer (some ⟨b16, 1, none⟩)), (55, .int .i64 p0_1), (56, .int .i64 (IntKind.wrap .i64 (16384 * p0_1))), (57, .int .i64 (IntKind.wrap .i64 (65535 + (IntKind.wrap .i64 (16384 * p0_1))))), (58, .bool (decide (((rdD p0_3 t17).1) > (IntKind.wrap .i64 (65535 + (IntKind.wrap .i64 (16384 * p0_1))))))), (61, .int .i64 t17), (62, .bool (decide (t17 > 0))), (63, .bool true), (64, .pointer (some ⟨b26, 0, none⟩)), (65, .int .i64 ((rdD p0_3 t17).1)), (66, .pointer (some ⟨b16, 3, none⟩)), (67, .slice pA0_3 p0_3.length pc0_3), (68, .int .i64 t17), (69, .int .i64 (IntKind.wrap .i64 (t17 - 1))), (70, .pointer (some ⟨b50, o51, none⟩)), (71, .pointer (some ⟨b50, o51, none⟩)), (72, .int .i64 ((rdD p0_3 (IntKind.wrap .i64 (t17 - 1))).1)), (73, .bool (decide (((rdD p0_3 t17).1) ≤ ((rdD p0_3 (IntKind.wrap .i64 (t17 - 1))).1)))), (74, .bool (decide (((rdD p0_3 t17).1) ≤ ((rdD p0_3 (IntKind.wrap .i64 (t17 - 1))).1)))), (75, .bool (decide (((rdD p0_3 t17).1) ≤ ((rdD p0_3 (IntKind.wrap .i64 (t17 - 1))).1))))] (by kernel_rfl) (by kernel_rfl) ?_
              refine RunsI.only [1, 3, 75] [(1, .pointer (some ⟨b16, 0, none⟩)), (3, .int .i64 t17), (75, .bool (decide (((rdD p0_3 t17).1) ≤ ((rdD p0_3 (IntKind.wrap .i64 (t17 - 1))).1))))] (by kernel_rfl) (by kernel_rfl) ?_
              exact hj66 (decide (((rdD p0_3 t17).1) ≤ ((rdD p0_3 (IntKind.wrap .i64 (t17 - 1))).1))) w55 h (h57.pick [0, 1, 2] (by decide))
            · skip
              refine AnyE.fix 63 false hc48 (by kernel_rfl) (by kernel_rfl) ?_
              refine AnyE.no 21 64 (by kernel_rfl) hS34 ?_
              refine AnyE.no 22 65 (by kernel_rfl) hS34 ?_
              refine AnyE.no 23 66 (by kernel_rfl) hS34 ?_
              refine AnyE.no 24 67 (by kernel_rfl) hS34 ?_
              refine AnyE.no 25 68 (by kernel_rfl) hS34 ?_
              refine AnyE.no 26 69 (by kernel_rfl) hS34 ?_
              refine AnyE.no 27 70 (by kernel_rfl) hS34 ?_
              refine AnyE.no 28 71 (by kernel_rfl) hS34 ?_
              refine AnyE.no 29 72 (by kernel_rfl) hS34 ?_
              refine AnyE.no 30 73 (by kernel_rfl) hS34 ?_
              refine AnyE.pure 31 74 (.bool false) (by kernel_rfl) hS34 (fun _ => by kernel_rfl) ?_
              refine AnyE.pure 32 75 (.bool false) (by kernel_rfl) hS34 (fun _ => by kernel_rfl) ?_
              refine AnyE.done (by kernel_rfl) (fun w58 hu59 => ?_)
              have h60 := h33.call hu59
              refine RunsI.only [1, 3, 47, 48, 49, 52, 53, 54, 55, 56, 57, 58, 61, 62, 63, 64, 65, 66, 67, 68, 69, 70, 71, 72, 73, 74, 75] [(1, .pointer (some ⟨b16, 0, none⟩)), (3, .int .i64 t17), (47, .pointer (some ⟨b26, 0, none⟩)), (48, .int .i64 ((rdD p0_3 t17).1)), (49, .bool (decide (((rdD p0_3 t17).1) < 0))), (52, .pointer (some ⟨b26, 0, none⟩)), (53, .int .i64 ((rdD p0_3 t17).1)), (54, .pointer (some ⟨b16, 1, none⟩)), (55, .int .i64 p0_1), (56, .int .i64 (IntKind.wrap .i64 (16384 * p0_1))), (57, .int .i64 (IntKind.wrap .i64 (65535 + (IntKind.wrap .i64 (16384 * p0_1))))), (58, .bool (decide (((rdD p0_3 t17).1) > (IntKind.wrap .i64 (65535 + (IntKind.wrap .i64 (16384 * p0_1))))))), (61, .int .i64 t17), (62, .bool (decide (t17 > 0))), (63, .bool false), (64, undef), (65, undef), (66, undef), (67, undef), (68, undef), (69, undef), (70, undef), (71, undef), (72, undef), (73, undef), (74, .bool false), (75, .bool false)] (by kernel_rfl) (by kernel_rfl) ?_
              refine RunsI.only [1, 3, 75] [(1, .pointer (some ⟨b16, 0, none⟩)), (3, .int .i64 t17), (75, .bool false)] (by kernel_rfl) (by kernel_rfl) ?_
              exact hj66 false w58 h (h60.pick [0, 1, 2] (by decide))
    · skip
      refine RunsI.fix 35 false hc18 (by kernel_rfl) (by kernel_rfl) ?_
      refine RunsI.cond false 20 (by kernel_rfl) ?_
      refine RunsI.go 1 [.c 33] (by kernel_rfl) ?_
      refine RunsI.only [] [] (by kernel_rfl) (by kernel_rfl) ?_
      exact hk0 w (Option.some.inj h).symm (hH.pick [] (by decide))
def charabancref19_Check_37.f (K : Nat) (p0_0 : List Int) (p0_1 : Int) (p0_2 : Int) (p0_3 : List (Int × Int)) : Option Int := Let (fun (t9 : Bool) => cond t9 (some 140) ((charabancref19_Check_37.l0 K p0_0 p0_1 p0_2 p0_3 K 0).bind (fun x68 => Lp.elim x68 (fun _ => some 140) (fun _ => some 0)))) (fun j12 => cond (decide ((p0_0.length : Int) > 32768)) (j12 true) (cond (decide (p0_1 < 1)) (j12 true) (cond (decide (p0_1 > 8)) (j12 true) (cond (decide (p0_2 < 0)) (j12 true) (j12 (decide (p0_2 ≥ p0_1)))))))
set_option maxRecDepth 100000 in
theorem charabancref19_Check_37_ok (K : Nat) (M0 : Nat → Prop) (w0 : World) (pA0_0 : Option Addr) (pc0_0 : Nat) (pA0_3 : Option Addr) (pc0_3 : Nat) (p0_0 : List Int) (p0_1 : Int) (p0_2 : Int) (p0_3 : List (Int × Int)) (ho : ∀ b, M0 b → b < w0.heap.size) (hs0_0 : Sl (Rp.int .u8) w0 M0 (.slice pA0_0 p0_0.length pc0_0) p0_0) (hs0_3 : Sl (Rp.pair (Rp.int .i64) (Rp.int .u8)) w0 M0 (.slice pA0_3 p0_3.length pc0_3) p0_3) {r : Int} (h : charabancref19_Check_37.f K p0_0 p0_1 p0_2 p0_3 = some r) :
    Calls Try.prog 37 #[.agg #[.slice pA0_0 p0_0.length pc0_0, .int .i64 p0_1, .int .i64 p0_2, .slice pA0_3 p0_3.length pc0_3]] w0 (charabancref19_Check_37.post M0 w0 r) := by
  unfold charabancref19_Check_37.f at h
  have h0 : Holds M0 w0 w0 [] := Holds.start ho
  have h00_0 := h0.addSl (Rp.int .u8) (.slice pA0_0 p0_0.length pc0_0) p0_0 (hs0_0.mono (fun _ _ hm => hm.elim id (fun hm => absurd hm (by simp [mines, sl]))))
  have h00_3 := h00_0.addSl (Rp.pair (Rp.int .i64) (Rp.int .u8)) (.slice pA0_3 p0_3.length pc0_3) p0_3 (hs0_3.mono (fun _ _ hm => hm.elim id (fun hm => absurd hm (by simp [mines, sl]))))
  have h0 : Holds M0 w0 w0 [sl (Rp.int .u8) (.slice pA0_0 p0_0.length pc0_0) p0_0, sl (Rp.pair (Rp.int .i64) (Rp.int .u8)) (.slice pA0_3 p0_3.length pc0_3) p0_3] := h00_3
  refine calls_of F37 rfl [.agg #[.slice pA0_0 p0_0.length pc0_0, .int .i64 p0_1, .int .i64 p0_2, .slice pA0_3 p0_3.length pc0_3]] (by kernel_rfl) ?_
  refine RunsI.go 1 [.c 1, .c 2] (by kernel_rfl) ?_
  refine RunsI.region (by kernel_rfl) ?_
  refine RegI.op (by kernel_rfl) (OpE.box 1 60 [.slice pA0_0 p0_0.length pc0_0, .int .i64 p0_1, .int .i64 p0_2, .slice pA0_3 p0_3.length pc0_3] h0 (by kernel_rfl) (by kernel_rfl) ?_)
  intro w1 b2 h3 hb4
  refine RegI.pure 1 [1] [(1, .pointer (some ⟨b2, 0, none⟩))] (by kernel_rfl) ?_
  refine RegI.done (by kernel_rfl) ?_
  refine RunsI.go 2 [.c 4, .c 5, .c 10] (by kernel_rfl) ?_
  refine RunsI.region (by kernel_rfl) ?_
  refine RegI.pure 1 [1, 5] [(1, .pointer (some ⟨b2, 0, none⟩)), (5, .pointer (some ⟨b2, 0, none⟩))] (by kernel_rfl) ?_
  refine RegI.op (by kernel_rfl) (OpE.loadBox 6 2 38 b2 0 (.slice pA0_0 p0_0.length pc0_0) h3 (by kernel_rfl) (by kernel_rfl) rfl (by kernel_rfl) ?_)
  refine RegI.pure 3 [1, 9] [(1, .pointer (some ⟨b2, 0, none⟩)), (9, .bool (decide ((p0_0.length : Int) > 32768)))] (by kernel_rfl) ?_
  obtain ⟨j12, hJ13, h⟩ := of_let h
  have hj14 : ∀ (t9 : Bool) (w11 : World), j12 t9 = some r → Holds M0 w0 w11 [box b2 60 [.slice pA0_0 p0_0.length pc0_0, .int .i64 p0_1, .int .i64 p0_2, .slice pA0_3 p0_3.length pc0_3], sl (Rp.int .u8) (.slice pA0_0 p0_0.length pc0_0) p0_0, sl (Rp.pair (Rp.int .i64) (Rp.int .u8)) (.slice pA0_3 p0_3.length pc0_3) p0_3] → RegI F37 4 [.c 5, .c 10] 26 [(1, .pointer (some ⟨b2, 0, none⟩)), (30, .bool t9)] w11 (charabancref19_Check_37.post M0 w0 r) := by
    intro t9 w11 h h10
    rw [hJ13] at h
    clear hJ13
    dsimp only at h
    refine RegI.done (by kernel_rfl) ?_
    rcases of_cond h with ⟨hc15, h⟩ | ⟨hc15, h⟩
    · skip
      refine RunsI.fix 30 true hc15 (by kernel_rfl) (by kernel_rfl) ?_
      refine RunsI.cond true 6 (by kernel_rfl) ?_
      refine RunsI.go 1 [.c 7, .c 8, .c 10] (by kernel_rfl) ?_
      refine RunsI.region (by kernel_rfl) ?_
      refine RegI.pure 1 [2] [(2, .int .i64 140)] (by kernel_rfl) ?_
      refine RegI.done (by kernel_rfl) ?_
      refine RunsI.ret (.int .i64 140) (by kernel_rfl) (by kernel_rfl) ?_
      obtain rfl := Option.some.inj h
      exact ⟨rfl, h10.below⟩
    · skip
      refine RunsI.fix 30 false hc15 (by kernel_rfl) (by kernel_rfl) ?_
      refine RunsI.cond false 9 (by kernel_rfl) ?_
      refine RunsI.go 1 [.c 10] (by kernel_rfl) ?_
      refine RunsI.go 2 [.c 12, .c 13, .c 33] (by kernel_rfl) ?_
      refine RunsI.region (by kernel_rfl) ?_
      refine RegI.pure 1 [1, 3] [(1, .pointer (some ⟨b2, 0, none⟩)), (3, .int .i64 0)] (by kernel_rfl) ?_
      refine RegI.done (by kernel_rfl) ?_
      refine RunsI.go 2 [.c 15, .lp 15, .blk 0, .c 33] (by kernel_rfl) ?_
      obtain ⟨x68, hx69, h⟩ := of_bind h
      refine RunsI.only [1, 3] [(1, .pointer (some ⟨b2, 0, none⟩)), (3, .int .i64 0)] (by kernel_rfl) (by kernel_rfl) ?_
      refine charabancref19_Check_37.l0_ok K M0 w0 pA0_0 pc0_0 pA0_3 pc0_3 p0_0 p0_1 p0_2 p0_3 b2 _ x68 ?_ ?_ K 0 w11 hx69 (h10.pick [0, 1, 2] (by decide))
      · intro w71 hq74 h70
        (try rw [hq74] at h)
        dsimp only [Lp.elim] at h
        refine RunsI.go 1 [.c 34, .c 35] (by kernel_rfl) ?_
        refine RunsI.region (by kernel_rfl) ?_
        refine RegI.pure 1 [2] [(2, .int .i64 0)] (by kernel_rfl) ?_
        refine RegI.done (by kernel_rfl) ?_
        refine RunsI.ret (.int .i64 0) (by kernel_rfl) (by kernel_rfl) ?_
        obtain rfl := Option.some.inj h
        exact ⟨rfl, h70.below⟩
      · intro w73 hq75 h72
        (try rw [hq75] at h)
        dsimp only [Lp.elim] at h
        obtain rfl := Option.some.inj h
        exact ⟨rfl, h72.below⟩
  clear hJ13
  rcases of_cond h with ⟨hc5, h⟩ | ⟨hc5, h⟩
  · skip
    refine RegI.fix 9 true hc5 (by kernel_rfl) (by kernel_rfl) ?_
    refine RegI.pure 21 [1, 30] [(1, .pointer (some ⟨b2, 0, none⟩)), (30, .bool true)] (by kernel_rfl) ?_
    refine RegI.only [1, 30] [(1, .pointer (some ⟨b2, 0, none⟩)), (30, .bool true)] (by kernel_rfl) (by kernel_rfl) ?_
    exact hj14 true w1 h (h3.pick [2, 0, 1] (by decide))
  · skip
    refine RegI.fix 9 false hc5 (by kernel_rfl) (by kernel_rfl) ?_
    refine RegI.pure 1 [1, 9, 10] [(1, .pointer (some ⟨b2, 0, none⟩)), (9, .bool false), (10, .pointer (some ⟨b2, 1, none⟩))] (by kernel_rfl) ?_
    refine RegI.op (by kernel_rfl) (OpE.loadBox 11 2 3 b2 1 (.int .i64 p0_1) h3 (by kernel_rfl) (by kernel_rfl) rfl (by kernel_rfl) ?_)
    refine RegI.pure 3 [1, 14] [(1, .pointer (some ⟨b2, 0, none⟩)), (14, .bool (decide (p0_1 < 1)))] (by kernel_rfl) ?_
    rcases of_cond h with ⟨hc6, h⟩ | ⟨hc6, h⟩
    · skip
      refine RegI.fix 14 true hc6 (by kernel_rfl) (by kernel_rfl) ?_
      refine RegI.pure 16 [1, 30] [(1, .pointer (some ⟨b2, 0, none⟩)), (30, .bool true)] (by kernel_rfl) ?_
      refine RegI.only [1, 30] [(1, .pointer (some ⟨b2, 0, none⟩)), (30, .bool true)] (by kernel_rfl) (by kernel_rfl) ?_
      exact hj14 true w1 h (h3.pick [2, 0, 1] (by decide))
    · skip
      refine RegI.fix 14 false hc6 (by kernel_rfl) (by kernel_rfl) ?_
      refine RegI.pure 1 [1, 14, 15] [(1, .pointer (some ⟨b2, 0, none⟩)), (14, .bool false), (15, .pointer (some ⟨b2, 1, none⟩))] (by kernel_rfl) ?_
      refine RegI.op (by kernel_rfl) (OpE.loadBox 16 2 3 b2 1 (.int .i64 p0_1) h3 (by kernel_rfl) (by kernel_rfl) rfl (by kernel_rfl) ?_)
      refine RegI.pure 3 [1, 19] [(1, .pointer (some ⟨b2, 0, none⟩)), (19, .bool (decide (p0_1 > 8)))] (by kernel_rfl) ?_
      rcases of_cond h with ⟨hc7, h⟩ | ⟨hc7, h⟩
      · skip
        refine RegI.fix 19 true hc7 (by kernel_rfl) (by kernel_rfl) ?_
        refine RegI.pure 11 [1, 30] [(1, .pointer (some ⟨b2, 0, none⟩)), (30, .bool true)] (by kernel_rfl) ?_
        refine RegI.only [1, 30] [(1, .pointer (some ⟨b2, 0, none⟩)), (30, .bool true)] (by kernel_rfl) (by kernel_rfl) ?_
        exact hj14 true w1 h (h3.pick [2, 0, 1] (by decide))
      · skip
        refine RegI.fix 19 false hc7 (by kernel_rfl) (by kernel_rfl) ?_
        refine RegI.pure 1 [1, 19, 20] [(1, .pointer (some ⟨b2, 0, none⟩)), (19, .bool false), (20, .pointer (some ⟨b2, 2, none⟩))] (by kernel_rfl) ?_
        refine RegI.op (by kernel_rfl) (OpE.loadBox 21 2 3 b2 2 (.int .i64 p0_2) h3 (by kernel_rfl) (by kernel_rfl) rfl (by kernel_rfl) ?_)
        refine RegI.pure 3 [1, 24] [(1, .pointer (some ⟨b2, 0, none⟩)), (24, .bool (decide (p0_2 < 0)))] (by kernel_rfl) ?_
        rcases of_cond h with ⟨hc8, h⟩ | ⟨hc8, h⟩
        · skip
          refine RegI.fix 24 true hc8 (by kernel_rfl) (by kernel_rfl) ?_
          refine RegI.pure 6 [1, 30] [(1, .pointer (some ⟨b2, 0, none⟩)), (30, .bool true)] (by kernel_rfl) ?_
          refine RegI.only [1, 30] [(1, .pointer (some ⟨b2, 0, none⟩)), (30, .bool true)] (by kernel_rfl) (by kernel_rfl) ?_
          exact hj14 true w1 h (h3.pick [2, 0, 1] (by decide))
        · skip
          refine RegI.fix 24 false hc8 (by kernel_rfl) (by kernel_rfl) ?_
          refine RegI.pure 1 [1, 24, 25] [(1, .pointer (some ⟨b2, 0, none⟩)), (24, .bool false), (25, .pointer (some ⟨b2, 2, none⟩))] (by kernel_rfl) ?_
          refine RegI.op (by kernel_rfl) (OpE.loadBox 26 2 3 b2 2 (.int .i64 p0_2) h3 (by kernel_rfl) (by kernel_rfl) rfl (by kernel_rfl) ?_)
          refine RegI.pure 1 [1, 24, 26, 27] [(1, .pointer (some ⟨b2, 0, none⟩)), (24, .bool false), (26, .int .i64 p0_2), (27, .pointer (some ⟨b2, 1, none⟩))] (by kernel_rfl) ?_
          refine RegI.op (by kernel_rfl) (OpE.loadBox 28 2 3 b2 1 (.int .i64 p0_1) h3 (by kernel_rfl) (by kernel_rfl) rfl (by kernel_rfl) ?_)
          refine RegI.pure 2 [1, 30] [(1, .pointer (some ⟨b2, 0, none⟩)), (30, .bool (decide (p0_2 ≥ p0_1)))] (by kernel_rfl) ?_
          refine RegI.only [1, 30] [(1, .pointer (some ⟨b2, 0, none⟩)), (30, .bool (decide (p0_2 ≥ p0_1)))] (by kernel_rfl) (by kernel_rfl) ?_
          exact hj14 (decide (p0_2 ≥ p0_1)) w1 h (h3.pick [2, 0, 1] (by decide))
end

/-! ### charabanc/charabancref19.put (function 60) -/
section
def charabancref19_put_60.post (M0 : Nat → Prop) (w0 : World) (r : (List Int) × Int × Int × (List (Int × Int))) : Ending → World → Prop := fun e w => ∃ (A1 : Option Addr) (c1 : Nat) (A4 : Option Addr) (c4 : Nat), e = .returned (.agg #[.slice A1 r.1.length c1, .int .i64 r.2.1, .int .i64 r.2.2.1, .slice A4 r.2.2.2.length c4]) ∧ Holds M0 w0 w [sl (Rp.int .u8) (.slice A1 r.1.length c1) r.1, own (Rp.pair (Rp.int .i64) (Rp.int .u8)) 88 (.slice A4 r.2.2.2.length c4) r.2.2.2]
def charabancref19_put_60.l0 (K : Nat) (p0_0 : List Int) (p0_1 : Int) (p0_2 : Int) (p0_3 : List (Int × Int)) (p1 : Int) (p2 : Int) : Nat → (List (Int × Int)) → Bool → Int → Option ((List (Int × Int)) × Bool)
  | 0, _, _, _ => none
  | k + 1, t14, t15, t16 => cond (decide (t16 < (p0_3.length : Int))) (cond (inR t16 p0_3.length) (Let (fun (t32 : Bool) => Let (fun (yj55 : (List (Int × Int)) × Bool) => cond (((rdD p0_3 t16).1) != p1) (cond (mayBe (yj55.1.length + [((rdD p0_3 t16).1, (rdD p0_3 t16).2)].length) 16) (charabancref19_put_60.l0 K p0_0 p0_1 p0_2 p0_3 p1 p2 k (yj55.1 ++ [((rdD p0_3 t16).1, (rdD p0_3 t16).2)]) yj55.2 (IntKind.wrap .i64 (t16 + 1))) none) (charabancref19_put_60.l0 K p0_0 p0_1 p0_2 p0_3 p1 p2 k yj55.1 yj55.2 (IntKind.wrap .i64 (t16 + 1)))) (fun j55 => cond t32 (cond (mayBe (t14.length + [(p1, p2)].length) 16) (j55 ((t14 ++ [(p1, p2)]), true)) none) (j55 (t14, t15)))) (fun j35 => cond (decide (((rdD p0_3 t16).1) > p1)) (j35 (!t15)) (j35 false))) none) (some (t14, t15))
set_option maxRecDepth 100000 in
theorem charabancref19_put_60.l0_ok (K : Nat) (M0 : Nat → Prop) (w0 : World) (pA0_0 : Option Addr) (pc0_0 : Nat) (pA0_3 : Option Addr) (pc0_3 : Nat) (p0_0 : List Int) (p0_1 : Int) (p0_2 : Int) (p0_3 : List (Int × Int)) (p1 : Int) (p2 : Int) (b10 : Nat) (b11 : Nat) (R : Ending → World → Prop) (x : (List (Int × Int)) × Bool) (hk0 : ∀ (t71 : List (Int × Int)) (t72 : Bool) (A69 : Option Addr) (c70 : Nat) (w1 : World), x = (t71, t72) → Holds M0 w0 w1 [box b10 60 [.slice pA0_0 p0_0.length pc0_0, .int .i64 p0_1, .int .i64 p0_2, .slice pA0_3 p0_3.length pc0_3], sl (Rp.int .u8) (.slice pA0_0 p0_0.length pc0_0) p0_0, sl (Rp.pair (Rp.int .i64) (Rp.int .u8)) (.slice pA0_3 p0_3.length pc0_3) p0_3, box b11 60 [.slice none 0 0, .int .i64 0, .int .i64 0, .slice none 0 0], own (Rp.pair (Rp.int .i64) (Rp.int .u8)) 88 (.slice A69 t71.length c70) t71] → RunsI F60 [.c 35] [(1, .int .i64 p1), (2, .int .u8 p2), (3, .pointer (some ⟨b10, 0, none⟩)), (6, .pointer (some ⟨b11, 0, none⟩)), (7, .slice A69 t71.length c70), (8, .bool t72)] w1 R) :
    ∀ (k : Nat) (t14 : List (Int × Int)) (t15 : Bool) (t16 : Int) (A12 : Option Addr) (c13 : Nat) (w : World), charabancref19_put_60.l0 K p0_0 p0_1 p0_2 p0_3 p1 p2 k t14 t15 t16 = some x → Holds M0 w0 w [box b10 60 [.slice pA0_0 p0_0.length pc0_0, .int .i64 p0_1, .int .i64 p0_2, .slice pA0_3 p0_3.length pc0_3], sl (Rp.int .u8) (.slice pA0_0 p0_0.length pc0_0) p0_0, sl (Rp.pair (Rp.int .i64) (Rp.int .u8)) (.slice pA0_3 p0_3.length pc0_3) p0_3, box b11 60 [.slice none 0 0, .int .i64 0, .int .i64 0, .slice none 0 0], own (Rp.pair (Rp.int .i64) (Rp.int .u8)) 88 (.slice A12 t14.length c13) t14] → RunsI F60 [.c 11, .lp 11, .blk 0, .c 35] [(1, .int .i64 p1), (2, .int .u8 p2), (3, .pointer (some ⟨b10, 0, none⟩)), (6, .pointer (some ⟨b11, 0, none⟩)), (7, .slice A12 t14.length c13), (8, .bool t15), (9, .int .i64 t16)] w R := by
  intro k
  induction k with
  | zero => intro t14 t15 t16 A12 c13 w h hH; exact absurd h (by simp [charabancref19_put_60.l0])
  | succ k ih =>
    intro t14 t15 t16 A12 c13 w h hH
    rw [charabancref19_put_60.l0.eq_2] at h
    refine RunsI.go 1 [.c 12, .c 17, .lp 11, .blk 0, .c 35] (by kernel_rfl) ?_
    refine RunsI.go 1 [.c 13, .c 14, .c 17, .lp 11, .blk 0, .c 35] (by kernel_rfl) ?_
    refine RunsI.region (by kernel_rfl) ?_
    refine RegI.pure 2 [1, 2, 3, 6, 7, 8, 9, 13, 14] [(1, .int .i64 p1), (2, .int .u8 p2), (3, .pointer (some ⟨b10, 0, none⟩)), (6, .pointer (some ⟨b11, 0, none⟩)), (7, .slice A12 t14.length c13), (8, .bool t15), (9, .int .i64 t16), (13, .int .i64 t16), (14, .pointer (some ⟨b10, 3, none⟩))] (by kernel_rfl) ?_
    refine RegI.op (by kernel_rfl) (OpE.loadBox 15 0 58 b10 3 (.slice pA0_3 p0_3.length pc0_3) hH (by kernel_rfl) (by kernel_rfl) rfl (by kernel_rfl) ?_)
    refine RegI.pure 2 [1, 2, 3, 6, 7, 8, 9, 17] [(1, .int .i64 p1), (2, .int .u8 p2), (3, .pointer (some ⟨b10, 0, none⟩)), (6, .pointer (some ⟨b11, 0, none⟩)), (7, .slice A12 t14.length c13), (8, .bool t15), (9, .int .i64 t16), (17, .bool (decide (t16 < (p0_3.length : Int))))] (by kernel_rfl) ?_
    refine RegI.done (by kernel_rfl) ?_
    rcases of_cond h with ⟨hc17, h⟩ | ⟨hc17, h⟩
    · skip
      refine RunsI.fix 17 true hc17 (by kernel_rfl) (by kernel_rfl) ?_
      refine RunsI.cond true 15 (by kernel_rfl) ?_
      refine RunsI.go 1 [.c 17, .lp 11, .blk 0, .c 35] (by kernel_rfl) ?_
      refine RunsI.go 3 [.c 20, .c 21, .blk 1, .c 34, .lp 11, .blk 0, .c 35] (by kernel_rfl) ?_
      refine RunsI.region (by kernel_rfl) ?_
      refine RegI.pure 1 [1, 2, 3, 6, 7, 8, 9, 20] [(1, .int .i64 p1), (2, .int .u8 p2), (3, .pointer (some ⟨b10, 0, none⟩)), (6, .pointer (some ⟨b11, 0, none⟩)), (7, .slice A12 t14.length c13), (8, .bool t15), (9, .int .i64 t16), (20, .pointer (some ⟨b10, 3, none⟩))] (by kernel_rfl) ?_
      refine RegI.op (by kernel_rfl) (OpE.loadBox 21 0 58 b10 3 (.slice pA0_3 p0_3.length pc0_3) hH (by kernel_rfl) (by kernel_rfl) rfl (by kernel_rfl) ?_)
      refine RegI.pure 1 [1, 2, 3, 6, 7, 8, 9, 21, 22] [(1, .int .i64 p1), (2, .int .u8 p2), (3, .pointer (some ⟨b10, 0, none⟩)), (6, .pointer (some ⟨b11, 0, none⟩)), (7, .slice A12 t14.length c13), (8, .bool t15), (9, .int .i64 t16), (21, .slice pA0_3 p0_3.length pc0_3), (22, .int .i64 t16)] (by kernel_rfl) ?_
      obtain ⟨hc18, h⟩ := of_cond0 h
      refine RegI.op (by kernel_rfl) (OpE.idxSl 23 2 58 t16 hH (by kernel_rfl) rfl (by kernel_rfl) (by kernel_rfl) hc18 ?_)
      intro b19 o20 cs21 hk22 h23
      obtain ⟨_, _, rfl, rfl, rfl⟩ := hk22
      refine RegI.op (by kernel_rfl) (OpE.loadCel 24 5 88 b19 o20 0 (.agg #[.int .i64 ((rdD p0_3 t16).1), .int .u8 ((rdD p0_3 t16).2)]) h23 (by kernel_rfl) (by kernel_rfl) rfl (by kernel_rfl) ?_)
      refine RegI.op (by kernel_rfl) (OpE.box 10 88 [.int .i64 0, .int .u8 0] h23 (by kernel_rfl) (by kernel_rfl) ?_)
      intro w24 b25 h26 hb27
      refine RegI.op (by kernel_rfl) (OpE.storeBox 6 88 b25 0 (.agg #[.int .i64 ((rdD p0_3 t16).1), .int .u8 ((rdD p0_3 t16).2)]) [.int .i64 ((rdD p0_3 t16).1), .int .u8 ((rdD p0_3 t16).2)] h26 (by kernel_rfl) (by kernel_rfl) rfl (by kernel_rfl) (by kernel_rfl) (by kernel_rfl) ?_)
      intro w28 h29 hk30
      refine RegI.done (by kernel_rfl) ?_
      refine RunsI.go 2 [.c 23, .c 24, .c 29, .blk 1, .c 34, .lp 11, .blk 0, .c 35] (by kernel_rfl) ?_
      refine RunsI.region (by kernel_rfl) ?_
      refine RegI.pure 1 [1, 2, 3, 6, 7, 8, 9, 10, 25] [(1, .int .i64 p1), (2, .int .u8 p2), (3, .pointer (some ⟨b10, 0, none⟩)), (6, .pointer (some ⟨b11, 0, none⟩)), (7, .slice A12 t14.length c13), (8, .bool t15), (9, .int .i64 t16), (10, .pointer (some ⟨b25, 0, none⟩)), (25, .pointer (some ⟨b25, 0, none⟩))] (by kernel_rfl) ?_
      refine RegI.op (by kernel_rfl) (OpE.loadBox 26 6 3 b25 0 (.int .i64 ((rdD p0_3 t16).1)) h29 (by kernel_rfl) (by kernel_rfl) rfl (by kernel_rfl) ?_)
      refine RegI.pure 3 [1, 2, 3, 6, 7, 8, 9, 10, 29] [(1, .int .i64 p1), (2, .int .u8 p2), (3, .pointer (some ⟨b10, 0, none⟩)), (6, .pointer (some ⟨b11, 0, none⟩)), (7, .slice A12 t14.length c13), (8, .bool t15), (9, .int .i64 t16), (10, .pointer (some ⟨b25, 0, none⟩)), (29, .bool (decide (((rdD p0_3 t16).1) > p1)))] (by kernel_rfl) ?_
      obtain ⟨j35, hJ36, h⟩ := of_let h
      have hj37 : ∀ (t32 : Bool) (w34 : World), j35 t32 = some x → Holds M0 w0 w34 [box b10 60 [.slice pA0_0 p0_0.length pc0_0, .int .i64 p0_1, .int .i64 p0_2, .slice pA0_3 p0_3.length pc0_3], sl (Rp.int .u8) (.slice pA0_0 p0_0.length pc0_0) p0_0, sl (Rp.pair (Rp.int .i64) (Rp.int .u8)) (.slice pA0_3 p0_3.length pc0_3) p0_3, box b11 60 [.slice none 0 0, .int .i64 0, .int .i64 0, .slice none 0 0], own (Rp.pair (Rp.int .i64) (Rp.int .u8)) 88 (.slice A12 t14.length c13) t14, box b25 88 [.int .i64 ((rdD p0_3 t16).1), .int .u8 ((rdD p0_3 t16).2)]] → RegI F60 23 [.c 24, .c 29, .blk 1, .c 34, .lp 11, .blk 0, .c 35] 8 [(1, .int .i64 p1), (2, .int .u8 p2), (3, .pointer (some ⟨b10, 0, none⟩)), (6, .pointer (some ⟨b11, 0, none⟩)), (7, .slice A12 t14.length c13), (8, .bool t15), (9, .int .i64 t16), (10, .pointer (some ⟨b25, 0, none⟩)), (32, .bool t32)] w34 R := by
        intro t32 w34 h h33
        rw [hJ36] at h
        clear hJ36
        dsimp only at h
        refine RegI.done (by kernel_rfl) ?_
        obtain ⟨j55, hJ56, h⟩ := of_let h
        have hj57 : ∀ (t51 : List (Int × Int)) (t52 : Bool) (A49 : Option Addr) (c50 : Nat) (w54 : World), j55 (t51, t52) = some x → Holds M0 w0 w54 [box b10 60 [.slice pA0_0 p0_0.length pc0_0, .int .i64 p0_1, .int .i64 p0_2, .slice pA0_3 p0_3.length pc0_3], sl (Rp.int .u8) (.slice pA0_0 p0_0.length pc0_0) p0_0, sl (Rp.pair (Rp.int .i64) (Rp.int .u8)) (.slice pA0_3 p0_3.length pc0_3) p0_3, box b11 60 [.slice none 0 0, .int .i64 0, .int .i64 0, .slice none 0 0], own (Rp.pair (Rp.int .i64) (Rp.int .u8)) 88 (.slice A49 t51.length c50) t51, box b25 88 [.int .i64 ((rdD p0_3 t16).1), .int .u8 ((rdD p0_3 t16).2)]] → RunsI F60 [.c 29, .blk 1, .c 34, .lp 11, .blk 0, .c 35] [(1, .int .i64 p1), (2, .int .u8 p2), (3, .pointer (some ⟨b10, 0, none⟩)), (6, .pointer (some ⟨b11, 0, none⟩)), (7, .slice A49 t51.length c50), (8, .bool t52), (9, .int .i64 t16), (10, .pointer (some ⟨b25, 0, none⟩))] w54 R := by
          intro t51 t52 A49 c50 w54 h h53
          rw [hJ56] at h
          clear hJ56
          dsimp only at h
          refine RunsI.go 1 [.c 30, .c 31, .blk 1, .c 34, .lp 11, .blk 0, .c 35] (by kernel_rfl) ?_
          refine RunsI.region (by kernel_rfl) ?_
          refine RegI.pure 1 [1, 2, 3, 6, 7, 8, 9, 10, 39] [(1, .int .i64 p1), (2, .int .u8 p2), (3, .pointer (some ⟨b10, 0, none⟩)), (6, .pointer (some ⟨b11, 0, none⟩)), (7, .slice A49 t51.length c50), (8, .bool t52), (9, .int .i64 t16), (10, .pointer (some ⟨b25, 0, none⟩)), (39, .pointer (some ⟨b25, 0, none⟩))] (by kernel_rfl) ?_
          refine RegI.op (by kernel_rfl) (OpE.loadBox 40 5 3 b25 0 (.int .i64 ((rdD p0_3 t16).1)) h53 (by kernel_rfl) (by kernel_rfl) rfl (by kernel_rfl) ?_)
          refine RegI.pure 2 [1, 2, 3, 6, 7, 8, 9, 10, 42] [(1, .int .i64 p1), (2, .int .u8 p2), (3, .pointer (some ⟨b10, 0, none⟩)), (6, .pointer (some ⟨b11, 0, none⟩)), (7, .slice A49 t51.length c50), (8, .bool t52), (9, .int .i64 t16), (10, .pointer (some ⟨b25, 0, none⟩)), (42, .bool (((rdD p0_3 t16).1) != p1))] (by kernel_rfl) ?_
          refine RegI.done (by kernel_rfl) ?_
          rcases of_cond h with ⟨hc58, h⟩ | ⟨hc58, h⟩
          · skip
            refine RunsI.fix 42 true hc58 (by kernel_rfl) (by kernel_rfl) ?_
            refine RunsI.cond true 32 (by kernel_rfl) ?_
            refine RunsI.region (by kernel_rfl) ?_
            refine RegI.pure 1 [1, 2, 3, 6, 8, 9, 10, 43] [(1, .int .i64 p1), (2, .int .u8 p2), (3, .pointer (some ⟨b10, 0, none⟩)), (6, .pointer (some ⟨b11, 0, none⟩)), (8, .bool t52), (9, .int .i64 t16), (10, .pointer (some ⟨b25, 0, none⟩)), (43, .slice A49 t51.length c50)] (by kernel_rfl) ?_
            refine RegI.op (by kernel_rfl) (OpE.loadBox 44 5 88 b25 0 (.agg #[.int .i64 ((rdD p0_3 t16).1), .int .u8 ((rdD p0_3 t16).2)]) h53 (by kernel_rfl) (by kernel_rfl) rfl (by kernel_rfl) ?_)
            refine RegI.op (by kernel_rfl) (OpE.lit 45 88 [.int .i64 ((rdD p0_3 t16).1), .int .u8 ((rdD p0_3 t16).2)] 1 h53 (by kernel_rfl) (by kernel_rfl) ?_)
            intro w59 b60 h61 hb62
            obtain ⟨hc63, h⟩ := of_cond0 h
            refine RegI.op (by kernel_rfl) (OpE.appendBox 46 4 6 58 88 16 [((rdD p0_3 t16).1, (rdD p0_3 t16).2)] 0 h61 (by kernel_rfl) (by kernel_rfl) (by kernel_rfl) rfl rfl rfl (⟨[_, _], _, rfl, ⟨[_], [_], rfl, rfl, rfl⟩, rfl⟩) hc63 ?_)
            intro w64 A65 c66 h67 hk68
            refine RegI.pure 1 [1, 2, 3, 6, 7, 8, 9] [(1, .int .i64 p1), (2, .int .u8 p2), (3, .pointer (some ⟨b10, 0, none⟩)), (6, .pointer (some ⟨b11, 0, none⟩)), (7, .slice A65 ((t51 ++ [((rdD p0_3 t16).1, (rdD p0_3 t16).2)]).length) c66), (8, .bool t52), (9, .int .i64 t16)] (by kernel_rfl) ?_
            refine RegI.done (by kernel_rfl) ?_
            refine RunsI.go 1 [.c 34, .lp 11, .blk 0, .c 35] (by kernel_rfl) ?_
            refine RunsI.region (by kernel_rfl) ?_
            refine RegI.pure 3 [1, 2, 3, 6, 7, 8, 9] [(1, .int .i64 p1), (2, .int .u8 p2), (3, .pointer (some ⟨b10, 0, none⟩)), (6, .pointer (some ⟨b11, 0, none⟩)), (7, .slice A65 ((t51 ++ [((rdD p0_3 t16).1, (rdD p0_3 t16).2)]).length) c66), (8, .bool t52), (9, .int .i64 (IntKind.wrap .i64 (t16 + 1)))] (by kernel_rfl) ?_
            refine RegI.done (by kernel_rfl) ?_
            refine RunsI.go 1 [.c 11, .lp 11, .blk 0, .c 35] (by kernel_rfl) ?_
            refine RunsI.only [1, 2, 3, 6, 7, 8, 9] [(1, .int .i64 p1), (2, .int .u8 p2), (3, .pointer (some ⟨b10, 0, none⟩)), (6, .pointer (some ⟨b11, 0, none⟩)), (7, .slice A65 ((t51 ++ [((rdD p0_3 t16).1, (rdD p0_3 t16).2)]).length) c66), (8, .bool t52), (9, .int .i64 (IntKind.wrap .i64 (t16 + 1)))] (by kernel_rfl) (by kernel_rfl) ?_
            exact ih (t51 ++ [((rdD p0_3 t16).1, (rdD p0_3 t16).2)]) t52 (IntKind.wrap .i64 (t16 + 1)) A65 c66 w64 h (h67.pick [0, 1, 2, 3, 4] (by decide))
          · skip
            refine RunsI.fix 42 false hc58 (by kernel_rfl) (by kernel_rfl) ?_
            refine RunsI.cond false 33 (by kernel_rfl) ?_
            refine RunsI.go 1 [.blk 1, .c 34, .lp 11, .blk 0, .c 35] (by kernel_rfl) ?_
            refine RunsI.go 1 [.c 34, .lp 11, .blk 0, .c 35] (by kernel_rfl) ?_
            refine RunsI.region (by kernel_rfl) ?_
            refine RegI.pure 3 [1, 2, 3, 6, 7, 8, 9] [(1, .int .i64 p1), (2, .int .u8 p2), (3, .pointer (some ⟨b10, 0, none⟩)), (6, .pointer (some ⟨b11, 0, none⟩)), (7, .slice A49 t51.length c50), (8, .bool t52), (9, .int .i64 (IntKind.wrap .i64 (t16 + 1)))] (by kernel_rfl) ?_
            refine RegI.done (by kernel_rfl) ?_
            refine RunsI.go 1 [.c 11, .lp 11, .blk 0, .c 35] (by kernel_rfl) ?_
            refine RunsI.only [1, 2, 3, 6, 7, 8, 9] [(1, .int .i64 p1), (2, .int .u8 p2), (3, .pointer (some ⟨b10, 0, none⟩)), (6, .pointer (some ⟨b11, 0, none⟩)), (7, .slice A49 t51.length c50), (8, .bool t52), (9, .int .i64 (IntKind.wrap .i64 (t16 + 1)))] (by kernel_rfl) (by kernel_rfl) ?_
            exact ih t51 t52 (IntKind.wrap .i64 (t16 + 1)) A49 c50 w54 h (h53.pick [0, 1, 2, 3, 4] (by decide))
        clear hJ56
        rcases of_cond h with ⟨hc38, h⟩ | ⟨hc38, h⟩
        · skip
          refine RunsI.fix 32 true hc38 (by kernel_rfl) (by kernel_rfl) ?_
          refine RunsI.cond true 25 (by kernel_rfl) ?_
          refine RunsI.go 1 [.c 26, .c 27, .c 29, .blk 1, .c 34, .lp 11, .blk 0, .c 35] (by kernel_rfl) ?_
          refine RunsI.region (by kernel_rfl) ?_
          refine RegI.pure 4 [1, 2, 3, 6, 9, 10, 33, 36] [(1, .int .i64 p1), (2, .int .u8 p2), (3, .pointer (some ⟨b10, 0, none⟩)), (6, .pointer (some ⟨b11, 0, none⟩)), (9, .int .i64 t16), (10, .pointer (some ⟨b25, 0, none⟩)), (33, .slice A12 t14.length c13), (36, .agg #[.int .i64 p1, .int .u8 p2])] (by kernel_rfl) ?_
          refine RegI.op (by kernel_rfl) (OpE.lit 37 88 [.int .i64 p1, .int .u8 p2] 1 h33 (by kernel_rfl) (by kernel_rfl) ?_)
          intro w39 b40 h41 hb42
          obtain ⟨hc43, h⟩ := of_cond0 h
          refine RegI.op (by kernel_rfl) (OpE.appendBox 38 4 6 58 88 16 [(p1, p2)] 0 h41 (by kernel_rfl) (by kernel_rfl) (by kernel_rfl) rfl rfl rfl (⟨[_, _], _, rfl, ⟨[_], [_], rfl, rfl, rfl⟩, rfl⟩) hc43 ?_)
          intro w44 A45 c46 h47 hk48
          refine RegI.pure 1 [1, 2, 3, 6, 7, 9, 10] [(1, .int .i64 p1), (2, .int .u8 p2), (3, .pointer (some ⟨b10, 0, none⟩)), (6, .pointer (some ⟨b11, 0, none⟩)), (7, .slice A45 ((t14 ++ [(p1, p2)]).length) c46), (9, .int .i64 t16), (10, .pointer (some ⟨b25, 0, none⟩))] (by kernel_rfl) ?_
          refine RegI.done (by kernel_rfl) ?_
          refine RunsI.region (by kernel_rfl) ?_
          refine RegI.pure 1 [1, 2, 3, 6, 7, 8, 9, 10] [(1, .int .i64 p1), (2, .int .u8 p2), (3, .pointer (some ⟨b10, 0, none⟩)), (6, .pointer (some ⟨b11, 0, none⟩)), (7, .slice A45 ((t14 ++ [(p1, p2)]).length) c46), (8, .bool true), (9, .int .i64 t16), (10, .pointer (some ⟨b25, 0, none⟩))] (by kernel_rfl) ?_
          refine RegI.done (by kernel_rfl) ?_
          refine RunsI.only [1, 2, 3, 6, 7, 8, 9, 10] [(1, .int .i64 p1), (2, .int .u8 p2), (3, .pointer (some ⟨b10, 0, none⟩)), (6, .pointer (some ⟨b11, 0, none⟩)), (7, .slice A45 ((t14 ++ [(p1, p2)]).length) c46), (8, .bool true), (9, .int .i64 t16), (10, .pointer (some ⟨b25, 0, none⟩))] (by kernel_rfl) (by kernel_rfl) ?_
          exact hj57 (t14 ++ [(p1, p2)]) true A45 c46 w44 h (h47.pick [0, 1, 2, 3, 4, 5] (by decide))
        · skip
          refine RunsI.fix 32 false hc38 (by kernel_rfl) (by kernel_rfl) ?_
          refine RunsI.cond false 28 (by kernel_rfl) ?_
          refine RunsI.go 1 [.c 29, .blk 1, .c 34, .lp 11, .blk 0, .c 35] (by kernel_rfl) ?_
          refine RunsI.only [1, 2, 3, 6, 7, 8, 9, 10] [(1, .int .i64 p1), (2, .int .u8 p2), (3, .pointer (some ⟨b10, 0, none⟩)), (6, .pointer (some ⟨b11, 0, none⟩)), (7, .slice A12 t14.length c13), (8, .bool t15), (9, .int .i64 t16), (10, .pointer (some ⟨b25, 0, none⟩))] (by kernel_rfl) (by kernel_rfl) ?_
          exact hj57 t14 t15 A12 c13 w34 h (h33.pick [0, 1, 2, 3, 4, 5] (by decide))
      clear hJ36
      rcases of_cond h with ⟨hc31, h⟩ | ⟨hc31, h⟩
      · skip
        refine RegI.fix 29 true hc31 (by kernel_rfl) (by kernel_rfl) ?_
        refine RegI.pure 3 [1, 2, 3, 6, 7, 8, 9, 10, 30, 31, 32] [(1, .int .i64 p1), (2, .int .u8 p2), (3, .pointer (some ⟨b10, 0, none⟩)), (6, .pointer (some ⟨b11, 0, none⟩)), (7, .slice A12 t14.length c13), (8, .bool t15), (9, .int .i64 t16), (10, .pointer (some ⟨b25, 0, none⟩)), (30, .bool t15), (31, .bool (!t15)), (32, .bool (!t15))] (by kernel_rfl) ?_
        refine RegI.only [1, 2, 3, 6, 7, 8, 9, 10, 32] [(1, .int .i64 p1), (2, .int .u8 p2), (3, .pointer (some ⟨b10, 0, none⟩)), (6, .pointer (some ⟨b11, 0, none⟩)), (7, .slice A12 t14.length c13), (8, .bool t15), (9, .int .i64 t16), (10, .pointer (some ⟨b25, 0, none⟩)), (32, .bool (!t15))] (by kernel_rfl) (by kernel_rfl) ?_
        exact hj37 (!t15) w28 h (h29.pick [0, 1, 2, 3, 4, 6] (by decide))
      · skip
        refine RegI.fix 29 false hc31 (by kernel_rfl) (by kernel_rfl) ?_
        refine RegI.pure 3 [1, 2, 3, 6, 7, 8, 9, 10, 30, 31, 32] [(1, .int .i64 p1), (2, .int .u8 p2), (3, .pointer (some ⟨b10, 0, none⟩)), (6, .pointer (some ⟨b11, 0, none⟩)), (7, .slice A12 t14.length c13), (8, .bool t15), (9, .int .i64 t16), (10, .pointer (some ⟨b25, 0, none⟩)), (30, undef), (31, undef), (32, .bool false)] (by kernel_rfl) ?_
        refine RegI.only [1, 2, 3, 6, 7, 8, 9, 10, 32] [(1, .int .i64 p1), (2, .int .u8 p2), (3, .pointer (some ⟨b10, 0, none⟩)), (6, .pointer (some ⟨b11, 0, none⟩)), (7, .slice A12 t14.length c13), (8, .bool t15), (9, .int .i64 t16), (10, .pointer (some ⟨b25, 0, none⟩)), (32, .bool false)] (by kernel_rfl) (by kernel_rfl) ?_
        exact hj37 false w28 h (h29.pick [0, 1, 2, 3, 4, 6] (by decide))
    · skip
      refine RunsI.fix 17 false hc17 (by kernel_rfl) (by kernel_rfl) ?_
      refine RunsI.cond false 16 (by kernel_rfl) ?_
      refine RunsI.go 1 [.c 35] (by kernel_rfl) ?_
      refine RunsI.only [1, 2, 3, 6, 7, 8] [(1, .int .i64 p1), (2, .int .u8 p2), (3, .pointer (some ⟨b10, 0, none⟩)), (6, .pointer (some ⟨b11, 0, none⟩)), (7, .slice A12 t14.length c13), (8, .bool t15)] (by kernel_rfl) (by kernel_rfl) ?_
      exact hk0 t14 t15 A12 c13 w (Option.some.inj h).symm (hH.pick [0, 1, 2, 3, 4] (by decide))
def charabancref19_put_60.f (K : Nat) (p0_0 : List Int) (p0_1 : Int) (p0_2 : Int) (p0_3 : List (Int × Int)) (p1 : Int) (p2 : Int) : Option ((List Int) × Int × Int × (List (Int × Int))) := (charabancref19_put_60.l0 K p0_0 p0_1 p0_2 p0_3 p1 p2 K ([] : List (Int × Int)) (p2 == 0) 0).bind (fun yx73 => cond (!yx73.2) (cond (mayBe (yx73.1.length + [(p1, p2)].length) 16) (some (p0_0, p0_1, p0_2, (yx73.1 ++ [(p1, p2)]))) none) (some (p0_0, p0_1, p0_2, yx73.1)))
set_option maxRecDepth 100000 in
theorem charabancref19_put_60_ok (K : Nat) (M0 : Nat → Prop) (w0 : World) (pA0_0 : Option Addr) (pc0_0 : Nat) (pA0_3 : Option Addr) (pc0_3 : Nat) (p0_0 : List Int) (p0_1 : Int) (p0_2 : Int) (p0_3 : List (Int × Int)) (p1 : Int) (p2 : Int) (ho : ∀ b, M0 b → b < w0.heap.size) (hs0_0 : Sl (Rp.int .u8) w0 M0 (.slice pA0_0 p0_0.length pc0_0) p0_0) (hs0_3 : Sl (Rp.pair (Rp.int .i64) (Rp.int .u8)) w0 M0 (.slice pA0_3 p0_3.length pc0_3) p0_3) {r : (List Int) × Int × Int × (List (Int × Int))} (h : charabancref19_put_60.f K p0_0 p0_1 p0_2 p0_3 p1 p2 = some r) :
    Calls Try.prog 60 #[.agg #[.slice pA0_0 p0_0.length pc0_0, .int .i64 p0_1, .int .i64 p0_2, .slice pA0_3 p0_3.length pc0_3], .int .i64 p1, .int .u8 p2] w0 (charabancref19_put_60.post M0 w0 r) := by
  unfold charabancref19_put_60.f at h
  have h0 : Holds M0 w0 w0 [] := Holds.start ho
  have h00_0 := h0.addSl (Rp.int .u8) (.slice pA0_0 p0_0.length pc0_0) p0_0 (hs0_0.mono (fun _ _ hm => hm.elim id (fun hm => absurd hm (by simp [mines, sl]))))
  have h00_3 := h00_0.addSl (Rp.pair (Rp.int .i64) (Rp.int .u8)) (.slice pA0_3 p0_3.length pc0_3) p0_3 (hs0_3.mono (fun _ _ hm => hm.elim id (fun hm => absurd hm (by simp [mines, sl]))))
  have h0 : Holds M0 w0 w0 [sl (Rp.int .u8) (.slice pA0_0 p0_0.length pc0_0) p0_0, sl (Rp.pair (Rp.int .i64) (Rp.int .u8)) (.slice pA0_3 p0_3.length pc0_3) p0_3] := h00_3
  refine calls_of F60 rfl [.agg #[.slice pA0_0 p0_0.length pc0_0, .int .i64 p0_1, .int .i64 p0_2, .slice pA0_3 p0_3.length pc0_3], .int .i64 p1, .int .u8 p2] (by kernel_rfl) ?_
  refine RunsI.go 1 [.c 1, .c 2] (by kernel_rfl) ?_
  refine RunsI.region (by kernel_rfl) ?_
  refine RegI.op (by kernel_rfl) (OpE.box 3 60 [.slice pA0_0 p0_0.length pc0_0, .int .i64 p0_1, .int .i64 p0_2, .slice pA0_3 p0_3.length pc0_3] h0 (by kernel_rfl) (by kernel_rfl) ?_)
  intro w1 b2 h3 hb4
  refine RegI.op (by kernel_rfl) (OpE.box 6 60 [.slice none 0 0, .int .i64 0, .int .i64 0, .slice none 0 0] h3 (by kernel_rfl) (by kernel_rfl) ?_)
  intro w5 b6 h7 hb8
  refine RegI.done (by kernel_rfl) ?_
  refine RunsI.go 1 [.c 3, .c 4] (by kernel_rfl) ?_
  refine RunsI.region (by kernel_rfl) ?_
  refine RegI.pure 1 [1, 2, 3, 6, 7] [(1, .int .i64 p1), (2, .int .u8 p2), (3, .pointer (some ⟨b2, 0, none⟩)), (6, .pointer (some ⟨b6, 0, none⟩)), (7, .slice none 0 0)] (by kernel_rfl) ?_
  refine RegI.done (by kernel_rfl) ?_
  refine RunsI.go 1 [.c 5, .c 6] (by kernel_rfl) ?_
  refine RunsI.region (by kernel_rfl) ?_
  refine RegI.pure 3 [1, 2, 3, 6, 7, 8] [(1, .int .i64 p1), (2, .int .u8 p2), (3, .pointer (some ⟨b2, 0, none⟩)), (6, .pointer (some ⟨b6, 0, none⟩)), (7, .slice none 0 0), (8, .bool (p2 == 0))] (by kernel_rfl) ?_
  refine RegI.done (by kernel_rfl) ?_
  refine RunsI.go 2 [.c 8, .c 9, .c 35] (by kernel_rfl) ?_
  refine RunsI.region (by kernel_rfl) ?_
  refine RegI.pure 1 [1, 2, 3, 6, 7, 8, 9] [(1, .int .i64 p1), (2, .int .u8 p2), (3, .pointer (some ⟨b2, 0, none⟩)), (6, .pointer (some ⟨b6, 0, none⟩)), (7, .slice none 0 0), (8, .bool (p2 == 0)), (9, .int .i64 0)] (by kernel_rfl) ?_
  refine RegI.done (by kernel_rfl) ?_
  refine RunsI.go 2 [.c 11, .lp 11, .blk 0, .c 35] (by kernel_rfl) ?_
  obtain ⟨x73, hx74, h⟩ := of_bind h
  have h9 := h7.addOwnNil (Rp.pair (Rp.int .i64) (Rp.int .u8)) 88
  refine RunsI.only [1, 2, 3, 6, 7, 8, 9] [(1, .int .i64 p1), (2, .int .u8 p2), (3, .pointer (some ⟨b2, 0, none⟩)), (6, .pointer (some ⟨b6, 0, none⟩)), (7, .slice none (([] : List (Int × Int)).length) 0), (8, .bool (p2 == 0)), (9, .int .i64 0)] (by kernel_rfl) (by kernel_rfl) ?_
  refine charabancref19_put_60.l0_ok K M0 w0 pA0_0 pc0_0 pA0_3 pc0_3 p0_0 p0_1 p0_2 p0_3 p1 p2 b2 b6 _ x73 ?_ K ([] : List (Int × Int)) (p2 == 0) 0 none 0 w5 hx74 (h9.pick [2, 0, 1, 3, 4] (by decide))
  · intro t77 t78 A75 c76 w80 hq104 h79
    (try rw [hq104] at h)
    dsimp only at h
    refine RunsI.go 2 [.c 37, .c 38, .c 41] (by kernel_rfl) ?_
    refine RunsI.region (by kernel_rfl) ?_
    refine RegI.pure 2 [1, 2, 3, 6, 7, 48] [(1, .int .i64 p1), (2, .int .u8 p2), (3, .pointer (some ⟨b2, 0, none⟩)), (6, .pointer (some ⟨b6, 0, none⟩)), (7, .slice A75 t77.length c76), (48, .bool (!t78))] (by kernel_rfl) ?_
    refine RegI.done (by kernel_rfl) ?_
    rcases of_cond h with ⟨hc81, h⟩ | ⟨hc81, h⟩
    · skip
      refine RunsI.fix 48 true hc81 (by kernel_rfl) (by kernel_rfl) ?_
      refine RunsI.cond true 39 (by kernel_rfl) ?_
      refine RunsI.region (by kernel_rfl) ?_
      refine RegI.pure 4 [3, 6, 49, 52] [(3, .pointer (some ⟨b2, 0, none⟩)), (6, .pointer (some ⟨b6, 0, none⟩)), (49, .slice A75 t77.length c76), (52, .agg #[.int .i64 p1, .int .u8 p2])] (by kernel_rfl) ?_
      refine RegI.op (by kernel_rfl) (OpE.lit 53 88 [.int .i64 p1, .int .u8 p2] 1 h79 (by kernel_rfl) (by kernel_rfl) ?_)
      intro w82 b83 h84 hb85
      obtain ⟨hc86, h⟩ := of_cond0 h
      refine RegI.op (by kernel_rfl) (OpE.appendBox 54 4 5 58 88 16 [(p1, p2)] 0 h84 (by kernel_rfl) (by kernel_rfl) (by kernel_rfl) rfl rfl rfl (⟨[_, _], _, rfl, ⟨[_], [_], rfl, rfl, rfl⟩, rfl⟩) hc86 ?_)
      intro w87 A88 c89 h90 hk91
      refine RegI.pure 1 [3, 6, 7] [(3, .pointer (some ⟨b2, 0, none⟩)), (6, .pointer (some ⟨b6, 0, none⟩)), (7, .slice A88 ((t77 ++ [(p1, p2)]).length) c89)] (by kernel_rfl) ?_
      refine RegI.done (by kernel_rfl) ?_
      refine RunsI.go 1 [.c 42, .c 43] (by kernel_rfl) ?_
      refine RunsI.region (by kernel_rfl) ?_
      refine RegI.pure 2 [3, 6, 55, 56] [(3, .pointer (some ⟨b2, 0, none⟩)), (6, .pointer (some ⟨b6, 0, none⟩)), (55, .slice A88 ((t77 ++ [(p1, p2)]).length) c89), (56, .pointer (some ⟨b2, 3, none⟩))] (by kernel_rfl) ?_
      refine RegI.op (by kernel_rfl) (OpE.storeBox 0 58 b2 3 (.slice A88 ((t77 ++ [(p1, p2)]).length) c89) [.slice pA0_0 p0_0.length pc0_0, .int .i64 p0_1, .int .i64 p0_2, .slice A88 ((t77 ++ [(p1, p2)]).length) c89] h90 (by kernel_rfl) (by kernel_rfl) rfl (by kernel_rfl) (by kernel_rfl) (by kernel_rfl) ?_)
      intro w92 h93 hk94
      refine RegI.done (by kernel_rfl) ?_
      refine RunsI.go 1 [.c 44, .c 45] (by kernel_rfl) ?_
      refine RunsI.region (by kernel_rfl) ?_
      refine RegI.op (by kernel_rfl) (OpE.loadBox 57 0 60 b2 0 (.agg #[.slice pA0_0 p0_0.length pc0_0, .int .i64 p0_1, .int .i64 p0_2, .slice A88 ((t77 ++ [(p1, p2)]).length) c89]) h93 (by kernel_rfl) (by kernel_rfl) rfl (by kernel_rfl) ?_)
      refine RegI.op (by kernel_rfl) (OpE.storeBox 3 60 b6 0 (.agg #[.slice pA0_0 p0_0.length pc0_0, .int .i64 p0_1, .int .i64 p0_2, .slice A88 ((t77 ++ [(p1, p2)]).length) c89]) [.slice pA0_0 p0_0.length pc0_0, .int .i64 p0_1, .int .i64 p0_2, .slice A88 ((t77 ++ [(p1, p2)]).length) c89] h93 (by kernel_rfl) (by kernel_rfl) rfl (by kernel_rfl) (by kernel_rfl) (by kernel_rfl) ?_)
      intro w95 h96 hk97
      refine RegI.done (by kernel_rfl) ?_
      refine RunsI.retW [.cell 6 60] [.agg #[.slice pA0_0 p0_0.length pc0_0, .int .i64 p0_1, .int .i64 p0_2, .slice A88 ((t77 ++ [(p1, p2)]).length) c89]] (.agg #[.slice pA0_0 p0_0.length pc0_0, .int .i64 p0_1, .int .i64 p0_2, .slice A88 ((t77 ++ [(p1, p2)]).length) c89]) (by kernel_rfl) (by kernel_rfl) (ResAt.box 3 60 b6 0 h96 (by kernel_rfl) (by kernel_rfl) rfl (by kernel_rfl) rfl) (by kernel_rfl) ?_
      obtain rfl := Option.some.inj h
      exact ⟨pA0_0, pc0_0, A88, c89, rfl, h96.pick [1, 4] (by decide)⟩
    · skip
      refine RunsI.fix 48 false hc81 (by kernel_rfl) (by kernel_rfl) ?_
      refine RunsI.cond false 40 (by kernel_rfl) ?_
      refine RunsI.go 1 [.c 41] (by kernel_rfl) ?_
      refine RunsI.go 1 [.c 42, .c 43] (by kernel_rfl) ?_
      refine RunsI.region (by kernel_rfl) ?_
      refine RegI.pure 2 [3, 6, 55, 56] [(3, .pointer (some ⟨b2, 0, none⟩)), (6, .pointer (some ⟨b6, 0, none⟩)), (55, .slice A75 t77.length c76), (56, .pointer (some ⟨b2, 3, none⟩))] (by kernel_rfl) ?_
      refine RegI.op (by kernel_rfl) (OpE.storeBox 0 58 b2 3 (.slice A75 t77.length c76) [.slice pA0_0 p0_0.length pc0_0, .int .i64 p0_1, .int .i64 p0_2, .slice A75 t77.length c76] h79 (by kernel_rfl) (by kernel_rfl) rfl (by kernel_rfl) (by kernel_rfl) (by kernel_rfl) ?_)
      intro w98 h99 hk100
      refine RegI.done (by kernel_rfl) ?_
      refine RunsI.go 1 [.c 44, .c 45] (by kernel_rfl) ?_
      refine RunsI.region (by kernel_rfl) ?_
      refine RegI.op (by kernel_rfl) (OpE.loadBox 57 0 60 b2 0 (.agg #[.slice pA0_0 p0_0.length pc0_0, .int .i64 p0_1, .int .i64 p0_2, .slice A75 t77.length c76]) h99 (by kernel_rfl) (by kernel_rfl) rfl (by kernel_rfl) ?_)
      refine RegI.op (by kernel_rfl) (OpE.storeBox 3 60 b6 0 (.agg #[.slice pA0_0 p0_0.length pc0_0, .int .i64 p0_1, .int .i64 p0_2, .slice A75 t77.length c76]) [.slice pA0_0 p0_0.length pc0_0, .int .i64 p0_1, .int .i64 p0_2, .slice A75 t77.length c76] h99 (by kernel_rfl) (by kernel_rfl) rfl (by kernel_rfl) (by kernel_rfl) (by kernel_rfl) ?_)
      intro w101 h102 hk103
      refine RegI.done (by kernel_rfl) ?_
      refine RunsI.retW [.cell 6 60] [.agg #[.slice pA0_0 p0_0.length pc0_0, .int .i64 p0_1, .int .i64 p0_2, .slice A75 t77.length c76]] (.agg #[.slice pA0_0 p0_0.length pc0_0, .int .i64 p0_1, .int .i64 p0_2, .slice A75 t77.length c76]) (by kernel_rfl) (by kernel_rfl) (ResAt.box 3 60 b6 0 h102 (by kernel_rfl) (by kernel_rfl) rfl (by kernel_rfl) rfl) (by kernel_rfl) ?_
      obtain rfl := Option.some.inj h
      exact ⟨pA0_0, pc0_0, A75, c76, rfl, h102.pick [1, 4] (by decide)⟩
end

/-! ### charabanc/charabancref19.Write (function 40) -/
section
def charabancref19_Write_40.post (M0 : Nat → Prop) (w0 : World) (r : (List Int) × Int × Int × (List (Int × Int))) : Ending → World → Prop := fun e w => ∃ (A1 : Option Addr) (c1 : Nat) (A4 : Option Addr) (c4 : Nat), e = .returned (.agg #[.slice A1 r.1.length c1, .int .i64 r.2.1, .int .i64 r.2.2.1, .slice A4 r.2.2.2.length c4]) ∧ Holds M0 w0 w [sl (Rp.int .u8) (.slice A1 r.1.length c1) r.1, sl (Rp.pair (Rp.int .i64) (Rp.int .u8)) (.slice A4 r.2.2.2.length c4) r.2.2.2]
def charabancref19_Write_40.f (K : Nat) (p0_0 : List Int) (p0_1 : Int) (p0_2 : Int) (p0_3 : List (Int × Int)) (p1 : Int) (p2 : Int) : Option ((List Int) × Int × Int × (List (Int × Int))) := (charabancref19_Where_32.f K p0_0 p0_1 p0_2 p0_3 p1).bind fun yt13 => cond (!yt13.2) (some (p0_0, p0_1, p0_2, p0_3)) ((charabancref19_put_60.f K p0_0 p0_1 p0_2 p0_3 yt13.1 p2).bind fun yt23 => some (yt23.1, yt23.2.1, yt23.2.2.1, yt23.2.2.2))
set_option maxRecDepth 100000 in
theorem charabancref19_Write_40_ok (K : Nat) (M0 : Nat → Prop) (w0 : World) (pA0_0 : Option Addr) (pc0_0 : Nat) (pA0_3 : Option Addr) (pc0_3 : Nat) (p0_0 : List Int) (p0_1 : Int) (p0_2 : Int) (p0_3 : List (Int × Int)) (p1 : Int) (p2 : Int) (ho : ∀ b, M0 b → b < w0.heap.size) (hs0_0 : Sl (Rp.int .u8) w0 M0 (.slice pA0_0 p0_0.length pc0_0) p0_0) (hs0_3 : Sl (Rp.pair (Rp.int .i64) (Rp.int .u8)) w0 M0 (.slice pA0_3 p0_3.length pc0_3) p0_3) {r : (List Int) × Int × Int × (List (Int × Int))} (h : charabancref19_Write_40.f K p0_0 p0_1 p0_2 p0_3 p1 p2 = some r) :
    Calls Try.prog 40 #[.agg #[.slice pA0_0 p0_0.length pc0_0, .int .i64 p0_1, .int .i64 p0_2, .slice pA0_3 p0_3.length pc0_3], .int .u16 p1, .int .u8 p2] w0 (charabancref19_Write_40.post M0 w0 r) := by
  unfold charabancref19_Write_40.f at h
  have h0 : Holds M0 w0 w0 [] := Holds.start ho
  have h00_0 := h0.addSl (Rp.int .u8) (.slice pA0_0 p0_0.length pc0_0) p0_0 (hs0_0.mono (fun _ _ hm => hm.elim id (fun hm => absurd hm (by simp [mines, sl]))))
  have h00_3 := h00_0.addSl (Rp.pair (Rp.int .i64) (Rp.int .u8)) (.slice pA0_3 p0_3.length pc0_3) p0_3 (hs0_3.mono (fun _ _ hm => hm.elim id (fun hm => absurd hm (by simp [mines, sl]))))
  have h0 : Holds M0 w0 w0 [sl (Rp.int .u8) (.slice pA0_0 p0_0.length pc0_0) p0_0, sl (Rp.pair (Rp.int .i64) (Rp.int .u8)) (.slice pA0_3 p0_3.length pc0_3) p0_3] := h00_3
  refine calls_of F40 rfl [.agg #[.slice pA0_0 p0_0.length pc0_0, .int .i64 p0_1, .int .i64 p0_2, .slice pA0_3 p0_3.length pc0_3], .int .u16 p1, .int .u8 p2] (by kernel_rfl) ?_
  refine RunsI.go 1 [.c 1, .c 2] (by kernel_rfl) ?_
  refine RunsI.region (by kernel_rfl) ?_
  refine RegI.op (by kernel_rfl) (OpE.box 3 60 [.slice pA0_0 p0_0.length pc0_0, .int .i64 p0_1, .int .i64 p0_2, .slice pA0_3 p0_3.length pc0_3] h0 (by kernel_rfl) (by kernel_rfl) ?_)
  intro w1 b2 h3 hb4
  refine RegI.op (by kernel_rfl) (OpE.box 6 60 [.slice none 0 0, .int .i64 0, .int .i64 0, .slice none 0 0] h3 (by kernel_rfl) (by kernel_rfl) ?_)
  intro w5 b6 h7 hb8
  refine RegI.done (by kernel_rfl) ?_
  refine RunsI.go 1 [.c 3, .c 4] (by kernel_rfl) ?_
  refine RunsI.region (by kernel_rfl) ?_
  refine RegI.op (by kernel_rfl) (OpE.loadBox 10 2 60 b2 0 (.agg #[.slice pA0_0 p0_0.length pc0_0, .int .i64 p0_1, .int .i64 p0_2, .slice pA0_3 p0_3.length pc0_3]) h7 (by kernel_rfl) (by kernel_rfl) rfl (by kernel_rfl) ?_)
  refine RegI.pure 1 [2, 3, 6, 10, 11] [(2, .int .u8 p2), (3, .pointer (some ⟨b2, 0, none⟩)), (6, .pointer (some ⟨b6, 0, none⟩)), (10, .agg #[.slice pA0_0 p0_0.length pc0_0, .int .i64 p0_1, .int .i64 p0_2, .slice pA0_3 p0_3.length pc0_3]), (11, .int .u16 p1)] (by kernel_rfl) ?_
  obtain ⟨⟨t13, t14⟩, hg12, h⟩ := of_bind h
  dsimp only at h
  refine RegI.op (by kernel_rfl) (OpE.call 12 (by kernel_rfl) 32 #[.agg #[.slice pA0_0 p0_0.length pc0_0, .int .i64 p0_1, .int .i64 p0_2, .slice pA0_3 p0_3.length pc0_3], .int .u16 p1] (by kernel_rfl) ((charabancref19_Where_32_ok K _ w5  pA0_0 pc0_0 pA0_3 pc0_3 p0_0 p0_1 p0_2 p0_3 p1 h7.old' (h7.get 0 rfl) (h7.get 1 rfl) hg12).mono ?_))
  rintro _ w9 ⟨rfl, hb10⟩
  refine ⟨_, rfl, ?_⟩
  have h11 := h7.call hb10
  refine RegI.pure 5 [2, 3, 6, 7, 8] [(2, .int .u8 p2), (3, .pointer (some ⟨b2, 0, none⟩)), (6, .pointer (some ⟨b6, 0, none⟩)), (7, .int .i64 t13), (8, .bool t14)] (by kernel_rfl) ?_
  refine RegI.done (by kernel_rfl) ?_
  refine RunsI.go 2 [.c 6, .c 7, .c 12] (by kernel_rfl) ?_
  refine RunsI.region (by kernel_rfl) ?_
  refine RegI.pure 2 [2, 3, 6, 7, 16] [(2, .int .u8 p2), (3, .pointer (some ⟨b2, 0, none⟩)), (6, .pointer (some ⟨b6, 0, none⟩)), (7, .int .i64 t13), (16, .bool (!t14))] (by kernel_rfl) ?_
  refine RegI.done (by kernel_rfl) ?_
  rcases of_cond h with ⟨hc15, h⟩ | ⟨hc15, h⟩
  · skip
    refine RunsI.fix 16 true hc15 (by kernel_rfl) (by kernel_rfl) ?_
    refine RunsI.cond true 8 (by kernel_rfl) ?_
    refine RunsI.go 1 [.c 9, .c 10, .c 12] (by kernel_rfl) ?_
    refine RunsI.region (by kernel_rfl) ?_
    refine RegI.op (by kernel_rfl) (OpE.loadBox 17 2 60 b2 0 (.agg #[.slice pA0_0 p0_0.length pc0_0, .int .i64 p0_1, .int .i64 p0_2, .slice pA0_3 p0_3.length pc0_3]) h11 (by kernel_rfl) (by kernel_rfl) rfl (by kernel_rfl) ?_)
    refine RegI.op (by kernel_rfl) (OpE.storeBox 3 60 b6 0 (.agg #[.slice pA0_0 p0_0.length pc0_0, .int .i64 p0_1, .int .i64 p0_2, .slice pA0_3 p0_3.length pc0_3]) [.slice pA0_0 p0_0.length pc0_0, .int .i64 p0_1, .int .i64 p0_2, .slice pA0_3 p0_3.length pc0_3] h11 (by kernel_rfl) (by kernel_rfl) rfl (by kernel_rfl) (by kernel_rfl) (by kernel_rfl) ?_)
    intro w16 h17 hk18
    refine RegI.done (by kernel_rfl) ?_
    refine RunsI.retW [.cell 6 60] [.agg #[.slice pA0_0 p0_0.length pc0_0, .int .i64 p0_1, .int .i64 p0_2, .slice pA0_3 p0_3.length pc0_3]] (.agg #[.slice pA0_0 p0_0.length pc0_0, .int .i64 p0_1, .int .i64 p0_2, .slice pA0_3 p0_3.length pc0_3]) (by kernel_rfl) (by kernel_rfl) (ResAt.box 3 60 b6 0 h17 (by kernel_rfl) (by kernel_rfl) rfl (by kernel_rfl) rfl) (by kernel_rfl) ?_
    obtain rfl := Option.some.inj h
    exact ⟨pA0_0, pc0_0, pA0_3, pc0_3, rfl, h17.pick [0, 1] (by decide)⟩
  · skip
    refine RunsI.fix 16 false hc15 (by kernel_rfl) (by kernel_rfl) ?_
    refine RunsI.cond false 11 (by kernel_rfl) ?_
    refine RunsI.go 1 [.c 12] (by kernel_rfl) ?_
    refine RunsI.go 1 [.c 13, .c 14] (by kernel_rfl) ?_
    refine RunsI.region (by kernel_rfl) ?_
    refine RegI.op (by kernel_rfl) (OpE.loadBox 18 2 60 b2 0 (.agg #[.slice pA0_0 p0_0.length pc0_0, .int .i64 p0_1, .int .i64 p0_2, .slice pA0_3 p0_3.length pc0_3]) h11 (by kernel_rfl) (by kernel_rfl) rfl (by kernel_rfl) ?_)
    refine RegI.pure 2 [6, 18, 19, 20] [(6, .pointer (some ⟨b6, 0, none⟩)), (18, .agg #[.slice pA0_0 p0_0.length pc0_0, .int .i64 p0_1, .int .i64 p0_2, .slice pA0_3 p0_3.length pc0_3]), (19, .int .i64 t13), (20, .int .u8 p2)] (by kernel_rfl) ?_
    obtain ⟨⟨t23, t27, t28, t29⟩, hg22, h⟩ := of_bind h
    dsimp only at h
    refine RegI.op (by kernel_rfl) (OpE.call 21 (by kernel_rfl) 60 #[.agg #[.slice pA0_0 p0_0.length pc0_0, .int .i64 p0_1, .int .i64 p0_2, .slice pA0_3 p0_3.length pc0_3], .int .i64 t13, .int .u8 p2] (by kernel_rfl) ((charabancref19_put_60_ok K _ w9  pA0_0 pc0_0 pA0_3 pc0_3 p0_0 p0_1 p0_2 p0_3 t13 p2 h11.old' (h11.get 0 rfl) (h11.get 1 rfl) hg22).mono ?_))
    rintro _ w19 ⟨A24, c25, A30, c31, rfl, hr33⟩
    refine ⟨_, rfl, ?_⟩
    have hb20 := hr33.below
    have h21 := h11.join hr33
    refine RegI.op (by kernel_rfl) (OpE.storeBox 3 60 b6 0 (.agg #[.slice A24 t23.length c25, .int .i64 t27, .int .i64 t28, .slice A30 t29.length c31]) [.slice A24 t23.length c25, .int .i64 t27, .int .i64 t28, .slice A30 t29.length c31] h21 (by kernel_rfl) (by kernel_rfl) rfl (by kernel_rfl) (by kernel_rfl) (by kernel_rfl) ?_)
    intro w34 h35 hk36
    refine RegI.done (by kernel_rfl) ?_
    refine RunsI.retW [.cell 6 60] [.agg #[.slice A24 t23.length c25, .int .i64 t27, .int .i64 t28, .slice A30 t29.length c31]] (.agg #[.slice A24 t23.length c25, .int .i64 t27, .int .i64 t28, .slice A30 t29.length c31]) (by kernel_rfl) (by kernel_rfl) (ResAt.box 3 60 b6 0 h35 (by kernel_rfl) (by kernel_rfl) rfl (by kernel_rfl) rfl) (by kernel_rfl) ?_
    have h37 := h35.release 5 rfl
    obtain rfl := Option.some.inj h
    exact ⟨A24, c25, A30, c31, rfl, h37.pick [4, 5] (by decide)⟩
end

/-! ### charabanc/charabancref19.Select (function 42) -/
section
def charabancref19_Select_42.post (M0 : Nat → Prop) (w0 : World) (r : (List Int) × Int × Int × (List (Int × Int))) : Ending → World → Prop := fun e w => ∃ (A1 : Option Addr) (c1 : Nat) (A4 : Option Addr) (c4 : Nat), e = .returned (.agg #[.slice A1 r.1.length c1, .int .i64 r.2.1, .int .i64 r.2.2.1, .slice A4 r.2.2.2.length c4]) ∧ Holds M0 w0 w [sl (Rp.int .u8) (.slice A1 r.1.length c1) r.1, sl (Rp.pair (Rp.int .i64) (Rp.int .u8)) (.slice A4 r.2.2.2.length c4) r.2.2.2]
def charabancref19_Select_42.f (K : Nat) (p0_0 : List Int) (p0_1 : Int) (p0_2 : Int) (p0_3 : List (Int × Int)) (p1 : Int) : Option ((List Int) × Int × Int × (List (Int × Int))) := cond (decide (p0_1 ≥ 1)) (cond (p0_1 != 0) (some (p0_0, p0_1, (Int.tmod (IntKind.wrap .i64 p1) p0_1), p0_3)) none) (some (p0_0, p0_1, p0_2, p0_3))
set_option maxRecDepth 100000 in
theorem charabancref19_Select_42_ok (K : Nat) (M0 : Nat → Prop) (w0 : World) (pA0_0 : Option Addr) (pc0_0 : Nat) (pA0_3 : Option Addr) (pc0_3 : Nat) (p0_0 : List Int) (p0_1 : Int) (p0_2 : Int) (p0_3 : List (Int × Int)) (p1 : Int) (ho : ∀ b, M0 b → b < w0.heap.size) (hs0_0 : Sl (Rp.int .u8) w0 M0 (.slice pA0_0 p0_0.length pc0_0) p0_0) (hs0_3 : Sl (Rp.pair (Rp.int .i64) (Rp.int .u8)) w0 M0 (.slice pA0_3 p0_3.length pc0_3) p0_3) {r : (List Int) × Int × Int × (List (Int × Int))} (h : charabancref19_Select_42.f K p0_0 p0_1 p0_2 p0_3 p1 = some r) :
    Calls Try.prog 42 #[.agg #[.slice pA0_0 p0_0.length pc0_0, .int .i64 p0_1, .int .i64 p0_2, .slice pA0_3 p0_3.length pc0_3], .int .u8 p1] w0 (charabancref19_Select_42.post M0 w0 r) := by
  unfold charabancref19_Select_42.f at h
  have h0 : Holds M0 w0 w0 [] := Holds.start ho
  have h00_0 := h0.addSl (Rp.int .u8) (.slice pA0_0 p0_0.length pc0_0) p0_0 (hs0_0.mono (fun _ _ hm => hm.elim id (fun hm => absurd hm (by simp [mines, sl]))))
  have h00_3 := h00_0.addSl (Rp.pair (Rp.int .i64) (Rp.int .u8)) (.slice pA0_3 p0_3.length pc0_3) p0_3 (hs0_3.mono (fun _ _ hm => hm.elim id (fun hm => absurd hm (by simp [mines, sl]))))
  have h0 : Holds M0 w0 w0 [sl (Rp.int .u8) (.slice pA0_0 p0_0.length pc0_0) p0_0, sl (Rp.pair (Rp.int .i64) (Rp.int .u8)) (.slice pA0_3 p0_3.length pc0_3) p0_3] := h00_3
  refine calls_of F42 rfl [.agg #[.slice pA0_0 p0_0.length pc0_0, .int .i64 p0_1, .int .i64 p0_2, .slice pA0_3 p0_3.length pc0_3], .int .u8 p1] (by kernel_rfl) ?_
  refine RunsI.go 1 [.c 1, .c 2] (by kernel_rfl) ?_
  refine RunsI.region (by kernel_rfl) ?_
  refine RegI.op (by kernel_rfl) (OpE.box 2 60 [.slice pA0_0 p0_0.length pc0_0, .int .i64 p0_1, .int .i64 p0_2, .slice pA0_3 p0_3.length pc0_3] h0 (by kernel_rfl) (by kernel_rfl) ?_)
  intro w1 b2 h3 hb4
  refine RegI.op (by kernel_rfl) (OpE.box 4 60 [.slice none 0 0, .int .i64 0, .int .i64 0, .slice none 0 0] h3 (by kernel_rfl) (by kernel_rfl) ?_)
  intro w5 b6 h7 hb8
  refine RegI.done (by kernel_rfl) ?_
  refine RunsI.go 2 [.c 4, .c 5, .c 8] (by kernel_rfl) ?_
  refine RunsI.region (by kernel_rfl) ?_
  refine RegI.pure 1 [1, 2, 4, 5] [(1, .int .u8 p1), (2, .pointer (some ⟨b2, 0, none⟩)), (4, .pointer (some ⟨b6, 0, none⟩)), (5, .pointer (some ⟨b2, 1, none⟩))] (by kernel_rfl) ?_
  refine RegI.op (by kernel_rfl) (OpE.loadBox 6 2 3 b2 1 (.int .i64 p0_1) h7 (by kernel_rfl) (by kernel_rfl) rfl (by kernel_rfl) ?_)
  refine RegI.pure 1 [1, 2, 4, 7] [(1, .int .u8 p1), (2, .pointer (some ⟨b2, 0, none⟩)), (4, .pointer (some ⟨b6, 0, none⟩)), (7, .bool (decide (p0_1 ≥ 1)))] (by kernel_rfl) ?_
  refine RegI.done (by kernel_rfl) ?_
  rcases of_cond h with ⟨hc9, h⟩ | ⟨hc9, h⟩
  · skip
    refine RunsI.fix 7 true hc9 (by kernel_rfl) (by kernel_rfl) ?_
    refine RunsI.cond true 6 (by kernel_rfl) ?_
    refine RunsI.region (by kernel_rfl) ?_
    refine RegI.pure 3 [2, 4, 9, 10] [(2, .pointer (some ⟨b2, 0, none⟩)), (4, .pointer (some ⟨b6, 0, none⟩)), (9, .int .i64 (IntKind.wrap .i64 p1)), (10, .pointer (some ⟨b2, 1, none⟩))] (by kernel_rfl) ?_
    refine RegI.op (by kernel_rfl) (OpE.loadBox 11 2 3 b2 1 (.int .i64 p0_1) h7 (by kernel_rfl) (by kernel_rfl) rfl (by kernel_rfl) ?_)
    obtain ⟨hc10, h⟩ := of_cond0 h
    refine RegI.op (by kernel_rfl) (OpE.run 12 (by kernel_rfl) (run_rem (k := .i64) (a := (IntKind.wrap .i64 p1)) (b := p0_1) (by kernel_rfl) hc10) ?_)
    refine RegI.pure 1 [2, 4, 12, 13] [(2, .pointer (some ⟨b2, 0, none⟩)), (4, .pointer (some ⟨b6, 0, none⟩)), (12, .int .i64 (Int.tmod (IntKind.wrap .i64 p1) p0_1)), (13, .pointer (some ⟨b2, 2, none⟩))] (by kernel_rfl) ?_
    refine RegI.op (by kernel_rfl) (OpE.storeBox 2 3 b2 2 (.int .i64 (Int.tmod (IntKind.wrap .i64 p1) p0_1)) [.slice pA0_0 p0_0.length pc0_0, .int .i64 p0_1, .int .i64 (Int.tmod (IntKind.wrap .i64 p1) p0_1), .slice pA0_3 p0_3.length pc0_3] h7 (by kernel_rfl) (by kernel_rfl) rfl (by kernel_rfl) (by kernel_rfl) (by kernel_rfl) ?_)
    intro w11 h12 hk13
    refine RegI.done (by kernel_rfl) ?_
    refine RunsI.go 1 [.c 9, .c 10] (by kernel_rfl) ?_
    refine RunsI.region (by kernel_rfl) ?_
    refine RegI.op (by kernel_rfl) (OpE.loadBox 14 2 60 b2 0 (.agg #[.slice pA0_0 p0_0.length pc0_0, .int .i64 p0_1, .int .i64 (Int.tmod (IntKind.wrap .i64 p1) p0_1), .slice pA0_3 p0_3.length pc0_3]) h12 (by kernel_rfl) (by kernel_rfl) rfl (by kernel_rfl) ?_)
    refine RegI.op (by kernel_rfl) (OpE.storeBox 3 60 b6 0 (.agg #[.slice pA0_0 p0_0.length pc0_0, .int .i64 p0_1, .int .i64 (Int.tmod (IntKind.wrap .i64 p1) p0_1), .slice pA0_3 p0_3.length pc0_3]) [.slice pA0_0 p0_0.length pc0_0, .int .i64 p0_1, .int .i64 (Int.tmod (IntKind.wrap .i64 p1) p0_1), .slice pA0_3 p0_3.length pc0_3] h12 (by kernel_rfl) (by kernel_rfl) rfl (by kernel_rfl) (by kernel_rfl) (by kernel_rfl) ?_)
    intro w14 h15 hk16
    refine RegI.done (by kernel_rfl) ?_
    refine RunsI.retW [.cell 4 60] [.agg #[.slice pA0_0 p0_0.length pc0_0, .int .i64 p0_1, .int .i64 (Int.tmod (IntKind.wrap .i64 p1) p0_1), .slice pA0_3 p0_3.length pc0_3]] (.agg #[.slice pA0_0 p0_0.length pc0_0, .int .i64 p0_1, .int .i64 (Int.tmod (IntKind.wrap .i64 p1) p0_1), .slice pA0_3 p0_3.length pc0_3]) (by kernel_rfl) (by kernel_rfl) (ResAt.box 3 60 b6 0 h15 (by kernel_rfl) (by kernel_rfl) rfl (by kernel_rfl) rfl) (by kernel_rfl) ?_
    obtain rfl := Option.some.inj h
    exact ⟨pA0_0, pc0_0, pA0_3, pc0_3, rfl, h15.pick [0, 1] (by decide)⟩
  · skip
    refine RunsI.fix 7 false hc9 (by kernel_rfl) (by kernel_rfl) ?_
    refine RunsI.cond false 7 (by kernel_rfl) ?_
    refine RunsI.go 1 [.c 8] (by kernel_rfl) ?_
    refine RunsI.go 1 [.c 9, .c 10] (by kernel_rfl) ?_
    refine RunsI.region (by kernel_rfl) ?_
    refine RegI.op (by kernel_rfl) (OpE.loadBox 14 2 60 b2 0 (.agg #[.slice pA0_0 p0_0.length pc0_0, .int .i64 p0_1, .int .i64 p0_2, .slice pA0_3 p0_3.length pc0_3]) h7 (by kernel_rfl) (by kernel_rfl) rfl (by kernel_rfl) ?_)
    refine RegI.op (by kernel_rfl) (OpE.storeBox 3 60 b6 0 (.agg #[.slice pA0_0 p0_0.length pc0_0, .int .i64 p0_1, .int .i64 p0_2, .slice pA0_3 p0_3.length pc0_3]) [.slice pA0_0 p0_0.length pc0_0, .int .i64 p0_1, .int .i64 p0_2, .slice pA0_3 p0_3.length pc0_3] h7 (by kernel_rfl) (by kernel_rfl) rfl (by kernel_rfl) (by kernel_rfl) (by kernel_rfl) ?_)
    intro w17 h18 hk19
    refine RegI.done (by kernel_rfl) ?_
    refine RunsI.retW [.cell 4 60] [.agg #[.slice pA0_0 p0_0.length pc0_0, .int .i64 p0_1, .int .i64 p0_2, .slice pA0_3 p0_3.length pc0_3]] (.agg #[.slice pA0_0 p0_0.length pc0_0, .int .i64 p0_1, .int .i64 p0_2, .slice pA0_3 p0_3.length pc0_3]) (by kernel_rfl) (by kernel_rfl) (ResAt.box 3 60 b6 0 h18 (by kernel_rfl) (by kernel_rfl) rfl (by kernel_rfl) rfl) (by kernel_rfl) ?_
    obtain rfl := Option.some.inj h
    exact ⟨pA0_0, pc0_0, pA0_3, pc0_3, rfl, h18.pick [0, 1] (by decide)⟩
end

/-! ### charabanc/charabancref19.Load (function 44) -/
section
def charabancref19_Load_44.post (M0 : Nat → Prop) (w0 : World) (r : (List Int) × Int × Int × (List (Int × Int))) : Ending → World → Prop := fun e w => ∃ (A1 : Option Addr) (c1 : Nat) (A4 : Option Addr) (c4 : Nat), e = .returned (.agg #[.slice A1 r.1.length c1, .int .i64 r.2.1, .int .i64 r.2.2.1, .slice A4 r.2.2.2.length c4]) ∧ Holds M0 w0 w [sl (Rp.int .u8) (.slice A1 r.1.length c1) r.1, sl (Rp.pair (Rp.int .i64) (Rp.int .u8)) (.slice A4 r.2.2.2.length c4) r.2.2.2]
def charabancref19_Load_44.l0 (K : Nat) (p0_0 : List Int) (p0_1 : Int) (p0_2 : Int) (p0_3 : List (Int × Int)) (p1 : Int) (p2 : List Int) : Nat → (List Int) → Int → Int → (List (Int × Int)) → Int → Option ((List Int) × Int × Int × (List (Int × Int)))
  | 0, _, _, _, _, _ => none
  | k + 1, t12, t13, t14, t17, t19 => cond (decide (t19 < (p2.length : Int))) (cond (inR t19 p2.length) ((charabancref19_put_60.f K t12 t13 t14 t17 (IntKind.wrap .i64 (p1 + t19)) (rdD p2 t19)).bind fun yt39 => charabancref19_Load_44.l0 K p0_0 p0_1 p0_2 p0_3 p1 p2 k yt39.1 yt39.2.1 yt39.2.2.1 yt39.2.2.2 (IntKind.wrap .i64 (t19 + 1))) none) (some (t12, t13, t14, t17))
set_option maxRecDepth 100000 in
theorem charabancref19_Load_44.l0_ok (K : Nat) (M0 : Nat → Prop) (w0 : World) (pA0_0 : Option Addr) (pc0_0 : Nat) (pA0_3 : Option Addr) (pc0_3 : Nat) (pA2 : Option Addr) (pc2 : Nat) (p0_0 : List Int) (p0_1 : Int) (p0_2 : Int) (p0_3 : List (Int × Int)) (p1 : Int) (p2 : List Int) (b9 : Nat) (b18 : Nat) (R : Ending → World → Prop) (x : (List Int) × Int × Int × (List (Int × Int))) (hk0 : ∀ (t65 : List Int) (t66 : Int) (t67 : Int) (t70 : List (Int × Int)) (A63 : Option Addr) (c64 : Nat) (A68 : Option Addr) (c69 : Nat) (w1 : World), x = (t65, t66, t67, t70) → Holds M0 w0 w1 [box b9 60 [.slice A63 t65.length c64, .int .i64 t66, .int .i64 t67, .slice A68 t70.length c69], sl (Rp.int .u8) (.slice A63 t65.length c64) t65, sl (Rp.pair (Rp.int .i64) (Rp.int .u8)) (.slice A68 t70.length c69) t70, box b18 60 [.slice none 0 0, .int .i64 0, .int .i64 0, .slice none 0 0]] → RunsI F44 [.c 17] [(3, .pointer (some ⟨b9, 0, none⟩)), (6, .pointer (some ⟨b18, 0, none⟩))] w1 R) :
    ∀ (k : Nat) (t12 : List Int) (t13 : Int) (t14 : Int) (t17 : List (Int × Int)) (t19 : Int) (A10 : Option Addr) (c11 : Nat) (A15 : Option Addr) (c16 : Nat) (w : World), charabancref19_Load_44.l0 K p0_0 p0_1 p0_2 p0_3 p1 p2 k t12 t13 t14 t17 t19 = some x → Holds M0 w0 w [sl (Rp.int .u8) (.slice pA2 p2.length pc2) p2, box b9 60 [.slice A10 t12.length c11, .int .i64 t13, .int .i64 t14, .slice A15 t17.length c16], sl (Rp.int .u8) (.slice A10 t12.length c11) t12, sl (Rp.pair (Rp.int .i64) (Rp.int .u8)) (.slice A15 t17.length c16) t17, box b18 60 [.slice none 0 0, .int .i64 0, .int .i64 0, .slice none 0 0]] → RunsI F44 [.c 7, .lp 7, .blk 0, .c 17] [(1, .int .i64 p1), (2, .slice pA2 p2.length pc2), (3, .pointer (some ⟨b9, 0, none⟩)), (6, .pointer (some ⟨b18, 0, none⟩)), (7, .int .i64 t19)] w R := by
  intro k
  induction k with
  | zero => intro t12 t13 t14 t17 t19 A10 c11 A15 c16 w h hH; exact absurd h (by simp [charabancref19_Load_44.l0])
  | succ k ih =>
    intro t12 t13 t14 t17 t19 A10 c11 A15 c16 w h hH
    rw [charabancref19_Load_44.l0.eq_2] at h
    refine RunsI.go 1 [.c 8, .c 13, .lp 7, .blk 0, .c 17] (by kernel_rfl) ?_
    refine RunsI.go 1 [.c 9, .c 10, .c 13, .lp 7, .blk 0, .c 17] (by kernel_rfl) ?_
    refine RunsI.region (by kernel_rfl) ?_
    refine RegI.pure 4 [1, 2, 3, 6, 7, 11] [(1, .int .i64 p1), (2, .slice pA2 p2.length pc2), (3, .pointer (some ⟨b9, 0, none⟩)), (6, .pointer (some ⟨b18, 0, none⟩)), (7, .int .i64 t19), (11, .bool (decide (t19 < (p2.length : Int))))] (by kernel_rfl) ?_
    refine RegI.done (by kernel_rfl) ?_
    rcases of_cond h with ⟨hc20, h⟩ | ⟨hc20, h⟩
    · skip
      refine RunsI.fix 11 true hc20 (by kernel_rfl) (by kernel_rfl) ?_
      refine RunsI.cond true 11 (by kernel_rfl) ?_
      refine RunsI.go 1 [.c 13, .lp 7, .blk 0, .c 17] (by kernel_rfl) ?_
      refine RunsI.go 2 [.c 15, .blk 1, .c 16, .lp 7, .blk 0, .c 17] (by kernel_rfl) ?_
      refine RunsI.any 10 (by kernel_rfl) (by kernel_rfl) (by kernel_rfl) (Kp ([] : List Nat) (World.drew w)) ?_
      have h22 := hH.drew
      generalize World.drew w = w21 at h22 ⊢
      have hS23 := Kp.refl ([] : List Nat) w21
      refine AnyE.loadBox 0 14 1 60 b9 0 (.agg #[.slice A10 t12.length c11, .int .i64 t13, .int .i64 t14, .slice A15 t17.length c16]) [] h22 rfl (by kernel_rfl) hS23 rfl rfl (by kernel_rfl) (by kernel_rfl) ?_
      refine AnyE.pure 1 15 (.int .i64 p1) (by kernel_rfl) hS23 (fun _ => by kernel_rfl) ?_
      refine AnyE.pure 2 16 (.int .i64 t19) (by kernel_rfl) hS23 (fun _ => by kernel_rfl) ?_
      refine AnyE.pure 3 17 (.int .i64 (IntKind.wrap .i64 (p1 + t19))) (by kernel_rfl) hS23 (fun _ => by kernel_rfl) ?_
      refine AnyE.pure 4 18 (.slice pA2 p2.length pc2) (by kernel_rfl) hS23 (fun _ => by kernel_rfl) ?_
      refine AnyE.pure 5 19 (.int .i64 t19) (by kernel_rfl) hS23 (fun _ => by kernel_rfl) ?_
      obtain ⟨hc25, h⟩ := of_cond0 h
      refine AnyE.idxSl 6 20 0 38 t19 h22 (by kernel_rfl) hS23 rfl (by kernel_rfl) (by kernel_rfl) hc25 ?_
      intro b26 o27 cs28 hk29 h30
      obtain rfl := hk29
      refine AnyE.loadCel 7 21 5 5 b26 o27 0 (.int .u8 (rdD p2 t19)) [] h30 rfl (by kernel_rfl) hS23 rfl rfl (by kernel_rfl) (by kernel_rfl) ?_
      refine AnyE.one 8 (by kernel_rfl) (fun w31 hu32 => ?_)
      have h33 := h30.call hu32
      have hS34 := hS23.up hu32
      obtain ⟨⟨t39, t43, t44, t45⟩, hg38, h⟩ := of_bind h
      dsimp only at h
      refine OpE.call 22 (by kernel_rfl) 60 #[.agg #[.slice A10 t12.length c11, .int .i64 t13, .int .i64 t14, .slice A15 t17.length c16], .int .i64 (IntKind.wrap .i64 (p1 + t19)), .int .u8 (rdD p2 t19)] (by kernel_rfl) ((charabancref19_put_60_ok K _ w31  A10 c11 A15 c16 t12 t13 t14 t17 (IntKind.wrap .i64 (p1 + t19)) (rdD p2 t19) h33.old' (h33.get 2 rfl) (h33.get 3 rfl) hg38).mono ?_)
      rintro _ w35 ⟨A40, c41, A46, c47, rfl, hr49⟩
      refine ⟨_, rfl, ?_⟩
      have hb36 := hr49.below
      have h37 := h33.join hr49
      have hS50 := hS34.up hb36
      refine ⟨hS50, ?_⟩
      refine AnyE.last 9 (by kernel_rfl) (by kernel_rfl) (fun w51 hu52 => ?_)
      have h53 := h37.call hu52
      have hS54 := hS50.up hu52
      refine OpE.storeBox 1 60 b9 0 (.agg #[.slice A40 t39.length c41, .int .i64 t43, .int .i64 t44, .slice A46 t45.length c47]) [.slice A40 t39.length c41, .int .i64 t43, .int .i64 t44, .slice A46 t45.length c47] h53 (by kernel_rfl) (by kernel_rfl) rfl (by kernel_rfl) (by kernel_rfl) (by kernel_rfl) ?_
      intro w55 h56 hk57
      refine AnyE.done (by kernel_rfl) (fun w59 hu60 => ?_)
      have h61 := h56.call hu60
      refine RunsI.only [1, 2, 3, 6, 7] [(1, .int .i64 p1), (2, .slice pA2 p2.length pc2), (3, .pointer (some ⟨b9, 0, none⟩)), (6, .pointer (some ⟨b18, 0, none⟩)), (7, .int .i64 t19)] (by kernel_rfl) (by kernel_rfl) ?_
      refine RunsI.go 1 [.c 16, .lp 7, .blk 0, .c 17] (by kernel_rfl) ?_
      refine RunsI.region (by kernel_rfl) ?_
      refine RegI.pure 3 [1, 2, 3, 6, 7] [(1, .int .i64 p1), (2, .slice pA2 p2.length pc2), (3, .pointer (some ⟨b9, 0, none⟩)), (6, .pointer (some ⟨b18, 0, none⟩)), (7, .int .i64 (IntKind.wrap .i64 (t19 + 1)))] (by kernel_rfl) ?_
      refine RegI.done (by kernel_rfl) ?_
      refine RunsI.go 1 [.c 7, .lp 7, .blk 0, .c 17] (by kernel_rfl) ?_
      have h62 := h61.release 7 rfl
      refine RunsI.only [1, 2, 3, 6, 7] [(1, .int .i64 p1), (2, .slice pA2 p2.length pc2), (3, .pointer (some ⟨b9, 0, none⟩)), (6, .pointer (some ⟨b18, 0, none⟩)), (7, .int .i64 (IntKind.wrap .i64 (t19 + 1)))] (by kernel_rfl) (by kernel_rfl) ?_
      exact ih t39 t43 t44 t45 (IntKind.wrap .i64 (t19 + 1)) A40 c41 A46 c47 w59 h (h62.pick [0, 1, 6, 7, 4] (by decide))
    · skip
      refine RunsI.fix 11 false hc20 (by kernel_rfl) (by kernel_rfl) ?_
      refine RunsI.cond false 12 (by kernel_rfl) ?_
      refine RunsI.go 1 [.c 17] (by kernel_rfl) ?_
      refine RunsI.only [3, 6] [(3, .pointer (some ⟨b9, 0, none⟩)), (6, .pointer (some ⟨b18, 0, none⟩))] (by kernel_rfl) (by kernel_rfl) ?_
      exact hk0 t12 t13 t14 t17 A10 c11 A15 c16 w (Option.some.inj h).symm (hH.pick [1, 2, 3, 4] (by decide))
def charabancref19_Load_44.f (K : Nat) (p0_0 : List Int) (p0_1 : Int) (p0_2 : Int) (p0_3 : List (Int × Int)) (p1 : Int) (p2 : List Int) : Option ((List Int) × Int × Int × (List (Int × Int))) := (charabancref19_Load_44.l0 K p0_0 p0_1 p0_2 p0_3 p1 p2 K p0_0 p0_1 p0_2 p0_3 0).bind (fun yx71 => some (yx71.1, yx71.2.1, yx71.2.2.1, yx71.2.2.2))
set_option maxRecDepth 100000 in
theorem charabancref19_Load_44_ok (K : Nat) (M0 : Nat → Prop) (w0 : World) (pA0_0 : Option Addr) (pc0_0 : Nat) (pA0_3 : Option Addr) (pc0_3 : Nat) (pA2 : Option Addr) (pc2 : Nat) (p0_0 : List Int) (p0_1 : Int) (p0_2 : Int) (p0_3 : List (Int × Int)) (p1 : Int) (p2 : List Int) (ho : ∀ b, M0 b → b < w0.heap.size) (hs0_0 : Sl (Rp.int .u8) w0 M0 (.slice pA0_0 p0_0.length pc0_0) p0_0) (hs0_3 : Sl (Rp.pair (Rp.int .i64) (Rp.int .u8)) w0 M0 (.slice pA0_3 p0_3.length pc0_3) p0_3) (hs2 : Sl (Rp.int .u8) w0 M0 (.slice pA2 p2.length pc2) p2) {r : (List Int) × Int × Int × (List (Int × Int))} (h : charabancref19_Load_44.f K p0_0 p0_1 p0_2 p0_3 p1 p2 = some r) :
    Calls Try.prog 44 #[.agg #[.slice pA0_0 p0_0.length pc0_0, .int .i64 p0_1, .int .i64 p0_2, .slice pA0_3 p0_3.length pc0_3], .int .i64 p1, .slice pA2 p2.length pc2] w0 (charabancref19_Load_44.post M0 w0 r) := by
  unfold charabancref19_Load_44.f at h
  have h0 : Holds M0 w0 w0 [] := Holds.start ho
  have h00_0 := h0.addSl (Rp.int .u8) (.slice pA0_0 p0_0.length pc0_0) p0_0 (hs0_0.mono (fun _ _ hm => hm.elim id (fun hm => absurd hm (by simp [mines, sl]))))
  have h00_3 := h00_0.addSl (Rp.pair (Rp.int .i64) (Rp.int .u8)) (.slice pA0_3 p0_3.length pc0_3) p0_3 (hs0_3.mono (fun _ _ hm => hm.elim id (fun hm => absurd hm (by simp [mines, sl]))))
  have h02 := h00_3.addSl (Rp.int .u8) (.slice pA2 p2.length pc2) p2 (hs2.mono (fun _ _ hm => hm.elim id (fun hm => absurd hm (by simp [mines, sl]))))
  have h0 : Holds M0 w0 w0 [sl (Rp.int .u8) (.slice pA0_0 p0_0.length pc0_0) p0_0, sl (Rp.pair (Rp.int .i64) (Rp.int .u8)) (.slice pA0_3 p0_3.length pc0_3) p0_3, sl (Rp.int .u8) (.slice pA2 p2.length pc2) p2] := h02
  refine calls_of F44 rfl [.agg #[.slice pA0_0 p0_0.length pc0_0, .int .i64 p0_1, .int .i64 p0_2, .slice pA0_3 p0_3.length pc0_3], .int .i64 p1, .slice pA2 p2.length pc2] (by kernel_rfl) ?_
  refine RunsI.go 1 [.c 1, .c 2] (by kernel_rfl) ?_
  refine RunsI.region (by kernel_rfl) ?_
  refine RegI.op (by kernel_rfl) (OpE.box 3 60 [.slice pA0_0 p0_0.length pc0_0, .int .i64 p0_1, .int .i64 p0_2, .slice pA0_3 p0_3.length pc0_3] h0 (by kernel_rfl) (by kernel_rfl) ?_)
  intro w1 b2 h3 hb4
  refine RegI.op (by kernel_rfl) (OpE.box 6 60 [.slice none 0 0, .int .i64 0, .int .i64 0, .slice none 0 0] h3 (by kernel_rfl) (by kernel_rfl) ?_)
  intro w5 b6 h7 hb8
  refine RegI.done (by kernel_rfl) ?_
  refine RunsI.go 2 [.c 4, .c 5, .c 17] (by kernel_rfl) ?_
  refine RunsI.region (by kernel_rfl) ?_
  refine RegI.pure 1 [1, 2, 3, 6, 7] [(1, .int .i64 p1), (2, .slice pA2 p2.length pc2), (3, .pointer (some ⟨b2, 0, none⟩)), (6, .pointer (some ⟨b6, 0, none⟩)), (7, .int .i64 0)] (by kernel_rfl) ?_
  refine RegI.done (by kernel_rfl) ?_
  refine RunsI.go 2 [.c 7, .lp 7, .blk 0, .c 17] (by kernel_rfl) ?_
  obtain ⟨x71, hx72, h⟩ := of_bind h
  refine RunsI.only [1, 2, 3, 6, 7] [(1, .int .i64 p1), (2, .slice pA2 p2.length pc2), (3, .pointer (some ⟨b2, 0, none⟩)), (6, .pointer (some ⟨b6, 0, none⟩)), (7, .int .i64 0)] (by kernel_rfl) (by kernel_rfl) ?_
  refine charabancref19_Load_44.l0_ok K M0 w0 pA0_0 pc0_0 pA0_3 pc0_3 pA2 pc2 p0_0 p0_1 p0_2 p0_3 p1 p2 b2 b6 _ x71 ?_ K p0_0 p0_1 p0_2 p0_3 0 pA0_0 pc0_0 pA0_3 pc0_3 w5 hx72 (h7.pick [2, 3, 0, 1, 4] (by decide))
  · intro t75 t76 t77 t80 A73 c74 A78 c79 w82 hq86 h81
    (try rw [hq86] at h)
    dsimp only at h
    refine RunsI.go 1 [.c 18, .c 19] (by kernel_rfl) ?_
    refine RunsI.region (by kernel_rfl) ?_
    refine RegI.op (by kernel_rfl) (OpE.loadBox 23 0 60 b2 0 (.agg #[.slice A73 t75.length c74, .int .i64 t76, .int .i64 t77, .slice A78 t80.length c79]) h81 (by kernel_rfl) (by kernel_rfl) rfl (by kernel_rfl) ?_)
    refine RegI.op (by kernel_rfl) (OpE.storeBox 3 60 b6 0 (.agg #[.slice A73 t75.length c74, .int .i64 t76, .int .i64 t77, .slice A78 t80.length c79]) [.slice A73 t75.length c74, .int .i64 t76, .int .i64 t77, .slice A78 t80.length c79] h81 (by kernel_rfl) (by kernel_rfl) rfl (by kernel_rfl) (by kernel_rfl) (by kernel_rfl) ?_)
    intro w83 h84 hk85
    refine RegI.done (by kernel_rfl) ?_
    refine RunsI.retW [.cell 6 60] [.agg #[.slice A73 t75.length c74, .int .i64 t76, .int .i64 t77, .slice A78 t80.length c79]] (.agg #[.slice A73 t75.length c74, .int .i64 t76, .int .i64 t77, .slice A78 t80.length c79]) (by kernel_rfl) (by kernel_rfl) (ResAt.box 3 60 b6 0 h84 (by kernel_rfl) (by kernel_rfl) rfl (by kernel_rfl) rfl) (by kernel_rfl) ?_
    obtain rfl := Option.some.inj h
    exact ⟨A73, c74, A78, c79, rfl, h84.pick [1, 2] (by decide)⟩
end
end Go.Proofs.Ytngcadmhnbpgjaa.Banks
