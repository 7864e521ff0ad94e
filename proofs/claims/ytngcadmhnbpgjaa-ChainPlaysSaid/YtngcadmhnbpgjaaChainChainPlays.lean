/- The statement's function ChainPlays as a plain Lean function; written by wip/eng.py. -/
import Derived.Test.YtngcadmhnbpgjaaChain
set_option linter.unusedVariables false
set_option linter.unusedSimpArgs false
set_option maxHeartbeats 4000000
namespace Go.Proofs.Ytngcadmhnbpgjaa.Chain
open Go.RowKit Go.Eng
noncomputable def B4 : Code := (Try.f4.body).getD .skip
noncomputable def F4 : Fun Try.prog := ⟨4, Try.f4, B4, 99, Try.func4, by kernel_rfl, by kernel_rfl⟩

/-! ### charabanc/charabanclaw26.ChainPlays (function 4) -/
section
def charabanclaw26_ChainPlays_4.post (M0 : Nat → Prop) (w0 : World) (r : Bool) : Ending → World → Prop := fun e w => e = .returned (.bool r) ∧ Below w0.heap.size w0 w
def charabanclaw26_ChainPlays_4.l0 (K : Nat) (p0 : List (Bool × Bool)) (p1 : List Int) (p2 : List Int) (t54 : List (Bool × Bool)) (t57 : List Int) (t60 : List (Bool × Bool)) (t63 : List Int) : Nat → Int → Int → Option (Lp Unit Unit)
  | 0, _, _ => none
  | k + 1, t64, t65 => cond (decide (t65 < (p2.length : Int))) (cond (inR t65 p2.length) ((chain_Snoop_24.f K t64 (rdD p2 t65)).bind fun yt77 => (charabancref26_Snoop_25.f K t64 (rdD p2 t65)).bind fun yt88 => Let (fun (t91 : Bool) => cond t91 (some (Lp.ret ())) (charabanclaw26_ChainPlays_4.l0 K p0 p1 p2 t54 t57 t60 t63 k yt77.1 (IntKind.wrap .i64 (t65 + 1)))) (fun j94 => cond (yt77.1 != yt88.1) (j94 true) (j94 (yt77.2 != yt88.2)))) none) (some (Lp.go ()))
set_option maxRecDepth 100000 in
theorem charabanclaw26_ChainPlays_4.l0_ok (K : Nat) (M0 : Nat → Prop) (w0 : World) (pA0 : Option Addr) (pc0 : Nat) (pA1 : Option Addr) (pc1 : Nat) (pA2 : Option Addr) (pc2 : Nat) (p0 : List (Bool × Bool)) (p1 : List Int) (p2 : List Int) (t54 : List (Bool × Bool)) (t57 : List Int) (t60 : List (Bool × Bool)) (t63 : List Int) (A52 : Option Addr) (c53 : Nat) (A55 : Option Addr) (c56 : Nat) (A58 : Option Addr) (c59 : Nat) (A61 : Option Addr) (c62 : Nat) (R : Ending → World → Prop) (x : Lp Unit Unit) (hk0 : ∀ (w1 : World), x = Lp.go () → Holds M0 w0 w1 [sl (Rp.int .u8) (.slice pA2 p2.length pc2) p2, own (Rp.pair Rp.bool Rp.bool) 49 (.slice A52 t54.length c53) t54, own (Rp.int .i64) 3 (.slice A55 t57.length c56) t57, sl (Rp.pair Rp.bool Rp.bool) (.slice A58 t60.length c59) t60, own (Rp.int .i64) 3 (.slice A61 t63.length c62) t63] → RunsI F4 [.c 53] [(2, .slice pA2 p2.length pc2), (8, .slice A52 t54.length c53), (9, .slice A55 t57.length c56), (10, .slice A58 t60.length c59), (11, .slice A61 t63.length c62)] w1 R) (hk1 : ∀ (w1 : World), x = Lp.ret () → Holds M0 w0 w1 [] → R (.returned (.bool false)) w1) :
    ∀ (k : Nat) (t64 : Int) (t65 : Int) (w : World), charabanclaw26_ChainPlays_4.l0 K p0 p1 p2 t54 t57 t60 t63 k t64 t65 = some x → Holds M0 w0 w [sl (Rp.int .u8) (.slice pA2 p2.length pc2) p2, own (Rp.pair Rp.bool Rp.bool) 49 (.slice A52 t54.length c53) t54, own (Rp.int .i64) 3 (.slice A55 t57.length c56) t57, sl (Rp.pair Rp.bool Rp.bool) (.slice A58 t60.length c59) t60, own (Rp.int .i64) 3 (.slice A61 t63.length c62) t63] → RunsI F4 [.c 31, .lp 31, .blk 0, .c 53] [(2, .slice pA2 p2.length pc2), (8, .slice A52 t54.length c53), (9, .slice A55 t57.length c56), (10, .slice A58 t60.length c59), (11, .slice A61 t63.length c62), (12, .int .i64 t64), (13, .int .i64 t65)] w R := by
  intro k
  induction k with
  | zero => intro t64 t65 w h hH; exact absurd h (by simp [charabanclaw26_ChainPlays_4.l0])
  | succ k ih =>
    intro t64 t65 w h hH
    rw [charabanclaw26_ChainPlays_4.l0.eq_2] at h
    refine RunsI.go 1 [.c 32, .c 37, .lp 31, .blk 0, .c 53] (by kernel_rfl) ?_
    refine RunsI.go 1 [.c 33, .c 34, .c 37, .lp 31, .blk 0, .c 53] (by kernel_rfl) ?_
    refine RunsI.region (by kernel_rfl) ?_
    refine RegI.pure 4 [2, 8, 9, 10, 11, 12, 13, 53] [(2, .slice pA2 p2.length pc2), (8, .slice A52 t54.length c53), (9, .slice A55 t57.length c56), (10, .slice A58 t60.length c59), (11, .slice A61 t63.length c62), (12, .int .i64 t64), (13, .int .i64 t65), (53, .bool (decide (t65 < (p2.length : Int))))] (by kernel_rfl) ?_
    refine RegI.done (by kernel_rfl) ?_
    rcases of_cond h with ⟨hc66, h⟩ | ⟨hc66, h⟩
    · skip
      refine RunsI.fix 53 true hc66 (by kernel_rfl) (by kernel_rfl) ?_
      refine RunsI.cond true 35 (by kernel_rfl) ?_
      refine RunsI.go 1 [.c 37, .lp 31, .blk 0, .c 53] (by kernel_rfl) ?_
      refine RunsI.go 3 [.c 40, .c 41, .blk 1, .c 52, .lp 31, .blk 0, .c 53] (by kernel_rfl) ?_
      refine RunsI.region (by kernel_rfl) ?_
      refine RegI.pure 3 [2, 8, 9, 10, 11, 12, 13, 57, 58, 59] [(2, .slice pA2 p2.length pc2), (8, .slice A52 t54.length c53), (9, .slice A55 t57.length c56), (10, .slice A58 t60.length c59), (11, .slice A61 t63.length c62), (12, .int .i64 t64), (13, .int .i64 t65), (57, .int .i64 t64), (58, .slice pA2 p2.length pc2), (59, .int .i64 t65)] (by kernel_rfl) ?_
      obtain ⟨hc67, h⟩ := of_cond0 h
      refine RegI.op (by kernel_rfl) (OpE.idxSl 60 0 38 t65 hH (by kernel_rfl) rfl (by kernel_rfl) (by kernel_rfl) hc67 ?_)
      intro b68 o69 cs70 hk71 h72
      obtain rfl := hk71
      refine RegI.op (by kernel_rfl) (OpE.loadCel 61 5 5 b68 o69 0 (.int .u8 (rdD p2 t65)) h72 (by kernel_rfl) (by kernel_rfl) rfl (by kernel_rfl) ?_)
      obtain ⟨⟨t77, t78⟩, hg76, h⟩ := of_bind h
      dsimp only at h
      refine RegI.op (by kernel_rfl) (OpE.call 62 (by kernel_rfl) 24 #[.int .i64 t64, .int .u8 (rdD p2 t65)] (by kernel_rfl) ((chain_Snoop_24_ok K _ w  t64 (rdD p2 t65) h72.old' hg76).mono ?_))
      rintro _ w73 ⟨rfl, hb74⟩
      refine ⟨_, rfl, ?_⟩
      have h75 := h72.call hb74
      refine RegI.pure 5 [2, 8, 9, 10, 11, 12, 13, 14, 15] [(2, .slice pA2 p2.length pc2), (8, .slice A52 t54.length c53), (9, .slice A55 t57.length c56), (10, .slice A58 t60.length c59), (11, .slice A61 t63.length c62), (12, .int .i64 t64), (13, .int .i64 t65), (14, .int .i64 t77), (15, .bool t78)] (by kernel_rfl) ?_
      refine RegI.done (by kernel_rfl) ?_
      refine RunsI.go 1 [.c 42, .c 43, .blk 1, .c 52, .lp 31, .blk 0, .c 53] (by kernel_rfl) ?_
      refine RunsI.region (by kernel_rfl) ?_
      refine RegI.pure 3 [2, 8, 9, 10, 11, 13, 14, 15, 66, 67, 68] [(2, .slice pA2 p2.length pc2), (8, .slice A52 t54.length c53), (9, .slice A55 t57.length c56), (10, .slice A58 t60.length c59), (11, .slice A61 t63.length c62), (13, .int .i64 t65), (14, .int .i64 t77), (15, .bool t78), (66, .int .i64 t64), (67, .slice pA2 p2.length pc2), (68, .int .i64 t65)] (by kernel_rfl) ?_
      refine RegI.op (by kernel_rfl) (OpE.idxSl 69 0 38 t65 h75 (by kernel_rfl) rfl (by kernel_rfl) (by kernel_rfl) hc67 ?_)
      intro b79 o80 cs81 hk82 h83
      obtain rfl := hk82
      refine RegI.op (by kernel_rfl) (OpE.loadCel 70 6 5 b79 o80 0 (.int .u8 (rdD p2 t65)) h83 (by kernel_rfl) (by kernel_rfl) rfl (by kernel_rfl) ?_)
      obtain ⟨⟨t88, t89⟩, hg87, h⟩ := of_bind h
      dsimp only at h
      refine RegI.op (by kernel_rfl) (OpE.call 71 (by kernel_rfl) 25 #[.int .i64 t64, .int .u8 (rdD p2 t65)] (by kernel_rfl) ((charabancref26_Snoop_25_ok K _ w73  t64 (rdD p2 t65) h83.old' hg87).mono ?_))
      rintro _ w84 ⟨rfl, hb85⟩
      refine ⟨_, rfl, ?_⟩
      have h86 := h83.call hb85
      refine RegI.pure 5 [2, 8, 9, 10, 11, 13, 14, 15, 16, 17] [(2, .slice pA2 p2.length pc2), (8, .slice A52 t54.length c53), (9, .slice A55 t57.length c56), (10, .slice A58 t60.length c59), (11, .slice A61 t63.length c62), (13, .int .i64 t65), (14, .int .i64 t77), (15, .bool t78), (16, .int .i64 t88), (17, .bool t89)] (by kernel_rfl) ?_
      refine RegI.done (by kernel_rfl) ?_
      refine RunsI.go 2 [.c 45, .c 46, .c 51, .blk 1, .c 52, .lp 31, .blk 0, .c 53] (by kernel_rfl) ?_
      refine RunsI.region (by kernel_rfl) ?_
      refine RegI.pure 4 [2, 8, 9, 10, 11, 13, 14, 15, 17, 77] [(2, .slice pA2 p2.length pc2), (8, .slice A52 t54.length c53), (9, .slice A55 t57.length c56), (10, .slice A58 t60.length c59), (11, .slice A61 t63.length c62), (13, .int .i64 t65), (14, .int .i64 t77), (15, .bool t78), (17, .bool t89), (77, .bool (t77 != t88))] (by kernel_rfl) ?_
      obtain ⟨j94, hJ95, h⟩ := of_let h
      have hj96 : ∀ (t91 : Bool) (w93 : World), j94 t91 = some x → Holds M0 w0 w93 [sl (Rp.int .u8) (.slice pA2 p2.length pc2) p2, own (Rp.pair Rp.bool Rp.bool) 49 (.slice A52 t54.length c53) t54, own (Rp.int .i64) 3 (.slice A55 t57.length c56) t57, sl (Rp.pair Rp.bool Rp.bool) (.slice A58 t60.length c59) t60, own (Rp.int .i64) 3 (.slice A61 t63.length c62) t63] → RegI F4 45 [.c 46, .c 51, .blk 1, .c 52, .lp 31, .blk 0, .c 53] 8 [(2, .slice pA2 p2.length pc2), (8, .slice A52 t54.length c53), (9, .slice A55 t57.length c56), (10, .slice A58 t60.length c59), (11, .slice A61 t63.length c62), (13, .int .i64 t65), (14, .int .i64 t77), (81, .bool t91)] w93 R := by
        intro t91 w93 h h92
        rw [hJ95] at h
        clear hJ95
        dsimp only at h
        refine RegI.done (by kernel_rfl) ?_
        rcases of_cond h with ⟨hc97, h⟩ | ⟨hc97, h⟩
        · skip
          refine RunsI.fix 81 true hc97 (by kernel_rfl) (by kernel_rfl) ?_
          refine RunsI.cond true 47 (by kernel_rfl) ?_
          refine RunsI.go 1 [.c 48, .c 49, .c 51, .blk 1, .c 52, .lp 31, .blk 0, .c 53] (by kernel_rfl) ?_
          refine RunsI.region (by kernel_rfl) ?_
          refine RegI.pure 1 [6] [(6, .bool false)] (by kernel_rfl) ?_
          refine RegI.done (by kernel_rfl) ?_
          refine RunsI.ret (.bool false) (by kernel_rfl) (by kernel_rfl) ?_
          exact hk1 w93 (Option.some.inj h).symm (h92.pick [] (by decide))
        · skip
          refine RunsI.fix 81 false hc97 (by kernel_rfl) (by kernel_rfl) ?_
          refine RunsI.cond false 50 (by kernel_rfl) ?_
          refine RunsI.go 1 [.c 51, .blk 1, .c 52, .lp 31, .blk 0, .c 53] (by kernel_rfl) ?_
          refine RunsI.region (by kernel_rfl) ?_
          refine RegI.pure 2 [2, 8, 9, 10, 11, 12, 13] [(2, .slice pA2 p2.length pc2), (8, .slice A52 t54.length c53), (9, .slice A55 t57.length c56), (10, .slice A58 t60.length c59), (11, .slice A61 t63.length c62), (12, .int .i64 t77), (13, .int .i64 t65)] (by kernel_rfl) ?_
          refine RegI.done (by kernel_rfl) ?_
          refine RunsI.go 1 [.c 52, .lp 31, .blk 0, .c 53] (by kernel_rfl) ?_
          refine RunsI.region (by kernel_rfl) ?_
          refine RegI.pure 3 [2, 8, 9, 10, 11, 12, 13] [(2, .slice pA2 p2.length pc2), (8, .slice A52 t54.length c53), (9, .slice A55 t57.length c56), (10, .slice A58 t60.length c59), (11, .slice A61 t63.length c62), (12, .int .i64 t77), (13, .int .i64 (IntKind.wrap .i64 (t65 + 1)))] (by kernel_rfl) ?_
          refine RegI.done (by kernel_rfl) ?_
          refine RunsI.go 1 [.c 31, .lp 31, .blk 0, .c 53] (by kernel_rfl) ?_
          refine RunsI.only [2, 8, 9, 10, 11, 12, 13] [(2, .slice pA2 p2.length pc2), (8, .slice A52 t54.length c53), (9, .slice A55 t57.length c56), (10, .slice A58 t60.length c59), (11, .slice A61 t63.length c62), (12, .int .i64 t77), (13, .int .i64 (IntKind.wrap .i64 (t65 + 1)))] (by kernel_rfl) (by kernel_rfl) ?_
          exact ih t77 (IntKind.wrap .i64 (t65 + 1)) w93 h (h92.pick [0, 1, 2, 3, 4] (by decide))
      clear hJ95
      rcases of_cond h with ⟨hc90, h⟩ | ⟨hc90, h⟩
      · skip
        refine RegI.fix 77 true hc90 (by kernel_rfl) (by kernel_rfl) ?_
        refine RegI.pure 4 [2, 8, 9, 10, 11, 13, 14, 78, 79, 80, 81] [(2, .slice pA2 p2.length pc2), (8, .slice A52 t54.length c53), (9, .slice A55 t57.length c56), (10, .slice A58 t60.length c59), (11, .slice A61 t63.length c62), (13, .int .i64 t65), (14, .int .i64 t77), (78, undef), (79, undef), (80, undef), (81, .bool true)] (by kernel_rfl) ?_
        refine RegI.only [2, 8, 9, 10, 11, 13, 14, 81] [(2, .slice pA2 p2.length pc2), (8, .slice A52 t54.length c53), (9, .slice A55 t57.length c56), (10, .slice A58 t60.length c59), (11, .slice A61 t63.length c62), (13, .int .i64 t65), (14, .int .i64 t77), (81, .bool true)] (by kernel_rfl) (by kernel_rfl) ?_
        exact hj96 true w84 h (h86.pick [0, 1, 2, 3, 4] (by decide))
      · skip
        refine RegI.fix 77 false hc90 (by kernel_rfl) (by kernel_rfl) ?_
        refine RegI.pure 4 [2, 8, 9, 10, 11, 13, 14, 78, 79, 80, 81] [(2, .slice pA2 p2.length pc2), (8, .slice A52 t54.length c53), (9, .slice A55 t57.length c56), (10, .slice A58 t60.length c59), (11, .slice A61 t63.length c62), (13, .int .i64 t65), (14, .int .i64 t77), (78, .bool t78), (79, .bool t89), (80, .bool (t78 != t89)), (81, .bool (t78 != t89))] (by kernel_rfl) ?_
        refine RegI.only [2, 8, 9, 10, 11, 13, 14, 81] [(2, .slice pA2 p2.length pc2), (8, .slice A52 t54.length c53), (9, .slice A55 t57.length c56), (10, .slice A58 t60.length c59), (11, .slice A61 t63.length c62), (13, .int .i64 t65), (14, .int .i64 t77), (81, .bool (t78 != t89))] (by kernel_rfl) (by kernel_rfl) ?_
        exact hj96 (t78 != t89) w84 h (h86.pick [0, 1, 2, 3, 4] (by decide))
    · skip
      refine RunsI.fix 53 false hc66 (by kernel_rfl) (by kernel_rfl) ?_
      refine RunsI.cond false 36 (by kernel_rfl) ?_
      refine RunsI.go 1 [.c 53] (by kernel_rfl) ?_
      refine RunsI.only [2, 8, 9, 10, 11] [(2, .slice pA2 p2.length pc2), (8, .slice A52 t54.length c53), (9, .slice A55 t57.length c56), (10, .slice A58 t60.length c59), (11, .slice A61 t63.length c62)] (by kernel_rfl) (by kernel_rfl) ?_
      exact hk0 w (Option.some.inj h).symm (hH.pick [0, 1, 2, 3, 4] (by decide))
def charabanclaw26_ChainPlays_4.f (K : Nat) (p0 : List (Bool × Bool)) (p1 : List Int) (p2 : List Int) : Option Bool := (charabanclaw26_awake_11.f K).bind fun t5 => cond (!t5) (some false) (Let (fun (t9 : Bool) => cond t9 (some true) ((chain_Play_22.f K p0 p1).bind fun yt20 => (charabanclaw26_plain_14.f K p0).bind fun t33 => (charabancref26_Play_23.f K t33 p1).bind fun yt43 => (charabanclaw26_ChainPlays_4.l0 K p0 p1 p2 yt20.1 yt20.2 yt43.1 yt43.2 K (Int.tmod (p1.length : Int) 4) 0).bind (fun x98 => Lp.elim x98 (fun _ => some false) (fun _ => (charabanclaw26_plain_14.f K yt20.1).bind fun t108 => (charabancref26_Same_21.f K t108 yt43.1).bind fun t117 => cond t117 ((charabancref26_Ints_26.f K yt20.2 yt43.2).bind fun t123 => cond t123 ((chain_Count_27.f K p2).bind fun t129 => (charabancref26_Count_28.f K p2).bind fun t134 => some (t129 == t134)) (some false)) (some false))))) (fun j12 => cond (decide ((p0.length : Int) > 20)) (j12 true) (cond (decide ((p1.length : Int) > 100)) (j12 true) (j12 (decide ((p2.length : Int) > 300))))))
set_option maxRecDepth 100000 in
theorem charabanclaw26_ChainPlays_4_ok (K : Nat) (M0 : Nat → Prop) (w0 : World) (pA0 : Option Addr) (pc0 : Nat) (pA1 : Option Addr) (pc1 : Nat) (pA2 : Option Addr) (pc2 : Nat) (p0 : List (Bool × Bool)) (p1 : List Int) (p2 : List Int) (ho : ∀ b, M0 b → b < w0.heap.size) (hs0 : Sl (Rp.pair Rp.bool Rp.bool) w0 M0 (.slice pA0 p0.length pc0) p0) (hs1 : Sl (Rp.int .i64) w0 M0 (.slice pA1 p1.length pc1) p1) (hs2 : Sl (Rp.int .u8) w0 M0 (.slice pA2 p2.length pc2) p2) {r : Bool} (h : charabanclaw26_ChainPlays_4.f K p0 p1 p2 = some r) :
    Calls Try.prog 4 #[.slice pA0 p0.length pc0, .slice pA1 p1.length pc1, .slice pA2 p2.length pc2] w0 (charabanclaw26_ChainPlays_4.post M0 w0 r) := by
  unfold charabanclaw26_ChainPlays_4.f at h
  have h0 : Holds M0 w0 w0 [] := Holds.start ho
  have h00 := h0.addSl (Rp.pair Rp.bool Rp.bool) (.slice pA0 p0.length pc0) p0 (hs0.mono (fun _ _ hm => hm.elim id (fun hm => absurd hm (by simp [mines, sl]))))
  have h01 := h00.addSl (Rp.int .i64) (.slice pA1 p1.length pc1) p1 (hs1.mono (fun _ _ hm => hm.elim id (fun hm => absurd hm (by simp [mines, sl]))))
  have h02 := h01.addSl (Rp.int .u8) (.slice pA2 p2.length pc2) p2 (hs2.mono (fun _ _ hm => hm.elim id (fun hm => absurd hm (by simp [mines, sl]))))
  have h0 : Holds M0 w0 w0 [sl (Rp.pair Rp.bool Rp.bool) (.slice pA0 p0.length pc0) p0, sl (Rp.int .i64) (.slice pA1 p1.length pc1) p1, sl (Rp.int .u8) (.slice pA2 p2.length pc2) p2] := h02
  refine calls_of F4 rfl [.slice pA0 p0.length pc0, .slice pA1 p1.length pc1, .slice pA2 p2.length pc2] (by kernel_rfl) ?_
  refine RunsI.go 1 [.c 1, .c 2] (by kernel_rfl) ?_
  refine RunsI.region (by kernel_rfl) ?_
  refine RegI.pure 1 [0, 1, 2] [(0, .slice pA0 p0.length pc0), (1, .slice pA1 p1.length pc1), (2, .slice pA2 p2.length pc2)] (by kernel_rfl) ?_
  refine RegI.done (by kernel_rfl) ?_
  refine RunsI.go 1 [.c 3, .c 4] (by kernel_rfl) ?_
  refine RunsI.region (by kernel_rfl) ?_
  obtain ⟨t5, hg4, h⟩ := of_bind h
  refine RegI.op (by kernel_rfl) (OpE.call 18 (by kernel_rfl) 11 #[] (by kernel_rfl) ((charabanclaw26_awake_11_ok K _ w0  h0.old' hg4).mono ?_))
  rintro _ w1 ⟨rfl, hb2⟩
  refine ⟨_, rfl, ?_⟩
  have h3 := h0.call hb2
  refine RegI.pure 1 [0, 1, 2, 7] [(0, .slice pA0 p0.length pc0), (1, .slice pA1 p1.length pc1), (2, .slice pA2 p2.length pc2), (7, .bool t5)] (by kernel_rfl) ?_
  refine RegI.done (by kernel_rfl) ?_
  refine RunsI.go 2 [.c 6, .c 7, .c 12] (by kernel_rfl) ?_
  refine RunsI.region (by kernel_rfl) ?_
  refine RegI.pure 2 [0, 1, 2, 20] [(0, .slice pA0 p0.length pc0), (1, .slice pA1 p1.length pc1), (2, .slice pA2 p2.length pc2), (20, .bool (!t5))] (by kernel_rfl) ?_
  refine RegI.done (by kernel_rfl) ?_
  rcases of_cond h with ⟨hc6, h⟩ | ⟨hc6, h⟩
  · skip
    refine RunsI.fix 20 true hc6 (by kernel_rfl) (by kernel_rfl) ?_
    refine RunsI.cond true 8 (by kernel_rfl) ?_
    refine RunsI.go 1 [.c 9, .c 10, .c 12] (by kernel_rfl) ?_
    refine RunsI.region (by kernel_rfl) ?_
    refine RegI.pure 1 [6] [(6, .bool false)] (by kernel_rfl) ?_
    refine RegI.done (by kernel_rfl) ?_
    refine RunsI.ret (.bool false) (by kernel_rfl) (by kernel_rfl) ?_
    obtain rfl := Option.some.inj h
    exact ⟨rfl, h3.below⟩
  · skip
    refine RunsI.fix 20 false hc6 (by kernel_rfl) (by kernel_rfl) ?_
    refine RunsI.cond false 11 (by kernel_rfl) ?_
    refine RunsI.go 1 [.c 12] (by kernel_rfl) ?_
    refine RunsI.go 2 [.c 14, .c 15, .c 20] (by kernel_rfl) ?_
    refine RunsI.region (by kernel_rfl) ?_
    refine RegI.pure 4 [0, 1, 2, 24] [(0, .slice pA0 p0.length pc0), (1, .slice pA1 p1.length pc1), (2, .slice pA2 p2.length pc2), (24, .bool (decide ((p0.length : Int) > 20)))] (by kernel_rfl) ?_
    obtain ⟨j12, hJ13, h⟩ := of_let h
    have hj14 : ∀ (t9 : Bool) (w11 : World), j12 t9 = some r → Holds M0 w0 w11 [sl (Rp.pair Rp.bool Rp.bool) (.slice pA0 p0.length pc0) p0, sl (Rp.int .i64) (.slice pA1 p1.length pc1) p1, sl (Rp.int .u8) (.slice pA2 p2.length pc2) p2] → RegI F4 14 [.c 15, .c 20] 13 [(0, .slice pA0 p0.length pc0), (1, .slice pA1 p1.length pc1), (2, .slice pA2 p2.length pc2), (33, .bool t9)] w11 (charabanclaw26_ChainPlays_4.post M0 w0 r) := by
      intro t9 w11 h h10
      rw [hJ13] at h
      clear hJ13
      dsimp only at h
      refine RegI.done (by kernel_rfl) ?_
      rcases of_cond h with ⟨hc15, h⟩ | ⟨hc15, h⟩
      · skip
        refine RunsI.fix 33 true hc15 (by kernel_rfl) (by kernel_rfl) ?_
        refine RunsI.cond true 16 (by kernel_rfl) ?_
        refine RunsI.go 1 [.c 17, .c 18, .c 20] (by kernel_rfl) ?_
        refine RunsI.region (by kernel_rfl) ?_
        refine RegI.pure 1 [6] [(6, .bool true)] (by kernel_rfl) ?_
        refine RegI.done (by kernel_rfl) ?_
        refine RunsI.ret (.bool true) (by kernel_rfl) (by kernel_rfl) ?_
        obtain rfl := Option.some.inj h
        exact ⟨rfl, h10.below⟩
      · skip
        refine RunsI.fix 33 false hc15 (by kernel_rfl) (by kernel_rfl) ?_
        refine RunsI.cond false 19 (by kernel_rfl) ?_
        refine RunsI.go 1 [.c 20] (by kernel_rfl) ?_
        refine RunsI.go 1 [.c 21, .c 22] (by kernel_rfl) ?_
        refine RunsI.region (by kernel_rfl) ?_
        refine RegI.pure 2 [0, 1, 2, 35, 36] [(0, .slice pA0 p0.length pc0), (1, .slice pA1 p1.length pc1), (2, .slice pA2 p2.length pc2), (35, .slice pA0 p0.length pc0), (36, .slice pA1 p1.length pc1)] (by kernel_rfl) ?_
        obtain ⟨⟨t20, t24⟩, hg19, h⟩ := of_bind h
        dsimp only at h
        refine RegI.op (by kernel_rfl) (OpE.call 37 (by kernel_rfl) 22 #[.slice pA0 p0.length pc0, .slice pA1 p1.length pc1] (by kernel_rfl) ((chain_Play_22_ok K _ w11  pA0 pc0 pA1 pc1 p0 p1 h10.old' (h10.get 0 rfl) (h10.get 1 rfl) hg19).mono ?_))
        rintro _ w16 ⟨A21, c22, A25, c26, rfl, hr28⟩
        refine ⟨_, rfl, ?_⟩
        have hb17 := hr28.below
        have h18 := h10.join hr28
        refine RegI.pure 5 [0, 1, 2, 8, 9] [(0, .slice pA0 p0.length pc0), (1, .slice pA1 p1.length pc1), (2, .slice pA2 p2.length pc2), (8, .slice A21 t20.length c22), (9, .slice A25 t24.length c26)] (by kernel_rfl) ?_
        refine RegI.done (by kernel_rfl) ?_
        refine RunsI.go 1 [.c 23, .c 24] (by kernel_rfl) ?_
        refine RunsI.region (by kernel_rfl) ?_
        refine RegI.pure 1 [1, 2, 8, 9, 41] [(1, .slice pA1 p1.length pc1), (2, .slice pA2 p2.length pc2), (8, .slice A21 t20.length c22), (9, .slice A25 t24.length c26), (41, .slice pA0 p0.length pc0)] (by kernel_rfl) ?_
        obtain ⟨t33, hg32, h⟩ := of_bind h
        refine RegI.op (by kernel_rfl) (OpE.call 42 (by kernel_rfl) 14 #[.slice pA0 p0.length pc0] (by kernel_rfl) ((charabanclaw26_plain_14_ok K _ w16  pA0 pc0 p0 h18.old' (h18.get 0 rfl) hg32).mono ?_))
        rintro _ w29 ⟨A34, c35, rfl, hr37⟩
        refine ⟨_, rfl, ?_⟩
        have hb30 := hr37.below
        have h31 := h18.join hr37
        refine RegI.pure 1 [1, 2, 8, 9, 42, 43] [(1, .slice pA1 p1.length pc1), (2, .slice pA2 p2.length pc2), (8, .slice A21 t20.length c22), (9, .slice A25 t24.length c26), (42, .slice A34 t33.length c35), (43, .slice pA1 p1.length pc1)] (by kernel_rfl) ?_
        obtain ⟨⟨t43, t47⟩, hg42, h⟩ := of_bind h
        dsimp only at h
        have h38 := h31.release 5 rfl
        refine RegI.op (by kernel_rfl) (OpE.call 44 (by kernel_rfl) 23 #[.slice A34 t33.length c35, .slice pA1 p1.length pc1] (by kernel_rfl) ((charabancref26_Play_23_ok K _ w29  A34 c35 pA1 pc1 t33 p1 h38.old' (h38.get 5 rfl) (h38.get 1 rfl) hg42).mono ?_))
        rintro _ w39 ⟨A44, c45, A48, c49, rfl, hr51⟩
        refine ⟨_, rfl, ?_⟩
        have hb40 := hr51.below
        have h41 := h38.join hr51
        refine RegI.pure 5 [1, 2, 8, 9, 10, 11] [(1, .slice pA1 p1.length pc1), (2, .slice pA2 p2.length pc2), (8, .slice A21 t20.length c22), (9, .slice A25 t24.length c26), (10, .slice A44 t43.length c45), (11, .slice A48 t47.length c49)] (by kernel_rfl) ?_
        refine RegI.done (by kernel_rfl) ?_
        refine RunsI.go 1 [.c 25, .c 26] (by kernel_rfl) ?_
        refine RunsI.region (by kernel_rfl) ?_
        refine RegI.pure 4 [2, 8, 9, 10, 11, 12] [(2, .slice pA2 p2.length pc2), (8, .slice A21 t20.length c22), (9, .slice A25 t24.length c26), (10, .slice A44 t43.length c45), (11, .slice A48 t47.length c49), (12, .int .i64 (Int.tmod (p1.length : Int) 4))] (by kernel_rfl) ?_
        refine RegI.done (by kernel_rfl) ?_
        refine RunsI.go 2 [.c 28, .c 29, .c 53] (by kernel_rfl) ?_
        refine RunsI.region (by kernel_rfl) ?_
        refine RegI.pure 1 [2, 8, 9, 10, 11, 12, 13] [(2, .slice pA2 p2.length pc2), (8, .slice A21 t20.length c22), (9, .slice A25 t24.length c26), (10, .slice A44 t43.length c45), (11, .slice A48 t47.length c49), (12, .int .i64 (Int.tmod (p1.length : Int) 4)), (13, .int .i64 0)] (by kernel_rfl) ?_
        refine RegI.done (by kernel_rfl) ?_
        refine RunsI.go 2 [.c 31, .lp 31, .blk 0, .c 53] (by kernel_rfl) ?_
        obtain ⟨x98, hx99, h⟩ := of_bind h
        refine RunsI.only [2, 8, 9, 10, 11, 12, 13] [(2, .slice pA2 p2.length pc2), (8, .slice A21 t20.length c22), (9, .slice A25 t24.length c26), (10, .slice A44 t43.length c45), (11, .slice A48 t47.length c49), (12, .int .i64 (Int.tmod (p1.length : Int) 4)), (13, .int .i64 0)] (by kernel_rfl) (by kernel_rfl) ?_
        refine charabanclaw26_ChainPlays_4.l0_ok K M0 w0 pA0 pc0 pA1 pc1 pA2 pc2 p0 p1 p2 t20 t24 t43 t47 A21 c22 A25 c26 A44 c45 A48 c49 _ x98 ?_ ?_ K (Int.tmod (p1.length : Int) 4) 0 w39 hx99 (h41.pick [2, 3, 4, 6, 7] (by decide))
        · intro w101 hq135 h100
          (try rw [hq135] at h)
          dsimp only [Lp.elim] at h
          refine RunsI.go 1 [.c 54, .c 55] (by kernel_rfl) ?_
          refine RunsI.region (by kernel_rfl) ?_
          refine RegI.pure 1 [2, 9, 10, 11, 83] [(2, .slice pA2 p2.length pc2), (9, .slice A25 t24.length c26), (10, .slice A44 t43.length c45), (11, .slice A48 t47.length c49), (83, .slice A21 t20.length c22)] (by kernel_rfl) ?_
          obtain ⟨t108, hg107, h⟩ := of_bind h
          refine RegI.op (by kernel_rfl) (OpE.call 84 (by kernel_rfl) 14 #[.slice A21 t20.length c22] (by kernel_rfl) ((charabanclaw26_plain_14_ok K (fun _ => False) w101  A21 c22 t20 (fun _ hf => hf.elim) (h100.ownSl 1 rfl) hg107).mono ?_))
          rintro _ w104 ⟨A109, c110, rfl, hr112⟩
          refine ⟨_, rfl, ?_⟩
          have hb105 := hr112.below
          have h106 := h100.join (hr112.anyM ⟨own_flat (fun _ _ _ _ _ h => h), trivial⟩ _ h100.old')
          refine RegI.pure 1 [2, 9, 11, 84, 85] [(2, .slice pA2 p2.length pc2), (9, .slice A25 t24.length c26), (11, .slice A48 t47.length c49), (84, .slice A109 t108.length c110), (85, .slice A44 t43.length c45)] (by kernel_rfl) ?_
          obtain ⟨t117, hg116, h⟩ := of_bind h
          refine RegI.op (by kernel_rfl) (OpE.call 86 (by kernel_rfl) 21 #[.slice A109 t108.length c110, .slice A44 t43.length c45] (by kernel_rfl) ((charabancref26_Same_21_ok K (fun _ => False) w104  A109 c110 A44 c45 t108 t43 (fun _ hf => hf.elim) (h106.ownSl 5 rfl) (h106.slAny 3 rfl) hg116).mono ?_))
          rintro _ w113 ⟨rfl, hb114⟩
          refine ⟨_, rfl, ?_⟩
          have h115 := h106.call hb114
          refine RegI.pure 1 [2, 9, 11, 87] [(2, .slice pA2 p2.length pc2), (9, .slice A25 t24.length c26), (11, .slice A48 t47.length c49), (87, .bool t117)] (by kernel_rfl) ?_
          rcases of_cond h with ⟨hc118, h⟩ | ⟨hc118, h⟩
          · skip
            refine RegI.fix 87 true hc118 (by kernel_rfl) (by kernel_rfl) ?_
            refine RegI.pure 2 [2, 87, 88, 89] [(2, .slice pA2 p2.length pc2), (87, .bool true), (88, .slice A25 t24.length c26), (89, .slice A48 t47.length c49)] (by kernel_rfl) ?_
            obtain ⟨t123, hg122, h⟩ := of_bind h
            refine RegI.op (by kernel_rfl) (OpE.call 90 (by kernel_rfl) 26 #[.slice A25 t24.length c26, .slice A48 t47.length c49] (by kernel_rfl) ((charabancref26_Ints_26_ok K (fun _ => False) w113  A25 c26 A48 c49 t24 t47 (fun _ hf => hf.elim) (h115.ownSl 2 rfl) (h115.ownSl 4 rfl) hg122).mono ?_))
            rintro _ w119 ⟨rfl, hb120⟩
            refine ⟨_, rfl, ?_⟩
            have h121 := h115.call hb120
            refine RegI.pure 2 [2, 92] [(2, .slice pA2 p2.length pc2), (92, .bool t123)] (by kernel_rfl) ?_
            rcases of_cond h with ⟨hc124, h⟩ | ⟨hc124, h⟩
            · skip
              refine RegI.fix 92 true hc124 (by kernel_rfl) (by kernel_rfl) ?_
              refine RegI.pure 1 [2, 92, 93] [(2, .slice pA2 p2.length pc2), (92, .bool true), (93, .slice pA2 p2.length pc2)] (by kernel_rfl) ?_
              obtain ⟨t129, hg128, h⟩ := of_bind h
              refine RegI.op (by kernel_rfl) (OpE.call 94 (by kernel_rfl) 27 #[.slice pA2 p2.length pc2] (by kernel_rfl) ((chain_Count_27_ok K _ w119  pA2 pc2 p2 h121.old' (h121.get 0 rfl) hg128).mono ?_))
              rintro _ w125 ⟨rfl, hb126⟩
              refine ⟨_, rfl, ?_⟩
              have h127 := h121.call hb126
              refine RegI.pure 1 [92, 94, 95] [(92, .bool true), (94, .int .i64 t129), (95, .slice pA2 p2.length pc2)] (by kernel_rfl) ?_
              obtain ⟨t134, hg133, h⟩ := of_bind h
              refine RegI.op (by kernel_rfl) (OpE.call 96 (by kernel_rfl) 28 #[.slice pA2 p2.length pc2] (by kernel_rfl) ((charabancref26_Count_28_ok K _ w125  pA2 pc2 p2 h127.old' (h127.get 0 rfl) hg133).mono ?_))
              rintro _ w130 ⟨rfl, hb131⟩
              refine ⟨_, rfl, ?_⟩
              have h132 := h127.call hb131
              refine RegI.pure 3 [6] [(6, .bool (t129 == t134))] (by kernel_rfl) ?_
              refine RegI.done (by kernel_rfl) ?_
              refine RunsI.ret (.bool (t129 == t134)) (by kernel_rfl) (by kernel_rfl) ?_
              obtain rfl := Option.some.inj h
              exact ⟨rfl, h132.below⟩
            · skip
              refine RegI.fix 92 false hc124 (by kernel_rfl) (by kernel_rfl) ?_
              refine RegI.pure 7 [6] [(6, .bool false)] (by kernel_rfl) ?_
              refine RegI.done (by kernel_rfl) ?_
              refine RunsI.ret (.bool false) (by kernel_rfl) (by kernel_rfl) ?_
              obtain rfl := Option.some.inj h
              exact ⟨rfl, h121.below⟩
          · skip
            refine RegI.fix 87 false hc118 (by kernel_rfl) (by kernel_rfl) ?_
            refine RegI.pure 12 [6] [(6, .bool false)] (by kernel_rfl) ?_
            refine RegI.done (by kernel_rfl) ?_
            refine RunsI.ret (.bool false) (by kernel_rfl) (by kernel_rfl) ?_
            obtain rfl := Option.some.inj h
            exact ⟨rfl, h115.below⟩
        · intro w103 hq136 h102
          (try rw [hq136] at h)
          dsimp only [Lp.elim] at h
          obtain rfl := Option.some.inj h
          exact ⟨rfl, h102.below⟩
    clear hJ13
    rcases of_cond h with ⟨hc7, h⟩ | ⟨hc7, h⟩
    · skip
      refine RegI.fix 24 true hc7 (by kernel_rfl) (by kernel_rfl) ?_
      refine RegI.pure 9 [0, 1, 2, 33] [(0, .slice pA0 p0.length pc0), (1, .slice pA1 p1.length pc1), (2, .slice pA2 p2.length pc2), (33, .bool true)] (by kernel_rfl) ?_
      refine RegI.only [0, 1, 2, 33] [(0, .slice pA0 p0.length pc0), (1, .slice pA1 p1.length pc1), (2, .slice pA2 p2.length pc2), (33, .bool true)] (by kernel_rfl) (by kernel_rfl) ?_
      exact hj14 true w1 h (h3.pick [0, 1, 2] (by decide))
    · skip
      refine RegI.fix 24 false hc7 (by kernel_rfl) (by kernel_rfl) ?_
      refine RegI.pure 5 [0, 1, 2, 29] [(0, .slice pA0 p0.length pc0), (1, .slice pA1 p1.length pc1), (2, .slice pA2 p2.length pc2), (29, .bool (decide ((p1.length : Int) > 100)))] (by kernel_rfl) ?_
      rcases of_cond h with ⟨hc8, h⟩ | ⟨hc8, h⟩
      · skip
        refine RegI.fix 29 true hc8 (by kernel_rfl) (by kernel_rfl) ?_
        refine RegI.pure 4 [0, 1, 2, 33] [(0, .slice pA0 p0.length pc0), (1, .slice pA1 p1.length pc1), (2, .slice pA2 p2.length pc2), (33, .bool true)] (by kernel_rfl) ?_
        refine RegI.only [0, 1, 2, 33] [(0, .slice pA0 p0.length pc0), (1, .slice pA1 p1.length pc1), (2, .slice pA2 p2.length pc2), (33, .bool true)] (by kernel_rfl) (by kernel_rfl) ?_
        exact hj14 true w1 h (h3.pick [0, 1, 2] (by decide))
      · skip
        refine RegI.fix 29 false hc8 (by kernel_rfl) (by kernel_rfl) ?_
        refine RegI.pure 4 [0, 1, 2, 33] [(0, .slice pA0 p0.length pc0), (1, .slice pA1 p1.length pc1), (2, .slice pA2 p2.length pc2), (33, .bool (decide ((p2.length : Int) > 300)))] (by kernel_rfl) ?_
        refine RegI.only [0, 1, 2, 33] [(0, .slice pA0 p0.length pc0), (1, .slice pA1 p1.length pc1), (2, .slice pA2 p2.length pc2), (33, .bool (decide ((p2.length : Int) > 300)))] (by kernel_rfl) (by kernel_rfl) ?_
        exact hj14 (decide ((p2.length : Int) > 300)) w1 h (h3.pick [0, 1, 2] (by decide))
end
end Go.Proofs.Ytngcadmhnbpgjaa.Chain
