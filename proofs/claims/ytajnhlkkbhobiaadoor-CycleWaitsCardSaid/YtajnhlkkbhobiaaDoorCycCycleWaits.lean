/- The statement's function CycleWaits as a plain Lean function; written by wip/eng.py. -/
import Derived.Test.YtajnhlkkbhobiaaDoorCyc2
set_option linter.unusedVariables false
set_option linter.unusedSimpArgs false
set_option maxHeartbeats 4000000
namespace Go.Proofs.YtajnhlkkbhobiaaDoor.Cyc
open Go.RowKit Go.Eng
noncomputable def B5 : Code := (Tryd.f5.body).getD .skip
noncomputable def F5 : Fun Tryd.prog := ⟨5, Tryd.f5, B5, 95, Tryd.func5, by kernel_rfl, by kernel_rfl, [], none⟩

/-! ### charabanc/charabanclaw17.CycleWaits (function 5) -/
section
def charabanclaw17_CycleWaits_5.post (M0 : Nat → Prop) (w0 : World) (r : Bool) : Ending → World → Prop := fun e w => e = .returned (.bool r) ∧ Below w0.heap.size w0 w
def charabanclaw17_CycleWaits_5.l0 (K : Nat) (p0_0 : Int) (p0_1 : Int) (p0_2 : Int) (p0_3 : Int) (p1 : List Bool) (t42 : Int) (t43 : Int) (t44 : Int) : Nat → Int → Option Int
  | 0, _ => none
  | k + 1, t45 => Let (fun (_ : Unit) => some t45) (fun j57 => cond (decide (t44 > 0)) (cond (decide ((IntKind.wrap .i64 ((IntKind.wrap .i64 (t44 - 1)) + t45)) < (p1.length : Int))) (cond (inR (IntKind.wrap .i64 ((IntKind.wrap .i64 (t44 - 1)) + t45)) p1.length) (cond (rdD p1 (IntKind.wrap .i64 ((IntKind.wrap .i64 (t44 - 1)) + t45))) (charabanclaw17_CycleWaits_5.l0 K p0_0 p0_1 p0_2 p0_3 p1 t42 t43 t44 k (IntKind.wrap .i64 (t45 + 1))) (some t45)) none) (j57 ())) (j57 ()))
set_option maxRecDepth 100000 in
theorem charabanclaw17_CycleWaits_5.l0_ok (K : Nat) (M0 : Nat → Prop) (w0 : World) (pA1 : Option Addr) (pc1 : Nat) (p0_0 : Int) (p0_1 : Int) (p0_2 : Int) (p0_3 : Int) (p1 : List Bool) (t42 : Int) (t43 : Int) (t44 : Int) (b41 : Nat) (R : Ending → World → Prop) (x : Int) (hk0 : ∀ (t60 : Int) (w1 : World), x = t60 → Holds M0 w0 w1 [sl Rp.bool (.slice pA1 p1.length pc1) p1, box b41 24 [.int .i64 p0_0, .int .u16 p0_1, .int .u8 p0_2, .int .i64 p0_3], gl 0 (tab_0.flatMap en_0), gl 1 (tab_1.flatMap en_1), gl 2 (tab_2.flatMap en_2)] → RunsI F5 [.c 45] [(1, .slice pA1 p1.length pc1), (2, .pointer (some ⟨b41, 0, none⟩)), (6, .int .i64 t42), (7, .int .i64 t43), (8, .int .i64 t44), (9, .int .i64 t60)] w1 R) :
    ∀ (k : Nat) (t45 : Int) (w : World), charabanclaw17_CycleWaits_5.l0 K p0_0 p0_1 p0_2 p0_3 p1 t42 t43 t44 k t45 = some x → Holds M0 w0 w [sl Rp.bool (.slice pA1 p1.length pc1) p1, box b41 24 [.int .i64 p0_0, .int .u16 p0_1, .int .u8 p0_2, .int .i64 p0_3], gl 0 (tab_0.flatMap en_0), gl 1 (tab_1.flatMap en_1), gl 2 (tab_2.flatMap en_2)] → RunsI F5 [.c 37, .lp 37, .blk 0, .c 45] [(1, .slice pA1 p1.length pc1), (2, .pointer (some ⟨b41, 0, none⟩)), (6, .int .i64 t42), (7, .int .i64 t43), (8, .int .i64 t44), (9, .int .i64 t45)] w R := by
  intro k
  induction k with
  | zero => intro t45 w h hH; exact absurd h (by simp [charabanclaw17_CycleWaits_5.l0])
  | succ k ih =>
    intro t45 w h hH
    rw [charabanclaw17_CycleWaits_5.l0.eq_2] at h
    refine RunsI.go 1 [.c 38, .c 43, .lp 37, .blk 0, .c 45] (by kernel_rfl) ?_
    refine RunsI.go 1 [.c 39, .c 40, .c 43, .lp 37, .blk 0, .c 45] (by kernel_rfl) ?_
    refine RunsI.region (by kernel_rfl) ?_
    refine RegI.pure 3 [1, 2, 6, 7, 8, 9, 43] [(1, .slice pA1 p1.length pc1), (2, .pointer (some ⟨b41, 0, none⟩)), (6, .int .i64 t42), (7, .int .i64 t43), (8, .int .i64 t44), (9, .int .i64 t45), (43, .bool (decide (t44 > 0)))] (by kernel_rfl) ?_
    obtain ⟨j57, hJ58, h⟩ := of_let h
    have hj59 : ∀ (w56 : World), j57 () = some x → Holds M0 w0 w56 [sl Rp.bool (.slice pA1 p1.length pc1) p1, box b41 24 [.int .i64 p0_0, .int .u16 p0_1, .int .u8 p0_2, .int .i64 p0_3], gl 0 (tab_0.flatMap en_0), gl 1 (tab_1.flatMap en_1), gl 2 (tab_2.flatMap en_2)] → RegI F5 39 [.c 40, .c 43, .lp 37, .blk 0, .c 45] 20 [(1, .slice pA1 p1.length pc1), (2, .pointer (some ⟨b41, 0, none⟩)), (6, .int .i64 t42), (7, .int .i64 t43), (8, .int .i64 t44), (9, .int .i64 t45), (60, .bool false)] w56 R := by
      intro w56 h h55
      rw [hJ58] at h
      clear hJ58
      dsimp only at h
      refine RegI.done (by kernel_rfl) ?_
      refine RunsI.cond false 42 (by kernel_rfl) ?_
      refine RunsI.go 1 [.c 45] (by kernel_rfl) ?_
      refine RunsI.only [1, 2, 6, 7, 8, 9] [(1, .slice pA1 p1.length pc1), (2, .pointer (some ⟨b41, 0, none⟩)), (6, .int .i64 t42), (7, .int .i64 t43), (8, .int .i64 t44), (9, .int .i64 t45)] (by kernel_rfl) (by kernel_rfl) ?_
      exact hk0 t45 w56 (Option.some.inj h).symm (h55.pick [0, 1, 2, 3, 4] (by decide))
    clear hJ58
    rcases of_cond h with ⟨hc46, h⟩ | ⟨hc46, h⟩
    · skip
      refine RegI.fix 43 true hc46 (by kernel_rfl) (by kernel_rfl) ?_
      refine RegI.pure 9 [1, 2, 6, 7, 8, 9, 44, 45, 46, 47, 48, 49, 50, 52] [(1, .slice pA1 p1.length pc1), (2, .pointer (some ⟨b41, 0, none⟩)), (6, .int .i64 t42), (7, .int .i64 t43), (8, .int .i64 t44), (9, .int .i64 t45), (44, .int .i64 t44), (45, .int .i64 (IntKind.wrap .i64 (t44 - 1))), (46, .int .i64 t45), (47, .int .i64 (IntKind.wrap .i64 ((IntKind.wrap .i64 (t44 - 1)) + t45))), (48, .slice pA1 p1.length pc1), (49, .int .i64 (p1.length : Int)), (50, .bool (decide ((IntKind.wrap .i64 ((IntKind.wrap .i64 (t44 - 1)) + t45)) < (p1.length : Int)))), (52, .bool (decide ((IntKind.wrap .i64 ((IntKind.wrap .i64 (t44 - 1)) + t45)) < (p1.length : Int))))] (by kernel_rfl) ?_
      rcases of_cond h with ⟨hc47, h⟩ | ⟨hc47, h⟩
      · skip
        refine RegI.fix 52 true hc47 (by kernel_rfl) (by kernel_rfl) ?_
        refine RegI.pure 5 [1, 2, 6, 7, 8, 9, 44, 45, 46, 47, 48, 49, 50, 52, 53, 54, 55, 56, 57] [(1, .slice pA1 p1.length pc1), (2, .pointer (some ⟨b41, 0, none⟩)), (6, .int .i64 t42), (7, .int .i64 t43), (8, .int .i64 t44), (9, .int .i64 t45), (44, .int .i64 t44), (45, .int .i64 (IntKind.wrap .i64 (t44 - 1))), (46, .int .i64 t45), (47, .int .i64 (IntKind.wrap .i64 ((IntKind.wrap .i64 (t44 - 1)) + t45))), (48, .slice pA1 p1.length pc1), (49, .int .i64 (p1.length : Int)), (50, .bool (decide ((IntKind.wrap .i64 ((IntKind.wrap .i64 (t44 - 1)) + t45)) < (p1.length : Int)))), (52, .bool true), (53, .slice pA1 p1.length pc1), (54, .int .i64 t44), (55, .int .i64 (IntKind.wrap .i64 (t44 - 1))), (56, .int .i64 t45), (57, .int .i64 (IntKind.wrap .i64 ((IntKind.wrap .i64 (t44 - 1)) + t45)))] (by kernel_rfl) ?_
        obtain ⟨hc48, h⟩ := of_cond0 h
        refine RegI.op (by kernel_rfl) (OpE.idxSl 58 0 38 (IntKind.wrap .i64 ((IntKind.wrap .i64 (t44 - 1)) + t45)) hH (by kernel_rfl) rfl (by kernel_rfl) (by kernel_rfl) hc48 ?_)
        intro b49 o50 cs51 hk52 h53
        obtain rfl := hk52
        refine RegI.op (by kernel_rfl) (OpE.loadCel 59 5 4 b49 o50 0 (.bool (rdD p1 (IntKind.wrap .i64 ((IntKind.wrap .i64 (t44 - 1)) + t45)))) h53 (by kernel_rfl) (by kernel_rfl) rfl (by kernel_rfl) ?_)
        refine RegI.pure 1 [1, 2, 6, 7, 8, 9, 44, 45, 46, 47, 48, 49, 50, 53, 54, 55, 56, 57, 58, 59, 60] [(1, .slice pA1 p1.length pc1), (2, .pointer (some ⟨b41, 0, none⟩)), (6, .int .i64 t42), (7, .int .i64 t43), (8, .int .i64 t44), (9, .int .i64 t45), (44, .int .i64 t44), (45, .int .i64 (IntKind.wrap .i64 (t44 - 1))), (46, .int .i64 t45), (47, .int .i64 (IntKind.wrap .i64 ((IntKind.wrap .i64 (t44 - 1)) + t45))), (48, .slice pA1 p1.length pc1), (49, .int .i64 (p1.length : Int)), (50, .bool (decide ((IntKind.wrap .i64 ((IntKind.wrap .i64 (t44 - 1)) + t45)) < (p1.length : Int)))), (53, .slice pA1 p1.length pc1), (54, .int .i64 t44), (55, .int .i64 (IntKind.wrap .i64 (t44 - 1))), (56, .int .i64 t45), (57, .int .i64 (IntKind.wrap .i64 ((IntKind.wrap .i64 (t44 - 1)) + t45))), (58, .pointer (some ⟨b49, o50, none⟩)), (59, .bool (rdD p1 (IntKind.wrap .i64 ((IntKind.wrap .i64 (t44 - 1)) + t45)))), (60, .bool (rdD p1 (IntKind.wrap .i64 ((IntKind.wrap .i64 (t44 - 1)) + t45))))] (by kernel_rfl) ?_
        refine RegI.done (by kernel_rfl) ?_
        rcases of_cond h with ⟨hc54, h⟩ | ⟨hc54, h⟩
        · skip
          refine RunsI.fix 60 true hc54 (by kernel_rfl) (by kernel_rfl) ?_
          refine RunsI.cond true 41 (by kernel_rfl) ?_
          refine RunsI.go 1 [.c 43, .lp 37, .blk 0, .c 45] (by kernel_rfl) ?_
          refine RunsI.go 1 [.c 44, .blk 1, .lp 37, .blk 0, .c 45] (by kernel_rfl) ?_
          refine RunsI.region (by kernel_rfl) ?_
          refine RegI.pure 3 [1, 2, 6, 7, 8, 9, 44, 45, 46, 47, 48, 49, 50, 53, 54, 55, 56, 57, 58, 59] [(1, .slice pA1 p1.length pc1), (2, .pointer (some ⟨b41, 0, none⟩)), (6, .int .i64 t42), (7, .int .i64 t43), (8, .int .i64 t44), (9, .int .i64 (IntKind.wrap .i64 (t45 + 1))), (44, .int .i64 t44), (45, .int .i64 (IntKind.wrap .i64 (t44 - 1))), (46, .int .i64 t45), (47, .int .i64 (IntKind.wrap .i64 ((IntKind.wrap .i64 (t44 - 1)) + t45))), (48, .slice pA1 p1.length pc1), (49, .int .i64 (p1.length : Int)), (50, .bool (decide ((IntKind.wrap .i64 ((IntKind.wrap .i64 (t44 - 1)) + t45)) < (p1.length : Int)))), (53, .slice pA1 p1.length pc1), (54, .int .i64 t44), (55, .int .i64 (IntKind.wrap .i64 (t44 - 1))), (56, .int .i64 t45), (57, .int .i64 (IntKind.wrap .i64 ((IntKind.wrap .i64 (t44 - 1)) + t45))), (58, .pointer (some ⟨b49, o50, none⟩)), (59, .bool (rdD p1 (IntKind.wrap .i64 ((IntKind.wrap .i64 (t44 - 1)) + t45))))] (by kernel_rfl) ?_
          refine RegI.done (by kernel_rfl) ?_
          refine RunsI.go 2 [.c 37, .lp 37, .blk 0, .c 45] (by kernel_rfl) ?_
          refine RunsI.only [1, 2, 6, 7, 8, 9] [(1, .slice pA1 p1.length pc1), (2, .pointer (some ⟨b41, 0, none⟩)), (6, .int .i64 t42), (7, .int .i64 t43), (8, .int .i64 t44), (9, .int .i64 (IntKind.wrap .i64 (t45 + 1)))] (by kernel_rfl) (by kernel_rfl) ?_
          exact ih (IntKind.wrap .i64 (t45 + 1)) w h (h53.pick [0, 1, 2, 3, 4] (by decide))
        · skip
          refine RunsI.fix 60 false hc54 (by kernel_rfl) (by kernel_rfl) ?_
          refine RunsI.cond false 42 (by kernel_rfl) ?_
          refine RunsI.go 1 [.c 45] (by kernel_rfl) ?_
          refine RunsI.only [1, 2, 6, 7, 8, 9] [(1, .slice pA1 p1.length pc1), (2, .pointer (some ⟨b41, 0, none⟩)), (6, .int .i64 t42), (7, .int .i64 t43), (8, .int .i64 t44), (9, .int .i64 t45)] (by kernel_rfl) (by kernel_rfl) ?_
          exact hk0 t45 w (Option.some.inj h).symm (h53.pick [0, 1, 2, 3, 4] (by decide))
      · skip
        refine RegI.fix 52 false hc47 (by kernel_rfl) (by kernel_rfl) ?_
        refine RegI.pure 8 [1, 2, 6, 7, 8, 9, 44, 45, 46, 47, 48, 49, 50, 53, 54, 55, 56, 57, 58, 59, 60] [(1, .slice pA1 p1.length pc1), (2, .pointer (some ⟨b41, 0, none⟩)), (6, .int .i64 t42), (7, .int .i64 t43), (8, .int .i64 t44), (9, .int .i64 t45), (44, .int .i64 t44), (45, .int .i64 (IntKind.wrap .i64 (t44 - 1))), (46, .int .i64 t45), (47, .int .i64 (IntKind.wrap .i64 ((IntKind.wrap .i64 (t44 - 1)) + t45))), (48, .slice pA1 p1.length pc1), (49, .int .i64 (p1.length : Int)), (50, .bool (decide ((IntKind.wrap .i64 ((IntKind.wrap .i64 (t44 - 1)) + t45)) < (p1.length : Int)))), (53, undef), (54, undef), (55, undef), (56, undef), (57, undef), (58, undef), (59, undef), (60, .bool false)] (by kernel_rfl) ?_
        refine RegI.only [1, 2, 6, 7, 8, 9, 60] [(1, .slice pA1 p1.length pc1), (2, .pointer (some ⟨b41, 0, none⟩)), (6, .int .i64 t42), (7, .int .i64 t43), (8, .int .i64 t44), (9, .int .i64 t45), (60, .bool false)] (by kernel_rfl) (by kernel_rfl) ?_
        exact hj59 w h (hH.pick [0, 1, 2, 3, 4] (by decide))
    · skip
      refine RegI.fix 43 false hc46 (by kernel_rfl) (by kernel_rfl) ?_
      refine RegI.pure 17 [1, 2, 6, 7, 8, 9, 44, 45, 46, 47, 48, 49, 50, 53, 54, 55, 56, 57, 58, 59, 60] [(1, .slice pA1 p1.length pc1), (2, .pointer (some ⟨b41, 0, none⟩)), (6, .int .i64 t42), (7, .int .i64 t43), (8, .int .i64 t44), (9, .int .i64 t45), (44, undef), (45, undef), (46, undef), (47, undef), (48, undef), (49, undef), (50, undef), (53, undef), (54, undef), (55, undef), (56, undef), (57, undef), (58, undef), (59, undef), (60, .bool false)] (by kernel_rfl) ?_
      refine RegI.only [1, 2, 6, 7, 8, 9, 60] [(1, .slice pA1 p1.length pc1), (2, .pointer (some ⟨b41, 0, none⟩)), (6, .int .i64 t42), (7, .int .i64 t43), (8, .int .i64 t44), (9, .int .i64 t45), (60, .bool false)] (by kernel_rfl) (by kernel_rfl) ?_
      exact hj59 w h (hH.pick [0, 1, 2, 3, 4] (by decide))
def charabanclaw17_CycleWaits_5.f (K : Nat) (p0_0 : Int) (p0_1 : Int) (p0_2 : Int) (p0_3 : Int) (p1 : List Bool) : Option Bool := (charabanclaw17_awake_10.f K).bind fun t10 => cond (!t10) (some false) (cond (decide ((p1.length : Int) > 100)) (some true) ((cycle_Take_18.f K p0_0 p0_1 p0_2 p0_3 p1).bind fun yt17 => (charabancref17_Check_15.f K p0_0 p0_1 p0_2 p0_3).bind fun t23 => cond (t23 != 0) (cond (yt17.1 == 0) (cond (yt17.2 == 0) ((cycle_Names_21.f K p0_0 p0_1 p0_2 p0_3 p1).bind fun t31 => some ((t31.length : Int) == 0)) (some false)) (some false)) ((charabancref17_Sample_17.f K p0_0).bind fun t40 => (charabanclaw17_CycleWaits_5.l0 K p0_0 p0_1 p0_2 p0_3 p1 yt17.1 yt17.2 t40 K 0).bind (fun t63 => cond (t40 == 0) (cond (yt17.1 == p0_3) (some (yt17.2 == 0)) (some false)) (cond (yt17.1 == (IntKind.wrap .i64 (p0_3 + t63))) (cond (yt17.2 == (IntKind.wrap .i64 ((IntKind.wrap .i64 (t40 + t63)) + 1))) ((cycle_Names_21.f K p0_0 p0_1 p0_2 p0_3 p1).bind fun t74 => some ((t74.length : Int) == yt17.1)) (some false)) (some false))))))
set_option maxRecDepth 100000 in
theorem charabanclaw17_CycleWaits_5_ok (K : Nat) (M0 : Nat → Prop) (w0 : World) (pA1 : Option Addr) (pc1 : Nat) (p0_0 : Int) (p0_1 : Int) (p0_2 : Int) (p0_3 : Int) (p1 : List Bool) (ho : ∀ b, M0 b → b < w0.heap.size) (hs1 : Sl Rp.bool w0 M0 (.slice pA1 p1.length pc1) p1) (hG0 : (gl 0 (tab_0.flatMap en_0)).ok w0 M0) (hG1 : (gl 1 (tab_1.flatMap en_1)).ok w0 M0) (hG2 : (gl 2 (tab_2.flatMap en_2)).ok w0 M0) {r : Bool} (h : charabanclaw17_CycleWaits_5.f K p0_0 p0_1 p0_2 p0_3 p1 = some r) :
    Calls Tryd.prog 5 #[.agg #[.int .i64 p0_0, .int .u16 p0_1, .int .u8 p0_2, .int .i64 p0_3], .slice pA1 p1.length pc1] w0 (charabanclaw17_CycleWaits_5.post M0 w0 r) := by
  unfold charabanclaw17_CycleWaits_5.f at h
  have h0 : Holds M0 w0 w0 [] := Holds.start ho
  have h01 := h0.addSl Rp.bool (.slice pA1 p1.length pc1) p1 (hs1.mono (fun _ _ hm => hm.elim id (fun hm => absurd hm (by simp [mines, sl]))))
  have h0g0 := h01.add (gl 0 (tab_0.flatMap en_0)) rfl ⟨hG0.1, fun hm => hG0.2.1 (hm.elim id (fun hm => absurd hm (by simp [mines, sl, gl]))), hG0.2.2⟩
  have h0g1 := h0g0.add (gl 1 (tab_1.flatMap en_1)) rfl ⟨hG1.1, fun hm => hG1.2.1 (hm.elim id (fun hm => absurd hm (by simp [mines, sl, gl]))), hG1.2.2⟩
  have h0g2 := h0g1.add (gl 2 (tab_2.flatMap en_2)) rfl ⟨hG2.1, fun hm => hG2.2.1 (hm.elim id (fun hm => absurd hm (by simp [mines, sl, gl]))), hG2.2.2⟩
  have h0 : Holds M0 w0 w0 [sl Rp.bool (.slice pA1 p1.length pc1) p1, gl 0 (tab_0.flatMap en_0), gl 1 (tab_1.flatMap en_1), gl 2 (tab_2.flatMap en_2)] := h0g2
  refine calls_of F5 rfl [.agg #[.int .i64 p0_0, .int .u16 p0_1, .int .u8 p0_2, .int .i64 p0_3], .slice pA1 p1.length pc1] (by kernel_rfl) ?_
  refine RunsI.go 1 [.c 1, .c 2] (by kernel_rfl) ?_
  refine RunsI.region (by kernel_rfl) ?_
  refine RegI.op (by kernel_rfl) (OpE.box 2 24 [.int .i64 p0_0, .int .u16 p0_1, .int .u8 p0_2, .int .i64 p0_3] h0 (by kernel_rfl) (by kernel_rfl) ?_)
  intro w1 b2 h3 hb4 hn5
  refine RegI.pure 1 [1, 2] [(1, .slice pA1 p1.length pc1), (2, .pointer (some ⟨b2, 0, none⟩))] (by kernel_rfl) ?_
  refine RegI.done (by kernel_rfl) ?_
  refine RunsI.go 1 [.c 3, .c 4] (by kernel_rfl) ?_
  refine RunsI.region (by kernel_rfl) ?_
  obtain ⟨t10, hg9, h⟩ := of_bind h
  refine RegI.op (by kernel_rfl) (OpE.call 10 (by kernel_rfl) 10 #[] (by kernel_rfl) ((charabanclaw17_awake_10_ok K _ w1  h3.old' (h3.get 1 rfl) (h3.get 2 rfl) (h3.get 3 rfl) hg9).mono ?_))
  rintro _ w6 ⟨rfl, hb7⟩
  refine ⟨_, rfl, ?_⟩
  have h8 := h3.call hb7
  refine RegI.pure 1 [1, 2, 5] [(1, .slice pA1 p1.length pc1), (2, .pointer (some ⟨b2, 0, none⟩)), (5, .bool t10)] (by kernel_rfl) ?_
  refine RegI.done (by kernel_rfl) ?_
  refine RunsI.go 2 [.c 6, .c 7, .c 12] (by kernel_rfl) ?_
  refine RunsI.region (by kernel_rfl) ?_
  refine RegI.pure 2 [1, 2, 12] [(1, .slice pA1 p1.length pc1), (2, .pointer (some ⟨b2, 0, none⟩)), (12, .bool (!t10))] (by kernel_rfl) ?_
  refine RegI.done (by kernel_rfl) ?_
  rcases of_cond h with ⟨hc11, h⟩ | ⟨hc11, h⟩
  · skip
    refine RunsI.fix 12 true hc11 (by kernel_rfl) (by kernel_rfl) ?_
    refine RunsI.cond true 8 (by kernel_rfl) ?_
    refine RunsI.go 1 [.c 9, .c 10, .c 12] (by kernel_rfl) ?_
    refine RunsI.region (by kernel_rfl) ?_
    refine RegI.pure 1 [4] [(4, .bool false)] (by kernel_rfl) ?_
    refine RegI.done (by kernel_rfl) ?_
    refine RunsI.ret (.bool false) (by kernel_rfl) (by kernel_rfl) ?_
    obtain rfl := Option.some.inj h
    exact ⟨rfl, h8.below⟩
  · skip
    refine RunsI.fix 12 false hc11 (by kernel_rfl) (by kernel_rfl) ?_
    refine RunsI.cond false 11 (by kernel_rfl) ?_
    refine RunsI.go 1 [.c 12] (by kernel_rfl) ?_
    refine RunsI.go 2 [.c 14, .c 15, .c 20] (by kernel_rfl) ?_
    refine RunsI.region (by kernel_rfl) ?_
    refine RegI.pure 3 [1, 2, 15] [(1, .slice pA1 p1.length pc1), (2, .pointer (some ⟨b2, 0, none⟩)), (15, .bool (decide ((p1.length : Int) > 100)))] (by kernel_rfl) ?_
    refine RegI.done (by kernel_rfl) ?_
    rcases of_cond h with ⟨hc12, h⟩ | ⟨hc12, h⟩
    · skip
      refine RunsI.fix 15 true hc12 (by kernel_rfl) (by kernel_rfl) ?_
      refine RunsI.cond true 16 (by kernel_rfl) ?_
      refine RunsI.go 1 [.c 17, .c 18, .c 20] (by kernel_rfl) ?_
      refine RunsI.region (by kernel_rfl) ?_
      refine RegI.pure 1 [4] [(4, .bool true)] (by kernel_rfl) ?_
      refine RegI.done (by kernel_rfl) ?_
      refine RunsI.ret (.bool true) (by kernel_rfl) (by kernel_rfl) ?_
      obtain rfl := Option.some.inj h
      exact ⟨rfl, h8.below⟩
    · skip
      refine RunsI.fix 15 false hc12 (by kernel_rfl) (by kernel_rfl) ?_
      refine RunsI.cond false 19 (by kernel_rfl) ?_
      refine RunsI.go 1 [.c 20] (by kernel_rfl) ?_
      refine RunsI.go 1 [.c 21, .c 22] (by kernel_rfl) ?_
      refine RunsI.region (by kernel_rfl) ?_
      refine RegI.op (by kernel_rfl) (OpE.loadBox 17 4 24 b2 0 (.agg #[.int .i64 p0_0, .int .u16 p0_1, .int .u8 p0_2, .int .i64 p0_3]) h8 (by kernel_rfl) (by kernel_rfl) rfl (by kernel_rfl) ?_)
      refine RegI.pure 1 [1, 2, 17, 18] [(1, .slice pA1 p1.length pc1), (2, .pointer (some ⟨b2, 0, none⟩)), (17, .agg #[.int .i64 p0_0, .int .u16 p0_1, .int .u8 p0_2, .int .i64 p0_3]), (18, .slice pA1 p1.length pc1)] (by kernel_rfl) ?_
      obtain ⟨⟨t17, t18⟩, hg16, h⟩ := of_bind h
      dsimp only at h
      refine RegI.op (by kernel_rfl) (OpE.call 19 (by kernel_rfl) 18 #[.agg #[.int .i64 p0_0, .int .u16 p0_1, .int .u8 p0_2, .int .i64 p0_3], .slice pA1 p1.length pc1] (by kernel_rfl) ((cycle_Take_18_ok K _ w6  pA1 pc1 p0_0 p0_1 p0_2 p0_3 p1 h8.old' (h8.get 0 rfl) (h8.get 1 rfl) (h8.get 2 rfl) (h8.get 3 rfl) hg16).mono ?_))
      rintro _ w13 ⟨rfl, hb14⟩
      refine ⟨_, rfl, ?_⟩
      have h15 := h8.call hb14
      refine RegI.pure 5 [1, 2, 6, 7] [(1, .slice pA1 p1.length pc1), (2, .pointer (some ⟨b2, 0, none⟩)), (6, .int .i64 t17), (7, .int .i64 t18)] (by kernel_rfl) ?_
      refine RegI.done (by kernel_rfl) ?_
      refine RunsI.go 2 [.c 24, .c 25, .c 30] (by kernel_rfl) ?_
      refine RunsI.region (by kernel_rfl) ?_
      refine RegI.op (by kernel_rfl) (OpE.loadBox 22 4 24 b2 0 (.agg #[.int .i64 p0_0, .int .u16 p0_1, .int .u8 p0_2, .int .i64 p0_3]) h15 (by kernel_rfl) (by kernel_rfl) rfl (by kernel_rfl) ?_)
      obtain ⟨t23, hg22, h⟩ := of_bind h
      refine RegI.op (by kernel_rfl) (OpE.call 23 (by kernel_rfl) 15 #[.agg #[.int .i64 p0_0, .int .u16 p0_1, .int .u8 p0_2, .int .i64 p0_3]] (by kernel_rfl) ((charabancref17_Check_15_ok K _ w13  p0_0 p0_1 p0_2 p0_3 h15.old' hg22).mono ?_))
      rintro _ w19 ⟨rfl, hb20⟩
      refine ⟨_, rfl, ?_⟩
      have h21 := h15.call hb20
      refine RegI.pure 1 [1, 2, 6, 7, 24] [(1, .slice pA1 p1.length pc1), (2, .pointer (some ⟨b2, 0, none⟩)), (6, .int .i64 t17), (7, .int .i64 t18), (24, .bool (t23 != 0))] (by kernel_rfl) ?_
      refine RegI.done (by kernel_rfl) ?_
      rcases of_cond h with ⟨hc24, h⟩ | ⟨hc24, h⟩
      · skip
        refine RunsI.fix 24 true hc24 (by kernel_rfl) (by kernel_rfl) ?_
        refine RunsI.cond true 26 (by kernel_rfl) ?_
        refine RunsI.go 1 [.c 27, .c 28, .c 30] (by kernel_rfl) ?_
        refine RunsI.region (by kernel_rfl) ?_
        refine RegI.pure 3 [1, 2, 7, 27] [(1, .slice pA1 p1.length pc1), (2, .pointer (some ⟨b2, 0, none⟩)), (7, .int .i64 t18), (27, .bool (t17 == 0))] (by kernel_rfl) ?_
        rcases of_cond h with ⟨hc25, h⟩ | ⟨hc25, h⟩
        · skip
          refine RegI.fix 27 true hc25 (by kernel_rfl) (by kernel_rfl) ?_
          refine RegI.pure 4 [1, 2, 31] [(1, .slice pA1 p1.length pc1), (2, .pointer (some ⟨b2, 0, none⟩)), (31, .bool (t18 == 0))] (by kernel_rfl) ?_
          rcases of_cond h with ⟨hc26, h⟩ | ⟨hc26, h⟩
          · skip
            refine RegI.fix 31 true hc26 (by kernel_rfl) (by kernel_rfl) ?_
            refine RegI.op (by kernel_rfl) (OpE.loadBox 32 4 24 b2 0 (.agg #[.int .i64 p0_0, .int .u16 p0_1, .int .u8 p0_2, .int .i64 p0_3]) h21 (by kernel_rfl) (by kernel_rfl) rfl (by kernel_rfl) ?_)
            refine RegI.pure 1 [31, 32, 33] [(31, .bool true), (32, .agg #[.int .i64 p0_0, .int .u16 p0_1, .int .u8 p0_2, .int .i64 p0_3]), (33, .slice pA1 p1.length pc1)] (by kernel_rfl) ?_
            obtain ⟨t31, hg30, h⟩ := of_bind h
            refine RegI.op (by kernel_rfl) (OpE.call 34 (by kernel_rfl) 21 #[.agg #[.int .i64 p0_0, .int .u16 p0_1, .int .u8 p0_2, .int .i64 p0_3], .slice pA1 p1.length pc1] (by kernel_rfl) ((cycle_Names_21_ok K _ w19  pA1 pc1 p0_0 p0_1 p0_2 p0_3 p1 h21.old' (h21.get 0 rfl) (h21.get 1 rfl) (h21.get 2 rfl) (h21.get 3 rfl) hg30).mono ?_))
            rintro _ w27 ⟨A32, c33, rfl, hr35⟩
            refine ⟨_, rfl, ?_⟩
            have hb28 := hr35.below
            have h29 := h21.join hr35
            refine RegI.pure 4 [4] [(4, .bool ((t31.length : Int) == 0))] (by kernel_rfl) ?_
            refine RegI.done (by kernel_rfl) ?_
            refine RunsI.ret (.bool ((t31.length : Int) == 0)) (by kernel_rfl) (by kernel_rfl) ?_
            obtain rfl := Option.some.inj h
            exact ⟨rfl, h29.below⟩
          · skip
            refine RegI.fix 31 false hc26 (by kernel_rfl) (by kernel_rfl) ?_
            refine RegI.pure 7 [4] [(4, .bool false)] (by kernel_rfl) ?_
            refine RegI.done (by kernel_rfl) ?_
            refine RunsI.ret (.bool false) (by kernel_rfl) (by kernel_rfl) ?_
            obtain rfl := Option.some.inj h
            exact ⟨rfl, h21.below⟩
        · skip
          refine RegI.fix 27 false hc25 (by kernel_rfl) (by kernel_rfl) ?_
          refine RegI.pure 11 [4] [(4, .bool false)] (by kernel_rfl) ?_
          refine RegI.done (by kernel_rfl) ?_
          refine RunsI.ret (.bool false) (by kernel_rfl) (by kernel_rfl) ?_
          obtain rfl := Option.some.inj h
          exact ⟨rfl, h21.below⟩
      · skip
        refine RunsI.fix 24 false hc24 (by kernel_rfl) (by kernel_rfl) ?_
        refine RunsI.cond false 29 (by kernel_rfl) ?_
        refine RunsI.go 1 [.c 30] (by kernel_rfl) ?_
        refine RunsI.go 1 [.c 31, .c 32] (by kernel_rfl) ?_
        refine RunsI.region (by kernel_rfl) ?_
        refine RegI.pure 1 [1, 2, 6, 7, 38] [(1, .slice pA1 p1.length pc1), (2, .pointer (some ⟨b2, 0, none⟩)), (6, .int .i64 t17), (7, .int .i64 t18), (38, .pointer (some ⟨b2, 0, none⟩))] (by kernel_rfl) ?_
        refine RegI.op (by kernel_rfl) (OpE.loadBox 39 4 3 b2 0 (.int .i64 p0_0) h21 (by kernel_rfl) (by kernel_rfl) rfl (by kernel_rfl) ?_)
        obtain ⟨t40, hg39, h⟩ := of_bind h
        refine RegI.op (by kernel_rfl) (OpE.call 40 (by kernel_rfl) 17 #[.int .i64 p0_0] (by kernel_rfl) ((charabancref17_Sample_17_ok K _ w19  p0_0 h21.old' hg39).mono ?_))
        rintro _ w36 ⟨rfl, hb37⟩
        refine ⟨_, rfl, ?_⟩
        have h38 := h21.call hb37
        refine RegI.pure 1 [1, 2, 6, 7, 8] [(1, .slice pA1 p1.length pc1), (2, .pointer (some ⟨b2, 0, none⟩)), (6, .int .i64 t17), (7, .int .i64 t18), (8, .int .i64 t40)] (by kernel_rfl) ?_
        refine RegI.done (by kernel_rfl) ?_
        refine RunsI.go 1 [.c 33, .c 34] (by kernel_rfl) ?_
        refine RunsI.region (by kernel_rfl) ?_
        refine RegI.pure 1 [1, 2, 6, 7, 8, 9] [(1, .slice pA1 p1.length pc1), (2, .pointer (some ⟨b2, 0, none⟩)), (6, .int .i64 t17), (7, .int .i64 t18), (8, .int .i64 t40), (9, .int .i64 0)] (by kernel_rfl) ?_
        refine RegI.done (by kernel_rfl) ?_
        refine RunsI.go 3 [.c 37, .lp 37, .blk 0, .c 45] (by kernel_rfl) ?_
        obtain ⟨x61, hx62, h⟩ := of_bind h
        refine RunsI.only [1, 2, 6, 7, 8, 9] [(1, .slice pA1 p1.length pc1), (2, .pointer (some ⟨b2, 0, none⟩)), (6, .int .i64 t17), (7, .int .i64 t18), (8, .int .i64 t40), (9, .int .i64 0)] (by kernel_rfl) (by kernel_rfl) ?_
        refine charabanclaw17_CycleWaits_5.l0_ok K M0 w0 pA1 pc1 p0_0 p0_1 p0_2 p0_3 p1 t17 t18 t40 b2 _ x61 ?_ K 0 w36 hx62 (h38.pick [0, 4, 1, 2, 3] (by decide))
        · intro t63 w65 hq79 h64
          (try rw [hq79] at h)
          refine RunsI.go 2 [.c 47, .c 48, .c 53] (by kernel_rfl) ?_
          refine RunsI.region (by kernel_rfl) ?_
          refine RegI.pure 2 [1, 2, 6, 7, 8, 9, 64] [(1, .slice pA1 p1.length pc1), (2, .pointer (some ⟨b2, 0, none⟩)), (6, .int .i64 t17), (7, .int .i64 t18), (8, .int .i64 t40), (9, .int .i64 t63), (64, .bool (t40 == 0))] (by kernel_rfl) ?_
          refine RegI.done (by kernel_rfl) ?_
          rcases of_cond h with ⟨hc66, h⟩ | ⟨hc66, h⟩
          · skip
            refine RunsI.fix 64 true hc66 (by kernel_rfl) (by kernel_rfl) ?_
            refine RunsI.cond true 49 (by kernel_rfl) ?_
            refine RunsI.go 1 [.c 50, .c 51, .c 53] (by kernel_rfl) ?_
            refine RunsI.region (by kernel_rfl) ?_
            refine RegI.pure 2 [7, 65, 66] [(7, .int .i64 t18), (65, .int .i64 t17), (66, .pointer (some ⟨b2, 3, none⟩))] (by kernel_rfl) ?_
            refine RegI.op (by kernel_rfl) (OpE.loadBox 67 1 3 b2 3 (.int .i64 p0_3) h64 (by kernel_rfl) (by kernel_rfl) rfl (by kernel_rfl) ?_)
            refine RegI.pure 2 [7, 69] [(7, .int .i64 t18), (69, .bool (t17 == p0_3))] (by kernel_rfl) ?_
            rcases of_cond h with ⟨hc67, h⟩ | ⟨hc67, h⟩
            · skip
              refine RegI.fix 69 true hc67 (by kernel_rfl) (by kernel_rfl) ?_
              refine RegI.pure 4 [4] [(4, .bool (t18 == 0))] (by kernel_rfl) ?_
              refine RegI.done (by kernel_rfl) ?_
              refine RunsI.ret (.bool (t18 == 0)) (by kernel_rfl) (by kernel_rfl) ?_
              obtain rfl := Option.some.inj h
              exact ⟨rfl, h64.below⟩
            · skip
              refine RegI.fix 69 false hc67 (by kernel_rfl) (by kernel_rfl) ?_
              refine RegI.pure 4 [4] [(4, .bool false)] (by kernel_rfl) ?_
              refine RegI.done (by kernel_rfl) ?_
              refine RunsI.ret (.bool false) (by kernel_rfl) (by kernel_rfl) ?_
              obtain rfl := Option.some.inj h
              exact ⟨rfl, h64.below⟩
          · skip
            refine RunsI.fix 64 false hc66 (by kernel_rfl) (by kernel_rfl) ?_
            refine RunsI.cond false 52 (by kernel_rfl) ?_
            refine RunsI.go 1 [.c 53] (by kernel_rfl) ?_
            refine RunsI.go 1 [.c 54, .c 55] (by kernel_rfl) ?_
            refine RunsI.region (by kernel_rfl) ?_
            refine RegI.pure 2 [1, 2, 6, 7, 8, 9, 73, 74] [(1, .slice pA1 p1.length pc1), (2, .pointer (some ⟨b2, 0, none⟩)), (6, .int .i64 t17), (7, .int .i64 t18), (8, .int .i64 t40), (9, .int .i64 t63), (73, .int .i64 t17), (74, .pointer (some ⟨b2, 3, none⟩))] (by kernel_rfl) ?_
            refine RegI.op (by kernel_rfl) (OpE.loadBox 75 1 3 b2 3 (.int .i64 p0_3) h64 (by kernel_rfl) (by kernel_rfl) rfl (by kernel_rfl) ?_)
            refine RegI.pure 4 [1, 2, 6, 7, 8, 9, 79] [(1, .slice pA1 p1.length pc1), (2, .pointer (some ⟨b2, 0, none⟩)), (6, .int .i64 t17), (7, .int .i64 t18), (8, .int .i64 t40), (9, .int .i64 t63), (79, .bool (t17 == (IntKind.wrap .i64 (p0_3 + t63))))] (by kernel_rfl) ?_
            rcases of_cond h with ⟨hc68, h⟩ | ⟨hc68, h⟩
            · skip
              refine RegI.fix 79 true hc68 (by kernel_rfl) (by kernel_rfl) ?_
              refine RegI.pure 8 [1, 2, 6, 87] [(1, .slice pA1 p1.length pc1), (2, .pointer (some ⟨b2, 0, none⟩)), (6, .int .i64 t17), (87, .bool (t18 == (IntKind.wrap .i64 ((IntKind.wrap .i64 (t40 + t63)) + 1))))] (by kernel_rfl) ?_
              rcases of_cond h with ⟨hc69, h⟩ | ⟨hc69, h⟩
              · skip
                refine RegI.fix 87 true hc69 (by kernel_rfl) (by kernel_rfl) ?_
                refine RegI.op (by kernel_rfl) (OpE.loadBox 88 1 24 b2 0 (.agg #[.int .i64 p0_0, .int .u16 p0_1, .int .u8 p0_2, .int .i64 p0_3]) h64 (by kernel_rfl) (by kernel_rfl) rfl (by kernel_rfl) ?_)
                refine RegI.pure 1 [6, 87, 88, 89] [(6, .int .i64 t17), (87, .bool true), (88, .agg #[.int .i64 p0_0, .int .u16 p0_1, .int .u8 p0_2, .int .i64 p0_3]), (89, .slice pA1 p1.length pc1)] (by kernel_rfl) ?_
                obtain ⟨t74, hg73, h⟩ := of_bind h
                refine RegI.op (by kernel_rfl) (OpE.call 90 (by kernel_rfl) 21 #[.agg #[.int .i64 p0_0, .int .u16 p0_1, .int .u8 p0_2, .int .i64 p0_3], .slice pA1 p1.length pc1] (by kernel_rfl) ((cycle_Names_21_ok K _ w65  pA1 pc1 p0_0 p0_1 p0_2 p0_3 p1 h64.old' (h64.get 0 rfl) (h64.get 2 rfl) (h64.get 3 rfl) (h64.get 4 rfl) hg73).mono ?_))
                rintro _ w70 ⟨A75, c76, rfl, hr78⟩
                refine ⟨_, rfl, ?_⟩
                have hb71 := hr78.below
                have h72 := h64.join hr78
                refine RegI.pure 5 [4] [(4, .bool ((t74.length : Int) == t17))] (by kernel_rfl) ?_
                refine RegI.done (by kernel_rfl) ?_
                refine RunsI.ret (.bool ((t74.length : Int) == t17)) (by kernel_rfl) (by kernel_rfl) ?_
                obtain rfl := Option.some.inj h
                exact ⟨rfl, h72.below⟩
              · skip
                refine RegI.fix 87 false hc69 (by kernel_rfl) (by kernel_rfl) ?_
                refine RegI.pure 8 [4] [(4, .bool false)] (by kernel_rfl) ?_
                refine RegI.done (by kernel_rfl) ?_
                refine RunsI.ret (.bool false) (by kernel_rfl) (by kernel_rfl) ?_
                obtain rfl := Option.some.inj h
                exact ⟨rfl, h64.below⟩
            · skip
              refine RegI.fix 79 false hc68 (by kernel_rfl) (by kernel_rfl) ?_
              refine RegI.pure 16 [4] [(4, .bool false)] (by kernel_rfl) ?_
              refine RegI.done (by kernel_rfl) ?_
              refine RunsI.ret (.bool false) (by kernel_rfl) (by kernel_rfl) ?_
              obtain rfl := Option.some.inj h
              exact ⟨rfl, h64.below⟩
end
end Go.Proofs.YtajnhlkkbhobiaaDoor.Cyc
