/- Functions of the program as plain Lean functions, each with the proof that the call comes to it; written by wip/eng.py. -/
import Derived.Test.YtngcadmhnbpgjaaDoorProg
import Derived.Test.YtngcadmhnbpgjaaDoorEngTab
set_option linter.unusedVariables false
set_option linter.unusedSimpArgs false
set_option maxHeartbeats 4000000
namespace Go.Proofs.YtngcadmhnbpgjaaDoor.Latch
open Go.RowKit Go.Eng
noncomputable def B6 : Code := (Tryd.f6.body).getD .skip
noncomputable def F6 : Fun Tryd.prog := ⟨6, Tryd.f6, B6, 83, Tryd.func6, by kernel_rfl, by kernel_rfl⟩
noncomputable def B7 : Code := (Tryd.f7.body).getD .skip
noncomputable def F7 : Fun Tryd.prog := ⟨7, Tryd.f7, B7, 28, Tryd.func7, by kernel_rfl, by kernel_rfl⟩
noncomputable def B8 : Code := (Tryd.f8.body).getD .skip
noncomputable def F8 : Fun Tryd.prog := ⟨8, Tryd.f8, B8, 24, Tryd.func8, by kernel_rfl, by kernel_rfl⟩
noncomputable def B9 : Code := (Tryd.f9.body).getD .skip
noncomputable def F9 : Fun Tryd.prog := ⟨9, Tryd.f9, B9, 31, Tryd.func9, by kernel_rfl, by kernel_rfl⟩
noncomputable def B10 : Code := (Tryd.f10.body).getD .skip
noncomputable def F10 : Fun Tryd.prog := ⟨10, Tryd.f10, B10, 33, Tryd.func10, by kernel_rfl, by kernel_rfl⟩
noncomputable def B11 : Code := (Tryd.f11.body).getD .skip
noncomputable def F11 : Fun Tryd.prog := ⟨11, Tryd.f11, B11, 30, Tryd.func11, by kernel_rfl, by kernel_rfl⟩
noncomputable def B12 : Code := (Tryd.f12.body).getD .skip
noncomputable def F12 : Fun Tryd.prog := ⟨12, Tryd.f12, B12, 44, Tryd.func12, by kernel_rfl, by kernel_rfl⟩
noncomputable def B13 : Code := (Tryd.f13.body).getD .skip
noncomputable def F13 : Fun Tryd.prog := ⟨13, Tryd.f13, B13, 8, Tryd.func13, by kernel_rfl, by kernel_rfl⟩
noncomputable def B14 : Code := (Tryd.f14.body).getD .skip
noncomputable def F14 : Fun Tryd.prog := ⟨14, Tryd.f14, B14, 11, Tryd.func14, by kernel_rfl, by kernel_rfl⟩
noncomputable def B15 : Code := (Tryd.f15.body).getD .skip
noncomputable def F15 : Fun Tryd.prog := ⟨15, Tryd.f15, B15, 11, Tryd.func15, by kernel_rfl, by kernel_rfl⟩
noncomputable def B16 : Code := (Tryd.f16.body).getD .skip
noncomputable def F16 : Fun Tryd.prog := ⟨16, Tryd.f16, B16, 10, Tryd.func16, by kernel_rfl, by kernel_rfl⟩
noncomputable def B17 : Code := (Tryd.f17.body).getD .skip
noncomputable def F17 : Fun Tryd.prog := ⟨17, Tryd.f17, B17, 10, Tryd.func17, by kernel_rfl, by kernel_rfl⟩
noncomputable def B18 : Code := (Tryd.f18.body).getD .skip
noncomputable def F18 : Fun Tryd.prog := ⟨18, Tryd.f18, B18, 27, Tryd.func18, by kernel_rfl, by kernel_rfl⟩
noncomputable def B19 : Code := (Tryd.f19.body).getD .skip
noncomputable def F19 : Fun Tryd.prog := ⟨19, Tryd.f19, B19, 8, Tryd.func19, by kernel_rfl, by kernel_rfl⟩
def tab_0 : List (Int × Int) := [(0, 0), (0, 4), (4, 4), (8, 4), (12, 1), (14, 1), (15, 1)]
def en_0 : (Int × Int) → List Value := fun x => [.int .i64 x.1, .int .i64 x.2]

/-! ### charabanc/latch.Device (function 7) -/
section
def latch_Device_7.post (M0 : Nat → Prop) (w0 : World) (r : Int × Int) : Ending → World → Prop := fun e w => e = .returned (.tuple #[.int .i64 r.1, .int .i64 r.2]) ∧ Below w0.heap.size w0 w
def latch_Device_7.l0 (K : Nat) (p0 : Int) : Nat → Int → Option (Lp (Int × Int) Unit)
  | 0, _ => none
  | k + 1, t1 => cond (decide (t1 < 7)) (cond (inR t1 7) (Let (fun (t13 : Bool) => cond t13 (some (Lp.ret (t1, (IntKind.wrap .i64 ((IntKind.wrap .i64 p0) - ((rdD tab_0 t1).1)))))) (latch_Device_7.l0 K p0 k (IntKind.wrap .i64 (t1 + 1)))) (fun j16 => cond (decide ((IntKind.wrap .i64 ((IntKind.wrap .i64 p0) - ((rdD tab_0 t1).1))) ≥ 0)) (j16 (decide ((IntKind.wrap .i64 ((IntKind.wrap .i64 p0) - ((rdD tab_0 t1).1))) < ((rdD tab_0 t1).2)))) (j16 false))) none) (some (Lp.go ()))
set_option maxRecDepth 100000 in
theorem latch_Device_7.l0_ok (K : Nat) (M0 : Nat → Prop) (w0 : World) (p0 : Int) (R : Ending → World → Prop) (x : Lp (Int × Int) Unit) (hk0 : ∀ (w1 : World), x = Lp.go () → Holds M0 w0 w1 [cel 0 0 (tab_0.flatMap en_0)] → RunsI F7 [.c 27] [] w1 R) (hk1 : ∀ (t20 : Int) (t21 : Int) (w1 : World), x = Lp.ret (t20, t21) → Holds M0 w0 w1 [cel 0 0 (tab_0.flatMap en_0)] → R (.returned (.tuple #[.int .i64 t20, .int .i64 t21])) w1) :
    ∀ (k : Nat) (t1 : Int) (w : World), latch_Device_7.l0 K p0 k t1 = some x → Holds M0 w0 w [cel 0 0 (tab_0.flatMap en_0)] → RunsI F7 [.c 7, .lp 7, .blk 0, .c 27] [(0, .int .u8 p0), (7, .agg (tab_0.flatMap en_0).toArray), (8, .int .i64 t1)] w R := by
  intro k
  induction k with
  | zero => intro t1 w h hH; exact absurd h (by simp [latch_Device_7.l0])
  | succ k ih =>
    intro t1 w h hH
    rw [latch_Device_7.l0.eq_2] at h
    refine RunsI.go 1 [.c 8, .c 9, .lp 7, .blk 0, .c 27] (by kernel_rfl) ?_
    refine RunsI.region (by kernel_rfl) ?_
    refine RegI.pure 1 [0, 7, 8, 9] [(0, .int .u8 p0), (7, .agg (tab_0.flatMap en_0).toArray), (8, .int .i64 t1), (9, .bool (decide (t1 < 7)))] (by kernel_rfl) ?_
    refine RegI.done (by kernel_rfl) ?_
    refine RunsI.go 1 [.c 10, .c 13, .lp 7, .blk 0, .c 27] (by kernel_rfl) ?_
    rcases of_cond h with ⟨hc2, h⟩ | ⟨hc2, h⟩
    · skip
      refine RunsI.fix 9 true hc2 (by kernel_rfl) (by kernel_rfl) ?_
      refine RunsI.cond true 11 (by kernel_rfl) ?_
      refine RunsI.go 1 [.c 13, .lp 7, .blk 0, .c 27] (by kernel_rfl) ?_
      refine RunsI.go 3 [.c 16, .c 17, .blk 1, .c 26, .lp 7, .blk 0, .c 27] (by kernel_rfl) ?_
      refine RunsI.region (by kernel_rfl) ?_
      refine RegI.pure 1 [0, 7, 8, 10] [(0, .int .u8 p0), (7, .agg (tab_0.flatMap en_0).toArray), (8, .int .i64 t1), (10, .int .i64 t1)] (by kernel_rfl) ?_
      obtain ⟨hc3, h⟩ := of_cond0 h
      refine RegI.op (by kernel_rfl) (OpE.run 11 (by kernel_rfl) (run_indexTab (T0 := 48) (en := en_0) (tab := tab_0) (len := 7) (sz := 2) (j := t1) (v := .agg #[.int .i64 ((rdD tab_0 t1).1), .int .i64 ((rdD tab_0 t1).2)]) (fun _ => rfl) (by kernel_rfl) (by kernel_rfl) rfl hc3 (fun _ => by kernel_rfl)) ?_)
      refine RegI.op (by kernel_rfl) (OpE.box 5 47 [.int .i64 0, .int .i64 0] hH (by kernel_rfl) (by kernel_rfl) ?_)
      intro w4 b5 h6 hb7 hn8
      refine RegI.pure 1 [0, 4, 5, 7, 8, 11] [(0, .int .u8 p0), (4, .int .i64 t1), (5, .pointer (some ⟨b5, 0, none⟩)), (7, .agg (tab_0.flatMap en_0).toArray), (8, .int .i64 t1), (11, .agg #[.int .i64 ((rdD tab_0 t1).1), .int .i64 ((rdD tab_0 t1).2)])] (by kernel_rfl) ?_
      refine RegI.op (by kernel_rfl) (OpE.storeBox 1 47 b5 0 (.agg #[.int .i64 ((rdD tab_0 t1).1), .int .i64 ((rdD tab_0 t1).2)]) [.int .i64 ((rdD tab_0 t1).1), .int .i64 ((rdD tab_0 t1).2)] h6 (by kernel_rfl) (by kernel_rfl) rfl (by kernel_rfl) (by kernel_rfl) (by kernel_rfl) ?_)
      intro w9 h10 hk11
      refine RegI.done (by kernel_rfl) ?_
      refine RunsI.go 1 [.c 18, .c 19, .blk 1, .c 26, .lp 7, .blk 0, .c 27] (by kernel_rfl) ?_
      refine RunsI.region (by kernel_rfl) ?_
      refine RegI.pure 3 [0, 4, 5, 7, 8, 13, 14] [(0, .int .u8 p0), (4, .int .i64 t1), (5, .pointer (some ⟨b5, 0, none⟩)), (7, .agg (tab_0.flatMap en_0).toArray), (8, .int .i64 t1), (13, .int .i64 (IntKind.wrap .i64 p0)), (14, .pointer (some ⟨b5, 0, none⟩))] (by kernel_rfl) ?_
      refine RegI.op (by kernel_rfl) (OpE.loadBox 15 1 3 b5 0 (.int .i64 ((rdD tab_0 t1).1)) h10 (by kernel_rfl) (by kernel_rfl) rfl (by kernel_rfl) ?_)
      refine RegI.pure 2 [0, 4, 5, 6, 7, 8] [(0, .int .u8 p0), (4, .int .i64 t1), (5, .pointer (some ⟨b5, 0, none⟩)), (6, .int .i64 (IntKind.wrap .i64 ((IntKind.wrap .i64 p0) - ((rdD tab_0 t1).1)))), (7, .agg (tab_0.flatMap en_0).toArray), (8, .int .i64 t1)] (by kernel_rfl) ?_
      refine RegI.done (by kernel_rfl) ?_
      refine RunsI.go 1 [.c 20, .c 21, .blk 1, .c 26, .lp 7, .blk 0, .c 27] (by kernel_rfl) ?_
      refine RunsI.region (by kernel_rfl) ?_
      refine RegI.pure 3 [0, 4, 5, 6, 7, 8, 19] [(0, .int .u8 p0), (4, .int .i64 t1), (5, .pointer (some ⟨b5, 0, none⟩)), (6, .int .i64 (IntKind.wrap .i64 ((IntKind.wrap .i64 p0) - ((rdD tab_0 t1).1)))), (7, .agg (tab_0.flatMap en_0).toArray), (8, .int .i64 t1), (19, .bool (decide ((IntKind.wrap .i64 ((IntKind.wrap .i64 p0) - ((rdD tab_0 t1).1))) ≥ 0)))] (by kernel_rfl) ?_
      obtain ⟨j16, hJ17, h⟩ := of_let h
      have hj18 : ∀ (t13 : Bool) (w15 : World), j16 t13 = some x → Holds M0 w0 w15 [cel 0 0 (tab_0.flatMap en_0)] → RegI F7 20 [.c 21, .blk 1, .c 26, .lp 7, .blk 0, .c 27] 8 [(0, .int .u8 p0), (4, .int .i64 t1), (6, .int .i64 (IntKind.wrap .i64 ((IntKind.wrap .i64 p0) - ((rdD tab_0 t1).1)))), (7, .agg (tab_0.flatMap en_0).toArray), (8, .int .i64 t1), (24, .bool t13)] w15 R := by
        intro t13 w15 h h14
        rw [hJ17] at h
        clear hJ17
        dsimp only at h
        refine RegI.done (by kernel_rfl) ?_
        rcases of_cond h with ⟨hc19, h⟩ | ⟨hc19, h⟩
        · skip
          refine RunsI.fix 24 true hc19 (by kernel_rfl) (by kernel_rfl) ?_
          refine RunsI.cond true 22 (by kernel_rfl) ?_
          refine RunsI.go 1 [.c 23, .c 24, .blk 1, .c 26, .lp 7, .blk 0, .c 27] (by kernel_rfl) ?_
          refine RunsI.region (by kernel_rfl) ?_
          refine RegI.pure 4 [2, 3] [(2, .int .i64 t1), (3, .int .i64 (IntKind.wrap .i64 ((IntKind.wrap .i64 p0) - ((rdD tab_0 t1).1))))] (by kernel_rfl) ?_
          refine RegI.done (by kernel_rfl) ?_
          refine RunsI.ret (.tuple #[.int .i64 t1, .int .i64 (IntKind.wrap .i64 ((IntKind.wrap .i64 p0) - ((rdD tab_0 t1).1)))]) (by kernel_rfl) (by kernel_rfl) ?_
          exact hk1 t1 (IntKind.wrap .i64 ((IntKind.wrap .i64 p0) - ((rdD tab_0 t1).1))) w15 (Option.some.inj h).symm (h14.pick [0] (by decide))
        · skip
          refine RunsI.fix 24 false hc19 (by kernel_rfl) (by kernel_rfl) ?_
          refine RunsI.cond false 25 (by kernel_rfl) ?_
          refine RunsI.go 1 [.blk 1, .c 26, .lp 7, .blk 0, .c 27] (by kernel_rfl) ?_
          refine RunsI.go 1 [.c 26, .lp 7, .blk 0, .c 27] (by kernel_rfl) ?_
          refine RunsI.region (by kernel_rfl) ?_
          refine RegI.pure 2 [0, 7, 8] [(0, .int .u8 p0), (7, .agg (tab_0.flatMap en_0).toArray), (8, .int .i64 (IntKind.wrap .i64 (t1 + 1)))] (by kernel_rfl) ?_
          refine RegI.done (by kernel_rfl) ?_
          refine RunsI.go 1 [.c 7, .lp 7, .blk 0, .c 27] (by kernel_rfl) ?_
          refine RunsI.only [0, 7, 8] [(0, .int .u8 p0), (7, .agg (tab_0.flatMap en_0).toArray), (8, .int .i64 (IntKind.wrap .i64 (t1 + 1)))] (by kernel_rfl) (by kernel_rfl) ?_
          exact ih (IntKind.wrap .i64 (t1 + 1)) w15 h (h14.pick [0] (by decide))
      clear hJ17
      rcases of_cond h with ⟨hc12, h⟩ | ⟨hc12, h⟩
      · skip
        refine RegI.fix 19 true hc12 (by kernel_rfl) (by kernel_rfl) ?_
        refine RegI.pure 2 [0, 4, 6, 7, 8, 19, 20, 21] [(0, .int .u8 p0), (4, .int .i64 t1), (6, .int .i64 (IntKind.wrap .i64 ((IntKind.wrap .i64 p0) - ((rdD tab_0 t1).1)))), (7, .agg (tab_0.flatMap en_0).toArray), (8, .int .i64 t1), (19, .bool true), (20, .int .i64 (IntKind.wrap .i64 ((IntKind.wrap .i64 p0) - ((rdD tab_0 t1).1)))), (21, .pointer (some ⟨b5, 1, none⟩))] (by kernel_rfl) ?_
        refine RegI.op (by kernel_rfl) (OpE.loadBox 22 1 3 b5 1 (.int .i64 ((rdD tab_0 t1).2)) h10 (by kernel_rfl) (by kernel_rfl) rfl (by kernel_rfl) ?_)
        refine RegI.pure 2 [0, 4, 6, 7, 8, 20, 21, 22, 23, 24] [(0, .int .u8 p0), (4, .int .i64 t1), (6, .int .i64 (IntKind.wrap .i64 ((IntKind.wrap .i64 p0) - ((rdD tab_0 t1).1)))), (7, .agg (tab_0.flatMap en_0).toArray), (8, .int .i64 t1), (20, .int .i64 (IntKind.wrap .i64 ((IntKind.wrap .i64 p0) - ((rdD tab_0 t1).1)))), (21, .pointer (some ⟨b5, 1, none⟩)), (22, .int .i64 ((rdD tab_0 t1).2)), (23, .bool (decide ((IntKind.wrap .i64 ((IntKind.wrap .i64 p0) - ((rdD tab_0 t1).1))) < ((rdD tab_0 t1).2)))), (24, .bool (decide ((IntKind.wrap .i64 ((IntKind.wrap .i64 p0) - ((rdD tab_0 t1).1))) < ((rdD tab_0 t1).2))))] (by kernel_rfl) ?_
        refine RegI.only [0, 4, 6, 7, 8, 24] [(0, .int .u8 p0), (4, .int .i64 t1), (6, .int .i64 (IntKind.wrap .i64 ((IntKind.wrap .i64 p0) - ((rdD tab_0 t1).1)))), (7, .agg (tab_0.flatMap en_0).toArray), (8, .int .i64 t1), (24, .bool (decide ((IntKind.wrap .i64 ((IntKind.wrap .i64 p0) - ((rdD tab_0 t1).1))) < ((rdD tab_0 t1).2))))] (by kernel_rfl) (by kernel_rfl) ?_
        exact hj18 (decide ((IntKind.wrap .i64 ((IntKind.wrap .i64 p0) - ((rdD tab_0 t1).1))) < ((rdD tab_0 t1).2))) w9 h (h10.pick [0] (by decide))
      · skip
        refine RegI.fix 19 false hc12 (by kernel_rfl) (by kernel_rfl) ?_
        refine RegI.pure 5 [0, 4, 6, 7, 8, 20, 21, 22, 23, 24] [(0, .int .u8 p0), (4, .int .i64 t1), (6, .int .i64 (IntKind.wrap .i64 ((IntKind.wrap .i64 p0) - ((rdD tab_0 t1).1)))), (7, .agg (tab_0.flatMap en_0).toArray), (8, .int .i64 t1), (20, undef), (21, undef), (22, undef), (23, undef), (24, .bool false)] (by kernel_rfl) ?_
        refine RegI.only [0, 4, 6, 7, 8, 24] [(0, .int .u8 p0), (4, .int .i64 t1), (6, .int .i64 (IntKind.wrap .i64 ((IntKind.wrap .i64 p0) - ((rdD tab_0 t1).1)))), (7, .agg (tab_0.flatMap en_0).toArray), (8, .int .i64 t1), (24, .bool false)] (by kernel_rfl) (by kernel_rfl) ?_
        exact hj18 false w9 h (h10.pick [0] (by decide))
    · skip
      refine RunsI.fix 9 false hc2 (by kernel_rfl) (by kernel_rfl) ?_
      refine RunsI.cond false 12 (by kernel_rfl) ?_
      refine RunsI.go 1 [.c 27] (by kernel_rfl) ?_
      refine RunsI.only [] [] (by kernel_rfl) (by kernel_rfl) ?_
      exact hk0 w (Option.some.inj h).symm (hH.pick [0] (by decide))
def latch_Device_7.f (K : Nat) (p0 : Int) : Option (Int × Int) := (latch_Device_7.l0 K p0 K 0).bind (fun x22 => Lp.elim x22 (fun yx22 => some (yx22.1, yx22.2)) (fun _ => some (0, 0)))
set_option maxRecDepth 100000 in
theorem latch_Device_7_ok (K : Nat) (M0 : Nat → Prop) (w0 : World) (p0 : Int) (ho : ∀ b, M0 b → b < w0.heap.size) (hG0 : (cel 0 0 (tab_0.flatMap en_0)).ok w0 M0) {r : Int × Int} (h : latch_Device_7.f K p0 = some r) :
    Calls Tryd.prog 7 #[.int .u8 p0] w0 (latch_Device_7.post M0 w0 r) := by
  unfold latch_Device_7.f at h
  have h0 : Holds M0 w0 w0 [] := Holds.start ho
  have h0g0 := h0.add (cel 0 0 (tab_0.flatMap en_0)) rfl ⟨hG0.1, fun hm => hG0.2.1 (hm.elim id (fun hm => absurd hm (by simp [mines, sl, cel]))), hG0.2.2⟩
  have h0 : Holds M0 w0 w0 [cel 0 0 (tab_0.flatMap en_0)] := h0g0
  refine calls_of F7 rfl [.int .u8 p0] (by kernel_rfl) ?_
  refine RunsI.go 1 [.c 1, .c 2] (by kernel_rfl) ?_
  refine RunsI.region (by kernel_rfl) ?_
  refine RegI.pure 2 [0] [(0, .int .u8 p0)] (by kernel_rfl) ?_
  refine RegI.done (by kernel_rfl) ?_
  refine RunsI.go 2 [.c 4, .c 5, .c 27] (by kernel_rfl) ?_
  refine RunsI.region (by kernel_rfl) ?_
  refine RegI.op (by kernel_rfl) (OpE.loadCel 7 0 48 0 0 0 (.agg (tab_0.flatMap en_0).toArray) h0 (by kernel_rfl) (by kernel_rfl) rfl (by kernel_rfl) ?_)
  refine RegI.pure 1 [0, 7, 8] [(0, .int .u8 p0), (7, .agg (tab_0.flatMap en_0).toArray), (8, .int .i64 0)] (by kernel_rfl) ?_
  refine RegI.done (by kernel_rfl) ?_
  refine RunsI.go 2 [.c 7, .lp 7, .blk 0, .c 27] (by kernel_rfl) ?_
  obtain ⟨x22, hx23, h⟩ := of_bind h
  refine RunsI.only [0, 7, 8] [(0, .int .u8 p0), (7, .agg (tab_0.flatMap en_0).toArray), (8, .int .i64 0)] (by kernel_rfl) (by kernel_rfl) ?_
  refine latch_Device_7.l0_ok K M0 w0 p0 _ x22 ?_ ?_ K 0 w0 hx23 (h0.pick [0] (by decide))
  · intro w25 hq30 h24
    (try rw [hq30] at h)
    dsimp only [Lp.elim] at h
    refine RunsI.go 1 [.c 28, .c 29] (by kernel_rfl) ?_
    refine RunsI.region (by kernel_rfl) ?_
    refine RegI.pure 2 [2, 3] [(2, .int .i64 0), (3, .int .i64 0)] (by kernel_rfl) ?_
    refine RegI.done (by kernel_rfl) ?_
    refine RunsI.ret (.tuple #[.int .i64 0, .int .i64 0]) (by kernel_rfl) (by kernel_rfl) ?_
    obtain rfl := Option.some.inj h
    exact ⟨rfl, h24.below⟩
  · intro t26 t27 w29 hq31 h28
    (try rw [hq31] at h)
    dsimp only [Lp.elim] at h
    obtain rfl := Option.some.inj h
    exact ⟨rfl, h28.below⟩
end

/-! ### charabanc/latch.Port (function 9) -/
section
def latch_Port_9.post (M0 : Nat → Prop) (w0 : World) (r : Int × Bool) : Ending → World → Prop := fun e w => e = .returned (.tuple #[.int .u8 r.1, .bool r.2]) ∧ Below w0.heap.size w0 w
def latch_Port_9.f (K : Nat) (p0 : Int) (p1 : Int) : Option (Int × Bool) := Let (fun (t5 : Bool) => cond t5 (some (0, false)) (cond (inR p0 7) (some ((IntKind.wrap .u8 (IntKind.wrap .i64 (((rdD tab_0 p0).1) + p1))), true)) none)) (fun j8 => cond (decide (p0 < 0)) (j8 true) (cond (decide (p0 ≥ 7)) (j8 true) (cond (decide (p1 < 0)) (j8 true) (cond (inR p0 7) (j8 (decide (p1 ≥ ((rdD tab_0 p0).2)))) none))))
set_option maxRecDepth 100000 in
theorem latch_Port_9_ok (K : Nat) (M0 : Nat → Prop) (w0 : World) (p0 : Int) (p1 : Int) (ho : ∀ b, M0 b → b < w0.heap.size) (hG0 : (cel 0 0 (tab_0.flatMap en_0)).ok w0 M0) {r : Int × Bool} (h : latch_Port_9.f K p0 p1 = some r) :
    Calls Tryd.prog 9 #[.int .i64 p0, .int .i64 p1] w0 (latch_Port_9.post M0 w0 r) := by
  unfold latch_Port_9.f at h
  have h0 : Holds M0 w0 w0 [] := Holds.start ho
  have h0g0 := h0.add (cel 0 0 (tab_0.flatMap en_0)) rfl ⟨hG0.1, fun hm => hG0.2.1 (hm.elim id (fun hm => absurd hm (by simp [mines, sl, cel]))), hG0.2.2⟩
  have h0 : Holds M0 w0 w0 [cel 0 0 (tab_0.flatMap en_0)] := h0g0
  refine calls_of F9 rfl [.int .i64 p0, .int .i64 p1] (by kernel_rfl) ?_
  refine RunsI.go 1 [.c 1, .c 2] (by kernel_rfl) ?_
  refine RunsI.region (by kernel_rfl) ?_
  refine RegI.pure 2 [0, 1] [(0, .int .i64 p0), (1, .int .i64 p1)] (by kernel_rfl) ?_
  refine RegI.done (by kernel_rfl) ?_
  refine RunsI.go 2 [.c 4, .c 5, .c 10] (by kernel_rfl) ?_
  refine RunsI.region (by kernel_rfl) ?_
  refine RegI.pure 3 [0, 1, 8] [(0, .int .i64 p0), (1, .int .i64 p1), (8, .bool (decide (p0 < 0)))] (by kernel_rfl) ?_
  obtain ⟨j8, hJ9, h⟩ := of_let h
  have hj10 : ∀ (t5 : Bool) (w7 : World), j8 t5 = some r → Holds M0 w0 w7 [cel 0 0 (tab_0.flatMap en_0)] → RegI F9 4 [.c 5, .c 10] 18 [(0, .int .i64 p0), (1, .int .i64 p1), (23, .bool t5)] w7 (latch_Port_9.post M0 w0 r) := by
    intro t5 w7 h h6
    rw [hJ9] at h
    clear hJ9
    dsimp only at h
    refine RegI.done (by kernel_rfl) ?_
    rcases of_cond h with ⟨hc11, h⟩ | ⟨hc11, h⟩
    · skip
      refine RunsI.fix 23 true hc11 (by kernel_rfl) (by kernel_rfl) ?_
      refine RunsI.cond true 6 (by kernel_rfl) ?_
      refine RunsI.go 1 [.c 7, .c 8, .c 10] (by kernel_rfl) ?_
      refine RunsI.region (by kernel_rfl) ?_
      refine RegI.pure 2 [4, 5] [(4, .int .u8 0), (5, .bool false)] (by kernel_rfl) ?_
      refine RegI.done (by kernel_rfl) ?_
      refine RunsI.ret (.tuple #[.int .u8 0, .bool false]) (by kernel_rfl) (by kernel_rfl) ?_
      obtain rfl := Option.some.inj h
      exact ⟨rfl, h6.below⟩
    · skip
      refine RunsI.fix 23 false hc11 (by kernel_rfl) (by kernel_rfl) ?_
      refine RunsI.cond false 9 (by kernel_rfl) ?_
      refine RunsI.go 1 [.c 10] (by kernel_rfl) ?_
      refine RunsI.go 1 [.c 11, .c 12] (by kernel_rfl) ?_
      refine RunsI.region (by kernel_rfl) ?_
      refine RegI.pure 1 [1, 24] [(1, .int .i64 p1), (24, .int .i64 p0)] (by kernel_rfl) ?_
      obtain ⟨hc12, h⟩ := of_cond0 h
      refine RegI.op (by kernel_rfl) (OpE.run 25 (by kernel_rfl) (run_idxArr (T := 48) (b := 0) (o := 0) (ix := p0) (len := 7) (s := 2) (by kernel_rfl) (by kernel_rfl) hc12) ?_)
      refine RegI.pure 1 [1, 26] [(1, .int .i64 p1), (26, .pointer (some ⟨0, 0 + (Int.toNat p0) * 2, none⟩))] (by kernel_rfl) ?_
      refine RegI.op (by kernel_rfl) (OpE.loadTab 27 0 3 en_0 tab_0 0 2 p0 (.int .i64 ((rdD tab_0 p0).1)) (o := 0 + (Int.toNat p0) * 2 + 0) h6 (by kernel_rfl) rfl (fun _ => rfl) (by kernel_rfl) (by omega) hc12 (fun _ => by kernel_rfl) ?_)
      refine RegI.pure 5 [4, 5] [(4, .int .u8 (IntKind.wrap .u8 (IntKind.wrap .i64 (((rdD tab_0 p0).1) + p1)))), (5, .bool true)] (by kernel_rfl) ?_
      refine RegI.done (by kernel_rfl) ?_
      refine RunsI.ret (.tuple #[.int .u8 (IntKind.wrap .u8 (IntKind.wrap .i64 (((rdD tab_0 p0).1) + p1))), .bool true]) (by kernel_rfl) (by kernel_rfl) ?_
      obtain rfl := Option.some.inj h
      exact ⟨rfl, h6.below⟩
  clear hJ9
  rcases of_cond h with ⟨hc1, h⟩ | ⟨hc1, h⟩
  · skip
    refine RegI.fix 8 true hc1 (by kernel_rfl) (by kernel_rfl) ?_
    refine RegI.pure 15 [0, 1, 23] [(0, .int .i64 p0), (1, .int .i64 p1), (23, .bool true)] (by kernel_rfl) ?_
    refine RegI.only [0, 1, 23] [(0, .int .i64 p0), (1, .int .i64 p1), (23, .bool true)] (by kernel_rfl) (by kernel_rfl) ?_
    exact hj10 true w0 h (h0.pick [0] (by decide))
  · skip
    refine RegI.fix 8 false hc1 (by kernel_rfl) (by kernel_rfl) ?_
    refine RegI.pure 4 [0, 1, 12] [(0, .int .i64 p0), (1, .int .i64 p1), (12, .bool (decide (p0 ≥ 7)))] (by kernel_rfl) ?_
    rcases of_cond h with ⟨hc2, h⟩ | ⟨hc2, h⟩
    · skip
      refine RegI.fix 12 true hc2 (by kernel_rfl) (by kernel_rfl) ?_
      refine RegI.pure 11 [0, 1, 23] [(0, .int .i64 p0), (1, .int .i64 p1), (23, .bool true)] (by kernel_rfl) ?_
      refine RegI.only [0, 1, 23] [(0, .int .i64 p0), (1, .int .i64 p1), (23, .bool true)] (by kernel_rfl) (by kernel_rfl) ?_
      exact hj10 true w0 h (h0.pick [0] (by decide))
    · skip
      refine RegI.fix 12 false hc2 (by kernel_rfl) (by kernel_rfl) ?_
      refine RegI.pure 4 [0, 1, 16] [(0, .int .i64 p0), (1, .int .i64 p1), (16, .bool (decide (p1 < 0)))] (by kernel_rfl) ?_
      rcases of_cond h with ⟨hc3, h⟩ | ⟨hc3, h⟩
      · skip
        refine RegI.fix 16 true hc3 (by kernel_rfl) (by kernel_rfl) ?_
        refine RegI.pure 7 [0, 1, 23] [(0, .int .i64 p0), (1, .int .i64 p1), (23, .bool true)] (by kernel_rfl) ?_
        refine RegI.only [0, 1, 23] [(0, .int .i64 p0), (1, .int .i64 p1), (23, .bool true)] (by kernel_rfl) (by kernel_rfl) ?_
        exact hj10 true w0 h (h0.pick [0] (by decide))
      · skip
        refine RegI.fix 16 false hc3 (by kernel_rfl) (by kernel_rfl) ?_
        refine RegI.pure 2 [0, 1, 16, 17, 18] [(0, .int .i64 p0), (1, .int .i64 p1), (16, .bool false), (17, .int .i64 p1), (18, .int .i64 p0)] (by kernel_rfl) ?_
        obtain ⟨hc4, h⟩ := of_cond0 h
        refine RegI.op (by kernel_rfl) (OpE.run 19 (by kernel_rfl) (run_idxArr (T := 48) (b := 0) (o := 0) (ix := p0) (len := 7) (s := 2) (by kernel_rfl) (by kernel_rfl) hc4) ?_)
        refine RegI.pure 1 [0, 1, 16, 17, 20] [(0, .int .i64 p0), (1, .int .i64 p1), (16, .bool false), (17, .int .i64 p1), (20, .pointer (some ⟨0, 0 + (Int.toNat p0) * 2 + 1, none⟩))] (by kernel_rfl) ?_
        refine RegI.op (by kernel_rfl) (OpE.loadTab 21 0 3 en_0 tab_0 1 2 p0 (.int .i64 ((rdD tab_0 p0).2)) (o := 0 + (Int.toNat p0) * 2 + 1) h0 (by kernel_rfl) rfl (fun _ => rfl) (by kernel_rfl) (by omega) hc4 (fun _ => by kernel_rfl) ?_)
        refine RegI.pure 2 [0, 1, 23] [(0, .int .i64 p0), (1, .int .i64 p1), (23, .bool (decide (p1 ≥ ((rdD tab_0 p0).2))))] (by kernel_rfl) ?_
        refine RegI.only [0, 1, 23] [(0, .int .i64 p0), (1, .int .i64 p1), (23, .bool (decide (p1 ≥ ((rdD tab_0 p0).2))))] (by kernel_rfl) (by kernel_rfl) ?_
        exact hj10 (decide (p1 ≥ ((rdD tab_0 p0).2))) w0 h (h0.pick [0] (by decide))
end

/-! ### charabanc/latch.Read (function 14) -/
section
def latch_Read_14.post (M0 : Nat → Prop) (w0 : World) (r : Bool × Int × Int) : Ending → World → Prop := fun e w => e = .returned (.tuple #[.agg #[.bool r.1, .int .i64 r.2.1], .int .u8 r.2.2]) ∧ Below w0.heap.size w0 w
def latch_Read_14.f (K : Nat) (p0_0 : Bool) (p0_1 : Int) (p1 : Int) : Option (Bool × Int × Int) := cond p0_0 (some (p0_0, p0_1, 255)) (some (true, p1, 0))
set_option maxRecDepth 100000 in
theorem latch_Read_14_ok (K : Nat) (M0 : Nat → Prop) (w0 : World) (p0_0 : Bool) (p0_1 : Int) (p1 : Int) (ho : ∀ b, M0 b → b < w0.heap.size) {r : Bool × Int × Int} (h : latch_Read_14.f K p0_0 p0_1 p1 = some r) :
    Calls Tryd.prog 14 #[.agg #[.bool p0_0, .int .i64 p0_1], .int .i64 p1] w0 (latch_Read_14.post M0 w0 r) := by
  unfold latch_Read_14.f at h
  have h0 : Holds M0 w0 w0 [] := Holds.start ho
  have h0 : Holds M0 w0 w0 [] := h0
  refine calls_of F14 rfl [.agg #[.bool p0_0, .int .i64 p0_1], .int .i64 p1] (by kernel_rfl) ?_
  refine RunsI.go 1 [.c 1, .c 2] (by kernel_rfl) ?_
  refine RunsI.region (by kernel_rfl) ?_
  refine RegI.op (by kernel_rfl) (OpE.box 2 29 [.bool p0_0, .int .i64 p0_1] h0 (by kernel_rfl) (by kernel_rfl) ?_)
  intro w1 b2 h3 hb4 hn5
  refine RegI.op (by kernel_rfl) (OpE.box 4 29 [.bool false, .int .i64 0] h3 (by kernel_rfl) (by kernel_rfl) ?_)
  intro w6 b7 h8 hb9 hn10
  refine RegI.pure 1 [1, 2, 4] [(1, .int .i64 p1), (2, .pointer (some ⟨b2, 0, none⟩)), (4, .pointer (some ⟨b7, 0, none⟩))] (by kernel_rfl) ?_
  refine RegI.done (by kernel_rfl) ?_
  refine RunsI.go 2 [.c 4, .c 5, .c 10] (by kernel_rfl) ?_
  refine RunsI.region (by kernel_rfl) ?_
  refine RegI.pure 1 [1, 2, 4, 6] [(1, .int .i64 p1), (2, .pointer (some ⟨b2, 0, none⟩)), (4, .pointer (some ⟨b7, 0, none⟩)), (6, .pointer (some ⟨b2, 0, none⟩))] (by kernel_rfl) ?_
  refine RegI.op (by kernel_rfl) (OpE.loadBox 7 0 4 b2 0 (.bool p0_0) h8 (by kernel_rfl) (by kernel_rfl) rfl (by kernel_rfl) ?_)
  refine RegI.done (by kernel_rfl) ?_
  rcases of_cond h with ⟨hc11, h⟩ | ⟨hc11, h⟩
  · skip
    refine RunsI.fix 7 true hc11 (by kernel_rfl) (by kernel_rfl) ?_
    refine RunsI.cond true 6 (by kernel_rfl) ?_
    refine RunsI.go 1 [.c 7, .c 8, .c 10] (by kernel_rfl) ?_
    refine RunsI.region (by kernel_rfl) ?_
    refine RegI.op (by kernel_rfl) (OpE.loadBox 8 0 29 b2 0 (.agg #[.bool p0_0, .int .i64 p0_1]) h8 (by kernel_rfl) (by kernel_rfl) rfl (by kernel_rfl) ?_)
    refine RegI.op (by kernel_rfl) (OpE.storeBox 1 29 b7 0 (.agg #[.bool p0_0, .int .i64 p0_1]) [.bool p0_0, .int .i64 p0_1] h8 (by kernel_rfl) (by kernel_rfl) rfl (by kernel_rfl) (by kernel_rfl) (by kernel_rfl) ?_)
    intro w12 h13 hk14
    refine RegI.pure 1 [4, 5] [(4, .pointer (some ⟨b7, 0, none⟩)), (5, .int .u8 255)] (by kernel_rfl) ?_
    refine RegI.done (by kernel_rfl) ?_
    refine RunsI.retW [.cell 4 29, .tmp 5] [.agg #[.bool p0_0, .int .i64 p0_1], .int .u8 255] (.tuple #[.agg #[.bool p0_0, .int .i64 p0_1], .int .u8 255]) (by kernel_rfl) (by kernel_rfl) (ResAt.box 1 29 b7 0 h13 (by kernel_rfl) (by kernel_rfl) rfl (by kernel_rfl) (ResAt.tmp (by kernel_rfl) (by kernel_rfl) rfl)) (by kernel_rfl) ?_
    obtain rfl := Option.some.inj h
    exact ⟨rfl, h13.below⟩
  · skip
    refine RunsI.fix 7 false hc11 (by kernel_rfl) (by kernel_rfl) ?_
    refine RunsI.cond false 9 (by kernel_rfl) ?_
    refine RunsI.go 1 [.c 10] (by kernel_rfl) ?_
    refine RunsI.go 1 [.c 11, .c 12] (by kernel_rfl) ?_
    refine RunsI.region (by kernel_rfl) ?_
    refine RegI.pure 2 [4, 10] [(4, .pointer (some ⟨b7, 0, none⟩)), (10, .agg #[.bool true, .int .i64 p1])] (by kernel_rfl) ?_
    refine RegI.op (by kernel_rfl) (OpE.storeBox 1 29 b7 0 (.agg #[.bool true, .int .i64 p1]) [.bool true, .int .i64 p1] h8 (by kernel_rfl) (by kernel_rfl) rfl (by kernel_rfl) (by kernel_rfl) (by kernel_rfl) ?_)
    intro w15 h16 hk17
    refine RegI.pure 1 [4, 5] [(4, .pointer (some ⟨b7, 0, none⟩)), (5, .int .u8 0)] (by kernel_rfl) ?_
    refine RegI.done (by kernel_rfl) ?_
    refine RunsI.retW [.cell 4 29, .tmp 5] [.agg #[.bool true, .int .i64 p1], .int .u8 0] (.tuple #[.agg #[.bool true, .int .i64 p1], .int .u8 0]) (by kernel_rfl) (by kernel_rfl) (ResAt.box 1 29 b7 0 h16 (by kernel_rfl) (by kernel_rfl) rfl (by kernel_rfl) (ResAt.tmp (by kernel_rfl) (by kernel_rfl) rfl)) (by kernel_rfl) ?_
    obtain rfl := Option.some.inj h
    exact ⟨rfl, h16.below⟩
end

/-! ### charabanc/latch.Write (function 16) -/
section
def latch_Write_16.post (M0 : Nat → Prop) (w0 : World) (r : Bool × Int) : Ending → World → Prop := fun e w => e = .returned (.agg #[.bool r.1, .int .i64 r.2]) ∧ Below w0.heap.size w0 w
def latch_Write_16.f (K : Nat) (p0_0 : Bool) (p0_1 : Int) (p1 : Int) : Option (Bool × Int) := cond ((band .u8 p1 1) == 0) (some (false, 0)) (some (p0_0, p0_1))
set_option maxRecDepth 100000 in
theorem latch_Write_16_ok (K : Nat) (M0 : Nat → Prop) (w0 : World) (p0_0 : Bool) (p0_1 : Int) (p1 : Int) (ho : ∀ b, M0 b → b < w0.heap.size) {r : Bool × Int} (h : latch_Write_16.f K p0_0 p0_1 p1 = some r) :
    Calls Tryd.prog 16 #[.agg #[.bool p0_0, .int .i64 p0_1], .int .u8 p1] w0 (latch_Write_16.post M0 w0 r) := by
  unfold latch_Write_16.f at h
  have h0 : Holds M0 w0 w0 [] := Holds.start ho
  have h0 : Holds M0 w0 w0 [] := h0
  refine calls_of F16 rfl [.agg #[.bool p0_0, .int .i64 p0_1], .int .u8 p1] (by kernel_rfl) ?_
  refine RunsI.go 1 [.c 1, .c 2] (by kernel_rfl) ?_
  refine RunsI.region (by kernel_rfl) ?_
  refine RegI.op (by kernel_rfl) (OpE.box 2 29 [.bool p0_0, .int .i64 p0_1] h0 (by kernel_rfl) (by kernel_rfl) ?_)
  intro w1 b2 h3 hb4 hn5
  refine RegI.op (by kernel_rfl) (OpE.box 4 29 [.bool false, .int .i64 0] h3 (by kernel_rfl) (by kernel_rfl) ?_)
  intro w6 b7 h8 hb9 hn10
  refine RegI.done (by kernel_rfl) ?_
  refine RunsI.go 2 [.c 4, .c 5, .c 10] (by kernel_rfl) ?_
  refine RunsI.region (by kernel_rfl) ?_
  refine RegI.pure 3 [2, 4, 7] [(2, .pointer (some ⟨b2, 0, none⟩)), (4, .pointer (some ⟨b7, 0, none⟩)), (7, .bool ((band .u8 p1 1) == 0))] (by kernel_rfl) ?_
  refine RegI.done (by kernel_rfl) ?_
  rcases of_cond h with ⟨hc11, h⟩ | ⟨hc11, h⟩
  · skip
    refine RunsI.fix 7 true hc11 (by kernel_rfl) (by kernel_rfl) ?_
    refine RunsI.cond true 6 (by kernel_rfl) ?_
    refine RunsI.go 1 [.c 7, .c 8, .c 10] (by kernel_rfl) ?_
    refine RunsI.region (by kernel_rfl) ?_
    refine RegI.pure 1 [4, 8] [(4, .pointer (some ⟨b7, 0, none⟩)), (8, .agg #[.bool false, .int .i64 0])] (by kernel_rfl) ?_
    refine RegI.op (by kernel_rfl) (OpE.storeBox 1 29 b7 0 (.agg #[.bool false, .int .i64 0]) [.bool false, .int .i64 0] h8 (by kernel_rfl) (by kernel_rfl) rfl (by kernel_rfl) (by kernel_rfl) (by kernel_rfl) ?_)
    intro w12 h13 hk14
    refine RegI.done (by kernel_rfl) ?_
    refine RunsI.retW [.cell 4 29] [.agg #[.bool false, .int .i64 0]] (.agg #[.bool false, .int .i64 0]) (by kernel_rfl) (by kernel_rfl) (ResAt.box 1 29 b7 0 h13 (by kernel_rfl) (by kernel_rfl) rfl (by kernel_rfl) rfl) (by kernel_rfl) ?_
    obtain rfl := Option.some.inj h
    exact ⟨rfl, h13.below⟩
  · skip
    refine RunsI.fix 7 false hc11 (by kernel_rfl) (by kernel_rfl) ?_
    refine RunsI.cond false 9 (by kernel_rfl) ?_
    refine RunsI.go 1 [.c 10] (by kernel_rfl) ?_
    refine RunsI.go 1 [.c 11, .c 12] (by kernel_rfl) ?_
    refine RunsI.region (by kernel_rfl) ?_
    refine RegI.op (by kernel_rfl) (OpE.loadBox 9 0 29 b2 0 (.agg #[.bool p0_0, .int .i64 p0_1]) h8 (by kernel_rfl) (by kernel_rfl) rfl (by kernel_rfl) ?_)
    refine RegI.op (by kernel_rfl) (OpE.storeBox 1 29 b7 0 (.agg #[.bool p0_0, .int .i64 p0_1]) [.bool p0_0, .int .i64 p0_1] h8 (by kernel_rfl) (by kernel_rfl) rfl (by kernel_rfl) (by kernel_rfl) (by kernel_rfl) ?_)
    intro w15 h16 hk17
    refine RegI.done (by kernel_rfl) ?_
    refine RunsI.retW [.cell 4 29] [.agg #[.bool p0_0, .int .i64 p0_1]] (.agg #[.bool p0_0, .int .i64 p0_1]) (by kernel_rfl) (by kernel_rfl) (ResAt.box 1 29 b7 0 h16 (by kernel_rfl) (by kernel_rfl) rfl (by kernel_rfl) rfl) (by kernel_rfl) ?_
    obtain rfl := Option.some.inj h
    exact ⟨rfl, h16.below⟩
end

/-! ### (charabanc/latch.Latch).act (function 18) -/
section
def latch_Latch_act_18.post (M0 : Nat → Prop) (w0 : World) (r : Bool × Int × (List Int)) : Ending → World → Prop := fun e w => ∃ (A3 : Option Addr) (c3 : Nat), e = .returned (.tuple #[.agg #[.bool r.1, .int .i64 r.2.1], .slice A3 r.2.2.length c3]) ∧ Holds M0 w0 w [own (Rp.int .u8) 5 (.slice A3 r.2.2.length c3) r.2.2]
def latch_Latch_act_18.f (K : Nat) (p0_0 : Bool) (p0_1 : Int) (p1 : Int) : Option (Bool × Int × (List Int)) := cond (p1 == 0) ((latch_Write_16.f K p0_0 p0_1 0).bind fun yt16 => some (yt16.1, yt16.2, ([] : List Int))) (cond (decide (p1 < 0)) ((latch_Write_16.f K p0_0 p0_1 1).bind fun yt26 => some (yt26.1, yt26.2, ([] : List Int))) ((latch_Read_14.f K p0_0 p0_1 p1).bind fun yt35 => some (yt35.1, yt35.2.1, [yt35.2.2])))
set_option maxRecDepth 100000 in
theorem latch_Latch_act_18_ok (K : Nat) (M0 : Nat → Prop) (w0 : World) (p0_0 : Bool) (p0_1 : Int) (p1 : Int) (ho : ∀ b, M0 b → b < w0.heap.size) {r : Bool × Int × (List Int)} (h : latch_Latch_act_18.f K p0_0 p0_1 p1 = some r) :
    Calls Tryd.prog 18 #[.agg #[.bool p0_0, .int .i64 p0_1], .int .i64 p1] w0 (latch_Latch_act_18.post M0 w0 r) := by
  unfold latch_Latch_act_18.f at h
  have h0 : Holds M0 w0 w0 [] := Holds.start ho
  have h0 : Holds M0 w0 w0 [] := h0
  refine calls_of F18 rfl [.agg #[.bool p0_0, .int .i64 p0_1], .int .i64 p1] (by kernel_rfl) ?_
  refine RunsI.go 1 [.c 1, .c 2] (by kernel_rfl) ?_
  refine RunsI.region (by kernel_rfl) ?_
  refine RegI.op (by kernel_rfl) (OpE.box 2 29 [.bool p0_0, .int .i64 p0_1] h0 (by kernel_rfl) (by kernel_rfl) ?_)
  intro w1 b2 h3 hb4 hn5
  refine RegI.op (by kernel_rfl) (OpE.box 4 29 [.bool false, .int .i64 0] h3 (by kernel_rfl) (by kernel_rfl) ?_)
  intro w6 b7 h8 hb9 hn10
  refine RegI.pure 1 [1, 2, 4] [(1, .int .i64 p1), (2, .pointer (some ⟨b2, 0, none⟩)), (4, .pointer (some ⟨b7, 0, none⟩))] (by kernel_rfl) ?_
  refine RegI.done (by kernel_rfl) ?_
  refine RunsI.go 3 [.c 5, .c 6, .blk 0, .c 17] (by kernel_rfl) ?_
  refine RunsI.region (by kernel_rfl) ?_
  refine RegI.pure 3 [1, 2, 4, 8] [(1, .int .i64 p1), (2, .pointer (some ⟨b2, 0, none⟩)), (4, .pointer (some ⟨b7, 0, none⟩)), (8, .bool (p1 == 0))] (by kernel_rfl) ?_
  refine RegI.done (by kernel_rfl) ?_
  rcases of_cond h with ⟨hc11, h⟩ | ⟨hc11, h⟩
  · skip
    refine RunsI.fix 8 true hc11 (by kernel_rfl) (by kernel_rfl) ?_
    refine RunsI.cond true 7 (by kernel_rfl) ?_
    refine RunsI.go 1 [.c 8, .c 9, .blk 0, .c 17] (by kernel_rfl) ?_
    refine RunsI.region (by kernel_rfl) ?_
    refine RegI.op (by kernel_rfl) (OpE.loadBox 11 0 29 b2 0 (.agg #[.bool p0_0, .int .i64 p0_1]) h8 (by kernel_rfl) (by kernel_rfl) rfl (by kernel_rfl) ?_)
    obtain ⟨⟨t16, t17⟩, hg15, h⟩ := of_bind h
    dsimp only at h
    refine RegI.op (by kernel_rfl) (OpE.call 12 (by kernel_rfl) 16 #[.agg #[.bool p0_0, .int .i64 p0_1], .int .u8 0] (by kernel_rfl) ((latch_Write_16_ok K _ w6  p0_0 p0_1 0 h8.old' hg15).mono ?_))
    rintro _ w12 ⟨rfl, hb13⟩
    refine ⟨_, rfl, ?_⟩
    have h14 := h8.call hb13
    refine RegI.op (by kernel_rfl) (OpE.storeBox 1 29 b7 0 (.agg #[.bool t16, .int .i64 t17]) [.bool t16, .int .i64 t17] h14 (by kernel_rfl) (by kernel_rfl) rfl (by kernel_rfl) (by kernel_rfl) (by kernel_rfl) ?_)
    intro w18 h19 hk20
    refine RegI.pure 1 [4, 5] [(4, .pointer (some ⟨b7, 0, none⟩)), (5, .slice none 0 0)] (by kernel_rfl) ?_
    refine RegI.done (by kernel_rfl) ?_
    refine RunsI.retW [.cell 4 29, .tmp 5] [.agg #[.bool t16, .int .i64 t17], .slice none 0 0] (.tuple #[.agg #[.bool t16, .int .i64 t17], .slice none 0 0]) (by kernel_rfl) (by kernel_rfl) (ResAt.box 1 29 b7 0 h19 (by kernel_rfl) (by kernel_rfl) rfl (by kernel_rfl) (ResAt.tmp (by kernel_rfl) (by kernel_rfl) rfl)) (by kernel_rfl) ?_
    have h54 := h19.addOwnNil (Rp.int .u8) 5
    obtain rfl := Option.some.inj h
    exact ⟨none, 0, rfl, h54.pick [2] (by decide)⟩
  · skip
    refine RunsI.fix 8 false hc11 (by kernel_rfl) (by kernel_rfl) ?_
    refine RunsI.cond false 10 (by kernel_rfl) ?_
    refine RunsI.go 1 [.c 11, .c 12, .blk 0, .c 17] (by kernel_rfl) ?_
    refine RunsI.region (by kernel_rfl) ?_
    refine RegI.pure 3 [1, 2, 4, 13] [(1, .int .i64 p1), (2, .pointer (some ⟨b2, 0, none⟩)), (4, .pointer (some ⟨b7, 0, none⟩)), (13, .bool (decide (p1 < 0)))] (by kernel_rfl) ?_
    refine RegI.done (by kernel_rfl) ?_
    rcases of_cond h with ⟨hc21, h⟩ | ⟨hc21, h⟩
    · skip
      refine RunsI.fix 13 true hc21 (by kernel_rfl) (by kernel_rfl) ?_
      refine RunsI.cond true 13 (by kernel_rfl) ?_
      refine RunsI.go 1 [.c 14, .c 15, .blk 0, .c 17] (by kernel_rfl) ?_
      refine RunsI.region (by kernel_rfl) ?_
      refine RegI.op (by kernel_rfl) (OpE.loadBox 16 0 29 b2 0 (.agg #[.bool p0_0, .int .i64 p0_1]) h8 (by kernel_rfl) (by kernel_rfl) rfl (by kernel_rfl) ?_)
      obtain ⟨⟨t26, t27⟩, hg25, h⟩ := of_bind h
      dsimp only at h
      refine RegI.op (by kernel_rfl) (OpE.call 17 (by kernel_rfl) 16 #[.agg #[.bool p0_0, .int .i64 p0_1], .int .u8 1] (by kernel_rfl) ((latch_Write_16_ok K _ w6  p0_0 p0_1 1 h8.old' hg25).mono ?_))
      rintro _ w22 ⟨rfl, hb23⟩
      refine ⟨_, rfl, ?_⟩
      have h24 := h8.call hb23
      refine RegI.op (by kernel_rfl) (OpE.storeBox 1 29 b7 0 (.agg #[.bool t26, .int .i64 t27]) [.bool t26, .int .i64 t27] h24 (by kernel_rfl) (by kernel_rfl) rfl (by kernel_rfl) (by kernel_rfl) (by kernel_rfl) ?_)
      intro w28 h29 hk30
      refine RegI.pure 1 [4, 5] [(4, .pointer (some ⟨b7, 0, none⟩)), (5, .slice none 0 0)] (by kernel_rfl) ?_
      refine RegI.done (by kernel_rfl) ?_
      refine RunsI.retW [.cell 4 29, .tmp 5] [.agg #[.bool t26, .int .i64 t27], .slice none 0 0] (.tuple #[.agg #[.bool t26, .int .i64 t27], .slice none 0 0]) (by kernel_rfl) (by kernel_rfl) (ResAt.box 1 29 b7 0 h29 (by kernel_rfl) (by kernel_rfl) rfl (by kernel_rfl) (ResAt.tmp (by kernel_rfl) (by kernel_rfl) rfl)) (by kernel_rfl) ?_
      have h55 := h29.addOwnNil (Rp.int .u8) 5
      obtain rfl := Option.some.inj h
      exact ⟨none, 0, rfl, h55.pick [2] (by decide)⟩
    · skip
      refine RunsI.fix 13 false hc21 (by kernel_rfl) (by kernel_rfl) ?_
      refine RunsI.cond false 16 (by kernel_rfl) ?_
      refine RunsI.go 1 [.blk 0, .c 17] (by kernel_rfl) ?_
      refine RunsI.go 2 [.c 18, .c 19] (by kernel_rfl) ?_
      refine RunsI.region (by kernel_rfl) ?_
      refine RegI.op (by kernel_rfl) (OpE.loadBox 19 0 29 b2 0 (.agg #[.bool p0_0, .int .i64 p0_1]) h8 (by kernel_rfl) (by kernel_rfl) rfl (by kernel_rfl) ?_)
      refine RegI.pure 1 [4, 19, 20] [(4, .pointer (some ⟨b7, 0, none⟩)), (19, .agg #[.bool p0_0, .int .i64 p0_1]), (20, .int .i64 p1)] (by kernel_rfl) ?_
      obtain ⟨⟨t35, t36, t37⟩, hg34, h⟩ := of_bind h
      dsimp only at h
      refine RegI.op (by kernel_rfl) (OpE.call 21 (by kernel_rfl) 14 #[.agg #[.bool p0_0, .int .i64 p0_1], .int .i64 p1] (by kernel_rfl) ((latch_Read_14_ok K _ w6  p0_0 p0_1 p1 h8.old' hg34).mono ?_))
      rintro _ w31 ⟨rfl, hb32⟩
      refine ⟨_, rfl, ?_⟩
      have h33 := h8.call hb32
      refine RegI.pure 3 [4, 22, 23] [(4, .pointer (some ⟨b7, 0, none⟩)), (22, .agg #[.bool t35, .int .i64 t36]), (23, .int .u8 t37)] (by kernel_rfl) ?_
      refine RegI.op (by kernel_rfl) (OpE.box 6 29 [.bool false, .int .i64 0] h33 (by kernel_rfl) (by kernel_rfl) ?_)
      intro w38 b39 h40 hb41 hn42
      refine RegI.op (by kernel_rfl) (OpE.storeBox 2 29 b39 0 (.agg #[.bool t35, .int .i64 t36]) [.bool t35, .int .i64 t36] h40 (by kernel_rfl) (by kernel_rfl) rfl (by kernel_rfl) (by kernel_rfl) (by kernel_rfl) ?_)
      intro w43 h44 hk45
      refine RegI.pure 1 [4, 6, 7] [(4, .pointer (some ⟨b7, 0, none⟩)), (6, .pointer (some ⟨b39, 0, none⟩)), (7, .int .u8 t37)] (by kernel_rfl) ?_
      refine RegI.done (by kernel_rfl) ?_
      refine RunsI.go 1 [.c 20, .c 21] (by kernel_rfl) ?_
      refine RunsI.region (by kernel_rfl) ?_
      refine RegI.op (by kernel_rfl) (OpE.loadBox 24 2 29 b39 0 (.agg #[.bool t35, .int .i64 t36]) h44 (by kernel_rfl) (by kernel_rfl) rfl (by kernel_rfl) ?_)
      refine RegI.pure 1 [4, 24, 25] [(4, .pointer (some ⟨b7, 0, none⟩)), (24, .agg #[.bool t35, .int .i64 t36]), (25, .int .u8 t37)] (by kernel_rfl) ?_
      refine RegI.op (by kernel_rfl) (OpE.lit 26 5 [.int .u8 t37] 1 h44 (by kernel_rfl) (by kernel_rfl) ?_)
      intro w46 b47 h48 hb49 hn50
      refine RegI.op (by kernel_rfl) (OpE.storeBox 1 29 b7 0 (.agg #[.bool t35, .int .i64 t36]) [.bool t35, .int .i64 t36] h48 (by kernel_rfl) (by kernel_rfl) rfl (by kernel_rfl) (by kernel_rfl) (by kernel_rfl) ?_)
      intro w51 h52 hk53
      refine RegI.pure 1 [4, 5] [(4, .pointer (some ⟨b7, 0, none⟩)), (5, .slice (some ⟨b47, 0, none⟩) ([t37].length) 1)] (by kernel_rfl) ?_
      refine RegI.done (by kernel_rfl) ?_
      refine RunsI.retW [.cell 4 29, .tmp 5] [.agg #[.bool t35, .int .i64 t36], .slice (some ⟨b47, 0, none⟩) ([t37].length) 1] (.tuple #[.agg #[.bool t35, .int .i64 t36], .slice (some ⟨b47, 0, none⟩) ([t37].length) 1]) (by kernel_rfl) (by kernel_rfl) (ResAt.box 1 29 b7 0 h52 (by kernel_rfl) (by kernel_rfl) rfl (by kernel_rfl) (ResAt.tmp (by kernel_rfl) (by kernel_rfl) rfl)) (by kernel_rfl) ?_
      have h56 := h52.boxOwn 3 rfl (Rp.int .u8) [t37] (cells_int _ _ _ _) (Nat.le_of_ble_eq_true (by kernel_rfl))
      obtain rfl := Option.some.inj h
      exact ⟨(some ⟨b47, 0, none⟩), 1, rfl, h56.pick [3] (by decide)⟩
end

/-! ### charabanc/latch.Play (function 11) -/
section
def latch_Play_11.post (M0 : Nat → Prop) (w0 : World) (r : Bool × Int × (List Int)) : Ending → World → Prop := fun e w => ∃ (A3 : Option Addr) (c3 : Nat), e = .returned (.tuple #[.agg #[.bool r.1, .int .i64 r.2.1], .slice A3 r.2.2.length c3]) ∧ Holds M0 w0 w [own (Rp.int .u8) 5 (.slice A3 r.2.2.length c3) r.2.2]
def latch_Play_11.l0 (K : Nat) (p0_0 : Bool) (p0_1 : Int) (p1 : List Int) : Nat → Bool → Int → (List Int) → Int → Option (Bool × Int × (List Int))
  | 0, _, _, _, _ => none
  | k + 1, t13, t14, t18, t19 => cond (decide (t19 < (p1.length : Int))) (cond (inR t19 p1.length) ((latch_Latch_act_18.f K t13 t14 (rdD p1 t19)).bind fun yt31 => cond (mayBe (t18.length + yt31.2.2.length) 1) (latch_Play_11.l0 K p0_0 p0_1 p1 k yt31.1 yt31.2.1 (t18 ++ yt31.2.2) (IntKind.wrap .i64 (t19 + 1))) none) none) (some (t13, t14, t18))
set_option maxRecDepth 100000 in
theorem latch_Play_11.l0_ok (K : Nat) (M0 : Nat → Prop) (w0 : World) (pA1 : Option Addr) (pc1 : Nat) (p0_0 : Bool) (p0_1 : Int) (p1 : List Int) (b12 : Nat) (b15 : Nat) (R : Ending → World → Prop) (x : Bool × Int × (List Int)) (hk0 : ∀ (t72 : Bool) (t73 : Int) (t76 : List Int) (A74 : Option Addr) (c75 : Nat) (w1 : World), x = (t72, t73, t76) → Holds M0 w0 w1 [box b12 29 [.bool t72, .int .i64 t73], box b15 29 [.bool false, .int .i64 0], own (Rp.int .u8) 5 (.slice A74 t76.length c75) t76] → RunsI F11 [.c 23] [(2, .pointer (some ⟨b12, 0, none⟩)), (4, .pointer (some ⟨b15, 0, none⟩)), (6, .slice A74 t76.length c75)] w1 R) :
    ∀ (k : Nat) (t13 : Bool) (t14 : Int) (t18 : List Int) (t19 : Int) (A16 : Option Addr) (c17 : Nat) (w : World), latch_Play_11.l0 K p0_0 p0_1 p1 k t13 t14 t18 t19 = some x → Holds M0 w0 w [box b12 29 [.bool t13, .int .i64 t14], box b15 29 [.bool false, .int .i64 0], own (Rp.int .u8) 5 (.slice A16 t18.length c17) t18, sl (Rp.int .i64) (.slice pA1 p1.length pc1) p1] → RunsI F11 [.c 9, .lp 9, .blk 0, .c 23] [(2, .pointer (some ⟨b12, 0, none⟩)), (4, .pointer (some ⟨b15, 0, none⟩)), (6, .slice A16 t18.length c17), (11, .slice pA1 p1.length pc1), (12, .int .i64 (p1.length : Int)), (13, .int .i64 t19)] w R := by
  intro k
  induction k with
  | zero => intro t13 t14 t18 t19 A16 c17 w h hH; exact absurd h (by simp [latch_Play_11.l0])
  | succ k ih =>
    intro t13 t14 t18 t19 A16 c17 w h hH
    rw [latch_Play_11.l0.eq_2] at h
    refine RunsI.go 1 [.c 10, .c 11, .lp 9, .blk 0, .c 23] (by kernel_rfl) ?_
    refine RunsI.region (by kernel_rfl) ?_
    refine RegI.pure 1 [2, 4, 6, 11, 12, 13, 14] [(2, .pointer (some ⟨b12, 0, none⟩)), (4, .pointer (some ⟨b15, 0, none⟩)), (6, .slice A16 t18.length c17), (11, .slice pA1 p1.length pc1), (12, .int .i64 (p1.length : Int)), (13, .int .i64 t19), (14, .bool (decide (t19 < (p1.length : Int))))] (by kernel_rfl) ?_
    refine RegI.done (by kernel_rfl) ?_
    refine RunsI.go 1 [.c 12, .c 15, .lp 9, .blk 0, .c 23] (by kernel_rfl) ?_
    rcases of_cond h with ⟨hc20, h⟩ | ⟨hc20, h⟩
    · skip
      refine RunsI.fix 14 true hc20 (by kernel_rfl) (by kernel_rfl) ?_
      refine RunsI.cond true 13 (by kernel_rfl) ?_
      refine RunsI.go 1 [.c 15, .lp 9, .blk 0, .c 23] (by kernel_rfl) ?_
      refine RunsI.go 3 [.c 18, .c 19, .blk 1, .c 22, .lp 9, .blk 0, .c 23] (by kernel_rfl) ?_
      refine RunsI.region (by kernel_rfl) ?_
      obtain ⟨hc21, h⟩ := of_cond0 h
      refine RegI.op (by kernel_rfl) (OpE.idxSl 15 3 30 t19 hH (by kernel_rfl) rfl (by kernel_rfl) (by kernel_rfl) hc21 ?_)
      intro b22 o23 cs24 hk25 h26
      obtain rfl := hk25
      refine RegI.op (by kernel_rfl) (OpE.loadCel 16 4 3 b22 o23 0 (.int .i64 (rdD p1 t19)) h26 (by kernel_rfl) (by kernel_rfl) rfl (by kernel_rfl) ?_)
      refine RegI.pure 1 [2, 4, 6, 8, 11, 12, 13] [(2, .pointer (some ⟨b12, 0, none⟩)), (4, .pointer (some ⟨b15, 0, none⟩)), (6, .slice A16 t18.length c17), (8, .int .i64 (rdD p1 t19)), (11, .slice pA1 p1.length pc1), (12, .int .i64 (p1.length : Int)), (13, .int .i64 t19)] (by kernel_rfl) ?_
      refine RegI.done (by kernel_rfl) ?_
      refine RunsI.go 1 [.c 20, .c 21, .blk 1, .c 22, .lp 9, .blk 0, .c 23] (by kernel_rfl) ?_
      refine RunsI.region (by kernel_rfl) ?_
      refine RegI.op (by kernel_rfl) (OpE.loadBox 18 0 29 b12 0 (.agg #[.bool t13, .int .i64 t14]) h26 (by kernel_rfl) (by kernel_rfl) rfl (by kernel_rfl) ?_)
      refine RegI.pure 1 [2, 4, 6, 11, 12, 13, 18, 19] [(2, .pointer (some ⟨b12, 0, none⟩)), (4, .pointer (some ⟨b15, 0, none⟩)), (6, .slice A16 t18.length c17), (11, .slice pA1 p1.length pc1), (12, .int .i64 (p1.length : Int)), (13, .int .i64 t19), (18, .agg #[.bool t13, .int .i64 t14]), (19, .int .i64 (rdD p1 t19))] (by kernel_rfl) ?_
      obtain ⟨⟨t31, t32, t33⟩, hg30, h⟩ := of_bind h
      dsimp only at h
      refine RegI.op (by kernel_rfl) (OpE.call 20 (by kernel_rfl) 18 #[.agg #[.bool t13, .int .i64 t14], .int .i64 (rdD p1 t19)] (by kernel_rfl) ((latch_Latch_act_18_ok K _ w  t13 t14 (rdD p1 t19) h26.old' hg30).mono ?_))
      rintro _ w27 ⟨A34, c35, rfl, hr37⟩
      refine ⟨_, rfl, ?_⟩
      have hb28 := hr37.below
      have h29 := h26.join hr37
      refine RegI.pure 3 [2, 4, 6, 11, 12, 13, 21, 22] [(2, .pointer (some ⟨b12, 0, none⟩)), (4, .pointer (some ⟨b15, 0, none⟩)), (6, .slice A16 t18.length c17), (11, .slice pA1 p1.length pc1), (12, .int .i64 (p1.length : Int)), (13, .int .i64 t19), (21, .agg #[.bool t31, .int .i64 t32]), (22, .slice A34 t33.length c35)] (by kernel_rfl) ?_
      refine RegI.op (by kernel_rfl) (OpE.box 9 29 [.bool false, .int .i64 0] h29 (by kernel_rfl) (by kernel_rfl) ?_)
      intro w38 b39 h40 hb41 hn42
      refine RegI.op (by kernel_rfl) (OpE.storeBox 6 29 b39 0 (.agg #[.bool t31, .int .i64 t32]) [.bool t31, .int .i64 t32] h40 (by kernel_rfl) (by kernel_rfl) rfl (by kernel_rfl) (by kernel_rfl) (by kernel_rfl) ?_)
      intro w43 h44 hk45
      refine RegI.pure 1 [2, 4, 6, 9, 10, 11, 12, 13] [(2, .pointer (some ⟨b12, 0, none⟩)), (4, .pointer (some ⟨b15, 0, none⟩)), (6, .slice A16 t18.length c17), (9, .pointer (some ⟨b39, 0, none⟩)), (10, .slice A34 t33.length c35), (11, .slice pA1 p1.length pc1), (12, .int .i64 (p1.length : Int)), (13, .int .i64 t19)] (by kernel_rfl) ?_
      refine RegI.done (by kernel_rfl) ?_
      refine RunsI.any 6 (by kernel_rfl) (by kernel_rfl) (by kernel_rfl) (Kp (mines (pick [box b12 29 [.bool t13, .int .i64 t14], box b15 29 [.bool false, .int .i64 0], own (Rp.int .u8) 5 (.slice A16 t18.length c17) t18, sl (Rp.int .i64) (.slice pA1 p1.length pc1) p1, cel b22 o23 [.int .i64 (rdD p1 t19)], own (Rp.int .u8) 5 (.slice A34 t33.length c35) t33, box b39 29 [.bool t31, .int .i64 t32]] [0, 2])) (World.drew w43)) ?_
      have h47 := h44.drew
      generalize World.drew w43 = w46 at h47 ⊢
      have hS48 := Kp.refl (mines (pick [box b12 29 [.bool t13, .int .i64 t14], box b15 29 [.bool false, .int .i64 0], own (Rp.int .u8) 5 (.slice A16 t18.length c17) t18, sl (Rp.int .i64) (.slice pA1 p1.length pc1) p1, cel b22 o23 [.int .i64 (rdD p1 t19)], own (Rp.int .u8) 5 (.slice A34 t33.length c35) t33, box b39 29 [.bool t31, .int .i64 t32]] [0, 2])) w46
      refine AnyE.loadBox 0 23 6 29 b39 0 (.agg #[.bool t31, .int .i64 t32]) [0, 2] h47 rfl (by kernel_rfl) hS48 rfl rfl (by kernel_rfl) (by kernel_rfl) ?_
      refine AnyE.pure 1 24 (.slice A16 t18.length c17) (by kernel_rfl) hS48 (fun _ => by kernel_rfl) ?_
      refine AnyE.pure 2 25 (.slice A34 t33.length c35) (by kernel_rfl) hS48 (fun _ => by kernel_rfl) ?_
      refine AnyE.one 3 (by kernel_rfl) (fun w50 hu51 => ?_)
      have h52 := h47.call hu51
      have hS53 := hS48.up hu51
      refine OpE.enter 26 (by kernel_rfl) F19 19 rfl [.slice A16 t18.length c17, .slice A34 t33.length c35] (by kernel_rfl) (by kernel_rfl) ?_
      refine RunsI.go 1 [.c 1, .c 2] (by kernel_rfl) ?_
      refine RunsI.region (by kernel_rfl) ?_
      refine RegI.pure 1 [0, 1] [(0, .slice A16 t18.length c17), (1, .slice A34 t33.length c35)] (by kernel_rfl) ?_
      refine RegI.done (by kernel_rfl) ?_
      refine RunsI.go 1 [.c 3, .c 4] (by kernel_rfl) ?_
      refine RunsI.region (by kernel_rfl) ?_
      refine RegI.pure 2 [5, 6] [(5, .slice A16 t18.length c17), (6, .slice A34 t33.length c35)] (by kernel_rfl) ?_
      obtain ⟨hc54, h⟩ := of_cond0 h
      refine RegI.op (by kernel_rfl) (OpE.appendRow 7 2 31 5 1 (ys := t33) h52 (by kernel_rfl) (by kernel_rfl) (by kernel_rfl) rfl (h52.rdOwn 5 rfl) hc54 ?_)
      intro w55 A56 c57 h58 hk59
      have hS60 := hS53.trans hk59 (Kp.turned h47 [0, 2] rfl 2 rfl rfl)
      refine RegI.pure 1 [4] [(4, .slice A56 ((t18 ++ t33).length) c57)] (by kernel_rfl) ?_
      refine RegI.done (by kernel_rfl) ?_
      refine RunsI.ret (.slice A56 ((t18 ++ t33).length) c57) (by kernel_rfl) (by kernel_rfl) ?_
      refine cont_mk ?_
      refine ⟨hS60, ?_⟩
      refine AnyE.one 4 (by kernel_rfl) (fun w61 hu62 => ?_)
      have h63 := h58.call hu62
      have hS64 := hS60.up hu62
      refine OpE.storeBox 0 29 b12 0 (.agg #[.bool t31, .int .i64 t32]) [.bool t31, .int .i64 t32] h63 (by kernel_rfl) (by kernel_rfl) rfl (by kernel_rfl) (by kernel_rfl) (by kernel_rfl) ?_
      intro w65 h66 hk67
      have hS68 := hS64.trans hk67 (Kp.turned h47 [0, 2] rfl 0 rfl rfl)
      refine ⟨hS68, ?_⟩
      refine AnyE.pure 5 6 (.slice A56 ((t18 ++ t33).length) c57) (by kernel_rfl) hS68 (fun _ => by kernel_rfl) ?_
      refine AnyE.done (by kernel_rfl) (fun w69 hu70 => ?_)
      have h71 := h66.call hu70
      refine RunsI.only [2, 4, 6, 11, 12, 13] [(2, .pointer (some ⟨b12, 0, none⟩)), (4, .pointer (some ⟨b15, 0, none⟩)), (6, .slice A56 ((t18 ++ t33).length) c57), (11, .slice pA1 p1.length pc1), (12, .int .i64 (p1.length : Int)), (13, .int .i64 t19)] (by kernel_rfl) (by kernel_rfl) ?_
      refine RunsI.go 1 [.c 22, .lp 9, .blk 0, .c 23] (by kernel_rfl) ?_
      refine RunsI.region (by kernel_rfl) ?_
      refine RegI.pure 2 [2, 4, 6, 11, 12, 13] [(2, .pointer (some ⟨b12, 0, none⟩)), (4, .pointer (some ⟨b15, 0, none⟩)), (6, .slice A56 ((t18 ++ t33).length) c57), (11, .slice pA1 p1.length pc1), (12, .int .i64 (p1.length : Int)), (13, .int .i64 (IntKind.wrap .i64 (t19 + 1)))] (by kernel_rfl) ?_
      refine RegI.done (by kernel_rfl) ?_
      refine RunsI.go 1 [.c 9, .lp 9, .blk 0, .c 23] (by kernel_rfl) ?_
      refine RunsI.only [2, 4, 6, 11, 12, 13] [(2, .pointer (some ⟨b12, 0, none⟩)), (4, .pointer (some ⟨b15, 0, none⟩)), (6, .slice A56 ((t18 ++ t33).length) c57), (11, .slice pA1 p1.length pc1), (12, .int .i64 (p1.length : Int)), (13, .int .i64 (IntKind.wrap .i64 (t19 + 1)))] (by kernel_rfl) (by kernel_rfl) ?_
      exact ih t31 t32 (t18 ++ t33) (IntKind.wrap .i64 (t19 + 1)) A56 c57 w69 h (h71.pick [0, 1, 2, 3] (by decide))
    · skip
      refine RunsI.fix 14 false hc20 (by kernel_rfl) (by kernel_rfl) ?_
      refine RunsI.cond false 14 (by kernel_rfl) ?_
      refine RunsI.go 1 [.c 23] (by kernel_rfl) ?_
      refine RunsI.only [2, 4, 6] [(2, .pointer (some ⟨b12, 0, none⟩)), (4, .pointer (some ⟨b15, 0, none⟩)), (6, .slice A16 t18.length c17)] (by kernel_rfl) (by kernel_rfl) ?_
      exact hk0 t13 t14 t18 A16 c17 w (Option.some.inj h).symm (hH.pick [0, 1, 2] (by decide))
def latch_Play_11.f (K : Nat) (p0_0 : Bool) (p0_1 : Int) (p1 : List Int) : Option (Bool × Int × (List Int)) := (latch_Play_11.l0 K p0_0 p0_1 p1 K p0_0 p0_1 ([] : List Int) 0).bind (fun yx77 => some (yx77.1, yx77.2.1, yx77.2.2))
set_option maxRecDepth 100000 in
theorem latch_Play_11_ok (K : Nat) (M0 : Nat → Prop) (w0 : World) (pA1 : Option Addr) (pc1 : Nat) (p0_0 : Bool) (p0_1 : Int) (p1 : List Int) (ho : ∀ b, M0 b → b < w0.heap.size) (hs1 : Sl (Rp.int .i64) w0 M0 (.slice pA1 p1.length pc1) p1) {r : Bool × Int × (List Int)} (h : latch_Play_11.f K p0_0 p0_1 p1 = some r) :
    Calls Tryd.prog 11 #[.agg #[.bool p0_0, .int .i64 p0_1], .slice pA1 p1.length pc1] w0 (latch_Play_11.post M0 w0 r) := by
  unfold latch_Play_11.f at h
  have h0 : Holds M0 w0 w0 [] := Holds.start ho
  have h01 := h0.addSl (Rp.int .i64) (.slice pA1 p1.length pc1) p1 (hs1.mono (fun _ _ hm => hm.elim id (fun hm => absurd hm (by simp [mines, sl]))))
  have h0 : Holds M0 w0 w0 [sl (Rp.int .i64) (.slice pA1 p1.length pc1) p1] := h01
  refine calls_of F11 rfl [.agg #[.bool p0_0, .int .i64 p0_1], .slice pA1 p1.length pc1] (by kernel_rfl) ?_
  refine RunsI.go 1 [.c 1, .c 2] (by kernel_rfl) ?_
  refine RunsI.region (by kernel_rfl) ?_
  refine RegI.op (by kernel_rfl) (OpE.box 2 29 [.bool p0_0, .int .i64 p0_1] h0 (by kernel_rfl) (by kernel_rfl) ?_)
  intro w1 b2 h3 hb4 hn5
  refine RegI.op (by kernel_rfl) (OpE.box 4 29 [.bool false, .int .i64 0] h3 (by kernel_rfl) (by kernel_rfl) ?_)
  intro w6 b7 h8 hb9 hn10
  refine RegI.pure 1 [1, 2, 4] [(1, .slice pA1 p1.length pc1), (2, .pointer (some ⟨b2, 0, none⟩)), (4, .pointer (some ⟨b7, 0, none⟩))] (by kernel_rfl) ?_
  refine RegI.done (by kernel_rfl) ?_
  refine RunsI.go 1 [.c 3, .c 4] (by kernel_rfl) ?_
  refine RunsI.region (by kernel_rfl) ?_
  refine RegI.pure 1 [1, 2, 4, 6] [(1, .slice pA1 p1.length pc1), (2, .pointer (some ⟨b2, 0, none⟩)), (4, .pointer (some ⟨b7, 0, none⟩)), (6, .slice none 0 0)] (by kernel_rfl) ?_
  refine RegI.done (by kernel_rfl) ?_
  refine RunsI.go 2 [.c 6, .c 7, .c 23] (by kernel_rfl) ?_
  refine RunsI.region (by kernel_rfl) ?_
  refine RegI.pure 3 [2, 4, 6, 11, 12, 13] [(2, .pointer (some ⟨b2, 0, none⟩)), (4, .pointer (some ⟨b7, 0, none⟩)), (6, .slice none 0 0), (11, .slice pA1 p1.length pc1), (12, .int .i64 (p1.length : Int)), (13, .int .i64 0)] (by kernel_rfl) ?_
  refine RegI.done (by kernel_rfl) ?_
  refine RunsI.go 2 [.c 9, .lp 9, .blk 0, .c 23] (by kernel_rfl) ?_
  obtain ⟨x77, hx78, h⟩ := of_bind h
  have h11 := h8.addOwnNil (Rp.int .u8) 5
  refine RunsI.only [2, 4, 6, 11, 12, 13] [(2, .pointer (some ⟨b2, 0, none⟩)), (4, .pointer (some ⟨b7, 0, none⟩)), (6, .slice none (([] : List Int).length) 0), (11, .slice pA1 p1.length pc1), (12, .int .i64 (p1.length : Int)), (13, .int .i64 0)] (by kernel_rfl) (by kernel_rfl) ?_
  refine latch_Play_11.l0_ok K M0 w0 pA1 pc1 p0_0 p0_1 p1 b2 b7 _ x77 ?_ K p0_0 p0_1 ([] : List Int) 0 none 0 w6 hx78 (h11.pick [1, 2, 3, 0] (by decide))
  · intro t79 t80 t83 A81 c82 w85 hq89 h84
    (try rw [hq89] at h)
    dsimp only at h
    refine RunsI.go 1 [.c 24, .c 25] (by kernel_rfl) ?_
    refine RunsI.region (by kernel_rfl) ?_
    refine RegI.op (by kernel_rfl) (OpE.loadBox 28 0 29 b2 0 (.agg #[.bool t79, .int .i64 t80]) h84 (by kernel_rfl) (by kernel_rfl) rfl (by kernel_rfl) ?_)
    refine RegI.pure 1 [4, 28, 29] [(4, .pointer (some ⟨b7, 0, none⟩)), (28, .agg #[.bool t79, .int .i64 t80]), (29, .slice A81 t83.length c82)] (by kernel_rfl) ?_
    refine RegI.op (by kernel_rfl) (OpE.storeBox 1 29 b7 0 (.agg #[.bool t79, .int .i64 t80]) [.bool t79, .int .i64 t80] h84 (by kernel_rfl) (by kernel_rfl) rfl (by kernel_rfl) (by kernel_rfl) (by kernel_rfl) ?_)
    intro w86 h87 hk88
    refine RegI.pure 1 [4, 5] [(4, .pointer (some ⟨b7, 0, none⟩)), (5, .slice A81 t83.length c82)] (by kernel_rfl) ?_
    refine RegI.done (by kernel_rfl) ?_
    refine RunsI.retW [.cell 4 29, .tmp 5] [.agg #[.bool t79, .int .i64 t80], .slice A81 t83.length c82] (.tuple #[.agg #[.bool t79, .int .i64 t80], .slice A81 t83.length c82]) (by kernel_rfl) (by kernel_rfl) (ResAt.box 1 29 b7 0 h87 (by kernel_rfl) (by kernel_rfl) rfl (by kernel_rfl) (ResAt.tmp (by kernel_rfl) (by kernel_rfl) rfl)) (by kernel_rfl) ?_
    obtain rfl := Option.some.inj h
    exact ⟨A81, c82, rfl, h87.pick [2] (by decide)⟩
end

/-! ### charabanc/charabanclaw20.awake (function 6) -/
section
def charabanclaw20_awake_6.post (M0 : Nat → Prop) (w0 : World) (r : Bool) : Ending → World → Prop := fun e w => e = .returned (.bool r) ∧ Below w0.heap.size w0 w
def charabanclaw20_awake_6.f (K : Nat) : Option Bool := (latch_Device_7.f K 9).bind fun yt5 => (latch_Port_9.f K 3 1).bind fun yt11 => (latch_Play_11.f K false 0 [1, 2, 0, 2]).bind fun yt24 => (latch_Read_14.f K false 0 1).bind fun yt43 => cond (yt5.1 == 3) (cond (yt5.2 == 1) (cond (yt11.1 == 9) (cond yt11.2 (cond ((yt24.2.2.length : Int) == 3) (cond (inR 0 yt24.2.2.length) (cond ((rdD yt24.2.2 0) == 0) (cond (inR 1 yt24.2.2.length) (cond ((rdD yt24.2.2 1) == 255) (cond (inR 2 yt24.2.2.length) (cond ((rdD yt24.2.2 2) == 0) (cond ((yt24.1 == true) && ((yt24.2.1 == 2) && true)) (cond yt43.1 (cond (yt43.2.2 == 0) ((latch_Write_16.f K yt43.1 yt43.2.1 2).bind fun yt78 => some ((yt78.1 == false) && ((yt78.2 == 0) && true))) (some false)) (some false)) (some false)) (some false)) none) (some false)) none) (some false)) none) (some false)) (some false)) (some false)) (some false)) (some false)
set_option maxRecDepth 100000 in
theorem charabanclaw20_awake_6_ok (K : Nat) (M0 : Nat → Prop) (w0 : World) (ho : ∀ b, M0 b → b < w0.heap.size) (hG0 : (cel 0 0 (tab_0.flatMap en_0)).ok w0 M0) {r : Bool} (h : charabanclaw20_awake_6.f K = some r) :
    Calls Tryd.prog 6 #[] w0 (charabanclaw20_awake_6.post M0 w0 r) := by
  unfold charabanclaw20_awake_6.f at h
  have h0 : Holds M0 w0 w0 [] := Holds.start ho
  have h0g0 := h0.add (cel 0 0 (tab_0.flatMap en_0)) rfl ⟨hG0.1, fun hm => hG0.2.1 (hm.elim id (fun hm => absurd hm (by simp [mines, sl, cel]))), hG0.2.2⟩
  have h0 : Holds M0 w0 w0 [cel 0 0 (tab_0.flatMap en_0)] := h0g0
  refine calls_of F6 rfl [] (by kernel_rfl) ?_
  refine RunsI.go 1 [.c 1, .c 2] (by kernel_rfl) ?_
  refine RunsI.region (by kernel_rfl) ?_
  refine RegI.pure 1 [] [] (by kernel_rfl) ?_
  refine RegI.done (by kernel_rfl) ?_
  refine RunsI.go 1 [.c 3, .c 4] (by kernel_rfl) ?_
  refine RunsI.region (by kernel_rfl) ?_
  obtain ⟨⟨t5, t6⟩, hg4, h⟩ := of_bind h
  dsimp only at h
  refine RegI.op (by kernel_rfl) (OpE.call 10 (by kernel_rfl) 7 #[.int .u8 9] (by kernel_rfl) ((latch_Device_7_ok K _ w0  9 h0.old' (h0.get 0 rfl) hg4).mono ?_))
  rintro _ w1 ⟨rfl, hb2⟩
  refine ⟨_, rfl, ?_⟩
  have h3 := h0.call hb2
  refine RegI.pure 5 [1, 2] [(1, .int .i64 t5), (2, .int .i64 t6)] (by kernel_rfl) ?_
  refine RegI.done (by kernel_rfl) ?_
  refine RunsI.go 1 [.c 5, .c 6] (by kernel_rfl) ?_
  refine RunsI.region (by kernel_rfl) ?_
  obtain ⟨⟨t11, t12⟩, hg10, h⟩ := of_bind h
  dsimp only at h
  refine RegI.op (by kernel_rfl) (OpE.call 14 (by kernel_rfl) 9 #[.int .i64 3, .int .i64 1] (by kernel_rfl) ((latch_Port_9_ok K _ w1  3 1 h3.old' (h3.get 0 rfl) hg10).mono ?_))
  rintro _ w7 ⟨rfl, hb8⟩
  refine ⟨_, rfl, ?_⟩
  have h9 := h3.call hb8
  refine RegI.pure 5 [1, 2, 3, 4] [(1, .int .i64 t5), (2, .int .i64 t6), (3, .int .u8 t11), (4, .bool t12)] (by kernel_rfl) ?_
  refine RegI.done (by kernel_rfl) ?_
  refine RunsI.go 1 [.c 7, .c 8] (by kernel_rfl) ?_
  refine RunsI.region (by kernel_rfl) ?_
  refine RegI.pure 1 [1, 2, 3, 4, 18] [(1, .int .i64 t5), (2, .int .i64 t6), (3, .int .u8 t11), (4, .bool t12), (18, .agg #[.bool false, .int .i64 0])] (by kernel_rfl) ?_
  refine RegI.op (by kernel_rfl) (OpE.lit 19 3 [.int .i64 1, .int .i64 2, .int .i64 0, .int .i64 2] 4 h9 (by kernel_rfl) (by kernel_rfl) ?_)
  intro w13 b14 h15 hb16 hn17
  obtain ⟨⟨t24, t25, t26⟩, hg23, h⟩ := of_bind h
  dsimp only at h
  have h18 := h15.boxOwn 1 rfl (Rp.int .i64) [1, 2, 0, 2] (cells_int _ _ _ _) (Nat.le_of_ble_eq_true (by kernel_rfl))
  have h19 := h18.release 1 rfl
  refine RegI.op (by kernel_rfl) (OpE.call 20 (by kernel_rfl) 11 #[.agg #[.bool false, .int .i64 0], .slice (some ⟨b14, 0, none⟩) ([1, 2, 0, 2].length) 4] (by kernel_rfl) ((latch_Play_11_ok K _ w13  (some ⟨b14, 0, none⟩) 4 false 0 [1, 2, 0, 2] h19.old' (h19.get 1 rfl) hg23).mono ?_))
  rintro _ w20 ⟨A27, c28, rfl, hr30⟩
  refine ⟨_, rfl, ?_⟩
  have hb21 := hr30.below
  have h22 := h19.join hr30
  refine RegI.pure 3 [1, 2, 3, 4, 21, 22] [(1, .int .i64 t5), (2, .int .i64 t6), (3, .int .u8 t11), (4, .bool t12), (21, .agg #[.bool t24, .int .i64 t25]), (22, .slice A27 t26.length c28)] (by kernel_rfl) ?_
  refine RegI.op (by kernel_rfl) (OpE.box 5 29 [.bool false, .int .i64 0] h22 (by kernel_rfl) (by kernel_rfl) ?_)
  intro w31 b32 h33 hb34 hn35
  refine RegI.op (by kernel_rfl) (OpE.storeBox 3 29 b32 0 (.agg #[.bool t24, .int .i64 t25]) [.bool t24, .int .i64 t25] h33 (by kernel_rfl) (by kernel_rfl) rfl (by kernel_rfl) (by kernel_rfl) (by kernel_rfl) ?_)
  intro w36 h37 hk38
  refine RegI.pure 1 [1, 2, 3, 4, 5, 6] [(1, .int .i64 t5), (2, .int .i64 t6), (3, .int .u8 t11), (4, .bool t12), (5, .pointer (some ⟨b32, 0, none⟩)), (6, .slice A27 t26.length c28)] (by kernel_rfl) ?_
  refine RegI.done (by kernel_rfl) ?_
  refine RunsI.go 1 [.c 9, .c 10] (by kernel_rfl) ?_
  refine RunsI.region (by kernel_rfl) ?_
  refine RegI.pure 1 [1, 2, 3, 4, 5, 6, 24] [(1, .int .i64 t5), (2, .int .i64 t6), (3, .int .u8 t11), (4, .bool t12), (5, .pointer (some ⟨b32, 0, none⟩)), (6, .slice A27 t26.length c28), (24, .agg #[.bool false, .int .i64 0])] (by kernel_rfl) ?_
  obtain ⟨⟨t43, t44, t45⟩, hg42, h⟩ := of_bind h
  dsimp only at h
  refine RegI.op (by kernel_rfl) (OpE.call 25 (by kernel_rfl) 14 #[.agg #[.bool false, .int .i64 0], .int .i64 1] (by kernel_rfl) ((latch_Read_14_ok K _ w36  false 0 1 h37.old' hg42).mono ?_))
  rintro _ w39 ⟨rfl, hb40⟩
  refine ⟨_, rfl, ?_⟩
  have h41 := h37.call hb40
  refine RegI.pure 3 [1, 2, 3, 4, 5, 6, 26, 27] [(1, .int .i64 t5), (2, .int .i64 t6), (3, .int .u8 t11), (4, .bool t12), (5, .pointer (some ⟨b32, 0, none⟩)), (6, .slice A27 t26.length c28), (26, .agg #[.bool t43, .int .i64 t44]), (27, .int .u8 t45)] (by kernel_rfl) ?_
  refine RegI.op (by kernel_rfl) (OpE.box 7 29 [.bool false, .int .i64 0] h41 (by kernel_rfl) (by kernel_rfl) ?_)
  intro w46 b47 h48 hb49 hn50
  refine RegI.op (by kernel_rfl) (OpE.storeBox 4 29 b47 0 (.agg #[.bool t43, .int .i64 t44]) [.bool t43, .int .i64 t44] h48 (by kernel_rfl) (by kernel_rfl) rfl (by kernel_rfl) (by kernel_rfl) (by kernel_rfl) ?_)
  intro w51 h52 hk53
  refine RegI.pure 1 [1, 2, 3, 4, 5, 6, 7, 8] [(1, .int .i64 t5), (2, .int .i64 t6), (3, .int .u8 t11), (4, .bool t12), (5, .pointer (some ⟨b32, 0, none⟩)), (6, .slice A27 t26.length c28), (7, .pointer (some ⟨b47, 0, none⟩)), (8, .int .u8 t45)] (by kernel_rfl) ?_
  refine RegI.done (by kernel_rfl) ?_
  refine RunsI.go 1 [.c 11, .c 12] (by kernel_rfl) ?_
  refine RunsI.region (by kernel_rfl) ?_
  refine RegI.pure 3 [2, 3, 4, 5, 6, 7, 8, 30] [(2, .int .i64 t6), (3, .int .u8 t11), (4, .bool t12), (5, .pointer (some ⟨b32, 0, none⟩)), (6, .slice A27 t26.length c28), (7, .pointer (some ⟨b47, 0, none⟩)), (8, .int .u8 t45), (30, .bool (t5 == 3))] (by kernel_rfl) ?_
  rcases of_cond h with ⟨hc54, h⟩ | ⟨hc54, h⟩
  · skip
    refine RegI.fix 30 true hc54 (by kernel_rfl) (by kernel_rfl) ?_
    refine RegI.pure 4 [3, 4, 5, 6, 7, 8, 34] [(3, .int .u8 t11), (4, .bool t12), (5, .pointer (some ⟨b32, 0, none⟩)), (6, .slice A27 t26.length c28), (7, .pointer (some ⟨b47, 0, none⟩)), (8, .int .u8 t45), (34, .bool (t6 == 1))] (by kernel_rfl) ?_
    rcases of_cond h with ⟨hc55, h⟩ | ⟨hc55, h⟩
    · skip
      refine RegI.fix 34 true hc55 (by kernel_rfl) (by kernel_rfl) ?_
      refine RegI.pure 4 [4, 5, 6, 7, 8, 38] [(4, .bool t12), (5, .pointer (some ⟨b32, 0, none⟩)), (6, .slice A27 t26.length c28), (7, .pointer (some ⟨b47, 0, none⟩)), (8, .int .u8 t45), (38, .bool (t11 == 9))] (by kernel_rfl) ?_
      rcases of_cond h with ⟨hc56, h⟩ | ⟨hc56, h⟩
      · skip
        refine RegI.fix 38 true hc56 (by kernel_rfl) (by kernel_rfl) ?_
        refine RegI.pure 3 [5, 6, 7, 8, 41] [(5, .pointer (some ⟨b32, 0, none⟩)), (6, .slice A27 t26.length c28), (7, .pointer (some ⟨b47, 0, none⟩)), (8, .int .u8 t45), (41, .bool t12)] (by kernel_rfl) ?_
        rcases of_cond h with ⟨hc57, h⟩ | ⟨hc57, h⟩
        · skip
          refine RegI.fix 41 true hc57 (by kernel_rfl) (by kernel_rfl) ?_
          refine RegI.pure 5 [5, 6, 7, 8, 46] [(5, .pointer (some ⟨b32, 0, none⟩)), (6, .slice A27 t26.length c28), (7, .pointer (some ⟨b47, 0, none⟩)), (8, .int .u8 t45), (46, .bool ((t26.length : Int) == 3))] (by kernel_rfl) ?_
          rcases of_cond h with ⟨hc58, h⟩ | ⟨hc58, h⟩
          · skip
            refine RegI.fix 46 true hc58 (by kernel_rfl) (by kernel_rfl) ?_
            refine RegI.pure 1 [5, 6, 7, 8, 46, 47] [(5, .pointer (some ⟨b32, 0, none⟩)), (6, .slice A27 t26.length c28), (7, .pointer (some ⟨b47, 0, none⟩)), (8, .int .u8 t45), (46, .bool true), (47, .slice A27 t26.length c28)] (by kernel_rfl) ?_
            obtain ⟨hc59, h⟩ := of_cond0 h
            refine RegI.op (by kernel_rfl) (OpE.idxOwnA 48 2 31 5 0 h52 (by kernel_rfl) rfl (by kernel_rfl) (by kernel_rfl) hc59 ?_)
            refine RegI.op (by kernel_rfl) (OpE.loadOwnA 49 2 5 5 0 0 (o := (Int.toNat 0) * 1 + 0) h52 (by kernel_rfl) rfl (by kernel_rfl) (by kernel_rfl) hc59 (fun cs60 hk61 => ?_))
            obtain rfl := hk61
            refine ⟨.int .u8 (rdD t26 0), by kernel_rfl, ?_⟩
            refine RegI.pure 3 [5, 6, 7, 8, 52] [(5, .pointer (some ⟨b32, 0, none⟩)), (6, .slice A27 t26.length c28), (7, .pointer (some ⟨b47, 0, none⟩)), (8, .int .u8 t45), (52, .bool ((rdD t26 0) == 0))] (by kernel_rfl) ?_
            rcases of_cond h with ⟨hc62, h⟩ | ⟨hc62, h⟩
            · skip
              refine RegI.fix 52 true hc62 (by kernel_rfl) (by kernel_rfl) ?_
              refine RegI.pure 1 [5, 6, 7, 8, 52, 53] [(5, .pointer (some ⟨b32, 0, none⟩)), (6, .slice A27 t26.length c28), (7, .pointer (some ⟨b47, 0, none⟩)), (8, .int .u8 t45), (52, .bool true), (53, .slice A27 t26.length c28)] (by kernel_rfl) ?_
              obtain ⟨hc63, h⟩ := of_cond0 h
              refine RegI.op (by kernel_rfl) (OpE.idxOwnA 54 2 31 5 1 h52 (by kernel_rfl) rfl (by kernel_rfl) (by kernel_rfl) hc63 ?_)
              refine RegI.op (by kernel_rfl) (OpE.loadOwnA 55 2 5 5 1 0 (o := (Int.toNat 1) * 1 + 0) h52 (by kernel_rfl) rfl (by kernel_rfl) (by kernel_rfl) hc63 (fun cs64 hk65 => ?_))
              obtain rfl := hk65
              refine ⟨.int .u8 (rdD t26 1), by kernel_rfl, ?_⟩
              refine RegI.pure 3 [5, 6, 7, 8, 58] [(5, .pointer (some ⟨b32, 0, none⟩)), (6, .slice A27 t26.length c28), (7, .pointer (some ⟨b47, 0, none⟩)), (8, .int .u8 t45), (58, .bool ((rdD t26 1) == 255))] (by kernel_rfl) ?_
              rcases of_cond h with ⟨hc66, h⟩ | ⟨hc66, h⟩
              · skip
                refine RegI.fix 58 true hc66 (by kernel_rfl) (by kernel_rfl) ?_
                refine RegI.pure 1 [5, 7, 8, 58, 59] [(5, .pointer (some ⟨b32, 0, none⟩)), (7, .pointer (some ⟨b47, 0, none⟩)), (8, .int .u8 t45), (58, .bool true), (59, .slice A27 t26.length c28)] (by kernel_rfl) ?_
                obtain ⟨hc67, h⟩ := of_cond0 h
                refine RegI.op (by kernel_rfl) (OpE.idxOwnA 60 2 31 5 2 h52 (by kernel_rfl) rfl (by kernel_rfl) (by kernel_rfl) hc67 ?_)
                refine RegI.op (by kernel_rfl) (OpE.loadOwnA 61 2 5 5 2 0 (o := (Int.toNat 2) * 1 + 0) h52 (by kernel_rfl) rfl (by kernel_rfl) (by kernel_rfl) hc67 (fun cs68 hk69 => ?_))
                obtain rfl := hk69
                refine ⟨.int .u8 (rdD t26 2), by kernel_rfl, ?_⟩
                refine RegI.pure 3 [5, 7, 8, 64] [(5, .pointer (some ⟨b32, 0, none⟩)), (7, .pointer (some ⟨b47, 0, none⟩)), (8, .int .u8 t45), (64, .bool ((rdD t26 2) == 0))] (by kernel_rfl) ?_
                rcases of_cond h with ⟨hc70, h⟩ | ⟨hc70, h⟩
                · skip
                  refine RegI.fix 64 true hc70 (by kernel_rfl) (by kernel_rfl) ?_
                  refine RegI.op (by kernel_rfl) (OpE.loadBox 65 3 29 b32 0 (.agg #[.bool t24, .int .i64 t25]) h52 (by kernel_rfl) (by kernel_rfl) rfl (by kernel_rfl) ?_)
                  refine RegI.pure 1 [7, 8, 64, 65, 66] [(7, .pointer (some ⟨b47, 0, none⟩)), (8, .int .u8 t45), (64, .bool true), (65, .agg #[.bool t24, .int .i64 t25]), (66, .agg #[.bool true, .int .i64 2])] (by kernel_rfl) ?_
                  refine RegI.op (by kernel_rfl) (OpE.run 67 (by kernel_rfl) (run_eqS (neg := false) (t := 29) (x := .agg #[.bool t24, .int .i64 t25]) (y := .agg #[.bool true, .int .i64 2]) (b := ((t24 == true) && ((t25 == 2) && true))) (by kernel_rfl) (by kernel_rfl) (by kernel_rfl) (by kernel_rfl)) ?_)
                  refine RegI.pure 2 [7, 8, 69] [(7, .pointer (some ⟨b47, 0, none⟩)), (8, .int .u8 t45), (69, .bool ((t24 == true) && ((t25 == 2) && true)))] (by kernel_rfl) ?_
                  rcases of_cond h with ⟨hc71, h⟩ | ⟨hc71, h⟩
                  · skip
                    refine RegI.fix 69 true hc71 (by kernel_rfl) (by kernel_rfl) ?_
                    refine RegI.pure 1 [7, 8, 69, 70] [(7, .pointer (some ⟨b47, 0, none⟩)), (8, .int .u8 t45), (69, .bool true), (70, .pointer (some ⟨b47, 0, none⟩))] (by kernel_rfl) ?_
                    refine RegI.op (by kernel_rfl) (OpE.loadBox 71 4 4 b47 0 (.bool t43) h52 (by kernel_rfl) (by kernel_rfl) rfl (by kernel_rfl) ?_)
                    refine RegI.pure 2 [7, 8, 73] [(7, .pointer (some ⟨b47, 0, none⟩)), (8, .int .u8 t45), (73, .bool t43)] (by kernel_rfl) ?_
                    rcases of_cond h with ⟨hc72, h⟩ | ⟨hc72, h⟩
                    · skip
                      refine RegI.fix 73 true hc72 (by kernel_rfl) (by kernel_rfl) ?_
                      refine RegI.pure 4 [7, 77] [(7, .pointer (some ⟨b47, 0, none⟩)), (77, .bool (t45 == 0))] (by kernel_rfl) ?_
                      rcases of_cond h with ⟨hc73, h⟩ | ⟨hc73, h⟩
                      · skip
                        refine RegI.fix 77 true hc73 (by kernel_rfl) (by kernel_rfl) ?_
                        refine RegI.op (by kernel_rfl) (OpE.loadBox 78 4 29 b47 0 (.agg #[.bool t43, .int .i64 t44]) h52 (by kernel_rfl) (by kernel_rfl) rfl (by kernel_rfl) ?_)
                        obtain ⟨⟨t78, t79⟩, hg77, h⟩ := of_bind h
                        dsimp only at h
                        refine RegI.op (by kernel_rfl) (OpE.call 79 (by kernel_rfl) 16 #[.agg #[.bool t43, .int .i64 t44], .int .u8 2] (by kernel_rfl) ((latch_Write_16_ok K _ w51  t43 t44 2 h52.old' hg77).mono ?_))
                        rintro _ w74 ⟨rfl, hb75⟩
                        refine ⟨_, rfl, ?_⟩
                        have h76 := h52.call hb75
                        refine RegI.pure 1 [77, 79, 80] [(77, .bool true), (79, .agg #[.bool t78, .int .i64 t79]), (80, .agg #[.bool false, .int .i64 0])] (by kernel_rfl) ?_
                        refine RegI.op (by kernel_rfl) (OpE.run 81 (by kernel_rfl) (run_eqS (neg := false) (t := 29) (x := .agg #[.bool t78, .int .i64 t79]) (y := .agg #[.bool false, .int .i64 0]) (b := ((t78 == false) && ((t79 == 0) && true))) (by kernel_rfl) (by kernel_rfl) (by kernel_rfl) (by kernel_rfl)) ?_)
                        refine RegI.pure 2 [0] [(0, .bool ((t78 == false) && ((t79 == 0) && true)))] (by kernel_rfl) ?_
                        refine RegI.done (by kernel_rfl) ?_
                        refine RunsI.ret (.bool ((t78 == false) && ((t79 == 0) && true))) (by kernel_rfl) (by kernel_rfl) ?_
                        obtain rfl := Option.some.inj h
                        exact ⟨rfl, h76.below⟩
                      · skip
                        refine RegI.fix 77 false hc73 (by kernel_rfl) (by kernel_rfl) ?_
                        refine RegI.pure 6 [0] [(0, .bool false)] (by kernel_rfl) ?_
                        refine RegI.done (by kernel_rfl) ?_
                        refine RunsI.ret (.bool false) (by kernel_rfl) (by kernel_rfl) ?_
                        obtain rfl := Option.some.inj h
                        exact ⟨rfl, h52.below⟩
                    · skip
                      refine RegI.fix 73 false hc72 (by kernel_rfl) (by kernel_rfl) ?_
                      refine RegI.pure 10 [0] [(0, .bool false)] (by kernel_rfl) ?_
                      refine RegI.done (by kernel_rfl) ?_
                      refine RunsI.ret (.bool false) (by kernel_rfl) (by kernel_rfl) ?_
                      obtain rfl := Option.some.inj h
                      exact ⟨rfl, h52.below⟩
                  · skip
                    refine RegI.fix 69 false hc71 (by kernel_rfl) (by kernel_rfl) ?_
                    refine RegI.pure 14 [0] [(0, .bool false)] (by kernel_rfl) ?_
                    refine RegI.done (by kernel_rfl) ?_
                    refine RunsI.ret (.bool false) (by kernel_rfl) (by kernel_rfl) ?_
                    obtain rfl := Option.some.inj h
                    exact ⟨rfl, h52.below⟩
                · skip
                  refine RegI.fix 64 false hc70 (by kernel_rfl) (by kernel_rfl) ?_
                  refine RegI.pure 19 [0] [(0, .bool false)] (by kernel_rfl) ?_
                  refine RegI.done (by kernel_rfl) ?_
                  refine RunsI.ret (.bool false) (by kernel_rfl) (by kernel_rfl) ?_
                  obtain rfl := Option.some.inj h
                  exact ⟨rfl, h52.below⟩
              · skip
                refine RegI.fix 58 false hc66 (by kernel_rfl) (by kernel_rfl) ?_
                refine RegI.pure 25 [0] [(0, .bool false)] (by kernel_rfl) ?_
                refine RegI.done (by kernel_rfl) ?_
                refine RunsI.ret (.bool false) (by kernel_rfl) (by kernel_rfl) ?_
                obtain rfl := Option.some.inj h
                exact ⟨rfl, h52.below⟩
            · skip
              refine RegI.fix 52 false hc62 (by kernel_rfl) (by kernel_rfl) ?_
              refine RegI.pure 31 [0] [(0, .bool false)] (by kernel_rfl) ?_
              refine RegI.done (by kernel_rfl) ?_
              refine RunsI.ret (.bool false) (by kernel_rfl) (by kernel_rfl) ?_
              obtain rfl := Option.some.inj h
              exact ⟨rfl, h52.below⟩
          · skip
            refine RegI.fix 46 false hc58 (by kernel_rfl) (by kernel_rfl) ?_
            refine RegI.pure 37 [0] [(0, .bool false)] (by kernel_rfl) ?_
            refine RegI.done (by kernel_rfl) ?_
            refine RunsI.ret (.bool false) (by kernel_rfl) (by kernel_rfl) ?_
            obtain rfl := Option.some.inj h
            exact ⟨rfl, h52.below⟩
        · skip
          refine RegI.fix 41 false hc57 (by kernel_rfl) (by kernel_rfl) ?_
          refine RegI.pure 42 [0] [(0, .bool false)] (by kernel_rfl) ?_
          refine RegI.done (by kernel_rfl) ?_
          refine RunsI.ret (.bool false) (by kernel_rfl) (by kernel_rfl) ?_
          obtain rfl := Option.some.inj h
          exact ⟨rfl, h52.below⟩
      · skip
        refine RegI.fix 38 false hc56 (by kernel_rfl) (by kernel_rfl) ?_
        refine RegI.pure 45 [0] [(0, .bool false)] (by kernel_rfl) ?_
        refine RegI.done (by kernel_rfl) ?_
        refine RunsI.ret (.bool false) (by kernel_rfl) (by kernel_rfl) ?_
        obtain rfl := Option.some.inj h
        exact ⟨rfl, h52.below⟩
    · skip
      refine RegI.fix 34 false hc55 (by kernel_rfl) (by kernel_rfl) ?_
      refine RegI.pure 49 [0] [(0, .bool false)] (by kernel_rfl) ?_
      refine RegI.done (by kernel_rfl) ?_
      refine RunsI.ret (.bool false) (by kernel_rfl) (by kernel_rfl) ?_
      obtain rfl := Option.some.inj h
      exact ⟨rfl, h52.below⟩
  · skip
    refine RegI.fix 30 false hc54 (by kernel_rfl) (by kernel_rfl) ?_
    refine RegI.pure 53 [0] [(0, .bool false)] (by kernel_rfl) ?_
    refine RegI.done (by kernel_rfl) ?_
    refine RunsI.ret (.bool false) (by kernel_rfl) (by kernel_rfl) ?_
    obtain rfl := Option.some.inj h
    exact ⟨rfl, h52.below⟩
end

/-! ### charabanc/charabancref20.Device (function 8) -/
section
def charabancref20_Device_8.post (M0 : Nat → Prop) (w0 : World) (r : Int × Int) : Ending → World → Prop := fun e w => e = .returned (.tuple #[.int .i64 r.1, .int .i64 r.2]) ∧ Below w0.heap.size w0 w
def charabancref20_Device_8.f (K : Nat) (p0 : Int) : Option (Int × Int) := cond (decide ((IntKind.wrap .i64 p0) < 12)) (some ((IntKind.wrap .i64 (1 + (IntKind.wrap .i64 (Int.tdiv (IntKind.wrap .i64 p0) 4)))), (Int.tmod (IntKind.wrap .i64 p0) 4))) (cond ((IntKind.wrap .i64 p0) == 12) (some (4, 0)) (cond ((IntKind.wrap .i64 p0) == 14) (some (5, 0)) (cond ((IntKind.wrap .i64 p0) == 15) (some (6, 0)) (some (0, 0)))))
set_option maxRecDepth 100000 in
theorem charabancref20_Device_8_ok (K : Nat) (M0 : Nat → Prop) (w0 : World) (p0 : Int) (ho : ∀ b, M0 b → b < w0.heap.size) {r : Int × Int} (h : charabancref20_Device_8.f K p0 = some r) :
    Calls Tryd.prog 8 #[.int .u8 p0] w0 (charabancref20_Device_8.post M0 w0 r) := by
  unfold charabancref20_Device_8.f at h
  have h0 : Holds M0 w0 w0 [] := Holds.start ho
  have h0 : Holds M0 w0 w0 [] := h0
  refine calls_of F8 rfl [.int .u8 p0] (by kernel_rfl) ?_
  refine RunsI.go 1 [.c 1, .c 2] (by kernel_rfl) ?_
  refine RunsI.region (by kernel_rfl) ?_
  refine RegI.pure 2 [0] [(0, .int .u8 p0)] (by kernel_rfl) ?_
  refine RegI.done (by kernel_rfl) ?_
  refine RunsI.go 1 [.c 3, .c 4] (by kernel_rfl) ?_
  refine RunsI.region (by kernel_rfl) ?_
  refine RegI.pure 3 [4] [(4, .int .i64 (IntKind.wrap .i64 p0))] (by kernel_rfl) ?_
  refine RegI.done (by kernel_rfl) ?_
  refine RunsI.go 3 [.c 7, .c 8, .blk 0, .c 31] (by kernel_rfl) ?_
  refine RunsI.region (by kernel_rfl) ?_
  refine RegI.pure 3 [4, 7] [(4, .int .i64 (IntKind.wrap .i64 p0)), (7, .bool (decide ((IntKind.wrap .i64 p0) < 12)))] (by kernel_rfl) ?_
  refine RegI.done (by kernel_rfl) ?_
  rcases of_cond h with ⟨hc1, h⟩ | ⟨hc1, h⟩
  · skip
    refine RunsI.fix 7 true hc1 (by kernel_rfl) (by kernel_rfl) ?_
    refine RunsI.cond true 9 (by kernel_rfl) ?_
    refine RunsI.go 1 [.c 10, .c 11, .blk 0, .c 31] (by kernel_rfl) ?_
    refine RunsI.region (by kernel_rfl) ?_
    refine RegI.pure 7 [2, 3] [(2, .int .i64 (IntKind.wrap .i64 (1 + (IntKind.wrap .i64 (Int.tdiv (IntKind.wrap .i64 p0) 4))))), (3, .int .i64 (Int.tmod (IntKind.wrap .i64 p0) 4))] (by kernel_rfl) ?_
    refine RegI.done (by kernel_rfl) ?_
    refine RunsI.ret (.tuple #[.int .i64 (IntKind.wrap .i64 (1 + (IntKind.wrap .i64 (Int.tdiv (IntKind.wrap .i64 p0) 4)))), .int .i64 (Int.tmod (IntKind.wrap .i64 p0) 4)]) (by kernel_rfl) (by kernel_rfl) ?_
    obtain rfl := Option.some.inj h
    exact ⟨rfl, h0.below⟩
  · skip
    refine RunsI.fix 7 false hc1 (by kernel_rfl) (by kernel_rfl) ?_
    refine RunsI.cond false 12 (by kernel_rfl) ?_
    refine RunsI.go 1 [.c 13, .c 14, .blk 0, .c 31] (by kernel_rfl) ?_
    refine RunsI.region (by kernel_rfl) ?_
    refine RegI.pure 3 [4, 15] [(4, .int .i64 (IntKind.wrap .i64 p0)), (15, .bool ((IntKind.wrap .i64 p0) == 12))] (by kernel_rfl) ?_
    refine RegI.done (by kernel_rfl) ?_
    rcases of_cond h with ⟨hc2, h⟩ | ⟨hc2, h⟩
    · skip
      refine RunsI.fix 15 true hc2 (by kernel_rfl) (by kernel_rfl) ?_
      refine RunsI.cond true 15 (by kernel_rfl) ?_
      refine RunsI.go 1 [.c 16, .c 17, .blk 0, .c 31] (by kernel_rfl) ?_
      refine RunsI.region (by kernel_rfl) ?_
      refine RegI.pure 2 [2, 3] [(2, .int .i64 4), (3, .int .i64 0)] (by kernel_rfl) ?_
      refine RegI.done (by kernel_rfl) ?_
      refine RunsI.ret (.tuple #[.int .i64 4, .int .i64 0]) (by kernel_rfl) (by kernel_rfl) ?_
      obtain rfl := Option.some.inj h
      exact ⟨rfl, h0.below⟩
    · skip
      refine RunsI.fix 15 false hc2 (by kernel_rfl) (by kernel_rfl) ?_
      refine RunsI.cond false 18 (by kernel_rfl) ?_
      refine RunsI.go 1 [.c 19, .c 20, .blk 0, .c 31] (by kernel_rfl) ?_
      refine RunsI.region (by kernel_rfl) ?_
      refine RegI.pure 3 [4, 18] [(4, .int .i64 (IntKind.wrap .i64 p0)), (18, .bool ((IntKind.wrap .i64 p0) == 14))] (by kernel_rfl) ?_
      refine RegI.done (by kernel_rfl) ?_
      rcases of_cond h with ⟨hc3, h⟩ | ⟨hc3, h⟩
      · skip
        refine RunsI.fix 18 true hc3 (by kernel_rfl) (by kernel_rfl) ?_
        refine RunsI.cond true 21 (by kernel_rfl) ?_
        refine RunsI.go 1 [.c 22, .c 23, .blk 0, .c 31] (by kernel_rfl) ?_
        refine RunsI.region (by kernel_rfl) ?_
        refine RegI.pure 2 [2, 3] [(2, .int .i64 5), (3, .int .i64 0)] (by kernel_rfl) ?_
        refine RegI.done (by kernel_rfl) ?_
        refine RunsI.ret (.tuple #[.int .i64 5, .int .i64 0]) (by kernel_rfl) (by kernel_rfl) ?_
        obtain rfl := Option.some.inj h
        exact ⟨rfl, h0.below⟩
      · skip
        refine RunsI.fix 18 false hc3 (by kernel_rfl) (by kernel_rfl) ?_
        refine RunsI.cond false 24 (by kernel_rfl) ?_
        refine RunsI.go 1 [.c 25, .c 26, .blk 0, .c 31] (by kernel_rfl) ?_
        refine RunsI.region (by kernel_rfl) ?_
        refine RegI.pure 3 [21] [(21, .bool ((IntKind.wrap .i64 p0) == 15))] (by kernel_rfl) ?_
        refine RegI.done (by kernel_rfl) ?_
        rcases of_cond h with ⟨hc4, h⟩ | ⟨hc4, h⟩
        · skip
          refine RunsI.fix 21 true hc4 (by kernel_rfl) (by kernel_rfl) ?_
          refine RunsI.cond true 27 (by kernel_rfl) ?_
          refine RunsI.go 1 [.c 28, .c 29, .blk 0, .c 31] (by kernel_rfl) ?_
          refine RunsI.region (by kernel_rfl) ?_
          refine RegI.pure 2 [2, 3] [(2, .int .i64 6), (3, .int .i64 0)] (by kernel_rfl) ?_
          refine RegI.done (by kernel_rfl) ?_
          refine RunsI.ret (.tuple #[.int .i64 6, .int .i64 0]) (by kernel_rfl) (by kernel_rfl) ?_
          obtain rfl := Option.some.inj h
          exact ⟨rfl, h0.below⟩
        · skip
          refine RunsI.fix 21 false hc4 (by kernel_rfl) (by kernel_rfl) ?_
          refine RunsI.cond false 30 (by kernel_rfl) ?_
          refine RunsI.go 1 [.blk 0, .c 31] (by kernel_rfl) ?_
          refine RunsI.go 2 [.c 32, .c 33] (by kernel_rfl) ?_
          refine RunsI.region (by kernel_rfl) ?_
          refine RegI.pure 2 [2, 3] [(2, .int .i64 0), (3, .int .i64 0)] (by kernel_rfl) ?_
          refine RegI.done (by kernel_rfl) ?_
          refine RunsI.ret (.tuple #[.int .i64 0, .int .i64 0]) (by kernel_rfl) (by kernel_rfl) ?_
          obtain rfl := Option.some.inj h
          exact ⟨rfl, h0.below⟩
end

/-! ### charabanc/charabancref20.Port (function 10) -/
section
def charabancref20_Port_10.post (M0 : Nat → Prop) (w0 : World) (r : Int × Bool) : Ending → World → Prop := fun e w => e = .returned (.tuple #[.int .u8 r.1, .bool r.2]) ∧ Below w0.heap.size w0 w
def charabancref20_Port_10.l0 (K : Nat) (p0 : Int) (p1 : Int) : Nat → Int → Option (Lp Int Unit)
  | 0, _ => none
  | k + 1, t1 => cond (decide (t1 < 256)) ((charabancref20_Device_8.f K (IntKind.wrap .u8 t1)).bind fun yt7 => Let (fun (t11 : Bool) => cond t11 (some (Lp.ret (IntKind.wrap .u8 t1))) (charabancref20_Port_10.l0 K p0 p1 k (IntKind.wrap .i64 (t1 + 1)))) (fun j14 => cond (yt7.1 == p0) (cond (yt7.2 == p1) (j14 (yt7.1 != 0)) (j14 false)) (j14 false))) (some (Lp.go ()))
set_option maxRecDepth 100000 in
theorem charabancref20_Port_10.l0_ok (K : Nat) (M0 : Nat → Prop) (w0 : World) (p0 : Int) (p1 : Int) (R : Ending → World → Prop) (x : Lp Int Unit) (hk0 : ∀ (w1 : World), x = Lp.go () → Holds M0 w0 w1 [] → RunsI F10 [.c 25] [] w1 R) (hk1 : ∀ (t18 : Int) (w1 : World), x = Lp.ret t18 → Holds M0 w0 w1 [] → R (.returned (.tuple #[.int .u8 t18, .bool true])) w1) :
    ∀ (k : Nat) (t1 : Int) (w : World), charabancref20_Port_10.l0 K p0 p1 k t1 = some x → Holds M0 w0 w [] → RunsI F10 [.c 7, .lp 7, .blk 0, .c 25] [(0, .int .i64 p0), (1, .int .i64 p1), (6, .int .i64 t1)] w R := by
  intro k
  induction k with
  | zero => intro t1 w h hH; exact absurd h (by simp [charabancref20_Port_10.l0])
  | succ k ih =>
    intro t1 w h hH
    rw [charabancref20_Port_10.l0.eq_2] at h
    refine RunsI.go 1 [.c 8, .c 13, .lp 7, .blk 0, .c 25] (by kernel_rfl) ?_
    refine RunsI.go 1 [.c 9, .c 10, .c 13, .lp 7, .blk 0, .c 25] (by kernel_rfl) ?_
    refine RunsI.region (by kernel_rfl) ?_
    refine RegI.pure 2 [0, 1, 6, 10] [(0, .int .i64 p0), (1, .int .i64 p1), (6, .int .i64 t1), (10, .bool (decide (t1 < 256)))] (by kernel_rfl) ?_
    refine RegI.done (by kernel_rfl) ?_
    rcases of_cond h with ⟨hc2, h⟩ | ⟨hc2, h⟩
    · skip
      refine RunsI.fix 10 true hc2 (by kernel_rfl) (by kernel_rfl) ?_
      refine RunsI.cond true 11 (by kernel_rfl) ?_
      refine RunsI.go 1 [.c 13, .lp 7, .blk 0, .c 25] (by kernel_rfl) ?_
      refine RunsI.go 3 [.c 16, .c 17, .blk 1, .c 24, .lp 7, .blk 0, .c 25] (by kernel_rfl) ?_
      refine RunsI.region (by kernel_rfl) ?_
      refine RegI.pure 2 [0, 1, 6, 15] [(0, .int .i64 p0), (1, .int .i64 p1), (6, .int .i64 t1), (15, .int .u8 (IntKind.wrap .u8 t1))] (by kernel_rfl) ?_
      obtain ⟨⟨t7, t8⟩, hg6, h⟩ := of_bind h
      dsimp only at h
      refine RegI.op (by kernel_rfl) (OpE.call 16 (by kernel_rfl) 8 #[.int .u8 (IntKind.wrap .u8 t1)] (by kernel_rfl) ((charabancref20_Device_8_ok K _ w  (IntKind.wrap .u8 t1) hH.old' hg6).mono ?_))
      rintro _ w3 ⟨rfl, hb4⟩
      refine ⟨_, rfl, ?_⟩
      have h5 := hH.call hb4
      refine RegI.pure 5 [0, 1, 6, 7, 8] [(0, .int .i64 p0), (1, .int .i64 p1), (6, .int .i64 t1), (7, .int .i64 t7), (8, .int .i64 t8)] (by kernel_rfl) ?_
      refine RegI.done (by kernel_rfl) ?_
      refine RunsI.go 1 [.c 18, .c 19, .blk 1, .c 24, .lp 7, .blk 0, .c 25] (by kernel_rfl) ?_
      refine RunsI.region (by kernel_rfl) ?_
      refine RegI.pure 4 [0, 1, 6, 7, 8, 22] [(0, .int .i64 p0), (1, .int .i64 p1), (6, .int .i64 t1), (7, .int .i64 t7), (8, .int .i64 t8), (22, .bool (t7 == p0))] (by kernel_rfl) ?_
      obtain ⟨j14, hJ15, h⟩ := of_let h
      have hj16 : ∀ (t11 : Bool) (w13 : World), j14 t11 = some x → Holds M0 w0 w13 [] → RegI F10 18 [.c 19, .blk 1, .c 24, .lp 7, .blk 0, .c 25] 12 [(0, .int .i64 p0), (1, .int .i64 p1), (6, .int .i64 t1), (30, .bool t11)] w13 R := by
        intro t11 w13 h h12
        rw [hJ15] at h
        clear hJ15
        dsimp only at h
        refine RegI.done (by kernel_rfl) ?_
        rcases of_cond h with ⟨hc17, h⟩ | ⟨hc17, h⟩
        · skip
          refine RunsI.fix 30 true hc17 (by kernel_rfl) (by kernel_rfl) ?_
          refine RunsI.cond true 20 (by kernel_rfl) ?_
          refine RunsI.go 1 [.c 21, .c 22, .blk 1, .c 24, .lp 7, .blk 0, .c 25] (by kernel_rfl) ?_
          refine RunsI.region (by kernel_rfl) ?_
          refine RegI.pure 4 [4, 5] [(4, .int .u8 (IntKind.wrap .u8 t1)), (5, .bool true)] (by kernel_rfl) ?_
          refine RegI.done (by kernel_rfl) ?_
          refine RunsI.ret (.tuple #[.int .u8 (IntKind.wrap .u8 t1), .bool true]) (by kernel_rfl) (by kernel_rfl) ?_
          exact hk1 (IntKind.wrap .u8 t1) w13 (Option.some.inj h).symm (h12.pick [] (by decide))
        · skip
          refine RunsI.fix 30 false hc17 (by kernel_rfl) (by kernel_rfl) ?_
          refine RunsI.cond false 23 (by kernel_rfl) ?_
          refine RunsI.go 1 [.blk 1, .c 24, .lp 7, .blk 0, .c 25] (by kernel_rfl) ?_
          refine RunsI.go 1 [.c 24, .lp 7, .blk 0, .c 25] (by kernel_rfl) ?_
          refine RunsI.region (by kernel_rfl) ?_
          refine RegI.pure 3 [0, 1, 6] [(0, .int .i64 p0), (1, .int .i64 p1), (6, .int .i64 (IntKind.wrap .i64 (t1 + 1)))] (by kernel_rfl) ?_
          refine RegI.done (by kernel_rfl) ?_
          refine RunsI.go 1 [.c 7, .lp 7, .blk 0, .c 25] (by kernel_rfl) ?_
          refine RunsI.only [0, 1, 6] [(0, .int .i64 p0), (1, .int .i64 p1), (6, .int .i64 (IntKind.wrap .i64 (t1 + 1)))] (by kernel_rfl) (by kernel_rfl) ?_
          exact ih (IntKind.wrap .i64 (t1 + 1)) w13 h (h12.pick [] (by decide))
      clear hJ15
      rcases of_cond h with ⟨hc9, h⟩ | ⟨hc9, h⟩
      · skip
        refine RegI.fix 22 true hc9 (by kernel_rfl) (by kernel_rfl) ?_
        refine RegI.pure 5 [0, 1, 6, 7, 23, 24, 25, 27] [(0, .int .i64 p0), (1, .int .i64 p1), (6, .int .i64 t1), (7, .int .i64 t7), (23, .int .i64 t8), (24, .int .i64 p1), (25, .bool (t8 == p1)), (27, .bool (t8 == p1))] (by kernel_rfl) ?_
        rcases of_cond h with ⟨hc10, h⟩ | ⟨hc10, h⟩
        · skip
          refine RegI.fix 27 true hc10 (by kernel_rfl) (by kernel_rfl) ?_
          refine RegI.pure 3 [0, 1, 6, 23, 24, 25, 28, 29, 30] [(0, .int .i64 p0), (1, .int .i64 p1), (6, .int .i64 t1), (23, .int .i64 t8), (24, .int .i64 p1), (25, .bool (t8 == p1)), (28, .int .i64 t7), (29, .bool (t7 != 0)), (30, .bool (t7 != 0))] (by kernel_rfl) ?_
          refine RegI.only [0, 1, 6, 30] [(0, .int .i64 p0), (1, .int .i64 p1), (6, .int .i64 t1), (30, .bool (t7 != 0))] (by kernel_rfl) (by kernel_rfl) ?_
          exact hj16 (t7 != 0) w3 h (h5.pick [] (by decide))
        · skip
          refine RegI.fix 27 false hc10 (by kernel_rfl) (by kernel_rfl) ?_
          refine RegI.pure 3 [0, 1, 6, 23, 24, 25, 28, 29, 30] [(0, .int .i64 p0), (1, .int .i64 p1), (6, .int .i64 t1), (23, .int .i64 t8), (24, .int .i64 p1), (25, .bool (t8 == p1)), (28, undef), (29, undef), (30, .bool false)] (by kernel_rfl) ?_
          refine RegI.only [0, 1, 6, 30] [(0, .int .i64 p0), (1, .int .i64 p1), (6, .int .i64 t1), (30, .bool false)] (by kernel_rfl) (by kernel_rfl) ?_
          exact hj16 false w3 h (h5.pick [] (by decide))
      · skip
        refine RegI.fix 22 false hc9 (by kernel_rfl) (by kernel_rfl) ?_
        refine RegI.pure 8 [0, 1, 6, 23, 24, 25, 28, 29, 30] [(0, .int .i64 p0), (1, .int .i64 p1), (6, .int .i64 t1), (23, undef), (24, undef), (25, undef), (28, undef), (29, undef), (30, .bool false)] (by kernel_rfl) ?_
        refine RegI.only [0, 1, 6, 30] [(0, .int .i64 p0), (1, .int .i64 p1), (6, .int .i64 t1), (30, .bool false)] (by kernel_rfl) (by kernel_rfl) ?_
        exact hj16 false w3 h (h5.pick [] (by decide))
    · skip
      refine RunsI.fix 10 false hc2 (by kernel_rfl) (by kernel_rfl) ?_
      refine RunsI.cond false 12 (by kernel_rfl) ?_
      refine RunsI.go 1 [.c 25] (by kernel_rfl) ?_
      refine RunsI.only [] [] (by kernel_rfl) (by kernel_rfl) ?_
      exact hk0 w (Option.some.inj h).symm (hH.pick [] (by decide))
def charabancref20_Port_10.f (K : Nat) (p0 : Int) (p1 : Int) : Option (Int × Bool) := (charabancref20_Port_10.l0 K p0 p1 K 0).bind (fun x19 => Lp.elim x19 (fun t23 => some (t23, true)) (fun _ => some (0, false)))
set_option maxRecDepth 100000 in
theorem charabancref20_Port_10_ok (K : Nat) (M0 : Nat → Prop) (w0 : World) (p0 : Int) (p1 : Int) (ho : ∀ b, M0 b → b < w0.heap.size) {r : Int × Bool} (h : charabancref20_Port_10.f K p0 p1 = some r) :
    Calls Tryd.prog 10 #[.int .i64 p0, .int .i64 p1] w0 (charabancref20_Port_10.post M0 w0 r) := by
  unfold charabancref20_Port_10.f at h
  have h0 : Holds M0 w0 w0 [] := Holds.start ho
  have h0 : Holds M0 w0 w0 [] := h0
  refine calls_of F10 rfl [.int .i64 p0, .int .i64 p1] (by kernel_rfl) ?_
  refine RunsI.go 1 [.c 1, .c 2] (by kernel_rfl) ?_
  refine RunsI.region (by kernel_rfl) ?_
  refine RegI.pure 2 [0, 1] [(0, .int .i64 p0), (1, .int .i64 p1)] (by kernel_rfl) ?_
  refine RegI.done (by kernel_rfl) ?_
  refine RunsI.go 2 [.c 4, .c 5, .c 25] (by kernel_rfl) ?_
  refine RunsI.region (by kernel_rfl) ?_
  refine RegI.pure 1 [0, 1, 6] [(0, .int .i64 p0), (1, .int .i64 p1), (6, .int .i64 0)] (by kernel_rfl) ?_
  refine RegI.done (by kernel_rfl) ?_
  refine RunsI.go 2 [.c 7, .lp 7, .blk 0, .c 25] (by kernel_rfl) ?_
  obtain ⟨x19, hx20, h⟩ := of_bind h
  refine RunsI.only [0, 1, 6] [(0, .int .i64 p0), (1, .int .i64 p1), (6, .int .i64 0)] (by kernel_rfl) (by kernel_rfl) ?_
  refine charabancref20_Port_10.l0_ok K M0 w0 p0 p1 _ x19 ?_ ?_ K 0 w0 hx20 (h0.pick [] (by decide))
  · intro w22 hq26 h21
    (try rw [hq26] at h)
    dsimp only [Lp.elim] at h
    refine RunsI.go 1 [.c 26, .c 27] (by kernel_rfl) ?_
    refine RunsI.region (by kernel_rfl) ?_
    refine RegI.pure 2 [4, 5] [(4, .int .u8 0), (5, .bool false)] (by kernel_rfl) ?_
    refine RegI.done (by kernel_rfl) ?_
    refine RunsI.ret (.tuple #[.int .u8 0, .bool false]) (by kernel_rfl) (by kernel_rfl) ?_
    obtain rfl := Option.some.inj h
    exact ⟨rfl, h21.below⟩
  · intro t23 w25 hq27 h24
    (try rw [hq27] at h)
    dsimp only [Lp.elim] at h
    obtain rfl := Option.some.inj h
    exact ⟨rfl, h24.below⟩
end

/-! ### charabanc/charabancref20.Read (function 15) -/
section
def charabancref20_Read_15.post (M0 : Nat → Prop) (w0 : World) (r : Bool × Int × Int) : Ending → World → Prop := fun e w => e = .returned (.tuple #[.agg #[.bool r.1, .int .i64 r.2.1], .int .u8 r.2.2]) ∧ Below w0.heap.size w0 w
def charabancref20_Read_15.f (K : Nat) (p0_0 : Bool) (p0_1 : Int) (p1 : Int) : Option (Bool × Int × Int) := cond p0_0 (some (p0_0, p0_1, 255)) (some (true, p1, 0))
set_option maxRecDepth 100000 in
theorem charabancref20_Read_15_ok (K : Nat) (M0 : Nat → Prop) (w0 : World) (p0_0 : Bool) (p0_1 : Int) (p1 : Int) (ho : ∀ b, M0 b → b < w0.heap.size) {r : Bool × Int × Int} (h : charabancref20_Read_15.f K p0_0 p0_1 p1 = some r) :
    Calls Tryd.prog 15 #[.agg #[.bool p0_0, .int .i64 p0_1], .int .i64 p1] w0 (charabancref20_Read_15.post M0 w0 r) := by
  unfold charabancref20_Read_15.f at h
  have h0 : Holds M0 w0 w0 [] := Holds.start ho
  have h0 : Holds M0 w0 w0 [] := h0
  refine calls_of F15 rfl [.agg #[.bool p0_0, .int .i64 p0_1], .int .i64 p1] (by kernel_rfl) ?_
  refine RunsI.go 1 [.c 1, .c 2] (by kernel_rfl) ?_
  refine RunsI.region (by kernel_rfl) ?_
  refine RegI.op (by kernel_rfl) (OpE.box 2 34 [.bool p0_0, .int .i64 p0_1] h0 (by kernel_rfl) (by kernel_rfl) ?_)
  intro w1 b2 h3 hb4 hn5
  refine RegI.op (by kernel_rfl) (OpE.box 4 34 [.bool false, .int .i64 0] h3 (by kernel_rfl) (by kernel_rfl) ?_)
  intro w6 b7 h8 hb9 hn10
  refine RegI.pure 1 [1, 2, 4] [(1, .int .i64 p1), (2, .pointer (some ⟨b2, 0, none⟩)), (4, .pointer (some ⟨b7, 0, none⟩))] (by kernel_rfl) ?_
  refine RegI.done (by kernel_rfl) ?_
  refine RunsI.go 2 [.c 4, .c 5, .c 10] (by kernel_rfl) ?_
  refine RunsI.region (by kernel_rfl) ?_
  refine RegI.pure 1 [1, 2, 4, 6] [(1, .int .i64 p1), (2, .pointer (some ⟨b2, 0, none⟩)), (4, .pointer (some ⟨b7, 0, none⟩)), (6, .pointer (some ⟨b2, 0, none⟩))] (by kernel_rfl) ?_
  refine RegI.op (by kernel_rfl) (OpE.loadBox 7 0 4 b2 0 (.bool p0_0) h8 (by kernel_rfl) (by kernel_rfl) rfl (by kernel_rfl) ?_)
  refine RegI.done (by kernel_rfl) ?_
  rcases of_cond h with ⟨hc11, h⟩ | ⟨hc11, h⟩
  · skip
    refine RunsI.fix 7 true hc11 (by kernel_rfl) (by kernel_rfl) ?_
    refine RunsI.cond true 6 (by kernel_rfl) ?_
    refine RunsI.go 1 [.c 7, .c 8, .c 10] (by kernel_rfl) ?_
    refine RunsI.region (by kernel_rfl) ?_
    refine RegI.op (by kernel_rfl) (OpE.loadBox 8 0 34 b2 0 (.agg #[.bool p0_0, .int .i64 p0_1]) h8 (by kernel_rfl) (by kernel_rfl) rfl (by kernel_rfl) ?_)
    refine RegI.op (by kernel_rfl) (OpE.storeBox 1 34 b7 0 (.agg #[.bool p0_0, .int .i64 p0_1]) [.bool p0_0, .int .i64 p0_1] h8 (by kernel_rfl) (by kernel_rfl) rfl (by kernel_rfl) (by kernel_rfl) (by kernel_rfl) ?_)
    intro w12 h13 hk14
    refine RegI.pure 1 [4, 5] [(4, .pointer (some ⟨b7, 0, none⟩)), (5, .int .u8 255)] (by kernel_rfl) ?_
    refine RegI.done (by kernel_rfl) ?_
    refine RunsI.retW [.cell 4 34, .tmp 5] [.agg #[.bool p0_0, .int .i64 p0_1], .int .u8 255] (.tuple #[.agg #[.bool p0_0, .int .i64 p0_1], .int .u8 255]) (by kernel_rfl) (by kernel_rfl) (ResAt.box 1 34 b7 0 h13 (by kernel_rfl) (by kernel_rfl) rfl (by kernel_rfl) (ResAt.tmp (by kernel_rfl) (by kernel_rfl) rfl)) (by kernel_rfl) ?_
    obtain rfl := Option.some.inj h
    exact ⟨rfl, h13.below⟩
  · skip
    refine RunsI.fix 7 false hc11 (by kernel_rfl) (by kernel_rfl) ?_
    refine RunsI.cond false 9 (by kernel_rfl) ?_
    refine RunsI.go 1 [.c 10] (by kernel_rfl) ?_
    refine RunsI.go 1 [.c 11, .c 12] (by kernel_rfl) ?_
    refine RunsI.region (by kernel_rfl) ?_
    refine RegI.pure 2 [4, 10] [(4, .pointer (some ⟨b7, 0, none⟩)), (10, .agg #[.bool true, .int .i64 p1])] (by kernel_rfl) ?_
    refine RegI.op (by kernel_rfl) (OpE.storeBox 1 34 b7 0 (.agg #[.bool true, .int .i64 p1]) [.bool true, .int .i64 p1] h8 (by kernel_rfl) (by kernel_rfl) rfl (by kernel_rfl) (by kernel_rfl) (by kernel_rfl) ?_)
    intro w15 h16 hk17
    refine RegI.pure 1 [4, 5] [(4, .pointer (some ⟨b7, 0, none⟩)), (5, .int .u8 0)] (by kernel_rfl) ?_
    refine RegI.done (by kernel_rfl) ?_
    refine RunsI.retW [.cell 4 34, .tmp 5] [.agg #[.bool true, .int .i64 p1], .int .u8 0] (.tuple #[.agg #[.bool true, .int .i64 p1], .int .u8 0]) (by kernel_rfl) (by kernel_rfl) (ResAt.box 1 34 b7 0 h16 (by kernel_rfl) (by kernel_rfl) rfl (by kernel_rfl) (ResAt.tmp (by kernel_rfl) (by kernel_rfl) rfl)) (by kernel_rfl) ?_
    obtain rfl := Option.some.inj h
    exact ⟨rfl, h16.below⟩
end

/-! ### charabanc/charabancref20.Write (function 17) -/
section
def charabancref20_Write_17.post (M0 : Nat → Prop) (w0 : World) (r : Bool × Int) : Ending → World → Prop := fun e w => e = .returned (.agg #[.bool r.1, .int .i64 r.2]) ∧ Below w0.heap.size w0 w
def charabancref20_Write_17.f (K : Nat) (p0_0 : Bool) (p0_1 : Int) (p1 : Int) : Option (Bool × Int) := cond ((Int.tmod p1 2) == 0) (some (false, 0)) (some (p0_0, p0_1))
set_option maxRecDepth 100000 in
theorem charabancref20_Write_17_ok (K : Nat) (M0 : Nat → Prop) (w0 : World) (p0_0 : Bool) (p0_1 : Int) (p1 : Int) (ho : ∀ b, M0 b → b < w0.heap.size) {r : Bool × Int} (h : charabancref20_Write_17.f K p0_0 p0_1 p1 = some r) :
    Calls Tryd.prog 17 #[.agg #[.bool p0_0, .int .i64 p0_1], .int .u8 p1] w0 (charabancref20_Write_17.post M0 w0 r) := by
  unfold charabancref20_Write_17.f at h
  have h0 : Holds M0 w0 w0 [] := Holds.start ho
  have h0 : Holds M0 w0 w0 [] := h0
  refine calls_of F17 rfl [.agg #[.bool p0_0, .int .i64 p0_1], .int .u8 p1] (by kernel_rfl) ?_
  refine RunsI.go 1 [.c 1, .c 2] (by kernel_rfl) ?_
  refine RunsI.region (by kernel_rfl) ?_
  refine RegI.op (by kernel_rfl) (OpE.box 2 34 [.bool p0_0, .int .i64 p0_1] h0 (by kernel_rfl) (by kernel_rfl) ?_)
  intro w1 b2 h3 hb4 hn5
  refine RegI.op (by kernel_rfl) (OpE.box 4 34 [.bool false, .int .i64 0] h3 (by kernel_rfl) (by kernel_rfl) ?_)
  intro w6 b7 h8 hb9 hn10
  refine RegI.done (by kernel_rfl) ?_
  refine RunsI.go 2 [.c 4, .c 5, .c 10] (by kernel_rfl) ?_
  refine RunsI.region (by kernel_rfl) ?_
  refine RegI.pure 3 [2, 4, 7] [(2, .pointer (some ⟨b2, 0, none⟩)), (4, .pointer (some ⟨b7, 0, none⟩)), (7, .bool ((Int.tmod p1 2) == 0))] (by kernel_rfl) ?_
  refine RegI.done (by kernel_rfl) ?_
  rcases of_cond h with ⟨hc11, h⟩ | ⟨hc11, h⟩
  · skip
    refine RunsI.fix 7 true hc11 (by kernel_rfl) (by kernel_rfl) ?_
    refine RunsI.cond true 6 (by kernel_rfl) ?_
    refine RunsI.go 1 [.c 7, .c 8, .c 10] (by kernel_rfl) ?_
    refine RunsI.region (by kernel_rfl) ?_
    refine RegI.pure 1 [4, 8] [(4, .pointer (some ⟨b7, 0, none⟩)), (8, .agg #[.bool false, .int .i64 0])] (by kernel_rfl) ?_
    refine RegI.op (by kernel_rfl) (OpE.storeBox 1 34 b7 0 (.agg #[.bool false, .int .i64 0]) [.bool false, .int .i64 0] h8 (by kernel_rfl) (by kernel_rfl) rfl (by kernel_rfl) (by kernel_rfl) (by kernel_rfl) ?_)
    intro w12 h13 hk14
    refine RegI.done (by kernel_rfl) ?_
    refine RunsI.retW [.cell 4 34] [.agg #[.bool false, .int .i64 0]] (.agg #[.bool false, .int .i64 0]) (by kernel_rfl) (by kernel_rfl) (ResAt.box 1 34 b7 0 h13 (by kernel_rfl) (by kernel_rfl) rfl (by kernel_rfl) rfl) (by kernel_rfl) ?_
    obtain rfl := Option.some.inj h
    exact ⟨rfl, h13.below⟩
  · skip
    refine RunsI.fix 7 false hc11 (by kernel_rfl) (by kernel_rfl) ?_
    refine RunsI.cond false 9 (by kernel_rfl) ?_
    refine RunsI.go 1 [.c 10] (by kernel_rfl) ?_
    refine RunsI.go 1 [.c 11, .c 12] (by kernel_rfl) ?_
    refine RunsI.region (by kernel_rfl) ?_
    refine RegI.op (by kernel_rfl) (OpE.loadBox 9 0 34 b2 0 (.agg #[.bool p0_0, .int .i64 p0_1]) h8 (by kernel_rfl) (by kernel_rfl) rfl (by kernel_rfl) ?_)
    refine RegI.op (by kernel_rfl) (OpE.storeBox 1 34 b7 0 (.agg #[.bool p0_0, .int .i64 p0_1]) [.bool p0_0, .int .i64 p0_1] h8 (by kernel_rfl) (by kernel_rfl) rfl (by kernel_rfl) (by kernel_rfl) (by kernel_rfl) ?_)
    intro w15 h16 hk17
    refine RegI.done (by kernel_rfl) ?_
    refine RunsI.retW [.cell 4 34] [.agg #[.bool p0_0, .int .i64 p0_1]] (.agg #[.bool p0_0, .int .i64 p0_1]) (by kernel_rfl) (by kernel_rfl) (ResAt.box 1 34 b7 0 h16 (by kernel_rfl) (by kernel_rfl) rfl (by kernel_rfl) rfl) (by kernel_rfl) ?_
    obtain rfl := Option.some.inj h
    exact ⟨rfl, h16.below⟩
end

/-! ### charabanc/charabancref20.Play (function 12) -/
section
def charabancref20_Play_12.post (M0 : Nat → Prop) (w0 : World) (r : Bool × Int × (List Int)) : Ending → World → Prop := fun e w => ∃ (A3 : Option Addr) (c3 : Nat), e = .returned (.tuple #[.agg #[.bool r.1, .int .i64 r.2.1], .slice A3 r.2.2.length c3]) ∧ Holds M0 w0 w [own (Rp.int .u8) 5 (.slice A3 r.2.2.length c3) r.2.2]
def charabancref20_Play_12.l0 (K : Nat) (p0_0 : Bool) (p0_1 : Int) (p1 : List Int) : Nat → Bool → Int → (List Int) → Int → Option (Bool × Int × (List Int))
  | 0, _, _, _, _ => none
  | k + 1, t13, t14, t18, t19 => cond (decide (t19 < (p1.length : Int))) (cond (inR t19 p1.length) (Let (fun (yj64 : Bool × Int × (List Int)) => Let (fun (yj81 : Bool × Int) => cond (decide ((rdD p1 t19) < 0)) ((charabancref20_Write_17.f K yj81.1 yj81.2 1).bind fun yt89 => charabancref20_Play_12.l0 K p0_0 p0_1 p1 k yt89.1 yt89.2 yj64.2.2 (IntKind.wrap .i64 (t19 + 1))) (charabancref20_Play_12.l0 K p0_0 p0_1 p1 k yj81.1 yj81.2 yj64.2.2 (IntKind.wrap .i64 (t19 + 1)))) (fun j81 => cond ((rdD p1 t19) == 0) ((charabancref20_Write_17.f K yj64.1 yj64.2.1 0).bind fun yt72 => j81 (yt72.1, yt72.2)) (j81 (yj64.1, yj64.2.1)))) (fun j64 => cond (decide ((rdD p1 t19) > 0)) ((charabancref20_Read_15.f K t13 t14 (rdD p1 t19)).bind fun yt32 => cond (mayBe (t18.length + [yt32.2.2].length) 1) (j64 (yt32.1, yt32.2.1, (t18 ++ [yt32.2.2]))) none) (j64 (t13, t14, t18)))) none) (some (t13, t14, t18))
set_option maxRecDepth 100000 in
theorem charabancref20_Play_12.l0_ok (K : Nat) (M0 : Nat → Prop) (w0 : World) (pA1 : Option Addr) (pc1 : Nat) (p0_0 : Bool) (p0_1 : Int) (p1 : List Int) (b12 : Nat) (b15 : Nat) (R : Ending → World → Prop) (x : Bool × Int × (List Int)) (hk0 : ∀ (t94 : Bool) (t95 : Int) (t98 : List Int) (A96 : Option Addr) (c97 : Nat) (w1 : World), x = (t94, t95, t98) → Holds M0 w0 w1 [box b12 34 [.bool t94, .int .i64 t95], box b15 34 [.bool false, .int .i64 0], own (Rp.int .u8) 5 (.slice A96 t98.length c97) t98] → RunsI F12 [.c 41] [(2, .pointer (some ⟨b12, 0, none⟩)), (4, .pointer (some ⟨b15, 0, none⟩)), (6, .slice A96 t98.length c97)] w1 R) :
    ∀ (k : Nat) (t13 : Bool) (t14 : Int) (t18 : List Int) (t19 : Int) (A16 : Option Addr) (c17 : Nat) (w : World), charabancref20_Play_12.l0 K p0_0 p0_1 p1 k t13 t14 t18 t19 = some x → Holds M0 w0 w [sl (Rp.int .i64) (.slice pA1 p1.length pc1) p1, box b12 34 [.bool t13, .int .i64 t14], box b15 34 [.bool false, .int .i64 0], own (Rp.int .u8) 5 (.slice A16 t18.length c17) t18] → RunsI F12 [.c 9, .lp 9, .blk 0, .c 41] [(1, .slice pA1 p1.length pc1), (2, .pointer (some ⟨b12, 0, none⟩)), (4, .pointer (some ⟨b15, 0, none⟩)), (6, .slice A16 t18.length c17), (7, .int .i64 t19)] w R := by
  intro k
  induction k with
  | zero => intro t13 t14 t18 t19 A16 c17 w h hH; exact absurd h (by simp [charabancref20_Play_12.l0])
  | succ k ih =>
    intro t13 t14 t18 t19 A16 c17 w h hH
    rw [charabancref20_Play_12.l0.eq_2] at h
    refine RunsI.go 1 [.c 10, .c 15, .lp 9, .blk 0, .c 41] (by kernel_rfl) ?_
    refine RunsI.go 1 [.c 11, .c 12, .c 15, .lp 9, .blk 0, .c 41] (by kernel_rfl) ?_
    refine RunsI.region (by kernel_rfl) ?_
    refine RegI.pure 4 [1, 2, 4, 6, 7, 14] [(1, .slice pA1 p1.length pc1), (2, .pointer (some ⟨b12, 0, none⟩)), (4, .pointer (some ⟨b15, 0, none⟩)), (6, .slice A16 t18.length c17), (7, .int .i64 t19), (14, .bool (decide (t19 < (p1.length : Int))))] (by kernel_rfl) ?_
    refine RegI.done (by kernel_rfl) ?_
    rcases of_cond h with ⟨hc20, h⟩ | ⟨hc20, h⟩
    · skip
      refine RunsI.fix 14 true hc20 (by kernel_rfl) (by kernel_rfl) ?_
      refine RunsI.cond true 13 (by kernel_rfl) ?_
      refine RunsI.go 1 [.c 15, .lp 9, .blk 0, .c 41] (by kernel_rfl) ?_
      refine RunsI.go 3 [.c 18, .c 19, .blk 1, .c 40, .lp 9, .blk 0, .c 41] (by kernel_rfl) ?_
      refine RunsI.region (by kernel_rfl) ?_
      refine RegI.pure 2 [1, 2, 4, 6, 7, 17, 18] [(1, .slice pA1 p1.length pc1), (2, .pointer (some ⟨b12, 0, none⟩)), (4, .pointer (some ⟨b15, 0, none⟩)), (6, .slice A16 t18.length c17), (7, .int .i64 t19), (17, .slice pA1 p1.length pc1), (18, .int .i64 t19)] (by kernel_rfl) ?_
      obtain ⟨hc21, h⟩ := of_cond0 h
      refine RegI.op (by kernel_rfl) (OpE.idxSl 19 0 30 t19 hH (by kernel_rfl) rfl (by kernel_rfl) (by kernel_rfl) hc21 ?_)
      intro b22 o23 cs24 hk25 h26
      obtain rfl := hk25
      refine RegI.op (by kernel_rfl) (OpE.loadCel 20 4 3 b22 o23 0 (.int .i64 (rdD p1 t19)) h26 (by kernel_rfl) (by kernel_rfl) rfl (by kernel_rfl) ?_)
      refine RegI.pure 1 [1, 2, 4, 6, 7, 8] [(1, .slice pA1 p1.length pc1), (2, .pointer (some ⟨b12, 0, none⟩)), (4, .pointer (some ⟨b15, 0, none⟩)), (6, .slice A16 t18.length c17), (7, .int .i64 t19), (8, .int .i64 (rdD p1 t19))] (by kernel_rfl) ?_
      refine RegI.done (by kernel_rfl) ?_
      refine RunsI.go 2 [.c 21, .c 22, .c 29, .blk 1, .c 40, .lp 9, .blk 0, .c 41] (by kernel_rfl) ?_
      refine RunsI.region (by kernel_rfl) ?_
      refine RegI.pure 2 [1, 2, 4, 6, 7, 8, 22] [(1, .slice pA1 p1.length pc1), (2, .pointer (some ⟨b12, 0, none⟩)), (4, .pointer (some ⟨b15, 0, none⟩)), (6, .slice A16 t18.length c17), (7, .int .i64 t19), (8, .int .i64 (rdD p1 t19)), (22, .bool (decide ((rdD p1 t19) > 0)))] (by kernel_rfl) ?_
      refine RegI.done (by kernel_rfl) ?_
      obtain ⟨j64, hJ65, h⟩ := of_let h
      have hj66 : ∀ (t57 : Bool) (t58 : Int) (t61 : List Int) (A59 : Option Addr) (c60 : Nat) (w63 : World), j64 (t57, t58, t61) = some x → Holds M0 w0 w63 [sl (Rp.int .i64) (.slice pA1 p1.length pc1) p1, box b12 34 [.bool t57, .int .i64 t58], box b15 34 [.bool false, .int .i64 0], own (Rp.int .u8) 5 (.slice A59 t61.length c60) t61] → RunsI F12 [.c 29, .blk 1, .c 40, .lp 9, .blk 0, .c 41] [(1, .slice pA1 p1.length pc1), (2, .pointer (some ⟨b12, 0, none⟩)), (4, .pointer (some ⟨b15, 0, none⟩)), (6, .slice A59 t61.length c60), (7, .int .i64 t19), (8, .int .i64 (rdD p1 t19))] w63 R := by
        intro t57 t58 t61 A59 c60 w63 h h62
        rw [hJ65] at h
        clear hJ65
        dsimp only at h
        refine RunsI.go 2 [.c 31, .c 32, .c 35, .blk 1, .c 40, .lp 9, .blk 0, .c 41] (by kernel_rfl) ?_
        refine RunsI.region (by kernel_rfl) ?_
        refine RegI.pure 2 [1, 2, 4, 6, 7, 8, 35] [(1, .slice pA1 p1.length pc1), (2, .pointer (some ⟨b12, 0, none⟩)), (4, .pointer (some ⟨b15, 0, none⟩)), (6, .slice A59 t61.length c60), (7, .int .i64 t19), (8, .int .i64 (rdD p1 t19)), (35, .bool ((rdD p1 t19) == 0))] (by kernel_rfl) ?_
        refine RegI.done (by kernel_rfl) ?_
        obtain ⟨j81, hJ82, h⟩ := of_let h
        have hj83 : ∀ (t77 : Bool) (t78 : Int) (w80 : World), j81 (t77, t78) = some x → Holds M0 w0 w80 [sl (Rp.int .i64) (.slice pA1 p1.length pc1) p1, box b12 34 [.bool t77, .int .i64 t78], box b15 34 [.bool false, .int .i64 0], own (Rp.int .u8) 5 (.slice A59 t61.length c60) t61] → RunsI F12 [.c 35, .blk 1, .c 40, .lp 9, .blk 0, .c 41] [(1, .slice pA1 p1.length pc1), (2, .pointer (some ⟨b12, 0, none⟩)), (4, .pointer (some ⟨b15, 0, none⟩)), (6, .slice A59 t61.length c60), (7, .int .i64 t19), (8, .int .i64 (rdD p1 t19))] w80 R := by
          intro t77 t78 w80 h h79
          rw [hJ82] at h
          clear hJ82
          dsimp only at h
          refine RunsI.go 1 [.c 36, .c 37, .blk 1, .c 40, .lp 9, .blk 0, .c 41] (by kernel_rfl) ?_
          refine RunsI.region (by kernel_rfl) ?_
          refine RegI.pure 2 [1, 2, 4, 6, 7, 39] [(1, .slice pA1 p1.length pc1), (2, .pointer (some ⟨b12, 0, none⟩)), (4, .pointer (some ⟨b15, 0, none⟩)), (6, .slice A59 t61.length c60), (7, .int .i64 t19), (39, .bool (decide ((rdD p1 t19) < 0)))] (by kernel_rfl) ?_
          refine RegI.done (by kernel_rfl) ?_
          rcases of_cond h with ⟨hc84, h⟩ | ⟨hc84, h⟩
          · skip
            refine RunsI.fix 39 true hc84 (by kernel_rfl) (by kernel_rfl) ?_
            refine RunsI.cond true 38 (by kernel_rfl) ?_
            refine RunsI.region (by kernel_rfl) ?_
            refine RegI.op (by kernel_rfl) (OpE.loadBox 40 1 34 b12 0 (.agg #[.bool t77, .int .i64 t78]) h79 (by kernel_rfl) (by kernel_rfl) rfl (by kernel_rfl) ?_)
            obtain ⟨⟨t89, t90⟩, hg88, h⟩ := of_bind h
            dsimp only at h
            refine RegI.op (by kernel_rfl) (OpE.call 41 (by kernel_rfl) 17 #[.agg #[.bool t77, .int .i64 t78], .int .u8 1] (by kernel_rfl) ((charabancref20_Write_17_ok K _ w80  t77 t78 1 h79.old' hg88).mono ?_))
            rintro _ w85 ⟨rfl, hb86⟩
            refine ⟨_, rfl, ?_⟩
            have h87 := h79.call hb86
            refine RegI.op (by kernel_rfl) (OpE.storeBox 1 34 b12 0 (.agg #[.bool t89, .int .i64 t90]) [.bool t89, .int .i64 t90] h87 (by kernel_rfl) (by kernel_rfl) rfl (by kernel_rfl) (by kernel_rfl) (by kernel_rfl) ?_)
            intro w91 h92 hk93
            refine RegI.done (by kernel_rfl) ?_
            refine RunsI.go 1 [.c 40, .lp 9, .blk 0, .c 41] (by kernel_rfl) ?_
            refine RunsI.region (by kernel_rfl) ?_
            refine RegI.pure 3 [1, 2, 4, 6, 7] [(1, .slice pA1 p1.length pc1), (2, .pointer (some ⟨b12, 0, none⟩)), (4, .pointer (some ⟨b15, 0, none⟩)), (6, .slice A59 t61.length c60), (7, .int .i64 (IntKind.wrap .i64 (t19 + 1)))] (by kernel_rfl) ?_
            refine RegI.done (by kernel_rfl) ?_
            refine RunsI.go 1 [.c 9, .lp 9, .blk 0, .c 41] (by kernel_rfl) ?_
            refine RunsI.only [1, 2, 4, 6, 7] [(1, .slice pA1 p1.length pc1), (2, .pointer (some ⟨b12, 0, none⟩)), (4, .pointer (some ⟨b15, 0, none⟩)), (6, .slice A59 t61.length c60), (7, .int .i64 (IntKind.wrap .i64 (t19 + 1)))] (by kernel_rfl) (by kernel_rfl) ?_
            exact ih t89 t90 t61 (IntKind.wrap .i64 (t19 + 1)) A59 c60 w91 h (h92.pick [0, 1, 2, 3] (by decide))
          · skip
            refine RunsI.fix 39 false hc84 (by kernel_rfl) (by kernel_rfl) ?_
            refine RunsI.cond false 39 (by kernel_rfl) ?_
            refine RunsI.go 1 [.blk 1, .c 40, .lp 9, .blk 0, .c 41] (by kernel_rfl) ?_
            refine RunsI.go 1 [.c 40, .lp 9, .blk 0, .c 41] (by kernel_rfl) ?_
            refine RunsI.region (by kernel_rfl) ?_
            refine RegI.pure 3 [1, 2, 4, 6, 7] [(1, .slice pA1 p1.length pc1), (2, .pointer (some ⟨b12, 0, none⟩)), (4, .pointer (some ⟨b15, 0, none⟩)), (6, .slice A59 t61.length c60), (7, .int .i64 (IntKind.wrap .i64 (t19 + 1)))] (by kernel_rfl) ?_
            refine RegI.done (by kernel_rfl) ?_
            refine RunsI.go 1 [.c 9, .lp 9, .blk 0, .c 41] (by kernel_rfl) ?_
            refine RunsI.only [1, 2, 4, 6, 7] [(1, .slice pA1 p1.length pc1), (2, .pointer (some ⟨b12, 0, none⟩)), (4, .pointer (some ⟨b15, 0, none⟩)), (6, .slice A59 t61.length c60), (7, .int .i64 (IntKind.wrap .i64 (t19 + 1)))] (by kernel_rfl) (by kernel_rfl) ?_
            exact ih t77 t78 t61 (IntKind.wrap .i64 (t19 + 1)) A59 c60 w80 h (h79.pick [0, 1, 2, 3] (by decide))
        clear hJ82
        rcases of_cond h with ⟨hc67, h⟩ | ⟨hc67, h⟩
        · skip
          refine RunsI.fix 35 true hc67 (by kernel_rfl) (by kernel_rfl) ?_
          refine RunsI.cond true 33 (by kernel_rfl) ?_
          refine RunsI.region (by kernel_rfl) ?_
          refine RegI.op (by kernel_rfl) (OpE.loadBox 36 1 34 b12 0 (.agg #[.bool t57, .int .i64 t58]) h62 (by kernel_rfl) (by kernel_rfl) rfl (by kernel_rfl) ?_)
          obtain ⟨⟨t72, t73⟩, hg71, h⟩ := of_bind h
          dsimp only at h
          refine RegI.op (by kernel_rfl) (OpE.call 37 (by kernel_rfl) 17 #[.agg #[.bool t57, .int .i64 t58], .int .u8 0] (by kernel_rfl) ((charabancref20_Write_17_ok K _ w63  t57 t58 0 h62.old' hg71).mono ?_))
          rintro _ w68 ⟨rfl, hb69⟩
          refine ⟨_, rfl, ?_⟩
          have h70 := h62.call hb69
          refine RegI.op (by kernel_rfl) (OpE.storeBox 1 34 b12 0 (.agg #[.bool t72, .int .i64 t73]) [.bool t72, .int .i64 t73] h70 (by kernel_rfl) (by kernel_rfl) rfl (by kernel_rfl) (by kernel_rfl) (by kernel_rfl) ?_)
          intro w74 h75 hk76
          refine RegI.done (by kernel_rfl) ?_
          refine RunsI.only [1, 2, 4, 6, 7, 8] [(1, .slice pA1 p1.length pc1), (2, .pointer (some ⟨b12, 0, none⟩)), (4, .pointer (some ⟨b15, 0, none⟩)), (6, .slice A59 t61.length c60), (7, .int .i64 t19), (8, .int .i64 (rdD p1 t19))] (by kernel_rfl) (by kernel_rfl) ?_
          exact hj83 t72 t73 w74 h (h75.pick [0, 1, 2, 3] (by decide))
        · skip
          refine RunsI.fix 35 false hc67 (by kernel_rfl) (by kernel_rfl) ?_
          refine RunsI.cond false 34 (by kernel_rfl) ?_
          refine RunsI.go 1 [.c 35, .blk 1, .c 40, .lp 9, .blk 0, .c 41] (by kernel_rfl) ?_
          refine RunsI.only [1, 2, 4, 6, 7, 8] [(1, .slice pA1 p1.length pc1), (2, .pointer (some ⟨b12, 0, none⟩)), (4, .pointer (some ⟨b15, 0, none⟩)), (6, .slice A59 t61.length c60), (7, .int .i64 t19), (8, .int .i64 (rdD p1 t19))] (by kernel_rfl) (by kernel_rfl) ?_
          exact hj83 t57 t58 w63 h (h62.pick [0, 1, 2, 3] (by decide))
      clear hJ65
      rcases of_cond h with ⟨hc27, h⟩ | ⟨hc27, h⟩
      · skip
        refine RunsI.fix 22 true hc27 (by kernel_rfl) (by kernel_rfl) ?_
        refine RunsI.cond true 23 (by kernel_rfl) ?_
        refine RunsI.go 1 [.c 24, .c 25, .c 29, .blk 1, .c 40, .lp 9, .blk 0, .c 41] (by kernel_rfl) ?_
        refine RunsI.region (by kernel_rfl) ?_
        refine RegI.op (by kernel_rfl) (OpE.loadBox 24 1 34 b12 0 (.agg #[.bool t13, .int .i64 t14]) h26 (by kernel_rfl) (by kernel_rfl) rfl (by kernel_rfl) ?_)
        refine RegI.pure 1 [1, 2, 4, 6, 7, 8, 24, 25] [(1, .slice pA1 p1.length pc1), (2, .pointer (some ⟨b12, 0, none⟩)), (4, .pointer (some ⟨b15, 0, none⟩)), (6, .slice A16 t18.length c17), (7, .int .i64 t19), (8, .int .i64 (rdD p1 t19)), (24, .agg #[.bool t13, .int .i64 t14]), (25, .int .i64 (rdD p1 t19))] (by kernel_rfl) ?_
        obtain ⟨⟨t32, t33, t34⟩, hg31, h⟩ := of_bind h
        dsimp only at h
        refine RegI.op (by kernel_rfl) (OpE.call 26 (by kernel_rfl) 15 #[.agg #[.bool t13, .int .i64 t14], .int .i64 (rdD p1 t19)] (by kernel_rfl) ((charabancref20_Read_15_ok K _ w  t13 t14 (rdD p1 t19) h26.old' hg31).mono ?_))
        rintro _ w28 ⟨rfl, hb29⟩
        refine ⟨_, rfl, ?_⟩
        have h30 := h26.call hb29
        refine RegI.pure 3 [1, 2, 4, 6, 7, 8, 27, 28] [(1, .slice pA1 p1.length pc1), (2, .pointer (some ⟨b12, 0, none⟩)), (4, .pointer (some ⟨b15, 0, none⟩)), (6, .slice A16 t18.length c17), (7, .int .i64 t19), (8, .int .i64 (rdD p1 t19)), (27, .agg #[.bool t32, .int .i64 t33]), (28, .int .u8 t34)] (by kernel_rfl) ?_
        refine RegI.op (by kernel_rfl) (OpE.box 9 34 [.bool false, .int .i64 0] h30 (by kernel_rfl) (by kernel_rfl) ?_)
        intro w35 b36 h37 hb38 hn39
        refine RegI.op (by kernel_rfl) (OpE.storeBox 5 34 b36 0 (.agg #[.bool t32, .int .i64 t33]) [.bool t32, .int .i64 t33] h37 (by kernel_rfl) (by kernel_rfl) rfl (by kernel_rfl) (by kernel_rfl) (by kernel_rfl) ?_)
        intro w40 h41 hk42
        refine RegI.pure 1 [1, 2, 4, 6, 7, 8, 9, 10] [(1, .slice pA1 p1.length pc1), (2, .pointer (some ⟨b12, 0, none⟩)), (4, .pointer (some ⟨b15, 0, none⟩)), (6, .slice A16 t18.length c17), (7, .int .i64 t19), (8, .int .i64 (rdD p1 t19)), (9, .pointer (some ⟨b36, 0, none⟩)), (10, .int .u8 t34)] (by kernel_rfl) ?_
        refine RegI.done (by kernel_rfl) ?_
        refine RunsI.go 1 [.c 26, .c 27, .c 29, .blk 1, .c 40, .lp 9, .blk 0, .c 41] (by kernel_rfl) ?_
        refine RunsI.region (by kernel_rfl) ?_
        refine RegI.op (by kernel_rfl) (OpE.loadBox 29 5 34 b36 0 (.agg #[.bool t32, .int .i64 t33]) h41 (by kernel_rfl) (by kernel_rfl) rfl (by kernel_rfl) ?_)
        refine RegI.op (by kernel_rfl) (OpE.storeBox 1 34 b12 0 (.agg #[.bool t32, .int .i64 t33]) [.bool t32, .int .i64 t33] h41 (by kernel_rfl) (by kernel_rfl) rfl (by kernel_rfl) (by kernel_rfl) (by kernel_rfl) ?_)
        intro w43 h44 hk45
        refine RegI.done (by kernel_rfl) ?_
        refine RunsI.region (by kernel_rfl) ?_
        refine RegI.pure 2 [1, 2, 4, 7, 8, 30, 31] [(1, .slice pA1 p1.length pc1), (2, .pointer (some ⟨b12, 0, none⟩)), (4, .pointer (some ⟨b15, 0, none⟩)), (7, .int .i64 t19), (8, .int .i64 (rdD p1 t19)), (30, .slice A16 t18.length c17), (31, .int .u8 t34)] (by kernel_rfl) ?_
        refine RegI.op (by kernel_rfl) (OpE.lit 32 5 [.int .u8 t34] 1 h44 (by kernel_rfl) (by kernel_rfl) ?_)
        intro w46 b47 h48 hb49 hn50
        obtain ⟨hc51, h⟩ := of_cond0 h
        refine RegI.op (by kernel_rfl) (OpE.appendBox 33 3 6 31 5 1 [t34] 0 h48 (by kernel_rfl) (by kernel_rfl) (by kernel_rfl) rfl rfl rfl (cells_int _ _ _ _) hc51 ?_)
        intro w52 A53 c54 h55 hk56
        refine RegI.pure 1 [1, 2, 4, 6, 7, 8] [(1, .slice pA1 p1.length pc1), (2, .pointer (some ⟨b12, 0, none⟩)), (4, .pointer (some ⟨b15, 0, none⟩)), (6, .slice A53 ((t18 ++ [t34]).length) c54), (7, .int .i64 t19), (8, .int .i64 (rdD p1 t19))] (by kernel_rfl) ?_
        refine RegI.done (by kernel_rfl) ?_
        refine RunsI.only [1, 2, 4, 6, 7, 8] [(1, .slice pA1 p1.length pc1), (2, .pointer (some ⟨b12, 0, none⟩)), (4, .pointer (some ⟨b15, 0, none⟩)), (6, .slice A53 ((t18 ++ [t34]).length) c54), (7, .int .i64 t19), (8, .int .i64 (rdD p1 t19))] (by kernel_rfl) (by kernel_rfl) ?_
        exact hj66 t32 t33 (t18 ++ [t34]) A53 c54 w52 h (h55.pick [0, 1, 2, 3] (by decide))
      · skip
        refine RunsI.fix 22 false hc27 (by kernel_rfl) (by kernel_rfl) ?_
        refine RunsI.cond false 28 (by kernel_rfl) ?_
        refine RunsI.go 1 [.c 29, .blk 1, .c 40, .lp 9, .blk 0, .c 41] (by kernel_rfl) ?_
        refine RunsI.only [1, 2, 4, 6, 7, 8] [(1, .slice pA1 p1.length pc1), (2, .pointer (some ⟨b12, 0, none⟩)), (4, .pointer (some ⟨b15, 0, none⟩)), (6, .slice A16 t18.length c17), (7, .int .i64 t19), (8, .int .i64 (rdD p1 t19))] (by kernel_rfl) (by kernel_rfl) ?_
        exact hj66 t13 t14 t18 A16 c17 w h (h26.pick [0, 1, 2, 3] (by decide))
    · skip
      refine RunsI.fix 14 false hc20 (by kernel_rfl) (by kernel_rfl) ?_
      refine RunsI.cond false 14 (by kernel_rfl) ?_
      refine RunsI.go 1 [.c 41] (by kernel_rfl) ?_
      refine RunsI.only [2, 4, 6] [(2, .pointer (some ⟨b12, 0, none⟩)), (4, .pointer (some ⟨b15, 0, none⟩)), (6, .slice A16 t18.length c17)] (by kernel_rfl) (by kernel_rfl) ?_
      exact hk0 t13 t14 t18 A16 c17 w (Option.some.inj h).symm (hH.pick [1, 2, 3] (by decide))
def charabancref20_Play_12.f (K : Nat) (p0_0 : Bool) (p0_1 : Int) (p1 : List Int) : Option (Bool × Int × (List Int)) := (charabancref20_Play_12.l0 K p0_0 p0_1 p1 K p0_0 p0_1 ([] : List Int) 0).bind (fun yx99 => some (yx99.1, yx99.2.1, yx99.2.2))
set_option maxRecDepth 100000 in
theorem charabancref20_Play_12_ok (K : Nat) (M0 : Nat → Prop) (w0 : World) (pA1 : Option Addr) (pc1 : Nat) (p0_0 : Bool) (p0_1 : Int) (p1 : List Int) (ho : ∀ b, M0 b → b < w0.heap.size) (hs1 : Sl (Rp.int .i64) w0 M0 (.slice pA1 p1.length pc1) p1) {r : Bool × Int × (List Int)} (h : charabancref20_Play_12.f K p0_0 p0_1 p1 = some r) :
    Calls Tryd.prog 12 #[.agg #[.bool p0_0, .int .i64 p0_1], .slice pA1 p1.length pc1] w0 (charabancref20_Play_12.post M0 w0 r) := by
  unfold charabancref20_Play_12.f at h
  have h0 : Holds M0 w0 w0 [] := Holds.start ho
  have h01 := h0.addSl (Rp.int .i64) (.slice pA1 p1.length pc1) p1 (hs1.mono (fun _ _ hm => hm.elim id (fun hm => absurd hm (by simp [mines, sl]))))
  have h0 : Holds M0 w0 w0 [sl (Rp.int .i64) (.slice pA1 p1.length pc1) p1] := h01
  refine calls_of F12 rfl [.agg #[.bool p0_0, .int .i64 p0_1], .slice pA1 p1.length pc1] (by kernel_rfl) ?_
  refine RunsI.go 1 [.c 1, .c 2] (by kernel_rfl) ?_
  refine RunsI.region (by kernel_rfl) ?_
  refine RegI.op (by kernel_rfl) (OpE.box 2 34 [.bool p0_0, .int .i64 p0_1] h0 (by kernel_rfl) (by kernel_rfl) ?_)
  intro w1 b2 h3 hb4 hn5
  refine RegI.op (by kernel_rfl) (OpE.box 4 34 [.bool false, .int .i64 0] h3 (by kernel_rfl) (by kernel_rfl) ?_)
  intro w6 b7 h8 hb9 hn10
  refine RegI.pure 1 [1, 2, 4] [(1, .slice pA1 p1.length pc1), (2, .pointer (some ⟨b2, 0, none⟩)), (4, .pointer (some ⟨b7, 0, none⟩))] (by kernel_rfl) ?_
  refine RegI.done (by kernel_rfl) ?_
  refine RunsI.go 1 [.c 3, .c 4] (by kernel_rfl) ?_
  refine RunsI.region (by kernel_rfl) ?_
  refine RegI.pure 1 [1, 2, 4, 6] [(1, .slice pA1 p1.length pc1), (2, .pointer (some ⟨b2, 0, none⟩)), (4, .pointer (some ⟨b7, 0, none⟩)), (6, .slice none 0 0)] (by kernel_rfl) ?_
  refine RegI.done (by kernel_rfl) ?_
  refine RunsI.go 2 [.c 6, .c 7, .c 41] (by kernel_rfl) ?_
  refine RunsI.region (by kernel_rfl) ?_
  refine RegI.pure 1 [1, 2, 4, 6, 7] [(1, .slice pA1 p1.length pc1), (2, .pointer (some ⟨b2, 0, none⟩)), (4, .pointer (some ⟨b7, 0, none⟩)), (6, .slice none 0 0), (7, .int .i64 0)] (by kernel_rfl) ?_
  refine RegI.done (by kernel_rfl) ?_
  refine RunsI.go 2 [.c 9, .lp 9, .blk 0, .c 41] (by kernel_rfl) ?_
  obtain ⟨x99, hx100, h⟩ := of_bind h
  have h11 := h8.addOwnNil (Rp.int .u8) 5
  refine RunsI.only [1, 2, 4, 6, 7] [(1, .slice pA1 p1.length pc1), (2, .pointer (some ⟨b2, 0, none⟩)), (4, .pointer (some ⟨b7, 0, none⟩)), (6, .slice none (([] : List Int).length) 0), (7, .int .i64 0)] (by kernel_rfl) (by kernel_rfl) ?_
  refine charabancref20_Play_12.l0_ok K M0 w0 pA1 pc1 p0_0 p0_1 p1 b2 b7 _ x99 ?_ K p0_0 p0_1 ([] : List Int) 0 none 0 w6 hx100 (h11.pick [0, 1, 2, 3] (by decide))
  · intro t101 t102 t105 A103 c104 w107 hq111 h106
    (try rw [hq111] at h)
    dsimp only at h
    refine RunsI.go 1 [.c 42, .c 43] (by kernel_rfl) ?_
    refine RunsI.region (by kernel_rfl) ?_
    refine RegI.op (by kernel_rfl) (OpE.loadBox 42 0 34 b2 0 (.agg #[.bool t101, .int .i64 t102]) h106 (by kernel_rfl) (by kernel_rfl) rfl (by kernel_rfl) ?_)
    refine RegI.pure 1 [4, 42, 43] [(4, .pointer (some ⟨b7, 0, none⟩)), (42, .agg #[.bool t101, .int .i64 t102]), (43, .slice A103 t105.length c104)] (by kernel_rfl) ?_
    refine RegI.op (by kernel_rfl) (OpE.storeBox 1 34 b7 0 (.agg #[.bool t101, .int .i64 t102]) [.bool t101, .int .i64 t102] h106 (by kernel_rfl) (by kernel_rfl) rfl (by kernel_rfl) (by kernel_rfl) (by kernel_rfl) ?_)
    intro w108 h109 hk110
    refine RegI.pure 1 [4, 5] [(4, .pointer (some ⟨b7, 0, none⟩)), (5, .slice A103 t105.length c104)] (by kernel_rfl) ?_
    refine RegI.done (by kernel_rfl) ?_
    refine RunsI.retW [.cell 4 34, .tmp 5] [.agg #[.bool t101, .int .i64 t102], .slice A103 t105.length c104] (.tuple #[.agg #[.bool t101, .int .i64 t102], .slice A103 t105.length c104]) (by kernel_rfl) (by kernel_rfl) (ResAt.box 1 34 b7 0 h109 (by kernel_rfl) (by kernel_rfl) rfl (by kernel_rfl) (ResAt.tmp (by kernel_rfl) (by kernel_rfl) rfl)) (by kernel_rfl) ?_
    obtain rfl := Option.some.inj h
    exact ⟨A103, c104, rfl, h109.pick [2] (by decide)⟩
end

/-! ### charabanc/charabanclaw20.plain (function 13) -/
section
def charabanclaw20_plain_13.post (M0 : Nat → Prop) (w0 : World) (r : Bool × Int) : Ending → World → Prop := fun e w => e = .returned (.agg #[.bool r.1, .int .i64 r.2]) ∧ Below w0.heap.size w0 w
def charabanclaw20_plain_13.f (K : Nat) (p0_0 : Bool) (p0_1 : Int) : Option (Bool × Int) := some (p0_0, p0_1)
set_option maxRecDepth 100000 in
theorem charabanclaw20_plain_13_ok (K : Nat) (M0 : Nat → Prop) (w0 : World) (p0_0 : Bool) (p0_1 : Int) (ho : ∀ b, M0 b → b < w0.heap.size) {r : Bool × Int} (h : charabanclaw20_plain_13.f K p0_0 p0_1 = some r) :
    Calls Tryd.prog 13 #[.agg #[.bool p0_0, .int .i64 p0_1]] w0 (charabanclaw20_plain_13.post M0 w0 r) := by
  unfold charabanclaw20_plain_13.f at h
  have h0 : Holds M0 w0 w0 [] := Holds.start ho
  have h0 : Holds M0 w0 w0 [] := h0
  refine calls_of F13 rfl [.agg #[.bool p0_0, .int .i64 p0_1]] (by kernel_rfl) ?_
  refine RunsI.go 1 [.c 1, .c 2] (by kernel_rfl) ?_
  refine RunsI.region (by kernel_rfl) ?_
  refine RegI.op (by kernel_rfl) (OpE.box 1 29 [.bool p0_0, .int .i64 p0_1] h0 (by kernel_rfl) (by kernel_rfl) ?_)
  intro w1 b2 h3 hb4 hn5
  refine RegI.op (by kernel_rfl) (OpE.box 2 34 [.bool false, .int .i64 0] h3 (by kernel_rfl) (by kernel_rfl) ?_)
  intro w6 b7 h8 hb9 hn10
  refine RegI.done (by kernel_rfl) ?_
  refine RunsI.go 1 [.c 3, .c 4] (by kernel_rfl) ?_
  refine RunsI.region (by kernel_rfl) ?_
  refine RegI.pure 1 [1, 2, 3] [(1, .pointer (some ⟨b2, 0, none⟩)), (2, .pointer (some ⟨b7, 0, none⟩)), (3, .pointer (some ⟨b2, 0, none⟩))] (by kernel_rfl) ?_
  refine RegI.op (by kernel_rfl) (OpE.loadBox 4 0 4 b2 0 (.bool p0_0) h8 (by kernel_rfl) (by kernel_rfl) rfl (by kernel_rfl) ?_)
  refine RegI.pure 1 [2, 4, 5] [(2, .pointer (some ⟨b7, 0, none⟩)), (4, .bool p0_0), (5, .pointer (some ⟨b2, 1, none⟩))] (by kernel_rfl) ?_
  refine RegI.op (by kernel_rfl) (OpE.loadBox 6 0 3 b2 1 (.int .i64 p0_1) h8 (by kernel_rfl) (by kernel_rfl) rfl (by kernel_rfl) ?_)
  refine RegI.pure 1 [2, 7] [(2, .pointer (some ⟨b7, 0, none⟩)), (7, .agg #[.bool p0_0, .int .i64 p0_1])] (by kernel_rfl) ?_
  refine RegI.op (by kernel_rfl) (OpE.storeBox 1 34 b7 0 (.agg #[.bool p0_0, .int .i64 p0_1]) [.bool p0_0, .int .i64 p0_1] h8 (by kernel_rfl) (by kernel_rfl) rfl (by kernel_rfl) (by kernel_rfl) (by kernel_rfl) ?_)
  intro w11 h12 hk13
  refine RegI.done (by kernel_rfl) ?_
  refine RunsI.retW [.cell 2 34] [.agg #[.bool p0_0, .int .i64 p0_1]] (.agg #[.bool p0_0, .int .i64 p0_1]) (by kernel_rfl) (by kernel_rfl) (ResAt.box 1 34 b7 0 h12 (by kernel_rfl) (by kernel_rfl) rfl (by kernel_rfl) rfl) (by kernel_rfl) ?_
  obtain rfl := Option.some.inj h
  exact ⟨rfl, h12.below⟩
end
end Go.Proofs.YtngcadmhnbpgjaaDoor.Latch
